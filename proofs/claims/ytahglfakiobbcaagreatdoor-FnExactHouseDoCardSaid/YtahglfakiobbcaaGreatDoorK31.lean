/-
  Texts of this proof, packed (@packed).
-/
import Derived.Test.YtahglfakiobbcaaGreatDoorK3
import Derived.Test.YtahglfakiobbcaaGreatDoorK5
import Derived.Test.YtahglfakiobbcaaGreatDoorK11
import Derived.Test.YtahglfakiobbcaaGreatDoorK21
import Derived.Test.YtahglfakiobbcaaGreatDoorK23
import Derived.Test.YtahglfakiobbcaaGreatDoorK24
import Derived.Test.YtahglfakiobbcaaGreatDoorK30
namespace Go.Proofs.YtahglfakiobbcaaGreatDoor
open Go.RowKit
set_option linter.unusedVariables false
set_option linter.unusedSimpArgs false
set_option maxRecDepth 100000 in
set_option maxHeartbeats 8000000 in
theorem aC8 (w:World)(gA:Nat)(aA aB free step aE aG aD aH id slides:Int)(p:Option Addr)(n cap:Nat)(q:Option Addr)(m c2:Nat)(ys:List Int)(h0:slides<0)(hA:Hid (Blk w gA aO #[.int .i64 aA,.int .i64 aB,.slice (p) n cap,.int .i64 free,.int .i64 step,.int .i64 aE,.int .i64 aG,.int .i64 aD,.int .i64 aH,.slice (q) m c2]))
  (HS:Hid (∀w',Ext w w'→Calls Tryz.prog 79 #[aK aA aB p n cap,.int .i64 id] w' fun e w''=> ∃q c,e= .returned (.tuple #[aK aA aB q n c,.int .i64 slides])∧w''.ownsRow w'.heap.size TI 1 (.slice q n c) n (ivs ys)∧Ext w' w'')):
  Calls Tryz.prog 42 #[.pointer (some ⟨gA,0,none⟩),.int .i64 id] w fun e w'=>e= .returned (.tuple #[.int .i64 (-1),.bool false])∧Ext w w':=by
 go_enter Tryz.func42,Tryz.ntmps42
 obtain⟨a0,a1,a2,a3,a4,a5,a6,a7,a8,a9⟩:=hA.out.ten
 have hlt:=hA.out.lt
 go_wp2_with fail
 clear a0 a1 a2 a3 a4 a5 a6 a7 a8 a9
 refine(HS.out _ (Ext.refl _)).mono ?_
 rintro e w1 ⟨p1,c1,rfl,ho1,hx1⟩
 have M1:=xQ ((Mem.start w).call hx1 ho1)
 clear hx1 ho1
 have hX:=xQ M1.out.ext
 go_wp2
 exact bodyPost_ret (v:= .tuple #[.int .i64 (-1),.bool false]) (by simp[results,Tryz.results42,go_sem, *]) rfl ⟨rfl,by have:=hX.out;exact xE⟩
set_option maxRecDepth 100000 in
set_option maxHeartbeats 8000000 in
theorem zT (w0 w:World)(R:Item)(gA:Nat)(aA aB free step aE aG aD aH id slides:Int)(p:Option Addr)(n cap:Nat)(q:Option Addr)(m c2:Nat)(xs ys:List Int)(vs:List aQ)(hm:m≤900)(h0:0≤slides)(hl:Hid (vs.length=m))(hM:Hid (Mem w0 w [aJ w0.heap.size TI 1 (p) (n) (cap) (ivs (xs)),aJ w0.heap.size TV 4 (q) (m) (c2) ((vs).flatMap aC),aF w0.heap.size (gA) aO #[.int .i64 aA,.int .i64 aB,.slice (p) n cap,.int .i64 free,.int .i64 step,.int .i64 aE,.int .i64 aG,.int .i64 aD,.int .i64 aH,.slice (q) m c2],R]))
  (HS:Hid (∀w',Ext w w'→Calls Tryz.prog 79 #[aK aA aB p n cap,.int .i64 id] w' fun e w''=> ∃q c,e= .returned (.tuple #[aK aA aB q n c,.int .i64 slides])∧w''.ownsRow w'.heap.size TI 1 (.slice q n c) n (ivs ys)∧Ext w' w'')):
  Calls Tryz.prog 42 #[.pointer (some ⟨gA,0,none⟩),.int .i64 id] w fun e w'=> ∃p1 c1 q9 c9,e= .returned (.tuple #[.int .i64 slides,.bool true])∧Mem w0 w' [aJ w0.heap.size TI 1 (p1) (n) (c1) (ivs (ys)),aJ w0.heap.size TV 4 (q9) ((m+1)) (c9) ((hU (id,aD,0,aD) vs).flatMap aC),aF w0.heap.size (gA) aO #[.int .i64 aA,.int .i64 aB,.slice (p1) n c1,.int .i64 free,.int .i64 step,.int .i64 aE,.int .i64 aG,.int .i64 aD,.int .i64 aH,.slice (q9) (m+1) c9],R]:=by
 go_enter Tryz.func42,Tryz.ntmps42
 have lt0_2:gA<w.heap.size:=(hM.out.lt (i:=2) rfl rfl).2
 have a0:w.cell? ⟨gA,0,none⟩=some (.int .i64 aA):=(hM.out.blk (i:=2) rfl).cell 0
 have a1:w.cell? ⟨gA,1,none⟩=some (.int .i64 aB):=(hM.out.blk (i:=2) rfl).cell 1
 have a2:w.cell? ⟨gA,2,none⟩=some (.slice (p) n cap):=(hM.out.blk (i:=2) rfl).cell 2
 go_wp2_with fail
 clear a0 a1 a2
 refine(HS.out _ (Ext.refl _)).mono ?_
 rintro e w1 ⟨p1,c1,rfl,ho1,hx1⟩
 have M1:=xQ ((hM.out).call hx1 ho1)
 clear hM
 clear lt0_2
 have lt1_3:=M1.out.hi 3
 clear hx1 ho1
 go_upto_region 2 with fail
 obtain⟨gV,hgV⟩: ∃gV,gV=w1.heap.size:=⟨_,rfl⟩
 rw[←hgV]
 have M2:=xQ (((M1.out).blkNew TH3 #[.int .i64 aA,.int .i64 aB,.slice p1 n c1] gV hgV.symm))
 generalize World.alloc _ _=w2 at M2⊢
 clear M1
 clear lt1_3
 have lt2_0:=M2.out.hi 0
 have lt2_4:=M2.out.hi 4
 clear hgV
 have t0:decide (slides<0)=false:=by simp;omega
 obtain⟨v0,v1,v2⟩:=(M2.out.blk (i:=0) rfl).tri
 have a0:w2.cell? ⟨gA,0,none⟩=some (.int .i64 aA):=(M2.out.blk (i:=4) rfl).cell 0
 have af0:w2.frozen? ⟨gA,0,none⟩=false:=(M2.out.blk (i:=4) rfl).frozen 0
 have a1:w2.cell? ⟨gA,1,none⟩=some (.int .i64 aB):=(M2.out.blk (i:=4) rfl).cell 1
 have af1:w2.frozen? ⟨gA,1,none⟩=false:=(M2.out.blk (i:=4) rfl).frozen 1
 have a2:w2.cell? ⟨gA,2,none⟩=some (.slice (p) n cap):=(M2.out.blk (i:=4) rfl).cell 2
 have af2:w2.frozen? ⟨gA,2,none⟩=false:=(M2.out.blk (i:=4) rfl).frozen 2
 have ne0_1a: ¬(gV=gA):=M2.out.ne (i:=0) (j:=4) (by omega) rfl rfl rfl rfl
 have ne0_1b: ¬(gA=gV):=fun h=>ne0_1a h.symm
 go_upto_region 5 with fail
 clear v0 v1 v2 a0 af0 a1 af1 a2 af2 ne0_1a ne0_1b
 have M3:=xQ (show Mem w0 ((w2.setCell ⟨gA,0,none⟩ (.int .i64 aA)).setCell ⟨gA,1,none⟩ (.int .i64 aB)) [aF w0.heap.size (gV) TH3 #[.int .i64 aA,.int .i64 aB,.slice p1 n c1],aJ w0.heap.size TI 1 (p1) (n) (c1) (ivs (ys)),aJ w0.heap.size TI 1 (p) (n) (cap) (ivs (xs)),aJ w0.heap.size TV 4 (q) (m) (c2) ((vs).flatMap aC),aF w0.heap.size (gA) aO #[.int .i64 aA,.int .i64 aB,.slice (p) n cap,.int .i64 free,.int .i64 step,.int .i64 aE,.int .i64 aG,.int .i64 aD,.int .i64 aH,.slice (q) m c2],R]from((((M2.out).store (i:=4) rfl 0 (.int .i64 aA))).store (i:=4) rfl 1 (.int .i64 aB)))
 have M4:=xQ (show Mem w0 (((w2.setCell ⟨gA,0,none⟩ (.int .i64 aA)).setCell ⟨gA,1,none⟩ (.int .i64 aB)).setCell ⟨gA,2,none⟩ (.slice p1 n c1)) [aF w0.heap.size (gV) TH3 #[.int .i64 aA,.int .i64 aB,.slice p1 n c1],aJ w0.heap.size TI 1 (p1) (n) (c1) (ivs (ys)),aJ w0.heap.size TI 1 (p) (n) (cap) (ivs (xs)),aJ w0.heap.size TV 4 (q) (m) (c2) ((vs).flatMap aC),aF w0.heap.size (gA) aO #[.int .i64 aA,.int .i64 aB,.slice p1 n c1,.int .i64 free,.int .i64 step,.int .i64 aE,.int .i64 aG,.int .i64 aD,.int .i64 aH,.slice (q) m c2],R]from((M3.out).store (i:=4) rfl 2 (.slice p1 n c1)))
 have M5:=xQ (M4.out)
 generalize hwz:World.setCell _ _ _=w5
 rw[hwz]at M5
 clear hwz M2 M3 M4
 have M6:=xQ (show Mem w0 w5 [aJ w0.heap.size TI 1 (p1) (n) (c1) (ivs (ys)),aJ w0.heap.size TV 4 (q) (m) (c2) ((vs).flatMap aC),aF w0.heap.size (gA) aO #[.int .i64 aA,.int .i64 aB,.slice (p1) n c1,.int .i64 free,.int .i64 step,.int .i64 aE,.int .i64 aG,.int .i64 aD,.int .i64 aH,.slice (q) m c2],R]from((M5.out).pick [1,3,4,5] (by decide) rfl))
 clear M5
 go_wp2
 go_loopw [8] (fun at_ wr=> ∃(k:Nat),k≤m∧at_= .int .i64 (k:Int)∧(∀u∈vs.take k,u.1<id)∧w5=wr) (fun at_ _=>m-(intOf at_).toNat)
 case atStart=>exact⟨0,Nat.zero_le _,rfl,by simp,rfl⟩
 case round=>
  obtain⟨k,hk,rfl,hlt,rfl⟩:=hrel
  have HLT:=xQ hlt
  clear hlt
  have b9:w5.cell? ⟨gA,9,none⟩=some (.slice q m c2):=(M6.out.blk (i:=2) rfl).cell 9
  have hgl:=(M6.out.lt (i:=2) rfl rfl).2
  by_cases hkm:k<m
  ·obtain⟨gq,hgq,_,_⟩:=M6.out.some (i:=1) rfl (by omega)
   obtain⟨⟨a0,a1,a2,a3⟩,hx⟩: ∃x,vs[k]? =some x:=⟨_,List.getElem?_eq_getElem (by rw[hl.out];exact hkm)⟩
   have ca:w5.cell? ⟨gq,k*4,none⟩=some (.int .i64 a0):=by
    have h1:=(M6.out.own (i:=1) rfl)
    rw[hgq]at h1
    have h2:=h1.cellAt (k*4) (by omega)
    rw[h2]
    exact dF aC 4 (fun _=>rfl) vs k _ hx 0 (by omega)
   have i1:(0:Int)≤(k:Int):=by omega
   have i2:(k:Int)<(m:Int):=by omega
   by_cases h7:a0<id
   ·have t1:decide (a0<id)=true:=by simp[h7]
    have hlt2:=xQ (show∀u∈vs.take (k+1),u.1<id from by
     intro u hu
     rw[bH hx,List.mem_append,List.mem_singleton]at hu
     rcases hu with hu|rfl
     ·exact HLT.out u hu
     ·exact h7)
    clear hx h7
    subst hgq
    go_wp2
    go_roundw
    case rel=>exact⟨k+1,by omega,by go_num,hlt2.out,by trivial⟩
    case measure=>simp[intOf];omega
   ·have t1:decide (a0<id)=false:=by simp;omega
    have HGE:=xQ (show∀u,vs[k]? =some u→ ¬u.1<id from fun u hu=>by rw[hx]at hu;injection hu with hu;subst hu;exact h7)
    clear hx h7
    subst hgq
    go_upto_region 8 with fail
    clear b9 ca i1 i2 t1 hgl
    have HPV:=xQ (mL (id,aD,0,aD) vs k HLT.out HGE.out)
    have HI:=xQ (fun(w1:World) (vb:Nat) (hx:Ext w5 w1) (hb:Blk w1 vb TV (aC (id,aD,0,aD)).toArray) (hle:w5.heap.size≤vb)=>wD (w0:=w0) (w:=w1) (some ⟨gq,0,none⟩) k vb c2 m vs (id,aD,0,aD) 1 (by omega) hl (xQ (M6.out.adv hx)) (xQ hb) hk (fun g hg=>by have h7:=(M6.out.lt (i:=1) (g:=g) rfl hg).2;omega) (xQ rfl))
    rw[←HPV.out]at HI
    have a7:w5.cell? ⟨gA,7,none⟩=some (.int .i64 aD):=(M6.out.blk (i:=2) rfl).cell 7
    have a9:w5.cell? ⟨gA,9,none⟩=some (.slice (some ⟨gq,0,none⟩) m c2):=(M6.out.blk (i:=2) rfl).cell 9
    have hgl:=(M6.out.lt (i:=2) rfl rfl).2
    clear HLT HGE HPV
    go_wp2_with fail
    go_region_with (first
     |(go_at_call 80;refine(HI.out _ _ (by first|exact(Ext.refl _).alloc _|exact Ext.drew ((Ext.refl _).alloc _)|exact xE) (by first|exact Blk.new _ _ _|exact(Blk.new _ _ _).ext (Ext.drew (Ext.refl _))) (by first|exact Nat.le_refl _|simp)).mono ?_
       rintro e w9 ⟨q9,c9,rfl,hM9⟩
       have M9:=xQ (show Mem w0 w9 [aJ w0.heap.size TI 1 (p1) (n) (c1) (ivs (ys)),aJ w0.heap.size TV 4 (q9) ((m+1)) (c9) ((hU (id,aD,0,aD) vs).flatMap aC),aF w0.heap.size (gA) aO #[.int .i64 aA,.int .i64 aB,.slice (p1) n c1,.int .i64 free,.int .i64 step,.int .i64 aE,.int .i64 aG,.int .i64 aD,.int .i64 aH,.slice (some ⟨gq,0,none⟩) m c2],R]from hM9)
       clear hM9
       have x7:w9.cell? ⟨gA,7,none⟩=some (.int .i64 aD):=(M9.out.blk (i:=2) rfl).cell 7
       have x9:w9.cell? ⟨gA,9,none⟩=some (.slice (some ⟨gq,0,none⟩) m c2):=(M9.out.blk (i:=2) rfl).cell 9
       have x9f:w9.frozen? ⟨gA,9,none⟩=false:=(M9.out.blk (i:=2) rfl).frozen 9
       have hgl9:=(M9.out.lt (i:=2) rfl rfl).2))
    all_goals (
    clear a7 a9 hgl x7 x9 x9f hgl9 HI M6
    have MX:=xQ (show Mem w0 (w9.setCell ⟨gA,9,none⟩ (.slice q9 (m+1) c9)) [aJ w0.heap.size TI 1 (p1) (n) (c1) (ivs (ys)),aJ w0.heap.size TV 4 (q9) ((m+1)) (c9) ((hU (id,aD,0,aD) vs).flatMap aC),aF w0.heap.size (gA) aO #[.int .i64 aA,.int .i64 aB,.slice (p1) n c1,.int .i64 free,.int .i64 step,.int .i64 aE,.int .i64 aG,.int .i64 aD,.int .i64 aH,.slice (q9) (m+1) c9],R]from M9.out.store (i:=2) rfl 9 (.slice q9 (m+1) c9))
    clear M9
    go_wp2
    exact bodyPost_ret (v:= .tuple #[.int .i64 slides,.bool true]) (by simp[results,Tryz.results42,go_sem, *]) rfl ⟨p1,c1,q9,c9,rfl,MX.out⟩)
  ·obtain rfl:m=k:=by omega
   have HGE:=xQ (show∀u,vs[m]? =some u→ ¬u.1<id from fun u hu=>by rw[List.getElem?_eq_none (by rw[hl.out];exact Nat.le_refl _)]at hu;cases hu)
   go_upto_region 8 with fail
   clear b9 hgl
   have HPV:=xQ (mL (id,aD,0,aD) vs m HLT.out HGE.out)
   have HI:=xQ (fun(w1:World) (vb:Nat) (hx:Ext w5 w1) (hb:Blk w1 vb TV (aC (id,aD,0,aD)).toArray) (hle:w5.heap.size≤vb)=>wD (w0:=w0) (w:=w1) q m vb c2 m vs (id,aD,0,aD) 1 (by omega) hl (xQ (M6.out.adv hx)) (xQ hb) (Nat.le_refl _) (fun g hg=>by have h7:=(M6.out.lt (i:=1) (g:=g) rfl hg).2;omega) (xQ rfl))
   rw[←HPV.out]at HI
   have a7:w5.cell? ⟨gA,7,none⟩=some (.int .i64 aD):=(M6.out.blk (i:=2) rfl).cell 7
   have a9:w5.cell? ⟨gA,9,none⟩=some (.slice q m c2):=(M6.out.blk (i:=2) rfl).cell 9
   have hgl:=(M6.out.lt (i:=2) rfl rfl).2
   clear HLT HGE HPV
   go_wp2_with fail
   go_region_with (first
    |(go_at_call 80;refine(HI.out _ _ (by first|exact(Ext.refl _).alloc _|exact Ext.drew ((Ext.refl _).alloc _)|exact xE) (by first|exact Blk.new _ _ _|exact(Blk.new _ _ _).ext (Ext.drew (Ext.refl _))) (by first|exact Nat.le_refl _|simp)).mono ?_
      rintro e w9 ⟨q9,c9,rfl,hM9⟩
      have M9:=xQ (show Mem w0 w9 [aJ w0.heap.size TI 1 (p1) (n) (c1) (ivs (ys)),aJ w0.heap.size TV 4 (q9) ((m+1)) (c9) ((hU (id,aD,0,aD) vs).flatMap aC),aF w0.heap.size (gA) aO #[.int .i64 aA,.int .i64 aB,.slice (p1) n c1,.int .i64 free,.int .i64 step,.int .i64 aE,.int .i64 aG,.int .i64 aD,.int .i64 aH,.slice (q) m c2],R]from hM9)
      clear hM9
      have x7:w9.cell? ⟨gA,7,none⟩=some (.int .i64 aD):=(M9.out.blk (i:=2) rfl).cell 7
      have x9:w9.cell? ⟨gA,9,none⟩=some (.slice q m c2):=(M9.out.blk (i:=2) rfl).cell 9
      have x9f:w9.frozen? ⟨gA,9,none⟩=false:=(M9.out.blk (i:=2) rfl).frozen 9
      have hgl9:=(M9.out.lt (i:=2) rfl rfl).2))
   all_goals (
   clear a7 a9 hgl x7 x9 x9f hgl9 HI M6
   have MX:=xQ (show Mem w0 (w9.setCell ⟨gA,9,none⟩ (.slice q9 (m+1) c9)) [aJ w0.heap.size TI 1 (p1) (n) (c1) (ivs (ys)),aJ w0.heap.size TV 4 (q9) ((m+1)) (c9) ((hU (id,aD,0,aD) vs).flatMap aC),aF w0.heap.size (gA) aO #[.int .i64 aA,.int .i64 aB,.slice (p1) n c1,.int .i64 free,.int .i64 step,.int .i64 aE,.int .i64 aG,.int .i64 aD,.int .i64 aH,.slice (q9) (m+1) c9],R]from M9.out.store (i:=2) rfl 9 (.slice q9 (m+1) c9))
   clear M9
   go_wp2
   exact bodyPost_ret (v:= .tuple #[.int .i64 slides,.bool true]) (by simp[results,Tryz.results42,go_sem, *]) rfl ⟨p1,c1,q9,c9,rfl,MX.out⟩)
def vix (id:Int)(vs:List aQ):Int:=if vs.any (fun v=>v.1==id)then(vs.findIdx (fun v=>v.1==id):Int)else -1
theorem aAa {id:Int}{vs:List aQ}{k:Nat}{v:aQ}(hv:vs[k]? =some v) (h:v.1=id) (hp:(vs.take k).any (fun v=>v.1==id)=false):vix id vs=k:=by
 have hlt:k<vs.length:=(List.getElem?_eq_some_iff.1 hv).1
 have e:vs[k]=v:=by have:=(List.getElem?_eq_some_iff.1 hv).2;exact this
 have ha:vs.any (fun v=>v.1==id)=true:=List.any_eq_true.2 ⟨v,List.mem_of_getElem? hv,by simp[h]⟩
 have hi:vs.findIdx (fun v=>v.1==id)=k:=by
  rw[List.findIdx_eq hlt]
  refine⟨by simp[e,h],fun j hj=> ?_⟩
  have:=List.any_eq_false.1 hp vs[j] (by
   rw[List.mem_take_iff_getElem];exact⟨j,by omega,rfl⟩)
  simpa using this
 unfold vix;rw[if_pos ha,hi]
theorem pM {id:Int}{vs:List aQ}(hp:vs.any (fun v=>v.1==id)=false):vix id vs= -1:=by unfold vix;simp[hp]
theorem xJ {id:Int}{vs:List aQ}{k:Nat}{v:aQ}(hv:vs[k]? =some v) (h: ¬v.1=id) (hp:(vs.take k).any (fun v=>v.1==id)=false):(vs.take (k+1)).any (fun v=>v.1==id)=false:=by
 rw[bH hv,List.any_append,hp];simp[h]
theorem jL (id:Int)(vs:List aQ):(vix id vs= -1∧eD id vs=none)∨ ∃(k:Nat) (a1 a2 a3:Int),k<vs.length∧vix id vs=k∧vs[k]? =some (id,a1,a2,a3)∧eD id vs=some (id,a1,a2,a3):=by
 cases h:vs.any (fun v=>v.1==id)with
 |false=>exact .inl ⟨pM h,by unfold eD;rw[List.find?_eq_none];simpa using h⟩
 |true=>
  right
  have hlt:vs.findIdx (fun v=>v.1==id)<vs.length:=List.findIdx_lt_length.2 (by simpa using h)
  have hg:=List.findIdx_getElem (w:=hlt)
  have hf:eD id vs=some (vs[vs.findIdx (fun v=>v.1==id)]):=by
   unfold eD
   rw[List.find?_eq_some_iff_getElem]
   exact⟨hg,_,hlt,rfl,fun j hj=>by simpa using List.not_of_lt_findIdx hj⟩
  have h0:vs[vs.findIdx (fun v=>v.1==id)].1=id:=by simpa using hg
  generalize hb:vs[vs.findIdx (fun v=>v.1==id)]=v at*
  obtain⟨b0,b1,b2,b3⟩:=v
  dsimp only at h0
  subst h0
  exact⟨_,b1,b2,b3,hlt,by unfold vix;rw[if_pos h],by rw[List.getElem?_eq_getElem hlt,hb],hf⟩
set_option maxRecDepth 100000 in
set_option maxHeartbeats 1000000 in
theorem rH (B:Nat)(q:Option Addr)(m c2:Nat)(vs:List aQ)(id:Int)(w:World)(hS:Sl w q m c2 4 (vs.flatMap aC))(hB:B<w.heap.size)(hc:w.cell? ⟨B,0,none⟩=some (.int .i64 id)):
  Calls Tryz.prog 114 #[.slice q m c2,.func (.func 115) #[] #[.pointer (some ⟨B,0,none⟩)]] w fun e w'=>e= .returned (.int .i64 (vix id vs))∧Ext w w':=by
 have hn:=hS.bd
 have HS:=xQ hS
 have hl:Hid (vs.length=m):=by
  have:=hS.len;rw[cM aC 4 (fun _=>rfl)]at this;exact(by omega:vs.length=m)
 clear hS
 go_enter Tryz.func114,Tryz.ntmps114
 go_wp2
 go_loopw [8] (fun i wr=> ∃k:Nat,k≤m∧i= .int .i64 k∧(vs.take k).any (fun v=>v.1==id)=false∧Ext w wr∧w.heap.size≤wr.heap.size∧wr.cell? ⟨B,0,none⟩=some (.int .i64 id)) (fun i _=>m-(intOf i).toNat)
 case atStart=>exact⟨0,Nat.zero_le _,rfl,by simp,by exact .refl _,by simp,by simpa using hc⟩
 case round=>
  obtain⟨k,hk,rfl,hp,hE,hsz,hcB⟩:=hrel
  have HP:=xQ hp
  clear hp
  by_cases hlt:k<m
  ·obtain⟨b,off,a0,a1,a2,a3,rfl,hv,hb,g0,g1,g2,g3⟩:=dV (HS.out.ext hE) hlt
   have HV:=xQ hv
   clear hv
   have hcB2:(wr.alloc (.cells #[.int .i64 a0,.int .i64 a1,.int .i64 a2,.int .i64 a3] 69)).cell? ⟨B,0,none⟩=some (.int .i64 id):=by rw[((Ext.refl wr).alloc _).cells.1 _ _ (by omega)];exact hcB
   by_cases t:a0=id
   ·have q0:(a0==id)=true:=by simp[t]
    have hfin:Hid (vix id vs=k):=aAa HV.out t HP.out
    clear t
    go_wp2_with go_in
    go_ret
    exact⟨by rw[hfin.out];rfl,by exact .alloc hE _⟩
   ·have q0:(a0==id)=false:=by simp[t]
    have hfin:Hid ((vs.take (k+1)).any (fun v=>v.1==id)=false):=xJ HV.out t HP.out
    clear t
    go_wp2_with go_in
    go_roundw
    case rel=>exact⟨k+1,by omega,by go_num,hfin.out,by exact .alloc hE _,by simp;omega,hcB2⟩
    case measure=>simp[intOf];omega
  ·have hfin:Hid (vix id vs= -1):=pM (by have:=HP.out;rwa[List.take_of_length_le (by rw[hl.out];omega)]at this)
   go_wp2
   go_ret
   exact⟨by rw[hfin.out];rfl,by exact hE⟩
set_option maxRecDepth 100000 in
set_option maxHeartbeats 1000000 in
theorem fX (aA aB free step aE aG aD aH id:Int)(p:Option Addr)(n cap:Nat)(q:Option Addr)(m c2:Nat)(vs:List aQ)(w:World)(hS:Sl w q m c2 4 (vs.flatMap aC)):
  Calls Tryz.prog 81 #[.agg #[.int .i64 aA,.int .i64 aB,.slice p n cap,.int .i64 free,.int .i64 step,.int .i64 aE,.int .i64 aG,.int .i64 aD,.int .i64 aH,.slice q m c2],.int .i64 id] w fun e w'=>e= .returned (.int .i64 (vix id vs))∧Ext w w':=by
 have HI:Hid (∀w1 B,Ext w w1→B<w1.heap.size→w1.cell? ⟨B,0,none⟩=some (.int .i64 id)→Calls Tryz.prog 114 #[.slice q m c2,.func (.func 115) #[] #[.pointer (some ⟨B,0,none⟩)]] w1 fun e w'=>e= .returned (.int .i64 (vix id vs))∧Ext w1 w'):=
  fun w1 B hx hB hc=>rH B q m c2 vs id w1 (hS.ext hx) hB hc
 clear hS
 go_enter Tryz.func81,Tryz.ntmps81
 go_wp2_with fail
 refine(HI.out _ _ (by exact .alloc (.alloc (.refl _) _) _) (by simp) (by simp)).mono ?_
 rintro e w1 ⟨rfl,h1⟩
 go_wp2
 go_ret
 exact⟨rfl,by exact .trans (.alloc (.alloc (.refl _) _) _) h1⟩
set_option maxRecDepth 100000 in
set_option maxHeartbeats 1000000 in
theorem lY (aA aB free step aE aG aD aH id:Int)(p:Option Addr)(n cap:Nat)(q:Option Addr)(m c2:Nat)(vs:List aQ)(w:World)(hS:Sl w q m c2 4 (vs.flatMap aC)):
  Calls Tryz.prog 33 #[.agg #[.int .i64 aA,.int .i64 aB,.slice p n cap,.int .i64 free,.int .i64 step,.int .i64 aE,.int .i64 aG,.int .i64 aD,.int .i64 aH,.slice q m c2],.int .i64 id] w fun e w'=>e= .returned (.int .i64 (vix id vs))∧Ext w w':=by
 have hn:=hS.bd
 have HS:=xQ hS
 have hl:Hid (vs.length=m):=by
  have:=hS.len;rw[cM aC 4 (fun _=>rfl)]at this;exact(by omega:vs.length=m)
 clear hS
 go_enter Tryz.func33,Tryz.ntmps33
 go_wp2
 go_loop [5] (fun i=> ∃k:Nat,k≤m∧i= .int .i64 k∧(vs.take k).any (fun v=>v.1==id)=false) (fun i=>m-(intOf i).toNat)
 case atStart=>exact⟨0,Nat.zero_le _,rfl,by simp⟩
 case round=>
  obtain⟨k,hk,rfl,hp⟩:=hrel
  have HP:=xQ hp
  clear hp
  by_cases hlt:k<m
  ·obtain⟨b,off,a0,a1,a2,a3,rfl,hv,hb,g0,g1,g2,g3⟩:=dV HS.out hlt
   have HV:=xQ hv
   clear hv
   by_cases t:a0=id
   ·have q0:(a0==id)=true:=by simp[t]
    have hfin:Hid (vix id vs=k):=aAa HV.out t HP.out
    clear t
    go_wp2
    go_ret
    exact⟨by rw[hfin.out];rfl,by exact .alloc (.refl _) _⟩
   ·have q0:(a0==id)=false:=by simp[t]
    have hfin:Hid ((vs.take (k+1)).any (fun v=>v.1==id)=false):=xJ HV.out t HP.out
    clear t
    go_wp2
    go_round
    case rel=>exact⟨k+1,by omega,by go_num,hfin.out⟩
    case measure=>simp[intOf];omega
  ·have hfin:Hid (vix id vs= -1):=pM (by have:=HP.out;rwa[List.take_of_length_le (by rw[hl.out];omega)]at this)
   go_wp2
   go_ret
   exact⟨by rw[hfin.out];rfl,by exact .alloc (.refl _) _⟩
abbrev TT4:TypeId:=34
abbrev TS3:TypeId:=67
def eY (f s p c i pd a now amt:Int):(Int×Int×Int)×Int×Bool:=
 if 1≤amt∧amt≤300 then
  (if bS f s p c i pd a now=0 then((i,pd,a),amt,false)else((i,pd+min (bS f s p c i pd a now) amt,now),amt-min (bS f s p c i pd a now) amt,true))
 else((0,0,0),amt,false)
theorem iM {f s p c i pd a now:Int}(h:bD f s p c=true)(h2:cI i pd a=true)(h3:a≤now)(h4:now≤9999):0≤bS f s p c i pd a now∧bS f s p c i pd a now≤693:=by
 obtain⟨b1,b2,b3,b4,b5,b6⟩:=eO h2
 have hb:=mY (m:=now-i) h (by omega) (by omega)
 unfold bS
 rw[if_pos (by simp[h,h2,h3,h4])]
 omega
set_option maxRecDepth 100000 in
set_option maxHeartbeats 8000000 in
theorem aB4 (i pd a now f s p c amt D:Int)(w:World)(hD:0≤D)(hD2:D≤693)(hp0:0≤pd)(hp:pd≤9999)
  (HD:Hid (∀w,Calls Tryz.prog 100 #[aS f s p c,bK i pd a,.int .i64 now] w fun e w'=>e= .returned (.int .i64 D)∧Ext w w'))
  (HI:Hid (∀w,Calls Tryz.prog 35 #[.int .i64 amt,.int .i64 1,.int .i64 300] w fun e w'=>e= .returned (.bool false)∧w=w'))(ha:amt<1∨300<amt):
  Calls Tryz.prog 65 #[aS f s p c,bK i pd a,.int .i64 now,.int .i64 amt] w fun e w'=>e= .returned (.tuple #[bK 0 0 0,.int .i64 amt,.bool false])∧Ext w w':=by
 go_enter Tryz.func65,Tryz.ntmps65
 go_wp2_with fail
 refine(HD.out _).mono ?_
 rintro e w1 ⟨rfl,hx1⟩
 have M1:=xQ ((Mem.b3 w).adv hx1)
 have lt1_0:=M1.out.hi 0
 have lt1_1:=M1.out.hi 1
 have lt1_2:=M1.out.hi 2
 clear hx1
 go_wp2_with fail
 refine(HI.out _).mono ?_
 rintro e _ ⟨rfl,rfl⟩
 obtain⟨c0,c1,c2⟩:=(M1.out.blk (i:=1) rfl).tri
 obtain⟨d0,d1,d2⟩:=(M1.out.blk (i:=0) rfl).tri
 have df0:w1.frozen? ⟨w.heap.size+1+1,0,none⟩=false:=(M1.out.blk (i:=0) rfl).frozen 0
 have df1:w1.frozen? ⟨w.heap.size+1+1,1,none⟩=false:=(M1.out.blk (i:=0) rfl).frozen 1
 have df2:w1.frozen? ⟨w.heap.size+1+1,2,none⟩=false:=(M1.out.blk (i:=0) rfl).frozen 2
 clear HD HI
 go_wp2
 clear c0 c1 c2 d0 d1 d2 df0 df1 df2
 have M2:=xQ (show Mem w (((w1.setCell ⟨w.heap.size+1+1,0,none⟩ (.int .i64 0)).setCell ⟨w.heap.size+1+1,1,none⟩ (.int .i64 0)).setCell ⟨w.heap.size+1+1,2,none⟩ (.int .i64 0)) [aF w.heap.size (w.heap.size+1+1) TS3 #[.int .i64 0,.int .i64 0,.int .i64 0],aF w.heap.size (w.heap.size+1) TS3 #[.int .i64 i,.int .i64 pd,.int .i64 a],aF w.heap.size (w.heap.size) TT4 #[.int .i64 f,.int .i64 s,.int .i64 p,.int .i64 c]]from((((((M1.out).store (i:=0) rfl 0 (.int .i64 0))).store (i:=0) rfl 1 (.int .i64 0))).store (i:=0) rfl 2 (.int .i64 0)))
 generalize World.setCell _ _ _=wz at M2⊢
 clear M1
 clear lt1_0 lt1_1 lt1_2
 have lt2_0:=M2.out.hi 0
 have lt2_1:=M2.out.hi 1
 have lt2_2:=M2.out.hi 2
 obtain⟨y0,y1,y2⟩:=(M2.out.blk (i:=0) rfl).tri
 exact bodyPost_ret (v:= .tuple #[.agg #[.int .i64 0,.int .i64 0,.int .i64 0],.int .i64 amt,.bool false]) (by simp[results,Tryz.results65,go_sem, *]) rfl ⟨rfl,M2.out.ext⟩
set_option maxRecDepth 100000 in
set_option maxHeartbeats 8000000 in
theorem uV (i pd a now f s p c amt:Int)(w:World)(hp0:0≤pd)(hp:pd≤9999)
  (HD:Hid (∀w,Calls Tryz.prog 100 #[aS f s p c,bK i pd a,.int .i64 now] w fun e w'=>e= .returned (.int .i64 0)∧Ext w w'))
  (HI:Hid (∀w,Calls Tryz.prog 35 #[.int .i64 amt,.int .i64 1,.int .i64 300] w fun e w'=>e= .returned (.bool true)∧w=w'))(ha:1≤amt)(hb:amt≤300):
  Calls Tryz.prog 65 #[aS f s p c,bK i pd a,.int .i64 now,.int .i64 amt] w fun e w'=>e= .returned (.tuple #[bK i pd a,.int .i64 amt,.bool false])∧Ext w w':=by
 go_enter Tryz.func65,Tryz.ntmps65
 go_wp2_with fail
 refine(HD.out _).mono ?_
 rintro e w1 ⟨rfl,hx1⟩
 have M1:=xQ ((Mem.b3 w).adv hx1)
 have lt1_0:=M1.out.hi 0
 have lt1_1:=M1.out.hi 1
 have lt1_2:=M1.out.hi 2
 clear hx1
 go_wp2_with fail
 refine(HI.out _).mono ?_
 rintro e _ ⟨rfl,rfl⟩
 obtain⟨c0,c1,c2⟩:=(M1.out.blk (i:=1) rfl).tri
 obtain⟨d0,d1,d2⟩:=(M1.out.blk (i:=0) rfl).tri
 have df0:w1.frozen? ⟨w.heap.size+1+1,0,none⟩=false:=(M1.out.blk (i:=0) rfl).frozen 0
 have df1:w1.frozen? ⟨w.heap.size+1+1,1,none⟩=false:=(M1.out.blk (i:=0) rfl).frozen 1
 have df2:w1.frozen? ⟨w.heap.size+1+1,2,none⟩=false:=(M1.out.blk (i:=0) rfl).frozen 2
 clear HD HI
 go_wp2
 clear c0 c1 c2 d0 d1 d2 df0 df1 df2
 have M2:=xQ (show Mem w (((w1.setCell ⟨w.heap.size+1+1,0,none⟩ (.int .i64 i)).setCell ⟨w.heap.size+1+1,1,none⟩ (.int .i64 pd)).setCell ⟨w.heap.size+1+1,2,none⟩ (.int .i64 a)) [aF w.heap.size (w.heap.size+1+1) TS3 #[.int .i64 i,.int .i64 pd,.int .i64 a],aF w.heap.size (w.heap.size+1) TS3 #[.int .i64 i,.int .i64 pd,.int .i64 a],aF w.heap.size (w.heap.size) TT4 #[.int .i64 f,.int .i64 s,.int .i64 p,.int .i64 c]]from((((((M1.out).store (i:=0) rfl 0 (.int .i64 i))).store (i:=0) rfl 1 (.int .i64 pd))).store (i:=0) rfl 2 (.int .i64 a)))
 generalize World.setCell _ _ _=wz at M2⊢
 clear M1
 clear lt1_0 lt1_1 lt1_2
 have lt2_0:=M2.out.hi 0
 have lt2_1:=M2.out.hi 1
 have lt2_2:=M2.out.hi 2
 obtain⟨y0,y1,y2⟩:=(M2.out.blk (i:=0) rfl).tri
 exact bodyPost_ret (v:= .tuple #[.agg #[.int .i64 i,.int .i64 pd,.int .i64 a],.int .i64 amt,.bool false]) (by simp[results,Tryz.results65,go_sem, *]) rfl ⟨rfl,M2.out.ext⟩
set_option maxRecDepth 100000 in
set_option maxHeartbeats 8000000 in
theorem xX (i pd a now f s p c amt D:Int)(w:World)(hD:0≤D)(hD2:D≤693)(hp0:0≤pd)(hp:pd≤9999)
  (HD:Hid (∀w,Calls Tryz.prog 100 #[aS f s p c,bK i pd a,.int .i64 now] w fun e w'=>e= .returned (.int .i64 D)∧Ext w w'))
  (HI:Hid (∀w,Calls Tryz.prog 35 #[.int .i64 amt,.int .i64 1,.int .i64 300] w fun e w'=>e= .returned (.bool true)∧w=w'))(ha:1≤amt)(hb:amt≤300)(hD1:1≤D):
  Calls Tryz.prog 65 #[aS f s p c,bK i pd a,.int .i64 now,.int .i64 amt] w fun e w'=>e= .returned (.tuple #[bK i (pd+min D amt) now,.int .i64 (amt-min D amt),.bool true])∧Ext w w':=by
 go_enter Tryz.func65,Tryz.ntmps65
 go_wp2_with fail
 refine(HD.out _).mono ?_
 rintro e w1 ⟨rfl,hx1⟩
 have M1:=xQ ((Mem.b3 w).adv hx1)
 have lt1_0:=M1.out.hi 0
 have lt1_1:=M1.out.hi 1
 have lt1_2:=M1.out.hi 2
 clear hx1
 go_wp2_with fail
 refine(HI.out _).mono ?_
 rintro e _ ⟨rfl,rfl⟩
 obtain⟨c0,c1,c2⟩:=(M1.out.blk (i:=1) rfl).tri
 obtain⟨d0,d1,d2⟩:=(M1.out.blk (i:=0) rfl).tri
 have df0:w1.frozen? ⟨w.heap.size+1+1,0,none⟩=false:=(M1.out.blk (i:=0) rfl).frozen 0
 have df1:w1.frozen? ⟨w.heap.size+1+1,1,none⟩=false:=(M1.out.blk (i:=0) rfl).frozen 1
 have df2:w1.frozen? ⟨w.heap.size+1+1,2,none⟩=false:=(M1.out.blk (i:=0) rfl).frozen 2
 clear HD HI
 have k1:IntKind.i64.wrap (pd+min D amt)=pd+min D amt:=IntWalk.i64_in _ (by omega)
 have k2:IntKind.i64.wrap (amt-min D amt)=amt-min D amt:=IntWalk.i64_in _ (by omega)
 have hd1:(D==0)=false:=by simp;omega
 go_wp2
 clear c0 c1 c2 d0 d1 d2 df0 df1 df2
 have M2:=xQ (show Mem w (((w1.setCell ⟨w.heap.size+1+1,0,none⟩ (.int .i64 i)).setCell ⟨w.heap.size+1+1,1,none⟩ (.int .i64 (pd+min D amt))).setCell ⟨w.heap.size+1+1,2,none⟩ (.int .i64 now)) [aF w.heap.size (w.heap.size+1+1) TS3 #[.int .i64 i,.int .i64 (pd+min D amt),.int .i64 now],aF w.heap.size (w.heap.size+1) TS3 #[.int .i64 i,.int .i64 pd,.int .i64 a],aF w.heap.size (w.heap.size) TT4 #[.int .i64 f,.int .i64 s,.int .i64 p,.int .i64 c]]from((((((M1.out).store (i:=0) rfl 0 (.int .i64 i))).store (i:=0) rfl 1 (.int .i64 (pd+min D amt)))).store (i:=0) rfl 2 (.int .i64 now)))
 generalize World.setCell _ _ _=wz at M2⊢
 clear M1
 clear lt1_0 lt1_1 lt1_2
 have lt2_0:=M2.out.hi 0
 have lt2_1:=M2.out.hi 1
 have lt2_2:=M2.out.hi 2
 obtain⟨y0,y1,y2⟩:=(M2.out.blk (i:=0) rfl).tri
 exact bodyPost_ret (v:= .tuple #[.agg #[.int .i64 i,.int .i64 (pd+min D amt),.int .i64 now],.int .i64 (amt-min D amt),.bool true]) (by simp[results,Tryz.results65,go_sem, *]) rfl ⟨rfl,M2.out.ext⟩
theorem vO (f s p c i pd a now amt:Int)(w:World)(h:bD f s p c=true)(h2:cI i pd a=true)(h3:a≤now)(h4:now≤9999):
  Calls Tryz.prog 65 #[aS f s p c,bK i pd a,.int .i64 now,.int .i64 amt] w fun e w'=>e= .returned (.tuple #[bK (eY f s p c i pd a now amt).1.1 (eY f s p c i pd a now amt).1.2.1 (eY f s p c i pd a now amt).1.2.2,.int .i64 (eY f s p c i pd a now amt).2.1,.bool (eY f s p c i pd a now amt).2.2])∧Ext w w':=by
 obtain⟨b1,b2,b3,b4,b5,b6⟩:=eO h2
 obtain⟨e1,e2⟩:=iM h h2 h3 h4
 have HD:=xQ (fun w=>xW f s p c i pd a now w h h2 h3 h4)
 unfold eY
 generalize bS f s p c i pd a now=D at*
 by_cases ha:1≤amt∧amt≤300
 ·have HI:Hid (∀w,Calls Tryz.prog 35 #[.int .i64 amt,.int .i64 1,.int .i64 300] w fun e w'=>e= .returned (.bool true)∧w=w'):=fun w=>jN amt 1 300 w ha.1 ha.2
  rw[if_pos ha]
  by_cases hd:D=0
  ·subst hd
   rw[if_pos rfl]
   exact uV i pd a now f s p c amt w b3 b4 HD HI ha.1 ha.2
  ·rw[if_neg hd]
   exact xX i pd a now f s p c amt D w e1 e2 b3 b4 HD HI ha.1 ha.2 (by omega)
 ·have HI:Hid (∀w,Calls Tryz.prog 35 #[.int .i64 amt,.int .i64 1,.int .i64 300] w fun e w'=>e= .returned (.bool false)∧w=w'):=fun w=>pH amt 1 300 w (by omega)
  rw[if_neg ha]
  exact aB4 i pd a now f s p c amt D w e1 e2 b3 b4 HD HI (by omega)
end Go.Proofs.YtahglfakiobbcaaGreatDoor
