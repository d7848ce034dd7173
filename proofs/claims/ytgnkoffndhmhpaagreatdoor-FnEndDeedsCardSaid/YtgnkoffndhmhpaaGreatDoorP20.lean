/-
  Texts of this proof, packed (@packed).
-/
import Derived.Test.YtgnkoffndhmhpaaGreatDoorP5
import Derived.Test.YtgnkoffndhmhpaaGreatDoorP6
import Derived.Test.YtgnkoffndhmhpaaGreatDoorP8
import Derived.Test.YtgnkoffndhmhpaaGreatDoorP18
import Derived.Test.YtgnkoffndhmhpaaGreatDoorP19
namespace Go.Proofs.YtgnkoffndhmhpaaGreatDoor
open Go.RowKit
set_option linter.unusedVariables false
set_option linter.unusedSimpArgs false
set_option maxHeartbeats 8000000
set_option maxRecDepth 100000
abbrev aL:TypeId:=35
theorem rR:ElT Tryz.prog 33 TV 4:=
 ⟨Tryz.underlying33,by
  obtain⟨i,hi,h0,h1,h2⟩:=info_parts (show(Tryz.prog.info? TV).map (fun i=>(i.zero,i.size,i.bytes))=some (some (.agg #[(),(),(),()]),4,32) by kernel_rfl)
  exact⟨i,_,hi,h0,h1,by omega,rfl⟩,by omega⟩
theorem eJ (vs:List aP): ∀u∈vs.flatMap aE,u.oneCell'=true:=by
 intro u hu
 obtain⟨v,_,hv⟩:=List.mem_flatMap.1 hu
 simp only[aE,List.mem_cons,List.not_mem_nil,or_false]at hv
 rcases hv with rfl|rfl|rfl|rfl<;>rfl
theorem oB (v:aP): ∀u∈aE v,u.oneCell'=true:=by
 intro u hu
 simp only[aE,List.mem_cons,List.not_mem_nil,or_false]at hu
 rcases hu with rfl|rfl|rfl|rfl<;>rfl
theorem aHo (aA aB free step aD aG aC aF:Int)(p:OA)(n cap:Nat)(q:OA)(m c2:Nat)(xs:List Int)(vs:List aP)(w:World)(hm:m≤1000)(hS:Hid (Sl w q m c2 4 (vs.flatMap aE)))
  (HL:xC 104 #[aH aA aB p n cap] w fun w' e w''=> ∃q c,e= .returned (aH aA aB q n c)∧w''.ownsRow w'.heap.size TI 1 (.slice q n c) n (ivs xs)∧Ext w' w''):
  Calls Tryz.prog 60 #[.agg #[aA,aB,.slice p n cap,free,step,aD,aG,aC,aF,.slice q m c2]] w fun e w'=> ∃p' cap' q' c2',e= .returned (.agg #[aA,aB,.slice p' n cap',free,step,aD,aG,aC,aF,.slice q' m c2'])∧w'.ownsRow w.heap.size TI 1 (.slice p' n cap') n (ivs xs)∧w'.ownsRow w.heap.size TV 4 (.slice q' m c2') m (vs.flatMap aE)∧Ext w w':=by
 go_enter Tryz.func60,Tryz.ntmps60
 go_wp2_with fail
 refine(HL _ ((((Mem.start w).bn aL #[aA,aB,.slice p n cap,free,step,aD,aG,aC,aF,.slice q m c2] (w.heap.size)).bn aL #[(),(),((),()),(),(),(),(),(),(),((),())] (w.heap.size+1)).bn aL #[aA,aB,.slice p n cap,free,step,aD,aG,aC,aF,.slice q m c2] (w.heap.size+1+1)).ext).mono ?_
 rintro e w1 ⟨q0,c0,rfl,o,y⟩
 have M1:=(((((Mem.start w).bn aL #[aA,aB,.slice p n cap,free,step,aD,aG,aC,aF,.slice q m c2] (w.heap.size)).bn aL #[(),(),((),()),(),(),(),(),(),(),((),())] (w.heap.size+1)).bn aL #[aA,aB,.slice p n cap,free,step,aD,aG,aC,aF,.slice q m c2] (w.heap.size+1+1)).call y o)
 have h:=M1.hi 1
 have j:=M1.hi 2
 have g:=M1.hi 3
 clear y o
 have c9:=(M1.bk 3).cl 9
 have d0:=(M1.bk 1).cl 0
 have ad:=(M1.bk 1).frozen 0
 have d1:=(M1.bk 1).cl 1
 have ae:=(M1.bk 1).frozen 1
 have d2:=(M1.bk 1).cl 2
 have aa:=(M1.bk 1).frozen 2
 go_wp2_with (at_builtin;refine cJ rR rfl _ _ rfl ((((M1.store (i:=1) rfl 0 (.int .i64 aA)).store (i:=1) rfl 1 (.int .i64 aB)).store (i:=1) rfl 2 (.slice q0 n c0)).made0 TV 4 (w1.heap.size) (by simp)) 0 rfl rfl (vs.flatMap aE) rfl (hS.out.ext ((((M1.store (i:=1) rfl 0 (.int .i64 aA)).store (i:=1) rfl 1 (.int .i64 aB)).store (i:=1) rfl 2 (.slice q0 n c0)).made0 TV 4 (w1.heap.size) (by simp)).ext) (eJ vs) (by omega) ?_;intro q7 c7 w6 k;have M6:=xQ (show Mem w w6 [aJ w.heap.size TV 4 (q7) (m) (c7) (vs.flatMap aE),aJ w.heap.size TI 1 (q0) (n) (c0) (ivs xs),aI w.heap.size (w.heap.size+1+1) aL #[aA,aB,.slice q0 n c0,free,step,aD,aG,aC,aF,.slice q m c2],aI w.heap.size (w.heap.size+1) aL #[(),(),((),()),(),(),(),(),(),(),((),())],aI w.heap.size (w.heap.size) aL #[aA,aB,.slice p n cap,free,step,aD,aG,aC,aF,.slice q m c2]]from by have:=(show Mem w w6 [aJ w.heap.size TV 4 (q7) (0+m) (c7) ([]++vs.flatMap aE),aJ w.heap.size TI 1 (q0) (n) (c0) (ivs xs),aI w.heap.size (w.heap.size+1+1) aL #[aA,aB,.slice q0 n c0,free,step,aD,aG,aC,aF,.slice q m c2],aI w.heap.size (w.heap.size+1) aL #[(),(),((),()),(),(),(),(),(),(),((),())],aI w.heap.size (w.heap.size) aL #[aA,aB,.slice p n cap,free,step,aD,aG,aC,aF,.slice q m c2]]from k);simpa only[Nat.zero_add,List.nil_append]using this);clear k c9 d0 ad d1 ae d2 aa M1 h j g;(have f:w.heap.size+1+1<w6.heap.size:=(M6.out.hi 2));(have d:w.heap.size+1<w6.heap.size:=(M6.out.hi 3));(have b:w.heap.size<w6.heap.size:=(M6.out.hi 4));(obtain⟨x0,x1,x2,x3,x4,x5,x6,x7,x8,x9⟩:=(M6.out.bk 2).ten);(have ab:w6.cell? ⟨w.heap.size+1+1,9,none⟩=some (.slice q m c2):=(M6.out.bk 2).cell 9);(have z:w6.frozen? ⟨w.heap.size+1+1,9,none⟩=false:=(M6.out.bk 2).frozen 9);(obtain⟨y0,yf0,y1,yf1,y2,yf2,y3,yf3,y4,yf4,y5,yf5,y6,yf6,y7,yf7,y8,yf8,y9,yf9⟩:=(M6.out.bk 3).tenf))
 have l:=(((M6.out.st 2 9 (.slice q7 m c7)).st 3 0 (.int .i64 aA)).st 3 1 (.int .i64 aB))
 have t:=((l.st 3 2 (.slice q0 n c0)).st 3 3 (.int .i64 free))
 have x:=((t.st 3 4 (.int .i64 step)).st 3 5 (.int .i64 aD))
 have r:=((x.st 3 6 (.int .i64 aG)).st 3 7 (.int .i64 aC))
 have s:=((r.st 3 8 (.int .i64 aF)).st 3 9 (.slice q7 m c7))
 clear x0 x1 x2 x3 x4 x5 x6 x7 x8 x9 ab z y0 yf0 y1 yf1 y2 yf2 y3 yf3 y4 yf4 y5 yf5 y6 yf6 y7 yf7 y8 yf8 y9 yf9 f d b
 have a:=(show Mem w (((((((((((w6.setCell ⟨w.heap.size+1+1,9,none⟩ (.slice q7 m c7)).setCell ⟨w.heap.size+1,0,none⟩ (.int .i64 aA)).setCell ⟨w.heap.size+1,1,none⟩ (.int .i64 aB)).setCell ⟨w.heap.size+1,2,none⟩ (.slice q0 n c0)).setCell ⟨w.heap.size+1,3,none⟩ (.int .i64 free)).setCell ⟨w.heap.size+1,4,none⟩ (.int .i64 step)).setCell ⟨w.heap.size+1,5,none⟩ (.int .i64 aD)).setCell ⟨w.heap.size+1,6,none⟩ (.int .i64 aG)).setCell ⟨w.heap.size+1,7,none⟩ (.int .i64 aC)).setCell ⟨w.heap.size+1,8,none⟩ (.int .i64 aF)).setCell ⟨w.heap.size+1,9,none⟩ (.slice q7 m c7)) [aJ w.heap.size TV 4 (q7) (m) (c7) (vs.flatMap aE),aJ w.heap.size TI 1 (q0) (n) (c0) (ivs xs),aI w.heap.size (w.heap.size+1+1) aL #[aA,aB,.slice q0 n c0,free,step,aD,aG,aC,aF,.slice q7 m c7],aI w.heap.size (w.heap.size+1) aL #[aA,aB,.slice q0 n c0,free,step,aD,aG,aC,aF,.slice q7 m c7],aI w.heap.size (w.heap.size) aL #[aA,aB,.slice p n cap,free,step,aD,aG,aC,aF,.slice q m c2]]from s)
 generalize u:World.setCell _ _ _=wz
 rw[u]at a
 clear u M6 l t x r s
 obtain⟨y0,y1,y2,y3,y4,y5,y6,y7,y8,y9⟩:=(a.bk 3).ten
 exact bodyPost_ret (v:= .agg #[aA,aB,.slice q0 n c0,free,step,aD,aG,aC,aF,.slice q7 m c7]) (by simp[results,Tryz.results60,go_sem, *]) rfl ⟨q0,c0,q7,c7,rfl,(a.ow 1),by have:=(a.ow 0);simpa using this,a.ext⟩
theorem uD (h:aO)(p:OA)(n cap:Nat)(q:OA)(m c2:Nat)(w:World)(hn:n≤1000)(hm:m≤1000)(hi:IsHouse w h p n cap q m c2):
  Calls Tryz.prog 60 #[bK h p n cap q m c2] w (fM h w):=by
 have hl:=hi.clen
 have d:=hi.vlen
 refine(aHo h.aA h.aB h.free h.step h.aD h.aG h.aC h.aF p n cap q m c2 h.cells h.vs w hm (xQ hi.vs) (xQ fun w' hx=> ?_)).mono ?_
 ·refine(fG h.aA h.aB p n cap h.cells w' (by omega) (hi.cells.ext hx)).mono ?_
  rintro e g ⟨q,c,rfl,ho,b⟩
  rw[hl]at ho⊢
  exact⟨q,c,rfl,ho,b⟩
 ·rintro e w' ⟨p',a,q',f,rfl,h1,h2,h3⟩
  subst hl d
  exact⟨p',a,q',f,rfl,h1,h2,h3⟩
def jY (v:aP)(vs:List aP):List aP:=vs.takeWhile (fun u=>decide (u.1<v.1))++v::vs.dropWhile (fun u=>decide (u.1<v.1))
theorem pW (v:aP): ∀(vs:List aP) (k:Nat),(∀u∈vs.take k,u.1<v.1)→(∀u,vs[k]? =some u→ ¬u.1<v.1)→jY v vs=vs.take k++v::vs.drop k
 | [],k,_,_=>by simp[jY]
 |u::vs,0,_,h2=>by simp[jY,h2 u (by simp)]
 |u::vs,k+1,h1,h2=>by
  have h:=pW v vs k (fun z hz=>h1 z (by simp[hz])) (fun z hz=>h2 z (by simpa using hz))
  have hu:u.1<v.1:=h1 u (by simp)
  simp only[jY]at h⊢
  simp[hu,h]
theorem jT: ∀(k:Nat) (vs:List aP),(vs.flatMap aE).drop (k*4)=(vs.drop k).flatMap aE
 |0,vs=>by simp
 |k+1,[]=>by simp
 |k+1,v::vs=>by
  rw[List.flatMap_cons,show(k+1)*4=(aE v).length+k*4 by simp[aE];omega,List.drop_length_add_append,jT k vs];rfl
theorem aAd {w:World}{b off n cap sz k:Nat}{xs:List Value}(h:Sl w (some ⟨b,off,none⟩) n cap sz xs)(hk:k≤n):Sl w (some ⟨b,off+k*sz,none⟩) (n-k) (cap-k) sz (xs.drop (k*sz)):=by
 have hl:=h.len
 have d:=h.le
 have c:=h.mx
 refine⟨by rw[List.length_drop,hl,Nat.sub_mul],by omega,by omega,fun h0=> ?_⟩
 obtain⟨b',a,e,hb,hc⟩:=h.rd (by omega)
 injection e with e;injection e with e1 e2
 subst e1 e2
 refine⟨_,_,rfl,hb,fun j hj=> ?_⟩
 rw[Nat.add_assoc,hc (k*sz+j) (by rw[Nat.sub_mul]at hj;omega)]
 simp
theorem aG0 (id a1 a2 a3:Int)(q:OA)(m c2:Nat)(vs:List aP)(w:World)(hm:m≤1000)(hS:Sl w q m c2 4 (vs.flatMap aE)):
  Calls Tryz.prog 72 #[.slice q m c2,.agg #[id,a1,a2,a3]] w fun e w'=> ∃q' c',e= .returned (.slice q' (m+1) c')∧w'.ownsRow w.heap.size TV 4 (.slice q' (m+1) c') (m+1) ((jY (id,a1,a2,a3) vs).flatMap aE)∧Ext w w':=by
 have hl:Hid (vs.length=m):=by
  have:=hS.len;rw[dD aE 4 (fun _=>rfl)]at this;exact(by omega:vs.length=m)
 have o:=hS.le
 have HS:=xQ hS
 clear hS
 have l:=xQ (((Mem.start w).bn TV #[id,a1,a2,a3] (w.heap.size)).made0 TV 4 (w.heap.size+1) (by simp))
 go_enter Tryz.func72,Tryz.ntmps72
 go_wp2
 go_loopw [5,6] (fun v i wr=> ∃(k:Nat) (q5:OA) (c5:Nat),k≤m∧i= .int .i64 k∧v= .slice q5 k c5∧(∀u∈vs.take k,u.1<id)∧Mem w wr [aJ w.heap.size TV 4 (q5) (k) (c5) ((vs.take k).flatMap aE),aI w.heap.size (w.heap.size) TV #[id,a1,a2,a3]]) (fun _ i _=>m-(intOf i).toNat)
 case atStart=>exact⟨0,some ⟨w.heap.size+1,0,none⟩,0,Nat.zero_le _,rfl,rfl,by simp,l.out⟩
 case round=>
  clear l
  obtain⟨k,q5,c5,hk,rfl,rfl,j,hM⟩:=hrel
  have HM:=hM
  have HL:=xQ j
  clear hM j
  by_cases hlt:k<m
  ·obtain⟨b,r,c0,c1,c4,c3,rfl,hx,hb,g0,g1,g2,g3⟩:=dW (HS.out.ext HM.ext) hlt
   have g:w.heap.size<wr.heap.size:=(HM.hi 1)
   have b0:=(HM.bk 1).cl 0
   have b1:=(HM.bk 1).cl 1
   have b2:=(HM.bk 1).cl 2
   have b3:=(HM.bk 1).cl 3
   have HX:=xQ hx
   clear hx
   have i1:(0:Int)≤(k:Int):=by omega
   have i2:(k:Int)<(m:Int):=by omega
   have i3:(k:Int)≤(m:Int):=by omega
   by_cases hy:c0<id
   ·have d:Hid (∀z∈vs.take (k+1),z.1<id):=by
     show∀z∈vs.take (k+1),z.1<id
     rw[bD HX.out]
     intro z hz
     rcases List.mem_append.1 hz with h|h
     ·exact HL z h
     ·simp at h;subst h;exact hy
    have hd:decide (c0<id)=true:=by simp[hy]
    go_wp2
    go_quiet (fail)
    generalize c:World.drewN wr _=wi
    have hX:Ext wr wi:=by rw[←c];exact Ext.drewN (Ext.refl _) _
    clear c b0 b1 b2 b3 g hd
    have a:=(HM.adv hX)
    clear HM
    have f:=a.hi 1
    have d0:=(a.bk 1).cl 0
    have d1:=(a.bk 1).cl 1
    have d2:=(a.bk 1).cl 2
    have d3:=(a.bk 1).cl 3
    have e0:=(hX.cells.1 _ _ hb).trans g0
    have e1:=(hX.cells.1 _ _ hb).trans g1
    have e2:=(hX.cells.1 _ _ hb).trans g2
    have e3:=(hX.cells.1 _ _ hb).trans g3
    have t:b<wi.heap.size:=Nat.lt_of_lt_of_le hb hX.sz
    clear hX g0 g1 g2 g3 hb
    go_wp2_with (at_builtin;go_loud (refine cJ rR rfl _ _ rfl (a.adv ((Ext.refl _).alloc (.cells #[c0,c1,c4,c3] TV))) 0 rfl rfl (aE (c0,c1,c4,c3)) rfl (dY _ _ _ 1 4 _ (by simp) (by simp) (by simp[maxLen])) (oB _) (by omega) ?_;intro q7 c7 w6 M6))
    have M7:=(show Mem w w6 [aJ w.heap.size TV 4 (q7) (k+1) (c7) ((vs.take k).flatMap aE++aE (c0,c1,c4,c3)),aI w.heap.size (w.heap.size) TV #[id,a1,a2,a3]]from M6)
    have n:Hid ((vs.take k).flatMap aE++aE (c0,c1,c4,c3)=(vs.take (k+1)).flatMap aE):=by show _=_;rw[bD HX.out,List.flatMap_append];simp
    rw[n.out]at M7
    clear n M6
    go_roundw
    case rel=>exact⟨k+1,q7,c7,by omega,by go_num,rfl,d.out,M7⟩
    case measure=>simp[intOf];omega
   ·have d:Hid (jY (id,a1,a2,a3) vs=vs.take k++(id,a1,a2,a3)::vs.drop k):=pW _ vs k HL (fun z hz=>by rw[HX.out]at hz;injection hz with hz;subst hz;exact hy)
    have s: ¬c2=k:=by omega
    have hd:decide (c0<id)=false:=by simp[hy]
    clear HX HL
    go_wp2
    go_quiet (fail)
    generalize c:World.drewN wr _=wi
    have hX:Ext wr wi:=by rw[←c];exact Ext.drewN (Ext.refl _) _
    clear c b0 b1 b2 b3 g hd
    have a:=(HM.adv hX)
    clear HM
    have f:=a.hi 1
    have d0:=(a.bk 1).cl 0
    have d1:=(a.bk 1).cl 1
    have d2:=(a.bk 1).cl 2
    have d3:=(a.bk 1).cl 3
    clear hX g0 g1 g2 g3 hb hy
    go_wp2
    go_region_law ((first
     |(refine fN rR (by rfl) _ _ (by rfl) (a.adv (by exact .drew (.alloc (.refl _) _))) 0 (by rfl) (by rfl) (aE (id,a1,a2,a3)) (by rfl) (by first|exact dY wi #[id,a1,a2,a3] _ 1 4 _ rfl (by simp) (by simp[maxLen])|exact(dY wi #[id,a1,a2,a3] _ 1 4 _ rfl (by simp) (by simp[maxLen])).ext (Ext.drew (Ext.refl _))|exact dY wi.drew #[id,a1,a2,a3] _ 1 4 _ rfl (by simp) (by simp[maxLen])) (oB _) (by omega) ?_
       intro q7 c7 w6 M6
       have M7:=(show Mem w w6 [aJ w.heap.size TV 4 (q7) (k+1) (c7) ((vs.take k).flatMap aE++aE (id,a1,a2,a3)),aI w.heap.size (w.heap.size) TV #[id,a1,a2,a3]]from M6)
       clear M6)
     |(refine fN rR (by rfl) _ _ (by rfl) (M7.adv (by exact .refl _)) 0 (by rfl) (by rfl) ((vs.drop k).flatMap aE) (by rfl) (jT k vs▸aAd (HS.out.ext (M7.ext.trans (by exact .refl _))) (by omega)) (eJ _) (by omega) ?_
       intro q9 c9 w9 M9
       have M9:=xQ (show Mem w w9 [aJ w.heap.size TV 4 (q9) (k+1+(m-k)) (c9) (((vs.take k).flatMap aE++aE (id,a1,a2,a3))++(vs.drop k).flatMap aE),aI w.heap.size (w.heap.size) TV #[id,a1,a2,a3]]from M9))))
    all_goals (
     have e1:k+1+(m-k)=m+1:=by omega
     have e2:((vs.take k).flatMap aE++aE (id,a1,a2,a3))++(vs.drop k).flatMap aE=(vs.take k++(id,a1,a2,a3)::vs.drop k).flatMap aE:=by simp
     have MZ:=(show Mem w w9 [aJ w.heap.size TV 4 (q9) (m+1) (c9) ((vs.take k++(id,a1,a2,a3)::vs.drop k).flatMap aE),aI w.heap.size (w.heap.size) TV #[id,a1,a2,a3]]from by have:=M9.out;rw[e2]at this;simpa only[e1]using this)
     clear e2 M9 M7)
    all_goals go_wp2
    all_goals exact bodyPost_ret (v:= .slice q9 (m+1) c9) (by simp[results,Tryz.results72,go_sem, *]) rfl ⟨q9,c9,rfl,by rw[d.out];exact MZ.ow 0,MZ.ext⟩
  ·obtain rfl:k=m:=by omega
   have g:w.heap.size<wr.heap.size:=(HM.hi 1)
   have b0:=(HM.bk 1).cl 0
   have b1:=(HM.bk 1).cl 1
   have b2:=(HM.bk 1).cl 2
   have b3:=(HM.bk 1).cl 3
   have d:Hid (jY (id,a1,a2,a3) vs=vs.take k++(id,a1,a2,a3)::vs.drop k):=pW _ vs k HL (fun z hz=>by rw[List.getElem?_eq_none (by rw[hl.out];exact Nat.le_refl _)]at hz;cases hz)
   have p:Hid (vs.drop k= []):=List.drop_eq_nil_of_le (by rw[hl.out];exact Nat.le_refl _)
   have i1:(0:Int)≤(k:Int):=by omega
   clear HL
   go_wp2
   go_quiet (fail)
   generalize c:World.drewN wr _=wi
   have hX:Ext wr wi:=by rw[←c];exact Ext.drewN (Ext.refl _) _
   clear c b0 b1 b2 b3 g
   have a:=(HM.adv hX)
   clear HM
   have f:=a.hi 1
   have d0:=(a.bk 1).cl 0
   have d1:=(a.bk 1).cl 1
   have d2:=(a.bk 1).cl 2
   have d3:=(a.bk 1).cl 3
   clear hX
   go_wp2
   go_region_law ((first
    |(refine fN rR (by rfl) _ _ (by rfl) (a.adv (by exact .drew (.alloc (.refl _) _))) 0 (by rfl) (by rfl) (aE (id,a1,a2,a3)) (by rfl) (by first|exact dY wi #[id,a1,a2,a3] _ 1 4 _ rfl (by simp) (by simp[maxLen])|exact(dY wi #[id,a1,a2,a3] _ 1 4 _ rfl (by simp) (by simp[maxLen])).ext (Ext.drew (Ext.refl _))|exact dY wi.drew #[id,a1,a2,a3] _ 1 4 _ rfl (by simp) (by simp[maxLen])) (oB _) (by omega) ?_
      intro q7 c7 w6 M6
      have M7:=(show Mem w w6 [aJ w.heap.size TV 4 (q7) (k+1) (c7) ((vs.take k).flatMap aE++aE (id,a1,a2,a3)),aI w.heap.size (w.heap.size) TV #[id,a1,a2,a3]]from M6)
      clear M6)
    |(refine fN rR (by rfl) _ _ (by rfl) (M7.adv (by exact .refl _)) 0 (by rfl) (by rfl) (([]:List aP).flatMap aE) (by rfl) (⟨by simp,Nat.zero_le _,by have:=HS.out.mx;omega,fun h=>absurd h (by omega)⟩) (eJ _) (by omega) ?_
      intro q9 c9 w9 M9
      have M9:=xQ (show Mem w w9 [aJ w.heap.size TV 4 (q9) (k+1+0) (c9) (((vs.take k).flatMap aE++aE (id,a1,a2,a3))++([]:List aP).flatMap aE),aI w.heap.size (w.heap.size) TV #[id,a1,a2,a3]]from M9))))
   all_goals (
    have e1:k+1+0=k+1:=by omega
    have e2:((vs.take k).flatMap aE++aE (id,a1,a2,a3))++([]:List aP).flatMap aE=(vs.take k++(id,a1,a2,a3)::vs.drop k).flatMap aE:=by simp[p.out]
    have MZ:=(show Mem w w9 [aJ w.heap.size TV 4 (q9) (k+1) (c9) ((vs.take k++(id,a1,a2,a3)::vs.drop k).flatMap aE),aI w.heap.size (w.heap.size) TV #[id,a1,a2,a3]]from by have:=M9.out;rw[e2]at this;simpa only[e1]using this)
    clear e2 M9 M7)
   all_goals go_wp2
   all_goals exact bodyPost_ret (v:= .slice q9 (k+1) c9) (by simp[results,Tryz.results72,go_sem, *]) rfl ⟨q9,c9,rfl,by rw[d.out];exact MZ.ow 0,MZ.ext⟩
def vix (id:Int)(vs:List aP):Int:=if vs.any (fun v=>v.1==id)then(vs.findIdx (fun v=>v.1==id):Int)else -1
theorem aEd {id:Int}{vs:List aP}{k:Nat}{v:aP}(hv:vs[k]? =some v) (h:v.1=id) (hp:(vs.take k).any (fun v=>v.1==id)=false):vix id vs=k:=by
 have a:k<vs.length:=(List.getElem?_eq_some_iff.1 hv).1
 have e:vs[k]=v:=by have:=(List.getElem?_eq_some_iff.1 hv).2;exact this
 have ha:vs.any (fun v=>v.1==id)=true:=List.any_eq_true.2 ⟨v,List.mem_of_getElem? hv,by simp[h]⟩
 have hi:vs.findIdx (fun v=>v.1==id)=k:=by
  rw[List.findIdx_eq a]
  refine⟨by simp[e,h],fun j hj=> ?_⟩
  have:=List.any_eq_false.1 hp vs[j] (by
   rw[List.mem_take_iff_getElem];exact⟨j,by omega,rfl⟩)
  simpa using this
 unfold vix;rw[if_pos ha,hi]
theorem tL {id:Int}{vs:List aP}(hp:vs.any (fun v=>v.1==id)=false):vix id vs= -1:=by unfold vix;simp[hp]
theorem aBv {id:Int}{vs:List aP}{k:Nat}{v:aP}(hv:vs[k]? =some v) (h: ¬v.1=id) (hp:(vs.take k).any (fun v=>v.1==id)=false):(vs.take (k+1)).any (fun v=>v.1==id)=false:=by
 rw[bD hv,List.any_append,hp];simp[h]
theorem lT (id:Int)(vs:List aP):(vix id vs= -1∧bS id vs=none)∨ ∃(k:Nat) (a1 a2 a3:Int),k<vs.length∧vix id vs=k∧vs[k]? =some (id,a1,a2,a3)∧bS id vs=some (id,a1,a2,a3):=by
 cases h:vs.any (fun v=>v.1==id)with
 |false=>exact .inl ⟨tL h,by unfold bS;rw[List.find?_eq_none];simpa using h⟩
 |true=>
  right
  have a:vs.findIdx (fun v=>v.1==id)<vs.length:=List.findIdx_lt_length.2 (by simpa using h)
  have hg:=List.findIdx_getElem (w:=a)
  have hf:bS id vs=some (vs[vs.findIdx (fun v=>v.1==id)]):=by
   unfold bS
   rw[List.find?_eq_some_iff_getElem]
   exact⟨hg,_,a,rfl,fun j hj=>by simpa using List.not_of_lt_findIdx hj⟩
  have h0:vs[vs.findIdx (fun v=>v.1==id)].1=id:=by simpa using hg
  generalize hb:vs[vs.findIdx (fun v=>v.1==id)]=v at*
  obtain⟨b0,b1,b2,b3⟩:=v
  dsimp only at h0
  subst h0
  exact⟨_,b1,b2,b3,a,by unfold vix;rw[if_pos h],by rw[List.getElem?_eq_getElem a,hb],hf⟩
theorem vL (B:Nat)(q:OA)(m c2:Nat)(vs:List aP)(id:Int)(w:World)(hS:Sl w q m c2 4 (vs.flatMap aE))(hB:B<w.heap.size)(hc:w.cell? ⟨B,0,none⟩=some (.int .i64 id)):
  Calls Tryz.prog 137 #[.slice q m c2,.func (.func 138) #[] #[.pointer (some ⟨B,0,none⟩)]] w fun e w'=>e= .returned (.int .i64 (vix id vs))∧Ext w w':=by
 have hn:=hS.bd
 have HS:=xQ hS
 have hl:Hid (vs.length=m):=by
  have:=hS.len;rw[dD aE 4 (fun _=>rfl)]at this;exact(by omega:vs.length=m)
 clear hS
 go_enter Tryz.func137,Tryz.ntmps137
 go_wp2
 go_loopw [8] (fun i wr=> ∃k:Nat,k≤m∧i= .int .i64 k∧(vs.take k).any (fun v=>v.1==id)=false∧Ext w wr∧w.heap.size≤wr.heap.size∧wr.cell? ⟨B,0,none⟩=some (.int .i64 id)) (fun i _=>m-(intOf i).toNat)
 case atStart=>exact⟨0,Nat.zero_le _,rfl,by simp,by exact .refl _,by simp,by simpa using hc⟩
 case round=>
  obtain⟨k,hk,rfl,hp,hE,g,d⟩:=hrel
  have HP:=xQ hp
  clear hp
  by_cases hlt:k<m
  ·obtain⟨b,f,a0,a1,a2,a3,rfl,hv,hb,g0,g1,g2,g3⟩:=dW (HS.out.ext hE) hlt
   have HV:=xQ hv
   clear hv
   have c:(wr.alloc (.cells #[a0,a1,a2,a3] 68)).cell? ⟨B,0,none⟩=some (.int .i64 id):=by rw[((Ext.refl wr).alloc _).cells.1 _ _ (by omega)];exact d
   by_cases t:a0=id
   ·have q0:(a0==id)=true:=by simp[t]
    have a:Hid (vix id vs=k):=aEd HV t HP.out
    clear t
    go_wp2_with go_in
    go_ret
    exact⟨by rw[a.out];rfl,by exact .alloc hE _⟩
   ·have q0:(a0==id)=false:=by simp[t]
    have a:Hid ((vs.take (k+1)).any (fun v=>v.1==id)=false):=aBv HV t HP.out
    clear t
    go_wp2_with go_in
    go_roundw
    case rel=>exact⟨k+1,by omega,by go_num,a.out,by exact .alloc hE _,by simp;omega,c⟩
    case measure=>simp[intOf];omega
  ·have a:Hid (vix id vs= -1):=tL (by have:=HP.out;rwa[List.take_of_length_le (by rw[hl.out];omega)]at this)
   go_wp2
   go_ret
   exact⟨by rw[a.out];rfl,by exact hE⟩
theorem iQ (aA aB free step aD aG aC aF id:Int)(p:OA)(n cap:Nat)(q:OA)(m c2:Nat)(vs:List aP)(w:World)(hS:Sl w q m c2 4 (vs.flatMap aE)):
  Calls Tryz.prog 94 #[.agg #[aA,aB,.slice p n cap,free,step,aD,aG,aC,aF,.slice q m c2],id] w fun e w'=>e= .returned (.int .i64 (vix id vs))∧Ext w w':=by
 have HI:Hid (∀w1 B,Ext w w1→B<w1.heap.size→w1.cell? ⟨B,0,none⟩=some (.int .i64 id)→Calls Tryz.prog 137 #[.slice q m c2,.func (.func 138) #[] #[.pointer (some ⟨B,0,none⟩)]] w1 fun e w'=>e= .returned (.int .i64 (vix id vs))∧Ext w1 w'):=
  fun w1 B hx hB hc=>vL B q m c2 vs id w1 (hS.ext hx) hB hc
 clear hS
 go_enter Tryz.func94,Tryz.ntmps94
 go_wp2_with fail
 refine(HI _ _ (by exact .alloc (.alloc (.refl _) _) _) (by simp) (by simp)).mono ?_
 rintro e w1 ⟨rfl,h1⟩
 go_wp2
 go_ret
 exact⟨rfl,by exact .trans (.alloc (.alloc (.refl _) _) _) h1⟩
theorem pJ (aA aB free step aD aG aC aF id:Int)(p:OA)(n cap:Nat)(q:OA)(m c2:Nat)(vs:List aP)(w:World)(hS:Sl w q m c2 4 (vs.flatMap aE)):
  Calls Tryz.prog 75 #[.agg #[aA,aB,.slice p n cap,free,step,aD,aG,aC,aF,.slice q m c2],id] w fun e w'=>e= .returned (.int .i64 (vix id vs))∧Ext w w':=by
 have hn:=hS.bd
 have HS:=xQ hS
 have hl:Hid (vs.length=m):=by
  have:=hS.len;rw[dD aE 4 (fun _=>rfl)]at this;exact(by omega:vs.length=m)
 clear hS
 go_enter Tryz.func75,Tryz.ntmps75
 go_wp2
 go_loop [5] (fun i=> ∃k:Nat,k≤m∧i= .int .i64 k∧(vs.take k).any (fun v=>v.1==id)=false) (fun i=>m-(intOf i).toNat)
 case atStart=>exact⟨0,Nat.zero_le _,rfl,by simp⟩
 case round=>
  obtain⟨k,hk,rfl,hp⟩:=hrel
  have HP:=xQ hp
  clear hp
  by_cases hlt:k<m
  ·obtain⟨b,c,a0,a1,a2,a3,rfl,hv,hb,g0,g1,g2,g3⟩:=dW HS hlt
   have HV:=xQ hv
   clear hv
   by_cases t:a0=id
   ·have q0:(a0==id)=true:=by simp[t]
    have a:Hid (vix id vs=k):=aEd HV t HP.out
    clear t
    go_wp2
    go_ret
    exact⟨by rw[a.out];rfl,by exact .alloc (.refl _) _⟩
   ·have q0:(a0==id)=false:=by simp[t]
    have a:Hid ((vs.take (k+1)).any (fun v=>v.1==id)=false):=aBv HV t HP.out
    clear t
    go_wp2
    go_round
    case rel=>exact⟨k+1,by omega,by go_num,a.out⟩
    case measure=>simp[intOf];omega
  ·have a:Hid (vix id vs= -1):=tL (by have:=HP.out;rwa[List.take_of_length_le (by rw[hl.out];omega)]at this)
   go_wp2
   go_ret
   exact⟨by rw[a.out];rfl,by exact .alloc (.refl _) _⟩
abbrev TT4:TypeId:=32
abbrev TS3:TypeId:=66
def eU (f s p c i pd a now amt:Int):(Int×Int×Int)×Int×Bool:=
 if 1≤amt∧amt≤300 then
  (if bQ f s p c i pd a now=0 then((i,pd,a),amt,false)else((i,pd+min (bQ f s p c i pd a now) amt,now),amt-min (bQ f s p c i pd a now) amt,true))
 else((0,0,0),amt,false)
theorem jE {f s p c i pd a now:Int}(h:aY f s p c=true)(h2:cS i pd a=true)(h3:a≤now)(h4:now≤9999):0≤bQ f s p c i pd a now∧bQ f s p c i pd a now≤693:=by
 obtain⟨b1,b2,b3,b4,b5,b6⟩:=eK h2
 have hb:=nS (m:=now-i) h (by omega) (by omega)
 unfold bQ
 rw[if_pos (by simp[h,h2,h3,h4])]
 omega
theorem aFd (i pd a now f s p c amt D:Int)(w:World)(hD:0≤D)(hD2:D≤693)(hp0:0≤pd)(hp:pd≤9999)
  (HD:Hid (∀w,Calls Tryz.prog 133 #[aR f s p c,bP i pd a,now] w fun e w'=>e= .returned (.int .i64 D)∧Ext w w'))
  (HI:Hid (∀w,Calls Tryz.prog 77 #[amt,.int .i64 1,.int .i64 300] w fun e w'=>e= .returned (.bool false)∧w=w'))(ha:amt<1∨300<amt):
  Calls Tryz.prog 122 #[aR f s p c,bP i pd a,now,amt] w fun e w'=>e= .returned (.tuple #[bP 0 0 0,amt,.bool false])∧Ext w w':=by
 go_enter Tryz.func122,Tryz.ntmps122
 go_wp2_with fail
 refine(HD _).mono ?_
 rintro e w1 ⟨rfl,h⟩
 have M1:=(((((Mem.start w).bn TT4 #[f,s,p,c] (w.heap.size)).bn TS3 #[i,pd,a] (w.heap.size+1)).bn TS3 #[(),(),()] (w.heap.size+1+1)).adv h)
 have b:=M1.hi 0
 have d:=M1.hi 1
 have g:=M1.hi 2
 clear h
 go_wp2_with fail
 refine(HI _).mono ?_
 rintro e _ ⟨rfl,rfl⟩
 obtain⟨c0,c1,c2⟩:=(M1.bk 1).tri
 obtain⟨d0,d1,d2⟩:=(M1.bk 0).tri
 have m:=(M1.bk 0).frozen 0
 have n:=(M1.bk 0).frozen 1
 have j:=(M1.bk 0).frozen 2
 clear HD HI
 go_wp2
 clear c0 c1 c2 d0 d1 d2 m n j
 have M2:=(((M1.st 0 0 (.int .i64 0)).st 0 1 (.int .i64 0)).st 0 2 (.int .i64 0))
 generalize World.setCell _ _ _=wz at M2⊢
 clear M1 b d g
 have k:=M2.hi 0
 have l:=M2.hi 1
 have o:=M2.hi 2
 obtain⟨y0,y1,y2⟩:=(M2.bk 0).tri
 exact bodyPost_ret (v:= .tuple #[.agg #[(),(),()],amt,.bool false]) (by simp[results,Tryz.results122,go_sem, *]) rfl ⟨rfl,M2.ext⟩
theorem zU (i pd a now f s p c amt:Int)(w:World)(hp0:0≤pd)(hp:pd≤9999)
  (HD:Hid (∀w,Calls Tryz.prog 133 #[aR f s p c,bP i pd a,now] w fun e w'=>e= .returned (.int .i64 0)∧Ext w w'))
  (HI:Hid (∀w,Calls Tryz.prog 77 #[amt,.int .i64 1,.int .i64 300] w fun e w'=>e= .returned (.bool true)∧w=w'))(ha:1≤amt)(hb:amt≤300):
  Calls Tryz.prog 122 #[aR f s p c,bP i pd a,now,amt] w fun e w'=>e= .returned (.tuple #[bP i pd a,amt,.bool false])∧Ext w w':=by
 go_enter Tryz.func122,Tryz.ntmps122
 go_wp2_with fail
 refine(HD _).mono ?_
 rintro e w1 ⟨rfl,h⟩
 have M1:=(((((Mem.start w).bn TT4 #[f,s,p,c] (w.heap.size)).bn TS3 #[i,pd,a] (w.heap.size+1)).bn TS3 #[(),(),()] (w.heap.size+1+1)).adv h)
 have b:=M1.hi 0
 have d:=M1.hi 1
 have g:=M1.hi 2
 clear h
 go_wp2_with fail
 refine(HI _).mono ?_
 rintro e _ ⟨rfl,rfl⟩
 obtain⟨c0,c1,c2⟩:=(M1.bk 1).tri
 obtain⟨d0,d1,d2⟩:=(M1.bk 0).tri
 have m:=(M1.bk 0).frozen 0
 have n:=(M1.bk 0).frozen 1
 have j:=(M1.bk 0).frozen 2
 clear HD HI
 go_wp2
 clear c0 c1 c2 d0 d1 d2 m n j
 have M2:=(((M1.st 0 0 (.int .i64 i)).st 0 1 (.int .i64 pd)).st 0 2 (.int .i64 a))
 generalize World.setCell _ _ _=wz at M2⊢
 clear M1 b d g
 have k:=M2.hi 0
 have l:=M2.hi 1
 have o:=M2.hi 2
 obtain⟨y0,y1,y2⟩:=(M2.bk 0).tri
 exact bodyPost_ret (v:= .tuple #[.agg #[i,pd,a],amt,.bool false]) (by simp[results,Tryz.results122,go_sem, *]) rfl ⟨rfl,M2.ext⟩
theorem aC4 (i pd a now f s p c amt D:Int)(w:World)(hD:0≤D)(hD2:D≤693)(hp0:0≤pd)(hp:pd≤9999)
  (HD:Hid (∀w,Calls Tryz.prog 133 #[aR f s p c,bP i pd a,now] w fun e w'=>e= .returned (.int .i64 D)∧Ext w w'))
  (HI:Hid (∀w,Calls Tryz.prog 77 #[amt,.int .i64 1,.int .i64 300] w fun e w'=>e= .returned (.bool true)∧w=w'))(ha:1≤amt)(hb:amt≤300)(hD1:1≤D):
  Calls Tryz.prog 122 #[aR f s p c,bP i pd a,now,amt] w fun e w'=>e= .returned (.tuple #[bP i (pd+min D amt) now,(amt-min D amt:Int),.bool true])∧Ext w w':=by
 go_enter Tryz.func122,Tryz.ntmps122
 go_wp2_with fail
 refine(HD _).mono ?_
 rintro e w1 ⟨rfl,h⟩
 have M1:=(((((Mem.start w).bn TT4 #[f,s,p,c] (w.heap.size)).bn TS3 #[i,pd,a] (w.heap.size+1)).bn TS3 #[(),(),()] (w.heap.size+1+1)).adv h)
 have b:=M1.hi 0
 have d:=M1.hi 1
 have g:=M1.hi 2
 clear h
 go_wp2_with fail
 refine(HI _).mono ?_
 rintro e _ ⟨rfl,rfl⟩
 obtain⟨c0,c1,c2⟩:=(M1.bk 1).tri
 obtain⟨d0,d1,d2⟩:=(M1.bk 0).tri
 have m:=(M1.bk 0).frozen 0
 have n:=(M1.bk 0).frozen 1
 have j:=(M1.bk 0).frozen 2
 clear HD HI
 have k1:IntKind.i64.wrap (pd+min D amt)=pd+min D amt:=IntWalk.i64_in _ (by omega)
 have k2:IntKind.i64.wrap (amt-min D amt)=amt-min D amt:=IntWalk.i64_in _ (by omega)
 have q:(D==0)=false:=by simp;omega
 go_wp2
 clear c0 c1 c2 d0 d1 d2 m n j
 have M2:=(((M1.st 0 0 (.int .i64 i)).st 0 1 (.int .i64 (pd+min D amt))).st 0 2 (.int .i64 now))
 generalize World.setCell _ _ _=wz at M2⊢
 clear M1 b d g
 have k:=M2.hi 0
 have l:=M2.hi 1
 have o:=M2.hi 2
 obtain⟨y0,y1,y2⟩:=(M2.bk 0).tri
 exact bodyPost_ret (v:= .tuple #[.agg #[i,(pd+min D amt:Int),now],(amt-min D amt:Int),.bool true]) (by simp[results,Tryz.results122,go_sem, *]) rfl ⟨rfl,M2.ext⟩
theorem aAj (f s p c i pd a now amt:Int)(w:World)(h:aY f s p c=true)(h2:cS i pd a=true)(h3:a≤now)(h4:now≤9999):
  Calls Tryz.prog 122 #[aR f s p c,bP i pd a,now,amt] w fun e w'=>e= .returned (.tuple #[bP (eU f s p c i pd a now amt).1.1 (eU f s p c i pd a now amt).1.2.1 (eU f s p c i pd a now amt).1.2.2,.int .i64 (eU f s p c i pd a now amt).2.1,.bool (eU f s p c i pd a now amt).2.2])∧Ext w w':=by
 obtain⟨b1,b2,b3,b4,b5,b6⟩:=eK h2
 obtain⟨e1,e2⟩:=jE h h2 h3 h4
 have HD:=xQ (fun w=>xP f s p c i pd a now w h h2 h3 h4)
 unfold eU
 generalize bQ f s p c i pd a now=D at*
 by_cases ha:1≤amt∧amt≤300
 ·have HI:Hid (∀w,Calls Tryz.prog 77 #[amt,.int .i64 1,.int .i64 300] w fun e w'=>e= .returned (.bool true)∧w=w'):=fun w=>lZ amt 1 300 w ha.1 ha.2
  rw[if_pos ha]
  by_cases hd:D=0
  ·subst hd
   rw[if_pos rfl]
   exact zU i pd a now f s p c amt w b3 b4 HD HI ha.1 ha.2
  ·rw[if_neg hd]
   exact aC4 i pd a now f s p c amt D w e1 e2 b3 b4 HD HI ha.1 ha.2 (by omega)
 ·have HI:Hid (∀w,Calls Tryz.prog 77 #[amt,.int .i64 1,.int .i64 300] w fun e w'=>e= .returned (.bool false)∧w=w'):=fun w=>tG amt 1 300 w (by omega)
  rw[if_neg ha]
  exact aFd i pd a now f s p c amt D w e1 e2 b3 b4 HD HI (by omega)
end Go.Proofs.YtgnkoffndhmhpaaGreatDoor
