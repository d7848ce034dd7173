/-
  Texts of this proof, packed (@packed).
-/
import Derived.Test.YtgnkoffndhmhpaaGreatDoorR18
namespace Go.Proofs.YtgnkoffndhmhpaaGreatDoor
open Go.RowKit
set_option linter.unusedVariables false
set_option maxHeartbeats 8000000
set_option maxRecDepth 100000
abbrev TV:TypeId:=68
abbrev kG (a b c d:Int):Value:= .agg #[a,b,c,d]
theorem aGw {xs:List Int}{k n:Nat}(h:k<n)(hl:(xs.take k).length=k):(ivs (xs.take k++List.replicate (n-k) 0))[k]? =some (.int .i64 0):=by
 simp only[ivs,List.map_append]
 rw[List.getElem?_append_right (by rw[List.length_map,hl];exact Nat.le_refl _),List.length_map,hl,Nat.sub_self]
 rw[show n-k=(n-(k+1))+1 by omega,List.replicate_succ];rfl
theorem aFs {xs:List Int}{k n:Nat}{x:Int}(h:k<n)(hx:xs[k]? =some x) (hl:(xs.take k).length=k):(ivs (xs.take k++List.replicate (n-k) 0)).set k (.int .i64 x)=ivs (xs.take (k+1)++List.replicate (n-(k+1)) 0):=by
 rw[bF hx]
 rw[show n-k=(n-(k+1))+1 by omega,List.replicate_succ]
 simp only[ivs,List.map_append,List.map_cons]
 rw[List.set_append_right _ _ (by rw[List.length_map,hl];exact Nat.le_refl _)]
 simp only[List.length_map,hl,Nat.sub_self,List.set_cons_zero]
 simp[iv]
theorem aA5 (p:OA)(n cap:Nat)(xs:List Int)(w:World)(hn:n≤1099511627776)(hS:Sl w p n cap 1 (ivs xs)):
  Calls Tryz.prog 98 #[.slice p n cap] w (aY xs w):=by
 obtain⟨i0,hi,hz0,hz1,hz2⟩:=info_parts (show(Tryz.prog.info? 3).map (fun i=>(i.zero,i.size,i.bytes))=some (some (.int .i64 0),1,8) by kernel_rfl)
 have hl:=xQ hS.ilen
 have HS:=xQ hS
 clear hS
 go_enter Tryz.func98,Tryz.ntmps98
 go_wp2_with (at_make;refine wpList_make_full _ rfl _ _ 22 rfl w.heap.size 3 i0 (.int .i64 0) 1 Tryz.underlying22 hi hz0 hz1 .i64 .i64 _ _ n rfl rfl rfl rfl (by rw[hz2];omega) (by unfold maxLen;omega) (Nat.le_refl _) ?_;intro w0 hown0 hgrow0)
 have hE0:Ext w w0:=(Ext.refl w).grown hgrow0 (fun q hq=>by cases hq)
 have hg0:=(hown0.lt w.heap.size rfl).2
 rw[aDs]at hown0
 have HO0:=xQ hown0
 clear hown0 hgrow0 hi hz0 hz1 hz2
 go_loopw [4] (fun i wr=> ∃k:Nat,k≤n∧i= .int .i64 k∧wr.ownsRow w.heap.size TI 1 (.slice (some ⟨w.heap.size,0,none⟩) n n) n (ivs (xs.take k++List.replicate (n-k) 0))∧Ext w wr) (fun i _=>n-(intOf i).toNat)
 case atStart=>exact⟨0,Nat.zero_le _,rfl,by simpa using HO0.out,hE0⟩
 case round=>
  obtain⟨k,hk,rfl,hown,hE⟩:=hrel
  by_cases hlt:k<n
  ·obtain⟨b,off,x,rfl,hx,hb,hcell⟩:=(HS.out.ext hE).int_at hlt
   have HX:=xQ hx
   have hlt':(xs.take k).length=k:=by rw[List.length_take,hl.out];omega
   have o0:wr.cell? ⟨w.heap.size,k,none⟩=some (.int .i64 0):=by
    rw[hown.cellAt k (by omega)]
    exact aGw hlt hlt'
   have f0:wr.frozen? ⟨w.heap.size,k,none⟩=false:=hown.frozenAt k
   have HN:Hid ((wr.setCell ⟨w.heap.size,k,none⟩ (.int .i64 x)).ownsRow w.heap.size TI 1 (.slice (some ⟨w.heap.size,0,none⟩) n n) n (ivs (xs.take (k+1)++List.replicate (n-(k+1)) 0))):=by
    have:=(hown.stored k (.int .i64 x)).1
    rw[aFs hlt HX.out hlt']at this
    exact this
   have hsz:=hE.sz
   clear hown hx
   go_wp2
   go_roundw
   case rel=>exact⟨k+1,by omega,by go_num,HN.out,xE⟩
   case measure=>simp[intOf];omega
  ·obtain rfl:k=n:=by omega
   have e:xs.take k=xs:=List.take_of_length_le (by rw[hl.out];exact Nat.le_refl _)
   have HO:=xQ (show wr.ownsRow w.heap.size TI 1 (.slice (some ⟨w.heap.size,0,none⟩) k k) k (ivs xs) by rw[e]at hown;simpa using hown)
   clear hown e
   go_wp2
   go_ret
   exact cQ hl.out HO.out hE
theorem aBy (p q:OA)(n c1 c2:Nat)(xs:List Int)(w:World)(h1:Sl w p n c1 1 (ivs xs))(h2:Sl w q n c2 1 (ivs xs)):
  Calls Tryz.prog 100 #[.slice p n c1,.slice q n c2] w fun e w'=>e= .returned (.bool true)∧Ext w w':=by
 have hn:=h1.bd
 have H1:=xQ h1
 have H2:=xQ h2
 clear h1 h2
 go_enter Tryz.func100,Tryz.ntmps100
 go_wp2
 go_loopw [5] (fun i wr=> ∃k:Nat,k≤n∧i= .int .i64 k∧Ext w wr) (fun i _=>n-(intOf i).toNat)
 case atStart=>exact⟨0,Nat.zero_le _,rfl,Ext.refl _⟩
 case round=>
  obtain⟨k,hk,rfl,hE⟩:=hrel
  by_cases hlt:k<n
  ·obtain⟨b,off,x,rfl,hx,hb,hcell⟩:=(H1.out.ext hE).int_at hlt
   obtain⟨b2,off2,y,rfl,hy,hb2,hcell2⟩:=(H2.out.ext hE).int_at hlt
   rw[hx]at hy
   injection hy with hy
   subst hy
   clear hx
   have i1:(0:Int)≤(k:Int):=by omega
   have i2:(k:Int)<(n:Int):=by omega
   go_wp2
   go_quiet (fail)
   go_wp2
   go_roundw
   case rel=>exact⟨k+1,by omega,by go_num,xE⟩
   case measure=>simp[intOf];omega
  ·go_wp2
   go_ret
   exact⟨rfl,hE⟩
theorem rB (p:OA)(n cap:Nat)(left:Int)(w:World)(hn:n≤9223372036854775807)(hl:0≤left)(hl2:left≤1048576):
  Calls Tryz.prog 97 #[.slice p n cap,left] w fun e w'=>e= .returned (.int .i64 (if left<n then -1 else left-n))∧w=w':=by
 by_cases h:left<n
 ·rw[if_pos h]
  go_enter Tryz.func97,Tryz.ntmps97
  go_wp2
  go_ret
  exact⟨rfl,rfl⟩
 ·rw[if_neg h]
  go_enter Tryz.func97,Tryz.ntmps97
  go_wp2
  go_ret
  exact⟨rfl,rfl⟩
theorem nU (p:OA)(n cap:Nat)(left:Int)(w:World)(hn:n≤9223372036854775807)(hl:0≤left)(hl2:left≤1048576):
  Calls Tryz.prog 49 #[.slice p n cap,left] w fun e w'=>e= .returned (.int .i64 (if left<n then -1 else left-n))∧w=w':=by
 by_cases h:left<n
 ·rw[if_pos h]
  go_enter Tryz.func49,Tryz.ntmps49
  go_wp2
  go_ret
  exact⟨rfl,rfl⟩
 ·rw[if_neg h]
  go_enter Tryz.func49,Tryz.ntmps49
  go_wp2
  go_ret
  exact⟨rfl,rfl⟩
theorem qC (h:aT)(p:OA)(n cap:Nat)(q:OA)(m c2:Nat)(w:World)(hn:n≤9223372036854775807)(hm:m≤9223372036854775807):
  Calls Tryz.prog 10 #[bS h p n cap q m c2,.int .i64 1048576] w fun e w'=>e= .returned (.int .i64 (if 1048576<n+m then -1 else 1048576-n-m))∧Ext w w':=by
 obtain⟨aA,aB,cells,free,step,aE,aF,aC,aG,vs⟩:=h
 by_cases h1:(1048576:Int)<n
 ·have HA:Hid (∀w,Calls Tryz.prog 97 #[.slice p n cap,.int .i64 1048576] w fun e w'=>e= .returned (.int .i64 (-1))∧w=w'):=fun w=>by have:=rB p n cap 1048576 w hn (by omega) (by omega);rwa[if_pos h1]at this
  rw[if_pos (by omega)]
  go_enter Tryz.func10,Tryz.ntmps10
  go_wp2_with (first|(go_at_call 97;refine(HA.out _).mono ?_;rintro e w1 ⟨rfl,rfl⟩)|go_in)
  go_ret
  exact⟨rfl,xE⟩
 ·have HA:Hid (∀w,Calls Tryz.prog 97 #[.slice p n cap,.int .i64 1048576] w fun e w'=>e= .returned (.int .i64 (1048576-n))∧w=w'):=fun w=>by have:=rB p n cap 1048576 w hn (by omega) (by omega);rwa[if_neg h1]at this
  by_cases h2:(1048576-n:Int)<m
  ·have HB:Hid (∀w,Calls Tryz.prog 49 #[.slice q m c2,(1048576-n:Int)] w fun e w'=>e= .returned (.int .i64 (-1))∧w=w'):=fun w=>by have:=nU q m c2 (1048576-n) w hm (by omega) (by omega);rwa[if_pos h2]at this
   rw[if_pos (by omega)]
   go_enter Tryz.func10,Tryz.ntmps10
   go_wp2_with (first|(go_at_call 97;refine(HA.out _).mono ?_;rintro e w1 ⟨rfl,rfl⟩)|(go_at_call 49;refine(HB.out _).mono ?_;rintro e w1 ⟨rfl,rfl⟩)|go_in)
   go_ret
   exact⟨rfl,xE⟩
  ·have HB:Hid (∀w,Calls Tryz.prog 49 #[.slice q m c2,(1048576-n:Int)] w fun e w'=>e= .returned (.int .i64 (1048576-n-m))∧w=w'):=fun w=>by have:=nU q m c2 (1048576-n) w hm (by omega) (by omega);rwa[if_neg h2]at this
   rw[if_neg (by omega)]
   go_enter Tryz.func10,Tryz.ntmps10
   go_wp2_with (first|(go_at_call 97;refine(HA.out _).mono ?_;rintro e w1 ⟨rfl,rfl⟩)|(go_at_call 49;refine(HB.out _).mono ?_;rintro e w1 ⟨rfl,rfl⟩)|go_in)
   go_ret
   exact⟨rfl,xE⟩
theorem uU (f s p c:Int)(w:World):Calls Tryz.prog 51 #[aR f s p c] w fun e w'=>e= .returned (aR f s p c)∧Ext w w':=by
 go_enter Tryz.func51,Tryz.ntmps51
 go_wp2
 exact bodyPost_ret (v:=aR f s p c) (by simp[results,Tryz.results51,go_sem]) rfl ⟨rfl,xE⟩
theorem wR (a b c d:Int)(w:World):Calls Tryz.prog 99 #[kG a b c d] w fun e w'=>e= .returned (kG a b c d)∧Ext w w':=by
 go_enter Tryz.func99,Tryz.ntmps99
 go_wp2_with go_in
 exact bodyPost_ret (v:=kG a b c d) (by simp[results,Tryz.results99,go_sem]) rfl ⟨rfl,xE⟩
theorem wL (f s p c:Int)(w:World):Calls Tryz.prog 54 #[aR f s p c,aR f s p c] w fun e w'=>e= .returned (.bool true)∧Ext w w':=by
 go_enter Tryz.func54,Tryz.ntmps54
 go_wp2
 go_ret
 exact⟨rfl,xE⟩
theorem aBx (a b c:Int)(w:World):Calls Tryz.prog 142 #[bL a b c,bL a b c] w fun e w'=>e= .returned (.bool true)∧Ext w w':=by
 go_enter Tryz.func142,Tryz.ntmps142
 go_wp2
 go_ret
 exact⟨rfl,xE⟩
theorem zQ (a b c d:Int)(w:World):Calls Tryz.prog 101 #[kG a b c d,kG a b c d] w fun e w'=>e= .returned (.bool true)∧Ext w w':=by
 go_enter Tryz.func101,Tryz.ntmps101
 go_wp2_with fail
 refine(aBx b c d _).mono ?_
 rintro e w1 ⟨rfl,h1⟩
 go_wp2
 go_ret
 exact⟨rfl,xE⟩
def uP (vs:List aQ)(w:World)(e:Ending)(w':World):Prop:=
 ∃p cap,e= .returned (.slice p vs.length cap)∧w'.ownsRow w.heap.size TV 4 (.slice p vs.length cap) vs.length (vs.flatMap aD)∧Ext w w'
theorem aAx {p:OA}{n cap:Nat}{vs:List aQ}{w w':World}(hn:vs.length=n)(ho:w'.ownsRow w.heap.size TV 4 (.slice p n cap) n (vs.flatMap aD))(hx:Ext w w'):uP vs w (.returned (.slice p n cap)) w':=by
 subst hn;exact⟨p,cap,rfl,ho,hx⟩
def vz:aQ:=(0,0,0,0)
theorem yL (n:Nat):(madeCells (kG 0 0 0 0).cells (n*4)).toList=(List.replicate n vz).flatMap aD:=by
 apply List.ext_getElem?
 intro j
 by_cases hj:j<n*4
 ·have h1:j/4<n:=by omega
  have hv:(List.replicate n vz)[j/4]? =some vz:=by simp[h1]
  have:=dQ aD 4 (fun _=>rfl) _ _ _ hv (j%4) (by omega)
  rw[show j/4*4+j%4=j by omega]at this
  rw[this]
  simp[madeCells,Value.cells,hj]
  have:j%4=0∨j%4=1∨j%4=2∨j%4=3:=by omega
  rcases this with h|h|h|h<;>simp[h,aD,vz]
 ·rw[List.getElem?_eq_none (by simp[madeCells];omega),List.getElem?_eq_none (by rw[cH aD 4 (fun _=>rfl)];simp;omega)]
theorem aD1 {vs:List aQ}{k n:Nat}{a b c d:Int}(h:k<n)(hx:vs[k]? =some (a,b,c,d)) (hl:(vs.take k).length=k):
  (((((vs.take k++List.replicate (n-k) vz).flatMap aD).set (k*4) (.int .i64 a)).set (k*4+1) (.int .i64 b)).set (k*4+2) (.int .i64 c)).set (k*4+3) (.int .i64 d)=(vs.take (k+1)++List.replicate (n-(k+1)) vz).flatMap aD:=by
 rw[bF hx,show n-k=(n-(k+1))+1 by omega,List.replicate_succ]
 have hf:((vs.take k).flatMap aD).length=k*4:=by rw[cH aD 4 (fun _=>rfl),hl]
 simp only[List.flatMap_append,List.flatMap_cons,List.append_assoc]
 generalize (vs.take k).flatMap aD=A at hf
 rw[List.set_append_right _ _ (by omega),List.set_append_right _ _ (by omega),List.set_append_right _ _ (by omega),List.set_append_right _ _ (by omega)]
 simp[hf,aD,vz]
theorem mG {vs:List aQ}{k n:Nat}(h:k<n)(hl:(vs.take k).length=k)(j:Nat)(hj:j<4):((vs.take k++List.replicate (n-k) vz).flatMap aD)[k*4+j]? =some (.int .i64 0):=by
 have hv:(vs.take k++List.replicate (n-k) vz)[k]? =some vz:=by
  rw[List.getElem?_append_right (by omega),hl,Nat.sub_self,List.getElem?_replicate,if_pos (by omega)]
 rw[dQ aD 4 (fun _=>rfl) _ _ _ hv j hj]
 match j,hj with
 |0,_=>rfl
 |1,_=>rfl
 |2,_=>rfl
 |3,_=>rfl
theorem uT (p:OA)(n cap:Nat)(vs:List aQ)(w:World)(hn:n≤1099511627776)(hS:Sl w p n cap 4 (vs.flatMap aD)):
  Calls Tryz.prog 52 #[.slice p n cap] w (uP vs w):=by
 obtain⟨i0,hi,hz0,hz1,hz2⟩:=info_parts (show(Tryz.prog.info? TV).map (fun i=>(i.zero,i.size,i.bytes))=some (some (kG 0 0 0 0),4,32) by kernel_rfl)
 have hl0:vs.length=n:=by have:=hS.len;rw[cH aD 4 (fun _=>rfl)]at this;omega
 have hl:=xQ hl0
 have HS:=xQ hS
 clear hS hl0
 go_enter Tryz.func52,Tryz.ntmps52
 go_wp2_with (at_make;refine wpList_make_full _ rfl _ _ 33 rfl w.heap.size TV i0 (kG 0 0 0 0) 4 Tryz.underlying33 hi hz0 hz1 .i64 .i64 _ _ n rfl rfl rfl rfl (by rw[hz2];omega) (by unfold maxLen;omega) (Nat.le_refl _) ?_;intro w0 hown0 hgrow0)
 have hE0:Ext w w0:=(Ext.refl w).grown hgrow0 (fun q hq=>by cases hq)
 have hg0:=(hown0.lt w.heap.size rfl).2
 rw[yL]at hown0
 have HO0:=xQ hown0
 clear hown0 hgrow0 hi hz0 hz1 hz2
 go_loopw [4] (fun i wr=> ∃k:Nat,k≤n∧i= .int .i64 k∧wr.ownsRow w.heap.size TV 4 (.slice (some ⟨w.heap.size,0,none⟩) n n) n ((vs.take k++List.replicate (n-k) vz).flatMap aD)∧Ext w wr) (fun i _=>n-(intOf i).toNat)
 case atStart=>exact⟨0,Nat.zero_le _,rfl,by rw[List.take_zero,List.nil_append,Nat.sub_zero];exact HO0.out,hE0⟩
 case round=>
  obtain⟨k,hk,rfl,hown,hE⟩:=hrel
  by_cases hlt:k<n
  ·obtain⟨b,off,a0,a1,a2,a3,rfl,hx,hb,g0,g1,g2,g3⟩:=dP (HS.out.ext hE) hlt
   have HX:=xQ hx
   have hlt':(vs.take k).length=k:=by rw[List.length_take,hl.out];omega
   have HOWN:=xQ hown
   have HLT:=xQ hlt'
   clear hown hx hlt'
   go_wp2_with fail
   refine(wR a0 a1 a2 a3 _).mono ?_
   rintro e w1 ⟨rfl,h1⟩
   have how1:=bB HOWN.out h1
   have hg1:w.heap.size<w1.heap.size:=(how1.lt w.heap.size rfl).2
   have o0:w1.cell? ⟨w.heap.size,k*4,none⟩=some (.int .i64 0):=(how1.cellAt _ (by omega)).trans (mG hlt HLT.out 0 (by omega))
   have o1:w1.cell? ⟨w.heap.size,k*4+1,none⟩=some (.int .i64 0):=(how1.cellAt _ (by omega)).trans (mG hlt HLT.out 1 (by omega))
   have o2:w1.cell? ⟨w.heap.size,k*4+2,none⟩=some (.int .i64 0):=(how1.cellAt _ (by omega)).trans (mG hlt HLT.out 2 (by omega))
   have o3:w1.cell? ⟨w.heap.size,k*4+3,none⟩=some (.int .i64 0):=(how1.cellAt _ (by omega)).trans (mG hlt HLT.out 3 (by omega))
   have f0:w1.frozen? ⟨w.heap.size,k*4,none⟩=false:=how1.frozenAt _
   have f1:w1.frozen? ⟨w.heap.size,k*4+1,none⟩=false:=how1.frozenAt _
   have f2:w1.frozen? ⟨w.heap.size,k*4+2,none⟩=false:=how1.frozenAt _
   have f3:w1.frozen? ⟨w.heap.size,k*4+3,none⟩=false:=how1.frozenAt _
   have hst:=((((how1.stored (k*4) (.int .i64 a0)).1.stored (k*4+1) (.int .i64 a1)).1.stored (k*4+2) (.int .i64 a2)).1.stored (k*4+3) (.int .i64 a3)).1
   rw[aD1 hlt HX.out HLT.out]at hst
   have HST:=xQ hst
   clear how1 hst
   go_wp2
   go_roundw
   case rel=>exact⟨k+1,by omega,by go_num,HST.out,xE⟩
   case measure=>simp[intOf];omega
  ·obtain rfl:k=n:=by omega
   have e:vs.take k=vs:=List.take_of_length_le (by rw[hl.out];exact Nat.le_refl _)
   have HO:=xQ (show wr.ownsRow w.heap.size TV 4 (.slice (some ⟨w.heap.size,0,none⟩) k k) k (vs.flatMap aD) by rw[e]at hown;simpa using hown)
   clear hown e
   go_wp2
   go_ret
   exact aAx hl.out HO.out hE
theorem wK (p q:OA)(n c1 c2:Nat)(vs:List aQ)(w:World)(h1:Sl w p n c1 4 (vs.flatMap aD))(h2:Sl w q n c2 4 (vs.flatMap aD)):
  Calls Tryz.prog 55 #[.slice p n c1,.slice q n c2] w fun e w'=>e= .returned (.bool true)∧Ext w w':=by
 have hn:=h1.bd
 have H1:=xQ h1
 have H2:=xQ h2
 clear h1 h2
 go_enter Tryz.func55,Tryz.ntmps55
 go_wp2
 go_loopw [5] (fun i wr=> ∃k:Nat,k≤n∧i= .int .i64 k∧Ext w wr) (fun i _=>n-(intOf i).toNat)
 case atStart=>exact⟨0,Nat.zero_le _,rfl,Ext.refl _⟩
 case round=>
  obtain⟨k,hk,rfl,hE⟩:=hrel
  by_cases hlt:k<n
  ·obtain⟨b,off,a0,a1,a2,a3,rfl,hx,hb,g0,g1,g2,g3⟩:=dP (H1.out.ext hE) hlt
   obtain⟨b2,off2,d0,d1,d2,d3,rfl,hy,hb2,k0,k1,k2,k3⟩:=dP (H2.out.ext hE) hlt
   rw[hx]at hy
   injection hy with hy
   simp only[Prod.mk.injEq]at hy
   obtain⟨rfl,rfl,rfl,rfl⟩:=hy
   clear hx
   have i1:(0:Int)≤(k:Int):=by omega
   have i2:(k:Int)<(n:Int):=by omega
   have HQ:Hid (∀w,Calls Tryz.prog 101 #[kG a0 a1 a2 a3,kG a0 a1 a2 a3] w fun e w'=>e= .returned (.bool true)∧Ext w w'):=fun w=>zQ a0 a1 a2 a3 w
   go_wp2
   go_region_held3 (fun w'=>w'.cell? ⟨b,off+k*4,none⟩=some (.int .i64 a0)∧w'.cell? ⟨b,off+k*4+1,none⟩=some (.int .i64 a1)∧w'.cell? ⟨b,off+k*4+2,none⟩=some (.int .i64 a2)∧w'.cell? ⟨b,off+k*4+3,none⟩=some (.int .i64 a3)∧w'.cell? ⟨b2,off2+k*4,none⟩=some (.int .i64 a0)∧w'.cell? ⟨b2,off2+k*4+1,none⟩=some (.int .i64 a1)∧w'.cell? ⟨b2,off2+k*4+2,none⟩=some (.int .i64 a2)∧w'.cell? ⟨b2,off2+k*4+3,none⟩=some (.int .i64 a3)) (go_keep) ((go_at_call 101;refine(HQ.out _).mono ?_;rintro e w1 ⟨rfl,h1⟩;(try replace h1:=h1.of_drew);have hce:=h1.cells.1))
   all_goals go_wp2
   all_goals go_roundw
   all_goals first
    |(case rel=>exact⟨k+1,by omega,by go_num,xE⟩)
    |(case measure=>simp[intOf];omega)
  ·go_wp2
   go_ret
   exact⟨rfl,hE⟩
theorem cC {w:World}{B n sz:Nat}{e:TypeId}{v:Value}{xs:List Value}(h:w.ownsRow B e sz v n xs){p:Addr}(hp:p.block<B)(u:Value):(w.setCell p u).ownsRow B e sz v n xs:=by
 refine h.kept (row:=some p.block) ⟨rfl,rfl,rfl,by simp[World.setCell],fun i hi hne=>Below.heap_setCell w p u i (fun e=>hne (by rw[e]))⟩ (.inr (fun hh=> ?_))
 have:=h.lt _ hh
 omega
theorem aA6 (aA aB:Int)(p:OA)(n cap:Nat)(xs:List Int)(w:World)(hn:n≤1099511627776)(hS:Sl w p n cap 1 (ivs xs)):
  Calls Tryz.prog 50 #[aI aA aB p n cap] w (dF aA aB xs w):=by
 have hl:=hS.ilen
 have HS:=xQ hS
 subst hl
 clear hS
 go_enter Tryz.func50,Tryz.ntmps50
 go_wp2_with fail
 refine(aA5 p _ cap xs _ hn (HS.out.ext xE)).mono ?_
 rintro e w1 ⟨q,c,rfl,ho,hx⟩
 obtain⟨hc,hf⟩:=hx.cells
 have hz:w.heap.size+2<w1.heap.size:=Nat.lt_of_lt_of_le (by simp) hx.sz
 have hz1:w.heap.size+1<w1.heap.size:=by omega
 have hz0:w.heap.size<w1.heap.size:=by omega
 have HO:=xQ (show w1.ownsRow (w.heap.size+3) TI 1 (.slice q xs.length c) xs.length (ivs xs) by simpa using ho)
 have hxw:Ext w w1:=((((Ext.refl w).alloc _).alloc _).alloc _).trans hx
 clear ho hx
 go_wp2
 exact bodyPost_ret (v:=aI aA aB q xs.length c) (by simp[results,Tryz.results50,go_sem, *]) rfl ⟨q,c,rfl,bG (cC (cC (cC (cC HO.out (by dsimp only;omega) _) (by dsimp only;omega) _) (by dsimp only;omega) _) (by dsimp only;omega) _) (by omega),xE⟩
def RetHouse (h:aT)(w:World)(e:Ending)(w':World):Prop:=
 ∃p cap q c2,e= .returned (bS h p h.cells.length cap q h.vs.length c2)∧w'.ownsRow w.heap.size TI 1 (.slice p h.cells.length cap) h.cells.length (ivs h.cells)∧w'.ownsRow w.heap.size TV 4 (.slice q h.vs.length c2) h.vs.length (h.vs.flatMap aD)∧Ext w w'
theorem pZ (h:aT)(p:OA)(n cap:Nat)(q:OA)(m c2:Nat)(w:World)(hn:n≤1099511627776)(hm:m≤1099511627776)(hi:IsHouse w h p n cap q m c2):
  Calls Tryz.prog 12 #[bS h p n cap q m c2] w (RetHouse h w):=by
 have hl:=hi.clen
 have hvl:=hi.vlen
 have HI:=xQ hi
 subst hl hvl
 clear hi
 obtain⟨aA,aB,cells,free,step,aE,aF,aC,aG,vs⟩:=h
 obtain⟨HN,HM⟩:Hid (cells.length≤1099511627776)∧Hid (vs.length≤1099511627776):=⟨hn,hm⟩
 clear hn hm
 go_enter Tryz.func12,Tryz.ntmps12
 go_wp2_with fail
 refine(aA6 aA aB p _ cap cells _ HN.out (HI.out.cells.ext xE)).mono ?_
 rintro e w1 ⟨p1,c1,rfl,ho1,hx1⟩
 have BA:=xQ ((((Blk.new w 29 #[aA,aB,.slice p cells.length cap,free,step,aE,aF,aC,aG,.slice q vs.length c2]).alloc (.cells #[(),(),((),()),(),(),(),(),(),(),((),())] 35)).alloc (.cells #[(),(),((),()),(),(),(),(),(),(),((),())] 35)).ext hx1)
 have BR:=xQ (((Blk.new (w.alloc (.cells #[aA,aB,.slice p cells.length cap,free,step,aE,aF,aC,aG,.slice q vs.length c2] 29)) 35 #[(),(),((),()),(),(),(),(),(),(),((),())]).alloc (.cells #[(),(),((),()),(),(),(),(),(),(),((),())] 35)).ext hx1)
 have BO:=xQ ((Blk.new ((w.alloc (.cells #[aA,aB,.slice p cells.length cap,free,step,aE,aF,aC,aG,.slice q vs.length c2] 29)).alloc (.cells #[(),(),((),()),(),(),(),(),(),(),((),())] 35)) 35 #[(),(),((),()),(),(),(),(),(),(),((),())]).ext hx1)
 simp only[World.size_alloc]at BR BO
 have ha2:w.heap.size+2<w1.heap.size:=Nat.lt_of_lt_of_le (by simp) hx1.sz
 have HO1:=xQ (show w1.ownsRow (w.heap.size+3) TI 1 (.slice p1 cells.length c1) cells.length (ivs cells) by simpa using ho1)
 have HX1:=xQ (((((Ext.refl w).alloc _).alloc _).alloc _).trans hx1)
 clear ho1 hx1
 have a3:w1.cell? ⟨w.heap.size,3,none⟩=some (.int .i64 free):=BA.out.cell 3
 have a4:w1.cell? ⟨w.heap.size,4,none⟩=some (.int .i64 step):=BA.out.cell 4
 have a5:w1.cell? ⟨w.heap.size,5,none⟩=some (.int .i64 aE):=BA.out.cell 5
 have a6:w1.cell? ⟨w.heap.size,6,none⟩=some (.int .i64 aF):=BA.out.cell 6
 have o0:w1.cell? ⟨w.heap.size+1+1,0,none⟩=some (.int .i64 0):=BO.out.cell 0
 have o1:w1.cell? ⟨w.heap.size+1+1,1,none⟩=some (.int .i64 0):=BO.out.cell 1
 have o2:w1.cell? ⟨w.heap.size+1+1,2,none⟩=some (.slice none 0 0):=BO.out.cell 2
 have of0:w1.frozen? ⟨w.heap.size+1+1,0,none⟩=false:=BO.out.frozen 0
 have of1:w1.frozen? ⟨w.heap.size+1+1,1,none⟩=false:=BO.out.frozen 1
 have of2:w1.frozen? ⟨w.heap.size+1+1,2,none⟩=false:=BO.out.frozen 2
 go_wp2_with fail
 clear a3 a4 a5 a6 o0 o1 o2 of0 of1 of2
 refine(uU free step aE aF _).mono ?_
 rintro e w2 ⟨rfl,hx2⟩
 have BO2:=xQ (show Blk w2 (w.heap.size+1+1) 35 #[aA,aB,.slice p1 cells.length c1,(),(),(),(),(),(),((),())] by have hb:=(((BO.out.set 0 (.int .i64 aA)).set 1 (.int .i64 aB)).set 2 (.slice p1 cells.length c1)).ext hx2;simpa only[List.setIfInBounds_toArray,List.set_cons_zero,List.set_cons_succ]using hb)
 have BA2:=xQ ((((BA.out.far (p:=⟨w.heap.size+1+1,0,none⟩) (by dsimp only;omega) (.int .i64 aA)).far (p:=⟨w.heap.size+1+1,1,none⟩) (by dsimp only;omega) (.int .i64 aB)).far (p:=⟨w.heap.size+1+1,2,none⟩) (by dsimp only;omega) (.slice p1 cells.length c1)).ext hx2)
 have BR2:=xQ ((((BR.out.far (p:=⟨w.heap.size+1+1,0,none⟩) (by dsimp only;omega) (.int .i64 aA)).far (p:=⟨w.heap.size+1+1,1,none⟩) (by dsimp only;omega) (.int .i64 aB)).far (p:=⟨w.heap.size+1+1,2,none⟩) (by dsimp only;omega) (.slice p1 cells.length c1)).ext hx2)
 have hs2:=hx2.sz
 simp only[World.size_setCell]at hs2
 have HO2:=xQ (bB (cC (cC (cC HO1.out (by dsimp only;omega) _) (by dsimp only;omega) _) (by dsimp only;omega) _) hx2)
 have HX2:=xQ ((((HX1.out.setCell (p:=⟨w.heap.size+1+1,0,none⟩) (by dsimp only;omega) (.int .i64 aA)).setCell (p:=⟨w.heap.size+1+1,1,none⟩) (by dsimp only;omega) (.int .i64 aB)).setCell (p:=⟨w.heap.size+1+1,2,none⟩) (by dsimp only;omega) (.slice p1 cells.length c1)).trans hx2)
 clear hx2 BO BA BR HO1 HX1
 have a7:w2.cell? ⟨w.heap.size,7,none⟩=some (.int .i64 aC):=BA2.out.cell 7
 have a8:w2.cell? ⟨w.heap.size,8,none⟩=some (.int .i64 aG):=BA2.out.cell 8
 have a9:w2.cell? ⟨w.heap.size,9,none⟩=some (.slice q vs.length c2):=BA2.out.cell 9
 have o3:w2.cell? ⟨w.heap.size+1+1,3,none⟩=some (.int .i64 0):=BO2.out.cell 3
 have o4:w2.cell? ⟨w.heap.size+1+1,4,none⟩=some (.int .i64 0):=BO2.out.cell 4
 have o5:w2.cell? ⟨w.heap.size+1+1,5,none⟩=some (.int .i64 0):=BO2.out.cell 5
 have o6:w2.cell? ⟨w.heap.size+1+1,6,none⟩=some (.int .i64 0):=BO2.out.cell 6
 have o7:w2.cell? ⟨w.heap.size+1+1,7,none⟩=some (.int .i64 0):=BO2.out.cell 7
 have o8:w2.cell? ⟨w.heap.size+1+1,8,none⟩=some (.int .i64 0):=BO2.out.cell 8
 have of3:w2.frozen? ⟨w.heap.size+1+1,3,none⟩=false:=BO2.out.frozen 3
 have of4:w2.frozen? ⟨w.heap.size+1+1,4,none⟩=false:=BO2.out.frozen 4
 have of5:w2.frozen? ⟨w.heap.size+1+1,5,none⟩=false:=BO2.out.frozen 5
 have of6:w2.frozen? ⟨w.heap.size+1+1,6,none⟩=false:=BO2.out.frozen 6
 have of7:w2.frozen? ⟨w.heap.size+1+1,7,none⟩=false:=BO2.out.frozen 7
 have of8:w2.frozen? ⟨w.heap.size+1+1,8,none⟩=false:=BO2.out.frozen 8
 go_wp2_with fail
 clear a7 a8 a9 o3 of3 o4 of4 o5 of5 o6 of6 o7 of7 o8 of8
 refine(uT q _ c2 vs _ HM.out (HI.out.vs.ext ((((((HX2.out.setCell (p:=⟨w.heap.size+1+1,3,none⟩) (by dsimp only;omega) (.int .i64 free)).setCell (p:=⟨w.heap.size+1+1,4,none⟩) (by dsimp only;omega) (.int .i64 step)).setCell (p:=⟨w.heap.size+1+1,5,none⟩) (by dsimp only;omega) (.int .i64 aE)).setCell (p:=⟨w.heap.size+1+1,6,none⟩) (by dsimp only;omega) (.int .i64 aF)).setCell (p:=⟨w.heap.size+1+1,7,none⟩) (by dsimp only;omega) (.int .i64 aC)).setCell (p:=⟨w.heap.size+1+1,8,none⟩) (by dsimp only;omega) (.int .i64 aG)))).mono ?_
 rintro e w3 ⟨q3,c3,rfl,ho3,hx3⟩
 have BO3:=xQ (show Blk w3 (w.heap.size+1+1) 35 #[aA,aB,.slice p1 cells.length c1,free,step,aE,aF,aC,aG,((),())] by have hb:=((((((BO2.out.set 3 (.int .i64 free)).set 4 (.int .i64 step)).set 5 (.int .i64 aE)).set 6 (.int .i64 aF)).set 7 (.int .i64 aC)).set 8 (.int .i64 aG)).ext hx3;simpa only[List.setIfInBounds_toArray,List.set_cons_zero,List.set_cons_succ]using hb)
 have BR3:=xQ (((((((BR2.out.far (p:=⟨w.heap.size+1+1,3,none⟩) (by dsimp only;omega) (.int .i64 free)).far (p:=⟨w.heap.size+1+1,4,none⟩) (by dsimp only;omega) (.int .i64 step)).far (p:=⟨w.heap.size+1+1,5,none⟩) (by dsimp only;omega) (.int .i64 aE)).far (p:=⟨w.heap.size+1+1,6,none⟩) (by dsimp only;omega) (.int .i64 aF)).far (p:=⟨w.heap.size+1+1,7,none⟩) (by dsimp only;omega) (.int .i64 aC)).far (p:=⟨w.heap.size+1+1,8,none⟩) (by dsimp only;omega) (.int .i64 aG)).ext hx3)
 have hs3:=hx3.sz
 simp only[World.size_setCell]at hs3
 have HO3:=xQ (bB (cC (cC (cC (cC (cC (cC HO2.out (p:=⟨w.heap.size+1+1,3,none⟩) (by dsimp only;omega) (.int .i64 free)) (p:=⟨w.heap.size+1+1,4,none⟩) (by dsimp only;omega) (.int .i64 step)) (p:=⟨w.heap.size+1+1,5,none⟩) (by dsimp only;omega) (.int .i64 aE)) (p:=⟨w.heap.size+1+1,6,none⟩) (by dsimp only;omega) (.int .i64 aF)) (p:=⟨w.heap.size+1+1,7,none⟩) (by dsimp only;omega) (.int .i64 aC)) (p:=⟨w.heap.size+1+1,8,none⟩) (by dsimp only;omega) (.int .i64 aG)) hx3)
 have HX3:=xQ (((((((HX2.out.setCell (p:=⟨w.heap.size+1+1,3,none⟩) (by dsimp only;omega) (.int .i64 free)).setCell (p:=⟨w.heap.size+1+1,4,none⟩) (by dsimp only;omega) (.int .i64 step)).setCell (p:=⟨w.heap.size+1+1,5,none⟩) (by dsimp only;omega) (.int .i64 aE)).setCell (p:=⟨w.heap.size+1+1,6,none⟩) (by dsimp only;omega) (.int .i64 aF)).setCell (p:=⟨w.heap.size+1+1,7,none⟩) (by dsimp only;omega) (.int .i64 aC)).setCell (p:=⟨w.heap.size+1+1,8,none⟩) (by dsimp only;omega) (.int .i64 aG)).trans hx3)
 have HV3:=xQ (bG ho3 (B':=w.heap.size+3) (by simp only[World.size_setCell];omega))
 clear hx3 ho3 BO2 BA2 BR2 HO2 HX2
 obtain⟨o0,o1,o2,o3,o4,o5,o6,o7,o8,o9⟩:=(BO3.out).ten
 have of9:w3.frozen? ⟨w.heap.size+1+1,9,none⟩=false:=BO3.out.frozen 9
 obtain⟨r0,rf0,r1,rf1,r2,rf2,r3,rf3,r4,rf4,r5,rf5,r6,rf6,r7,rf7,r8,rf8,r9,rf9⟩:=(BR3.out).tenf
 go_wp2
 exact bodyPost_ret (v:= .agg #[aA,aB,.slice p1 cells.length c1,free,step,aE,aF,aC,aG,.slice q3 vs.length c3]) (by simp[results,Tryz.results12,go_sem, *]) rfl ⟨p1,c1,q3,c3,rfl,bG (cC (cC (cC (cC (cC (cC (cC (cC (cC (cC (cC HO3.out (p:=⟨w.heap.size+1+1,9,none⟩) (by dsimp only;omega) (.slice q3 vs.length c3)) (p:=⟨w.heap.size+1,0,none⟩) (by dsimp only;omega) (.int .i64 aA)) (p:=⟨w.heap.size+1,1,none⟩) (by dsimp only;omega) (.int .i64 aB)) (p:=⟨w.heap.size+1,2,none⟩) (by dsimp only;omega) (.slice p1 cells.length c1)) (p:=⟨w.heap.size+1,3,none⟩) (by dsimp only;omega) (.int .i64 free)) (p:=⟨w.heap.size+1,4,none⟩) (by dsimp only;omega) (.int .i64 step)) (p:=⟨w.heap.size+1,5,none⟩) (by dsimp only;omega) (.int .i64 aE)) (p:=⟨w.heap.size+1,6,none⟩) (by dsimp only;omega) (.int .i64 aF)) (p:=⟨w.heap.size+1,7,none⟩) (by dsimp only;omega) (.int .i64 aC)) (p:=⟨w.heap.size+1,8,none⟩) (by dsimp only;omega) (.int .i64 aG)) (p:=⟨w.heap.size+1,9,none⟩) (by dsimp only;omega) (.slice q3 vs.length c3)) (by omega),bG (cC (cC (cC (cC (cC (cC (cC (cC (cC (cC (cC HV3.out (p:=⟨w.heap.size+1+1,9,none⟩) (by dsimp only;omega) (.slice q3 vs.length c3)) (p:=⟨w.heap.size+1,0,none⟩) (by dsimp only;omega) (.int .i64 aA)) (p:=⟨w.heap.size+1,1,none⟩) (by dsimp only;omega) (.int .i64 aB)) (p:=⟨w.heap.size+1,2,none⟩) (by dsimp only;omega) (.slice p1 cells.length c1)) (p:=⟨w.heap.size+1,3,none⟩) (by dsimp only;omega) (.int .i64 free)) (p:=⟨w.heap.size+1,4,none⟩) (by dsimp only;omega) (.int .i64 step)) (p:=⟨w.heap.size+1,5,none⟩) (by dsimp only;omega) (.int .i64 aE)) (p:=⟨w.heap.size+1,6,none⟩) (by dsimp only;omega) (.int .i64 aF)) (p:=⟨w.heap.size+1,7,none⟩) (by dsimp only;omega) (.int .i64 aC)) (p:=⟨w.heap.size+1,8,none⟩) (by dsimp only;omega) (.int .i64 aG)) (p:=⟨w.heap.size+1,9,none⟩) (by dsimp only;omega) (.slice q3 vs.length c3)) (by omega),(((((((((((HX3.out.setCell (p:=⟨w.heap.size+1+1,9,none⟩) (by dsimp only;omega) (.slice q3 vs.length c3)).setCell (p:=⟨w.heap.size+1,0,none⟩) (by dsimp only;omega) (.int .i64 aA)).setCell (p:=⟨w.heap.size+1,1,none⟩) (by dsimp only;omega) (.int .i64 aB)).setCell (p:=⟨w.heap.size+1,2,none⟩) (by dsimp only;omega) (.slice p1 cells.length c1)).setCell (p:=⟨w.heap.size+1,3,none⟩) (by dsimp only;omega) (.int .i64 free)).setCell (p:=⟨w.heap.size+1,4,none⟩) (by dsimp only;omega) (.int .i64 step)).setCell (p:=⟨w.heap.size+1,5,none⟩) (by dsimp only;omega) (.int .i64 aE)).setCell (p:=⟨w.heap.size+1,6,none⟩) (by dsimp only;omega) (.int .i64 aF)).setCell (p:=⟨w.heap.size+1,7,none⟩) (by dsimp only;omega) (.int .i64 aC)).setCell (p:=⟨w.heap.size+1,8,none⟩) (by dsimp only;omega) (.int .i64 aG)).setCell (p:=⟨w.heap.size+1,9,none⟩) (by dsimp only;omega) (.slice q3 vs.length c3))⟩
end Go.Proofs.YtgnkoffndhmhpaaGreatDoor
