/-
  Texts of this proof, packed (@packed).
-/
import Derived.Deep.CutBlock
import Derived.Test.YtgnkoffndhmhpaaGreatDoorR10
import Derived.Test.YtgnkoffndhmhpaaGreatDoorR20
import Derived.Test.YtgnkoffndhmhpaaGreatDoorR24
import Derived.Test.YtgnkoffndhmhpaaGreatDoorR25
import Derived.Test.YtgnkoffndhmhpaaGreatDoorR37
namespace Go.Proofs.YtgnkoffndhmhpaaGreatDoor
open Go.RowKit
set_option linter.unusedVariables false
set_option linter.unusedSimpArgs false
set_option maxHeartbeats 8000000
set_option maxRecDepth 100000
theorem aH8:ElT Tryz.prog 46 TDd 3:=
 ⟨Tryz.underlying46,by
  obtain⟨i,hi,h0,h1,h2⟩:=info_parts (show(Tryz.prog.info? TDd).map (fun i=>(i.zero,i.size,i.bytes))=some (some (.agg #[(),(),()]),3,24) by kernel_rfl)
  exact⟨i,_,hi,h0,h1,by omega,rfl⟩,by omega⟩
theorem oP (ds:List Dd3): ∀u∈ds.flatMap aX,u.oneCell'=true:=by
 intro u hu
 obtain⟨v,_,hv⟩:=List.mem_flatMap.1 hu
 simp[aX]at hv
 rcases hv with rfl|rfl|rfl<;>rfl
theorem aAc (id a:Int)(w:World)(ha:a≤10000)(ha0: -10000≤a):Calls Tryz.prog 88 #[id,a] w (jT (iE id a (dE a)) w):=by
 have ME:=xQ (((Mem.start w).made0 TDd 3 (w.heap.size) (by simp)))
 have hcn:dE a≤40:=by unfold dE;omega
 go_enter Tryz.func88,Tryz.ntmps88
 go_wp2
 go_loopw [1,5] (fun x v wr=> ∃(k:Nat) (q:OA) (c:Nat) (X:Int),k≤dE a∧x= .int .i64 X∧v= .slice q k c∧(k<dE a→X=a-300*(k:Int))∧(dE a≤k→X≤0)∧Mem w wr [aJ w.heap.size TDd 3 (q) (k) (c) ((iE id a k).flatMap aX)]) (fun x _ _=>(intOf x).toNat)
 case atStart=>exact⟨0,some ⟨w.heap.size,0,none⟩,0,a,Nat.zero_le _,rfl,rfl,fun _=>by simp,fun h=>by have:=jJ a 0;omega,ME.out⟩
 case round=>
  clear ME
  obtain⟨k,q,c,X,hk,rfl,rfl,hX,hX0,hM⟩:=hrel
  have HM:=xQ hM
  clear hM
  by_cases hlt:k<dE a
  ·have hX1:=hX hlt
   have hpos:=(jJ a k).1 hlt
   clear hX hX0
   have hp:0<X:=by omega
   have hXb:X≤10000:=by omega
   have hnx:k+1<dE a→X-min X 300=a-300*((k+1:Nat):Int):=fun h=>by have:=(jJ a (k+1)).1 h;omega
   have hn0:dE a≤k+1→X-min X 300≤0:=fun h=>by have:=jJ a (k+1);omega
   have hpt:Hid (mM id a k=(1,id,min X 300)):=by show _=_;unfold mM;rw[hX1]
   have t0:decide (0<X)=true:=by simp[hp]
   have hw1:IntKind.i64.wrap (X-min X 300)=X-min X 300:=IntWalk.i64_in _ (by omega)
   clear hX1 hpos
   go_wp2_with (at_builtin;go_loud (refine bX aH8 rfl _ _ rfl (HM.out.adv ((Ext.refl _).alloc (.cells #[.int .i64 1,id,(min X 300:Int)] TDd))) 0 rfl rfl (aX (1,id,min X 300)) rfl (dM _ _ _ 1 3 _ (by simp[aX]) (by simp[aX]) (by simp[maxLen])) (fun u hu=>oP [(1,id,min X 300)] u (by simpa using hu)) (by omega) ?_;intro q7 c7 w6 M6))
   have M7:=xQ (show Mem w w6 [aJ w.heap.size TDd 3 (q7) (k+1) (c7) ((iE id a (k+1)).flatMap aX)]from by rw[rP,List.flatMap_append,hpt.out];simpa using M6)
   clear M6 HM
   go_wp2
   go_roundw
   case rel=>exact⟨k+1,q7,c7,X-min X 300,by omega,by go_num,rfl,hnx,hn0,M7.out⟩
   case measure=>simp[intOf];omega
  ·have hX1:=hX0 (by omega)
   obtain rfl:k=dE a:=by omega
   have t0:decide (0<X)=false:=by simp;omega
   go_wp2
   go_ret
   have h1:=HM.out.own (i:=0) rfl
   exact⟨q,c,by rw[jD];rfl,by rw[jD];exact h1,HM.out.ext⟩
theorem aGm (aA aB free step aE aF aC aG:Int)(p:OA)(n cap:Nat)(q:OA)(m c2:Nat)(ids:List Int)(due:Int→Int)(w:World)(hl:ids.length≤1000)
  (HO:Hid (∀w',Ext w w'→Calls Tryz.prog 86 #[.agg #[aA,aB,.slice p n cap,free,step,aE,aF,aC,aG,.slice q m c2]] w' (aY ids w')))
  (HD:Hid (∀x,x∈ids→ ∀w',Ext w w'→Calls Tryz.prog 32 #[.agg #[aA,aB,.slice p n cap,free,step,aE,aF,aC,aG,.slice q m c2],x] w' fun e w''=>e= .returned (.int .i64 (due x))∧Ext w' w''))
  (hb:Hid (∀x∈ids,due x≤10000∧ -10000≤due x))(hdl:Hid (∀k,(bP due (ids.take k)).length≤k*41)):
  Calls Tryz.prog 37 #[.agg #[aA,aB,.slice p n cap,free,step,aE,aF,aC,aG,.slice q m c2]] w (jT (bP due ids) w):=by
 go_enter Tryz.func37,Tryz.ntmps37
 have MB:=xQ ((Mem.start w).blkNew 35 #[aA,aB,.slice p n cap,free,step,aE,aF,aC,aG,.slice q m c2] (w.heap.size) (by simp))
 go_wp2_with fail
 refine(HO.out _ MB.out.ext).mono ?_
 rintro e w1 ⟨q1,c1,rfl,o1,hx1⟩
 have M1:=xQ (((MB.out).call hx1 o1).call (Ext.refl _) (World.ownsRow_nil _ _ TDd 3))
 clear MB hx1 o1
 go_wp2
 go_loopw [3,10] (fun v i wr=> ∃(k:Nat) (q4:OA) (l c4:Nat),k≤ids.length∧i= .int .i64 (k:Int)∧v= .slice q4 l c4∧l=(bP due (ids.take k)).length∧Mem w wr [aJ w.heap.size TDd 3 (q4) (l) (c4) ((bP due (ids.take k)).flatMap aX),aJ w.heap.size TI 1 (q1) (ids.length) (c1) (ivs ids),aL w.heap.size (w.heap.size) 35 #[aA,aB,.slice p n cap,free,step,aE,aF,aC,aG,.slice q m c2]]) (fun _ i _=>ids.length-(intOf i).toNat)
 case atStart=>exact⟨0,none,0,0,Nat.zero_le _,rfl,rfl,rfl,M1.out⟩
 case round=>
  clear M1
  obtain⟨k,q4,l,c4,hk,rfl,rfl,hl4,hM⟩:=hrel
  have HM:=xQ hM
  have HL4:=xQ hl4
  clear hM
  have hlb:l≤k*41:=by rw[hl4];exact hdl.out k
  clear hl4
  by_cases hlt:k<ids.length
  ·obtain⟨b,off,x,rfl,hx,hbw,hc⟩:=Sl.int_at (HM.out.sl (i:=1) rfl) hlt
   have HX:=xQ hx
   have hmem:=xQ (List.mem_of_getElem? hx)
   have hbd:=hb.out x hmem.out
   clear hx
   have i1:(0:Int)≤(k:Int):=by omega
   have i2:(k:Int)<(ids.length:Int):=by omega
   obtain⟨ce0,ce1,ce2,ce3,ce4,ce5,ce6,ce7,ce8,ce9⟩:=(HM.out.blk (i:=2) rfl).ten
   go_wp2_with fail
   clear ce0 ce1 ce2 ce3 ce4 ce5 ce6 ce7 ce8 ce9 hc hbw
   refine(HD.out x hmem.out _ HM.out.ext).mono ?_
   rintro e w3 ⟨rfl,hx3⟩
   have M3:=xQ (HM.out.adv hx3)
   clear HM hx3
   generalize hdx:due x=D at*
   have HDX:=xQ hdx
   clear hdx
   have hcn:dE D≤40:=by unfold dE;omega
   go_wp2
   go_loopw [3,6] (fun v d wr=> ∃(j:Nat) (q5:OA) (l5 c5:Nat) (X:Int),j≤dE D∧d= .int .i64 X∧v= .slice q5 l5 c5∧l5=l+j∧X=D-300*(j:Int)∧Mem w wr [aJ w.heap.size TDd 3 (q5) (l5) (c5) ((bP due (ids.take k)).flatMap aX++(iE x D j).flatMap aX),aJ w.heap.size TI 1 (some ⟨b,off,none⟩) (ids.length) (c1) (ivs ids),aL w.heap.size (w.heap.size) 35 #[aA,aB,.slice p n cap,free,step,aE,aF,aC,aG,.slice q m c2]]) (fun _ d _=>(intOf d).toNat)
   case atStart=>exact⟨0,q4,l,c4,D,Nat.zero_le _,rfl,rfl,rfl,by simp,by simpa[aAz]using M3.out⟩
   case round=>
    clear M3
    obtain⟨j,q5,l5,c5,X,hj,rfl,rfl,hl5,hX,hM⟩:=hrel
    have M4:=xQ hM
    have HX5:=xQ hX
    have hiff:=jJ D j
    have hXb:X≤10000:=by omega
    have hXl: -30000≤X:=by omega
    have HL5:=xQ hl5
    have hl5b:l5≤l+40:=by omega
    clear hM hl5
    by_cases hjt:j<dE D
    ·have hp:0<X:=by have:=hiff.1 hjt;omega
     have hnx:X-300=D-300*((j+1:Nat):Int):=by omega
     have hpt:Hid (mM x D j=(1,x,min X 300)):=by show _=_;unfold mM;rw[←HX5.out]
     have t0:decide (0<X)=true:=by simp[hp]
     have hw1:IntKind.i64.wrap (X-300)=X-300:=IntWalk.i64_in _ (by omega)
     clear hX hiff
     go_wp2_with (at_builtin;go_loud (refine bX aH8 rfl _ _ rfl (M4.out.adv ((Ext.refl _).alloc (.cells #[.int .i64 1,x,(min X 300:Int)] TDd))) 0 rfl rfl (aX (1,x,(min X 300))) rfl (dM _ _ _ 1 3 _ (by simp[aX]) (by simp[aX]) (by simp[maxLen])) (fun u hu=>oP [(1,x,(min X 300))] u (by simpa using hu)) (by omega) ?_;intro q7 c7 w6 M6))
     have M7:=xQ (show Mem w w6 [aJ w.heap.size TDd 3 (q7) (l5+1) (c7) ((bP due (ids.take k)).flatMap aX++(iE x D (j+1)).flatMap aX),aJ w.heap.size TI 1 (some ⟨b,off,none⟩) (ids.length) (c1) (ivs ids),aL w.heap.size (w.heap.size) 35 #[aA,aB,.slice p n cap,free,step,aE,aF,aC,aG,.slice q m c2]]from by rw[rP,List.flatMap_append,hpt.out];simpa[List.append_assoc]using M6)
     clear M6 M4
     go_wp2
     go_roundw
     case rel=>exact⟨j+1,q7,l5+1,c7,X-300,by omega,by go_num,rfl,by have:=HL5.out;omega,hnx,M7.out⟩
     case measure=>simp[intOf];omega
    ·obtain rfl:j=dE D:=by omega
     have t0:decide (0<X)=false:=by have: ¬0<X:=fun h=>hjt (hiff.2 (by omega));simp;omega
     clear hX hiff hjt
     go_wp2_with (at_builtin;go_loud (refine bX aH8 rfl _ _ rfl (M4.out.adv ((Ext.refl _).alloc (.cells #[.int .i64 2,x,()] TDd))) 0 rfl rfl (aX (2,x,0)) rfl (dM _ _ _ 1 3 _ (by simp[aX]) (by simp[aX]) (by simp[maxLen])) (fun u hu=>oP [(2,x,0)] u (by simpa using hu)) (by omega) ?_;intro q7 c7 w6 M6))
     have hsn:Hid (bP due (ids.take (k+1))=bP due (ids.take k)++iE x D (dE D)++ [(2,x,0)]):=by show _=_;rw[nD due HX.out,HDX.out]
     have M7:=xQ (show Mem w w6 [aJ w.heap.size TDd 3 (q7) (l5+1) (c7) ((bP due (ids.take (k+1))).flatMap aX),aJ w.heap.size TI 1 (some ⟨b,off,none⟩) (ids.length) (c1) (ivs ids),aL w.heap.size (w.heap.size) 35 #[aA,aB,.slice p n cap,free,step,aE,aF,aC,aG,.slice q m c2]]from by rw[hsn.out];simpa[List.flatMap_append,List.append_assoc]using M6)
     have hln:Hid (l5+1=(bP due (ids.take (k+1))).length):=by show _=_;rw[hsn.out,List.length_append,List.length_append,jD,←HL4.out,HL5.out];rfl
     clear M6 M4
     go_wp2
     go_roundw
     case rel=>exact⟨k+1,q7,l5+1,c7,by omega,by go_num,rfl,hln.out,M7.out⟩
     case measure=>simp[intOf];omega
  ·obtain rfl:k=ids.length:=by omega
   go_wp2
   go_ret
   have h1:=HM.out.own (i:=0) rfl
   have h2:=HL4.out
   rw[List.take_length]at h1 h2
   subst h2
   exact⟨q4,c4,rfl,h1,HM.out.ext⟩
theorem aFi (aA aB free step aE aF aC aG:Int)(p:OA)(n cap:Nat)(q:OA)(m c2:Nat)(ids:List Int)(due:Int→Int)(w:World)(hl:ids.length≤1000)
  (HO:Hid (∀w',Ext w w'→Calls Tryz.prog 87 #[.agg #[aA,aB,.slice p n cap,free,step,aE,aF,aC,aG,.slice q m c2]] w' (aY ids w')))
  (HD:Hid (∀x,x∈ids→ ∀w',Ext w w'→Calls Tryz.prog 85 #[.agg #[aA,aB,.slice p n cap,free,step,aE,aF,aC,aG,.slice q m c2],x] w' fun e w''=>e= .returned (.int .i64 (due x))∧Ext w' w''))
  (HPA:Hid (∀x,x∈ids→ ∀w',Calls Tryz.prog 88 #[x,(due x:Int)] w' fun e w''=> ∃q c,e= .returned (.slice q (dE (due x)) c)∧w''.ownsRow w'.heap.size TDd 3 (.slice q (dE (due x)) c) (dE (due x)) ((iE x (due x) (dE (due x))).flatMap aX)∧Ext w' w''))
  (hb:Hid (∀x∈ids,due x≤10000∧ -10000≤due x))(hdl:Hid (∀k,(bP due (ids.take k)).length≤k*41)):
  Calls Tryz.prog 39 #[.agg #[aA,aB,.slice p n cap,free,step,aE,aF,aC,aG,.slice q m c2]] w (jT (bP due ids) w):=by
 go_enter Tryz.func39,Tryz.ntmps39
 have MB:=xQ (((Mem.start w).blkNew 35 #[aA,aB,.slice p n cap,free,step,aE,aF,aC,aG,.slice q m c2] (w.heap.size) (by simp)).made0 TDd 3 (w.heap.size+1) (by simp))
 go_wp2_with fail
 refine(HO.out _ MB.out.ext).mono ?_
 rintro e w1 ⟨q1,c1,rfl,o1,hx1⟩
 have M0:=xQ ((MB.out).call hx1 o1)
 have M1:=xQ (show Mem w w1 [aJ w.heap.size TDd 3 (some ⟨w.heap.size+1,0,none⟩) (0) (0) ([]),aJ w.heap.size TI 1 (q1) (ids.length) (c1) (ivs ids),aL w.heap.size (w.heap.size) 35 #[aA,aB,.slice p n cap,free,step,aE,aF,aC,aG,.slice q m c2]]from(M0.out.pick [1,0,2] (by decide) rfl))
 clear MB M0 hx1 o1
 go_wp2
 go_loopw [3,5] (fun v i wr=> ∃(k:Nat) (q4:OA) (l c4:Nat),k≤ids.length∧i= .int .i64 (k:Int)∧v= .slice q4 l c4∧l=(bP due (ids.take k)).length∧Mem w wr [aJ w.heap.size TDd 3 (q4) (l) (c4) ((bP due (ids.take k)).flatMap aX),aJ w.heap.size TI 1 (q1) (ids.length) (c1) (ivs ids),aL w.heap.size (w.heap.size) 35 #[aA,aB,.slice p n cap,free,step,aE,aF,aC,aG,.slice q m c2]]) (fun _ i _=>ids.length-(intOf i).toNat)
 case atStart=>exact⟨0,some ⟨w.heap.size+1,0,none⟩,0,0,Nat.zero_le _,rfl,rfl,rfl,M1.out⟩
 case round=>
  clear M1
  obtain⟨k,q4,l,c4,hk,rfl,rfl,hl4,hM⟩:=hrel
  have HM:=xQ hM
  have HL4:=xQ hl4
  clear hM
  have hlb:l≤k*41:=by rw[hl4];exact hdl.out k
  clear hl4
  by_cases hlt:k<ids.length
  ·obtain⟨b,off,x,rfl,hx,hbw,hc⟩:=Sl.int_at (HM.out.sl (i:=1) rfl) hlt
   have HX:=xQ hx
   have hmem:=xQ (List.mem_of_getElem? hx)
   have hbd:=hb.out x hmem.out
   clear hx
   have i1:(0:Int)≤(k:Int):=by omega
   have i2:(k:Int)<(ids.length:Int):=by omega
   obtain⟨ce0,ce1,ce2,ce3,ce4,ce5,ce6,ce7,ce8,ce9⟩:=(HM.out.blk (i:=2) rfl).ten
   have HD1:=xQ (HD.out x hmem.out)
   have HP1:=xQ (HPA.out x hmem.out)
   generalize hdx:due x=D at*
   have HDX:=xQ hdx
   clear hdx
   have hcn:dE D≤40:=by unfold dE;omega
   generalize hpc:dE D=C at*
   have HPC:=xQ hpc
   clear hpc
   go_wp2
   go_region_law ((first
    |(go_simp;go_at_call 85
      refine(HD1.out _ (HM.out.ext.trans xE)).mono ?_
      rintro e w3 ⟨rfl,hx3⟩
      (try replace hx3:=hx3.of_drew)
      have M3:=xQ (HM.out.adv hx3)
      have hc3:=(hx3.cells.1 _ _ hbw).trans hc
      have hbw3:b<w3.heap.size:=Nat.lt_of_lt_of_le hbw hx3.sz)
    |(go_simp;go_at_call 88
      refine(HP1.out _).mono ?_
      rintro e w4 ⟨q5,c5,rfl,o5,hx5⟩
      (try replace hx5:=hx5.of_drew)
      have M4:=xQ (M3.out.call hx5 o5))
    |(refine eX aH8 (by rfl) _ _ (by rfl) (M4.out.adv xE) 1 (by rfl) (by rfl) ((iE x D C).flatMap aX) (by rfl) ((M4.out.sl (i:=0) rfl).ext xE) (oP _) (by omega) ?_
      intro q7 c7 w6 M6)))
   all_goals (
    have hsn:Hid (bP due (ids.take (k+1))=bP due (ids.take k)++iE x D C++ [(2,x,0)]):=by show _=_;rw[nD due HX.out,HDX.out,HPC.out]
    have MA:=xQ (show Mem w w6 [aJ w.heap.size TDd 3 (q7) (l+C) (c7) ((bP due (ids.take k)).flatMap aX++(iE x D C).flatMap aX),aJ w.heap.size TI 1 (some ⟨b,off,none⟩) (ids.length) (c1) (ivs ids),aL w.heap.size (w.heap.size) 35 #[aA,aB,.slice p n cap,free,step,aE,aF,aC,aG,.slice q m c2]]from(M6.pick [1,2,3] (by decide) rfl))
    obtain⟨b',off',x',e1,hx',hb',hc6⟩:=Sl.int_at (MA.out.sl (i:=1) rfl) hlt
    cases e1
    obtain rfl:x=x':=by have:=HX.out;rw[hx']at this;exact(Option.some.inj this).symm
    clear M6 M4 M3 HM hx' hc hbw
    (try clear hc3 hbw3)
    go_wp2_with (at_builtin;go_loud (refine bX aH8 rfl _ _ rfl (MA.out.adv ((Ext.refl _).alloc (.cells #[.int .i64 2,x,()] TDd))) 0 rfl rfl (aX (2,x,0)) rfl (dM _ _ _ 1 3 _ (by simp[aX]) (by simp[aX]) (by simp[maxLen])) (fun u hu=>oP [(2,x,0)] u (by simpa using hu)) (by omega) ?_;intro q8 c8 w8 M8))
    have hln:Hid (l+C+1=(bP due (ids.take (k+1))).length):=by show _=_;rw[hsn.out,List.length_append,List.length_append,jD,←HL4.out];rfl
    have M9:=xQ (show Mem w w8 [aJ w.heap.size TDd 3 (q8) (l+C+1) (c8) ((bP due (ids.take (k+1))).flatMap aX),aJ w.heap.size TI 1 (some ⟨b,off,none⟩) (ids.length) (c1) (ivs ids),aL w.heap.size (w.heap.size) 35 #[aA,aB,.slice p n cap,free,step,aE,aF,aC,aG,.slice q m c2]]from by rw[hsn.out];simpa[List.flatMap_append,List.append_assoc]using M8)
    clear M8 MA hc6 hb'
    go_wp2
    go_roundw
    case rel=>exact⟨k+1,q8,l+C+1,c8,by omega,by go_num,rfl,hln.out,M9.out⟩
    case measure=>simp[intOf];omega)
  ·obtain rfl:k=ids.length:=by omega
   go_wp2
   go_ret
   have h1:=HM.out.own (i:=0) rfl
   have h2:=HL4.out
   rw[List.take_length]at h1 h2
   subst h2
   exact⟨q4,c4,rfl,h1,HM.out.ext⟩
end Go.Proofs.YtgnkoffndhmhpaaGreatDoor
namespace Go.Proofs.YtgnkoffndhmhpaaGreatDoor
open Go.RowKit
set_option linter.unusedVariables false
set_option linter.unusedSimpArgs false
theorem lE {h:aT}(hn:h.cells.length≤1048576):(cV h).length≤1000:=by
 cases hok:bK h with
 |false=>unfold cV;rw[hok];simp
 |true=>
  rw[kI hok]
  have h1:=jO hok
  unfold aP at h1
  rw[Bool.and_eq_true]at h1
  have hb:=bR h1.1
  have h2:=aDl (if(0:Int)∈h.cells then []else [h.cells.headD 0]) (cZ h.cells)
  have h3:=iK h.cells
  rw[gC]at h2
  have h4:(if(0:Int)∈h.cells then([]:List Int)else [h.cells.headD 0]).length≤1:=by split<;>simp
  omega
theorem kA (h:aT)(id:Int):cT h id≤10000∧ -10000≤cT h id:=by
 cases hok:bK h with
 |false=>simp[cT,dB,hok]
 |true=>
  cases hv:eN id h.vs with
  |none=>simp[cT,dB,hok,hv]
  |some v=>
   have hm:v∈h.vs:=List.mem_of_find?_eq_some hv
   have hb:=aH9 hok hm
   have e:cT h id=zT h v:=by unfold cT dB zT;rw[if_pos hok,hv];rfl
   rw[e];omega
theorem sL (h:aT)(k:Nat):(bP (cT h) ((cV h).take k)).length≤k*41:=by
 refine Nat.le_trans (wM _ _ 40 (fun x _=> ?_)) (Nat.mul_le_mul_right 41 (List.length_take_le _ _))
 have:=kA h x
 unfold dE;omega
theorem uM {h:aT}(hn:h.cells.length≤1048576):(bP (cT h) (cV h)).length≤100000:=by
 have h1:=sL h (cV h).length
 rw[List.take_length]at h1
 have:=lE hn
 omega
theorem vZ (h:aT)(p:OA)(n cap:Nat)(q:OA)(m c2:Nat)(w:World)(hn:h.cells.length≤1048576)(hi:IsHouse w h p n cap q m c2):
  Calls Tryz.prog 37 #[bS h p n cap q m c2] w (jT (bP (cT h) (cV h)) w):=
 aGm h.aA h.aB h.free h.step h.aE h.aF h.aC h.aG p n cap q m c2 (cV h) (cT h) w (lE hn)
  (fun w' hx=>vY h p n cap q m c2 w' (hi.ext hx)) (fun x _ w' hx=>vW h x p n cap q m c2 w' (hi.ext hx)) (fun x _=>kA h x) (fun k=>sL h k)
theorem vF (h:aT)(p:OA)(n cap:Nat)(q:OA)(m c2:Nat)(w:World)(hn:h.cells.length≤1048576)(hi:IsHouse w h p n cap q m c2):
  Calls Tryz.prog 39 #[bS h p n cap q m c2] w (jT (bP (cT h) (cV h)) w):=
 aFi h.aA h.aB h.free h.step h.aE h.aF h.aC h.aG p n cap q m c2 (cV h) (cT h) w (lE hn)
  (fun w' hx=>vE h p n cap q m c2 w' (hi.ext hx)) (fun x _ w' hx=>vC h x p n cap q m c2 w' (hi.ext hx))
  (fun x _ w'=>by
   have hb:=kA h x
   refine(aAc x (cT h x) w' hb.1 hb.2).mono ?_
   rintro e w'' ⟨q,c,rfl,ho,hx⟩
   rw[jD]at ho⊢
   exact⟨q,c,rfl,ho,hx⟩)
  (fun x _=>kA h x) (fun k=>sL h k)
set_option maxHeartbeats 8000000
set_option maxRecDepth 100000
def aH7 (h:aT):aT:=(mU h (bP (cT h) (cV h))).1
theorem aJb (h r:aT)(p:OA)(cap:Nat)(q:OA)(c2:Nat)(ds:List Dd3)(nb:Nat)(w:World)
  (HI:Hid (IsHouse w h p h.cells.length cap q h.vs.length c2))
  (HE:Hid (∀w',Ext w w'→Calls Tryz.prog 39 #[.agg #[h.aA,h.aB,.slice p h.cells.length cap,h.free,h.step,h.aE,h.aF,h.aC,h.aG,.slice q h.vs.length c2]] w' (jT ds w')))
  (HR:Hid (∀B pe ce w',B≤w'.heap.size→Ext w w'→Sl w' pe ds.length ce 3 (ds.flatMap aX)→Calls Tryz.prog 18 #[.agg #[h.aA,h.aB,.slice p h.cells.length cap,h.free,h.step,h.aE,h.aF,h.aC,h.aG,.slice q h.vs.length c2],.slice pe ds.length ce] w' fun e w''=> ∃pa ca qa da ps cs,e= .returned (.tuple #[.agg #[r.aA,r.aB,.slice pa r.cells.length ca,r.free,r.step,r.aE,r.aF,r.aC,r.aG,.slice qa r.vs.length da],.slice ps nb cs])∧w''.ownsRow B TI 1 (.slice pa r.cells.length ca) r.cells.length (ivs r.cells)∧w''.ownsRow B TV 4 (.slice qa r.vs.length da) r.vs.length (r.vs.flatMap aD)∧Ext w' w'')):
  Calls Tryz.prog 11 #[.agg #[h.aA,h.aB,.slice p h.cells.length cap,h.free,h.step,h.aE,h.aF,h.aC,h.aG,.slice q h.vs.length c2]] w (RetHouse r w):=by
 go_enter Tryz.func11,Tryz.ntmps11
 go_upto_region 1 with fail
 have M1:=xQ (((((Mem.start w).blkNew aO #[h.aA,h.aB,.slice p h.cells.length cap,h.free,h.step,h.aE,h.aF,h.aC,h.aG,.slice q h.vs.length c2] (w.heap.size) (by simp))).blkNew aO #[(),(),((),()),(),(),(),(),(),(),((),())] (w.heap.size+1) (by simp)))
 generalize World.alloc _ _=v0 at M1⊢
 have lt1_0:=M1.out.hi 0
 have lt1_1:=M1.out.hi 1
 have xm:=M1.out.ext
 have IX:=xQ (HI.out.ext xm)
 obtain⟨ka0,ka1,ka2,ka3,ka4,ka5,ka6,ka7,ka8,ka9⟩:=(M1.out.blk (i:=1) rfl).ten
 have nca1: ¬(w.heap.size=v0.heap.size):=by omega
 have nca2: ¬(v0.heap.size=w.heap.size):=by omega
 go_cut [3,4] (fun s1 _ wx=> ∃(g5:Nat) (p5:OA) (c5:Nat) (q5:OA) (d5:Nat),s1= .pointer (some ⟨g5,0,none⟩)∧Mem w wx [aL w.heap.size (g5) aO #[r.aA,r.aB,.slice p5 r.cells.length c5,r.free,r.step,r.aE,r.aF,r.aC,r.aG,.slice q5 r.vs.length d5],aJ w.heap.size TI 1 (p5) (r.cells.length) (c5) (ivs r.cells),aJ w.heap.size TV 4 (q5) (r.vs.length) (d5) (r.vs.flatMap aD),aL w.heap.size (w.heap.size+1) aO #[(),(),((),()),(),(),(),(),(),(),((),())],aL w.heap.size (w.heap.size) aO #[h.aA,h.aB,.slice p h.cells.length cap,h.free,h.step,h.aE,h.aF,h.aC,h.aG,.slice q h.vs.length c2]])
 case first=>
  go_region_held3 (fun w'=>w'.cell? ⟨w.heap.size,0,none⟩=some (.int .i64 h.aA)∧w'.cell? ⟨w.heap.size,1,none⟩=some (.int .i64 h.aB)∧w'.cell? ⟨w.heap.size,2,none⟩=some (.slice p h.cells.length cap)∧w'.cell? ⟨w.heap.size,3,none⟩=some (.int .i64 h.free)∧w'.cell? ⟨w.heap.size,4,none⟩=some (.int .i64 h.step)∧w'.cell? ⟨w.heap.size,5,none⟩=some (.int .i64 h.aE)∧w'.cell? ⟨w.heap.size,6,none⟩=some (.int .i64 h.aF)∧w'.cell? ⟨w.heap.size,7,none⟩=some (.int .i64 h.aC)∧w'.cell? ⟨w.heap.size,8,none⟩=some (.int .i64 h.aG)∧w'.cell? ⟨w.heap.size,9,none⟩=some (.slice q h.vs.length c2))
   (first|(refine⟨?_,?_,?_,?_,?_,?_,?_,?_,?_,?_⟩<;>with_reducible assumption)|go_keep)
   (first
    |(go_at_call 39
      refine(HE.out _ xE).mono ?_
      rintro e we ⟨pe,ce,rfl,oe,hxe⟩
      have hye:Ext v0 we:=xE
      have Ie:=xQ (Sl.own oe)
      clear oe
      obtain⟨ea0,ea1,ea2,ea3,ea4,ea5,ea6,ea7,ea8,ea9⟩:=(((M1.out.blk (i:=1) rfl)).ext hye).ten
      have nea1: ¬(w.heap.size=we.heap.size):=by have:=hye.sz;omega
      have nea2: ¬(we.heap.size=w.heap.size):=by have:=hye.sz;omega)
    |(go_at_call 18
      refine(HR.out v0.heap.size _ _ _ (Ext.sz (show Ext v0 _ from xE)) xE (by first|with_reducible exact Ie.out|with_reducible exact Ie.out.ext ((Ext.refl _).alloc _))).mono ?_
      rintro e ws ⟨p5,c5,q5,d5,ps5,cs5,rfl,os,vs_,hxs⟩
      have hys:Ext v0 ws:=xE
      obtain⟨sa0,sa1,sa2,sa3,sa4,sa5,sa6,sa7,sa8,sa9⟩:=(((M1.out.blk (i:=1) rfl)).ext hys).ten
      have nsa1: ¬(w.heap.size=ws.heap.size):=by have:=hys.sz;omega
      have nsa2: ¬(ws.heap.size=w.heap.size):=by have:=hys.sz;omega
      first
       |(with_reducible have hz:Ext (v0.alloc (.cells #[(),(),((),()),(),(),(),(),(),(),((),())] aO)) ws:=hxe.trans hxs;have MB:=xQ (Mem.own2blk M1.out hys ((Blk.new v0 aO #[(),(),((),()),(),(),(),(),(),(),((),())]).ext hz) (Nat.le_refl _) os vs_ (by decide) (by decide) (by decide));obtain⟨zc0,zf0,zc1,zf1,zc2,zf2,zc3,zf3,zc4,zf4,zc5,zf5,zc6,zf6,zc7,zf7,zc8,zf8,zc9,zf9⟩:=(MB.out.blk (i:=2) rfl).tenf)
       |(with_reducible have hz:Ext (v0.alloc (.cells #[(),(),((),()),(),(),(),(),(),(),((),())] aO)) ws:=hxe.of_drew.trans hxs;have MB:=xQ (Mem.own2blk M1.out hys ((Blk.new v0 aO #[(),(),((),()),(),(),(),(),(),(),((),())]).ext hz) (Nat.le_refl _) os vs_ (by decide) (by decide) (by decide));obtain⟨zc0,zf0,zc1,zf1,zc2,zf2,zc3,zf3,zc4,zf4,zc5,zf5,zc6,zf6,zc7,zf7,zc8,zf8,zc9,zf9⟩:=(MB.out.blk (i:=2) rfl).tenf)
       |(with_reducible have hz:Ext (we.alloc (.cells #[(),(),((),()),(),(),(),(),(),(),((),())] aO)) ws:=hxs;have MB:=xQ (Mem.own2blk M1.out hys ((Blk.new we aO #[(),(),((),()),(),(),(),(),(),(),((),())]).ext hz) hye.sz os vs_ (by decide) (by decide) (by decide));obtain⟨zc0,zf0,zc1,zf1,zc2,zf2,zc3,zf3,zc4,zf4,zc5,zf5,zc6,zf6,zc7,zf7,zc8,zf8,zc9,zf9⟩:=(MB.out.blk (i:=2) rfl).tenf)
       |(have MA:=xQ (Mem.own2 M1.out hys os vs_ (Nat.le_refl _) (by decide)))))
  all_goals (
   go_wp2_with fail
   go_meet
   first
    |exact⟨_,p5,c5,q5,d5,rfl,(MB.out.put10 (i:=2) rfl (.int .i64 r.aA) (.int .i64 r.aB) (.slice p5 r.cells.length c5) (.int .i64 r.free) (.int .i64 r.step) (.int .i64 r.aE) (.int .i64 r.aF) (.int .i64 r.aC) (.int .i64 r.aG) (.slice q5 r.vs.length d5)).pick [2,0,1,3,4] (by decide) rfl⟩
    |exact⟨_,p5,c5,q5,d5,rfl,MA.out.blkNew aO #[r.aA,r.aB,.slice p5 r.cells.length c5,r.free,r.step,r.aE,r.aF,r.aC,r.aG,.slice q5 r.vs.length d5] _ rfl⟩)
 case rest=>
  clear ka0 ka1 ka2 ka3 ka4 ka5 ka6 ka7 ka8 ka9 nca1 nca2 xm HE HR IX HI
  obtain⟨g5,p5,c5,q5,d5,rfl,hM5⟩:=hcut
  obtain⟨v5,rfl⟩: ∃z,z=wc:=⟨_,rfl⟩
  have MC:=xQ hM5
  clear hM5 M1 lt1_0 lt1_1
  have lt20_0:g5<v5.heap.size:=(MC.out.lt (i:=0) rfl rfl).2
  have lt20_3:w.heap.size+1<v5.heap.size:=(MC.out.lt (i:=3) rfl rfl).2
  have lt20_4:w.heap.size<v5.heap.size:=(MC.out.lt (i:=4) rfl rfl).2
  obtain⟨v0,v1,v2,v3,v4,v5,v6,v7,v8,v9⟩:=(MC.out.blk (i:=0) rfl).ten
  obtain⟨f0,ff0,f1,ff1,f2,ff2,f3,ff3,f4,ff4,f5,ff5,f6,ff6,f7,ff7,f8,ff8,f9,ff9⟩:=(MC.out.blk (i:=3) rfl).tenf
  have ne0_1a: ¬(g5=w.heap.size+1):=MC.out.ne (i:=0) (j:=3) (by omega) rfl rfl rfl rfl
  have ne0_1b: ¬(w.heap.size+1=g5):=fun h=>ne0_1a h.symm
  go_wp2
  clear v0 v1 v2 v3 v4 v5 v6 v7 v8 v9 f0 ff0 f1 ff1 f2 ff2 f3 ff3 f4 ff4 f5 ff5 f6 ff6 f7 ff7 f8 ff8 f9 ff9 ne0_1a ne0_1b lt20_0 lt20_3 lt20_4
  have M21:=xQ (((MC.out).put10 (i:=3) rfl (.int .i64 r.aA) (.int .i64 r.aB) (.slice p5 r.cells.length c5) (.int .i64 r.free) (.int .i64 r.step) (.int .i64 r.aE) (.int .i64 r.aF) (.int .i64 r.aC) (.int .i64 r.aG) (.slice q5 r.vs.length d5)))
  generalize hwz:World.setCell _ _ _=wz
  rw[hwz]at M21
  clear hwz MC
  obtain⟨y0,y1,y2,y3,y4,y5,y6,y7,y8,y9⟩:=(M21.out.blk (i:=3) rfl).ten
  exact bodyPost_ret (v:= .agg #[r.aA,r.aB,.slice p5 r.cells.length c5,r.free,r.step,r.aE,r.aF,r.aC,r.aG,.slice q5 r.vs.length d5]) (by simp[results,Tryz.results11,go_sem, *]) rfl (show RetHouse r w _ _ from⟨p5,c5,q5,d5,rfl,(M21.out.own (i:=1) rfl),(M21.out.own (i:=2) rfl),M21.out.ext⟩)
theorem vB (h:aT)(p:OA)(n cap:Nat)(q:OA)(m c2:Nat)(w:World)(hn:h.cells.length≤1048576)(hi:IsHouse w h p n cap q m c2):
  Calls Tryz.prog 11 #[bS h p n cap q m c2] w (RetHouse (aH7 h) w):=by
 have hl:=hi.clen
 have hvl:=hi.vlen
 subst hl hvl
 exact aJb h (aH7 h) p cap q c2 (bP (cT h) (cV h)) (mU h (bP (cT h) (cV h))).2.length w hi
  (fun w' hx=>vF h p _ cap q _ c2 w' hn (hi.ext hx))
  (fun B pe ce w' hB hx hS=>(nV h p _ cap q _ c2 pe _ ce _ w' (hi.ext hx) hS (Nat.le_trans (uM hn) (by omega))).mono (by
   rintro e w'' ⟨pa,ca,qa,da,ps,cs,rfl,o1,o2,_,hx2⟩
   exact⟨pa,ca,qa,da,ps,cs,rfl,eO o1 hB,eO o2 hB,hx2⟩))
theorem aJg (h r:aT)(p:OA)(cap:Nat)(q:OA)(c2:Nat)(ds:List Dd3)(nb:Nat)(w:World)
  (HI:Hid (IsHouse w h p h.cells.length cap q h.vs.length c2))
  (HE:Hid (∀w',Ext w w'→Calls Tryz.prog 37 #[.agg #[h.aA,h.aB,.slice p h.cells.length cap,h.free,h.step,h.aE,h.aF,h.aC,h.aG,.slice q h.vs.length c2]] w' (jT ds w')))
  (HR:Hid (∀B pe ce w',B≤w'.heap.size→Ext w w'→Sl w' pe ds.length ce 3 (ds.flatMap aX)→Calls Tryz.prog 20 #[.agg #[h.aA,h.aB,.slice p h.cells.length cap,h.free,h.step,h.aE,h.aF,h.aC,h.aG,.slice q h.vs.length c2],.slice pe ds.length ce] w' fun e w''=> ∃pa ca qa da ps cs,e= .returned (.tuple #[.agg #[r.aA,r.aB,.slice pa r.cells.length ca,r.free,r.step,r.aE,r.aF,r.aC,r.aG,.slice qa r.vs.length da],.slice ps nb cs])∧w''.ownsRow B TI 1 (.slice pa r.cells.length ca) r.cells.length (ivs r.cells)∧w''.ownsRow B TV 4 (.slice qa r.vs.length da) r.vs.length (r.vs.flatMap aD)∧Ext w' w'')):
  Calls Tryz.prog 13 #[.agg #[h.aA,h.aB,.slice p h.cells.length cap,h.free,h.step,h.aE,h.aF,h.aC,h.aG,.slice q h.vs.length c2]] w (RetHouse r w):=by
 go_enter Tryz.func13,Tryz.ntmps13
 go_upto_region 1 with fail
 have M1:=xQ (((((Mem.start w).blkNew aO #[h.aA,h.aB,.slice p h.cells.length cap,h.free,h.step,h.aE,h.aF,h.aC,h.aG,.slice q h.vs.length c2] (w.heap.size) (by simp))).blkNew aO #[(),(),((),()),(),(),(),(),(),(),((),())] (w.heap.size+1) (by simp)))
 generalize World.alloc _ _=v0 at M1⊢
 have lt1_0:=M1.out.hi 0
 have lt1_1:=M1.out.hi 1
 have xm:=M1.out.ext
 have IX:=xQ (HI.out.ext xm)
 obtain⟨ka0,ka1,ka2,ka3,ka4,ka5,ka6,ka7,ka8,ka9⟩:=(M1.out.blk (i:=1) rfl).ten
 have nca1: ¬(w.heap.size=v0.heap.size):=by omega
 have nca2: ¬(v0.heap.size=w.heap.size):=by omega
 go_cut [3,4] (fun s1 _ wx=> ∃(g5:Nat) (p5:OA) (c5:Nat) (q5:OA) (d5:Nat),s1= .pointer (some ⟨g5,0,none⟩)∧Mem w wx [aL w.heap.size (g5) aO #[r.aA,r.aB,.slice p5 r.cells.length c5,r.free,r.step,r.aE,r.aF,r.aC,r.aG,.slice q5 r.vs.length d5],aJ w.heap.size TI 1 (p5) (r.cells.length) (c5) (ivs r.cells),aJ w.heap.size TV 4 (q5) (r.vs.length) (d5) (r.vs.flatMap aD),aL w.heap.size (w.heap.size+1) aO #[(),(),((),()),(),(),(),(),(),(),((),())],aL w.heap.size (w.heap.size) aO #[h.aA,h.aB,.slice p h.cells.length cap,h.free,h.step,h.aE,h.aF,h.aC,h.aG,.slice q h.vs.length c2]])
 case first=>
  go_region_held3 (fun w'=>w'.cell? ⟨w.heap.size,0,none⟩=some (.int .i64 h.aA)∧w'.cell? ⟨w.heap.size,1,none⟩=some (.int .i64 h.aB)∧w'.cell? ⟨w.heap.size,2,none⟩=some (.slice p h.cells.length cap)∧w'.cell? ⟨w.heap.size,3,none⟩=some (.int .i64 h.free)∧w'.cell? ⟨w.heap.size,4,none⟩=some (.int .i64 h.step)∧w'.cell? ⟨w.heap.size,5,none⟩=some (.int .i64 h.aE)∧w'.cell? ⟨w.heap.size,6,none⟩=some (.int .i64 h.aF)∧w'.cell? ⟨w.heap.size,7,none⟩=some (.int .i64 h.aC)∧w'.cell? ⟨w.heap.size,8,none⟩=some (.int .i64 h.aG)∧w'.cell? ⟨w.heap.size,9,none⟩=some (.slice q h.vs.length c2))
   (first|(refine⟨?_,?_,?_,?_,?_,?_,?_,?_,?_,?_⟩<;>with_reducible assumption)|go_keep)
   (first
    |(go_at_call 37
      refine(HE.out _ xE).mono ?_
      rintro e we ⟨pe,ce,rfl,oe,hxe⟩
      have hye:Ext v0 we:=xE
      have Ie:=xQ (Sl.own oe)
      clear oe
      obtain⟨ea0,ea1,ea2,ea3,ea4,ea5,ea6,ea7,ea8,ea9⟩:=(((M1.out.blk (i:=1) rfl)).ext hye).ten
      have nea1: ¬(w.heap.size=we.heap.size):=by have:=hye.sz;omega
      have nea2: ¬(we.heap.size=w.heap.size):=by have:=hye.sz;omega)
    |(go_at_call 20
      refine(HR.out v0.heap.size _ _ _ (Ext.sz (show Ext v0 _ from xE)) xE (by first|with_reducible exact Ie.out|with_reducible exact Ie.out.ext ((Ext.refl _).alloc _))).mono ?_
      rintro e ws ⟨p5,c5,q5,d5,ps5,cs5,rfl,os,vs_,hxs⟩
      have hys:Ext v0 ws:=xE
      obtain⟨sa0,sa1,sa2,sa3,sa4,sa5,sa6,sa7,sa8,sa9⟩:=(((M1.out.blk (i:=1) rfl)).ext hys).ten
      have nsa1: ¬(w.heap.size=ws.heap.size):=by have:=hys.sz;omega
      have nsa2: ¬(ws.heap.size=w.heap.size):=by have:=hys.sz;omega
      first
       |(with_reducible have hz:Ext (v0.alloc (.cells #[(),(),((),()),(),(),(),(),(),(),((),())] aO)) ws:=hxe.trans hxs;have MB:=xQ (Mem.own2blk M1.out hys ((Blk.new v0 aO #[(),(),((),()),(),(),(),(),(),(),((),())]).ext hz) (Nat.le_refl _) os vs_ (by decide) (by decide) (by decide));obtain⟨zc0,zf0,zc1,zf1,zc2,zf2,zc3,zf3,zc4,zf4,zc5,zf5,zc6,zf6,zc7,zf7,zc8,zf8,zc9,zf9⟩:=(MB.out.blk (i:=2) rfl).tenf)
       |(with_reducible have hz:Ext (v0.alloc (.cells #[(),(),((),()),(),(),(),(),(),(),((),())] aO)) ws:=hxe.of_drew.trans hxs;have MB:=xQ (Mem.own2blk M1.out hys ((Blk.new v0 aO #[(),(),((),()),(),(),(),(),(),(),((),())]).ext hz) (Nat.le_refl _) os vs_ (by decide) (by decide) (by decide));obtain⟨zc0,zf0,zc1,zf1,zc2,zf2,zc3,zf3,zc4,zf4,zc5,zf5,zc6,zf6,zc7,zf7,zc8,zf8,zc9,zf9⟩:=(MB.out.blk (i:=2) rfl).tenf)
       |(with_reducible have hz:Ext (we.alloc (.cells #[(),(),((),()),(),(),(),(),(),(),((),())] aO)) ws:=hxs;have MB:=xQ (Mem.own2blk M1.out hys ((Blk.new we aO #[(),(),((),()),(),(),(),(),(),(),((),())]).ext hz) hye.sz os vs_ (by decide) (by decide) (by decide));obtain⟨zc0,zf0,zc1,zf1,zc2,zf2,zc3,zf3,zc4,zf4,zc5,zf5,zc6,zf6,zc7,zf7,zc8,zf8,zc9,zf9⟩:=(MB.out.blk (i:=2) rfl).tenf)
       |(have MA:=xQ (Mem.own2 M1.out hys os vs_ (Nat.le_refl _) (by decide)))))
  all_goals (
   go_wp2_with fail
   go_meet
   first
    |exact⟨_,p5,c5,q5,d5,rfl,(MB.out.put10 (i:=2) rfl (.int .i64 r.aA) (.int .i64 r.aB) (.slice p5 r.cells.length c5) (.int .i64 r.free) (.int .i64 r.step) (.int .i64 r.aE) (.int .i64 r.aF) (.int .i64 r.aC) (.int .i64 r.aG) (.slice q5 r.vs.length d5)).pick [2,0,1,3,4] (by decide) rfl⟩
    |exact⟨_,p5,c5,q5,d5,rfl,MA.out.blkNew aO #[r.aA,r.aB,.slice p5 r.cells.length c5,r.free,r.step,r.aE,r.aF,r.aC,r.aG,.slice q5 r.vs.length d5] _ rfl⟩)
 case rest=>
  clear ka0 ka1 ka2 ka3 ka4 ka5 ka6 ka7 ka8 ka9 nca1 nca2 xm HE HR IX HI
  obtain⟨g5,p5,c5,q5,d5,rfl,hM5⟩:=hcut
  obtain⟨v5,rfl⟩: ∃z,z=wc:=⟨_,rfl⟩
  have MC:=xQ hM5
  clear hM5 M1 lt1_0 lt1_1
  have lt20_0:g5<v5.heap.size:=(MC.out.lt (i:=0) rfl rfl).2
  have lt20_3:w.heap.size+1<v5.heap.size:=(MC.out.lt (i:=3) rfl rfl).2
  have lt20_4:w.heap.size<v5.heap.size:=(MC.out.lt (i:=4) rfl rfl).2
  obtain⟨v0,v1,v2,v3,v4,v5,v6,v7,v8,v9⟩:=(MC.out.blk (i:=0) rfl).ten
  obtain⟨f0,ff0,f1,ff1,f2,ff2,f3,ff3,f4,ff4,f5,ff5,f6,ff6,f7,ff7,f8,ff8,f9,ff9⟩:=(MC.out.blk (i:=3) rfl).tenf
  have ne0_1a: ¬(g5=w.heap.size+1):=MC.out.ne (i:=0) (j:=3) (by omega) rfl rfl rfl rfl
  have ne0_1b: ¬(w.heap.size+1=g5):=fun h=>ne0_1a h.symm
  go_wp2
  clear v0 v1 v2 v3 v4 v5 v6 v7 v8 v9 f0 ff0 f1 ff1 f2 ff2 f3 ff3 f4 ff4 f5 ff5 f6 ff6 f7 ff7 f8 ff8 f9 ff9 ne0_1a ne0_1b lt20_0 lt20_3 lt20_4
  have M21:=xQ (((MC.out).put10 (i:=3) rfl (.int .i64 r.aA) (.int .i64 r.aB) (.slice p5 r.cells.length c5) (.int .i64 r.free) (.int .i64 r.step) (.int .i64 r.aE) (.int .i64 r.aF) (.int .i64 r.aC) (.int .i64 r.aG) (.slice q5 r.vs.length d5)))
  generalize hwz:World.setCell _ _ _=wz
  rw[hwz]at M21
  clear hwz MC
  obtain⟨y0,y1,y2,y3,y4,y5,y6,y7,y8,y9⟩:=(M21.out.blk (i:=3) rfl).ten
  exact bodyPost_ret (v:= .agg #[r.aA,r.aB,.slice p5 r.cells.length c5,r.free,r.step,r.aE,r.aF,r.aC,r.aG,.slice q5 r.vs.length d5]) (by simp[results,Tryz.results13,go_sem, *]) rfl (show RetHouse r w _ _ from⟨p5,c5,q5,d5,rfl,(M21.out.own (i:=1) rfl),(M21.out.own (i:=2) rfl),M21.out.ext⟩)
theorem vV (h:aT)(p:OA)(n cap:Nat)(q:OA)(m c2:Nat)(w:World)(hn:h.cells.length≤1048576)(hi:IsHouse w h p n cap q m c2)(hE:BitTab w):
  Calls Tryz.prog 13 #[bS h p n cap q m c2] w (RetHouse (aH7 h) w):=by
 have hl:=hi.clen
 have hvl:=hi.vlen
 subst hl hvl
 exact aJg h (aH7 h) p cap q c2 (bP (cT h) (cV h)) (mU h (bP (cT h) (cV h))).2.length w hi
  (fun w' hx=>vZ h p _ cap q _ c2 w' hn (hi.ext hx))
  (fun B pe ce w' hB hx hS=>(oH h p _ cap q _ c2 pe _ ce _ w' (hi.ext hx) hS (Nat.le_trans (uM hn) (by omega)) (hE.ext hx)).mono (by
   rintro e w'' ⟨pa,ca,qa,da,ps,cs,rfl,o1,o2,_,hx2⟩
   exact⟨pa,ca,qa,da,ps,cs,rfl,eO o1 hB,eO o2 hB,hx2⟩))
end Go.Proofs.YtgnkoffndhmhpaaGreatDoor
namespace Go.Proofs.YtgnkoffndhmhpaaGreatDoor
open Go.RowKit
set_option linter.unusedVariables false
set_option linter.unusedSimpArgs false
theorem aCa (h:aT)(p:OA)(n cap:Nat)(q:OA)(m c2:Nat)(w:World)(hn:n≤9223372036854775807)(hm:m≤9223372036854775807)(hb:1048576<n+m):
  Calls Tryz.prog 10 #[bS h p n cap q m c2,.int .i64 1048576] w fun e w'=>e= .returned (.int .i64 (-1))∧Ext w w':=by
 have:=qC h p n cap q m c2 w hn hm
 rwa[if_pos (by omega)]at this
theorem oY (h:aT)(p:OA)(n cap:Nat)(q:OA)(m c2:Nat)(w:World)(hb:n+m≤1048576):
  Calls Tryz.prog 10 #[bS h p n cap q m c2,.int .i64 1048576] w fun e w'=>e= .returned (.int .i64 (1048576-n-m))∧Ext w w':=by
 have:=qC h p n cap q m c2 w (by omega) (by omega)
 rwa[if_neg (by omega)]at this
set_option maxHeartbeats 8000000
set_option maxRecDepth 100000
theorem aDr {B n cap:Nat}{p:OA}{xs:List Value}(K:Int)(w:World)(h:w.ownsRow B TI 1 (.slice p n cap) n xs)(hn:n≤1099511627776)(h0:0≤K)(h1:K≤4611686018427387904):
  Calls Tryz.prog 102 #[.slice p n cap,K] w fun e w'=>e= .returned (.int .i64 (K+(n*1:Nat)))∧w'.ownsRow B TI 1 (.slice p n cap) n (aU K (n*1))∧w.grownBy w' (Value.slice p n cap).ownBlock:=by
 by_cases hz:0<n
 ·have h2:=h
  rcases h2.2 with⟨_,h3⟩|⟨g,cap',cur,e1,hb,hg,r⟩
  ·omega
  ·injection e1 with e1 e2 e3
   subst e1
   refine(vO g n cap B xs K w hn h0 h1 h).mono ?_
   rintro e w' ⟨rfl,h4,h5⟩
   exact⟨rfl,h4,h5⟩
 ·obtain rfl:n=0:=by omega
  refine(vN p cap K w).mono ?_
  rintro e w' ⟨rfl,rfl⟩
  obtain rfl:xs= []:=List.eq_nil_of_length_eq_zero (by have:=h.1;simpa using this)
  exact⟨by simp,by simpa[aU]using h,World.grownBy.refl _ _⟩
theorem aEg {B n cap:Nat}{p:OA}(K:Int)(w:World)(h:w.ownsRow B TI 1 (.slice p n cap) n (aU K (n*1)))(hn:n≤1099511627776)(h0:0≤K)(h1:K≤4611686018427387904):
  Calls Tryz.prog 103 #[.slice p n cap,K] w fun e w'=>e= .returned (.int .i64 (K+(n*1:Nat)))∧w=w':=by
 by_cases hz:0<n
 ·have h2:=h
  rcases h2.2 with⟨_,h3⟩|⟨g,cap',cur,e1,hb,hg,r⟩
  ·omega
  ·injection e1 with e1 e2 e3
   subst e1
   refine wE g 0 n cap K w hn h0 h1 (xQ fun j hj=> ?_)
   rw[Nat.zero_add,h.cellAt j hj]
   exact nB _ _ _ hj
 ·obtain rfl:n=0:=by omega
  refine(wD p cap K w).mono ?_
  rintro e w' ⟨rfl,rfl⟩
  exact⟨by simp,rfl⟩
theorem yK {B n cap:Nat}{p:OA}{xs:List Value}(K:Int)(w:World)(h:w.ownsRow B TV 4 (.slice p n cap) n xs)(hn:n≤1099511627776)(h0:0≤K)(h1:K≤4611686018427387904):
  Calls Tryz.prog 57 #[.slice p n cap,K] w fun e w'=>e= .returned (.int .i64 (K+(n*4:Nat)))∧w'.ownsRow B TV 4 (.slice p n cap) n (aU K (n*4))∧w.grownBy w' (Value.slice p n cap).ownBlock:=by
 by_cases hz:0<n
 ·have h2:=h
  rcases h2.2 with⟨_,h3⟩|⟨g,cap',cur,e1,hb,hg,r⟩
  ·omega
  ·injection e1 with e1 e2 e3
   subst e1
   refine(rV g n cap B xs K w hn h0 h1 h).mono ?_
   rintro e w' ⟨rfl,h4,h5⟩
   exact⟨rfl,h4,h5⟩
 ·obtain rfl:n=0:=by omega
  refine(rU p cap K w).mono ?_
  rintro e w' ⟨rfl,rfl⟩
  obtain rfl:xs= []:=List.eq_nil_of_length_eq_zero (by have:=h.1;simpa using this)
  exact⟨by simp,by simpa[aU]using h,World.grownBy.refl _ _⟩
theorem zJ {B n cap:Nat}{p:OA}(K:Int)(w:World)(h:w.ownsRow B TV 4 (.slice p n cap) n (aU K (n*4)))(hn:n≤1099511627776)(h0:0≤K)(h1:K≤4611686018427387904):
  Calls Tryz.prog 59 #[.slice p n cap,K] w fun e w'=>e= .returned (.int .i64 (K+(n*4:Nat)))∧w=w':=by
 by_cases hz:0<n
 ·have h2:=h
  rcases h2.2 with⟨_,h3⟩|⟨g,cap',cur,e1,hb,hg,r⟩
  ·omega
  ·injection e1 with e1 e2 e3
   subst e1
   refine sG g 0 n cap K w hn h0 h1 (xQ fun j hj=> ?_)
   rw[Nat.zero_add,h.cellAt j hj]
   exact nB _ _ _ hj
 ·obtain rfl:n=0:=by omega
  refine(sF p cap K w).mono ?_
  rintro e w' ⟨rfl,rfl⟩
  exact⟨by simp,rfl⟩
theorem aB6 {B n cap:Nat}{p:OA}{xs:List Value}(aA aB K:Int)(w:World)(hlt:Hid (∀g,(Value.slice p n cap).ownBlock=some g→g<w.heap.size))(h:Hid (w.ownsRow B TI 1 (.slice p n cap) n xs))(hn:n≤1099511627776)(h0:0≤K)(h1:K≤1099511627776):
  Calls Tryz.prog 56 #[aI aA aB p n cap,K] w fun e w'=>e= .returned (.int .i64 (K+(n:Nat)))∧w'.ownsRow B TI 1 (.slice p n cap) n (aU K n)∧w.grownBy w' (Value.slice p n cap).ownBlock:=by
 have HM:xC 102 #[.slice p n cap,K] w fun w' e w''=>e= .returned (.int .i64 (K+(n:Nat)))∧w''.ownsRow B TI 1 (.slice p n cap) n (aU K n)∧w'.grownBy w'' (Value.slice p n cap).ownBlock:=fun w' hx=>by
  have:=aDr K w' (bB h.out hx) hn h0 (by omega)
  simpa using this
 go_enter Tryz.func56,Tryz.ntmps56
 go_wp2_with fail
 refine(HM.out _ ((Ext.refl _).alloc _)).mono ?_
 rintro e w1 ⟨rfl,h2,h3⟩
 have h4:w.grownBy w1 (Value.slice p n cap).ownBlock:=by
  have ha:Ext w (w.alloc (.cells #[aA,aB,.slice p n cap] 31)):=(Ext.refl w).alloc _
  exact⟨h3.os.trans ha.os,h3.tape.trans ha.tape,h3.output.trans ha.output,Nat.le_trans ha.size h3.size,fun i hi hne=>(h3.block i (Nat.lt_of_lt_of_le hi ha.size) hne).trans (ha.block i hi)⟩
 clear h3
 go_wp2
 go_ret
 exact⟨rfl,h2,h4⟩
theorem aBw {B n cap:Nat}{p:OA}(aA aB K:Int)(w:World)(h:Hid (w.ownsRow B TI 1 (.slice p n cap) n (aU K n)))(hn:n≤1099511627776)(h0:0≤K)(h1:K≤1099511627776):
  Calls Tryz.prog 58 #[aI aA aB p n cap,K] w fun e w'=>e= .returned (.int .i64 (K+(n:Nat)))∧Ext w w':=by
 have k1:0≤K+(n:Nat):=by omega
 have HM:xC 103 #[.slice p n cap,K] w fun w' e w''=>e= .returned (.int .i64 (K+(n:Nat)))∧w'=w'':=fun w' hx=>by
  have:=aEg (B:=B) (p:=p) (cap:=cap) (n:=n) K w' (by simpa using bB h.out hx) hn h0 (by omega)
  simpa using this
 go_enter Tryz.func58,Tryz.ntmps58
 go_wp2_with fail
 refine(HM.out _ ((Ext.refl _).alloc _)).mono ?_
 rintro e w1 ⟨rfl,rfl⟩
 go_wp2
 go_ret
 exact⟨rfl,xE⟩
theorem jZ (aA aB free step aE aF aC aG:Int)(p:OA)(n cap:Nat)(q:OA)(m c2:Nat)(K:Int)(xs ys:List Value)(w0 w:World)(L:List Item)(h:Mem w0 w (aJ w0.heap.size TI 1 p n cap xs::aJ w0.heap.size TV 4 q m c2 ys::L))(hn:n≤1099511627776)(hm:m≤1099511627776)(h0:0≤K)(h1:K≤1000000):
  Calls Tryz.prog 15 #[.agg #[aA,aB,.slice p n cap,free,step,aE,aF,aC,aG,.slice q m c2],K] w fun e w'=>e= .returned (.int .i64 (K+(n:Nat)+(m*4:Nat)))∧Mem w0 w' (aJ w0.heap.size TI 1 p n cap (aU K n)::aJ w0.heap.size TV 4 q m c2 (aU (K+(n:Nat)) (m*4))::L):=by
 have M1:=xQ (h.blkNew aO #[aA,aB,.slice p n cap,free,step,aE,aF,aC,aG,.slice q m c2] (w.heap.size) rfl)
 clear h
 go_enter Tryz.func15,Tryz.ntmps15
 go_wp2_with fail
 refine(aB6 aA aB K _ (xQ fun g hg=>(M1.out.lt (i:=1) (g:=g) rfl hg).2) (xQ (M1.out.own (i:=1) rfl)) hn h0 (by omega)).mono ?_
 rintro e w1 ⟨rfl,ho,hg⟩
 have M2:=xQ (show Mem w0 w1 (aL w0.heap.size w.heap.size aO #[aA,aB,.slice p n cap,free,step,aE,aF,aC,aG,.slice q m c2]::aJ w0.heap.size TI 1 p n cap (aU K n)::aJ w0.heap.size TV 4 q m c2 ys::L)from M1.out.app (i:=1) rfl ho hg (.inl rfl))
 clear ho hg M1
 obtain⟨ce0,ce1,ce2,ce3,ce4,ce5,ce6,ce7,ce8,ce9⟩:=(M2.out.blk (i:=0) rfl).ten
 go_wp2_with fail
 clear ce0 ce1 ce2 ce3 ce4 ce5 ce6 ce7 ce8 ce9
 refine(yK (K+(n:Nat)) _ (M2.out.own (i:=2) rfl) hm (by omega) (by omega)).mono ?_
 rintro e w2 ⟨rfl,ho,hg⟩
 have M3:=xQ (show Mem w0 w2 (aL w0.heap.size w.heap.size aO #[aA,aB,.slice p n cap,free,step,aE,aF,aC,aG,.slice q m c2]::aJ w0.heap.size TI 1 p n cap (aU K n)::aJ w0.heap.size TV 4 q m c2 (aU (K+(n:Nat)) (m*4))::L)from M2.out.app (i:=2) rfl ho hg (.inl rfl))
 clear ho hg M2
 go_wp2
 go_ret
 exact⟨rfl,M3.out.sub (List.sublist_cons_self _ _)⟩
theorem kC (aA aB free step aE aF aC aG:Int)(p:OA)(n cap:Nat)(q:OA)(m c2:Nat)(K:Int)(B:Nat)(w:World)(h:w.ownsRow B TI 1 (.slice p n cap) n (aU K n))(h2:w.ownsRow B TV 4 (.slice q m c2) m (aU (K+(n:Nat)) (m*4)))(hn:n≤1099511627776)(hm:m≤1099511627776)(h0:0≤K)(h1:K≤1000000):
  Calls Tryz.prog 16 #[.agg #[aA,aB,.slice p n cap,free,step,aE,aF,aC,aG,.slice q m c2],K] w fun e w'=>e= .returned (.int .i64 (K+(n:Nat)+(m*4:Nat)))∧Ext w w':=by
 have H2:=xQ h2
 have M0:=xQ ((Mem.start w).blkNew aO #[aA,aB,.slice p n cap,free,step,aE,aF,aC,aG,.slice q m c2] w.heap.size rfl)
 have H1:=xQ (bB h M0.out.ext)
 clear h h2
 have k1:0≤K+(n:Nat):=by omega
 have k2:0≤K+(n:Nat)+(m*4:Nat):=by omega
 go_enter Tryz.func16,Tryz.ntmps16
 go_wp2_with fail
 refine(aBw aA aB K _ H1 hn h0 (by omega)).mono ?_
 rintro e w1 ⟨rfl,hx⟩
 have M1:=xQ (M0.out.adv hx)
 clear hx M0
 obtain⟨ce0,ce1,ce2,ce3,ce4,ce5,ce6,ce7,ce8,ce9⟩:=(M1.out.blk (i:=0) rfl).ten
 go_wp2_with fail
 clear ce0 ce1 ce2 ce3 ce4 ce5 ce6 ce7 ce8 ce9
 refine(zJ (K+(n:Nat)) _ (bB H2.out M1.out.ext) hm (by omega) (by omega)).mono ?_
 rintro e w2 ⟨rfl,rfl⟩
 go_wp2
 go_ret
 exact⟨rfl,M1.out.ext⟩
end Go.Proofs.YtgnkoffndhmhpaaGreatDoor
