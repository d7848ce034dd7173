/-
  Texts of this proof, packed (@packed).
-/
import Derived.Test.YtgnkoffndhmhpaaGreatDoorP5
import Derived.Test.YtgnkoffndhmhpaaGreatDoorP19
import Derived.Test.YtgnkoffndhmhpaaGreatDoorP27
import Derived.Test.YtgnkoffndhmhpaaGreatDoorP28
namespace Go.Proofs.YtgnkoffndhmhpaaGreatDoor
open Go.RowKit
set_option linter.unusedVariables false
set_option linter.unusedSimpArgs false
set_option maxHeartbeats 8000000
set_option maxRecDepth 100000
theorem aJj:ElT Tryz.prog 46 TDd 3:=
 ⟨Tryz.underlying46,by
  obtain⟨i,hi,h0,h1,h2⟩:=info_parts (show(Tryz.prog.info? TDd).map (fun i=>(i.zero,i.size,i.bytes))=some (some (.agg #[(),(),()]),3,24) by kernel_rfl)
  exact⟨i,_,hi,h0,h1,by omega,rfl⟩,by omega⟩
theorem qM (ds:List Dd3): ∀u∈ds.flatMap bW,u.oneCell'=true:=by
 intro u hu
 obtain⟨v,_,hv⟩:=List.mem_flatMap.1 hu
 simp[bW]at hv
 rcases hv with rfl|rfl|rfl<;>rfl
theorem aC5 (id a:Int)(w:World)(ha:a≤10000)(ha0: -10000≤a):Calls Tryz.prog 88 #[id,a] w (mF (fQ id a (dC a)) w):=by
 have ME:=((Mem.start w).made0 TDd 3 (w.heap.size) (by simp))
 have m:dC a≤40:=by unfold dC;omega
 go_enter Tryz.func88,Tryz.ntmps88
 go_wp2
 go_loopw [1,5] (fun x v wr=> ∃(k:Nat) (q:OA) (c:Nat) (X:Int),k≤dC a∧x= .int .i64 X∧v= .slice q k c∧(k<dC a→X=a-300*(k:Int))∧(dC a≤k→X≤0)∧Mem w wr [aJ w.heap.size TDd 3 (q) (k) (c) ((fQ id a k).flatMap bW)]) (fun x _ _=>(intOf x).toNat)
 case atStart=>exact⟨0,some ⟨w.heap.size,0,none⟩,0,a,Nat.zero_le _,rfl,rfl,fun _=>by simp,fun h=>by have:=jG a 0;omega,ME⟩
 case round=>
  clear ME
  obtain⟨k,q,c,X,hk,rfl,rfl,hX,d,hM⟩:=hrel
  have HM:=hM
  clear hM
  by_cases hlt:k<dC a
  ·have b:=hX hlt
   have e:=(jG a k).1 hlt
   clear hX d
   have hp:0<X:=by omega
   have l:X≤10000:=by omega
   have g:k+1<dC a→X-min X 300=a-300*((k+1:Nat):Int):=fun h=>by have:=(jG a (k+1)).1 h;omega
   have f:dC a≤k+1→X-min X 300≤0:=fun h=>by have:=jG a (k+1);omega
   have i:Hid (kE id a k=(1,id,min X 300)):=by show _=_;unfold kE;rw[b]
   have t0:decide (0<X)=true:=by simp[hp]
   have j:IntKind.i64.wrap (X-min X 300)=X-min X 300:=IntWalk.i64_in _ (by omega)
   clear b e
   go_wp2_with (at_builtin;go_loud (refine cJ aJj rfl _ _ rfl (HM.adv ((Ext.refl _).alloc (.cells #[.int .i64 1,id,(min X 300:Int)] TDd))) 0 rfl rfl (bW (1,id,min X 300)) rfl (dY _ _ _ 1 3 _ (by simp[bW]) (by simp[bW]) (by simp[maxLen])) (fun u hu=>qM [(1,id,min X 300)] u (by simpa using hu)) (by omega) ?_;intro q7 c7 w6 M6))
   have M7:=(show Mem w w6 [aJ w.heap.size TDd 3 (q7) (k+1) (c7) ((fQ id a (k+1)).flatMap bW)]from by rw[pH,List.flatMap_append,i.out];simpa using M6)
   clear M6 HM
   go_wp2
   go_roundw
   case rel=>exact⟨k+1,q7,c7,X-min X 300,by omega,by go_num,rfl,g,f,M7⟩
   case measure=>simp[intOf];omega
  ·have b:=d (by omega)
   obtain rfl:k=dC a:=by omega
   have t0:decide (0<X)=false:=by simp;omega
   go_wp2
   go_ret
   have h1:=HM.ow 0
   exact⟨q,c,by rw[kJ];rfl,by rw[kJ];exact h1,HM.ext⟩
theorem aIu (aA aB free step aD aG aC aF:Int)(p:OA)(n cap:Nat)(q:OA)(m c2:Nat)(ids:List Int)(due:Int→Int)(w:World)(hl:ids.length≤1000)
  (HO:Hid (∀w',Ext w w'→Calls Tryz.prog 86 #[.agg #[aA,aB,.slice p n cap,free,step,aD,aG,aC,aF,.slice q m c2]] w' (aX ids w')))
  (HD:Hid (∀x,x∈ids→ ∀w',Ext w w'→Calls Tryz.prog 32 #[.agg #[aA,aB,.slice p n cap,free,step,aD,aG,aC,aF,.slice q m c2],x] w' fun e w''=>e= .returned (.int .i64 (due x))∧Ext w' w''))
  (hb:Hid (∀x∈ids,due x≤10000∧ -10000≤due x))(hdl:Hid (∀k,(bF due (ids.take k)).length≤k*41)):
  Calls Tryz.prog 37 #[.agg #[aA,aB,.slice p n cap,free,step,aD,aG,aC,aF,.slice q m c2]] w (mF (bF due ids) w):=by
 go_enter Tryz.func37,Tryz.ntmps37
 have MB:=((Mem.start w).bn 35 #[aA,aB,.slice p n cap,free,step,aD,aG,aC,aF,.slice q m c2] (w.heap.size))
 go_wp2_with fail
 refine(HO _ MB.ext).mono ?_
 rintro e w1 ⟨q1,c1,rfl,o1,y⟩
 have M1:=((MB.call y o1).call (Ext.refl _) (World.ownsRow_nil _ _ TDd 3))
 clear MB y o1
 go_wp2
 go_loopw [3,10] (fun v i wr=> ∃(k:Nat) (q4:OA) (l c4:Nat),k≤ids.length∧i= .int .i64 (k:Int)∧v= .slice q4 l c4∧l=(bF due (ids.take k)).length∧Mem w wr [aJ w.heap.size TDd 3 (q4) (l) (c4) ((bF due (ids.take k)).flatMap bW),aJ w.heap.size TI 1 (q1) (ids.length) (c1) (ivs ids),aI w.heap.size (w.heap.size) 35 #[aA,aB,.slice p n cap,free,step,aD,aG,aC,aF,.slice q m c2]]) (fun _ i _=>ids.length-(intOf i).toNat)
 case atStart=>exact⟨0,none,0,0,Nat.zero_le _,rfl,rfl,rfl,M1⟩
 case round=>
  clear M1
  obtain⟨k,q4,l,c4,hk,rfl,rfl,g,hM⟩:=hrel
  have HM:=hM
  have aa:=xQ g
  clear hM
  have a0:l≤k*41:=by rw[g];exact hdl.out k
  clear g
  by_cases hlt:k<ids.length
  ·obtain⟨b,f,x,rfl,hx,aj,hc⟩:=Sl.int_at (HM.sq 1) hlt
   have HX:=xQ hx
   have c:=xQ (List.mem_of_getElem? hx)
   have av:=hb.out x c.out
   clear hx
   have i1:(0:Int)≤(k:Int):=by omega
   have i2:(k:Int)<(ids.length:Int):=by omega
   obtain⟨ap,aq,am,ae,ak,ab,an,ar,ag,ai⟩:=(HM.bk 2).ten
   go_wp2_with fail
   clear ap aq am ae ak ab an ar ag ai hc aj
   refine(HD x c.out _ HM.ext).mono ?_
   rintro e w3 ⟨rfl,t⟩
   have M3:=(HM.adv t)
   clear HM t
   generalize r:due x=D at*
   have ah:=xQ r
   clear r
   have az:dC D≤40:=by unfold dC;omega
   go_wp2
   go_loopw [3,6] (fun v d wr=> ∃(j:Nat) (q5:OA) (l5 c5:Nat) (X:Int),j≤dC D∧d= .int .i64 X∧v= .slice q5 l5 c5∧l5=l+j∧X=D-300*(j:Int)∧Mem w wr [aJ w.heap.size TDd 3 (q5) (l5) (c5) ((bF due (ids.take k)).flatMap bW++(fQ x D j).flatMap bW),aJ w.heap.size TI 1 (some ⟨b,f,none⟩) (ids.length) (c1) (ivs ids),aI w.heap.size (w.heap.size) 35 #[aA,aB,.slice p n cap,free,step,aD,aG,aC,aF,.slice q m c2]]) (fun _ d _=>(intOf d).toNat)
   case atStart=>exact⟨0,q4,l,c4,D,Nat.zero_le _,rfl,rfl,rfl,by simp,by simpa[aCz]using M3⟩
   case round=>
    clear M3
    obtain⟨j,q5,l5,c5,X,hj,rfl,rfl,o,hX,hM⟩:=hrel
    have M4:=hM
    have ao:=xQ hX
    have a:=jG D j
    have ax:X≤10000:=by omega
    have ay: -30000≤X:=by omega
    have z:=xQ o
    have au:l5≤l+40:=by omega
    clear hM o
    by_cases hjt:j<dC D
    ·have hp:0<X:=by have:=a.1 hjt;omega
     have af:X-300=D-300*((j+1:Nat):Int):=by omega
     have al:Hid (kE x D j=(1,x,min X 300)):=by show _=_;unfold kE;rw[←ao.out]
     have t0:decide (0<X)=true:=by simp[hp]
     have aw:IntKind.i64.wrap (X-300)=X-300:=IntWalk.i64_in _ (by omega)
     clear hX a
     go_wp2_with (at_builtin;go_loud (refine cJ aJj rfl _ _ rfl (M4.adv ((Ext.refl _).alloc (.cells #[.int .i64 1,x,(min X 300:Int)] TDd))) 0 rfl rfl (bW (1,x,(min X 300))) rfl (dY _ _ _ 1 3 _ (by simp[bW]) (by simp[bW]) (by simp[maxLen])) (fun u hu=>qM [(1,x,(min X 300))] u (by simpa using hu)) (by omega) ?_;intro q7 c7 w6 M6))
     have M7:=(show Mem w w6 [aJ w.heap.size TDd 3 (q7) (l5+1) (c7) ((bF due (ids.take k)).flatMap bW++(fQ x D (j+1)).flatMap bW),aJ w.heap.size TI 1 (some ⟨b,f,none⟩) (ids.length) (c1) (ivs ids),aI w.heap.size (w.heap.size) 35 #[aA,aB,.slice p n cap,free,step,aD,aG,aC,aF,.slice q m c2]]from by rw[pH,List.flatMap_append,al.out];simpa[List.append_assoc]using M6)
     clear M6 M4
     go_wp2
     go_roundw
     case rel=>exact⟨j+1,q7,l5+1,c7,X-300,by omega,by go_num,rfl,by have:=z.out;omega,af,M7⟩
     case measure=>simp[intOf];omega
    ·obtain rfl:j=dC D:=by omega
     have t0:decide (0<X)=false:=by have: ¬0<X:=fun h=>hjt (a.2 (by omega));simp;omega
     clear hX a hjt
     go_wp2_with (at_builtin;go_loud (refine cJ aJj rfl _ _ rfl (M4.adv ((Ext.refl _).alloc (.cells #[.int .i64 2,x,()] TDd))) 0 rfl rfl (bW (2,x,0)) rfl (dY _ _ _ 1 3 _ (by simp[bW]) (by simp[bW]) (by simp[maxLen])) (fun u hu=>qM [(2,x,0)] u (by simpa using hu)) (by omega) ?_;intro q7 c7 w6 M6))
     have s:Hid (bF due (ids.take (k+1))=bF due (ids.take k)++fQ x D (dC D)++ [(2,x,0)]):=by show _=_;rw[pA due HX.out,ah.out]
     have M7:=(show Mem w w6 [aJ w.heap.size TDd 3 (q7) (l5+1) (c7) ((bF due (ids.take (k+1))).flatMap bW),aJ w.heap.size TI 1 (some ⟨b,f,none⟩) (ids.length) (c1) (ivs ids),aI w.heap.size (w.heap.size) 35 #[aA,aB,.slice p n cap,free,step,aD,aG,aC,aF,.slice q m c2]]from by rw[s.out];simpa[List.flatMap_append,List.append_assoc]using M6)
     have ad:Hid (l5+1=(bF due (ids.take (k+1))).length):=by show _=_;rw[s.out,List.length_append,List.length_append,kJ,←aa.out,z.out];rfl
     clear M6 M4
     go_wp2
     go_roundw
     case rel=>exact⟨k+1,q7,l5+1,c7,by omega,by go_num,rfl,ad.out,M7⟩
     case measure=>simp[intOf];omega
  ·obtain rfl:k=ids.length:=by omega
   go_wp2
   go_ret
   have h1:=HM.ow 0
   have h2:=aa.out
   rw[List.take_length]at h1 h2
   subst h2
   exact⟨q4,c4,rfl,h1,HM.ext⟩
theorem aHn (aA aB free step aD aG aC aF:Int)(p:OA)(n cap:Nat)(q:OA)(m c2:Nat)(ids:List Int)(due:Int→Int)(w:World)(hl:ids.length≤1000)
  (HO:Hid (∀w',Ext w w'→Calls Tryz.prog 87 #[.agg #[aA,aB,.slice p n cap,free,step,aD,aG,aC,aF,.slice q m c2]] w' (aX ids w')))
  (HD:Hid (∀x,x∈ids→ ∀w',Ext w w'→Calls Tryz.prog 85 #[.agg #[aA,aB,.slice p n cap,free,step,aD,aG,aC,aF,.slice q m c2],x] w' fun e w''=>e= .returned (.int .i64 (due x))∧Ext w' w''))
  (HPA:Hid (∀x,x∈ids→ ∀w',Calls Tryz.prog 88 #[x,(due x:Int)] w' fun e w''=> ∃q c,e= .returned (.slice q (dC (due x)) c)∧w''.ownsRow w'.heap.size TDd 3 (.slice q (dC (due x)) c) (dC (due x)) ((fQ x (due x) (dC (due x))).flatMap bW)∧Ext w' w''))
  (hb:Hid (∀x∈ids,due x≤10000∧ -10000≤due x))(hdl:Hid (∀k,(bF due (ids.take k)).length≤k*41)):
  Calls Tryz.prog 39 #[.agg #[aA,aB,.slice p n cap,free,step,aD,aG,aC,aF,.slice q m c2]] w (mF (bF due ids) w):=by
 go_enter Tryz.func39,Tryz.ntmps39
 have MB:=(((Mem.start w).bn 35 #[aA,aB,.slice p n cap,free,step,aD,aG,aC,aF,.slice q m c2] (w.heap.size)).made0 TDd 3 (w.heap.size+1) (by simp))
 go_wp2_with fail
 refine(HO _ MB.ext).mono ?_
 rintro e w1 ⟨q1,c1,rfl,o1,y⟩
 have M0:=(MB.call y o1)
 have M1:=(show Mem w w1 [aJ w.heap.size TDd 3 (some ⟨w.heap.size+1,0,none⟩) (0) (0) ([]),aJ w.heap.size TI 1 (q1) (ids.length) (c1) (ivs ids),aI w.heap.size (w.heap.size) 35 #[aA,aB,.slice p n cap,free,step,aD,aG,aC,aF,.slice q m c2]]from(M0.pick [1,0,2] (by decide) rfl))
 clear MB M0 y o1
 go_wp2
 go_loopw [3,5] (fun v i wr=> ∃(k:Nat) (q4:OA) (l c4:Nat),k≤ids.length∧i= .int .i64 (k:Int)∧v= .slice q4 l c4∧l=(bF due (ids.take k)).length∧Mem w wr [aJ w.heap.size TDd 3 (q4) (l) (c4) ((bF due (ids.take k)).flatMap bW),aJ w.heap.size TI 1 (q1) (ids.length) (c1) (ivs ids),aI w.heap.size (w.heap.size) 35 #[aA,aB,.slice p n cap,free,step,aD,aG,aC,aF,.slice q m c2]]) (fun _ i _=>ids.length-(intOf i).toNat)
 case atStart=>exact⟨0,some ⟨w.heap.size+1,0,none⟩,0,0,Nat.zero_le _,rfl,rfl,rfl,M1⟩
 case round=>
  clear M1
  obtain⟨k,q4,l,c4,hk,rfl,rfl,g,hM⟩:=hrel
  have HM:=hM
  have aa:=xQ g
  clear hM
  have az:l≤k*41:=by rw[g];exact hdl.out k
  clear g
  by_cases hlt:k<ids.length
  ·obtain⟨b,o,x,rfl,hx,f,hc⟩:=Sl.int_at (HM.sq 1) hlt
   have HX:=xQ hx
   have a:=xQ (List.mem_of_getElem? hx)
   have al:=hb.out x a.out
   clear hx
   have i1:(0:Int)≤(k:Int):=by omega
   have i2:(k:Int)<(ids.length:Int):=by omega
   obtain⟨ay,au,ar,am,ax,av,an,ap,aq,aw⟩:=(HM.bk 2).ten
   have af:=xQ (HD x a.out)
   have ad:=xQ (HPA x a.out)
   generalize z:due x=D at*
   have ag:=xQ z
   clear z
   have ao:dC D≤40:=by unfold dC;omega
   generalize j:dC D=C at*
   have aj:=xQ j
   clear j
   go_wp2
   go_region_law ((first
    |(go_simp;go_at_call 85
      refine(af _ (HM.ext.trans xE)).mono ?_
      rintro e w3 ⟨rfl,d⟩
      (try replace d:=d.of_drew)
      have M3:=(HM.adv d)
      have ae:=(d.cells.1 _ _ f).trans hc
      have t:b<w3.heap.size:=Nat.lt_of_lt_of_le f d.sz)
    |(go_simp;go_at_call 88
      refine(ad _).mono ?_
      rintro e w4 ⟨q5,c5,rfl,o5,h⟩
      (try replace h:=h.of_drew)
      have M4:=(M3.call h o5))
    |(refine fN aJj (by rfl) _ _ (by rfl) (M4.adv xE) 1 (by rfl) (by rfl) ((fQ x D C).flatMap bW) (by rfl) ((M4.sq 0).ext xE) (qM _) (by omega) ?_
      intro q7 c7 w6 M6)))
   all_goals (
    have r:Hid (bF due (ids.take (k+1))=bF due (ids.take k)++fQ x D C++ [(2,x,0)]):=by show _=_;rw[pA due HX.out,ag.out,aj.out]
    have MA:=(show Mem w w6 [aJ w.heap.size TDd 3 (q7) (l+C) (c7) ((bF due (ids.take k)).flatMap bW++(fQ x D C).flatMap bW),aJ w.heap.size TI 1 (some ⟨b,o,none⟩) (ids.length) (c1) (ivs ids),aI w.heap.size (w.heap.size) 35 #[aA,aB,.slice p n cap,free,step,aD,aG,aC,aF,.slice q m c2]]from(M6.pick [1,2,3] (by decide) rfl))
    obtain⟨b',ak,x',e1,s,ab,ah⟩:=Sl.int_at (MA.sq 1) hlt
    cases e1
    obtain rfl:x=x':=by have:=HX.out;rw[s]at this;exact(Option.some.inj this).symm
    clear M6 M4 M3 HM s hc f
    (try clear ae t)
    go_wp2_with (at_builtin;go_loud (refine cJ aJj rfl _ _ rfl (MA.adv ((Ext.refl _).alloc (.cells #[.int .i64 2,x,()] TDd))) 0 rfl rfl (bW (2,x,0)) rfl (dY _ _ _ 1 3 _ (by simp[bW]) (by simp[bW]) (by simp[maxLen])) (fun u hu=>qM [(2,x,0)] u (by simpa using hu)) (by omega) ?_;intro q8 c8 w8 M8))
    have ai:Hid (l+C+1=(bF due (ids.take (k+1))).length):=by show _=_;rw[r.out,List.length_append,List.length_append,kJ,←aa.out];rfl
    have M9:=(show Mem w w8 [aJ w.heap.size TDd 3 (q8) (l+C+1) (c8) ((bF due (ids.take (k+1))).flatMap bW),aJ w.heap.size TI 1 (some ⟨b,o,none⟩) (ids.length) (c1) (ivs ids),aI w.heap.size (w.heap.size) 35 #[aA,aB,.slice p n cap,free,step,aD,aG,aC,aF,.slice q m c2]]from by rw[r.out];simpa[List.flatMap_append,List.append_assoc]using M8)
    clear M8 MA ah ab
    go_wp2
    go_roundw
    case rel=>exact⟨k+1,q8,l+C+1,c8,by omega,by go_num,rfl,ai.out,M9⟩
    case measure=>simp[intOf];omega)
  ·obtain rfl:k=ids.length:=by omega
   go_wp2
   go_ret
   have h1:=HM.ow 0
   have h2:=aa.out
   rw[List.take_length]at h1 h2
   subst h2
   exact⟨q4,c4,rfl,h1,HM.ext⟩
theorem wN {R B n sz:Nat}{e:TypeId}{w w':World}{v:Value}{xs:List Value}(ho:w.ownsRow B e sz v n xs)(hx:ExtR R w w')(hB:R<B):w'.ownsRow B e sz v n xs:=
 jP ho (fun g hg=>hx.block g (World.ownsRow.lt ho g hg).2 (fun e=>by injection e with e;have:=(World.ownsRow.lt ho g hg).1;omega))
def aEa (w:World)(e:Ending)(w':World):Prop:=
 ∃(h:aO) (p:OA) (cap:Nat) (q:OA) (c2:Nat) (a b c:Int),e= .returned (.tuple #[bK h p h.cells.length cap q h.vs.length c2,jC a b c])∧h.cells.length≤13∧h.vs.length≤13∧IsHouse w' h p h.cells.length cap q h.vs.length c2∧Ext w w'
theorem aBo (v:Value)(w:World)(hc:Code w v):Calls Tryz.prog 26 #[v] w (aEa w):=by
 go_enter Tryz.func26,Tryz.ntmps26
 go_wp2_with fail
 refine(nM v _ (hc.ext xE)).mono ?_
 rintro e w1 ⟨R,rfl,hR,r1,x1⟩
 have ba:w.heap.size+1<R:=by have:=hR;simp at this;omega
 have hR:=r1.lt
 have M1:=((((Mem.start w).bn aL #[(),(),((),()),(),(),(),(),(),(),((),())] (w.heap.size)).bn TDd #[(),(),()] (w.heap.size+1)).adv x1)
 have ab:=M1.hi 0
 have ah:=M1.hi 1
 clear x1
 go_wp2_with fail
 refine(mQ R 0 12 _ r1 (by omega) (by omega) (by omega)).mono ?_
 rintro e w2 ⟨h,p,d,q,c2,rfl,ag,a3,ho,hv,r2,x2⟩
 have M2:=(show MemR R w1 w2 [aJ w1.heap.size TI 1 (p) (h.cells.length) (d) (ivs h.cells),aJ w1.heap.size TV 4 (q) (h.vs.length) (c2) (h.vs.flatMap aE)]from(MemR.start R w1 hR).own2 x2 ho hv (by decide))
 have z2:=x2.sz
 clear ho hv x2
 go_upto_region 3 with fail
 have r3:Rand (w2.alloc (.cells #[h.aA,h.aB,.slice p h.cells.length d,h.free,h.step,h.aD,h.aG,h.aC,h.aF,.slice q h.vs.length c2] aL)) R 20000:=by first|(exact xN)|exact(r2.alloc _).mono (by omega)
 have M3:=(M2.bn aL #[h.aA,h.aB,.slice p h.cells.length d,h.free,h.step,h.aD,h.aG,h.aC,h.aF,.slice q h.vs.length c2] (w2.heap.size))
 generalize aa:(w2.alloc (.cells #[h.aA,h.aB,.slice p h.cells.length d,h.free,h.step,h.aD,h.aG,h.aC,h.aF,.slice q h.vs.length c2] aL))=w3
 rw[aa]at M3 r3
 clear aa r2 r1 M2
 have af:=M3.hi 0
 have a8:R<w2.heap.size:=by omega
 have X3:=xQ (ExtR.new M1.ext M3.ext (by omega))
 have B0:=xQ (M3.bk 0)
 have BH:=xQ (M3.ext.blk (M1.bk 1) (by omega))
 have BD:=xQ (M3.ext.blk (M1.bk 0) (by omega))
 have u:=xQ fun(w':World) (kk:Nat) (hkk:kk≤1099511600000) (hx:ExtR R w3 w') (hr:Rand w' R kk)=>lY R kk h p d q c2 w' hr hkk (by omega) (mO (i:=1) (j:=2) (M3.pickd hx) rfl rfl) (qA (i:=1) M3 rfl) (qA (i:=2) M3 rfl)
 unfold zJ at u
 refine nI (gl [gEq (.agg #[h.aA,h.aB,.slice p h.cells.length d,h.free,h.step,h.aD,h.aG,h.aC,h.aF,.slice q h.vs.length c2]),gEq (.pointer (some ⟨R,0,none⟩)),gEq (.agg #[h.aA,h.aB,.slice p h.cells.length d,h.free,h.step,h.aD,h.aG,h.aC,h.aF,.slice q h.vs.length c2]),(fun v _=> ∃a b c:Int,v=jC a b c)]) R (20000) 60 4 (by kernel_rfl) rfl (by kernel_rfl) (by kernel_rfl) (by kernel_rfl) r3 (uO (bU (eA _) (bU (eA _) (bU (eA _) (bU (fun _ _ _ h _=>h) (yW)))))) rfl (k:=6) (by kernel_rfl) (by decide) (ls:= [(0,some 10),(1,some 11),(2,some 12),(3,some 13)]) (by kernel_rfl) (ir:= [0,1,2,3]) (by kernel_rfl) ?steps (tl:=#[true,true,true,true,false,false]) (by kernel_rfl) ?fin
 case steps=>
  refine sCr [] rfl (fun wi kk hx hr hkk=> ?_) ?_
  ·intro K hK
   have f:ExtR R w3 wi:=hx.of_drew
   obtain⟨a0,aq,ao,ad,ax,av,ai,aj,al,aw⟩:=(f.blk B0 (by omega)).ten
   go_simp
   exact hK _ _ ⟨.agg #[h.aA,h.aB,.slice p h.cells.length d,h.free,h.step,h.aD,h.aG,h.aC,h.aF,.slice q h.vs.length c2],rfl,rfl,(fZ hr (Ext.refl _))⟩
  refine sSr0 [] ?_
  refine sCr [] rfl (fun wi kk hx hr hkk=> ?_) ?_
  ·intro K hK
   have f:ExtR R w3 wi:=hx.of_drew
   obtain⟨a0,aq,ao,ad,ax,av,ai,aj,al,aw⟩:=(f.blk B0 (by omega)).ten
   go_simp
   exact hK _ _ ⟨.agg #[h.aA,h.aB,.slice p h.cells.length d,h.free,h.step,h.aD,h.aG,h.aC,h.aF,.slice q h.vs.length c2],rfl,rfl,(fZ hr (Ext.refl _))⟩
  refine sCr [(1,some 11),(2,some 12)] rfl (fun wi kk hx hr hkk=> ?_) StepsLR.nil
  ·intro v1 h1 v2 h2 K hK
   obtain rfl:=h1
   obtain rfl:=h2
   go_wp2_with fail
   refine(u _ kk (by omega) hx.of_drew hr).mono ?_
   rintro e w5 ⟨da,db,dc,rfl,r5,x5⟩
   go_simp
   exact hK _ _ ⟨jC da db dc,rfl,⟨da,db,dc,rfl⟩,⟨x5,r5⟩⟩
 case fin=>
  intro wi hx hr v0 h0 v1 h1 v2 h2 v3 h3
  obtain rfl:=h0
  obtain rfl:=h1
  obtain rfl:=h2
  obtain⟨o,n,r,rfl⟩:=h3
  have f:ExtR R w3 wi:=hx.of_drew
  have z3:w3.heap.size≤wi.heap.size:=f.sz
  have Xi:=xQ (ExtR.new X3 f (by omega))
  have s:=f.blk BH (by omega)
  have oi:=wN (M3.ow 1) f (by omega)
  have vi:=wN (M3.ow 2) f (by omega)
  have t:=f.blk BD (by omega)
  clear B0 BH BD u hx f X3 r3 hr M3 M1
  have lH:w.heap.size<wi.heap.size:=s.lt
  have lD:w.heap.size+1<wi.heap.size:=t.lt
  obtain⟨z0,a6,z1,ak,z2,a1,z3,a7,z4,au,z5,a2,z6,ay,z7,ar,z8,a5,z9,a4⟩:=s.tenf
  refine wpAny_ready (rs:= [4]) (by kernel_rfl) (by simp) ?_
  refine AllReady.cons rfl (fun K hK=> ?_) AllReady.nil
  go_simp
  refine hK _ _ ?_
  clear hK K z0 a6 z1 ak z2 a1 z3 a7 z4 au z5 a2 z6 ay z7 ar z8 a5 z9 a4
  have BX:=s
  generalize g:World.setCell _ _ _=w8
  have m:ExtR (w.heap.size) wi w8:=by rw[←g];exact((((((((((ExtR.refl (w.heap.size) wi).setCell (p:=⟨w.heap.size,0,none⟩) (.inl rfl) (.int .i64 h.aA)).setCell (p:=⟨w.heap.size,1,none⟩) (.inl rfl) (.int .i64 h.aB)).setCell (p:=⟨w.heap.size,2,none⟩) (.inl rfl) (.slice p h.cells.length d)).setCell (p:=⟨w.heap.size,3,none⟩) (.inl rfl) (.int .i64 h.free)).setCell (p:=⟨w.heap.size,4,none⟩) (.inl rfl) (.int .i64 h.step)).setCell (p:=⟨w.heap.size,5,none⟩) (.inl rfl) (.int .i64 h.aD)).setCell (p:=⟨w.heap.size,6,none⟩) (.inl rfl) (.int .i64 h.aG)).setCell (p:=⟨w.heap.size,7,none⟩) (.inl rfl) (.int .i64 h.aC)).setCell (p:=⟨w.heap.size,8,none⟩) (.inl rfl) (.int .i64 h.aF)).setCell (p:=⟨w.heap.size,9,none⟩) (.inl rfl) (.slice q h.vs.length c2)
  have YX:=(((((((((BX.set 0 (.int .i64 h.aA)).set 1 (.int .i64 h.aB)).set 2 (.slice p h.cells.length d)).set 3 (.int .i64 h.free)).set 4 (.int .i64 h.step)).set 5 (.int .i64 h.aD)).set 6 (.int .i64 h.aG)).set 7 (.int .i64 h.aC)).set 8 (.int .i64 h.aF)).set 9 (.slice q h.vs.length c2)
  simp only[List.setIfInBounds_toArray,List.set_cons_zero,List.set_cons_succ]at YX
  rw[g]at YX
  clear g
  have y:=wN oi m (by omega)
  have z:=wN vi m (by omega)
  have x:=m.blk t (by omega)
  have a9:=x.lt
  obtain⟨y0,ae,y1,az,y2,ap⟩:=x.trif
  refine wpAny_ready (rs:= [5]) (by kernel_rfl) (by simp) ?_
  refine AllReady.cons rfl (fun K hK=> ?_) AllReady.nil
  go_simp
  refine hK _ _ ?_
  clear hK K y0 ae y1 az y2 ap
  have BZ:=x
  generalize g:World.setCell _ _ _=w9
  have l:ExtR (w.heap.size+1) w8 w9:=by rw[←g];exact(((ExtR.refl (w.heap.size+1) w8).setCell (p:=⟨w.heap.size+1,0,none⟩) (.inl rfl) (.int .i64 o)).setCell (p:=⟨w.heap.size+1,1,none⟩) (.inl rfl) (.int .i64 n)).setCell (p:=⟨w.heap.size+1,2,none⟩) (.inl rfl) (.int .i64 r)
  have YZ:=((BZ.set 0 (.int .i64 o)).set 1 (.int .i64 n)).set 2 (.int .i64 r)
  simp only[List.setIfInBounds_toArray,List.set_cons_zero,List.set_cons_succ]at YZ
  rw[g]at YZ
  clear g
  have an:=wN y l (by omega)
  have am:=wN z l (by omega)
  have YH:=l.blk YX (by omega)
  have YD:=YZ
  have X9:Ext w w9:=ExtR.new (ExtR.new Xi m (by omega)) l (by omega)
  clear m l YX YZ Xi s t oi vi y z
  refine wpAny_done (by kernel_rfl) ?_ _
  try simp only[Act.put,List.setIfInBounds_toArray,List.set_cons_zero,List.set_cons_succ]
  go_wp2
  obtain⟨y0,y1,y2,y3,y4,y5,y6,y7,y8,y9⟩:=YH.ten
  obtain⟨u0,u1,u2⟩:=YD.tri
  exact bodyPost_ret (v:= .tuple #[.agg #[h.aA,h.aB,.slice p h.cells.length d,h.free,h.step,h.aD,h.aG,h.aC,h.aF,.slice q h.vs.length c2],.agg #[o,n,r]]) (by simp[results,Tryz.results26,go_sem, *]) rfl ⟨h,p,d,q,c2,o,n,r,rfl,ag,a3,⟨Sl.own an,Sl.own am⟩,X9⟩
theorem yA (p q:OA)(n m c1 c2:Nat)(xs ys:List Int)(w:World)(h1:Sl w p n c1 1 (ivs xs))(h2:Sl w q m c2 1 (ivs ys)):
  Calls Tryz.prog 128 #[.slice p n c1,.slice q m c2] w fun e w'=> ∃b:Bool,e= .returned (.bool b)∧(b=true↔xs=ys)∧Ext w w':=by
 have hn:=h1.bd
 have hm:=h2.bd
 have l1:=xQ h1.ilen
 have l2:=xQ h2.ilen
 have H1:=xQ h1
 have H2:=xQ h2
 clear h1 h2
 by_cases hnm:n=m
 ·subst hnm
  go_enter Tryz.func128,Tryz.ntmps128
  go_wp2
  go_loopw [5] (fun i wr=> ∃k:Nat,k≤n∧i= .int .i64 k∧xs.take k=ys.take k∧Ext w wr) (fun i _=>n-(intOf i).toNat)
  case atStart=>exact⟨0,Nat.zero_le _,rfl,rfl,Ext.refl _⟩
  case round=>
   obtain⟨k,hk,rfl,ht,hE⟩:=hrel
   have HT:=xQ ht
   clear ht
   by_cases hlt:k<n
   ·obtain⟨b,h,x,rfl,hx,hb,f⟩:=(H1.out.ext hE).int_at hlt
    obtain⟨b2,g,y,rfl,hy,j,c⟩:=(H2.out.ext hE).int_at hlt
    have HX:=xQ hx
    have HY:=xQ hy
    clear hx hy
    have i1:(0:Int)≤(k:Int):=by omega
    have i2:(k:Int)<(n:Int):=by omega
    by_cases hxy:x=y
    ·have d:Hid (xs.take (k+1)=ys.take (k+1)):=by
      show _=_
      rw[bD HX.out,bD HY.out,HT.out,hxy]
     subst hxy
     go_wp2
     go_quiet (fail)
     go_wp2
     go_roundw
     case rel=>exact⟨k+1,by omega,by go_num,d.out,xE⟩
     case measure=>simp[intOf];omega
    ·have e1:(x==y)=false:=by simpa using hxy
     have a:Hid (xs≠ys):=by
      rintro rfl
      have:=HX.out.symm.trans HY.out
      injection this with this
      exact hxy this
     clear hxy
     go_wp2
     go_quiet (fail)
     go_wp2
     go_ret
     exact⟨false,rfl,iff_of_false Bool.false_ne_true a.out,xE⟩
   ·have a:Hid (xs=ys):=by
     have:=HT.out
     rw[List.take_of_length_le (by rw[l1.out];omega),List.take_of_length_le (by rw[l2.out];omega)]at this
     exact this
    go_wp2
    go_ret
    exact⟨true,rfl,iff_of_true rfl a.out,hE⟩
 ·have e1:((n:Int)==(m:Int))=false:=by simp;omega
  have e2: ¬(n:Int)=(m:Int):=by omega
  have a:Hid (xs≠ys):=by
   rintro rfl
   exact hnm (l1.out.symm.trans l2.out)
  go_enter Tryz.func128,Tryz.ntmps128
  go_wp2
  go_ret
  exact⟨false,rfl,iff_of_false Bool.false_ne_true a.out,xE⟩
theorem yC (aA aB wide2 deep2:Int)(p q:OA)(n m c1 c2:Nat)(xs ys:List Int)(w:World)(h1:Sl w p n c1 1 (ivs xs))(h2:Sl w q m c2 1 (ivs ys)):
  Calls Tryz.prog 79 #[aH aA aB p n c1,aH wide2 deep2 q m c2] w fun e w'=> ∃b:Bool,e= .returned (.bool b)∧(b=true↔aA=wide2∧aB=deep2∧xs=ys)∧Ext w w':=by
 have H1:=xQ h1
 have H2:=xQ h2
 clear h1 h2
 by_cases hw:aA=wide2
 ·subst hw
  by_cases hd:aB=deep2
  ·subst hd
   go_enter Tryz.func79,Tryz.ntmps79
   go_wp2_with fail
   refine(yA p q n m c1 c2 xs ys _ (H1.out.ext xE) (H2.out.ext xE)).mono ?_
   rintro e w1 ⟨b,rfl,hb,hx⟩
   have HB:=xQ hb
   clear hb
   go_wp2
   go_ret
   exact⟨b,rfl,by rw[HB.out];simp,xE⟩
  ·have e1:(aB==deep2)=false:=by simpa using hd
   have HN:=xQ hd
   clear hd
   go_enter Tryz.func79,Tryz.ntmps79
   go_wp2
   go_ret
   exact⟨false,rfl,iff_of_false Bool.false_ne_true (fun e=>HN e.2.1),xE⟩
 ·have e1:(aA==wide2)=false:=by simpa using hw
  have HN:=xQ hw
  clear hw
  go_enter Tryz.func79,Tryz.ntmps79
  go_wp2
  go_ret
  exact⟨false,rfl,iff_of_false Bool.false_ne_true (fun e=>HN e.1),xE⟩
theorem fO (a b:Int):(a==b)=false∧ ¬a=b∨a=b:=by
 by_cases h:a=b
 ·exact .inr h
 ·exact .inl ⟨by simpa using h,h⟩
theorem lK (h g:aO)(p1:OA)(n1 c1:Nat)(q1:OA)(m1 d1:Nat)(p2:OA)(n2 c2:Nat)(q2:OA)(m2 d2:Nat)(w:World)(hi1:IsHouse w h p1 n1 c1 q1 m1 d1)(hi2:IsHouse w g p2 n2 c2 q2 m2 d2):
  Calls Tryz.prog 29 #[bK h p1 n1 c1 q1 m1 d1,bK g p2 n2 c2 q2 m2 d2] w fun e w'=> ∃b:Bool,e= .returned (.bool b)∧(b=true↔h=g)∧Ext w w':=by
 have hm:=hi1.vs.bd
 have af:=hi2.vs.bd
 have u:=xQ hi1.vlen
 have t:=xQ hi2.vlen
 have H1:=xQ hi1.cells
 have H2:=xQ hi2.cells
 have V1:=xQ hi1.vs
 have V2:=xQ hi2.vs
 clear hi1 hi2
 obtain⟨aA,aB,s,p,q,aD,aG,aC,aF,vs⟩:=h
 obtain⟨d,f,r,j,m,c,o,a,n,l⟩:=g
 dsimp only at u t H1 H2 V1 V2
 go_enter Tryz.func29,Tryz.ntmps29
 go_wp2_with fail
 refine(yC aA aB d f p1 p2 n1 n2 c1 c2 s r _ (H1.out.ext (((Mem.start w).bn aL #[aA,aB,.slice p1 n1 c1,p,q,aD,aG,aC,aF,.slice q1 m1 d1] (w.heap.size)).bn aL #[d,f,.slice p2 n2 c2,j,m,c,o,a,n,.slice q2 m2 d2] (w.heap.size+1)).ext) (H2.out.ext (((Mem.start w).bn aL #[aA,aB,.slice p1 n1 c1,p,q,aD,aG,aC,aF,.slice q1 m1 d1] (w.heap.size)).bn aL #[d,f,.slice p2 n2 c2,j,m,c,o,a,n,.slice q2 m2 d2] (w.heap.size+1)).ext)).mono ?_
 rintro e w1 ⟨b,rfl,hb,hx⟩
 have HB:=xQ hb
 clear hb
 have M1:=((((Mem.start w).bn aL #[aA,aB,.slice p1 n1 c1,p,q,aD,aG,aC,aF,.slice q1 m1 d1] (w.heap.size)).bn aL #[d,f,.slice p2 n2 c2,j,m,c,o,a,n,.slice q2 m2 d2] (w.heap.size+1)).adv hx)
 have x:=M1.hi 0
 have y:=M1.hi 1
 clear hx
 obtain⟨a0,a1,a2,a3,a4,a5,a6,a7,a8,a9⟩:=(M1.bk 1).ten
 obtain⟨b0,b1,b2,b3,b4,b5,b6,b7,b8,b9⟩:=(M1.bk 0).ten
 cases b with
 |false=>
  have HN:Hid (¬(aA=d∧aB=f∧s=r)):=fun e=>absurd (HB.out.2 e) Bool.false_ne_true
  go_wp2
  go_ret
  exact⟨false,rfl,iff_of_false Bool.false_ne_true (fun e=>HN (by injection e;exact⟨‹_›,‹_›,‹_›⟩)),M1.ext⟩
 |true=>
  obtain⟨rfl,rfl,rfl⟩:=HB.out.1 rfl
  clear HB
  rcases fO p j with⟨x1,hn⟩|rfl
  ·have HN:=xQ hn
   clear hn
   go_wp2
   go_ret
   exact⟨false,rfl,iff_of_false Bool.false_ne_true (fun e=>HN (by injection e)),M1.ext⟩
  rcases fO q m with⟨x1,hn⟩|rfl
  ·have HN:=xQ hn
   clear hn
   go_wp2
   go_ret
   exact⟨false,rfl,iff_of_false Bool.false_ne_true (fun e=>HN (by injection e)),M1.ext⟩
  rcases fO aD c with⟨x1,hn⟩|rfl
  ·have HN:=xQ hn
   clear hn
   go_wp2
   go_ret
   exact⟨false,rfl,iff_of_false Bool.false_ne_true (fun e=>HN (by injection e)),M1.ext⟩
  rcases fO aG o with⟨x1,hn⟩|rfl
  ·have HN:=xQ hn
   clear hn
   go_wp2
   go_ret
   exact⟨false,rfl,iff_of_false Bool.false_ne_true (fun e=>HN (by injection e)),M1.ext⟩
  rcases fO aC a with⟨x1,hn⟩|rfl
  ·have HN:=xQ hn
   clear hn
   go_wp2
   go_ret
   exact⟨false,rfl,iff_of_false Bool.false_ne_true (fun e=>HN (by injection e)),M1.ext⟩
  rcases fO aF n with⟨x1,hn⟩|rfl
  ·have HN:=xQ hn
   clear hn
   go_wp2
   go_ret
   exact⟨false,rfl,iff_of_false Bool.false_ne_true (fun e=>HN (by injection e)),M1.ext⟩
  by_cases hm:m1=m2
  ·subst hm
   go_wp2
   go_loopw [5] (fun i wr=> ∃k:Nat,k≤m1∧i= .int .i64 k∧vs.take k=l.take k∧Ext w1 wr) (fun i _=>m1-(intOf i).toNat)
   case atStart=>exact⟨0,Nat.zero_le _,rfl,rfl,Ext.refl _⟩
   case round=>
    clear a0 a1 a2 a3 a4 a5 a6 a7 a8 a9 b0 b1 b2 b3 b4 b5 b6 b7 b8 b9
    obtain⟨k,hk,rfl,ht,hE⟩:=hrel
    have HT:=xQ ht
    have M2:=(M1.adv hE)
    clear ht
    have ae:=hE.sz
    have a9:=(M2.bk 1).cl 9
    have b9:=(M2.bk 0).cl 9
    by_cases hlt:k<m1
    ·obtain⟨b,ab,x0,x1,x2,x3,rfl,hx,hb,g0,g1,g2,g3⟩:=dW (V1.out.ext M2.ext) hlt
     obtain⟨b',aa,y0,y1,y2,y3,rfl,hy,ad,k0,k1,k2,k3⟩:=dW (V2.out.ext M2.ext) hlt
     have HX:=xQ hx
     have HY:=xQ hy
     clear hx hy
     have i1:(0:Int)≤(k:Int):=by omega
     have i2:(k:Int)<(m1:Int):=by omega
     have HV:Hid (vs=l→(x0,x1,x2,x3)=(y0,y1,y2,y3)):=fun e=>by
      have:=HX.out
      rw[e,HY.out]at this
      injection this with this
      exact this.symm
     rcases fO x0 y0 with⟨z1,hn⟩|rfl
     ·have HN:Hid (¬vs=l):=fun e=>hn (by have:=HV e;simp only[Prod.mk.injEq]at this;exact this.1)
      clear hn HV
      go_wp2
      go_quiet (fail)
      go_wp2
      go_ret
      exact⟨false,rfl,iff_of_false Bool.false_ne_true (fun e=>HN (by injection e)),Ext.drewN M2.ext _⟩
     rcases fO x1 y1 with⟨z1,hn⟩|rfl
     ·have HN:Hid (¬vs=l):=fun e=>hn (by have:=HV e;simp only[Prod.mk.injEq]at this;exact this.2.1)
      clear hn HV
      go_wp2
      go_quiet (fail)
      go_wp2
      go_ret
      exact⟨false,rfl,iff_of_false Bool.false_ne_true (fun e=>HN (by injection e)),Ext.drewN M2.ext _⟩
     rcases fO x2 y2 with⟨z1,hn⟩|rfl
     ·have HN:Hid (¬vs=l):=fun e=>hn (by have:=HV e;simp only[Prod.mk.injEq]at this;exact this.2.2.1)
      clear hn HV
      go_wp2
      go_quiet (fail)
      go_wp2
      go_ret
      exact⟨false,rfl,iff_of_false Bool.false_ne_true (fun e=>HN (by injection e)),Ext.drewN M2.ext _⟩
     rcases fO x3 y3 with⟨z1,hn⟩|rfl
     ·have HN:Hid (¬vs=l):=fun e=>hn (by have:=HV e;simp only[Prod.mk.injEq]at this;exact this.2.2.2)
      clear hn HV
      go_wp2
      go_quiet (fail)
      go_wp2
      go_ret
      exact⟨false,rfl,iff_of_false Bool.false_ne_true (fun e=>HN (by injection e)),Ext.drewN M2.ext _⟩
     have z:Hid (vs.take (k+1)=l.take (k+1)):=by
      show _=_
      rw[bD HX.out,bD HY.out,HT.out]
     clear HV
     go_wp2
     go_quiet (fail)
     go_wp2
     go_roundw
     case rel=>exact⟨k+1,by omega,by go_num,z.out,xE⟩
     case measure=>simp[intOf];omega
    ·have v:Hid (vs=l):=by
      have:=HT.out
      rw[List.take_of_length_le (by rw[u.out];omega),List.take_of_length_le (by rw[t.out];omega)]at this
      exact this
     go_wp2
     go_ret
     exact⟨true,rfl,iff_of_true rfl (by rw[v.out]),M2.ext⟩
  ·have e1:((m1:Int)==(m2:Int))=false:=by simp;omega
   have e2: ¬(m1:Int)=(m2:Int):=by omega
   have HN:Hid (¬vs=l):=fun e=>hm (by rw[←u.out,←t.out,e])
   go_wp2
   go_ret
   exact⟨false,rfl,iff_of_false Bool.false_ne_true (fun e=>HN (by injection e)),M1.ext⟩
theorem yB (h:aO)(p1:OA)(n1 c1:Nat)(q1:OA)(m1 d1:Nat)(p2:OA)(n2 c2:Nat)(q2:OA)(m2 d2:Nat)(w:World)(hi1:IsHouse w h p1 n1 c1 q1 m1 d1)(hi2:IsHouse w h p2 n2 c2 q2 m2 d2):
  Calls Tryz.prog 29 #[bK h p1 n1 c1 q1 m1 d1,bK h p2 n2 c2 q2 m2 d2] w fun e w'=>e= .returned (.bool true)∧Ext w w':=by
 refine(lK h h p1 n1 c1 q1 m1 d1 p2 n2 c2 q2 m2 d2 w hi1 hi2).mono ?_
 rintro e w' ⟨b,rfl,hb,hx⟩
 rw[hb.2 rfl]
 exact⟨rfl,hx⟩
theorem aLz {w:World}{q:OA}{m c2:Nat}{bs:List Bool}(h:Sl w q m c2 1 (bcs bs)){k:Nat}(hk:k<m):
  ∃b off x,q=some ⟨b,off,none⟩∧bs[k]? =some x∧b<w.heap.size∧w.cell? ⟨b,off+k,none⟩=some (.bool x):=by
 obtain⟨b,off,hp,hb,hc⟩:=h.rd (by omega)
 have hl:=h.len
 rw[aF0]at hl
 have hx:bs[k]? =some (bs[k]'(by omega)):=List.getElem?_eq_getElem (by omega)
 refine⟨b,off,bs[k]'(by omega),hp,hx,hb,?_⟩
 rw[hc k (by omega)]
 simp only[bcs,List.getElem?_map,hx,Option.map_some]
theorem yD (p q:OA)(n c1 c2:Nat)(xs:List Dd3)(w:World)(h1:Sl w p n c1 3 (xs.flatMap bW))(h2:Sl w q n c2 3 (xs.flatMap bW)):
  Calls Tryz.prog 38 #[.slice p n c1,.slice q n c2] w fun e w'=>e= .returned (.bool true)∧Ext w w':=by
 have hn:=h1.bd
 have H1:=xQ h1
 have H2:=xQ h2
 clear h1 h2
 go_enter Tryz.func38,Tryz.ntmps38
 go_wp2
 go_loopw [5] (fun i wr=> ∃k:Nat,k≤n∧i= .int .i64 k∧Ext w wr) (fun i _=>n-(intOf i).toNat)
 case atStart=>exact⟨0,Nat.zero_le _,rfl,Ext.refl _⟩
 case round=>
  obtain⟨k,hk,rfl,hE⟩:=hrel
  by_cases hlt:k<n
  ·obtain⟨b,c,x,y,z,rfl,hx,hb,g0,g1,g2⟩:=zE (H1.out.ext hE) hlt
   obtain⟨b2,a,x',y',z',rfl,hy,d,k0,k1,k2⟩:=zE (H2.out.ext hE) hlt
   rw[hx]at hy
   injection hy with hy
   simp only[Prod.mk.injEq]at hy
   obtain⟨rfl,rfl,rfl⟩:=hy
   clear hx
   have i1:(0:Int)≤(k:Int):=by omega
   have i2:(k:Int)<(n:Int):=by omega
   go_wp2
   go_quiet (fail)
   go_wp2
   go_roundw
   case rel=>exact⟨k+1,by omega,by go_num,xE⟩
   case measure=>simp[intOf];omega
  ·go_wp2
   go_ret
   exact⟨rfl,hE⟩
end Go.Proofs.YtgnkoffndhmhpaaGreatDoor
namespace Go.Proofs.YtgnkoffndhmhpaaGreatDoor
open Go.RowKit
set_option linter.unusedVariables false
set_option linter.unusedSimpArgs false
theorem mU {h:aO}(hn:h.cells.length≤1048576):(cA h).length≤1000:=by
 cases hok:aS h with
 |false=>unfold cA;rw[hok];simp
 |true=>
  rw[lN hok]
  have h1:=jH hok
  unfold aN at h1
  rw[Bool.and_eq_true]at h1
  have hb:=bX h1.1
  have h2:=aFr (if(0:Int)∈h.cells then []else [h.cells.headD 0]) (cE h.cells)
  have h3:=jF h.cells
  rw[iC]at h2
  have h4:(if(0:Int)∈h.cells then([]:List Int)else [h.cells.headD 0]).length≤1:=by split<;>simp
  omega
theorem lB (h:aO)(id:Int):aQ h id≤10000∧ -10000≤aQ h id:=by
 cases hok:aS h with
 |false=>simp[aQ,cP,hok]
 |true=>
  cases hv:bS id h.vs with
  |none=>simp[aQ,cP,hok,hv]
  |some v=>
   have hm:v∈h.vs:=List.mem_of_find?_eq_some hv
   have hb:=mB hok hm
   have e:aQ h id=nV h v:=by unfold aQ cP nV;rw[if_pos hok,hv];rfl
   rw[e];omega
theorem uU (h:aO)(k:Nat):(bF (aQ h) ((cA h).take k)).length≤k*41:=by
 refine Nat.le_trans (zA _ _ 40 (fun x _=> ?_)) (Nat.mul_le_mul_right 41 (List.length_take_le _ _))
 have:=lB h x
 unfold dC;omega
theorem aGs {h:aO}(hn:h.cells.length≤1048576):(bF (aQ h) (cA h)).length≤100000:=by
 have h1:=uU h (cA h).length
 rw[List.take_length]at h1
 have:=mU hn
 omega
theorem yQ (h:aO)(p:OA)(n cap:Nat)(q:OA)(m c2:Nat)(w:World)(hn:h.cells.length≤1048576)(hi:IsHouse w h p n cap q m c2):
  Calls Tryz.prog 37 #[bK h p n cap q m c2] w (mF (bF (aQ h) (cA h)) w):=
 aIu h.aA h.aB h.free h.step h.aD h.aG h.aC h.aF p n cap q m c2 (cA h) (aQ h) w (mU hn)
  (fun w' hx=>yP h p n cap q m c2 w' (hi.ext hx)) (fun x _ w' hx=>mR h x p n cap q m c2 w' (hi.ext hx)) (fun x _=>lB h x) (fun k=>uU h k)
theorem xW (h:aO)(p:OA)(n cap:Nat)(q:OA)(m c2:Nat)(w:World)(hn:h.cells.length≤1048576)(hi:IsHouse w h p n cap q m c2):
  Calls Tryz.prog 39 #[bK h p n cap q m c2] w (mF (bF (aQ h) (cA h)) w):=
 aHn h.aA h.aB h.free h.step h.aD h.aG h.aC h.aF p n cap q m c2 (cA h) (aQ h) w (mU hn)
  (fun w' hx=>xV h p n cap q m c2 w' (hi.ext hx)) (fun x _ w' hx=>pR h x p n cap q m c2 w' (hi.ext hx))
  (fun x _ w'=>by
   have hb:=lB h x
   refine(aC5 x (aQ h x) w' hb.1 hb.2).mono ?_
   rintro e a ⟨q,c,rfl,ho,hx⟩
   rw[kJ]at ho⊢
   exact⟨q,c,rfl,ho,hx⟩)
  (fun x _=>lB h x) (fun k=>uU h k)
end Go.Proofs.YtgnkoffndhmhpaaGreatDoor
