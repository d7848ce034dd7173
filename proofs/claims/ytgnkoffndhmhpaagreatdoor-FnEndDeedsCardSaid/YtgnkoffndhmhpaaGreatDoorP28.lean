/-
  Texts of this proof, packed (@packed).
-/
import Derived.Deep.CutBlock
import Derived.Test.YtgnkoffndhmhpaaGreatDoorP4
import Derived.Test.YtgnkoffndhmhpaaGreatDoorP5
import Derived.Test.YtgnkoffndhmhpaaGreatDoorP7
import Derived.Test.YtgnkoffndhmhpaaGreatDoorP11
import Derived.Test.YtgnkoffndhmhpaaGreatDoorP19
import Derived.Test.YtgnkoffndhmhpaaGreatDoorP22
import Derived.Test.YtgnkoffndhmhpaaGreatDoorP24
import Derived.Test.YtgnkoffndhmhpaaGreatDoorP27
namespace Go.Proofs.YtgnkoffndhmhpaaGreatDoor
open Go.RowKit
set_option linter.unusedVariables false
set_option linter.unusedSimpArgs false
set_option maxHeartbeats 8000000
set_option maxRecDepth 100000
def iR (D:aP→Int)(vs:List aP):Int:=vs.foldl (fun a v=>a+D v) 0
theorem qU (D:aP→Int){vs:List aP}{k:Nat}{v:aP}(h:vs[k]? =some v):iR D (vs.take (k+1))=iR D (vs.take k)+D v:=by
 unfold iR;rw[bD h,List.foldl_append];rfl
theorem tE (D:aP→Int): ∀(vs:List aP) (a:Int),(∀v∈vs,0≤D v∧D v≤693)→a≤vs.foldl (fun a v=>a+D v) a∧vs.foldl (fun a v=>a+D v) a≤a+693*vs.length:=by
 intro vs
 induction vs with
 |nil=>intro a _;simp
 |cons v vs ih=>
  intro a h
  obtain⟨h0,h1⟩:=h v (by simp)
  have:=ih (a+D v) (fun x hx=>h x (by simp[hx]))
  simp only[List.foldl_cons,List.length_cons]
  omega
theorem aDi (aA aB free step aD aG aC aF:Int)(p:OA)(n cap:Nat)(q:OA)(m c2:Nat)(w:World)(HV:xB 30 #[.agg #[aA,aB,.slice p n cap,free,step,aD,aG,aC,aF,.slice q m c2]] w false):
  Calls Tryz.prog 34 #[.agg #[aA,aB,.slice p n cap,free,step,aD,aG,aC,aF,.slice q m c2]] w fun e w'=>e= .returned (.int .i64 (-1))∧Ext w w':=by
 go_enter Tryz.func34,Tryz.ntmps34
 go_wp2_with fail
 refine(HV _ (by exact .alloc (.refl _) _)).mono ?_
 rintro e w1 ⟨rfl,a⟩
 go_wp2
 go_ret
 exact⟨rfl,by exact .trans (.alloc (.refl _) _) a⟩
theorem aC8 (aA aB free step aD aG aC aF:Int)(p:OA)(n cap:Nat)(q:OA)(m c2:Nat)(w:World)(HV:xB 40 #[.agg #[aA,aB,.slice p n cap,free,step,aD,aG,aC,aF,.slice q m c2]] w false):
  Calls Tryz.prog 35 #[.agg #[aA,aB,.slice p n cap,free,step,aD,aG,aC,aF,.slice q m c2]] w fun e w'=>e= .returned (.int .i64 (-1))∧Ext w w':=by
 go_enter Tryz.func35,Tryz.ntmps35
 go_wp2_with fail
 refine(HV _ (by exact .alloc (.refl _) _)).mono ?_
 rintro e w1 ⟨rfl,a⟩
 go_wp2
 go_ret
 exact⟨rfl,by exact .trans (.alloc (.refl _) _) a⟩
theorem aAx (aA aB free step aD aG aC aF:Int)(p:OA)(n cap:Nat)(q:OA)(m c2:Nat)(w:World)(vs:List aP)(D:aP→Int)(hm:m≤12)(HB:Hid (∀v∈vs,0≤D v∧D v≤693))(HS:Hid (Sl w q m c2 4 (vs.flatMap aE)))
  (HV:xB 30 #[.agg #[aA,aB,.slice p n cap,free,step,aD,aG,aC,aF,.slice q m c2]] w true)
  (HD:Hid (∀w' (k:Nat) a0 a1 a2 a3,vs[k]? =some (a0,a1,a2,a3)→Calls Tryz.prog 84 #[aR free step aD aG,bP a1 a2 a3,aC] w' fun e w''=>e= .returned (.int .i64 (D (a0,a1,a2,a3)))∧Ext w' w'')):
  Calls Tryz.prog 34 #[.agg #[aA,aB,.slice p n cap,free,step,aD,aG,aC,aF,.slice q m c2]] w fun e w'=>e= .returned (.int .i64 (iR D vs))∧Ext w w':=by
 have hl:Hid (vs.length=m):=by
  have:=HS.out.len;rw[dD aE 4 (fun _=>rfl)]at this;exact(by omega:vs.length=m)
 go_enter Tryz.func34,Tryz.ntmps34
 go_wp2_with fail
 refine(HV _ (by exact .alloc (.refl _) _)).mono ?_
 rintro e w1 ⟨rfl,f⟩
 have BA:Blk w1 w.heap.size 35 #[aA,aB,.slice p n cap,free,step,aD,aG,aC,aF,.slice q m c2]:=(Blk.new w _ _).ext f
 have l:=xQ BA
 have X1:Ext w w1:=by exact .trans (.alloc (.refl _) _) f
 clear f
 obtain⟨a0,a1,a2,a3,a4,a5,a6,a7,a8,a9⟩:=BA.ten
 clear BA
 go_wp2
 clear a0 a1 a2 a3 a4 a5 a6 a7 a8 a9
 go_loopw [3,12] (fun o i wr=> ∃k:Nat,k≤m∧i= .int .i64 k∧o= .int .i64 (iR D (vs.take k))∧Ext w wr∧Blk wr w.heap.size 35 #[aA,aB,.slice p n cap,free,step,aD,aG,aC,aF,.slice q m c2]) (fun _ i _=>m-(intOf i).toNat)
 case atStart=>exact⟨0,Nat.zero_le _,rfl,rfl,X1,l.out⟩
 case round=>
  obtain⟨k,hk,rfl,rfl,hE,hB⟩:=hrel
  have c:=xQ hB
  clear X1 l
  have ag:w.heap.size<wr.heap.size:=hB.lt
  clear hB
  by_cases hlt:k<m
  ·obtain⟨b,ad,a0,a1,a2,a3,rfl,hv,hb,g0,g1,g2,g3⟩:=dW (HS.out.ext hE) hlt
   have z:=xQ hv
   have j:=xQ (qU D hv)
   have hd:=HB _ (List.mem_of_getElem? hv)
   have d:=tE D (vs.take k) 0 (fun x hx=>HB x (List.mem_of_mem_take hx))
   have s:(vs.take k).length≤12:=by rw[List.length_take,hl.out];omega
   obtain⟨S,hS⟩: ∃S,S=iR D (vs.take k):=⟨_,rfl⟩
   obtain⟨E,a⟩: ∃E,E=D (a0,a1,a2,a3):=⟨_,rfl⟩
   change 0≤iR D (vs.take k)∧iR D (vs.take k)≤_ at d
   rw[←hS]at d⊢
   rw[←a]at hd
   obtain⟨af,ab⟩:=hd
   obtain⟨ae,y⟩:=d
   have aa:S≤8316:=by omega
   have r:Hid (S+E=iR D (vs.take (k+1))):=by show _=_;rw[j.out,hS,a]
   have t:=xQ a
   clear hS y s j hv a
   obtain⟨e0,e1,e2,e3,e4,e5,e6,e7,e8,e9⟩:=c.out.ten
   go_wp2_with fail
   refine(HD _ k a0 a1 a2 a3 z.out).mono ?_
   rintro e w2 ⟨rfl,h⟩
   rw[←t.out]
   have u:=xQ ((c.out.alloc _).ext h)
   go_wp2
   go_roundw
   case rel=>exact⟨k+1,by omega,by go_num,by rw[←r.out],by exact .trans (.alloc hE _) h,u.out⟩
   case measure=>simp[intOf];omega
  ·have g:Hid (iR D (vs.take k)=iR D vs):=by show _=_;rw[List.take_of_length_le (by rw[hl.out];omega)]
   have e9:=c.out.cl 9
   go_wp2
   go_ret
   exact⟨eW g.out,hE⟩
theorem zV (aA aB free step aD aG aC aF:Int)(p:OA)(n cap:Nat)(q:OA)(m c2:Nat)(w:World)(vs:List aP)(D:aP→Int)(hm:m≤12)(HB:Hid (∀v∈vs,0≤D v∧D v≤693))(HS:Hid (Sl w q m c2 4 (vs.flatMap aE)))
  (HV:xB 40 #[.agg #[aA,aB,.slice p n cap,free,step,aD,aG,aC,aF,.slice q m c2]] w true)
  (HD:Hid (∀w' (k:Nat) a0 a1 a2 a3,Ext w w'→vs[k]? =some (a0,a1,a2,a3)→Calls Tryz.prog 85 #[.agg #[aA,aB,.slice p n cap,free,step,aD,aG,aC,aF,.slice q m c2],a0] w' fun e w''=>e= .returned (.int .i64 (D (a0,a1,a2,a3)))∧Ext w' w'')):
  Calls Tryz.prog 35 #[.agg #[aA,aB,.slice p n cap,free,step,aD,aG,aC,aF,.slice q m c2]] w fun e w'=>e= .returned (.int .i64 (iR D vs))∧Ext w w':=by
 have hl:Hid (vs.length=m):=by
  have:=HS.out.len;rw[dD aE 4 (fun _=>rfl)]at this;exact(by omega:vs.length=m)
 go_enter Tryz.func35,Tryz.ntmps35
 go_wp2_with fail
 refine(HV _ (by exact .alloc (.refl _) _)).mono ?_
 rintro e w1 ⟨rfl,l⟩
 have BA:Blk w1 w.heap.size 35 #[aA,aB,.slice p n cap,free,step,aD,aG,aC,aF,.slice q m c2]:=(Blk.new w _ _).ext l
 have s:=xQ BA
 have X1:Ext w w1:=by exact .trans (.alloc (.refl _) _) l
 clear l
 obtain⟨a0,a1,a2,a3,a4,a5,a6,a7,a8,a9⟩:=BA.ten
 clear BA
 go_wp2
 clear a0 a1 a2 a3 a4 a5 a6 a7 a8 a9
 go_loopw [3,4] (fun o i wr=> ∃k:Nat,k≤m∧i= .int .i64 k∧o= .int .i64 (iR D (vs.take k))∧Ext w wr∧Blk wr w.heap.size 35 #[aA,aB,.slice p n cap,free,step,aD,aG,aC,aF,.slice q m c2]) (fun _ i _=>m-(intOf i).toNat)
 case atStart=>exact⟨0,Nat.zero_le _,rfl,rfl,X1,s.out⟩
 case round=>
  obtain⟨k,hk,rfl,rfl,hE,hB⟩:=hrel
  have h:=xQ hB
  clear X1 s
  have ad:w.heap.size<wr.heap.size:=hB.lt
  clear hB
  by_cases hlt:k<m
  ·obtain⟨b,f,a0,a1,a2,a3,rfl,hv,hb,g0,g1,g2,g3⟩:=dW (HS.out.ext hE) hlt
   have aa:=xQ hv
   have r:=xQ (qU D hv)
   have hd:=HB _ (List.mem_of_getElem? hv)
   have j:=tE D (vs.take k) 0 (fun x hx=>HB x (List.mem_of_mem_take hx))
   have u:(vs.take k).length≤12:=by rw[List.length_take,hl.out];omega
   obtain⟨S,hS⟩: ∃S,S=iR D (vs.take k):=⟨_,rfl⟩
   obtain⟨E,c⟩: ∃E,E=D (a0,a1,a2,a3):=⟨_,rfl⟩
   change 0≤iR D (vs.take k)∧iR D (vs.take k)≤_ at j
   rw[←hS]at j⊢
   rw[←c]at hd
   obtain⟨ab,ae⟩:=hd
   obtain⟨af,y⟩:=j
   have ag:S≤8316:=by omega
   have d:Hid (S+E=iR D (vs.take (k+1))):=by show _=_;rw[r.out,hS,c]
   have z:=xQ c
   clear hS y u r hv c
   obtain⟨e0,e1,e2,e3,e4,e5,e6,e7,e8,e9⟩:=h.out.ten
   have i1:(0:Int)≤(k:Int):=by omega
   have i2:(k:Int)<(m:Int):=by omega
   have j1:IntKind.i64.wrap (S+E)=S+E:=IntWalk.i64_in _ (by omega)
   go_wp2
   go_region_held3 (fun w'=>w'.cell? ⟨w.heap.size,0,none⟩=some (.int .i64 aA)∧w'.cell? ⟨w.heap.size,1,none⟩=some (.int .i64 aB)∧w'.cell? ⟨w.heap.size,2,none⟩=some (.slice p n cap)∧w'.cell? ⟨w.heap.size,3,none⟩=some (.int .i64 free)∧w'.cell? ⟨w.heap.size,4,none⟩=some (.int .i64 step)∧w'.cell? ⟨w.heap.size,5,none⟩=some (.int .i64 aD)∧w'.cell? ⟨w.heap.size,6,none⟩=some (.int .i64 aG)∧w'.cell? ⟨w.heap.size,7,none⟩=some (.int .i64 aC)∧w'.cell? ⟨w.heap.size,8,none⟩=some (.int .i64 aF)∧w'.cell? ⟨w.heap.size,9,none⟩=some (.slice (some ⟨b,f,none⟩) m c2)∧w'.cell? ⟨b,f+k*4,none⟩=some (.int .i64 a0)) (first|(refine⟨?_,?_,?_,?_,?_,?_,?_,?_,?_,?_,?_⟩<;>assumption)|go_keep)
    ((go_at_call 85
      refine(HD _ k a0 a1 a2 a3 (by first|exact hE|exact hE.drew|exact Ext.drewN hE _) aa.out).mono ?_
      rintro e w2 ⟨rfl,a⟩
      (try replace a:=a.of_drew)
      rw[←z.out]
      have g:=xQ (h.out.ext a)
      have X2:Ext w w2:=hE.trans a
      have gk:w2.cell? ⟨b,f+k*4,none⟩=some (.int .i64 a0):=by rw[a.cells.1 _ _ hb];exact g0
      obtain⟨k0,k1,k2,k3,k4,k5,k6,k7,k8,k9⟩:=g.out.ten
      clear a))
   all_goals clear j1
   all_goals go_wp2
   all_goals go_roundw
   all_goals first
    |(case rel=>exact⟨k+1,by omega,by go_num,by rw[←d.out],by exact X2,g.out⟩)
    |(case rel=>exact⟨k+1,by omega,by go_num,by rw[←d.out],xE,g.out.ext xE⟩)
    |(case measure=>simp[intOf];omega)
  ·have t:Hid (iR D (vs.take k)=iR D vs):=by show _=_;rw[List.take_of_length_le (by rw[hl.out];omega)]
   have e9:=h.out.cl 9
   go_wp2
   go_ret
   exact⟨eW t.out,hE⟩
theorem dL {h:aO}(hok:aS h=true):(h.vs.map (·.1)).Nodup∧h.vs.length≤12∧ ∀v∈h.vs,eV h.aC v=true:=by
 unfold aS at hok
 simp only[Bool.and_eq_true]at hok
 obtain⟨⟨⟨h1,h2⟩,h3⟩,h4⟩:=hok
 obtain⟨q1,q2⟩:=kC h4
 unfold aN at h1
 rw[Bool.and_eq_true]at h1
 have hc:=(dQ _ _).1 h1.2
 have hb:=bX h1.1
 refine⟨?_,?_,q2⟩
 ·rw[q1];exact(fY _).nodup_iff.2 hc.2.2
 ·have:=congrArg List.length q1
  rw[List.length_map,iC]at this
  have:=jF h.cells
  omega
theorem tM {h:aO}(hok:aS h=true){v:aP}(hv:v∈h.vs):bS v.1 h.vs=some v:=by
 have hn:=(dL hok).1
 unfold bS
 generalize h.vs=vs at hn hv
 induction vs with
 |nil=>simp at hv
 |cons x xs ih=>
  rw[List.map_cons,List.nodup_cons]at hn
  rcases List.mem_cons.1 hv with rfl|hv
  ·simp[List.find?_cons]
  ·rw[List.find?_cons]
   have:(x.1==v.1)=false:=by
    rw[beq_eq_false_iff_ne];intro e
    exact hn.1 (by rw[e];exact List.mem_map_of_mem hv)
   rw[this]
   exact ih hn.2 hv
theorem lF {h:aO}(hok:aS h=true){v:aP}(hv:v∈h.vs):aQ h v.1=nV h v:=by
 unfold aQ cP nV
 rw[if_pos hok,tM hok hv];rfl
theorem nU {h:aO}(hok:aS h=true){v:aP}(hv:v∈h.vs):aY h.free h.step h.aD h.aG=true∧cS v.2.1 v.2.2.1 v.2.2.2=true∧v.2.2.2≤h.aC∧h.aC≤9999:=by
 have a:=(dL hok).2.2 v hv
 unfold aS at hok
 simp only[Bool.and_eq_true]at hok
 obtain⟨⟨⟨h1,h2⟩,h3⟩,h4⟩:=hok
 unfold eV at a
 unfold jZ at h3
 simp at a h3
 exact⟨h2,a.1,a.2,h3.2.1⟩
theorem mB {h:aO}(hok:aS h=true){v:aP}(hv:v∈h.vs):0≤nV h v∧nV h v≤693:=by
 obtain⟨a,b,c,d⟩:=nU hok hv
 have e:=eK b
 unfold nV bQ
 rw[a,b]
 have hf:=nS a (m:=h.aC-v.2.1) (by omega) (by omega)
 simp only[Bool.and_self,Bool.true_and,decide_eq_true_eq]
 rw[if_pos ⟨c,d⟩]
 omega
theorem aEj {h:aO}(hok:aS h=true):0≤oH h h.vs∧oH h h.vs≤8316:=by
 have:=tE (nV h) h.vs 0 (fun v hv=>mB hok hv)
 have hl:=(dL hok).2.1
 unfold oH
 omega
theorem lL (h:aO)(p:OA)(n cap:Nat)(q:OA)(m c2:Nat)(w:World)(hi:IsHouse w h p n cap q m c2):
  Calls Tryz.prog 34 #[bK h p n cap q m c2] w fun e w'=>e= .returned (.int .i64 (cL h))∧Ext w w':=by
 have HV:=fun(w':World) (hx:Ext w w')=>iI h p n cap q m c2 w' (hi.ext hx)
 have d:=hi.vlen
 unfold cL
 cases hok:aS h with
 |false=>
  rw[hok]at HV
  obtain⟨aA,aB,c,b,a,aD,aG,aC,aF,vs⟩:=h
  exact aDi aA aB b a aD aG aC aF p n cap q m c2 w HV
 |true=>
  rw[hok]at HV
  have hn:=(dL hok).2.1
  have f:=fun v (hv:v∈h.vs)=>mB hok hv
  rw[if_pos rfl]
  obtain⟨aA,aB,c,b,a,aD,aG,aC,aF,vs⟩:=h
  simp only at d hn
  exact aAx aA aB b a aD aG aC aF p n cap q m c2 w vs (nV ⟨aA,aB,c,b,a,aD,aG,aC,aF,vs⟩) (by omega) f hi.vs HV (fun w' k a0 a1 a2 a3 hv=>by
    obtain⟨x1,x2,x3,x4⟩:=nU hok (List.mem_of_getElem? hv)
    exact uI _ _ _ _ _ _ _ _ w' x1 x2 x3 x4)
theorem vD (h:aO)(p:OA)(n cap:Nat)(q:OA)(m c2:Nat)(w:World)(hi:IsHouse w h p n cap q m c2):
  Calls Tryz.prog 35 #[bK h p n cap q m c2] w fun e w'=>e= .returned (.int .i64 (cL h))∧Ext w w':=by
 have HV:=fun(w':World) (hx:Ext w w')=>kH h p n cap q m c2 w' (hi.ext hx)
 have d:=hi.vlen
 unfold cL
 cases hok:aS h with
 |false=>
  rw[hok]at HV
  obtain⟨aA,aB,c,b,a,aD,aG,aC,aF,vs⟩:=h
  exact aC8 aA aB b a aD aG aC aF p n cap q m c2 w HV
 |true=>
  rw[hok]at HV
  have hn:=(dL hok).2.1
  have f:=fun v (hv:v∈h.vs)=>mB hok hv
  rw[if_pos rfl]
  obtain⟨aA,aB,c,b,a,aD,aG,aC,aF,vs⟩:=h
  simp only at d hn
  exact zV aA aB b a aD aG aC aF p n cap q m c2 w vs (nV ⟨aA,aB,c,b,a,aD,aG,aC,aF,vs⟩) (by omega) f hi.vs HV (fun w' k a0 a1 a2 a3 hx hv=>by
    have:=pR _ a0 p n cap q m c2 w' (hi.ext hx)
    rw[lF hok (List.mem_of_getElem? hv)]at this
    exact this)
theorem aBi {aA aB:Int}{xs:List Int}(h:aN aA aB xs=true):(cE xs).length<xs.length↔(0:Int)∈xs:=by
 unfold aN at h
 rw[Bool.and_eq_true]at h
 have hc:=((dQ _ _).1 h.2).1
 rw[iC]
 clear h
 induction xs with
 |nil=>simp[dB]
 |cons x xs ih=>
  have hx:=hc x (by simp)
  have:=ih (fun y hy=>hc y (by simp[hy]))
  have a:=jF xs
  unfold dB at this a⊢
  by_cases h0:0<x
  ·rw[List.filter_cons_of_pos (by simpa using h0)]
   simp only[List.length_cons,List.mem_cons]
   constructor
   ·intro h;exact .inr (this.1 (by omega))
   ·rintro(h|h)
    ·omega
    ·have:=this.2 h;omega
  ·rw[List.filter_cons_of_neg (by simpa using h0)]
   simp only[List.length_cons,List.mem_cons]
   constructor
   ·intro _;exact .inl (by omega)
   ·intro _;omega
theorem aFx (w:World)(x:Int):(w.alloc (.cells #[x] TI)).ownsRow w.heap.size TI 1 (.slice (some ⟨w.heap.size,0,none⟩) 1 1) 1 (ivs [x]):=
 ⟨rfl,.inr ⟨w.heap.size,1,_,rfl,Nat.le_refl _,heap_alloc_new w _,Nat.le_refl _,by simp[maxLen],rfl,rfl⟩⟩
def cK (base:List Int)(C:List Int):List Int:=base++C.filter (fun x=> !base.contains x)
theorem pG {base C:List Int}{k:Nat}{x:Int}(hx:C[k]? =some x) (h:base.contains x=false):cK base (C.take (k+1))=cK base (C.take k)++ [x]:=by
 unfold cK;rw[bD hx,List.filter_append];simp[h]at*;simp[h]
theorem rC {base C:List Int}{k:Nat}{x:Int}(hx:C[k]? =some x) (h:base.contains x=true):cK base (C.take (k+1))=cK base (C.take k):=by
 unfold cK;rw[bD hx,List.filter_append];simp[h]at*;simp[h]
theorem aFr (base C:List Int):(cK base C).length≤base.length+C.length:=by
 unfold cK;rw[List.length_append];have:=List.length_filter_le (fun x=> !base.contains x) C;omega
theorem tX {base C:List Int}{k:Nat}{x:Int}(hn:C.Nodup)(hx:C[k]? =some x):(cK base (C.take k)).contains x=base.contains x:=by
 unfold cK
 obtain⟨hk,rfl⟩:=List.getElem?_eq_some_iff.1 hx
 have a:C[k]∉C.take k:=by
  intro hm
  obtain⟨j,hj,e⟩:=List.getElem_of_mem hm
  rw[List.getElem_take]at e
  rw[List.length_take]at hj
  exact(List.pairwise_iff_getElem.1 hn j k (by omega) hk (by omega)) e
 simp only[List.contains_eq_mem,List.mem_append,List.mem_filter]
 simp[a]
theorem lN {h:aO}(hok:aS h=true):cA h=cK (if(0:Int)∈h.cells then []else [h.cells.headD 0]) (cE h.cells):=by
 unfold cA cK
 rw[if_pos hok]
 by_cases h0:(0:Int)∈h.cells
 ·rw[if_pos h0,if_pos h0]
  exact(List.filter_eq_self.2 (by simp)).symm
 ·rw[if_neg h0,if_neg h0]
  simp only[List.cons_append,List.nil_append]
  congr 1
  apply List.filter_congr
  intro x _
  by_cases hx:x=h.cells.headD 0<;>simp[bne,hx,List.contains_eq_mem]
  rfl
theorem lG {h:aO}(hok:aS h=true):h.vs.map (·.1)=cE h.cells∧(cE h.cells).Nodup:=by
 have hn:=(dL hok).1
 unfold aS at hok
 simp only[Bool.and_eq_true]at hok
 have:=(kC hok.2).1
 exact⟨this,by rw[←this];exact hn⟩
theorem jH {h:aO}(hok:aS h=true):aN h.aA h.aB h.cells=true:=by
 unfold aS at hok
 simp only[Bool.and_eq_true]at hok
 exact hok.1.1.1
theorem aDr (aA aB free step aD aG aC aF:Int)(p:OA)(n cap:Nat)(q:OA)(m c2:Nat)(w:World)(HV:xB 30 #[.agg #[aA,aB,.slice p n cap,free,step,aD,aG,aC,aF,.slice q m c2]] w false):
  Calls Tryz.prog 86 #[.agg #[aA,aB,.slice p n cap,free,step,aD,aG,aC,aF,.slice q m c2]] w (aX [] w):=by
 go_enter Tryz.func86,Tryz.ntmps86
 go_wp2_with fail
 refine(HV _ (by exact .alloc (.refl _) _)).mono ?_
 rintro e w1 ⟨rfl,a⟩
 go_wp2
 go_ret
 exact dA (xs:= []) rfl (World.ownsRow_nil _ _ _ _) (by exact .trans (.alloc (.refl _) _) a)
theorem aCn (aA aB free step aD aG aC aF:Int)(p:OA)(n cap:Nat)(q:OA)(m c2:Nat)(w:World)(HV:xB 40 #[.agg #[aA,aB,.slice p n cap,free,step,aD,aG,aC,aF,.slice q m c2]] w false):
  Calls Tryz.prog 87 #[.agg #[aA,aB,.slice p n cap,free,step,aD,aG,aC,aF,.slice q m c2]] w (aX [] w):=by
 go_enter Tryz.func87,Tryz.ntmps87
 go_wp2_with fail
 refine(HV _ (by exact .alloc (.alloc (.refl _) _) _)).mono ?_
 rintro e w1 ⟨rfl,a⟩
 have ho:((w.alloc (.cells #[aA,aB,.slice p n cap,free,step,aD,aG,aC,aF,.slice q m c2] 35)).alloc (.cells #[] TI)).ownsRow w.heap.size TI 1 (.slice (some ⟨(w.alloc (.cells #[aA,aB,.slice p n cap,free,step,aD,aG,aC,aF,.slice q m c2] 35)).heap.size,0,none⟩) 0 0) 0 []:=World.ownsRow_made _ #[] 0 (by simp) (by simp[maxLen]) rfl
 have b:=xQ (bC ho a)
 clear ho
 go_wp2
 go_ret
 exact dA (xs:= []) rfl (by simpa using b.out) (by exact .trans (.alloc (.alloc (.refl _) _) _) a)
theorem aB9 (aA aB free step aD aG aC aF:Int)(p:OA)(n cap:Nat)(q:OA)(m c2:Nat)(C:List Int)(w:World)(hn:n≤12)(hl:C.length<n)(HV:xB 30 #[.agg #[aA,aB,.slice p n cap,free,step,aD,aG,aC,aF,.slice q m c2]] w true)
  (HC:Hid (∀w',Ext w w'→Calls Tryz.prog 47 #[aH aA aB p n cap] w' (aX C w'))):
  Calls Tryz.prog 86 #[.agg #[aA,aB,.slice p n cap,free,step,aD,aG,aC,aF,.slice q m c2]] w (aX C w):=by
 go_enter Tryz.func86,Tryz.ntmps86
 go_wp2_with fail
 refine(HV _ (by exact .alloc (.refl _) _)).mono ?_
 rintro e w1 ⟨rfl,b⟩
 have BA:Blk w1 w.heap.size 35 #[aA,aB,.slice p n cap,free,step,aD,aG,aC,aF,.slice q m c2]:=(Blk.new w _ _).ext b
 have f:=xQ BA
 have X1:Ext w w1:=by exact .trans (.alloc (.refl _) _) b
 have z1:w.heap.size<w1.heap.size:=BA.lt
 clear b
 obtain⟨a0,a1,a2,a3,a4,a5,a6,a7,a8,a9⟩:=BA.ten
 clear BA
 go_wp2_with fail
 clear a0 a1 a2 a3 a4 a5 a6 a7 a8 a9
 refine(HC _ X1).mono ?_
 rintro e w2 ⟨pc,cc,rfl,c,a⟩
 have d:=xQ (f.out.ext a)
 have X2:Ext w w2:=X1.trans a
 have HO:=xQ c
 have z2:w.heap.size<w2.heap.size:=d.out.lt
 have g:=a.sz
 clear c a f
 have b2:=d.out.cl 2
 go_wp2
 go_ret
 exact dA rfl (bH HO X1.sz) X2
theorem aB8 (aA aB free step aD aG aC aF:Int)(p:OA)(n cap:Nat)(q:OA)(m c2:Nat)(C:List Int)(x0:Int)(b0 off0:Nat)(w:World)(hn:n≤12)(hp:p=some ⟨b0,off0,none⟩)(hl:C.length=n)(hn0:0<n)(hb0:b0<w.heap.size)(hc0:w.cell? ⟨b0,off0,none⟩=some (.int .i64 x0))(HV:xB 30 #[.agg #[aA,aB,.slice p n cap,free,step,aD,aG,aC,aF,.slice q m c2]] w true)
  (HC:Hid (∀w',Ext w w'→Calls Tryz.prog 47 #[aH aA aB p n cap] w' (aX C w'))):
  Calls Tryz.prog 86 #[.agg #[aA,aB,.slice p n cap,free,step,aD,aG,aC,aF,.slice q m c2]] w (aX (cK [x0] C) w):=by
 subst hp
 have af: ¬C.length<n:=by omega
 have ah:=xQ hl
 have ad:C.length≤12:=by omega
 clear hl
 go_enter Tryz.func86,Tryz.ntmps86
 go_wp2_with fail
 refine(HV _ (by exact .alloc (.refl _) _)).mono ?_
 rintro e w1 ⟨rfl,j⟩
 have BA:Blk w1 w.heap.size 35 #[aA,aB,.slice (some ⟨b0,off0,none⟩) n cap,free,step,aD,aG,aC,aF,.slice q m c2]:=(Blk.new w _ _).ext j
 have u:=xQ BA
 have X1:Ext w w1:=by exact .trans (.alloc (.refl _) _) j
 have z1:w.heap.size<w1.heap.size:=BA.lt
 clear j
 obtain⟨a0,a1,a2,a3,a4,a5,a6,a7,a8,a9⟩:=BA.ten
 clear BA
 go_wp2_with fail
 clear a0 a1 a2 a3 a4 a5 a6 a7 a8 a9
 refine(HC _ X1).mono ?_
 rintro e w2 ⟨pc,cc,rfl,l,g⟩
 have s:=xQ (u.out.ext g)
 have X2:Ext w w2:=X1.trans g
 have HO:=xQ l
 have z2:w.heap.size<w2.heap.size:=s.out.lt
 have aj:=g.sz
 clear l g u
 have b2:=s.out.cl 2
 have h0:w2.cell? ⟨b0,off0,none⟩=some (.int .i64 x0):=by rw[X2.cells.1 _ _ hb0];exact hc0
 have ab:=xQ hc0
 clear hc0
 go_wp2
 go_loopw [4,29] (fun v i wr=> ∃(k:Nat) (q:OA) (m c:Nat),k≤C.length∧i= .int .i64 k∧v= .slice q m c∧m≤k+1∧wr.ownsRow w2.heap.size TI 1 (.slice q m c) m (ivs (cK [x0] (C.take k)))∧Ext w2 wr) (fun _ i _=>C.length-(intOf i).toNat)
 case atStart=>exact⟨0,_,1,_,Nat.zero_le _,rfl,rfl,by omega,by simpa[cK]using aFx w2 x0,by exact .alloc (.refl _) _⟩
 case round=>
  obtain⟨k,q,m1,c,hk,rfl,rfl,ae,h,hE⟩:=hrel
  have f:=xQ h
  have t:=X2.trans hE
  have ai:=hE.sz
  have ec:wr.cell? ⟨w.heap.size,2,none⟩=some (.slice (some ⟨b0,off0,none⟩) n cap):=(hE.cells.1 _ _ z2).trans b2
  have hg:wr.cell? ⟨b0,off0,none⟩=some (.int .i64 x0):=by rw[t.cells.1 _ _ hb0];exact ab.out
  clear h
  by_cases hlt:k<C.length
  ·obtain⟨b,ag,x,rfl,hx,hb,z⟩:=((Sl.own HO.out).ext hE).int_at hlt
   have HX:=xQ hx
   clear hx
   by_cases hx0:x=x0
   ·have t0:(x !=x0)=false:=by simp[hx0]
    have a:Hid (cK [x0] (C.take (k+1))=cK [x0] (C.take k)):=rC HX (by simp[hx0])
    clear hx0
    go_wp2
    go_roundw
    case rel=>exact⟨k+1,q,m1,c,by omega,by go_num,rfl,by omega,by rw[a.out];exact f.out,hE⟩
    case measure=>simp[intOf];omega
   ·have t0:(x !=x0)=true:=by simp[hx0]
    have a:Hid (cK [x0] (C.take (k+1))=cK [x0] (C.take k)++ [x]):=pG HX (by simp[hx0])
    clear hx0
    go_wp2_with (at_builtin;refine cI eS rfl _ _ rfl w2.heap.size _ _ _ rfl (f.out.alloc _) _ _ x _ rfl (by simp) (by omega) (by simp;omega) ?_;intro p' o w3 d r;have aa:=xQ d;have y:Ext w2 w3:=Ext.own (hE.alloc _) (f.out.alloc _) r (Nat.le_refl _);clear d r)
    go_roundw
    case rel=>exact⟨k+1,p',m1+1,o,by omega,by go_num,rfl,by omega,by rw[a.out];exact aa.out,y⟩
    case measure=>simp[intOf];omega
  ·have a:Hid (cK [x0] (C.take k)=cK [x0] C):=by show _=_;rw[List.take_of_length_le (by omega)]
   go_wp2
   go_ret
   exact dA (by rw[←a.out];have:=f.out.1;simpa using this) (by rw[←a.out];exact bH f X2.sz) t
theorem aA7 (aA aB free step aD aG aC aF:Int)(p:OA)(n cap:Nat)(q:OA)(m c2:Nat)(w:World)(vs:List aP)(F:List Int)(HN:Hid (vs.map (·.1)).Nodup)(hm:m≤12)(HS:Hid (Sl w q m c2 4 (vs.flatMap aE)))(hl:Hid (vs.length=m))(hF:F.length≠0)(HV:xB 40 #[.agg #[aA,aB,.slice p n cap,free,step,aD,aG,aC,aF,.slice q m c2]] w true)
  (HF:Hid (∀w',Ext w w'→Calls Tryz.prog 134 #[aH aA aB p n cap] w' (aX F w'))):
  Calls Tryz.prog 87 #[.agg #[aA,aB,.slice p n cap,free,step,aD,aG,aC,aF,.slice q m c2]] w (aX (cK [] (vs.map (·.1))) w):=by
 go_enter Tryz.func87,Tryz.ntmps87
 go_wp2_with fail
 refine(HV _ (by exact .alloc (.alloc (.refl _) _) _)).mono ?_
 rintro e w1 ⟨rfl,j⟩
 have ho:((w.alloc (.cells #[aA,aB,.slice p n cap,free,step,aD,aG,aC,aF,.slice q m c2] 35)).alloc (.cells #[] TI)).ownsRow (w.heap.size+1) TI 1 (.slice (some ⟨w.heap.size+1,0,none⟩) 0 0) 0 []:=by simpa using World.ownsRow_made (w.alloc (.cells #[aA,aB,.slice p n cap,free,step,aD,aG,aC,aF,.slice q m c2] 35)) (e:=TI) (base:=w.heap.size+1) #[] 0 (by simp) (by simp[maxLen]) rfl
 have s:=xQ (bC ho j)
 clear ho
 have BA:Blk w1 w.heap.size 35 #[aA,aB,.slice p n cap,free,step,aD,aG,aC,aF,.slice q m c2]:=((Blk.new w _ _).alloc _).ext j
 have y:=xQ BA
 have X1:Ext w w1:=by exact .trans (.alloc (.alloc (.refl _) _) _) j
 clear j
 obtain⟨a0,a1,a2,a3,a4,a5,a6,a7,a8,a9⟩:=BA.ten
 clear BA
 go_wp2_with fail
 clear a0 a1 a2 a3 a4 a5 a6 a7 a8 a9
 refine(HF _ X1).mono ?_
 rintro e w2 ⟨pf,cf,rfl,_,g⟩
 have o:=xQ (y.out.ext g)
 have af:=xQ (bC s g)
 have X2:Ext w w2:=X1.trans g
 have z2:w.heap.size<w2.heap.size:=o.out.lt
 clear g y s
 have tF:((F.length:Int)==0)=false:=by simp[hF]
 have z:=o.out.cl 9
 have aa:=z2
 clear hF
 have b2:=o.out.cl 2
 go_wp2
 go_loopw [3,4] (fun v i wr=> ∃(k:Nat) (qq:OA) (m1 c:Nat),k≤m∧i= .int .i64 k∧v= .slice qq m1 c∧m1≤k+1∧wr.ownsRow (w.heap.size+1) TI 1 (.slice qq m1 c) m1 (ivs (cK [] ((vs.map (·.1)).take k)))∧Ext w wr∧wr.cell? ⟨w.heap.size,9,none⟩=some (.slice q m c2)∧w.heap.size<wr.heap.size) (fun _ i _=>m-(intOf i).toNat)
 case atStart=>exact⟨0,_,_,_,Nat.zero_le _,rfl,rfl,by omega,by simpa[cK]using af.out,X2,z,aa⟩
 case round=>
  obtain⟨k,qq,m1,c,hk,rfl,rfl,ag,l,hE,x,r⟩:=hrel
  have d:=xQ l
  clear l z
  by_cases hlt:k<m
  ·obtain⟨b,ah,a0,a1,a2,a3,rfl,hv,hb,g0,g1,g2,g3⟩:=dW (HS.out.ext hE) hlt
   have hx:Hid ((vs.map (·.1))[k]? =some a0):=by show _=_;rw[List.getElem?_map,hv];rfl
   have i1:(0:Int)≤(k:Int):=by omega
   have i2:(k:Int)<(m:Int):=by omega
   clear hv
   have HH:xC 135 #[.slice qq m1 c,a0] wr fun w' e w''=>e= .returned (.bool (([]:List Int).contains a0))∧w'=w'':=fun w' hx'=>by
    have:=oK qq m1 c _ a0 w' ((Sl.own d.out).ext hx')
    rwa[tX HN hx.out]at this
   cases hs:([]:List Int).contains a0 with
   |true=>
    rw[hs]at HH
    have a:Hid (cK [] ((vs.map (·.1)).take (k+1))=cK [] ((vs.map (·.1)).take k)):=rC hx.out hs
    clear hs
    go_wp2_with fail
    refine(HH _ (by exact .refl _)).mono ?_
    rintro e w4 ⟨rfl,rfl⟩
    go_wp2
    go_roundw
    case rel=>exact⟨k+1,qq,m1,c,by omega,by go_num,rfl,by omega,by rw[a.out];exact d.out,hE,x,r⟩
    case measure=>simp[intOf];omega
   |false=>
    rw[hs]at HH
    have a:Hid (cK [] ((vs.map (·.1)).take (k+1))=cK [] ((vs.map (·.1)).take k)++ [a0]):=pG hx.out hs
    clear hs
    go_wp2_with fail
    refine(HH _ (by exact .refl _)).mono ?_
    rintro e w4 ⟨rfl,rfl⟩
    go_wp2_with (at_builtin;refine cI eS rfl _ _ rfl (w.heap.size+1) _ _ _ rfl (d.out.alloc _) _ _ a0 _ rfl (by simp) (by omega) (by simp;omega) ?_;intro p' u w5 f h;have ad:=xQ f;have ab:Ext w w5:=Ext.own (hE.alloc _) (d.out.alloc _) h (by omega);have ae:=pY d h r x;have t:w.heap.size<w5.heap.size:=Nat.lt_of_lt_of_le r (by have:=h.size;simp at this;omega);clear f h)
    go_roundw
    case rel=>exact⟨k+1,p',m1+1,u,by omega,by go_num,rfl,by omega,by rw[a.out];exact ad.out,ab,ae,t⟩
    case measure=>simp[intOf];omega
  ·have a:Hid (cK [] ((vs.map (·.1)).take k)=cK [] (vs.map (·.1))):=by show _=_;rw[List.take_of_length_le (by rw[List.length_map,hl.out];omega)]
   go_wp2
   go_ret
   exact dA (by rw[←a.out];have:=d.out.1;simpa using this) (by rw[←a.out];exact bH d (Nat.le_succ _)) hE
theorem aA6 (aA aB free step aD aG aC aF:Int)(p:OA)(n cap:Nat)(q:OA)(m c2:Nat)(w:World)(vs:List aP)(F:List Int)(HN:Hid (vs.map (·.1)).Nodup)(hm:m≤12)(HS:Hid (Sl w q m c2 4 (vs.flatMap aE)))(hl:Hid (vs.length=m))(hF:F.length=0)(x0:Int)(b0 off0:Nat)(hp:p=some ⟨b0,off0,none⟩)(hn0:0<n)(hb0:b0<w.heap.size)(hc0:w.cell? ⟨b0,off0,none⟩=some (.int .i64 x0))(HV:xB 40 #[.agg #[aA,aB,.slice p n cap,free,step,aD,aG,aC,aF,.slice q m c2]] w true)
  (HF:Hid (∀w',Ext w w'→Calls Tryz.prog 134 #[aH aA aB p n cap] w' (aX F w'))):
  Calls Tryz.prog 87 #[.agg #[aA,aB,.slice p n cap,free,step,aD,aG,aC,aF,.slice q m c2]] w (aX (cK [x0] (vs.map (·.1))) w):=by
 subst hp
 go_enter Tryz.func87,Tryz.ntmps87
 go_wp2_with fail
 refine(HV _ (by exact .alloc (.alloc (.refl _) _) _)).mono ?_
 rintro e w1 ⟨rfl,j⟩
 have ho:((w.alloc (.cells #[aA,aB,.slice (some ⟨b0,off0,none⟩) n cap,free,step,aD,aG,aC,aF,.slice q m c2] 35)).alloc (.cells #[] TI)).ownsRow (w.heap.size+1) TI 1 (.slice (some ⟨w.heap.size+1,0,none⟩) 0 0) 0 []:=by simpa using World.ownsRow_made (w.alloc (.cells #[aA,aB,.slice (some ⟨b0,off0,none⟩) n cap,free,step,aD,aG,aC,aF,.slice q m c2] 35)) (e:=TI) (base:=w.heap.size+1) #[] 0 (by simp) (by simp[maxLen]) rfl
 have t:=xQ (bC ho j)
 clear ho
 have BA:Blk w1 w.heap.size 35 #[aA,aB,.slice (some ⟨b0,off0,none⟩) n cap,free,step,aD,aG,aC,aF,.slice q m c2]:=((Blk.new w _ _).alloc _).ext j
 have z:=xQ BA
 have X1:Ext w w1:=by exact .trans (.alloc (.alloc (.refl _) _) _) j
 clear j
 obtain⟨a0,a1,a2,a3,a4,a5,a6,a7,a8,a9⟩:=BA.ten
 clear BA
 go_wp2_with fail
 clear a0 a1 a2 a3 a4 a5 a6 a7 a8 a9
 refine(HF _ X1).mono ?_
 rintro e w2 ⟨pf,cf,rfl,_,h⟩
 have r:=xQ (z.out.ext h)
 have o:=xQ (bC t h)
 have X2:Ext w w2:=X1.trans h
 have z2:w.heap.size<w2.heap.size:=r.out.lt
 clear h z t
 have h0:w2.cell? ⟨b0,off0,none⟩=some (.int .i64 x0):=by rw[X2.cells.1 _ _ hb0];exact hc0
 have al:=xQ hc0
 have tF:((F.length:Int)==0)=true:=by simp[hF]
 have c9:Hid (w2.cell? ⟨w.heap.size,9,none⟩=some (.slice q m c2)):=r.out.cell 9
 clear hc0 hF
 have b2:=r.out.cl 2
 go_wp2_with (at_builtin;refine cI eS rfl _ _ rfl (w.heap.size+1) _ 0 [] rfl (o.out.alloc _) _ _ x0 _ rfl (by simp) (by omega) (by simp;omega) ?_;intro p3 ai w3 a f;have ah:=xQ a;have ab:Ext w w3:=Ext.own (X2.alloc _) (o.out.alloc _) f (by omega);have aa:=pY o f z2 c9.out;have ad:w.heap.size<w3.heap.size:=Nat.lt_of_lt_of_le z2 (by have:=f.size;simp at this;omega);clear a f)
 go_loopw [3,4] (fun v i wr=> ∃(k:Nat) (qq:OA) (m1 c:Nat),k≤m∧i= .int .i64 k∧v= .slice qq m1 c∧m1≤k+1∧wr.ownsRow (w.heap.size+1) TI 1 (.slice qq m1 c) m1 (ivs (cK [x0] ((vs.map (·.1)).take k)))∧Ext w wr∧wr.cell? ⟨w.heap.size,9,none⟩=some (.slice q m c2)∧w.heap.size<wr.heap.size) (fun _ i _=>m-(intOf i).toNat)
 case atStart=>exact⟨0,_,_,_,Nat.zero_le _,rfl,rfl,by omega,by simpa[cK]using ah.out,ab,aa,ad⟩
 case round=>
  obtain⟨k,qq,m1,c,hk,rfl,rfl,aj,l,hE,y,s⟩:=hrel
  have g:=xQ l
  clear l aa
  by_cases hlt:k<m
  ·obtain⟨b,ak,a0,a1,a2,a3,rfl,hv,hb,g0,g1,g2,g3⟩:=dW (HS.out.ext hE) hlt
   have hx:Hid ((vs.map (·.1))[k]? =some a0):=by show _=_;rw[List.getElem?_map,hv];rfl
   have i1:(0:Int)≤(k:Int):=by omega
   have i2:(k:Int)<(m:Int):=by omega
   clear hv
   have HH:xC 135 #[.slice qq m1 c,a0] wr fun w' e w''=>e= .returned (.bool (([x0]:List Int).contains a0))∧w'=w'':=fun w' hx'=>by
    have:=oK qq m1 c _ a0 w' ((Sl.own g.out).ext hx')
    rwa[tX HN hx.out]at this
   cases hs:([x0]:List Int).contains a0 with
   |true=>
    rw[hs]at HH
    have d:Hid (cK [x0] ((vs.map (·.1)).take (k+1))=cK [x0] ((vs.map (·.1)).take k)):=rC hx.out hs
    clear hs
    go_wp2_with fail
    refine(HH _ (by exact .refl _)).mono ?_
    rintro e w4 ⟨rfl,rfl⟩
    go_wp2
    go_roundw
    case rel=>exact⟨k+1,qq,m1,c,by omega,by go_num,rfl,by omega,by rw[d.out];exact g.out,hE,y,s⟩
    case measure=>simp[intOf];omega
   |false=>
    rw[hs]at HH
    have d:Hid (cK [x0] ((vs.map (·.1)).take (k+1))=cK [x0] ((vs.map (·.1)).take k)++ [a0]):=pG hx.out hs
    clear hs
    go_wp2_with fail
    refine(HH _ (by exact .refl _)).mono ?_
    rintro e w4 ⟨rfl,rfl⟩
    go_wp2_with (at_builtin;refine cI eS rfl _ _ rfl (w.heap.size+1) _ _ _ rfl (g.out.alloc _) _ _ a0 _ rfl (by simp) (by omega) (by simp;omega) ?_;intro p' x w5 a f;have af:=xQ a;have ae:Ext w w5:=Ext.own (hE.alloc _) (g.out.alloc _) f (by omega);have ag:=pY g f s y;have u:w.heap.size<w5.heap.size:=Nat.lt_of_lt_of_le s (by have:=f.size;simp at this;omega);clear a f)
    go_roundw
    case rel=>exact⟨k+1,p',m1+1,x,by omega,by go_num,rfl,by omega,by rw[d.out];exact af.out,ae,ag,u⟩
    case measure=>simp[intOf];omega
  ·have d:Hid (cK [x0] ((vs.map (·.1)).take k)=cK [x0] (vs.map (·.1))):=by show _=_;rw[List.take_of_length_le (by rw[List.length_map,hl.out];omega)]
   go_wp2
   go_ret
   exact dA (by rw[←d.out];have:=g.out.1;simpa using this) (by rw[←d.out];exact bH g (Nat.le_succ _)) hE
theorem yP (h:aO)(p:OA)(n cap:Nat)(q:OA)(m c2:Nat)(w:World)(hi:IsHouse w h p n cap q m c2):
  Calls Tryz.prog 86 #[bK h p n cap q m c2] w (aX (cA h) w):=by
 have HV:=fun(w':World) (hx:Ext w w')=>iI h p n cap q m c2 w' (hi.ext hx)
 have r:=hi.vlen
 have j:=hi.clen
 cases hok:aS h with
 |false=>
  rw[hok]at HV
  have e:cA h= []:=by unfold cA;rw[hok];rfl
  rw[e]
  exact aDr h.aA h.aB h.free h.step h.aD h.aG h.aC h.aF p n cap q m c2 w HV
 |true=>
  rw[hok]at HV
  have hh:=jH hok
  have c:n≤12∧4≤n:=by
   have h1:=hh
   unfold aN at h1
   rw[Bool.and_eq_true]at h1
   have:=bX h1.1
   omega
  obtain⟨c,s⟩:=c
  have HC:=fun(w':World) (hx:Ext w w')=>by
   have:=aIs h.aA h.aB p n cap h.cells w' (hi.cells.ext hx)
   rw[hh,if_pos rfl]at this
   exact this
  rw[lN hok]
  by_cases h0:(0:Int)∈h.cells
  ·rw[if_pos h0]
   have g:=(aBi (jH hok)).2 h0
   have e:cK [] (cE h.cells)=cE h.cells:=by simp[cK]
   rw[e]
   rw[j]at g
   exact aB9 h.aA h.aB h.free h.step h.aD h.aG h.aC h.aF p n cap q m c2 (cE h.cells) w c g HV HC
  ·rw[if_neg h0]
   obtain⟨b0,f,x0,hp,d,l,o⟩:=hi.cells.int_at (k:=0) (by omega)
   have i:h.cells.headD 0=x0:=by cases hc:h.cells with
    |nil=>rw[hc]at d;simp at d
    |cons a b=>rw[hc]at d;simpa using d
   rw[i]
   exact aB8 h.aA h.aB h.free h.step h.aD h.aG h.aC h.aF p n cap q m c2 (cE h.cells) x0 b0 f w c hp (by have:=mt (aBi (jH hok)).1 h0;have h2:=jF h.cells;rw[iC]at this⊢;omega) (by omega) l o HV HC
theorem xV (h:aO)(p:OA)(n cap:Nat)(q:OA)(m c2:Nat)(w:World)(hi:IsHouse w h p n cap q m c2):
  Calls Tryz.prog 87 #[bK h p n cap q m c2] w (aX (cA h) w):=by
 have HV:=fun(w':World) (hx:Ext w w')=>kH h p n cap q m c2 w' (hi.ext hx)
 have c:=hi.vlen
 have o:=hi.clen
 cases hok:aS h with
 |false=>
  rw[hok]at HV
  have e:cA h= []:=by unfold cA;rw[hok];rfl
  rw[e]
  exact aCn h.aA h.aB h.free h.step h.aD h.aG h.aC h.aF p n cap q m c2 w HV
 |true=>
  rw[hok]at HV
  have hh:=jH hok
  have f:n≤12∧4≤n:=by
   have h1:=hh
   unfold aN at h1
   rw[Bool.and_eq_true]at h1
   have:=bX h1.1
   omega
  obtain⟨f,r⟩:=f
  have HF:=fun(w':World) (hx:Ext w w')=>by
   have:=aCi h.aA h.aB p n cap h.cells w' (hi.cells.ext hx)
   rw[hh,if_pos rfl]at this
   exact this
  rw[lN hok]
  by_cases h0:(0:Int)∈h.cells
  ·rw[if_pos h0]
   have hf:(lE h.cells).length≠0:=fun e=>(rO _).1 (List.eq_nil_of_length_eq_zero e) h0
   rw[←(lG hok).1]
   exact aA7 h.aA h.aB h.free h.step h.aD h.aG h.aC h.aF p n cap q m c2 w h.vs (lE h.cells) (dL hok).1 (by rw[←c];exact(dL hok).2.1) hi.vs c hf HV HF
  ·rw[if_neg h0]
   obtain⟨b0,g,x0,hp,d,j,l⟩:=hi.cells.int_at (k:=0) (by omega)
   have i:h.cells.headD 0=x0:=by cases hc:h.cells with
    |nil=>rw[hc]at d;simp at d
    |cons a b=>rw[hc]at d;simpa using d
   rw[i]
   rw[←(lG hok).1]
   exact aA6 h.aA h.aB h.free h.step h.aD h.aG h.aC h.aF p n cap q m c2 w h.vs (lE h.cells) (dL hok).1 (by rw[←c];exact(dL hok).2.1) hi.vs c (by rw[(rO _).2 h0];rfl) x0 b0 g hp (by omega) j l HV HF
end Go.Proofs.YtgnkoffndhmhpaaGreatDoor
namespace Go.Proofs.YtgnkoffndhmhpaaGreatDoor
open Go.RowKit
set_option linter.unusedVariables false
set_option linter.unusedSimpArgs false
abbrev TDd:TypeId:=55
abbrev Dd3:=Int×Int×Int
def bW (d:Dd3):List Value:= [.int .i64 d.1,.int .i64 d.2.1,.int .i64 d.2.2]
def dC (a:Int):Nat:=((a+299)/300).toNat
def kE (id a:Int)(i:Nat):Dd3:=(1,id,min (a-300*(i:Int)) 300)
def fQ (id a:Int)(k:Nat):List Dd3:=(List.range k).map (kE id a)
def bF (due:Int→Int)(ids:List Int):List Dd3:=ids.flatMap (fun id=>fQ id (due id) (dC (due id))++ [(2,id,0)])
theorem jG (a:Int)(k:Nat):k<dC a↔0<a-300*(k:Int):=by unfold dC;omega
theorem pH (id a:Int)(k:Nat):fQ id a (k+1)=fQ id a k++ [kE id a k]:=by unfold fQ;rw[List.range_succ,List.map_append];rfl
theorem aCz (id a:Int):fQ id a 0= []:=rfl
theorem kJ (id a:Int)(k:Nat):(fQ id a k).length=k:=by unfold fQ;simp
theorem pA (due:Int→Int){ids:List Int}{k:Nat}{x:Int}(hx:ids[k]? =some x):bF due (ids.take (k+1))=bF due (ids.take k)++fQ x (due x) (dC (due x))++ [(2,x,0)]:=by
 unfold bF
 rw[bD hx,List.flatMap_append]
 simp
theorem zA (due:Int→Int)(ids:List Int)(M:Nat)(h: ∀x∈ids,dC (due x)≤M):(bF due ids).length≤ids.length*(M+1):=by
 unfold bF
 induction ids with
 |nil=>simp
 |cons x xs ih=>
  have h1:=h x (by simp)
  have h2:=ih (fun y hy=>h y (by simp[hy]))
  rw[List.flatMap_cons,List.length_append,List.length_append,kJ]
  simp only[List.length_cons,List.length_nil]
  rw[Nat.add_mul xs.length 1,Nat.one_mul]
  omega
theorem zE {w:World}{q:OA}{m c2:Nat}{ds:List Dd3}(h:Sl w q m c2 3 (ds.flatMap bW)){k:Nat}(hk:k<m):
  ∃b off a0 a1 a2,q=some ⟨b,off,none⟩∧ds[k]? =some (a0,a1,a2)∧b<w.heap.size∧w.cell? ⟨b,off+k*3,none⟩=some (.int .i64 a0)∧w.cell? ⟨b,off+k*3+1,none⟩=some (.int .i64 a1)∧w.cell? ⟨b,off+k*3+2,none⟩=some (.int .i64 a2):=by
 obtain⟨b,off,x,hp,hx,hb,hc⟩:=Sl.at_ (sz:=3) (f:=bW) (fun _=>rfl) h hk (by omega)
 obtain⟨a0,a1,a2⟩:=x
 exact⟨b,off,a0,a1,a2,hp,hx,hb,hc 0 (by omega),hc 1 (by omega),hc 2 (by omega)⟩
def mF (ds:List Dd3)(w:World)(e:Ending)(w':World):Prop:=
 ∃p cap,e= .returned (.slice p ds.length cap)∧w'.ownsRow w.heap.size TDd 3 (.slice p ds.length cap) ds.length (ds.flatMap bW)∧Ext w w'
def hZ:aO:=⟨0,0,[],0,0,0,0,0,0,[]⟩
def doR (h:aO)(k a b:Int):aO×Int×Bool:=
 if aS h=true then(match bL h k a b with
  |none=>(h,-1,false)
  |some (h',n)=>(h',n,true))else(hZ,-1,false)
theorem aL4 (h:aO)(k a b:Int):(doR h k a b).1.cells.length≤1000∧(doR h k a b).1.vs.length≤1000:=by
 unfold doR
 by_cases hok:aS h=true
 ·rw[if_pos hok]
  cases hd:bL h k a b with
  |none=>have:=iJ hok;dsimp only;omega
  |some r=>obtain⟨h',n⟩:=r;have:=iJ (gE hok hd).1;dsimp only;omega
 ·rw[if_neg hok];simp[hZ]
def aL9 (B:Nat)(r:aO×Int×Bool)(w':World)(e:Ending)(w'':World):Prop:=
 ∃pa ca qa da,e= .returned (.tuple #[bK r.1 pa r.1.cells.length ca qa r.1.vs.length da,r.2.1,.bool r.2.2])∧w''.ownsRow B TI 1 (.slice pa r.1.cells.length ca) r.1.cells.length (ivs r.1.cells)∧w''.ownsRow B TV 4 (.slice qa r.1.vs.length da) r.1.vs.length (r.1.vs.flatMap aE)∧Ext w' w''
theorem yE {h:aO}{k a b:Int}{w w':World}{e:Ending}{B:Nat}(hB:B≤w.heap.size)(hok:aS h=true)(hr:aF6 h (bL h k a b) w e w'):aL9 B (doR h k a b) w e w':=by
 unfold doR
 rw[if_pos hok]
 unfold aF6 at hr
 cases hd:bL h k a b with
 |none=>
  rw[hd]at hr
  obtain⟨pa,ca,qa,da,rfl,o1,o2,hx⟩:=hr
  exact⟨pa,ca,qa,da,rfl,fR o1 hB,fR o2 hB,hx⟩
 |some r=>
  obtain⟨h',n⟩:=r
  rw[hd]at hr
  obtain⟨pa,ca,qa,da,rfl,o1,o2,hx⟩:=hr
  exact⟨pa,ca,qa,da,rfl,fR o1 hB,fR o2 hB,hx⟩
theorem aF1 {h:aO}{k a b:Int}{w w':World}{e:Ending}{B:Nat}(hok: ¬aS h=true)(hr:e= .returned (.tuple #[.agg #[(),(),((),()),(),(),(),(),(),(),((),())],(-1:Int),.bool false])∧Ext w w'):aL9 B (doR h k a b) w e w':=by
 unfold doR
 rw[if_neg hok]
 obtain⟨rfl,hx⟩:=hr
 exact⟨none,0,none,0,rfl,World.ownsRow_nil _ _ _ _,World.ownsRow_nil _ _ _ _,hx⟩
abbrev TB:TypeId:=4
def bcs (bs:List Bool):List Value:=bs.map .bool
theorem aF0 (bs:List Bool):(bcs bs).length=bs.length:=by simp[bcs]
theorem aJt (bs:List Bool)(b:Bool):bcs (bs++ [b])=bcs bs++ [.bool b]:=by simp[bcs]
def sJ (h:aO)(d:Dd3):aO:=(doR h d.1 d.2.1 d.2.2).1
def gW (h:aO)(ds:List Dd3):aO:=ds.foldl sJ h
def eN:aO→List Dd3→List Bool
 |_,[]=> []
 |h,d::ds=>(doR h d.1 d.2.1 d.2.2).2.2::eN (sJ h d) ds
theorem wI (h:aO)(l:List Dd3)(d:Dd3):gW h (l++ [d])=(doR (gW h l) d.1 d.2.1 d.2.2).1:=by simp[gW,sJ]
theorem uT: ∀(l:List Dd3) (h:aO) (d:Dd3),eN h (l++ [d])=eN h l++ [(doR (gW h l) d.1 d.2.1 d.2.2).2.2]:=by
 intro l
 induction l with
 |nil=>intro h d;rfl
 |cons x l ih=>intro h d;show _::eN (sJ h x) (l++ [d])=_;rw[ih];rfl
theorem rT: ∀(l:List Dd3) (h:aO),(eN h l).length=l.length:=by
 intro l
 induction l with
 |nil=>intro h;rfl
 |cons x l ih=>intro h;show(eN (sJ h x) l).length+1=_;rw[ih];rfl
theorem aIb {h:aO}(hok:aS h=true)(d:Dd3):aS (sJ h d)=true:=by
 unfold sJ doR
 rw[if_pos hok]
 cases hd:bL h d.1 d.2.1 d.2.2 with
 |none=>exact hok
 |some r=>obtain⟨h',n⟩:=r;exact(gE hok hd).1
theorem aK9: ∀(l:List Dd3) {h:aO},aS h=true→aS (gW h l)=true:=by
 intro l
 induction l with
 |nil=>intro h a;exact a
 |cons x l ih=>intro h a;exact ih (aIb a x)
def aK8 (h:aO)(ds:List Dd3):aO×List Bool:=if aS h=true then(gW h ds,eN h ds)else(hZ,[])
def rX (B:Nat)(r:aO×List Bool)(w':World)(e:Ending)(w'':World):Prop:=
 ∃pa ca qa da ps cs,e= .returned (.tuple #[bK r.1 pa r.1.cells.length ca qa r.1.vs.length da,.slice ps r.2.length cs])∧w''.ownsRow B TI 1 (.slice pa r.1.cells.length ca) r.1.cells.length (ivs r.1.cells)∧w''.ownsRow B TV 4 (.slice qa r.1.vs.length da) r.1.vs.length (r.1.vs.flatMap aE)∧w''.ownsRow B TB 1 (.slice ps r.2.length cs) r.2.length (bcs r.2)∧Ext w' w''
theorem aKb {B:Nat}{h g:aO}{ds:List Dd3}{lm:Nat}{pa qa ps:OA}{ca da cs:Nat}{w' w'':World}(hg:g=gW h ds)(hl:ds.length=lm)(o1:w''.ownsRow B TI 1 (.slice pa g.cells.length ca) g.cells.length (ivs g.cells))(o2:w''.ownsRow B TV 4 (.slice qa g.vs.length da) g.vs.length (g.vs.flatMap aE))(o3:w''.ownsRow B TB 1 (.slice ps lm cs) lm (bcs (eN h ds)))(hx:Ext w' w''):
  rX B (gW h ds,eN h ds) w' (.returned (.tuple #[bK g pa g.cells.length ca qa g.vs.length da,.slice ps lm cs])) w'':=by
 subst hg
 have hd:(eN h ds).length=lm:=by rw[rT,hl]
 subst hd
 exact⟨pa,ca,qa,da,ps,cs,rfl,o1,o2,o3,hx⟩
theorem aL2 {l:List Value}{k n:Nat}(hl:l.length=k)(hk:k<n):(l++List.replicate (n-k) (Value.bool false))[k]? =some (Value.bool false):=by
 rw[List.getElem?_append_right (by omega),hl,Nat.sub_self]
 simp[List.getElem?_replicate];omega
theorem aJk {l:List Value}{k n:Nat}{b:Value}(hl:l.length=k)(hk:k<n):(l++List.replicate (n-k) (Value.bool false)).set k b=(l++ [b])++List.replicate (n-(k+1)) (Value.bool false):=by
 obtain⟨j,rfl⟩: ∃j,n=k+1+j:=⟨n-(k+1),by omega⟩
 rw[show k+1+j-k=j+1 by omega,show k+1+j-(k+1)=j by omega,List.set_append,if_neg (by omega),hl,Nat.sub_self,List.replicate_succ]
 simp
set_option maxHeartbeats 8000000
set_option maxRecDepth 100000
theorem iL (aA aB c:Int)(p:OA)(n cap:Nat)(w:World)(hn:n≤12):Calls Tryz.prog 152 #[aH aA aB p n cap,c] w fun e w'=>e= .returned (.bool (decide (0≤c∧c<n)))∧Ext w w':=by
 by_cases h0:0≤c
 ·have d0:decide (0≤c)=true:=by simp[h0]
  by_cases h1:c<n
  ·have d1:decide (c<(n:Int))=true:=by simp[h1]
   go_enter Tryz.func152,Tryz.ntmps152
   go_wp2
   go_ret
   exact⟨aU (by simp[h0,h1]),xE⟩
  ·have d1:decide (c<(n:Int))=false:=by simp;omega
   go_enter Tryz.func152,Tryz.ntmps152
   go_wp2
   go_ret
   exact⟨aU (by simp[h0,h1]),xE⟩
 ·have d0:decide (0≤c)=false:=by simp;omega
  go_enter Tryz.func152,Tryz.ntmps152
  go_wp2
  go_ret
  exact⟨aU (by simp[h0]),xE⟩
theorem lM (aA a b:Int)(w:World)(h0:0≤a)(h1:a≤100)(h2:0≤b)(h3:b≤100)(h4:2≤aA)(h5:aA≤4):Calls Tryz.prog 153 #[aA,a,b] w fun e w'=>e= .returned (.int .i64 (aW aA a b))∧Ext w w':=by
 have q0: ¬(aA=0):=by omega
 have r1:a.tmod aA=a%aA:=IntWalk.rem_in _ _ h0
 have r2:b.tmod aA=b%aA:=IntWalk.rem_in _ _ h2
 have d1:IntKind.i64.wrap (a.tdiv aA)=a/aA:=IntWalk.i64_quo _ _ (by omega)
 have d2:IntKind.i64.wrap (b.tdiv aA)=b/aA:=IntWalk.i64_quo _ _ (by omega)
 have e1:=Int.emod_nonneg a q0
 have e2:=Int.emod_nonneg b q0
 have e3:=Int.emod_lt_of_pos a (show 0<aA by omega)
 have e4:=Int.emod_lt_of_pos b (show 0<aA by omega)
 have e5:=Int.ediv_nonneg h0 (show 0≤aA by omega)
 have e6:=Int.ediv_nonneg h2 (show 0≤aA by omega)
 have e7:=Int.ediv_le_self aA h0
 have e8:=Int.ediv_le_self aA h2
 have s1:IntKind.i64.wrap (max (a%aA-b%aA) (-(a%aA-b%aA))+max (a/aA-b/aA) (-(a/aA-b/aA)))=aW aA a b:=by
  rw[IntWalk.i64_in _ (by omega)];unfold aW oV;omega
 have s2:IntKind.i64.wrap (a%aA-b%aA)=a%aA-b%aA:=IntWalk.i64_in _ (by omega)
 have s3:IntKind.i64.wrap (a/aA-b/aA)=a/aA-b/aA:=IntWalk.i64_in _ (by omega)
 have s4:IntKind.i64.wrap (-(a%aA-b%aA))= -(a%aA-b%aA):=IntWalk.i64_in _ (by omega)
 have s5:IntKind.i64.wrap (-(a/aA-b/aA))= -(a/aA-b/aA):=IntWalk.i64_in _ (by omega)
 go_enter Tryz.func153,Tryz.ntmps153
 go_wp2
 go_quiet (fail)
 go_wp2
 go_quiet (fail)
 go_wp2
 go_ret
 exact⟨eW rfl,xE⟩
end Go.Proofs.YtgnkoffndhmhpaaGreatDoor
