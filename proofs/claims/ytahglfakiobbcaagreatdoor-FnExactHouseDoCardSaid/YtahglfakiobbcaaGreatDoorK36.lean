/-
  Texts of this proof, packed (@packed).
-/
import Derived.Test.YtahglfakiobbcaaGreatDoorK13
import Derived.Test.YtahglfakiobbcaaGreatDoorK20
import Derived.Test.YtahglfakiobbcaaGreatDoorK31
import Derived.Test.YtahglfakiobbcaaGreatDoorK32
namespace Go.Proofs.YtahglfakiobbcaaGreatDoor
open Go.RowKit
set_option linter.unusedVariables false
set_option linter.unusedSimpArgs false
theorem kY {xs ys:List Int}(h:List.Perm xs ys):dZ xs=dZ ys:=
 jW ((iN _).trans (h.filter _)) (iF _)
theorem tC (aD:Int): ∀(cs:List Int) (vs:List aQ),bO aD cs vs=true↔vs.map (·.1)=cs∧ ∀v∈vs,eJ aD v=true:=by
 intro cs
 induction cs with
 |nil=>intro vs;cases vs<;>simp[bO]
 |cons c cs ih=>
  intro vs
  cases vs with
  |nil=>simp[bO]
  |cons v vs=>
   simp only[bO,Bool.and_eq_true,decide_eq_true_eq,ih,List.map_cons,List.cons.injEq,List.forall_mem_cons]
   constructor
   ·rintro⟨⟨a,b⟩,c,d⟩;exact⟨⟨a,c⟩,b,d⟩
   ·rintro⟨⟨a,c⟩,b,d⟩;exact⟨⟨a,b⟩,c,d⟩
theorem eZ (h:bJ):cV h=true↔aP h.aA h.aB h.cells=true∧bD h.free h.step h.aE h.aG=true∧(0≤h.aD∧h.aD≤9999∧0≤h.aH∧h.aH≤99999)∧h.vs.map (·.1)=dZ h.cells∧ ∀v∈h.vs,eJ h.aD v=true:=by
 unfold cV iP
 simp only[Bool.and_eq_true,decide_eq_true_eq,tC]
 constructor
 ·rintro⟨⟨⟨a,b⟩,c⟩,d,e⟩;exact⟨a,b,c,d,e⟩
 ·rintro⟨a,b,c,d,e⟩;exact⟨⟨⟨a,b⟩,c⟩,d,e⟩
theorem gO (aD:Int)(v:aQ):eJ aD v=true↔cI v.2.1 v.2.2.1 v.2.2.2=true∧v.2.2.2≤aD:=by
 unfold eJ;simp
theorem pY (v:aQ): ∀vs:List aQ,(hU v vs).map (·.1)=iR v.1 (vs.map (·.1))
 | []=>rfl
 |u::vs=>by
  by_cases hc:u.1<v.1
  ·have e:hU v (u::vs)=u::hU v vs:=by simp[hU,hc]
   rw[e,List.map_cons,pY v vs,List.map_cons];simp[iR,hc]
  ·have e:hU v (u::vs)=v::u::vs:=by simp[hU,hc]
   rw[e];simp[iR,hc]
theorem aDq (v:aQ)(vs:List aQ): ∀u∈hU v vs,u=v∨u∈vs:=by
 intro u hu
 unfold hU at hu
 rcases List.mem_append.1 hu with h|h
 ·exact .inr ((List.takeWhile_sublist _).subset h)
 ·rcases List.mem_cons.1 h with h|h
  ·exact .inl h
  ·exact .inr ((List.dropWhile_sublist _).subset h)
theorem mK (v:aQ)(vs:List aQ):(hU v vs).length=vs.length+1:=by
 have:=congrArg List.length (pY v vs)
 rw[(jO _ _).length_eq]at this
 simpa using this
theorem aEx {zs:List Int}{id:Int}(h0:zs.getD 0 0=0)(hl:0<zs.length)(hi:1≤id):dZ (zs.set 0 id)=iR id (dZ zs):=by
 cases zs with
 |nil=>simp at hl
 |cons z t=>
  obtain rfl:z=0:=by simpa using h0
  symm
  refine jW ?_ (oN _ _ (iF _))
  have e:cT ((0::t).set 0 id)=id::cT (0::t):=by
   unfold cT
   rw[List.set_cons_zero,List.filter_cons_of_pos (by simp;omega),List.filter_cons_of_neg (by simp)]
  rw[e]
  exact(jO _ _).trans (List.Perm.cons _ (iN _))
theorem aCg {zs:List Int}{id:Int}(h0:zs[0]? =some id) (hi:1≤id):dZ (zs.set 0 0)=(dZ zs).erase id:=by
 cases zs with
 |nil=>simp at h0
 |cons z t=>
  obtain rfl:z=id:=by simpa using h0
  symm
  refine jW ?_ ((iF _).sublist List.erase_sublist)
  have e:cT (z::t)=z::cT ((z::t).set 0 0):=by
   unfold cT
   rw[List.set_cons_zero,List.filter_cons_of_pos (by simp;omega),List.filter_cons_of_neg (by simp)]
  have hp:=(iN (cT (z::t))).erase z
  rw[e,List.erase_cons_head,←e]at hp
  exact hp
theorem qT (id:Int): ∀vs:List aQ,vs.any (fun v=>v.1==id)=true→(vs.eraseIdx (vs.findIdx (fun v=>v.1==id))).map (·.1)=(vs.map (·.1)).erase id
 | [],h=>by simp at h
 |v::vs,h=>by
  by_cases hv:v.1=id
  ·have e:(v::vs).findIdx (fun v=>v.1==id)=0:=by simp[List.findIdx_cons,hv]
   rw[e,List.map_cons,hv,List.erase_cons_head];rfl
  ·have hb:(v.1==id)=false:=by simpa using hv
   have e:(v::vs).findIdx (fun v=>v.1==id)=vs.findIdx (fun v=>v.1==id)+1:=by simp[List.findIdx_cons,hb]
   have h':vs.any (fun v=>v.1==id)=true:=by simpa[hv]using h
   rw[e,List.eraseIdx_cons_succ,List.map_cons,qT id vs h',List.map_cons,List.erase_cons_tail (by simpa using hv)]
theorem iW {id:Int}{vs:List aQ}{v:aQ}(h:eD id vs=some v):vs.any (fun v=>v.1==id)=true∧v.1=id∧vs[(vix id vs).toNat]? =some v∧(vix id vs).toNat<vs.length∧vix id vs=((vix id vs).toNat:Int)∧(vix id vs).toNat=vs.findIdx (fun v=>v.1==id):=by
 have ha:vs.any (fun v=>v.1==id)=true:=by
  unfold eD at h
  exact List.any_eq_true.2 ⟨v,List.mem_of_find?_eq_some h,by simpa using List.find?_some h⟩
 rcases jL id vs with⟨h1,h2⟩|⟨k,a1,a2,a3,hk,h1,hx,h2⟩
 ·rw[h2]at h;cases h
 ·rw[h2]at h
  injection h with h
  subst h
  have e:vix id vs=(vs.findIdx (fun v=>v.1==id):Int):=by unfold vix;rw[if_pos ha]
  refine⟨ha,rfl,by rw[h1];simpa using hx,by rw[h1];simpa using hk,by rw[h1];simp,by rw[e];simp⟩
theorem aDh {α:Type}{l:List α}{k:Nat}{a:α}(h:l[k]? =some a):l.set k a=l:=by
 refine List.ext_getElem? (fun i=> ?_)
 rw[List.getElem?_set]
 split
 ·rename_i e
  subst e
  split
  ·exact h.symm
  ·rename_i hl
   rw[List.getElem?_eq_none (by omega)]at h;cases h
 ·rfl
theorem aDk {vs:List aQ}{k:Nat}{u:aQ}(s:Int×Int×Int)(hk:vs[k]? =some u):(vs.set k (u.1,s)).map (·.1)=vs.map (·.1):=by
 rw[List.map_set]
 exact aDh (by rw[List.getElem?_map,hk];rfl)
def bX (h:bJ)(k a b:Int):Option (bJ×Int):=
 if k=0 then
  (if 0≤(bT h.aA h.aB h.cells a).2 then some ({h with cells:=(bT h.aA h.aB h.cells a).1,vs:=hU (a,h.aD,0,h.aD) h.vs},(bT h.aA h.aB h.cells a).2)else none)
 else if k=1 then lV h a b
 else if k=2 then
  (if dO h a=true∧0≤(bN h.aA h.aB h.cells a).2 then some ({h with cells:=(bN h.aA h.aB h.cells a).1,vs:=h.vs.eraseIdx (vix a h.vs).toNat},(bN h.aA h.aB h.cells a).2)else none)
 else if k=3 then(if 1≤a∧a≤9999-h.aD then some ({h with aD:=h.aD+a},h.aD+a)else none)
 else if k=4 then(if aZ h.aA h.aB h.cells a b=true then some ({h with cells:=bA h.aA h.aB h.cells a b},0)else none)
 else none
theorem lU {aA aB:Int}{xs:List Int}{id:Int}(hok:aP aA aB xs=true)(h:0≤(bT aA aB xs id).2):
  ∃zs,List.Perm zs xs∧zs.getD 0 0=0∧1≤id∧(bT aA aB xs id).1=zs.set 0 id∧aP aA aB (zs.set 0 id)=true∧(bT aA aB xs id).2≤5:=by
 unfold bT iX at h⊢
 cases hr:fA aA xs with
 |none=>rw[hr]at h;simp at h
 |some r=>
  rw[hr]at h
  obtain⟨f1,f2,f3,f4,f5⟩:=kX hok hr
  have hp:=(kN r.2 xs hok).2.2
  rw[f1]at hp
  unfold cD at h⊢
  by_cases hc:r.1.getD 0 0=0∧1≤id∧aP aA aB (r.1.set 0 id)=true
  ·simp only[hc,and_self,if_true]at h⊢
   exact⟨r.1,hp,hc.1,trivial,rfl,hc.2.2,by omega⟩
  ·simp only[if_neg hc]at h
   simp at h
theorem kF {aA aB:Int}{xs:List Int}{id:Int}(hok:aP aA aB xs=true)(h:0≤(bN aA aB xs id).2):
  ∃ys,List.Perm ys xs∧ys[0]? =some id∧1≤id∧(bN aA aB xs id).1=ys.set 0 0∧(bN aA aB xs id).2≤60:=by
 unfold bN jD at h⊢
 by_cases hc:id<1∨id∉xs
 ·rw[if_pos hc]at h;simp at h
 ·rw[if_neg hc]at h⊢
  have hm:id∈xs:=by
   by_cases hm:id∈xs
   ·exact hm
   ·exact absurd (.inr hm) hc
  have h1: ¬id<1:=fun e=>hc (.inl e)
  obtain⟨c,hx,hi⟩:=qL hm
  rw[hi]at h⊢
  rw[Int.toNat_natCast]at h⊢
  cases hb:cR aA xs c with
  |none=>rw[hb]at h;simp at h
  |some l=>
   rw[hb]at h
   obtain⟨g1,ys,g2,g3,g4,g5⟩:=(kZ hok hx (by omega)).2 l hb
   have hp:=(kN l xs hok).2.2
   rw[g2]at hp
   refine⟨ys,hp,g5,by omega,?_,?_⟩
   ·simp[g2]
   ·simp;omega
theorem wY {aA aB:Int}{xs:List Int}(h:aP aA aB xs=true):aP aA aB (xs.set 0 0)=true:=by
 unfold aP at*
 rw[Bool.and_eq_true]at*
 refine⟨by rw[List.length_set];exact h.1,?_⟩
 obtain⟨h1,h2,h3⟩:=(eW _ _).1 h.2
 refine(eW _ _).2 ⟨fun x hx=> ?_,fun x hx=>by simp,?_⟩
 ·rcases List.mem_or_eq_of_mem_set hx with hx|rfl
  ·exact h1 x hx
  ·omega
 ·cases xs with
  |nil=>simp
  |cons x t=>
   rw[List.set_cons_zero,List.filter_cons_of_neg (by simp)]
   refine h3.sublist ?_
   rw[List.filter_cons]
   split
   ·exact List.sublist_cons_self _ _
   ·exact List.Sublist.refl _
theorem aEp {f s p c i pd a now:Int}(h:bD f s p c=true)(hi:0≤i)(h3:i≤now)(h4:now≤9999):0≤jR f s p c (now-i)∧jR f s p c (now-i)≤693:=by
 have hb:=mY (m:=now-i) h (by omega) (by omega)
 omega
theorem qM {h:bJ}(hok:cV h=true){k a b:Int}{h':bJ}{n:Int}(hd:bX h k a b=some (h',n)):
  cV h'=true∧(0≤n∧n≤9999)∧h'.cells.length=h.cells.length∧h'.aA=h.aA∧h'.aB=h.aB∧h'.free=h.free∧h'.step=h.step∧h'.aE=h.aE∧h'.aG=h.aG:=by
 obtain⟨q1,q2,q3,q4,q5⟩:=(eZ h).1 hok
 have hlen:0<h.cells.length:=by have:=bU (bW q1);omega
 unfold bX at hd
 split at hd
 ·split at hd
  ·rename_i h0
   obtain⟨zs,s1,s2,s3,s4,s5,s6⟩:=lU q1 h0
   injection hd with hd
   simp only[Prod.mk.injEq]at hd
   obtain⟨rfl,rfl⟩:=hd
   rw[s4]
   refine⟨(eZ _).2 ⟨s5,q2,q3,?_,?_⟩,⟨h0,by omega⟩,by rw[List.length_set,s1.length_eq],rfl,rfl,rfl,rfl,rfl,rfl⟩
   ·dsimp only
    rw[pY,aEx s2 (by rw[s1.length_eq];exact hlen) s3,q4,kY s1]
   ·intro v hv
    rcases aDq _ _ v hv with rfl|hv
    ·exact(gO _ _).2 ⟨by simp[cI];omega,Int.le_refl _⟩
    ·exact q5 v hv
  ·cases hd
 ·split at hd
  ·unfold lV at hd
   split at hd
   ·cases hd
   ·rename_i v hv
    obtain⟨v1,v2,v3,v4,v5,v6⟩:=iW hv
    obtain⟨s1,s2⟩:=(gO _ _).1 (q5 v (List.mem_of_getElem? v3))
    obtain⟨b1,b2⟩:=iM q2 s1 s2 q3.2.1
    obtain⟨t1,t2,t3,t4,t5,t6⟩:=eO s1
    split at hd
    ·rename_i hp
     have hpo:=tP b1 hp.1
     injection hd with hd
     simp only[Prod.mk.injEq]at hd
     obtain⟨rfl,rfl⟩:=hd
     refine⟨(eZ _).2 ⟨q1,q2,⟨q3.1,q3.2.1,?_,hp.2⟩,?_,?_⟩,⟨hpo.1,by omega⟩,rfl,rfl,rfl,rfl,rfl,rfl,rfl⟩
     ·dsimp only;omega
     ·dsimp only
      rw[←q4,←v2]
      rw[←v2]at v3
      exact aDk _ v3
     ·intro u hu
      rcases List.mem_or_eq_of_mem_set hu with hu|rfl
      ·exact q5 u hu
      ·refine(gO _ _).2 ?_
       have hf:=aEp (pd:=v.2.2.1) (a:=v.2.2.2) (now:=h.aD) q2 t1 (by omega) q3.2.1
       have hdue:bS h.free h.step h.aE h.aG v.2.1 v.2.2.1 v.2.2.2 h.aD=max (jR h.free h.step h.aE h.aG (h.aD-v.2.1)-v.2.2.1) 0:=by
        unfold bS;rw[if_pos (by simp[q2,s1,s2,q3.2.1])]
       have hp1:=hp.1
       unfold eY at hp1⊢
       split at hp1
       ·rename_i ha
        rw[if_pos ha]
        split at hp1
        ·cases hp1
        ·rename_i hn
         rw[if_neg hn]
         dsimp only
         refine⟨?_,by omega⟩
         unfold cI
         simp only[decide_eq_true_eq]
         omega
       ·cases hp1
    ·cases hd
  ·split at hd
   ·split at hd
    ·rename_i hm
     obtain⟨ys,s1,s2,s3,s4,s5⟩:=kF q1 hm.2
     injection hd with hd
     simp only[Prod.mk.injEq]at hd
     obtain⟨rfl,rfl⟩:=hd
     rw[s4]
     refine⟨(eZ _).2 ⟨wY (oQ q1 s1),q2,q3,?_,?_⟩,⟨hm.2,by omega⟩,by rw[List.length_set,s1.length_eq],rfl,rfl,rfl,rfl,rfl,rfl⟩
     ·dsimp only
      have hv: ∃v,eD a h.vs=some v:=by
       have:=hm.1
       unfold dO eB at this
       rw[if_pos hok]at this
       cases hv:eD a h.vs with
       |none=>rw[hv]at this;simp at this
       |some v=>exact⟨v,rfl⟩
      obtain⟨v,hv⟩:=hv
      obtain⟨v1,v2,v3,v4,v5,v6⟩:=iW hv
      rw[v6,qT a h.vs v1,aCg s2 s3,q4,kY s1]
     ·intro v hv
      exact q5 v (List.mem_of_mem_eraseIdx hv)
    ·cases hd
   ·split at hd
    ·split at hd
     ·rename_i hw
      injection hd with hd
      simp only[Prod.mk.injEq]at hd
      obtain⟨rfl,rfl⟩:=hd
      refine⟨(eZ _).2 ⟨q1,q2,⟨by dsimp only;omega,by dsimp only;omega,q3.2.2⟩,q4,fun v hv=> ?_⟩,⟨by omega,by omega⟩,rfl,rfl,rfl,rfl,rfl,rfl,rfl⟩
      obtain⟨s1,s2⟩:=(gO _ _).1 (q5 v hv)
      exact(gO _ _).2 ⟨s1,by dsimp only;omega⟩
     ·cases hd
    ·split at hd
     ·split at hd
      ·injection hd with hd
       simp only[Prod.mk.injEq]at hd
       obtain⟨rfl,rfl⟩:=hd
       refine⟨(eZ _).2 ⟨fO a b q1,q2,q3,?_,q5⟩,⟨by omega,by omega⟩,cE _ _ _ _ _,rfl,rfl,rfl,rfl,rfl,rfl⟩
       dsimp only
       rw[q4,kY (jY a b)]
      ·cases hd
     ·cases hd
def rS (h:bJ)(id:Int):Value:=match eB h id with
 |some s=> .tuple #[.agg #[.int .i64 s.1,.int .i64 s.2.1,.int .i64 s.2.2],.bool true]
 |none=> .tuple #[.agg #[.int .i64 0,.int .i64 0,.int .i64 0],.bool false]
set_option maxRecDepth 100000 in
set_option maxHeartbeats 1000000 in
theorem wJ (aA aB free step aE aG aD aH id:Int)(p:Option Addr)(n cap:Nat)(q:Option Addr)(m c2:Nat)(w:World)
  (HV:Hid (∀w',Ext w w'→Calls Tryz.prog 40 #[.agg #[.int .i64 aA,.int .i64 aB,.slice p n cap,.int .i64 free,.int .i64 step,.int .i64 aE,.int .i64 aG,.int .i64 aD,.int .i64 aH,.slice q m c2]] w' fun e w''=>e= .returned (.bool false)∧Ext w' w'')):
  Calls Tryz.prog 117 #[.agg #[.int .i64 aA,.int .i64 aB,.slice p n cap,.int .i64 free,.int .i64 step,.int .i64 aE,.int .i64 aG,.int .i64 aD,.int .i64 aH,.slice q m c2],.int .i64 id] w fun e w'=>e= .returned (.tuple #[.agg #[.int .i64 0,.int .i64 0,.int .i64 0],.bool false])∧Ext w w':=by
 go_enter Tryz.func117,Tryz.ntmps117
 go_wp2_with fail
 refine(HV.out _ (by exact .alloc (.alloc (.refl _) _) _)).mono ?_
 rintro e w1 ⟨rfl,hh1⟩
 have BA1:Blk w1 w.heap.size 37 #[.int .i64 aA,.int .i64 aB,.slice p n cap,.int .i64 free,.int .i64 step,.int .i64 aE,.int .i64 aG,.int .i64 aD,.int .i64 aH,.slice q m c2]:=((Blk.new w _ _).alloc _).ext hh1
 have BS1:Blk w1 (w.heap.size+1) 67 #[.int .i64 0,.int .i64 0,.int .i64 0]:=by have:=(Blk.new (w.alloc (.cells #[.int .i64 aA,.int .i64 aB,.slice p n cap,.int .i64 free,.int .i64 step,.int .i64 aE,.int .i64 aG,.int .i64 aD,.int .i64 aH,.slice q m c2] 37)) 67 #[.int .i64 0,.int .i64 0,.int .i64 0]).ext hh1;simpa using this
 have X1:Ext w w1:=(((Ext.refl w).alloc _).alloc _).trans hh1
 have s1:w.heap.size+1<w1.heap.size:=BS1.lt
 replace BA1:=xQ BA1
 replace BS1:=xQ BS1
 clear hh1
 obtain⟨e1_0,e1_1,e1_2,e1_3,e1_4,e1_5,e1_6,e1_7,e1_8,e1_9⟩:=(BA1.out).ten
 obtain⟨z1_0,y1_0,z1_1,y1_1,z1_2,y1_2⟩:=(BS1.out).trif
 go_wp2
 exact bodyPost_ret (v:= .tuple #[.agg #[.int .i64 0,.int .i64 0,.int .i64 0],.bool false]) (by simp[results,Tryz.results117,go_sem, *]) rfl ⟨rfl,xE⟩
set_option maxRecDepth 100000 in
set_option maxHeartbeats 1000000 in
theorem zK (aA aB free step aE aG aD aH id:Int)(p:Option Addr)(n cap:Nat)(q:Option Addr)(m c2:Nat)(w:World)
  (HV:Hid (∀w',Ext w w'→Calls Tryz.prog 40 #[.agg #[.int .i64 aA,.int .i64 aB,.slice p n cap,.int .i64 free,.int .i64 step,.int .i64 aE,.int .i64 aG,.int .i64 aD,.int .i64 aH,.slice q m c2]] w' fun e w''=>e= .returned (.bool true)∧Ext w' w''))
  (HX:Hid (∀w',Ext w w'→Calls Tryz.prog 81 #[.agg #[.int .i64 aA,.int .i64 aB,.slice p n cap,.int .i64 free,.int .i64 step,.int .i64 aE,.int .i64 aG,.int .i64 aD,.int .i64 aH,.slice q m c2],.int .i64 id] w' fun e w''=>e= .returned (.int .i64 (-1))∧Ext w' w'')):
  Calls Tryz.prog 117 #[.agg #[.int .i64 aA,.int .i64 aB,.slice p n cap,.int .i64 free,.int .i64 step,.int .i64 aE,.int .i64 aG,.int .i64 aD,.int .i64 aH,.slice q m c2],.int .i64 id] w fun e w'=>e= .returned (.tuple #[.agg #[.int .i64 0,.int .i64 0,.int .i64 0],.bool false])∧Ext w w':=by
 go_enter Tryz.func117,Tryz.ntmps117
 go_wp2_with fail
 refine(HV.out _ (by exact .alloc (.alloc (.refl _) _) _)).mono ?_
 rintro e w1 ⟨rfl,hh1⟩
 have BA1:Blk w1 w.heap.size 37 #[.int .i64 aA,.int .i64 aB,.slice p n cap,.int .i64 free,.int .i64 step,.int .i64 aE,.int .i64 aG,.int .i64 aD,.int .i64 aH,.slice q m c2]:=((Blk.new w _ _).alloc _).ext hh1
 have BS1:Blk w1 (w.heap.size+1) 67 #[.int .i64 0,.int .i64 0,.int .i64 0]:=by have:=(Blk.new (w.alloc (.cells #[.int .i64 aA,.int .i64 aB,.slice p n cap,.int .i64 free,.int .i64 step,.int .i64 aE,.int .i64 aG,.int .i64 aD,.int .i64 aH,.slice q m c2] 37)) 67 #[.int .i64 0,.int .i64 0,.int .i64 0]).ext hh1;simpa using this
 have X1:Ext w w1:=(((Ext.refl w).alloc _).alloc _).trans hh1
 have s1:w.heap.size+1<w1.heap.size:=BS1.lt
 replace BA1:=xQ BA1
 replace BS1:=xQ BS1
 clear hh1
 obtain⟨e1_0,e1_1,e1_2,e1_3,e1_4,e1_5,e1_6,e1_7,e1_8,e1_9⟩:=(BA1.out).ten
 obtain⟨z1_0,y1_0,z1_1,y1_1,z1_2,y1_2⟩:=(BS1.out).trif
 go_wp2_with fail
 refine(HX.out _ (by exact X1)).mono ?_
 rintro e w2 ⟨rfl,hh2⟩
 have BA2:=xQ (BA1.out.ext hh2)
 have BS2:=xQ (BS1.out.ext hh2)
 have X2:Ext w w2:=X1.trans hh2
 have s2:w.heap.size+1<w2.heap.size:=BS2.out.lt
 clear e1_0 e1_1 e1_2 e1_3 e1_4 e1_5 e1_6 e1_7 e1_8 e1_9 z1_0 z1_1 z1_2 y1_0 y1_1 y1_2
 clear hh2 BA1 BS1 s1
 obtain⟨e2_0,e2_1,e2_2,e2_3,e2_4,e2_5,e2_6,e2_7,e2_8,e2_9⟩:=(BA2.out).ten
 obtain⟨z2_0,y2_0,z2_1,y2_1,z2_2,y2_2⟩:=(BS2.out).trif
 go_wp2
 exact bodyPost_ret (v:= .tuple #[.agg #[.int .i64 0,.int .i64 0,.int .i64 0],.bool false]) (by simp[results,Tryz.results117,go_sem, *]) rfl ⟨rfl,xE⟩
set_option maxRecDepth 100000 in
set_option maxHeartbeats 1000000 in
theorem wI (aA aB free step aE aG aD aH id:Int)(p:Option Addr)(n cap:Nat)(q:Option Addr)(m c2:Nat)(w:World)
  (k:Nat)(a1 a2 a3:Int)(vs:List aQ)(HK:Hid (vs[k]? =some (id,a1,a2,a3))) (hk:k<m) (hm:m≤9223372036854775807) (HS:Hid (Sl w q m c2 4 (vs.flatMap aC)))
  (HV:Hid (∀w',Ext w w'→Calls Tryz.prog 40 #[.agg #[.int .i64 aA,.int .i64 aB,.slice p n cap,.int .i64 free,.int .i64 step,.int .i64 aE,.int .i64 aG,.int .i64 aD,.int .i64 aH,.slice q m c2]] w' fun e w''=>e= .returned (.bool true)∧Ext w' w''))
  (HX:Hid (∀w',Ext w w'→Calls Tryz.prog 81 #[.agg #[.int .i64 aA,.int .i64 aB,.slice p n cap,.int .i64 free,.int .i64 step,.int .i64 aE,.int .i64 aG,.int .i64 aD,.int .i64 aH,.slice q m c2],.int .i64 id] w' fun e w''=>e= .returned (.int .i64 k)∧Ext w' w'')):
  Calls Tryz.prog 117 #[.agg #[.int .i64 aA,.int .i64 aB,.slice p n cap,.int .i64 free,.int .i64 step,.int .i64 aE,.int .i64 aG,.int .i64 aD,.int .i64 aH,.slice q m c2],.int .i64 id] w fun e w'=>e= .returned (.tuple #[.agg #[.int .i64 a1,.int .i64 a2,.int .i64 a3],.bool true])∧Ext w w':=by
 go_enter Tryz.func117,Tryz.ntmps117
 go_wp2_with fail
 refine(HV.out _ (by exact .alloc (.alloc (.refl _) _) _)).mono ?_
 rintro e w1 ⟨rfl,hh1⟩
 have BA1:Blk w1 w.heap.size 37 #[.int .i64 aA,.int .i64 aB,.slice p n cap,.int .i64 free,.int .i64 step,.int .i64 aE,.int .i64 aG,.int .i64 aD,.int .i64 aH,.slice q m c2]:=((Blk.new w _ _).alloc _).ext hh1
 have BS1:Blk w1 (w.heap.size+1) 67 #[.int .i64 0,.int .i64 0,.int .i64 0]:=by have:=(Blk.new (w.alloc (.cells #[.int .i64 aA,.int .i64 aB,.slice p n cap,.int .i64 free,.int .i64 step,.int .i64 aE,.int .i64 aG,.int .i64 aD,.int .i64 aH,.slice q m c2] 37)) 67 #[.int .i64 0,.int .i64 0,.int .i64 0]).ext hh1;simpa using this
 have X1:Ext w w1:=(((Ext.refl w).alloc _).alloc _).trans hh1
 have s1:w.heap.size+1<w1.heap.size:=BS1.lt
 replace BA1:=xQ BA1
 replace BS1:=xQ BS1
 clear hh1
 obtain⟨e1_0,e1_1,e1_2,e1_3,e1_4,e1_5,e1_6,e1_7,e1_8,e1_9⟩:=(BA1.out).ten
 obtain⟨z1_0,y1_0,z1_1,y1_1,z1_2,y1_2⟩:=(BS1.out).trif
 go_wp2_with fail
 refine(HX.out _ (by exact X1)).mono ?_
 rintro e w2 ⟨rfl,hh2⟩
 have BA2:=xQ (BA1.out.ext hh2)
 have BS2:=xQ (BS1.out.ext hh2)
 have X2:Ext w w2:=X1.trans hh2
 have s2:w.heap.size+1<w2.heap.size:=BS2.out.lt
 clear e1_0 e1_1 e1_2 e1_3 e1_4 e1_5 e1_6 e1_7 e1_8 e1_9 z1_0 z1_1 z1_2 y1_0 y1_1 y1_2
 clear hh2 BA1 BS1 s1
 obtain⟨e2_0,e2_1,e2_2,e2_3,e2_4,e2_5,e2_6,e2_7,e2_8,e2_9⟩:=(BA2.out).ten
 obtain⟨z2_0,y2_0,z2_1,y2_1,z2_2,y2_2⟩:=(BS2.out).trif
 obtain⟨b,off,b0,b1,b2,b3,rfl,hv,hb,g0,g1,g2,g3⟩:=dV (HS.out.ext X2) hk
 obtain⟨rfl,rfl,rfl,rfl⟩:id=b0∧a1=b1∧a2=b2∧a3=b3:=by have t:=HK.out;rw[hv]at t;simp only[Option.some.injEq,Prod.mk.injEq]at t;exact⟨t.1.symm,t.2.1.symm,t.2.2.1.symm,t.2.2.2.symm⟩
 have hne:b≠w.heap.size+1:=by
  have hb0:=hb
  obtain⟨b',off',_,_,_,_,hq,_,hb',_⟩:=dV HS.out hk
  simp only[Option.some.injEq,Addr.mk.injEq]at hq
  omega
 have i1:(0:Int)≤(k:Int):=by omega
 have i2:(k:Int)<(m:Int):=by omega
 clear hv
 go_wp2
 exact bodyPost_ret (v:= .tuple #[.agg #[.int .i64 a1,.int .i64 a2,.int .i64 a3],.bool true]) (by simp[results,Tryz.results117,go_sem, *]) rfl ⟨rfl,xE⟩
set_option maxRecDepth 100000 in
set_option maxHeartbeats 1000000 in
theorem uY (aA aB free step aE aG aD aH id:Int)(p:Option Addr)(n cap:Nat)(q:Option Addr)(m c2:Nat)(w:World)
  (x:Int)
  (HX:Hid (∀w',Ext w w'→Calls Tryz.prog 33 #[.agg #[.int .i64 aA,.int .i64 aB,.slice p n cap,.int .i64 free,.int .i64 step,.int .i64 aE,.int .i64 aG,.int .i64 aD,.int .i64 aH,.slice q m c2],.int .i64 id] w' fun e w''=>e= .returned (.int .i64 x)∧Ext w' w''))
  (HV:Hid (∀w',Ext w w'→Calls Tryz.prog 27 #[.agg #[.int .i64 aA,.int .i64 aB,.slice p n cap,.int .i64 free,.int .i64 step,.int .i64 aE,.int .i64 aG,.int .i64 aD,.int .i64 aH,.slice q m c2]] w' fun e w''=>e= .returned (.bool false)∧Ext w' w'')):
  Calls Tryz.prog 68 #[.agg #[.int .i64 aA,.int .i64 aB,.slice p n cap,.int .i64 free,.int .i64 step,.int .i64 aE,.int .i64 aG,.int .i64 aD,.int .i64 aH,.slice q m c2],.int .i64 id] w fun e w'=>e= .returned (.tuple #[.agg #[.int .i64 0,.int .i64 0,.int .i64 0],.bool false])∧Ext w w':=by
 go_enter Tryz.func68,Tryz.ntmps68
 go_wp2_with fail
 refine(HX.out _ (by exact .alloc (.alloc (.refl _) _) _)).mono ?_
 rintro e w1 ⟨rfl,hh1⟩
 have BA1:Blk w1 w.heap.size 37 #[.int .i64 aA,.int .i64 aB,.slice p n cap,.int .i64 free,.int .i64 step,.int .i64 aE,.int .i64 aG,.int .i64 aD,.int .i64 aH,.slice q m c2]:=((Blk.new w _ _).alloc _).ext hh1
 have BS1:Blk w1 (w.heap.size+1) 67 #[.int .i64 0,.int .i64 0,.int .i64 0]:=by have:=(Blk.new (w.alloc (.cells #[.int .i64 aA,.int .i64 aB,.slice p n cap,.int .i64 free,.int .i64 step,.int .i64 aE,.int .i64 aG,.int .i64 aD,.int .i64 aH,.slice q m c2] 37)) 67 #[.int .i64 0,.int .i64 0,.int .i64 0]).ext hh1;simpa using this
 have X1:Ext w w1:=(((Ext.refl w).alloc _).alloc _).trans hh1
 have s1:w.heap.size+1<w1.heap.size:=BS1.lt
 replace BA1:=xQ BA1
 replace BS1:=xQ BS1
 clear hh1
 obtain⟨e1_0,e1_1,e1_2,e1_3,e1_4,e1_5,e1_6,e1_7,e1_8,e1_9⟩:=(BA1.out).ten
 obtain⟨z1_0,y1_0,z1_1,y1_1,z1_2,y1_2⟩:=(BS1.out).trif
 go_wp2_with fail
 refine(HV.out _ (by exact X1)).mono ?_
 rintro e w2 ⟨rfl,hh2⟩
 have BA2:=xQ (BA1.out.ext hh2)
 have BS2:=xQ (BS1.out.ext hh2)
 have X2:Ext w w2:=X1.trans hh2
 have s2:w.heap.size+1<w2.heap.size:=BS2.out.lt
 clear e1_0 e1_1 e1_2 e1_3 e1_4 e1_5 e1_6 e1_7 e1_8 e1_9 z1_0 z1_1 z1_2 y1_0 y1_1 y1_2
 clear hh2 BA1 BS1 s1
 obtain⟨e2_0,e2_1,e2_2,e2_3,e2_4,e2_5,e2_6,e2_7,e2_8,e2_9⟩:=(BA2.out).ten
 obtain⟨z2_0,y2_0,z2_1,y2_1,z2_2,y2_2⟩:=(BS2.out).trif
 go_wp2
 exact bodyPost_ret (v:= .tuple #[.agg #[.int .i64 0,.int .i64 0,.int .i64 0],.bool false]) (by simp[results,Tryz.results68,go_sem, *]) rfl ⟨rfl,xE⟩
set_option maxRecDepth 100000 in
set_option maxHeartbeats 1000000 in
theorem yB (aA aB free step aE aG aD aH id:Int)(p:Option Addr)(n cap:Nat)(q:Option Addr)(m c2:Nat)(w:World)
  (HX:Hid (∀w',Ext w w'→Calls Tryz.prog 33 #[.agg #[.int .i64 aA,.int .i64 aB,.slice p n cap,.int .i64 free,.int .i64 step,.int .i64 aE,.int .i64 aG,.int .i64 aD,.int .i64 aH,.slice q m c2],.int .i64 id] w' fun e w''=>e= .returned (.int .i64 (-1))∧Ext w' w''))
  (HV:Hid (∀w',Ext w w'→Calls Tryz.prog 27 #[.agg #[.int .i64 aA,.int .i64 aB,.slice p n cap,.int .i64 free,.int .i64 step,.int .i64 aE,.int .i64 aG,.int .i64 aD,.int .i64 aH,.slice q m c2]] w' fun e w''=>e= .returned (.bool true)∧Ext w' w'')):
  Calls Tryz.prog 68 #[.agg #[.int .i64 aA,.int .i64 aB,.slice p n cap,.int .i64 free,.int .i64 step,.int .i64 aE,.int .i64 aG,.int .i64 aD,.int .i64 aH,.slice q m c2],.int .i64 id] w fun e w'=>e= .returned (.tuple #[.agg #[.int .i64 0,.int .i64 0,.int .i64 0],.bool false])∧Ext w w':=by
 go_enter Tryz.func68,Tryz.ntmps68
 go_wp2_with fail
 refine(HX.out _ (by exact .alloc (.alloc (.refl _) _) _)).mono ?_
 rintro e w1 ⟨rfl,hh1⟩
 have BA1:Blk w1 w.heap.size 37 #[.int .i64 aA,.int .i64 aB,.slice p n cap,.int .i64 free,.int .i64 step,.int .i64 aE,.int .i64 aG,.int .i64 aD,.int .i64 aH,.slice q m c2]:=((Blk.new w _ _).alloc _).ext hh1
 have BS1:Blk w1 (w.heap.size+1) 67 #[.int .i64 0,.int .i64 0,.int .i64 0]:=by have:=(Blk.new (w.alloc (.cells #[.int .i64 aA,.int .i64 aB,.slice p n cap,.int .i64 free,.int .i64 step,.int .i64 aE,.int .i64 aG,.int .i64 aD,.int .i64 aH,.slice q m c2] 37)) 67 #[.int .i64 0,.int .i64 0,.int .i64 0]).ext hh1;simpa using this
 have X1:Ext w w1:=(((Ext.refl w).alloc _).alloc _).trans hh1
 have s1:w.heap.size+1<w1.heap.size:=BS1.lt
 replace BA1:=xQ BA1
 replace BS1:=xQ BS1
 clear hh1
 obtain⟨e1_0,e1_1,e1_2,e1_3,e1_4,e1_5,e1_6,e1_7,e1_8,e1_9⟩:=(BA1.out).ten
 obtain⟨z1_0,y1_0,z1_1,y1_1,z1_2,y1_2⟩:=(BS1.out).trif
 go_wp2_with fail
 refine(HV.out _ (by exact X1)).mono ?_
 rintro e w2 ⟨rfl,hh2⟩
 have BA2:=xQ (BA1.out.ext hh2)
 have BS2:=xQ (BS1.out.ext hh2)
 have X2:Ext w w2:=X1.trans hh2
 have s2:w.heap.size+1<w2.heap.size:=BS2.out.lt
 clear e1_0 e1_1 e1_2 e1_3 e1_4 e1_5 e1_6 e1_7 e1_8 e1_9 z1_0 z1_1 z1_2 y1_0 y1_1 y1_2
 clear hh2 BA1 BS1 s1
 obtain⟨e2_0,e2_1,e2_2,e2_3,e2_4,e2_5,e2_6,e2_7,e2_8,e2_9⟩:=(BA2.out).ten
 obtain⟨z2_0,y2_0,z2_1,y2_1,z2_2,y2_2⟩:=(BS2.out).trif
 go_wp2
 exact bodyPost_ret (v:= .tuple #[.agg #[.int .i64 0,.int .i64 0,.int .i64 0],.bool false]) (by simp[results,Tryz.results68,go_sem, *]) rfl ⟨rfl,xE⟩
set_option maxRecDepth 100000 in
set_option maxHeartbeats 1000000 in
theorem uX (aA aB free step aE aG aD aH id:Int)(p:Option Addr)(n cap:Nat)(q:Option Addr)(m c2:Nat)(w:World)
  (k:Nat)(a1 a2 a3:Int)(vs:List aQ)(HK:Hid (vs[k]? =some (id,a1,a2,a3))) (hk:k<m) (hm:m≤9223372036854775807) (HS:Hid (Sl w q m c2 4 (vs.flatMap aC)))
  (HX:Hid (∀w',Ext w w'→Calls Tryz.prog 33 #[.agg #[.int .i64 aA,.int .i64 aB,.slice p n cap,.int .i64 free,.int .i64 step,.int .i64 aE,.int .i64 aG,.int .i64 aD,.int .i64 aH,.slice q m c2],.int .i64 id] w' fun e w''=>e= .returned (.int .i64 k)∧Ext w' w''))
  (HV:Hid (∀w',Ext w w'→Calls Tryz.prog 27 #[.agg #[.int .i64 aA,.int .i64 aB,.slice p n cap,.int .i64 free,.int .i64 step,.int .i64 aE,.int .i64 aG,.int .i64 aD,.int .i64 aH,.slice q m c2]] w' fun e w''=>e= .returned (.bool true)∧Ext w' w'')):
  Calls Tryz.prog 68 #[.agg #[.int .i64 aA,.int .i64 aB,.slice p n cap,.int .i64 free,.int .i64 step,.int .i64 aE,.int .i64 aG,.int .i64 aD,.int .i64 aH,.slice q m c2],.int .i64 id] w fun e w'=>e= .returned (.tuple #[.agg #[.int .i64 a1,.int .i64 a2,.int .i64 a3],.bool true])∧Ext w w':=by
 go_enter Tryz.func68,Tryz.ntmps68
 go_wp2_with fail
 refine(HX.out _ (by exact .alloc (.alloc (.refl _) _) _)).mono ?_
 rintro e w1 ⟨rfl,hh1⟩
 have BA1:Blk w1 w.heap.size 37 #[.int .i64 aA,.int .i64 aB,.slice p n cap,.int .i64 free,.int .i64 step,.int .i64 aE,.int .i64 aG,.int .i64 aD,.int .i64 aH,.slice q m c2]:=((Blk.new w _ _).alloc _).ext hh1
 have BS1:Blk w1 (w.heap.size+1) 67 #[.int .i64 0,.int .i64 0,.int .i64 0]:=by have:=(Blk.new (w.alloc (.cells #[.int .i64 aA,.int .i64 aB,.slice p n cap,.int .i64 free,.int .i64 step,.int .i64 aE,.int .i64 aG,.int .i64 aD,.int .i64 aH,.slice q m c2] 37)) 67 #[.int .i64 0,.int .i64 0,.int .i64 0]).ext hh1;simpa using this
 have X1:Ext w w1:=(((Ext.refl w).alloc _).alloc _).trans hh1
 have s1:w.heap.size+1<w1.heap.size:=BS1.lt
 replace BA1:=xQ BA1
 replace BS1:=xQ BS1
 clear hh1
 obtain⟨e1_0,e1_1,e1_2,e1_3,e1_4,e1_5,e1_6,e1_7,e1_8,e1_9⟩:=(BA1.out).ten
 obtain⟨z1_0,y1_0,z1_1,y1_1,z1_2,y1_2⟩:=(BS1.out).trif
 go_wp2_with fail
 refine(HV.out _ (by exact X1)).mono ?_
 rintro e w2 ⟨rfl,hh2⟩
 have BA2:=xQ (BA1.out.ext hh2)
 have BS2:=xQ (BS1.out.ext hh2)
 have X2:Ext w w2:=X1.trans hh2
 have s2:w.heap.size+1<w2.heap.size:=BS2.out.lt
 clear e1_0 e1_1 e1_2 e1_3 e1_4 e1_5 e1_6 e1_7 e1_8 e1_9 z1_0 z1_1 z1_2 y1_0 y1_1 y1_2
 clear hh2 BA1 BS1 s1
 obtain⟨e2_0,e2_1,e2_2,e2_3,e2_4,e2_5,e2_6,e2_7,e2_8,e2_9⟩:=(BA2.out).ten
 obtain⟨z2_0,y2_0,z2_1,y2_1,z2_2,y2_2⟩:=(BS2.out).trif
 obtain⟨b,off,b0,b1,b2,b3,rfl,hv,hb,g0,g1,g2,g3⟩:=dV (HS.out.ext X2) hk
 obtain⟨rfl,rfl,rfl,rfl⟩:id=b0∧a1=b1∧a2=b2∧a3=b3:=by have t:=HK.out;rw[hv]at t;simp only[Option.some.injEq,Prod.mk.injEq]at t;exact⟨t.1.symm,t.2.1.symm,t.2.2.1.symm,t.2.2.2.symm⟩
 have hne:b≠w.heap.size+1:=by
  have hb0:=hb
  obtain⟨b',off',_,_,_,_,hq,_,hb',_⟩:=dV HS.out hk
  simp only[Option.some.injEq,Addr.mk.injEq]at hq
  omega
 have i1:(0:Int)≤(k:Int):=by omega
 have i2:(k:Int)<(m:Int):=by omega
 clear hv
 go_wp2
 exact bodyPost_ret (v:= .tuple #[.agg #[.int .i64 a1,.int .i64 a2,.int .i64 a3],.bool true]) (by simp[results,Tryz.results68,go_sem, *]) rfl ⟨rfl,xE⟩
theorem aFl (h:bJ)(id:Int)(p:Option Addr)(n cap:Nat)(q:Option Addr)(m c2:Nat)(w:World)(hi:IsHouse w h p n cap q m c2):
  Calls Tryz.prog 117 #[cC h p n cap q m c2,.int .i64 id] w fun e w'=>e= .returned (rS h id)∧Ext w w':=by
 have HV:=fun(w':World) (hx:Ext w w')=>nV h p n cap q m c2 w' (hi.ext hx)
 have hvl:=hi.vlen
 obtain⟨aA,aB,cells,free,step,aE,aG,aD,aH,vs⟩:=h
 have HX:=fun(w':World) (hx:Ext w w')=>fX aA aB free step aE aG aD aH id p n cap q m c2 vs w' (hi.vs.ext hx)
 unfold rS eB
 simp only at hvl HV HX⊢
 cases hok:cV ⟨aA,aB,cells,free,step,aE,aG,aD,aH,vs⟩with
 |false=>
  rw[hok]at HV
  simpa using wJ aA aB free step aE aG aD aH id p n cap q m c2 w HV
 |true=>
  rw[hok]at HV
  rcases jL id vs with⟨hx,hv⟩|⟨k,a1,a2,a3,hk,hx,hv,hf⟩
  ·rw[hx]at HX
   rw[hv]
   simpa using zK aA aB free step aE aG aD aH id p n cap q m c2 w HV HX
  ·rw[hx]at HX
   rw[hf]
   simpa using wI aA aB free step aE aG aD aH id p n cap q m c2 w k a1 a2 a3 vs hv (by omega) hi.vs.bd hi.vs HV HX
theorem aF7 (h:bJ)(id:Int)(p:Option Addr)(n cap:Nat)(q:Option Addr)(m c2:Nat)(w:World)(hi:IsHouse w h p n cap q m c2):
  Calls Tryz.prog 68 #[cC h p n cap q m c2,.int .i64 id] w fun e w'=>e= .returned (rS h id)∧Ext w w':=by
 have HV:=fun(w':World) (hx:Ext w w')=>nL h p n cap q m c2 w' (hi.ext hx)
 have hvl:=hi.vlen
 obtain⟨aA,aB,cells,free,step,aE,aG,aD,aH,vs⟩:=h
 have HX:=fun(w':World) (hx:Ext w w')=>lY aA aB free step aE aG aD aH id p n cap q m c2 vs w' (hi.vs.ext hx)
 unfold rS eB
 simp only at hvl HV HX⊢
 cases hok:cV ⟨aA,aB,cells,free,step,aE,aG,aD,aH,vs⟩with
 |false=>
  rw[hok]at HV
  simpa using uY aA aB free step aE aG aD aH id p n cap q m c2 w _ HX HV
 |true=>
  rw[hok]at HV
  rcases jL id vs with⟨hx,hv⟩|⟨k,a1,a2,a3,hk,hx,hv,hf⟩
  ·rw[hx]at HX
   rw[hv]
   simpa using yB aA aB free step aE aG aD aH id p n cap q m c2 w HX HV
  ·rw[hx]at HX
   rw[hf]
   simpa using uX aA aB free step aE aG aD aH id p n cap q m c2 w k a1 a2 a3 vs hv (by omega) hi.vs.bd hi.vs HX HV
set_option maxRecDepth 100000 in
set_option maxHeartbeats 1000000 in
theorem aC2 (aA aB free step aE aG aD aH id:Int)(p:Option Addr)(n cap:Nat)(q:Option Addr)(m c2:Nat)(w:World)
  (HST:Hid (∀w',Ext w w'→Calls Tryz.prog 117 #[.agg #[.int .i64 aA,.int .i64 aB,.slice p n cap,.int .i64 free,.int .i64 step,.int .i64 aE,.int .i64 aG,.int .i64 aD,.int .i64 aH,.slice q m c2],.int .i64 id] w' fun e w''=>e= .returned (.tuple #[.agg #[.int .i64 0,.int .i64 0,.int .i64 0],.bool false])∧Ext w' w'')):
  Calls Tryz.prog 83 #[.agg #[.int .i64 aA,.int .i64 aB,.slice p n cap,.int .i64 free,.int .i64 step,.int .i64 aE,.int .i64 aG,.int .i64 aD,.int .i64 aH,.slice q m c2],.int .i64 id] w fun e w'=>e= .returned (.bool false)∧Ext w w':=by
 go_enter Tryz.func83,Tryz.ntmps83
 go_wp2_with fail
 refine(HST.out _ (by exact .alloc (.refl _) _)).mono ?_
 rintro e w1 ⟨rfl,hh1⟩
 have BA1:Blk w1 w.heap.size 37 #[.int .i64 aA,.int .i64 aB,.slice p n cap,.int .i64 free,.int .i64 step,.int .i64 aE,.int .i64 aG,.int .i64 aD,.int .i64 aH,.slice q m c2]:=(Blk.new w _ _).ext hh1
 have X1:Ext w w1:=((Ext.refl w).alloc _).trans hh1
 have s1:w.heap.size<w1.heap.size:=BA1.lt
 replace BA1:=xQ BA1
 clear hh1
 obtain⟨e1_0,e1_1,e1_2,e1_3,e1_4,e1_5,e1_6,e1_7,e1_8,e1_9⟩:=(BA1.out).ten
 go_wp2
 go_ret
 exact⟨rfl,by exact .alloc X1 _⟩
set_option maxRecDepth 100000 in
set_option maxHeartbeats 1000000 in
theorem zN (aA aB free step aE aG aD aH id:Int)(p:Option Addr)(n cap:Nat)(q:Option Addr)(m c2:Nat)(w:World)(a1 a2 a3:Int)(D:Bool)
  (HST:Hid (∀w',Ext w w'→Calls Tryz.prog 117 #[.agg #[.int .i64 aA,.int .i64 aB,.slice p n cap,.int .i64 free,.int .i64 step,.int .i64 aE,.int .i64 aG,.int .i64 aD,.int .i64 aH,.slice q m c2],.int .i64 id] w' fun e w''=>e= .returned (.tuple #[.agg #[.int .i64 a1,.int .i64 a2,.int .i64 a3],.bool true])∧Ext w' w''))
  (HD:Hid (∀w',Calls Tryz.prog 118 #[aS free step aE aG,bK a1 a2 a3,.int .i64 aD] w' fun e w''=>e= .returned (.bool D)∧Ext w' w'')):
  Calls Tryz.prog 83 #[.agg #[.int .i64 aA,.int .i64 aB,.slice p n cap,.int .i64 free,.int .i64 step,.int .i64 aE,.int .i64 aG,.int .i64 aD,.int .i64 aH,.slice q m c2],.int .i64 id] w fun e w'=>e= .returned (.bool D)∧Ext w w':=by
 go_enter Tryz.func83,Tryz.ntmps83
 go_wp2_with fail
 refine(HST.out _ (by exact .alloc (.refl _) _)).mono ?_
 rintro e w1 ⟨rfl,hh1⟩
 have BA1:Blk w1 w.heap.size 37 #[.int .i64 aA,.int .i64 aB,.slice p n cap,.int .i64 free,.int .i64 step,.int .i64 aE,.int .i64 aG,.int .i64 aD,.int .i64 aH,.slice q m c2]:=(Blk.new w _ _).ext hh1
 have X1:Ext w w1:=((Ext.refl w).alloc _).trans hh1
 have s1:w.heap.size<w1.heap.size:=BA1.lt
 replace BA1:=xQ BA1
 clear hh1
 obtain⟨e1_0,e1_1,e1_2,e1_3,e1_4,e1_5,e1_6,e1_7,e1_8,e1_9⟩:=(BA1.out).ten
 go_wp2_with fail
 refine(HD.out _).mono ?_
 rintro e w2 ⟨rfl,hh2⟩
 go_wp2
 go_ret
 exact⟨rfl,by exact .trans (.alloc X1 _) hh2⟩
set_option maxRecDepth 100000 in
set_option maxHeartbeats 1000000 in
theorem aB7 (aA aB free step aE aG aD aH id:Int)(p:Option Addr)(n cap:Nat)(q:Option Addr)(m c2:Nat)(w:World)
  (HST:Hid (∀w',Ext w w'→Calls Tryz.prog 68 #[.agg #[.int .i64 aA,.int .i64 aB,.slice p n cap,.int .i64 free,.int .i64 step,.int .i64 aE,.int .i64 aG,.int .i64 aD,.int .i64 aH,.slice q m c2],.int .i64 id] w' fun e w''=>e= .returned (.tuple #[.agg #[.int .i64 0,.int .i64 0,.int .i64 0],.bool false])∧Ext w' w'')):
  Calls Tryz.prog 34 #[.agg #[.int .i64 aA,.int .i64 aB,.slice p n cap,.int .i64 free,.int .i64 step,.int .i64 aE,.int .i64 aG,.int .i64 aD,.int .i64 aH,.slice q m c2],.int .i64 id] w fun e w'=>e= .returned (.bool false)∧Ext w w':=by
 go_enter Tryz.func34,Tryz.ntmps34
 go_wp2_with fail
 refine(HST.out _ (by exact .alloc (.refl _) _)).mono ?_
 rintro e w1 ⟨rfl,hh1⟩
 have BA1:Blk w1 w.heap.size 37 #[.int .i64 aA,.int .i64 aB,.slice p n cap,.int .i64 free,.int .i64 step,.int .i64 aE,.int .i64 aG,.int .i64 aD,.int .i64 aH,.slice q m c2]:=(Blk.new w _ _).ext hh1
 have X1:Ext w w1:=((Ext.refl w).alloc _).trans hh1
 have s1:w.heap.size<w1.heap.size:=BA1.lt
 replace BA1:=xQ BA1
 clear hh1
 obtain⟨e1_0,e1_1,e1_2,e1_3,e1_4,e1_5,e1_6,e1_7,e1_8,e1_9⟩:=(BA1.out).ten
 go_wp2
 go_ret
 exact⟨rfl,by exact .alloc X1 _⟩
set_option maxRecDepth 100000 in
set_option maxHeartbeats 1000000 in
theorem yE (aA aB free step aE aG aD aH id:Int)(p:Option Addr)(n cap:Nat)(q:Option Addr)(m c2:Nat)(w:World)(a1 a2 a3:Int)(D:Bool)
  (HST:Hid (∀w',Ext w w'→Calls Tryz.prog 68 #[.agg #[.int .i64 aA,.int .i64 aB,.slice p n cap,.int .i64 free,.int .i64 step,.int .i64 aE,.int .i64 aG,.int .i64 aD,.int .i64 aH,.slice q m c2],.int .i64 id] w' fun e w''=>e= .returned (.tuple #[.agg #[.int .i64 a1,.int .i64 a2,.int .i64 a3],.bool true])∧Ext w' w''))
  (HD:Hid (∀w',Calls Tryz.prog 69 #[aS free step aE aG,bK a1 a2 a3,.int .i64 aD] w' fun e w''=>e= .returned (.bool D)∧Ext w' w'')):
  Calls Tryz.prog 34 #[.agg #[.int .i64 aA,.int .i64 aB,.slice p n cap,.int .i64 free,.int .i64 step,.int .i64 aE,.int .i64 aG,.int .i64 aD,.int .i64 aH,.slice q m c2],.int .i64 id] w fun e w'=>e= .returned (.bool D)∧Ext w w':=by
 go_enter Tryz.func34,Tryz.ntmps34
 go_wp2_with fail
 refine(HST.out _ (by exact .alloc (.refl _) _)).mono ?_
 rintro e w1 ⟨rfl,hh1⟩
 have BA1:Blk w1 w.heap.size 37 #[.int .i64 aA,.int .i64 aB,.slice p n cap,.int .i64 free,.int .i64 step,.int .i64 aE,.int .i64 aG,.int .i64 aD,.int .i64 aH,.slice q m c2]:=(Blk.new w _ _).ext hh1
 have X1:Ext w w1:=((Ext.refl w).alloc _).trans hh1
 have s1:w.heap.size<w1.heap.size:=BA1.lt
 replace BA1:=xQ BA1
 clear hh1
 obtain⟨e1_0,e1_1,e1_2,e1_3,e1_4,e1_5,e1_6,e1_7,e1_8,e1_9⟩:=(BA1.out).ten
 go_wp2_with fail
 refine(HD.out _).mono ?_
 rintro e w2 ⟨rfl,hh2⟩
 go_wp2
 go_ret
 exact⟨rfl,by exact .trans (.alloc X1 _) hh2⟩
theorem rR {h:bJ}{id a1 a2 a3:Int}(hs:eB h id=some (a1,a2,a3)):bD h.free h.step h.aE h.aG=true∧cI a1 a2 a3=true∧a3≤h.aD∧h.aD≤9999:=by
 unfold eB at hs
 split at hs
 ·rename_i hok
  rw[Option.map_eq_some_iff]at hs
  obtain⟨v,hv,e⟩:=hs
  have hm:=List.mem_of_find?_eq_some hv
  simp only[cV,iP,Bool.and_eq_true,decide_eq_true_eq]at hok
  have:=(mF hok.2).2 v hm
  obtain⟨v0,v1,v2,v3⟩:=v
  simp only[Prod.mk.injEq]at e
  obtain⟨rfl,rfl,rfl⟩:=e
  simp only[eJ,Bool.and_eq_true,decide_eq_true_eq]at this
  exact⟨hok.1.1.2,this.1,this.2,hok.1.2.2.1⟩
 ·simp at hs
theorem tX (h:bJ)(id:Int)(p:Option Addr)(n cap:Nat)(q:Option Addr)(m c2:Nat)(w:World)(hi:IsHouse w h p n cap q m c2):
  Calls Tryz.prog 83 #[cC h p n cap q m c2,.int .i64 id] w fun e w'=>e= .returned (.bool (dO h id))∧Ext w w':=by
 have HST:=fun(w':World) (hx:Ext w w')=>aFl h id p n cap q m c2 w' (hi.ext hx)
 unfold rS at HST
 unfold dO
 cases hs:eB h id with
 |none=>
  rw[hs]at HST
  exact aC2 h.aA h.aB h.free h.step h.aE h.aG h.aD h.aH id p n cap q m c2 w HST
 |some s=>
  obtain⟨a1,a2,a3⟩:=s
  rw[hs]at HST
  obtain⟨t,st,hc,h9⟩:=rR hs
  exact zN h.aA h.aB h.free h.step h.aE h.aG h.aD h.aH id p n cap q m c2 w a1 a2 a3 _ HST (fun w'=>aGa h.free h.step h.aE h.aG a1 a2 a3 h.aD w' t st hc h9)
theorem tJ (h:bJ)(id:Int)(p:Option Addr)(n cap:Nat)(q:Option Addr)(m c2:Nat)(w:World)(hi:IsHouse w h p n cap q m c2):
  Calls Tryz.prog 34 #[cC h p n cap q m c2,.int .i64 id] w fun e w'=>e= .returned (.bool (dO h id))∧Ext w w':=by
 have HST:=fun(w':World) (hx:Ext w w')=>aF7 h id p n cap q m c2 w' (hi.ext hx)
 unfold rS at HST
 unfold dO
 cases hs:eB h id with
 |none=>
  rw[hs]at HST
  exact aB7 h.aA h.aB h.free h.step h.aE h.aG h.aD h.aH id p n cap q m c2 w HST
 |some s=>
  obtain⟨a1,a2,a3⟩:=s
  rw[hs]at HST
  obtain⟨t,st,hc,h9⟩:=rR hs
  exact yE h.aA h.aB h.free h.step h.aE h.aG h.aD h.aH id p n cap q m c2 w a1 a2 a3 _ HST (fun w'=>aFy h.free h.step h.aE h.aG a1 a2 a3 h.aD w' t st hc h9)
end Go.Proofs.YtahglfakiobbcaaGreatDoor
