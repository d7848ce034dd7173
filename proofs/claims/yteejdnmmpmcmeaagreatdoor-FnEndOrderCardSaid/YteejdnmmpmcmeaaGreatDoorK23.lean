/-
  Texts of this proof, packed (@packed).
-/
import Derived.Test.YteejdnmmpmcmeaaGreatDoorK15
import Derived.Test.YteejdnmmpmcmeaaGreatDoorK19
import Derived.Test.YteejdnmmpmcmeaaGreatDoorK21
import Derived.Test.YteejdnmmpmcmeaaGreatDoorK22
namespace Go.Proofs.YteejdnmmpmcmeaaGreatDoor
open Go.RowKit
set_option linter.unusedVariables false
set_option linter.unusedSimpArgs false
theorem carsOf_perm {xs ys:List Int}(h:List.Perm xs ys):carsOf xs=carsOf ys:=
 sortL_uniq ((sortL_perm _).trans (h.filter _)) (sortL_sorted _)
theorem visitsOk_iff (clock:Int): ∀(cs:List Int) (vs:List Visit4),visitsOk clock cs vs=true↔vs.map (·.1)=cs∧ ∀v∈vs,visitOk clock v=true:=by
 intro cs
 induction cs with
 |nil=>intro vs;cases vs<;>simp[visitsOk]
 |cons c cs ih=>
  intro vs
  cases vs with
  |nil=>simp[visitsOk]
  |cons v vs=>
   simp only[visitsOk,Bool.and_eq_true,decide_eq_true_eq,ih,List.map_cons,List.cons.injEq,List.forall_mem_cons]
   constructor
   ·rintro⟨⟨a,b⟩,c,d⟩;exact⟨⟨a,c⟩,b,d⟩
   ·rintro⟨⟨a,c⟩,b,d⟩;exact⟨⟨a,b⟩,c,d⟩
theorem house_iff (h:HouseD):houseOk h=true↔hallOk h.wide h.deep h.cells=true∧tariffOk h.free h.step h.price h.capp=true∧(0≤h.clock∧h.clock≤9999∧0≤h.bank∧h.bank≤99999)∧h.vs.map (·.1)=carsOf h.cells∧ ∀v∈h.vs,visitOk h.clock v=true:=by
 unfold houseOk numsOk
 simp only[Bool.and_eq_true,decide_eq_true_eq,visitsOk_iff]
 constructor
 ·rintro⟨⟨⟨a,b⟩,c⟩,d,e⟩;exact⟨a,b,c,d,e⟩
 ·rintro⟨a,b,c,d,e⟩;exact⟨⟨⟨a,b⟩,c⟩,d,e⟩
theorem visit_iff (clock:Int)(v:Visit4):visitOk clock v=true↔stayOk v.2.1 v.2.2.1 v.2.2.2=true∧v.2.2.2≤clock:=by
 unfold visitOk;simp
theorem putV_map (v:Visit4): ∀vs:List Visit4,(putV v vs).map (·.1)=insL v.1 (vs.map (·.1))
 | []=>rfl
 |u::vs=>by
  by_cases hc:u.1<v.1
  ·have e:putV v (u::vs)=u::putV v vs:=by simp[putV,hc]
   rw[e,List.map_cons,putV_map v vs,List.map_cons];simp[insL,hc]
  ·have e:putV v (u::vs)=v::u::vs:=by simp[putV,hc]
   rw[e];simp[insL,hc]
theorem putV_mem (v:Visit4)(vs:List Visit4): ∀u∈putV v vs,u=v∨u∈vs:=by
 intro u hu
 unfold putV at hu
 rcases List.mem_append.1 hu with h|h
 ·exact .inr ((List.takeWhile_sublist _).subset h)
 ·rcases List.mem_cons.1 h with h|h
  ·exact .inl h
  ·exact .inr ((List.dropWhile_sublist _).subset h)
theorem putV_len (v:Visit4)(vs:List Visit4):(putV v vs).length=vs.length+1:=by
 have:=congrArg List.length (putV_map v vs)
 rw[(insL_perm _ _).length_eq]at this
 simpa using this
theorem cars_put {zs:List Int}{id:Int}(h0:zs.getD 0 0=0)(hl:0<zs.length)(hi:1≤id):carsOf (zs.set 0 id)=insL id (carsOf zs):=by
 cases zs with
 |nil=>simp at hl
 |cons z t=>
  obtain rfl:z=0:=by simpa using h0
  symm
  refine sortL_uniq ?_ (insL_sorted _ _ (sortL_sorted _))
  have e:posOfL ((0::t).set 0 id)=id::posOfL (0::t):=by
   unfold posOfL
   rw[List.set_cons_zero,List.filter_cons_of_pos (by simp;omega),List.filter_cons_of_neg (by simp)]
  rw[e]
  exact(insL_perm _ _).trans (List.Perm.cons _ (sortL_perm _))
theorem cars_take {zs:List Int}{id:Int}(h0:zs[0]? =some id) (hi:1≤id):carsOf (zs.set 0 0)=(carsOf zs).erase id:=by
 cases zs with
 |nil=>simp at h0
 |cons z t=>
  obtain rfl:z=id:=by simpa using h0
  symm
  refine sortL_uniq ?_ ((sortL_sorted _).sublist List.erase_sublist)
  have e:posOfL (z::t)=z::posOfL ((z::t).set 0 0):=by
   unfold posOfL
   rw[List.set_cons_zero,List.filter_cons_of_pos (by simp;omega),List.filter_cons_of_neg (by simp)]
  have hp:=(sortL_perm (posOfL (z::t))).erase z
  rw[e,List.erase_cons_head,←e]at hp
  exact hp
theorem erase_find (id:Int): ∀vs:List Visit4,vs.any (fun v=>v.1==id)=true→(vs.eraseIdx (vs.findIdx (fun v=>v.1==id))).map (·.1)=(vs.map (·.1)).erase id
 | [],h=>by simp at h
 |v::vs,h=>by
  by_cases hv:v.1=id
  ·have e:(v::vs).findIdx (fun v=>v.1==id)=0:=by simp[List.findIdx_cons,hv]
   rw[e,List.map_cons,hv,List.erase_cons_head];rfl
  ·have hb:(v.1==id)=false:=by simpa using hv
   have e:(v::vs).findIdx (fun v=>v.1==id)=vs.findIdx (fun v=>v.1==id)+1:=by simp[List.findIdx_cons,hb]
   have h':vs.any (fun v=>v.1==id)=true:=by simpa[hv]using h
   rw[e,List.eraseIdx_cons_succ,List.map_cons,erase_find id vs h',List.map_cons,List.erase_cons_tail (by simpa using hv)]
theorem visitAt_any {id:Int}{vs:List Visit4}{v:Visit4}(h:visitAt id vs=some v):vs.any (fun v=>v.1==id)=true∧v.1=id∧vs[(vix id vs).toNat]? =some v∧(vix id vs).toNat<vs.length∧vix id vs=((vix id vs).toNat:Int)∧(vix id vs).toNat=vs.findIdx (fun v=>v.1==id):=by
 have ha:vs.any (fun v=>v.1==id)=true:=by
  unfold visitAt at h
  exact List.any_eq_true.2 ⟨v,List.mem_of_find?_eq_some h,by simpa using List.find?_some h⟩
 rcases vix_cases id vs with⟨h1,h2⟩|⟨k,a1,a2,a3,hk,h1,hx,h2⟩
 ·rw[h2]at h;cases h
 ·rw[h2]at h
  injection h with h
  subst h
  have e:vix id vs=(vs.findIdx (fun v=>v.1==id):Int):=by unfold vix;rw[if_pos ha]
  refine⟨ha,rfl,by rw[h1];simpa using hx,by rw[h1];simpa using hk,by rw[h1];simp,by rw[e];simp⟩
theorem set_same {α:Type}{l:List α}{k:Nat}{a:α}(h:l[k]? =some a):l.set k a=l:=by
 refine List.ext_getElem? (fun i=> ?_)
 rw[List.getElem?_set]
 split
 ·rename_i e
  subst e
  split
  ·exact h.symm
  ·rename_i hl
   rw[List.getElem?_eq_none (by omega)]at h;cases h
 ·rfl
theorem set_map1 {vs:List Visit4}{k:Nat}{u:Visit4}(s:Int×Int×Int)(hk:vs[k]? =some u):(vs.set k (u.1,s)).map (·.1)=vs.map (·.1):=by
 rw[List.map_set]
 exact set_same (by rw[List.getElem?_map,hk];rfl)
def houseDo (h:HouseD)(k a b:Int):Option (HouseD×Int):=
 if k=0 then
  (if 0≤(storeI h.wide h.deep h.cells a).2 then some ({h with cells:=(storeI h.wide h.deep h.cells a).1,vs:=putV (a,h.clock,0,h.clock) h.vs},(storeI h.wide h.deep h.cells a).2)else none)
 else if k=1 then payH h a b
 else if k=2 then
  (if houseMay h a=true∧0≤(fetchI h.wide h.deep h.cells a).2 then some ({h with cells:=(fetchI h.wide h.deep h.cells a).1,vs:=h.vs.eraseIdx (vix a h.vs).toNat},(fetchI h.wide h.deep h.cells a).2)else none)
 else if k=3 then(if 1≤a∧a≤9999-h.clock then some ({h with clock:=h.clock+a},h.clock+a)else none)
 else if k=4 then(if slideMay h.wide h.deep h.cells a b=true then some ({h with cells:=slideDo h.wide h.deep h.cells a b},0)else none)
 else none
theorem storeI_yes {wide deep:Int}{xs:List Int}{id:Int}(hok:hallOk wide deep xs=true)(h:0≤(storeI wide deep xs id).2):
  ∃zs,List.Perm zs xs∧zs.getD 0 0=0∧1≤id∧(storeI wide deep xs id).1=zs.set 0 id∧hallOk wide deep (zs.set 0 id)=true∧(storeI wide deep xs id).2≤5:=by
 unfold storeI storeDo at h⊢
 cases hr:clearGate wide xs with
 |none=>rw[hr]at h;simp at h
 |some r=>
  rw[hr]at h
  obtain⟨f1,f2,f3,f4,f5⟩:=clear_facts hok hr
  have hp:=(slideRun_ok r.2 xs hok).2.2
  rw[f1]at hp
  unfold hallPut at h⊢
  by_cases hc:r.1.getD 0 0=0∧1≤id∧hallOk wide deep (r.1.set 0 id)=true
  ·simp only[hc,and_self,if_true]at h⊢
   exact⟨r.1,hp,hc.1,trivial,rfl,hc.2.2,by omega⟩
  ·simp only[if_neg hc]at h
   simp at h
theorem fetchI_yes {wide deep:Int}{xs:List Int}{id:Int}(hok:hallOk wide deep xs=true)(h:0≤(fetchI wide deep xs id).2):
  ∃ys,List.Perm ys xs∧ys[0]? =some id∧1≤id∧(fetchI wide deep xs id).1=ys.set 0 0∧(fetchI wide deep xs id).2≤60:=by
 unfold fetchI fetchDo at h⊢
 by_cases hc:id<1∨id∉xs
 ·rw[if_pos hc]at h;simp at h
 ·rw[if_neg hc]at h⊢
  have hm:id∈xs:=by
   by_cases hm:id∈xs
   ·exact hm
   ·exact absurd (.inr hm) hc
  have h1: ¬id<1:=fun e=>hc (.inl e)
  obtain⟨c,hx,hi⟩:=idx_some hm
  rw[hi]at h⊢
  rw[Int.toNat_natCast]at h⊢
  cases hb:bringOf wide xs c with
  |none=>rw[hb]at h;simp at h
  |some l=>
   rw[hb]at h
   obtain⟨g1,ys,g2,g3,g4,g5⟩:=(bring_facts hok hx (by omega)).2 l hb
   have hp:=(slideRun_ok l xs hok).2.2
   rw[g2]at hp
   refine⟨ys,hp,g5,by omega,?_,?_⟩
   ·simp[g2]
   ·simp;omega
theorem hallOk_gate {wide deep:Int}{xs:List Int}(h:hallOk wide deep xs=true):hallOk wide deep (xs.set 0 0)=true:=by
 unfold hallOk at*
 rw[Bool.and_eq_true]at*
 refine⟨by rw[List.length_set];exact h.1,?_⟩
 obtain⟨h1,h2,h3⟩:=(cellsOk_iff _ _).1 h.2
 refine(cellsOk_iff _ _).2 ⟨fun x hx=> ?_,fun x hx=>by simp,?_⟩
 ·rcases List.mem_or_eq_of_mem_set hx with hx|rfl
  ·exact h1 x hx
  ·omega
 ·cases xs with
  |nil=>simp
  |cons x t=>
   rw[List.set_cons_zero,List.filter_cons_of_neg (by simp)]
   refine h3.sublist ?_
   rw[List.filter_cons]
   split
   ·exact List.sublist_cons_self _ _
   ·exact List.Sublist.refl _
theorem feeOf_le {f s p c i pd a now:Int}(h:tariffOk f s p c=true)(hi:0≤i)(h3:i≤now)(h4:now≤9999):0≤feeOf f s p c (now-i)∧feeOf f s p c (now-i)≤693:=by
 have hb:=feeOf_bd (m:=now-i) h (by omega) (by omega)
 omega
theorem houseDo_ok {h:HouseD}(hok:houseOk h=true){k a b:Int}{h':HouseD}{n:Int}(hd:houseDo h k a b=some (h',n)):
  houseOk h'=true∧(0≤n∧n≤9999)∧h'.cells.length=h.cells.length∧h'.wide=h.wide∧h'.deep=h.deep∧h'.free=h.free∧h'.step=h.step∧h'.price=h.price∧h'.capp=h.capp:=by
 obtain⟨q1,q2,q3,q4,q5⟩:=(house_iff h).1 hok
 have hlen:0<h.cells.length:=by have:=shape_bd (hall_shape q1);omega
 unfold houseDo at hd
 split at hd
 ·split at hd
  ·rename_i h0
   obtain⟨zs,s1,s2,s3,s4,s5,s6⟩:=storeI_yes q1 h0
   injection hd with hd
   simp only[Prod.mk.injEq]at hd
   obtain⟨rfl,rfl⟩:=hd
   rw[s4]
   refine⟨(house_iff _).2 ⟨s5,q2,q3,?_,?_⟩,⟨h0,by omega⟩,by rw[List.length_set,s1.length_eq],rfl,rfl,rfl,rfl,rfl,rfl⟩
   ·dsimp only
    rw[putV_map,cars_put s2 (by rw[s1.length_eq];exact hlen) s3,q4,carsOf_perm s1]
   ·intro v hv
    rcases putV_mem _ _ v hv with rfl|hv
    ·exact(visit_iff _ _).2 ⟨by simp[stayOk];omega,Int.le_refl _⟩
    ·exact q5 v hv
  ·cases hd
 ·split at hd
  ·unfold payH at hd
   split at hd
   ·cases hd
   ·rename_i v hv
    obtain⟨v1,v2,v3,v4,v5,v6⟩:=visitAt_any hv
    obtain⟨s1,s2⟩:=(visit_iff _ _).1 (q5 v (List.mem_of_getElem? v3))
    obtain⟨b1,b2⟩:=stayDue_bd q2 s1 s2 q3.2.1
    obtain⟨t1,t2,t3,t4,t5,t6⟩:=stay_parts s1
    split at hd
    ·rename_i hp
     have hpo:=payI_ok b1 hp.1
     injection hd with hd
     simp only[Prod.mk.injEq]at hd
     obtain⟨rfl,rfl⟩:=hd
     refine⟨(house_iff _).2 ⟨q1,q2,⟨q3.1,q3.2.1,?_,hp.2⟩,?_,?_⟩,⟨hpo.1,by omega⟩,rfl,rfl,rfl,rfl,rfl,rfl,rfl⟩
     ·dsimp only;omega
     ·dsimp only
      rw[←q4,←v2]
      rw[←v2]at v3
      exact set_map1 _ v3
     ·intro u hu
      rcases List.mem_or_eq_of_mem_set hu with hu|rfl
      ·exact q5 u hu
      ·refine(visit_iff _ _).2 ?_
       have hf:=feeOf_le (pd:=v.2.2.1) (a:=v.2.2.2) (now:=h.clock) q2 t1 (by omega) q3.2.1
       have hdue:stayDue h.free h.step h.price h.capp v.2.1 v.2.2.1 v.2.2.2 h.clock=max (feeOf h.free h.step h.price h.capp (h.clock-v.2.1)-v.2.2.1) 0:=by
        unfold stayDue;rw[if_pos (by simp[q2,s1,s2,q3.2.1])]
       have hp1:=hp.1
       unfold payI at hp1⊢
       split at hp1
       ·rename_i ha
        rw[if_pos ha]
        split at hp1
        ·cases hp1
        ·rename_i hn
         rw[if_neg hn]
         dsimp only
         refine⟨?_,by omega⟩
         unfold stayOk
         simp only[decide_eq_true_eq]
         omega
       ·cases hp1
    ·cases hd
  ·split at hd
   ·split at hd
    ·rename_i hm
     obtain⟨ys,s1,s2,s3,s4,s5⟩:=fetchI_yes q1 hm.2
     injection hd with hd
     simp only[Prod.mk.injEq]at hd
     obtain⟨rfl,rfl⟩:=hd
     rw[s4]
     refine⟨(house_iff _).2 ⟨hallOk_gate (hallOk_perm q1 s1),q2,q3,?_,?_⟩,⟨hm.2,by omega⟩,by rw[List.length_set,s1.length_eq],rfl,rfl,rfl,rfl,rfl,rfl⟩
     ·dsimp only
      have hv: ∃v,visitAt a h.vs=some v:=by
       have:=hm.1
       unfold houseMay houseStay at this
       rw[if_pos hok]at this
       cases hv:visitAt a h.vs with
       |none=>rw[hv]at this;simp at this
       |some v=>exact⟨v,rfl⟩
      obtain⟨v,hv⟩:=hv
      obtain⟨v1,v2,v3,v4,v5,v6⟩:=visitAt_any hv
      rw[v6,erase_find a h.vs v1,cars_take s2 s3,q4,carsOf_perm s1]
     ·intro v hv
      exact q5 v (List.mem_of_mem_eraseIdx hv)
    ·cases hd
   ·split at hd
    ·split at hd
     ·rename_i hw
      injection hd with hd
      simp only[Prod.mk.injEq]at hd
      obtain⟨rfl,rfl⟩:=hd
      refine⟨(house_iff _).2 ⟨q1,q2,⟨by dsimp only;omega,by dsimp only;omega,q3.2.2⟩,q4,fun v hv=> ?_⟩,⟨by omega,by omega⟩,rfl,rfl,rfl,rfl,rfl,rfl,rfl⟩
      obtain⟨s1,s2⟩:=(visit_iff _ _).1 (q5 v hv)
      exact(visit_iff _ _).2 ⟨s1,by dsimp only;omega⟩
     ·cases hd
    ·split at hd
     ·split at hd
      ·injection hd with hd
       simp only[Prod.mk.injEq]at hd
       obtain⟨rfl,rfl⟩:=hd
       refine⟨(house_iff _).2 ⟨slideDo_ok a b q1,q2,q3,?_,q5⟩,⟨by omega,by omega⟩,slideDo_len _ _ _ _ _,rfl,rfl,rfl,rfl,rfl,rfl⟩
       dsimp only
       rw[q4,carsOf_perm (slideDo_perm a b)]
      ·cases hd
     ·cases hd
end Go.Proofs.YteejdnmmpmcmeaaGreatDoor

namespace Go.Proofs.YteejdnmmpmcmeaaGreatDoor
open Go.RowKit
set_option linter.unusedVariables false
set_option linter.unusedSimpArgs false
def stayR (h:HouseD)(id:Int):Value:=match houseStay h id with
 |some s=> .tuple #[.agg #[.int .i64 s.1,.int .i64 s.2.1,.int .i64 s.2.2],.bool true]
 |none=> .tuple #[.agg #[.int .i64 0,.int .i64 0,.int .i64 0],.bool false]
set_option maxRecDepth 100000 in
set_option maxHeartbeats 1000000 in
theorem implHst_bad (wide deep free step price capp clock bank id:Int)(p:Option Addr)(n cap:Nat)(q:Option Addr)(m c2:Nat)(w:World)
  (HV:Hid (∀w',Ext w w'→Calls Tryz.prog 16 #[.agg #[.int .i64 wide,.int .i64 deep,.slice p n cap,.int .i64 free,.int .i64 step,.int .i64 price,.int .i64 capp,.int .i64 clock,.int .i64 bank,.slice q m c2]] w' fun e w''=>e= .returned (.bool false)∧Ext w' w'')):
  Calls Tryz.prog 22 #[.agg #[.int .i64 wide,.int .i64 deep,.slice p n cap,.int .i64 free,.int .i64 step,.int .i64 price,.int .i64 capp,.int .i64 clock,.int .i64 bank,.slice q m c2],.int .i64 id] w fun e w'=>e= .returned (.tuple #[.agg #[.int .i64 0,.int .i64 0,.int .i64 0],.bool false])∧Ext w w':=by
 go_enter Tryz.func22,Tryz.ntmps22
 go_wp2_with fail
 refine(HV.out _ (by exact .alloc (.alloc (.refl _) _) _)).mono ?_
 rintro e w1 ⟨rfl,hh1⟩
 have BA1:Blk w1 w.heap.size 30 #[.int .i64 wide,.int .i64 deep,.slice p n cap,.int .i64 free,.int .i64 step,.int .i64 price,.int .i64 capp,.int .i64 clock,.int .i64 bank,.slice q m c2]:=((Blk.new w _ _).alloc _).ext hh1
 have BS1:Blk w1 (w.heap.size+1) 36 #[.int .i64 0,.int .i64 0,.int .i64 0]:=by have:=(Blk.new (w.alloc (.cells #[.int .i64 wide,.int .i64 deep,.slice p n cap,.int .i64 free,.int .i64 step,.int .i64 price,.int .i64 capp,.int .i64 clock,.int .i64 bank,.slice q m c2] 30)) 36 #[.int .i64 0,.int .i64 0,.int .i64 0]).ext hh1;simpa using this
 have X1:Ext w w1:=(((Ext.refl w).alloc _).alloc _).trans hh1
 have s1:w.heap.size+1<w1.heap.size:=BS1.lt
 replace BA1:=Lib.hid BA1
 replace BS1:=Lib.hid BS1
 clear hh1
 obtain⟨e1_0,e1_1,e1_2,e1_3,e1_4,e1_5,e1_6,e1_7,e1_8,e1_9⟩:=(BA1.out).ten
 obtain⟨z1_0,y1_0,z1_1,y1_1,z1_2,y1_2⟩:=(BS1.out).trif
 go_wp2
 exact bodyPost_ret (v:= .tuple #[.agg #[.int .i64 0,.int .i64 0,.int .i64 0],.bool false]) (by simp[results,Tryz.results22,go_sem, *]) rfl ⟨rfl,by(repeat' (first|exact Ext.refl _|(with_reducible assumption)|(with_reducible refine Ext.alloc ?_ _)|(with_reducible refine Ext.setCell ?_ (by first|exact Nat.le_refl _|(dsimp only;omega)|(simp;done)|(simp;omega)) _)|(with_reducible refine Ext.drew ?_)|(with_reducible refine Ext.drewN ?_ _)|(refine Ext.trans ?_ (by with_reducible assumption))))⟩
set_option maxRecDepth 100000 in
set_option maxHeartbeats 1000000 in
theorem implHst_no (wide deep free step price capp clock bank id:Int)(p:Option Addr)(n cap:Nat)(q:Option Addr)(m c2:Nat)(w:World)
  (HV:Hid (∀w',Ext w w'→Calls Tryz.prog 16 #[.agg #[.int .i64 wide,.int .i64 deep,.slice p n cap,.int .i64 free,.int .i64 step,.int .i64 price,.int .i64 capp,.int .i64 clock,.int .i64 bank,.slice q m c2]] w' fun e w''=>e= .returned (.bool true)∧Ext w' w''))
  (HX:Hid (∀w',Ext w w'→Calls Tryz.prog 72 #[.agg #[.int .i64 wide,.int .i64 deep,.slice p n cap,.int .i64 free,.int .i64 step,.int .i64 price,.int .i64 capp,.int .i64 clock,.int .i64 bank,.slice q m c2],.int .i64 id] w' fun e w''=>e= .returned (.int .i64 (-1))∧Ext w' w'')):
  Calls Tryz.prog 22 #[.agg #[.int .i64 wide,.int .i64 deep,.slice p n cap,.int .i64 free,.int .i64 step,.int .i64 price,.int .i64 capp,.int .i64 clock,.int .i64 bank,.slice q m c2],.int .i64 id] w fun e w'=>e= .returned (.tuple #[.agg #[.int .i64 0,.int .i64 0,.int .i64 0],.bool false])∧Ext w w':=by
 go_enter Tryz.func22,Tryz.ntmps22
 go_wp2_with fail
 refine(HV.out _ (by exact .alloc (.alloc (.refl _) _) _)).mono ?_
 rintro e w1 ⟨rfl,hh1⟩
 have BA1:Blk w1 w.heap.size 30 #[.int .i64 wide,.int .i64 deep,.slice p n cap,.int .i64 free,.int .i64 step,.int .i64 price,.int .i64 capp,.int .i64 clock,.int .i64 bank,.slice q m c2]:=((Blk.new w _ _).alloc _).ext hh1
 have BS1:Blk w1 (w.heap.size+1) 36 #[.int .i64 0,.int .i64 0,.int .i64 0]:=by have:=(Blk.new (w.alloc (.cells #[.int .i64 wide,.int .i64 deep,.slice p n cap,.int .i64 free,.int .i64 step,.int .i64 price,.int .i64 capp,.int .i64 clock,.int .i64 bank,.slice q m c2] 30)) 36 #[.int .i64 0,.int .i64 0,.int .i64 0]).ext hh1;simpa using this
 have X1:Ext w w1:=(((Ext.refl w).alloc _).alloc _).trans hh1
 have s1:w.heap.size+1<w1.heap.size:=BS1.lt
 replace BA1:=Lib.hid BA1
 replace BS1:=Lib.hid BS1
 clear hh1
 obtain⟨e1_0,e1_1,e1_2,e1_3,e1_4,e1_5,e1_6,e1_7,e1_8,e1_9⟩:=(BA1.out).ten
 obtain⟨z1_0,y1_0,z1_1,y1_1,z1_2,y1_2⟩:=(BS1.out).trif
 go_wp2_with fail
 refine(HX.out _ (by exact X1)).mono ?_
 rintro e w2 ⟨rfl,hh2⟩
 have BA2:=Lib.hid (BA1.out.ext hh2)
 have BS2:=Lib.hid (BS1.out.ext hh2)
 have X2:Ext w w2:=X1.trans hh2
 have s2:w.heap.size+1<w2.heap.size:=BS2.out.lt
 clear e1_0 e1_1 e1_2 e1_3 e1_4 e1_5 e1_6 e1_7 e1_8 e1_9 z1_0 z1_1 z1_2 y1_0 y1_1 y1_2
 clear hh2 BA1 BS1 s1
 obtain⟨e2_0,e2_1,e2_2,e2_3,e2_4,e2_5,e2_6,e2_7,e2_8,e2_9⟩:=(BA2.out).ten
 obtain⟨z2_0,y2_0,z2_1,y2_1,z2_2,y2_2⟩:=(BS2.out).trif
 go_wp2
 exact bodyPost_ret (v:= .tuple #[.agg #[.int .i64 0,.int .i64 0,.int .i64 0],.bool false]) (by simp[results,Tryz.results22,go_sem, *]) rfl ⟨rfl,by(repeat' (first|exact Ext.refl _|(with_reducible assumption)|(with_reducible refine Ext.alloc ?_ _)|(with_reducible refine Ext.setCell ?_ (by first|exact Nat.le_refl _|(dsimp only;omega)|(simp;done)|(simp;omega)) _)|(with_reducible refine Ext.drew ?_)|(with_reducible refine Ext.drewN ?_ _)|(refine Ext.trans ?_ (by with_reducible assumption))))⟩
set_option maxRecDepth 100000 in
set_option maxHeartbeats 1000000 in
theorem implHst_yes (wide deep free step price capp clock bank id:Int)(p:Option Addr)(n cap:Nat)(q:Option Addr)(m c2:Nat)(w:World)
  (k:Nat)(a1 a2 a3:Int)(vs:List Visit4)(HK:Hid (vs[k]? =some (id,a1,a2,a3))) (hk:k<m) (hm:m≤9223372036854775807) (HS:Hid (Sl w q m c2 4 (vs.flatMap visitCells)))
  (HV:Hid (∀w',Ext w w'→Calls Tryz.prog 16 #[.agg #[.int .i64 wide,.int .i64 deep,.slice p n cap,.int .i64 free,.int .i64 step,.int .i64 price,.int .i64 capp,.int .i64 clock,.int .i64 bank,.slice q m c2]] w' fun e w''=>e= .returned (.bool true)∧Ext w' w''))
  (HX:Hid (∀w',Ext w w'→Calls Tryz.prog 72 #[.agg #[.int .i64 wide,.int .i64 deep,.slice p n cap,.int .i64 free,.int .i64 step,.int .i64 price,.int .i64 capp,.int .i64 clock,.int .i64 bank,.slice q m c2],.int .i64 id] w' fun e w''=>e= .returned (.int .i64 k)∧Ext w' w'')):
  Calls Tryz.prog 22 #[.agg #[.int .i64 wide,.int .i64 deep,.slice p n cap,.int .i64 free,.int .i64 step,.int .i64 price,.int .i64 capp,.int .i64 clock,.int .i64 bank,.slice q m c2],.int .i64 id] w fun e w'=>e= .returned (.tuple #[.agg #[.int .i64 a1,.int .i64 a2,.int .i64 a3],.bool true])∧Ext w w':=by
 go_enter Tryz.func22,Tryz.ntmps22
 go_wp2_with fail
 refine(HV.out _ (by exact .alloc (.alloc (.refl _) _) _)).mono ?_
 rintro e w1 ⟨rfl,hh1⟩
 have BA1:Blk w1 w.heap.size 30 #[.int .i64 wide,.int .i64 deep,.slice p n cap,.int .i64 free,.int .i64 step,.int .i64 price,.int .i64 capp,.int .i64 clock,.int .i64 bank,.slice q m c2]:=((Blk.new w _ _).alloc _).ext hh1
 have BS1:Blk w1 (w.heap.size+1) 36 #[.int .i64 0,.int .i64 0,.int .i64 0]:=by have:=(Blk.new (w.alloc (.cells #[.int .i64 wide,.int .i64 deep,.slice p n cap,.int .i64 free,.int .i64 step,.int .i64 price,.int .i64 capp,.int .i64 clock,.int .i64 bank,.slice q m c2] 30)) 36 #[.int .i64 0,.int .i64 0,.int .i64 0]).ext hh1;simpa using this
 have X1:Ext w w1:=(((Ext.refl w).alloc _).alloc _).trans hh1
 have s1:w.heap.size+1<w1.heap.size:=BS1.lt
 replace BA1:=Lib.hid BA1
 replace BS1:=Lib.hid BS1
 clear hh1
 obtain⟨e1_0,e1_1,e1_2,e1_3,e1_4,e1_5,e1_6,e1_7,e1_8,e1_9⟩:=(BA1.out).ten
 obtain⟨z1_0,y1_0,z1_1,y1_1,z1_2,y1_2⟩:=(BS1.out).trif
 go_wp2_with fail
 refine(HX.out _ (by exact X1)).mono ?_
 rintro e w2 ⟨rfl,hh2⟩
 have BA2:=Lib.hid (BA1.out.ext hh2)
 have BS2:=Lib.hid (BS1.out.ext hh2)
 have X2:Ext w w2:=X1.trans hh2
 have s2:w.heap.size+1<w2.heap.size:=BS2.out.lt
 clear e1_0 e1_1 e1_2 e1_3 e1_4 e1_5 e1_6 e1_7 e1_8 e1_9 z1_0 z1_1 z1_2 y1_0 y1_1 y1_2
 clear hh2 BA1 BS1 s1
 obtain⟨e2_0,e2_1,e2_2,e2_3,e2_4,e2_5,e2_6,e2_7,e2_8,e2_9⟩:=(BA2.out).ten
 obtain⟨z2_0,y2_0,z2_1,y2_1,z2_2,y2_2⟩:=(BS2.out).trif
 obtain⟨b,off,b0,b1,b2,b3,rfl,hv,hb,g0,g1,g2,g3⟩:=visit_at (HS.out.ext X2) hk
 obtain⟨rfl,rfl,rfl,rfl⟩:id=b0∧a1=b1∧a2=b2∧a3=b3:=by have t:=HK.out;rw[hv]at t;simp only[Option.some.injEq,Prod.mk.injEq]at t;exact⟨t.1.symm,t.2.1.symm,t.2.2.1.symm,t.2.2.2.symm⟩
 have hne:b≠w.heap.size+1:=by
  have hb0:=hb
  obtain⟨b',off',_,_,_,_,hq,_,hb',_⟩:=visit_at HS.out hk
  simp only[Option.some.injEq,Addr.mk.injEq]at hq
  omega
 have i1:(0:Int)≤(k:Int):=by omega
 have i2:(k:Int)<(m:Int):=by omega
 clear hv
 go_wp2
 exact bodyPost_ret (v:= .tuple #[.agg #[.int .i64 a1,.int .i64 a2,.int .i64 a3],.bool true]) (by simp[results,Tryz.results22,go_sem, *]) rfl ⟨rfl,by(repeat' (first|exact Ext.refl _|(with_reducible assumption)|(with_reducible refine Ext.alloc ?_ _)|(with_reducible refine Ext.setCell ?_ (by first|exact Nat.le_refl _|(dsimp only;omega)|(simp;done)|(simp;omega)) _)|(with_reducible refine Ext.drew ?_)|(with_reducible refine Ext.drewN ?_ _)|(refine Ext.trans ?_ (by with_reducible assumption))))⟩
set_option maxRecDepth 100000 in
set_option maxHeartbeats 1000000 in
theorem specHst_bad (wide deep free step price capp clock bank id:Int)(p:Option Addr)(n cap:Nat)(q:Option Addr)(m c2:Nat)(w:World)
  (x:Int)
  (HX:Hid (∀w',Ext w w'→Calls Tryz.prog 73 #[.agg #[.int .i64 wide,.int .i64 deep,.slice p n cap,.int .i64 free,.int .i64 step,.int .i64 price,.int .i64 capp,.int .i64 clock,.int .i64 bank,.slice q m c2],.int .i64 id] w' fun e w''=>e= .returned (.int .i64 x)∧Ext w' w''))
  (HV:Hid (∀w',Ext w w'→Calls Tryz.prog 17 #[.agg #[.int .i64 wide,.int .i64 deep,.slice p n cap,.int .i64 free,.int .i64 step,.int .i64 price,.int .i64 capp,.int .i64 clock,.int .i64 bank,.slice q m c2]] w' fun e w''=>e= .returned (.bool false)∧Ext w' w'')):
  Calls Tryz.prog 23 #[.agg #[.int .i64 wide,.int .i64 deep,.slice p n cap,.int .i64 free,.int .i64 step,.int .i64 price,.int .i64 capp,.int .i64 clock,.int .i64 bank,.slice q m c2],.int .i64 id] w fun e w'=>e= .returned (.tuple #[.agg #[.int .i64 0,.int .i64 0,.int .i64 0],.bool false])∧Ext w w':=by
 go_enter Tryz.func23,Tryz.ntmps23
 go_wp2_with fail
 refine(HX.out _ (by exact .alloc (.alloc (.refl _) _) _)).mono ?_
 rintro e w1 ⟨rfl,hh1⟩
 have BA1:Blk w1 w.heap.size 30 #[.int .i64 wide,.int .i64 deep,.slice p n cap,.int .i64 free,.int .i64 step,.int .i64 price,.int .i64 capp,.int .i64 clock,.int .i64 bank,.slice q m c2]:=((Blk.new w _ _).alloc _).ext hh1
 have BS1:Blk w1 (w.heap.size+1) 36 #[.int .i64 0,.int .i64 0,.int .i64 0]:=by have:=(Blk.new (w.alloc (.cells #[.int .i64 wide,.int .i64 deep,.slice p n cap,.int .i64 free,.int .i64 step,.int .i64 price,.int .i64 capp,.int .i64 clock,.int .i64 bank,.slice q m c2] 30)) 36 #[.int .i64 0,.int .i64 0,.int .i64 0]).ext hh1;simpa using this
 have X1:Ext w w1:=(((Ext.refl w).alloc _).alloc _).trans hh1
 have s1:w.heap.size+1<w1.heap.size:=BS1.lt
 replace BA1:=Lib.hid BA1
 replace BS1:=Lib.hid BS1
 clear hh1
 obtain⟨e1_0,e1_1,e1_2,e1_3,e1_4,e1_5,e1_6,e1_7,e1_8,e1_9⟩:=(BA1.out).ten
 obtain⟨z1_0,y1_0,z1_1,y1_1,z1_2,y1_2⟩:=(BS1.out).trif
 go_wp2_with fail
 refine(HV.out _ (by exact X1)).mono ?_
 rintro e w2 ⟨rfl,hh2⟩
 have BA2:=Lib.hid (BA1.out.ext hh2)
 have BS2:=Lib.hid (BS1.out.ext hh2)
 have X2:Ext w w2:=X1.trans hh2
 have s2:w.heap.size+1<w2.heap.size:=BS2.out.lt
 clear e1_0 e1_1 e1_2 e1_3 e1_4 e1_5 e1_6 e1_7 e1_8 e1_9 z1_0 z1_1 z1_2 y1_0 y1_1 y1_2
 clear hh2 BA1 BS1 s1
 obtain⟨e2_0,e2_1,e2_2,e2_3,e2_4,e2_5,e2_6,e2_7,e2_8,e2_9⟩:=(BA2.out).ten
 obtain⟨z2_0,y2_0,z2_1,y2_1,z2_2,y2_2⟩:=(BS2.out).trif
 go_wp2
 exact bodyPost_ret (v:= .tuple #[.agg #[.int .i64 0,.int .i64 0,.int .i64 0],.bool false]) (by simp[results,Tryz.results23,go_sem, *]) rfl ⟨rfl,by(repeat' (first|exact Ext.refl _|(with_reducible assumption)|(with_reducible refine Ext.alloc ?_ _)|(with_reducible refine Ext.setCell ?_ (by first|exact Nat.le_refl _|(dsimp only;omega)|(simp;done)|(simp;omega)) _)|(with_reducible refine Ext.drew ?_)|(with_reducible refine Ext.drewN ?_ _)|(refine Ext.trans ?_ (by with_reducible assumption))))⟩
set_option maxRecDepth 100000 in
set_option maxHeartbeats 1000000 in
theorem specHst_no (wide deep free step price capp clock bank id:Int)(p:Option Addr)(n cap:Nat)(q:Option Addr)(m c2:Nat)(w:World)
  (HX:Hid (∀w',Ext w w'→Calls Tryz.prog 73 #[.agg #[.int .i64 wide,.int .i64 deep,.slice p n cap,.int .i64 free,.int .i64 step,.int .i64 price,.int .i64 capp,.int .i64 clock,.int .i64 bank,.slice q m c2],.int .i64 id] w' fun e w''=>e= .returned (.int .i64 (-1))∧Ext w' w''))
  (HV:Hid (∀w',Ext w w'→Calls Tryz.prog 17 #[.agg #[.int .i64 wide,.int .i64 deep,.slice p n cap,.int .i64 free,.int .i64 step,.int .i64 price,.int .i64 capp,.int .i64 clock,.int .i64 bank,.slice q m c2]] w' fun e w''=>e= .returned (.bool true)∧Ext w' w'')):
  Calls Tryz.prog 23 #[.agg #[.int .i64 wide,.int .i64 deep,.slice p n cap,.int .i64 free,.int .i64 step,.int .i64 price,.int .i64 capp,.int .i64 clock,.int .i64 bank,.slice q m c2],.int .i64 id] w fun e w'=>e= .returned (.tuple #[.agg #[.int .i64 0,.int .i64 0,.int .i64 0],.bool false])∧Ext w w':=by
 go_enter Tryz.func23,Tryz.ntmps23
 go_wp2_with fail
 refine(HX.out _ (by exact .alloc (.alloc (.refl _) _) _)).mono ?_
 rintro e w1 ⟨rfl,hh1⟩
 have BA1:Blk w1 w.heap.size 30 #[.int .i64 wide,.int .i64 deep,.slice p n cap,.int .i64 free,.int .i64 step,.int .i64 price,.int .i64 capp,.int .i64 clock,.int .i64 bank,.slice q m c2]:=((Blk.new w _ _).alloc _).ext hh1
 have BS1:Blk w1 (w.heap.size+1) 36 #[.int .i64 0,.int .i64 0,.int .i64 0]:=by have:=(Blk.new (w.alloc (.cells #[.int .i64 wide,.int .i64 deep,.slice p n cap,.int .i64 free,.int .i64 step,.int .i64 price,.int .i64 capp,.int .i64 clock,.int .i64 bank,.slice q m c2] 30)) 36 #[.int .i64 0,.int .i64 0,.int .i64 0]).ext hh1;simpa using this
 have X1:Ext w w1:=(((Ext.refl w).alloc _).alloc _).trans hh1
 have s1:w.heap.size+1<w1.heap.size:=BS1.lt
 replace BA1:=Lib.hid BA1
 replace BS1:=Lib.hid BS1
 clear hh1
 obtain⟨e1_0,e1_1,e1_2,e1_3,e1_4,e1_5,e1_6,e1_7,e1_8,e1_9⟩:=(BA1.out).ten
 obtain⟨z1_0,y1_0,z1_1,y1_1,z1_2,y1_2⟩:=(BS1.out).trif
 go_wp2_with fail
 refine(HV.out _ (by exact X1)).mono ?_
 rintro e w2 ⟨rfl,hh2⟩
 have BA2:=Lib.hid (BA1.out.ext hh2)
 have BS2:=Lib.hid (BS1.out.ext hh2)
 have X2:Ext w w2:=X1.trans hh2
 have s2:w.heap.size+1<w2.heap.size:=BS2.out.lt
 clear e1_0 e1_1 e1_2 e1_3 e1_4 e1_5 e1_6 e1_7 e1_8 e1_9 z1_0 z1_1 z1_2 y1_0 y1_1 y1_2
 clear hh2 BA1 BS1 s1
 obtain⟨e2_0,e2_1,e2_2,e2_3,e2_4,e2_5,e2_6,e2_7,e2_8,e2_9⟩:=(BA2.out).ten
 obtain⟨z2_0,y2_0,z2_1,y2_1,z2_2,y2_2⟩:=(BS2.out).trif
 go_wp2
 exact bodyPost_ret (v:= .tuple #[.agg #[.int .i64 0,.int .i64 0,.int .i64 0],.bool false]) (by simp[results,Tryz.results23,go_sem, *]) rfl ⟨rfl,by(repeat' (first|exact Ext.refl _|(with_reducible assumption)|(with_reducible refine Ext.alloc ?_ _)|(with_reducible refine Ext.setCell ?_ (by first|exact Nat.le_refl _|(dsimp only;omega)|(simp;done)|(simp;omega)) _)|(with_reducible refine Ext.drew ?_)|(with_reducible refine Ext.drewN ?_ _)|(refine Ext.trans ?_ (by with_reducible assumption))))⟩
set_option maxRecDepth 100000 in
set_option maxHeartbeats 1000000 in
theorem specHst_yes (wide deep free step price capp clock bank id:Int)(p:Option Addr)(n cap:Nat)(q:Option Addr)(m c2:Nat)(w:World)
  (k:Nat)(a1 a2 a3:Int)(vs:List Visit4)(HK:Hid (vs[k]? =some (id,a1,a2,a3))) (hk:k<m) (hm:m≤9223372036854775807) (HS:Hid (Sl w q m c2 4 (vs.flatMap visitCells)))
  (HX:Hid (∀w',Ext w w'→Calls Tryz.prog 73 #[.agg #[.int .i64 wide,.int .i64 deep,.slice p n cap,.int .i64 free,.int .i64 step,.int .i64 price,.int .i64 capp,.int .i64 clock,.int .i64 bank,.slice q m c2],.int .i64 id] w' fun e w''=>e= .returned (.int .i64 k)∧Ext w' w''))
  (HV:Hid (∀w',Ext w w'→Calls Tryz.prog 17 #[.agg #[.int .i64 wide,.int .i64 deep,.slice p n cap,.int .i64 free,.int .i64 step,.int .i64 price,.int .i64 capp,.int .i64 clock,.int .i64 bank,.slice q m c2]] w' fun e w''=>e= .returned (.bool true)∧Ext w' w'')):
  Calls Tryz.prog 23 #[.agg #[.int .i64 wide,.int .i64 deep,.slice p n cap,.int .i64 free,.int .i64 step,.int .i64 price,.int .i64 capp,.int .i64 clock,.int .i64 bank,.slice q m c2],.int .i64 id] w fun e w'=>e= .returned (.tuple #[.agg #[.int .i64 a1,.int .i64 a2,.int .i64 a3],.bool true])∧Ext w w':=by
 go_enter Tryz.func23,Tryz.ntmps23
 go_wp2_with fail
 refine(HX.out _ (by exact .alloc (.alloc (.refl _) _) _)).mono ?_
 rintro e w1 ⟨rfl,hh1⟩
 have BA1:Blk w1 w.heap.size 30 #[.int .i64 wide,.int .i64 deep,.slice p n cap,.int .i64 free,.int .i64 step,.int .i64 price,.int .i64 capp,.int .i64 clock,.int .i64 bank,.slice q m c2]:=((Blk.new w _ _).alloc _).ext hh1
 have BS1:Blk w1 (w.heap.size+1) 36 #[.int .i64 0,.int .i64 0,.int .i64 0]:=by have:=(Blk.new (w.alloc (.cells #[.int .i64 wide,.int .i64 deep,.slice p n cap,.int .i64 free,.int .i64 step,.int .i64 price,.int .i64 capp,.int .i64 clock,.int .i64 bank,.slice q m c2] 30)) 36 #[.int .i64 0,.int .i64 0,.int .i64 0]).ext hh1;simpa using this
 have X1:Ext w w1:=(((Ext.refl w).alloc _).alloc _).trans hh1
 have s1:w.heap.size+1<w1.heap.size:=BS1.lt
 replace BA1:=Lib.hid BA1
 replace BS1:=Lib.hid BS1
 clear hh1
 obtain⟨e1_0,e1_1,e1_2,e1_3,e1_4,e1_5,e1_6,e1_7,e1_8,e1_9⟩:=(BA1.out).ten
 obtain⟨z1_0,y1_0,z1_1,y1_1,z1_2,y1_2⟩:=(BS1.out).trif
 go_wp2_with fail
 refine(HV.out _ (by exact X1)).mono ?_
 rintro e w2 ⟨rfl,hh2⟩
 have BA2:=Lib.hid (BA1.out.ext hh2)
 have BS2:=Lib.hid (BS1.out.ext hh2)
 have X2:Ext w w2:=X1.trans hh2
 have s2:w.heap.size+1<w2.heap.size:=BS2.out.lt
 clear e1_0 e1_1 e1_2 e1_3 e1_4 e1_5 e1_6 e1_7 e1_8 e1_9 z1_0 z1_1 z1_2 y1_0 y1_1 y1_2
 clear hh2 BA1 BS1 s1
 obtain⟨e2_0,e2_1,e2_2,e2_3,e2_4,e2_5,e2_6,e2_7,e2_8,e2_9⟩:=(BA2.out).ten
 obtain⟨z2_0,y2_0,z2_1,y2_1,z2_2,y2_2⟩:=(BS2.out).trif
 obtain⟨b,off,b0,b1,b2,b3,rfl,hv,hb,g0,g1,g2,g3⟩:=visit_at (HS.out.ext X2) hk
 obtain⟨rfl,rfl,rfl,rfl⟩:id=b0∧a1=b1∧a2=b2∧a3=b3:=by have t:=HK.out;rw[hv]at t;simp only[Option.some.injEq,Prod.mk.injEq]at t;exact⟨t.1.symm,t.2.1.symm,t.2.2.1.symm,t.2.2.2.symm⟩
 have hne:b≠w.heap.size+1:=by
  have hb0:=hb
  obtain⟨b',off',_,_,_,_,hq,_,hb',_⟩:=visit_at HS.out hk
  simp only[Option.some.injEq,Addr.mk.injEq]at hq
  omega
 have i1:(0:Int)≤(k:Int):=by omega
 have i2:(k:Int)<(m:Int):=by omega
 clear hv
 go_wp2
 exact bodyPost_ret (v:= .tuple #[.agg #[.int .i64 a1,.int .i64 a2,.int .i64 a3],.bool true]) (by simp[results,Tryz.results23,go_sem, *]) rfl ⟨rfl,by(repeat' (first|exact Ext.refl _|(with_reducible assumption)|(with_reducible refine Ext.alloc ?_ _)|(with_reducible refine Ext.setCell ?_ (by first|exact Nat.le_refl _|(dsimp only;omega)|(simp;done)|(simp;omega)) _)|(with_reducible refine Ext.drew ?_)|(with_reducible refine Ext.drewN ?_ _)|(refine Ext.trans ?_ (by with_reducible assumption))))⟩
theorem implHst (h:HouseD)(id:Int)(p:Option Addr)(n cap:Nat)(q:Option Addr)(m c2:Nat)(w:World)(hi:IsHouse w h p n cap q m c2):
  Calls Tryz.prog 22 #[houseV h p n cap q m c2,.int .i64 id] w fun e w'=>e= .returned (stayR h id)∧Ext w w':=by
 have HV:=fun(w':World) (hx:Ext w w')=>implHouse h p n cap q m c2 w' (hi.ext hx)
 have hvl:=hi.vlen
 obtain⟨wide,deep,cells,free,step,price,capp,clock,bank,vs⟩:=h
 have HX:=fun(w':World) (hx:Ext w w')=>visitIndex_any wide deep free step price capp clock bank id p n cap q m c2 vs w' (hi.vs.ext hx)
 unfold stayR houseStay
 simp only at hvl HV HX⊢
 cases hok:houseOk ⟨wide,deep,cells,free,step,price,capp,clock,bank,vs⟩with
 |false=>
  rw[hok]at HV
  simpa using implHst_bad wide deep free step price capp clock bank id p n cap q m c2 w HV
 |true=>
  rw[hok]at HV
  rcases vix_cases id vs with⟨hx,hv⟩|⟨k,a1,a2,a3,hk,hx,hv,hf⟩
  ·rw[hx]at HX
   rw[hv]
   simpa using implHst_no wide deep free step price capp clock bank id p n cap q m c2 w HV HX
  ·rw[hx]at HX
   rw[hf]
   simpa using implHst_yes wide deep free step price capp clock bank id p n cap q m c2 w k a1 a2 a3 vs hv (by omega) hi.vs.bd hi.vs HV HX
theorem specHst (h:HouseD)(id:Int)(p:Option Addr)(n cap:Nat)(q:Option Addr)(m c2:Nat)(w:World)(hi:IsHouse w h p n cap q m c2):
  Calls Tryz.prog 23 #[houseV h p n cap q m c2,.int .i64 id] w fun e w'=>e= .returned (stayR h id)∧Ext w w':=by
 have HV:=fun(w':World) (hx:Ext w w')=>specHouse h p n cap q m c2 w' (hi.ext hx)
 have hvl:=hi.vlen
 obtain⟨wide,deep,cells,free,step,price,capp,clock,bank,vs⟩:=h
 have HX:=fun(w':World) (hx:Ext w w')=>l7Find_any wide deep free step price capp clock bank id p n cap q m c2 vs w' (hi.vs.ext hx)
 unfold stayR houseStay
 simp only at hvl HV HX⊢
 cases hok:houseOk ⟨wide,deep,cells,free,step,price,capp,clock,bank,vs⟩with
 |false=>
  rw[hok]at HV
  simpa using specHst_bad wide deep free step price capp clock bank id p n cap q m c2 w _ HX HV
 |true=>
  rw[hok]at HV
  rcases vix_cases id vs with⟨hx,hv⟩|⟨k,a1,a2,a3,hk,hx,hv,hf⟩
  ·rw[hx]at HX
   rw[hv]
   simpa using specHst_no wide deep free step price capp clock bank id p n cap q m c2 w HX HV
  ·rw[hx]at HX
   rw[hf]
   simpa using specHst_yes wide deep free step price capp clock bank id p n cap q m c2 w k a1 a2 a3 vs hv (by omega) hi.vs.bd hi.vs HX HV
end Go.Proofs.YteejdnmmpmcmeaaGreatDoor

