/-
  Texts of this proof, packed (@packed).
-/
import Derived.Test.YtbgkcehffiogcabGreatDoorX17
namespace Go.Proofs.YtbgkcehffiogcabGreatDoor
open Go.RowKit
set_option linter.unusedSimpArgs false
set_option linter.unusedVariables false
set_option maxHeartbeats 8000000
set_option maxRecDepth 100000
theorem rQ {xs ys:List Int}(h:List.Perm xs ys):iL xs=iL ys:=
 pG ((kA _).trans (h.filter _)) (mP _)
theorem aDf (aC:Int): ∀(cs:List Int) (vs:List aU),cK aC cs vs=true↔vs.map (·.1)=cs∧ ∀v∈vs,gM aC v=true:=by
 intro cs;induction cs with
 |nil=>intro vs;cases vs<;>simp[cK]
 |cons c cs ih=>
  intro vs;cases vs with
  |nil=>simp[cK]
  |cons v vs=>
   simp only[cK,aTd,decide_eq_true_eq,ih,aUn,List.cons.injEq,List.forall_mem_cons];constructor
   ·rintro⟨⟨a,b⟩,c,d⟩;exact⟨⟨a,c⟩,b,d⟩
   rintro⟨⟨a,c⟩,b,d⟩;exact⟨⟨a,b⟩,c,d⟩
theorem jI (h:aS):bJ h=true↔aO h.aA h.aB h.cells=true∧bV h.free h.step h.aE h.aF=true∧(0≤h.aC∧h.aC≤9999∧0≤h.aG∧h.aG≤99999)∧h.vs.map (·.1)=iL h.cells∧ ∀v∈h.vs,gM h.aC v=true:=by
 unfold bJ wQ;simp only[aTd,decide_eq_true_eq,aDf];constructor
 ·rintro⟨⟨⟨a,b⟩,c⟩,d,e⟩;exact⟨a,b,c,d,e⟩
 rintro⟨a,b,c,d,e⟩;exact⟨⟨⟨a,b⟩,c⟩,d,e⟩
theorem lM (aC:Int)(v:aU):gM aC v=true↔dP v.2.1 v.2.2.1 v.2.2.2=true∧v.2.2.2≤aC:=by unfold gM;simp
theorem zY (v:aU): ∀vs:List aU,(mR v vs).map (·.1)=nK v.1 (vs.map (·.1))
 | []=>rfl
 |u::vs=>by
  by_cases hc:u.1<v.1
  ·have e:mR v (u::vs)=u::mR v vs:=by simp[mR,hc]
   rw[e,aUn,zY v vs,aUn];simp[nK,hc]
  have e:mR v (u::vs)=v::u::vs:=by simp[mR,hc]
  rw[e];simp[nK,hc]
theorem aOm (v:aU)(vs:List aU): ∀u∈mR v vs,u=v∨u∈vs:=by
 intro u hu;unfold mR at hu;rcases aTi.1 hu with h|h
 ·exact .inr ((List.takeWhile_sublist _).subset h)
 rcases aTj.1 h with h|h
 ·exact .inl h
 exact .inr ((List.dropWhile_sublist _).subset h)
theorem uU (v:aU)(vs:List aU):(mR v vs).length=vs.length+1:=by have:=congrArg List.length (zY v vs);rw[(oU _ _).length_eq]at this;simpa using this
theorem aQd {zs:List Int}{id:Int}(h0:zs.getD 0 0=0)(hl:0<zs.length)(hi:1≤id):iL (zs.set 0 id)=nK id (iL zs):=by
 cases zs with
 |nil=>simp at hl
 |cons z t=>
  obtain rfl:z=0:=by simpa using h0
  symm;refine pG ?_ (xV _ _ (mP _));have e:eG ((0::t).set 0 id)=id::eG (0::t):=by unfold eG;rw[aTe,aV7 (by simp;omega),aV8 (by simp)]
  rw[e];exact(oU _ _).trans (List.Perm.cons _ (kA _))
theorem aN2 {zs:List Int}{id:Int}(h0:zs[0]? =some id) (hi:1≤id):iL (zs.set 0 0)=(iL zs).erase id:=by
 cases zs with
 |nil=>simp at h0
 |cons z t=>
  obtain rfl:z=id:=by simpa using h0
  symm;refine pG ?_ ((mP _).sublist List.erase_sublist);have e:eG (z::t)=z::eG ((z::t).set 0 0):=by unfold eG;rw[aTe,aV7 (by simp;omega),aV8 (by simp)]
  have hp:=(kA (eG (z::t))).erase z;rw[e,List.erase_cons_head,←e]at hp;exact hp
theorem aAv (id:Int): ∀vs:List aU,vs.any (fun v=>v.1==id)=true→(vs.eraseIdx (vs.findIdx (fun v=>v.1==id))).map (·.1)=(vs.map (·.1)).erase id
 | [],h=>by simp at h
 |v::vs,h=>by
  by_cases hv:v.1=id
  ·have e:(v::vs).findIdx (fun v=>v.1==id)=0:=by simp[List.findIdx_cons,hv]
   rw[e,aUn,hv,List.erase_cons_head];rfl
  have hb:(v.1==id)=false:=by simpa using hv
  have e:(v::vs).findIdx (fun v=>v.1==id)=vs.findIdx (fun v=>v.1==id)+1:=by simp[List.findIdx_cons,hb]
  have h':vs.any (fun v=>v.1==id)=true:=by simpa[hv]using h
  rw[e,List.eraseIdx_cons_succ,aUn,aAv id vs h',aUn,List.erase_cons_tail (by simpa using hv)]
theorem nQ {id:Int}{vs:List aU}{v:aU}(h:iA id vs=some v):vs.any (fun v=>v.1==id)=true∧v.1=id∧vs[(vix id vs).toNat]? =some v∧(vix id vs).toNat<vs.length∧vix id vs=((vix id vs).toNat:Int)∧(vix id vs).toNat=vs.findIdx (fun v=>v.1==id):=by
 have ha:vs.any (fun v=>v.1==id)=true:=by unfold iA at h;exact List.any_eq_true.2 ⟨v,aUx h,by simpa using List.find?_some h⟩
 rcases oN id vs with⟨h1,h2⟩|⟨k,a1,a2,a3,hk,h1,hx,h2⟩
 ·rw[h2]at h;cases h
 rw[h2]at h;injection h with h;subst h;have e:vix id vs=(vs.findIdx (fun v=>v.1==id):Int):=by unfold vix;rw[if_pos ha]
 refine⟨ha,rfl,by rw[h1];simpa using hx,by rw[h1];simpa using hk,by rw[h1];simp,by rw[e];simp⟩
theorem aOa {α:Type}{l:List α}{k:Nat}{a:α}(h:l[k]? =some a):l.set k a=l:=by
 refine List.ext_getElem? (fun i=> ?_);rw[List.getElem?_set];split
 ·rename_i e;subst e;split
  ·exact h.symm
  rename_i hl;rw[aUi (by omega)]at h;cases h
 rfl
theorem aOc {vs:List aU}{k:Nat}{u:aU}(s:Int×Int×Int)(hk:vs[k]? =some u):(vs.set k (u.1,s)).map (·.1)=vs.map (·.1):=by rw[List.map_set];exact aOa (by rw[aTs,hk];rfl)
def dD (h:aS)(k a b:Int):Option (aS×Int):=
 if k=0 then
  (if 0≤(cV h.aA h.aB h.cells a).2 then some ({h with cells:=(cV h.aA h.aB h.cells a).1,vs:=mR (a,h.aC,0,h.aC) h.vs},(cV h.aA h.aB h.cells a).2)else none)
 else if k=1 then tX h a b
 else if k=2 then
  (if fQ h a=true∧0≤(cM h.aA h.aB h.cells a).2 then some ({h with cells:=(cM h.aA h.aB h.cells a).1,vs:=h.vs.eraseIdx (vix a h.vs).toNat},(cM h.aA h.aB h.cells a).2)else none)
 else if k=3 then(if 1≤a∧a≤9999-h.aC then some ({h with aC:=h.aC+a},h.aC+a)else none)
 else if k=4 then(if bL h.aA h.aB h.cells a b=true then some ({h with cells:=bO h.aA h.aB h.cells a b},0)else none)
 else none
theorem tS {aA aB:Int}{xs:List Int}{id:Int}(a:aO aA aB xs=true)(h:0≤(cV aA aB xs id).2):
  ∃zs,List.Perm zs xs∧zs.getD 0 0=0∧1≤id∧(cV aA aB xs id).1=zs.set 0 id∧aO aA aB (zs.set 0 id)=true∧(cV aA aB xs id).2≤5:=by
 unfold cV nR at h⊢;cases hr:jM aA xs with
 |none=>rw[hr]at h;simp at h
 |some r=>
  rw[hr]at h;obtain⟨f1,f2,f3,f4,f5⟩:=rP a hr;have hp:=(qO r.2 xs a).2.2;rw[f1]at hp;unfold dH at h⊢;by_cases hc:r.1.getD 0 0=0∧1≤id∧aO aA aB (r.1.set 0 id)=true
  ·simp only[hc,and_self,if_true]at h⊢;exact⟨r.1,hp,hc.1,trivial,rfl,hc.2.2,by omega⟩
  simp only[if_neg hc]at h;simp at h
theorem pV {aA aB:Int}{xs:List Int}{id:Int}(a:aO aA aB xs=true)(h:0≤(cM aA aB xs id).2):
  ∃ys,List.Perm ys xs∧ys[0]? =some id∧1≤id∧(cM aA aB xs id).1=ys.set 0 0∧(cM aA aB xs id).2≤60:=by
 unfold cM oB at h⊢;by_cases hc:id<1∨id∉xs
 ·rw[if_pos hc]at h;simp at h
 rw[if_neg hc]at h⊢;have hm:id∈xs:=by
  by_cases hm:id∈xs
  ·exact hm
  exact absurd (.inr hm) hc
 obtain⟨c,hx,hi⟩:=aAl hm;rw[hi]at h⊢;rw[aUz]at h⊢;cases hb:eF aA xs c with
 |none=>rw[hb]at h;simp at h
 |some l=>
  rw[hb]at h;obtain⟨g1,ys,g2,g3,g4,g5⟩:=(rS a hx (by omega)).2 l hb;have hp:=(qO l xs a).2.2;rw[g2]at hp;refine⟨ys,hp,g5,by omega,?_,?_⟩
  ·simp[g2]
  simp;omega
theorem aHf {aA aB:Int}{xs:List Int}(h:aO aA aB xs=true):aO aA aB (xs.set 0 0)=true:=by
 unfold aO at*;rw[aTd]at*;refine⟨by rw[aUm];exact h.1,?_⟩;obtain⟨h1,h2,h3⟩:=(gC _ _).1 h.2;refine(gC _ _).2 ⟨fun x hx=> ?_,fun x hx=>by simp,?_⟩
 ·rcases aUd hx with hx|rfl
  ·exact h1 x hx
  omega
 cases xs with
 |nil=>simp
 |cons x t=>
  rw[aTe,aV8 (by simp)];refine h3.sublist ?_;rw[List.filter_cons];split
  ·exact List.sublist_cons_self _ _
  exact List.Sublist.refl _
theorem aPy {f s p c i pd a now:Int}(h:bV f s p c=true)(hi:0≤i)(h3:i≤now)(h4:now≤9999):0≤oX f s p c (now-i)∧oX f s p c (now-i)≤693:=by have hb:=vL (m:=now-i) h (by omega) (by omega);omega
theorem aAn {h:aS}(e:bJ h=true){k a b:Int}{h':aS}{n:Int}(hd:dD h k a b=some (h',n)):
  bJ h'=true∧(0≤n∧n≤9999)∧h'.cells.length=h.cells.length∧h'.aA=h.aA∧h'.aB=h.aB∧h'.free=h.free∧h'.step=h.step∧h'.aE=h.aE∧h'.aF=h.aF:=by
 obtain⟨q1,q2,q3,q4,q5⟩:=(jI h).1 e;have d:0<h.cells.length:=by have:=cO (dC q1);omega
 unfold dD at hd;split at hd
 ·split at hd
  ·rename_i h0;obtain⟨zs,s1,s2,s3,s4,s5,s6⟩:=tS q1 h0;injection hd with hd;simp only[aUk]at hd;obtain⟨rfl,rfl⟩:=hd;rw[s4];refine⟨(jI _).2 ⟨s5,q2,q3,?_,?_⟩,⟨h0,by omega⟩,by rw[aUm,s1.length_eq],rfl,rfl,rfl,rfl,rfl,rfl⟩
   ·dsimp only;rw[zY,aQd s2 (by rw[s1.length_eq];exact d) s3,q4,rQ s1]
   intro v hv;rcases aOm _ _ v hv with rfl|hv
   ·exact(lM _ _).2 ⟨by simp[dP];omega,Int.le_refl _⟩
   exact q5 v hv
  cases hd
 split at hd
 ·unfold tX at hd;split at hd
  ·cases hd
  rename_i v hv;obtain⟨v1,v2,v3,v4,v5,v6⟩:=nQ hv;obtain⟨s1,s2⟩:=(lM _ _).1 (q5 v (aT4 v3));obtain⟨b1,b2⟩:=nF q2 s1 s2 q3.2.1;obtain⟨t1,t2,t3,t4,t5,t6⟩:=iB s1;split at hd
  ·rename_i hp;have f:=aE4 b1 hp.1;injection hd with hd;simp only[aUk]at hd;obtain⟨rfl,rfl⟩:=hd;refine⟨(jI _).2 ⟨q1,q2,⟨q3.1,q3.2.1,?_,hp.2⟩,?_,?_⟩,⟨f.1,by omega⟩,rfl,rfl,rfl,rfl,rfl,rfl,rfl⟩
   ·dsimp only;omega
   ·dsimp only;rw[←q4,←v2];rw[←v2]at v3;exact aOc _ v3
   intro u hu;rcases aUd hu with hu|rfl
   ·exact q5 u hu
   refine(lM _ _).2 ?_;have hf:=aPy (pd:=v.2.2.1) (a:=v.2.2.2) (now:=h.aC) q2 t1 (by omega) q3.2.1;have g:cT h.free h.step h.aE h.aF v.2.1 v.2.2.1 v.2.2.2 h.aC=max (oX h.free h.step h.aE h.aF (h.aC-v.2.1)-v.2.2.1) 0:=by unfold cT;rw[if_pos (by simp[q2,s1,s2,q3.2.1])]
   have c:=hp.1;unfold jG at c⊢;split at c
   ·rename_i ha;rw[if_pos ha];split at c
    ·cases c
    rename_i hn;rw[if_neg hn];dsimp only;refine⟨?_,by omega⟩;unfold dP;simp only[decide_eq_true_eq];omega
   cases c
  cases hd
 split at hd
 ·split at hd
  ·rename_i hm;obtain⟨ys,s1,s2,s3,s4,s5⟩:=pV q1 hm.2;injection hd with hd;simp only[aUk]at hd;obtain⟨rfl,rfl⟩:=hd;rw[s4];refine⟨(jI _).2 ⟨aHf (xY q1 s1),q2,q3,?_,?_⟩,⟨hm.2,by omega⟩,by rw[aUm,s1.length_eq],rfl,rfl,rfl,rfl,rfl,rfl⟩
   ·dsimp only;have hv: ∃v,iA a h.vs=some v:=by
     have:=hm.1;unfold fQ gU at this;rw[if_pos e]at this;cases hv:iA a h.vs with
     |none=>rw[hv]at this;simp at this
     |some v=>exact⟨v,rfl⟩
    obtain⟨v,hv⟩:=hv;obtain⟨v1,v2,v3,v4,v5,v6⟩:=nQ hv;rw[v6,aAv a h.vs v1,aN2 s2 s3,q4,rQ s1]
   intro v hv;exact q5 v (List.mem_of_mem_eraseIdx hv)
  cases hd
 split at hd
 ·split at hd
  ·rename_i hw;injection hd with hd;simp only[aUk]at hd;obtain⟨rfl,rfl⟩:=hd;refine⟨(jI _).2 ⟨q1,q2,⟨by dsimp only;omega,by dsimp only;omega,q3.2.2⟩,q4,fun v hv=> ?_⟩,⟨by omega,by omega⟩,rfl,rfl,rfl,rfl,rfl,rfl,rfl⟩;obtain⟨s1,s2⟩:=(lM _ _).1 (q5 v hv);exact(lM _ _).2 ⟨s1,by dsimp only;omega⟩
  cases hd
 split at hd
 ·split at hd
  ·injection hd with hd;simp only[aUk]at hd;obtain⟨rfl,rfl⟩:=hd;refine⟨(jI _).2 ⟨kC a b q1,q2,q3,?_,q5⟩,⟨by omega,by omega⟩,dJ _ _ _ _ _,rfl,rfl,rfl,rfl,rfl,rfl⟩;dsimp only;rw[q4,rQ (pI a b)]
  cases hd
 cases hd
section
open Go.Proofs.Tryz
def aC5 (h:aS)(id:Int):Value:=match gU h id with
 |some s=> .tuple #[.agg #[s.1,s.2.1,s.2.2],.bool true]
 |none=> .tuple #[.agg #[(),(),()],.bool false]
theorem aH5 (aA aB a b aE aF aC aG id:Int)(p:OA)(n c:Nat)(q:OA)(m c2:Nat)(w:World)
  (HV:xB 16 #[.agg #[aA,aB,.slice p n c,a,b,aE,aF,aC,aG,.slice q m c2]] w false):
  U 170 #[.agg #[aA,aB,.slice p n c,a,b,aE,aF,aC,aG,.slice q m c2],id] w (Z (.tuple #[.agg #[(),(),()],.bool false]) w):=by
 go_enter func170,ntmps170;go_wp2_with fail;refine Ω (HV _ (by exact .alloc (.alloc (.refl _) _) _)) fun w1 d=>?_
 have g:Blk w1 w 29 #[aA,aB,.slice p n c,a,b,aE,aF,aC,aG,.slice q m c2]:=((Blk.new w _ _).alloc _).ext d;have f:Blk w1 (w.heap.size+1) 66 #[(),(),()]:=by have:=(Blk.new (w.alloc (.cells #[aA,aB,.slice p n c,a,b,aE,aF,aC,aG,.slice q m c2] 29)) 66 #[(),(),()]).ext d;simpa using this
 have X1:Ext w w1:=(((Ext.refl w).alloc _).alloc _).trans d;replace g:=xQ g;replace f:=xQ f;clear d;obtain⟨k,h,l,i,o,j⟩:=f.out.trif;go_wp2;exact bodyPost_ret (v:= .tuple #[.agg #[(),(),()],.bool false]) (by simp[results,results170,go_sem, *]) rfl ⟨rfl,xE⟩
theorem aJe (aA aB a b aE aF aC aG id:Int)(p:OA)(n c:Nat)(q:OA)(m c2:Nat)(w:World)
  (HV:xB 16 #[.agg #[aA,aB,.slice p n c,a,b,aE,aF,aC,aG,.slice q m c2]] w true)
  (HX:xC 128 #[.agg #[aA,aB,.slice p n c,a,b,aE,aF,aC,aG,.slice q m c2],id] w fun w' e w''=>e= .returned (I (-1))∧Ext w' w''):
  U 170 #[.agg #[aA,aB,.slice p n c,a,b,aE,aF,aC,aG,.slice q m c2],id] w (Z (.tuple #[.agg #[(),(),()],.bool false]) w):=by
 go_enter func170,ntmps170;go_wp2_with fail;refine Ω (HV _ (by exact .alloc (.alloc (.refl _) _) _)) fun w1 g=>?_
 have d:Blk w1 w 29 #[aA,aB,.slice p n c,a,b,aE,aF,aC,aG,.slice q m c2]:=((Blk.new w _ _).alloc _).ext g;have f:Blk w1 (w.heap.size+1) 66 #[(),(),()]:=by have:=(Blk.new (w.alloc (.cells #[aA,aB,.slice p n c,a,b,aE,aF,aC,aG,.slice q m c2] 29)) 66 #[(),(),()]).ext g;simpa using this
 have X1:Ext w w1:=(((Ext.refl w).alloc _).alloc _).trans g;replace d:=xQ d;replace f:=xQ f;clear g;obtain⟨i,j,k,l,o,r,s,t,u,x⟩:=d.out.ten;go_wp2_with fail;refine Ω (HX _ (by exact X1)) fun w2 h=>?_
 have y:=xQ (f.out.ext h);have X2:Ext w w2:=X1.trans h;clear i j k l o r s t u x h d f;obtain⟨ad,z,ae,aa,af,ab⟩:=y.out.trif;go_wp2;exact bodyPost_ret (v:= .tuple #[.agg #[(),(),()],.bool false]) (by simp[results,results170,go_sem, *]) rfl ⟨rfl,xE⟩
theorem aH4 (aA aB a c aE aF aC aG id:Int)(p:OA)(n f:Nat)(q:OA)(m c2:Nat)(w:World)
  (k:Nat)(a1 a2 a3:Int)(vs:List aU)(HK:Hid (vs[k]? =some (id,a1,a2,a3))) (hk:k<m) (hm:m≤9223372036854775807) (HS:Hid (Sl w q m c2 4 (vs.flatMap aD)))
  (HV:xB 16 #[.agg #[aA,aB,.slice p n f,a,c,aE,aF,aC,aG,.slice q m c2]] w true)
  (HX:xC 128 #[.agg #[aA,aB,.slice p n f,a,c,aE,aF,aC,aG,.slice q m c2],id] w fun w' e w''=>e= .returned (I k)∧Ext w' w''):
  U 170 #[.agg #[aA,aB,.slice p n f,a,c,aE,aF,aC,aG,.slice q m c2],id] w (Z (.tuple #[.agg #[a1,a2,a3],.bool true]) w):=by
 go_enter func170,ntmps170;go_wp2_with fail;refine Ω (HV _ (by exact .alloc (.alloc (.refl _) _) _)) fun w1 h=>?_
 have d:Blk w1 w 29 #[aA,aB,.slice p n f,a,c,aE,aF,aC,aG,.slice q m c2]:=((Blk.new w _ _).alloc _).ext h;have g:Blk w1 (w.heap.size+1) 66 #[(),(),()]:=by have:=(Blk.new (w.alloc (.cells #[aA,aB,.slice p n f,a,c,aE,aF,aC,aG,.slice q m c2] 29)) 66 #[(),(),()]).ext h;simpa using this
 have X1:Ext w w1:=(((Ext.refl w).alloc _).alloc _).trans h;replace d:=xQ d;replace g:=xQ g;clear h;obtain⟨j,l,o,r,s,u,x,y,z,aa⟩:=d.out.ten;go_wp2_with fail;refine Ω (HX _ (by exact X1)) fun w2 i=>?_
 have ab:=xQ (d.out.ext i);have ad:=xQ (g.out.ext i);have X2:Ext w w2:=X1.trans i;clear j l o r s u x y z aa i d g;obtain⟨ae,af,ag,ah,ai,aj,ak,al,am,an⟩:=ab.out.ten;obtain⟨ar,ao,au,ap,av,aq⟩:=ad.out.trif;obtain⟨b,aw,b0,b1,b2,b3,rfl,hv,hb,g0,g1,g2,g3⟩:=gQ (HS.out.ext X2) hk;obtain⟨rfl,rfl,rfl,rfl⟩:id=b0∧a1=b1∧a2=b2∧a3=b3:=by have t:=HK.out;rw[hv]at t;simp only[aU6,aUk]at t;exact⟨t.1.symm,t.2.1.symm,t.2.2.1.symm,t.2.2.2.symm⟩
 have i1:(0:Int)≤(k:Int):=by omega
 have i2:(k:Int)<(m:Int):=by omega
 clear hv;go_wp2;exact bodyPost_ret (v:= .tuple #[.agg #[a1,a2,a3],.bool true]) (by simp[results,results170,go_sem, *]) rfl ⟨rfl,xE⟩
theorem aFy (aA aB a b aE aF aC aG id:Int)(p:OA)(n c:Nat)(q:OA)(m c2:Nat)(w:World)
  (x:Int)
  (HX:xC 105 #[.agg #[aA,aB,.slice p n c,a,b,aE,aF,aC,aG,.slice q m c2],id] w fun w' e w''=>e= .returned (I x)∧Ext w' w'')
  (HV:xB 15 #[.agg #[aA,aB,.slice p n c,a,b,aE,aF,aC,aG,.slice q m c2]] w false):
  U 142 #[.agg #[aA,aB,.slice p n c,a,b,aE,aF,aC,aG,.slice q m c2],id] w (Z (.tuple #[.agg #[(),(),()],.bool false]) w):=by
 go_enter func142,ntmps142;go_wp2_with fail;refine Ω (HX _ (by exact .alloc (.alloc (.refl _) _) _)) fun w1 g=>?_
 have d:Blk w1 w 29 #[aA,aB,.slice p n c,a,b,aE,aF,aC,aG,.slice q m c2]:=((Blk.new w _ _).alloc _).ext g;have f:Blk w1 (w.heap.size+1) 66 #[(),(),()]:=by have:=(Blk.new (w.alloc (.cells #[aA,aB,.slice p n c,a,b,aE,aF,aC,aG,.slice q m c2] 29)) 66 #[(),(),()]).ext g;simpa using this
 have X1:Ext w w1:=(((Ext.refl w).alloc _).alloc _).trans g;replace d:=xQ d;replace f:=xQ f;clear g;obtain⟨i,j,k,l,o,r,s,t,u,y⟩:=d.out.ten;go_wp2_with fail;refine Ω (HV _ (by exact X1)) fun w2 h=>?_
 have z:=xQ (f.out.ext h);have X2:Ext w w2:=X1.trans h;clear i j k l o r s t u y h d f;obtain⟨ae,aa,af,ab,ag,ad⟩:=z.out.trif;go_wp2;exact bodyPost_ret (v:= .tuple #[.agg #[(),(),()],.bool false]) (by simp[results,results142,go_sem, *]) rfl ⟨rfl,xE⟩
theorem aIa (aA aB a b aE aF aC aG id:Int)(p:OA)(n c:Nat)(q:OA)(m c2:Nat)(w:World)
  (HX:xC 105 #[.agg #[aA,aB,.slice p n c,a,b,aE,aF,aC,aG,.slice q m c2],id] w fun w' e w''=>e= .returned (I (-1))∧Ext w' w'')
  (HV:xB 15 #[.agg #[aA,aB,.slice p n c,a,b,aE,aF,aC,aG,.slice q m c2]] w true):
  U 142 #[.agg #[aA,aB,.slice p n c,a,b,aE,aF,aC,aG,.slice q m c2],id] w (Z (.tuple #[.agg #[(),(),()],.bool false]) w):=by
 go_enter func142,ntmps142;go_wp2_with fail;refine Ω (HX _ (by exact .alloc (.alloc (.refl _) _) _)) fun w1 g=>?_
 have d:Blk w1 w 29 #[aA,aB,.slice p n c,a,b,aE,aF,aC,aG,.slice q m c2]:=((Blk.new w _ _).alloc _).ext g;have f:Blk w1 (w.heap.size+1) 66 #[(),(),()]:=by have:=(Blk.new (w.alloc (.cells #[aA,aB,.slice p n c,a,b,aE,aF,aC,aG,.slice q m c2] 29)) 66 #[(),(),()]).ext g;simpa using this
 have X1:Ext w w1:=(((Ext.refl w).alloc _).alloc _).trans g;replace d:=xQ d;replace f:=xQ f;clear g;obtain⟨i,j,k,l,o,r,s,t,u,x⟩:=d.out.ten;go_wp2_with fail;refine Ω (HV _ (by exact X1)) fun w2 h=>?_
 have y:=xQ (f.out.ext h);have X2:Ext w w2:=X1.trans h;clear i j k l o r s t u x h d f;obtain⟨ad,z,ae,aa,af,ab⟩:=y.out.trif;go_wp2;exact bodyPost_ret (v:= .tuple #[.agg #[(),(),()],.bool false]) (by simp[results,results142,go_sem, *]) rfl ⟨rfl,xE⟩
theorem aFx (aA aB a c aE aF aC aG id:Int)(p:OA)(n f:Nat)(q:OA)(m c2:Nat)(w:World)
  (k:Nat)(a1 a2 a3:Int)(vs:List aU)(HK:Hid (vs[k]? =some (id,a1,a2,a3))) (hk:k<m) (hm:m≤9223372036854775807) (HS:Hid (Sl w q m c2 4 (vs.flatMap aD)))
  (HX:xC 105 #[.agg #[aA,aB,.slice p n f,a,c,aE,aF,aC,aG,.slice q m c2],id] w fun w' e w''=>e= .returned (I k)∧Ext w' w'')
  (HV:xB 15 #[.agg #[aA,aB,.slice p n f,a,c,aE,aF,aC,aG,.slice q m c2]] w true):
  U 142 #[.agg #[aA,aB,.slice p n f,a,c,aE,aF,aC,aG,.slice q m c2],id] w (Z (.tuple #[.agg #[a1,a2,a3],.bool true]) w):=by
 go_enter func142,ntmps142;go_wp2_with fail;refine Ω (HX _ (by exact .alloc (.alloc (.refl _) _) _)) fun w1 h=>?_
 have d:Blk w1 w 29 #[aA,aB,.slice p n f,a,c,aE,aF,aC,aG,.slice q m c2]:=((Blk.new w _ _).alloc _).ext h;have g:Blk w1 (w.heap.size+1) 66 #[(),(),()]:=by have:=(Blk.new (w.alloc (.cells #[aA,aB,.slice p n f,a,c,aE,aF,aC,aG,.slice q m c2] 29)) 66 #[(),(),()]).ext h;simpa using this
 have X1:Ext w w1:=(((Ext.refl w).alloc _).alloc _).trans h;replace d:=xQ d;replace g:=xQ g;clear h;obtain⟨j,l,o,r,s,u,x,y,z,aa⟩:=d.out.ten;go_wp2_with fail;refine Ω (HV _ (by exact X1)) fun w2 i=>?_
 have ab:=xQ (d.out.ext i);have ad:=xQ (g.out.ext i);have X2:Ext w w2:=X1.trans i;clear j l o r s u x y z aa i d g;obtain⟨ae,af,ag,ah,ai,aj,ak,al,am,an⟩:=ab.out.ten;obtain⟨ar,ao,au,ap,av,aq⟩:=ad.out.trif;obtain⟨b,aw,b0,b1,b2,b3,rfl,hv,hb,g0,g1,g2,g3⟩:=gQ (HS.out.ext X2) hk;obtain⟨rfl,rfl,rfl,rfl⟩:id=b0∧a1=b1∧a2=b2∧a3=b3:=by have t:=HK.out;rw[hv]at t;simp only[aU6,aUk]at t;exact⟨t.1.symm,t.2.1.symm,t.2.2.1.symm,t.2.2.2.symm⟩
 have i1:(0:Int)≤(k:Int):=by omega
 have i2:(k:Int)<(m:Int):=by omega
 clear hv;go_wp2;exact bodyPost_ret (v:= .tuple #[.agg #[a1,a2,a3],.bool true]) (by simp[results,results142,go_sem, *]) rfl ⟨rfl,xE⟩
theorem aR8 (h:aS)(id:Int)(p:OA)(n c:Nat)(q:OA)(m c2:Nat)(w:World)(hi:IsHouse w h p n c q m c2):
  U 170 #[cY h p n c q m c2,id] w (Z (aC5 h id) w):=by
 have HV:=fun(w':World) (hx:Ext w w')=>mZ h p n c q m c2 w' (hi.ext hx)
 have f:=hi.vlen;obtain⟨aA,aB,d,a,b,aE,aF,aC,aG,vs⟩:=h;have HX:=fun(w':World) (hx:Ext w w')=>kS aA aB a b aE aF aC aG id p n c q m c2 vs w' (hi.vs.ext hx)
 unfold aC5 gU;simp only at f HV HX⊢;cases hok:bJ ⟨aA,aB,d,a,b,aE,aF,aC,aG,vs⟩with
 |false=>rw[hok]at HV;simpa using aH5 aA aB a b aE aF aC aG id p n c q m c2 w HV
 |true=>
  rw[hok]at HV;rcases oN id vs with⟨hx,hv⟩|⟨k,a1,a2,a3,hk,hx,hv,hf⟩
  ·rw[hx]at HX;rw[hv];simpa using aJe aA aB a b aE aF aC aG id p n c q m c2 w HV HX
  rw[hx]at HX;rw[hf];simpa using aH4 aA aB a b aE aF aC aG id p n c q m c2 w k a1 a2 a3 vs hv (by omega) hi.vs.bd hi.vs HV HX
theorem aQl (h:aS)(id:Int)(p:OA)(n c:Nat)(q:OA)(m c2:Nat)(w:World)(hi:IsHouse w h p n c q m c2):
  U 142 #[cY h p n c q m c2,id] w (Z (aC5 h id) w):=by
 have HV:=fun(w':World) (hx:Ext w w')=>oO h p n c q m c2 w' (hi.ext hx)
 have f:=hi.vlen;obtain⟨aA,aB,d,a,b,aE,aF,aC,aG,vs⟩:=h;have HX:=fun(w':World) (hx:Ext w w')=>tZ aA aB a b aE aF aC aG id p n c q m c2 vs w' (hi.vs.ext hx)
 unfold aC5 gU;simp only at f HV HX⊢;cases hok:bJ ⟨aA,aB,d,a,b,aE,aF,aC,aG,vs⟩with
 |false=>rw[hok]at HV;simpa using aFy aA aB a b aE aF aC aG id p n c q m c2 w _ HX HV
 |true=>
  rw[hok]at HV;rcases oN id vs with⟨hx,hv⟩|⟨k,a1,a2,a3,hk,hx,hv,hf⟩
  ·rw[hx]at HX;rw[hv];simpa using aIa aA aB a b aE aF aC aG id p n c q m c2 w HX HV
  rw[hx]at HX;rw[hf];simpa using aFx aA aB a b aE aF aC aG id p n c q m c2 w k a1 a2 a3 vs hv (by omega) hi.vs.bd hi.vs HX HV
theorem aMl (aA aB a b aE aF aC aG id:Int)(p:OA)(n c:Nat)(q:OA)(m c2:Nat)(w:World)
  (g:xC 170 #[.agg #[aA,aB,.slice p n c,a,b,aE,aF,aC,aG,.slice q m c2],id] w fun w' e w''=>e= .returned (.tuple #[.agg #[(),(),()],.bool false])∧Ext w' w''):
  U 130 #[.agg #[aA,aB,.slice p n c,a,b,aE,aF,aC,aG,.slice q m c2],id] w (Z (.bool false) w):=by
 go_enter func130,ntmps130;go_wp2_with fail;refine Ω (g _ xE) fun w1 d=>?_
 have f:Blk w1 w 29 #[aA,aB,.slice p n c,a,b,aE,aF,aC,aG,.slice q m c2]:=(Blk.new w _ _).ext d;have X1:Ext w w1:=((Ext.refl w).alloc _).trans d;replace f:=xQ f;clear d;go_wp2;go_ret;exact⟨rfl,xE⟩
theorem aJh (aA aB a b aE aF aC aG id:Int)(p:OA)(n d:Nat)(q:OA)(m c2:Nat)(w:World)(a1 a2 a3:Int)(D:Bool)
  (g:xC 170 #[.agg #[aA,aB,.slice p n d,a,b,aE,aF,aC,aG,.slice q m c2],id] w fun w' e w''=>e= .returned (.tuple #[.agg #[a1,a2,a3],.bool true])∧Ext w' w'')
  (HD:Hid (∀w',U 171 #[aV a b aE aF,cF a1 a2 a3,aC] w' (Z (.bool D) w'))):
  U 130 #[.agg #[aA,aB,.slice p n d,a,b,aE,aF,aC,aG,.slice q m c2],id] w (Z (.bool D) w):=by
 go_enter func130,ntmps130;go_wp2_with fail;refine Ω (g _ xE) fun w1 f=>?_
 have c:Blk w1 w 29 #[aA,aB,.slice p n d,a,b,aE,aF,aC,aG,.slice q m c2]:=(Blk.new w _ _).ext f;have X1:Ext w w1:=((Ext.refl w).alloc _).trans f;have s1:(w:Nat)<w1:=c.lt;replace c:=xQ c;clear f;obtain⟨h,i,j,k,l,o,r,s,t,u⟩:=c.out.ten;go_wp2_with fail;refine Ω (HD _) fun w2 v=>?_
 go_wp2;go_ret;exact⟨rfl,xE⟩
theorem aLf (aA aB a b aE aF aC aG id:Int)(p:OA)(n c:Nat)(q:OA)(m c2:Nat)(w:World)
  (g:xC 142 #[.agg #[aA,aB,.slice p n c,a,b,aE,aF,aC,aG,.slice q m c2],id] w fun w' e w''=>e= .returned (.tuple #[.agg #[(),(),()],.bool false])∧Ext w' w''):
  U 106 #[.agg #[aA,aB,.slice p n c,a,b,aE,aF,aC,aG,.slice q m c2],id] w (Z (.bool false) w):=by
 go_enter func106,ntmps106;go_wp2_with fail;refine Ω (g _ xE) fun w1 d=>?_
 have f:Blk w1 w 29 #[aA,aB,.slice p n c,a,b,aE,aF,aC,aG,.slice q m c2]:=(Blk.new w _ _).ext d;have X1:Ext w w1:=((Ext.refl w).alloc _).trans d;replace f:=xQ f;clear d;go_wp2;go_ret;exact⟨rfl,xE⟩
theorem aId (aA aB a b aE aF aC aG id:Int)(p:OA)(n d:Nat)(q:OA)(m c2:Nat)(w:World)(a1 a2 a3:Int)(D:Bool)
  (g:xC 142 #[.agg #[aA,aB,.slice p n d,a,b,aE,aF,aC,aG,.slice q m c2],id] w fun w' e w''=>e= .returned (.tuple #[.agg #[a1,a2,a3],.bool true])∧Ext w' w'')
  (HD:Hid (∀w',U 143 #[aV a b aE aF,cF a1 a2 a3,aC] w' (Z (.bool D) w'))):
  U 106 #[.agg #[aA,aB,.slice p n d,a,b,aE,aF,aC,aG,.slice q m c2],id] w (Z (.bool D) w):=by
 go_enter func106,ntmps106;go_wp2_with fail;refine Ω (g _ xE) fun w1 f=>?_
 have c:Blk w1 w 29 #[aA,aB,.slice p n d,a,b,aE,aF,aC,aG,.slice q m c2]:=(Blk.new w _ _).ext f;have X1:Ext w w1:=((Ext.refl w).alloc _).trans f;have s1:(w:Nat)<w1:=c.lt;replace c:=xQ c;clear f;obtain⟨h,i,j,k,l,o,r,s,t,u⟩:=c.out.ten;go_wp2_with fail;refine Ω (HD _) fun w2 v=>?_
 go_wp2;go_ret;exact⟨rfl,xE⟩
theorem aC4 {h:aS}{id a1 a2 a3:Int}(hs:gU h id=some (a1,a2,a3)):bV h.free h.step h.aE h.aF=true∧dP a1 a2 a3=true∧a3≤h.aC∧h.aC≤9999:=by
 unfold gU at hs;split at hs
 ·rename_i hok;rw[Option.map_eq_some_iff]at hs;obtain⟨v,hv,e⟩:=hs;have hm:=aUx hv;simp only[bJ,wQ,aTd,decide_eq_true_eq]at hok;have:=(mO hok.2).2 v hm;obtain⟨v0,v1,v2,v3⟩:=v;simp only[aUk]at e;obtain⟨rfl,rfl,rfl⟩:=e;simp only[gM,aTd,decide_eq_true_eq]at this;exact⟨hok.1.1.2,this.1,this.2,hok.1.2.2.1⟩
 simp at hs
theorem aEu (h:aS)(id:Int)(p:OA)(n b:Nat)(q:OA)(m c2:Nat)(w:World)(hi:IsHouse w h p n b q m c2):
  U 130 #[cY h p n b q m c2,id] w (Z (.bool (fQ h id)) w):=by
 have a:=fun(w':World) (hx:Ext w w')=>aR8 h id p n b q m c2 w' (hi.ext hx)
 unfold aC5 at a;unfold fQ;cases hs:gU h id with
 |none=>rw[hs]at a;exact aMl h.aA h.aB h.free h.step h.aE h.aF h.aC h.aG id p n b q m c2 w a
 |some s=>obtain⟨a1,a2,a3⟩:=s;rw[hs]at a;obtain⟨t,st,hc,h9⟩:=aC4 hs;exact aJh h.aA h.aB h.free h.step h.aE h.aF h.aC h.aG id p n b q m c2 w a1 a2 a3 _ a (fun w'=>aS8 h.free h.step h.aE h.aF a1 a2 a3 h.aC w' t st hc h9)
theorem aDs (h:aS)(id:Int)(p:OA)(n b:Nat)(q:OA)(m c2:Nat)(w:World)(hi:IsHouse w h p n b q m c2):
  U 106 #[cY h p n b q m c2,id] w (Z (.bool (fQ h id)) w):=by
 have a:=fun(w':World) (hx:Ext w w')=>aQl h id p n b q m c2 w' (hi.ext hx)
 unfold aC5 at a;unfold fQ;cases hs:gU h id with
 |none=>rw[hs]at a;exact aLf h.aA h.aB h.free h.step h.aE h.aF h.aC h.aG id p n b q m c2 w a
 |some s=>obtain⟨a1,a2,a3⟩:=s;rw[hs]at a;obtain⟨t,st,hc,h9⟩:=aC4 hs;exact aId h.aA h.aB h.free h.step h.aE h.aF h.aC h.aG id p n b q m c2 w a1 a2 a3 _ a (fun w'=>aRv h.free h.step h.aE h.aF a1 a2 a3 h.aC w' t st hc h9)
abbrev THD:TypeId:=76
theorem aDw (aA aB b c aE aF aC aG a aa ab:Int)(p:OA)(n d:Nat)(q:OA)(m c2:Nat)(xs:List Int)(vs:List aU)(w:World)(h0:a≠0)(h1:a≠1)(h2:a≠2)(h3:a≠3)(h4:a≠4)
  (ad:xB 15 #[.agg #[aA,aB,.slice p n d,b,c,aE,aF,aC,aG,.slice q m c2]] w true)
  (HL:xC 59 #[.agg #[aA,aB,.slice p n d,b,c,aE,aF,aC,aG,.slice q m c2]] w fun w' e w''=> ∃p' cap' q' c2',e= .returned (.agg #[aA,aB,.slice p' n cap',b,c,aE,aF,aC,aG,.slice q' m c2'])∧w''.ownsRow w' TI 1 (.slice p' n cap') n (ivs xs)∧w''.ownsRow w' TV 4 (.slice q' m c2') m (vs.flatMap aD)∧Ext w' w''):
  U 60 #[.agg #[aA,aB,.slice p n d,b,c,aE,aF,aC,aG,.slice q m c2],.agg #[a,aa,ab]] w fun e w'=> ∃p' cap' q' c2',e= .returned (.tuple #[.agg #[aA,aB,.slice p' n cap',b,c,aE,aF,aC,aG,.slice q' m c2'],(-1:Int),.bool false])∧w'.ownsRow w TI 1 (.slice p' n cap') n (ivs xs)∧w'.ownsRow w TV 4 (.slice q' m c2') m (vs.flatMap aD)∧Ext w w':=by
 go_enter func60,ntmps60;go_wp2_with fail;refine Ω (ad _ ((((Mem.start w).c0 aN #[aA,aB,.slice p n d,b,c,aE,aF,aC,aG,.slice q m c2]).c1 THD #[a,aa,ab]).c2 aN zT).ext) fun w1 ah=>?_
 have M1:=(((((Mem.start w).c0 aN #[aA,aB,.slice p n d,b,c,aE,aF,aC,aG,.slice q m c2]).c1 THD #[a,aa,ab]).c2 aN zT).adv ah)
 clear ah ad;obtain⟨f,g,h,j,k,l,o,r,s,t⟩:=(M1.bk 2).ten;go_wp2_with fail;clear f g h j k l o r s t;refine(HL _ M1.ext).mono ?_;rintro e w2 ⟨p1,ae,q1,af,rfl,ho,hq,hx⟩;have M2:=(M1.own2 hx ho hq (aT2 _) (by decide))
 clear M1 hx ho hq;have y:=M2.hi 3;have z:=M2.hi 4;obtain⟨f,g,h,j,k,l,o,r,s,t⟩:=(M2.bk 4).ten;have ai:=(M2.bk 3).cl 0;have k0:(a==0)=false:=by simp;omega
 have k1:(a==1)=false:=by simp;omega
 have k2:(a==2)=false:=by simp;omega
 have k3:(a==3)=false:=by simp;omega
 have k4:(a==4)=false:=by simp;omega
 go_wp2_with fail;clear f g h j k l o r s t ai;refine(HL _ (M2.c0 aN #[aA,aB,.slice p1 n ae,b,c,aE,aF,aC,aG,.slice q1 m af]).ext).mono ?_;rintro e w9 ⟨p9,u,q9,x,rfl,ho,hq,hx⟩;have M3:=((M2.c0 aN #[aA,aB,.slice p1 n ae,b,c,aE,aF,aC,aG,.slice q1 m af]).own2 hx ho hq (aT2 _) (by decide))
 clear M2 y z hx ho hq HL;obtain⟨f0,aj,f1,ak,f2,al,f3,am,f4,an,f5,ao,f6,ap,f7,aq,f8,ar,f9,au⟩:=(M3.bk 5).tenf;go_wp2;clear f0 aj f1 ak f2 al f3 am f4 an f5 ao f6 ap f7 aq f8 ar f9 au;have M4:=(M3.put10 (i:=5) rfl (I aA) (I aB) (.slice p9 n u) (I b) (I c) (I aE) (I aF) (I aC) (I aG) (.slice q9 m x))
 generalize ag:World.setCell _ _ _=wz;rw[ag]at M4;clear ag M3;obtain⟨y0,y1,y2,y3,y4,y5,y6,y7,y8,y9⟩:=(M4.bk 5).ten;exact bodyPost_ret (v:= .tuple #[.agg #[aA,aB,.slice p9 n u,b,c,aE,aF,aC,aG,.slice q9 m x],(-1:Int),.bool false]) (by simp[results,results60,go_sem, *]) rfl ⟨p9,u,q9,x,rfl,(M4.ow 0),(M4.ow 1),M4.ext⟩
theorem yH (aA aB a b aE aF aC aG c ae:Int)(p:OA)(n d:Nat)(q:OA)(m c2:Nat)(xs:List Int)(vs:List aU)(w:World)(hc:0≤aC)(a6:aC≤9999)(h1:1≤c)(h2:c≤9999-aC)
  (af:xB 15 #[.agg #[aA,aB,.slice p n d,a,b,aE,aF,aC,aG,.slice q m c2]] w true)
  (HL:xC 59 #[.agg #[aA,aB,.slice p n d,a,b,aE,aF,aC,aG,.slice q m c2]] w fun w' e w''=> ∃p' cap' q' c2',e= .returned (.agg #[aA,aB,.slice p' n cap',a,b,aE,aF,aC,aG,.slice q' m c2'])∧w''.ownsRow w' TI 1 (.slice p' n cap') n (ivs xs)∧w''.ownsRow w' TV 4 (.slice q' m c2') m (vs.flatMap aD)∧Ext w' w'')
  (HI:Hid (∀w',U 43 #[c,I 1,(9999-aC:Int)] w' fun e w''=>e= .returned (.bool true)∧w'=w'')):
  U 60 #[.agg #[aA,aB,.slice p n d,a,b,aE,aF,aC,aG,.slice q m c2],.agg #[I 3,c,ae]] w fun e w'=> ∃p' cap' q' c2',e= .returned (.tuple #[.agg #[aA,aB,.slice p' n cap',a,b,aE,aF,(aC+c:Int),aG,.slice q' m c2'],(aC+c:Int),.bool true])∧w'.ownsRow w TI 1 (.slice p' n cap') n (ivs xs)∧w'.ownsRow w TV 4 (.slice q' m c2') m (vs.flatMap aD)∧Ext w w':=by
 go_enter func60,ntmps60;go_wp2_with fail;refine Ω (af _ ((((Mem.start w).c0 aN #[aA,aB,.slice p n d,a,b,aE,aF,aC,aG,.slice q m c2]).c1 THD #[I 3,c,ae]).c2 aN zT).ext) fun w1 ah=>?_
 have M1:=(((((Mem.start w).c0 aN #[aA,aB,.slice p n d,a,b,aE,aF,aC,aG,.slice q m c2]).c1 THD #[I 3,c,ae]).c2 aN zT).adv ah)
 clear ah af;obtain⟨l,o,r,s,t,u,x,f,y,z⟩:=(M1.bk 2).ten;go_wp2_with fail;clear l o r s t u x f y z;refine(HL _ M1.ext).mono ?_;rintro e w2 ⟨p1,g,q1,h,rfl,ho,hq,hx⟩;have M2:=(M1.own2 hx ho hq (aT2 _) (by decide))
 clear M1 hx ho hq;have ab:=M2.hi 3;have ad:=M2.hi 4;obtain⟨l,o,r,s,t,u,x,f,y,z⟩:=(M2.bk 4).ten;obtain⟨ai,aa,aj⟩:=(M2.bk 3).tri;have k1:IntKind.i64.wrap (9999-aC)=9999-aC:=aT5 _ (by omega);go_wp2_with fail;refine(HI _).mono ?_;rintro e _ ⟨rfl,rfl⟩;clear HI k1 l o r s t u x f y z ai aa aj;have M3:=(M2.c0 aN #[aA,aB,.slice p1 n g,a,b,aE,aF,aC,aG,.slice q1 m h])
 generalize (w2.alloc (.cells #[aA,aB,.slice p1 n g,a,b,aE,aF,aC,aG,.slice q1 m h] aN))=w3 at M3⊢;clear M2 ab ad;have f:=(M3.bk 5).cl 7;have aa:=(M3.bk 4).cl 1;obtain⟨d0,ak,d1,al,d2,am,d3,an,d4,ao,d5,ap,d6,aq,d7,ar,d8,au,d9,av⟩:=(M3.bk 0).tenf;obtain⟨f0,aw,f1,ax,f2,ay,f3,az,f4,a0,f5,a1,f6,a2,f7,a3,f8,a4,f9,a5⟩:=(M3.bk 3).tenf;obtain⟨j,k⟩:=M3.nq 0 3;have k2:IntKind.i64.wrap (aC+c)=aC+c:=aT5 _ (by omega);have hd:decide (aC+c<0)=false:=by simp;omega
 clear HL;have M4:=(M3.st 0 7 (I (aC+c)))
 go_wp2;clear f aa d0 ak d1 al d2 am d3 an d4 ao d5 ap d6 aq d7 ar d8 au d9 av f0 aw f1 ax f2 ay f3 az f4 a0 f5 a1 f6 a2 f7 a3 f8 a4 f9 a5 j k;have M5:=(M4.put10 (i:=3) rfl (I aA) (I aB) (.slice p1 n g) (I a) (I b) (I aE) (I aF) (I (aC+c)) (I aG) (.slice q1 m h))
 generalize ag:World.setCell _ _ _=wz;rw[ag]at M5;clear ag M3 M4;obtain⟨y0,y1,y2,y3,y4,y5,y6,y7,y8,y9⟩:=(M5.bk 3).ten;exact bodyPost_ret (v:= .tuple #[.agg #[aA,aB,.slice p1 n g,a,b,aE,aF,(aC+c:Int),aG,.slice q1 m h],(aC+c:Int),.bool true]) (by simp[results,results60,go_sem, *]) rfl ⟨p1,g,q1,h,rfl,(M5.ow 1),(M5.ow 2),M5.ext⟩
theorem zJ (aA aB a b aE aF aC aG t aa:Int)(p:OA)(n c:Nat)(q:OA)(m c2:Nat)(xs:List Int)(vs:List aU)(w:World)(hc:0≤aC)(aw:aC≤9999)
  (ab:xB 15 #[.agg #[aA,aB,.slice p n c,a,b,aE,aF,aC,aG,.slice q m c2]] w true)
  (HL:xC 59 #[.agg #[aA,aB,.slice p n c,a,b,aE,aF,aC,aG,.slice q m c2]] w fun w' e w''=> ∃p' cap' q' c2',e= .returned (.agg #[aA,aB,.slice p' n cap',a,b,aE,aF,aC,aG,.slice q' m c2'])∧w''.ownsRow w' TI 1 (.slice p' n cap') n (ivs xs)∧w''.ownsRow w' TV 4 (.slice q' m c2') m (vs.flatMap aD)∧Ext w' w'')
  (HI:Hid (∀w',U 43 #[t,I 1,(9999-aC:Int)] w' fun e w''=>e= .returned (.bool false)∧w'=w'')):
  U 60 #[.agg #[aA,aB,.slice p n c,a,b,aE,aF,aC,aG,.slice q m c2],.agg #[I 3,t,aa]] w fun e w'=> ∃p' cap' q' c2',e= .returned (.tuple #[.agg #[aA,aB,.slice p' n cap',a,b,aE,aF,aC,aG,.slice q' m c2'],(-1:Int),.bool false])∧w'.ownsRow w TI 1 (.slice p' n cap') n (ivs xs)∧w'.ownsRow w TV 4 (.slice q' m c2') m (vs.flatMap aD)∧Ext w w':=by
 go_enter func60,ntmps60;go_wp2_with fail;refine Ω (ab _ ((((Mem.start w).c0 aN #[aA,aB,.slice p n c,a,b,aE,aF,aC,aG,.slice q m c2]).c1 THD #[I 3,t,aa]).c2 aN zT).ext) fun w1 ag=>?_
 have M1:=(((((Mem.start w).c0 aN #[aA,aB,.slice p n c,a,b,aE,aF,aC,aG,.slice q m c2]).c1 THD #[I 3,t,aa]).c2 aN zT).adv ag)
 clear ag ab;obtain⟨d,f,g,h,j,k,l,o,r,s⟩:=(M1.bk 2).ten;go_wp2_with fail;clear d f g h j k l o r s;refine(HL _ M1.ext).mono ?_;rintro e w2 ⟨p1,ad,q1,ae,rfl,ho,hq,hx⟩;have M2:=(M1.own2 hx ho hq (aT2 _) (by decide))
 clear M1 hx ho hq;have y:=M2.hi 3;have z:=M2.hi 4;obtain⟨d,f,g,h,j,k,l,o,r,s⟩:=(M2.bk 4).ten;obtain⟨ah,ai,aj⟩:=(M2.bk 3).tri;have k1:IntKind.i64.wrap (9999-aC)=9999-aC:=aT5 _ (by omega);go_wp2_with fail;refine(HI _).mono ?_;rintro e _ ⟨rfl,rfl⟩;clear HI k1 d f g h j k l o r s ah ai aj;have M3:=(M2.c0 aN #[aA,aB,.slice p1 n ad,a,b,aE,aF,aC,aG,.slice q1 m ae])
 generalize (w2.alloc (.cells #[aA,aB,.slice p1 n ad,a,b,aE,aF,aC,aG,.slice q1 m ae] aN))=w3 at M3⊢;clear M2 y z;obtain⟨d,f,g,h,j,k,l,o,r,s⟩:=(M3.bk 5).ten;go_wp2_with fail;clear d f g h j k l o r s;refine(HL _ M3.ext).mono ?_;rintro e w9 ⟨p9,u,q9,x,rfl,ho,hq,hx⟩;have M4:=(M3.own2 hx ho hq (aT2 _) (by decide))
 clear M3 hx ho hq HL;obtain⟨f0,ak,f1,al,f2,am,f3,an,f4,ao,f5,ap,f6,aq,f7,ar,f8,au,f9,av⟩:=(M4.bk 5).tenf;go_wp2;clear f0 ak f1 al f2 am f3 an f4 ao f5 ap f6 aq f7 ar f8 au f9 av;have M5:=(M4.put10 (i:=5) rfl (I aA) (I aB) (.slice p9 n u) (I a) (I b) (I aE) (I aF) (I aC) (I aG) (.slice q9 m x))
 generalize af:World.setCell _ _ _=wz;rw[af]at M5;clear af M4;obtain⟨y0,y1,y2,y3,y4,y5,y6,y7,y8,y9⟩:=(M5.bk 5).ten;exact bodyPost_ret (v:= .tuple #[.agg #[aA,aB,.slice p9 n u,a,b,aE,aF,aC,aG,.slice q9 m x],(-1:Int),.bool false]) (by simp[results,results60,go_sem, *]) rfl ⟨p9,u,q9,x,rfl,(M5.ow 0),(M5.ow 1),M5.ext⟩
theorem zK (aA aB a b aE aF aC aG c d k l:Int)(p:OA)(n f:Nat)(q:OA)(m c2:Nat)(xs:List Int)(vs ak:List aU)(w:World)(h0:0≤d)
  (ag:xB 15 #[.agg #[aA,aB,.slice p n f,a,b,aE,aF,aC,aG,.slice q m c2]] w true)
  (HL:xC 59 #[.agg #[aA,aB,.slice p n f,a,b,aE,aF,aC,aG,.slice q m c2]] w fun w' e w''=> ∃p' cap' q' c2',e= .returned (.agg #[aA,aB,.slice p' n cap',a,b,aE,aF,aC,aG,.slice q' m c2'])∧w''.ownsRow w' TI 1 (.slice p' n cap') n (ivs xs)∧w''.ownsRow w' TV 4 (.slice q' m c2') m (vs.flatMap aD)∧Ext w' w'')
  (HP:xC 103 #[.agg #[aA,aB,.slice p n f,a,b,aE,aF,aC,aG,.slice q m c2],k,l] w fun w' e w''=> ∃p' cap' q' c2',e= .returned (.tuple #[.agg #[aA,aB,.slice p' n cap',a,b,aE,aF,aC,c,.slice q' m c2'],d,.bool true])∧w''.ownsRow w' TI 1 (.slice p' n cap') n (ivs xs)∧w''.ownsRow w' TV 4 (.slice q' m c2') m (ak.flatMap aD)∧Ext w' w''):
  U 60 #[.agg #[aA,aB,.slice p n f,a,b,aE,aF,aC,aG,.slice q m c2],.agg #[I 1,k,l]] w fun e w'=> ∃p' cap' q' c2',e= .returned (.tuple #[.agg #[aA,aB,.slice p' n cap',a,b,aE,aF,aC,c,.slice q' m c2'],d,.bool true])∧w'.ownsRow w TI 1 (.slice p' n cap') n (ivs xs)∧w'.ownsRow w TV 4 (.slice q' m c2') m (ak.flatMap aD)∧Ext w w':=by
 go_enter func60,ntmps60;go_wp2_with fail;refine Ω (ag _ ((((Mem.start w).c0 aN #[aA,aB,.slice p n f,a,b,aE,aF,aC,aG,.slice q m c2]).c1 THD #[I 1,k,l]).c2 aN zT).ext) fun w1 aj=>?_
 have M1:=(((((Mem.start w).c0 aN #[aA,aB,.slice p n f,a,b,aE,aF,aC,aG,.slice q m c2]).c1 THD #[I 1,k,l]).c2 aN zT).adv aj)
 clear aj ag;obtain⟨o,r,s,t,u,x,y,z,aa,ab⟩:=(M1.bk 2).ten;go_wp2_with fail;clear o r s t u x y z aa ab;refine(HL _ M1.ext).mono ?_;rintro e w2 ⟨p1,ah,q1,ai,rfl,ho,hq,hx⟩;have M2:=(M1.own2 hx ho hq (aT2 _) (by decide))
 clear M1 hx ho hq;have ad:=M2.hi 3;have ae:=M2.hi 4;obtain⟨o,r,s,t,u,x,y,z,aa,ab⟩:=(M2.bk 4).ten;obtain⟨al,am,an⟩:=(M2.bk 3).tri;go_wp2_with fail;clear o r s t u x y z aa ab al am an;refine(HP _ (M2.c0 aN #[aA,aB,.slice p1 n ah,a,b,aE,aF,aC,aG,.slice q1 m ai]).ext).mono ?_;rintro e w3 ⟨p5,g,q5,h,rfl,ho,hq,hx⟩;have M3:=((M2.c0 aN #[aA,aB,.slice p1 n ah,a,b,aE,aF,aC,aG,.slice q1 m ai]).own2 hx ho hq (aT2 _) (by decide))
 clear M2 ad ae hx ho hq HP HL;have af:=M3.hi 2;obtain⟨d0,ao,d1,ap,d2,aq,d3,ar,d4,au,d5,av,d6,aw,d7,ax,d8,ay,d9,az⟩:=(M3.bk 2).tenf;have hd:decide (d<0)=false:=by simp;omega
 go_upto_region 16 with fail;clear d0 ao d1 ap d2 aq d3 ar d4 au d5 av d6 aw d7 ax d8 ay d9 az af;have M4:=(M3.put10 (i:=2) rfl (I aA) (I aB) (.slice p5 n g) (I a) (I b) (I aE) (I aF) (I aC) (I c) (.slice q5 m h))
 generalize j:World.setCell _ _ _=w4;rw[j]at M4;clear j M3;have M5:=(M4.adv ((Ext.refl _).alloc (.cells #[aA,aB,.slice p5 n g,a,b,aE,aF,aC,c,.slice q5 m h] aN)))
 generalize (w4.alloc (.cells #[aA,aB,.slice p5 n g,a,b,aE,aF,aC,c,.slice q5 m h] aN))=w5 at M5⊢;clear M4;obtain⟨e0,e1,e2,e3,e4,e5,e6,e7,e8,e9⟩:=(M5.bk 2).ten;obtain⟨f0,a0,f1,a1,f2,a2,f3,a3,f4,a4,f5,a5,f6,a6,f7,a7,f8,a8,f9,a9⟩:=(M5.bk 5).tenf;go_wp2;clear e0 e1 e2 e3 e4 e5 e6 e7 e8 e9 f0 a0 f1 a1 f2 a2 f3 a3 f4 a4 f5 a5 f6 a6 f7 a7 f8 a8 f9 a9;have M6:=(M5.put10 (i:=5) rfl (I aA) (I aB) (.slice p5 n g) (I a) (I b) (I aE) (I aF) (I aC) (I c) (.slice q5 m h))
 generalize j:World.setCell _ _ _=wz;rw[j]at M6;clear j M5;obtain⟨y0,y1,y2,y3,y4,y5,y6,y7,y8,y9⟩:=(M6.bk 5).ten;exact bodyPost_ret (v:= .tuple #[.agg #[aA,aB,.slice p5 n g,a,b,aE,aF,aC,c,.slice q5 m h],d,.bool true]) (by simp[results,results60,go_sem, *]) rfl ⟨p5,g,q5,h,rfl,(M6.ow 0),(M6.ow 1),M6.ext⟩
theorem aBe (aA aB a c aE aF aC aG u x:Int)(p:OA)(n d:Nat)(q:OA)(m c2:Nat)(xs:List Int)(vs:List aU)(w:World)
  (ae:xB 15 #[.agg #[aA,aB,.slice p n d,a,c,aE,aF,aC,aG,.slice q m c2]] w true)
  (HL:xC 59 #[.agg #[aA,aB,.slice p n d,a,c,aE,aF,aC,aG,.slice q m c2]] w fun w' e w''=> ∃p' cap' q' c2',e= .returned (.agg #[aA,aB,.slice p' n cap',a,c,aE,aF,aC,aG,.slice q' m c2'])∧w''.ownsRow w' TI 1 (.slice p' n cap') n (ivs xs)∧w''.ownsRow w' TV 4 (.slice q' m c2') m (vs.flatMap aD)∧Ext w' w'')
  (HP:xC 103 #[.agg #[aA,aB,.slice p n d,a,c,aE,aF,aC,aG,.slice q m c2],u,x] w fun w' e w''=> ∃p' cap' q' c2' b,e= .returned (.tuple #[.agg #[aA,aB,.slice p' n cap',a,c,aE,aF,aC,aG,.slice q' m c2'],b,.bool false])∧Ext w' w''):
  U 60 #[.agg #[aA,aB,.slice p n d,a,c,aE,aF,aC,aG,.slice q m c2],.agg #[I 1,u,x]] w fun e w'=> ∃p' cap' q' c2',e= .returned (.tuple #[.agg #[aA,aB,.slice p' n cap',a,c,aE,aF,aC,aG,.slice q' m c2'],(-1:Int),.bool false])∧w'.ownsRow w TI 1 (.slice p' n cap') n (ivs xs)∧w'.ownsRow w TV 4 (.slice q' m c2') m (vs.flatMap aD)∧Ext w w':=by
 go_enter func60,ntmps60;go_wp2_with fail;refine Ω (ae _ ((((Mem.start w).c0 aN #[aA,aB,.slice p n d,a,c,aE,aF,aC,aG,.slice q m c2]).c1 THD #[I 1,u,x]).c2 aN zT).ext) fun w1 ak=>?_
 have M1:=(((((Mem.start w).c0 aN #[aA,aB,.slice p n d,a,c,aE,aF,aC,aG,.slice q m c2]).c1 THD #[I 1,u,x]).c2 aN zT).adv ak)
 clear ak ae;obtain⟨f,g,h,j,k,l,o,r,s,t⟩:=(M1.bk 2).ten;go_wp2_with fail;clear f g h j k l o r s t;refine(HL _ M1.ext).mono ?_;rintro e w2 ⟨p1,af,q1,ah,rfl,ho,hq,hx⟩;have M2:=(M1.own2 hx ho hq (aT2 _) (by decide))
 clear M1 hx ho hq;have aa:=M2.hi 3;have ab:=M2.hi 4;obtain⟨f,g,h,j,k,l,o,r,s,t⟩:=(M2.bk 4).ten;obtain⟨al,am,an⟩:=(M2.bk 3).tri;go_wp2_with fail;clear f g h j k l o r s t al am an;refine(HP _ (M2.c0 aN #[aA,aB,.slice p1 n af,a,c,aE,aF,aC,aG,.slice q1 m ah]).ext).mono ?_;rintro e w3 ⟨p5,ag,q5,ai,b5,rfl,hx⟩;have M3:=((M2.c0 aN #[aA,aB,.slice p1 n af,a,c,aE,aF,aC,aG,.slice q1 m ah]).adv hx)
 clear M2 aa ab hx HP;have ad:=M3.hi 5;obtain⟨f,g,h,j,k,l,o,r,s,t⟩:=(M3.bk 5).ten;go_wp2_with fail;clear f g h j k l o r s t;refine(HL _ (M3.c0 aN #[aA,aB,.slice p5 n ag,a,c,aE,aF,aC,aG,.slice q5 m ai]).ext).mono ?_;rintro e w9 ⟨p9,y,q9,z,rfl,ho,hq,hx⟩;have M4:=((M3.c0 aN #[aA,aB,.slice p5 n ag,a,c,aE,aF,aC,aG,.slice q5 m ai]).own2 hx ho hq (aT2 _) (by decide))
 clear M3 ad hx ho hq HL;obtain⟨f0,ao,f1,ap,f2,aq,f3,ar,f4,au,f5,av,f6,aw,f7,ax,f8,ay,f9,az⟩:=(M4.bk 6).tenf;go_wp2;clear f0 ao f1 ap f2 aq f3 ar f4 au f5 av f6 aw f7 ax f8 ay f9 az;have M5:=(M4.put10 (i:=6) rfl (I aA) (I aB) (.slice p9 n y) (I a) (I c) (I aE) (I aF) (I aC) (I aG) (.slice q9 m z))
 generalize aj:World.setCell _ _ _=wz;rw[aj]at M5;clear aj M4;obtain⟨y0,y1,y2,y3,y4,y5,y6,y7,y8,y9⟩:=(M5.bk 6).ten;exact bodyPost_ret (v:= .tuple #[.agg #[aA,aB,.slice p9 n y,a,c,aE,aF,aC,aG,.slice q9 m z],(-1:Int),.bool false]) (by simp[results,results60,go_sem, *]) rfl ⟨p9,y,q9,z,rfl,(M5.ow 0),(M5.ow 1),M5.ext⟩
end
end Go.Proofs.YtbgkcehffiogcabGreatDoor
