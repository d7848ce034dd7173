/-
  Texts of this proof, packed (@packed).
-/
import Derived.Test.YtpelpnfhbepokaaGreatDoorU12
import Derived.Test.YtpelpnfhbepokaaGreatDoorU13
import Derived.Test.YtpelpnfhbepokaaGreatDoorU17
import Derived.Test.YtpelpnfhbepokaaGreatDoorU20
namespace Go.Proofs.YtpelpnfhbepokaaGreatDoor
open Go.RowKit
set_option linter.unusedVariables false
set_option linter.unusedSimpArgs false
theorem oB {xs ys:List Int}(h:List.Perm xs ys):gE xs=gE ys:=
 mK ((kV _).trans (h.filter _)) (kF _)
theorem yZ (aD:Int): ∀(cs:List Int) (vs:List aQ),bS aD cs vs=true↔vs.map (·.1)=cs∧ ∀v∈vs,fN aD v=true:=by
 intro cs;induction cs with
 |nil=>intro vs;cases vs<;>simp[bS]
 |cons c cs ih=>
  intro vs;cases vs with
  |nil=>simp[bS]
  |cons v vs=>
   simp only[bS,Bool.and_eq_true,decide_eq_true_eq,ih,List.map_cons,List.cons.injEq,List.forall_mem_cons];constructor
   ·rintro⟨⟨a,b⟩,c,d⟩;exact⟨⟨a,c⟩,b,d⟩
   rintro⟨⟨a,c⟩,b,d⟩;exact⟨⟨a,b⟩,c,d⟩
theorem gJ (h:aW):bU h=true↔aN h.aA h.aB h.cells=true∧bJ h.free h.step h.aE h.aG=true∧(0≤h.aD∧h.aD≤9999∧0≤h.aF∧h.aF≤99999)∧h.vs.map (·.1)=gE h.cells∧ ∀v∈h.vs,fN h.aD v=true:=by
 unfold bU uV;simp only[Bool.and_eq_true,decide_eq_true_eq,yZ];constructor
 ·rintro⟨⟨⟨a,b⟩,c⟩,d,e⟩;exact⟨a,b,c,d,e⟩
 rintro⟨a,b,c,d,e⟩;exact⟨⟨⟨a,b⟩,c⟩,d,e⟩
theorem jJ (aD:Int)(v:aQ):fN aD v=true↔cZ v.2.1 v.2.2.1 v.2.2.2=true∧v.2.2.2≤aD:=by unfold fN;simp
theorem uR (v:aQ): ∀vs:List aQ,(kH v vs).map (·.1)=kY v.1 (vs.map (·.1))
 | []=>rfl
 |u::vs=>by
  by_cases hc:u.1<v.1
  ·have e:kH v (u::vs)=u::kH v vs:=by simp[kH,hc]
   rw[e,List.map_cons,uR v vs,List.map_cons];simp[kY,hc]
  have e:kH v (u::vs)=v::u::vs:=by simp[kH,hc]
  rw[e];simp[kY,hc]
theorem aJk (v:aQ)(vs:List aQ): ∀u∈kH v vs,u=v∨u∈vs:=by
 intro u hu;unfold kH at hu;rcases List.mem_append.1 hu with h|h
 ·exact .inr ((List.takeWhile_sublist _).subset h)
 rcases List.mem_cons.1 h with h|h
 ·exact .inl h
 exact .inr ((List.dropWhile_sublist _).subset h)
theorem qI (v:aQ)(vs:List aQ):(kH v vs).length=vs.length+1:=by have:=congrArg List.length (uR v vs);rw[(mC _ _).length_eq]at this;simpa using this
theorem aKy {zs:List Int}{id:Int}(h0:zs.getD 0 0=0)(hl:0<zs.length)(hi:1≤id):gE (zs.set 0 id)=kY id (gE zs):=by
 cases zs with
 |nil=>simp at hl
 |cons z t=>
  obtain rfl:z=0:=by simpa using h0
  symm;refine mK ?_ (sX _ _ (kF _));have e:dJ ((0::t).set 0 id)=id::dJ (0::t):=by unfold dJ;rw[List.set_cons_zero,List.filter_cons_of_pos (by simp;omega),List.filter_cons_of_neg (by simp)]
  rw[e];exact(mC _ _).trans (List.Perm.cons _ (kV _))
theorem aI6 {zs:List Int}{id:Int}(h0:zs[0]? =some id) (hi:1≤id):gE (zs.set 0 0)=(gE zs).erase id:=by
 cases zs with
 |nil=>simp at h0
 |cons z t=>
  obtain rfl:z=id:=by simpa using h0
  symm;refine mK ?_ ((kF _).sublist List.erase_sublist);have e:dJ (z::t)=z::dJ ((z::t).set 0 0):=by unfold dJ;rw[List.set_cons_zero,List.filter_cons_of_pos (by simp;omega),List.filter_cons_of_neg (by simp)]
  have hp:=(kV (dJ (z::t))).erase z;rw[e,List.erase_cons_head,←e]at hp;exact hp
theorem vP (id:Int): ∀vs:List aQ,vs.any (fun v=>v.1==id)=true→(vs.eraseIdx (vs.findIdx (fun v=>v.1==id))).map (·.1)=(vs.map (·.1)).erase id
 | [],h=>by simp at h
 |v::vs,h=>by
  by_cases hv:v.1=id
  ·have e:(v::vs).findIdx (fun v=>v.1==id)=0:=by simp[List.findIdx_cons,hv]
   rw[e,List.map_cons,hv,List.erase_cons_head];rfl
  have hb:(v.1==id)=false:=by simpa using hv
  have e:(v::vs).findIdx (fun v=>v.1==id)=vs.findIdx (fun v=>v.1==id)+1:=by simp[List.findIdx_cons,hb]
  have h':vs.any (fun v=>v.1==id)=true:=by simpa[hv]using h
  rw[e,List.eraseIdx_cons_succ,List.map_cons,vP id vs h',List.map_cons,List.erase_cons_tail (by simpa using hv)]
theorem lD {id:Int}{vs:List aQ}{v:aQ}(h:fA id vs=some v):vs.any (fun v=>v.1==id)=true∧v.1=id∧vs[(vix id vs).toNat]? =some v∧(vix id vs).toNat<vs.length∧vix id vs=((vix id vs).toNat:Int)∧(vix id vs).toNat=vs.findIdx (fun v=>v.1==id):=by
 have ha:vs.any (fun v=>v.1==id)=true:=by unfold fA at h;exact List.any_eq_true.2 ⟨v,List.mem_of_find?_eq_some h,by simpa using List.find?_some h⟩
 rcases lY id vs with⟨h1,h2⟩|⟨k,a1,a2,a3,hk,h1,hx,h2⟩
 ·rw[h2]at h;cases h
 rw[h2]at h;injection h with h;subst h;have e:vix id vs=(vs.findIdx (fun v=>v.1==id):Int):=by unfold vix;rw[if_pos ha]
 refine⟨ha,rfl,by rw[h1];simpa using hx,by rw[h1];simpa using hk,by rw[h1];simp,by rw[e];simp⟩
theorem aJa {α:Type}{l:List α}{k:Nat}{a:α}(h:l[k]? =some a):l.set k a=l:=by
 refine List.ext_getElem? (fun i=> ?_);rw[List.getElem?_set];split
 ·rename_i e;subst e;split
  ·exact h.symm
  rename_i hl;rw[List.getElem?_eq_none (by omega)]at h;cases h
 rfl
theorem aJd {vs:List aQ}{k:Nat}{u:aQ}(s:Int×Int×Int)(hk:vs[k]? =some u):(vs.set k (u.1,s)).map (·.1)=vs.map (·.1):=by rw[List.map_set];exact aJa (by rw[List.getElem?_map,hk];rfl)
def cL (h:aW)(k a b:Int):Option (aW×Int):=
 if k=0 then
  (if 0≤(cF h.aA h.aB h.cells a).2 then some ({h with cells:=(cF h.aA h.aB h.cells a).1,vs:=kH (a,h.aD,0,h.aD) h.vs},(cF h.aA h.aB h.cells a).2)else none)
 else if k=1 then pL h a b
 else if k=2 then
  (if eH h a=true∧0≤(bT h.aA h.aB h.cells a).2 then some ({h with cells:=(bT h.aA h.aB h.cells a).1,vs:=h.vs.eraseIdx (vix a h.vs).toNat},(bT h.aA h.aB h.cells a).2)else none)
 else if k=3 then(if 1≤a∧a≤9999-h.aD then some ({h with aD:=h.aD+a},h.aD+a)else none)
 else if k=4 then(if aZ h.aA h.aB h.cells a b=true then some ({h with cells:=bC h.aA h.aB h.cells a b},0)else none)
 else none
theorem pI {aA aB:Int}{xs:List Int}{id:Int}(a:aN aA aB xs=true)(h:0≤(cF aA aB xs id).2):
  ∃zs,List.Perm zs xs∧zs.getD 0 0=0∧1≤id∧(cF aA aB xs id).1=zs.set 0 id∧aN aA aB (zs.set 0 id)=true∧(cF aA aB xs id).2≤5:=by
 unfold cF lE at h⊢;cases hr:gM aA xs with
 |none=>rw[hr]at h;simp at h
 |some r=>
  rw[hr]at h;obtain⟨f1,f2,f3,f4,f5⟩:=oA a hr;have hp:=(nJ r.2 xs a).2.2;rw[f1]at hp;unfold cP at h⊢;by_cases hc:r.1.getD 0 0=0∧1≤id∧aN aA aB (r.1.set 0 id)=true
  ·simp only[hc,and_self,if_true]at h⊢;exact⟨r.1,hp,hc.1,trivial,rfl,hc.2.2,by omega⟩
  simp only[if_neg hc]at h;simp at h
theorem mV {aA aB:Int}{xs:List Int}{id:Int}(a:aN aA aB xs=true)(h:0≤(bT aA aB xs id).2):
  ∃ys,List.Perm ys xs∧ys[0]? =some id∧1≤id∧(bT aA aB xs id).1=ys.set 0 0∧(bT aA aB xs id).2≤60:=by
 unfold bT lM at h⊢;by_cases hc:id<1∨id∉xs
 ·rw[if_pos hc]at h;simp at h
 rw[if_neg hc]at h⊢;have hm:id∈xs:=by
  by_cases hm:id∈xs
  ·exact hm
  exact absurd (.inr hm) hc
 have h1: ¬id<1:=fun e=>hc (.inl e)
 obtain⟨c,hx,hi⟩:=vI hm;rw[hi]at h⊢;rw[Int.toNat_natCast]at h⊢;cases hb:dH aA xs c with
 |none=>rw[hb]at h;simp at h
 |some l=>
  rw[hb]at h;obtain⟨g1,ys,g2,g3,g4,g5⟩:=(oC a hx (by omega)).2 l hb;have hp:=(nJ l xs a).2.2;rw[g2]at hp;refine⟨ys,hp,g5,by omega,?_,?_⟩
  ·simp[g2]
  simp;omega
theorem aCv {aA aB:Int}{xs:List Int}(h:aN aA aB xs=true):aN aA aB (xs.set 0 0)=true:=by
 unfold aN at*;rw[Bool.and_eq_true]at*;refine⟨by rw[List.length_set];exact h.1,?_⟩;obtain⟨h1,h2,h3⟩:=(gC _ _).1 h.2;refine(gC _ _).2 ⟨fun x hx=> ?_,fun x hx=>by simp,?_⟩
 ·rcases List.mem_or_eq_of_mem_set hx with hx|rfl
  ·exact h1 x hx
  omega
 cases xs with
 |nil=>simp
 |cons x t=>
  rw[List.set_cons_zero,List.filter_cons_of_neg (by simp)];refine h3.sublist ?_;rw[List.filter_cons];split
  ·exact List.sublist_cons_self _ _
  exact List.Sublist.refl _
theorem aKn {f s p c i pd a now:Int}(h:bJ f s p c=true)(hi:0≤i)(h3:i≤now)(h4:now≤9999):0≤mE f s p c (now-i)∧mE f s p c (now-i)≤693:=by have hb:=qW (m:=now-i) h (by omega) (by omega);omega
theorem vJ {h:aW}(e:bU h=true){k a b:Int}{h':aW}{n:Int}(hd:cL h k a b=some (h',n)):
  bU h'=true∧(0≤n∧n≤9999)∧h'.cells.length=h.cells.length∧h'.aA=h.aA∧h'.aB=h.aB∧h'.free=h.free∧h'.step=h.step∧h'.aE=h.aE∧h'.aG=h.aG:=by
 obtain⟨q1,q2,q3,q4,q5⟩:=(gJ h).1 e;have d:0<h.cells.length:=by have:=cG (cK q1);omega
 unfold cL at hd;split at hd
 ·split at hd
  ·rename_i h0;obtain⟨zs,s1,s2,s3,s4,s5,s6⟩:=pI q1 h0;injection hd with hd;simp only[Prod.mk.injEq]at hd;obtain⟨rfl,rfl⟩:=hd;rw[s4];refine⟨(gJ _).2 ⟨s5,q2,q3,?_,?_⟩,⟨h0,by omega⟩,by rw[List.length_set,s1.length_eq],rfl,rfl,rfl,rfl,rfl,rfl⟩
   ·dsimp only;rw[uR,aKy s2 (by rw[s1.length_eq];exact d) s3,q4,oB s1]
   intro v hv;rcases aJk _ _ v hv with rfl|hv
   ·exact(jJ _ _).2 ⟨by simp[cZ];omega,Int.le_refl _⟩
   exact q5 v hv
  cases hd
 split at hd
 ·unfold pL at hd;split at hd
  ·cases hd
  rename_i v hv;obtain⟨v1,v2,v3,v4,v5,v6⟩:=lD hv;obtain⟨s1,s2⟩:=(jJ _ _).1 (q5 v (List.mem_of_getElem? v3));obtain⟨b1,b2⟩:=kT q2 s1 s2 q3.2.1;obtain⟨t1,t2,t3,t4,t5,t6⟩:=fT s1;split at hd
  ·rename_i hp;have f:=aA0 b1 hp.1;injection hd with hd;simp only[Prod.mk.injEq]at hd;obtain⟨rfl,rfl⟩:=hd;refine⟨(gJ _).2 ⟨q1,q2,⟨q3.1,q3.2.1,?_,hp.2⟩,?_,?_⟩,⟨f.1,by omega⟩,rfl,rfl,rfl,rfl,rfl,rfl,rfl⟩
   ·dsimp only;omega
   ·dsimp only;rw[←q4,←v2];rw[←v2]at v3;exact aJd _ v3
   intro u hu;rcases List.mem_or_eq_of_mem_set hu with hu|rfl
   ·exact q5 u hu
   refine(jJ _ _).2 ?_;have hf:=aKn (pd:=v.2.2.1) (a:=v.2.2.2) (now:=h.aD) q2 t1 (by omega) q3.2.1;have g:bX h.free h.step h.aE h.aG v.2.1 v.2.2.1 v.2.2.2 h.aD=max (mE h.free h.step h.aE h.aG (h.aD-v.2.1)-v.2.2.1) 0:=by unfold bX;rw[if_pos (by simp[q2,s1,s2,q3.2.1])]
   have c:=hp.1;unfold gH at c⊢;split at c
   ·rename_i ha;rw[if_pos ha];split at c
    ·cases c
    rename_i hn;rw[if_neg hn];dsimp only;refine⟨?_,by omega⟩;unfold cZ;simp only[decide_eq_true_eq];omega
   cases c
  cases hd
 split at hd
 ·split at hd
  ·rename_i hm;obtain⟨ys,s1,s2,s3,s4,s5⟩:=mV q1 hm.2;injection hd with hd;simp only[Prod.mk.injEq]at hd;obtain⟨rfl,rfl⟩:=hd;rw[s4];refine⟨(gJ _).2 ⟨aCv (tB q1 s1),q2,q3,?_,?_⟩,⟨hm.2,by omega⟩,by rw[List.length_set,s1.length_eq],rfl,rfl,rfl,rfl,rfl,rfl⟩
   ·dsimp only;have hv: ∃v,fA a h.vs=some v:=by
     have:=hm.1;unfold eH eM at this;rw[if_pos e]at this;cases hv:fA a h.vs with
     |none=>rw[hv]at this;simp at this
     |some v=>exact⟨v,rfl⟩
    obtain⟨v,hv⟩:=hv;obtain⟨v1,v2,v3,v4,v5,v6⟩:=lD hv;rw[v6,vP a h.vs v1,aI6 s2 s3,q4,oB s1]
   intro v hv;exact q5 v (List.mem_of_mem_eraseIdx hv)
  cases hd
 split at hd
 ·split at hd
  ·rename_i hw;injection hd with hd;simp only[Prod.mk.injEq]at hd;obtain⟨rfl,rfl⟩:=hd;refine⟨(gJ _).2 ⟨q1,q2,⟨by dsimp only;omega,by dsimp only;omega,q3.2.2⟩,q4,fun v hv=> ?_⟩,⟨by omega,by omega⟩,rfl,rfl,rfl,rfl,rfl,rfl,rfl⟩;obtain⟨s1,s2⟩:=(jJ _ _).1 (q5 v hv);exact(jJ _ _).2 ⟨s1,by dsimp only;omega⟩
  cases hd
 split at hd
 ·split at hd
  ·injection hd with hd;simp only[Prod.mk.injEq]at hd;obtain⟨rfl,rfl⟩:=hd;refine⟨(gJ _).2 ⟨iH a b q1,q2,q3,?_,q5⟩,⟨by omega,by omega⟩,cS _ _ _ _ _,rfl,rfl,rfl,rfl,rfl,rfl⟩;dsimp only;rw[q4,oB (mM a b)]
  cases hd
 cases hd
set_option maxHeartbeats 8000000
set_option maxRecDepth 100000
def xJ (h:aW)(id:Int):Value:=match eM h id with
 |some s=> .tuple #[.agg #[s.1,s.2.1,s.2.2],.bool true]
 |none=> .tuple #[.agg #[(),(),()],.bool false]
theorem aCl (aA aB a b aE aG aD aF id:Int)(p:OA)(n cap:Nat)(q:OA)(m c2:Nat)(w:World)
  (HV:xB 18 #[.agg #[aA,aB,.slice p n cap,a,b,aE,aG,aD,aF,.slice q m c2]] w false):
  Calls Tryz.prog 16 #[.agg #[aA,aB,.slice p n cap,a,b,aE,aG,aD,aF,.slice q m c2],id] w fun e w'=>e= .returned (.tuple #[.agg #[(),(),()],.bool false])∧Ext w w':=by
 go_enter Tryz.func16,Tryz.ntmps16;go_wp2_with fail;refine(HV _ (by exact .alloc (.alloc (.refl _) _) _)).mono ?_;rintro e w1 ⟨rfl,d⟩;have f:Blk w1 w.heap.size 30 #[aA,aB,.slice p n cap,a,b,aE,aG,aD,aF,.slice q m c2]:=((Blk.new w _ _).alloc _).ext d;have c:Blk w1 (w.heap.size+1) 46 #[(),(),()]:=by have:=(Blk.new (w.alloc (.cells #[aA,aB,.slice p n cap,a,b,aE,aG,aD,aF,.slice q m c2] 30)) 46 #[(),(),()]).ext d;simpa using this
 have X1:Ext w w1:=(((Ext.refl w).alloc _).alloc _).trans d;have s1:w.heap.size+1<w1.heap.size:=c.lt;replace f:=xQ f;replace c:=xQ c;clear d;obtain⟨g,h,i,j,k,l,o,r,s,t⟩:=f.out.ten;obtain⟨z,u,aa,x,ab,y⟩:=c.out.trif;go_wp2;exact bodyPost_ret (v:= .tuple #[.agg #[(),(),()],.bool false]) (by simp[results,Tryz.results16,go_sem, *]) rfl ⟨rfl,xE⟩
theorem aEw (aA aB a b aE aG aD aF id:Int)(p:OA)(n cap:Nat)(q:OA)(m c2:Nat)(w:World)
  (HV:xB 18 #[.agg #[aA,aB,.slice p n cap,a,b,aE,aG,aD,aF,.slice q m c2]] w true)
  (HX:xC 50 #[.agg #[aA,aB,.slice p n cap,a,b,aE,aG,aD,aF,.slice q m c2],id] w fun w' e w''=>e= .returned (.int .i64 (-1))∧Ext w' w''):
  Calls Tryz.prog 16 #[.agg #[aA,aB,.slice p n cap,a,b,aE,aG,aD,aF,.slice q m c2],id] w fun e w'=>e= .returned (.tuple #[.agg #[(),(),()],.bool false])∧Ext w w':=by
 go_enter Tryz.func16,Tryz.ntmps16;go_wp2_with fail;refine(HV _ (by exact .alloc (.alloc (.refl _) _) _)).mono ?_;rintro e w1 ⟨rfl,f⟩;have d:Blk w1 w.heap.size 30 #[aA,aB,.slice p n cap,a,b,aE,aG,aD,aF,.slice q m c2]:=((Blk.new w _ _).alloc _).ext f;have c:Blk w1 (w.heap.size+1) 46 #[(),(),()]:=by have:=(Blk.new (w.alloc (.cells #[aA,aB,.slice p n cap,a,b,aE,aG,aD,aF,.slice q m c2] 30)) 46 #[(),(),()]).ext f;simpa using this
 have X1:Ext w w1:=(((Ext.refl w).alloc _).alloc _).trans f;have s1:w.heap.size+1<w1.heap.size:=c.lt;replace d:=xQ d;replace c:=xQ c;clear f;obtain⟨i,j,k,l,o,r,s,t,u,x⟩:=d.out.ten;obtain⟨ab,y,ad,z,ae,aa⟩:=c.out.trif;go_wp2_with fail;refine(HX _ (by exact X1)).mono ?_;rintro e w2 ⟨rfl,g⟩;have af:=xQ (d.out.ext g);have h:=xQ (c.out.ext g);have X2:Ext w w2:=X1.trans g;have s2:w.heap.size+1<w2.heap.size:=h.out.lt;clear i j k l o r s t u x ab ad ae y z aa g d c s1;obtain⟨ag,ah,ai,aj,ak,al,am,an,ao,ap⟩:=af.out.ten;obtain⟨av,aq,aw,ar,ax,au⟩:=h.out.trif;go_wp2;exact bodyPost_ret (v:= .tuple #[.agg #[(),(),()],.bool false]) (by simp[results,Tryz.results16,go_sem, *]) rfl ⟨rfl,xE⟩
theorem aCk (aA aB a c aE aG aD aF id:Int)(p:OA)(n cap:Nat)(q:OA)(m c2:Nat)(w:World)
  (k:Nat)(a1 a2 a3:Int)(vs:List aQ)(HK:Hid (vs[k]? =some (id,a1,a2,a3))) (hk:k<m) (hm:m≤9223372036854775807) (HS:Hid (Sl w q m c2 4 (vs.flatMap aC)))
  (HV:xB 18 #[.agg #[aA,aB,.slice p n cap,a,c,aE,aG,aD,aF,.slice q m c2]] w true)
  (HX:xC 50 #[.agg #[aA,aB,.slice p n cap,a,c,aE,aG,aD,aF,.slice q m c2],id] w fun w' e w''=>e= .returned (.int .i64 k)∧Ext w' w''):
  Calls Tryz.prog 16 #[.agg #[aA,aB,.slice p n cap,a,c,aE,aG,aD,aF,.slice q m c2],id] w fun e w'=>e= .returned (.tuple #[.agg #[a1,a2,a3],.bool true])∧Ext w w':=by
 go_enter Tryz.func16,Tryz.ntmps16;go_wp2_with fail;refine(HV _ (by exact .alloc (.alloc (.refl _) _) _)).mono ?_;rintro e w1 ⟨rfl,g⟩;have f:Blk w1 w.heap.size 30 #[aA,aB,.slice p n cap,a,c,aE,aG,aD,aF,.slice q m c2]:=((Blk.new w _ _).alloc _).ext g;have d:Blk w1 (w.heap.size+1) 46 #[(),(),()]:=by have:=(Blk.new (w.alloc (.cells #[aA,aB,.slice p n cap,a,c,aE,aG,aD,aF,.slice q m c2] 30)) 46 #[(),(),()]).ext g;simpa using this
 have X1:Ext w w1:=(((Ext.refl w).alloc _).alloc _).trans g;have s1:w.heap.size+1<w1.heap.size:=d.lt;replace f:=xQ f;replace d:=xQ d;clear g;obtain⟨j,l,o,r,s,u,x,y,z,aa⟩:=f.out.ten;obtain⟨af,ab,ag,ad,ah,ae⟩:=d.out.trif;go_wp2_with fail;refine(HX _ (by exact X1)).mono ?_;rintro e w2 ⟨rfl,h⟩;have ai:=xQ (f.out.ext h);have i:=xQ (d.out.ext h);have X2:Ext w w2:=X1.trans h;have s2:w.heap.size+1<w2.heap.size:=i.out.lt;clear j l o r s u x y z aa af ag ah ab ad ae h f d s1;obtain⟨aj,ak,al,am,an,ao,ap,aq,ar,au⟩:=ai.out.ten;obtain⟨az,aw,a0,ax,a4,ay⟩:=i.out.trif;obtain⟨b,a8,b0,b1,b2,b3,rfl,hv,hb,g0,g1,g2,g3⟩:=eN (HS.out.ext X2) hk;obtain⟨rfl,rfl,rfl,rfl⟩:id=b0∧a1=b1∧a2=b2∧a3=b3:=by have t:=HK.out;rw[hv]at t;simp only[Option.some.injEq,Prod.mk.injEq]at t;exact⟨t.1.symm,t.2.1.symm,t.2.2.1.symm,t.2.2.2.symm⟩
 have a7:b≠w.heap.size+1:=by have a6:=hb;obtain⟨b',av,_,_,_,_,hq,_,a5,_⟩:=eN HS hk;simp only[Option.some.injEq,Addr.mk.injEq]at hq;omega
 have i1:(0:Int)≤(k:Int):=by omega
 have i2:(k:Int)<(m:Int):=by omega
 clear hv;go_wp2;exact bodyPost_ret (v:= .tuple #[.agg #[a1,a2,a3],.bool true]) (by simp[results,Tryz.results16,go_sem, *]) rfl ⟨rfl,xE⟩
theorem aBf (aA aB a b aE aG aD aF id:Int)(p:OA)(n cap:Nat)(q:OA)(m c2:Nat)(w:World)
  (x:Int)
  (HX:xC 86 #[.agg #[aA,aB,.slice p n cap,a,b,aE,aG,aD,aF,.slice q m c2],id] w fun w' e w''=>e= .returned (.int .i64 x)∧Ext w' w'')
  (HV:xB 12 #[.agg #[aA,aB,.slice p n cap,a,b,aE,aG,aD,aF,.slice q m c2]] w false):
  Calls Tryz.prog 137 #[.agg #[aA,aB,.slice p n cap,a,b,aE,aG,aD,aF,.slice q m c2],id] w fun e w'=>e= .returned (.tuple #[.agg #[(),(),()],.bool false])∧Ext w w':=by
 go_enter Tryz.func137,Tryz.ntmps137;go_wp2_with fail;refine(HX _ (by exact .alloc (.alloc (.refl _) _) _)).mono ?_;rintro e w1 ⟨rfl,f⟩;have d:Blk w1 w.heap.size 30 #[aA,aB,.slice p n cap,a,b,aE,aG,aD,aF,.slice q m c2]:=((Blk.new w _ _).alloc _).ext f;have c:Blk w1 (w.heap.size+1) 46 #[(),(),()]:=by have:=(Blk.new (w.alloc (.cells #[aA,aB,.slice p n cap,a,b,aE,aG,aD,aF,.slice q m c2] 30)) 46 #[(),(),()]).ext f;simpa using this
 have X1:Ext w w1:=(((Ext.refl w).alloc _).alloc _).trans f;have s1:w.heap.size+1<w1.heap.size:=c.lt;replace d:=xQ d;replace c:=xQ c;clear f;obtain⟨i,j,k,l,o,r,s,t,u,y⟩:=d.out.ten;obtain⟨ad,z,ae,aa,af,ab⟩:=c.out.trif;go_wp2_with fail;refine(HV _ (by exact X1)).mono ?_;rintro e w2 ⟨rfl,g⟩;have ag:=xQ (d.out.ext g);have h:=xQ (c.out.ext g);have X2:Ext w w2:=X1.trans g;have s2:w.heap.size+1<w2.heap.size:=h.out.lt;clear i j k l o r s t u y ad ae af z aa ab g d c s1;obtain⟨ah,ai,aj,ak,al,am,an,ao,ap,aq⟩:=ag.out.ten;obtain⟨aw,ar,ax,au,ay,av⟩:=h.out.trif;go_wp2;exact bodyPost_ret (v:= .tuple #[.agg #[(),(),()],.bool false]) (by simp[results,Tryz.results137,go_sem, *]) rfl ⟨rfl,xE⟩
theorem aDq (aA aB a b aE aG aD aF id:Int)(p:OA)(n cap:Nat)(q:OA)(m c2:Nat)(w:World)
  (HX:xC 86 #[.agg #[aA,aB,.slice p n cap,a,b,aE,aG,aD,aF,.slice q m c2],id] w fun w' e w''=>e= .returned (.int .i64 (-1))∧Ext w' w'')
  (HV:xB 12 #[.agg #[aA,aB,.slice p n cap,a,b,aE,aG,aD,aF,.slice q m c2]] w true):
  Calls Tryz.prog 137 #[.agg #[aA,aB,.slice p n cap,a,b,aE,aG,aD,aF,.slice q m c2],id] w fun e w'=>e= .returned (.tuple #[.agg #[(),(),()],.bool false])∧Ext w w':=by
 go_enter Tryz.func137,Tryz.ntmps137;go_wp2_with fail;refine(HX _ (by exact .alloc (.alloc (.refl _) _) _)).mono ?_;rintro e w1 ⟨rfl,f⟩;have d:Blk w1 w.heap.size 30 #[aA,aB,.slice p n cap,a,b,aE,aG,aD,aF,.slice q m c2]:=((Blk.new w _ _).alloc _).ext f;have c:Blk w1 (w.heap.size+1) 46 #[(),(),()]:=by have:=(Blk.new (w.alloc (.cells #[aA,aB,.slice p n cap,a,b,aE,aG,aD,aF,.slice q m c2] 30)) 46 #[(),(),()]).ext f;simpa using this
 have X1:Ext w w1:=(((Ext.refl w).alloc _).alloc _).trans f;have s1:w.heap.size+1<w1.heap.size:=c.lt;replace d:=xQ d;replace c:=xQ c;clear f;obtain⟨i,j,k,l,o,r,s,t,u,x⟩:=d.out.ten;obtain⟨ab,y,ad,z,ae,aa⟩:=c.out.trif;go_wp2_with fail;refine(HV _ (by exact X1)).mono ?_;rintro e w2 ⟨rfl,g⟩;have af:=xQ (d.out.ext g);have h:=xQ (c.out.ext g);have X2:Ext w w2:=X1.trans g;have s2:w.heap.size+1<w2.heap.size:=h.out.lt;clear i j k l o r s t u x ab ad ae y z aa g d c s1;obtain⟨ag,ah,ai,aj,ak,al,am,an,ao,ap⟩:=af.out.ten;obtain⟨av,aq,aw,ar,ax,au⟩:=h.out.trif;go_wp2;exact bodyPost_ret (v:= .tuple #[.agg #[(),(),()],.bool false]) (by simp[results,Tryz.results137,go_sem, *]) rfl ⟨rfl,xE⟩
theorem aBe (aA aB a c aE aG aD aF id:Int)(p:OA)(n cap:Nat)(q:OA)(m c2:Nat)(w:World)
  (k:Nat)(a1 a2 a3:Int)(vs:List aQ)(HK:Hid (vs[k]? =some (id,a1,a2,a3))) (hk:k<m) (hm:m≤9223372036854775807) (HS:Hid (Sl w q m c2 4 (vs.flatMap aC)))
  (HX:xC 86 #[.agg #[aA,aB,.slice p n cap,a,c,aE,aG,aD,aF,.slice q m c2],id] w fun w' e w''=>e= .returned (.int .i64 k)∧Ext w' w'')
  (HV:xB 12 #[.agg #[aA,aB,.slice p n cap,a,c,aE,aG,aD,aF,.slice q m c2]] w true):
  Calls Tryz.prog 137 #[.agg #[aA,aB,.slice p n cap,a,c,aE,aG,aD,aF,.slice q m c2],id] w fun e w'=>e= .returned (.tuple #[.agg #[a1,a2,a3],.bool true])∧Ext w w':=by
 go_enter Tryz.func137,Tryz.ntmps137;go_wp2_with fail;refine(HX _ (by exact .alloc (.alloc (.refl _) _) _)).mono ?_;rintro e w1 ⟨rfl,g⟩;have f:Blk w1 w.heap.size 30 #[aA,aB,.slice p n cap,a,c,aE,aG,aD,aF,.slice q m c2]:=((Blk.new w _ _).alloc _).ext g;have d:Blk w1 (w.heap.size+1) 46 #[(),(),()]:=by have:=(Blk.new (w.alloc (.cells #[aA,aB,.slice p n cap,a,c,aE,aG,aD,aF,.slice q m c2] 30)) 46 #[(),(),()]).ext g;simpa using this
 have X1:Ext w w1:=(((Ext.refl w).alloc _).alloc _).trans g;have s1:w.heap.size+1<w1.heap.size:=d.lt;replace f:=xQ f;replace d:=xQ d;clear g;obtain⟨j,l,o,r,s,u,x,y,z,aa⟩:=f.out.ten;obtain⟨af,ab,ag,ad,ah,ae⟩:=d.out.trif;go_wp2_with fail;refine(HV _ (by exact X1)).mono ?_;rintro e w2 ⟨rfl,h⟩;have ai:=xQ (f.out.ext h);have i:=xQ (d.out.ext h);have X2:Ext w w2:=X1.trans h;have s2:w.heap.size+1<w2.heap.size:=i.out.lt;clear j l o r s u x y z aa af ag ah ab ad ae h f d s1;obtain⟨aj,ak,al,am,an,ao,ap,aq,ar,au⟩:=ai.out.ten;obtain⟨az,aw,a0,ax,a4,ay⟩:=i.out.trif;obtain⟨b,a8,b0,b1,b2,b3,rfl,hv,hb,g0,g1,g2,g3⟩:=eN (HS.out.ext X2) hk;obtain⟨rfl,rfl,rfl,rfl⟩:id=b0∧a1=b1∧a2=b2∧a3=b3:=by have t:=HK.out;rw[hv]at t;simp only[Option.some.injEq,Prod.mk.injEq]at t;exact⟨t.1.symm,t.2.1.symm,t.2.2.1.symm,t.2.2.2.symm⟩
 have a7:b≠w.heap.size+1:=by have a6:=hb;obtain⟨b',av,_,_,_,_,hq,_,a5,_⟩:=eN HS hk;simp only[Option.some.injEq,Addr.mk.injEq]at hq;omega
 have i1:(0:Int)≤(k:Int):=by omega
 have i2:(k:Int)<(m:Int):=by omega
 clear hv;go_wp2;exact bodyPost_ret (v:= .tuple #[.agg #[a1,a2,a3],.bool true]) (by simp[results,Tryz.results137,go_sem, *]) rfl ⟨rfl,xE⟩
theorem aLr (h:aW)(id:Int)(p:OA)(n cap:Nat)(q:OA)(m c2:Nat)(w:World)(hi:IsHouse w h p n cap q m c2):
  Calls Tryz.prog 16 #[cA h p n cap q m c2,id] w fun e w'=>e= .returned (xJ h id)∧Ext w w':=by
 have HV:=fun(w':World) (hx:Ext w w')=>oP h p n cap q m c2 w' (hi.ext hx)
 have d:=hi.vlen;obtain⟨aA,aB,c,a,b,aE,aG,aD,aF,vs⟩:=h;have HX:=fun(w':World) (hx:Ext w w')=>iU aA aB a b aE aG aD aF id p n cap q m c2 vs w' (hi.vs.ext hx)
 unfold xJ eM;simp only at d HV HX⊢;cases hok:bU ⟨aA,aB,c,a,b,aE,aG,aD,aF,vs⟩with
 |false=>rw[hok]at HV;simpa using aCl aA aB a b aE aG aD aF id p n cap q m c2 w HV
 |true=>
  rw[hok]at HV;rcases lY id vs with⟨hx,hv⟩|⟨k,a1,a2,a3,hk,hx,hv,hf⟩
  ·rw[hx]at HX;rw[hv];simpa using aEw aA aB a b aE aG aD aF id p n cap q m c2 w HV HX
  rw[hx]at HX;rw[hf];simpa using aCk aA aB a b aE aG aD aF id p n cap q m c2 w k a1 a2 a3 vs hv (by omega) hi.vs.bd hi.vs HV HX
theorem aL8 (h:aW)(id:Int)(p:OA)(n cap:Nat)(q:OA)(m c2:Nat)(w:World)(hi:IsHouse w h p n cap q m c2):
  Calls Tryz.prog 137 #[cA h p n cap q m c2,id] w fun e w'=>e= .returned (xJ h id)∧Ext w w':=by
 have HV:=fun(w':World) (hx:Ext w w')=>oG h p n cap q m c2 w' (hi.ext hx)
 have d:=hi.vlen;obtain⟨aA,aB,c,a,b,aE,aG,aD,aF,vs⟩:=h;have HX:=fun(w':World) (hx:Ext w w')=>pO aA aB a b aE aG aD aF id p n cap q m c2 vs w' (hi.vs.ext hx)
 unfold xJ eM;simp only at d HV HX⊢;cases hok:bU ⟨aA,aB,c,a,b,aE,aG,aD,aF,vs⟩with
 |false=>rw[hok]at HV;simpa using aBf aA aB a b aE aG aD aF id p n cap q m c2 w _ HX HV
 |true=>
  rw[hok]at HV;rcases lY id vs with⟨hx,hv⟩|⟨k,a1,a2,a3,hk,hx,hv,hf⟩
  ·rw[hx]at HX;rw[hv];simpa using aDq aA aB a b aE aG aD aF id p n cap q m c2 w HX HV
  rw[hx]at HX;rw[hf];simpa using aBe aA aB a b aE aG aD aF id p n cap q m c2 w k a1 a2 a3 vs hv (by omega) hi.vs.bd hi.vs HX HV
theorem aHq (aA aB a b aE aG aD aF id:Int)(p:OA)(n cap:Nat)(q:OA)(m c2:Nat)(w:World)
  (f:xC 16 #[.agg #[aA,aB,.slice p n cap,a,b,aE,aG,aD,aF,.slice q m c2],id] w fun w' e w''=>e= .returned (.tuple #[.agg #[(),(),()],.bool false])∧Ext w' w''):
  Calls Tryz.prog 99 #[.agg #[aA,aB,.slice p n cap,a,b,aE,aG,aD,aF,.slice q m c2],id] w fun e w'=>e= .returned (.bool false)∧Ext w w':=by
 go_enter Tryz.func99,Tryz.ntmps99;go_wp2_with fail;refine(f _ (by exact .alloc (.refl _) _)).mono ?_;rintro e w1 ⟨rfl,d⟩;have c:Blk w1 w.heap.size 30 #[aA,aB,.slice p n cap,a,b,aE,aG,aD,aF,.slice q m c2]:=(Blk.new w _ _).ext d;have X1:Ext w w1:=((Ext.refl w).alloc _).trans d;have s1:w.heap.size<w1.heap.size:=c.lt;replace c:=xQ c;clear d;obtain⟨g,h,i,j,k,l,o,r,s,t⟩:=c.out.ten;go_wp2;go_ret;exact⟨rfl,by exact .alloc X1 _⟩
theorem aEz (aA aB a b aE aG aD aF id:Int)(p:OA)(n cap:Nat)(q:OA)(m c2:Nat)(w:World)(a1 a2 a3:Int)(D:Bool)
  (f:xC 16 #[.agg #[aA,aB,.slice p n cap,a,b,aE,aG,aD,aF,.slice q m c2],id] w fun w' e w''=>e= .returned (.tuple #[.agg #[a1,a2,a3],.bool true])∧Ext w' w'')
  (HD:Hid (∀w',Calls Tryz.prog 147 #[aR a b aE aG,bN a1 a2 a3,aD] w' fun e w''=>e= .returned (.bool D)∧Ext w' w'')):
  Calls Tryz.prog 99 #[.agg #[aA,aB,.slice p n cap,a,b,aE,aG,aD,aF,.slice q m c2],id] w fun e w'=>e= .returned (.bool D)∧Ext w w':=by
 go_enter Tryz.func99,Tryz.ntmps99;go_wp2_with fail;refine(f _ (by exact .alloc (.refl _) _)).mono ?_;rintro e w1 ⟨rfl,d⟩;have c:Blk w1 w.heap.size 30 #[aA,aB,.slice p n cap,a,b,aE,aG,aD,aF,.slice q m c2]:=(Blk.new w _ _).ext d;have X1:Ext w w1:=((Ext.refl w).alloc _).trans d;have s1:w.heap.size<w1.heap.size:=c.lt;replace c:=xQ c;clear d;obtain⟨h,i,j,k,l,o,r,s,t,u⟩:=c.out.ten;go_wp2_with fail;refine(HD _).mono ?_;rintro e w2 ⟨rfl,g⟩;go_wp2;go_ret;exact⟨rfl,by exact .trans (.alloc X1 _) g⟩
theorem aGr (aA aB a b aE aG aD aF id:Int)(p:OA)(n cap:Nat)(q:OA)(m c2:Nat)(w:World)
  (f:xC 137 #[.agg #[aA,aB,.slice p n cap,a,b,aE,aG,aD,aF,.slice q m c2],id] w fun w' e w''=>e= .returned (.tuple #[.agg #[(),(),()],.bool false])∧Ext w' w''):
  Calls Tryz.prog 87 #[.agg #[aA,aB,.slice p n cap,a,b,aE,aG,aD,aF,.slice q m c2],id] w fun e w'=>e= .returned (.bool false)∧Ext w w':=by
 go_enter Tryz.func87,Tryz.ntmps87;go_wp2_with fail;refine(f _ (by exact .alloc (.refl _) _)).mono ?_;rintro e w1 ⟨rfl,d⟩;have c:Blk w1 w.heap.size 30 #[aA,aB,.slice p n cap,a,b,aE,aG,aD,aF,.slice q m c2]:=(Blk.new w _ _).ext d;have X1:Ext w w1:=((Ext.refl w).alloc _).trans d;have s1:w.heap.size<w1.heap.size:=c.lt;replace c:=xQ c;clear d;obtain⟨g,h,i,j,k,l,o,r,s,t⟩:=c.out.ten;go_wp2;go_ret;exact⟨rfl,by exact .alloc X1 _⟩
theorem aDt (aA aB a b aE aG aD aF id:Int)(p:OA)(n cap:Nat)(q:OA)(m c2:Nat)(w:World)(a1 a2 a3:Int)(D:Bool)
  (f:xC 137 #[.agg #[aA,aB,.slice p n cap,a,b,aE,aG,aD,aF,.slice q m c2],id] w fun w' e w''=>e= .returned (.tuple #[.agg #[a1,a2,a3],.bool true])∧Ext w' w'')
  (HD:Hid (∀w',Calls Tryz.prog 138 #[aR a b aE aG,bN a1 a2 a3,aD] w' fun e w''=>e= .returned (.bool D)∧Ext w' w'')):
  Calls Tryz.prog 87 #[.agg #[aA,aB,.slice p n cap,a,b,aE,aG,aD,aF,.slice q m c2],id] w fun e w'=>e= .returned (.bool D)∧Ext w w':=by
 go_enter Tryz.func87,Tryz.ntmps87;go_wp2_with fail;refine(f _ (by exact .alloc (.refl _) _)).mono ?_;rintro e w1 ⟨rfl,d⟩;have c:Blk w1 w.heap.size 30 #[aA,aB,.slice p n cap,a,b,aE,aG,aD,aF,.slice q m c2]:=(Blk.new w _ _).ext d;have X1:Ext w w1:=((Ext.refl w).alloc _).trans d;have s1:w.heap.size<w1.heap.size:=c.lt;replace c:=xQ c;clear d;obtain⟨h,i,j,k,l,o,r,s,t,u⟩:=c.out.ten;go_wp2_with fail;refine(HD _).mono ?_;rintro e w2 ⟨rfl,g⟩;go_wp2;go_ret;exact⟨rfl,by exact .trans (.alloc X1 _) g⟩
theorem xI {h:aW}{id a1 a2 a3:Int}(hs:eM h id=some (a1,a2,a3)):bJ h.free h.step h.aE h.aG=true∧cZ a1 a2 a3=true∧a3≤h.aD∧h.aD≤9999:=by
 unfold eM at hs;split at hs
 ·rename_i hok;rw[Option.map_eq_some_iff]at hs;obtain⟨v,hv,e⟩:=hs;have hm:=List.mem_of_find?_eq_some hv;simp only[bU,uV,Bool.and_eq_true,decide_eq_true_eq]at hok;have:=(pZ hok.2).2 v hm;obtain⟨v0,v1,v2,v3⟩:=v;simp only[Prod.mk.injEq]at e;obtain⟨rfl,rfl,rfl⟩:=e;simp only[fN,Bool.and_eq_true,decide_eq_true_eq]at this;exact⟨hok.1.1.2,this.1,this.2,hok.1.2.2.1⟩
 simp at hs
theorem aAh (h:aW)(id:Int)(p:OA)(n cap:Nat)(q:OA)(m c2:Nat)(w:World)(hi:IsHouse w h p n cap q m c2):
  Calls Tryz.prog 99 #[cA h p n cap q m c2,id] w fun e w'=>e= .returned (.bool (eH h id))∧Ext w w':=by
 have a:=fun(w':World) (hx:Ext w w')=>aLr h id p n cap q m c2 w' (hi.ext hx)
 unfold xJ at a;unfold eH;cases hs:eM h id with
 |none=>rw[hs]at a;exact aHq h.aA h.aB h.free h.step h.aE h.aG h.aD h.aF id p n cap q m c2 w a
 |some s=>obtain⟨a1,a2,a3⟩:=s;rw[hs]at a;obtain⟨t,st,hc,h9⟩:=xI hs;exact aEz h.aA h.aB h.free h.step h.aE h.aG h.aD h.aF id p n cap q m c2 w a1 a2 a3 _ a (fun w'=>aMp h.free h.step h.aE h.aG a1 a2 a3 h.aD w' t st hc h9)
theorem zN (h:aW)(id:Int)(p:OA)(n cap:Nat)(q:OA)(m c2:Nat)(w:World)(hi:IsHouse w h p n cap q m c2):
  Calls Tryz.prog 87 #[cA h p n cap q m c2,id] w fun e w'=>e= .returned (.bool (eH h id))∧Ext w w':=by
 have a:=fun(w':World) (hx:Ext w w')=>aL8 h id p n cap q m c2 w' (hi.ext hx)
 unfold xJ at a;unfold eH;cases hs:eM h id with
 |none=>rw[hs]at a;exact aGr h.aA h.aB h.free h.step h.aE h.aG h.aD h.aF id p n cap q m c2 w a
 |some s=>obtain⟨a1,a2,a3⟩:=s;rw[hs]at a;obtain⟨t,st,hc,h9⟩:=xI hs;exact aDt h.aA h.aB h.free h.step h.aE h.aG h.aD h.aF id p n cap q m c2 w a1 a2 a3 _ a (fun w'=>aMa h.free h.step h.aE h.aG a1 a2 a3 h.aD w' t st hc h9)
abbrev THD:TypeId:=44
theorem zR (aA aB b c aE aG aD aF a ai aj:Int)(p:OA)(n cap:Nat)(q:OA)(m c2:Nat)(xs:List Int)(vs:List aQ)(w:World)(h0:a≠0)(h1:a≠1)(h2:a≠2)(h3:a≠3)(h4:a≠4)
  (ak:xB 12 #[.agg #[aA,aB,.slice p n cap,b,c,aE,aG,aD,aF,.slice q m c2]] w true)
  (HL:xC 37 #[.agg #[aA,aB,.slice p n cap,b,c,aE,aG,aD,aF,.slice q m c2]] w fun w' e w''=> ∃p' cap' q' c2',e= .returned (.agg #[aA,aB,.slice p' n cap',b,c,aE,aG,aD,aF,.slice q' m c2'])∧w''.ownsRow w'.heap.size TI 1 (.slice p' n cap') n (ivs xs)∧w''.ownsRow w'.heap.size TV 4 (.slice q' m c2') m (vs.flatMap aC)∧Ext w' w''):
  Calls Tryz.prog 38 #[.agg #[aA,aB,.slice p n cap,b,c,aE,aG,aD,aF,.slice q m c2],.agg #[a,ai,aj]] w fun e w'=> ∃p' cap' q' c2',e= .returned (.tuple #[.agg #[aA,aB,.slice p' n cap',b,c,aE,aG,aD,aF,.slice q' m c2'],(-1:Int),.bool false])∧w'.ownsRow w.heap.size TI 1 (.slice p' n cap') n (ivs xs)∧w'.ownsRow w.heap.size TV 4 (.slice q' m c2') m (vs.flatMap aC)∧Ext w w':=by
 go_enter Tryz.func38,Tryz.ntmps38;go_wp2_with fail;refine(ak _ ((((Mem.start w).c0 aL #[aA,aB,.slice p n cap,b,c,aE,aG,aD,aF,.slice q m c2]).c1 THD #[a,ai,aj]).c2 aL zT).ext).mono ?_;rintro e w1 ⟨rfl,ao⟩;have M1:=(((((Mem.start w).c0 aL #[aA,aB,.slice p n cap,b,c,aE,aG,aD,aF,.slice q m c2]).c1 THD #[a,ai,aj]).c2 aL zT).adv ao)
 have x:=M1.hi 0;have y:=M1.hi 1;have z:=M1.hi 2;clear ao ak;obtain⟨d,f,g,h,j,k,l,o,r,s⟩:=(M1.bk 2).ten;go_wp2_with fail;clear d f g h j k l o r s;refine(HL _ M1.ext).mono ?_;rintro e w2 ⟨p1,al,q1,am,rfl,ho,hq,hx⟩;have M2:=(M1.own2 hx ho hq (Nat.le_refl _) (by decide))
 clear M1 x y z hx ho hq;have aa:=M2.hi 2;have ab:=M2.hi 3;have ad:=M2.hi 4;obtain⟨d,f,g,h,j,k,l,o,r,s⟩:=(M2.bk 4).ten;have ap:=(M2.bk 3).cl 0;have k0:(a==0)=false:=by simp;omega
 have k1:(a==1)=false:=by simp;omega
 have k2:(a==2)=false:=by simp;omega
 have k3:(a==3)=false:=by simp;omega
 have k4:(a==4)=false:=by simp;omega
 go_wp2_with fail;clear d f g h j k l o r s ap;refine(HL _ (M2.c0 aL #[aA,aB,.slice p1 n al,b,c,aE,aG,aD,aF,.slice q1 m am]).ext).mono ?_;rintro e w9 ⟨p9,t,q9,u,rfl,ho,hq,hx⟩;have M3:=((M2.c0 aL #[aA,aB,.slice p1 n al,b,c,aE,aG,aD,aF,.slice q1 m am]).own2 hx ho hq (Nat.le_refl _) (by decide))
 clear M2 aa ab ad hx ho hq HL;have ae:=M3.hi 2;have af:=M3.hi 5;have ag:=M3.hi 6;have ah:=M3.hi 7;obtain⟨f0,aq,f1,ar,f2,au,f3,av,f4,aw,f5,ax,f6,ay,f7,az,f8,a0,f9,a1⟩:=(M3.bk 5).tenf;go_wp2;clear f0 aq f1 ar f2 au f3 av f4 aw f5 ax f6 ay f7 az f8 a0 f9 a1 ae af ag ah;have M4:=(M3.put10 (i:=5) rfl (.int .i64 aA) (.int .i64 aB) (.slice p9 n t) (.int .i64 b) (.int .i64 c) (.int .i64 aE) (.int .i64 aG) (.int .i64 aD) (.int .i64 aF) (.slice q9 m u))
 generalize an:World.setCell _ _ _=wz;rw[an]at M4;clear an M3;obtain⟨y0,y1,y2,y3,y4,y5,y6,y7,y8,y9⟩:=(M4.bk 5).ten;exact bodyPost_ret (v:= .tuple #[.agg #[aA,aB,.slice p9 n t,b,c,aE,aG,aD,aF,.slice q9 m u],(-1:Int),.bool false]) (by simp[results,Tryz.results38,go_sem, *]) rfl ⟨p9,t,q9,u,rfl,(M4.ow 0),(M4.ow 1),M4.ext⟩
theorem tI (aA aB a b aE aG aD aF c ax:Int)(p:OA)(n cap:Nat)(q:OA)(m c2:Nat)(xs:List Int)(vs:List aQ)(w:World)(hc:0≤aD)(bp:aD≤9999)(h1:1≤c)(h2:c≤9999-aD)
  (ay:xB 12 #[.agg #[aA,aB,.slice p n cap,a,b,aE,aG,aD,aF,.slice q m c2]] w true)
  (HL:xC 37 #[.agg #[aA,aB,.slice p n cap,a,b,aE,aG,aD,aF,.slice q m c2]] w fun w' e w''=> ∃p' cap' q' c2',e= .returned (.agg #[aA,aB,.slice p' n cap',a,b,aE,aG,aD,aF,.slice q' m c2'])∧w''.ownsRow w'.heap.size TI 1 (.slice p' n cap') n (ivs xs)∧w''.ownsRow w'.heap.size TV 4 (.slice q' m c2') m (vs.flatMap aC)∧Ext w' w'')
  (HI:Hid (∀w',Calls Tryz.prog 43 #[c,.int .i64 1,(9999-aD:Int)] w' fun e w''=>e= .returned (.bool true)∧w'=w'')):
  Calls Tryz.prog 38 #[.agg #[aA,aB,.slice p n cap,a,b,aE,aG,aD,aF,.slice q m c2],.agg #[.int .i64 3,c,ax]] w fun e w'=> ∃p' cap' q' c2',e= .returned (.tuple #[.agg #[aA,aB,.slice p' n cap',a,b,aE,aG,(aD+c:Int),aF,.slice q' m c2'],(aD+c:Int),.bool true])∧w'.ownsRow w.heap.size TI 1 (.slice p' n cap') n (ivs xs)∧w'.ownsRow w.heap.size TV 4 (.slice q' m c2') m (vs.flatMap aC)∧Ext w w':=by
 go_enter Tryz.func38,Tryz.ntmps38;go_wp2_with fail;refine(ay _ ((((Mem.start w).c0 aL #[aA,aB,.slice p n cap,a,b,aE,aG,aD,aF,.slice q m c2]).c1 THD #[.int .i64 3,c,ax]).c2 aL zT).ext).mono ?_;rintro e w1 ⟨rfl,a0⟩;have M1:=(((((Mem.start w).c0 aL #[aA,aB,.slice p n cap,a,b,aE,aG,aD,aF,.slice q m c2]).c1 THD #[.int .i64 3,c,ax]).c2 aL zT).adv a0)
 have al:=M1.hi 0;have am:=M1.hi 1;have an:=M1.hi 2;clear a0 ay;obtain⟨aa,ab,ad,ae,af,ag,ah,d,ai,aj⟩:=(M1.bk 2).ten;go_wp2_with fail;clear aa ab ad ae af ag ah d ai aj;refine(HL _ M1.ext).mono ?_;rintro e w2 ⟨p1,f,q1,g,rfl,ho,hq,hx⟩;have M2:=(M1.own2 hx ho hq (Nat.le_refl _) (by decide))
 clear M1 al am an hx ho hq;have ao:=M2.hi 2;have ap:=M2.hi 3;have aq:=M2.hi 4;obtain⟨aa,ab,ad,ae,af,ag,ah,d,ai,aj⟩:=(M2.bk 4).ten;obtain⟨a1,ak,a2⟩:=(M2.bk 3).tri;have k1:IntKind.i64.wrap (9999-aD)=9999-aD:=IntWalk.i64_in _ (by omega);go_wp2_with fail;refine(HI _).mono ?_;rintro e _ ⟨rfl,rfl⟩;clear HI k1 aa ab ad ae af ag ah d ai aj a1 ak a2;have M3:=(M2.c0 aL #[aA,aB,.slice p1 n f,a,b,aE,aG,aD,aF,.slice q1 m g])
 generalize (w2.alloc (.cells #[aA,aB,.slice p1 n f,a,b,aE,aG,aD,aF,.slice q1 m g] aL))=w3 at M3⊢;clear M2 ao ap aq;have ar:=M3.hi 0;have au:=M3.hi 3;have av:=M3.hi 4;have aw:=M3.hi 5;have d:=(M3.bk 5).cl 7;have ak:=(M3.bk 4).cl 1;obtain⟨d0,a3,d1,a4,d2,a5,d3,a6,d4,a7,d5,a8,d6,a9,d7,ba,d8,bb,d9,bc⟩:=(M3.bk 0).tenf;obtain⟨f0,bd,f1,be,f2,bf,f3,bg,f4,bh,f5,bi,f6,bj,f7,bl,f8,bm,f9,bo⟩:=(M3.bk 3).tenf;obtain⟨h,j⟩:=M3.nq 4 5;obtain⟨k,l⟩:=M3.nq 3 5;obtain⟨o,r⟩:=M3.nq 0 5;obtain⟨s,t⟩:=M3.nq 3 4;obtain⟨u,x⟩:=M3.nq 0 4;obtain⟨y,z⟩:=M3.nq 0 3;have k2:IntKind.i64.wrap (aD+c)=aD+c:=IntWalk.i64_in _ (by omega);have hd:decide (aD+c<0)=false:=by simp;omega
 clear HL;have M4:=(M3.st 0 7 (.int .i64 (aD+c)))
 go_wp2;clear d ak d0 a3 d1 a4 d2 a5 d3 a6 d4 a7 d5 a8 d6 a9 d7 ba d8 bb d9 bc f0 bd f1 be f2 bf f3 bg f4 bh f5 bi f6 bj f7 bl f8 bm f9 bo h j k l o r s t u x y z ar au av aw;have M5:=(M4.put10 (i:=3) rfl (.int .i64 aA) (.int .i64 aB) (.slice p1 n f) (.int .i64 a) (.int .i64 b) (.int .i64 aE) (.int .i64 aG) (.int .i64 (aD+c)) (.int .i64 aF) (.slice q1 m g))
 generalize az:World.setCell _ _ _=wz;rw[az]at M5;clear az M3 M4;obtain⟨y0,y1,y2,y3,y4,y5,y6,y7,y8,y9⟩:=(M5.bk 3).ten;exact bodyPost_ret (v:= .tuple #[.agg #[aA,aB,.slice p1 n f,a,b,aE,aG,(aD+c:Int),aF,.slice q1 m g],(aD+c:Int),.bool true]) (by simp[results,Tryz.results38,go_sem, *]) rfl ⟨p1,f,q1,g,rfl,(M5.ow 1),(M5.ow 2),M5.ext⟩
theorem uI (aA aB a b aE aG aD aF s am:Int)(p:OA)(n cap:Nat)(q:OA)(m c2:Nat)(xs:List Int)(vs:List aQ)(w:World)(hc:0≤aD)(a7:aD≤9999)
  (an:xB 12 #[.agg #[aA,aB,.slice p n cap,a,b,aE,aG,aD,aF,.slice q m c2]] w true)
  (HL:xC 37 #[.agg #[aA,aB,.slice p n cap,a,b,aE,aG,aD,aF,.slice q m c2]] w fun w' e w''=> ∃p' cap' q' c2',e= .returned (.agg #[aA,aB,.slice p' n cap',a,b,aE,aG,aD,aF,.slice q' m c2'])∧w''.ownsRow w'.heap.size TI 1 (.slice p' n cap') n (ivs xs)∧w''.ownsRow w'.heap.size TV 4 (.slice q' m c2') m (vs.flatMap aC)∧Ext w' w'')
  (HI:Hid (∀w',Calls Tryz.prog 43 #[s,.int .i64 1,(9999-aD:Int)] w' fun e w''=>e= .returned (.bool false)∧w'=w'')):
  Calls Tryz.prog 38 #[.agg #[aA,aB,.slice p n cap,a,b,aE,aG,aD,aF,.slice q m c2],.agg #[.int .i64 3,s,am]] w fun e w'=> ∃p' cap' q' c2',e= .returned (.tuple #[.agg #[aA,aB,.slice p' n cap',a,b,aE,aG,aD,aF,.slice q' m c2'],(-1:Int),.bool false])∧w'.ownsRow w.heap.size TI 1 (.slice p' n cap') n (ivs xs)∧w'.ownsRow w.heap.size TV 4 (.slice q' m c2') m (vs.flatMap aC)∧Ext w w':=by
 go_enter Tryz.func38,Tryz.ntmps38;go_wp2_with fail;refine(an _ ((((Mem.start w).c0 aL #[aA,aB,.slice p n cap,a,b,aE,aG,aD,aF,.slice q m c2]).c1 THD #[.int .i64 3,s,am]).c2 aL zT).ext).mono ?_;rintro e w1 ⟨rfl,ar⟩;have M1:=(((((Mem.start w).c0 aL #[aA,aB,.slice p n cap,a,b,aE,aG,aD,aF,.slice q m c2]).c1 THD #[.int .i64 3,s,am]).c2 aL zT).adv ar)
 have x:=M1.hi 0;have y:=M1.hi 1;have z:=M1.hi 2;clear ar an;obtain⟨c,d,f,g,h,j,k,l,o,r⟩:=(M1.bk 2).ten;go_wp2_with fail;clear c d f g h j k l o r;refine(HL _ M1.ext).mono ?_;rintro e w2 ⟨p1,ao,q1,ap,rfl,ho,hq,hx⟩;have M2:=(M1.own2 hx ho hq (Nat.le_refl _) (by decide))
 clear M1 x y z hx ho hq;have aa:=M2.hi 2;have ab:=M2.hi 3;have ad:=M2.hi 4;obtain⟨c,d,f,g,h,j,k,l,o,r⟩:=(M2.bk 4).ten;obtain⟨au,av,aw⟩:=(M2.bk 3).tri;have k1:IntKind.i64.wrap (9999-aD)=9999-aD:=IntWalk.i64_in _ (by omega);go_wp2_with fail;refine(HI _).mono ?_;rintro e _ ⟨rfl,rfl⟩;clear HI k1 c d f g h j k l o r au av aw;have M3:=(M2.c0 aL #[aA,aB,.slice p1 n ao,a,b,aE,aG,aD,aF,.slice q1 m ap])
 generalize (w2.alloc (.cells #[aA,aB,.slice p1 n ao,a,b,aE,aG,aD,aF,.slice q1 m ap] aL))=w3 at M3⊢;clear M2 aa ab ad;have ae:=M3.hi 0;have af:=M3.hi 3;have ag:=M3.hi 4;have ah:=M3.hi 5;obtain⟨c,d,f,g,h,j,k,l,o,r⟩:=(M3.bk 5).ten;go_wp2_with fail;clear c d f g h j k l o r;refine(HL _ M3.ext).mono ?_;rintro e w9 ⟨p9,t,q9,u,rfl,ho,hq,hx⟩;have M4:=(M3.own2 hx ho hq (Nat.le_refl _) (by decide))
 clear M3 ae af ag ah hx ho hq HL;have ai:=M4.hi 2;have aj:=M4.hi 5;have ak:=M4.hi 6;have al:=M4.hi 7;obtain⟨f0,ax,f1,ay,f2,az,f3,a0,f4,a1,f5,a2,f6,a3,f7,a4,f8,a5,f9,a6⟩:=(M4.bk 5).tenf;go_wp2;clear f0 ax f1 ay f2 az f3 a0 f4 a1 f5 a2 f6 a3 f7 a4 f8 a5 f9 a6 ai aj ak al;have M5:=(M4.put10 (i:=5) rfl (.int .i64 aA) (.int .i64 aB) (.slice p9 n t) (.int .i64 a) (.int .i64 b) (.int .i64 aE) (.int .i64 aG) (.int .i64 aD) (.int .i64 aF) (.slice q9 m u))
 generalize aq:World.setCell _ _ _=wz;rw[aq]at M5;clear aq M4;obtain⟨y0,y1,y2,y3,y4,y5,y6,y7,y8,y9⟩:=(M5.bk 5).ten;exact bodyPost_ret (v:= .tuple #[.agg #[aA,aB,.slice p9 n t,a,b,aE,aG,aD,aF,.slice q9 m u],(-1:Int),.bool false]) (by simp[results,Tryz.results38,go_sem, *]) rfl ⟨p9,t,q9,u,rfl,(M5.ow 0),(M5.ow 1),M5.ext⟩
end Go.Proofs.YtpelpnfhbepokaaGreatDoor
