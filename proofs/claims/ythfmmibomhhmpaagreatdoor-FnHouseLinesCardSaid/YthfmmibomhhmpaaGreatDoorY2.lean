/-
  Texts of this proof, packed (@packed).
-/
import Derived.Laws.BitsAllLaws
import Derived.Laws.BitsLemmas
import Derived.RegionTactic
import Derived.Test.YthfmmibomhhmpaaGreatDoorY1
namespace Go.Proofs.YthfmmibomhhmpaaGreatDoor
open Go.RowKit
set_option linter.unusedSimpArgs false
set_option linter.unusedVariables false
set_option maxHeartbeats 8000000
set_option maxRecDepth 100000
section
open Go
section
variable {P:Program} {ops:Array Oper} {Q:Exit→Act→World→Prop} {md:Region.Mode} {G:Nat→Value→World→Prop} {R:World→World→Prop}
def iP (ops:Array Oper)(i:Nat):Option Tmp:=(ops[i]?).bind (·.dst)
def aR6 (ops:Array Oper):List (Nat×Option Tmp):=(List.range ops.size).map (fun i=>(i,iP ops i))
def fN (ops:Array Oper)(i:Nat):List (Nat×Option Tmp):=
 match ops[i]? with
 |none=> []
 |some o=>(aR6 ops).filter (fun p=>match p.2 with
  |none=>false
  |some d=>(o.looksAt ops).contains d)
def ForV (G:Nat→Value→World→Prop)(w:World):List (Nat×Option Tmp)→Act→(Act→Prop)→Prop
 | [],a,K=>K a
 |p::ps,a,K=> ∀v,G p.1 v w→ForV G w ps (a.put p.2 v) K
def rA (P:Program)(ops:Array Oper)(G:Nat→Value→World→Prop)(R:World→World→Prop)(i:Nat)(o:Oper)(w:World)(a:Act):Prop:=
 ∀K':Act→World→Prop,(∀a' w'',(∃v,a'=a.put o.dst v∧G i v w''∧R w w'')→K' a' w'')→if Region.wanted o (yielded ops a.tmps)=true then Oper.wp P o a w K' (fun _ _ _=>False)else K' (a.put o.dst undef) w
def StepsL (P:Program)(md:Region.Mode)(ops:Array Oper)(G:Nat→Value→World→Prop)(R:World→World→Prop)(a0:Act)(W:World)(l:List Nat):Prop:=
 ∀i∈l,∀o,ops[i]? =some o→ ∀w,R W w→ForV G w (fN ops i) a0 (rA P ops G R i o w)
theorem StepsL.nil {a0:Act}{W:World}:StepsL P md ops G R a0 W []:=fun _ h=>by cases h
theorem StepsL.cons {a0:Act}{W:World}{i:Nat}{o:Oper}{ps:List (Nat×Option Tmp)}{is:List Nat}(ho:ops[i]? =some o) (hp:fN ops i=ps)
  (h: ∀w,R W w→ForV G w ps a0 (rA P ops G R i o w)) (hs:StepsL P md ops G R a0 W is):StepsL P md ops G R a0 W (i::is):=by
 intro j hj o' a w hw;rcases aTi.1 hj with rfl|hj
 ·rw[ho]at a;cases a;rw[hp];exact h w hw
 exact hs j hj o' a w hw
theorem sC {a0:Act}{W:World}{i:Nat}{o:Oper}{is:List Nat}(ps:List (Nat×Option Tmp))(ho:ops[i]? =some o) (h: ∀w,R W w→ForV G w ps a0 (rA P ops G R i o w)) (hs:StepsL P md ops G R a0 W is) (hp:fN ops i=ps:=by kernel_rfl):StepsL P md ops G R a0 W (i::is):=StepsL.cons ho hp h hs
theorem sS0 {a0:Act}{W:World}{i:Nat}{o:Oper}{is:List Nat}(ps:List (Nat×Option Tmp))(hs:StepsL P md ops G Ext a0 W is)(ho:ops[i]? =some o:=by exact rfl) (hp:fN ops i=ps:=by kernel_rfl) (h: ∀w,Ext W w→ForV G w ps a0 (rA P ops G Ext i o w):=by intro wi hx K hK;go_simp;exact hK _ _ ⟨_,rfl,rfl,Ext.refl _⟩):StepsL P md ops G Ext a0 W (i::is):=StepsL.cons ho hp h hs
theorem sS1 {a0:Act}{W:World}{i:Nat}{o:Oper}{is:List Nat}(ps:List (Nat×Option Tmp))(hs:StepsL P md ops G Ext a0 W is)(ho:ops[i]? =some o:=by exact rfl) (hp:fN ops i=ps:=by kernel_rfl) (h: ∀w,Ext W w→ForV G w ps a0 (rA P ops G Ext i o w):=by intro wi hx v0 h0 K hK;obtain rfl:=h0;go_simp;exact hK _ _ ⟨_,rfl,rfl,Ext.refl _⟩):StepsL P md ops G Ext a0 W (i::is):=StepsL.cons ho hp h hs
theorem sS2 {a0:Act}{W:World}{i:Nat}{o:Oper}{is:List Nat}(ps:List (Nat×Option Tmp))(hs:StepsL P md ops G Ext a0 W is)(ho:ops[i]? =some o:=by exact rfl) (hp:fN ops i=ps:=by kernel_rfl) (h: ∀w,Ext W w→ForV G w ps a0 (rA P ops G Ext i o w):=by intro wi hx v0 h0 v1 h1 K hK;subst h0 h1;go_simp;exact hK _ _ ⟨_,rfl,rfl,Ext.refl _⟩):StepsL P md ops G Ext a0 W (i::is):=StepsL.cons ho hp h hs
theorem sS3 {a0:Act}{W:World}{i:Nat}{o:Oper}{is:List Nat}(ps:List (Nat×Option Tmp))(hs:StepsL P md ops G Ext a0 W is)(ho:ops[i]? =some o:=by exact rfl) (hp:fN ops i=ps:=by kernel_rfl) (h: ∀w,Ext W w→ForV G w ps a0 (rA P ops G Ext i o w):=by intro wi hx v0 h0 v1 h1 v2 h2 K hK;subst h0 h1 h2;go_simp;exact hK _ _ ⟨_,rfl,rfl,Ext.refl _⟩):StepsL P md ops G Ext a0 W (i::is):=StepsL.cons ho hp h hs
def oD (md:Region.Mode)(ops:Array Oper)(n:Nat):Bool:=
 Region.noSelect ops&&(List.range ops.size).all fun i=>
  match ops[i]? with
  |none=>true
  |some o=>
   (match o.dst with
    |none=>true
    |some d=>decide (d<n)&&(List.range ops.size).all fun j=>j==i || iP ops j !=some d)&&
   (o.looksAt ops).all fun t=>(List.range ops.size).all fun j=>iP ops j !=some t || o.after.any fun e=>Region.binds md e&&e.on==j
theorem kW {n:Nat}(h:oD md ops n=true):
  Region.noSelect ops=true∧ ∀i o,ops[i]? =some o→
   (∀d,o.dst=some d→d<n∧ ∀j,j≠i→iP ops j≠some d)∧
   (∀t∈o.looksAt ops,∀j,iP ops j=some t→ ∃e∈o.after,Region.binds md e=true∧e.on=j):=by
 unfold oD at h;rw[aTf]at h;refine⟨h.1,fun i o ho=> ?_⟩;have b:i<ops.size:=(aUg.1 ho).1;have h1:=aU6.1 h.2 i (aTq.2 b);simp only[ho,aTf]at h1;obtain⟨h1,h2⟩:=h1;have a: ∀j t,iP ops j=some t→j<ops.size:=fun j t hj=>by
  rcases Nat.lt_or_ge j ops.size with h'|h'
  ·exact h'
  simp[iP,Array.getElem?_eq_none h']at hj
 refine⟨fun d hd=> ?_,fun t ht j hj=> ?_⟩
 ·rw[hd]at h1;simp only[aTf,decide_eq_true_eq]at h1;refine⟨h1.1,fun j hji hj=> ?_⟩;have:=aU6.1 h1.2 j (aTq.2 (a j d hj));simp[hji,hj]at this
 have:=aU6.1 (aU6.1 h2 t ht) j (aTq.2 (a j t hj));simp only[Bool.or_eq_true,bne_iff_ne,ne_eq]at this;rcases this with h'|h'
 ·exact absurd hj h'
 obtain⟨e,he,h3⟩:=Array.any_eq_true'.1 h';rw[aTf]at h3;exact⟨e,he,h3.1,by simpa using h3.2⟩
structure FrI (ops:Array Oper) (a0:Act) (vals:Nat→Value) (l:Nat→Prop) (a:Act):Prop where
 defers:a.defers=a0.defers
 size:a.tmps.size=a0.tmps.size
 mem: ∀i d,iP ops i=some d→l i→a.tmps[d]? =some (vals i)
 out: ∀d,(∀i,l i→iP ops i≠some d)→a.tmps[d]? =a0.tmps[d]?
theorem aRl {a b:Act}(h:a.tmps=b.tmps)(k:a.defers=b.defers):a=b:=by cases a;cases b;simp_all
theorem FrI.put {n:Nat}{a0 a:Act}{vals:Nat→Value}{l:Nat→Prop}(k:oD md ops n=true)(hn:a0.tmps.size=n)(h:FrI ops a0 vals l a){i:Nat}{o:Oper}(ho:ops[i]? =some o) (v:Value) (hv:l i→vals i=v):
  FrI ops a0 (fun j=>if j=i then v else vals j) (fun j=>l j∨j=i) (a.put o.dst v):=by
 obtain⟨-,hs⟩:=kW k;have c:iP ops i=o.dst:=by simp[iP,ho]
 cases hd:o.dst with
 |none=>
  refine⟨h.defers,h.size,fun j d hj hl=> ?_,fun d hd'=>h.out d fun j hj=>hd' j (.inl hj)⟩;have b:j≠i:=by rintro rfl;rw[c,hd]at hj;cases hj
  simp only[Act.put,b,if_false];exact h.mem j d hj (hl.resolve_right b)
 |some d0=>
  obtain⟨g,f⟩:=(hs i o ho).1 d0 hd;refine⟨h.defers,by simp[Act.put,h.size],fun j d hj hl=> ?_,fun d hd'=> ?_⟩
  ·by_cases b:j=i
   ·subst b;rw[c,hd]at hj;cases hj
    simp[Act.put,h.size,hn,g]
   have e:d0≠d:=by rintro rfl;exact f j b hj
   simp only[Act.put,b,if_false];rw[Array.getElem?_setIfInBounds_ne e];exact h.mem j d hj (hl.resolve_right b)
  have e:d0≠d:=by rintro rfl;exact hd' i (.inr rfl) (by rw[c,hd])
  simp only[Act.put];rw[Array.getElem?_setIfInBounds_ne e];exact h.out d fun j hj=>hd' j (.inl hj)
theorem FrI.congr {a0 a:Act}{vals vals':Nat→Value}{l l':Nat→Prop}(h:FrI ops a0 vals l a)(hl: ∀i,l i↔l' i)(hv: ∀i,l' i→vals i=vals' i):FrI ops a0 vals' l' a:=
 ⟨h.defers,h.size,fun i d hd hi=>by rw[←hv i hi];exact h.mem i d hd ((hl i).2 hi),fun d hd=>h.out d fun i hi=>hd i ((hl i).1 hi)⟩
theorem FrI.nil {a0:Act}{vals:Nat→Value}:FrI ops a0 vals (fun _=>False) a0:=⟨rfl,rfl,fun _ _ _ h=>h.elim,fun _ _=>rfl⟩
theorem FrI.eq {a0 a b:Act}{vals:Nat→Value}{l:Nat→Prop}(h:FrI ops a0 vals l a)(k:FrI ops a0 vals l b):a=b:=by
 refine aRl ?_ (h.defers.trans k.defers.symm);apply Array.ext_getElem?;intro d;by_cases hd: ∃i,l i∧iP ops i=some d
 ·obtain⟨i,hi,hd⟩:=hd;rw[h.mem i d hd hi,k.mem i d hd hi]
 have c: ∀i,l i→iP ops i≠some d:=fun i hi he=>hd ⟨i,hi,he⟩
 rw[h.out d c,k.out d c]
theorem ForV.get {n:Nat}(c:oD md ops n=true){a0:Act}(hn:a0.tmps.size=n){vals:Nat→Value}{w:World}{K:Act→Prop}:
  ∀(ps:List (Nat×Option Tmp)) (l:Nat→Prop) (a:Act),(∀p∈ps,(∃o,ops[p.1]? =some o)∧p.2=iP ops p.1)→(∀p∈ps,G p.1 (vals p.1) w)→FrI ops a0 vals l a→ForV G w ps a K→
   ∃b,FrI ops a0 vals (fun j=>l j∨j∈ps.map (·.1)) b∧K b
 | [],l,a,_,_,hf,h=>⟨a,hf.congr (fun i=>by simp) (fun _ _=>rfl),h⟩
 |p::ps,l,a,hp,hG,hf,h=>by
  obtain⟨⟨o,ho⟩,hd⟩:=hp p (by simp);have d:p.2=o.dst:=by rw[hd];simp[iP,ho]
  have h1:=h (vals p.1) (hG p (by simp));rw[d]at h1
  have e:=(hf.put c hn ho (vals p.1) (fun _=>rfl)).congr (l':=fun j=>l j∨j=p.1) (vals':=vals) (fun _=>Iff.rfl) (fun i _=>by
   by_cases hi:i=p.1
   ·simp[hi]
   ·simp[hi])
  obtain⟨b,hb,hK⟩:=ForV.get c hn ps _ _ (fun q hq=>hp q (by simp[hq])) (fun q hq=>hG q (by simp[hq])) e h1;refine⟨b,hb.congr (fun i=> ?_) (fun _ _=>rfl),hK⟩;simp only[aUp,aTi];constructor
  ·rintro((h|h)|h)
   ·exact .inl h
   ·exact .inr (.inl h)
   exact .inr (.inr h)
  rintro(h|h|h)
  ·exact .inl (.inl h)
  ·exact .inl (.inr h)
  exact .inr h
theorem rJ {i:Nat}{o:Oper}(ho:ops[i]? =some o) {p:Nat×Option Tmp} (h:p∈fN ops i):p.1<ops.size∧p.2=iP ops p.1∧ ∃d,iP ops p.1=some d∧d∈o.looksAt ops:=by
 unfold fN at h;rw[ho]at h;obtain⟨h1,h2⟩:=aTs.1 h;obtain⟨k,hk,rfl⟩:=List.mem_map.1 h1;refine⟨aTq.1 hk,rfl,?_⟩;dsimp only at h2⊢;cases hd:iP ops k with
 |none=>rw[hd]at h2;simp at h2
 |some d=>rw[hd]at h2;exact⟨d,rfl,by simpa using h2⟩
theorem aOd {i:Nat}{o:Oper}(ho:ops[i]? =some o) {j d:Nat} (hj:iP ops j=some d) (hd:d∈o.looksAt ops):j∈(fN ops i).map (·.1):=by
 unfold fN;rw[ho];have a:j<ops.size:=by
  rcases Nat.lt_or_ge j ops.size with h'|h'
  ·exact h'
  simp[iP,Array.getElem?_eq_none h']at hj
 refine List.mem_map.2 ⟨(j,iP ops j),aTs.2 ⟨List.mem_map.2 ⟨j,aTq.2 a,rfl⟩,?_⟩,rfl⟩;dsimp only;rw[hj];simpa using hd
def tU (md:Region.Mode)(ops:Array Oper):Bool:=(List.range ops.size).all fun i=>match ops[i]? with
 |none=>true
 |some o=>o.after.all fun e=> !Region.binds md e || decide (e.on<i)
theorem aLr (h:tU md ops=true)(a:Array Bool)(d:a.size=ops.size)(hr:Region.ready md ops a= []): ∀i,i<ops.size→a.getD i false=true:=by
 intro i;induction i using Nat.strongRecOn with
 |_ i ih=>
  intro hi;cases hl:a.getD i false with
  |true=>rfl
  |false=>
   have ho:ops[i]? =some ops[i]:=Array.getElem?_eq_getElem hi;have c:i<a.size:=by omega
   have b:i∈Region.ready md ops a:=by rw[mem_ready];refine⟨by simp[c]at hl⊢;exact hl,_,ho,fun e he hb=> ?_⟩;have h1:=aU6.1 h i (aTq.2 hi);simp only[ho]at h1;have h2:=Array.all_eq_true_iff_forall_mem.1 h1 e he;simp[hb]at h2;exact ih e.on h2 (by omega)
   rw[hr]at b;cases b
def fV (m n:Nat):Array Bool:=(List.replicate m true++List.replicate n false).toArray
def jU (ops:Array Oper)(m:Nat):List (Nat×Option Tmp):=(List.range m).map (fun i=>(i,iP ops i))
def mZ (md:Region.Mode)(ops:Array Oper)(m fl:Nat):Bool:=(List.range ops.size).all fun i=>decide (i<m) || match ops[i]? with
 |none=>true
 |some o=>(o.after.any fun e=>Region.binds md e&&decide (m≤e.on)) || (List.range m).all fun j=>j==fl ||
   ((o.after.any fun e=>Region.binds md e&&e.on==j) || (List.range m).any fun k=>k !=fl&&match ops[k]? with
     |none=>false
     |some ok=>ok.after.any fun e=>Region.binds md e&&e.on==j)
theorem aKi {m fl:Nat}(s:tU md ops=true)(ht:mZ md ops m fl=true)(a:Array Bool)(hm:m≤ops.size)
  (g: ∀i o,ops[i]? =some o→a.getD i false=true→ ∀e∈o.after,Region.binds md e=true→a.getD e.on false=true)
  (r: ∀i,m≤i→a.getD i false=false) {i:Nat} (hi:i∈Region.ready md ops a) (u:m≤i): ∀j,j<m→j≠fl→a.getD j false=true:=by
 obtain⟨h0,o,ho,b⟩:=mem_ready.1 hi;have q:i<ops.size:=(aUg.1 ho).1;have h1:=aU6.1 ht i (aTq.2 q);have f: ¬i<m:=by omega
 simp only[ho,f,decide_false,Bool.false_or,Bool.or_eq_true]at h1;rcases h1 with h1|h1
 ·obtain⟨e,he,h2⟩:=Array.any_eq_true'.1 h1;rw[aTf]at h2;have h3:=b e he h2.1;rw[r e.on (by simpa using h2.2)]at h3;cases h3
 have t: ∀d j,m-j≤d→j<m→j≠fl→a.getD j false=true:=by
  intro d;induction d with
  |zero=>intro j h h';omega
  |succ d ih=>
   intro j hd hj hjf;have h2:=aU6.1 h1 j (aTq.2 hj);simp only[Bool.or_eq_true,beq_iff_eq,hjf,false_or]at h2;rcases h2 with h2|h2
   ·obtain⟨e,he,h3⟩:=Array.any_eq_true'.1 h2;rw[aTf]at h3;have h4:=b e he h3.1;rwa[show e.on=j by simpa using h3.2]at h4
   obtain⟨k,hk,h3⟩:=List.any_eq_true.1 h2;have n:=aTq.1 hk;have c:ops[k]? =some ops[k]:=Array.getElem?_eq_getElem (by omega);rw[aTf]at h3;obtain⟨p,h3⟩:=h3;simp only[c]at h3;obtain⟨e,he,h4⟩:=Array.any_eq_true'.1 h3;rw[aTf]at h4;have l:e.on=j:=by simpa using h4.2
   have h5:=aU6.1 s k (aTq.2 (by omega));simp only[c]at h5;have h6:=Array.all_eq_true_iff_forall_mem.1 h5 e he;simp[h4.1]at h6;have:=g k _ c (ih k (by omega) n (by simpa using p)) e he h4.1;rwa[l]at this
 exact fun j hj hjf=>t m j (by omega) hj hjf
theorem aBi {n:Nat}(m:oD md ops n=true){a0:Act}{vals:Nat→Value}{l:Nat→Prop}{a b:Act}{i:Nat}{o:Oper}(ho:ops[i]? =some o)
  (p: ∀e∈o.after,Region.binds md e=true→l e.on)
  (ha:FrI ops a0 vals l a) (hb:FrI ops a0 vals (fun j=>j∈(fN ops i).map (·.1)) b):execOp a.eval o=execOp b.eval o∧Region.wanted o (yielded ops a.tmps)=Region.wanted o (yielded ops b.tmps):=by
 obtain⟨f,hs⟩:=kW m;obtain⟨h1,h2⟩:=hs i o ho;have d: ∀cs x,o.op≠ .select cs x:=fun cs x=>Region.noSelect_spec f i o cs x ho
 have c: ∀t∈o.looksAt ops,a.tmps[t]? =b.tmps[t]? :=fun t ht=>by
  by_cases hd: ∃j,iP ops j=some t
  ·obtain⟨j,hj⟩:=hd;obtain⟨e,he,h,rfl⟩:=h2 t ht j hj;rw[ha.mem _ _ hj (p e he h),hb.mem _ _ hj (aOd ho hj ht)]
  rw[ha.out t fun j _ hj=>hd ⟨j,hj⟩,hb.out t fun j _ hj=>hd ⟨j,hj⟩]
 have k:execOp a.eval o=execOp b.eval o:=execOp_congr o d fun x hx=>by
  cases x with
  |tmp t=>have:=c t (aU8 _ (List.mem_filterMap.2 ⟨.tmp t,by simpa using hx,rfl⟩));simp only[Act.eval,Array.getD_eq_getD_getElem?,this]
  |_=>rfl
 have q:Region.wanted o (yielded ops a.tmps)=Region.wanted o (yielded ops b.tmps):=by
  unfold Region.wanted;cases hg:o.guard with
  |none=>rfl
  |some gw=>
   obtain⟨g,r⟩:=gw;have:yielded ops a.tmps g=yielded ops b.tmps g:=by
    unfold yielded;cases ht:(ops[g]?).bind (·.dst)with
    |none=>rfl
    |some t=>have:=c t (by simp[Oper.looksAt,hg,ht]);simp[this]
   simp only[this]
 exact⟨k,q⟩
variable {T:Nat→World→Prop} {st:Nat}
def xV (P:Program)(ops:Array Oper)(G:Nat→Value→World→Prop)(R:World→World→Prop)(T:Nat→World→Prop)(st kk:Nat)(i:Nat)(o:Oper)(w:World)(a:Act):Prop:=
 ∀K':Act→World→Prop,(∀a' w'',(∃v,a'=a.put o.dst v∧G i v w''∧R w w''∧T (kk+st) w'')→K' a' w'')→if Region.wanted o (yielded ops a.tmps)=true then Oper.wp P o a w K' (fun _ _ _=>False)else K' (a.put o.dst undef) w
def StepsLT (P:Program)(md:Region.Mode)(ops:Array Oper)(G:Nat→Value→World→Prop)(R:World→World→Prop)(T:Nat→World→Prop)(st:Nat)(top:Nat)(a0:Act)(W:World)(l:List Nat):Prop:=
 ∀i∈l,∀o,ops[i]? =some o→ ∀w kk,R W w→T kk w→kk≤top→ForV G w (fN ops i) a0 (xV P ops G R T st kk i o w)
theorem StepsLT.nil {a:Nat}{a0:Act}{W:World}:StepsLT P md ops G R T st a a0 W []:=fun _ h=>by cases h
theorem StepsLT.cons {b:Nat}{a0:Act}{W:World}{i:Nat}{o:Oper}{ps:List (Nat×Option Tmp)}{is:List Nat}(ho:ops[i]? =some o) (hp:fN ops i=ps)
  (h: ∀w kk,R W w→T kk w→kk≤b→ForV G w ps a0 (xV P ops G R T st kk i o w)) (hs:StepsLT P md ops G R T st b a0 W is):StepsLT P md ops G R T st b a0 W (i::is):=by
 intro j hj o' a w kk hw hr hk;rcases aTi.1 hj with rfl|hj
 ·rw[ho]at a;cases a;rw[hp];exact h w kk hw hr hk
 exact hs j hj o' a w kk hw hr hk
theorem aN5 {n:Nat}(p:oD md ops n=true){a0:Act}{kk:Nat}(hn:a0.tmps.size=n){vals:Nat→Value}{w:World}{l:Nat→Prop}{a b:Act}{i:Nat}{o:Oper}(ho:ops[i]? =some o)
  (y: ∀e∈o.after,Region.binds md e=true→l e.on) (ab: ¬l i)
  (ha:FrI ops a0 vals l a) (hb:FrI ops a0 vals (fun j=>j∈(fN ops i).map (·.1)) b) (h:xV P ops G R T st kk i o w b) {K:Act→World→Prop}
  (hK: ∀v w'',G i v w''→R w w''∧T (kk+st) w''→K (a.put o.dst v) w''):wpOp P ops Q i K a w:=by
 obtain⟨aa,hs⟩:=kW p;obtain⟨h1,h2⟩:=hs i o ho;obtain⟨s,z⟩:=aBi p ho y ha hb;have g:=h (fun a' w'=> ∃v,a'=b.put o.dst v∧G i v w'∧R w w'∧T (kk+st) w') (fun a' w'' h=>h);have k: ∀u v:Value,b.put o.dst u=b.put o.dst v→a.put o.dst u=a.put o.dst v:=fun u v he=>by
  cases hd:o.dst with
  |none=>rfl
  |some d=>
   rw[hd]at he;obtain⟨t,-⟩:=h1 d hd;have e1:(b.tmps.setIfInBounds d u)[d]? =(b.tmps.setIfInBounds d v)[d]? :=by have:=congrArg Act.tmps he;simp only[Act.put]at this;rw[this]
   have q:d<b.tmps.size:=by rw[hb.size,hn];exact t
   simp[q]at e1;rw[e1]
 refine wpOp_step ho fun K' hK'=> ?_
 rw[z];split
 ·rename_i hw;rw[if_pos hw]at g;unfold Oper.wp at*;rw[s];generalize (execOp b.eval o).run P w=r at*;cases r with
  |ok m w'=>
   cases m<;>simp only[Oper.upon]at g⊢
   case value u=>obtain⟨v,he,hg,hr⟩:=g;rw[k _ _ he];exact hK' _ _ (hK v _ hg hr)
   case skip=>obtain⟨v,he,hg,hr⟩:=g;rw[k _ _ he];exact hK' _ _ (hK v _ hg hr)
   case defer d=>obtain⟨v,he,hg,hr⟩:=g;have:=congrArg Act.defers he;cases hd:o.dst<;>simp[Act.put,hd]at this
   case enter f args=>
    refine Calls.mono g fun e w'' he=> ?_
    cases e with
    |returned u=>obtain⟨v,he,hg,hr⟩:=he;show K' _ _;rw[k _ _ he];exact hK' _ _ (hK v _ hg hr)
    |panicked c=>exact he.elim
    |outgrown=>obtain⟨_,_,h⟩:=he;exact h.elim
   case row row args=>
    refine Rows.mono g fun u w'' he=> ?_
    obtain⟨v,he,hg,hr⟩:=he;rw[k _ _ he];exact hK' _ _ (hK v _ hg hr)
  |halt x w'=>cases x<;>simp only[Oper.upon]at g
 rename_i hw;rw[if_neg hw]at g;obtain⟨v,he,hg,hr⟩:=g;rw[k _ _ he];exact hK' _ _ (hK v _ hg hr)
def qR (m fl n:Nat):Array Bool:=((List.replicate m true).set fl false++List.replicate n false).toArray
theorem aOi {k0 n m fl:Nat}(r:oD md ops n=true)(am:tU md ops=true)(ht:mZ md ops m fl=true)(hm:m≤ops.size)(hT: ∀k w,T k w→T (k+st) w)(hQ:fl<m→ ∀o,ops[fl]? =some o→ ∀v c a w,Q (.panic c) (Act.put a o.dst v) w→Q (.panic c) a w) (ag:fl<m→Region.free md ops (qR m fl (ops.size-m)) fl=true) {a0:Act} (hn:a0.tmps.size=n) {W:World} (ay: ∀a b c,R a b→R b c→R a c) (hG: ∀i v w w',G i v w→R w w'→G i v w')
  (hy:fl<m→ ∀o,ops[fl]? =some o→ ∀w,R W w→ForV G w (fN ops fl) a0 (fun b=> ∃v,Yields P ops o v b∧G fl v w)) (hs:StepsLT P md ops G R T st (k0+st*ops.size) a0 W (List.range m)) (he: ∀w,R W w→T (k0+st*m) w→ForV G w (jU ops m) a0 (fun a=>wpAny P md ops Q (ops.size-m) (fV m (ops.size-m)) a w)):
  ∀(fuel:Nat) (listed:Array Bool) (a:Act) (w:World) (vals:Nat→Value),listed.size=ops.size→(∀i o,ops[i]? =some o→listed.getD i false=true→ ∀e∈o.after,Region.binds md e=true→listed.getD e.on false=true)→
   (∀i,m≤i→listed.getD i false=false)→
   R W w→(∃j,j+fuel=ops.size∧T (k0+st*j) w)→FrI ops a0 vals (fun j=>listed.getD j false=true) a→(∀i,listed.getD i false=true→G i (vals i) w)→
   List.count false listed.toList=fuel→wpAny P md ops Q fuel listed a w:=by
 intro fuel
 -- all of the head have come up
 have ad: ∀(fuel:Nat) (listed:Array Bool) (a:Act) (w:World) (vals:Nat→Value),listed.size=ops.size→(∀i,m≤i→listed.getD i false=false)→R W w→(∃j,j+fuel=ops.size∧T (k0+st*j) w)→FrI ops a0 vals (fun j=>listed.getD j false=true) a→(∀i,listed.getD i false=true→G i (vals i) w)→
   List.count false listed.toList=fuel→(∀i,i<m→listed.getD i false=true)→wpAny P md ops Q fuel listed a w:=by
  intro fuel listed a w vals x q hR y hF s u f;have ap:listed.toList=List.replicate m true++List.replicate (ops.size-m) false:=by
   apply List.ext_getElem?;intro i;rw[Array.getElem?_toList];by_cases him:i<m
   ·have h1:=f i him;have h2:i<listed.size:=by omega
    simp[h2]at h1;simp[h2,h1,List.getElem?_append,him]
   by_cases hio:i<listed.size
   ·have h1:=q i (by omega);simp[hio]at h1;have h2:i-m<ops.size-m:=by omega
    rw[aTy (by simp;omega)];simp[hio,h1,h2]
   rw[Array.getElem?_eq_none (by omega),aUn (by simp;omega)]
  have e2:listed=fV m (ops.size-m):=by unfold fV;rw[←ap]
  have e3:fuel=ops.size-m:=by rw[←u,e2];simp[fV,List.count_append,List.count_replicate]
  have h:=he w hR (by
   obtain⟨j,hj,hr⟩:=y;have:j=m:=by omega
   rw[this]at hr;exact hr)
  obtain⟨b,hb,hq⟩:=ForV.get r hn (G:=G) (vals:=vals) (jU ops m) (fun _=>False) a0 (fun p hp=>by
   unfold jU at hp;obtain⟨i,hi,rfl⟩:=List.mem_map.1 hp;have:=aTq.1 hi
   exact⟨⟨ops[i]'(by omega),Array.getElem?_eq_getElem _⟩,rfl⟩) (fun p hp=>by
   unfold jU at hp;obtain⟨i,hi,rfl⟩:=List.mem_map.1 hp
   exact s i (f i (aTq.1 hi))) FrI.nil h
  have e1:a=b:=hF.eq (hb.congr (fun i=>by
   simp only[false_or,jU,List.map_map,List.mem_map,aTq];constructor
   ·rintro⟨j,hj,rfl⟩;exact f j hj
   ·intro hl;refine⟨i,?_,rfl⟩;rcases Nat.lt_or_ge i m with h'|h'
    ·exact h'
    ·rw[q i h']at hl;cases hl) (fun _ _=>rfl))
  rw[e1,e2,e3];exact hq
 induction fuel with
 |zero=>
  intro listed a w vals x ae q hR y hF s u;refine ad 0 listed a w vals x q hR y hF s u fun i hi=> ?_
  have ar:i<listed.size:=by omega
  cases hb:listed[i]with
  |true=>simp[hb,ar]
  |false=>
   have ao:false∈listed.toList:=by rw[←hb];simp
   have:=List.count_pos_iff.2 ao;omega
 |succ fuel ih=>
  intro listed a w vals x ae q hR y hF s u;by_cases f: ∀i,i<m→listed.getD i false=true
  ·exact ad _ listed a w vals x q hR y hF s u f
  by_cases hbut: ∀i,i<m→i≠fl→listed.getD i false=true
  ·have af:fl<m:=by
    rcases Nat.lt_or_ge fl m with h|h
    ·exact h
    exact absurd (fun i hi=>hbut i hi (by omega)) f
   have g:fl<listed.size:=by omega
   have z:listed[fl]=false:=by
    cases hb':listed[fl]with
    |false=>rfl
    |true=>exact absurd (fun i hi=>by
      by_cases e:i=fl
      ·subst e;simp[g,hb']
      ·exact hbut i hi e) f
   have ho:ops[fl]? =some ops[fl]:=Array.getElem?_eq_getElem (by omega);have l: ∀e∈(ops[fl]).after,Region.binds md e=true→listed.getD e.on false=true:=fun e he hb=>by have h5:=aU6.1 am fl (aTq.2 (by omega));simp only[ho]at h5;have h6:=Array.all_eq_true_iff_forall_mem.1 h5 e he;simp[hb]at h6;exact hbut _ (by omega) (by omega)
   have av:listed.toList=(List.replicate m true).set fl false++List.replicate (ops.size-m) false:=by
    apply List.ext_getElem?;intro i;rw[Array.getElem?_toList];by_cases him:i<m
    ·have h2:i<listed.size:=by omega
     rw[aTr (by simpa using him)];by_cases e:i=fl
     ·subst e;simp[g,z,him]
     have h1:=hbut i him e;simp[h2]at h1;simp[h2,h1,him,Ne.symm e]
    by_cases hio:i<listed.size
    ·have h1:=q i (by omega);simp[hio]at h1;have h2:i-m<ops.size-m:=by omega
     rw[aTy (by simp;omega)];simp[hio,h1,h2]
    rw[Array.getElem?_eq_none (by omega),aUn (by simp;omega)]
   have aq:listed=qR m fl (ops.size-m):=by unfold qR;rw[←av]
   have ai: ∀p∈fN ops fl,listed.getD p.1 false=true:=fun p hp=>by obtain⟨_,_,d,hd,hl⟩:=rJ ho hp;obtain⟨e,he,hbd,ak⟩:=((kW r).2 fl _ ho).2 d hl p.1 hd;have h3:=l e he hbd;rwa[ak]at h3
   obtain⟨b,hb,v,az,hg⟩:=ForV.get r hn (G:=G) (vals:=vals) (fN ops fl) (fun _=>False) a0 (fun p hp=>by
    obtain⟨h1,h2,_⟩:=rJ ho hp
    exact⟨⟨ops[p.1]'h1,Array.getElem?_eq_getElem _⟩,h2⟩) (fun p hp=>s _ (ai p hp)) FrI.nil (hy af _ ho w hR)
   have ab: ¬listed.getD fl false=true:=by simp[g,z]
   refine wpAny_take ho (kW r).1 (by rw[aq];exact ag af) (by simpa using mem_ready.2 ⟨by simp[g,z],_,ho,l⟩) (fun c a w h=>hQ af _ ho _ c a w h) (by obtain⟨h1,h2⟩:=aBi r ho l hF (hb.congr (fun j=>by simp) (fun _ _=>rfl));unfold Yields at*;rw[h1,h2];exact az) ?_;refine ad fuel (listed.setIfInBounds fl true) _ w (fun j=>if j=fl then v else vals j) (by simpa using x) (fun j hj=>by rw[getD_set_ne false (by omega)];exact q j hj) hR (by obtain⟨j,hj,hr⟩:=y;exact⟨j+1,by omega,by rw[Nat.mul_succ,←Nat.add_assoc];exact hT _ _ hr⟩) ?_ ?_ ?_ ?_
   ·refine(hF.put r hn ho v (fun h=>absurd h ab)).congr (fun j=> ?_) (fun _ _=>rfl);by_cases hji:j=fl
    ·subst hji;simp[g]
    rw[getD_set_ne false (Ne.symm hji)];simp[hji]
   ·intro j hj;by_cases hji:j=fl
    ·subst hji;simp only[if_true];exact hg
    rw[getD_set_ne false (Ne.symm hji)]at hj;simp only[hji,if_false];exact s j hj
   ·have e1:(listed.setIfInBounds fl true).toList=listed.toList.set fl true:=by simp
    rw[e1];have ah:fl<listed.toList.length:=by simpa using g
    have aa:listed.toList[fl]=false:=by simpa using z
    rw[List.count_set ah];rw[aa];have e2:((false==false)=true):=rfl;have e3: ¬((true==false)=true):=by decide
    rw[if_pos e2,if_neg e3];omega
   intro i hi;by_cases e:i=fl
   ·subst e;simp[g]
   rw[getD_set_ne false (Ne.symm e)];exact hbut i hi e
  refine⟨fun h=> ?_,fun i hi=> ?_⟩
  ·exact absurd (fun i hi=>aLr am listed x h i (by omega)) f
  have him:i<m:=by
   rcases Nat.lt_or_ge i m with h|h
   ·exact h
   exact absurd (aKi am ht listed hm ae q hi h) hbut
  obtain⟨h0,o,ho,l⟩:=mem_ready.1 hi;have an:i<ops.size:=(aUg.1 ho).1;have t:i<listed.size:=by rw[x];exact an
  have ab: ¬listed.getD i false=true:=by intro h;simp[t]at h h0;rw[h0]at h;cases h
  obtain⟨jj,a1,aw⟩:=y;have al:=hs i (aTq.2 him) o ho w (k0+st*jj) hR aw (Nat.add_le_add_left (Nat.mul_le_mul_left st (by omega)) k0);have ai: ∀p∈fN ops i,listed.getD p.1 false=true:=fun p hp=>by obtain⟨_,_,d,hd,hl⟩:=rJ ho hp;obtain⟨e,he,hbd,ak⟩:=((kW r).2 i o ho).2 d hl p.1 hd;have h3:=l e he hbd;rwa[ak]at h3
  obtain⟨b,hb,ax⟩:=ForV.get r hn (G:=G) (vals:=vals) (fN ops i) (fun _=>False) a0 (fun p hp=>by
   obtain⟨h1,h2,_⟩:=rJ ho hp
   exact⟨⟨ops[p.1]'h1,Array.getElem?_eq_getElem _⟩,h2⟩) (fun p hp=>s _ (ai p hp)) FrI.nil al
  refine aN5 (vals:=vals) r hn ho (fun e he hbd=>l e he hbd) ab hF (hb.congr (fun j=>by simp) (fun _ _=>rfl)) ax fun v w'' hg ⟨hr,hr2⟩=> ?_
  refine ih (listed.setIfInBounds i true) _ w'' (fun j=>if j=i then v else vals j) (by simpa using x) ?_ ?_ (ay _ _ _ hR hr) ⟨jj+1,by omega,by rw[Nat.mul_succ,←Nat.add_assoc];exact hr2⟩ ?_ ?_ ?_
  ·intro j oj aj hj e he hbd;by_cases hji:j=i
   ·subst hji;rw[ho]at aj;cases aj
    exact getD_set_true (l e he hbd)
   rw[getD_set_ne false (Ne.symm hji)]at hj;exact getD_set_true (ae j oj aj hj e he hbd)
  ·intro j hj;rw[getD_set_ne false (by omega)];exact q j hj
  ·refine(hF.put r hn ho v (fun h=>absurd h ab)).congr (fun j=> ?_) (fun _ _=>rfl);by_cases hji:j=i
   ·subst hji;simp[t]
   rw[getD_set_ne false (Ne.symm hji)];simp[hji]
  ·intro j hj;by_cases hji:j=i
   ·subst hji;simp only[if_true];exact hg
   rw[getD_set_ne false (Ne.symm hji)]at hj;simp only[hji,if_false];exact hG _ _ _ _ (s j hj) hr
  have au:listed[i]=false:=by
   cases hb':listed[i]with
   |false=>rfl
   |true=>exact absurd (by simp[t,hb']) ab
  have e1:(listed.setIfInBounds i true).toList=listed.toList.set i true:=by simp
  rw[e1];have ah:i<listed.toList.length:=by simpa using t
  have aa:listed.toList[i]=false:=by simpa using au
  rw[List.count_set ah];rw[aa];have e2:((false==false)=true):=rfl;have e3: ¬((true==false)=true):=by decide
  rw[if_pos e2,if_neg e3];omega
theorem qD {id n:Nat}{a0:Act}{w W:World}(G:Nat→Value→World→Prop)(R:World→World→Prop)(T:Nat→World→Prop)(k0 st m fl:Nat)(hm:P.follows .mixedOrders=true)(hn:a0.tmps.size=n)(p:oD .any ops n=true)(u:tU .any ops=true)(ht:mZ .any ops m fl=true)
  (hT: ∀k w,T k w→T (k+st) w)(q:T k0 W)(e: ∀w,R w w)(t: ∀a b c,R a b→R b c→R a c)(hG: ∀i v w w',G i v w→R w w'→G i v w')(hW:W=w.drew){k:Nat}(r:ops.size=k)(l:m≤k)
  (hQ:fl<m→ ∀o,ops[fl]? =some o→ ∀v c a w,Q (.panic c) (Act.put a o.dst v) w→Q (.panic c) a w) (d:fl<m→Region.free .any ops (qR m fl (k-m)) fl=true) (hy:fl<m→ ∀o,ops[fl]? =some o→ ∀w,R W w→ForV G w (fN ops fl) a0 (fun b=> ∃v,Yields P ops o v b∧G fl v w))
  {ls:List (Nat×Option Tmp)} (j:jU ops m=ls) {ir:List Nat} (g:List.range m=ir)
  (hs:StepsLT P .any ops G R T st (k0+st*k) a0 W ir) {tl:Array Bool} (s:fV m (k-m)=tl) (he: ∀w,R W w→T (k0+st*m) w→ForV G w ls a0 (fun a=>wpAny P .any ops Q (k-m) tl a w)):
  (Code.region id ops true).wp P Q a0 w:=by
 subst r j g s;refine wp_region_any hm ?_;have f:W={w with drawn:=w.drawn+1}:=hW;rw[←f];refine aOi p u ht l hT hQ d hn t hG hy hs he ops.size (Array.replicate ops.size false) a0 W (fun _=>undef) (by simp) ?_ ?_ (e _) ⟨0,by omega,by simpa using q⟩ ?_ ?_ ?_
 ·intro i o ho hl;have hi:=(aUg.1 ho).1;simp[hi]at hl
 ·intro i _;by_cases hi:i<ops.size<;>simp[hi]
 ·refine FrI.nil.congr (fun i=> ?_) (fun _ _=>rfl);constructor
  ·exact False.elim
  intro h;by_cases hi:i<ops.size
  ·simp[hi]at h
  simp[hi]at h
 ·intro i h;by_cases hi:i<ops.size
  ·simp[hi]at h
  simp[hi]at h
 simp
theorem ForV.map {w:World}: ∀ {l:List (Nat×Option Tmp)} {a:Act} {K K':Act→Prop},(∀a,K a→K' a)→ForV G w l a K→ForV G w l a K'
 | [],_,_,_,h,k=>h _ k
 |_::_,_,_,_,h,k=>fun v hv=>ForV.map h (k v hv)
theorem StepsL.t {a0:Act}{W:World}{is:List Nat}{a:Nat}(h:StepsL P md ops G R a0 W is):StepsLT P md ops G R (fun _ _=>True) 0 a a0 W is:=
 fun i hi o ho w _ hw _ _=>ForV.map (fun _ k K' hK=>k K' fun a' w'' ⟨v,e,g,x⟩=>hK a' w'' ⟨v,e,g,x,trivial⟩) (h i hi o ho w hw)
theorem aHx {id n:Nat}{a0:Act}{w:World}(G:Nat→Value→World→Prop)(m:Nat)(hm:P.follows .mixedOrders=true)(hn:a0.tmps.size=n)(e:oD .any ops n=true)(j:tU .any ops=true)(ht:mZ .any ops m m=true)
  (hG: ∀i v w w',G i v w→Ext w w'→G i v w'){k:Nat}(f:ops.size=k)(d:m≤k){ls:List (Nat×Option Tmp)}(c:jU ops m=ls){ir:List Nat}(b:List.range m=ir)
  (hs:StepsL P .any ops G Ext a0 w.drew ir){tl:Array Bool}(g:fV m (k-m)=tl)(he: ∀w',Ext w.drew w'→ForV G w' ls a0 (fun a=>wpAny P .any ops Q (k-m) tl a w')):
  (Code.region id ops true).wp P Q a0 w:=
 qD G Ext (fun _ _=>True) 0 0 m m hm hn e j ht (fun _ _ h=>h) trivial Ext.refl (fun _ _ _=>Ext.trans) hG rfl f d (fun h=>absurd h (Nat.lt_irrefl _)) (fun h=>absurd h (Nat.lt_irrefl _)) (fun h=>absurd h (Nat.lt_irrefl _)) c b hs.t g (fun w h _=>he w h)
theorem qF {id n:Nat}{a0:Act}{w:World}(G:Nat→Value→World→Prop)(m fl:Nat)(hm:P.follows .mixedOrders=true)(hn:a0.tmps.size=n)(p:oD .any ops n=true)(s:tU .any ops=true)(ht:mZ .any ops m fl=true)(u:fl<m)
  (hG: ∀i v w w',G i v w→Ext w w'→G i v w'){k:Nat}(q:ops.size=k)(l:m≤k)(d:Region.free .any ops (qR m fl (k-m)) fl=true){ls:List (Nat×Option Tmp)}(j:jU ops m=ls){ir:List Nat}(f:List.range m=ir){of:Oper}(e:ops[fl]? =some of) (hQ: ∀v c a w,Q (.panic c) (Act.put a of.dst v) w→Q (.panic c) a w) {lf:List (Nat×Option Tmp)} (g:fN ops fl=lf)
  (hy: ∀w',Ext w.drew w'→ForV G w' lf a0 (fun b=> ∃v,Yields P ops of v b∧G fl v w'))
  (hs:StepsL P .any ops G Ext a0 w.drew ir) {tl:Array Bool} (r:fV m (k-m)=tl) (he: ∀w',Ext w.drew w'→ForV G w' ls a0 (fun a=>wpAny P .any ops Q (k-m) tl a w')):
  (Code.region id ops true).wp P Q a0 w:=
 qD G Ext (fun _ _=>True) 0 0 m fl hm hn p s ht (fun _ _ h=>h) trivial Ext.refl (fun _ _ _=>Ext.trans) hG rfl q l (fun _ o ho=>by rw[e]at ho;cases ho;exact hQ) (fun _=>d) (fun _ o ho=>by rw[e]at ho;cases ho;subst g;exact hy) j f hs.t r (fun w h _=>he w h)
end
def gl (l:List (Value→World→Prop))(i:Nat):Value→World→Prop:=l.getD i (fun _ _=>True)
def wZ (g:Value→World→Prop):Prop:= ∀v w w',g v w→Ext w w'→g v w'
theorem kK {l:List (Value→World→Prop)}(h: ∀g∈l,wZ g): ∀i v w w',gl l i v w→Ext w w'→gl l i v w':=by
 intro i v w w' hg hx;unfold gl at*;rw[aTb]at*;cases hi:l[i]? with
 |none=>rw[hi]at hg;exact hg
 |some g=>rw[hi]at hg;simp only[Option.getD_some]at*;exact h g (aT7 hi) _ _ _ hg hx
def gEq (u:Value):Value→World→Prop:=fun v _=>v=u
theorem bB (u:Value):wZ (gEq u):=fun _ _ _ h _=>h
def aJ4 (lo:Nat)(t:TypeId)(cs:Array Value):Value→World→Prop:=fun v w=> ∃g,v= .pointer (some ⟨g,0,none⟩)∧lo≤g∧Blk w g t cs
theorem rR (lo:Nat)(t:TypeId)(cs:Array Value):wZ (aJ4 lo t cs):=fun _ _ _ ⟨g,h1,h2,h3⟩ hx=>⟨g,h1,h2,h3.ext hx⟩
def aDr (lo:Nat)(t:TypeId)(cs:Array Value)(n:Nat):Value→World→Prop:=fun v w=> ∃g,v= .slice (some ⟨g,0,none⟩) n n∧lo≤g∧Blk w g t cs
theorem aBq (lo:Nat)(t:TypeId)(cs:Array Value)(n:Nat):wZ (aDr lo t cs n):=fun _ _ _ ⟨g,h1,h2,h3⟩ hx=>⟨g,h1,h2,h3.ext hx⟩
theorem mU: ∀g∈([]:List (Value→World→Prop)),wZ g:=fun _ h=>by cases h
theorem aX {g:Value→World→Prop}{l:List (Value→World→Prop)}(h:wZ g)(k: ∀g∈l,wZ g): ∀g'∈g::l,wZ g':=fun g' h'=>by
 rcases aTi.1 h' with rfl|h'
 ·exact h
 exact k g' h'
section
variable {P:Program} {ops:Array Oper} {Q:Exit→Act→World→Prop} {md:Region.Mode} {G:Nat→Value→World→Prop} {R:World→World→Prop}
theorem rL {id n:Nat}{a0:Act}{w:World}(G:Nat→Value→World→Prop)(m k:Nat)(ls:List (Nat×Option Tmp))(hs:StepsL P .any ops G Ext a0 w.drew (List.range m))(he: ∀w',Ext w.drew w'→ForV G w' ls a0 (fun a=>wpAny P .any ops Q (k-m) (fV m (k-m)) a w'))
  (hG: ∀i v w w',G i v w→Ext w w'→G i v w':=by(refine kK ?_;repeat (first|exact mU|refine aX (bB _) ?_|refine aX (rR _ _ _) ?_|refine aX (aBq _ _ _ _) ?_)))
  (hm:P.follows .mixedOrders=true:=by kernel_rfl)(hn:a0.tmps.size=n:=by exact rfl)(d:oD .any ops n=true:=by kernel_rfl)(f:tU .any ops=true:=by kernel_rfl)(ht:mZ .any ops m m=true:=by kernel_rfl)
  (e:ops.size=k:=by kernel_rfl)(c:m≤k:=by decide)(b:jU ops m=ls:=by kernel_rfl):(Code.region id ops true).wp P Q a0 w:=
 aHx G m hm hn d f ht hG e c b rfl hs rfl he
end
end
section
open Go.Proofs.Tryz
def Rand (w:World)(R k:Nat):Prop:= ∃(p:OA) (n cap:Nat) (q:Int) (bs:List Int),
 Blk w R 71 #[.slice p n cap,q]∧0≤q∧q≤k∧Sl w p n cap 1 (bs.map (Value.int .u8))∧n≤2000∧(∀x∈bs,0≤x∧x≤255)∧(0<n→ ∀b off,p=some ⟨b,off,none⟩→b<R)
theorem Rand.mono {w:World}{R k k':Nat}(h:Rand w R k)(hk:k≤k'):Rand w R k':=by obtain⟨p,n,a,q,bs,h1,h2,h3,h4⟩:=h;exact⟨p,n,a,q,bs,h1,h2,by omega,h4⟩
theorem Rand.below {w w':World}{R k:Nat}(h:Rand w R k)(hx:Below (R+1) w w'):Rand w' R k:=by obtain⟨p,n,c,q,bs,h1,h2,h3,h4,h5,h6,h7⟩:=h;refine⟨p,n,c,q,bs,(hx.block R (Nat.lt_succ_self R)).trans h1,h2,h3,⟨h4.len,h4.le,h4.mx,fun h0=> ?_⟩,h5,h6,h7⟩;obtain⟨b,a,rfl,hb,hc⟩:=h4.rd h0;have d:=h7 h0 b a rfl;exact⟨b,a,rfl,aT4 hb hx.size,fun k hk=>(World.cell?_of_block (hx.block b (by omega))).trans (hc k hk)⟩
theorem Rand.alloc {w:World}{R k:Nat}(h:Rand w R k)(o:Obj):Rand (w.alloc o) R k:=by obtain⟨p,n,a,q,bs,h1,h2⟩:=id h;exact h.below (Below.alloc (Below.refl _ _) h1.lt o)
theorem Rand.setCell {w:World}{R k:Nat}(h:Rand w R k){p:Addr}(hp:R<p.block)(u:Value):Rand (w.setCell p u) R k:=h.below (Below.setCell (Below.refl _ _) hp u)
theorem Rand.drew {w:World}{R k:Nat}(h:Rand w R k):Rand w.drew R k:=h.below (Below.drew (Below.refl _ _))
theorem Rand.drewN {w:World}{R k:Nat}(h:Rand w R k)(n:Nat):Rand (w.drewN n) R k:=h.below (below_drewN (Below.refl _ _) n)
theorem Rand.ext {w w':World}{R k:Nat}(h:Rand w R k)(hx:Ext w w'):Rand w' R k:=by obtain⟨p,n,a,q,bs,h1,h2,h3,h4,h5⟩:=h;exact⟨p,n,a,q,bs,h1.ext hx,h2,h3,h4.ext hx,h5⟩
theorem Rand.lt {w:World}{R k:Nat}(h:Rand w R k):R<w.heap.size:=by obtain⟨p,n,a,q,bs,h1,_⟩:=h;exact h1.lt
theorem Rand.grown {w w':World}{R k:Nat}{row:Option Nat}(h:Rand w R k)(hg:w.grownBy w' row)(hr:some R≠row)(hb: ∀b,row=some b→w.heap.size≤b):Rand w' R k:=
 h.ext ((Ext.refl w).grown hg hb)
theorem yK {w:World}{p:OA}{n c:Nat}{xs:List Int}(h:Sl w p n c 1 (xs.map (Value.int .u8))){k:Nat}(hk:k<n):
  ∃b off x,p=some ⟨b,off,none⟩∧x∈xs∧b<w.heap.size∧w.cell? ⟨b,off+k,none⟩=some (.int .u8 x):=by
 obtain⟨b,off,rfl,hb,hc⟩:=h.rd (by omega);have hl:xs.length=n:=by simpa using h.len
 have a:k<xs.length:=by rw[hl];exact hk
 have hx:xs[k]? =some (xs[k]'a):=aT6 a;refine⟨b,off,_,rfl,List.getElem_mem a,hb,?_⟩;rw[hc k (by omega),aTo,hx];rfl
theorem aBf (a:Nat)(ha:a<9223372036854775808):(BitVec.ofInt 64 (a:Int)).toNat=a:=by rw[BitVec.ofInt_natCast,BitVec.toNat_ofNat];exact Nat.mod_eq_of_lt (by omega)
theorem aGt (x y:Int)(hx:0≤x)(c:x<9223372036854775808)(hy:0≤y)(f:y<9223372036854775808):0≤bits .xor .i64 x y∧bits .xor .i64 x y<9223372036854775808:=by
 obtain⟨a,rfl⟩:=aTw hx;obtain⟨b,rfl⟩:=aTw hy;have d:a ^^^ b<2 ^ 63:=Nat.xor_lt_two_pow (by omega) (by omega);have e:bits .xor .i64 (a:Int) (b:Int)=((a ^^^ b:Nat):Int):=by show IntKind.i64.wrap ((BitVec.ofInt 64 (a:Int) ^^^ BitVec.ofInt 64 (b:Int)).toNat:Int)=_;rw[BitVec.toNat_xor,aBf a (by omega),aBf b (by omega),IntKind.wrap_i64];omega
 rw[e];omega
def aRn (R k:Nat)(n:Int)(w:World)(e:Ending)(w':World):Prop:= ∃x:Int,e= .returned (.int .i64 x)∧0≤x∧(x<n∨x=0)∧Rand w' R (k+1)∧ExtR R w w'
theorem aLf {w w':World}{R k:Nat}{p:OA}{n a:Nat}{q:Int}{bs:List Int}(hw:w'=w.setCell ⟨R,1,none⟩ (I (q+1)))
  (h1:Blk w R 71 #[.slice p n a,q])(h2:0≤q)(h3:q≤k)(h4:Sl w p n a 1 (bs.map (Value.int .u8)))(h5:n≤2000)(h6: ∀x∈bs,0≤x∧x≤255)(h7:0<n→ ∀b off,p=some ⟨b,off,none⟩→b<R):
  Rand w' R (k+1)∧ExtR R w w':=by
 have hx:ExtR R w w':=by rw[hw];exact(ExtR.refl R w).setCell (p:=⟨R,1,none⟩) (.inl rfl) _
 refine⟨⟨p,n,a,q+1,bs,by rw[hw];exact h1.set 1 _,by omega,by omega,hx.sl (b0:=0) h4 (fun h0 b off e=>by have:=h7 h0 b off e;omega),h5,h6,h7⟩,hx⟩
theorem cK (R k:Nat)(n:Int)(w:World)(hr:Rand w R k)(hk:k≤1099511627776):
  U 16 #[.pointer (some ⟨R,0,none⟩),n] w (aRn R k n w):=by
 obtain⟨p,m,g,q,bs,h1,h2,h3,h4,h5,h6,a⟩:=hr;have h7:0<m→ ∀b off,p=some ⟨b,off,none⟩→b≠R:=fun h0 b off e=>by have:=a h0 b off e;omega
 have c0:=h1.cl 0;have c1:=h1.cl 1;have f1:=h1.frozen 1;have HS:=xQ (fun w' hw=>aLf (w':=w') hw h1 h2 h3 h4 h5 h6 a);by_cases hn:n<1
 ·clear h4 h6 h7;go_enter func16,ntmps16;go_wp2;go_ret;exact⟨0,rfl,by omega,.inr rfl,HS _ rfl⟩
 by_cases hm:m=0
 ·subst hm;clear h4 h6 h7;go_enter func16,ntmps16;go_wp2;go_ret;exact⟨0,rfl,by omega,.inr rfl,HS _ rfl⟩
 by_cases hq:q<m
 ·obtain⟨b,off,x,rfl,hx,hb,hc⟩:=yK h4 (k:=q.toNat) (by omega);obtain⟨x0,x1⟩:=h6 x hx;have d:b≠R:=h7 (by omega) b off rfl;have hl:=h4.le;clear h4 h6 h7;go_enter func16,ntmps16;go_wp2;go_ret;exact⟨_,rfl,Int.emod_nonneg _ (by omega),.inl (Int.emod_lt_of_pos _ (by omega)),HS _ rfl⟩
 obtain⟨b,off,x,rfl,hx,hb,hc⟩:=yK h4 (k:=(q%m).toNat) (by have:=Int.emod_lt_of_pos q (show(0:Int)<m by omega);have:=Int.emod_nonneg q (show(m:Int)≠0 by omega);omega);obtain⟨b2,f,y,c,hy,h,i⟩:=yK h4 (k:=((q*7+3)%m).toNat) (by have:=Int.emod_lt_of_pos (q*7+3) (show(0:Int)<m by omega);have:=Int.emod_nonneg (q*7+3) (show(m:Int)≠0 by omega);omega);simp only[aUq,Addr.mk.injEq,and_true]at c;obtain⟨rfl,rfl⟩:=c;obtain⟨x0,x1⟩:=h6 x hx;obtain⟨y0,y1⟩:=h6 y hy;have d:b≠R:=h7 (by omega) b off rfl;have hl:=h4.le;have i1:0≤q%m:=Int.emod_nonneg _ (by omega);have i2:q%m<m:=Int.emod_lt_of_pos _ (by omega);have i3:0≤(q*7+3)%m:=Int.emod_nonneg _ (by omega);have i4:(q*7+3)%m<m:=Int.emod_lt_of_pos _ (by omega);have i5:0≤q/m:=Int.ediv_nonneg h2 (by omega);have i6:q/m≤q:=Int.ediv_le_self _ h2;clear h4 h6 h7;go_enter func16,ntmps16;go_wp2;go_quiet (fail);all_goals go_wp2
 all_goals go_ret
 have z0:0≤x*131+y*1117+q*29+q/m*53:=by omega
 have z1:x*131+y*1117+q*29+q/m*53<9223372036854775808:=by omega
 obtain⟨z2,z3⟩:=aGt (x*131+y*1117+q*29+q/m*53) ((x*131+y*1117+q*29+q/m*53)/64) z0 z1 (by omega) (by omega);refine⟨_,rfl,?_,.inl ?_,?_⟩
 ·rw[Int.tmod_eq_emod_of_nonneg z2];exact Int.emod_nonneg _ (by omega)
 ·rw[Int.tmod_eq_emod_of_nonneg z2];exact Int.emod_lt_of_pos _ (by omega)
 obtain⟨a1,a2⟩:=HS _ rfl;exact⟨a1.ext (Ext.drewN (Ext.refl _) _),a2.drewN _⟩
theorem xN {w:World}{R c:Nat}(h:Rand w R c:=by(repeat' (first|(with_reducible assumption)|(with_reducible refine Rand.alloc ?_ _)|(with_reducible refine Rand.setCell ?_ (by first|exact Nat.le_refl _|(dsimp only;omega)|(simp;done)|(simp;omega)) _)|(with_reducible refine Rand.drew ?_)|(with_reducible refine Rand.drewN ?_ _)|(refine Rand.ext ?_ (by with_reducible assumption))))):Rand w R c:=h
end
end Go.Proofs.YthfmmibomhhmpaaGreatDoor
