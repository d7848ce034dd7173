/-
  Texts of this proof, packed (@packed).
-/
import Derived.KernelRfl
import Derived.Lib.ItoaLen
import Derived.Lib.ItoaMem
import Derived.RegionTactic
import Derived.Shelf.Strings.BuilderK
import Derived.Test.YtbgkcehffiogcacGreatDoorQS
import Derived.Test.YtbgkcehffiogcacGreatDoorQ1
namespace Go.Proofs.YtbgkcehffiogcacGreatDoor
open Go.RowKit
set_option linter.unusedSimpArgs false
set_option linter.unusedVariables false
set_option maxHeartbeats 8000000
set_option maxRecDepth 100000
section
open Go
section
variable {P:Program} {ops:Array Oper} {Q:Exit→Act→World→Prop} {md:Region.Mode} {G:Nat→Value→World→Prop} {R:World→World→Prop}
def iB (ops:Array Oper)(i:Nat):Option Tmp:=(ops[i]?).bind (·.dst)
def aPu (ops:Array Oper):List (Nat×Option Tmp):=(List.range ops.size).map (fun i=>(i,iB ops i))
def iN (ops:Array Oper)(i:Nat):List (Nat×Option Tmp):=
 match ops[i]? with
 |none=> []
 |some o=>(aPu ops).filter (fun p=>match p.2 with
  |none=>false
  |some d=>(o.looksAt ops).contains d)
def ForV (G:Nat→Value→World→Prop)(w:World):List (Nat×Option Tmp)→Act→(Act→Prop)→Prop
 | [],a,K=>K a
 |p::ps,a,K=> ∀v,G p.1 v w→ForV G w ps (a.put p.2 v) K
def pW (P:Program)(ops:Array Oper)(G:Nat→Value→World→Prop)(R:World→World→Prop)(i:Nat)(o:Oper)(w:World)(a:Act):Prop:=
 ∀K':Act→World→Prop,(∀a' w'',(∃v,a'=a.put o.dst v∧G i v w''∧R w w'')→K' a' w'')→if Region.wanted o (yielded ops a.tmps)=true then Oper.wp P o a w K' (fun _ _ _=>False)else K' (a.put o.dst undef) w
def StepsL (P:Program)(md:Region.Mode)(ops:Array Oper)(G:Nat→Value→World→Prop)(R:World→World→Prop)(a0:Act)(W:World)(l:List Nat):Prop:=
 ∀i∈l,∀o,ops[i]? =some o→ ∀w,R W w→ForV G w (iN ops i) a0 (pW P ops G R i o w)
theorem StepsL.nil {a0:Act}{W:World}:StepsL P md ops G R a0 W []:=fun _ h=>by cases h
theorem StepsL.cons {a0:Act}{W:World}{i:Nat}{o:Oper}{ps:List (Nat×Option Tmp)}{is:List Nat}(ho:ops[i]? =some o) (hp:iN ops i=ps)
  (h: ∀w,R W w→ForV G w ps a0 (pW P ops G R i o w)) (hs:StepsL P md ops G R a0 W is):StepsL P md ops G R a0 W (i::is):=by
 intro j hj o' a w hw;rcases aS6.1 hj with rfl|hj
 ·rw[ho]at a;cases a;rw[hp];exact h w hw
 exact hs j hj o' a w hw
theorem sC {a0:Act}{W:World}{i:Nat}{o:Oper}{is:List Nat}(ps:List (Nat×Option Tmp))(ho:ops[i]? =some o) (h: ∀w,R W w→ForV G w ps a0 (pW P ops G R i o w)) (hs:StepsL P md ops G R a0 W is) (hp:iN ops i=ps:=by kernel_rfl):StepsL P md ops G R a0 W (i::is):=StepsL.cons ho hp h hs
theorem sS0 {a0:Act}{W:World}{i:Nat}{o:Oper}{is:List Nat}(ps:List (Nat×Option Tmp))(hs:StepsL P md ops G Ext a0 W is)(ho:ops[i]? =some o:=by exact rfl) (hp:iN ops i=ps:=by kernel_rfl) (h: ∀w,Ext W w→ForV G w ps a0 (pW P ops G Ext i o w):=by intro wi hx K hK;go_simp;exact hK _ _ ⟨_,rfl,rfl,Ext.refl _⟩):StepsL P md ops G Ext a0 W (i::is):=StepsL.cons ho hp h hs
theorem sS1 {a0:Act}{W:World}{i:Nat}{o:Oper}{is:List Nat}(ps:List (Nat×Option Tmp))(hs:StepsL P md ops G Ext a0 W is)(ho:ops[i]? =some o:=by exact rfl) (hp:iN ops i=ps:=by kernel_rfl) (h: ∀w,Ext W w→ForV G w ps a0 (pW P ops G Ext i o w):=by intro wi hx v0 h0 K hK;obtain rfl:=h0;go_simp;exact hK _ _ ⟨_,rfl,rfl,Ext.refl _⟩):StepsL P md ops G Ext a0 W (i::is):=StepsL.cons ho hp h hs
theorem sS2 {a0:Act}{W:World}{i:Nat}{o:Oper}{is:List Nat}(ps:List (Nat×Option Tmp))(hs:StepsL P md ops G Ext a0 W is)(ho:ops[i]? =some o:=by exact rfl) (hp:iN ops i=ps:=by kernel_rfl) (h: ∀w,Ext W w→ForV G w ps a0 (pW P ops G Ext i o w):=by intro wi hx v0 h0 v1 h1 K hK;subst h0 h1;go_simp;exact hK _ _ ⟨_,rfl,rfl,Ext.refl _⟩):StepsL P md ops G Ext a0 W (i::is):=StepsL.cons ho hp h hs
theorem sS3 {a0:Act}{W:World}{i:Nat}{o:Oper}{is:List Nat}(ps:List (Nat×Option Tmp))(hs:StepsL P md ops G Ext a0 W is)(ho:ops[i]? =some o:=by exact rfl) (hp:iN ops i=ps:=by kernel_rfl) (h: ∀w,Ext W w→ForV G w ps a0 (pW P ops G Ext i o w):=by intro wi hx v0 h0 v1 h1 v2 h2 K hK;subst h0 h1 h2;go_simp;exact hK _ _ ⟨_,rfl,rfl,Ext.refl _⟩):StepsL P md ops G Ext a0 W (i::is):=StepsL.cons ho hp h hs
def pC (md:Region.Mode)(ops:Array Oper)(n:Nat):Bool:=
 Region.noSelect ops&&(List.range ops.size).all fun i=>
  match ops[i]? with
  |none=>true
  |some o=>
   (match o.dst with
    |none=>true
    |some d=>decide (d<n)&&(List.range ops.size).all fun j=>j==i || iB ops j !=some d)&&
   (o.looksAt ops).all fun t=>(List.range ops.size).all fun j=>iB ops j !=some t || o.after.any fun e=>Region.binds md e&&e.on==j
theorem kH {n:Nat}(h:pC md ops n=true):
  Region.noSelect ops=true∧ ∀i o,ops[i]? =some o→
   (∀d,o.dst=some d→d<n∧ ∀j,j≠i→iB ops j≠some d)∧
   (∀t∈o.looksAt ops,∀j,iB ops j=some t→ ∃e∈o.after,Region.binds md e=true∧e.on=j):=by
 unfold pC at h;rw[aRy]at h;refine⟨h.1,fun i o ho=> ?_⟩;have b:i<ops.size:=(aSz.1 ho).1;have h1:=aSp.1 h.2 i (aS7.2 b);simp only[ho,aRy]at h1;obtain⟨h1,h2⟩:=h1;have a: ∀j t,iB ops j=some t→j<ops.size:=fun j t hj=>by
  rcases Nat.lt_or_ge j ops.size with h'|h'
  ·exact h'
  simp[iB,Array.getElem?_eq_none h']at hj
 refine⟨fun d hd=> ?_,fun t ht j hj=> ?_⟩
 ·rw[hd]at h1;simp only[aRy,decide_eq_true_eq]at h1;refine⟨h1.1,fun j hji hj=> ?_⟩;have:=aSp.1 h1.2 j (aS7.2 (a j d hj));simp[hji,hj]at this
 have:=aSp.1 (aSp.1 h2 t ht) j (aS7.2 (a j t hj));simp only[Bool.or_eq_true,bne_iff_ne,ne_eq]at this;rcases this with h'|h'
 ·exact absurd hj h'
 obtain⟨e,he,h3⟩:=Array.any_eq_true'.1 h';rw[aRy]at h3;exact⟨e,he,h3.1,by simpa using h3.2⟩
structure FrI (ops:Array Oper) (a0:Act) (vals:Nat→Value) (l:Nat→Prop) (a:Act):Prop where
 defers:a.defers=a0.defers
 size:a.tmps.size=a0.tmps.size
 mem: ∀i d,iB ops i=some d→l i→a.tmps[d]? =some (vals i)
 out: ∀d,(∀i,l i→iB ops i≠some d)→a.tmps[d]? =a0.tmps[d]?
theorem aQ7 {a b:Act}(h:a.tmps=b.tmps)(k:a.defers=b.defers):a=b:=by cases a;cases b;simp_all
theorem FrI.put {n:Nat}{a0 a:Act}{vals:Nat→Value}{l:Nat→Prop}(k:pC md ops n=true)(hn:a0.tmps.size=n)(h:FrI ops a0 vals l a){i:Nat}{o:Oper}(ho:ops[i]? =some o) (v:Value) (hv:l i→vals i=v):
  FrI ops a0 (fun j=>if j=i then v else vals j) (fun j=>l j∨j=i) (a.put o.dst v):=by
 obtain⟨-,hs⟩:=kH k;have c:iB ops i=o.dst:=by simp[iB,ho]
 cases hd:o.dst with
 |none=>
  refine⟨h.defers,h.size,fun j d hj hl=> ?_,fun d hd'=>h.out d fun j hj=>hd' j (.inl hj)⟩;have b:j≠i:=by rintro rfl;rw[c,hd]at hj;cases hj
  simp only[Act.put,b,if_false];exact h.mem j d hj (hl.resolve_right b)
 |some d0=>
  obtain⟨g,f⟩:=(hs i o ho).1 d0 hd;refine⟨h.defers,by simp[Act.put,h.size],fun j d hj hl=> ?_,fun d hd'=> ?_⟩
  ·by_cases b:j=i
   ·subst b;rw[c,hd]at hj;cases hj
    simp[Act.put,h.size,hn,g]
   have e:d0≠d:=by rintro rfl;exact f j b hj
   simp only[Act.put,b,if_false];rw[Array.getElem?_setIfInBounds_ne e];exact h.mem j d hj (hl.resolve_right b)
  have e:d0≠d:=by rintro rfl;exact hd' i (.inr rfl) (by rw[c,hd])
  simp only[Act.put];rw[Array.getElem?_setIfInBounds_ne e];exact h.out d fun j hj=>hd' j (.inl hj)
theorem FrI.congr {a0 a:Act}{vals vals':Nat→Value}{l l':Nat→Prop}(h:FrI ops a0 vals l a)(hl: ∀i,l i↔l' i)(hv: ∀i,l' i→vals i=vals' i):FrI ops a0 vals' l' a:=
 ⟨h.defers,h.size,fun i d hd hi=>by rw[←hv i hi];exact h.mem i d hd ((hl i).2 hi),fun d hd=>h.out d fun i hi=>hd i ((hl i).1 hi)⟩
theorem FrI.nil {a0:Act}{vals:Nat→Value}:FrI ops a0 vals (fun _=>False) a0:=⟨rfl,rfl,fun _ _ _ h=>h.elim,fun _ _=>rfl⟩
theorem FrI.eq {a0 a b:Act}{vals:Nat→Value}{l:Nat→Prop}(h:FrI ops a0 vals l a)(k:FrI ops a0 vals l b):a=b:=by
 refine aQ7 ?_ (h.defers.trans k.defers.symm);apply Array.ext_getElem?;intro d;by_cases hd: ∃i,l i∧iB ops i=some d
 ·obtain⟨i,hi,hd⟩:=hd;rw[h.mem i d hd hi,k.mem i d hd hi]
 have c: ∀i,l i→iB ops i≠some d:=fun i hi he=>hd ⟨i,hi,he⟩
 rw[h.out d c,k.out d c]
theorem ForV.get {n:Nat}(c:pC md ops n=true){a0:Act}(hn:a0.tmps.size=n){vals:Nat→Value}{w:World}{K:Act→Prop}:
  ∀(ps:List (Nat×Option Tmp)) (l:Nat→Prop) (a:Act),(∀p∈ps,(∃o,ops[p.1]? =some o)∧p.2=iB ops p.1)→(∀p∈ps,G p.1 (vals p.1) w)→FrI ops a0 vals l a→ForV G w ps a K→
   ∃b,FrI ops a0 vals (fun j=>l j∨j∈ps.map (·.1)) b∧K b
 | [],l,a,_,_,hf,h=>⟨a,hf.congr (fun i=>by simp) (fun _ _=>rfl),h⟩
 |p::ps,l,a,hp,hG,hf,h=>by
  obtain⟨⟨o,ho⟩,hd⟩:=hp p (by simp);have d:p.2=o.dst:=by rw[hd];simp[iB,ho]
  have h1:=h (vals p.1) (hG p (by simp));rw[d]at h1
  have e:=(hf.put c hn ho (vals p.1) (fun _=>rfl)).congr (l':=fun j=>l j∨j=p.1) (vals':=vals) (fun _=>Iff.rfl) (fun i _=>by
   by_cases hi:i=p.1
   ·simp[hi]
   ·simp[hi])
  obtain⟨b,hb,hK⟩:=ForV.get c hn ps _ _ (fun q hq=>hp q (by simp[hq])) (fun q hq=>hG q (by simp[hq])) e h1;refine⟨b,hb.congr (fun i=> ?_) (fun _ _=>rfl),hK⟩;simp only[aTn,aS6];constructor
  ·rintro((h|h)|h)
   ·exact .inl h
   ·exact .inr (.inl h)
   exact .inr (.inr h)
  rintro(h|h|h)
  ·exact .inl (.inl h)
  ·exact .inl (.inr h)
  exact .inr h
theorem qJ {i:Nat}{o:Oper}(ho:ops[i]? =some o) {p:Nat×Option Tmp} (h:p∈iN ops i):p.1<ops.size∧p.2=iB ops p.1∧ ∃d,iB ops p.1=some d∧d∈o.looksAt ops:=by
 unfold iN at h;rw[ho]at h;obtain⟨h1,h2⟩:=aSi.1 h;obtain⟨k,hk,rfl⟩:=List.mem_map.1 h1;refine⟨aS7.1 hk,rfl,?_⟩;dsimp only at h2⊢;cases hd:iB ops k with
 |none=>rw[hd]at h2;simp at h2
 |some d=>rw[hd]at h2;exact⟨d,rfl,by simpa using h2⟩
theorem aMw {i:Nat}{o:Oper}(ho:ops[i]? =some o) {j d:Nat} (hj:iB ops j=some d) (hd:d∈o.looksAt ops):j∈(iN ops i).map (·.1):=by
 unfold iN;rw[ho];have a:j<ops.size:=by
  rcases Nat.lt_or_ge j ops.size with h'|h'
  ·exact h'
  simp[iB,Array.getElem?_eq_none h']at hj
 refine List.mem_map.2 ⟨(j,iB ops j),aSi.2 ⟨List.mem_map.2 ⟨j,aS7.2 a,rfl⟩,?_⟩,rfl⟩;dsimp only;rw[hj];simpa using hd
def xJ (md:Region.Mode)(ops:Array Oper):Bool:=(List.range ops.size).all fun i=>match ops[i]? with
 |none=>true
 |some o=>o.after.all fun e=> !Region.binds md e || decide (e.on<i)
theorem aK8 (h:xJ md ops=true)(a:Array Bool)(d:a.size=ops.size)(hr:Region.ready md ops a= []): ∀i,i<ops.size→a.getD i false=true:=by
 intro i;induction i using Nat.strongRecOn with
 |_ i ih=>
  intro hi;cases hl:a.getD i false with
  |true=>rfl
  |false=>
   have ho:ops[i]? =some ops[i]:=Array.getElem?_eq_getElem hi;have c:i<a.size:=by omega
   have b:i∈Region.ready md ops a:=by rw[mem_ready];refine⟨by simp[c]at hl⊢;exact hl,_,ho,fun e he hb=> ?_⟩;have h1:=aSp.1 h i (aS7.2 hi);simp only[ho]at h1;have h2:=Array.all_eq_true_iff_forall_mem.1 h1 e he;simp[hb]at h2;exact ih e.on h2 (by omega)
   rw[hr]at b;cases b
def gU (m n:Nat):Array Bool:=(List.replicate m true++List.replicate n false).toArray
def kV (ops:Array Oper)(m:Nat):List (Nat×Option Tmp):=(List.range m).map (fun i=>(i,iB ops i))
def pZ (md:Region.Mode)(ops:Array Oper)(m fl:Nat):Bool:=(List.range ops.size).all fun i=>decide (i<m) || match ops[i]? with
 |none=>true
 |some o=>(o.after.any fun e=>Region.binds md e&&decide (m≤e.on)) || (List.range m).all fun j=>j==fl ||
   ((o.after.any fun e=>Region.binds md e&&e.on==j) || (List.range m).any fun k=>k !=fl&&match ops[k]? with
     |none=>false
     |some ok=>ok.after.any fun e=>Region.binds md e&&e.on==j)
theorem aJ5 {m fl:Nat}(s:xJ md ops=true)(ht:pZ md ops m fl=true)(a:Array Bool)(hm:m≤ops.size)
  (g: ∀i o,ops[i]? =some o→a.getD i false=true→ ∀e∈o.after,Region.binds md e=true→a.getD e.on false=true)
  (r: ∀i,m≤i→a.getD i false=false) {i:Nat} (hi:i∈Region.ready md ops a) (u:m≤i): ∀j,j<m→j≠fl→a.getD j false=true:=by
 obtain⟨h0,o,ho,b⟩:=mem_ready.1 hi;have q:i<ops.size:=(aSz.1 ho).1;have h1:=aSp.1 ht i (aS7.2 q);have f: ¬i<m:=by omega
 simp only[ho,f,decide_false,Bool.false_or,Bool.or_eq_true]at h1;rcases h1 with h1|h1
 ·obtain⟨e,he,h2⟩:=Array.any_eq_true'.1 h1;rw[aRy]at h2;have h3:=b e he h2.1;rw[r e.on (by simpa using h2.2)]at h3;cases h3
 have t: ∀d j,m-j≤d→j<m→j≠fl→a.getD j false=true:=by
  intro d;induction d with
  |zero=>intro j h h';omega
  |succ d ih=>
   intro j hd hj hjf;have h2:=aSp.1 h1 j (aS7.2 hj);simp only[Bool.or_eq_true,beq_iff_eq,hjf,false_or]at h2;rcases h2 with h2|h2
   ·obtain⟨e,he,h3⟩:=Array.any_eq_true'.1 h2;rw[aRy]at h3;have h4:=b e he h3.1;rwa[show e.on=j by simpa using h3.2]at h4
   obtain⟨k,hk,h3⟩:=List.any_eq_true.1 h2;have n:=aS7.1 hk;have c:ops[k]? =some ops[k]:=Array.getElem?_eq_getElem (by omega);rw[aRy]at h3;obtain⟨p,h3⟩:=h3;simp only[c]at h3;obtain⟨e,he,h4⟩:=Array.any_eq_true'.1 h3;rw[aRy]at h4;have l:e.on=j:=by simpa using h4.2
   have h5:=aSp.1 s k (aS7.2 (by omega));simp only[c]at h5;have h6:=Array.all_eq_true_iff_forall_mem.1 h5 e he;simp[h4.1]at h6;have:=g k _ c (ih k (by omega) n (by simpa using p)) e he h4.1;rwa[l]at this
 exact fun j hj hjf=>t m j (by omega) hj hjf
theorem aA8 {n:Nat}(m:pC md ops n=true){a0:Act}{vals:Nat→Value}{l:Nat→Prop}{a b:Act}{i:Nat}{o:Oper}(ho:ops[i]? =some o)
  (p: ∀e∈o.after,Region.binds md e=true→l e.on)
  (ha:FrI ops a0 vals l a) (hb:FrI ops a0 vals (fun j=>j∈(iN ops i).map (·.1)) b):execOp a.eval o=execOp b.eval o∧Region.wanted o (yielded ops a.tmps)=Region.wanted o (yielded ops b.tmps):=by
 obtain⟨f,hs⟩:=kH m;obtain⟨h1,h2⟩:=hs i o ho;have d: ∀cs x,o.op≠ .select cs x:=fun cs x=>Region.noSelect_spec f i o cs x ho
 have c: ∀t∈o.looksAt ops,a.tmps[t]? =b.tmps[t]? :=fun t ht=>by
  by_cases hd: ∃j,iB ops j=some t
  ·obtain⟨j,hj⟩:=hd;obtain⟨e,he,h,rfl⟩:=h2 t ht j hj;rw[ha.mem _ _ hj (p e he h),hb.mem _ _ hj (aMw ho hj ht)]
  rw[ha.out t fun j _ hj=>hd ⟨j,hj⟩,hb.out t fun j _ hj=>hd ⟨j,hj⟩]
 have k:execOp a.eval o=execOp b.eval o:=execOp_congr o d fun x hx=>by
  cases x with
  |tmp t=>have:=c t (aSr _ (List.mem_filterMap.2 ⟨.tmp t,by simpa using hx,rfl⟩));simp only[Act.eval,Array.getD_eq_getD_getElem?,this]
  |_=>rfl
 have q:Region.wanted o (yielded ops a.tmps)=Region.wanted o (yielded ops b.tmps):=by
  unfold Region.wanted;cases hg:o.guard with
  |none=>rfl
  |some gw=>
   obtain⟨g,r⟩:=gw;have:yielded ops a.tmps g=yielded ops b.tmps g:=by
    unfold yielded;cases ht:(ops[g]?).bind (·.dst)with
    |none=>rfl
    |some t=>have:=c t (by simp[Oper.looksAt,hg,ht]);simp[this]
   simp only[this]
 exact⟨k,q⟩
variable {T:Nat→World→Prop} {st:Nat}
def aCu (P:Program)(ops:Array Oper)(G:Nat→Value→World→Prop)(R:World→World→Prop)(T:Nat→World→Prop)(st kk:Nat)(i:Nat)(o:Oper)(w:World)(a:Act):Prop:=
 ∀K':Act→World→Prop,(∀a' w'',(∃v,a'=a.put o.dst v∧G i v w''∧R w w''∧T (kk+st) w'')→K' a' w'')→if Region.wanted o (yielded ops a.tmps)=true then Oper.wp P o a w K' (fun _ _ _=>False)else K' (a.put o.dst undef) w
def StepsLT (P:Program)(md:Region.Mode)(ops:Array Oper)(G:Nat→Value→World→Prop)(R:World→World→Prop)(T:Nat→World→Prop)(st:Nat)(top:Nat)(a0:Act)(W:World)(l:List Nat):Prop:=
 ∀i∈l,∀o,ops[i]? =some o→ ∀w kk,R W w→T kk w→kk≤top→ForV G w (iN ops i) a0 (aCu P ops G R T st kk i o w)
theorem StepsLT.nil {a:Nat}{a0:Act}{W:World}:StepsLT P md ops G R T st a a0 W []:=fun _ h=>by cases h
theorem StepsLT.cons {b:Nat}{a0:Act}{W:World}{i:Nat}{o:Oper}{ps:List (Nat×Option Tmp)}{is:List Nat}(ho:ops[i]? =some o) (hp:iN ops i=ps)
  (h: ∀w kk,R W w→T kk w→kk≤b→ForV G w ps a0 (aCu P ops G R T st kk i o w)) (hs:StepsLT P md ops G R T st b a0 W is):StepsLT P md ops G R T st b a0 W (i::is):=by
 intro j hj o' a w kk hw hr hk;rcases aS6.1 hj with rfl|hj
 ·rw[ho]at a;cases a;rw[hp];exact h w kk hw hr hk
 exact hs j hj o' a w kk hw hr hk
theorem aLp {n:Nat}(p:pC md ops n=true){a0:Act}{kk:Nat}(hn:a0.tmps.size=n){vals:Nat→Value}{w:World}{l:Nat→Prop}{a b:Act}{i:Nat}{o:Oper}(ho:ops[i]? =some o)
  (y: ∀e∈o.after,Region.binds md e=true→l e.on) (ab: ¬l i)
  (ha:FrI ops a0 vals l a) (hb:FrI ops a0 vals (fun j=>j∈(iN ops i).map (·.1)) b) (h:aCu P ops G R T st kk i o w b) {K:Act→World→Prop}
  (hK: ∀v w'',G i v w''→R w w''∧T (kk+st) w''→K (a.put o.dst v) w''):wpOp P ops Q i K a w:=by
 obtain⟨aa,hs⟩:=kH p;obtain⟨h1,h2⟩:=hs i o ho;obtain⟨s,z⟩:=aA8 p ho y ha hb;have g:=h (fun a' w'=> ∃v,a'=b.put o.dst v∧G i v w'∧R w w'∧T (kk+st) w') (fun a' w'' h=>h);have k: ∀u v:Value,b.put o.dst u=b.put o.dst v→a.put o.dst u=a.put o.dst v:=fun u v he=>by
  cases hd:o.dst with
  |none=>rfl
  |some d=>
   rw[hd]at he;obtain⟨t,-⟩:=h1 d hd;have e1:(b.tmps.setIfInBounds d u)[d]? =(b.tmps.setIfInBounds d v)[d]? :=by have:=congrArg Act.tmps he;simp only[Act.put]at this;rw[this]
   have q:d<b.tmps.size:=by rw[hb.size,hn];exact t
   simp[q]at e1;rw[e1]
 refine wpOp_step ho fun K' hK'=> ?_
 rw[z];split
 ·rename_i hw;rw[if_pos hw]at g;unfold Oper.wp at*;rw[s];generalize (execOp b.eval o).run P w=r at*;cases r with
  |ok m w'=>
   cases m<;>simp only[Oper.upon]at g⊢
   case value u=>obtain⟨v,he,hg,hr⟩:=g;rw[k _ _ he];exact hK' _ _ (hK v _ hg hr)
   case skip=>obtain⟨v,he,hg,hr⟩:=g;rw[k _ _ he];exact hK' _ _ (hK v _ hg hr)
   case defer d=>obtain⟨v,he,hg,hr⟩:=g;have:=congrArg Act.defers he;cases hd:o.dst<;>simp[Act.put,hd]at this
   case enter f args=>
    refine Calls.mono g fun e w'' he=> ?_
    cases e with
    |returned u=>obtain⟨v,he,hg,hr⟩:=he;show K' _ _;rw[k _ _ he];exact hK' _ _ (hK v _ hg hr)
    |panicked c=>exact he.elim
    |outgrown=>obtain⟨_,_,h⟩:=he;exact h.elim
   case row row args=>
    refine Rows.mono g fun u w'' he=> ?_
    obtain⟨v,he,hg,hr⟩:=he;rw[k _ _ he];exact hK' _ _ (hK v _ hg hr)
  |halt x w'=>cases x<;>simp only[Oper.upon]at g
 rename_i hw;rw[if_neg hw]at g;obtain⟨v,he,hg,hr⟩:=g;rw[k _ _ he];exact hK' _ _ (hK v _ hg hr)
def pK (m fl n:Nat):Array Bool:=((List.replicate m true).set fl false++List.replicate n false).toArray
theorem aMy {k0 n m fl:Nat}(r:pC md ops n=true)(am:xJ md ops=true)(ht:pZ md ops m fl=true)(hm:m≤ops.size)(hT: ∀k w,T k w→T (k+st) w)(hQ:fl<m→ ∀o,ops[fl]? =some o→ ∀v c a w,Q (.panic c) (Act.put a o.dst v) w→Q (.panic c) a w) (ag:fl<m→Region.free md ops (pK m fl (ops.size-m)) fl=true) {a0:Act} (hn:a0.tmps.size=n) {W:World} (ay: ∀a b c,R a b→R b c→R a c) (hG: ∀i v w w',G i v w→R w w'→G i v w')
  (hy:fl<m→ ∀o,ops[fl]? =some o→ ∀w,R W w→ForV G w (iN ops fl) a0 (fun b=> ∃v,Yields P ops o v b∧G fl v w)) (hs:StepsLT P md ops G R T st (k0+st*ops.size) a0 W (List.range m)) (he: ∀w,R W w→T (k0+st*m) w→ForV G w (kV ops m) a0 (fun a=>wpAny P md ops Q (ops.size-m) (gU m (ops.size-m)) a w)):
  ∀(fuel:Nat) (listed:Array Bool) (a:Act) (w:World) (vals:Nat→Value),listed.size=ops.size→(∀i o,ops[i]? =some o→listed.getD i false=true→ ∀e∈o.after,Region.binds md e=true→listed.getD e.on false=true)→
   (∀i,m≤i→listed.getD i false=false)→
   R W w→(∃j,j+fuel=ops.size∧T (k0+st*j) w)→FrI ops a0 vals (fun j=>listed.getD j false=true) a→(∀i,listed.getD i false=true→G i (vals i) w)→
   List.count false listed.toList=fuel→wpAny P md ops Q fuel listed a w:=by
 intro fuel
 -- all of the head have come up
 have ad: ∀(fuel:Nat) (listed:Array Bool) (a:Act) (w:World) (vals:Nat→Value),listed.size=ops.size→(∀i,m≤i→listed.getD i false=false)→R W w→(∃j,j+fuel=ops.size∧T (k0+st*j) w)→FrI ops a0 vals (fun j=>listed.getD j false=true) a→(∀i,listed.getD i false=true→G i (vals i) w)→
   List.count false listed.toList=fuel→(∀i,i<m→listed.getD i false=true)→wpAny P md ops Q fuel listed a w:=by
  intro fuel listed a w vals x q hR y hF s u f;have ap:listed.toList=List.replicate m true++List.replicate (ops.size-m) false:=by
   apply List.ext_getElem?;intro i;rw[Array.getElem?_toList];by_cases him:i<m
   ·have h1:=f i him;have h2:i<listed.size:=by omega
    simp[h2]at h1;simp[h2,h1,List.getElem?_append,him]
   by_cases hio:i<listed.size
   ·have h1:=q i (by omega);simp[hio]at h1;have h2:i-m<ops.size-m:=by omega
    rw[aS3 (by simp;omega)];simp[hio,h1,h2]
   rw[Array.getElem?_eq_none (by omega),aSu (by simp;omega)]
  have e2:listed=gU m (ops.size-m):=by unfold gU;rw[←ap]
  have e3:fuel=ops.size-m:=by rw[←u,e2];simp[gU,List.count_append,List.count_replicate]
  have h:=he w hR (by
   obtain⟨j,hj,hr⟩:=y;have:j=m:=by omega
   rw[this]at hr;exact hr)
  obtain⟨b,hb,hq⟩:=ForV.get r hn (G:=G) (vals:=vals) (kV ops m) (fun _=>False) a0 (fun p hp=>by
   unfold kV at hp;obtain⟨i,hi,rfl⟩:=List.mem_map.1 hp;have:=aS7.1 hi
   exact⟨⟨ops[i]'(by omega),Array.getElem?_eq_getElem _⟩,rfl⟩) (fun p hp=>by
   unfold kV at hp;obtain⟨i,hi,rfl⟩:=List.mem_map.1 hp
   exact s i (f i (aS7.1 hi))) FrI.nil h
  have e1:a=b:=hF.eq (hb.congr (fun i=>by
   simp only[false_or,kV,List.map_map,List.mem_map,aS7];constructor
   ·rintro⟨j,hj,rfl⟩;exact f j hj
   ·intro hl;refine⟨i,?_,rfl⟩;rcases Nat.lt_or_ge i m with h'|h'
    ·exact h'
    ·rw[q i h']at hl;cases hl) (fun _ _=>rfl))
  rw[e1,e2,e3];exact hq
 induction fuel with
 |zero=>
  intro listed a w vals x ae q hR y hF s u;refine ad 0 listed a w vals x q hR y hF s u fun i hi=> ?_
  have ar:i<listed.size:=by omega
  cases hb:listed[i]with
  |true=>simp[hb,ar]
  |false=>
   have ao:false∈listed.toList:=by rw[←hb];simp
   have:=List.count_pos_iff.2 ao;omega
 |succ fuel ih=>
  intro listed a w vals x ae q hR y hF s u;by_cases f: ∀i,i<m→listed.getD i false=true
  ·exact ad _ listed a w vals x q hR y hF s u f
  by_cases hbut: ∀i,i<m→i≠fl→listed.getD i false=true
  ·have af:fl<m:=by
    rcases Nat.lt_or_ge fl m with h|h
    ·exact h
    exact absurd (fun i hi=>hbut i hi (by omega)) f
   have g:fl<listed.size:=by omega
   have z:listed[fl]=false:=by
    cases hb':listed[fl]with
    |false=>rfl
    |true=>exact absurd (fun i hi=>by
      by_cases e:i=fl
      ·subst e;simp[g,hb']
      ·exact hbut i hi e) f
   have ho:ops[fl]? =some ops[fl]:=Array.getElem?_eq_getElem (by omega);have l: ∀e∈(ops[fl]).after,Region.binds md e=true→listed.getD e.on false=true:=fun e he hb=>by have h5:=aSp.1 am fl (aS7.2 (by omega));simp only[ho]at h5;have h6:=Array.all_eq_true_iff_forall_mem.1 h5 e he;simp[hb]at h6;exact hbut _ (by omega) (by omega)
   have av:listed.toList=(List.replicate m true).set fl false++List.replicate (ops.size-m) false:=by
    apply List.ext_getElem?;intro i;rw[Array.getElem?_toList];by_cases him:i<m
    ·have h2:i<listed.size:=by omega
     rw[aS8 (by simpa using him)];by_cases e:i=fl
     ·subst e;simp[g,z,him]
     have h1:=hbut i him e;simp[h2]at h1;simp[h2,h1,him,Ne.symm e]
    by_cases hio:i<listed.size
    ·have h1:=q i (by omega);simp[hio]at h1;have h2:i-m<ops.size-m:=by omega
     rw[aS3 (by simp;omega)];simp[hio,h1,h2]
    rw[Array.getElem?_eq_none (by omega),aSu (by simp;omega)]
   have aq:listed=pK m fl (ops.size-m):=by unfold pK;rw[←av]
   have ai: ∀p∈iN ops fl,listed.getD p.1 false=true:=fun p hp=>by obtain⟨_,_,d,hd,hl⟩:=qJ ho hp;obtain⟨e,he,hbd,ak⟩:=((kH r).2 fl _ ho).2 d hl p.1 hd;have h3:=l e he hbd;rwa[ak]at h3
   obtain⟨b,hb,v,az,hg⟩:=ForV.get r hn (G:=G) (vals:=vals) (iN ops fl) (fun _=>False) a0 (fun p hp=>by
    obtain⟨h1,h2,_⟩:=qJ ho hp
    exact⟨⟨ops[p.1]'h1,Array.getElem?_eq_getElem _⟩,h2⟩) (fun p hp=>s _ (ai p hp)) FrI.nil (hy af _ ho w hR)
   have ab: ¬listed.getD fl false=true:=by simp[g,z]
   refine wpAny_take ho (kH r).1 (by rw[aq];exact ag af) (by simpa using mem_ready.2 ⟨by simp[g,z],_,ho,l⟩) (fun c a w h=>hQ af _ ho _ c a w h) (by obtain⟨h1,h2⟩:=aA8 r ho l hF (hb.congr (fun j=>by simp) (fun _ _=>rfl));unfold Yields at*;rw[h1,h2];exact az) ?_;refine ad fuel (listed.setIfInBounds fl true) _ w (fun j=>if j=fl then v else vals j) (by simpa using x) (fun j hj=>by rw[getD_set_ne false (by omega)];exact q j hj) hR (by obtain⟨j,hj,hr⟩:=y;exact⟨j+1,by omega,by rw[Nat.mul_succ,←Nat.add_assoc];exact hT _ _ hr⟩) ?_ ?_ ?_ ?_
   ·refine(hF.put r hn ho v (fun h=>absurd h ab)).congr (fun j=> ?_) (fun _ _=>rfl);by_cases hji:j=fl
    ·subst hji;simp[g]
    rw[getD_set_ne false (Ne.symm hji)];simp[hji]
   ·intro j hj;by_cases hji:j=fl
    ·subst hji;simp only[if_true];exact hg
    rw[getD_set_ne false (Ne.symm hji)]at hj;simp only[hji,if_false];exact s j hj
   ·have e1:(listed.setIfInBounds fl true).toList=listed.toList.set fl true:=by simp
    rw[e1];have ah:fl<listed.toList.length:=by simpa using g
    have aa:listed.toList[fl]=false:=by simpa using z
    rw[List.count_set ah];rw[aa];have e2:((false==false)=true):=rfl;have e3: ¬((true==false)=true):=by decide
    rw[if_pos e2,if_neg e3];omega
   intro i hi;by_cases e:i=fl
   ·subst e;simp[g]
   rw[getD_set_ne false (Ne.symm e)];exact hbut i hi e
  refine⟨fun h=> ?_,fun i hi=> ?_⟩
  ·exact absurd (fun i hi=>aK8 am listed x h i (by omega)) f
  have him:i<m:=by
   rcases Nat.lt_or_ge i m with h|h
   ·exact h
   exact absurd (aJ5 am ht listed hm ae q hi h) hbut
  obtain⟨h0,o,ho,l⟩:=mem_ready.1 hi;have an:i<ops.size:=(aSz.1 ho).1;have t:i<listed.size:=by rw[x];exact an
  have ab: ¬listed.getD i false=true:=by intro h;simp[t]at h h0;rw[h0]at h;cases h
  obtain⟨jj,a1,aw⟩:=y;have al:=hs i (aS7.2 him) o ho w (k0+st*jj) hR aw (Nat.add_le_add_left (Nat.mul_le_mul_left st (by omega)) k0);have ai: ∀p∈iN ops i,listed.getD p.1 false=true:=fun p hp=>by obtain⟨_,_,d,hd,hl⟩:=qJ ho hp;obtain⟨e,he,hbd,ak⟩:=((kH r).2 i o ho).2 d hl p.1 hd;have h3:=l e he hbd;rwa[ak]at h3
  obtain⟨b,hb,ax⟩:=ForV.get r hn (G:=G) (vals:=vals) (iN ops i) (fun _=>False) a0 (fun p hp=>by
   obtain⟨h1,h2,_⟩:=qJ ho hp
   exact⟨⟨ops[p.1]'h1,Array.getElem?_eq_getElem _⟩,h2⟩) (fun p hp=>s _ (ai p hp)) FrI.nil al
  refine aLp (vals:=vals) r hn ho (fun e he hbd=>l e he hbd) ab hF (hb.congr (fun j=>by simp) (fun _ _=>rfl)) ax fun v w'' hg ⟨hr,hr2⟩=> ?_
  refine ih (listed.setIfInBounds i true) _ w'' (fun j=>if j=i then v else vals j) (by simpa using x) ?_ ?_ (ay _ _ _ hR hr) ⟨jj+1,by omega,by rw[Nat.mul_succ,←Nat.add_assoc];exact hr2⟩ ?_ ?_ ?_
  ·intro j oj aj hj e he hbd;by_cases hji:j=i
   ·subst hji;rw[ho]at aj;cases aj
    exact getD_set_true (l e he hbd)
   rw[getD_set_ne false (Ne.symm hji)]at hj;exact getD_set_true (ae j oj aj hj e he hbd)
  ·intro j hj;rw[getD_set_ne false (by omega)];exact q j hj
  ·refine(hF.put r hn ho v (fun h=>absurd h ab)).congr (fun j=> ?_) (fun _ _=>rfl);by_cases hji:j=i
   ·subst hji;simp[t]
   rw[getD_set_ne false (Ne.symm hji)];simp[hji]
  ·intro j hj;by_cases hji:j=i
   ·subst hji;simp only[if_true];exact hg
   rw[getD_set_ne false (Ne.symm hji)]at hj;simp only[hji,if_false];exact hG _ _ _ _ (s j hj) hr
  have au:listed[i]=false:=by
   cases hb':listed[i]with
   |false=>rfl
   |true=>exact absurd (by simp[t,hb']) ab
  have e1:(listed.setIfInBounds i true).toList=listed.toList.set i true:=by simp
  rw[e1];have ah:i<listed.toList.length:=by simpa using t
  have aa:listed.toList[i]=false:=by simpa using au
  rw[List.count_set ah];rw[aa];have e2:((false==false)=true):=rfl;have e3: ¬((true==false)=true):=by decide
  rw[if_pos e2,if_neg e3];omega
theorem uT {id n:Nat}{a0:Act}{w W:World}(G:Nat→Value→World→Prop)(R:World→World→Prop)(T:Nat→World→Prop)(k0 st m fl:Nat)(hm:P.follows .mixedOrders=true)(hn:a0.tmps.size=n)(p:pC .any ops n=true)(u:xJ .any ops=true)(ht:pZ .any ops m fl=true)
  (hT: ∀k w,T k w→T (k+st) w)(q:T k0 W)(e: ∀w,R w w)(t: ∀a b c,R a b→R b c→R a c)(hG: ∀i v w w',G i v w→R w w'→G i v w')(hW:W=w.drew){k:Nat}(r:ops.size=k)(l:m≤k)
  (hQ:fl<m→ ∀o,ops[fl]? =some o→ ∀v c a w,Q (.panic c) (Act.put a o.dst v) w→Q (.panic c) a w) (d:fl<m→Region.free .any ops (pK m fl (k-m)) fl=true) (hy:fl<m→ ∀o,ops[fl]? =some o→ ∀w,R W w→ForV G w (iN ops fl) a0 (fun b=> ∃v,Yields P ops o v b∧G fl v w))
  {ls:List (Nat×Option Tmp)} (j:kV ops m=ls) {ir:List Nat} (g:List.range m=ir)
  (hs:StepsLT P .any ops G R T st (k0+st*k) a0 W ir) {tl:Array Bool} (s:gU m (k-m)=tl) (he: ∀w,R W w→T (k0+st*m) w→ForV G w ls a0 (fun a=>wpAny P .any ops Q (k-m) tl a w)):
  (Code.region id ops true).wp P Q a0 w:=by
 subst r j g s;refine wp_region_any hm ?_;have f:W={w with drawn:=w.drawn+1}:=hW;rw[←f];refine aMy p u ht l hT hQ d hn t hG hy hs he ops.size (Array.replicate ops.size false) a0 W (fun _=>undef) (by simp) ?_ ?_ (e _) ⟨0,by omega,by simpa using q⟩ ?_ ?_ ?_
 ·intro i o ho hl;have hi:=(aSz.1 ho).1;simp[hi]at hl
 ·intro i _;by_cases hi:i<ops.size<;>simp[hi]
 ·refine FrI.nil.congr (fun i=> ?_) (fun _ _=>rfl);constructor
  ·exact False.elim
  intro h;by_cases hi:i<ops.size
  ·simp[hi]at h
  simp[hi]at h
 ·intro i h;by_cases hi:i<ops.size
  ·simp[hi]at h
  simp[hi]at h
 simp
theorem ForV.map {w:World}: ∀ {l:List (Nat×Option Tmp)} {a:Act} {K K':Act→Prop},(∀a,K a→K' a)→ForV G w l a K→ForV G w l a K'
 | [],_,_,_,h,k=>h _ k
 |_::_,_,_,_,h,k=>fun v hv=>ForV.map h (k v hv)
theorem StepsL.t {a0:Act}{W:World}{is:List Nat}{a:Nat}(h:StepsL P md ops G R a0 W is):StepsLT P md ops G R (fun _ _=>True) 0 a a0 W is:=
 fun i hi o ho w _ hw _ _=>ForV.map (fun _ k K' hK=>k K' fun a' w'' ⟨v,e,g,x⟩=>hK a' w'' ⟨v,e,g,x,trivial⟩) (h i hi o ho w hw)
theorem aGi {id n:Nat}{a0:Act}{w:World}(G:Nat→Value→World→Prop)(m:Nat)(hm:P.follows .mixedOrders=true)(hn:a0.tmps.size=n)(e:pC .any ops n=true)(j:xJ .any ops=true)(ht:pZ .any ops m m=true)
  (hG: ∀i v w w',G i v w→Ext w w'→G i v w'){k:Nat}(f:ops.size=k)(d:m≤k){ls:List (Nat×Option Tmp)}(c:kV ops m=ls){ir:List Nat}(b:List.range m=ir)
  (hs:StepsL P .any ops G Ext a0 w.drew ir){tl:Array Bool}(g:gU m (k-m)=tl)(he: ∀w',Ext w.drew w'→ForV G w' ls a0 (fun a=>wpAny P .any ops Q (k-m) tl a w')):
  (Code.region id ops true).wp P Q a0 w:=
 uT G Ext (fun _ _=>True) 0 0 m m hm hn e j ht (fun _ _ h=>h) trivial Ext.refl (fun _ _ _=>Ext.trans) hG rfl f d (fun h=>absurd h (Nat.lt_irrefl _)) (fun h=>absurd h (Nat.lt_irrefl _)) (fun h=>absurd h (Nat.lt_irrefl _)) c b hs.t g (fun w h _=>he w h)
theorem aDt {id n:Nat}{a0:Act}{w:World}(G:Nat→Value→World→Prop)(m fl:Nat)(hm:P.follows .mixedOrders=true)(hn:a0.tmps.size=n)(p:pC .any ops n=true)(s:xJ .any ops=true)(ht:pZ .any ops m fl=true)(u:fl<m)
  (hG: ∀i v w w',G i v w→Ext w w'→G i v w'){k:Nat}(q:ops.size=k)(l:m≤k)(d:Region.free .any ops (pK m fl (k-m)) fl=true){ls:List (Nat×Option Tmp)}(j:kV ops m=ls){ir:List Nat}(f:List.range m=ir){of:Oper}(e:ops[fl]? =some of) (hQ: ∀v c a w,Q (.panic c) (Act.put a of.dst v) w→Q (.panic c) a w) {lf:List (Nat×Option Tmp)} (g:iN ops fl=lf)
  (hy: ∀w',Ext w.drew w'→ForV G w' lf a0 (fun b=> ∃v,Yields P ops of v b∧G fl v w'))
  (hs:StepsL P .any ops G Ext a0 w.drew ir) {tl:Array Bool} (r:gU m (k-m)=tl) (he: ∀w',Ext w.drew w'→ForV G w' ls a0 (fun a=>wpAny P .any ops Q (k-m) tl a w')):
  (Code.region id ops true).wp P Q a0 w:=
 uT G Ext (fun _ _=>True) 0 0 m fl hm hn p s ht (fun _ _ h=>h) trivial Ext.refl (fun _ _ _=>Ext.trans) hG rfl q l (fun _ o ho=>by rw[e]at ho;cases ho;exact hQ) (fun _=>d) (fun _ o ho=>by rw[e]at ho;cases ho;subst g;exact hy) j f hs.t r (fun w h _=>he w h)
end
def gl (l:List (Value→World→Prop))(i:Nat):Value→World→Prop:=l.getD i (fun _ _=>True)
def vL (g:Value→World→Prop):Prop:= ∀v w w',g v w→Ext w w'→g v w'
theorem lH {l:List (Value→World→Prop)}(h: ∀g∈l,vL g): ∀i v w w',gl l i v w→Ext w w'→gl l i v w':=by
 intro i v w w' hg hx;unfold gl at*;rw[aRw]at*;cases hi:l[i]? with
 |none=>rw[hi]at hg;exact hg
 |some g=>rw[hi]at hg;simp only[Option.getD_some]at*;exact h g (aRs hi) _ _ _ hg hx
def gEq (u:Value):Value→World→Prop:=fun v _=>v=u
theorem bH (u:Value):vL (gEq u):=fun _ _ _ h _=>h
def aQz (lo:Nat)(t:TypeId)(cs:Array Value):Value→World→Prop:=fun v w=> ∃g,v= .pointer (some ⟨g,0,none⟩)∧lo≤g∧Blk w g t cs
theorem aAj (lo:Nat)(t:TypeId)(cs:Array Value):vL (aQz lo t cs):=fun _ _ _ ⟨g,h1,h2,h3⟩ hx=>⟨g,h1,h2,h3.ext hx⟩
def aL5 (lo:Nat)(t:TypeId)(cs:Array Value)(n:Nat):Value→World→Prop:=fun v w=> ∃g,v= .slice (some ⟨g,0,none⟩) n n∧lo≤g∧Blk w g t cs
theorem aAi (lo:Nat)(t:TypeId)(cs:Array Value)(n:Nat):vL (aL5 lo t cs n):=fun _ _ _ ⟨g,h1,h2,h3⟩ hx=>⟨g,h1,h2,h3.ext hx⟩
theorem oG: ∀g∈([]:List (Value→World→Prop)),vL g:=fun _ h=>by cases h
theorem bC {g:Value→World→Prop}{l:List (Value→World→Prop)}(h:vL g)(k: ∀g∈l,vL g): ∀g'∈g::l,vL g':=fun g' h'=>by
 rcases aS6.1 h' with rfl|h'
 ·exact h
 exact k g' h'
section
variable {P:Program} {ops:Array Oper} {Q:Exit→Act→World→Prop} {md:Region.Mode} {G:Nat→Value→World→Prop} {R:World→World→Prop}
theorem rL {id n:Nat}{a0:Act}{w:World}(G:Nat→Value→World→Prop)(m k:Nat)(ls:List (Nat×Option Tmp))(hs:StepsL P .any ops G Ext a0 w.drew (List.range m))(he: ∀w',Ext w.drew w'→ForV G w' ls a0 (fun a=>wpAny P .any ops Q (k-m) (gU m (k-m)) a w'))
  (hG: ∀i v w w',G i v w→Ext w w'→G i v w':=by(refine lH ?_;repeat (first|exact oG|refine bC (bH _) ?_|refine bC (aAj _ _ _) ?_|refine bC (aAi _ _ _ _) ?_)))
  (hm:P.follows .mixedOrders=true:=by kernel_rfl)(hn:a0.tmps.size=n:=by exact rfl)(d:pC .any ops n=true:=by kernel_rfl)(f:xJ .any ops=true:=by kernel_rfl)(ht:pZ .any ops m m=true:=by kernel_rfl)
  (e:ops.size=k:=by kernel_rfl)(c:m≤k:=by decide)(b:kV ops m=ls:=by kernel_rfl):(Code.region id ops true).wp P Q a0 w:=
 aGi G m hm hn d f ht hG e c b rfl hs rfl he
end
end
def uX:Go.Shelf.Ren:=⟨fun|166=>128|240=>165|276=>199|n=>n,fun|0=>0|3=>3|4=>4|5=>5|9=>9|20=>20|37=>91|70=>143|72=>145|75=>147|80=>151|164=>201|n=>n,fun|n=>n⟩
theorem aPi:Go.Proofs.Lays.n166 Tryz.prog uX:={
 mixed:=by kernel_rfl,
 f166:=Tryz.func128.trans (congrArg some (by kernel_rfl)),
 f240:=Tryz.func165.trans (congrArg some (by kernel_rfl)),
 f276:=Tryz.func199.trans (congrArg some (by kernel_rfl)),
 t0:=Tryz.underlying0,
 a0:=Tryz.isAgg0,
 z0:=Tryz.sizeOf0,
 v0:=Tryz.zeroValue0,
 t3:=Tryz.underlying3,
 a3:=Tryz.isAgg3,
 z3:=Tryz.sizeOf3,
 v3:=Tryz.zeroValue3,
 t4:=Tryz.underlying4,
 a4:=Tryz.isAgg4,
 z4:=Tryz.sizeOf4,
 v4:=Tryz.zeroValue4,
 t9:=Tryz.underlying9,
 a9:=Tryz.isAgg9,
 z9:=Tryz.sizeOf9,
 v9:=Tryz.zeroValue9,
 t20:=Tryz.underlying20,
 a20:=Tryz.isAgg20,
 z20:=Tryz.sizeOf20,
 v20:=Tryz.zeroValue20,
 t37:=Tryz.underlying91,
 a37:=Tryz.isAgg91,
 z37:=Tryz.sizeOf91,
 v37:=Tryz.zeroValue91,
 t70:=Tryz.underlying143,
 a70:=Tryz.isAgg143,
 z70:=Tryz.sizeOf143,
 v70:=Tryz.zeroValue143,
 t72:=Tryz.underlying145,
 a72:=Tryz.isAgg145,
 z72:=Tryz.sizeOf145,
 v72:=Tryz.zeroValue145,
 t75:=Tryz.underlying147,
 a75:=Tryz.isAgg147,
 z75:=Tryz.sizeOf147,
 v75:=Tryz.zeroValue147,
 t164:=Tryz.underlying201,
 a164:=Tryz.isAgg201,
 z164:=Tryz.sizeOf201,
 v164:=Tryz.zeroValue201}
theorem aO5:Go.Proofs.Builder.Extra Tryz.prog uX:={
 sizeBuilder:=by kernel_rfl
 liesBuilder:=by kernel_rfl
 t5:=Tryz.underlying5
 a5:=Tryz.isAgg5
 z5:=Tryz.sizeOf5
 v5:=Tryz.zeroValue5
 infoByte:=by kernel_rfl
 cellsByte:=by kernel_rfl
 sizeByte:=by kernel_rfl
 neB5:=by decide}
def uW:Go.Shelf.Ren:=⟨fun|167=>127|240=>165|276=>199|n=>n,fun|0=>0|3=>3|4=>4|5=>5|9=>9|20=>20|37=>91|70=>143|72=>145|75=>147|80=>151|164=>201|n=>n,fun|n=>n⟩
theorem aPh:Go.Proofs.Lays.n167 Tryz.prog uW:={
 mixed:=by kernel_rfl,
 f167:=Tryz.func127.trans (congrArg some (by kernel_rfl)),
 f240:=Tryz.func165.trans (congrArg some (by kernel_rfl)),
 f276:=Tryz.func199.trans (congrArg some (by kernel_rfl)),
 t0:=Tryz.underlying0,
 a0:=Tryz.isAgg0,
 z0:=Tryz.sizeOf0,
 v0:=Tryz.zeroValue0,
 t4:=Tryz.underlying4,
 a4:=Tryz.isAgg4,
 z4:=Tryz.sizeOf4,
 v4:=Tryz.zeroValue4,
 t5:=Tryz.underlying5,
 a5:=Tryz.isAgg5,
 z5:=Tryz.sizeOf5,
 v5:=Tryz.zeroValue5,
 t9:=Tryz.underlying9,
 a9:=Tryz.isAgg9,
 z9:=Tryz.sizeOf9,
 v9:=Tryz.zeroValue9,
 t20:=Tryz.underlying20,
 a20:=Tryz.isAgg20,
 z20:=Tryz.sizeOf20,
 v20:=Tryz.zeroValue20,
 t37:=Tryz.underlying91,
 a37:=Tryz.isAgg91,
 z37:=Tryz.sizeOf91,
 v37:=Tryz.zeroValue91,
 t70:=Tryz.underlying143,
 a70:=Tryz.isAgg143,
 z70:=Tryz.sizeOf143,
 v70:=Tryz.zeroValue143,
 t72:=Tryz.underlying145,
 a72:=Tryz.isAgg145,
 z72:=Tryz.sizeOf145,
 v72:=Tryz.zeroValue145,
 t75:=Tryz.underlying147,
 a75:=Tryz.isAgg147,
 z75:=Tryz.sizeOf147,
 v75:=Tryz.zeroValue147,
 t164:=Tryz.underlying201,
 a164:=Tryz.isAgg201,
 z164:=Tryz.sizeOf201,
 v164:=Tryz.zeroValue201}
theorem aO4:Go.Proofs.Builder.Extra Tryz.prog uW:={
 sizeBuilder:=by kernel_rfl
 liesBuilder:=by kernel_rfl
 t5:=Tryz.underlying5
 a5:=Tryz.isAgg5
 z5:=Tryz.sizeOf5
 v5:=Tryz.zeroValue5
 infoByte:=by kernel_rfl
 cellsByte:=by kernel_rfl
 sizeByte:=by kernel_rfl
 neB5:=by decide}
theorem nD (B b:Nat)(bs:List Value)(s:ByteArray)(w:World)(h:Lib.IsBuilderF 145 5 B b bs w)(hl:bs.length+s.size≤140737488355328)(hB:B≤w.heap.size):
  Calls Tryz.prog 128 #[.pointer (some ⟨b,0,none⟩),.string s] w fun e w'=>e= .returned (.tuple #[.int .i64 s.size,.nilIface])∧Lib.BuilderAtF 145 5 B b (.pointer (some ⟨b,0,none⟩)) (bs++Lib.strCells s) w'∧Below B w w'∧Lib.OthersKept 5 (some b) w w':=
 Any.Builder_WriteString_k aPi aO5 B b bs s w h hl hB
theorem kZ (B b:Nat)(bs:List Value)(c:Int)(w:World)(h:Lib.IsBuilderF 145 5 B b bs w)(hl:bs.length+1≤140737488355328)(hB:B≤w.heap.size):
  Calls Tryz.prog 127 #[.pointer (some ⟨b,0,none⟩),.int .u8 c] w fun e w'=>e= .returned .nilIface∧Lib.BuilderAtF 145 5 B b (.pointer (some ⟨b,0,none⟩)) (bs++ [.int .u8 c]) w'∧Below B w w'∧Lib.OthersKept 5 (some b) w w':=
 Any.Builder_WriteByte_k aPh aO4 B b bs c w h hl hB
section
open Go.Proofs.Tryz
theorem aRg:prog.globalNamed "internal/strconv.uint64pow10" =some 0:=by kernel_rfl
structure Env (w:World):Prop where
 tab:Lib.TabIs prog w "internal/strconv.uint64pow10" .u64 Lib.pow10Tab
 mx: ∃m,w.cell? ⟨1,0,none⟩=some (.int .i64 m)
theorem Env.ext {w w':World}(h:Env w)(hb:Ext w w'):Env w' where
 tab:=Joins.var_stays aRg h.tab hb (aRp _)
 mx:=by obtain⟨m,hm⟩:=h.mx;exact⟨m,(hb.cells.1 _ _ (World.block_lt_of_cell? w _ hm)).trans hm⟩
theorem Env.start {w:World}(ht:Lib.TabIs prog w "internal/strconv.uint64pow10" .u64 Lib.pow10Tab)(hS:w.ShapedOpen prog):Env w where
 tab:=ht
 mx:=Tryz.laysM145.s1_3 w hS
abbrev str (l:List UInt8):Value:= .string ⟨l.toArray⟩
theorem nX {a b:List UInt8}(h:a=b):Ending.returned (str a)= .returned (str b):=by rw[h]
theorem aE9 (n:Nat):Lib.itoa (n:Int)=Lib.decDigits n:=by unfold Lib.itoa;rw[if_neg (by omega)];simp
theorem aO7 (w:World)(os:Array Obj):Ext w (Sort.grow w os):=
 ⟨rfl,rfl,rfl,by simp,fun k hk=>by simp only[Sort.grow];rw[Array.getElem?_append_left hk]⟩
theorem aN0 (n:Nat)(w:World)(hn:n≤9223372036854775807)(hE:Env w):
  U 34 #[n] w (O (str (Lib.decDigits n)) w):=by
 refine(Tryz.strconv_Itoa (n:Int) (by omega) (by omega) w hE.tab).mono ?_;rintro e w' ⟨rfl,k,os,rfl⟩;exact⟨by rw[aE9],(Ext.drewN (Ext.refl w) k).trans (aO7 _ _)⟩
theorem oO (n:Int)(w:World)(h0:0≤n)(hn:n≤9223372036854775807)(hE:Env w):
  U 34 #[n] w (O (str (Lib.decDigits n.toNat)) w):=by
 obtain⟨m,rfl⟩:=aTk h0;exact aN0 m w (by omega) hE
theorem aOg (x:Int)(W:World)(b:Nat)(h:W.cell? ⟨b,0,none⟩=some (.int .u8 x)):Sem.run prog (convert 91 9 (.slice (some ⟨b,0,none⟩) 1 1)) W= .ok (str [UInt8.ofNat x.toNat]) W:=
 run_convert_bytes_arg W 91 5 underlying91 underlying5 b 0 1 1 [x] rfl (fun i hi=>by
  obtain rfl:i=0:=by omega
  simpa using h) 9 underlying9
theorem fJ (n:Nat)(h:n<10):Lib.decDigits n= [UInt8.ofNat (48+n)]:=by rw[Lib.decDigits];simp[h]
theorem jV (n:Nat)(h: ¬n<10):Lib.decDigits n=Lib.decDigits (n/10)++ [UInt8.ofNat (48+n%10)]:=by rw[Lib.decDigits];simp[h]
theorem cS (n:Nat)(h:n≤9223372036854775807):(Lib.decDigits n).length≤21:=by rw[←aE9];exact Lib.itoa_length_le _ (by omega) (by omega)
theorem qZ (n:Nat):1≤(Lib.decDigits n).length:=by
 by_cases h:n<10
 ·rw[fJ n h];simp
 rw[jV n h];simp
theorem xM (n:Int)(w:World)(h0:0≤n)(a:n<10):
  U 24 #[n] w (O (str (Lib.decDigits n.toNat)) w):=by
 have b:=aOg (48+n);have HD:Hid (Lib.decDigits n.toNat= [UInt8.ofNat (48+n).toNat]):=by rw[fJ _ (by omega),show(48+n).toNat=48+n.toNat by omega];rfl
 go_enter func24,ntmps24;go_wp2_with fail;go_ret;exact⟨nX HD.out.symm,(Ext.refl _).alloc _⟩
theorem aH2 (n:Int)(w:World)(h0:0≤n)(a:10≤n)(h:n≤9223372036854775807)(ih: ∀w,U 24 #[(n/10:Int)] w (O (str (Lib.decDigits (n/10).toNat)) w)):
  U 24 #[n] w (O (str (Lib.decDigits n.toNat)) w):=by
 have c:=aOg (48+n%10);have IH:Hid (∀w,U 24 #[(n/10:Int)] w (O (str (Lib.decDigits (n/10).toNat)) w)):=ih;have hq:=aU2 n 10 ⟨h0,h,by omega⟩;have hr:=IntWalk.rem_in n 10 h0;have d:IntKind.i64.wrap (n%10)=n%10:=aRr _ (by omega);have hs:IntKind.i64.wrap (48+n%10)=48+n%10:=aRr _ (by omega);have hc:IntKind.u8.wrap (48+n%10)=48+n%10:=IntWalk.u8_in _ (by omega);have hl:(Lib.decDigits (n/10).toNat).length≤21:=cS _ (by omega);have HD:Hid (Lib.decDigits n.toNat=Lib.decDigits (n/10).toNat++ [UInt8.ofNat (48+n%10).toNat]):=by show _=_;rw[jV _ (by omega),show(48+n%10).toNat=48+n.toNat%10 by omega,show(n/10).toNat=n.toNat/10 by omega]
 clear ih;go_enter func24,ntmps24;go_wp2_with fail;go_region_with (go_at_call 24;go_must (go_fit (IH _));rintro e w' ⟨rfl,h1⟩;have b:=h1.cells.1)
 all_goals go_wp2
 all_goals go_ret
 all_goals exact⟨nX HD.out.symm,xE⟩
theorem aBy (k:Nat): ∀(n:Int) (w:World),0≤n→n≤k→n≤9223372036854775807→
  U 24 #[n] w (O (str (Lib.decDigits n.toNat)) w):=by
 induction k with
 |zero=>intro n w h0 hk h;exact xM n w h0 (by omega)
 |succ k ih=>
  intro n w h0 hk h;by_cases h10:n<10
  ·exact xM n w h0 h10
  exact aH2 n w h0 (by omega) h (fun w=>ih (n/10) w (by omega) (by omega) (by omega))
theorem jS (n:Int)(w:World)(h0:0≤n)(h:n≤9223372036854775807):
  U 24 #[n] w (O (str (Lib.decDigits n.toNat)) w):=aBy n.toNat n w h0 (by omega) h
end
end Go.Proofs.YtbgkcehffiogcacGreatDoor
