/-
  Texts of this proof, packed (@packed).
-/
import Derived.BigQuiet
import Derived.Deep.QuietTactic
import Derived.Deep.RegionHeld3
import Derived.Laws.BitsAllLaws
import Derived.Laws.BitsLemmas
import Derived.RegionTactic
import Derived.Test.YtgnkoffndhmhpaaGreatDoorP1
namespace Go.Proofs.YtgnkoffndhmhpaaGreatDoor
open Go Go.RowKit
set_option linter.unusedVariables false
section
variable {P:Program} {ops:Array Oper} {Q:Exit→Act→World→Prop} {md:Region.Mode} {G:Nat→Value→World→Prop} {R:World→World→Prop}
def fL (ops:Array Oper)(i:Nat):Option Tmp:=(ops[i]?).bind (·.dst)
def aKr (ops:Array Oper):List (Nat×Option Tmp):=(List.range ops.size).map (fun i=>(i,fL ops i))
def aM8 (md:Region.Mode)(ops:Array Oper)(i:Nat):List (Nat×Option Tmp):=
 match ops[i]? with
 |none=> []
 |some o=>(o.after.toList.filter (fun e=>Region.binds md e)).map (fun e=>(e.on,fL ops e.on))
def fC (ops:Array Oper)(i:Nat):List (Nat×Option Tmp):=
 match ops[i]? with
 |none=> []
 |some o=>(aKr ops).filter (fun p=>match p.2 with
  |none=>false
  |some d=>(o.looksAt ops).contains d)
def ForV (G:Nat→Value→World→Prop)(w:World):List (Nat×Option Tmp)→Act→(Act→Prop)→Prop
 | [],a,K=>K a
 |p::ps,a,K=> ∀v,G p.1 v w→ForV G w ps (a.put p.2 v) K
def mW (P:Program)(ops:Array Oper)(G:Nat→Value→World→Prop)(R:World→World→Prop)(i:Nat)(o:Oper)(w:World)(a:Act):Prop:=
 ∀K':Act→World→Prop,(∀a' w'',(∃v,a'=a.put o.dst v∧G i v w''∧R w w'')→K' a' w'')→if Region.wanted o (yielded ops a.tmps)=true then Oper.wp P o a w K' (fun _ _ _=>False)else K' (a.put o.dst undef) w
def StepsL (P:Program)(md:Region.Mode)(ops:Array Oper)(G:Nat→Value→World→Prop)(R:World→World→Prop)(a0:Act)(W:World)(l:List Nat):Prop:=
 ∀i∈l,∀o,ops[i]? =some o→ ∀w,R W w→ForV G w (fC ops i) a0 (mW P ops G R i o w)
theorem StepsL.nil {a0:Act}{W:World}:StepsL P md ops G R a0 W []:=fun _ h=>by cases h
theorem StepsL.cons {a0:Act}{W:World}{i:Nat}{o:Oper}{ps:List (Nat×Option Tmp)}{is:List Nat}(ho:ops[i]? =some o) (hp:fC ops i=ps)
  (h: ∀w,R W w→ForV G w ps a0 (mW P ops G R i o w)) (hs:StepsL P md ops G R a0 W is):StepsL P md ops G R a0 W (i::is):=by
 intro j hj o' a w hw
 rcases List.mem_cons.1 hj with rfl|hj
 ·rw[ho]at a;cases a;rw[hp];exact h w hw
 ·exact hs j hj o' a w hw
theorem sC {a0:Act}{W:World}{i:Nat}{o:Oper}{is:List Nat}(ps:List (Nat×Option Tmp))(ho:ops[i]? =some o) (h: ∀w,R W w→ForV G w ps a0 (mW P ops G R i o w)) (hs:StepsL P md ops G R a0 W is) (hp:fC ops i=ps:=by kernel_rfl):StepsL P md ops G R a0 W (i::is):=StepsL.cons ho hp h hs
theorem sS0 {a0:Act}{W:World}{i:Nat}{o:Oper}{is:List Nat}(ps:List (Nat×Option Tmp))(hs:StepsL P md ops G Ext a0 W is)(ho:ops[i]? =some o:=by exact rfl) (hp:fC ops i=ps:=by kernel_rfl) (h: ∀w,Ext W w→ForV G w ps a0 (mW P ops G Ext i o w):=by intro wi hx K hK;go_simp;exact hK _ _ ⟨_,rfl,rfl,Ext.refl _⟩):StepsL P md ops G Ext a0 W (i::is):=StepsL.cons ho hp h hs
theorem sS1 {a0:Act}{W:World}{i:Nat}{o:Oper}{is:List Nat}(ps:List (Nat×Option Tmp))(hs:StepsL P md ops G Ext a0 W is)(ho:ops[i]? =some o:=by exact rfl) (hp:fC ops i=ps:=by kernel_rfl) (h: ∀w,Ext W w→ForV G w ps a0 (mW P ops G Ext i o w):=by intro wi hx v0 h0 K hK;obtain rfl:=h0;go_simp;exact hK _ _ ⟨_,rfl,rfl,Ext.refl _⟩):StepsL P md ops G Ext a0 W (i::is):=StepsL.cons ho hp h hs
theorem sS2 {a0:Act}{W:World}{i:Nat}{o:Oper}{is:List Nat}(ps:List (Nat×Option Tmp))(hs:StepsL P md ops G Ext a0 W is)(ho:ops[i]? =some o:=by exact rfl) (hp:fC ops i=ps:=by kernel_rfl) (h: ∀w,Ext W w→ForV G w ps a0 (mW P ops G Ext i o w):=by intro wi hx v0 h0 v1 h1 K hK;obtain rfl:=h0;obtain rfl:=h1;go_simp;exact hK _ _ ⟨_,rfl,rfl,Ext.refl _⟩):StepsL P md ops G Ext a0 W (i::is):=StepsL.cons ho hp h hs
theorem sS3 {a0:Act}{W:World}{i:Nat}{o:Oper}{is:List Nat}(ps:List (Nat×Option Tmp))(hs:StepsL P md ops G Ext a0 W is)(ho:ops[i]? =some o:=by exact rfl) (hp:fC ops i=ps:=by kernel_rfl) (h: ∀w,Ext W w→ForV G w ps a0 (mW P ops G Ext i o w):=by intro wi hx v0 h0 v1 h1 v2 h2 K hK;obtain rfl:=h0;obtain rfl:=h1;obtain rfl:=h2;go_simp;exact hK _ _ ⟨_,rfl,rfl,Ext.refl _⟩):StepsL P md ops G Ext a0 W (i::is):=StepsL.cons ho hp h hs
def lX (md:Region.Mode)(ops:Array Oper)(n:Nat):Bool:=
 Region.noSelect ops&&(List.range ops.size).all fun i=>
  match ops[i]? with
  |none=>true
  |some o=>
   (match o.dst with
    |none=>true
    |some d=>decide (d<n)&&(List.range ops.size).all fun j=>j==i || fL ops j !=some d)&&
   (o.looksAt ops).all fun t=>(List.range ops.size).all fun j=>fL ops j !=some t || o.after.any fun e=>Region.binds md e&&e.on==j
theorem kO {n:Nat}(h:lX md ops n=true):
  Region.noSelect ops=true∧ ∀i o,ops[i]? =some o→
   (∀d,o.dst=some d→d<n∧ ∀j,j≠i→fL ops j≠some d)∧
   (∀t∈o.looksAt ops,∀j,fL ops j=some t→ ∃e∈o.after,Region.binds md e=true∧e.on=j):=by
 unfold lX at h
 rw[Bool.and_eq_true]at h
 refine⟨h.1,fun i o ho=> ?_⟩
 have b:i<ops.size:=(Array.getElem?_eq_some_iff.1 ho).1
 have h1:=List.all_eq_true.1 h.2 i (List.mem_range.2 b)
 simp only[ho,Bool.and_eq_true]at h1
 obtain⟨h1,h2⟩:=h1
 have a: ∀j t,fL ops j=some t→j<ops.size:=fun j t hj=>by
  rcases Nat.lt_or_ge j ops.size with h'|h'
  ·exact h'
  ·simp[fL,Array.getElem?_eq_none h']at hj
 refine⟨fun d hd=> ?_,fun t ht j hj=> ?_⟩
 ·rw[hd]at h1
  simp only[Bool.and_eq_true,decide_eq_true_eq]at h1
  refine⟨h1.1,fun j hji hj=> ?_⟩
  have:=List.all_eq_true.1 h1.2 j (List.mem_range.2 (a j d hj))
  simp[hji,hj]at this
 ·have:=List.all_eq_true.1 (List.all_eq_true.1 h2 t ht) j (List.mem_range.2 (a j t hj))
  simp only[Bool.or_eq_true,bne_iff_ne,ne_eq]at this
  rcases this with h'|h'
  ·exact absurd hj h'
  ·obtain⟨e,he,h3⟩:=Array.any_eq_true'.1 h'
   rw[Bool.and_eq_true]at h3
   exact⟨e,he,h3.1,by simpa using h3.2⟩
structure FrI (ops:Array Oper) (a0:Act) (vals:Nat→Value) (l:Nat→Prop) (a:Act):Prop where
 defers:a.defers=a0.defers
 size:a.tmps.size=a0.tmps.size
 mem: ∀i d,fL ops i=some d→l i→a.tmps[d]? =some (vals i)
 out: ∀d,(∀i,l i→fL ops i≠some d)→a.tmps[d]? =a0.tmps[d]?
theorem aL7 {a b:Act}(h:a.tmps=b.tmps)(k:a.defers=b.defers):a=b:=by cases a;cases b;simp_all
theorem FrI.put {n:Nat}{a0 a:Act}{vals:Nat→Value}{l:Nat→Prop}(hok:lX md ops n=true)(hn:a0.tmps.size=n)(h:FrI ops a0 vals l a){i:Nat}{o:Oper}(ho:ops[i]? =some o) (v:Value) (hv:l i→vals i=v):
  FrI ops a0 (fun j=>if j=i then v else vals j) (fun j=>l j∨j=i) (a.put o.dst v):=by
 obtain⟨-,hs⟩:=kO hok
 have c:fL ops i=o.dst:=by simp[fL,ho]
 cases hd:o.dst with
 |none=>
  refine⟨h.defers,h.size,fun j d hj hl=> ?_,fun d hd'=>h.out d fun j hj=>hd' j (.inl hj)⟩
  have b:j≠i:=by rintro rfl;rw[c,hd]at hj;cases hj
  simp only[Act.put,b,if_false]
  exact h.mem j d hj (hl.resolve_right b)
 |some d0=>
  obtain⟨g,e⟩:=(hs i o ho).1 d0 hd
  refine⟨h.defers,by simp[Act.put,h.size],fun j d hj hl=> ?_,fun d hd'=> ?_⟩
  ·by_cases b:j=i
   ·subst b
    rw[c,hd]at hj;cases hj
    simp[Act.put,h.size,hn,g]
   ·have f:d0≠d:=by rintro rfl;exact e j b hj
    simp only[Act.put,b,if_false]
    rw[Array.getElem?_setIfInBounds_ne f]
    exact h.mem j d hj (hl.resolve_right b)
  ·have f:d0≠d:=by rintro rfl;exact hd' i (.inr rfl) (by rw[c,hd])
   simp only[Act.put]
   rw[Array.getElem?_setIfInBounds_ne f]
   exact h.out d fun j hj=>hd' j (.inl hj)
theorem FrI.congr {a0 a:Act}{vals vals':Nat→Value}{l l':Nat→Prop}(h:FrI ops a0 vals l a)(hl: ∀i,l i↔l' i)(hv: ∀i,l' i→vals i=vals' i):FrI ops a0 vals' l' a:=
 ⟨h.defers,h.size,fun i d hd hi=>by rw[←hv i hi];exact h.mem i d hd ((hl i).2 hi),fun d hd=>h.out d fun i hi=>hd i ((hl i).1 hi)⟩
theorem FrI.nil {a0:Act}{vals:Nat→Value}:FrI ops a0 vals (fun _=>False) a0:=⟨rfl,rfl,fun _ _ _ h=>h.elim,fun _ _=>rfl⟩
theorem FrI.eq {a0 a b:Act}{vals:Nat→Value}{l:Nat→Prop}(h:FrI ops a0 vals l a)(k:FrI ops a0 vals l b):a=b:=by
 refine aL7 ?_ (h.defers.trans k.defers.symm)
 apply Array.ext_getElem?
 intro d
 by_cases hd: ∃i,l i∧fL ops i=some d
 ·obtain⟨i,hi,hd⟩:=hd
  rw[h.mem i d hd hi,k.mem i d hd hi]
 ·have c: ∀i,l i→fL ops i≠some d:=fun i hi he=>hd ⟨i,hi,he⟩
  rw[h.out d c,k.out d c]
theorem ForV.get {n:Nat}(hok:lX md ops n=true){a0:Act}(hn:a0.tmps.size=n){vals:Nat→Value}{w:World}{K:Act→Prop}:
  ∀(ps:List (Nat×Option Tmp)) (l:Nat→Prop) (a:Act),(∀p∈ps,(∃o,ops[p.1]? =some o)∧p.2=fL ops p.1)→(∀p∈ps,G p.1 (vals p.1) w)→FrI ops a0 vals l a→ForV G w ps a K→
   ∃b,FrI ops a0 vals (fun j=>l j∨j∈ps.map (·.1)) b∧K b
 | [],l,a,_,_,hf,h=>⟨a,hf.congr (fun i=>by simp) (fun _ _=>rfl),h⟩
 |p::ps,l,a,hp,hG,hf,h=>by
  obtain⟨⟨o,ho⟩,hd⟩:=hp p (by simp)
  have d:p.2=o.dst:=by rw[hd];simp[fL,ho]
  have h1:=h (vals p.1) (hG p (by simp))
  rw[d]at h1
  have c:=(hf.put hok hn ho (vals p.1) (fun _=>rfl)).congr (l':=fun j=>l j∨j=p.1) (vals':=vals) (fun _=>Iff.rfl) (fun i _=>by
   by_cases hi:i=p.1
   ·simp[hi]
   ·simp[hi])
  obtain⟨b,hb,hK⟩:=ForV.get hok hn ps _ _ (fun q hq=>hp q (by simp[hq])) (fun q hq=>hG q (by simp[hq])) c h1
  refine⟨b,hb.congr (fun i=> ?_) (fun _ _=>rfl),hK⟩
  simp only[List.map_cons,List.mem_cons]
  constructor
  ·rintro((h|h)|h)
   ·exact .inl h
   ·exact .inr (.inl h)
   ·exact .inr (.inr h)
  ·rintro(h|h|h)
   ·exact .inl (.inl h)
   ·exact .inl (.inr h)
   ·exact .inr h
theorem oI {i:Nat}{o:Oper}(ho:ops[i]? =some o) {p:Nat×Option Tmp} (h:p∈fC ops i):p.1<ops.size∧p.2=fL ops p.1∧ ∃d,fL ops p.1=some d∧d∈o.looksAt ops:=by
 unfold fC at h
 rw[ho]at h
 obtain⟨h1,h2⟩:=List.mem_filter.1 h
 obtain⟨k,hk,rfl⟩:=List.mem_map.1 h1
 refine⟨List.mem_range.1 hk,rfl,?_⟩
 dsimp only at h2⊢
 cases hd:fL ops k with
 |none=>rw[hd]at h2;simp at h2
 |some d=>rw[hd]at h2;exact⟨d,rfl,by simpa using h2⟩
theorem aAm {i:Nat}{o:Oper}(ho:ops[i]? =some o) {j d:Nat} (hj:fL ops j=some d) (hd:d∈o.looksAt ops):j∈(fC ops i).map (·.1):=by
 unfold fC
 rw[ho]
 have a:j<ops.size:=by
  rcases Nat.lt_or_ge j ops.size with h'|h'
  ·exact h'
  ·simp[fL,Array.getElem?_eq_none h']at hj
 refine List.mem_map.2 ⟨(j,fL ops j),List.mem_filter.2 ⟨List.mem_map.2 ⟨j,List.mem_range.2 a,rfl⟩,?_⟩,rfl⟩
 dsimp only
 rw[hj]
 simpa using hd
theorem aK2 {n:Nat}(hok:lX md ops n=true){a0:Act}(hn:a0.tmps.size=n){vals:Nat→Value}{w:World}{l:Nat→Prop}{a b:Act}{i:Nat}{o:Oper}(ho:ops[i]? =some o)
  (hpl: ∀e∈o.after,Region.binds md e=true→l e.on) (hni: ¬l i)
  (ha:FrI ops a0 vals l a) (hb:FrI ops a0 vals (fun j=>j∈(fC ops i).map (·.1)) b) (h:mW P ops G R i o w b) {K:Act→World→Prop}
  (hK: ∀v w'',G i v w''→R w w''→K (a.put o.dst v) w''):wpOp P ops Q i K a w:=by
 obtain⟨y,hs⟩:=kO hok
 obtain⟨h1,h2⟩:=hs i o ho
 have s: ∀cs x,o.op≠ .select cs x:=fun cs x=>Region.noSelect_spec y i o cs x ho
 have q: ∀t∈o.looksAt ops,a.tmps[t]? =b.tmps[t]? :=fun t ht=>by
  by_cases hd: ∃j,fL ops j=some t
  ·obtain⟨j,hj⟩:=hd
   obtain⟨e,he,ad,rfl⟩:=h2 t ht j hj
   rw[ha.mem _ _ hj (hpl e he ad),hb.mem _ _ hj (aAm ho hj ht)]
  ·rw[ha.out t fun j _ hj=>hd ⟨j,hj⟩,hb.out t fun j _ hj=>hd ⟨j,hj⟩]
 have z:execOp a.eval o=execOp b.eval o:=execOp_congr o s fun x hx=>by
  cases x with
  |tmp t=>
   have:=q t (List.mem_append_left _ (List.mem_filterMap.2 ⟨.tmp t,by simpa using hx,rfl⟩))
   simp only[Act.eval,Array.getD_eq_getD_getElem?,this]
  |_=>rfl
 have ab:Region.wanted o (yielded ops a.tmps)=Region.wanted o (yielded ops b.tmps):=by
  unfold Region.wanted
  cases hg:o.guard with
  |none=>rfl
  |some gw=>
   obtain⟨g,af⟩:=gw
   have:yielded ops a.tmps g=yielded ops b.tmps g:=by
    unfold yielded
    cases ht:(ops[g]?).bind (·.dst)with
    |none=>rfl
    |some t=>
     have:=q t (by simp[Oper.looksAt,hg,ht])
     simp[this]
   simp only[this]
 have k:=h (fun a' w'=> ∃v,a'=b.put o.dst v∧G i v w'∧R w w') (fun a' w'' h=>h)
 have p: ∀u v:Value,b.put o.dst u=b.put o.dst v→a.put o.dst u=a.put o.dst v:=fun u v he=>by
  cases hd:o.dst with
  |none=>rfl
  |some d=>
   rw[hd]at he
   obtain⟨ae,-⟩:=h1 d hd
   have e1:(b.tmps.setIfInBounds d u)[d]? =(b.tmps.setIfInBounds d v)[d]? :=by
    have:=congrArg Act.tmps he
    simp only[Act.put]at this
    rw[this]
   have aa:d<b.tmps.size:=by rw[hb.size,hn];exact ae
   simp[aa]at e1
   rw[e1]
 refine wpOp_step ho fun K' hK'=> ?_
 rw[ab]
 split
 ·rename_i hw
  rw[if_pos hw]at k
  unfold Oper.wp at*
  rw[z]
  generalize (execOp b.eval o).run P w=r at*
  cases r with
  |ok m w'=>
   cases m<;>simp only[Oper.upon]at k⊢
   case value u=>
    obtain⟨v,he,hg,hr⟩:=k
    rw[p _ _ he];exact hK' _ _ (hK v _ hg hr)
   case skip=>
    obtain⟨v,he,hg,hr⟩:=k
    rw[p _ _ he];exact hK' _ _ (hK v _ hg hr)
   case defer d=>
    obtain⟨v,he,hg,hr⟩:=k
    have:=congrArg Act.defers he
    cases hd:o.dst<;>simp[Act.put,hd]at this
   case enter f args=>
    refine Calls.mono k fun e w'' he=> ?_
    cases e with
    |returned u=>
     obtain⟨v,he,hg,hr⟩:=he
     show K' _ _
     rw[p _ _ he];exact hK' _ _ (hK v _ hg hr)
    |panicked c=>exact he.elim
    |outgrown=>obtain⟨_,_,h⟩:=he;exact h.elim
   case row row args=>
    refine Rows.mono k fun u w'' he=> ?_
    obtain⟨v,he,hg,hr⟩:=he
    rw[p _ _ he];exact hK' _ _ (hK v _ hg hr)
  |halt x w'=>
   cases x<;>simp only[Oper.upon]at k
 ·rename_i hw
  rw[if_neg hw]at k
  obtain⟨v,he,hg,hr⟩:=k
  rw[p _ _ he];exact hK' _ _ (hK v _ hg hr)
def qC (md:Region.Mode)(ops:Array Oper):Bool:=(List.range ops.size).all fun i=>match ops[i]? with
 |none=>true
 |some o=>o.after.all fun e=> !Region.binds md e || decide (e.on<i)
theorem wQ (h:qC md ops=true)(listed:Array Bool)(hsz:listed.size=ops.size)(hr:Region.ready md ops listed= []): ∀i,i<ops.size→listed.getD i false=true:=by
 intro i
 induction i using Nat.strongRecOn with
 |_ i ih=>
  intro hi
  cases hl:listed.getD i false with
  |true=>rfl
  |false=>
   have ho:ops[i]? =some ops[i]:=Array.getElem?_eq_getElem hi
   have b:i<listed.size:=by omega
   have a:i∈Region.ready md ops listed:=by
    rw[mem_ready]
    refine⟨by simp[b]at hl⊢;exact hl,_,ho,fun e he hb=> ?_⟩
    have h1:=List.all_eq_true.1 h i (List.mem_range.2 hi)
    simp only[ho]at h1
    have h2:=Array.all_eq_true_iff_forall_mem.1 h1 e he
    simp[hb]at h2
    exact ih e.on h2 (by omega)
   rw[hr]at a;cases a
def nG (md:Region.Mode)(ops:Array Oper)(m:Nat):Bool:=(List.range ops.size).all fun i=>decide (i<m) || match ops[i]? with
 |none=>true
 |some o=>(o.after.any fun e=>Region.binds md e&&decide (m≤e.on)) || (List.range m).all fun j=>
   (o.after.any fun e=>Region.binds md e&&e.on==j) || (List.range m).any fun k=>match ops[k]? with
    |none=>false
    |some ok=>ok.after.any fun e=>Region.binds md e&&e.on==j
theorem zO {m:Nat}(hup:qC md ops=true)(ht:nG md ops m=true)(listed:Array Bool)(hm:m≤ops.size)
  (hcl: ∀i o,ops[i]? =some o→listed.getD i false=true→ ∀e∈o.after,Region.binds md e=true→listed.getD e.on false=true)
  (hnt: ∀i,m≤i→listed.getD i false=false) {i:Nat} (hi:i∈Region.ready md ops listed) (him:m≤i): ∀j,j<m→listed.getD j false=true:=by
 obtain⟨h0,o,ho,a⟩:=mem_ready.1 hi
 have n:i<ops.size:=(Array.getElem?_eq_some_iff.1 ho).1
 have h1:=List.all_eq_true.1 ht i (List.mem_range.2 n)
 have c: ¬i<m:=by omega
 simp only[ho,c,decide_false,Bool.false_or,Bool.or_eq_true]at h1
 rcases h1 with h1|h1
 ·obtain⟨e,he,h2⟩:=Array.any_eq_true'.1 h1
  rw[Bool.and_eq_true]at h2
  have h3:=a e he h2.1
  rw[hnt e.on (by simpa using h2.2)]at h3
  cases h3
 ·have g: ∀d j,m-j≤d→j<m→listed.getD j false=true:=by
   intro d
   induction d with
   |zero=>intro j h h';omega
   |succ d ih=>
    intro j hd hj
    have h2:=List.all_eq_true.1 h1 j (List.mem_range.2 hj)
    rw[Bool.or_eq_true]at h2
    rcases h2 with h2|h2
    ·obtain⟨e,he,h3⟩:=Array.any_eq_true'.1 h2
     rw[Bool.and_eq_true]at h3
     have h4:=a e he h3.1
     rwa[show e.on=j by simpa using h3.2]at h4
    ·obtain⟨k,hk,h3⟩:=List.any_eq_true.1 h2
     have l:=List.mem_range.1 hk
     have b:ops[k]? =some ops[k]:=Array.getElem?_eq_getElem (by omega)
     simp only[b]at h3
     obtain⟨e,he,h4⟩:=Array.any_eq_true'.1 h3
     rw[Bool.and_eq_true]at h4
     have f:e.on=j:=by simpa using h4.2
     have h5:=List.all_eq_true.1 hup k (List.mem_range.2 (by omega))
     simp only[b]at h5
     have h6:=Array.all_eq_true_iff_forall_mem.1 h5 e he
     simp[h4.1]at h6
     have:=hcl k _ b (ih k (by omega) l) e he h4.1
     rwa[f]at this
  exact fun j hj=>g m j (by omega) hj
def dX (m n:Nat):Array Bool:=(List.replicate m true++List.replicate n false).toArray
def fT (ops:Array Oper)(m:Nat):List (Nat×Option Tmp):=(List.range m).map (fun i=>(i,fL ops i))
theorem aKm {n m:Nat}(hok:lX md ops n=true)(hup:qC md ops=true)(ht:nG md ops m=true)(hm:m≤ops.size){a0:Act}(hn:a0.tmps.size=n){W:World}(htr: ∀a b c,R a b→R b c→R a c)(hG: ∀i v w w',G i v w→R w w'→G i v w')
  (hs:StepsL P md ops G R a0 W (List.range m))(he: ∀w,R W w→ForV G w (fT ops m) a0 (fun a=>wpAny P md ops Q (ops.size-m) (dX m (ops.size-m)) a w)):
  ∀(fuel:Nat) (listed:Array Bool) (a:Act) (w:World) (vals:Nat→Value),listed.size=ops.size→(∀i o,ops[i]? =some o→listed.getD i false=true→ ∀e∈o.after,Region.binds md e=true→listed.getD e.on false=true)→
   (∀i,m≤i→listed.getD i false=false)→
   R W w→FrI ops a0 vals (fun j=>listed.getD j false=true) a→(∀i,listed.getD i false=true→G i (vals i) w)→
   List.count false listed.toList=fuel→wpAny P md ops Q fuel listed a w:=by
 intro fuel
 -- all of the head have come up
 have z: ∀(fuel:Nat) (listed:Array Bool) (a:Act) (w:World) (vals:Nat→Value),listed.size=ops.size→(∀i,m≤i→listed.getD i false=false)→R W w→FrI ops a0 vals (fun j=>listed.getD j false=true) a→(∀i,listed.getD i false=true→G i (vals i) w)→
   List.count false listed.toList=fuel→(∀i,i<m→listed.getD i false=true)→wpAny P md ops Q fuel listed a w:=by
  intro fuel listed a w vals r l hR hF q k f
  have h:=he w hR
  obtain⟨b,hb,hq⟩:=ForV.get hok hn (G:=G) (vals:=vals) (fT ops m) (fun _=>False) a0 (fun p hp=>by
   unfold fT at hp
   obtain⟨i,hi,rfl⟩:=List.mem_map.1 hp
   have:=List.mem_range.1 hi
   exact⟨⟨ops[i]'(by omega),Array.getElem?_eq_getElem _⟩,rfl⟩) (fun p hp=>by
   unfold fT at hp
   obtain⟨i,hi,rfl⟩:=List.mem_map.1 hp
   exact q i (f i (List.mem_range.1 hi))) FrI.nil h
  have e1:a=b:=hF.eq (hb.congr (fun i=>by
   simp only[false_or,fT,List.map_map,List.mem_map,List.mem_range]
   constructor
   ·rintro⟨j,hj,rfl⟩;exact f j hj
   ·intro hl
    refine⟨i,?_,rfl⟩
    rcases Nat.lt_or_ge i m with h'|h'
    ·exact h'
    ·rw[l i h']at hl;cases hl) (fun _ _=>rfl))
  have ak:listed.toList=List.replicate m true++List.replicate (ops.size-m) false:=by
   apply List.ext_getElem?
   intro i
   rw[Array.getElem?_toList]
   by_cases him:i<m
   ·have h1:=f i him
    have h2:i<listed.size:=by omega
    simp[h2]at h1
    simp[h2,h1,List.getElem?_append,him]
   ·by_cases hio:i<listed.size
    ·have h1:=l i (by omega)
     simp[hio]at h1
     have h2:i-m<ops.size-m:=by omega
     rw[List.getElem?_append_right (by simp;omega)]
     simp[hio,h1,h2]
    ·rw[Array.getElem?_eq_none (by omega),List.getElem?_eq_none (by simp;omega)]
  have e2:listed=dX m (ops.size-m):=by
   unfold dX
   rw[←ak]
  have e3:fuel=ops.size-m:=by
   rw[←k,e2]
   simp[dX,List.count_append,List.count_replicate]
  rw[e1,e2,e3];exact hq
 induction fuel with
 |zero=>
  intro listed a w vals r u l hR hF q k
  refine z 0 listed a w vals r l hR hF q k fun i hi=> ?_
  have ae:i<listed.size:=by omega
  cases hb:listed[i]with
  |true=>simp[hb,ae]
  |false=>
   have ab:false∈listed.toList:=by
    rw[←hb];simp
   have:=List.count_pos_iff.2 ab
   omega
 |succ fuel ih=>
  intro listed a w vals r u l hR hF q k
  by_cases f: ∀i,i<m→listed.getD i false=true
  ·exact z _ listed a w vals r l hR hF q k f
  refine⟨fun h=> ?_,fun i hi=> ?_⟩
  ·exact absurd (fun i hi=>wQ hup listed r h i (by omega)) f
  have him:i<m:=by
   rcases Nat.lt_or_ge i m with h|h
   ·exact h
   ·exact absurd (zO hup ht listed hm u l hi h) f
  obtain⟨h0,o,ho,s⟩:=mem_ready.1 hi
  have aa:i<ops.size:=(Array.getElem?_eq_some_iff.1 ho).1
  have g:i<listed.size:=by rw[r];exact aa
  have t: ¬listed.getD i false=true:=by
   intro h
   simp[g]at h h0
   rw[h0]at h;cases h
  have x:=hs i (List.mem_range.2 him) o ho w hR
  have af: ∀p∈fC ops i,listed.getD p.1 false=true:=fun p hp=>by
   obtain⟨_,_,d,hd,hl⟩:=oI ho hp
   obtain⟨e,he,hbd,aj⟩:=((kO hok).2 i o ho).2 d hl p.1 hd
   have h3:=s e he hbd
   rwa[aj]at h3
  obtain⟨b,hb,ah⟩:=ForV.get hok hn (G:=G) (vals:=vals) (fC ops i) (fun _=>False) a0 (fun p hp=>by
   obtain⟨h1,h2,_⟩:=oI ho hp
   exact⟨⟨ops[p.1]'h1,Array.getElem?_eq_getElem _⟩,h2⟩) (fun p hp=>q _ (af p hp)) FrI.nil x
  refine aK2 (vals:=vals) hok hn ho (fun e he hbd=>s e he hbd) t hF (hb.congr (fun j=>by simp) (fun _ _=>rfl)) ah fun v w'' hg hr=> ?_
  refine ih (listed.setIfInBounds i true) _ w'' (fun j=>if j=i then v else vals j) (by simpa using r) ?_ ?_ (htr _ _ _ hR hr) ?_ ?_ ?_
  ·intro j oj y hj e he hbd
   by_cases hji:j=i
   ·subst hji
    rw[ho]at y;cases y
    exact getD_set_true (s e he hbd)
   ·rw[getD_set_ne false (Ne.symm hji)]at hj
    exact getD_set_true (u j oj y hj e he hbd)
  ·intro j hj
   rw[getD_set_ne false (by omega)]
   exact l j hj
  ·refine(hF.put hok hn ho v (fun h=>absurd h t)).congr (fun j=> ?_) (fun _ _=>rfl)
   by_cases hji:j=i
   ·subst hji;simp[g]
   ·rw[getD_set_ne false (Ne.symm hji)];simp[hji]
  ·intro j hj
   by_cases hji:j=i
   ·subst hji;simp only[if_true];exact hg
   ·rw[getD_set_ne false (Ne.symm hji)]at hj
    simp only[hji,if_false]
    exact hG _ _ _ _ (q j hj) hr
  ·have ai:listed[i]=false:=by
    cases hb':listed[i]with
    |false=>rfl
    |true=>exact absurd (by simp[g,hb']) t
   have e1:(listed.setIfInBounds i true).toList=listed.toList.set i true:=by simp
   rw[e1]
   have ag:i<listed.toList.length:=by simpa using g
   have ad:listed.toList[i]=false:=by simpa using ai
   rw[List.count_set ag]
   rw[ad]
   have e2:((false==false)=true):=rfl
   have e3: ¬((true==false)=true):=by decide
   rw[if_pos e2,if_neg e3]
   omega
theorem vC {id n:Nat}{a0:Act}{w W:World}(G:Nat→Value→World→Prop)(R:World→World→Prop)(m:Nat)(hm:P.follows .mixedOrders=true)(hn:a0.tmps.size=n)(hok:lX .any ops n=true)(hup:qC .any ops=true)(ht:nG .any ops m=true)
  (hrefl: ∀w,R w w)(htr: ∀a b c,R a b→R b c→R a c)(hG: ∀i v w w',G i v w→R w w'→G i v w')(hW:W=w.drew){k:Nat}(hsz:ops.size=k)(hmk:m≤k){ls:List (Nat×Option Tmp)}(hls:fT ops m=ls){ir:List Nat}(hir:List.range m=ir)
  (hs:StepsL P .any ops G R a0 W ir){tl:Array Bool}(htl:dX m (k-m)=tl)(he: ∀w,R W w→ForV G w ls a0 (fun a=>wpAny P .any ops Q (k-m) tl a w)):
  (Code.region id ops true).wp P Q a0 w:=by
 subst hsz hls hir htl
 refine wp_region_any hm ?_
 have d:W={w with drawn:=w.drawn+1}:=hW
 rw[←d]
 refine aKm hok hup ht hmk hn htr hG hs he ops.size (Array.replicate ops.size false) a0 W (fun _=>undef) (by simp) ?_ ?_ (hrefl _) ?_ ?_ ?_
 ·intro i o ho hl
  have hi:=(Array.getElem?_eq_some_iff.1 ho).1
  simp[hi]at hl
 ·intro i _
  by_cases hi:i<ops.size<;>simp[hi]
 ·refine FrI.nil.congr (fun i=> ?_) (fun _ _=>rfl)
  constructor
  ·exact False.elim
  ·intro h
   by_cases hi:i<ops.size
   ·simp[hi]at h
   ·simp[hi]at h
 ·intro i h
  by_cases hi:i<ops.size
  ·simp[hi]at h
  ·simp[hi]at h
 ·simp
theorem aCx {id n:Nat}{a0:Act}{w:World}(G:Nat→Value→World→Prop)(m:Nat)(hm:P.follows .mixedOrders=true)(hn:a0.tmps.size=n)(hok:lX .any ops n=true)(hup:qC .any ops=true)(ht:nG .any ops m=true)
  (hG: ∀i v w w',G i v w→Ext w w'→G i v w'){k:Nat}(hsz:ops.size=k)(hmk:m≤k){ls:List (Nat×Option Tmp)}(hls:fT ops m=ls){ir:List Nat}(hir:List.range m=ir)
  (hs:StepsL P .any ops G Ext a0 w.drew ir){tl:Array Bool}(htl:dX m (k-m)=tl)(he: ∀w',Ext w.drew w'→ForV G w' ls a0 (fun a=>wpAny P .any ops Q (k-m) tl a w')):
  (Code.region id ops true).wp P Q a0 w:=
 vC G Ext m hm hn hok hup ht Ext.refl (fun _ _ _=>Ext.trans) hG rfl hsz hmk hls hir hs htl he
end
def gl (l:List (Value→World→Prop))(i:Nat):Value→World→Prop:=l.getD i (fun _ _=>True)
def sV (g:Value→World→Prop):Prop:= ∀v w w',g v w→Ext w w'→g v w'
theorem oM {l:List (Value→World→Prop)}(h: ∀g∈l,sV g): ∀i v w w',gl l i v w→Ext w w'→gl l i v w':=by
 intro i v w w' hg hx
 unfold gl at*
 rw[List.getD_eq_getElem?_getD]at*
 cases hi:l[i]? with
 |none=>rw[hi]at hg;exact hg
 |some g=>
  rw[hi]at hg
  simp only[Option.getD_some]at*
  exact h g (List.mem_of_getElem? hi) _ _ _ hg hx
def gEq (u:Value):Value→World→Prop:=fun v _=>v=u
theorem bZ (u:Value):sV (gEq u):=fun _ _ _ h _=>h
def aKx (lo:Nat)(t:TypeId)(cs:Array Value):Value→World→Prop:=fun v w=> ∃g,v= .pointer (some ⟨g,0,none⟩)∧lo≤g∧Blk w g t cs
theorem aGp (lo:Nat)(t:TypeId)(cs:Array Value):sV (aKx lo t cs):=fun _ _ _ ⟨g,h1,h2,h3⟩ hx=>⟨g,h1,h2,h3.ext hx⟩
def aKw (lo:Nat)(t:TypeId)(cs:Array Value)(n:Nat):Value→World→Prop:=fun v w=> ∃g,v= .slice (some ⟨g,0,none⟩) n n∧lo≤g∧Blk w g t cs
theorem wV (lo:Nat)(t:TypeId)(cs:Array Value)(n:Nat):sV (aKw lo t cs n):=fun _ _ _ ⟨g,h1,h2,h3⟩ hx=>⟨g,h1,h2,h3.ext hx⟩
theorem rM: ∀g∈([]:List (Value→World→Prop)),sV g:=fun _ h=>by cases h
theorem bV {g:Value→World→Prop}{l:List (Value→World→Prop)}(h:sV g)(k: ∀g∈l,sV g): ∀g'∈g::l,sV g':=fun g' h'=>by
 rcases List.mem_cons.1 h' with rfl|h'
 ·exact h
 ·exact k g' h'
section
variable {P:Program} {ops:Array Oper} {Q:Exit→Act→World→Prop} {md:Region.Mode} {G:Nat→Value→World→Prop} {R:World→World→Prop}
theorem rL {id n:Nat}{a0:Act}{w:World}(G:Nat→Value→World→Prop)(m k:Nat)(ls:List (Nat×Option Tmp))(hs:StepsL P .any ops G Ext a0 w.drew (List.range m))(he: ∀w',Ext w.drew w'→ForV G w' ls a0 (fun a=>wpAny P .any ops Q (k-m) (dX m (k-m)) a w'))
  (hG: ∀i v w w',G i v w→Ext w w'→G i v w':=by(refine oM ?_;repeat (first|exact rM|refine bV (bZ _) ?_|refine bV (aGp _ _ _) ?_|refine bV (wV _ _ _ _) ?_)))
  (hm:P.follows .mixedOrders=true:=by kernel_rfl)(hn:a0.tmps.size=n:=by exact rfl)(hok:lX .any ops n=true:=by kernel_rfl)(hup:qC .any ops=true:=by kernel_rfl)(ht:nG .any ops m=true:=by kernel_rfl)
  (hsz:ops.size=k:=by kernel_rfl)(hmk:m≤k:=by decide)(hls:fT ops m=ls:=by kernel_rfl):(Code.region id ops true).wp P Q a0 w:=
 aCx G m hm hn hok hup ht hG hsz hmk hls rfl hs rfl he
end
end Go.Proofs.YtgnkoffndhmhpaaGreatDoor
namespace Go.Proofs.YtgnkoffndhmhpaaGreatDoor
open Go.RowKit
set_option linter.unusedVariables false
set_option maxHeartbeats 8000000
set_option maxRecDepth 100000
def Rand (w:World)(R k:Nat):Prop:= ∃(p:OA) (n cap:Nat) (q:Int) (bs:List Int),
 Blk w R 127 #[.slice p n cap,q]∧0≤q∧q≤k∧Sl w p n cap 1 (bs.map (Value.int .u8))∧n≤2000∧(∀x∈bs,0≤x∧x≤255)∧(0<n→ ∀b off,p=some ⟨b,off,none⟩→b<R)
theorem Rand.mono {w:World}{R k k':Nat}(h:Rand w R k)(hk:k≤k'):Rand w R k':=by
 obtain⟨p,n,a,q,bs,h1,h2,h3,h4⟩:=h
 exact⟨p,n,a,q,bs,h1,h2,by omega,h4⟩
theorem Rand.below {w w':World}{R k:Nat}(h:Rand w R k)(hx:Below (R+1) w w'):Rand w' R k:=by
 obtain⟨p,n,c,q,bs,h1,h2,h3,h4,h5,h6,h7⟩:=h
 refine⟨p,n,c,q,bs,(hx.block R (Nat.lt_succ_self R)).trans h1,h2,h3,⟨h4.len,h4.le,h4.mx,fun h0=> ?_⟩,h5,h6,h7⟩
 obtain⟨b,a,rfl,hb,hc⟩:=h4.rd h0
 have d:=h7 h0 b a rfl
 exact⟨b,a,rfl,Nat.lt_of_lt_of_le hb hx.size,fun k hk=>(World.cell?_of_block (hx.block b (by omega))).trans (hc k hk)⟩
theorem Rand.alloc {w:World}{R k:Nat}(h:Rand w R k)(o:Obj):Rand (w.alloc o) R k:=by
 obtain⟨p,n,a,q,bs,h1,h2⟩:=id h
 exact h.below (Below.alloc (Below.refl _ _) h1.lt o)
theorem Rand.setCell {w:World}{R k:Nat}(h:Rand w R k){p:Addr}(hp:R<p.block)(u:Value):Rand (w.setCell p u) R k:=h.below (Below.setCell (Below.refl _ _) hp u)
theorem Rand.drew {w:World}{R k:Nat}(h:Rand w R k):Rand w.drew R k:=h.below (Below.drew (Below.refl _ _))
theorem Rand.ext {w w':World}{R k:Nat}(h:Rand w R k)(hx:Ext w w'):Rand w' R k:=by
 obtain⟨p,n,a,q,bs,h1,h2,h3,h4,h5⟩:=h
 exact⟨p,n,a,q,bs,h1.ext hx,h2,h3,h4.ext hx,h5⟩
theorem Rand.lt {w:World}{R k:Nat}(h:Rand w R k):R<w.heap.size:=by
 obtain⟨p,n,a,q,bs,h1,_⟩:=h
 exact h1.lt
theorem Rand.grown {w w':World}{R k:Nat}{row:Option Nat}(h:Rand w R k)(hg:w.grownBy w' row)(hr:some R≠row)(hb: ∀b,row=some b→w.heap.size≤b):Rand w' R k:=
 h.ext ((Ext.refl w).grown hg hb)
theorem tV {w:World}{p:OA}{n cap:Nat}{xs:List Int}(h:Sl w p n cap 1 (xs.map (Value.int .u8))){k:Nat}(hk:k<n):
  ∃b off x,p=some ⟨b,off,none⟩∧x∈xs∧b<w.heap.size∧w.cell? ⟨b,off+k,none⟩=some (.int .u8 x):=by
 obtain⟨b,off,rfl,hb,hc⟩:=h.rd (by omega)
 have hl:xs.length=n:=by simpa using h.len
 have a:k<xs.length:=by rw[hl];exact hk
 have hx:xs[k]? =some (xs[k]'a):=List.getElem?_eq_getElem a
 refine⟨b,off,_,rfl,List.getElem_mem a,hb,?_⟩
 rw[hc k (by omega),List.getElem?_map,hx];rfl
theorem wO (a:Nat)(ha:a<9223372036854775808):(BitVec.ofInt 64 (a:Int)).toNat=a:=by
 rw[BitVec.ofInt_natCast,BitVec.toNat_ofNat];exact Nat.mod_eq_of_lt (by omega)
theorem aBz (x y:Int)(hx:0≤x)(hx2:x<9223372036854775808)(hy:0≤y)(hy2:y<9223372036854775808):0≤bits .xor .i64 x y∧bits .xor .i64 x y<9223372036854775808:=by
 obtain⟨a,rfl⟩:=Int.eq_ofNat_of_zero_le hx
 obtain⟨b,rfl⟩:=Int.eq_ofNat_of_zero_le hy
 have c:a ^^^ b<2 ^ 63:=Nat.xor_lt_two_pow (by omega) (by omega)
 have e:bits .xor .i64 (a:Int) (b:Int)=((a ^^^ b:Nat):Int):=by
  show IntKind.i64.wrap ((BitVec.ofInt 64 (a:Int) ^^^ BitVec.ofInt 64 (b:Int)).toNat:Int)=_
  rw[BitVec.toNat_xor,wO a (by omega),wO b (by omega),IntKind.wrap_i64]
  omega
 rw[e];omega
def aLa (R k:Nat)(n:Int)(w:World)(e:Ending)(w':World):Prop:= ∃x:Int,e= .returned (.int .i64 x)∧0≤x∧(x<n∨x=0)∧Rand w' R (k+1)∧ExtR R w w'
theorem aFs {w w':World}{R k:Nat}{p:OA}{n cap:Nat}{q:Int}{bs:List Int}(hw:w'=w.setCell ⟨R,1,none⟩ (.int .i64 (q+1)))
  (h1:Blk w R 127 #[.slice p n cap,q])(h2:0≤q)(h3:q≤k)(h4:Sl w p n cap 1 (bs.map (Value.int .u8)))(h5:n≤2000)(h6: ∀x∈bs,0≤x∧x≤255)(h7:0<n→ ∀b off,p=some ⟨b,off,none⟩→b<R):
  Rand w' R (k+1)∧ExtR R w w':=by
 have hx:ExtR R w w':=by rw[hw];exact(ExtR.refl R w).setCell (p:=⟨R,1,none⟩) (.inl rfl) _
 refine⟨⟨p,n,cap,q+1,bs,by rw[hw];exact h1.set 1 _,by omega,by omega,hx.sl (b0:=0) h4 (fun h0 b off e=>by have:=h7 h0 b off e;omega),h5,h6,h7⟩,hx⟩
theorem cN (R k:Nat)(n:Int)(w:World)(hr:Rand w R k)(hk:k≤1099511627776):
  Calls Tryz.prog 108 #[.pointer (some ⟨R,0,none⟩),n] w (aLa R k n w):=by
 obtain⟨p,m,i,q,bs,h1,h2,h3,h4,h5,h6,a⟩:=hr
 have h7:0<m→ ∀b off,p=some ⟨b,off,none⟩→b≠R:=fun h0 b off e=>by have:=a h0 b off e;omega
 have c0:=h1.cl 0
 have c1:=h1.cl 1
 have f1:=h1.frozen 1
 have HS:=xQ (fun w' hw=>aFs (w':=w') hw h1 h2 h3 h4 h5 h6 a)
 by_cases hn:n<1
 ·clear h4 h6 h7
  go_enter Tryz.func108,Tryz.ntmps108
  go_wp2
  go_ret
  exact⟨0,rfl,by omega,.inr rfl,HS _ rfl⟩
 ·by_cases hm:m=0
  ·subst hm
   clear h4 h6 h7
   go_enter Tryz.func108,Tryz.ntmps108
   go_wp2
   go_ret
   exact⟨0,rfl,by omega,.inr rfl,HS _ rfl⟩
  ·by_cases hq:q<m
   ·obtain⟨b,off,x,rfl,hx,hb,hc⟩:=tV h4 (k:=q.toNat) (by omega)
    obtain⟨x0,x1⟩:=h6 x hx
    have d:b≠R:=h7 (by omega) b off rfl
    have hl:=h4.le
    clear h4 h6 h7
    go_enter Tryz.func108,Tryz.ntmps108
    go_wp2
    go_ret
    exact⟨_,rfl,Int.emod_nonneg _ (by omega),.inl (Int.emod_lt_of_pos _ (by omega)),HS _ rfl⟩
   ·obtain⟨b,off,x,rfl,hx,hb,hc⟩:=tV h4 (k:=(q%m).toNat) (by have:=Int.emod_lt_of_pos q (show(0:Int)<m by omega);have:=Int.emod_nonneg q (show(m:Int)≠0 by omega);omega)
    obtain⟨b2,f,y,c,hy,h,g⟩:=tV h4 (k:=((q*7+3)%m).toNat) (by have:=Int.emod_lt_of_pos (q*7+3) (show(0:Int)<m by omega);have:=Int.emod_nonneg (q*7+3) (show(m:Int)≠0 by omega);omega)
    simp only[Option.some.injEq,Addr.mk.injEq,and_true]at c
    obtain⟨rfl,rfl⟩:=c
    obtain⟨x0,x1⟩:=h6 x hx
    obtain⟨y0,y1⟩:=h6 y hy
    have d:b≠R:=h7 (by omega) b off rfl
    have hl:=h4.le
    have i1:0≤q%m:=Int.emod_nonneg _ (by omega)
    have i2:q%m<m:=Int.emod_lt_of_pos _ (by omega)
    have i3:0≤(q*7+3)%m:=Int.emod_nonneg _ (by omega)
    have i4:(q*7+3)%m<m:=Int.emod_lt_of_pos _ (by omega)
    have i5:0≤q/m:=Int.ediv_nonneg h2 (by omega)
    have i6:q/m≤q:=Int.ediv_le_self _ h2
    clear h4 h6 h7
    go_enter Tryz.func108,Tryz.ntmps108
    go_wp2
    go_quiet (fail)
    all_goals go_wp2
    all_goals go_ret
    have z0:0≤x*131+y*1117+q*29+q/m*53:=by omega
    have z1:x*131+y*1117+q*29+q/m*53<9223372036854775808:=by omega
    obtain⟨z2,z3⟩:=aBz (x*131+y*1117+q*29+q/m*53) ((x*131+y*1117+q*29+q/m*53)/64) z0 z1 (by omega) (by omega)
    refine⟨_,rfl,?_,.inl ?_,?_⟩
    ·rw[Int.tmod_eq_emod_of_nonneg z2];exact Int.emod_nonneg _ (by omega)
    ·rw[Int.tmod_eq_emod_of_nonneg z2];exact Int.emod_lt_of_pos _ (by omega)
    ·obtain⟨a1,a2⟩:=HS _ rfl
     exact⟨a1.ext (Ext.drewN (Ext.refl _) _),a2.drewN _⟩
theorem xN {w:World}{R c:Nat}(h:Rand w R c:=by(repeat' (first|(with_reducible assumption)|(with_reducible refine Rand.alloc ?_ _)|(with_reducible refine Rand.setCell ?_ (by first|exact Nat.le_refl _|(dsimp only;omega)|(simp;done)|(simp;omega)) _)|(with_reducible refine Rand.drew ?_)|(with_reducible refine Rand.drewN ?_ _)|(refine Rand.ext ?_ (by with_reducible assumption))))):Rand w R c:=h
end Go.Proofs.YtgnkoffndhmhpaaGreatDoor
