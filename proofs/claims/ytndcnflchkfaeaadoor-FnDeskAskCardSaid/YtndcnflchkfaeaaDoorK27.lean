/-
  Texts of this proof, packed (@packed).
-/
import Derived.Test.YtndcnflchkfaeaaDoorK22
namespace Go.Proofs.YtndcnflchkfaeaaDoor
open Go Go.RowKit
set_option linter.unusedVariables false
section
variable {P:Program} {ops:Array Oper} {Q:Exit→Act→World→Prop} {md:Region.Mode} {G:Nat→Value→World→Prop} {Rd st:Nat} {X:World→World→Prop}
def StepAtX (P:Program)(ops:Array Oper)(G:Nat→Value→World→Prop)(X:World→World→Prop)(Rd st kk:Nat)(i:Nat)(o:Oper)(w:World)(a:Act):Prop:=
 ∀K':Act→World→Prop,(∀a' w'',(∃v,a'=a.put o.dst v∧G i v w''∧X w w''∧Rand w'' Rd (kk+st))→K' a' w'')→if Region.wanted o (yielded ops a.tmps)=true then Oper.wp P o a w K' (fun _ _ _=>False)else K' (a.put o.dst undef) w
def StepsLX (P:Program)(md:Region.Mode)(ops:Array Oper)(G:Nat→Value→World→Prop)(X:World→World→Prop)(Rd st:Nat)(top:Nat)(a0:Act)(W:World)(l:List Nat):Prop:=
 ∀i∈l,∀o,ops[i]? =some o→ ∀w kk,X W w→Rand w Rd kk→kk≤top→ForV G w (needD ops i) a0 (StepAtX P ops G X Rd st kk i o w)
theorem StepsLX.nil {top:Nat}{a0:Act}{W:World}:StepsLX P md ops G X Rd st top a0 W []:=fun _ h=>by cases h
theorem StepsLX.cons {top:Nat}{a0:Act}{W:World}{i:Nat}{o:Oper}{ps:List (Nat×Option Tmp)}{is:List Nat}(ho:ops[i]? =some o) (hp:needD ops i=ps)
  (h: ∀w kk,X W w→Rand w Rd kk→kk≤top→ForV G w ps a0 (StepAtX P ops G X Rd st kk i o w)) (hs:StepsLX P md ops G X Rd st top a0 W is):StepsLX P md ops G X Rd st top a0 W (i::is):=by
 intro j hj o' ho' w kk hw hr hk
 rcases List.mem_cons.1 hj with rfl|hj
 ·rw[ho]at ho';cases ho';rw[hp];exact h w kk hw hr hk
 ·exact hs j hj o' ho' w kk hw hr hk
theorem step_ofX {n:Nat}(hok:linOk md ops n=true){a0:Act}{kk:Nat}(hn:a0.tmps.size=n){vals:Nat→Value}{w:World}{l:Nat→Prop}{a b:Act}{i:Nat}{o:Oper}(ho:ops[i]? =some o)
  (hpl: ∀e∈o.after,Region.binds md e=true→l e.on) (hni: ¬l i)
  (ha:FrI ops a0 vals l a) (hb:FrI ops a0 vals (fun j=>j∈(needD ops i).map (·.1)) b) (h:StepAtX P ops G X Rd st kk i o w b) {K:Act→World→Prop}
  (hK: ∀v w'',G i v w''→X w w''∧Rand w'' Rd (kk+st)→K (a.put o.dst v) w''):wpOp P ops Q i K a w:=by
 obtain⟨hsel,hs⟩:=linOk_spec hok
 obtain⟨h1,h2⟩:=hs i o ho
 have hsel': ∀cs x,o.op≠ .select cs x:=fun cs x=>Region.noSelect_spec hsel i o cs x ho
 have hlook: ∀t∈o.looksAt ops,a.tmps[t]? =b.tmps[t]? :=fun t ht=>by
  by_cases hd: ∃j,dstOf ops j=some t
  ·obtain⟨j,hj⟩:=hd
   obtain⟨e,he,hbi,rfl⟩:=h2 t ht j hj
   rw[ha.mem _ _ hj (hpl e he hbi),hb.mem _ _ hj (needD_of ho hj ht)]
  ·rw[ha.out t fun j _ hj=>hd ⟨j,hj⟩,hb.out t fun j _ hj=>hd ⟨j,hj⟩]
 have hev:execOp a.eval o=execOp b.eval o:=execOp_congr o hsel' fun x hx=>by
  cases x with
  |tmp t=>
   have:=hlook t (List.mem_append_left _ (List.mem_filterMap.2 ⟨.tmp t,by simpa using hx,rfl⟩))
   simp only[Act.eval,Array.getD_eq_getD_getElem?,this]
  |_=>rfl
 have hwa:Region.wanted o (yielded ops a.tmps)=Region.wanted o (yielded ops b.tmps):=by
  unfold Region.wanted
  cases hg:o.guard with
  |none=>rfl
  |some gw=>
   obtain⟨g,want⟩:=gw
   have:yielded ops a.tmps g=yielded ops b.tmps g:=by
    unfold yielded
    cases ht:(ops[g]?).bind (·.dst)with
    |none=>rfl
    |some t=>
     have:=hlook t (by simp[Oper.looksAt,hg,ht])
     simp[this]
   simp only[this]
 have hst:=h (fun a' w'=> ∃v,a'=b.put o.dst v∧G i v w'∧X w w'∧Rand w' Rd (kk+st)) (fun a' w'' h=>h)
 have back: ∀u v:Value,b.put o.dst u=b.put o.dst v→a.put o.dst u=a.put o.dst v:=fun u v he=>by
  cases hd:o.dst with
  |none=>rfl
  |some d=>
   rw[hd]at he
   obtain⟨hlt,-⟩:=h1 d hd
   have e1:(b.tmps.setIfInBounds d u)[d]? =(b.tmps.setIfInBounds d v)[d]? :=by
    have:=congrArg Act.tmps he
    simp only[Act.put]at this
    rw[this]
   have hbs:d<b.tmps.size:=by rw[hb.size,hn];exact hlt
   simp[hbs]at e1
   rw[e1]
 refine wpOp_step ho fun K' hK'=> ?_
 rw[hwa]
 split
 ·rename_i hw
  rw[if_pos hw]at hst
  unfold Oper.wp at*
  rw[hev]
  generalize (execOp b.eval o).run P w=r at*
  cases r with
  |ok m w'=>
   cases m<;>simp only[Oper.upon]at hst⊢
   case value u=>
    obtain⟨v,he,hg,hr⟩:=hst
    rw[back _ _ he];exact hK' _ _ (hK v _ hg hr)
   case skip=>
    obtain⟨v,he,hg,hr⟩:=hst
    rw[back _ _ he];exact hK' _ _ (hK v _ hg hr)
   case defer d=>
    obtain⟨v,he,hg,hr⟩:=hst
    have:=congrArg Act.defers he
    cases hd:o.dst<;>simp[Act.put,hd]at this
   case enter f args=>
    refine Calls.mono hst fun e w'' he=> ?_
    cases e with
    |returned u=>
     obtain⟨v,he,hg,hr⟩:=he
     show K' _ _
     rw[back _ _ he];exact hK' _ _ (hK v _ hg hr)
    |panicked c=>exact he.elim
    |outgrown=>obtain⟨_,_,h⟩:=he;exact h.elim
   case row row args=>
    refine Rows.mono hst fun u w'' he=> ?_
    obtain⟨v,he,hg,hr⟩:=he
    rw[back _ _ he];exact hK' _ _ (hK v _ hg hr)
  |halt x w'=>
   cases x<;>simp only[Oper.upon]at hst
 ·rename_i hw
  rw[if_neg hw]at hst
  obtain⟨v,he,hg,hr⟩:=hst
  rw[back _ _ he];exact hK' _ _ (hK v _ hg hr)
theorem lin_anyX {n m:Nat}(hok:linOk md ops n=true)(hup:linUp md ops=true)(ht:tailOk md ops m=true)(hm:m≤ops.size){a0:Act}(hn:a0.tmps.size=n){W:World}{k0:Nat}(htr: ∀a b c,X a b→X b c→X a c)(hG: ∀i v w w',G i v w→X w w'→G i v w')
  (hs:StepsLX P md ops G X Rd st (k0+st*ops.size) a0 W (List.range m))(he: ∀w,X W w→Rand w Rd (k0+st*m)→ForV G w (headD ops m) a0 (fun a=>wpAny P md ops Q (ops.size-m) (tailListed m (ops.size-m)) a w)):
  ∀(fuel:Nat) (listed:Array Bool) (a:Act) (w:World) (vals:Nat→Value),listed.size=ops.size→(∀i o,ops[i]? =some o→listed.getD i false=true→ ∀e∈o.after,Region.binds md e=true→listed.getD e.on false=true)→
   (∀i,m≤i→listed.getD i false=false)→
   X W w→(∃j,j+fuel=ops.size∧Rand w Rd (k0+st*j))→FrI ops a0 vals (fun j=>listed.getD j false=true) a→(∀i,listed.getD i false=true→G i (vals i) w)→
   List.count false listed.toList=fuel→wpAny P md ops Q fuel listed a w:=by
 intro fuel
 -- all of the head have come up
 have fin: ∀(fuel:Nat) (listed:Array Bool) (a:Act) (w:World) (vals:Nat→Value),listed.size=ops.size→(∀i,m≤i→listed.getD i false=false)→X W w→(∃j,j+fuel=ops.size∧Rand w Rd (k0+st*j))→FrI ops a0 vals (fun j=>listed.getD j false=true) a→(∀i,listed.getD i false=true→G i (vals i) w)→
   List.count false listed.toList=fuel→(∀i,i<m→listed.getD i false=true)→wpAny P md ops Q fuel listed a w:=by
  intro fuel listed a w vals hsz hnt hR hRn hF hGv hcnt hall
  have e2l:listed.toList=List.replicate m true++List.replicate (ops.size-m) false:=by
   apply List.ext_getElem?
   intro i
   rw[Array.getElem?_toList]
   by_cases him:i<m
   ·have h1:=hall i him
    have h2:i<listed.size:=by omega
    simp[h2]at h1
    simp[h2,h1,List.getElem?_append,him]
   ·by_cases hio:i<listed.size
    ·have h1:=hnt i (by omega)
     simp[hio]at h1
     have h2:i-m<ops.size-m:=by omega
     rw[List.getElem?_append_right (by simp;omega)]
     simp[hio,h1,h2]
    ·rw[Array.getElem?_eq_none (by omega),List.getElem?_eq_none (by simp;omega)]
  have e2:listed=tailListed m (ops.size-m):=by
   unfold tailListed
   rw[←e2l]
  have e3:fuel=ops.size-m:=by
   rw[←hcnt,e2]
   simp[tailListed,List.count_append,List.count_replicate]
  have h:=he w hR (by
   obtain⟨j,hj,hr⟩:=hRn
   have:j=m:=by omega
   rw[this]at hr;exact hr)
  obtain⟨b,hb,hq⟩:=ForV.get hok hn (G:=G) (vals:=vals) (headD ops m) (fun _=>False) a0 (fun p hp=>by
   unfold headD at hp
   obtain⟨i,hi,rfl⟩:=List.mem_map.1 hp
   have:=List.mem_range.1 hi
   exact⟨⟨ops[i]'(by omega),Array.getElem?_eq_getElem _⟩,rfl⟩) (fun p hp=>by
   unfold headD at hp
   obtain⟨i,hi,rfl⟩:=List.mem_map.1 hp
   exact hGv i (hall i (List.mem_range.1 hi))) FrI.nil h
  have e1:a=b:=hF.eq (hb.congr (fun i=>by
   simp only[false_or,headD,List.map_map,List.mem_map,List.mem_range]
   constructor
   ·rintro⟨j,hj,rfl⟩;exact hall j hj
   ·intro hl
    refine⟨i,?_,rfl⟩
    rcases Nat.lt_or_ge i m with h'|h'
    ·exact h'
    ·rw[hnt i h']at hl;cases hl) (fun _ _=>rfl))
  rw[e1,e2,e3];exact hq
 induction fuel with
 |zero=>
  intro listed a w vals hsz hcl hnt hR hRn hF hGv hcnt
  refine fin 0 listed a w vals hsz hnt hR hRn hF hGv hcnt fun i hi=> ?_
  have hi':i<listed.size:=by omega
  cases hb:listed[i]with
  |true=>simp[hb,hi']
  |false=>
   have hmem:false∈listed.toList:=by
    rw[←hb];simp
   have:=List.count_pos_iff.2 hmem
   omega
 |succ fuel ih=>
  intro listed a w vals hsz hcl hnt hR hRn hF hGv hcnt
  by_cases hall: ∀i,i<m→listed.getD i false=true
  ·exact fin _ listed a w vals hsz hnt hR hRn hF hGv hcnt hall
  refine⟨fun h=> ?_,fun i hi=> ?_⟩
  ·exact absurd (fun i hi=>linUp_all hup listed hsz h i (by omega)) hall
  have him:i<m:=by
   rcases Nat.lt_or_ge i m with h|h
   ·exact h
   ·exact absurd (tail_all hup ht listed hm hcl hnt hi h) hall
  obtain⟨h0,o,ho,hpre⟩:=mem_ready.1 hi
  have hilt:i<ops.size:=(Array.getElem?_eq_some_iff.1 ho).1
  have hilt':i<listed.size:=by rw[hsz];exact hilt
  have hni: ¬listed.getD i false=true:=by
   intro h
   simp[hilt']at h h0
   rw[h0]at h;cases h
  obtain⟨jj,hjj,hr0⟩:=hRn
  have hstep:=hs i (List.mem_range.2 him) o ho w (k0+st*jj) hR hr0 (Nat.add_le_add_left (Nat.mul_le_mul_left st (by omega)) k0)
  have hlk: ∀p∈needD ops i,listed.getD p.1 false=true:=fun p hp=>by
   obtain⟨_,_,d,hd,hl⟩:=needD_mem ho hp
   obtain⟨e,he,hbd,hpe⟩:=((linOk_spec hok).2 i o ho).2 d hl p.1 hd
   have h3:=hpre e he hbd
   rwa[hpe]at h3
  obtain⟨b,hb,hst⟩:=ForV.get hok hn (G:=G) (vals:=vals) (needD ops i) (fun _=>False) a0 (fun p hp=>by
   obtain⟨h1,h2,_⟩:=needD_mem ho hp
   exact⟨⟨ops[p.1]'h1,Array.getElem?_eq_getElem _⟩,h2⟩) (fun p hp=>hGv _ (hlk p hp)) FrI.nil hstep
  refine step_ofX (vals:=vals) hok hn ho (fun e he hbd=>hpre e he hbd) hni hF (hb.congr (fun j=>by simp) (fun _ _=>rfl)) hst fun v w'' hg ⟨hr,hr2⟩=> ?_
  refine ih (listed.setIfInBounds i true) _ w'' (fun j=>if j=i then v else vals j) (by simpa using hsz) ?_ ?_ (htr _ _ _ hR hr) ⟨jj+1,by omega,by rw[Nat.mul_succ,←Nat.add_assoc];exact hr2⟩ ?_ ?_ ?_
  ·intro j oj hoj hj e he hbd
   by_cases hji:j=i
   ·subst hji
    rw[ho]at hoj;cases hoj
    exact getD_set_true (hpre e he hbd)
   ·rw[Go.getD_set_ne false (Ne.symm hji)]at hj
    exact getD_set_true (hcl j oj hoj hj e he hbd)
  ·intro j hj
   rw[Go.getD_set_ne false (by omega)]
   exact hnt j hj
  ·refine(hF.put hok hn ho v (fun h=>absurd h hni)).congr (fun j=> ?_) (fun _ _=>rfl)
   by_cases hji:j=i
   ·subst hji;simp[hilt']
   ·rw[Go.getD_set_ne false (Ne.symm hji)];simp[hji]
  ·intro j hj
   by_cases hji:j=i
   ·subst hji;simp only[if_true];exact hg
   ·rw[Go.getD_set_ne false (Ne.symm hji)]at hj
    simp only[hji,if_false]
    exact hG _ _ _ _ (hGv j hj) hr
  ·have hli:listed[i]=false:=by
    cases hb':listed[i]with
    |false=>rfl
    |true=>exact absurd (by simp[hilt',hb']) hni
   have e1:(listed.setIfInBounds i true).toList=listed.toList.set i true:=by simp
   rw[e1]
   have hil:i<listed.toList.length:=by simpa using hilt'
   have hget:listed.toList[i]=false:=by simpa using hli
   rw[List.count_set hil]
   rw[hget]
   have e2:((false==false)=true):=rfl
   have e3: ¬((true==false)=true):=by decide
   rw[if_pos e2,if_neg e3]
   omega
theorem region_linX {id n:Nat}{a0:Act}{w W:World}(G:Nat→Value→World→Prop)(X:World→World→Prop)(Rd k0 st:Nat)(m:Nat)(hm:P.follows .mixedOrders=true)(hn:a0.tmps.size=n)(hok:linOk .any ops n=true)(hup:linUp .any ops=true)(ht:tailOk .any ops m=true)
  (hr0:Rand w Rd k0)(hrefl: ∀w,X w w)(htr: ∀a b c,X a b→X b c→X a c)(hG: ∀i v w w',G i v w→X w w'→G i v w')(hW:W=w.drew){k:Nat}(hsz:ops.size=k)(hmk:m≤k){ls:List (Nat×Option Tmp)}(hls:headD ops m=ls){ir:List Nat}(hir:List.range m=ir)
  (hs:StepsLX P .any ops G X Rd st (k0+st*k) a0 W ir){tl:Array Bool}(htl:tailListed m (k-m)=tl)(he: ∀w,X W w→Rand w Rd (k0+st*m)→ForV G w ls a0 (fun a=>wpAny P .any ops Q (k-m) tl a w)):
  (Code.region id ops true).wp P Q a0 w:=by
 subst hsz hls hir htl
 refine wp_region_any hm ?_
 have hW':W={w with drawn:=w.drawn+1}:=hW
 rw[←hW']
 refine lin_anyX hok hup ht hmk hn htr hG hs he ops.size (Array.replicate ops.size false) a0 W (fun _=>undef) (by simp) ?_ ?_ (hrefl _) ⟨0,by omega,by subst hW;exact hr0.drew⟩ ?_ ?_ ?_
 ·intro i o ho hl
  have hi:=(Array.getElem?_eq_some_iff.1 ho).1
  simp[hi]at hl
 ·intro i _
  by_cases hi:i<ops.size<;>simp[hi]
 ·refine FrI.nil.congr (fun i=> ?_) (fun _ _=>rfl)
  constructor
  ·exact False.elim
  ·intro h
   by_cases hi:i<ops.size
   ·simp[hi]at h
   ·simp[hi]at h
 ·intro i h
  by_cases hi:i<ops.size
  ·simp[hi]at h
  ·simp[hi]at h
 ·simp
end
def GMonoX (X:World→World→Prop)(g:Value→World→Prop):Prop:= ∀v w w',g v w→X w w'→g v w'
theorem glX_mono {X:World→World→Prop}{l:List (Value→World→Prop)}(h: ∀g∈l,GMonoX X g): ∀i v w w',gl l i v w→X w w'→gl l i v w':=by
 intro i v w w' hg hx
 unfold gl at*
 rw[List.getD_eq_getElem?_getD]at*
 cases hi:l[i]? with
 |none=>rw[hi]at hg;exact hg
 |some g=>
  rw[hi]at hg
  simp only[Option.getD_some]at*
  exact h g (List.mem_of_getElem? hi) _ _ _ hg hx
theorem gEqX_mono {X:World→World→Prop}(u:Value):GMonoX X (gEq u):=fun _ _ _ h _=>h
theorem gIntX_mono {X:World→World→Prop}:GMonoX X gInt:=fun _ _ _ h _=>h
theorem glX_nil {X:World→World→Prop}: ∀g∈([]:List (Value→World→Prop)),GMonoX X g:=fun _ h=>by cases h
theorem glX_cons {X:World→World→Prop}{g:Value→World→Prop}{l:List (Value→World→Prop)}(h:GMonoX X g)(k: ∀g∈l,GMonoX X g): ∀g'∈g::l,GMonoX X g':=fun g' h'=>by
 rcases List.mem_cons.1 h' with rfl|h'
 ·exact h
 ·exact k g' h'
end Go.Proofs.YtndcnflchkfaeaaDoor

