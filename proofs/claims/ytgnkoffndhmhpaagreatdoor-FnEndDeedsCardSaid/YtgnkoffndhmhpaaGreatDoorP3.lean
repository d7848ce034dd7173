/-
  Texts of this proof, packed (@packed).
-/
import Derived.Deep.AppendLies
import Derived.Deep.RegionLaw
import Derived.Laws.AppendOwn
import Derived.Maps.AppendAt
import Derived.RegionTactic
import Derived.Test.YtgnkoffndhmhpaaGreatDoorP1
import Derived.Test.YtgnkoffndhmhpaaGreatDoorP2
namespace Go.Proofs.YtgnkoffndhmhpaaGreatDoor
open Go Go.RowKit
set_option linter.unusedVariables false
section
variable {P:Program} {ops:Array Oper} {Q:Exit→Act→World→Prop} {md:Region.Mode} {G:Nat→Value→World→Prop} {Rd st:Nat} {X:World→World→Prop}
def qQ (P:Program)(ops:Array Oper)(G:Nat→Value→World→Prop)(X:World→World→Prop)(Rd st kk:Nat)(i:Nat)(o:Oper)(w:World)(a:Act):Prop:=
 ∀K':Act→World→Prop,(∀a' w'',(∃v,a'=a.put o.dst v∧G i v w''∧X w w''∧Rand w'' Rd (kk+st))→K' a' w'')→if Region.wanted o (yielded ops a.tmps)=true then Oper.wp P o a w K' (fun _ _ _=>False)else K' (a.put o.dst undef) w
def StepsLX (P:Program)(md:Region.Mode)(ops:Array Oper)(G:Nat→Value→World→Prop)(X:World→World→Prop)(Rd st:Nat)(top:Nat)(a0:Act)(W:World)(l:List Nat):Prop:=
 ∀i∈l,∀o,ops[i]? =some o→ ∀w kk,X W w→Rand w Rd kk→kk≤top→ForV G w (fC ops i) a0 (qQ P ops G X Rd st kk i o w)
theorem StepsLX.nil {top:Nat}{a0:Act}{W:World}:StepsLX P md ops G X Rd st top a0 W []:=fun _ h=>by cases h
theorem StepsLX.cons {top:Nat}{a0:Act}{W:World}{i:Nat}{o:Oper}{ps:List (Nat×Option Tmp)}{is:List Nat}(ho:ops[i]? =some o) (hp:fC ops i=ps)
  (h: ∀w kk,X W w→Rand w Rd kk→kk≤top→ForV G w ps a0 (qQ P ops G X Rd st kk i o w)) (hs:StepsLX P md ops G X Rd st top a0 W is):StepsLX P md ops G X Rd st top a0 W (i::is):=by
 intro j hj o' a w kk hw hr hk
 rcases List.mem_cons.1 hj with rfl|hj
 ·rw[ho]at a;cases a;rw[hp];exact h w kk hw hr hk
 ·exact hs j hj o' a w kk hw hr hk
theorem sCx {top:Nat}{a0:Act}{W:World}{i:Nat}{o:Oper}{is:List Nat}(ps:List (Nat×Option Tmp))(ho:ops[i]? =some o) (h: ∀w kk,X W w→Rand w Rd kk→kk≤top→ForV G w ps a0 (qQ P ops G X Rd st kk i o w)) (hs:StepsLX P md ops G X Rd st top a0 W is) (hp:fC ops i=ps:=by kernel_rfl):StepsLX P md ops G X Rd st top a0 W (i::is):=StepsLX.cons ho hp h hs
theorem aH8 {n:Nat}(hok:lX md ops n=true){a0:Act}{kk:Nat}(hn:a0.tmps.size=n){vals:Nat→Value}{w:World}{l:Nat→Prop}{a b:Act}{i:Nat}{o:Oper}(ho:ops[i]? =some o)
  (hpl: ∀e∈o.after,Region.binds md e=true→l e.on) (hni: ¬l i)
  (ha:FrI ops a0 vals l a) (hb:FrI ops a0 vals (fun j=>j∈(fC ops i).map (·.1)) b) (h:qQ P ops G X Rd st kk i o w b) {K:Act→World→Prop}
  (hK: ∀v w'',G i v w''→X w w''∧Rand w'' Rd (kk+st)→K (a.put o.dst v) w''):wpOp P ops Q i K a w:=by
 obtain⟨y,hs⟩:=kO hok
 obtain⟨h1,h2⟩:=hs i o ho
 have s: ∀cs x,o.op≠ .select cs x:=fun cs x=>Region.noSelect_spec y i o cs x ho
 have q: ∀t∈o.looksAt ops,a.tmps[t]? =b.tmps[t]? :=fun t ht=>by
  by_cases hd: ∃j,fL ops j=some t
  ·obtain⟨j,hj⟩:=hd
   obtain⟨e,he,ad,rfl⟩:=h2 t ht j hj
   rw[ha.mem _ _ hj (hpl e he ad),hb.mem _ _ hj (aAm ho hj ht)]
  ·rw[ha.out t fun j _ hj=>hd ⟨j,hj⟩,hb.out t fun j _ hj=>hd ⟨j,hj⟩]
 have z:execOp a.eval o=execOp b.eval o:=execOp_congr o s fun x hx=>by
  cases x with
  |tmp t=>
   have:=q t (List.mem_append_left _ (List.mem_filterMap.2 ⟨.tmp t,by simpa using hx,rfl⟩))
   simp only[Act.eval,Array.getD_eq_getD_getElem?,this]
  |_=>rfl
 have ab:Region.wanted o (yielded ops a.tmps)=Region.wanted o (yielded ops b.tmps):=by
  unfold Region.wanted
  cases hg:o.guard with
  |none=>rfl
  |some gw=>
   obtain⟨g,af⟩:=gw
   have:yielded ops a.tmps g=yielded ops b.tmps g:=by
    unfold yielded
    cases ht:(ops[g]?).bind (·.dst)with
    |none=>rfl
    |some t=>
     have:=q t (by simp[Oper.looksAt,hg,ht])
     simp[this]
   simp only[this]
 have k:=h (fun a' w'=> ∃v,a'=b.put o.dst v∧G i v w'∧X w w'∧Rand w' Rd (kk+st)) (fun a' w'' h=>h)
 have p: ∀u v:Value,b.put o.dst u=b.put o.dst v→a.put o.dst u=a.put o.dst v:=fun u v he=>by
  cases hd:o.dst with
  |none=>rfl
  |some d=>
   rw[hd]at he
   obtain⟨ae,-⟩:=h1 d hd
   have e1:(b.tmps.setIfInBounds d u)[d]? =(b.tmps.setIfInBounds d v)[d]? :=by
    have:=congrArg Act.tmps he
    simp only[Act.put]at this
    rw[this]
   have aa:d<b.tmps.size:=by rw[hb.size,hn];exact ae
   simp[aa]at e1
   rw[e1]
 refine wpOp_step ho fun K' hK'=> ?_
 rw[ab]
 split
 ·rename_i hw
  rw[if_pos hw]at k
  unfold Oper.wp at*
  rw[z]
  generalize (execOp b.eval o).run P w=r at*
  cases r with
  |ok m w'=>
   cases m<;>simp only[Oper.upon]at k⊢
   case value u=>
    obtain⟨v,he,hg,hr⟩:=k
    rw[p _ _ he];exact hK' _ _ (hK v _ hg hr)
   case skip=>
    obtain⟨v,he,hg,hr⟩:=k
    rw[p _ _ he];exact hK' _ _ (hK v _ hg hr)
   case defer d=>
    obtain⟨v,he,hg,hr⟩:=k
    have:=congrArg Act.defers he
    cases hd:o.dst<;>simp[Act.put,hd]at this
   case enter f args=>
    refine Calls.mono k fun e w'' he=> ?_
    cases e with
    |returned u=>
     obtain⟨v,he,hg,hr⟩:=he
     show K' _ _
     rw[p _ _ he];exact hK' _ _ (hK v _ hg hr)
    |panicked c=>exact he.elim
    |outgrown=>obtain⟨_,_,h⟩:=he;exact h.elim
   case row row args=>
    refine Rows.mono k fun u w'' he=> ?_
    obtain⟨v,he,hg,hr⟩:=he
    rw[p _ _ he];exact hK' _ _ (hK v _ hg hr)
  |halt x w'=>
   cases x<;>simp only[Oper.upon]at k
 ·rename_i hw
  rw[if_neg hw]at k
  obtain⟨v,he,hg,hr⟩:=k
  rw[p _ _ he];exact hK' _ _ (hK v _ hg hr)
theorem aIc {n m:Nat}(hok:lX md ops n=true)(hup:qC md ops=true)(ht:nG md ops m=true)(hm:m≤ops.size){a0:Act}(hn:a0.tmps.size=n){W:World}{k0:Nat}(htr: ∀a b c,X a b→X b c→X a c)(hG: ∀i v w w',G i v w→X w w'→G i v w')
  (hs:StepsLX P md ops G X Rd st (k0+st*ops.size) a0 W (List.range m))(he: ∀w,X W w→Rand w Rd (k0+st*m)→ForV G w (fT ops m) a0 (fun a=>wpAny P md ops Q (ops.size-m) (dX m (ops.size-m)) a w)):
  ∀(fuel:Nat) (listed:Array Bool) (a:Act) (w:World) (vals:Nat→Value),listed.size=ops.size→(∀i o,ops[i]? =some o→listed.getD i false=true→ ∀e∈o.after,Region.binds md e=true→listed.getD e.on false=true)→
   (∀i,m≤i→listed.getD i false=false)→
   X W w→(∃j,j+fuel=ops.size∧Rand w Rd (k0+st*j))→FrI ops a0 vals (fun j=>listed.getD j false=true) a→(∀i,listed.getD i false=true→G i (vals i) w)→
   List.count false listed.toList=fuel→wpAny P md ops Q fuel listed a w:=by
 intro fuel
 -- all of the head have come up
 have aa: ∀(fuel:Nat) (listed:Array Bool) (a:Act) (w:World) (vals:Nat→Value),listed.size=ops.size→(∀i,m≤i→listed.getD i false=false)→X W w→(∃j,j+fuel=ops.size∧Rand w Rd (k0+st*j))→FrI ops a0 vals (fun j=>listed.getD j false=true) a→(∀i,listed.getD i false=true→G i (vals i) w)→
   List.count false listed.toList=fuel→(∀i,i<m→listed.getD i false=true)→wpAny P md ops Q fuel listed a w:=by
  intro fuel listed a w vals r l hR s hF q k f
  have am:listed.toList=List.replicate m true++List.replicate (ops.size-m) false:=by
   apply List.ext_getElem?
   intro i
   rw[Array.getElem?_toList]
   by_cases him:i<m
   ·have h1:=f i him
    have h2:i<listed.size:=by omega
    simp[h2]at h1
    simp[h2,h1,List.getElem?_append,him]
   ·by_cases hio:i<listed.size
    ·have h1:=l i (by omega)
     simp[hio]at h1
     have h2:i-m<ops.size-m:=by omega
     rw[List.getElem?_append_right (by simp;omega)]
     simp[hio,h1,h2]
    ·rw[Array.getElem?_eq_none (by omega),List.getElem?_eq_none (by simp;omega)]
  have e2:listed=dX m (ops.size-m):=by
   unfold dX
   rw[←am]
  have e3:fuel=ops.size-m:=by
   rw[←k,e2]
   simp[dX,List.count_append,List.count_replicate]
  have h:=he w hR (by
   obtain⟨j,hj,hr⟩:=s
   have:j=m:=by omega
   rw[this]at hr;exact hr)
  obtain⟨b,hb,hq⟩:=ForV.get hok hn (G:=G) (vals:=vals) (fT ops m) (fun _=>False) a0 (fun p hp=>by
   unfold fT at hp
   obtain⟨i,hi,rfl⟩:=List.mem_map.1 hp
   have:=List.mem_range.1 hi
   exact⟨⟨ops[i]'(by omega),Array.getElem?_eq_getElem _⟩,rfl⟩) (fun p hp=>by
   unfold fT at hp
   obtain⟨i,hi,rfl⟩:=List.mem_map.1 hp
   exact q i (f i (List.mem_range.1 hi))) FrI.nil h
  have e1:a=b:=hF.eq (hb.congr (fun i=>by
   simp only[false_or,fT,List.map_map,List.mem_map,List.mem_range]
   constructor
   ·rintro⟨j,hj,rfl⟩;exact f j hj
   ·intro hl
    refine⟨i,?_,rfl⟩
    rcases Nat.lt_or_ge i m with h'|h'
    ·exact h'
    ·rw[l i h']at hl;cases hl) (fun _ _=>rfl))
  rw[e1,e2,e3];exact hq
 induction fuel with
 |zero=>
  intro listed a w vals r x l hR s hF q k
  refine aa 0 listed a w vals r l hR s hF q k fun i hi=> ?_
  have af:i<listed.size:=by omega
  cases hb:listed[i]with
  |true=>simp[hb,af]
  |false=>
   have ad:false∈listed.toList:=by
    rw[←hb];simp
   have:=List.count_pos_iff.2 ad
   omega
 |succ fuel ih=>
  intro listed a w vals r x l hR s hF q k
  by_cases f: ∀i,i<m→listed.getD i false=true
  ·exact aa _ listed a w vals r l hR s hF q k f
  refine⟨fun h=> ?_,fun i hi=> ?_⟩
  ·exact absurd (fun i hi=>wQ hup listed r h i (by omega)) f
  have him:i<m:=by
   rcases Nat.lt_or_ge i m with h|h
   ·exact h
   ·exact absurd (zO hup ht listed hm x l hi h) f
  obtain⟨h0,o,ho,t⟩:=mem_ready.1 hi
  have ab:i<ops.size:=(Array.getElem?_eq_some_iff.1 ho).1
  have g:i<listed.size:=by rw[r];exact ab
  have u: ¬listed.getD i false=true:=by
   intro h
   simp[g]at h h0
   rw[h0]at h;cases h
  obtain⟨jj,an,ai⟩:=s
  have y:=hs i (List.mem_range.2 him) o ho w (k0+st*jj) hR ai (Nat.add_le_add_left (Nat.mul_le_mul_left st (by omega)) k0)
  have ag: ∀p∈fC ops i,listed.getD p.1 false=true:=fun p hp=>by
   obtain⟨_,_,d,hd,hl⟩:=oI ho hp
   obtain⟨e,he,hbd,al⟩:=((kO hok).2 i o ho).2 d hl p.1 hd
   have h3:=t e he hbd
   rwa[al]at h3
  obtain⟨b,hb,aj⟩:=ForV.get hok hn (G:=G) (vals:=vals) (fC ops i) (fun _=>False) a0 (fun p hp=>by
   obtain⟨h1,h2,_⟩:=oI ho hp
   exact⟨⟨ops[p.1]'h1,Array.getElem?_eq_getElem _⟩,h2⟩) (fun p hp=>q _ (ag p hp)) FrI.nil y
  refine aH8 (vals:=vals) hok hn ho (fun e he hbd=>t e he hbd) u hF (hb.congr (fun j=>by simp) (fun _ _=>rfl)) aj fun v w'' hg ⟨hr,hr2⟩=> ?_
  refine ih (listed.setIfInBounds i true) _ w'' (fun j=>if j=i then v else vals j) (by simpa using r) ?_ ?_ (htr _ _ _ hR hr) ⟨jj+1,by omega,by rw[Nat.mul_succ,←Nat.add_assoc];exact hr2⟩ ?_ ?_ ?_
  ·intro j oj z hj e he hbd
   by_cases hji:j=i
   ·subst hji
    rw[ho]at z;cases z
    exact getD_set_true (t e he hbd)
   ·rw[getD_set_ne false (Ne.symm hji)]at hj
    exact getD_set_true (x j oj z hj e he hbd)
  ·intro j hj
   rw[getD_set_ne false (by omega)]
   exact l j hj
  ·refine(hF.put hok hn ho v (fun h=>absurd h u)).congr (fun j=> ?_) (fun _ _=>rfl)
   by_cases hji:j=i
   ·subst hji;simp[g]
   ·rw[getD_set_ne false (Ne.symm hji)];simp[hji]
  ·intro j hj
   by_cases hji:j=i
   ·subst hji;simp only[if_true];exact hg
   ·rw[getD_set_ne false (Ne.symm hji)]at hj
    simp only[hji,if_false]
    exact hG _ _ _ _ (q j hj) hr
  ·have ak:listed[i]=false:=by
    cases hb':listed[i]with
    |false=>rfl
    |true=>exact absurd (by simp[g,hb']) u
   have e1:(listed.setIfInBounds i true).toList=listed.toList.set i true:=by simp
   rw[e1]
   have ah:i<listed.toList.length:=by simpa using g
   have ae:listed.toList[i]=false:=by simpa using ak
   rw[List.count_set ah]
   rw[ae]
   have e2:((false==false)=true):=rfl
   have e3: ¬((true==false)=true):=by decide
   rw[if_pos e2,if_neg e3]
   omega
theorem sI {id n:Nat}{a0:Act}{w W:World}(G:Nat→Value→World→Prop)(X:World→World→Prop)(Rd k0 st:Nat)(m:Nat)(hm:P.follows .mixedOrders=true)(hn:a0.tmps.size=n)(hok:lX .any ops n=true)(hup:qC .any ops=true)(ht:nG .any ops m=true)
  (hr0:Rand w Rd k0)(hrefl: ∀w,X w w)(htr: ∀a b c,X a b→X b c→X a c)(hG: ∀i v w w',G i v w→X w w'→G i v w')(hW:W=w.drew){k:Nat}(hsz:ops.size=k)(hmk:m≤k){ls:List (Nat×Option Tmp)}(hls:fT ops m=ls){ir:List Nat}(hir:List.range m=ir)
  (hs:StepsLX P .any ops G X Rd st (k0+st*k) a0 W ir){tl:Array Bool}(htl:dX m (k-m)=tl)(he: ∀w,X W w→Rand w Rd (k0+st*m)→ForV G w ls a0 (fun a=>wpAny P .any ops Q (k-m) tl a w)):
  (Code.region id ops true).wp P Q a0 w:=by
 subst hsz hls hir htl
 refine wp_region_any hm ?_
 have d:W={w with drawn:=w.drawn+1}:=hW
 rw[←d]
 refine aIc hok hup ht hmk hn htr hG hs he ops.size (Array.replicate ops.size false) a0 W (fun _=>undef) (by simp) ?_ ?_ (hrefl _) ⟨0,by omega,by subst hW;exact hr0.drew⟩ ?_ ?_ ?_
 ·intro i o ho hl
  have hi:=(Array.getElem?_eq_some_iff.1 ho).1
  simp[hi]at hl
 ·intro i _
  by_cases hi:i<ops.size<;>simp[hi]
 ·refine FrI.nil.congr (fun i=> ?_) (fun _ _=>rfl)
  constructor
  ·exact False.elim
  ·intro h
   by_cases hi:i<ops.size
   ·simp[hi]at h
   ·simp[hi]at h
 ·intro i h
  by_cases hi:i<ops.size
  ·simp[hi]at h
  ·simp[hi]at h
 ·simp
end
def lQ (X:World→World→Prop)(g:Value→World→Prop):Prop:= ∀v w w',g v w→X w w'→g v w'
def aGo (n:Int):Value→World→Prop:=fun v _=> ∃x:Int,v= .int .i64 x∧0≤x∧x<n
def rN:Value→World→Prop:=fun v _=> ∃x:Int,v= .int .i64 x
theorem aBh {X:World→World→Prop}{l:List (Value→World→Prop)}(h: ∀g∈l,lQ X g): ∀i v w w',gl l i v w→X w w'→gl l i v w':=by
 intro i v w w' hg hx
 unfold gl at*
 rw[List.getD_eq_getElem?_getD]at*
 cases hi:l[i]? with
 |none=>rw[hi]at hg;exact hg
 |some g=>
  rw[hi]at hg
  simp only[Option.getD_some]at*
  exact h g (List.mem_of_getElem? hi) _ _ _ hg hx
theorem oN {X:World→World→Prop}(u:Value):lQ X (gEq u):=fun _ _ _ h _=>h
theorem pM {X:World→World→Prop}:lQ X rN:=fun _ _ _ h _=>h
theorem aE2 {X:World→World→Prop}:lQ X (fun _ _=>True):=fun _ _ _ h _=>h
def aJ5:Value→World→Prop:=fun v _=> ∃b:Bool,v= .bool b
theorem sQ {X:World→World→Prop}:lQ X aJ5:=fun _ _ _ h _=>h
theorem aEo {X:World→World→Prop}: ∀g∈([]:List (Value→World→Prop)),lQ X g:=fun _ h=>by cases h
theorem eQ {X:World→World→Prop}{g:Value→World→Prop}{l:List (Value→World→Prop)}(h:lQ X g)(k: ∀g∈l,lQ X g): ∀g'∈g::l,lQ X g':=fun g' h'=>by
 rcases List.mem_cons.1 h' with rfl|h'
 ·exact h
 ·exact k g' h'
section
variable {P:Program} {ops:Array Oper} {Q:Exit→Act→World→Prop} {md:Region.Mode} {G:Nat→Value→World→Prop} {Rd st:Nat}
abbrev oT (P:Program)(ops:Array Oper)(G:Nat→Value→World→Prop)(Rd st kk:Nat)(i:Nat)(o:Oper)(w:World)(a:Act):Prop:=qQ P ops G (ExtR Rd) Rd st kk i o w a
abbrev StepsLR (P:Program)(md:Region.Mode)(ops:Array Oper)(G:Nat→Value→World→Prop)(Rd st:Nat)(top:Nat)(a0:Act)(W:World)(l:List Nat):Prop:=StepsLX P md ops G (ExtR Rd) Rd st top a0 W l
theorem StepsLR.nil {top:Nat}{a0:Act}{W:World}:StepsLR P md ops G Rd st top a0 W []:=StepsLX.nil
theorem StepsLR.cons {top:Nat}{a0:Act}{W:World}{i:Nat}{o:Oper}{ps:List (Nat×Option Tmp)}{is:List Nat}(ho:ops[i]? =some o) (hp:fC ops i=ps) (h: ∀w kk,ExtR Rd W w→Rand w Rd kk→kk≤top→ForV G w ps a0 (oT P ops G Rd st kk i o w)) (hs:StepsLR P md ops G Rd st top a0 W is):StepsLR P md ops G Rd st top a0 W (i::is):=StepsLX.cons ho hp h hs
theorem sCr {top:Nat}{a0:Act}{W:World}{i:Nat}{o:Oper}{is:List Nat}(ps:List (Nat×Option Tmp))(ho:ops[i]? =some o) (h: ∀w kk,ExtR Rd W w→Rand w Rd kk→kk≤top→ForV G w ps a0 (oT P ops G Rd st kk i o w)) (hs:StepsLR P md ops G Rd st top a0 W is) (hp:fC ops i=ps:=by kernel_rfl):StepsLR P md ops G Rd st top a0 W (i::is):=StepsLR.cons ho hp h hs
theorem sSr0 {top:Nat}{a0:Act}{W:World}{i:Nat}{o:Oper}{is:List Nat}(ps:List (Nat×Option Tmp))(hs:StepsLR P md ops G Rd st top a0 W is)(ho:ops[i]? =some o:=by exact rfl) (hp:fC ops i=ps:=by kernel_rfl) (h: ∀w kk,ExtR Rd W w→Rand w Rd kk→kk≤top→ForV G w ps a0 (oT P ops G Rd st kk i o w):=by intro wi kk hx hr a K hK;go_simp;exact hK _ _ ⟨_,rfl,rfl,(fZ hr (Ext.refl _))⟩):StepsLR P md ops G Rd st top a0 W (i::is):=StepsLR.cons ho hp h hs
theorem sSr1 {top:Nat}{a0:Act}{W:World}{i:Nat}{o:Oper}{is:List Nat}(ps:List (Nat×Option Tmp))(hs:StepsLR P md ops G Rd st top a0 W is)(ho:ops[i]? =some o:=by exact rfl) (hp:fC ops i=ps:=by kernel_rfl) (h: ∀w kk,ExtR Rd W w→Rand w Rd kk→kk≤top→ForV G w ps a0 (oT P ops G Rd st kk i o w):=by intro wi kk hx hr a v0 h0 K hK;obtain rfl:=h0;go_simp;exact hK _ _ ⟨_,rfl,rfl,(fZ hr (Ext.refl _))⟩):StepsLR P md ops G Rd st top a0 W (i::is):=StepsLR.cons ho hp h hs
theorem sSr2 {top:Nat}{a0:Act}{W:World}{i:Nat}{o:Oper}{is:List Nat}(ps:List (Nat×Option Tmp))(hs:StepsLR P md ops G Rd st top a0 W is)(ho:ops[i]? =some o:=by exact rfl) (hp:fC ops i=ps:=by kernel_rfl) (h: ∀w kk,ExtR Rd W w→Rand w Rd kk→kk≤top→ForV G w ps a0 (oT P ops G Rd st kk i o w):=by intro wi kk hx hr a v0 h0 v1 h1 K hK;obtain rfl:=h0;obtain rfl:=h1;go_simp;exact hK _ _ ⟨_,rfl,rfl,(fZ hr (Ext.refl _))⟩):StepsLR P md ops G Rd st top a0 W (i::is):=StepsLR.cons ho hp h hs
theorem sSr3 {top:Nat}{a0:Act}{W:World}{i:Nat}{o:Oper}{is:List Nat}(ps:List (Nat×Option Tmp))(hs:StepsLR P md ops G Rd st top a0 W is)(ho:ops[i]? =some o:=by exact rfl) (hp:fC ops i=ps:=by kernel_rfl) (h: ∀w kk,ExtR Rd W w→Rand w Rd kk→kk≤top→ForV G w ps a0 (oT P ops G Rd st kk i o w):=by intro wi kk hx hr a v0 h0 v1 h1 v2 h2 K hK;obtain rfl:=h0;obtain rfl:=h1;obtain rfl:=h2;go_simp;exact hK _ _ ⟨_,rfl,rfl,(fZ hr (Ext.refl _))⟩):StepsLR P md ops G Rd st top a0 W (i::is):=StepsLR.cons ho hp h hs
theorem nI {id n:Nat}{a0:Act}{w W:World}(G:Nat→Value→World→Prop)(Rd k0 st:Nat)(m:Nat)(hm:P.follows .mixedOrders=true)(hn:a0.tmps.size=n)(hok:lX .any ops n=true)(hup:qC .any ops=true)(ht:nG .any ops m=true)
  (hr0:Rand w Rd k0)(hG: ∀i v w w',G i v w→ExtR Rd w w'→G i v w')(hW:W=w.drew){k:Nat}(hsz:ops.size=k)(hmk:m≤k){ls:List (Nat×Option Tmp)}(hls:fT ops m=ls){ir:List Nat}(hir:List.range m=ir)
  (hs:StepsLR P .any ops G Rd st (k0+st*k) a0 W ir){tl:Array Bool}(htl:dX m (k-m)=tl)(he: ∀w,ExtR Rd W w→Rand w Rd (k0+st*m)→ForV G w ls a0 (fun a=>wpAny P .any ops Q (k-m) tl a w)):
  (Code.region id ops true).wp P Q a0 w:=
 sI G (ExtR Rd) Rd k0 st m hm hn hok hup ht hr0 (fun w=>ExtR.refl Rd w) (fun _ _ _ h k=>h.trans k) hG hW hsz hmk hls hir hs htl he
end
abbrev lR (Rd:Nat)(g:Value→World→Prop):Prop:=lQ (ExtR Rd) g
theorem uO {Rd:Nat}{l:List (Value→World→Prop)}(h: ∀g∈l,lR Rd g): ∀i v w w',gl l i v w→ExtR Rd w w'→gl l i v w':=aBh h
theorem eA {Rd:Nat}(u:Value):lR Rd (gEq u):=oN u
theorem kT {Rd:Nat}(n:Int):lR Rd (aGo n):=fun _ _ _ h _=>h
theorem fJ {Rd:Nat}:lR Rd rN:=pM
theorem yW {Rd:Nat}: ∀g∈([]:List (Value→World→Prop)),lR Rd g:=aEo
theorem bU {Rd:Nat}{g:Value→World→Prop}{l:List (Value→World→Prop)}(h:lR Rd g)(k: ∀g∈l,lR Rd g): ∀g'∈g::l,lR Rd g':=eQ h k
theorem aE1 {Rd lo:Nat}(hl:Rd<lo)(t:TypeId)(cs:Array Value):lR Rd (aKx lo t cs):=fun _ _ _ ⟨g,h1,h2,h3⟩ hx=>⟨g,h1,h2,h3.grown hx (fun e=>by injection e with e;omega)⟩
theorem aE0 {Rd lo:Nat}(hl:Rd<lo)(t:TypeId)(cs:Array Value)(n:Nat):lR Rd (aKw lo t cs n):=fun _ _ _ ⟨g,h1,h2,h3⟩ hx=>⟨g,h1,h2,h3.grown hx (fun e=>by injection e with e;omega)⟩
theorem fZ {Rd st k:Nat}{w w':World}(hr:Rand w Rd k)(hx:Ext w w'):ExtR Rd w w'∧Rand w' Rd (k+st):=⟨hx.r Rd,(hr.ext hx).mono (Nat.le_add_right k st)⟩
end Go.Proofs.YtgnkoffndhmhpaaGreatDoor
namespace Go.Proofs.YtgnkoffndhmhpaaGreatDoor
open Go.RowKit
set_option linter.unusedVariables false
structure Chg (B T:Nat) (w w':World):Prop where
 os:w'.os=w.os
 tape:w'.tape=w.tape
 output:w'.output=w.output
 size:w.heap.size≤w'.heap.size
 block: ∀i,i<w.heap.size→(i<B∨T≤i)→w'.heap[i]? =w.heap[i]?
theorem Ext.chg {w w':World}(h:Ext w w')(B T:Nat):Chg B T w w':=⟨h.os,h.tape,h.output,h.size,fun i hi _=>h.block i hi⟩
theorem Chg.trans {B T:Nat}{a b c:World}(h:Chg B T a b)(k:Chg B T b c):Chg B T a c:=
 ⟨k.os.trans h.os,k.tape.trans h.tape,k.output.trans h.output,Nat.le_trans h.size k.size,fun i hi hh=>(k.block i (Nat.lt_of_lt_of_le hi h.size) hh).trans (h.block i hi hh)⟩
theorem Chg.mono {B T B' T':Nat}{a b:World}(h:Chg B T a b)(hB:B'≤B)(hT:T≤T'):Chg B' T' a b:=
 ⟨h.os,h.tape,h.output,h.size,fun i hi hh=>h.block i hi (by omega)⟩
theorem Chg.ext {B T:Nat}{a b c:World}(h:Ext a b)(k:Chg B T b c)(hB:a.heap.size≤B):Ext a c:=
 ⟨k.os.trans h.os,k.tape.trans h.tape,k.output.trans h.output,Nat.le_trans h.size k.size,fun i hi=>(k.block i (Nat.lt_of_lt_of_le hi h.size) (.inl (Nat.lt_of_lt_of_le hi hB))).trans (h.block i hi)⟩
theorem Chg.of_grown {B T:Nat}{w w':World}{row:Option Nat}(h:w.grownBy w' row)(hr: ∀g,row=some g→B≤g∧g<T):Chg B T w w':=
 ⟨h.os,h.tape,h.output,h.size,fun i hi hh=>h.block i hi (fun e=>by have:=hr i e.symm;omega)⟩
def OwnT (w:World)(B T:Nat)(e:TypeId)(sz:Nat)(p:OA)(n cap:Nat)(xs:List Value):Prop:=
 T≤w.heap.size∧((n=0∧cap=0∧xs= [])∨(w.ownsRow B e sz (.slice p n cap) n xs∧ ∀g,(Value.slice p n cap).ownBlock=some g→g<T))
theorem OwnT.of {w:World}{B:Nat}{e:TypeId}{sz n cap:Nat}{p:OA}{xs:List Value}(h:w.ownsRow B e sz (.slice p n cap) n xs):OwnT w B w.heap.size e sz p n cap xs:=
 ⟨Nat.le_refl _,.inr ⟨h,fun g hg=>(h.lt g hg).2⟩⟩
theorem OwnT.zero (w:World)(B:Nat)(e:TypeId)(sz:Nat)(p:OA):OwnT w B w.heap.size e sz p 0 0 []:=⟨Nat.le_refl _,.inl ⟨rfl,rfl,rfl⟩⟩
theorem OwnT.base {w:World}{B T:Nat}{e:TypeId}{sz n cap:Nat}{p:OA}{xs:List Value}(h:OwnT w B T e sz p n cap xs){B':Nat}(h1:B'≤B):OwnT w B' T e sz p n cap xs:=by
 refine⟨h.1,?_⟩
 rcases h.2 with h|⟨h,k⟩
 ·exact .inl h
 ·refine .inr ⟨⟨h.1,?_⟩,k⟩
  rcases h.2 with h2|⟨g,a,b,e1,hb,r⟩
  ·exact .inl h2
  ·exact .inr ⟨g,a,b,e1,Nat.le_trans h1 hb,r⟩
theorem OwnT.chg {w w':World}{B T B' T':Nat}{e:TypeId}{sz n cap:Nat}{p:OA}{xs:List Value}(h:OwnT w B T e sz p n cap xs)(hc:Chg B' T' w w')(hd:T≤B'∨T'≤B):OwnT w' B T e sz p n cap xs:=by
 refine⟨Nat.le_trans h.1 hc.size,?_⟩
 rcases h.2 with h2|⟨h2,k⟩
 ·exact .inl h2
 ·refine .inr ⟨⟨h2.1,?_⟩,k⟩
  rcases h2.2 with h3|⟨g,a,c,h1,hb,hg,hn,hm,hs,ht⟩
  ·exact .inl h3
  ·have b:(Value.slice p n cap).ownBlock=some g:=by rw[h1];rfl
   have h4:=k g b
   exact .inr ⟨g,a,c,h1,hb,(hc.block g (Array.getElem?_eq_some_iff.1 hg).1 (by omega)).trans hg,hn,hm,hs,ht⟩
theorem OwnT.ext {w w':World}{B T:Nat}{e:TypeId}{sz n cap:Nat}{p:OA}{xs:List Value}(h:OwnT w B T e sz p n cap xs)(hx:Ext w w'):OwnT w' B T e sz p n cap xs:=h.chg (hx.chg T T) (.inl (Nat.le_refl _))
theorem Sl.chg {w w':World}{B T n cap sz:Nat}{p:OA}{cs:List Value}(hs:Sl w p n cap sz cs)(h:Chg B T w w')(hp:0<n→ ∀b off,p=some ⟨b,off,none⟩→b<B∨T≤b):Sl w' p n cap sz cs:=
 ⟨hs.len,hs.le,hs.mx,fun h0=>by
  obtain⟨b,off,rfl,h1,h2⟩:=hs.rd h0
  exact⟨b,off,rfl,Nat.lt_of_lt_of_le h1 h.size,fun k hk=>(World.cell?_of_block (h.block b h1 (hp h0 b off rfl))).trans (h2 k hk)⟩⟩
structure ElT (P:Program) (t e:TypeId) (sz:Nat):Prop where
 ht:P.underlying t=some (.slice e)
 info: ∃i z,P.info? e=some i∧i.zero=some z∧i.size=sz∧i.bytes≤64∧z.cells.size=sz
 pos:0<sz
theorem lV {w:World}{base sz n:Nat}{e:TypeId}{v:Value}{xs:List Value}(h:w.ownsRow base e sz v n xs): ∃p cap,v= .slice p n cap:=by
 rcases h.2 with⟨h1,h2⟩|⟨g,cap,_,h1,_⟩
 ·exact⟨none,0,by rw[h1,h2]⟩
 ·exact⟨_,cap,h1⟩
theorem Ext.own {a b c:World}{base sz n:Nat}{e:TypeId}{v:Value}{xs:List Value}(h:Ext a b)(ho:b.ownsRow base e sz v n xs)(hg:b.grownBy c v.ownBlock)(hb:a.heap.size≤base):Ext a c:=
 h.grown hg (fun q hq=>Nat.le_trans hb (ho.lt q hq).1)
section
variable {P:Program} {w:World} {ops:Array Oper} {rest:List Oper} {o:Oper} {a:Act} {Q:Exit→Act→World→Prop}
theorem jD {α:Type}{t e:TypeId}{sz:Nat}(E:ElT P t e sz){f:α→List Value}(hf: ∀a,(f a).length=sz)(h1: ∀a,∀u∈f a,u.oneCell'=true)(hgd:o.guard=none)(s x:Operand)
  (ho:o.op= .call {callee:= .builtin .append,args:=#[s,x],argTypes:=#[t,t]})
  (base:Nat)(v:Value)(n:Nat)(xs:List α)(hs:a.eval s=v)(hown:w.ownsRow base e sz v n (xs.flatMap f))
  (b off:Nat)(y:α)(c:Nat)(hx:a.eval x= .slice (some ⟨b,off,none⟩) 1 c)(hc: ∀j u,(f y)[j]? =some u→w.cell? ⟨b,off+j,none⟩=some u)
  (hn:n≤1099511627776) (hbase:base≤w.heap.size)
  (h: ∀p' cap' w',w'.ownsRow base e sz (.slice p' (n+1) cap') (n+1) ((xs++ [y]).flatMap f)→w.grownBy w' v.ownBlock→wpList P ops Q rest (a.put o.dst (.slice p' (n+1) cap')) w'):wpList P ops Q (o::rest) a w:=by
 obtain⟨i,z,hi,hz,g,l,k⟩:=E.info
 refine wpList_append_own w hgd s x t ho base e i z sz i.bytes E.ht hi hz g rfl k E.pos v n _ hs hown ⟨b,off,none⟩ 1 c (f y) hx (by rw[hf];omega) (fun j u hu=>by rw[jV];exact hc j u hu) (h1 y) (by unfold maxLen;omega) ?_ hbase ?_
 ·have:(n+1)*i.bytes≤(n+1)*64:=Nat.mul_le_mul_left _ l
  omega
 ·intro v' w' h2 h3 _
  obtain⟨p,d,rfl⟩:=lV h2
  exact h p d w' (by rw[List.flatMap_append];simpa using h2) h3
theorem cI (E:ElT P 22 3 1)(hgd:o.guard=none)(s x:Operand)
  (ho:o.op= .call {callee:= .builtin .append,args:=#[s,x],argTypes:=#[22,22]})
  (base:Nat)(v:Value)(n:Nat)(xs:List Int)(hs:a.eval s=v)(hown:w.ownsRow base 3 1 v n (ivs xs))
  (b off:Nat)(y:Int)(c:Nat)(hx:a.eval x= .slice (some ⟨b,off,none⟩) 1 c)(hc:w.cell? ⟨b,off,none⟩=some (iv y))
  (hn:n≤1099511627776)(hbase:base≤w.heap.size)
  (h: ∀p' cap' w',w'.ownsRow base 3 1 (.slice p' (n+1) cap') (n+1) (ivs (xs++ [y]))→w.grownBy w' v.ownBlock→wpList P ops Q rest (a.put o.dst (.slice p' (n+1) cap')) w'):wpList P ops Q (o::rest) a w:=by
 refine jD E (f:=fun x=> [iv x]) (fun _=>rfl) (fun _ u hu=>by simp at hu;subst hu;rfl) hgd s x ho base v n xs hs (by rw[uG];exact hown) b off y c hx (fun j u hu=> ?_) hn hbase (fun p' cap' w' h2 h3=>h p' cap' w' (by rw[uG]at h2;exact h2) h3)
 match j,hu with
 |0,hu=>simp at hu;subst hu;exact hc
end
theorem eS:ElT Tryz.prog 22 3 1:=
 ⟨Tryz.underlying22,by
  obtain⟨i,hi,h0,h1,h2⟩:=info_parts (show(Tryz.prog.info? 3).map (fun i=>(i.zero,i.size,i.bytes))=some (some (.int .i64 0),1,8) by kernel_rfl)
  exact⟨i,_,hi,h0,h1,by omega,rfl⟩,Nat.one_pos⟩
end Go.Proofs.YtgnkoffndhmhpaaGreatDoor
namespace Go.Proofs.YtgnkoffndhmhpaaGreatDoor
open Go.RowKit
set_option linter.unusedVariables false
section
variable {P:Program} (w:World)
theorem vJ {t e ty:TypeId}{sz:Nat}(E:ElT P t e sz)(base:Nat)(v:Value)(n:Nat)(xs:List Value)(hown:w.ownsRow base e sz v n xs)(p:OA)(m c:Nat)(news:List Value)(hs:Sl w p m c sz news)
  (h1: ∀u∈news,u.oneCell'=true)(hn:n+m≤1099511627776)(hbase:base≤w.heap.size):
  ∃p' cap' w',(Builtin.append_ #[t,t] ty #[v,.slice p m c]).run P w= .ok (.slice p' (n+m) cap') w'∧w'.ownsRow base e sz (.slice p' (n+m) cap') (n+m) (xs++news)∧w.grownBy w' v.ownBlock:=by
 obtain⟨i,z,hi,hz,x,s,o⟩:=E.info
 cases p with
 |none=>
  have hm:m=0:=by
   rcases Nat.eq_zero_or_pos m with h0|h0
   ·exact h0
   ·obtain⟨b,l,h,_⟩:=hs.rd h0;cases h
  subst hm
  have a:news= []:=List.eq_nil_of_length_eq_zero (by simpa using hs.len)
  subst a
  obtain⟨q,f,rfl⟩:=lV hown
  refine⟨q,f,w,?_,by simpa using hown,World.grownBy.refl w _⟩
  rcases hown.2 with⟨h2,h3⟩|⟨g,cap',cur,h2,_,_,hnc,_⟩
  ·injection h2 with e1 e2 e3
   subst e1 e2 e3
   simp[Builtin.append_,run_underlying E.ht,sizeOf,typeInfo,hi,Builtin.lenOf,Builtin.firstCells]
  ·injection h2 with e1 e2 e3
   subst e1 e3
   simp[Builtin.append_,run_underlying E.ht,sizeOf,typeInfo,hi,Builtin.lenOf,Builtin.firstCells,hnc,storeCells]
 |some ad=>
  have d: ∀j u,news[j]? =some u→w.cell? (ad.add j)=some u:=by
   intro j u hu
   rcases Nat.eq_zero_or_pos m with h0|h0
   ·subst h0
    have a:news= []:=List.eq_nil_of_length_eq_zero (by simpa using hs.len)
    subst a
    simp at hu
   ·obtain⟨b,l,h,_,hc⟩:=hs.rd h0
    injection h with h
    subst h
    rw[jV,hc j (by rw[←hs.len];exact(List.getElem?_eq_some_iff.1 hu).1)]
    exact hu
  have r:(n+m)*i.bytes≤140737488355328:=by
   have:(n+m)*i.bytes≤(n+m)*64:=Nat.mul_le_mul_left _ s
   omega
  obtain⟨v',w',k,h2,h3,_,_⟩:=run_append_own_at (P:=P) w base t ty e i z sz i.bytes E.ht hi hz x rfl o E.pos v n xs hown ad m c news hs.len d h1 (by unfold maxLen;omega) r hbase
  obtain⟨q,f,rfl⟩:=lV h2
  exact⟨q,f,w',k,h2,h3⟩
theorem xJ {o:Oper}{a:Act}{K:Act→World→Prop}{Q:Exit→Act→World→Prop}{t e:TypeId}{sz:Nat}(E:ElT P t e sz)(s x:Operand)
  (ho:o.op= .call {callee:= .builtin .append,args:=#[s,x],argTypes:=#[t,t]})
  (base:Nat)(v:Value)(n:Nat)(xs:List Value)(hs:a.eval s=v)(hown:w.ownsRow base e sz v n xs)
  (p:OA)(m c:Nat)(news:List Value)(hx:a.eval x= .slice p m c)(hr:Sl w p m c sz news)(h1: ∀u∈news,u.oneCell'=true)
  (hn:n+m≤1099511627776)(hbase:base≤w.heap.size)
  (h: ∀p' cap' w',w'.ownsRow base e sz (.slice p' (n+m) cap') (n+m) (xs++news)→w.grownBy w' v.ownBlock→K (a.put o.dst (.slice p' (n+m) cap')) w'):o.wp P a w K Q:=by
 obtain⟨p',cap',w',b,h2,h3⟩:=vJ (ty:=o.type) w E base v n xs hown p m c news hr h1 hn hbase
 unfold Oper.wp execOp
 simp only[ho,resolve,invoke,builtin,Sem.run_bind,Sem.run_pure,Result.andThen_ok,List.map_toArray,List.map_cons,List.map_nil,hs,hx,b]
 exact h p' cap' w' h2 h3
theorem iS {ops:Array Oper}{o:Oper}{a:Act}{K:Act→World→Prop}{Q:Exit→Act→World→Prop}{E0:Prop}{t e:TypeId}{sz:Nat}(E:ElT P t e sz)(hgd:o.guard=none)(s x:Operand)
  (ho:o.op= .call {callee:= .builtin .append,args:=#[s,x],argTypes:=#[t,t]})
  (base:Nat)(v:Value)(n:Nat)(xs:List Value)(hs:a.eval s=v)(hown:w.ownsRow base e sz v n xs)
  (p:OA)(m c:Nat)(news:List Value)(hx:a.eval x= .slice p m c)(hr:Sl w p m c sz news)(h1: ∀u∈news,u.oneCell'=true)
  (hn:n+m≤1099511627776)(hbase:base≤w.heap.size)
  (h: ∀p' cap' w',w'.ownsRow base e sz (.slice p' (n+m) cap') (n+m) (xs++news)→w.grownBy w' v.ownBlock→K (a.put o.dst (.slice p' (n+m) cap')) w'):
  if Region.wanted o (yielded ops a.tmps)=true then Oper.wp P o a w K Q else E0:=by
 have hw:Region.wanted o (yielded ops a.tmps)=true:=by simp[Region.wanted,hgd]
 rw[if_pos hw]
 exact xJ w E s x ho base v n xs hs hown p m c news hx hr h1 hn hbase h
end
theorem oL (xs:List Int): ∀u∈ivs xs,u.oneCell'=true:=by
 intro u hu
 obtain⟨x,_,rfl⟩:=List.mem_map.1 hu
 rfl
end Go.Proofs.YtgnkoffndhmhpaaGreatDoor
