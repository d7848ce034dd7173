/-
  Texts of this proof, packed (@packed).
-/
import Derived.Test.YtbgkcehffiogcacGreatDoorQ3
namespace Go.Proofs.YtbgkcehffiogcacGreatDoor
open Go Go.RowKit
set_option linter.unusedSimpArgs false
set_option linter.unusedVariables false
section
structure Item where
 adr:Nat→Prop
 ok:World→Prop
structure Item.Good (it:Item) (B:Nat):Prop where
 lt: ∀w,it.ok w→ ∀g,it.adr g→B≤g∧g<w.heap.size
 stay: ∀w w',it.ok w→w.heap.size≤w'.heap.size→(∀g,it.adr g→w'.heap[g]? =w.heap[g]?)→it.ok w'
def aJ (B g:Nat)(t:TypeId)(cs:Array Value):Item:=⟨fun x=>g=x,fun w=>B≤g∧Blk w g t cs⟩
def aI (B:Nat)(e:TypeId)(sz:Nat)(q:OA)(n c:Nat)(xs:List Value):Item:=⟨fun x=>(Value.slice q n c).ownBlock=some x,fun w=>w.ownsRow B e sz (.slice q n c) n xs⟩
theorem aAv (B g:Nat)(t:TypeId)(cs:Array Value):(aJ B g t cs).Good B:=
 ⟨fun w h g' hg=>by obtain rfl:g=g':=hg;exact⟨h.1,h.2.lt⟩,fun w w' h _ hs=>⟨h.1,(hs g rfl).trans h.2⟩⟩
theorem sG {w w':World}{B n sz:Nat}{e:TypeId}{v:Value}{xs:List Value}(h:w.ownsRow B e sz v n xs)(hs: ∀g,v.ownBlock=some g→w'.heap[g]? =w.heap[g]?):w'.ownsRow B e sz v n xs:=by
 refine⟨h.1,?_⟩;rcases h.2 with h2|⟨g,a,b,h1,h3,h4,h5⟩
 ·exact .inl h2
 refine .inr ⟨g,a,b,h1,h3,?_,h5⟩;rw[hs g (by rw[h1];rfl)];exact h4
theorem jE (B:Nat)(e:TypeId)(sz:Nat)(q:OA)(n c:Nat)(xs:List Value):(aI B e sz q n c xs).Good B:=
 ⟨fun w h g hg=>aTo h g hg,fun w w' h _ hs=>sG h hs⟩
theorem dW {w:World}{B B' n sz:Nat}{e:TypeId}{v:Value}{xs:List Value}(h:w.ownsRow B e sz v n xs)(hb:B'≤B):w.ownsRow B' e sz v n xs:=by
 refine⟨h.1,?_⟩;rcases h.2 with h2|⟨g,a,b,e1,c,r⟩
 ·exact .inl h2
 exact .inr ⟨g,a,b,e1,aRz hb c,r⟩
structure RowD where
 q:Option Addr
 n:Nat
 c:Nat
 xs:List Value
abbrev RowD.v (r:RowD):Value:= .slice r.q r.n r.c
def aCw (B:Nat)(eo ei:TypeId)(sz:Nat)(q:OA)(c:Nat)(rows:List RowD)(w:World):Prop:=
 w.ownsRow B eo 1 (.slice q rows.length c) rows.length (rows.map RowD.v)∧ ∀r∈rows,w.ownsRow B ei sz r.v r.n r.xs
def iL (B:Nat)(ei:TypeId)(sz:Nat)(rows:List RowD):Item:=⟨fun x=> ∃r∈rows,r.v.ownBlock=some x,fun w=> ∀r∈rows,w.ownsRow B ei sz r.v r.n r.xs⟩
theorem wS (B:Nat)(ei:TypeId)(sz:Nat)(rows:List RowD):(iL B ei sz rows).Good B:=
 ⟨fun w h g ⟨r,hr,hg⟩=>aTo (h r hr) g hg,fun w w' h _ hs r hr=>sG (h r hr) (fun g hg=>hs g ⟨r,hr,hg⟩)⟩
def qW (B:Nat)(eo ei:TypeId)(sz:Nat)(q:OA)(c:Nat)(rows:List RowD):Item:=⟨fun x=>(Value.slice q rows.length c).ownBlock=some x∨ ∃r∈rows,r.v.ownBlock=some x,aCw B eo ei sz q c rows⟩
theorem aGq (B:Nat)(eo ei:TypeId)(sz:Nat)(q:OA)(c:Nat)(rows:List RowD):(qW B eo ei sz q c rows).Good B:=
 ⟨fun w h g hg=>by
  rcases hg with hg|⟨r,hr,hg⟩
  ·exact aTo h.1 g hg
  ·exact aTo (h.2 r hr) g hg,
  fun w w' h _ hs=>⟨sG h.1 (fun g hg=>hs g (.inl hg)),fun r hr=>sG (h.2 r hr) (fun g hg=>hs g (.inr ⟨r,hr,hg⟩))⟩⟩
structure Mem (w0 w:World) (L:List Item):Prop where
 ext:Ext w0 w
 good: ∀it∈L,it.Good w0.heap.size
 ok: ∀it∈L,it.ok w
 apart:L.Pairwise (fun a b=> ∀g,a.adr g→ ¬b.adr g)
section
variable {w0 w w':World} {L:List Item}
theorem Mem.start (w:World):Mem w w []:=⟨Ext.refl w,fun _ h=>absurd h (by simp),fun _ h=>absurd h (by simp),List.Pairwise.nil⟩
theorem Mem.of (h:Ext w0 w):Mem w0 w []:=⟨h,fun _ h=>absurd h (by simp),fun _ h=>absurd h (by simp),List.Pairwise.nil⟩
theorem Mem.adv (h:Mem w0 w L)(hx:Ext w w'):Mem w0 w' L:=
 ⟨h.ext.trans hx,h.good,fun it hi=>(h.good it hi).stay w w' (h.ok it hi) hx.sz (fun g hg=>hx.block g ((h.good it hi).lt w (h.ok it hi) g hg).2),h.apart⟩
theorem Mem.cons {it:Item}(h:Mem w0 w L)(hg:it.Good w0)(ho:it.ok w)(hn: ∀g,it.adr g→ ∀j∈L,¬j.adr g):Mem w0 w (it::L):=
 ⟨h.ext,fun x hx=>by
  rcases aS6.1 hx with rfl|hx
  ·exact hg
  ·exact h.good x hx,fun x hx=>by
  rcases aS6.1 hx with rfl|hx
  ·exact ho
  ·exact h.ok x hx,List.Pairwise.cons (fun j hj g hg'=>hn g hg' j hj) h.apart⟩
theorem Mem.new {it:Item}(h:Mem w0 w L)(hx:Ext w w')(hg:it.Good w0)(ho:it.ok w')(hn: ∀g,it.adr g→w.heap.size≤g):Mem w0 w' (it::L):=by refine(h.adv hx).cons hg ho (fun g hg' j hj e=> ?_);have h1:=hn g hg';have h2:=((h.good j hj).lt w (h.ok j hj) g e).2;omega
theorem Mem.blkOf {g:Nat}{t:TypeId}{cs:Array Value}(h:Mem w0 w L)(hx:Ext w w')(hb:Blk w' g t cs)(hg:w.heap.size≤g):Mem w0 w' (aJ w0 g t cs::L):=
 h.new hx (aAv _ _ _ _) ⟨aRz h.ext.sz hg,hb⟩ (fun g' hg'=>by obtain rfl:g=g':=hg';exact hg)
theorem Mem.blkNew (h:Mem w0 w L)(t:TypeId)(cs:Array Value)(g:Nat)(hg:w.heap.size=g):Mem w0 (w.alloc (.cells cs t)) (aJ w0 g t cs::L):=by subst hg;exact h.blkOf ((Ext.refl w).alloc _) (Blk.new _ _ _) (aRp _)
theorem Mem.ownNew {b n c sz:Nat}{e:TypeId}{q:OA}{xs:List Value}(h:Mem w0 w L)(hx:Ext w w')(ho:w'.ownsRow b e sz (.slice q n c) n xs)(hb:w.heap.size≤b):Mem w0 w' (aI w0 e sz q n c xs::L):=
 h.new hx (jE _ _ _ _ _ _ _) (dW ho (aRz h.ext.sz hb)) (fun g hg=>aRz hb (aTo ho g hg).1)
theorem Mem.blkOwn {b n c sz g:Nat}{e t:TypeId}{q:OA}{xs:List Value}{cs:Array Value}(h:Mem w0 w L)(hx:Ext w w')(hb:Blk w' g t cs)(hg:w.heap.size≤g)(ho:w'.ownsRow b e sz (.slice q n c) n xs)(d:w.heap.size≤b)(ht:e≠t):Mem w0 w' (aI w0 e sz q n c xs::aJ w0 g t cs::L):=by
 refine(h.blkOf hx hb hg).cons (jE _ _ _ _ _ _ _) (dW ho (aRz h.ext.sz d)) (fun g' hg' j hj e'=> ?_);replace hg':(Value.slice q n c).ownBlock=some g':=hg';have h1:=(aTo ho g' hg').1;rcases aS6.1 hj with rfl|hj
 ·obtain rfl:g=g':=e';rcases ho.2 with⟨h2,_⟩|⟨g2,cap',cur,h2,_,h3,_⟩
  ·rw[h2]at hg';cases hg'
  rw[h2]at hg';injection hg' with hg';have a:g2=g:=hg';subst a;unfold Blk at hb;rw[hb]at h3;injection h3 with h3;injection h3 with _ h3;exact ht h3.symm
 have h2:=((h.good j hj).lt w (h.ok j hj) g' e').2;omega
theorem Mem.call {n c sz:Nat}{e:TypeId}{q:OA}{xs:List Value}(h:Mem w0 w L)(hx:Ext w w')(ho:w'.ownsRow w e sz (.slice q n c) n xs):Mem w0 w' (aI w0 e sz q n c xs::L):=h.ownNew hx ho (aRp _)
theorem Mem.nestNew {b c sz:Nat}{eo ei:TypeId}{q:OA}{rows:List RowD}(h:Mem w0 w L)(hx:Ext w w')(ho:aCw b eo ei sz q c rows w')(hb:w.heap.size≤b):Mem w0 w' (qW w0 eo ei sz q c rows::L):=
 h.new hx (aGq _ _ _ _ _ _ _) ⟨dW ho.1 (aRz h.ext.sz hb),fun r hr=>dW (ho.2 r hr) (aRz h.ext.sz hb)⟩ (fun g hg=>by
  rcases hg with hg|⟨r,hr,hg⟩
  ·exact aRz hb (aTo ho.1 g hg).1
  ·exact aRz hb (aTo (ho.2 r hr) g hg).1)
theorem Mem.made0 (h:Mem w0 w L)(e:TypeId)(sz g:Nat)(hg:w.heap.size=g):Mem w0 (w.alloc (.cells #[] e)) (aI w0 e sz (some ⟨g,0,none⟩) 0 0 []::L):=by subst hg;exact h.ownNew ((Ext.refl w).alloc _) (aSw (base:=w.heap.size) w #[] 0 (aRp _) (by simp[maxLen]) (by simp)) (aRp _)
theorem aP9 {w:World}{e:TypeId}{sz g n:Nat}{cs:Array Value}{B:Nat}(h:Blk w g e cs)(hn:cs.size=n*sz)(hm:n≤maxLen)(hb:B≤g):w.ownsRow B e sz (.slice (some ⟨g,0,none⟩) n n) n cs.toList:=
 ⟨by simpa using hn,.inr ⟨g,n,cs,rfl,hb,h,aRp _,hm,hn,by rw[aRu (by simp;omega)]⟩⟩
theorem Mem.lit (h:Mem w0 w L)(e:TypeId)(sz n g:Nat)(cs:Array Value)(hg:w.heap.size=g)(hn:cs.size=n*sz)(hm:n≤maxLen):Mem w0 (w.alloc (.cells cs e)) (aI w0 e sz (some ⟨g,0,none⟩) n n cs.toList::L):=by subst hg;exact h.ownNew ((Ext.refl w).alloc _) (aP9 (Blk.new w e cs) hn hm (aRp _)) (aRp _)
theorem Mem.blk {i g B:Nat}{t:TypeId}{cs:Array Value}(h:Mem w0 w L)(hi:L[i]? =some (aJ B g t cs)):Blk w g t cs:=(h.ok _ (aRs hi)).2
theorem Mem.own {i B n c sz:Nat}{e:TypeId}{q:OA}{xs:List Value}(h:Mem w0 w L)(hi:L[i]? =some (aI B e sz q n c xs)):w.ownsRow B e sz (.slice q n c) n xs:=h.ok _ (aRs hi)
theorem Mem.nest {i B c sz:Nat}{eo ei:TypeId}{q:OA}{rows:List RowD}(h:Mem w0 w L)(hi:L[i]? =some (qW B eo ei sz q c rows)):aCw B eo ei sz q c rows w:=h.ok _ (aRs hi)
theorem Mem.sl {i B n c sz:Nat}{e:TypeId}{q:OA}{xs:List Value}(h:Mem w0 w L)(hi:L[i]? =some (aI B e sz q n c xs)):Sl w q n c sz xs:=Sl.own (h.own hi)
theorem Mem.lt {i g:Nat}{it:Item}(h:Mem w0 w L)(hi:L[i]? =some it) (hg:it.adr g):w0.heap.size≤g∧g<w.heap.size:=(h.good _ (aRs hi)).lt w (h.ok _ (aRs hi)) g hg
theorem Mem.ne {i j g g':Nat}{a b:Item}(h:Mem w0 w L)(c:i<j)(hi:L[i]? =some a) (hj:L[j]? =some b) (ha:a.adr g) (hb:b.adr g'):g≠g':=by rintro rfl;obtain⟨d,rfl⟩:=aRt.1 hi;obtain⟨e,rfl⟩:=aRt.1 hj;exact List.pairwise_iff_getElem.1 h.apart i j d e c g ha hb
theorem Mem.sub {L':List Item}(h:Mem w0 w L)(hs:L'.Sublist L):Mem w0 w L':=
 ⟨h.ext,fun x hx=>h.good x (hs.subset hx),fun x hx=>h.ok x (hs.subset hx),h.apart.sublist hs⟩
theorem Mem.far {i j:Nat}{a b:Item}(h:Mem w0 w L)(d:i≠j)(hi:L[i]? =some a) (hj:L[j]? =some b): ∀g,a.adr g→ ¬b.adr g:=by
 intro g ha hb;rcases Nat.lt_or_gt_of_ne d with e|c
 ·exact h.ne e hi hj ha hb rfl
 exact h.ne c hj hi hb ha rfl
theorem Mem.pick {L':List Item}(h:Mem w0 w L)(is:List Nat)(hd:is.Nodup)(hl:is.map (fun i=>L[i]?)=L'.map some):Mem w0 w L':=by
 have f:is.length=L'.length:=by have:=congrArg List.length hl;simpa using this
 have d: ∀k,(hk:k<L'.length)→L[is[k]'(by omega)]? =some L'[k]:=by intro k hk;have:=congrArg (fun z=>z[k]?) hl;simp only[aS9]at this;rw[aRq (by omega:k<is.length),aRq hk]at this;simpa using this
 have c: ∀x∈L',x∈L:=fun x hx=>by obtain⟨k,hk,rfl⟩:=aT5 hx;exact aRs (d k hk)
 refine⟨h.ext,fun x hx=>h.good x (c x hx),fun x hx=>h.ok x (c x hx),List.pairwise_iff_getElem.2 fun a b ha hb hab=> ?_⟩
 exact h.far (fun e=>by
  have:=(List.getElem_inj hd).1 e
  omega) (d a ha) (d b hb)
theorem Mem.join {a b it:Item}(h:Mem w0 w (a::b::L))(hg:it.Good w0)(ho:it.ok w)(hn: ∀g,it.adr g→a.adr g∨b.adr g):Mem w0 w (it::L):=by
 have hp:=List.pairwise_cons.1 h.apart;have c:=List.pairwise_cons.1 hp.2;have h2:Mem w0 w L:=⟨h.ext,fun x hx=>h.good x (by simp[hx]),fun x hx=>h.ok x (by simp[hx]),c.2⟩
 refine h2.cons hg ho (fun g hg' j hj=> ?_);rcases hn g hg' with h3|h3
 ·exact hp.1 j (by simp[hj]) g h3
 exact c.1 j hj g h3
theorem Mem.rowsAdd {B sz c n:Nat}{e:TypeId}{q:OA}{xs:List Value}{rows:List RowD}(hB:B=w0.heap.size)(h:Mem w0 w (aI B e sz q n c xs::iL B e sz rows::L)):Mem w0 w (iL B e sz (rows++ [⟨q,n,c,xs⟩])::L):=by
 subst hB;refine h.join (wS _ _ _ _) (fun r hr=> ?_) (fun g ⟨r,hr,hg⟩=> ?_)
 ·rcases aSa.1 hr with hr|hr
  ·exact h.ok (iL w0 e sz rows) (by simp) r hr
  obtain rfl:=aSc.1 hr;exact h.own (i:=0) rfl
 rcases aSa.1 hr with hr|hr
 ·exact .inr ⟨r,hr,hg⟩
 obtain rfl:=aSc.1 hr;exact .inl hg
theorem Mem.rows0 {B sz:Nat}{e:TypeId}(hB:B=w0.heap.size)(h:Mem w0 w L):Mem w0 w (iL B e sz []::L):=by subst hB;exact h.cons (wS _ _ _ _) (fun r hr=>by cases hr) (fun g ⟨r,hr,hg⟩=>by cases hr)
theorem Mem.turn {i:Nat}{it d:Item}{row:Option Nat}(h:Mem w0 w L)(hi:L[i]? =some it) (hr: ∀g,row=some g→it.adr g) (hg:d.Good w0) (c:w.grownBy w' row) (ho:d.ok w') (o: ∀g,d.adr g→it.adr g∨g=w.heap.size):Mem w0 w' (L.set i d):=by
 obtain⟨q,p⟩:=aRt.1 hi;have f:=aRs hi;have m: ∀j,(hj:j<L.length)→j≠i→ ∀g,L[j].adr g→ ¬it.adr g:=by intro j hj l g hg' e;exact h.far l (aRq hj) hi g hg' e
 have hE:Ext w0 w':=h.ext.grown c (fun k hk=>((h.good it f).lt w (h.ok it f) k (hr k hk)).1);refine⟨hE,fun x hx=> ?_,fun x hx=> ?_,?_⟩
 ·rcases aT1 hx with hx|rfl
  ·exact h.good x hx
  exact hg
 ·obtain⟨j,hj,rfl⟩:=aT5 hx;rw[aTb]at hj;by_cases hji:i=j
  ·subst hji;rw[List.getElem_set_self];exact ho
  rw[List.getElem_set_ne hji];have hm:=List.getElem_mem hj;refine(h.good _ hm).stay w w' (h.ok _ hm) c.size (fun g hg'=> ?_);exact c.block g ((h.good _ hm).lt w (h.ok _ hm) g hg').2 (fun e=>m j hj (Ne.symm hji) g hg' (hr g e.symm))
 refine List.pairwise_iff_getElem.2 fun a b ha hb hab g hga hgb=> ?_
 rw[aTb]at ha hb;have n: ∀j,(hj:j<L.length)→j≠i→ ∀g,L[j].adr g→ ¬d.adr g:=by
  intro j hj l g hg' e;have hm:=List.getElem_mem hj;rcases o g e with h1|h1
  ·exact m j hj l g hg' h1
  have:=((h.good _ hm).lt w (h.ok _ hm) g hg').2;omega
 by_cases hai:i=a
 ·subst hai;rw[List.getElem_set_self]at hga;rw[List.getElem_set_ne (by omega)]at hgb;exact n b hb (by omega) g hgb hga
 rw[List.getElem_set_ne hai]at hga;by_cases hbi:i=b
 ·subst hbi;rw[List.getElem_set_self]at hgb;exact n a ha (by omega) g hga hgb
 rw[List.getElem_set_ne hbi]at hgb;exact List.pairwise_iff_getElem.1 h.apart a b ha hb hab g hga hgb
theorem aAg (w:World)(g k:Nat)(u:Value):w.grownBy (w.setCell ⟨g,k,none⟩ u) (some g):=
 ((ExtR.refl g w).setCell (p:=⟨g,k,none⟩) (.inl rfl) u:ExtR g w _)
theorem Mem.store {i g B:Nat}{t:TypeId}{cs:Array Value}(h:Mem w0 w L)(hi:L[i]? =some (aJ B g t cs)) (k:Nat) (u:Value):Mem w0 (w.setCell ⟨g,k,none⟩ u) (L.set i (aJ w0 g t (cs.setIfInBounds k u))):=
 h.turn hi (fun g' e=>by injection e) (aAv _ _ _ _) (aAg w g k u) ⟨(h.lt hi rfl).1,(h.blk hi).set k u⟩ (fun g' e=> .inl e)
theorem Mem.ostore {i g n c sz:Nat}{e:TypeId}{xs:List Value}(h:Mem w0 w L)(hi:L[i]? =some (aI w0 e sz (some ⟨g,0,none⟩) n c xs)) (k:Nat) (u:Value):Mem w0 (w.setCell ⟨g,k,none⟩ u) (L.set i (aI w0 e sz (some ⟨g,0,none⟩) n c (xs.set k u))):=
 h.turn hi (fun g' e=>e) (jE _ _ _ _ _ _ _) (aAg w g k u) ((h.own hi).stored k u).1 (fun g' e=> .inl e)
theorem Mem.app {i n c sz n' c':Nat}{e:TypeId}{q q':OA}{xs a:List Value}(h:Mem w0 w L)(hi:L[i]? =some (aI w0 e sz q n c xs)) (ho:w'.ownsRow w0 e sz (.slice q' n' c') n' a) (hg:w.grownBy w' (Value.slice q n c).ownBlock)
  (b:(Value.slice q' n' c').ownBlock=(Value.slice q n c).ownBlock∨(Value.slice q' n' c').ownBlock=some w):Mem w0 w' (L.set i (aI w0 e sz q' n' c' a)):=
 h.turn hi (fun g e=>e) (jE _ _ _ _ _ _ _) hg ho (fun g e=>by
  have e':(Value.slice q' n' c').ownBlock=some g:=e;rcases b with h1|h1
  ·exact .inl (by show(Value.slice q n c).ownBlock=some g;rw[←h1];exact e')
  ·rw[h1]at e';injection e' with e';exact .inr e'.symm)
theorem Mem.some {i n c sz B:Nat}{e:TypeId}{q:OA}{xs:List Value}(h:Mem w0 w L)(hi:L[i]? =Option.some (aI B e sz q n c xs)) (hn:0<n): ∃g,q=Option.some ⟨g,0,none⟩∧w0.heap.size≤g∧g<w.heap.size:=by
 rcases(h.own hi).2 with⟨h1,h2⟩|⟨g,cap',cur,h1,h3⟩
 ·omega
 injection h1 with e1 e2 e3;subst e1;have:=h.lt hi (g:=g) rfl;exact⟨g,rfl,this.1,this.2⟩
end
section
variable {P:Program} {w0 w:World} {L:List Item} {ops:Array Oper} {rest:List Oper} {o:Oper} {a:Act} {Q:Exit→Act→World→Prop}
theorem aDr (w:World){t e ty:TypeId}{sz:Nat}(E:ElT P t e sz){i:Nat}{q:OA}{n c:Nat}{xs:List Value}(h:Mem w0 w L)(hi:L[i]? =some (aI w0 e sz q n c xs))
  (p:OA) (m d:Nat) (news:List Value) (hs:Sl w p m d sz news) (h1: ∀u∈news,u.oneCell'=true) (hn:n+m≤1099511627776):
  ∃q' c' w',(Builtin.append_ #[t,t] ty #[.slice q n c,.slice p m d]).run P w= .ok (.slice q' (n+m) c') w'∧Mem w0 w' (L.set i (aI w0 e sz q' (n+m) c' (xs++news))):=by
 obtain⟨l,z,a,hz,aa,v,ab⟩:=E.info;have f:=h.own hi;have r: ∀ad:Addr,p=some ad∨m=0→(∀j u,news[j]? =some u→w.cell? (ad.add j)=some u)→ ∃q' c' w',(Builtin.append_ #[t,t] ty #[.slice q n c,.slice (some ad) m d]).run P w= .ok (.slice q' (n+m) c') w'∧Mem w0 w' (L.set i (aI w0 e sz q' (n+m) c' (xs++news))):=by
  intro ad _ k;have s:(n+m)*l.bytes≤140737488355328:=by have:(n+m)*l.bytes≤(n+m)*64:=Nat.mul_le_mul_left _ v;omega
  obtain⟨v',w',o,h2,h3,_,h5⟩:=run_append_own_at (P:=P) w w0 t ty e l z sz l.bytes E.ht a hz aa rfl ab E.pos (.slice q n c) n xs f ad m d news hs.len k h1 (by unfold maxLen;omega) s h.ext.sz;obtain⟨q',c',rfl⟩:=oZ h2;exact⟨q',c',w',o,h.app hi h2 h3 h5⟩
 by_cases hm:0<m
 ·obtain⟨b,ae,rfl,hb,hc⟩:=hs.rd hm;refine r ⟨b,ae,none⟩ (.inl rfl) (fun j u hu=> ?_);have hj:j<m*sz:=by rw[←hs.len];exact(aRt.1 hu).1
  rw[mH,hc j hj];exact hu
 have x:m=0:=by omega
 subst x;have y:news= []:=List.length_eq_zero_iff.1 (by rw[hs.len];omega);subst y;cases p with
 |some ad=>exact r ad (.inl rfl) (fun j u hu=>by simp at hu)
 |none=>
  refine⟨q,c,w,?_,h.app hi (by simpa using f) (aSv w _) (.inl rfl)⟩;rcases f.2 with⟨h2,h3⟩|⟨g,cap',cur,h2,_,_,hnc,_⟩
  ·injection h2 with e1 e2 e3;subst e1 e2 e3;simp[Builtin.append_,run_underlying E.ht,sizeOf,typeInfo,a,Builtin.lenOf,Builtin.firstCells]
  injection h2 with e1 e2 e3;subst e1 e3;simp[Builtin.append_,run_underlying E.ht,sizeOf,typeInfo,a,Builtin.lenOf,Builtin.firstCells,hnc,storeCells]
theorem aI2 {K:Act→World→Prop}{t e:TypeId}{sz:Nat}(E:ElT P t e sz)(s x:Operand)
  (ho:o.op= .call {callee:= .builtin .append,args:=#[s,x],argTypes:=#[t,t]})
  (h:Mem w0 w L)(i:Nat){q:OA}{n c:Nat}{xs:List Value}(hi:L[i]? =some (aI w0 e sz q n c xs)) (hs:a.eval s= .slice q n c)
  {p:OA} {m d:Nat} (news:List Value) (hx:a.eval x= .slice p m d) (hr:Sl w p m d sz news) (h1: ∀u∈news,u.oneCell'=true) (hn:n+m≤1099511627776)
  (hk: ∀q' c' w',Mem w0 w' (L.set i (aI w0 e sz q' (n+m) c' (xs++news)))→K (a.put o.dst (.slice q' (n+m) c')) w'):o.wp P a w K Q:=by
 obtain⟨q',c',w',b,h2⟩:=aDr (P:=P) (ty:=o.type) w E h hi p m d news hr h1 hn;unfold Oper.wp execOp;simp only[ho,resolve,invoke,builtin,Sem.run_bind,Sem.run_pure,Result.andThen_ok,List.map_toArray,aTn,List.map_nil,hs,hx,b];exact hk q' c' w' h2
theorem cG {t e:TypeId}{sz:Nat}(E:ElT P t e sz)(b:o.guard=none)(s x:Operand)
  (ho:o.op= .call {callee:= .builtin .append,args:=#[s,x],argTypes:=#[t,t]})
  (h:Mem w0 w L)(i:Nat){q:OA}{n c:Nat}{xs:List Value}(hi:L[i]? =some (aI w0 e sz q n c xs)) (hs:a.eval s= .slice q n c)
  {p:OA} {m d:Nat} (news:List Value) (hx:a.eval x= .slice p m d) (hr:Sl w p m d sz news) (h1: ∀u∈news,u.oneCell'=true) (hn:n+m≤1099511627776)
  (hk: ∀q' c' w',Mem w0 w' (L.set i (aI w0 e sz q' (n+m) c' (xs++news)))→wpList P ops Q rest (a.put o.dst (.slice q' (n+m) c')) w'):wpList P ops Q (o::rest) a w:=
 wpList_plain b fun _ hK=>aI2 E s x ho h i hi hs news hx hr h1 hn fun q' c' w' h2=>hK _ _ (hk q' c' w' h2)
theorem gH {K:Act→World→Prop}{E0:Prop}{t e:TypeId}{sz:Nat}(E:ElT P t e sz)(b:o.guard=none)(s x:Operand)
  (ho:o.op= .call {callee:= .builtin .append,args:=#[s,x],argTypes:=#[t,t]})
  (h:Mem w0 w L)(i:Nat){q:OA}{n c:Nat}{xs:List Value}(hi:L[i]? =some (aI w0 e sz q n c xs)) (hs:a.eval s= .slice q n c)
  {p:OA} {m d:Nat} (news:List Value) (hx:a.eval x= .slice p m d) (hr:Sl w p m d sz news) (h1: ∀u∈news,u.oneCell'=true) (hn:n+m≤1099511627776)
  (hk: ∀q' c' w',Mem w0 w' (L.set i (aI w0 e sz q' (n+m) c' (xs++news)))→K (a.put o.dst (.slice q' (n+m) c')) w'):
  if Region.wanted o (yielded ops a.tmps)=true then Oper.wp P o a w K Q else E0:=by
 have hw:Region.wanted o (yielded ops a.tmps)=true:=by simp[Region.wanted,b]
 rw[if_pos hw];exact aI2 E s x ho h i hi hs news hx hr h1 hn hk
end
theorem eJ (w:World)(cs:Array Value)(t:TypeId)(n sz g:Nat)(hg:w.heap.size=g)(h:cs.size=n*sz)(hn:n≤maxLen):Sl (w.alloc (.cells cs t)) (some ⟨g,0,none⟩) n n sz cs.toList:=by subst hg;exact⟨by simpa using h,aRp _,hn,fun _=>⟨w.heap.size,0,rfl,by simp,fun k hk=>by rw[aSs,(Blk.new w t cs).cell k];simp⟩⟩
theorem Mem.st {w0 w:World}{L L':List Item}{g B:Nat}{t:TypeId}{cs a:Array Value}(h:Mem w0 w L)(i k:Nat)(u:Value)(hi:L[i]? =Option.some (aJ B g t cs):=by exact rfl) (hc:cs.setIfInBounds k u=a:=by first|(simp only[aS5,aS1,aS2];exact rfl)|exact rfl) (hl:L.set i (aJ w0 g t a)=L':=by first|(simp only[aS1,aS2];exact rfl)|exact rfl):Mem w0 (w.setCell ⟨g,k,none⟩ u) L':=by subst hc hl;exact h.store hi k u
theorem Mem.hi {w0 w:World}{L:List Item}(h:Mem w0 w L)(i:Nat){g:Nat}{it:Item}(hi:L[i]? =Option.some it:=by exact rfl) (hg:it.adr g:=by exact rfl):g<w.heap.size:=(h.lt hi hg).2
theorem Mem.b1 (w:World){t0:TypeId}{c0:Array Value}:Mem w (w.alloc (.cells c0 t0)) [aJ w w t0 c0]:=(Mem.start w).blkNew t0 c0 w (by simp)
theorem Mem.b2 (w:World){t0 t1:TypeId}{c0 c1:Array Value}:Mem w ((w.alloc (.cells c0 t0)).alloc (.cells c1 t1)) [aJ w (w.heap.size+1) t1 c1,aJ w w t0 c0]:=((Mem.start w).blkNew t0 c0 w (by simp)).blkNew t1 c1 (w.heap.size+1) (by simp)
theorem Mem.b3 (w:World){t0 t1 t2:TypeId}{c0 c1 c2:Array Value}:Mem w (((w.alloc (.cells c0 t0)).alloc (.cells c1 t1)).alloc (.cells c2 t2)) [aJ w (w.heap.size+1+1) t2 c2,aJ w (w.heap.size+1) t1 c1,aJ w w t0 c0]:=(((Mem.start w).blkNew t0 c0 w (by simp)).blkNew t1 c1 (w.heap.size+1) (by simp)).blkNew t2 c2 (w.heap.size+1+1) (by simp)
theorem Mem.b3t (w:World){t0 t1 t2:TypeId}{c0 c1 c2:Array Value}:Mem w (((w.alloc (.cells c0 t0)).alloc (.cells c1 t1)).alloc (.cells c2 t2)) [aJ w (w.heap.size+2) t2 c2,aJ w (w.heap.size+1) t1 c1,aJ w w t0 c0]:=(((Mem.start w).blkNew t0 c0 w (by simp)).blkNew t1 c1 (w.heap.size+1) (by simp)).blkNew t2 c2 (w.heap.size+2) (by simp)
theorem Mem.b4 (w:World){t0 t1 t2 t3:TypeId}{c0 c1 c2 c3:Array Value}:Mem w ((((w.alloc (.cells c0 t0)).alloc (.cells c1 t1)).alloc (.cells c2 t2)).alloc (.cells c3 t3)) [aJ w (w.heap.size+1+1+1) t3 c3,aJ w (w.heap.size+1+1) t2 c2,aJ w (w.heap.size+1) t1 c1,aJ w w t0 c0]:=((((Mem.start w).blkNew t0 c0 w (by simp)).blkNew t1 c1 (w.heap.size+1) (by simp)).blkNew t2 c2 (w.heap.size+1+1) (by simp)).blkNew t3 c3 (w.heap.size+1+1+1) (by simp)
theorem Mem.b4t (w:World){t0 t1 t2 t3:TypeId}{c0 c1 c2 c3:Array Value}:Mem w ((((w.alloc (.cells c0 t0)).alloc (.cells c1 t1)).alloc (.cells c2 t2)).alloc (.cells c3 t3)) [aJ w (w.heap.size+3) t3 c3,aJ w (w.heap.size+2) t2 c2,aJ w (w.heap.size+1) t1 c1,aJ w w t0 c0]:=((((Mem.start w).blkNew t0 c0 w (by simp)).blkNew t1 c1 (w.heap.size+1) (by simp)).blkNew t2 c2 (w.heap.size+2) (by simp)).blkNew t3 c3 (w.heap.size+3) (by simp)
theorem Mem.nq {w0 w:World}{L:List Item}(h:Mem w0 w L)(i j:Nat){g g':Nat}{a b:Item}(c:i<j:=by omega)(hi:L[i]? =Option.some a:=by exact rfl) (hj:L[j]? =Option.some b:=by exact rfl) (ha:a.adr g:=by exact rfl) (hb:b.adr g':=by exact rfl): ¬g=g'∧ ¬g'=g:=⟨h.ne c hi hj ha hb,fun e=>h.ne c hi hj ha hb e.symm⟩
theorem Mem.bk {w0 w:World}{L:List Item}(h:Mem w0 w L)(i:Nat){g B:Nat}{t:TypeId}{cs:Array Value}(hi:L[i]? =Option.some (aJ B g t cs):=by exact rfl):Blk w g t cs:=h.blk hi
theorem Mem.ow {w0 w:World}{L:List Item}(h:Mem w0 w L)(i:Nat){B n c sz:Nat}{e:TypeId}{q:OA}{xs:List Value}(hi:L[i]? =Option.some (aI B e sz q n c xs):=by exact rfl):w.ownsRow B e sz (.slice q n c) n xs:=h.own hi
theorem Mem.sq {w0 w:World}{L:List Item}(h:Mem w0 w L)(i:Nat){B n c sz:Nat}{e:TypeId}{q:OA}{xs:List Value}(hi:L[i]? =Option.some (aI B e sz q n c xs):=by exact rfl):Sl w q n c sz xs:=h.sl hi
theorem Mem.so {w0 w:World}{L:List Item}(h:Mem w0 w L)(i:Nat){n c sz B:Nat}{e:TypeId}{q:OA}{xs:List Value}(hi:L[i]? =Option.some (aI B e sz q n c xs):=by exact rfl) (hn:0<n:=by omega): ∃g,q=Option.some ⟨g,0,none⟩∧w0.heap.size≤g∧g<w.heap.size:=h.some hi hn
theorem Mem.bn {w0 w:World}{L:List Item}(h:Mem w0 w L)(t:TypeId)(cs:Array Value)(g:Nat)(hg:w.heap.size=g:=by first|exact rfl|simp):Mem w0 (w.alloc (.cells cs t)) (aJ w0 g t cs::L):=h.blkNew t cs g hg
theorem Mem.c0 {w0 v:World}{L:List Item}(h:Mem w0 v L)(t:TypeId)(cs:Array Value):Mem w0 (v.alloc (.cells cs t)) (aJ w0 v t cs::L):=h.blkNew t cs _ rfl
theorem Mem.c1 {w0 v:World}{o:Obj}{L:List Item}(h:Mem w0 (v.alloc o) L)(t:TypeId)(cs:Array Value):Mem w0 ((v.alloc o).alloc (.cells cs t)) (aJ w0 (v.heap.size+1) t cs::L):=h.blkNew t cs _ (by simp)
theorem Mem.c2 {w0 v:World}{o o':Obj}{L:List Item}(h:Mem w0 ((v.alloc o).alloc o') L)(t:TypeId)(cs:Array Value):Mem w0 (((v.alloc o).alloc o').alloc (.cells cs t)) (aJ w0 (v.heap.size+1+1) t cs::L):=h.blkNew t cs _ (by simp)
theorem Mem.st1 {P:Program}{f:FuncId}{s:Array Value}{w0 w:World}{L:List Item}{v:Value}{K:Ending→World→Prop}(M:Mem w0 w L)(H:Mem w0 w L→Calls P f s w (O v w))(k: ∀w',Mem w0 w' L→K (.returned v) w'):Calls P f s w K:=(H M).mono (by rintro e w' ⟨rfl,hx⟩;exact k w' (M.adv hx))
theorem Mem.st2 {P:Program}{f:FuncId}{s:Array Value}{w0 w:World}{L:List Item}{F:OA→Nat→Value}{ty:TypeId}{n sz:Nat}{xs:List Value}{K:Ending→World→Prop}(M:Mem w0 w L)(H:Mem w0 w L→Calls P f s w fun e w'=> ∃q c,e= .returned (F q c)∧w'.ownsRow w ty sz (.slice q n c) n xs∧Ext w w')(k: ∀w' q c,Mem w0 w' (aI w0 ty sz q n c xs::L)→K (.returned (F q c)) w'):Calls P f s w K:=(H M).mono (by rintro e w' ⟨q,c,rfl,ho,hx⟩;exact k w' q c (M.call hx ho))
end
theorem Mem.put3 {w0 w:World}{L:List Item}{i g B:Nat}{t:TypeId}{a0 a1 a2:Value}(h:Mem w0 w L)(hi:L[i]? =Option.some (aJ B g t #[a0,a1,a2])) (b0 b1 b2:Value):Mem w0 (((w.setCell ⟨g,0,none⟩ b0).setCell ⟨g,1,none⟩ b1).setCell ⟨g,2,none⟩ b2) (L.set i (aJ w0 g t #[b0,b1,b2])):=by
 have hl:i<L.length:=(aRt.1 hi).1;have h0:Mem w0 (w.setCell ⟨g,0,none⟩ b0) (L.set i (aJ w0 g t #[b0,a1,a2])):=by have:=h.store (i:=i) hi 0 b0;simpa[aTt]using this
 have i0:(L.set i (aJ w0 g t #[b0,a1,a2]))[i]? =Option.some (aJ w0 g t #[b0,a1,a2]):=by rw[aSf hl]
 have h1:Mem w0 ((w.setCell ⟨g,0,none⟩ b0).setCell ⟨g,1,none⟩ b1) (L.set i (aJ w0 g t #[b0,b1,a2])):=by have:=h0.store (i:=i) i0 1 b1;simpa[aTt]using this
 have i1:(L.set i (aJ w0 g t #[b0,b1,a2]))[i]? =Option.some (aJ w0 g t #[b0,b1,a2]):=by rw[aSf hl]
 have h2:Mem w0 (((w.setCell ⟨g,0,none⟩ b0).setCell ⟨g,1,none⟩ b1).setCell ⟨g,2,none⟩ b2) (L.set i (aJ w0 g t #[b0,b1,b2])):=by have:=h1.store (i:=i) i1 2 b2;simpa[aTt]using this
 have i2:(L.set i (aJ w0 g t #[b0,b1,b2]))[i]? =Option.some (aJ w0 g t #[b0,b1,b2]):=by rw[aSf hl]
 exact h2
theorem Mem.put10 {w0 w:World}{L:List Item}{i g B:Nat}{t:TypeId}{a0 a1 a2 a3 a4 a5 a6 a7 a8 a9:Value}(h:Mem w0 w L)(hi:L[i]? =Option.some (aJ B g t #[a0,a1,a2,a3,a4,a5,a6,a7,a8,a9])) (b0 b1 b2 b3 b4 b5 b6 b7 b8 b9:Value):Mem w0 ((((((((((w.setCell ⟨g,0,none⟩ b0).setCell ⟨g,1,none⟩ b1).setCell ⟨g,2,none⟩ b2).setCell ⟨g,3,none⟩ b3).setCell ⟨g,4,none⟩ b4).setCell ⟨g,5,none⟩ b5).setCell ⟨g,6,none⟩ b6).setCell ⟨g,7,none⟩ b7).setCell ⟨g,8,none⟩ b8).setCell ⟨g,9,none⟩ b9) (L.set i (aJ w0 g t #[b0,b1,b2,b3,b4,b5,b6,b7,b8,b9])):=by
 have hl:i<L.length:=(aRt.1 hi).1;have h0:Mem w0 (w.setCell ⟨g,0,none⟩ b0) (L.set i (aJ w0 g t #[b0,a1,a2,a3,a4,a5,a6,a7,a8,a9])):=by have:=h.store (i:=i) hi 0 b0;simpa[aTt]using this
 have i0:(L.set i (aJ w0 g t #[b0,a1,a2,a3,a4,a5,a6,a7,a8,a9]))[i]? =Option.some (aJ w0 g t #[b0,a1,a2,a3,a4,a5,a6,a7,a8,a9]):=by rw[aSf hl]
 have h1:Mem w0 ((w.setCell ⟨g,0,none⟩ b0).setCell ⟨g,1,none⟩ b1) (L.set i (aJ w0 g t #[b0,b1,a2,a3,a4,a5,a6,a7,a8,a9])):=by have:=h0.store (i:=i) i0 1 b1;simpa[aTt]using this
 have i1:(L.set i (aJ w0 g t #[b0,b1,a2,a3,a4,a5,a6,a7,a8,a9]))[i]? =Option.some (aJ w0 g t #[b0,b1,a2,a3,a4,a5,a6,a7,a8,a9]):=by rw[aSf hl]
 have h2:Mem w0 (((w.setCell ⟨g,0,none⟩ b0).setCell ⟨g,1,none⟩ b1).setCell ⟨g,2,none⟩ b2) (L.set i (aJ w0 g t #[b0,b1,b2,a3,a4,a5,a6,a7,a8,a9])):=by have:=h1.store (i:=i) i1 2 b2;simpa[aTt]using this
 have i2:(L.set i (aJ w0 g t #[b0,b1,b2,a3,a4,a5,a6,a7,a8,a9]))[i]? =Option.some (aJ w0 g t #[b0,b1,b2,a3,a4,a5,a6,a7,a8,a9]):=by rw[aSf hl]
 have h3:Mem w0 ((((w.setCell ⟨g,0,none⟩ b0).setCell ⟨g,1,none⟩ b1).setCell ⟨g,2,none⟩ b2).setCell ⟨g,3,none⟩ b3) (L.set i (aJ w0 g t #[b0,b1,b2,b3,a4,a5,a6,a7,a8,a9])):=by have:=h2.store (i:=i) i2 3 b3;simpa[aTt]using this
 have i3:(L.set i (aJ w0 g t #[b0,b1,b2,b3,a4,a5,a6,a7,a8,a9]))[i]? =Option.some (aJ w0 g t #[b0,b1,b2,b3,a4,a5,a6,a7,a8,a9]):=by rw[aSf hl]
 have h4:Mem w0 (((((w.setCell ⟨g,0,none⟩ b0).setCell ⟨g,1,none⟩ b1).setCell ⟨g,2,none⟩ b2).setCell ⟨g,3,none⟩ b3).setCell ⟨g,4,none⟩ b4) (L.set i (aJ w0 g t #[b0,b1,b2,b3,b4,a5,a6,a7,a8,a9])):=by have:=h3.store (i:=i) i3 4 b4;simpa[aTt]using this
 have i4:(L.set i (aJ w0 g t #[b0,b1,b2,b3,b4,a5,a6,a7,a8,a9]))[i]? =Option.some (aJ w0 g t #[b0,b1,b2,b3,b4,a5,a6,a7,a8,a9]):=by rw[aSf hl]
 have h5:Mem w0 ((((((w.setCell ⟨g,0,none⟩ b0).setCell ⟨g,1,none⟩ b1).setCell ⟨g,2,none⟩ b2).setCell ⟨g,3,none⟩ b3).setCell ⟨g,4,none⟩ b4).setCell ⟨g,5,none⟩ b5) (L.set i (aJ w0 g t #[b0,b1,b2,b3,b4,b5,a6,a7,a8,a9])):=by have:=h4.store (i:=i) i4 5 b5;simpa[aTt]using this
 have i5:(L.set i (aJ w0 g t #[b0,b1,b2,b3,b4,b5,a6,a7,a8,a9]))[i]? =Option.some (aJ w0 g t #[b0,b1,b2,b3,b4,b5,a6,a7,a8,a9]):=by rw[aSf hl]
 have h6:Mem w0 (((((((w.setCell ⟨g,0,none⟩ b0).setCell ⟨g,1,none⟩ b1).setCell ⟨g,2,none⟩ b2).setCell ⟨g,3,none⟩ b3).setCell ⟨g,4,none⟩ b4).setCell ⟨g,5,none⟩ b5).setCell ⟨g,6,none⟩ b6) (L.set i (aJ w0 g t #[b0,b1,b2,b3,b4,b5,b6,a7,a8,a9])):=by have:=h5.store (i:=i) i5 6 b6;simpa[aTt]using this
 have i6:(L.set i (aJ w0 g t #[b0,b1,b2,b3,b4,b5,b6,a7,a8,a9]))[i]? =Option.some (aJ w0 g t #[b0,b1,b2,b3,b4,b5,b6,a7,a8,a9]):=by rw[aSf hl]
 have h7:Mem w0 ((((((((w.setCell ⟨g,0,none⟩ b0).setCell ⟨g,1,none⟩ b1).setCell ⟨g,2,none⟩ b2).setCell ⟨g,3,none⟩ b3).setCell ⟨g,4,none⟩ b4).setCell ⟨g,5,none⟩ b5).setCell ⟨g,6,none⟩ b6).setCell ⟨g,7,none⟩ b7) (L.set i (aJ w0 g t #[b0,b1,b2,b3,b4,b5,b6,b7,a8,a9])):=by have:=h6.store (i:=i) i6 7 b7;simpa[aTt]using this
 have i7:(L.set i (aJ w0 g t #[b0,b1,b2,b3,b4,b5,b6,b7,a8,a9]))[i]? =Option.some (aJ w0 g t #[b0,b1,b2,b3,b4,b5,b6,b7,a8,a9]):=by rw[aSf hl]
 have h8:Mem w0 (((((((((w.setCell ⟨g,0,none⟩ b0).setCell ⟨g,1,none⟩ b1).setCell ⟨g,2,none⟩ b2).setCell ⟨g,3,none⟩ b3).setCell ⟨g,4,none⟩ b4).setCell ⟨g,5,none⟩ b5).setCell ⟨g,6,none⟩ b6).setCell ⟨g,7,none⟩ b7).setCell ⟨g,8,none⟩ b8) (L.set i (aJ w0 g t #[b0,b1,b2,b3,b4,b5,b6,b7,b8,a9])):=by have:=h7.store (i:=i) i7 8 b8;simpa[aTt]using this
 have i8:(L.set i (aJ w0 g t #[b0,b1,b2,b3,b4,b5,b6,b7,b8,a9]))[i]? =Option.some (aJ w0 g t #[b0,b1,b2,b3,b4,b5,b6,b7,b8,a9]):=by rw[aSf hl]
 have h9:Mem w0 ((((((((((w.setCell ⟨g,0,none⟩ b0).setCell ⟨g,1,none⟩ b1).setCell ⟨g,2,none⟩ b2).setCell ⟨g,3,none⟩ b3).setCell ⟨g,4,none⟩ b4).setCell ⟨g,5,none⟩ b5).setCell ⟨g,6,none⟩ b6).setCell ⟨g,7,none⟩ b7).setCell ⟨g,8,none⟩ b8).setCell ⟨g,9,none⟩ b9) (L.set i (aJ w0 g t #[b0,b1,b2,b3,b4,b5,b6,b7,b8,b9])):=by have:=h8.store (i:=i) i8 9 b9;simpa[aTt]using this
 have i9:(L.set i (aJ w0 g t #[b0,b1,b2,b3,b4,b5,b6,b7,b8,b9]))[i]? =Option.some (aJ w0 g t #[b0,b1,b2,b3,b4,b5,b6,b7,b8,b9]):=by rw[aSf hl]
 exact h9
end Go.Proofs.YtbgkcehffiogcacGreatDoor
