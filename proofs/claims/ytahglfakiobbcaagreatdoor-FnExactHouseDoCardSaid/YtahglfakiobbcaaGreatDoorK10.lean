/-
  Texts of this proof, packed (@packed).
-/
import Derived.Maps.AppendAt
import Derived.Test.YtahglfakiobbcaaGreatDoorK1
import Derived.Test.YtahglfakiobbcaaGreatDoorK3
import Derived.Test.YtahglfakiobbcaaGreatDoorK9
namespace Go.Proofs.YtahglfakiobbcaaGreatDoor
open Go Go.RowKit
set_option linter.unusedVariables false
structure Item where
 adr:Nat→Prop
 ok:World→Prop
structure Item.Good (it:Item) (B:Nat):Prop where
 lt: ∀w,it.ok w→ ∀g,it.adr g→B≤g∧g<w.heap.size
 stay: ∀w w',it.ok w→w.heap.size≤w'.heap.size→(∀g,it.adr g→w'.heap[g]? =w.heap[g]?)→it.ok w'
def aF (B g:Nat)(t:TypeId)(cs:Array Value):Item:=⟨fun x=>g=x,fun w=>B≤g∧Blk w g t cs⟩
def aJ (B:Nat)(e:TypeId)(sz:Nat)(q:Option Addr)(n c:Nat)(xs:List Value):Item:=⟨fun x=>(Value.slice q n c).ownBlock=some x,fun w=>w.ownsRow B e sz (.slice q n c) n xs⟩
theorem sX (B g:Nat)(t:TypeId)(cs:Array Value):(aF B g t cs).Good B:=
 ⟨fun w h g' hg=>by obtain rfl:g=g':=hg;exact⟨h.1,h.2.lt⟩,fun w w' h _ hs=>⟨h.1,(hs g rfl).trans h.2⟩⟩
theorem mN {w w':World}{B n sz:Nat}{e:TypeId}{v:Value}{xs:List Value}(h:w.ownsRow B e sz v n xs)(hs: ∀g,v.ownBlock=some g→w'.heap[g]? =w.heap[g]?):w'.ownsRow B e sz v n xs:=by
 refine⟨h.1,?_⟩
 rcases h.2 with h2|⟨g,cap,cur,h1,h3,h4,h5⟩
 ·exact .inl h2
 ·refine .inr ⟨g,cap,cur,h1,h3,?_,h5⟩
  rw[hs g (by rw[h1];rfl)];exact h4
theorem gS (B:Nat)(e:TypeId)(sz:Nat)(q:Option Addr)(n c:Nat)(xs:List Value):(aJ B e sz q n c xs).Good B:=
 ⟨fun w h g hg=>World.ownsRow.lt h g hg,fun w w' h _ hs=>mN h hs⟩
theorem gD {w:World}{B B' n sz:Nat}{e:TypeId}{v:Value}{xs:List Value}(h:w.ownsRow B e sz v n xs)(hb:B'≤B):w.ownsRow B' e sz v n xs:=by
 refine⟨h.1,?_⟩
 rcases h.2 with h2|⟨g,cap',cur,e1,hb',r⟩
 ·exact .inl h2
 ·exact .inr ⟨g,cap',cur,e1,Nat.le_trans hb hb',r⟩
structure RowD where
 q:Option Addr
 n:Nat
 c:Nat
 xs:List Value
abbrev RowD.v (r:RowD):Value:= .slice r.q r.n r.c
def uM (B:Nat)(eo ei:TypeId)(sz:Nat)(q:Option Addr)(c:Nat)(rows:List RowD)(w:World):Prop:=
 w.ownsRow B eo 1 (.slice q rows.length c) rows.length (rows.map RowD.v)∧ ∀r∈rows,w.ownsRow B ei sz r.v r.n r.xs
def fD (B:Nat)(ei:TypeId)(sz:Nat)(rows:List RowD):Item:=⟨fun x=> ∃r∈rows,r.v.ownBlock=some x,fun w=> ∀r∈rows,w.ownsRow B ei sz r.v r.n r.xs⟩
theorem pW (B:Nat)(ei:TypeId)(sz:Nat)(rows:List RowD):(fD B ei sz rows).Good B:=
 ⟨fun w h g ⟨r,hr,hg⟩=>World.ownsRow.lt (h r hr) g hg,fun w w' h _ hs r hr=>mN (h r hr) (fun g hg=>hs g ⟨r,hr,hg⟩)⟩
def lQ (B:Nat)(eo ei:TypeId)(sz:Nat)(q:Option Addr)(c:Nat)(rows:List RowD):Item:=⟨fun x=>(Value.slice q rows.length c).ownBlock=some x∨ ∃r∈rows,r.v.ownBlock=some x,uM B eo ei sz q c rows⟩
theorem yW (B:Nat)(eo ei:TypeId)(sz:Nat)(q:Option Addr)(c:Nat)(rows:List RowD):(lQ B eo ei sz q c rows).Good B:=
 ⟨fun w h g hg=>by
  rcases hg with hg|⟨r,hr,hg⟩
  ·exact World.ownsRow.lt h.1 g hg
  ·exact World.ownsRow.lt (h.2 r hr) g hg,
  fun w w' h _ hs=>⟨mN h.1 (fun g hg=>hs g (.inl hg)),fun r hr=>mN (h.2 r hr) (fun g hg=>hs g (.inr ⟨r,hr,hg⟩))⟩⟩
structure Mem (w0 w:World) (L:List Item):Prop where
 ext:Ext w0 w
 good: ∀it∈L,it.Good w0.heap.size
 ok: ∀it∈L,it.ok w
 apart:L.Pairwise (fun a b=> ∀g,a.adr g→ ¬b.adr g)
section
variable {w0 w w':World} {L:List Item}
theorem Mem.start (w:World):Mem w w []:=⟨Ext.refl w,fun _ h=>absurd h (by simp),fun _ h=>absurd h (by simp),List.Pairwise.nil⟩
theorem Mem.of (h:Ext w0 w):Mem w0 w []:=⟨h,fun _ h=>absurd h (by simp),fun _ h=>absurd h (by simp),List.Pairwise.nil⟩
theorem Mem.adv (h:Mem w0 w L)(hx:Ext w w'):Mem w0 w' L:=
 ⟨h.ext.trans hx,h.good,fun it hi=>(h.good it hi).stay w w' (h.ok it hi) hx.sz (fun g hg=>hx.block g ((h.good it hi).lt w (h.ok it hi) g hg).2),h.apart⟩
theorem Mem.cons {it:Item}(h:Mem w0 w L)(hg:it.Good w0.heap.size)(ho:it.ok w)(hn: ∀g,it.adr g→ ∀j∈L,¬j.adr g):Mem w0 w (it::L):=
 ⟨h.ext,fun x hx=>by
  rcases List.mem_cons.1 hx with rfl|hx
  ·exact hg
  ·exact h.good x hx,fun x hx=>by
  rcases List.mem_cons.1 hx with rfl|hx
  ·exact ho
  ·exact h.ok x hx,List.Pairwise.cons (fun j hj g hg'=>hn g hg' j hj) h.apart⟩
theorem Mem.new {it:Item}(h:Mem w0 w L)(hx:Ext w w')(hg:it.Good w0.heap.size)(ho:it.ok w')(hn: ∀g,it.adr g→w.heap.size≤g):Mem w0 w' (it::L):=by
 refine(h.adv hx).cons hg ho (fun g hg' j hj e=> ?_)
 have h1:=hn g hg'
 have h2:=((h.good j hj).lt w (h.ok j hj) g e).2
 omega
theorem Mem.blkOf {g:Nat}{t:TypeId}{cs:Array Value}(h:Mem w0 w L)(hx:Ext w w')(hb:Blk w' g t cs)(hg:w.heap.size≤g):Mem w0 w' (aF w0.heap.size g t cs::L):=
 h.new hx (sX _ _ _ _) ⟨Nat.le_trans h.ext.sz hg,hb⟩ (fun g' hg'=>by obtain rfl:g=g':=hg';exact hg)
theorem Mem.blkNew (h:Mem w0 w L)(t:TypeId)(cs:Array Value)(g:Nat)(hg:w.heap.size=g):Mem w0 (w.alloc (.cells cs t)) (aF w0.heap.size g t cs::L):=by
 subst hg
 exact h.blkOf ((Ext.refl w).alloc _) (Blk.new _ _ _) (Nat.le_refl _)
theorem Mem.ownNew {b n c sz:Nat}{e:TypeId}{q:Option Addr}{xs:List Value}(h:Mem w0 w L)(hx:Ext w w')(ho:w'.ownsRow b e sz (.slice q n c) n xs)(hb:w.heap.size≤b):Mem w0 w' (aJ w0.heap.size e sz q n c xs::L):=
 h.new hx (gS _ _ _ _ _ _ _) (gD ho (Nat.le_trans h.ext.sz hb)) (fun g hg=>Nat.le_trans hb (World.ownsRow.lt ho g hg).1)
theorem Mem.blkOwn {b n c sz g:Nat}{e t:TypeId}{q:Option Addr}{xs:List Value}{cs:Array Value}(h:Mem w0 w L)(hx:Ext w w')(hb:Blk w' g t cs)(hg:w.heap.size≤g)(ho:w'.ownsRow b e sz (.slice q n c) n xs)(hbb:w.heap.size≤b)(ht:e≠t):Mem w0 w' (aJ w0.heap.size e sz q n c xs::aF w0.heap.size g t cs::L):=by
 refine(h.blkOf hx hb hg).cons (gS _ _ _ _ _ _ _) (gD ho (Nat.le_trans h.ext.sz hbb)) (fun g' hg' j hj e'=> ?_)
 replace hg':(Value.slice q n c).ownBlock=some g':=hg'
 have h1:=(World.ownsRow.lt ho g' hg').1
 rcases List.mem_cons.1 hj with rfl|hj
 ·obtain rfl:g=g':=e'
  rcases ho.2 with⟨h2,_⟩|⟨g2,cap',cur,h2,_,h3,_⟩
  ·rw[h2]at hg';cases hg'
  ·rw[h2]at hg'
   injection hg' with hg'
   have hg'':g2=g:=hg'
   subst hg''
   unfold Blk at hb
   rw[hb]at h3
   injection h3 with h3
   injection h3 with _ h3
   exact ht h3.symm
 ·have h2:=((h.good j hj).lt w (h.ok j hj) g' e').2
  omega
theorem Mem.call {n c sz:Nat}{e:TypeId}{q:Option Addr}{xs:List Value}(h:Mem w0 w L)(hx:Ext w w')(ho:w'.ownsRow w.heap.size e sz (.slice q n c) n xs):Mem w0 w' (aJ w0.heap.size e sz q n c xs::L):=h.ownNew hx ho (Nat.le_refl _)
theorem Mem.nestNew {b c sz:Nat}{eo ei:TypeId}{q:Option Addr}{rows:List RowD}(h:Mem w0 w L)(hx:Ext w w')(ho:uM b eo ei sz q c rows w')(hb:w.heap.size≤b):Mem w0 w' (lQ w0.heap.size eo ei sz q c rows::L):=
 h.new hx (yW _ _ _ _ _ _ _) ⟨gD ho.1 (Nat.le_trans h.ext.sz hb),fun r hr=>gD (ho.2 r hr) (Nat.le_trans h.ext.sz hb)⟩ (fun g hg=>by
  rcases hg with hg|⟨r,hr,hg⟩
  ·exact Nat.le_trans hb (World.ownsRow.lt ho.1 g hg).1
  ·exact Nat.le_trans hb (World.ownsRow.lt (ho.2 r hr) g hg).1)
theorem Mem.made0 (h:Mem w0 w L)(e:TypeId)(sz g:Nat)(hg:w.heap.size=g):Mem w0 (w.alloc (.cells #[] e)) (aJ w0.heap.size e sz (some ⟨g,0,none⟩) 0 0 []::L):=by
 subst hg
 exact h.ownNew ((Ext.refl w).alloc _) (World.ownsRow_made (base:=w.heap.size) w #[] 0 (Nat.le_refl _) (by simp[maxLen]) (by simp)) (Nat.le_refl _)
theorem aFe {w:World}{e:TypeId}{sz g n:Nat}{cs:Array Value}{B:Nat}(h:Blk w g e cs)(hn:cs.size=n*sz)(hm:n≤maxLen)(hb:B≤g):w.ownsRow B e sz (.slice (some ⟨g,0,none⟩) n n) n cs.toList:=
 ⟨by simpa using hn,.inr ⟨g,n,cs,rfl,hb,h,Nat.le_refl _,hm,hn,by rw[List.take_of_length_le (by simp;omega)]⟩⟩
theorem Mem.lit (h:Mem w0 w L)(e:TypeId)(sz n g:Nat)(cs:Array Value)(hg:w.heap.size=g)(hn:cs.size=n*sz)(hm:n≤maxLen):Mem w0 (w.alloc (.cells cs e)) (aJ w0.heap.size e sz (some ⟨g,0,none⟩) n n cs.toList::L):=by
 subst hg
 exact h.ownNew ((Ext.refl w).alloc _) (aFe (Blk.new w e cs) hn hm (Nat.le_refl _)) (Nat.le_refl _)
theorem Mem.blk {i g B:Nat}{t:TypeId}{cs:Array Value}(h:Mem w0 w L)(hi:L[i]? =some (aF B g t cs)):Blk w g t cs:=(h.ok _ (List.mem_of_getElem? hi)).2
theorem Mem.own {i B n c sz:Nat}{e:TypeId}{q:Option Addr}{xs:List Value}(h:Mem w0 w L)(hi:L[i]? =some (aJ B e sz q n c xs)):w.ownsRow B e sz (.slice q n c) n xs:=h.ok _ (List.mem_of_getElem? hi)
theorem Mem.nest {i B c sz:Nat}{eo ei:TypeId}{q:Option Addr}{rows:List RowD}(h:Mem w0 w L)(hi:L[i]? =some (lQ B eo ei sz q c rows)):uM B eo ei sz q c rows w:=h.ok _ (List.mem_of_getElem? hi)
theorem Mem.sl {i B n c sz:Nat}{e:TypeId}{q:Option Addr}{xs:List Value}(h:Mem w0 w L)(hi:L[i]? =some (aJ B e sz q n c xs)):Sl w q n c sz xs:=Sl.own (h.own hi)
theorem Mem.lt {i g:Nat}{it:Item}(h:Mem w0 w L)(hi:L[i]? =some it) (hg:it.adr g):w0.heap.size≤g∧g<w.heap.size:=(h.good _ (List.mem_of_getElem? hi)).lt w (h.ok _ (List.mem_of_getElem? hi)) g hg
theorem Mem.ne {i j g g':Nat}{a b:Item}(h:Mem w0 w L)(hij:i<j)(hi:L[i]? =some a) (hj:L[j]? =some b) (ha:a.adr g) (hb:b.adr g'):g≠g':=by
 rintro rfl
 obtain⟨hil,rfl⟩:=List.getElem?_eq_some_iff.1 hi
 obtain⟨hjl,rfl⟩:=List.getElem?_eq_some_iff.1 hj
 exact List.pairwise_iff_getElem.1 h.apart i j hil hjl hij g ha hb
theorem Mem.sub {L':List Item}(h:Mem w0 w L)(hs:L'.Sublist L):Mem w0 w L':=
 ⟨h.ext,fun x hx=>h.good x (hs.subset hx),fun x hx=>h.ok x (hs.subset hx),h.apart.sublist hs⟩
theorem Mem.far {i j:Nat}{a b:Item}(h:Mem w0 w L)(hij:i≠j)(hi:L[i]? =some a) (hj:L[j]? =some b): ∀g,a.adr g→ ¬b.adr g:=by
 intro g ha hb
 rcases Nat.lt_or_gt_of_ne hij with hlt|hgt
 ·exact h.ne hlt hi hj ha hb rfl
 ·exact h.ne hgt hj hi hb ha rfl
theorem Mem.pick {L':List Item}(h:Mem w0 w L)(is:List Nat)(hd:is.Nodup)(hl:is.map (fun i=>L[i]?)=L'.map some):Mem w0 w L':=by
 have hlen:is.length=L'.length:=by have:=congrArg List.length hl;simpa using this
 have hat: ∀k,(hk:k<L'.length)→L[is[k]'(by omega)]? =some L'[k]:=by
  intro k hk
  have:=congrArg (fun z=>z[k]?) hl
  simp only[List.getElem?_map]at this
  rw[List.getElem?_eq_getElem (by omega:k<is.length),List.getElem?_eq_getElem hk]at this
  simpa using this
 have hmem: ∀x∈L',x∈L:=fun x hx=>by
  obtain⟨k,hk,rfl⟩:=List.getElem_of_mem hx
  exact List.mem_of_getElem? (hat k hk)
 refine⟨h.ext,fun x hx=>h.good x (hmem x hx),fun x hx=>h.ok x (hmem x hx),List.pairwise_iff_getElem.2 fun a b ha hb hab=> ?_⟩
 exact h.far (fun e=>by
  have:=(List.getElem_inj hd).1 e
  omega) (hat a ha) (hat b hb)
theorem Mem.join {a b it:Item}(h:Mem w0 w (a::b::L))(hg:it.Good w0.heap.size)(ho:it.ok w)(hn: ∀g,it.adr g→a.adr g∨b.adr g):Mem w0 w (it::L):=by
 have hp:=List.pairwise_cons.1 h.apart
 have hp2:=List.pairwise_cons.1 hp.2
 have h2:Mem w0 w L:=⟨h.ext,fun x hx=>h.good x (by simp[hx]),fun x hx=>h.ok x (by simp[hx]),hp2.2⟩
 refine h2.cons hg ho (fun g hg' j hj=> ?_)
 rcases hn g hg' with h3|h3
 ·exact hp.1 j (by simp[hj]) g h3
 ·exact hp2.1 j hj g h3
theorem Mem.rowsAdd {B sz c n:Nat}{e:TypeId}{q:Option Addr}{xs:List Value}{rows:List RowD}(hB:B=w0.heap.size)(h:Mem w0 w (aJ B e sz q n c xs::fD B e sz rows::L)):Mem w0 w (fD B e sz (rows++ [⟨q,n,c,xs⟩])::L):=by
 subst hB
 refine h.join (pW _ _ _ _) (fun r hr=> ?_) (fun g ⟨r,hr,hg⟩=> ?_)
 ·rcases List.mem_append.1 hr with hr|hr
  ·exact h.ok (fD w0.heap.size e sz rows) (by simp) r hr
  ·obtain rfl:=List.mem_singleton.1 hr
   exact h.own (i:=0) rfl
 ·rcases List.mem_append.1 hr with hr|hr
  ·exact .inr ⟨r,hr,hg⟩
  ·obtain rfl:=List.mem_singleton.1 hr
   exact .inl hg
theorem Mem.rows0 {B sz:Nat}{e:TypeId}(hB:B=w0.heap.size)(h:Mem w0 w L):Mem w0 w (fD B e sz []::L):=by
 subst hB
 exact h.cons (pW _ _ _ _) (fun r hr=>by cases hr) (fun g ⟨r,hr,hg⟩=>by cases hr)
theorem Mem.turn {i:Nat}{it it':Item}{row:Option Nat}(h:Mem w0 w L)(hi:L[i]? =some it) (hr: ∀g,row=some g→it.adr g) (hg:it'.Good w0.heap.size) (hgrow:w.grownBy w' row) (ho:it'.ok w') (hat: ∀g,it'.adr g→it.adr g∨g=w.heap.size):Mem w0 w' (L.set i it'):=by
 obtain⟨hil,hie⟩:=List.getElem?_eq_some_iff.1 hi
 have hmem:=List.mem_of_getElem? hi
 have far: ∀j,(hj:j<L.length)→j≠i→ ∀g,L[j].adr g→ ¬it.adr g:=by
  intro j hj hne g hg' e
  exact h.far hne (List.getElem?_eq_getElem hj) hi g hg' e
 have hE:Ext w0 w':=h.ext.grown hgrow (fun k hk=>((h.good it hmem).lt w (h.ok it hmem) k (hr k hk)).1)
 refine⟨hE,fun x hx=> ?_,fun x hx=> ?_,?_⟩
 ·rcases List.mem_or_eq_of_mem_set hx with hx|rfl
  ·exact h.good x hx
  ·exact hg
 ·obtain⟨j,hj,rfl⟩:=List.getElem_of_mem hx
  rw[List.length_set]at hj
  by_cases hji:i=j
  ·subst hji;rw[List.getElem_set_self];exact ho
  ·rw[List.getElem_set_ne hji]
   have hm:=List.getElem_mem hj
   refine(h.good _ hm).stay w w' (h.ok _ hm) hgrow.size (fun g hg'=> ?_)
   exact hgrow.block g ((h.good _ hm).lt w (h.ok _ hm) g hg').2 (fun e=>far j hj (Ne.symm hji) g hg' (hr g e.symm))
 ·refine List.pairwise_iff_getElem.2 fun a b ha hb hab g hga hgb=> ?_
  rw[List.length_set]at ha hb
  have key: ∀j,(hj:j<L.length)→j≠i→ ∀g,L[j].adr g→ ¬it'.adr g:=by
   intro j hj hne g hg' e
   have hm:=List.getElem_mem hj
   rcases hat g e with h1|h1
   ·exact far j hj hne g hg' h1
   ·have:=((h.good _ hm).lt w (h.ok _ hm) g hg').2
    omega
  by_cases hai:i=a
  ·subst hai
   rw[List.getElem_set_self]at hga
   rw[List.getElem_set_ne (by omega)]at hgb
   exact key b hb (by omega) g hgb hga
  ·rw[List.getElem_set_ne hai]at hga
   by_cases hbi:i=b
   ·subst hbi
    rw[List.getElem_set_self]at hgb
    exact key a ha (by omega) g hga hgb
   ·rw[List.getElem_set_ne hbi]at hgb
    exact List.pairwise_iff_getElem.1 h.apart a b ha hb hab g hga hgb
theorem sN (w:World)(g k:Nat)(u:Value):w.grownBy (w.setCell ⟨g,k,none⟩ u) (some g):=
 ((ExtR.refl g w).setCell (p:=⟨g,k,none⟩) (.inl rfl) u:ExtR g w _)
theorem Mem.store {i g B:Nat}{t:TypeId}{cs:Array Value}(h:Mem w0 w L)(hi:L[i]? =some (aF B g t cs)) (k:Nat) (u:Value):Mem w0 (w.setCell ⟨g,k,none⟩ u) (L.set i (aF w0.heap.size g t (cs.setIfInBounds k u))):=
 h.turn hi (fun g' e=>by injection e) (sX _ _ _ _) (sN w g k u) ⟨(h.lt hi rfl).1,(h.blk hi).set k u⟩ (fun g' e=> .inl e)
theorem Mem.ostore {i g n c sz:Nat}{e:TypeId}{xs:List Value}(h:Mem w0 w L)(hi:L[i]? =some (aJ w0.heap.size e sz (some ⟨g,0,none⟩) n c xs)) (k:Nat) (u:Value):Mem w0 (w.setCell ⟨g,k,none⟩ u) (L.set i (aJ w0.heap.size e sz (some ⟨g,0,none⟩) n c (xs.set k u))):=
 h.turn hi (fun g' e=>e) (gS _ _ _ _ _ _ _) (sN w g k u) ((h.own hi).stored k u).1 (fun g' e=> .inl e)
theorem Mem.app {i n c sz n' c':Nat}{e:TypeId}{q q':Option Addr}{xs xs':List Value}(h:Mem w0 w L)(hi:L[i]? =some (aJ w0.heap.size e sz q n c xs)) (ho:w'.ownsRow w0.heap.size e sz (.slice q' n' c') n' xs') (hg:w.grownBy w' (Value.slice q n c).ownBlock)
  (hat:(Value.slice q' n' c').ownBlock=(Value.slice q n c).ownBlock∨(Value.slice q' n' c').ownBlock=some w.heap.size):Mem w0 w' (L.set i (aJ w0.heap.size e sz q' n' c' xs')):=
 h.turn hi (fun g e=>e) (gS _ _ _ _ _ _ _) hg ho (fun g e=>by
  have e':(Value.slice q' n' c').ownBlock=some g:=e
  rcases hat with h1|h1
  ·exact .inl (by show(Value.slice q n c).ownBlock=some g;rw[←h1];exact e')
  ·rw[h1]at e';injection e' with e';exact .inr e'.symm)
theorem Mem.some {i n c sz B:Nat}{e:TypeId}{q:Option Addr}{xs:List Value}(h:Mem w0 w L)(hi:L[i]? =Option.some (aJ B e sz q n c xs)) (hn:0<n): ∃g,q=Option.some ⟨g,0,none⟩∧w0.heap.size≤g∧g<w.heap.size:=by
 rcases(h.own hi).2 with⟨h1,h2⟩|⟨g,cap',cur,h1,h3⟩
 ·omega
 ·injection h1 with e1 e2 e3
  subst e1
  have:=h.lt hi (g:=g) rfl
  exact⟨g,rfl,this.1,this.2⟩
end
section
variable {P:Program} {w0 w:World} {L:List Item} {ops:Array Oper} {rest:List Oper} {o:Oper} {a:Act} {Q:Exit→Act→World→Prop}
theorem vN (w:World){t e ty:TypeId}{sz:Nat}(E:ElT P t e sz){i:Nat}{q:Option Addr}{n c:Nat}{xs:List Value}(h:Mem w0 w L)(hi:L[i]? =some (aJ w0.heap.size e sz q n c xs))
  (p:Option Addr) (m d:Nat) (news:List Value) (hs:Sl w p m d sz news) (h1: ∀u∈news,u.oneCell'=true) (hn:n+m≤1099511627776):
  ∃q' c' w',(Builtin.append_ #[t,t] ty #[.slice q n c,.slice p m d]).run P w= .ok (.slice q' (n+m) c') w'∧Mem w0 w' (L.set i (aJ w0.heap.size e sz q' (n+m) c' (xs++news))):=by
 obtain⟨inf,z,hinf,hz,hsz,hby,hzs⟩:=E.info
 have hown:=h.own hi
 have key: ∀ad:Addr,p=some ad∨m=0→(∀j u,news[j]? =some u→w.cell? (ad.add j)=some u)→ ∃q' c' w',(Builtin.append_ #[t,t] ty #[.slice q n c,.slice (some ad) m d]).run P w= .ok (.slice q' (n+m) c') w'∧Mem w0 w' (L.set i (aJ w0.heap.size e sz q' (n+m) c' (xs++news))):=by
  intro ad _ hcells
  have hbb:(n+m)*inf.bytes≤140737488355328:=by
   have:(n+m)*inf.bytes≤(n+m)*64:=Nat.mul_le_mul_left _ hby
   omega
  obtain⟨v',w',hrun,h2,h3,_,h5⟩:=run_append_own_at (P:=P) w w0.heap.size t ty e inf z sz inf.bytes E.ht hinf hz hsz rfl hzs E.pos (.slice q n c) n xs hown ad m d news hs.len hcells h1 (by unfold maxLen;omega) hbb h.ext.sz
  obtain⟨q',c',rfl⟩:=kP h2
  exact⟨q',c',w',hrun,h.app hi h2 h3 h5⟩
 by_cases hm:0<m
 ·obtain⟨b,off,rfl,hb,hc⟩:=hs.rd hm
  refine key ⟨b,off,none⟩ (.inl rfl) (fun j u hu=> ?_)
  have hj:j<m*sz:=by rw[←hs.len];exact(List.getElem?_eq_some_iff.1 hu).1
  rw[iV,hc j hj];exact hu
 ·have hm0:m=0:=by omega
  subst hm0
  have hnl:news= []:=List.length_eq_zero_iff.1 (by rw[hs.len];omega)
  subst hnl
  cases p with
  |some ad=>exact key ad (.inl rfl) (fun j u hu=>by simp at hu)
  |none=>
   refine⟨q,c,w,?_,h.app hi (by simpa using hown) (World.grownBy.refl w _) (.inl rfl)⟩
   rcases hown.2 with⟨h2,h3⟩|⟨g,cap',cur,h2,_,_,hnc,_⟩
   ·injection h2 with e1 e2 e3
    subst e1 e2 e3
    simp[Builtin.append_,run_underlying E.ht,sizeOf,typeInfo,hinf,Builtin.lenOf,Builtin.firstCells]
   ·injection h2 with e1 e2 e3
    subst e1 e3
    simp[Builtin.append_,run_underlying E.ht,sizeOf,typeInfo,hinf,Builtin.lenOf,Builtin.firstCells,hnc,storeCells]
theorem aA8 {K:Act→World→Prop}{t e:TypeId}{sz:Nat}(E:ElT P t e sz)(s x:Operand)
  (ho:o.op= .call {callee:= .builtin .append,args:=#[s,x],argTypes:=#[t,t]})
  (h:Mem w0 w L)(i:Nat){q:Option Addr}{n c:Nat}{xs:List Value}(hi:L[i]? =some (aJ w0.heap.size e sz q n c xs)) (hs:a.eval s= .slice q n c)
  {p:Option Addr} {m d:Nat} (news:List Value) (hx:a.eval x= .slice p m d) (hr:Sl w p m d sz news) (h1: ∀u∈news,u.oneCell'=true) (hn:n+m≤1099511627776)
  (hk: ∀q' c' w',Mem w0 w' (L.set i (aJ w0.heap.size e sz q' (n+m) c' (xs++news)))→K (a.put o.dst (.slice q' (n+m) c')) w'):o.wp P a w K Q:=by
 obtain⟨q',c',w',hrun,h2⟩:=vN (P:=P) (ty:=o.type) w E h hi p m d news hr h1 hn
 unfold Oper.wp execOp
 simp only[ho,resolve,invoke,builtin,Sem.run_bind,Sem.run_pure,Result.andThen_ok,List.map_toArray,List.map_cons,List.map_nil,hs,hx,hrun]
 exact hk q' c' w' h2
theorem cJ {t e:TypeId}{sz:Nat}(E:ElT P t e sz)(hgd:o.guard=none)(s x:Operand)
  (ho:o.op= .call {callee:= .builtin .append,args:=#[s,x],argTypes:=#[t,t]})
  (h:Mem w0 w L)(i:Nat){q:Option Addr}{n c:Nat}{xs:List Value}(hi:L[i]? =some (aJ w0.heap.size e sz q n c xs)) (hs:a.eval s= .slice q n c)
  {p:Option Addr} {m d:Nat} (news:List Value) (hx:a.eval x= .slice p m d) (hr:Sl w p m d sz news) (h1: ∀u∈news,u.oneCell'=true) (hn:n+m≤1099511627776)
  (hk: ∀q' c' w',Mem w0 w' (L.set i (aJ w0.heap.size e sz q' (n+m) c' (xs++news)))→wpList P ops Q rest (a.put o.dst (.slice q' (n+m) c')) w'):wpList P ops Q (o::rest) a w:=
 wpList_plain hgd fun _ hK=>aA8 E s x ho h i hi hs news hx hr h1 hn fun q' c' w' h2=>hK _ _ (hk q' c' w' h2)
theorem eX {K:Act→World→Prop}{E0:Prop}{t e:TypeId}{sz:Nat}(E:ElT P t e sz)(hgd:o.guard=none)(s x:Operand)
  (ho:o.op= .call {callee:= .builtin .append,args:=#[s,x],argTypes:=#[t,t]})
  (h:Mem w0 w L)(i:Nat){q:Option Addr}{n c:Nat}{xs:List Value}(hi:L[i]? =some (aJ w0.heap.size e sz q n c xs)) (hs:a.eval s= .slice q n c)
  {p:Option Addr} {m d:Nat} (news:List Value) (hx:a.eval x= .slice p m d) (hr:Sl w p m d sz news) (h1: ∀u∈news,u.oneCell'=true) (hn:n+m≤1099511627776)
  (hk: ∀q' c' w',Mem w0 w' (L.set i (aJ w0.heap.size e sz q' (n+m) c' (xs++news)))→K (a.put o.dst (.slice q' (n+m) c')) w'):
  if Region.wanted o (yielded ops a.tmps)=true then Oper.wp P o a w K Q else E0:=by
 have hw:Region.wanted o (yielded ops a.tmps)=true:=by simp[Region.wanted,hgd]
 rw[if_pos hw]
 exact aA8 E s x ho h i hi hs news hx hr h1 hn hk
end
theorem eA (w:World)(cs:Array Value)(t:TypeId)(n sz g:Nat)(hg:w.heap.size=g)(h:cs.size=n*sz)(hn:n≤maxLen):Sl (w.alloc (.cells cs t)) (some ⟨g,0,none⟩) n n sz cs.toList:=by
 subst hg
 exact⟨by simpa using h,Nat.le_refl _,hn,fun _=>⟨w.heap.size,0,rfl,by simp,fun k hk=>by rw[Nat.zero_add,(Blk.new w t cs).cell k];simp⟩⟩
theorem Mem.hi {w0 w:World}{L:List Item}(h:Mem w0 w L)(i:Nat){g:Nat}{it:Item}(hi:L[i]? =Option.some it:=by exact rfl) (hg:it.adr g:=by exact rfl):g<w.heap.size:=(h.lt hi hg).2
theorem Mem.b1 (w:World){t0:TypeId}{c0:Array Value}:Mem w (w.alloc (.cells c0 t0)) [aF w.heap.size (w.heap.size) t0 c0]:=(Mem.start w).blkNew t0 c0 (w.heap.size) (by simp)
theorem Mem.b2 (w:World){t0 t1:TypeId}{c0 c1:Array Value}:Mem w ((w.alloc (.cells c0 t0)).alloc (.cells c1 t1)) [aF w.heap.size (w.heap.size+1) t1 c1,aF w.heap.size (w.heap.size) t0 c0]:=((Mem.start w).blkNew t0 c0 (w.heap.size) (by simp)).blkNew t1 c1 (w.heap.size+1) (by simp)
theorem Mem.b3 (w:World){t0 t1 t2:TypeId}{c0 c1 c2:Array Value}:Mem w (((w.alloc (.cells c0 t0)).alloc (.cells c1 t1)).alloc (.cells c2 t2)) [aF w.heap.size (w.heap.size+1+1) t2 c2,aF w.heap.size (w.heap.size+1) t1 c1,aF w.heap.size (w.heap.size) t0 c0]:=(((Mem.start w).blkNew t0 c0 (w.heap.size) (by simp)).blkNew t1 c1 (w.heap.size+1) (by simp)).blkNew t2 c2 (w.heap.size+1+1) (by simp)
theorem Mem.b3t (w:World){t0 t1 t2:TypeId}{c0 c1 c2:Array Value}:Mem w (((w.alloc (.cells c0 t0)).alloc (.cells c1 t1)).alloc (.cells c2 t2)) [aF w.heap.size (w.heap.size+2) t2 c2,aF w.heap.size (w.heap.size+1) t1 c1,aF w.heap.size (w.heap.size) t0 c0]:=(((Mem.start w).blkNew t0 c0 (w.heap.size) (by simp)).blkNew t1 c1 (w.heap.size+1) (by simp)).blkNew t2 c2 (w.heap.size+2) (by simp)
theorem Mem.b4 (w:World){t0 t1 t2 t3:TypeId}{c0 c1 c2 c3:Array Value}:Mem w ((((w.alloc (.cells c0 t0)).alloc (.cells c1 t1)).alloc (.cells c2 t2)).alloc (.cells c3 t3)) [aF w.heap.size (w.heap.size+1+1+1) t3 c3,aF w.heap.size (w.heap.size+1+1) t2 c2,aF w.heap.size (w.heap.size+1) t1 c1,aF w.heap.size (w.heap.size) t0 c0]:=((((Mem.start w).blkNew t0 c0 (w.heap.size) (by simp)).blkNew t1 c1 (w.heap.size+1) (by simp)).blkNew t2 c2 (w.heap.size+1+1) (by simp)).blkNew t3 c3 (w.heap.size+1+1+1) (by simp)
theorem Mem.b4t (w:World){t0 t1 t2 t3:TypeId}{c0 c1 c2 c3:Array Value}:Mem w ((((w.alloc (.cells c0 t0)).alloc (.cells c1 t1)).alloc (.cells c2 t2)).alloc (.cells c3 t3)) [aF w.heap.size (w.heap.size+3) t3 c3,aF w.heap.size (w.heap.size+2) t2 c2,aF w.heap.size (w.heap.size+1) t1 c1,aF w.heap.size (w.heap.size) t0 c0]:=((((Mem.start w).blkNew t0 c0 (w.heap.size) (by simp)).blkNew t1 c1 (w.heap.size+1) (by simp)).blkNew t2 c2 (w.heap.size+2) (by simp)).blkNew t3 c3 (w.heap.size+3) (by simp)
end Go.Proofs.YtahglfakiobbcaaGreatDoor
namespace Go.Proofs.YtahglfakiobbcaaGreatDoor
open Go.RowKit
set_option linter.unusedVariables false
set_option linter.unusedSimpArgs false
set_option maxRecDepth 100000 in
set_option maxHeartbeats 1000000 in
theorem fT (aA aB c:Int)(p:Option Addr)(n cap:Nat)(w:World)(hn:n≤12):Calls Tryz.prog 120 #[aK aA aB p n cap,.int .i64 c] w fun e w'=>e= .returned (.bool (decide (0≤c∧c<n)))∧Ext w w':=by
 by_cases h0:0≤c
 ·have d0:decide (0≤c)=true:=by simp[h0]
  by_cases h1:c<n
  ·have d1:decide (c<(n:Int))=true:=by simp[h1]
   go_enter Tryz.func120,Tryz.ntmps120
   go_wp2
   go_ret
   exact⟨aT (by simp[h0,h1]),xE⟩
  ·have d1:decide (c<(n:Int))=false:=by simp;omega
   go_enter Tryz.func120,Tryz.ntmps120
   go_wp2
   go_ret
   exact⟨aT (by simp[h0,h1]),xE⟩
 ·have d0:decide (0≤c)=false:=by simp;omega
  go_enter Tryz.func120,Tryz.ntmps120
  go_wp2
  go_ret
  exact⟨aT (by simp[h0]),xE⟩
set_option maxRecDepth 100000 in
set_option maxHeartbeats 1000000 in
theorem jH (aA a b:Int)(w:World)(h0:0≤a)(h1:a≤100)(h2:0≤b)(h3:b≤100)(h4:2≤aA)(h5:aA≤4):Calls Tryz.prog 121 #[.int .i64 aA,.int .i64 a,.int .i64 b] w fun e w'=>e= .returned (.int .i64 (aV aA a b))∧Ext w w':=by
 have q0: ¬(aA=0):=by omega
 have r1:a.tmod aA=a%aA:=IntWalk.rem_in _ _ h0
 have r2:b.tmod aA=b%aA:=IntWalk.rem_in _ _ h2
 have d1:IntKind.i64.wrap (a.tdiv aA)=a/aA:=IntWalk.i64_quo _ _ (by omega)
 have d2:IntKind.i64.wrap (b.tdiv aA)=b/aA:=IntWalk.i64_quo _ _ (by omega)
 have e1:=Int.emod_nonneg a q0
 have e2:=Int.emod_nonneg b q0
 have e3:=Int.emod_lt_of_pos a (show 0<aA by omega)
 have e4:=Int.emod_lt_of_pos b (show 0<aA by omega)
 have e5:=Int.ediv_nonneg h0 (show 0≤aA by omega)
 have e6:=Int.ediv_nonneg h2 (show 0≤aA by omega)
 have e7:=Int.ediv_le_self aA h0
 have e8:=Int.ediv_le_self aA h2
 have s1:IntKind.i64.wrap (max (a%aA-b%aA) (-(a%aA-b%aA))+max (a/aA-b/aA) (-(a/aA-b/aA)))=aV aA a b:=by
  rw[IntWalk.i64_in _ (by omega)];unfold aV lM;omega
 have s2:IntKind.i64.wrap (a%aA-b%aA)=a%aA-b%aA:=IntWalk.i64_in _ (by omega)
 have s3:IntKind.i64.wrap (a/aA-b/aA)=a/aA-b/aA:=IntWalk.i64_in _ (by omega)
 have s4:IntKind.i64.wrap (-(a%aA-b%aA))= -(a%aA-b%aA):=IntWalk.i64_in _ (by omega)
 have s5:IntKind.i64.wrap (-(a/aA-b/aA))= -(a/aA-b/aA):=IntWalk.i64_in _ (by omega)
 go_enter Tryz.func121,Tryz.ntmps121
 go_wp2
 go_quiet (fail)
 go_wp2
 go_quiet (fail)
 go_wp2
 go_ret
 exact⟨dR rfl,xE⟩
set_option maxRecDepth 100000 in
set_option maxHeartbeats 1000000 in
theorem aEa (aA aB cell:Int)(p:Option Addr)(n cap:Nat)(w:World)(hn:n≤12)(h0:0≤cell)(h1:cell<n)
  (HV:Hid (∀w',Ext w w'→Calls Tryz.prog 73 #[aK aA aB p n cap] w' fun e w''=>e= .returned (.bool true)∧Ext w' w''))
  (HH:Hid (∀w',Calls Tryz.prog 120 #[aK aA aB p n cap,.int .i64 cell] w' fun e w''=>e= .returned (.bool true)∧Ext w' w''))
  (HA:Hid (∀(k:Nat),k<n→ ∀w',Calls Tryz.prog 121 #[.int .i64 aA,.int .i64 cell,.int .i64 (k:Int)] w' fun e w''=>e= .returned (.int .i64 (aV aA cell k))∧Ext w' w'')):
  Calls Tryz.prog 155 #[aK aA aB p n cap,.int .i64 cell] w (bB (gH aA n cell) w):=by
 go_enter Tryz.func155,Tryz.ntmps155
 go_wp2_with fail
 refine(HV.out _ xE).mono ?_
 rintro e w1 ⟨rfl,hx1⟩
 have B1:=xQ ((Blk.new w TH3 #[.int .i64 aA,.int .i64 aB,.slice p n cap]).ext hx1)
 have X1:=xQ (show Ext w w1 from xE)
 have hsz:=B1.out.lt
 obtain⟨b0,b1,b2⟩:=B1.out.cells3
 clear hx1
 go_wp2_with fail
 refine(HH.out _).mono ?_
 rintro e w2 ⟨rfl,hx2⟩
 clear b0 b1 b2
 have B2:=xQ (B1.out.ext hx2)
 have X2:=xQ (X1.out.trans hx2)
 have hsz2:=B2.out.lt
 obtain⟨b0,b1,b2⟩:=B2.out.cells3
 clear hx2 B1 X1 hsz
 go_wp2
 go_loopw [5,19] (fun v i wr=> ∃(k:Nat) (q:Option Addr) (m c:Nat),k≤n∧i= .int .i64 k∧v= .slice q m c∧m≤k∧wr.ownsRow (w.heap.size+1) TI 1 (.slice q m c) m (ivs (eE (fun b=>decide (aV aA cell b=1)) k))∧Ext w wr∧Blk wr w.heap.size TH3 #[.int .i64 aA,.int .i64 aB,.slice p n cap]) (fun _ i _=>n-(intOf i).toNat)
 case atStart=>exact⟨0,_,0,0,Nat.zero_le _,rfl,rfl,Nat.le_refl _,World.ownsRow_nil _ _ _ _,X2.out,B2.out⟩
 case round=>
  clear b0 b1 b2 B2 X2
  obtain⟨k,q,m,c,hk,rfl,rfl,hmk,hown,hEw,hB⟩:=hrel
  have HO:=xQ hown
  have HB:=xQ hB
  have hsz:w.heap.size<wr.heap.size:=hB.lt
  clear hown hB
  obtain⟨b0,b1,b2⟩:=HB.out.cells3
  by_cases hlt:k<n
  ·go_wp2_with fail
   refine(HA.out k hlt _).mono ?_
   rintro e w1 ⟨rfl,h1⟩
   have HO1:=xQ (bC HO.out h1)
   have HB1:=xQ (HB.out.ext h1)
   have hEw1:=xQ (hEw.trans h1)
   have hsz1:w.heap.size<w1.heap.size:=HB1.out.lt
   clear h1 b0 b1 b2 HO HB hEw
   by_cases hx0:aV aA cell k=1
   ·have t0:(aV aA cell k==1)=true:=by simp[hx0]
    have hfin:Hid (eE (fun b=>decide (aV aA cell b=1)) (k+1)=eE (fun b=>decide (aV aA cell b=1)) k++ [(k:Int)]):=by
     show _=_;rw[eE,if_pos (by simpa using hx0)]
    clear hx0
    go_wp2_with (at_builtin;refine cS eT rfl _ _ rfl (w.heap.size+1) _ _ _ rfl (HO1.out.alloc _) _ _ (k:Int) _ rfl (by simp) (by omega) (by first|(simp;done)|(simp;omega)) ?_;intro p' cap' w2 hown1 hg1;have HO2:=xQ hown1;have hE1:Ext w w2:=Ext.own (hEw1.out.alloc _) (HO1.out.alloc _) hg1 (by omega);have HB2:=xQ (nD HO1.out hg1 HB1.out);clear hown1 hg1)
    go_roundw
    case rel=>exact⟨k+1,p',m+1,cap',by omega,by go_num,rfl,by omega,by rw[hfin.out];exact HO2.out,hE1,HB2.out⟩
    case measure=>simp[intOf];omega
   ·have t0:(aV aA cell k==1)=false:=by simp[hx0]
    have hfin:Hid (eE (fun b=>decide (aV aA cell b=1)) (k+1)=eE (fun b=>decide (aV aA cell b=1)) k):=by
     show _=_;rw[eE,if_neg (by simpa using hx0),List.append_nil]
    clear hx0
    go_wp2
    go_roundw
    case rel=>exact⟨k+1,q,m,c,by omega,by go_num,rfl,by omega,by rw[hfin.out];exact HO1.out,hEw1.out,HB1.out⟩
    case measure=>simp[intOf];omega
  ·have hfin:Hid (eE (fun b=>decide (aV aA cell b=1)) k=gH aA n cell):=by
    show _=_;unfold gH;rw[show k=n by omega]
   go_wp2
   go_ret
   exact dB (by rw[←hfin.out];have:=HO.out.1;simpa using this) (by rw[←hfin.out];exact bG HO.out (Nat.le_succ _)) hEw
theorem zU (aA aB cell:Int)(p:Option Addr)(n cap:Nat)(xs:List Int)(w:World)(hS:Sl w p n cap 1 (ivs xs))(hok:aP aA aB xs=true)(h0:0≤cell)(h1:cell<n):
  Calls Tryz.prog 155 #[aK aA aB p n cap,.int .i64 cell] w (bB (gH aA n cell) w):=by
 have hl:=hS.ilen
 obtain⟨g1,g2,g3,g4,g5,g6,g7,g8,g9⟩:=bL hok
 refine aEa aA aB cell p n cap w (by omega) h0 h1 (fun w' hx=>by have:=eR aA aB p n cap xs w' (hS.ext hx);rwa[hok]at this) (fun w'=> ?_) (fun k hk w'=>jH aA cell k w' h0 (by omega) (by omega) (by omega) (by omega) (by omega))
 have:=fT aA aB cell p n cap w' (by omega)
 rwa[decide_eq_true (⟨h0,h1⟩:0≤cell∧cell<n)]at this
end Go.Proofs.YtahglfakiobbcaaGreatDoor
namespace Go.Proofs.YtahglfakiobbcaaGreatDoor
set_option linter.unusedVariables false
def iL (aA:Int)(n u:Nat):Nat:=((aR aA n u).find? (fun(v:Nat)=>decide (aV aA v 0=aV aA u 0-1))).getD 0
def cH (aA:Int)(n:Nat):Nat→Nat→List Nat
 |0,u=> [u]
 |f+1,u=>if u=0 then [u]else u::cH aA n f (iL aA n u)
def fN:List (Int×Nat):= [(2,4),(2,6),(3,6),(3,9),(4,8),(4,12)]
def aFo (aA:Int)(n:Nat):Bool:=
 (List.range n).all fun u=>decide (0≤aV aA u 0∧aV aA u 0≤5)&&decide (aV aA u 0=0↔u=0)
  &&(decide (u=0) || (decide (iL aA n u<n)&&decide (iL aA n u∈aR aA n u)&&decide (aV aA (iL aA n u) 0=aV aA u 0-1)))
  &&(List.range n).all fun v=> !decide (v∈aR aA n u) || decide (aV aA u 0≤aV aA v 0+1)
theorem aEi:(fN.all fun g=>aFo g.1 g.2)=true:=by decide+kernel
theorem mA {aA aB:Int}{n:Nat}(h0:2≤aA)(h1:aA≤4)(h2:2≤aB)(h3:aB≤3)(hn:(n:Int)=aA*aB):(aA,n)∈fN:=by
 have hw:aA=2∨aA=3∨aA=4:=by omega
 have hd:aB=2∨aB=3:=by omega
 rcases hw with rfl|rfl|rfl<;>rcases hd with rfl|rfl
 ·obtain rfl:n=4:=by omega
  decide
 ·obtain rfl:n=6:=by omega
  decide
 ·obtain rfl:n=6:=by omega
  decide
 ·obtain rfl:n=9:=by omega
  decide
 ·obtain rfl:n=8:=by omega
  decide
 ·obtain rfl:n=12:=by omega
  decide
theorem bM {aA:Int}{n:Nat}(h:(aA,n)∈fN){u:Nat}(hu:u<n):
  0≤aV aA u 0∧aV aA u 0≤5∧(aV aA u 0=0↔u=0)
  ∧(u≠0→iL aA n u<n∧iL aA n u∈aR aA n u∧aV aA (iL aA n u) 0=aV aA u 0-1)
  ∧ ∀v∈aR aA n u,aV aA u 0≤aV aA v 0+1:=by
 have h1:=List.all_eq_true.1 aEi _ h
 have h2:=List.all_eq_true.1 h1 u (List.mem_range.2 hu)
 simp only[Bool.and_eq_true,Bool.or_eq_true,decide_eq_true_eq]at h2
 obtain⟨⟨⟨⟨a,b⟩,c⟩,d⟩,e⟩:=h2
 refine⟨a,b,c,fun h=> ?_,fun v hv=> ?_⟩
 ·rcases d with d|d
  ·exact absurd d h
  ·exact⟨d.1.1,d.1.2,d.2⟩
 ·have:=List.all_eq_true.1 e v (List.mem_range.2 (bI.1 hv).1)
  simpa[hv]using this
theorem sV {aA:Int}{n:Nat}(h:(aA,n)∈fN){adj:Nat→List Nat}(ha: ∀u,adj u=aR aA n u){D:List Int}(hD:nF adj [0] n D){u:Nat}(hu:u<n):D.getD u 0=aV aA u 0:=by
 have hn:0<n:=by omega
 have up: ∀(d:Nat) v,v<n→aV aA v 0=d→0≤D.getD v 0∧D.getD v 0≤d:=by
  intro d
  induction d with
  |zero=>
   intro v hv e
   have e0:=(bM h hv).2.2.1.1 e
   have:=(hD.zero v hv).2 (by simp[e0])
   omega
  |succ d ih=>
   intro v hv e
   have hv0:v≠0:=fun e0=>by have:=(bM h hv).2.2.1.2 e0;omega
   obtain⟨h1,h2,h3⟩:=(bM h hv).2.2.2.1 hv0
   obtain⟨i1,i2⟩:=ih _ h1 (by omega)
   have:=hD.edge _ v h1 i1 (by rw[ha];exact eI hv h2)
   omega
 have down: ∀(d:Nat) v,v<n→D.getD v 0=d→aV aA v 0≤d:=by
  intro d
  induction d with
  |zero=>
   intro v hv e
   have hm:=(hD.zero v hv).1 e
   simp at hm
   have:=(bM h hv).2.2.1.2 hm
   omega
  |succ d ih=>
   intro v hv e
   obtain⟨x,hx,hm,e2⟩:=hD.back v hv (by omega)
   have i1:=ih x hx (by omega)
   rw[ha]at hm
   have:=(bM h hv).2.2.2.2 x (eI hx hm)
   omega
 obtain⟨a,b,_⟩:=bM h hu
 obtain⟨c,e⟩:=up (aV aA u 0).toNat u hu (by omega)
 have:=down (D.getD u 0).toNat u hu (by omega)
 omega
theorem aAl {α:Type}{p:α→Bool}{d x:α}: ∀ {l:List α},x∈l→p x=true→ ∃j,j<l.length∧l[j]? =some ((l.find? p).getD d)∧p ((l.find? p).getD d)=true∧ ∀i y,i<j→l[i]? =some y→p y=false:=by
 intro l
 induction l with
 |nil=>intro h;simp at h
 |cons a l ih=>
  intro hx hp
  by_cases ha:p a=true
  ·refine⟨0,by simp,by simp[ha],by simp[ha],fun i y hi=>by omega⟩
  ·have ha':p a=false:=by simpa using ha
   have hxl:x∈l:=by
    rcases List.mem_cons.1 hx with e|e
    ·subst e;exact absurd hp ha
    ·exact e
   obtain⟨j,h1,h2,h3,h4⟩:=ih hxl hp
   have e:((a::l).find? p).getD d=(l.find? p).getD d:=by rw[List.find?_cons_of_neg (by simp[ha'])]
   refine⟨j+1,by simp;omega,by rw[e];simpa using h2,by rw[e];exact h3,?_⟩
   intro i y hi hy
   cases i with
   |zero=>simp at hy;subst hy;exact ha'
   |succ i=>exact h4 i y (by omega) (by simpa using hy)
theorem aAb {aA:Int}{n:Nat}(h:(aA,n)∈fN){u:Nat}(hu:u<n)(h0:u≠0):
  ∃j,j<(aR aA n u).length∧(aR aA n u)[j]? =some (iL aA n u)∧ ∀i v,i<j→(aR aA n u)[i]? =some v→aV aA v 0≠aV aA u 0-1:=by
 obtain⟨a,b,c⟩:=(bM h hu).2.2.2.1 h0
 obtain⟨j,h1,h2,_,h4⟩:=aAl (p:=fun(v:Nat)=>decide (aV aA v 0=aV aA u 0-1)) (d:=0) b (by simpa using c)
 exact⟨j,h1,h2,fun i v hi hv=>by simpa using h4 i v hi hv⟩
theorem jJ {aA:Int}{n:Nat}(h:(aA,n)∈fN): ∀(f u:Nat),u<n→aV aA u 0≤f→((cH aA n f u).length:Int)=aV aA u 0+1:=by
 intro f
 induction f with
 |zero=>
  intro u hu hf
  have:=(bM h hu).1
  simp[cH];omega
 |succ f ih=>
  intro u hu hf
  unfold cH
  by_cases h0:u=0
  ·rw[if_pos h0]
   have:=(bM h hu).2.2.1.2 h0
   simp;omega
  ·rw[if_neg h0]
   obtain⟨a,b,c⟩:=(bM h hu).2.2.2.1 h0
   have:=ih _ a (by omega)
   simp;omega
theorem nH (aA:Int)(n f u:Nat):(cH aA n f u)[0]? =some u:=by
 cases f with
 |zero=>simp[cH]
 |succ f=>unfold cH;split<;>simp
theorem oG {aA:Int}{n:Nat}(h:(aA,n)∈fN): ∀(f u k x y:Nat),u<n→(cH aA n f u)[k]? =some x→(cH aA n f u)[k+1]? =some y→y<n∧y∈aR aA n x:=by
 intro f
 induction f with
 |zero=>intro u k x y hu hx hy;simp[cH]at hy
 |succ f ih=>
  intro u k x y hu hx hy
  unfold cH at hx hy
  by_cases h0:u=0
  ·rw[if_pos h0]at hy;simp at hy
  ·rw[if_neg h0]at hx hy
   obtain⟨a,b,c⟩:=(bM h hu).2.2.2.1 h0
   cases k with
   |zero=>
    simp at hx hy
    have:=nH aA n f (iL aA n u)
    rw[hy]at this
    injection this with e
    subst hx e
    exact⟨a,b⟩
   |succ k=>exact ih _ k x y a (by simpa using hx) (by simpa using hy)
theorem aA9 {aA:Int}{n:Nat}(h:(aA,n)∈fN): ∀(f u x:Nat),u<n→x∈cH aA n f u→x<n:=by
 intro f
 induction f with
 |zero=>intro u x hu hx;simp[cH]at hx;omega
 |succ f ih=>
  intro u x hu hx
  unfold cH at hx
  by_cases h0:u=0
  ·rw[if_pos h0]at hx;simp at hx;omega
  ·rw[if_neg h0]at hx
   obtain⟨a,b,c⟩:=(bM h hu).2.2.2.1 h0
   rcases List.mem_cons.1 hx with e|e
   ·omega
   ·exact ih _ x a e
end Go.Proofs.YtahglfakiobbcaaGreatDoor
