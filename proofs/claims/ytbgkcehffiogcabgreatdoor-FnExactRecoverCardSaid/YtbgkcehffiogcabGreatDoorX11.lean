/-
  Texts of this proof, packed (@packed).
-/
import Derived.Test.YtbgkcehffiogcabGreatDoorX10
namespace Go.Proofs.YtbgkcehffiogcabGreatDoor
open Go.RowKit
set_option linter.unusedSimpArgs false
set_option linter.unusedVariables false
set_option maxHeartbeats 8000000
set_option maxRecDepth 100000
section
open Go
structure Item where
 adr:Nat→Prop
 ok:World→Prop
structure Item.Good (it:Item) (B:Nat):Prop where
 lt: ∀w,it.ok w→ ∀g,it.adr g→B≤g∧g<w.heap.size
 stay: ∀w w',it.ok w→w.heap.size≤w'.heap.size→(∀g,it.adr g→w'.heap[g]? =w.heap[g]?)→it.ok w'
def aI (B g:Nat)(t:TypeId)(cs:Array Value):Item:=⟨fun x=>g=x,fun w=>B≤g∧Blk w g t cs⟩
def aJ (B:Nat)(e:TypeId)(sz:Nat)(q:OA)(n c:Nat)(xs:List Value):Item:=⟨fun x=>(Value.slice q n c).ownBlock=some x,fun w=>w.ownsRow B e sz (.slice q n c) n xs⟩
theorem aD8 (B g:Nat)(t:TypeId)(cs:Array Value):(aI B g t cs).Good B:=
 ⟨fun w h g' hg=>by obtain rfl:g=g':=hg;exact⟨h.1,h.2.lt⟩,fun w w' h _ hs=>⟨h.1,(hs g rfl).trans h.2⟩⟩
theorem uY {w w':World}{B n sz:Nat}{e:TypeId}{v:Value}{xs:List Value}(h:w.ownsRow B e sz v n xs)(hs: ∀g,v.ownBlock=some g→w'.heap[g]? =w.heap[g]?):w'.ownsRow B e sz v n xs:=by
 refine⟨h.1,?_⟩;rcases h.2 with h2|⟨g,a,b,h1,h3,h4,h5⟩
 ·exact .inl h2
 refine .inr ⟨g,a,b,h1,h3,?_,h5⟩;rw[hs g (by rw[h1];rfl)];exact h4
theorem kK (B:Nat)(e:TypeId)(sz:Nat)(q:OA)(n c:Nat)(xs:List Value):(aJ B e sz q n c xs).Good B:=
 ⟨fun w h g hg=>aUo h g hg,fun w w' h _ hs=>uY h hs⟩
theorem gO {w:World}{B B' n sz:Nat}{e:TypeId}{v:Value}{xs:List Value}(h:w.ownsRow B e sz v n xs)(hb:B'≤B):w.ownsRow B' e sz v n xs:=by
 refine⟨h.1,?_⟩;rcases h.2 with h2|⟨g,a,b,e1,c,r⟩
 ·exact .inl h2
 exact .inr ⟨g,a,b,e1,aTb hb c,r⟩
structure RowD where
 q:Option Addr
 n:Nat
 c:Nat
 xs:List Value
abbrev RowD.v (r:RowD):Value:= .slice r.q r.n r.c
def aFi (B:Nat)(eo ei:TypeId)(sz:Nat)(q:OA)(c:Nat)(rows:List RowD)(w:World):Prop:=
 w.ownsRow B eo 1 (.slice q rows.length c) rows.length (rows.map RowD.v)∧ ∀r∈rows,w.ownsRow B ei sz r.v r.n r.xs
def jO (B:Nat)(ei:TypeId)(sz:Nat)(rows:List RowD):Item:=⟨fun x=> ∃r∈rows,r.v.ownBlock=some x,fun w=> ∀r∈rows,w.ownsRow B ei sz r.v r.n r.xs⟩
theorem zN (B:Nat)(ei:TypeId)(sz:Nat)(rows:List RowD):(jO B ei sz rows).Good B:=
 ⟨fun w h g ⟨r,hr,hg⟩=>aUo (h r hr) g hg,fun w w' h _ hs r hr=>uY (h r hr) (fun g hg=>hs g ⟨r,hr,hg⟩)⟩
def tJ (B:Nat)(eo ei:TypeId)(sz:Nat)(q:OA)(c:Nat)(rows:List RowD):Item:=⟨fun x=>(Value.slice q rows.length c).ownBlock=some x∨ ∃r∈rows,r.v.ownBlock=some x,aFi B eo ei sz q c rows⟩
theorem aIy (B:Nat)(eo ei:TypeId)(sz:Nat)(q:OA)(c:Nat)(rows:List RowD):(tJ B eo ei sz q c rows).Good B:=
 ⟨fun w h g hg=>by
  rcases hg with hg|⟨r,hr,hg⟩
  ·exact aUo h.1 g hg
  ·exact aUo (h.2 r hr) g hg,
  fun w w' h _ hs=>⟨uY h.1 (fun g hg=>hs g (.inl hg)),fun r hr=>uY (h.2 r hr) (fun g hg=>hs g (.inr ⟨r,hr,hg⟩))⟩⟩
structure Mem (w0 w:World) (L:List Item):Prop where
 ext:Ext w0 w
 good: ∀it∈L,it.Good w0.heap.size
 ok: ∀it∈L,it.ok w
 apart:L.Pairwise (fun a b=> ∀g,a.adr g→ ¬b.adr g)
section
variable {w0 w w':World} {L:List Item}
theorem Mem.start (w:World):Mem w w []:=⟨Ext.refl w,fun _ h=>absurd h (by simp),fun _ h=>absurd h (by simp),List.Pairwise.nil⟩
theorem Mem.of (h:Ext w0 w):Mem w0 w []:=⟨h,fun _ h=>absurd h (by simp),fun _ h=>absurd h (by simp),List.Pairwise.nil⟩
theorem Mem.adv (h:Mem w0 w L)(hx:Ext w w'):Mem w0 w' L:=
 ⟨h.ext.trans hx,h.good,fun it hi=>(h.good it hi).stay w w' (h.ok it hi) hx.sz (fun g hg=>hx.block g ((h.good it hi).lt w (h.ok it hi) g hg).2),h.apart⟩
theorem Mem.cons {it:Item}(h:Mem w0 w L)(hg:it.Good w0)(ho:it.ok w)(hn: ∀g,it.adr g→ ∀j∈L,¬j.adr g):Mem w0 w (it::L):=
 ⟨h.ext,fun x hx=>by
  rcases aTj.1 hx with rfl|hx
  ·exact hg
  ·exact h.good x hx,fun x hx=>by
  rcases aTj.1 hx with rfl|hx
  ·exact ho
  ·exact h.ok x hx,List.Pairwise.cons (fun j hj g hg'=>hn g hg' j hj) h.apart⟩
theorem Mem.new {it:Item}(h:Mem w0 w L)(hx:Ext w w')(hg:it.Good w0)(ho:it.ok w')(hn: ∀g,it.adr g→w.heap.size≤g):Mem w0 w' (it::L):=by refine(h.adv hx).cons hg ho (fun g hg' j hj e=> ?_);have h1:=hn g hg';have h2:=((h.good j hj).lt w (h.ok j hj) g e).2;omega
theorem Mem.blkOf {g:Nat}{t:TypeId}{cs:Array Value}(h:Mem w0 w L)(hx:Ext w w')(hb:Blk w' g t cs)(hg:w.heap.size≤g):Mem w0 w' (aI w0 g t cs::L):=
 h.new hx (aD8 _ _ _ _) ⟨aTb h.ext.sz hg,hb⟩ (fun g' hg'=>by obtain rfl:g=g':=hg';exact hg)
theorem Mem.blkNew (h:Mem w0 w L)(t:TypeId)(cs:Array Value)(g:Nat)(hg:w.heap.size=g):Mem w0 (w.alloc (.cells cs t)) (aI w0 g t cs::L):=by subst hg;exact h.blkOf ((Ext.refl w).alloc _) (Blk.new _ _ _) (aT2 _)
theorem Mem.ownNew {b n c sz:Nat}{e:TypeId}{q:OA}{xs:List Value}(h:Mem w0 w L)(hx:Ext w w')(ho:w'.ownsRow b e sz (.slice q n c) n xs)(hb:w.heap.size≤b):Mem w0 w' (aJ w0 e sz q n c xs::L):=
 h.new hx (kK _ _ _ _ _ _ _) (gO ho (aTb h.ext.sz hb)) (fun g hg=>aTb hb (aUo ho g hg).1)
theorem Mem.blkOwn {b n c sz g:Nat}{e t:TypeId}{q:OA}{xs:List Value}{cs:Array Value}(h:Mem w0 w L)(hx:Ext w w')(hb:Blk w' g t cs)(hg:w.heap.size≤g)(ho:w'.ownsRow b e sz (.slice q n c) n xs)(d:w.heap.size≤b)(ht:e≠t):Mem w0 w' (aJ w0 e sz q n c xs::aI w0 g t cs::L):=by
 refine(h.blkOf hx hb hg).cons (kK _ _ _ _ _ _ _) (gO ho (aTb h.ext.sz d)) (fun g' hg' j hj e'=> ?_);replace hg':(Value.slice q n c).ownBlock=some g':=hg';have h1:=(aUo ho g' hg').1;rcases aTj.1 hj with rfl|hj
 ·obtain rfl:g=g':=e';rcases ho.2 with⟨h2,_⟩|⟨g2,cap',cur,h2,_,h3,_⟩
  ·rw[h2]at hg';cases hg'
  rw[h2]at hg';injection hg' with hg';have a:g2=g:=hg';subst a;unfold Blk at hb;rw[hb]at h3;injection h3 with h3;injection h3 with _ h3;exact ht h3.symm
 have h2:=((h.good j hj).lt w (h.ok j hj) g' e').2;omega
theorem Mem.call {n c sz:Nat}{e:TypeId}{q:OA}{xs:List Value}(h:Mem w0 w L)(hx:Ext w w')(ho:w'.ownsRow w e sz (.slice q n c) n xs):Mem w0 w' (aJ w0 e sz q n c xs::L):=h.ownNew hx ho (aT2 _)
theorem Mem.nestNew {b c sz:Nat}{eo ei:TypeId}{q:OA}{rows:List RowD}(h:Mem w0 w L)(hx:Ext w w')(ho:aFi b eo ei sz q c rows w')(hb:w.heap.size≤b):Mem w0 w' (tJ w0 eo ei sz q c rows::L):=
 h.new hx (aIy _ _ _ _ _ _ _) ⟨gO ho.1 (aTb h.ext.sz hb),fun r hr=>gO (ho.2 r hr) (aTb h.ext.sz hb)⟩ (fun g hg=>by
  rcases hg with hg|⟨r,hr,hg⟩
  ·exact aTb hb (aUo ho.1 g hg).1
  ·exact aTb hb (aUo (ho.2 r hr) g hg).1)
theorem Mem.made0 (h:Mem w0 w L)(e:TypeId)(sz g:Nat)(hg:w.heap.size=g):Mem w0 (w.alloc (.cells #[] e)) (aJ w0 e sz (some ⟨g,0,none⟩) 0 0 []::L):=by subst hg;exact h.ownNew ((Ext.refl w).alloc _) (aUc (base:=w.heap.size) w #[] 0 (aT2 _) (by simp[maxLen]) (by simp)) (aT2 _)
theorem aQy {w:World}{e:TypeId}{sz g n:Nat}{cs:Array Value}{B:Nat}(h:Blk w g e cs)(hn:cs.size=n*sz)(hm:n≤maxLen)(hb:B≤g):w.ownsRow B e sz (.slice (some ⟨g,0,none⟩) n n) n cs.toList:=
 ⟨by simpa using hn,.inr ⟨g,n,cs,rfl,hb,h,aT2 _,hm,hn,by rw[aT7 (by simp;omega)]⟩⟩
theorem Mem.lit (h:Mem w0 w L)(e:TypeId)(sz n g:Nat)(cs:Array Value)(hg:w.heap.size=g)(hn:cs.size=n*sz)(hm:n≤maxLen):Mem w0 (w.alloc (.cells cs e)) (aJ w0 e sz (some ⟨g,0,none⟩) n n cs.toList::L):=by subst hg;exact h.ownNew ((Ext.refl w).alloc _) (aQy (Blk.new w e cs) hn hm (aT2 _)) (aT2 _)
theorem Mem.blk {i g B:Nat}{t:TypeId}{cs:Array Value}(h:Mem w0 w L)(hi:L[i]? =some (aI B g t cs)):Blk w g t cs:=(h.ok _ (aT4 hi)).2
theorem Mem.own {i B n c sz:Nat}{e:TypeId}{q:OA}{xs:List Value}(h:Mem w0 w L)(hi:L[i]? =some (aJ B e sz q n c xs)):w.ownsRow B e sz (.slice q n c) n xs:=h.ok _ (aT4 hi)
theorem Mem.nest {i B c sz:Nat}{eo ei:TypeId}{q:OA}{rows:List RowD}(h:Mem w0 w L)(hi:L[i]? =some (tJ B eo ei sz q c rows)):aFi B eo ei sz q c rows w:=h.ok _ (aT4 hi)
theorem Mem.sl {i B n c sz:Nat}{e:TypeId}{q:OA}{xs:List Value}(h:Mem w0 w L)(hi:L[i]? =some (aJ B e sz q n c xs)):Sl w q n c sz xs:=Sl.own (h.own hi)
theorem Mem.lt {i g:Nat}{it:Item}(h:Mem w0 w L)(hi:L[i]? =some it) (hg:it.adr g):w0.heap.size≤g∧g<w.heap.size:=(h.good _ (aT4 hi)).lt w (h.ok _ (aT4 hi)) g hg
theorem Mem.ne {i j g g':Nat}{a b:Item}(h:Mem w0 w L)(c:i<j)(hi:L[i]? =some a) (hj:L[j]? =some b) (ha:a.adr g) (hb:b.adr g'):g≠g':=by rintro rfl;obtain⟨d,rfl⟩:=aT6.1 hi;obtain⟨e,rfl⟩:=aT6.1 hj;exact List.pairwise_iff_getElem.1 h.apart i j d e c g ha hb
theorem Mem.far {i j:Nat}{a b:Item}(h:Mem w0 w L)(d:i≠j)(hi:L[i]? =some a) (hj:L[j]? =some b): ∀g,a.adr g→ ¬b.adr g:=by
 intro g ha hb;rcases Nat.lt_or_gt_of_ne d with e|c
 ·exact h.ne e hi hj ha hb rfl
 exact h.ne c hj hi hb ha rfl
theorem Mem.pick {L':List Item}(h:Mem w0 w L)(is:List Nat)(hd:is.Nodup)(hl:is.map (fun i=>L[i]?)=L'.map some):Mem w0 w L':=by
 have f:is.length=L'.length:=by have:=congrArg List.length hl;simpa using this
 have d: ∀k,(hk:k<L'.length)→L[is[k]'(by omega)]? =some L'[k]:=by intro k hk;have:=congrArg (fun z=>z[k]?) hl;simp only[aTs]at this;rw[aT3 (by omega:k<is.length),aT3 hk]at this;simpa using this
 have c: ∀x∈L',x∈L:=fun x hx=>by obtain⟨k,hk,rfl⟩:=aUp hx;exact aT4 (d k hk)
 refine⟨h.ext,fun x hx=>h.good x (c x hx),fun x hx=>h.ok x (c x hx),List.pairwise_iff_getElem.2 fun a b ha hb hab=> ?_⟩
 exact h.far (fun e=>by
  have:=(List.getElem_inj hd).1 e
  omega) (d a ha) (d b hb)
theorem Mem.join {a b it:Item}(h:Mem w0 w (a::b::L))(hg:it.Good w0)(ho:it.ok w)(hn: ∀g,it.adr g→a.adr g∨b.adr g):Mem w0 w (it::L):=by
 have hp:=List.pairwise_cons.1 h.apart;have c:=List.pairwise_cons.1 hp.2;have h2:Mem w0 w L:=⟨h.ext,fun x hx=>h.good x (by simp[hx]),fun x hx=>h.ok x (by simp[hx]),c.2⟩
 refine h2.cons hg ho (fun g hg' j hj=> ?_);rcases hn g hg' with h3|h3
 ·exact hp.1 j (by simp[hj]) g h3
 exact c.1 j hj g h3
theorem Mem.rowsAdd {B sz c n:Nat}{e:TypeId}{q:OA}{xs:List Value}{rows:List RowD}(hB:B=w0.heap.size)(h:Mem w0 w (aJ B e sz q n c xs::jO B e sz rows::L)):Mem w0 w (jO B e sz (rows++ [⟨q,n,c,xs⟩])::L):=by
 subst hB;refine h.join (zN _ _ _ _) (fun r hr=> ?_) (fun g ⟨r,hr,hg⟩=> ?_)
 ·rcases aTi.1 hr with hr|hr
  ·exact h.ok (jO w0 e sz rows) (by simp) r hr
  obtain rfl:=aTv.1 hr;exact h.own (i:=0) rfl
 rcases aTi.1 hr with hr|hr
 ·exact .inr ⟨r,hr,hg⟩
 obtain rfl:=aTv.1 hr;exact .inl hg
theorem Mem.rows0 {B sz:Nat}{e:TypeId}(hB:B=w0.heap.size)(h:Mem w0 w L):Mem w0 w (jO B e sz []::L):=by subst hB;exact h.cons (zN _ _ _ _) (fun r hr=>by cases hr) (fun g ⟨r,hr,hg⟩=>by cases hr)
theorem Mem.turn {i:Nat}{it d:Item}{row:Option Nat}(h:Mem w0 w L)(hi:L[i]? =some it) (hr: ∀g,row=some g→it.adr g) (hg:d.Good w0) (c:w.grownBy w' row) (ho:d.ok w') (o: ∀g,d.adr g→it.adr g∨g=w.heap.size):Mem w0 w' (L.set i d):=by
 obtain⟨q,p⟩:=aT6.1 hi;have f:=aT4 hi;have m: ∀j,(hj:j<L.length)→j≠i→ ∀g,L[j].adr g→ ¬it.adr g:=by intro j hj l g hg' e;exact h.far l (aT3 hj) hi g hg' e
 have hE:Ext w0 w':=h.ext.grown c (fun k hk=>((h.good it f).lt w (h.ok it f) k (hr k hk)).1);refine⟨hE,fun x hx=> ?_,fun x hx=> ?_,?_⟩
 ·rcases aUd hx with hx|rfl
  ·exact h.good x hx
  exact hg
 ·obtain⟨j,hj,rfl⟩:=aUp hx;rw[aUm]at hj;by_cases hji:i=j
  ·subst hji;rw[List.getElem_set_self];exact ho
  rw[List.getElem_set_ne hji];have hm:=List.getElem_mem hj;refine(h.good _ hm).stay w w' (h.ok _ hm) c.size (fun g hg'=> ?_);exact c.block g ((h.good _ hm).lt w (h.ok _ hm) g hg').2 (fun e=>m j hj (Ne.symm hji) g hg' (hr g e.symm))
 refine List.pairwise_iff_getElem.2 fun a b ha hb hab g hga hgb=> ?_
 rw[aUm]at ha hb;have n: ∀j,(hj:j<L.length)→j≠i→ ∀g,L[j].adr g→ ¬d.adr g:=by
  intro j hj l g hg' e;have hm:=List.getElem_mem hj;rcases o g e with h1|h1
  ·exact m j hj l g hg' h1
  have:=((h.good _ hm).lt w (h.ok _ hm) g hg').2;omega
 by_cases hai:i=a
 ·subst hai;rw[List.getElem_set_self]at hga;rw[List.getElem_set_ne (by omega)]at hgb;exact n b hb (by omega) g hgb hga
 rw[List.getElem_set_ne hai]at hga;by_cases hbi:i=b
 ·subst hbi;rw[List.getElem_set_self]at hgb;exact n a ha (by omega) g hga hgb
 rw[List.getElem_set_ne hbi]at hgb;exact List.pairwise_iff_getElem.1 h.apart a b ha hb hab g hga hgb
theorem aCv (w:World)(g k:Nat)(u:Value):w.grownBy (w.setCell ⟨g,k,none⟩ u) (some g):=
 ((ExtR.refl g w).setCell (p:=⟨g,k,none⟩) (.inl rfl) u:ExtR g w _)
theorem Mem.store {i g B:Nat}{t:TypeId}{cs:Array Value}(h:Mem w0 w L)(hi:L[i]? =some (aI B g t cs)) (k:Nat) (u:Value):Mem w0 (w.setCell ⟨g,k,none⟩ u) (L.set i (aI w0 g t (cs.setIfInBounds k u))):=
 h.turn hi (fun g' e=>by injection e) (aD8 _ _ _ _) (aCv w g k u) ⟨(h.lt hi rfl).1,(h.blk hi).set k u⟩ (fun g' e=> .inl e)
theorem Mem.ostore {i g n c sz:Nat}{e:TypeId}{xs:List Value}(h:Mem w0 w L)(hi:L[i]? =some (aJ w0 e sz (some ⟨g,0,none⟩) n c xs)) (k:Nat) (u:Value):Mem w0 (w.setCell ⟨g,k,none⟩ u) (L.set i (aJ w0 e sz (some ⟨g,0,none⟩) n c (xs.set k u))):=
 h.turn hi (fun g' e=>e) (kK _ _ _ _ _ _ _) (aCv w g k u) ((h.own hi).stored k u).1 (fun g' e=> .inl e)
theorem Mem.app {i n c sz n' c':Nat}{e:TypeId}{q q':OA}{xs a:List Value}(h:Mem w0 w L)(hi:L[i]? =some (aJ w0 e sz q n c xs)) (ho:w'.ownsRow w0 e sz (.slice q' n' c') n' a) (hg:w.grownBy w' (Value.slice q n c).ownBlock)
  (b:(Value.slice q' n' c').ownBlock=(Value.slice q n c).ownBlock∨(Value.slice q' n' c').ownBlock=some w):Mem w0 w' (L.set i (aJ w0 e sz q' n' c' a)):=
 h.turn hi (fun g e=>e) (kK _ _ _ _ _ _ _) hg ho (fun g e=>by
  have e':(Value.slice q' n' c').ownBlock=some g:=e;rcases b with h1|h1
  ·exact .inl (by show(Value.slice q n c).ownBlock=some g;rw[←h1];exact e')
  ·rw[h1]at e';injection e' with e';exact .inr e'.symm)
theorem Mem.some {i n c sz B:Nat}{e:TypeId}{q:OA}{xs:List Value}(h:Mem w0 w L)(hi:L[i]? =Option.some (aJ B e sz q n c xs)) (hn:0<n): ∃g,q=Option.some ⟨g,0,none⟩∧w0.heap.size≤g∧g<w.heap.size:=by
 rcases(h.own hi).2 with⟨h1,h2⟩|⟨g,cap',cur,h1,h3⟩
 ·omega
 injection h1 with e1 e2 e3;subst e1;have:=h.lt hi (g:=g) rfl;exact⟨g,rfl,this.1,this.2⟩
end
section
variable {P:Program} {w0 w:World} {L:List Item} {ops:Array Oper} {rest:List Oper} {o:Oper} {a:Act} {Q:Exit→Act→World→Prop}
theorem aG7 (w:World){t e ty:TypeId}{sz:Nat}(E:ElT P t e sz){i:Nat}{q:OA}{n c:Nat}{xs:List Value}(h:Mem w0 w L)(hi:L[i]? =some (aJ w0 e sz q n c xs))
  (p:OA) (m d:Nat) (news:List Value) (hs:Sl w p m d sz news) (h1: ∀u∈news,u.oneCell'=true) (hn:n+m≤1099511627776):
  ∃q' c' w',(Builtin.append_ #[t,t] ty #[.slice q n c,.slice p m d]).run P w= .ok (.slice q' (n+m) c') w'∧Mem w0 w' (L.set i (aJ w0 e sz q' (n+m) c' (xs++news))):=by
 obtain⟨l,z,a,hz,aa,v,ab⟩:=E.info;have f:=h.own hi;have r: ∀ad:Addr,p=some ad∨m=0→(∀j u,news[j]? =some u→w.cell? (ad.add j)=some u)→ ∃q' c' w',(Builtin.append_ #[t,t] ty #[.slice q n c,.slice (some ad) m d]).run P w= .ok (.slice q' (n+m) c') w'∧Mem w0 w' (L.set i (aJ w0 e sz q' (n+m) c' (xs++news))):=by
  intro ad _ k;have s:(n+m)*l.bytes≤140737488355328:=by have:(n+m)*l.bytes≤(n+m)*64:=Nat.mul_le_mul_left _ v;omega
  obtain⟨v',w',o,h2,h3,_,h5⟩:=run_append_own_at (P:=P) w w0 t ty e l z sz l.bytes E.ht a hz aa rfl ab E.pos (.slice q n c) n xs f ad m d news hs.len k h1 (by unfold maxLen;omega) s h.ext.sz;obtain⟨q',c',rfl⟩:=qW h2;exact⟨q',c',w',o,h.app hi h2 h3 h5⟩
 by_cases hm:0<m
 ·obtain⟨b,ae,rfl,hb,hc⟩:=hs.rd hm;refine r ⟨b,ae,none⟩ (.inl rfl) (fun j u hu=> ?_);have hj:j<m*sz:=by rw[←hs.len];exact(aT6.1 hu).1
  rw[oZ,hc j hj];exact hu
 have x:m=0:=by omega
 subst x;have y:news= []:=List.length_eq_zero_iff.1 (by rw[hs.len];omega);subst y;cases p with
 |some ad=>exact r ad (.inl rfl) (fun j u hu=>by simp at hu)
 |none=>
  refine⟨q,c,w,?_,h.app hi (by simpa using f) (aUh w _) (.inl rfl)⟩;rcases f.2 with⟨h2,h3⟩|⟨g,cap',cur,h2,_,_,hnc,_⟩
  ·injection h2 with e1 e2 e3;subst e1 e2 e3;simp[Builtin.append_,run_underlying E.ht,sizeOf,typeInfo,a,Builtin.lenOf,Builtin.firstCells]
  injection h2 with e1 e2 e3;subst e1 e3;simp[Builtin.append_,run_underlying E.ht,sizeOf,typeInfo,a,Builtin.lenOf,Builtin.firstCells,hnc,storeCells]
theorem aK4 {K:Act→World→Prop}{t e:TypeId}{sz:Nat}(E:ElT P t e sz)(s x:Operand)
  (ho:o.op= .call {callee:= .builtin .append,args:=#[s,x],argTypes:=#[t,t]})
  (h:Mem w0 w L)(i:Nat){q:OA}{n c:Nat}{xs:List Value}(hi:L[i]? =some (aJ w0 e sz q n c xs)) (hs:a.eval s= .slice q n c)
  {p:OA} {m d:Nat} (news:List Value) (hx:a.eval x= .slice p m d) (hr:Sl w p m d sz news) (h1: ∀u∈news,u.oneCell'=true) (hn:n+m≤1099511627776)
  (hk: ∀q' c' w',Mem w0 w' (L.set i (aJ w0 e sz q' (n+m) c' (xs++news)))→K (a.put o.dst (.slice q' (n+m) c')) w'):o.wp P a w K Q:=by
 obtain⟨q',c',w',b,h2⟩:=aG7 (P:=P) (ty:=o.type) w E h hi p m d news hr h1 hn;unfold Oper.wp execOp;simp only[ho,resolve,invoke,builtin,Sem.run_bind,Sem.run_pure,Result.andThen_ok,List.map_toArray,aUn,List.map_nil,hs,hx,b];exact hk q' c' w' h2
theorem dI {t e:TypeId}{sz:Nat}(E:ElT P t e sz)(b:o.guard=none)(s x:Operand)
  (ho:o.op= .call {callee:= .builtin .append,args:=#[s,x],argTypes:=#[t,t]})
  (h:Mem w0 w L)(i:Nat){q:OA}{n c:Nat}{xs:List Value}(hi:L[i]? =some (aJ w0 e sz q n c xs)) (hs:a.eval s= .slice q n c)
  {p:OA} {m d:Nat} (news:List Value) (hx:a.eval x= .slice p m d) (hr:Sl w p m d sz news) (h1: ∀u∈news,u.oneCell'=true) (hn:n+m≤1099511627776)
  (hk: ∀q' c' w',Mem w0 w' (L.set i (aJ w0 e sz q' (n+m) c' (xs++news)))→wpList P ops Q rest (a.put o.dst (.slice q' (n+m) c')) w'):wpList P ops Q (o::rest) a w:=
 wpList_plain b fun _ hK=>aK4 E s x ho h i hi hs news hx hr h1 hn fun q' c' w' h2=>hK _ _ (hk q' c' w' h2)
theorem jD {K:Act→World→Prop}{E0:Prop}{t e:TypeId}{sz:Nat}(E:ElT P t e sz)(b:o.guard=none)(s x:Operand)
  (ho:o.op= .call {callee:= .builtin .append,args:=#[s,x],argTypes:=#[t,t]})
  (h:Mem w0 w L)(i:Nat){q:OA}{n c:Nat}{xs:List Value}(hi:L[i]? =some (aJ w0 e sz q n c xs)) (hs:a.eval s= .slice q n c)
  {p:OA} {m d:Nat} (news:List Value) (hx:a.eval x= .slice p m d) (hr:Sl w p m d sz news) (h1: ∀u∈news,u.oneCell'=true) (hn:n+m≤1099511627776)
  (hk: ∀q' c' w',Mem w0 w' (L.set i (aJ w0 e sz q' (n+m) c' (xs++news)))→K (a.put o.dst (.slice q' (n+m) c')) w'):
  if Region.wanted o (yielded ops a.tmps)=true then Oper.wp P o a w K Q else E0:=by
 have hw:Region.wanted o (yielded ops a.tmps)=true:=by simp[Region.wanted,b]
 rw[if_pos hw];exact aK4 E s x ho h i hi hs news hx hr h1 hn hk
end
theorem gG (w:World)(cs:Array Value)(t:TypeId)(n sz g:Nat)(hg:w.heap.size=g)(h:cs.size=n*sz)(hn:n≤maxLen):Sl (w.alloc (.cells cs t)) (some ⟨g,0,none⟩) n n sz cs.toList:=by subst hg;exact⟨by simpa using h,aT2 _,hn,fun _=>⟨w.heap.size,0,rfl,by simp,fun k hk=>by rw[aU2,(Blk.new w t cs).cell k];simp⟩⟩
theorem Mem.st {w0 w:World}{L L':List Item}{g B:Nat}{t:TypeId}{cs a:Array Value}(h:Mem w0 w L)(i k:Nat)(u:Value)(hi:L[i]? =Option.some (aI B g t cs):=by exact rfl) (hc:cs.setIfInBounds k u=a:=by first|(simp only[aTh,aTe,aTf];exact rfl)|exact rfl) (hl:L.set i (aI w0 g t a)=L':=by first|(simp only[aTe,aTf];exact rfl)|exact rfl):Mem w0 (w.setCell ⟨g,k,none⟩ u) L':=by subst hc hl;exact h.store hi k u
theorem Mem.hi {w0 w:World}{L:List Item}(h:Mem w0 w L)(i:Nat){g:Nat}{it:Item}(hi:L[i]? =Option.some it:=by exact rfl) (hg:it.adr g:=by exact rfl):g<w.heap.size:=(h.lt hi hg).2
theorem Mem.b1 (w:World){t0:TypeId}{c0:Array Value}:Mem w (w.alloc (.cells c0 t0)) [aI w w t0 c0]:=(Mem.start w).blkNew t0 c0 w (by simp)
theorem Mem.b2 (w:World){t0 t1:TypeId}{c0 c1:Array Value}:Mem w ((w.alloc (.cells c0 t0)).alloc (.cells c1 t1)) [aI w (w.heap.size+1) t1 c1,aI w w t0 c0]:=((Mem.start w).blkNew t0 c0 w (by simp)).blkNew t1 c1 (w.heap.size+1) (by simp)
theorem Mem.b3 (w:World){t0 t1 t2:TypeId}{c0 c1 c2:Array Value}:Mem w (((w.alloc (.cells c0 t0)).alloc (.cells c1 t1)).alloc (.cells c2 t2)) [aI w (w.heap.size+1+1) t2 c2,aI w (w.heap.size+1) t1 c1,aI w w t0 c0]:=(((Mem.start w).blkNew t0 c0 w (by simp)).blkNew t1 c1 (w.heap.size+1) (by simp)).blkNew t2 c2 (w.heap.size+1+1) (by simp)
theorem Mem.b3t (w:World){t0 t1 t2:TypeId}{c0 c1 c2:Array Value}:Mem w (((w.alloc (.cells c0 t0)).alloc (.cells c1 t1)).alloc (.cells c2 t2)) [aI w (w.heap.size+2) t2 c2,aI w (w.heap.size+1) t1 c1,aI w w t0 c0]:=(((Mem.start w).blkNew t0 c0 w (by simp)).blkNew t1 c1 (w.heap.size+1) (by simp)).blkNew t2 c2 (w.heap.size+2) (by simp)
theorem Mem.b4 (w:World){t0 t1 t2 t3:TypeId}{c0 c1 c2 c3:Array Value}:Mem w ((((w.alloc (.cells c0 t0)).alloc (.cells c1 t1)).alloc (.cells c2 t2)).alloc (.cells c3 t3)) [aI w (w.heap.size+1+1+1) t3 c3,aI w (w.heap.size+1+1) t2 c2,aI w (w.heap.size+1) t1 c1,aI w w t0 c0]:=((((Mem.start w).blkNew t0 c0 w (by simp)).blkNew t1 c1 (w.heap.size+1) (by simp)).blkNew t2 c2 (w.heap.size+1+1) (by simp)).blkNew t3 c3 (w.heap.size+1+1+1) (by simp)
theorem Mem.b4t (w:World){t0 t1 t2 t3:TypeId}{c0 c1 c2 c3:Array Value}:Mem w ((((w.alloc (.cells c0 t0)).alloc (.cells c1 t1)).alloc (.cells c2 t2)).alloc (.cells c3 t3)) [aI w (w.heap.size+3) t3 c3,aI w (w.heap.size+2) t2 c2,aI w (w.heap.size+1) t1 c1,aI w w t0 c0]:=((((Mem.start w).blkNew t0 c0 w (by simp)).blkNew t1 c1 (w.heap.size+1) (by simp)).blkNew t2 c2 (w.heap.size+2) (by simp)).blkNew t3 c3 (w.heap.size+3) (by simp)
theorem Mem.nq {w0 w:World}{L:List Item}(h:Mem w0 w L)(i j:Nat){g g':Nat}{a b:Item}(c:i<j:=by omega)(hi:L[i]? =Option.some a:=by exact rfl) (hj:L[j]? =Option.some b:=by exact rfl) (ha:a.adr g:=by exact rfl) (hb:b.adr g':=by exact rfl): ¬g=g'∧ ¬g'=g:=⟨h.ne c hi hj ha hb,fun e=>h.ne c hi hj ha hb e.symm⟩
theorem Mem.bk {w0 w:World}{L:List Item}(h:Mem w0 w L)(i:Nat){g B:Nat}{t:TypeId}{cs:Array Value}(hi:L[i]? =Option.some (aI B g t cs):=by exact rfl):Blk w g t cs:=h.blk hi
theorem Mem.ow {w0 w:World}{L:List Item}(h:Mem w0 w L)(i:Nat){B n c sz:Nat}{e:TypeId}{q:OA}{xs:List Value}(hi:L[i]? =Option.some (aJ B e sz q n c xs):=by exact rfl):w.ownsRow B e sz (.slice q n c) n xs:=h.own hi
theorem Mem.sq {w0 w:World}{L:List Item}(h:Mem w0 w L)(i:Nat){B n c sz:Nat}{e:TypeId}{q:OA}{xs:List Value}(hi:L[i]? =Option.some (aJ B e sz q n c xs):=by exact rfl):Sl w q n c sz xs:=h.sl hi
theorem Mem.so {w0 w:World}{L:List Item}(h:Mem w0 w L)(i:Nat){n c sz B:Nat}{e:TypeId}{q:OA}{xs:List Value}(hi:L[i]? =Option.some (aJ B e sz q n c xs):=by exact rfl) (hn:0<n:=by omega): ∃g,q=Option.some ⟨g,0,none⟩∧w0.heap.size≤g∧g<w.heap.size:=h.some hi hn
theorem Mem.bn {w0 w:World}{L:List Item}(h:Mem w0 w L)(t:TypeId)(cs:Array Value)(g:Nat)(hg:w.heap.size=g:=by first|exact rfl|simp):Mem w0 (w.alloc (.cells cs t)) (aI w0 g t cs::L):=h.blkNew t cs g hg
theorem Mem.c0 {w0 v:World}{L:List Item}(h:Mem w0 v L)(t:TypeId)(cs:Array Value):Mem w0 (v.alloc (.cells cs t)) (aI w0 v t cs::L):=h.blkNew t cs _ rfl
theorem Mem.c1 {w0 v:World}{o:Obj}{L:List Item}(h:Mem w0 (v.alloc o) L)(t:TypeId)(cs:Array Value):Mem w0 ((v.alloc o).alloc (.cells cs t)) (aI w0 (v.heap.size+1) t cs::L):=h.blkNew t cs _ (by simp)
theorem Mem.c2 {w0 v:World}{o o':Obj}{L:List Item}(h:Mem w0 ((v.alloc o).alloc o') L)(t:TypeId)(cs:Array Value):Mem w0 (((v.alloc o).alloc o').alloc (.cells cs t)) (aI w0 (v.heap.size+1+1) t cs::L):=h.blkNew t cs _ (by simp)
theorem Mem.st1 {P:Program}{f:FuncId}{s:Array Value}{w0 w:World}{L:List Item}{v:Value}{K:Ending→World→Prop}(M:Mem w0 w L)(H:Mem w0 w L→Calls P f s w (Z v w))(k: ∀w',Mem w0 w' L→K (.returned v) w'):Calls P f s w K:=(H M).mono (by rintro e w' ⟨rfl,hx⟩;exact k w' (M.adv hx))
theorem Mem.st2 {P:Program}{f:FuncId}{s:Array Value}{w0 w:World}{L:List Item}{F:OA→Nat→Value}{ty:TypeId}{n sz:Nat}{xs:List Value}{K:Ending→World→Prop}(M:Mem w0 w L)(H:Mem w0 w L→Calls P f s w fun e w'=> ∃q c,e= .returned (F q c)∧w'.ownsRow w ty sz (.slice q n c) n xs∧Ext w w')(k: ∀w' q c,Mem w0 w' (aJ w0 ty sz q n c xs::L)→K (.returned (F q c)) w'):Calls P f s w K:=(H M).mono (by rintro e w' ⟨q,c,rfl,ho,hx⟩;exact k w' q c (M.call hx ho))
end
section
open Go
theorem Mem.put3 {w0 w:World}{L:List Item}{i g B:Nat}{t:TypeId}{a0 a1 a2:Value}(h:Mem w0 w L)(hi:L[i]? =Option.some (aI B g t #[a0,a1,a2])) (b0 b1 b2:Value):Mem w0 (((w.setCell ⟨g,0,none⟩ b0).setCell ⟨g,1,none⟩ b1).setCell ⟨g,2,none⟩ b2) (L.set i (aI w0 g t #[b0,b1,b2])):=by
 have hl:i<L.length:=(aT6.1 hi).1;have h0:Mem w0 (w.setCell ⟨g,0,none⟩ b0) (L.set i (aI w0 g t #[b0,a1,a2])):=by have:=h.store (i:=i) hi 0 b0;simpa[aV1]using this
 have i0:(L.set i (aI w0 g t #[b0,a1,a2]))[i]? =Option.some (aI w0 g t #[b0,a1,a2]):=by rw[aTt hl]
 have h1:Mem w0 ((w.setCell ⟨g,0,none⟩ b0).setCell ⟨g,1,none⟩ b1) (L.set i (aI w0 g t #[b0,b1,a2])):=by have:=h0.store (i:=i) i0 1 b1;simpa[aV1]using this
 have i1:(L.set i (aI w0 g t #[b0,b1,a2]))[i]? =Option.some (aI w0 g t #[b0,b1,a2]):=by rw[aTt hl]
 have h2:Mem w0 (((w.setCell ⟨g,0,none⟩ b0).setCell ⟨g,1,none⟩ b1).setCell ⟨g,2,none⟩ b2) (L.set i (aI w0 g t #[b0,b1,b2])):=by have:=h1.store (i:=i) i1 2 b2;simpa[aV1]using this
 have i2:(L.set i (aI w0 g t #[b0,b1,b2]))[i]? =Option.some (aI w0 g t #[b0,b1,b2]):=by rw[aTt hl]
 exact h2
theorem Mem.put10 {w0 w:World}{L:List Item}{i g B:Nat}{t:TypeId}{a0 a1 a2 a3 a4 a5 a6 a7 a8 a9:Value}(h:Mem w0 w L)(hi:L[i]? =Option.some (aI B g t #[a0,a1,a2,a3,a4,a5,a6,a7,a8,a9])) (b0 b1 b2 b3 b4 b5 b6 b7 b8 b9:Value):Mem w0 ((((((((((w.setCell ⟨g,0,none⟩ b0).setCell ⟨g,1,none⟩ b1).setCell ⟨g,2,none⟩ b2).setCell ⟨g,3,none⟩ b3).setCell ⟨g,4,none⟩ b4).setCell ⟨g,5,none⟩ b5).setCell ⟨g,6,none⟩ b6).setCell ⟨g,7,none⟩ b7).setCell ⟨g,8,none⟩ b8).setCell ⟨g,9,none⟩ b9) (L.set i (aI w0 g t #[b0,b1,b2,b3,b4,b5,b6,b7,b8,b9])):=by
 have hl:i<L.length:=(aT6.1 hi).1;have h0:Mem w0 (w.setCell ⟨g,0,none⟩ b0) (L.set i (aI w0 g t #[b0,a1,a2,a3,a4,a5,a6,a7,a8,a9])):=by have:=h.store (i:=i) hi 0 b0;simpa[aV1]using this
 have i0:(L.set i (aI w0 g t #[b0,a1,a2,a3,a4,a5,a6,a7,a8,a9]))[i]? =Option.some (aI w0 g t #[b0,a1,a2,a3,a4,a5,a6,a7,a8,a9]):=by rw[aTt hl]
 have h1:Mem w0 ((w.setCell ⟨g,0,none⟩ b0).setCell ⟨g,1,none⟩ b1) (L.set i (aI w0 g t #[b0,b1,a2,a3,a4,a5,a6,a7,a8,a9])):=by have:=h0.store (i:=i) i0 1 b1;simpa[aV1]using this
 have i1:(L.set i (aI w0 g t #[b0,b1,a2,a3,a4,a5,a6,a7,a8,a9]))[i]? =Option.some (aI w0 g t #[b0,b1,a2,a3,a4,a5,a6,a7,a8,a9]):=by rw[aTt hl]
 have h2:Mem w0 (((w.setCell ⟨g,0,none⟩ b0).setCell ⟨g,1,none⟩ b1).setCell ⟨g,2,none⟩ b2) (L.set i (aI w0 g t #[b0,b1,b2,a3,a4,a5,a6,a7,a8,a9])):=by have:=h1.store (i:=i) i1 2 b2;simpa[aV1]using this
 have i2:(L.set i (aI w0 g t #[b0,b1,b2,a3,a4,a5,a6,a7,a8,a9]))[i]? =Option.some (aI w0 g t #[b0,b1,b2,a3,a4,a5,a6,a7,a8,a9]):=by rw[aTt hl]
 have h3:Mem w0 ((((w.setCell ⟨g,0,none⟩ b0).setCell ⟨g,1,none⟩ b1).setCell ⟨g,2,none⟩ b2).setCell ⟨g,3,none⟩ b3) (L.set i (aI w0 g t #[b0,b1,b2,b3,a4,a5,a6,a7,a8,a9])):=by have:=h2.store (i:=i) i2 3 b3;simpa[aV1]using this
 have i3:(L.set i (aI w0 g t #[b0,b1,b2,b3,a4,a5,a6,a7,a8,a9]))[i]? =Option.some (aI w0 g t #[b0,b1,b2,b3,a4,a5,a6,a7,a8,a9]):=by rw[aTt hl]
 have h4:Mem w0 (((((w.setCell ⟨g,0,none⟩ b0).setCell ⟨g,1,none⟩ b1).setCell ⟨g,2,none⟩ b2).setCell ⟨g,3,none⟩ b3).setCell ⟨g,4,none⟩ b4) (L.set i (aI w0 g t #[b0,b1,b2,b3,b4,a5,a6,a7,a8,a9])):=by have:=h3.store (i:=i) i3 4 b4;simpa[aV1]using this
 have i4:(L.set i (aI w0 g t #[b0,b1,b2,b3,b4,a5,a6,a7,a8,a9]))[i]? =Option.some (aI w0 g t #[b0,b1,b2,b3,b4,a5,a6,a7,a8,a9]):=by rw[aTt hl]
 have h5:Mem w0 ((((((w.setCell ⟨g,0,none⟩ b0).setCell ⟨g,1,none⟩ b1).setCell ⟨g,2,none⟩ b2).setCell ⟨g,3,none⟩ b3).setCell ⟨g,4,none⟩ b4).setCell ⟨g,5,none⟩ b5) (L.set i (aI w0 g t #[b0,b1,b2,b3,b4,b5,a6,a7,a8,a9])):=by have:=h4.store (i:=i) i4 5 b5;simpa[aV1]using this
 have i5:(L.set i (aI w0 g t #[b0,b1,b2,b3,b4,b5,a6,a7,a8,a9]))[i]? =Option.some (aI w0 g t #[b0,b1,b2,b3,b4,b5,a6,a7,a8,a9]):=by rw[aTt hl]
 have h6:Mem w0 (((((((w.setCell ⟨g,0,none⟩ b0).setCell ⟨g,1,none⟩ b1).setCell ⟨g,2,none⟩ b2).setCell ⟨g,3,none⟩ b3).setCell ⟨g,4,none⟩ b4).setCell ⟨g,5,none⟩ b5).setCell ⟨g,6,none⟩ b6) (L.set i (aI w0 g t #[b0,b1,b2,b3,b4,b5,b6,a7,a8,a9])):=by have:=h5.store (i:=i) i5 6 b6;simpa[aV1]using this
 have i6:(L.set i (aI w0 g t #[b0,b1,b2,b3,b4,b5,b6,a7,a8,a9]))[i]? =Option.some (aI w0 g t #[b0,b1,b2,b3,b4,b5,b6,a7,a8,a9]):=by rw[aTt hl]
 have h7:Mem w0 ((((((((w.setCell ⟨g,0,none⟩ b0).setCell ⟨g,1,none⟩ b1).setCell ⟨g,2,none⟩ b2).setCell ⟨g,3,none⟩ b3).setCell ⟨g,4,none⟩ b4).setCell ⟨g,5,none⟩ b5).setCell ⟨g,6,none⟩ b6).setCell ⟨g,7,none⟩ b7) (L.set i (aI w0 g t #[b0,b1,b2,b3,b4,b5,b6,b7,a8,a9])):=by have:=h6.store (i:=i) i6 7 b7;simpa[aV1]using this
 have i7:(L.set i (aI w0 g t #[b0,b1,b2,b3,b4,b5,b6,b7,a8,a9]))[i]? =Option.some (aI w0 g t #[b0,b1,b2,b3,b4,b5,b6,b7,a8,a9]):=by rw[aTt hl]
 have h8:Mem w0 (((((((((w.setCell ⟨g,0,none⟩ b0).setCell ⟨g,1,none⟩ b1).setCell ⟨g,2,none⟩ b2).setCell ⟨g,3,none⟩ b3).setCell ⟨g,4,none⟩ b4).setCell ⟨g,5,none⟩ b5).setCell ⟨g,6,none⟩ b6).setCell ⟨g,7,none⟩ b7).setCell ⟨g,8,none⟩ b8) (L.set i (aI w0 g t #[b0,b1,b2,b3,b4,b5,b6,b7,b8,a9])):=by have:=h7.store (i:=i) i7 8 b8;simpa[aV1]using this
 have i8:(L.set i (aI w0 g t #[b0,b1,b2,b3,b4,b5,b6,b7,b8,a9]))[i]? =Option.some (aI w0 g t #[b0,b1,b2,b3,b4,b5,b6,b7,b8,a9]):=by rw[aTt hl]
 have h9:Mem w0 ((((((((((w.setCell ⟨g,0,none⟩ b0).setCell ⟨g,1,none⟩ b1).setCell ⟨g,2,none⟩ b2).setCell ⟨g,3,none⟩ b3).setCell ⟨g,4,none⟩ b4).setCell ⟨g,5,none⟩ b5).setCell ⟨g,6,none⟩ b6).setCell ⟨g,7,none⟩ b7).setCell ⟨g,8,none⟩ b8).setCell ⟨g,9,none⟩ b9) (L.set i (aI w0 g t #[b0,b1,b2,b3,b4,b5,b6,b7,b8,b9])):=by have:=h8.store (i:=i) i8 9 b9;simpa[aV1]using this
 have i9:(L.set i (aI w0 g t #[b0,b1,b2,b3,b4,b5,b6,b7,b8,b9]))[i]? =Option.some (aI w0 g t #[b0,b1,b2,b3,b4,b5,b6,b7,b8,b9]):=by rw[aTt hl]
 exact h9
end
section
open Go.Proofs.Tryz
theorem pH (a b:Int): ∀u∈aL (a,b),u.oneCell'=true:=by intro u hu;simp[aL]at hu;rcases hu with rfl|rfl<;>rfl
theorem aNw (aA aB:Int)(pb po:Nat)(n d:Nat)(xs:List Int)(b f m c2 u:Nat)(s ws:List Nat)(w:World)(b4:4≤n)(hn:n≤12)(b3:0<m)(hm:m≤12)(bd:Hid (ws=u::s))(a6:Hid (ws.length=m))(hb:b<w.heap.size)(bo:pb<w.heap.size)
  (bm:Hid (aO aA aB xs=true))(a3:Hid (xs.length=n))(hu:u<n)(bq:Hid (xs.getD u 0=0))(bp:Hid (pD aA n u s))
  (HS:Hid (∀(k x:Nat),ws[k]? =some x→w.cell? ⟨b,f+k,none⟩=some (I x))) (bg:w.cell? ⟨b,f,none⟩=some (I u)) (bf:w.cell? ⟨pb,po+u,none⟩=some (I 0))
  (HW:xB 213 #[aH aA aB (some ⟨pb,po,none⟩) n d,.slice (some ⟨b,f,none⟩) m c2] w true)
  (HL:xC 100 #[aH aA aB (some ⟨pb,po,none⟩) n d] w fun w' e w''=> ∃q c,e= .returned (aH aA aB q n c)∧w''.ownsRow w' TI 1 (.slice q n c) n (ivs xs)∧Ext w' w''):
  U 181 #[aH aA aB (some ⟨pb,po,none⟩) n d,.slice (some ⟨b,f,none⟩) m c2] w (jN (cP xs u s).2 w):=by
 have j1:(0:Int)≤(u:Int):=by omega
 have j2:(u:Int)<(n:Int):=by omega
 go_enter func181,ntmps181;go_wp2;have ME:=(((Mem.start w).c0 TH3 #[aA,aB,.slice (some ⟨pb,po,none⟩) n d]).made0 TSL 2 (w.heap.size+1) (by simp))
 have X0:=xQ (show Ext w ((w.alloc (.cells #[aA,aB,.slice (some ⟨pb,po,none⟩) n d] TH3)).alloc (.cells #[] TSL))from ME.ext);refine rL (gl [gEq (.agg #[aA,aB,.slice (some ⟨pb,po,none⟩) n d]),gEq (.slice (some ⟨b,f,none⟩) m c2),gEq (.bool true),gEq (.bool false),gEq (.bool false),gEq (.pointer (some ⟨w,2,none⟩)),gEq (.slice (some ⟨pb,po,none⟩) n d),gEq (.slice (some ⟨b,f,none⟩) m c2),gEq (.pointer (some ⟨b,f,none⟩)),gEq (u:Int),gEq (.pointer (some ⟨pb,po+u,none⟩)),gEq (I 0),gEq (.bool false),gEq (.bool false)]) 14 14 [(0,some 12),(1,some 13),(2,some 14),(3,some 15),(4,some 16),(5,some 17),(6,some 18),(7,some 19),(8,some 20),(9,some 21),(10,some 22),(11,some 23),(12,some 24),(13,some 25)] ?steps ?fin
 case steps=>
  refine sC [] rfl (fun wi hx=> ?_) ?_
  ·intro K hK;have hX:Ext ((w.alloc (.cells #[aA,aB,.slice (some ⟨pb,po,none⟩) n d] TH3)).alloc (.cells #[] TSL)) wi:=by exact .trans (.drew (.refl _)) hx
   obtain⟨ab,bz,b0⟩:=((ME.bk 1).ext hX).tri;go_simp;exact hK _ _ ⟨.agg #[aA,aB,.slice (some ⟨pb,po,none⟩) n d],rfl,rfl,Ext.refl _⟩
  refine sS0 [] ?_;refine sC [(0,some 12),(1,some 13)] rfl (fun wi hx=> ?_) ?_
  ·intro v0 h0 v1 h1 K hK;subst h0 h1;have hX:Ext w wi:=by exact .trans (.drew (.alloc (.alloc (.refl _) _) _)) hx
   go_wp2_with fail;refine Ω (HW _ hX) fun w5 ah=>?_
   go_simp;exact hK _ _ ⟨.bool true,rfl,rfl,ah⟩
  refine sS1 [(2,some 14)] (sS1 [(3,some 15)] (sS1 [(4,some 16)] ?_));refine sC [(4,some 16),(5,some 17)] rfl (fun wi hx=> ?_) ?_
  ·intro v4 h4 v5 h5 K hK;subst h4 h5;have hX:Ext ((w.alloc (.cells #[aA,aB,.slice (some ⟨pb,po,none⟩) n d] TH3)).alloc (.cells #[] TSL)) wi:=by exact .trans (.drew (.refl _)) hx
   have ab:=((ME.bk 1).ext hX).cl 2;go_simp;exact hK _ _ ⟨.slice (some ⟨pb,po,none⟩) n d,rfl,rfl,Ext.refl _⟩
  refine sS1 [(4,some 16)] (sS2 [(4,some 16),(7,some 19)] ?_);refine sC [(4,some 16),(8,some 20)] rfl (fun wi hx=> ?_) ?_
  ·intro v4 h4 v8 h8 K hK;subst h4 h8;have hX:Ext ((w.alloc (.cells #[aA,aB,.slice (some ⟨pb,po,none⟩) n d] TH3)).alloc (.cells #[] TSL)) wi:=by exact .trans (.drew (.refl _)) hx
   have ab:wi.cell? ⟨b,f,none⟩=some (I u):=(X0.out.trans hX).cells.1 _ _ hb |>.trans bg;go_simp;exact hK _ _ ⟨I u,rfl,rfl,Ext.refl _⟩
  refine sS3 [(4,some 16),(6,some 18),(9,some 21)] ?_;refine sC [(4,some 16),(10,some 22)] rfl (fun wi hx=> ?_) ?_
  ·intro v4 h4 bc ad K hK;obtain rfl:=h4;obtain rfl:=ad;have hX:Ext ((w.alloc (.cells #[aA,aB,.slice (some ⟨pb,po,none⟩) n d] TH3)).alloc (.cells #[] TSL)) wi:=by exact .trans (.drew (.refl _)) hx
   have ab:wi.cell? ⟨pb,po+u,none⟩=some (I 0):=(X0.out.trans hX).cells.1 _ _ bo |>.trans bf;go_simp;exact hK _ _ ⟨I 0,rfl,rfl,Ext.refl _⟩
  exact sS2 [(4,some 16),(11,some 23)] (sS2 [(4,some 16),(12,some 24)] StepsL.nil)
 case fin=>
  intro wi hx v0 h0 v1 h1 v2 h2 v3 h3 v4 h4 v5 h5 v6 h6 v7 h7 v8 h8 v9 h9 bc ad b6 bh b7 bi b8 bj;subst h0 h1 h2 h3 h4 h5 h6 h7 h8 h9;obtain rfl:=ad;obtain rfl:=bh;obtain rfl:=bi;obtain rfl:=bj;refine wpAny_done (by kernel_rfl) ?_ _;try go_frame
  have hX:Ext ((w.alloc (.cells #[aA,aB,.slice (some ⟨pb,po,none⟩) n d] TH3)).alloc (.cells #[] TSL)) wi:=hx.of_drew;have M1:=(ME.adv hX)
  clear ME X0 hx hX;obtain⟨c0,c1,c2⟩:=(M1.bk 1).tri;go_wp2_with fail;clear c0 c1 c2;refine(HL _ M1.ext).mono ?_;rintro e w2 ⟨q0,c0,rfl,a5,a8⟩;have M2:=(M1.call a8 a5)
  clear M1 a8 a5 HW;have ay:=xQ (M2.c0 TH3 #[aA,aB,.slice q0 n c0]);go_wp2;go_loopw [5,7] (fun v i wr=> ∃(k x:Nat) (rest:List Nat) (ys:List Int) (q:OA) (c:Nat) (q5:OA) (l lc:Nat) (sl:List Sl2),1≤k∧k≤m∧i=I k∧v= .slice q5 l lc∧l=sl.length∧l≤k∧ws.drop (k-1)=x::rest∧aO aA aB ys=true∧ys.length=n∧x<n∧ys.getD x 0=0∧pD aA n x rest∧sl++(cP ys x rest).2=(cP xs u s).2∧Mem w wr [aI w w2 TH3 #[aA,aB,.slice q n c],aJ w TI 1 (q) (n) (c) (ivs ys),aJ w TSL 2 (q5) (l) (lc) (sl.flatMap aL),aI w w TH3 #[aA,aB,.slice (some ⟨pb,po,none⟩) n d]]) (fun _ i _=>m-(intOf i).toNat)
  case atStart=>exact⟨1,u,s,xs,q0,c0,some ⟨w.heap.size+1,0,none⟩,0,0,[],aT2 _,by omega,rfl,rfl,rfl,by omega,by rw[bd.out];rfl,bm.out,a3.out,hu,bq.out,bp.out,rfl,ay.out⟩
  case round=>
   clear ay M2;obtain⟨k,x,rest,ys,q,c,q5,l,lc,sl,b1,hk,rfl,rfl,hl,b2,az,al,a4,av,a7,an,am,hM⟩:=hrel;have af:=xQ az;have o:=xQ al;have g:=xQ a4;have aq:=xQ a7;have aa:=xQ an;have t:=xQ am;have ap:=xQ hl;have HM:=hM;clear az al a4 a7 an am hM hl;by_cases hlt:k<m
   ·obtain⟨y,rest',p⟩: ∃y rest',rest=y::rest':=by
     have h1:=congrArg List.length af.out;rw[aTw,a6.out]at h1;cases rest with
     |nil=>simp at h1;omega
     |cons y r=>exact⟨y,r,rfl⟩
    subst p;have ba:ws[k-1]? =some x:=by have:=congrArg (fun z=>z[0]?) af.out;simpa using this
    have ae:ws.drop k=y::rest':=by have:=congrArg List.tail af.out;rw[List.tail_drop,show k-1+1=k by omega]at this;exact this
    have bb:ws[k]? =some y:=by have:=congrArg (fun z=>z[0]?) ae;simpa using this
    have aj:=xQ ae;have ar:y∈aT aA n x:=aa.out.1;have a9:y<n:=(cE.1 ar).1;have ao:=xQ ar;have ai:=HM.ext;have ca:wr.cell? ⟨b,f+(k-1),none⟩=some (I x):=(ai.cells.1 _ _ hb).trans (HS (k-1) x ba);have cb:wr.cell? ⟨b,f+k,none⟩=some (I y):=(ai.cells.1 _ _ hb).trans (HS k y bb);have ax:b<wr:=aT1 hb ai.sz;clear ae ar ba bb ai;have i1:(0:Int)≤(k:Int):=by omega
    have i2:(k:Int)<(m:Int):=by omega
    have i3:(k:Int)-1<(m:Int):=by omega
    have i4:((k:Int)-1).toNat=k-1:=by omega
    have i5:(1:Int)≤(k:Int):=by omega
    go_wp2;refine rL (gl [gEq (.slice (some ⟨b,f,none⟩) m c2),gEq (k:Int),gEq (.pointer (some ⟨b,f+k,none⟩)),gEq (y:Int),gEq (.slice (some ⟨b,f,none⟩) m c2),gEq (k:Int),gEq ((k:Int)-1:Int),gEq (.pointer (some ⟨b,f+(k-1),none⟩)),gEq (x:Int),gEq (.agg #[y,x]),aRh wr TSL #[(),()]]) 11 12 [(0,some 35),(1,some 36),(2,some 37),(3,some 38),(4,some 39),(5,some 40),(6,some 41),(7,some 42),(8,some 43),(9,some 44),(10,some 8)] ?steps ?fin
    case steps=>
     refine sS0 [] (sS0 [] (sS2 [(0,some 35),(1,some 36)] ?_));refine sC [(2,some 37)] rfl (fun wi hx=> ?_) ?_
     ·intro v2 h2 K hK;obtain rfl:=h2;have hX:=hx.of_drew;have ab:wi.cell? ⟨b,f+k,none⟩=some (I y):=(hX.cells.1 _ _ ax).trans cb;go_simp;exact hK _ _ ⟨I y,rfl,rfl,Ext.refl _⟩
     refine sS0 [] (sS0 [] ?_);refine sC [(5,some 40)] rfl (fun wi hx=> ?_) ?_
     ·intro v5 h5 K hK;obtain rfl:=h5;have b5:IntKind.i64.wrap ((k:Int)-1)=(k:Int)-1:=aT5 _ (by omega);go_simp;exact hK _ _ ⟨I ((k:Int)-1),rfl,rfl,Ext.refl _⟩
     refine sS2 [(4,some 39),(6,some 41)] ?_;refine sC [(7,some 42)] rfl (fun wi hx=> ?_) ?_
     ·intro v7 h7 K hK;obtain rfl:=h7;have hX:=hx.of_drew;have ab:wi.cell? ⟨b,f+(k-1),none⟩=some (I x):=(hX.cells.1 _ _ ax).trans ca;go_simp;exact hK _ _ ⟨I x,rfl,rfl,Ext.refl _⟩
     refine sS2 [(3,some 38),(8,some 43)] ?_;refine sC [] rfl (fun wi hx=> ?_) StepsL.nil
     ·intro K hK;go_simp;exact hK _ _ ⟨.pointer (some ⟨wi,0,none⟩),rfl,⟨wi.heap.size,rfl,by have:=hx.sz;simp at this;omega,Blk.new _ _ _⟩,(Ext.refl _).alloc _⟩
    case fin=>
     intro wi hx v0 h0 v1 h1 v2 h2 v3 h3 v4 h4 v5 h5 v6 h6 v7 h7 v8 h8 v9 h9 bc ad;subst h0 h1 h2 h3 h4 h5 h6 h7 h8 h9;obtain⟨ag,rfl,ak,aw⟩:=ad;have hX:Ext wr wi:=hx.of_drew;have M1:=(show Mem w wi [aI w (ag) TSL #[(),()],aI w w2 TH3 #[aA,aB,.slice q n c],aJ w TI 1 (q) (n) (c) (ivs ys),aJ w TSL 2 (q5) (l) (lc) (sl.flatMap aL),aI w w TH3 #[aA,aB,.slice (some ⟨pb,po,none⟩) n d]]from HM.blkOf hX aw ak)
     clear HM hx hX ca cb aw ak;try go_frame
     have z0:=(M1.bk 0).cl 0;have bw:=(M1.bk 0).frozen 0;have z1:=(M1.bk 0).cl 1;have bx:=(M1.bk 0).frozen 1;refine wpAny_ready (rs:= [11]) (by kernel_rfl) (by simp) ?_;refine AllReady.cons rfl (fun K hK=> ?_) AllReady.nil;go_simp;refine hK _ _ ?_;clear hK K z0 bw z1 bx;have M2:=((M1.st 0 0 (I y)).st 0 1 (I x))
     generalize ((wi.setCell ⟨ag,0,none⟩ (I y)).setCell ⟨ag,1,none⟩ (I x))=w4 at M2⊢;clear M1;refine wpAny_done (by kernel_rfl) ?_ _;try go_frame
     obtain⟨h,j⟩:=M2.nq 0 1;obtain⟨n0,n1,n2⟩:=(M2.bk 1).tri;have s0:=(M2.bk 0).cl 0;have s1:=(M2.bk 0).cl 1;have HD:=xQ (fun w' (hx:Ext w4 w')=>nS aA aB (y:Int) (x:Int) q n c ys w' ((M2.sq 2).ext hx) o.out);go_wp2_with fail;refine(HD _ (by exact .refl _)).mono ?_;rintro e w5 ⟨q6,c6,rfl,au,ah⟩;have a2:(bO aA aB ys (y:Int) (x:Int)).length=n:=by rw[dJ,g.out]
     rw[a2]at au⊢;clear a2 HD h j n0 n1 n2 s0 s1;have M3:=(M2.call ah au)
     clear M2 ah au;have br:=M3.hi 1;have bs:=M3.hi 2;by_cases hy0:ys.getD y 0=0
     ·have hm:bL aA aB ys (y:Int) (x:Int)=false:=by have:=aPn o (by rw[g.out];exact av) aq (by rw[g.out];exact ao.out) hy0;exact this
      have hr:=xQ (uB (a:=x) (l:=rest') hy0);have be:=xQ hy0;clear hy0;rw[hm];clear hm;go_wp2;go_roundw
      case rel=>exact⟨k+1,y,rest',ys,q,c,q5,l,lc,sl,by omega,by omega,by go_num,rfl,ap.out,by omega,by rw[aV9];exact aj.out,o.out,g.out,a9,be.out,aa.out.2,by rw[←t.out,hr.out],((M3.c0 TH3 #[aA,aB,.slice q6 n c6]).pick [3,4,5,6] (by decide) rfl)⟩
      case measure=>simp[intOf];omega
     obtain⟨hm,hd⟩:=aF1 o (by rw[g.out];exact av) aq (by rw[g.out];exact ao.out) hy0;obtain⟨n1,n2,n3⟩:=wV o (by rw[g.out];exact av) aq (by rw[g.out];exact ao.out) hy0;have hr:=xQ (rF (a:=x) (l:=rest') hy0);rw[hd]at M3;rw[hm];clear hm hd hy0;generalize (ys.set x (ys.getD y 0)).set y 0=zs at*;have N1:=xQ n1;have N2:=xQ n2;have N3:=xQ n3;clear n1 n2 n3;obtain⟨h,j⟩:=M3.nq 1 2;obtain⟨n0,bt,n1,bu,n2,bv⟩:=(M3.bk 2).trif;have s0:=(M3.bk 1).cl 0;have s1:=(M3.bk 1).cl 1;go_wp2_with (at_builtin;go_loud (refine dI vN rfl _ _ rfl (((((M3.store (i:=2) rfl 0 (I aA)).store (i:=2) rfl 1 (I aB)).store (i:=2) rfl 2 (.slice q6 n c6)).bn TH3 #[aA,aB,.slice q6 n c6] w5).adv ((Ext.refl _).alloc (.cells #[y,x] TSL))) 5 rfl rfl (aL ((y:Int),(x:Int))) rfl (gG _ _ _ 1 2 _ (by simp) (by simp) (by simp[maxLen])) (pH _ _) (by omega) ?_;intro q7 c7 w6 M6));clear h j n0 bt n1 bu n2 bv s0 s1;have M7:=(show Mem w w6 [aI w w5 TH3 #[aA,aB,.slice q6 n c6],aJ w TI 1 (q6) (n) (c6) (ivs zs),aI w (ag) TSL #[y,x],aI w w2 TH3 #[aA,aB,.slice q6 n c6],aJ w TI 1 (q) (n) (c) (ivs ys),aJ w TSL 2 (q7) (l+1) (c7) (sl.flatMap aL++aL ((y:Int),(x:Int))),aI w w TH3 #[aA,aB,.slice (some ⟨pb,po,none⟩) n d]]from M6)
     clear M6 M3;have a1:Hid (sl.flatMap aL++aL ((y:Int),(x:Int))=(sl++ [((y:Int),(x:Int))]).flatMap aL):=by show _=_;rw[aU3];simp
     rw[a1.out]at M7;clear a1;go_wp2;go_roundw
     case rel=>exact⟨k+1,y,rest',zs,q6,c6,q7,l+1,c7,sl++ [((y:Int),(x:Int))],by omega,by omega,by go_num,rfl,by rw[aTa,←ap.out];rfl,by omega,by rw[aV9];exact aj.out,N1.out,by rw[N2.out,g.out],a9,N3.out,aa.out.2,by rw[←t.out,hr.out];simp,(M7.pick [3,1,5,6] (by decide) rfl)⟩
     case measure=>simp[intOf];omega
   obtain rfl:m=k:=by omega
   have p:rest= []:=by
    have h1:=congrArg List.length af.out;rw[aTw,a6.out]at h1;cases rest with
    |nil=>rfl
    |cons y r=>simp at h1;omega
   subst p;have a0:Hid (sl=(cP xs u s).2):=by show _=_;rw[←t.out];simp[cP]
   go_wp2;go_ret;have bl:=ap.out;subst bl;rw[←a0.out];exact⟨q5,lc,rfl,HM.ow 2,HM.ext⟩
abbrev aVp (w:World)(p:Option Addr)(xs:List Int)(c:Nat):Item:=aJ w.heap.size TI 1 p xs.length c (ivs xs)
abbrev aVr (r:aS)(p:Option Addr)(c:Nat)(q:Option Addr)(d:Nat):Array Value:=#[.int .i64 r.aA,.int .i64 r.aB,.slice p r.cells.length c,.int .i64 r.free,.int .i64 r.step,.int .i64 r.aE,.int .i64 r.aF,.int .i64 r.aC,.int .i64 r.aG,.slice q r.vs.length d]
end
end Go.Proofs.YtbgkcehffiogcabGreatDoor
