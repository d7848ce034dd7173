/-
  Texts of this proof, packed (@packed).
-/
import Derived.Test.YthfmmibomhhmpaaGreatDoorY3
namespace Go.Proofs.YthfmmibomhhmpaaGreatDoor
open Go.RowKit
set_option linter.unusedSimpArgs false
set_option linter.unusedVariables false
set_option maxHeartbeats 8000000
set_option maxRecDepth 100000
section
open Go
theorem yP {w w':World}{R k:Nat}{row:Option Nat}(h:Rand w R k)(hg:w.grownBy w' row)(hr: ∀g,row=some g→R<g):Rand w' R k:=by have hl:=h.lt;exact h.below ⟨hg.os,hg.tape,hg.output,hg.size,fun i hi=>hg.block i (by omega) (fun e=>by have:=hr i e.symm;omega)⟩
structure MemR (R:Nat) (w0 w:World) (L:List Item):Prop where
 old:R<w0.heap.size
 ext:ExtR R w0 w
 good: ∀it∈L,it.Good w0.heap.size
 ok: ∀it∈L,it.ok w
 apart:L.Pairwise (fun a b=> ∀g,a.adr g→ ¬b.adr g)
section
variable {R:Nat} {w0 w w':World} {L:List Item}
theorem MemR.start (R:Nat)(w:World)(h:R<w.heap.size):MemR R w w []:=⟨h,ExtR.refl R w,fun _ h=>absurd h (by simp),fun _ h=>absurd h (by simp),List.Pairwise.nil⟩
theorem MemR.of (hR:R<w0.heap.size)(h:ExtR R w0 w):MemR R w0 w []:=⟨hR,h,fun _ h=>absurd h (by simp),fun _ h=>absurd h (by simp),List.Pairwise.nil⟩
theorem MemR.adv (h:MemR R w0 w L)(hx:Ext w w'):MemR R w0 w' L:=
 ⟨h.old,h.ext.ext hx,h.good,fun it hi=>(h.good it hi).stay w w' (h.ok it hi) hx.sz (fun g hg=>hx.block g ((h.good it hi).lt w (h.ok it hi) g hg).2),h.apart⟩
theorem MemR.cons {it:Item}(h:MemR R w0 w L)(hg:it.Good w0)(ho:it.ok w)(hn: ∀g,it.adr g→ ∀j∈L,¬j.adr g):MemR R w0 w (it::L):=
 ⟨h.old,h.ext,fun x hx=>by
  rcases aTi.1 hx with rfl|hx
  ·exact hg
  ·exact h.good x hx,fun x hx=>by
  rcases aTi.1 hx with rfl|hx
  ·exact ho
  ·exact h.ok x hx,List.Pairwise.cons (fun j hj g hg'=>hn g hg' j hj) h.apart⟩
theorem MemR.new {it:Item}(h:MemR R w0 w L)(hx:Ext w w')(hg:it.Good w0)(ho:it.ok w')(hn: ∀g,it.adr g→w.heap.size≤g):MemR R w0 w' (it::L):=by refine(h.adv hx).cons hg ho (fun g hg' j hj e=> ?_);have h1:=hn g hg';have h2:=((h.good j hj).lt w (h.ok j hj) g e).2;omega
theorem MemR.blkOf {g:Nat}{t:TypeId}{cs:Array Value}(h:MemR R w0 w L)(hx:Ext w w')(hb:Blk w' g t cs)(hg:w.heap.size≤g):MemR R w0 w' (aI w0 g t cs::L):=
 h.new hx (oJ _ _ _ _) ⟨aTg h.ext.sz hg,hb⟩ (fun g' hg'=>by obtain rfl:g=g':=hg';exact hg)
theorem MemR.blkNew (h:MemR R w0 w L)(t:TypeId)(cs:Array Value)(g:Nat)(hg:w.heap.size=g):MemR R w0 (w.alloc (.cells cs t)) (aI w0 g t cs::L):=by subst hg;exact h.blkOf ((Ext.refl w).alloc _) (Blk.new _ _ _) (aT5 _)
theorem MemR.ownNew {b n c sz:Nat}{e:TypeId}{q:OA}{xs:List Value}(h:MemR R w0 w L)(hx:Ext w w')(ho:w'.ownsRow b e sz (.slice q n c) n xs)(hb:w.heap.size≤b):MemR R w0 w' (aJ w0 e sz q n c xs::L):=
 h.new hx (dZ _ _ _ _ _ _ _) (cH ho (aTg h.ext.sz hb)) (fun g hg=>aTg hb (aU0 ho g hg).1)
theorem MemR.blkOwn {b n c sz g:Nat}{e t:TypeId}{q:OA}{xs:List Value}{cs:Array Value}(h:MemR R w0 w L)(hx:Ext w w')(hb:Blk w' g t cs)(hg:w.heap.size≤g)(ho:w'.ownsRow b e sz (.slice q n c) n xs)(d:w.heap.size≤b)(ht:e≠t):MemR R w0 w' (aJ w0 e sz q n c xs::aI w0 g t cs::L):=by
 refine(h.blkOf hx hb hg).cons (dZ _ _ _ _ _ _ _) (cH ho (aTg h.ext.sz d)) (fun g' hg' j hj e'=> ?_);replace hg':(Value.slice q n c).ownBlock=some g':=hg';have h1:=(aU0 ho g' hg').1;rcases aTi.1 hj with rfl|hj
 ·obtain rfl:g=g':=e';rcases ho.2 with⟨h2,_⟩|⟨g2,cap',cur,h2,_,h3,_⟩
  ·rw[h2]at hg';cases hg'
  rw[h2]at hg';injection hg' with hg';have a:g2=g:=hg';subst a;unfold Blk at hb;rw[hb]at h3;injection h3 with h3;injection h3 with _ h3;exact ht h3.symm
 have h2:=((h.good j hj).lt w (h.ok j hj) g' e').2;omega
theorem MemR.call {n c sz:Nat}{e:TypeId}{q:OA}{xs:List Value}(h:MemR R w0 w L)(hx:Ext w w')(ho:w'.ownsRow w e sz (.slice q n c) n xs):MemR R w0 w' (aJ w0 e sz q n c xs::L):=h.ownNew hx ho (aT5 _)
theorem MemR.nestNew {b c sz:Nat}{eo ei:TypeId}{q:OA}{rows:List RowD}(h:MemR R w0 w L)(hx:Ext w w')(ho:wB b eo ei sz q c rows w')(hb:w.heap.size≤b):MemR R w0 w' (pP w0 eo ei sz q c rows::L):=
 h.new hx (yV _ _ _ _ _ _ _) ⟨cH ho.1 (aTg h.ext.sz hb),fun r hr=>cH (ho.2 r hr) (aTg h.ext.sz hb)⟩ (fun g hg=>by
  rcases hg with hg|⟨r,hr,hg⟩
  ·exact aTg hb (aU0 ho.1 g hg).1
  ·exact aTg hb (aU0 (ho.2 r hr) g hg).1)
theorem MemR.made0 (h:MemR R w0 w L)(e:TypeId)(sz g:Nat)(hg:w.heap.size=g):MemR R w0 (w.alloc (.cells #[] e)) (aJ w0 e sz (some ⟨g,0,none⟩) 0 0 []::L):=by subst hg;exact h.ownNew ((Ext.refl w).alloc _) (aU5 (base:=w.heap.size) w #[] 0 (aT5 _) (by simp[maxLen]) (by simp)) (aT5 _)
theorem MemR.lit (h:MemR R w0 w L)(e:TypeId)(sz n g:Nat)(cs:Array Value)(hg:w.heap.size=g)(hn:cs.size=n*sz)(hm:n≤maxLen):MemR R w0 (w.alloc (.cells cs e)) (aJ w0 e sz (some ⟨g,0,none⟩) n n cs.toList::L):=by subst hg;exact h.ownNew ((Ext.refl w).alloc _) (aJo (Blk.new w e cs) hn hm (aT5 _)) (aT5 _)
theorem MemR.blk {i g B:Nat}{t:TypeId}{cs:Array Value}(h:MemR R w0 w L)(hi:L[i]? =some (aI B g t cs)):Blk w g t cs:=(h.ok _ (aT7 hi)).2
theorem MemR.own {i B n c sz:Nat}{e:TypeId}{q:OA}{xs:List Value}(h:MemR R w0 w L)(hi:L[i]? =some (aJ B e sz q n c xs)):w.ownsRow B e sz (.slice q n c) n xs:=h.ok _ (aT7 hi)
theorem MemR.nest {i B c sz:Nat}{eo ei:TypeId}{q:OA}{rows:List RowD}(h:MemR R w0 w L)(hi:L[i]? =some (pP B eo ei sz q c rows)):wB B eo ei sz q c rows w:=h.ok _ (aT7 hi)
theorem MemR.sl {i B n c sz:Nat}{e:TypeId}{q:OA}{xs:List Value}(h:MemR R w0 w L)(hi:L[i]? =some (aJ B e sz q n c xs)):Sl w q n c sz xs:=Sl.own (h.own hi)
theorem MemR.lt {i g:Nat}{it:Item}(h:MemR R w0 w L)(hi:L[i]? =some it) (hg:it.adr g):w0.heap.size≤g∧g<w.heap.size:=(h.good _ (aT7 hi)).lt w (h.ok _ (aT7 hi)) g hg
theorem MemR.ne {i j g g':Nat}{a b:Item}(h:MemR R w0 w L)(c:i<j)(hi:L[i]? =some a) (hj:L[j]? =some b) (ha:a.adr g) (hb:b.adr g'):g≠g':=by rintro rfl;obtain⟨d,rfl⟩:=aT9.1 hi;obtain⟨e,rfl⟩:=aT9.1 hj;exact List.pairwise_iff_getElem.1 h.apart i j d e c g ha hb
theorem MemR.far {i j:Nat}{a b:Item}(h:MemR R w0 w L)(d:i≠j)(hi:L[i]? =some a) (hj:L[j]? =some b): ∀g,a.adr g→ ¬b.adr g:=by
 intro g ha hb;rcases Nat.lt_or_gt_of_ne d with e|c
 ·exact h.ne e hi hj ha hb rfl
 exact h.ne c hj hi hb ha rfl
theorem MemR.pick {L':List Item}(h:MemR R w0 w L)(is:List Nat)(hd:is.Nodup)(hl:is.map (fun i=>L[i]?)=L'.map some):MemR R w0 w L':=by
 have f:is.length=L'.length:=by have:=congrArg List.length hl;simpa using this
 have d: ∀k,(hk:k<L'.length)→L[is[k]'(by omega)]? =some L'[k]:=by intro k hk;have:=congrArg (fun z=>z[k]?) hl;simp only[aTo]at this;rw[aT6 (by omega:k<is.length),aT6 hk]at this;simpa using this
 have c: ∀x∈L',x∈L:=fun x hx=>by obtain⟨k,hk,rfl⟩:=aUe hx;exact aT7 (d k hk)
 refine⟨h.old,h.ext,fun x hx=>h.good x (c x hx),fun x hx=>h.ok x (c x hx),List.pairwise_iff_getElem.2 fun a b ha hb hab=> ?_⟩
 exact h.far (fun e=>by
  have:=(List.getElem_inj hd).1 e
  omega) (d a ha) (d b hb)
theorem MemR.join {a b it:Item}(h:MemR R w0 w (a::b::L))(hg:it.Good w0)(ho:it.ok w)(hn: ∀g,it.adr g→a.adr g∨b.adr g):MemR R w0 w (it::L):=by
 have hp:=List.pairwise_cons.1 h.apart;have c:=List.pairwise_cons.1 hp.2;have h2:MemR R w0 w L:=⟨h.old,h.ext,fun x hx=>h.good x (by simp[hx]),fun x hx=>h.ok x (by simp[hx]),c.2⟩
 refine h2.cons hg ho (fun g hg' j hj=> ?_);rcases hn g hg' with h3|h3
 ·exact hp.1 j (by simp[hj]) g h3
 exact c.1 j hj g h3
theorem MemR.rowsAdd {B sz c n:Nat}{e:TypeId}{q:OA}{xs:List Value}{rows:List RowD}(hB:B=w0.heap.size)(h:MemR R w0 w (aJ B e sz q n c xs::gK B e sz rows::L)):MemR R w0 w (gK B e sz (rows++ [⟨q,n,c,xs⟩])::L):=by
 subst hB;refine h.join (oV _ _ _ _) (fun r hr=> ?_) (fun g ⟨r,hr,hg⟩=> ?_)
 ·rcases aTn.1 hr with hr|hr
  ·exact h.ok (gK w0 e sz rows) (by simp) r hr
  obtain rfl:=aTp.1 hr;exact h.own (i:=0) rfl
 rcases aTn.1 hr with hr|hr
 ·exact .inr ⟨r,hr,hg⟩
 obtain rfl:=aTp.1 hr;exact .inl hg
theorem MemR.rows0 {B sz:Nat}{e:TypeId}(hB:B=w0.heap.size)(h:MemR R w0 w L):MemR R w0 w (gK B e sz []::L):=by subst hB;exact h.cons (oV _ _ _ _) (fun r hr=>by cases hr) (fun g ⟨r,hr,hg⟩=>by cases hr)
theorem MemR.turn {i:Nat}{it d:Item}{row:Option Nat}(h:MemR R w0 w L)(hi:L[i]? =some it) (hr: ∀g,row=some g→it.adr g) (hg:d.Good w0) (c:w.grownBy w' row) (ho:d.ok w') (o: ∀g,d.adr g→it.adr g∨g=w.heap.size):MemR R w0 w' (L.set i d):=by
 obtain⟨q,p⟩:=aT9.1 hi;have f:=aT7 hi;have m: ∀j,(hj:j<L.length)→j≠i→ ∀g,L[j].adr g→ ¬it.adr g:=by intro j hj l g hg' e;exact h.far l (aT6 hj) hi g hg' e
 have hE:ExtR R w0 w':=h.ext.grown c (fun k hk=> .inl ((h.good it f).lt w (h.ok it f) k (hr k hk)).1);refine⟨h.old,hE,fun x hx=> ?_,fun x hx=> ?_,?_⟩
 ·rcases aU9 hx with hx|rfl
  ·exact h.good x hx
  exact hg
 ·obtain⟨j,hj,rfl⟩:=aUe hx;rw[aUi]at hj;by_cases hji:i=j
  ·subst hji;rw[List.getElem_set_self];exact ho
  rw[List.getElem_set_ne hji];have hm:=List.getElem_mem hj;refine(h.good _ hm).stay w w' (h.ok _ hm) c.size (fun g hg'=> ?_);exact c.block g ((h.good _ hm).lt w (h.ok _ hm) g hg').2 (fun e=>m j hj (Ne.symm hji) g hg' (hr g e.symm))
 refine List.pairwise_iff_getElem.2 fun a b ha hb hab g hga hgb=> ?_
 rw[aUi]at ha hb;have n: ∀j,(hj:j<L.length)→j≠i→ ∀g,L[j].adr g→ ¬d.adr g:=by
  intro j hj l g hg' e;have hm:=List.getElem_mem hj;rcases o g e with h1|h1
  ·exact m j hj l g hg' h1
  have:=((h.good _ hm).lt w (h.ok _ hm) g hg').2;omega
 by_cases hai:i=a
 ·subst hai;rw[List.getElem_set_self]at hga;rw[List.getElem_set_ne (by omega)]at hgb;exact n b hb (by omega) g hgb hga
 rw[List.getElem_set_ne hai]at hga;by_cases hbi:i=b
 ·subst hbi;rw[List.getElem_set_self]at hgb;exact n a ha (by omega) g hga hgb
 rw[List.getElem_set_ne hbi]at hgb;exact List.pairwise_iff_getElem.1 h.apart a b ha hb hab g hga hgb
theorem MemR.store {i g B:Nat}{t:TypeId}{cs:Array Value}(h:MemR R w0 w L)(hi:L[i]? =some (aI B g t cs)) (k:Nat) (u:Value):MemR R w0 (w.setCell ⟨g,k,none⟩ u) (L.set i (aI w0 g t (cs.setIfInBounds k u))):=
 h.turn hi (fun g' e=>by injection e) (oJ _ _ _ _) (rP w g k u) ⟨(h.lt hi rfl).1,(h.blk hi).set k u⟩ (fun g' e=> .inl e)
theorem MemR.ostore {i g n c sz:Nat}{e:TypeId}{xs:List Value}(h:MemR R w0 w L)(hi:L[i]? =some (aJ w0 e sz (some ⟨g,0,none⟩) n c xs)) (k:Nat) (u:Value):MemR R w0 (w.setCell ⟨g,k,none⟩ u) (L.set i (aJ w0 e sz (some ⟨g,0,none⟩) n c (xs.set k u))):=
 h.turn hi (fun g' e=>e) (dZ _ _ _ _ _ _ _) (rP w g k u) ((h.own hi).stored k u).1 (fun g' e=> .inl e)
theorem MemR.app {i n c sz n' c':Nat}{e:TypeId}{q q':OA}{xs a:List Value}(h:MemR R w0 w L)(hi:L[i]? =some (aJ w0 e sz q n c xs)) (ho:w'.ownsRow w0 e sz (.slice q' n' c') n' a) (hg:w.grownBy w' (Value.slice q n c).ownBlock)
  (b:(Value.slice q' n' c').ownBlock=(Value.slice q n c).ownBlock∨(Value.slice q' n' c').ownBlock=some w):MemR R w0 w' (L.set i (aJ w0 e sz q' n' c' a)):=
 h.turn hi (fun g e=>e) (dZ _ _ _ _ _ _ _) hg ho (fun g e=>by
  have e':(Value.slice q' n' c').ownBlock=some g:=e;rcases b with h1|h1
  ·exact .inl (by show(Value.slice q n c).ownBlock=some g;rw[←h1];exact e')
  ·rw[h1]at e';injection e' with e';exact .inr e'.symm)
theorem MemR.some {i n c sz B:Nat}{e:TypeId}{q:OA}{xs:List Value}(h:MemR R w0 w L)(hi:L[i]? =Option.some (aJ B e sz q n c xs)) (hn:0<n): ∃g,q=Option.some ⟨g,0,none⟩∧w0.heap.size≤g∧g<w.heap.size:=by
 rcases(h.own hi).2 with⟨h1,h2⟩|⟨g,cap',cur,h1,h3⟩
 ·omega
 injection h1 with e1 e2 e3;subst e1;have:=h.lt hi (g:=g) rfl;exact⟨g,rfl,this.1,this.2⟩
end
section
variable {P:Program} {R:Nat} {w0 w:World} {L:List Item} {ops:Array Oper} {rest:List Oper} {o:Oper} {a:Act} {Q:Exit→Act→World→Prop}
theorem aO0 (w:World){t e ty:TypeId}{sz:Nat}(E:ElT P t e sz){i:Nat}{q:OA}{n c:Nat}{xs:List Value}(h:MemR R w0 w L)(hi:L[i]? =some (aJ w0 e sz q n c xs))
  (p:OA) (m d:Nat) (news:List Value) (hs:Sl w p m d sz news) (h1: ∀u∈news,u.oneCell'=true) (hn:n+m≤1099511627776):
  ∃q' c' w',(Builtin.append_ #[t,t] ty #[.slice q n c,.slice p m d]).run P w= .ok (.slice q' (n+m) c') w'∧MemR R w0 w' (L.set i (aJ w0 e sz q' (n+m) c' (xs++news)))∧(∀k,Rand w R k→Rand w' R k):=by
 obtain⟨o,z,a,hz,ab,x,ae⟩:=E.info;have f:=h.own hi;have s: ∀ad:Addr,p=some ad∨m=0→(∀j u,news[j]? =some u→w.cell? (ad.add j)=some u)→ ∃q' c' w',(Builtin.append_ #[t,t] ty #[.slice q n c,.slice (some ad) m d]).run P w= .ok (.slice q' (n+m) c') w'∧MemR R w0 w' (L.set i (aJ w0 e sz q' (n+m) c' (xs++news)))∧(∀k,Rand w R k→Rand w' R k):=by
  intro ad _ l;have v:(n+m)*o.bytes≤140737488355328:=by have:(n+m)*o.bytes≤(n+m)*64:=Nat.mul_le_mul_left _ x;omega
  obtain⟨v',w',r,h2,h3,_,h5⟩:=run_append_own_at (P:=P) w w0 t ty e o z sz o.bytes E.ht a hz ab rfl ae E.pos (.slice q n c) n xs f ad m d news hs.len l h1 (by unfold maxLen;omega) v h.ext.sz;obtain⟨q',c',rfl⟩:=oC h2;exact⟨q',c',w',r,h.app hi h2 h3 h5,fun k hr=>yP hr h3 (fun g hg=>by have h7:=(h.lt hi (g:=g) hg).1;have h8:=h.old;omega)⟩
 by_cases hm:0<m
 ·obtain⟨b,af,rfl,hb,hc⟩:=hs.rd hm;refine s ⟨b,af,none⟩ (.inl rfl) (fun j u hu=> ?_);have hj:j<m*sz:=by rw[←hs.len];exact(aT9.1 hu).1
  rw[lT,hc j hj];exact hu
 have y:m=0:=by omega
 subst y;have aa:news= []:=List.length_eq_zero_iff.1 (by rw[hs.len];omega);subst aa;cases p with
 |some ad=>exact s ad (.inl rfl) (fun j u hu=>by simp at hu)
 |none=>
  refine⟨q,c,w,?_,h.app hi (by simpa using f) (aUs w _) (.inl rfl),fun k hr=>hr⟩;rcases f.2 with⟨h2,h3⟩|⟨g,cap',cur,h2,_,_,hnc,_⟩
  ·injection h2 with e1 e2 e3;subst e1 e2 e3;simp[Builtin.append_,run_underlying E.ht,sizeOf,typeInfo,a,Builtin.lenOf,Builtin.firstCells]
  injection h2 with e1 e2 e3;subst e1 e3;simp[Builtin.append_,run_underlying E.ht,sizeOf,typeInfo,a,Builtin.lenOf,Builtin.firstCells,hnc,storeCells]
theorem aQ9 {K:Act→World→Prop}{t e:TypeId}{sz:Nat}(E:ElT P t e sz)(s x:Operand)
  (ho:o.op= .call {callee:= .builtin .append,args:=#[s,x],argTypes:=#[t,t]})
  (h:MemR R w0 w L)(i:Nat){q:OA}{n c:Nat}{xs:List Value}(hi:L[i]? =some (aJ w0 e sz q n c xs)) (hs:a.eval s= .slice q n c)
  {p:OA} {m d:Nat} (news:List Value) (hx:a.eval x= .slice p m d) (hr:Sl w p m d sz news) (h1: ∀u∈news,u.oneCell'=true) (hn:n+m≤1099511627776)
  (hk: ∀q' c' w',MemR R w0 w' (L.set i (aJ w0 e sz q' (n+m) c' (xs++news)))→(∀k,Rand w R k→Rand w' R k)→K (a.put o.dst (.slice q' (n+m) c')) w'):o.wp P a w K Q:=by
 obtain⟨q',c',w',b,h2,h9⟩:=aO0 (P:=P) (ty:=o.type) w E h hi p m d news hr h1 hn;unfold Oper.wp execOp;simp only[ho,resolve,invoke,builtin,Sem.run_bind,Sem.run_pure,Result.andThen_ok,List.map_toArray,aUp,List.map_nil,hs,hx,b];exact hk q' c' w' h2 h9
theorem pX {t e:TypeId}{sz:Nat}(E:ElT P t e sz)(b:o.guard=none)(s x:Operand)
  (ho:o.op= .call {callee:= .builtin .append,args:=#[s,x],argTypes:=#[t,t]})
  (h:MemR R w0 w L)(i:Nat){q:OA}{n c:Nat}{xs:List Value}(hi:L[i]? =some (aJ w0 e sz q n c xs)) (hs:a.eval s= .slice q n c)
  {p:OA} {m d:Nat} (news:List Value) (hx:a.eval x= .slice p m d) (hr:Sl w p m d sz news) (h1: ∀u∈news,u.oneCell'=true) (hn:n+m≤1099511627776)
  (hk: ∀q' c' w',MemR R w0 w' (L.set i (aJ w0 e sz q' (n+m) c' (xs++news)))→(∀k,Rand w R k→Rand w' R k)→wpList P ops Q rest (a.put o.dst (.slice q' (n+m) c')) w'):wpList P ops Q (o::rest) a w:=
 wpList_plain b fun _ hK=>aQ9 E s x ho h i hi hs news hx hr h1 hn fun q' c' w' h2 h9=>hK _ _ (hk q' c' w' h2 h9)
end
section
variable {R:Nat} {w0 w w':World} {L:List Item}
theorem MemR.pickd (h:MemR R w0 w L)(hx:ExtR R w w'):MemR R w0 w' L:=
 ⟨h.old,h.ext.trans hx,h.good,fun it hi=>(h.good it hi).stay w w' (h.ok it hi) hx.sz (fun g hg=>by
  have h1:=(h.good it hi).lt w (h.ok it hi) g hg;have h2:=h.old
  exact hx.block g h1.2 (fun e=>by injection e with e;omega)),h.apart⟩
theorem MemR.made {it:Item}(h:MemR R w0 w L)(hx:ExtR R w w')(hg:it.Good w0)(ho:it.ok w')(hn: ∀g,it.adr g→w.heap.size≤g):MemR R w0 w' (it::L):=by refine(h.pickd hx).cons hg ho (fun g hg' j hj e=> ?_);have h1:=hn g hg';have h2:=((h.good j hj).lt w (h.ok j hj) g e).2;omega
theorem MemR.blkR {g:Nat}{t:TypeId}{cs:Array Value}(h:MemR R w0 w L)(hx:ExtR R w w')(hb:Blk w' g t cs)(hg:w.heap.size≤g):MemR R w0 w' (aI w0 g t cs::L):=
 h.made hx (oJ _ _ _ _) ⟨aTg h.ext.sz hg,hb⟩ (fun g' hg'=>by obtain rfl:g=g':=hg';exact hg)
theorem MemR.callR {n c sz:Nat}{e:TypeId}{q:OA}{xs:List Value}(h:MemR R w0 w L)(hx:ExtR R w w')(ho:w'.ownsRow w e sz (.slice q n c) n xs):MemR R w0 w' (aJ w0 e sz q n c xs::L):=
 h.made hx (dZ _ _ _ _ _ _ _) (cH ho h.ext.sz) (fun g hg=>(aU0 ho g hg).1)
theorem MemR.own2 {e1 e2:TypeId}{s1 s2 n1 n2 c1 c2:Nat}{q1 q2:OA}{a b:List Value}(h:MemR R w0 w L)(hx:ExtR R w w')(h1:w'.ownsRow w e1 s1 (.slice q1 n1 c1) n1 a)(h2:w'.ownsRow w e2 s2 (.slice q2 n2 c2) n2 b)(ht:e1≠e2):
  MemR R w0 w' (aJ w0 e1 s1 q1 n1 c1 a::aJ w0 e2 s2 q2 n2 c2 b::L):=by
 refine(h.callR hx h2).cons (dZ _ _ _ _ _ _ _) (cH h1 h.ext.sz) (fun g hg' j hj e=> ?_);replace hg':(Value.slice q1 n1 c1).ownBlock=Option.some g:=hg';have a1:=(aU0 h1 g hg').1;rcases aTi.1 hj with rfl|hj
 ·have e':(Value.slice q2 n2 c2).ownBlock=Option.some g:=e;rcases h1.2 with⟨b1,_⟩|⟨g1,cap1,cur1,b1,_,b3,_⟩
  ·rw[b1]at hg';cases hg'
  rcases h2.2 with⟨d1,_⟩|⟨g2,cap2,cur2,d1,_,d3,_⟩
  ·rw[d1]at e';cases e'
  rw[b1]at hg';rw[d1]at e';injection hg' with hg';injection e' with e';have x1:g1=g:=hg';have x2:g2=g:=e';subst x1;rw[x2]at d3;rw[d3]at b3;injection b3 with b3;injection b3 with _ b3;exact ht b3.symm
 have h4:=((h.good j hj).lt w (h.ok j hj) g e).2;omega
theorem MemR.own2blk {e1 e2 t:TypeId}{s1 s2 n1 n2 c1 c2 g:Nat}{q1 q2:OA}{d a:List Value}{cs:Array Value}(h:MemR R w0 w L)(hx:ExtR R w w')(h1:w'.ownsRow w e1 s1 (.slice q1 n1 c1) n1 d)(h2:w'.ownsRow w e2 s2 (.slice q2 n2 c2) n2 a)(hb:Blk w' g t cs)(hg:w.heap.size≤g)(ht:e1≠e2)(t1:e1≠t)(t2:e2≠t):
  MemR R w0 w' (aJ w0 e1 s1 q1 n1 c1 d::aJ w0 e2 s2 q2 n2 c2 a::aI w0 g t cs::L):=by
 have b: ∀ {e:TypeId} {s n c:Nat} {q:OA} {xs:List Value},w'.ownsRow w e s (.slice q n c) n xs→e≠t→(Value.slice q n c).ownBlock≠Option.some g:=by
  intro e s n c q xs ho f he;rcases ho.2 with⟨b1,_⟩|⟨g1,cap1,cur1,b1,_,b3,_⟩
  ·rw[b1]at he;cases he
  rw[b1]at he;injection he with he;have x1:g1=g:=he;subst x1;unfold Blk at hb;rw[hb]at b3;injection b3 with b3;injection b3 with _ b3;exact f b3.symm
 have H:=h.own2 hx h1 h2 ht;have p1:=List.pairwise_cons.1 H.apart;have p2:=List.pairwise_cons.1 p1.2;have HB:=h.blkR hx hb hg
 have H2:MemR R w0 w' (aJ w0 e2 s2 q2 n2 c2 a::aI w0 g t cs::L):=HB.cons (dZ _ _ _ _ _ _ _) (cH h2 h.ext.sz) (fun g' hg' j hj e=>by
  rcases aTi.1 hj with rfl|hj
  ·obtain rfl:g=g':=e;exact b h2 t2 hg'
  ·exact p2.1 j hj g' hg' e)
 exact H2.cons (dZ _ _ _ _ _ _ _) (cH h1 h.ext.sz) (fun g' hg' j hj e=>by
  rcases aTi.1 hj with rfl|hj
  ·exact p1.1 _ (by simp) g' hg' e
  ·rcases aTi.1 hj with rfl|hj
   ·obtain rfl:g=g':=e;exact b h1 t1 hg'
   ·exact p1.1 j (by simp[hj]) g' hg' e)
end
theorem MemR.hi {R:Nat}{w0 w:World}{L:List Item}(h:MemR R w0 w L)(i:Nat){g:Nat}{it:Item}(hi:L[i]? =Option.some it:=by exact rfl) (hg:it.adr g:=by exact rfl):g<w.heap.size:=(h.lt hi hg).2
theorem MemR.nq {R:Nat}{w0 w:World}{L:List Item}(h:MemR R w0 w L)(i j:Nat){g g':Nat}{a b:Item}(c:i<j:=by omega)(hi:L[i]? =Option.some a:=by exact rfl) (hj:L[j]? =Option.some b:=by exact rfl) (ha:a.adr g:=by exact rfl) (hb:b.adr g':=by exact rfl): ¬g=g'∧ ¬g'=g:=⟨h.ne c hi hj ha hb,fun e=>h.ne c hi hj ha hb e.symm⟩
theorem MemR.bk {R:Nat}{w0 w:World}{L:List Item}(h:MemR R w0 w L)(i:Nat){g B:Nat}{t:TypeId}{cs:Array Value}(hi:L[i]? =Option.some (aI B g t cs):=by exact rfl):Blk w g t cs:=h.blk hi
theorem MemR.ow {R:Nat}{w0 w:World}{L:List Item}(h:MemR R w0 w L)(i:Nat){B n c sz:Nat}{e:TypeId}{q:OA}{xs:List Value}(hi:L[i]? =Option.some (aJ B e sz q n c xs):=by exact rfl):w.ownsRow B e sz (.slice q n c) n xs:=h.own hi
theorem MemR.sq {R:Nat}{w0 w:World}{L:List Item}(h:MemR R w0 w L)(i:Nat){B n c sz:Nat}{e:TypeId}{q:OA}{xs:List Value}(hi:L[i]? =Option.some (aJ B e sz q n c xs):=by exact rfl):Sl w q n c sz xs:=h.sl hi
theorem MemR.so {R:Nat}{w0 w:World}{L:List Item}(h:MemR R w0 w L)(i:Nat){n c sz B:Nat}{e:TypeId}{q:OA}{xs:List Value}(hi:L[i]? =Option.some (aJ B e sz q n c xs):=by exact rfl) (hn:0<n:=by omega): ∃g,q=Option.some ⟨g,0,none⟩∧w0.heap.size≤g∧g<w.heap.size:=h.some hi hn
theorem MemR.bn {R:Nat}{w0 w:World}{L:List Item}(h:MemR R w0 w L)(t:TypeId)(cs:Array Value)(g:Nat)(hg:w.heap.size=g:=by first|exact rfl|simp):MemR R w0 (w.alloc (.cells cs t)) (aI w0 g t cs::L):=h.blkNew t cs g hg
theorem MemR.c0 {R:Nat}{w0 v:World}{L:List Item}(h:MemR R w0 v L)(t:TypeId)(cs:Array Value):MemR R w0 (v.alloc (.cells cs t)) (aI w0 v t cs::L):=h.blkNew t cs _ rfl
theorem MemR.c1 {R:Nat}{w0 v:World}{o:Obj}{L:List Item}(h:MemR R w0 (v.alloc o) L)(t:TypeId)(cs:Array Value):MemR R w0 ((v.alloc o).alloc (.cells cs t)) (aI w0 (v.heap.size+1) t cs::L):=h.blkNew t cs _ (by simp)
theorem MemR.c2 {R:Nat}{w0 v:World}{o o':Obj}{L:List Item}(h:MemR R w0 ((v.alloc o).alloc o') L)(t:TypeId)(cs:Array Value):MemR R w0 (((v.alloc o).alloc o').alloc (.cells cs t)) (aI w0 (v.heap.size+1+1) t cs::L):=h.blkNew t cs _ (by simp)
end
section
open Go
theorem Mem.put3 {w0 w:World}{L:List Item}{i g B:Nat}{t:TypeId}{a0 a1 a2:Value}(h:Mem w0 w L)(hi:L[i]? =Option.some (aI B g t #[a0,a1,a2])) (b0 b1 b2:Value):Mem w0 (((w.setCell ⟨g,0,none⟩ b0).setCell ⟨g,1,none⟩ b1).setCell ⟨g,2,none⟩ b2) (L.set i (aI w0 g t #[b0,b1,b2])):=by
 have hl:i<L.length:=(aT9.1 hi).1;have h0:Mem w0 (w.setCell ⟨g,0,none⟩ b0) (L.set i (aI w0 g t #[b0,a1,a2])):=by have:=h.store (i:=i) hi 0 b0;simpa[aU3]using this
 have i0:(L.set i (aI w0 g t #[b0,a1,a2]))[i]? =Option.some (aI w0 g t #[b0,a1,a2]):=by rw[aTh hl]
 have h1:Mem w0 ((w.setCell ⟨g,0,none⟩ b0).setCell ⟨g,1,none⟩ b1) (L.set i (aI w0 g t #[b0,b1,a2])):=by have:=h0.store (i:=i) i0 1 b1;simpa[aU3]using this
 have i1:(L.set i (aI w0 g t #[b0,b1,a2]))[i]? =Option.some (aI w0 g t #[b0,b1,a2]):=by rw[aTh hl]
 have h2:Mem w0 (((w.setCell ⟨g,0,none⟩ b0).setCell ⟨g,1,none⟩ b1).setCell ⟨g,2,none⟩ b2) (L.set i (aI w0 g t #[b0,b1,b2])):=by have:=h1.store (i:=i) i1 2 b2;simpa[aU3]using this
 have i2:(L.set i (aI w0 g t #[b0,b1,b2]))[i]? =Option.some (aI w0 g t #[b0,b1,b2]):=by rw[aTh hl]
 exact h2
theorem Mem.put10 {w0 w:World}{L:List Item}{i g B:Nat}{t:TypeId}{a0 a1 a2 a3 a4 a5 a6 a7 a8 a9:Value}(h:Mem w0 w L)(hi:L[i]? =Option.some (aI B g t #[a0,a1,a2,a3,a4,a5,a6,a7,a8,a9])) (b0 b1 b2 b3 b4 b5 b6 b7 b8 b9:Value):Mem w0 ((((((((((w.setCell ⟨g,0,none⟩ b0).setCell ⟨g,1,none⟩ b1).setCell ⟨g,2,none⟩ b2).setCell ⟨g,3,none⟩ b3).setCell ⟨g,4,none⟩ b4).setCell ⟨g,5,none⟩ b5).setCell ⟨g,6,none⟩ b6).setCell ⟨g,7,none⟩ b7).setCell ⟨g,8,none⟩ b8).setCell ⟨g,9,none⟩ b9) (L.set i (aI w0 g t #[b0,b1,b2,b3,b4,b5,b6,b7,b8,b9])):=by
 have hl:i<L.length:=(aT9.1 hi).1;have h0:Mem w0 (w.setCell ⟨g,0,none⟩ b0) (L.set i (aI w0 g t #[b0,a1,a2,a3,a4,a5,a6,a7,a8,a9])):=by have:=h.store (i:=i) hi 0 b0;simpa[aU3]using this
 have i0:(L.set i (aI w0 g t #[b0,a1,a2,a3,a4,a5,a6,a7,a8,a9]))[i]? =Option.some (aI w0 g t #[b0,a1,a2,a3,a4,a5,a6,a7,a8,a9]):=by rw[aTh hl]
 have h1:Mem w0 ((w.setCell ⟨g,0,none⟩ b0).setCell ⟨g,1,none⟩ b1) (L.set i (aI w0 g t #[b0,b1,a2,a3,a4,a5,a6,a7,a8,a9])):=by have:=h0.store (i:=i) i0 1 b1;simpa[aU3]using this
 have i1:(L.set i (aI w0 g t #[b0,b1,a2,a3,a4,a5,a6,a7,a8,a9]))[i]? =Option.some (aI w0 g t #[b0,b1,a2,a3,a4,a5,a6,a7,a8,a9]):=by rw[aTh hl]
 have h2:Mem w0 (((w.setCell ⟨g,0,none⟩ b0).setCell ⟨g,1,none⟩ b1).setCell ⟨g,2,none⟩ b2) (L.set i (aI w0 g t #[b0,b1,b2,a3,a4,a5,a6,a7,a8,a9])):=by have:=h1.store (i:=i) i1 2 b2;simpa[aU3]using this
 have i2:(L.set i (aI w0 g t #[b0,b1,b2,a3,a4,a5,a6,a7,a8,a9]))[i]? =Option.some (aI w0 g t #[b0,b1,b2,a3,a4,a5,a6,a7,a8,a9]):=by rw[aTh hl]
 have h3:Mem w0 ((((w.setCell ⟨g,0,none⟩ b0).setCell ⟨g,1,none⟩ b1).setCell ⟨g,2,none⟩ b2).setCell ⟨g,3,none⟩ b3) (L.set i (aI w0 g t #[b0,b1,b2,b3,a4,a5,a6,a7,a8,a9])):=by have:=h2.store (i:=i) i2 3 b3;simpa[aU3]using this
 have i3:(L.set i (aI w0 g t #[b0,b1,b2,b3,a4,a5,a6,a7,a8,a9]))[i]? =Option.some (aI w0 g t #[b0,b1,b2,b3,a4,a5,a6,a7,a8,a9]):=by rw[aTh hl]
 have h4:Mem w0 (((((w.setCell ⟨g,0,none⟩ b0).setCell ⟨g,1,none⟩ b1).setCell ⟨g,2,none⟩ b2).setCell ⟨g,3,none⟩ b3).setCell ⟨g,4,none⟩ b4) (L.set i (aI w0 g t #[b0,b1,b2,b3,b4,a5,a6,a7,a8,a9])):=by have:=h3.store (i:=i) i3 4 b4;simpa[aU3]using this
 have i4:(L.set i (aI w0 g t #[b0,b1,b2,b3,b4,a5,a6,a7,a8,a9]))[i]? =Option.some (aI w0 g t #[b0,b1,b2,b3,b4,a5,a6,a7,a8,a9]):=by rw[aTh hl]
 have h5:Mem w0 ((((((w.setCell ⟨g,0,none⟩ b0).setCell ⟨g,1,none⟩ b1).setCell ⟨g,2,none⟩ b2).setCell ⟨g,3,none⟩ b3).setCell ⟨g,4,none⟩ b4).setCell ⟨g,5,none⟩ b5) (L.set i (aI w0 g t #[b0,b1,b2,b3,b4,b5,a6,a7,a8,a9])):=by have:=h4.store (i:=i) i4 5 b5;simpa[aU3]using this
 have i5:(L.set i (aI w0 g t #[b0,b1,b2,b3,b4,b5,a6,a7,a8,a9]))[i]? =Option.some (aI w0 g t #[b0,b1,b2,b3,b4,b5,a6,a7,a8,a9]):=by rw[aTh hl]
 have h6:Mem w0 (((((((w.setCell ⟨g,0,none⟩ b0).setCell ⟨g,1,none⟩ b1).setCell ⟨g,2,none⟩ b2).setCell ⟨g,3,none⟩ b3).setCell ⟨g,4,none⟩ b4).setCell ⟨g,5,none⟩ b5).setCell ⟨g,6,none⟩ b6) (L.set i (aI w0 g t #[b0,b1,b2,b3,b4,b5,b6,a7,a8,a9])):=by have:=h5.store (i:=i) i5 6 b6;simpa[aU3]using this
 have i6:(L.set i (aI w0 g t #[b0,b1,b2,b3,b4,b5,b6,a7,a8,a9]))[i]? =Option.some (aI w0 g t #[b0,b1,b2,b3,b4,b5,b6,a7,a8,a9]):=by rw[aTh hl]
 have h7:Mem w0 ((((((((w.setCell ⟨g,0,none⟩ b0).setCell ⟨g,1,none⟩ b1).setCell ⟨g,2,none⟩ b2).setCell ⟨g,3,none⟩ b3).setCell ⟨g,4,none⟩ b4).setCell ⟨g,5,none⟩ b5).setCell ⟨g,6,none⟩ b6).setCell ⟨g,7,none⟩ b7) (L.set i (aI w0 g t #[b0,b1,b2,b3,b4,b5,b6,b7,a8,a9])):=by have:=h6.store (i:=i) i6 7 b7;simpa[aU3]using this
 have i7:(L.set i (aI w0 g t #[b0,b1,b2,b3,b4,b5,b6,b7,a8,a9]))[i]? =Option.some (aI w0 g t #[b0,b1,b2,b3,b4,b5,b6,b7,a8,a9]):=by rw[aTh hl]
 have h8:Mem w0 (((((((((w.setCell ⟨g,0,none⟩ b0).setCell ⟨g,1,none⟩ b1).setCell ⟨g,2,none⟩ b2).setCell ⟨g,3,none⟩ b3).setCell ⟨g,4,none⟩ b4).setCell ⟨g,5,none⟩ b5).setCell ⟨g,6,none⟩ b6).setCell ⟨g,7,none⟩ b7).setCell ⟨g,8,none⟩ b8) (L.set i (aI w0 g t #[b0,b1,b2,b3,b4,b5,b6,b7,b8,a9])):=by have:=h7.store (i:=i) i7 8 b8;simpa[aU3]using this
 have i8:(L.set i (aI w0 g t #[b0,b1,b2,b3,b4,b5,b6,b7,b8,a9]))[i]? =Option.some (aI w0 g t #[b0,b1,b2,b3,b4,b5,b6,b7,b8,a9]):=by rw[aTh hl]
 have h9:Mem w0 ((((((((((w.setCell ⟨g,0,none⟩ b0).setCell ⟨g,1,none⟩ b1).setCell ⟨g,2,none⟩ b2).setCell ⟨g,3,none⟩ b3).setCell ⟨g,4,none⟩ b4).setCell ⟨g,5,none⟩ b5).setCell ⟨g,6,none⟩ b6).setCell ⟨g,7,none⟩ b7).setCell ⟨g,8,none⟩ b8).setCell ⟨g,9,none⟩ b9) (L.set i (aI w0 g t #[b0,b1,b2,b3,b4,b5,b6,b7,b8,b9])):=by have:=h8.store (i:=i) i8 9 b9;simpa[aU3]using this
 have i9:(L.set i (aI w0 g t #[b0,b1,b2,b3,b4,b5,b6,b7,b8,b9]))[i]? =Option.some (aI w0 g t #[b0,b1,b2,b3,b4,b5,b6,b7,b8,b9]):=by rw[aTh hl]
 exact h9
theorem MemR.put3 {R:Nat}{w0 w:World}{L:List Item}{i g B:Nat}{t:TypeId}{a0 a1 a2:Value}(h:MemR R w0 w L)(hi:L[i]? =Option.some (aI B g t #[a0,a1,a2])) (b0 b1 b2:Value):MemR R w0 (((w.setCell ⟨g,0,none⟩ b0).setCell ⟨g,1,none⟩ b1).setCell ⟨g,2,none⟩ b2) (L.set i (aI w0 g t #[b0,b1,b2])):=by
 have hl:i<L.length:=(aT9.1 hi).1;have h0:MemR R w0 (w.setCell ⟨g,0,none⟩ b0) (L.set i (aI w0 g t #[b0,a1,a2])):=by have:=h.store (i:=i) hi 0 b0;simpa[aU3]using this
 have i0:(L.set i (aI w0 g t #[b0,a1,a2]))[i]? =Option.some (aI w0 g t #[b0,a1,a2]):=by rw[aTh hl]
 have h1:MemR R w0 ((w.setCell ⟨g,0,none⟩ b0).setCell ⟨g,1,none⟩ b1) (L.set i (aI w0 g t #[b0,b1,a2])):=by have:=h0.store (i:=i) i0 1 b1;simpa[aU3]using this
 have i1:(L.set i (aI w0 g t #[b0,b1,a2]))[i]? =Option.some (aI w0 g t #[b0,b1,a2]):=by rw[aTh hl]
 have h2:MemR R w0 (((w.setCell ⟨g,0,none⟩ b0).setCell ⟨g,1,none⟩ b1).setCell ⟨g,2,none⟩ b2) (L.set i (aI w0 g t #[b0,b1,b2])):=by have:=h1.store (i:=i) i1 2 b2;simpa[aU3]using this
 have i2:(L.set i (aI w0 g t #[b0,b1,b2]))[i]? =Option.some (aI w0 g t #[b0,b1,b2]):=by rw[aTh hl]
 exact h2
theorem MemR.put10 {R:Nat}{w0 w:World}{L:List Item}{i g B:Nat}{t:TypeId}{a0 a1 a2 a3 a4 a5 a6 a7 a8 a9:Value}(h:MemR R w0 w L)(hi:L[i]? =Option.some (aI B g t #[a0,a1,a2,a3,a4,a5,a6,a7,a8,a9])) (b0 b1 b2 b3 b4 b5 b6 b7 b8 b9:Value):MemR R w0 ((((((((((w.setCell ⟨g,0,none⟩ b0).setCell ⟨g,1,none⟩ b1).setCell ⟨g,2,none⟩ b2).setCell ⟨g,3,none⟩ b3).setCell ⟨g,4,none⟩ b4).setCell ⟨g,5,none⟩ b5).setCell ⟨g,6,none⟩ b6).setCell ⟨g,7,none⟩ b7).setCell ⟨g,8,none⟩ b8).setCell ⟨g,9,none⟩ b9) (L.set i (aI w0 g t #[b0,b1,b2,b3,b4,b5,b6,b7,b8,b9])):=by
 have hl:i<L.length:=(aT9.1 hi).1;have h0:MemR R w0 (w.setCell ⟨g,0,none⟩ b0) (L.set i (aI w0 g t #[b0,a1,a2,a3,a4,a5,a6,a7,a8,a9])):=by have:=h.store (i:=i) hi 0 b0;simpa[aU3]using this
 have i0:(L.set i (aI w0 g t #[b0,a1,a2,a3,a4,a5,a6,a7,a8,a9]))[i]? =Option.some (aI w0 g t #[b0,a1,a2,a3,a4,a5,a6,a7,a8,a9]):=by rw[aTh hl]
 have h1:MemR R w0 ((w.setCell ⟨g,0,none⟩ b0).setCell ⟨g,1,none⟩ b1) (L.set i (aI w0 g t #[b0,b1,a2,a3,a4,a5,a6,a7,a8,a9])):=by have:=h0.store (i:=i) i0 1 b1;simpa[aU3]using this
 have i1:(L.set i (aI w0 g t #[b0,b1,a2,a3,a4,a5,a6,a7,a8,a9]))[i]? =Option.some (aI w0 g t #[b0,b1,a2,a3,a4,a5,a6,a7,a8,a9]):=by rw[aTh hl]
 have h2:MemR R w0 (((w.setCell ⟨g,0,none⟩ b0).setCell ⟨g,1,none⟩ b1).setCell ⟨g,2,none⟩ b2) (L.set i (aI w0 g t #[b0,b1,b2,a3,a4,a5,a6,a7,a8,a9])):=by have:=h1.store (i:=i) i1 2 b2;simpa[aU3]using this
 have i2:(L.set i (aI w0 g t #[b0,b1,b2,a3,a4,a5,a6,a7,a8,a9]))[i]? =Option.some (aI w0 g t #[b0,b1,b2,a3,a4,a5,a6,a7,a8,a9]):=by rw[aTh hl]
 have h3:MemR R w0 ((((w.setCell ⟨g,0,none⟩ b0).setCell ⟨g,1,none⟩ b1).setCell ⟨g,2,none⟩ b2).setCell ⟨g,3,none⟩ b3) (L.set i (aI w0 g t #[b0,b1,b2,b3,a4,a5,a6,a7,a8,a9])):=by have:=h2.store (i:=i) i2 3 b3;simpa[aU3]using this
 have i3:(L.set i (aI w0 g t #[b0,b1,b2,b3,a4,a5,a6,a7,a8,a9]))[i]? =Option.some (aI w0 g t #[b0,b1,b2,b3,a4,a5,a6,a7,a8,a9]):=by rw[aTh hl]
 have h4:MemR R w0 (((((w.setCell ⟨g,0,none⟩ b0).setCell ⟨g,1,none⟩ b1).setCell ⟨g,2,none⟩ b2).setCell ⟨g,3,none⟩ b3).setCell ⟨g,4,none⟩ b4) (L.set i (aI w0 g t #[b0,b1,b2,b3,b4,a5,a6,a7,a8,a9])):=by have:=h3.store (i:=i) i3 4 b4;simpa[aU3]using this
 have i4:(L.set i (aI w0 g t #[b0,b1,b2,b3,b4,a5,a6,a7,a8,a9]))[i]? =Option.some (aI w0 g t #[b0,b1,b2,b3,b4,a5,a6,a7,a8,a9]):=by rw[aTh hl]
 have h5:MemR R w0 ((((((w.setCell ⟨g,0,none⟩ b0).setCell ⟨g,1,none⟩ b1).setCell ⟨g,2,none⟩ b2).setCell ⟨g,3,none⟩ b3).setCell ⟨g,4,none⟩ b4).setCell ⟨g,5,none⟩ b5) (L.set i (aI w0 g t #[b0,b1,b2,b3,b4,b5,a6,a7,a8,a9])):=by have:=h4.store (i:=i) i4 5 b5;simpa[aU3]using this
 have i5:(L.set i (aI w0 g t #[b0,b1,b2,b3,b4,b5,a6,a7,a8,a9]))[i]? =Option.some (aI w0 g t #[b0,b1,b2,b3,b4,b5,a6,a7,a8,a9]):=by rw[aTh hl]
 have h6:MemR R w0 (((((((w.setCell ⟨g,0,none⟩ b0).setCell ⟨g,1,none⟩ b1).setCell ⟨g,2,none⟩ b2).setCell ⟨g,3,none⟩ b3).setCell ⟨g,4,none⟩ b4).setCell ⟨g,5,none⟩ b5).setCell ⟨g,6,none⟩ b6) (L.set i (aI w0 g t #[b0,b1,b2,b3,b4,b5,b6,a7,a8,a9])):=by have:=h5.store (i:=i) i5 6 b6;simpa[aU3]using this
 have i6:(L.set i (aI w0 g t #[b0,b1,b2,b3,b4,b5,b6,a7,a8,a9]))[i]? =Option.some (aI w0 g t #[b0,b1,b2,b3,b4,b5,b6,a7,a8,a9]):=by rw[aTh hl]
 have h7:MemR R w0 ((((((((w.setCell ⟨g,0,none⟩ b0).setCell ⟨g,1,none⟩ b1).setCell ⟨g,2,none⟩ b2).setCell ⟨g,3,none⟩ b3).setCell ⟨g,4,none⟩ b4).setCell ⟨g,5,none⟩ b5).setCell ⟨g,6,none⟩ b6).setCell ⟨g,7,none⟩ b7) (L.set i (aI w0 g t #[b0,b1,b2,b3,b4,b5,b6,b7,a8,a9])):=by have:=h6.store (i:=i) i6 7 b7;simpa[aU3]using this
 have i7:(L.set i (aI w0 g t #[b0,b1,b2,b3,b4,b5,b6,b7,a8,a9]))[i]? =Option.some (aI w0 g t #[b0,b1,b2,b3,b4,b5,b6,b7,a8,a9]):=by rw[aTh hl]
 have h8:MemR R w0 (((((((((w.setCell ⟨g,0,none⟩ b0).setCell ⟨g,1,none⟩ b1).setCell ⟨g,2,none⟩ b2).setCell ⟨g,3,none⟩ b3).setCell ⟨g,4,none⟩ b4).setCell ⟨g,5,none⟩ b5).setCell ⟨g,6,none⟩ b6).setCell ⟨g,7,none⟩ b7).setCell ⟨g,8,none⟩ b8) (L.set i (aI w0 g t #[b0,b1,b2,b3,b4,b5,b6,b7,b8,a9])):=by have:=h7.store (i:=i) i7 8 b8;simpa[aU3]using this
 have i8:(L.set i (aI w0 g t #[b0,b1,b2,b3,b4,b5,b6,b7,b8,a9]))[i]? =Option.some (aI w0 g t #[b0,b1,b2,b3,b4,b5,b6,b7,b8,a9]):=by rw[aTh hl]
 have h9:MemR R w0 ((((((((((w.setCell ⟨g,0,none⟩ b0).setCell ⟨g,1,none⟩ b1).setCell ⟨g,2,none⟩ b2).setCell ⟨g,3,none⟩ b3).setCell ⟨g,4,none⟩ b4).setCell ⟨g,5,none⟩ b5).setCell ⟨g,6,none⟩ b6).setCell ⟨g,7,none⟩ b7).setCell ⟨g,8,none⟩ b8).setCell ⟨g,9,none⟩ b9) (L.set i (aI w0 g t #[b0,b1,b2,b3,b4,b5,b6,b7,b8,b9])):=by have:=h8.store (i:=i) i8 9 b9;simpa[aU3]using this
 have i9:(L.set i (aI w0 g t #[b0,b1,b2,b3,b4,b5,b6,b7,b8,b9]))[i]? =Option.some (aI w0 g t #[b0,b1,b2,b3,b4,b5,b6,b7,b8,b9]):=by rw[aTh hl]
 exact h9
end
section
open Go.Proofs.Tryz
def Code (w:World)(v:Value):Prop:= ∃(p:OA) (n cap:Nat) (bs:List Int),v= .slice p n cap∧Sl w p n cap 1 (bs.map (Value.int .u8))∧ ∀x∈bs,0≤x∧x≤255
theorem Code.ext {w w':World}{v:Value}(h:Code w v)(hx:Ext w w'):Code w' v:=by obtain⟨p,n,a,bs,h1,h2,h3⟩:=h;exact⟨p,n,a,bs,h1,h2.ext hx,h3⟩
def aRm (w:World)(e:Ending)(w':World):Prop:= ∃R,e= .returned (.pointer (some ⟨R,0,none⟩))∧w.heap.size≤R∧Rand w' R 0∧Ext w w'
theorem aF1 {w:World}{p:OA}{n a:Nat}{bs:List Int}(h:Sl w p n a 1 (bs.map (Value.int .u8)))(hn:n≤2000)(hb: ∀x∈bs,0≤x∧x≤255)(hp:0<n→ ∀b off,p=some ⟨b,off,none⟩→b<w.heap.size):
  Rand (w.alloc (.cells #[.slice p n a,()] 71)) w 0:=
 ⟨p,n,a,0,bs,Blk.new _ _ _,by omega,by omega,h.ext ((Ext.refl w).alloc _),hn,hb,fun h0 b off e=>by have:=hp h0 b off e;omega⟩
theorem aF9 (v:Value)(w:World)(hc:Code w v):U 14 #[v] w (aRm w):=by
 obtain⟨p,n,c,bs,rfl,h,hb⟩:=hc;have hp:0<n→ ∃b off,p=some ⟨b,off,none⟩∧b<w.heap.size:=fun h0=>by obtain⟨b,off,e,h1,_⟩:=h.rd h0;exact⟨b,off,e,h1⟩
 have g:=h.le;have a:=h.mx;have f:=h.bd;unfold maxLen at a;have H:=xQ h;clear h;by_cases hn:2000<n
 ·obtain⟨b,off,rfl,d⟩:=hp (by omega);go_enter func14,ntmps14;go_wp2;go_ret;exact⟨_,rfl,aT5 _,aF1 (by simpa using aHp H (m:=2000) (by omega)) (by omega) (fun x hx=>hb x (aUl hx)) (fun _ b' off' e=>by injection e with e;injection e with e;omega),by exact .alloc (.refl _) _⟩
 go_enter func14,ntmps14;go_wp2;go_ret;exact⟨_,rfl,aT5 _,aF1 H (by omega) hb (fun h0 b' off' e=>by obtain⟨b,off,e2,h3⟩:=hp h0;rw[e2]at e;injection e with e;injection e with e;omega),by exact .alloc (.refl _) _⟩
def aQ8 (R k:Nat)(n:Int)(w:World)(e:Ending)(w':World):Prop:= ∃t:Bool,e= .returned (.bool t)∧Rand w' R (k+1)∧ExtR R w w'
theorem aCy (R k:Nat)(n:Int)(w:World)(hr:Rand w R k)(hk:k≤1099511627775)(hn:0≤n)(b:n≤1000000):
  U 18 #[.pointer (some ⟨R,0,none⟩),n] w (aQ8 R k n w):=by
 by_cases h0:0<n
 ·go_enter func18,ntmps18;go_wp2_with fail;refine(cK R (k) (n) _ (hr) (by omega)).mono ?_;rintro e w1 ⟨a,rfl,a0,a1,r1,x1⟩;replace a1:a<n:=by omega
  go_wp2;go_ret;exact⟨_,rfl,r1,x1⟩
 go_enter func18,ntmps18;go_wp2;go_ret;exact⟨_,rfl,hr.mono (by omega),ExtR.refl _ _⟩
theorem ExtR.blk {R g:Nat}{w w':World}{t:TypeId}{cs:Array Value}(h:ExtR R w w')(hb:Blk w g t cs)(a:g≠R):Blk w' g t cs:=hb.grown h (fun e=>a (by injection e))
section
open Go.ChangeShapes Go.WideShapes Go.ChangeAt
variable {H:Type} {enc:TypeId×Value→H} {w:World} {base:Nat} {spare:Nat→Bool} {held:Bool} {b0:Nat} {r:Reach} {v:Value} {d:DataW H} {p:List MemPlace}
theorem aLl (hv:Value.okWide prog w r b0 22 v)(h:DataW.Trod enc prog w base spare held 22 v d p): ∃u:Unit,Code w v:=by
 obtain⟨a0,i,g,rfl⟩:=okWide_slice underlying22 hv;obtain⟨f,hh⟩:=h
 obtain⟨xs,q,c,b,hS,hg⟩:=aOa (α:=Int) (fun x=> [.int .u8 x]) (fun x=>0≤x∧x≤255) 1 underlying22 (by kernel_rfl) (by omega) (fun _=>rfl) (fun n cs y hy=>by
  obtain⟨a,rfl,_,ha⟩:=DataW.trod_int underlying5 hy
  exact⟨a,rfl,bounds_u8 ha⟩) (by simpa[Value.cells]using hh)
 refine⟨(),q,_,c,xs,b,?_,hg⟩;have e:xs.flatMap (fun x=> [Value.int .u8 x])=xs.map (Value.int .u8):=by
  clear hS hg b;induction xs with
  |nil=>rfl
  |cons x xs ih=>simp_all
 rw[←e];exact hS
end
end
end Go.Proofs.YthfmmibomhhmpaaGreatDoor
