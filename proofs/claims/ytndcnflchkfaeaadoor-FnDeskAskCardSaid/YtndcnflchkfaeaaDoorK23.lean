/-
  Texts of this proof, packed (@packed).
-/
import Derived.Test.YtndcnflchkfaeaaDoorK1
import Derived.Test.YtndcnflchkfaeaaDoorK3
import Derived.Test.YtndcnflchkfaeaaDoorK22
namespace Go.Proofs.YtndcnflchkfaeaaDoor
open Go Go.RowKit
set_option linter.unusedVariables false
theorem rand_grown {w w':World}{R k:Nat}{row:Option Nat}(h:Rand w R k)(hg:w.grownBy w' row)(hr: ∀g,row=some g→R<g):Rand w' R k:=by
 have hl:=h.lt
 exact h.below ⟨hg.os,hg.tape,hg.output,hg.size,fun i hi=>hg.block i (by omega) (fun e=>by have:=hr i e.symm;omega)⟩
structure MemR (R:Nat) (w0 w:World) (L:List Item):Prop where
 old:R<w0.heap.size
 ext:ExtR R w0 w
 good: ∀it∈L,it.Good w0.heap.size
 ok: ∀it∈L,it.ok w
 apart:L.Pairwise (fun a b=> ∀g,a.adr g→ ¬b.adr g)
section
variable {R:Nat} {w0 w w':World} {L:List Item}
theorem MemR.start (R:Nat)(w:World)(h:R<w.heap.size):MemR R w w []:=⟨h,ExtR.refl R w,fun _ h=>absurd h (by simp),fun _ h=>absurd h (by simp),List.Pairwise.nil⟩
theorem MemR.of (hR:R<w0.heap.size)(h:ExtR R w0 w):MemR R w0 w []:=⟨hR,h,fun _ h=>absurd h (by simp),fun _ h=>absurd h (by simp),List.Pairwise.nil⟩
theorem MemR.adv (h:MemR R w0 w L)(hx:Ext w w'):MemR R w0 w' L:=
 ⟨h.old,h.ext.ext hx,h.good,fun it hi=>(h.good it hi).stay w w' (h.ok it hi) hx.sz (fun g hg=>hx.block g ((h.good it hi).lt w (h.ok it hi) g hg).2),h.apart⟩
theorem MemR.cons {it:Item}(h:MemR R w0 w L)(hg:it.Good w0.heap.size)(ho:it.ok w)(hn: ∀g,it.adr g→ ∀j∈L,¬j.adr g):MemR R w0 w (it::L):=
 ⟨h.old,h.ext,fun x hx=>by
  rcases List.mem_cons.1 hx with rfl|hx
  ·exact hg
  ·exact h.good x hx,fun x hx=>by
  rcases List.mem_cons.1 hx with rfl|hx
  ·exact ho
  ·exact h.ok x hx,List.Pairwise.cons (fun j hj g hg'=>hn g hg' j hj) h.apart⟩
theorem MemR.new {it:Item}(h:MemR R w0 w L)(hx:Ext w w')(hg:it.Good w0.heap.size)(ho:it.ok w')(hn: ∀g,it.adr g→w.heap.size≤g):MemR R w0 w' (it::L):=by
 refine(h.adv hx).cons hg ho (fun g hg' j hj e=> ?_)
 have h1:=hn g hg'
 have h2:=((h.good j hj).lt w (h.ok j hj) g e).2
 omega
theorem MemR.blkOf {g:Nat}{t:TypeId}{cs:Array Value}(h:MemR R w0 w L)(hx:Ext w w')(hb:Blk w' g t cs)(hg:w.heap.size≤g):MemR R w0 w' (blkI w0.heap.size g t cs::L):=
 h.new hx (blkI_good _ _ _ _) ⟨Nat.le_trans h.ext.sz hg,hb⟩ (fun g' hg'=>by obtain rfl:g=g':=hg';exact hg)
theorem MemR.blkNew (h:MemR R w0 w L)(t:TypeId)(cs:Array Value)(g:Nat)(hg:w.heap.size=g):MemR R w0 (w.alloc (.cells cs t)) (blkI w0.heap.size g t cs::L):=by
 subst hg
 exact h.blkOf ((Ext.refl w).alloc _) (Blk.new _ _ _) (Nat.le_refl _)
theorem MemR.ownNew {b n c sz:Nat}{e:TypeId}{q:Option Addr}{xs:List Value}(h:MemR R w0 w L)(hx:Ext w w')(ho:w'.ownsRow b e sz (.slice q n c) n xs)(hb:w.heap.size≤b):MemR R w0 w' (ownI w0.heap.size e sz q n c xs::L):=
 h.new hx (ownI_good _ _ _ _ _ _ _) (own_low ho (Nat.le_trans h.ext.sz hb)) (fun g hg=>Nat.le_trans hb (World.ownsRow.lt ho g hg).1)
theorem MemR.call {n c sz:Nat}{e:TypeId}{q:Option Addr}{xs:List Value}(h:MemR R w0 w L)(hx:Ext w w')(ho:w'.ownsRow w.heap.size e sz (.slice q n c) n xs):MemR R w0 w' (ownI w0.heap.size e sz q n c xs::L):=h.ownNew hx ho (Nat.le_refl _)
theorem MemR.made0 (h:MemR R w0 w L)(e:TypeId)(sz g:Nat)(hg:w.heap.size=g):MemR R w0 (w.alloc (.cells #[] e)) (ownI w0.heap.size e sz (some ⟨g,0,none⟩) 0 0 []::L):=by
 subst hg
 exact h.ownNew ((Ext.refl w).alloc _) (World.ownsRow_made (base:=w.heap.size) w #[] 0 (Nat.le_refl _) (by simp[maxLen]) (by simp)) (Nat.le_refl _)
theorem MemR.lit (h:MemR R w0 w L)(e:TypeId)(sz n g:Nat)(cs:Array Value)(hg:w.heap.size=g)(hn:cs.size=n*sz)(hm:n≤maxLen):MemR R w0 (w.alloc (.cells cs e)) (ownI w0.heap.size e sz (some ⟨g,0,none⟩) n n cs.toList::L):=by
 subst hg
 exact h.ownNew ((Ext.refl w).alloc _) (own_lit (Blk.new w e cs) hn hm (Nat.le_refl _)) (Nat.le_refl _)
theorem MemR.blk {i g B:Nat}{t:TypeId}{cs:Array Value}(h:MemR R w0 w L)(hi:L[i]? =some (blkI B g t cs)):Blk w g t cs:=(h.ok _ (List.mem_of_getElem? hi)).2
theorem MemR.own {i B n c sz:Nat}{e:TypeId}{q:Option Addr}{xs:List Value}(h:MemR R w0 w L)(hi:L[i]? =some (ownI B e sz q n c xs)):w.ownsRow B e sz (.slice q n c) n xs:=h.ok _ (List.mem_of_getElem? hi)
theorem MemR.sl {i B n c sz:Nat}{e:TypeId}{q:Option Addr}{xs:List Value}(h:MemR R w0 w L)(hi:L[i]? =some (ownI B e sz q n c xs)):Sl w q n c sz xs:=Sl.own (h.own hi)
theorem MemR.lt {i g:Nat}{it:Item}(h:MemR R w0 w L)(hi:L[i]? =some it) (hg:it.adr g):w0.heap.size≤g∧g<w.heap.size:=(h.good _ (List.mem_of_getElem? hi)).lt w (h.ok _ (List.mem_of_getElem? hi)) g hg
theorem MemR.ne {i j g g':Nat}{a b:Item}(h:MemR R w0 w L)(hij:i<j)(hi:L[i]? =some a) (hj:L[j]? =some b) (ha:a.adr g) (hb:b.adr g'):g≠g':=by
 rintro rfl
 obtain⟨hil,rfl⟩:=List.getElem?_eq_some_iff.1 hi
 obtain⟨hjl,rfl⟩:=List.getElem?_eq_some_iff.1 hj
 exact List.pairwise_iff_getElem.1 h.apart i j hil hjl hij g ha hb
theorem MemR.far {i j:Nat}{a b:Item}(h:MemR R w0 w L)(hij:i≠j)(hi:L[i]? =some a) (hj:L[j]? =some b): ∀g,a.adr g→ ¬b.adr g:=by
 intro g ha hb
 rcases Nat.lt_or_gt_of_ne hij with hlt|hgt
 ·exact h.ne hlt hi hj ha hb rfl
 ·exact h.ne hgt hj hi hb ha rfl
theorem MemR.pick {L':List Item}(h:MemR R w0 w L)(is:List Nat)(hd:is.Nodup)(hl:is.map (fun i=>L[i]?)=L'.map some):MemR R w0 w L':=by
 have hlen:is.length=L'.length:=by have:=congrArg List.length hl;simpa using this
 have hat: ∀k,(hk:k<L'.length)→L[is[k]'(by omega)]? =some L'[k]:=by
  intro k hk
  have:=congrArg (fun z=>z[k]?) hl
  simp only[List.getElem?_map]at this
  rw[List.getElem?_eq_getElem (by omega:k<is.length),List.getElem?_eq_getElem hk]at this
  simpa using this
 have hmem: ∀x∈L',x∈L:=fun x hx=>by
  obtain⟨k,hk,rfl⟩:=List.getElem_of_mem hx
  exact List.mem_of_getElem? (hat k hk)
 refine⟨h.old,h.ext,fun x hx=>h.good x (hmem x hx),fun x hx=>h.ok x (hmem x hx),List.pairwise_iff_getElem.2 fun a b ha hb hab=> ?_⟩
 exact h.far (fun e=>by
  have:=(List.getElem_inj hd).1 e
  omega) (hat a ha) (hat b hb)
theorem MemR.turn {i:Nat}{it it':Item}{row:Option Nat}(h:MemR R w0 w L)(hi:L[i]? =some it) (hr: ∀g,row=some g→it.adr g) (hg:it'.Good w0.heap.size) (hgrow:w.grownBy w' row) (ho:it'.ok w') (hat: ∀g,it'.adr g→it.adr g∨g=w.heap.size):MemR R w0 w' (L.set i it'):=by
 obtain⟨hil,hie⟩:=List.getElem?_eq_some_iff.1 hi
 have hmem:=List.mem_of_getElem? hi
 have far: ∀j,(hj:j<L.length)→j≠i→ ∀g,L[j].adr g→ ¬it.adr g:=by
  intro j hj hne g hg' e
  exact h.far hne (List.getElem?_eq_getElem hj) hi g hg' e
 have hE:ExtR R w0 w':=h.ext.grown hgrow (fun k hk=> .inl ((h.good it hmem).lt w (h.ok it hmem) k (hr k hk)).1)
 refine⟨h.old,hE,fun x hx=> ?_,fun x hx=> ?_,?_⟩
 ·rcases List.mem_or_eq_of_mem_set hx with hx|rfl
  ·exact h.good x hx
  ·exact hg
 ·obtain⟨j,hj,rfl⟩:=List.getElem_of_mem hx
  rw[List.length_set]at hj
  by_cases hji:i=j
  ·subst hji;rw[List.getElem_set_self];exact ho
  ·rw[List.getElem_set_ne hji]
   have hm:=List.getElem_mem hj
   refine(h.good _ hm).stay w w' (h.ok _ hm) hgrow.size (fun g hg'=> ?_)
   exact hgrow.block g ((h.good _ hm).lt w (h.ok _ hm) g hg').2 (fun e=>far j hj (Ne.symm hji) g hg' (hr g e.symm))
 ·refine List.pairwise_iff_getElem.2 fun a b ha hb hab g hga hgb=> ?_
  rw[List.length_set]at ha hb
  have key: ∀j,(hj:j<L.length)→j≠i→ ∀g,L[j].adr g→ ¬it'.adr g:=by
   intro j hj hne g hg' e
   have hm:=List.getElem_mem hj
   rcases hat g e with h1|h1
   ·exact far j hj hne g hg' h1
   ·have:=((h.good _ hm).lt w (h.ok _ hm) g hg').2
    omega
  by_cases hai:i=a
  ·subst hai
   rw[List.getElem_set_self]at hga
   rw[List.getElem_set_ne (by omega)]at hgb
   exact key b hb (by omega) g hgb hga
  ·rw[List.getElem_set_ne hai]at hga
   by_cases hbi:i=b
   ·subst hbi
    rw[List.getElem_set_self]at hgb
    exact key a ha (by omega) g hga hgb
   ·rw[List.getElem_set_ne hbi]at hgb
    exact List.pairwise_iff_getElem.1 h.apart a b ha hb hab g hga hgb
theorem MemR.store {i g B:Nat}{t:TypeId}{cs:Array Value}(h:MemR R w0 w L)(hi:L[i]? =some (blkI B g t cs)) (k:Nat) (u:Value):MemR R w0 (w.setCell ⟨g,k,none⟩ u) (L.set i (blkI w0.heap.size g t (cs.setIfInBounds k u))):=
 h.turn hi (fun g' e=>by injection e) (blkI_good _ _ _ _) (grown_set w g k u) ⟨(h.lt hi rfl).1,(h.blk hi).set k u⟩ (fun g' e=> .inl e)
theorem MemR.ostore {i g n c sz:Nat}{e:TypeId}{xs:List Value}(h:MemR R w0 w L)(hi:L[i]? =some (ownI w0.heap.size e sz (some ⟨g,0,none⟩) n c xs)) (k:Nat) (u:Value):MemR R w0 (w.setCell ⟨g,k,none⟩ u) (L.set i (ownI w0.heap.size e sz (some ⟨g,0,none⟩) n c (xs.set k u))):=
 h.turn hi (fun g' e=>e) (ownI_good _ _ _ _ _ _ _) (grown_set w g k u) ((h.own hi).stored k u).1 (fun g' e=> .inl e)
theorem MemR.app {i n c sz n' c':Nat}{e:TypeId}{q q':Option Addr}{xs xs':List Value}(h:MemR R w0 w L)(hi:L[i]? =some (ownI w0.heap.size e sz q n c xs)) (ho:w'.ownsRow w0.heap.size e sz (.slice q' n' c') n' xs') (hg:w.grownBy w' (Value.slice q n c).ownBlock)
  (hat:(Value.slice q' n' c').ownBlock=(Value.slice q n c).ownBlock∨(Value.slice q' n' c').ownBlock=some w.heap.size):MemR R w0 w' (L.set i (ownI w0.heap.size e sz q' n' c' xs')):=
 h.turn hi (fun g e=>e) (ownI_good _ _ _ _ _ _ _) hg ho (fun g e=>by
  have e':(Value.slice q' n' c').ownBlock=some g:=e
  rcases hat with h1|h1
  ·exact .inl (by show(Value.slice q n c).ownBlock=some g;rw[←h1];exact e')
  ·rw[h1]at e';injection e' with e';exact .inr e'.symm)
theorem MemR.some {i n c sz B:Nat}{e:TypeId}{q:Option Addr}{xs:List Value}(h:MemR R w0 w L)(hi:L[i]? =Option.some (ownI B e sz q n c xs)) (hn:0<n): ∃g,q=Option.some ⟨g,0,none⟩∧w0.heap.size≤g∧g<w.heap.size:=by
 rcases(h.own hi).2 with⟨h1,h2⟩|⟨g,cap',cur,h1,h3⟩
 ·omega
 ·injection h1 with e1 e2 e3
  subst e1
  have:=h.lt hi (g:=g) rfl
  exact⟨g,rfl,this.1,this.2⟩
end
section
variable {P:Program} {R:Nat} {w0 w:World} {L:List Item} {ops:Array Oper} {rest:List Oper} {o:Oper} {a:Act} {Q:Exit→Act→World→Prop}
theorem run_appR (w:World){t e ty:TypeId}{sz:Nat}(E:ElT P t e sz){i:Nat}{q:Option Addr}{n c:Nat}{xs:List Value}(h:MemR R w0 w L)(hi:L[i]? =some (ownI w0.heap.size e sz q n c xs))
  (p:Option Addr) (m d:Nat) (news:List Value) (hs:Sl w p m d sz news) (h1: ∀u∈news,u.oneCell'=true) (hn:n+m≤1099511627776):
  ∃q' c' w',(Builtin.append_ #[t,t] ty #[.slice q n c,.slice p m d]).run P w= .ok (.slice q' (n+m) c') w'∧MemR R w0 w' (L.set i (ownI w0.heap.size e sz q' (n+m) c' (xs++news)))∧(∀k,Rand w R k→Rand w' R k):=by
 obtain⟨inf,z,hinf,hz,hsz,hby,hzs⟩:=E.info
 have hown:=h.own hi
 have key: ∀ad:Addr,p=some ad∨m=0→(∀j u,news[j]? =some u→w.cell? (ad.add j)=some u)→ ∃q' c' w',(Builtin.append_ #[t,t] ty #[.slice q n c,.slice (some ad) m d]).run P w= .ok (.slice q' (n+m) c') w'∧MemR R w0 w' (L.set i (ownI w0.heap.size e sz q' (n+m) c' (xs++news)))∧(∀k,Rand w R k→Rand w' R k):=by
  intro ad _ hcells
  have hbb:(n+m)*inf.bytes≤140737488355328:=by
   have:(n+m)*inf.bytes≤(n+m)*64:=Nat.mul_le_mul_left _ hby
   omega
  obtain⟨v',w',hrun,h2,h3,_,h5⟩:=run_append_own_at (P:=P) w w0.heap.size t ty e inf z sz inf.bytes E.ht hinf hz hsz rfl hzs E.pos (.slice q n c) n xs hown ad m d news hs.len hcells h1 (by unfold maxLen;omega) hbb h.ext.sz
  obtain⟨q',c',rfl⟩:=own_form h2
  exact⟨q',c',w',hrun,h.app hi h2 h3 h5,fun k hr=>rand_grown hr h3 (fun g hg=>by have h7:=(h.lt hi (g:=g) hg).1;have h8:=h.old;omega)⟩
 by_cases hm:0<m
 ·obtain⟨b,off,rfl,hb,hc⟩:=hs.rd hm
  refine key ⟨b,off,none⟩ (.inl rfl) (fun j u hu=> ?_)
  have hj:j<m*sz:=by rw[←hs.len];exact(List.getElem?_eq_some_iff.1 hu).1
  rw[addr_add,hc j hj];exact hu
 ·have hm0:m=0:=by omega
  subst hm0
  have hnl:news= []:=List.length_eq_zero_iff.1 (by rw[hs.len];omega)
  subst hnl
  cases p with
  |some ad=>exact key ad (.inl rfl) (fun j u hu=>by simp at hu)
  |none=>
   refine⟨q,c,w,?_,h.app hi (by simpa using hown) (World.grownBy.refl w _) (.inl rfl),fun k hr=>hr⟩
   rcases hown.2 with⟨h2,h3⟩|⟨g,cap',cur,h2,_,_,hnc,_⟩
   ·injection h2 with e1 e2 e3
    subst e1 e2 e3
    simp[Builtin.append_,run_underlying E.ht,sizeOf,typeInfo,hinf,Builtin.lenOf,Builtin.firstCells]
   ·injection h2 with e1 e2 e3
    subst e1 e3
    simp[Builtin.append_,run_underlying E.ht,sizeOf,typeInfo,hinf,Builtin.lenOf,Builtin.firstCells,hnc,storeCells]
theorem wp_appR {K:Act→World→Prop}{t e:TypeId}{sz:Nat}(E:ElT P t e sz)(s x:Operand)
  (ho:o.op= .call {callee:= .builtin .append,args:=#[s,x],argTypes:=#[t,t]})
  (h:MemR R w0 w L)(i:Nat){q:Option Addr}{n c:Nat}{xs:List Value}(hi:L[i]? =some (ownI w0.heap.size e sz q n c xs)) (hs:a.eval s= .slice q n c)
  {p:Option Addr} {m d:Nat} (news:List Value) (hx:a.eval x= .slice p m d) (hr:Sl w p m d sz news) (h1: ∀u∈news,u.oneCell'=true) (hn:n+m≤1099511627776)
  (hk: ∀q' c' w',MemR R w0 w' (L.set i (ownI w0.heap.size e sz q' (n+m) c' (xs++news)))→(∀k,Rand w R k→Rand w' R k)→K (a.put o.dst (.slice q' (n+m) c')) w'):o.wp P a w K Q:=by
 obtain⟨q',c',w',hrun,h2,h9⟩:=run_appR (P:=P) (ty:=o.type) w E h hi p m d news hr h1 hn
 unfold Oper.wp execOp
 simp only[ho,resolve,invoke,builtin,Sem.run_bind,Sem.run_pure,Result.andThen_ok,List.map_toArray,List.map_cons,List.map_nil,hs,hx,hrun]
 exact hk q' c' w' h2 h9
theorem wpList_appR {t e:TypeId}{sz:Nat}(E:ElT P t e sz)(hgd:o.guard=none)(s x:Operand)
  (ho:o.op= .call {callee:= .builtin .append,args:=#[s,x],argTypes:=#[t,t]})
  (h:MemR R w0 w L)(i:Nat){q:Option Addr}{n c:Nat}{xs:List Value}(hi:L[i]? =some (ownI w0.heap.size e sz q n c xs)) (hs:a.eval s= .slice q n c)
  {p:Option Addr} {m d:Nat} (news:List Value) (hx:a.eval x= .slice p m d) (hr:Sl w p m d sz news) (h1: ∀u∈news,u.oneCell'=true) (hn:n+m≤1099511627776)
  (hk: ∀q' c' w',MemR R w0 w' (L.set i (ownI w0.heap.size e sz q' (n+m) c' (xs++news)))→(∀k,Rand w R k→Rand w' R k)→wpList P ops Q rest (a.put o.dst (.slice q' (n+m) c')) w'):wpList P ops Q (o::rest) a w:=
 wpList_plain hgd fun _ hK=>wp_appR E s x ho h i hi hs news hx hr h1 hn fun q' c' w' h2 h9=>hK _ _ (hk q' c' w' h2 h9)
theorem step_appR {K:Act→World→Prop}{E0:Prop}{t e:TypeId}{sz:Nat}(E:ElT P t e sz)(hgd:o.guard=none)(s x:Operand)
  (ho:o.op= .call {callee:= .builtin .append,args:=#[s,x],argTypes:=#[t,t]})
  (h:MemR R w0 w L)(i:Nat){q:Option Addr}{n c:Nat}{xs:List Value}(hi:L[i]? =some (ownI w0.heap.size e sz q n c xs)) (hs:a.eval s= .slice q n c)
  {p:Option Addr} {m d:Nat} (news:List Value) (hx:a.eval x= .slice p m d) (hr:Sl w p m d sz news) (h1: ∀u∈news,u.oneCell'=true) (hn:n+m≤1099511627776)
  (hk: ∀q' c' w',MemR R w0 w' (L.set i (ownI w0.heap.size e sz q' (n+m) c' (xs++news)))→(∀k,Rand w R k→Rand w' R k)→K (a.put o.dst (.slice q' (n+m) c')) w'):
  if Region.wanted o (yielded ops a.tmps)=true then Oper.wp P o a w K Q else E0:=by
 have hw:Region.wanted o (yielded ops a.tmps)=true:=by simp[Region.wanted,hgd]
 rw[if_pos hw]
 exact wp_appR E s x ho h i hi hs news hx hr h1 hn hk
end
section
variable {R:Nat} {w0 w w':World} {L:List Item}
theorem MemR.pickd (h:MemR R w0 w L)(hx:ExtR R w w'):MemR R w0 w' L:=
 ⟨h.old,h.ext.trans hx,h.good,fun it hi=>(h.good it hi).stay w w' (h.ok it hi) hx.sz (fun g hg=>by
  have h1:=(h.good it hi).lt w (h.ok it hi) g hg
  have h2:=h.old
  exact hx.block g h1.2 (fun e=>by injection e with e;omega)),h.apart⟩
theorem MemR.made {it:Item}(h:MemR R w0 w L)(hx:ExtR R w w')(hg:it.Good w0.heap.size)(ho:it.ok w')(hn: ∀g,it.adr g→w.heap.size≤g):MemR R w0 w' (it::L):=by
 refine(h.pickd hx).cons hg ho (fun g hg' j hj e=> ?_)
 have h1:=hn g hg'
 have h2:=((h.good j hj).lt w (h.ok j hj) g e).2
 omega
theorem MemR.callR {n c sz:Nat}{e:TypeId}{q:Option Addr}{xs:List Value}(h:MemR R w0 w L)(hx:ExtR R w w')(ho:w'.ownsRow w.heap.size e sz (.slice q n c) n xs):MemR R w0 w' (ownI w0.heap.size e sz q n c xs::L):=
 h.made hx (ownI_good _ _ _ _ _ _ _) (own_low ho h.ext.sz) (fun g hg=>(World.ownsRow.lt ho g hg).1)
end
end Go.Proofs.YtndcnflchkfaeaaDoor

namespace Go.Proofs.YtndcnflchkfaeaaDoor
open Go.RowKit
set_option linter.unusedVariables false
def Code (w:World)(v:Value):Prop:= ∃(p:Option Addr) (n cap:Nat) (bs:List Int),v= .slice p n cap∧Sl w p n cap 1 (bs.map (Value.int .u8))∧ ∀x∈bs,0≤x∧x≤255
theorem Code.ext {w w':World}{v:Value}(h:Code w v)(hx:Ext w w'):Code w' v:=by
 obtain⟨p,n,cap,bs,h1,h2,h3⟩:=h
 exact⟨p,n,cap,bs,h1,h2.ext hx,h3⟩
def RetRand (w:World)(e:Ending)(w':World):Prop:= ∃R,e= .returned (.pointer (some ⟨R,0,none⟩))∧w.heap.size≤R∧Rand w' R 0∧Ext w w'
theorem rand_new {w:World}{p:Option Addr}{n cap:Nat}{bs:List Int}(h:Sl w p n cap 1 (bs.map (Value.int .u8)))(hn:n≤2000)(hb: ∀x∈bs,0≤x∧x≤255)(hp:0<n→ ∀b off,p=some ⟨b,off,none⟩→b<w.heap.size):
  Rand (w.alloc (.cells #[.slice p n cap,.int .i64 0] 80)) w.heap.size 0:=
 ⟨p,n,cap,0,bs,Blk.new _ _ _,by omega,by omega,h.ext ((Ext.refl w).alloc _),hn,hb,fun h0 b off e=>by have:=hp h0 b off e;omega⟩
set_option maxRecDepth 100000 in
set_option maxHeartbeats 1000000 in
theorem l20Open_any (v:Value)(w:World)(hc:Code w v):Calls Tryd.prog 39 #[v] w (RetRand w):=by
 obtain⟨p,n,cap,bs,rfl,h,hb⟩:=hc
 have hp:0<n→ ∃b off,p=some ⟨b,off,none⟩∧b<w.heap.size:=fun h0=>by
  obtain⟨b,off,e,h1,_⟩:=h.rd h0
  exact⟨b,off,e,h1⟩
 have hle:=h.le
 have hmx:=h.mx
 have hbd:=h.bd
 unfold maxLen at hmx
 have H:=Lib.hid h
 clear h
 by_cases hn:2000<n
 ·obtain⟨b,off,rfl,hb'⟩:=hp (by omega)
  go_enter Tryd.func39,Tryd.ntmps39
  go_wp2
  go_ret
  exact⟨_,rfl,Nat.le_refl _,rand_new (by simpa using sl_cut H.out (m:=2000) (by omega)) (by omega) (fun x hx=>hb x (List.mem_of_mem_take hx)) (fun _ b' off' e=>by injection e with e;injection e with e;omega),by exact .alloc (.refl _) _⟩
 ·go_enter Tryd.func39,Tryd.ntmps39
  go_wp2
  go_ret
  exact⟨_,rfl,Nat.le_refl _,rand_new H.out (by omega) hb (fun h0 b' off' e=>by obtain⟨b,off,e2,h3⟩:=hp h0;rw[e2]at e;injection e with e;injection e with e;omega),by exact .alloc (.refl _) _⟩
def RandBool (R k:Nat)(n:Int)(w:World)(e:Ending)(w':World):Prop:= ∃t:Bool,e= .returned (.bool t)∧Rand w' R (k+1)∧ExtR R w w'
set_option maxRecDepth 100000 in
set_option maxHeartbeats 1000000 in
theorem odd_any (R k:Nat)(n:Int)(w:World)(hr:Rand w R k)(hk:k≤1099511627775)(hn:0≤n)(hn2:n≤1000000):
  Calls Tryd.prog 68 #[.pointer (some ⟨R,0,none⟩),.int .i64 n] w (RandBool R k n w):=by
 by_cases h0:0<n
 ·go_enter Tryd.func68,Tryd.ntmps68
  go_wp2_with fail
  refine(pick_any R (k) (n) _ (hr) (by omega)).mono ?_
  rintro e w1 ⟨a,rfl,a0,a1,r1,x1⟩
  replace a1:a<n:=by omega
  go_wp2
  go_ret
  exact⟨_,rfl,r1,x1⟩
 ·go_enter Tryd.func68,Tryd.ntmps68
  go_wp2
  go_ret
  exact⟨_,rfl,hr.mono (by omega),ExtR.refl _ _⟩
theorem ExtR.blk {R g:Nat}{w w':World}{t:TypeId}{cs:Array Value}(h:ExtR R w w')(hb:Blk w g t cs)(hne:g≠R):Blk w' g t cs:=hb.grown h (fun e=>hne (by injection e))
section
open Go.ChangeShapes Go.WideShapes Go.ChangeAt
variable {H:Type} {enc:TypeId×Value→H} {w:World} {base:Nat} {spare:Nat→Bool} {held:Bool} {b0:Nat} {r:Reach} {v:Value} {d:DataW H} {p:List MemPlace}
set_option maxRecDepth 100000 in
theorem open_code (hv:Value.okWide Tryd.prog w r b0 22 v)(h:DataW.Trod enc Tryd.prog w base spare held 22 v d p): ∃u:Unit,Code w v:=by
 obtain⟨a0,len,cap,rfl⟩:=okWide_slice Tryd.underlying22 hv
 obtain⟨fuel,hh⟩:=h
 obtain⟨xs,q,c,hv',hS,hg⟩:=open_slc (α:=Int) (fun x=> [.int .u8 x]) (fun x=>0≤x∧x≤255) 1 Tryd.underlying22 (by kernel_rfl) (by omega) (fun _=>rfl) (fun n cs y hy=>by
  obtain⟨a,rfl,_,ha⟩:=DataW.trod_int Tryd.underlying5 hy
  exact⟨a,rfl,bounds_u8 ha⟩) (by simpa[Value.cells]using hh)
 refine⟨(),q,_,c,xs,hv',?_,hg⟩
 have e:xs.flatMap (fun x=> [Value.int .u8 x])=xs.map (Value.int .u8):=by
  clear hS hg hv'
  induction xs with
  |nil=>rfl
  |cons x xs ih=>simp_all
 rw[←e];exact hS
end
end Go.Proofs.YtndcnflchkfaeaaDoor

