/- Lemmas (@packed). -/
import Derived.Below
import Derived.BigQuiet
import Derived.ChangeArms
import Derived.Deep.DeepCutAuto
import Derived.Deep.DeepFit
import Derived.Deep.Draws
import Derived.Deep.QuietTactic
import Derived.Deep.RegionHeld3
import Derived.Deep.RegionWith
import Derived.Deep.Slices
import Derived.Deep.Strs
import Derived.Handy
import Derived.IntWalk
import Derived.Laws.BitsAllLaws
import Derived.Laws.BitsLemmas
import Derived.Laws.OwnMore
import Derived.Laws.Rows
import Derived.Lib.Hide
import Derived.Lib.SmallJoins
import Derived.OpenShut
import Derived.OwnWalk
import Derived.ProofKit
import Derived.RegionTactic
import Derived.ShutString
import Derived.Test.YthfmmibomhhmpabGreatDoorRows
import Derived.WalkKit
import Derived.WalkSmall
import Derived.WalkSpells
namespace Go.Proofs.YthfmmibomhhmpabGreatDoor
open Go.RowKit Go.Proofs.Tryz
set_option linter.all false
set_option maxHeartbeats 8000000
set_option maxRecDepth 100000
variable{cs xs:List Value}{n k base g m:Nat}{row:Option Nat}{P:Program}{α:Type}{e:TypeId}{v a0 a1 a2 a3 a4 a5 a6 a7 a8 a9:Value}{w' c w1 W:World}(p:Prop)(lo R a b:Nat)(w:World)
section
def Ext (w w':World):Prop:=Below w.heap.size w w'
theorem Ext.refl:Ext w w:=Below.refl _ _
theorem Ext.trans {a b:World}(h:Ext a b)(k:Ext b c):Ext a c:=Below.trans h (Below.mono k h.size)
theorem Ext.alloc {a b:World}(h:Ext a b)(o:Obj):Ext a (b.alloc o):=Below.alloc h h.size o
theorem Ext.drew {a b:World}(h:Ext a b):Ext a b.drew:=Below.drew h
theorem Ext.drewN {a b:World}(h:Ext a b)(n:Nat):Ext a (b.drewN n):=below_drewN h n
theorem Ext.of_drew {a b:World}(h:Ext a.drew b):Ext a b:=⟨h.os,h.tape,h.output,h.size,h.block⟩
theorem Ext.setCell {a b:World}(h:Ext a b){p:Addr}(hp:a.heap.size≤p.block)(u:Value):Ext a (b.setCell p u):=Below.setCell h hp u
theorem Ext.grown {a b:World}(h:Ext a b)(hg:b.grownBy c row)(hr: ∀k,row=some k→a.heap.size≤k):Ext a c:=Below.grown h hg h.size hr
theorem Ext.cells (hb:Ext W w1):(∀b o,b<W.heap.size→w1.cell? ⟨b,o,none⟩=W.cell? ⟨b,o,none⟩)∧(∀b o,b<W.heap.size→w1.frozen? ⟨b,o,none⟩=W.frozen? ⟨b,o,none⟩):=
 ⟨fun b o h=>Below.cell hb (p:=⟨b,o,none⟩) h,fun b o h=>Below.frozen hb (p:=⟨b,o,none⟩) h⟩
theorem Ext.sz (hb:Ext W w1):W.heap.size≤w1.heap.size:=hb.size
def Rd (w:World)(v:Value)(n sz:Nat)(cs:List Value):Prop:=
 cs.length=n*sz∧((v= .slice none 0 0∧n=0)∨
  ∃b off cap,v= .slice (some ⟨b,off,none⟩) n cap∧n≤cap∧cap≤maxLen∧b<w.heap.size∧ ∀k,k<n*sz→w.cell? ⟨b,off+k,none⟩=cs[k]?)
theorem Rd.nil (sz:Nat):Rd w (.slice none 0 0) 0 sz []:=⟨by simp,.inl ⟨rfl,rfl⟩⟩
theorem Rd.ext {w:World}{sz:Nat}(h:Rd w v n sz cs)(hb:Ext w w'):Rd w' v n sz cs:=by
 refine⟨h.1,?_⟩;rcases h.2 with h|⟨b,a,c,rfl,h1,h2,h3,h4⟩
 ·exact .inl h
 refine .inr ⟨b,a,c,rfl,h1,h2,Nat.lt_of_lt_of_le h3 hb.size,fun k hk=> ?_⟩;rw[Below.cell hb (p:=⟨b,a+k,none⟩) h3];exact h4 k hk
def Own (w:World)(base:Nat)(e:TypeId)(sz:Nat)(v:Value)(n:Nat)(xs:List Value):Prop:=
 w.ownsRow base e sz v n xs∨(n=0∧xs= []∧ ∃b off,v= .slice (some ⟨b,off,none⟩) 0 0∧b<w.heap.size)
theorem Own.len {w:World}{sz:Nat}(h:Own w base e sz v n xs):xs.length=n*sz:=by
 rcases h with h|⟨rfl,rfl,_⟩
 ·exact h.1
 simp
theorem Own.rd {w:World}{sz:Nat}(h:Own w base e sz v n xs):Rd w v n sz xs:=by
 refine⟨h.len,?_⟩;rcases h with h|⟨rfl,rfl,b,c,rfl,hb⟩
 ·rcases h.2 with h2|⟨g,a,d,rfl,hb,hg,hn,hm,hs,ht⟩
  ·exact .inl h2
  refine .inr ⟨g,0,a,rfl,hn,hm,(Array.getElem?_eq_some_iff.1 hg).1,fun k hk=> ?_⟩;rw[Nat.zero_add];exact h.cellAt k hk
 exact .inr ⟨b,c,0,rfl,Nat.le_refl _,by simp[maxLen],hb,fun k hk=>by simp at hk⟩
theorem fI {k:IntKind}{a b:Int}(h:a=b):Ending.returned (.int k a)= .returned (.int k b):=by rw[h]
theorem aT {a b:Bool}(h:a=b):Ending.returned (.bool a)= .returned (.bool b):=by rw[h]
theorem xQ {p:Prop}(h:p):Hid p:=h
theorem xE {w v:World}(h:Ext w v:=by(repeat' (first|exact Ext.refl _|(with_reducible assumption)|(with_reducible refine Ext.alloc ?_ _)|(with_reducible refine Ext.setCell ?_ (by first|exact Nat.le_refl _|(dsimp only;omega)|(simp;done)|(simp;omega)) _)|(with_reducible refine Ext.drew ?_)|(with_reducible refine Ext.drewN ?_ _)|(refine Ext.trans ?_ (by with_reducible assumption))))):Ext w v:=h
instance hidFun {p:Prop}:CoeFun (Hid p) (fun _=>p):=⟨fun h=>h.out⟩
instance : Coe Int Value := ⟨fun x => .int .i64 x⟩
instance : Coe Nat Value := ⟨fun x => .int .i64 (x : Int)⟩
instance : Coe Unit Value := ⟨fun _ => .int .i64 0⟩
instance : Coe (Unit × Unit) Value := ⟨fun _ => .slice none 0 0⟩
abbrev xC (f : FuncId) (s : Array Value) (w : World) (Q : World → Ending → World → Prop) : Prop := Hid (∀ w', Ext w w' → Calls Tryz.prog f s w' (Q w'))
abbrev xB (f : FuncId) (s : Array Value) (w : World) (b : Bool) : Prop := Hid (∀ w', Ext w w' → Calls Tryz.prog f s w' fun e w'' => e = .returned (.bool b) ∧ Ext w' w'')
abbrev OA : Type := Option Addr
abbrev zT:Array Value:=#[.int .i64 0,.int .i64 0,.slice none 0 0,.int .i64 0,.int .i64 0,.int .i64 0,.int .i64 0,.int .i64 0,.int .i64 0,.slice none 0 0]
structure m3I where
structure m3U where
instance:CoeFun m3I (fun _=>Int→Value):=⟨fun _=>Value.int .i64⟩
instance:CoeFun m3U (fun _=>FuncId→Array Value→World→(Ending→World→Prop)→Prop):=⟨fun _=>Calls Tryz.prog⟩
instance:Coe World Nat:=⟨fun w=>w.heap.size⟩
instance m3N{α:Type}:CoeOut (List α) Nat:=⟨List.length⟩
def I:m3I:=⟨⟩
def U:m3U:=⟨⟩
abbrev aVy:=@Nat.lt_of_lt_of_le
abbrev aVz:=@Nat.le_refl
abbrev aW0:=@List.getElem?_eq_getElem
abbrev aW1:=@List.mem_of_getElem?
abbrev aW2:=@IntWalk.i64_in
abbrev aW3:=@List.getElem?_eq_some_iff
abbrev aW4:=@List.take_of_length_le
abbrev aW5:=@List.length_append
abbrev aW6:=@Nat.zero_le
abbrev aW7:=@List.getD_eq_getElem?_getD
abbrev aW8:=@Nat.le_trans
abbrev aW9:=@World.ownsRow_nil
abbrev aWa:=@List.getElem?_set_self
abbrev aWb:=@Joins.ownsRow_form
abbrev aWc:=@Bool.and_eq_true
abbrev aWd:=@List.mem_cons
abbrev aWe:=@List.set_cons_zero
abbrev aWf:=@List.set_cons_succ
abbrev aWg:=@List.setIfInBounds_toArray
abbrev aWh:=@List.mem_append
abbrev aWi:=@Nat.pow_le_pow_right
abbrev aWj:=@List.length_map
abbrev aWk:=@Int.eq_ofNat_of_zero_le
abbrev aWl:=@List.getElem?_append_left
abbrev aWm:=@List.mem_range
abbrev aWn:=@List.length_take
abbrev aWo:=@List.all_eq_true
abbrev aWp:=@List.getElem?_map
abbrev aWq:=@List.mem_singleton
abbrev aWr:=@List.append_nil
abbrev aWs:=@List.map_append
abbrev aWt:=@List.length_drop
abbrev aWu:=@List.append_assoc
abbrev aWv:=@List.eq_nil_of_length_eq_zero
abbrev aWw:=@World.ownsRow.lt
abbrev aWx:=@List.getElem?_append_right
abbrev aWy:=@List.mem_filter
abbrev aWz:=@Nat.zero_add
abbrev aX0:=@List.length_cons
abbrev aX1:=@List.set_set
abbrev aX2:=@Option.map_some
abbrev aX3:=@Option.some.injEq
abbrev aX4:=@List.flatMap_append
abbrev aX5:=@Prod.mk.injEq
abbrev aX6:=@Array.getElem?_eq_some_iff
abbrev aX7:=@World.ownsRow_made
abbrev aX8:=@List.filter_append
abbrev aX9:=@List.mem_append_left
abbrev aXa:=@List.mem_or_eq_of_mem_set
abbrev aXb:=@List.flatMap_cons
abbrev aXc:=@List.length_filter_le
abbrev aXd:=@List.drop_eq_nil_of_le
abbrev aXe:=@World.cell?_alloc_past
abbrev aXf:=@List.length_set
abbrev aXg:=@List.getElem?_eq_none
abbrev aXh:=@Joins.unfrozen_of_block
abbrev aXi:=@List.getElem_of_mem
abbrev aXj:=@List.range_succ
abbrev aXk:=@World.grownBy.refl
abbrev aXl:=@List.map_cons
abbrev aXm:=@Nat.mul_le_mul_right
abbrev aXn:=@Joins.cell_of_block
abbrev aXo:=@Int.toNat_natCast
abbrev aXp:=@Nat.sub_self
abbrev aXq:=@List.mem_of_mem_take
abbrev aXr:=@List.getElem?_set_ne
abbrev aXs:=@List.cons_append
abbrev aXt:=@List.take_length
abbrev aXu:=@Nat.testBit_zero
abbrev aXv:=@Nat.lt_trans
abbrev aXw:=@List.mem_of_find?_eq_some
abbrev aXx:=@List.replicate_succ
abbrev aXy:=@List.take_append_of_le_length
abbrev aXz:=@List.nil_append
abbrev aY0:=@List.getElem?_replicate
abbrev aY1:=@World.frozen?_of_block
abbrev aY2:=@Nat.testBit_succ
abbrev aY3:=@List.filter_cons_of_pos
abbrev aY4:=@List.filter_cons_of_neg
abbrev aY5:=@Nat.div_add_mod
abbrev aY6:=@Nat.succ_mul
abbrev aY7:=@Nat.add_sub_cancel
abbrev aY8:=@List.set_append_right
abbrev aY9:=@IntWalk.i64_quo
abbrev aYa:=@Nat.two_pow_pos
abbrev aYb:=@Nat.eq_of_testBit_eq
abbrev aYc:=@Nat.testBit_two_pow
abbrev aYd:=@List.getElem?_cons_succ
abbrev aYe:=@Nat.le_of_eq
abbrev aYf:=@Below.heap_setCell
abbrev aYg:=@List.getElem?_cons_zero
abbrev aYh:=@List.take_succ_cons
abbrev aYi:=@Joins.block_setCell
abbrev aYj:=@List.drop_succ_cons
abbrev aYk:=@World.size_alloc
abbrev aYl:=@Below.heap_alloc
abbrev Z(v:Value)(w:World)(e:Ending)(w1:World):Prop:=e= .returned v∧Ext w w1
theorem Ω {f:FuncId}{s:Array Value}{w:World}{R:World→Prop}{K:Ending→World→Prop}(H:Calls P f s w fun e w1=>e= .returned v∧R w1)(k: ∀w1,R w1→K (.returned v) w1):Calls P f s w K:=H.mono (by rintro e w1 ⟨rfl,h⟩;exact k w1 h)
theorem aYp (u:Nat):(0:Int)≤(u:Int):=by omega
theorem aYq (h:a<b:=by omega):(a:Int)<(b:Int):=by omega
theorem aYr (h:a≤b:=by omega):(a:Int)≤(b:Int):=by omega
theorem aYs (e:Int)(h:-9223372036854775808≤e∧e≤9223372036854775807:=by omega):IntKind.i64.wrap e=e:=IntWalk.i64_in e (by omega)
theorem aYt (e:Nat)(h:e≤9223372036854775807:=by omega): ¬9223372036854775807<e:=by omega
theorem aYu[Decidable p](h: ¬p:=by omega):decide p=false:=decide_eq_false h
theorem aYv[Decidable p](h:p:=by omega):decide p=true:=decide_eq_true h
attribute[go_sem] Tryz.results4 Tryz.results5 Tryz.results6 Tryz.results10 Tryz.results13 Tryz.results14 Tryz.results15 Tryz.results18 Tryz.results19 Tryz.results21 Tryz.results25 Tryz.results26 Tryz.results39 Tryz.results40 Tryz.results44 Tryz.results49 Tryz.results50 Tryz.results56 Tryz.results58 Tryz.results70 Tryz.results72 Tryz.results73 Tryz.results74 Tryz.results75 Tryz.results80 Tryz.results81 Tryz.results82 Tryz.results87 Tryz.results88 Tryz.results89 Tryz.results90 Tryz.results91 Tryz.results94 Tryz.results99 Tryz.results100 Tryz.results101 Tryz.results102 Tryz.results103 Tryz.results110 Tryz.results113 Tryz.results115 Tryz.results120 Tryz.results122 Tryz.results123 Tryz.results124 Tryz.results125 Tryz.results126 Tryz.results127 Tryz.results128 Tryz.results146 Tryz.results147 Tryz.results148 Tryz.results154 Tryz.results156
theorem aYw{fn:Func}{R:Ending→World→Prop}{a:Act}{w:World}(hR:R (.returned v) w)(hr:(results fn a.tmps).run P w= .ok v w:=by simp[results,go_sem, *])(hd:a.defers=[]:=by exact rfl):bodyPost P fn R .ret a w:=bodyPost_ret hr hd hR
abbrev aYx(t:TypeId)(s n:Nat)(xs:List Value)(w:World)(e:Ending)(w1:World):Prop:= ∃v,e= .returned v∧w1.ownsRow w.heap.size t s v n xs∧Ext w w1
abbrev aYy(t:TypeId)(s n:Nat)(xs:List Value)(w:World)(F:Option Addr→Nat→Value)(e:Ending)(w1:World):Prop:= ∃q c,e= .returned (F q c)∧w1.ownsRow w.heap.size t s (.slice q n c) n xs∧Ext w w1
end
section
open Go.ChangeShapes Go.WideShapes Go.ChangeAt Go.Deep
theorem fG (f:α→List Value)(sz:Nat)(hf: ∀a,(f a).length=sz): ∀(xs:List α) (k:Nat) (a:α),xs[k]? =some a→ ∀j,j<sz→(xs.flatMap f)[k*sz+j]? =(f a)[j]? :=by
 intro xs;induction xs with
 |nil=>intro k a h;simp at h
 |cons x xs ih=>
  intro k a h j hj;rw[aXb];cases k with
  |zero=>simp at h;subst h;rw[Nat.zero_mul,aWz,aWl (by rw[hf];exact hj)]
  |succ k=>rw[aWx (by rw[hf,aY6];omega),hf];have:=ih k a (by simpa using h) j hj;rw[←this];congr 1;rw[aY6];omega
theorem eC (f:α→List Value)(sz:Nat)(hf: ∀a,(f a).length=sz)(xs:List α):(xs.flatMap f).length=xs.length*sz:=by
 induction xs with
 |nil=>simp
 |cons x xs ih=>rw[aXb,aW5,hf,ih,aX0,aY6];omega
theorem lU (o n:Nat):(⟨b,o,none⟩:Addr).add n=⟨b,o+n,none⟩:=by unfold Addr.add;split<;>simp_all
def B64 (x:Int):Prop:= -9223372036854775808≤x∧x≤9223372036854775807
section
variable {H:Type} {enc:TypeId×Value→H} {w:World} {base:Nat} {spare:Nat→Bool} {held:Bool} {b0:Nat} {r:Reach} {v:Value} {d:DataW H} {p:List MemPlace}
end
end
section
open Go.ChangeShapes Go.WideShapes Go.ChangeAt Go.Deep
structure Sl (w:World) (p:OA) (n cap sz:Nat) (cs:List Value):Prop where
 len:cs.length=n*sz
 le:n≤cap
 mx:cap≤maxLen
 rd:0<n→ ∃b off,p=some ⟨b,off,none⟩∧b<w.heap.size∧ ∀k,k<n*sz→w.cell? ⟨b,off+k,none⟩=cs[k]?
theorem Sl.ext {w:World}{p:OA}{a sz:Nat}(h:Sl w p n a sz cs)(hb:Ext w w'):Sl w' p n a sz cs:=
 ⟨h.len,h.le,h.mx,fun h0=>by
  obtain⟨b,c,rfl,h1,h2⟩:=h.rd h0
  exact⟨b,c,rfl,aVy h1 hb.sz,fun k hk=>(hb.cells.1 _ _ h1).trans (h2 k hk)⟩⟩
theorem Sl.nil (sz:Nat):Sl w none 0 0 sz []:=⟨by simp,aVz _,aW6 _,fun h=>absurd h (by omega)⟩
theorem Sl.bd {w:World}{p:OA}{a sz:Nat}(h:Sl w p n a sz cs):n≤9223372036854775807:=by have:=h.le;have:=h.mx;unfold maxLen at this;omega
theorem Sl.own {w:World}{a sz:Nat}{p:OA}(h:w.ownsRow base e sz (.slice p n a) n xs):Sl w p n a sz xs:=by
 rcases h.2 with⟨h1,h2⟩|⟨g,cap',cur,h1,hb,hg,hn,hm,hs,ht⟩
 ·injection h1 with e1 e2 e3;subst e1 e2 e3;have:=h.1;exact⟨this,aVz _,aW6 _,fun h=>absurd h (by omega)⟩
 injection h1 with e1 e2 e3;subst e1 e3;exact⟨h.1,hn,hm,fun h0=>⟨g,0,rfl,(aX6.1 hg).1,fun k hk=>by rw[aWz];exact h.cellAt k hk⟩⟩
theorem Sl.at_ {w:World}{p:OA}{d sz:Nat}{f:α→List Value}{xs:List α}(hf: ∀a,(f a).length=sz)(h:Sl w p n d sz (xs.flatMap f))(hk:k<n)(hs:0<sz):
  ∃b off x,p=some ⟨b,off,none⟩∧xs[k]? =some x∧b<w.heap.size∧ ∀j,j<sz→w.cell? ⟨b,off+(k*sz+j),none⟩=(f x)[j]? :=by
 obtain⟨b,off,rfl,hb,hc⟩:=h.rd (by omega);have hl:xs.length=n:=by have:=h.len;rw[eC f sz hf]at this;exact Nat.eq_of_mul_eq_mul_right hs this
 have c:k<xs.length:=by rw[hl];exact hk
 have hx:xs[k]? =some (xs[k]'c):=aW0 c;refine⟨b,off,_,rfl,hx,hb,fun j hj=> ?_⟩;have e:k*sz+j<n*sz:=by have:=aXm sz hk;rw[aY6]at this;omega
 rw[hc _ e];exact fG f sz hf _ _ _ hx j hj
abbrev iv (x:Int):Value:= .int .i64 x
abbrev ivs (xs:List Int):List Value:=xs.map iv
theorem aBz (xs:List Int):xs.flatMap (fun x=> [iv x])=ivs xs:=by induction xs with|nil=>rfl|cons x xs ih=>simp_all
theorem Sl.int_at {w:World}{p:OA}{a:Nat}{xs:List Int}(h:Sl w p n a 1 (ivs xs))(hk:k<n):
  ∃b off x,p=some ⟨b,off,none⟩∧xs[k]? =some x∧b<w.heap.size∧w.cell? ⟨b,off+k,none⟩=some (iv x):=by
 rw[←aBz]at h;obtain⟨b,off,x,hp,hx,hb,hc⟩:=Sl.at_ (sz:=1) (f:=fun x=> [iv x]) (fun _=>rfl) h hk Nat.one_pos;exact⟨b,off,x,hp,hx,hb,by simpa using hc 0 (by omega)⟩
theorem Sl.ilen {w:World}{p:OA}{a:Nat}{xs:List Int}(h:Sl w p n a 1 (ivs xs)):xs.length=n:=by simpa using h.len
theorem uI {xs:List α}{x:α}(h:xs[k]? =some x):xs.drop k=x::xs.drop (k+1):=by obtain⟨hk,rfl⟩:=aW3.1 h;exact List.drop_eq_getElem_cons hk
theorem aX {xs:List α}{x:α}(h:xs[k]? =some x):xs.take (k+1)=xs.take k++ [x]:=by obtain⟨hk,rfl⟩:=aW3.1 h;rw[List.take_succ_eq_append_getElem hk]
theorem aFs {w:World}{p:OA}{a sz:Nat}(h:Sl w p n a sz cs)(hm:m≤n):Sl w p m a sz (cs.take (m*sz)):=by have hl:=h.len;have d:m*sz≤n*sz:=aXm _ hm;refine⟨by rw[aWn];omega,aW8 hm h.le,h.mx,fun h0=> ?_⟩;obtain⟨b,c,rfl,hb,hc⟩:=h.rd (by omega);exact⟨b,c,rfl,hb,fun k hk=>by rw[hc k (by omega),List.getElem?_take,if_pos hk]⟩
theorem aTd {w:World}{p:OA}{a:Nat}{xs:List Int}(h:Sl w p n a 1 (ivs xs))(hm:m≤n):Sl w p m a 1 (ivs (xs.take m)):=by have:=aFs h hm;rwa[Nat.mul_one,←List.map_take]at this
section
variable {H:Type} {enc:TypeId×Value→H} {w:World} {base:Nat} {spare:Nat→Bool} {held:Bool} {b0:Nat} {r:Reach} {v:Value} {d:DataW H} {p:List MemPlace}
theorem aRc {α:Type}[Inhabited α](f:α→List Value)(c:α→Prop)(sz:Nat){t e:TypeId}{o:Nat}{x:DataW H×List MemPlace}(ht:prog.underlying t=some (.slice e))(hc:prog.cellsOf e=sz)(hs:0<sz)(hf: ∀a,(f a).length=sz)
  (r: ∀n cs y,DataW.trod enc prog w base spare held n e cs=some y→ ∃a,cs=f a∧c a)
  (h:DataW.trod enc prog w base spare held o t [v]=some x):
  ∃(xs:List α) (p:OA) (cap:Nat),v= .slice p xs cap∧Sl w p xs.length cap sz (xs.flatMap f)∧ ∀a∈xs,c a:=by
 rcases open_slice ht h with⟨hcs,hx⟩|⟨a,len,cap,m,n,D,Pl,hcs,hb,hl,hm,hmm,hx,hel⟩
 ·simp at hcs;subst hcs;exact⟨[],none,0,rfl,Sl.nil _ _,by simp⟩
 simp at hcs;subst hcs;by_cases h0:len=0
 ·subst h0;exact⟨[],some a,cap,rfl,⟨by simp,hl,hm,fun h=>absurd h (by simp)⟩,by simp⟩
 have ag:len≤m:=by rw[hmm];split<;>omega
 have ab: ∀i,i<len→ ∃x:α,w.cells? base (a.add (i*sz)) sz=some (f x)∧c x:=by intro i hi;obtain⟨af,h1,h2⟩:=hel i (by omega);obtain⟨x,rfl,hg⟩:=r _ _ _ h2;exact⟨x,by rw[←hc];exact h1,hg⟩
 obtain⟨V,hV⟩:=choose_lt (α:=α) (p:=fun i x=>w.cells? base (a.add (i*sz)) sz=some (f x)∧c x) ab;have d: ∀i,i<len→ ∀j,j<sz→w.cell? ((a.add (i*sz)).add j)=(f (V i))[j]? :=by intro i hi j hj;exact(World.cells?_some (hV i hi).1).2.2 j hj
 obtain⟨b,z,aa⟩:=a;have hz: ∃u,(f (V 0))[0]? =some u:=⟨_,aW0 (by rw[hf];exact hs)⟩
 obtain⟨u,hu⟩:=hz;have q:=(d 0 (by omega) 0 hs).trans hu;have g:aa=none:=by simpa[Addr.add]using World.cell?_spot q
 subst g;have ad:b<w:=by simpa[Addr.add]using World.block_lt_of_cell? w _ q
 have l:((List.range len).map V).length=len:=by simp
 refine⟨(List.range len).map V,some ⟨b,z,none⟩,cap,by rw[l],?_,?_⟩
 ·rw[l];refine⟨by rw[eC f sz hf,l],hl,hm,fun _=>⟨b,z,rfl,ad,fun k hk=> ?_⟩⟩;have hi:k/sz<len:=Nat.div_lt_of_lt_mul (by rw[Nat.mul_comm];exact hk);have hj:k%sz<sz:=Nat.mod_lt _ hs;have s:k=k/sz*sz+k%sz:=by rw[Nat.mul_comm];exact(aY5 k sz).symm
  have ae:((List.range len).map V)[k/sz]? =some (V (k/sz)):=by simp[hi]
  have h1:=fG f sz hf _ _ _ ae (k%sz) hj;rw[←s]at h1;rw[h1,←d _ hi _ hj];rw[lU,lU,Nat.add_assoc,←s]
 intro x hx;obtain⟨i,hi,rfl⟩:=List.mem_map.1 hx;exact(hV i (by simpa using hi)).2
end
end
section
def Blk (w:World)(g:Nat)(t:TypeId)(cs:Array Value):Prop:=w.heap[g]? =some (.cells cs t (0,0))
section
variable {w w':World} {g:Nat} {t:TypeId} {cs:Array Value}
theorem Blk.lt (h:Blk w g t cs):g<w.heap.size:=(aX6.1 h).1
theorem Blk.cell (h:Blk w g t cs)(i:Nat):w.cell? ⟨g,i,none⟩=cs[i]? :=cell_of_row w g i cs t (0,0) h
theorem Blk.frozen (h:Blk w g t cs)(i:Nat):w.frozen? ⟨g,i,none⟩=false:=by unfold Blk at h;simp[World.frozen?,h]
theorem Blk.new (w:World)(t:TypeId)(cs:Array Value):Blk (w.alloc (.cells cs t)) w t cs:=heap_alloc_new w _
theorem Blk.set (h:Blk w g t cs)(i:Nat)(u:Value):Blk (w.setCell ⟨g,i,none⟩ u) g t (cs.setIfInBounds i u):=by unfold Blk at h⊢;simp[World.setCell,Array.getElem?_modify,h]
theorem Blk.far (h:Blk w g t cs){p:Addr}(hp:g≠p.block)(u:Value):Blk (w.setCell p u) g t cs:=(aYf w p u g hp).trans h
theorem Blk.ext (h:Blk w g t cs)(hb:Ext w w'):Blk w' g t cs:=(hb.block g h.lt).trans h
theorem Blk.alloc (h:Blk w g t cs)(o:Obj):Blk (w.alloc o) g t cs:=h.ext ((Ext.refl w).alloc o)
theorem Blk.grown {row:Option Nat}(h:Blk w g t cs)(hb:w.grownBy w' row)(hg:some g≠row):Blk w' g t cs:=(hb.block g h.lt hg).trans h
end
theorem Sl.new (cs:Array Value)(t:TypeId)(n:Nat)(h:cs.size=n)(hn:n≤maxLen):Sl (w.alloc (.cells cs t)) (some ⟨w,0,none⟩) n n 1 cs.toList:=
 ⟨by simpa using h,aVz _,hn,fun _=>⟨w.heap.size,0,rfl,by simp,fun k hk=>by rw[aWz,(Blk.new w t cs).cell k];simp⟩⟩
def ExtR (R:Nat)(w w':World):Prop:=w.grownBy w' (some R)
theorem ExtR.refl:ExtR R w w:=aXk _ _
theorem Ext.r {w:World}(h:Ext w w')(R:Nat):ExtR R w w':=⟨h.os,h.tape,h.output,h.size,fun i hi _=>h.block i hi⟩
theorem ExtR.sz {R:Nat}{w:World}(h:ExtR R w w'):w.heap.size≤w'.heap.size:=h.size
theorem ExtR.trans {R:Nat}{a b:World}(h:ExtR R a b)(k:ExtR R b c):ExtR R a c:=
 ⟨k.os.trans h.os,k.tape.trans h.tape,k.output.trans h.output,aW8 h.size k.size,fun i hi hne=>(k.block i (aVy hi h.size) hne).trans (h.block i hi hne)⟩
theorem ExtR.ext {R:Nat}{a b:World}(h:ExtR R a b)(k:Ext b c):ExtR R a c:=h.trans (k.r R)
theorem ExtR.alloc {R:Nat}{a b:World}(h:ExtR R a b)(o:Obj):ExtR R a (b.alloc o):=h.ext ((Ext.refl b).alloc o)
theorem ExtR.drew {R:Nat}{a b:World}(h:ExtR R a b):ExtR R a b.drew:=h.ext (Ext.drew (Ext.refl b))
theorem ExtR.drewN {R:Nat}{a b:World}(h:ExtR R a b)(n:Nat):ExtR R a (b.drewN n):=h.ext (Ext.drewN (Ext.refl b) n)
theorem ExtR.setCell {R:Nat}{a b:World}(h:ExtR R a b){p:Addr}(hp:p.block=R∨a.heap.size≤p.block)(u:Value):ExtR R a (b.setCell p u):=
 ⟨h.os,h.tape,h.output,by simpa[World.setCell]using h.size,fun i hi hne=>(aYf b p u i (by
  rintro rfl;rcases hp with hp|hp
  ·exact hne (by rw[hp])
  ·omega)).trans (h.block i hi hne)⟩
theorem ExtR.new {R:Nat}{a b:World}(h:Ext a b)(k:ExtR R b c)(hR:a.heap.size≤R):Ext a c:=
 h.grown k (fun i hi=>by simp at hi;omega)
theorem ExtR.grown {R:Nat}{a b:World}(h:ExtR R a b)(hg:b.grownBy c row)(hr: ∀k,row=some k→a.heap.size≤k∨k=R):ExtR R a c:=
 ⟨hg.os.trans h.os,hg.tape.trans h.tape,hg.output.trans h.output,aW8 h.size hg.size,fun i hi hne=>(hg.block i (aVy hi h.size) (fun e=>by
  rcases hr i e.symm with h|h
  ·omega
  ·exact hne (by rw[h]))).trans (h.block i hi hne)⟩
theorem ExtR.cell {R:Nat}{w:World}(h:ExtR R w w'){b:Nat}(o:Nat)(hb:b<w.heap.size)(a:b≠R):w'.cell? ⟨b,o,none⟩=w.cell? ⟨b,o,none⟩:=
 World.cell?_of_block (h.block b hb (fun e=>a (by injection e)))
theorem ExtR.own {R sz:Nat}{w:World}(h:ExtR R w w')(ho:w.ownsRow base e sz v n xs)(hb:R<base):w'.ownsRow base e sz v n xs:=
 ho.kept h (.inr (fun hh=>by have:=ho.lt R hh;omega))
theorem ExtR.sl {R a sz b0:Nat}{w:World}{p:OA}(h:ExtR R w w')(hs:Sl w p n a sz cs)(hp:0<n→ ∀b off,p=some ⟨b,off,none⟩→b≠R):Sl w' p n a sz cs:=
 ⟨hs.len,hs.le,hs.mx,fun h0=>by
  obtain⟨b,off,rfl,h1,h2⟩:=hs.rd h0
  exact⟨b,off,rfl,aVy h1 h.sz,fun k hk=>(h.cell _ h1 (hp h0 b off rfl)).trans (h2 k hk)⟩⟩
theorem Blk.tri {w:World}{t:TypeId}(h:Blk w g t #[a0,a1,a2]):w.cell? ⟨g,0,none⟩=some a0∧w.cell? ⟨g,1,none⟩=some a1∧w.cell? ⟨g,2,none⟩=some a2:=
 ⟨h.cell 0,h.cell 1,h.cell 2⟩
theorem Blk.trif {w:World}{t:TypeId}(h:Blk w g t #[a0,a1,a2]):w.cell? ⟨g,0,none⟩=some a0∧w.frozen? ⟨g,0,none⟩=false∧w.cell? ⟨g,1,none⟩=some a1∧w.frozen? ⟨g,1,none⟩=false∧w.cell? ⟨g,2,none⟩=some a2∧w.frozen? ⟨g,2,none⟩=false:=
 ⟨h.cell 0,h.frozen 0,h.cell 1,h.frozen 1,h.cell 2,h.frozen 2⟩
theorem Blk.ten {w:World}{t:TypeId}(h:Blk w g t #[a0,a1,a2,a3,a4,a5,a6,a7,a8,a9]):w.cell? ⟨g,0,none⟩=some a0∧w.cell? ⟨g,1,none⟩=some a1∧w.cell? ⟨g,2,none⟩=some a2∧w.cell? ⟨g,3,none⟩=some a3∧w.cell? ⟨g,4,none⟩=some a4∧w.cell? ⟨g,5,none⟩=some a5∧w.cell? ⟨g,6,none⟩=some a6∧w.cell? ⟨g,7,none⟩=some a7∧w.cell? ⟨g,8,none⟩=some a8∧w.cell? ⟨g,9,none⟩=some a9:=
 ⟨h.cell 0,h.cell 1,h.cell 2,h.cell 3,h.cell 4,h.cell 5,h.cell 6,h.cell 7,h.cell 8,h.cell 9⟩
theorem Blk.tenf {w:World}{t:TypeId}(h:Blk w g t #[a0,a1,a2,a3,a4,a5,a6,a7,a8,a9]):w.cell? ⟨g,0,none⟩=some a0∧w.frozen? ⟨g,0,none⟩=false∧w.cell? ⟨g,1,none⟩=some a1∧w.frozen? ⟨g,1,none⟩=false∧w.cell? ⟨g,2,none⟩=some a2∧w.frozen? ⟨g,2,none⟩=false∧w.cell? ⟨g,3,none⟩=some a3∧w.frozen? ⟨g,3,none⟩=false∧w.cell? ⟨g,4,none⟩=some a4∧w.frozen? ⟨g,4,none⟩=false∧w.cell? ⟨g,5,none⟩=some a5∧w.frozen? ⟨g,5,none⟩=false∧w.cell? ⟨g,6,none⟩=some a6∧w.frozen? ⟨g,6,none⟩=false∧w.cell? ⟨g,7,none⟩=some a7∧w.frozen? ⟨g,7,none⟩=false∧w.cell? ⟨g,8,none⟩=some a8∧w.frozen? ⟨g,8,none⟩=false∧w.cell? ⟨g,9,none⟩=some a9∧w.frozen? ⟨g,9,none⟩=false:=
 ⟨h.cell 0,h.frozen 0,h.cell 1,h.frozen 1,h.cell 2,h.frozen 2,h.cell 3,h.frozen 3,h.cell 4,h.frozen 4,h.cell 5,h.frozen 5,h.cell 6,h.frozen 6,h.cell 7,h.frozen 7,h.cell 8,h.frozen 8,h.cell 9,h.frozen 9⟩
theorem Blk.putr {R:Nat}{w5 w9:World}{t:TypeId}{b0 b1 b2 b3 b4 b5 b6 b7 b8 b9:Value}(H:Blk w5 R t #[a0,a1,a2,a3,a4,a5,a6,a7,a8,a9])(h9:((((((((((w5.setCell ⟨R,0,none⟩ b0).setCell ⟨R,1,none⟩ b1).setCell ⟨R,2,none⟩ b2).setCell ⟨R,3,none⟩ b3).setCell ⟨R,4,none⟩ b4).setCell ⟨R,5,none⟩ b5).setCell ⟨R,6,none⟩ b6).setCell ⟨R,7,none⟩ b7).setCell ⟨R,8,none⟩ b8).setCell ⟨R,9,none⟩ b9)=w9):Blk w9 R t #[b0,b1,b2,b3,b4,b5,b6,b7,b8,b9]∧ExtR R w5 w9:=by
 subst h9;have hR:=(((((((((((ExtR.refl _ w5).setCell (p:=⟨R,0,none⟩) (.inl rfl) b0).setCell (p:=⟨R,1,none⟩) (.inl rfl) b1).setCell (p:=⟨R,2,none⟩) (.inl rfl) b2).setCell (p:=⟨R,3,none⟩) (.inl rfl) b3).setCell (p:=⟨R,4,none⟩) (.inl rfl) b4).setCell (p:=⟨R,5,none⟩) (.inl rfl) b5).setCell (p:=⟨R,6,none⟩) (.inl rfl) b6).setCell (p:=⟨R,7,none⟩) (.inl rfl) b7).setCell (p:=⟨R,8,none⟩) (.inl rfl) b8).setCell (p:=⟨R,9,none⟩) (.inl rfl) b9)
 have Y:=((((((((((H.set 0 b0).set 1 b1).set 2 b2).set 3 b3).set 4 b4).set 5 b5).set 6 b6).set 7 b7).set 8 b8).set 9 b9)
 simp only[aWg,aWe,aWf]at Y;exact⟨Y,hR⟩
theorem xR {R:Nat}{w v:World}(h:ExtR R w v:=by(repeat' (first|exact ExtR.refl _ _|(with_reducible assumption)|(with_reducible refine ExtR.alloc ?_ _)|(with_reducible refine ExtR.setCell ?_ (.inr (by first|exact Nat.le_refl _|(dsimp only;omega)|(simp;done)|(simp;omega))) _)|(with_reducible refine ExtR.drew ?_)|(with_reducible refine ExtR.drewN ?_ _)|(refine ExtR.trans ?_ (by with_reducible assumption))|(refine ExtR.ext ?_ (by with_reducible assumption))))):ExtR R w v:=h
def nthL {α:Type}:List α→Nat→Option α
 | [],_=>none
 |a::_,0=>some a
 |_::l,n+1=>nthL l n
theorem nthL_eq {α:Type}: ∀(l:List α) (k:Nat),nthL l k=l[k]?
 | [],_=>by simp[nthL]
 |_::_,0=>by simp[nthL]
 |_::l,n+1=>by simp[nthL,nthL_eq l n]
theorem Blk.cl {w:World}{t:TypeId}{l:List Value}(h:Blk w g t l.toArray)(k:Nat)(hv:nthL l k=Option.some v:=by exact rfl):w.cell? ⟨g,k,none⟩=Option.some v:=by rw[h.cell k,←hv,nthL_eq];simp
end
section
open Go
section
variable {P:Program} {ops:Array Oper} {Q:Exit→Act→World→Prop} {md:Region.Mode} {G:Nat→Value→World→Prop} {R:World→World→Prop}
def jT (ops:Array Oper)(i:Nat):Option Tmp:=(ops[i]?).bind (·.dst)
def aU4 (ops:Array Oper):List (Nat×Option Tmp):=(List.range ops.size).map (fun i=>(i,jT ops i))
def gM (ops:Array Oper)(i:Nat):List (Nat×Option Tmp):=
 match ops[i]? with
 |none=> []
 |some o=>(aU4 ops).filter (fun p=>match p.2 with
  |none=>false
  |some d=>(o.looksAt ops).contains d)
def ForV (G:Nat→Value→World→Prop)(w:World):List (Nat×Option Tmp)→Act→(Act→Prop)→Prop
 | [],a,K=>K a
 |p::ps,a,K=> ∀v,G p.1 v w→ForV G w ps (a.put p.2 v) K
def tL (P:Program)(ops:Array Oper)(G:Nat→Value→World→Prop)(R:World→World→Prop)(i:Nat)(o:Oper)(w:World)(a:Act):Prop:=
 ∀K':Act→World→Prop,(∀a' w'',(∃v,a'=a.put o.dst v∧G i v w''∧R w w'')→K' a' w'')→if Region.wanted o (yielded ops a.tmps)=true then Oper.wp P o a w K' (fun _ _ _=>False)else K' (a.put o.dst undef) w
def StepsL (P:Program)(md:Region.Mode)(ops:Array Oper)(G:Nat→Value→World→Prop)(R:World→World→Prop)(a0:Act)(W:World)(l:List Nat):Prop:=
 ∀i∈l,∀o,ops[i]? =some o→ ∀w,R W w→ForV G w (gM ops i) a0 (tL P ops G R i o w)
theorem StepsL.nil {a0:Act}{W:World}:StepsL P md ops G R a0 W []:=fun _ h=>by cases h
theorem StepsL.cons {a0:Act}{W:World}{i:Nat}{o:Oper}{ps:List (Nat×Option Tmp)}{is:List Nat}(ho:ops[i]? =some o) (hp:gM ops i=ps)
  (h: ∀w,R W w→ForV G w ps a0 (tL P ops G R i o w)) (hs:StepsL P md ops G R a0 W is):StepsL P md ops G R a0 W (i::is):=by
 intro j hj o' a w hw;rcases aWd.1 hj with rfl|hj
 ·rw[ho]at a;cases a;rw[hp];exact h w hw
 exact hs j hj o' a w hw
theorem sC {a0:Act}{W:World}{i:Nat}{o:Oper}{is:List Nat}(ps:List (Nat×Option Tmp))(ho:ops[i]? =some o) (h: ∀w,R W w→ForV G w ps a0 (tL P ops G R i o w)) (hs:StepsL P md ops G R a0 W is) (hp:gM ops i=ps:=by kernel_rfl):StepsL P md ops G R a0 W (i::is):=StepsL.cons ho hp h hs
theorem sS0 {a0:Act}{W:World}{i:Nat}{o:Oper}{is:List Nat}(ps:List (Nat×Option Tmp))(hs:StepsL P md ops G Ext a0 W is)(ho:ops[i]? =some o:=by exact rfl) (hp:gM ops i=ps:=by kernel_rfl) (h: ∀w,Ext W w→ForV G w ps a0 (tL P ops G Ext i o w):=by intro wi hx K hK;go_simp;exact hK _ _ ⟨_,rfl,rfl,Ext.refl _⟩):StepsL P md ops G Ext a0 W (i::is):=StepsL.cons ho hp h hs
theorem sS1 {a0:Act}{W:World}{i:Nat}{o:Oper}{is:List Nat}(ps:List (Nat×Option Tmp))(hs:StepsL P md ops G Ext a0 W is)(ho:ops[i]? =some o:=by exact rfl) (hp:gM ops i=ps:=by kernel_rfl) (h: ∀w,Ext W w→ForV G w ps a0 (tL P ops G Ext i o w):=by intro wi hx v0 h0 K hK;obtain rfl:=h0;go_simp;exact hK _ _ ⟨_,rfl,rfl,Ext.refl _⟩):StepsL P md ops G Ext a0 W (i::is):=StepsL.cons ho hp h hs
theorem sS2 {a0:Act}{W:World}{i:Nat}{o:Oper}{is:List Nat}(ps:List (Nat×Option Tmp))(hs:StepsL P md ops G Ext a0 W is)(ho:ops[i]? =some o:=by exact rfl) (hp:gM ops i=ps:=by kernel_rfl) (h: ∀w,Ext W w→ForV G w ps a0 (tL P ops G Ext i o w):=by intro wi hx v0 h0 v1 h1 K hK;subst h0 h1;go_simp;exact hK _ _ ⟨_,rfl,rfl,Ext.refl _⟩):StepsL P md ops G Ext a0 W (i::is):=StepsL.cons ho hp h hs
theorem sS3 {a0:Act}{W:World}{i:Nat}{o:Oper}{is:List Nat}(ps:List (Nat×Option Tmp))(hs:StepsL P md ops G Ext a0 W is)(ho:ops[i]? =some o:=by exact rfl) (hp:gM ops i=ps:=by kernel_rfl) (h: ∀w,Ext W w→ForV G w ps a0 (tL P ops G Ext i o w):=by intro wi hx v0 h0 v1 h1 v2 h2 K hK;subst h0 h1 h2;go_simp;exact hK _ _ ⟨_,rfl,rfl,Ext.refl _⟩):StepsL P md ops G Ext a0 W (i::is):=StepsL.cons ho hp h hs
def qA (md:Region.Mode)(ops:Array Oper)(n:Nat):Bool:=
 Region.noSelect ops&&(List.range ops.size).all fun i=>
  match ops[i]? with
  |none=>true
  |some o=>
   (match o.dst with
    |none=>true
    |some d=>decide (d<n)&&(List.range ops.size).all fun j=>j==i || jT ops j !=some d)&&
   (o.looksAt ops).all fun t=>(List.range ops.size).all fun j=>jT ops j !=some t || o.after.any fun e=>Region.binds md e&&e.on==j
theorem mH {n:Nat}(h:qA md ops n=true):
  Region.noSelect ops=true∧ ∀i o,ops[i]? =some o→
   (∀d,o.dst=some d→d<n∧ ∀j,j≠i→jT ops j≠some d)∧
   (∀t∈o.looksAt ops,∀j,jT ops j=some t→ ∃e∈o.after,Region.binds md e=true∧e.on=j):=by
 unfold qA at h;rw[aWc]at h;refine⟨h.1,fun i o ho=> ?_⟩;have b:i<ops.size:=(aX6.1 ho).1;have h1:=aWo.1 h.2 i (aWm.2 b);simp only[ho,aWc]at h1;obtain⟨h1,h2⟩:=h1;have a: ∀j t,jT ops j=some t→j<ops.size:=fun j t hj=>by
  rcases Nat.lt_or_ge j ops.size with h'|h'
  ·exact h'
  simp[jT,Array.getElem?_eq_none h']at hj
 refine⟨fun d hd=> ?_,fun t ht j hj=> ?_⟩
 ·rw[hd]at h1;simp only[aWc,decide_eq_true_eq]at h1;refine⟨h1.1,fun j hji hj=> ?_⟩;have:=aWo.1 h1.2 j (aWm.2 (a j d hj));simp[hji,hj]at this
 have:=aWo.1 (aWo.1 h2 t ht) j (aWm.2 (a j t hj));simp only[Bool.or_eq_true,bne_iff_ne,ne_eq]at this;rcases this with h'|h'
 ·exact absurd hj h'
 obtain⟨e,he,h3⟩:=Array.any_eq_true'.1 h';rw[aWc]at h3;exact⟨e,he,h3.1,by simpa using h3.2⟩
structure FrI (ops:Array Oper) (a0:Act) (vals:Nat→Value) (l:Nat→Prop) (a:Act):Prop where
 defers:a.defers=a0.defers
 size:a.tmps.size=a0.tmps.size
 mem: ∀i d,jT ops i=some d→l i→a.tmps[d]? =some (vals i)
 out: ∀d,(∀i,l i→jT ops i≠some d)→a.tmps[d]? =a0.tmps[d]?
theorem aUe {a b:Act}(h:a.tmps=b.tmps)(k:a.defers=b.defers):a=b:=by cases a;cases b;simp_all
theorem FrI.put {n:Nat}{a0 a:Act}{vals:Nat→Value}{l:Nat→Prop}(k:qA md ops n=true)(hn:a0.tmps.size=n)(h:FrI ops a0 vals l a){i:Nat}{o:Oper}(ho:ops[i]? =some o) (v:Value) (hv:l i→vals i=v):
  FrI ops a0 (fun j=>if j=i then v else vals j) (fun j=>l j∨j=i) (a.put o.dst v):=by
 obtain⟨-,hs⟩:=mH k;have c:jT ops i=o.dst:=by simp[jT,ho]
 cases hd:o.dst with
 |none=>
  refine⟨h.defers,h.size,fun j d hj hl=> ?_,fun d hd'=>h.out d fun j hj=>hd' j (.inl hj)⟩;have b:j≠i:=by rintro rfl;rw[c,hd]at hj;cases hj
  simp only[Act.put,b,if_false];exact h.mem j d hj (hl.resolve_right b)
 |some d0=>
  obtain⟨g,f⟩:=(hs i o ho).1 d0 hd;refine⟨h.defers,by simp[Act.put,h.size],fun j d hj hl=> ?_,fun d hd'=> ?_⟩
  ·by_cases b:j=i
   ·subst b;rw[c,hd]at hj;cases hj
    simp[Act.put,h.size,hn,g]
   have e:d0≠d:=by rintro rfl;exact f j b hj
   simp only[Act.put,b,if_false];rw[Array.getElem?_setIfInBounds_ne e];exact h.mem j d hj (hl.resolve_right b)
  have e:d0≠d:=by rintro rfl;exact hd' i (.inr rfl) (by rw[c,hd])
  simp only[Act.put];rw[Array.getElem?_setIfInBounds_ne e];exact h.out d fun j hj=>hd' j (.inl hj)
theorem FrI.congr {a0 a:Act}{vals vals':Nat→Value}{l l':Nat→Prop}(h:FrI ops a0 vals l a)(hl: ∀i,l i↔l' i)(hv: ∀i,l' i→vals i=vals' i):FrI ops a0 vals' l' a:=
 ⟨h.defers,h.size,fun i d hd hi=>by rw[←hv i hi];exact h.mem i d hd ((hl i).2 hi),fun d hd=>h.out d fun i hi=>hd i ((hl i).1 hi)⟩
theorem FrI.nil {a0:Act}{vals:Nat→Value}:FrI ops a0 vals (fun _=>False) a0:=⟨rfl,rfl,fun _ _ _ h=>h.elim,fun _ _=>rfl⟩
theorem FrI.eq {a0 a b:Act}{vals:Nat→Value}{l:Nat→Prop}(h:FrI ops a0 vals l a)(k:FrI ops a0 vals l b):a=b:=by
 refine aUe ?_ (h.defers.trans k.defers.symm);apply Array.ext_getElem?;intro d;by_cases hd: ∃i,l i∧jT ops i=some d
 ·obtain⟨i,hi,hd⟩:=hd;rw[h.mem i d hd hi,k.mem i d hd hi]
 have c: ∀i,l i→jT ops i≠some d:=fun i hi he=>hd ⟨i,hi,he⟩
 rw[h.out d c,k.out d c]
theorem ForV.get {n:Nat}(c:qA md ops n=true){a0:Act}(hn:a0.tmps.size=n){vals:Nat→Value}{w:World}{K:Act→Prop}:
  ∀(ps:List (Nat×Option Tmp)) (l:Nat→Prop) (a:Act),(∀p∈ps,(∃o,ops[p.1]? =some o)∧p.2=jT ops p.1)→(∀p∈ps,G p.1 (vals p.1) w)→FrI ops a0 vals l a→ForV G w ps a K→
   ∃b,FrI ops a0 vals (fun j=>l j∨j∈ps.map (·.1)) b∧K b
 | [],l,a,_,_,hf,h=>⟨a,hf.congr (fun i=>by simp) (fun _ _=>rfl),h⟩
 |p::ps,l,a,hp,hG,hf,h=>by
  obtain⟨⟨o,ho⟩,hd⟩:=hp p (by simp);have d:p.2=o.dst:=by rw[hd];simp[jT,ho]
  have h1:=h (vals p.1) (hG p (by simp));rw[d]at h1
  have e:=(hf.put c hn ho (vals p.1) (fun _=>rfl)).congr (l':=fun j=>l j∨j=p.1) (vals':=vals) (fun _=>Iff.rfl) (fun i _=>by
   by_cases hi:i=p.1
   ·simp[hi]
   ·simp[hi])
  obtain⟨b,hb,hK⟩:=ForV.get c hn ps _ _ (fun q hq=>hp q (by simp[hq])) (fun q hq=>hG q (by simp[hq])) e h1;refine⟨b,hb.congr (fun i=> ?_) (fun _ _=>rfl),hK⟩;simp only[aXl,aWd];constructor
  ·rintro((h|h)|h)
   ·exact .inl h
   ·exact .inr (.inl h)
   exact .inr (.inr h)
  rintro(h|h|h)
  ·exact .inl (.inl h)
  ·exact .inl (.inr h)
  exact .inr h
theorem tZ {i:Nat}{o:Oper}(ho:ops[i]? =some o) {p:Nat×Option Tmp} (h:p∈gM ops i):p.1<ops.size∧p.2=jT ops p.1∧ ∃d,jT ops p.1=some d∧d∈o.looksAt ops:=by
 unfold gM at h;rw[ho]at h;obtain⟨h1,h2⟩:=aWy.1 h;obtain⟨k,hk,rfl⟩:=List.mem_map.1 h1;refine⟨aWm.1 hk,rfl,?_⟩;dsimp only at h2⊢;cases hd:jT ops k with
 |none=>rw[hd]at h2;simp at h2
 |some d=>rw[hd]at h2;exact⟨d,rfl,by simpa using h2⟩
theorem aRi {i:Nat}{o:Oper}(ho:ops[i]? =some o) {j d:Nat} (hj:jT ops j=some d) (hd:d∈o.looksAt ops):j∈(gM ops i).map (·.1):=by
 unfold gM;rw[ho];have a:j<ops.size:=by
  rcases Nat.lt_or_ge j ops.size with h'|h'
  ·exact h'
  simp[jT,Array.getElem?_eq_none h']at hj
 refine List.mem_map.2 ⟨(j,jT ops j),aWy.2 ⟨List.mem_map.2 ⟨j,aWm.2 a,rfl⟩,?_⟩,rfl⟩;dsimp only;rw[hj];simpa using hd
def xF (md:Region.Mode)(ops:Array Oper):Bool:=(List.range ops.size).all fun i=>match ops[i]? with
 |none=>true
 |some o=>o.after.all fun e=> !Region.binds md e || decide (e.on<i)
theorem aOh (h:xF md ops=true)(a:Array Bool)(d:a.size=ops.size)(hr:Region.ready md ops a= []): ∀i,i<ops.size→a.getD i false=true:=by
 intro i;induction i using Nat.strongRecOn with
 |_ i ih=>
  intro hi;cases hl:a.getD i false with
  |true=>rfl
  |false=>
   have ho:ops[i]? =some ops[i]:=Array.getElem?_eq_getElem hi;have c:i<a.size:=by omega
   have b:i∈Region.ready md ops a:=by rw[mem_ready];refine⟨by simp[c]at hl⊢;exact hl,_,ho,fun e he hb=> ?_⟩;have h1:=aWo.1 h i (aWm.2 hi);simp only[ho]at h1;have h2:=Array.all_eq_true_iff_forall_mem.1 h1 e he;simp[hb]at h2;exact ih e.on h2 (by omega)
   rw[hr]at b;cases b
def iD (m n:Nat):Array Bool:=(List.replicate m true++List.replicate n false).toArray
def sY (ops:Array Oper)(m:Nat):List (Nat×Option Tmp):=(List.range m).map (fun i=>(i,jT ops i))
def oP (md:Region.Mode)(ops:Array Oper)(m fl:Nat):Bool:=(List.range ops.size).all fun i=>decide (i<m) || match ops[i]? with
 |none=>true
 |some o=>(o.after.any fun e=>Region.binds md e&&decide (m≤e.on)) || (List.range m).all fun j=>j==fl ||
   ((o.after.any fun e=>Region.binds md e&&e.on==j) || (List.range m).any fun k=>k !=fl&&match ops[k]? with
     |none=>false
     |some ok=>ok.after.any fun e=>Region.binds md e&&e.on==j)
theorem aNh {m fl:Nat}(s:xF md ops=true)(ht:oP md ops m fl=true)(a:Array Bool)(hm:m≤ops.size)
  (g: ∀i o,ops[i]? =some o→a.getD i false=true→ ∀e∈o.after,Region.binds md e=true→a.getD e.on false=true)
  (r: ∀i,m≤i→a.getD i false=false) {i:Nat} (hi:i∈Region.ready md ops a) (u:m≤i): ∀j,j<m→j≠fl→a.getD j false=true:=by
 obtain⟨h0,o,ho,b⟩:=mem_ready.1 hi;have q:i<ops.size:=(aX6.1 ho).1;have h1:=aWo.1 ht i (aWm.2 q);have f: ¬i<m:=by omega
 simp only[ho,f,decide_false,Bool.false_or,Bool.or_eq_true]at h1;rcases h1 with h1|h1
 ·obtain⟨e,he,h2⟩:=Array.any_eq_true'.1 h1;rw[aWc]at h2;have h3:=b e he h2.1;rw[r e.on (by simpa using h2.2)]at h3;cases h3
 have t: ∀d j,m-j≤d→j<m→j≠fl→a.getD j false=true:=by
  intro d;induction d with
  |zero=>intro j h h';omega
  |succ d ih=>
   intro j hd hj hjf;have h2:=aWo.1 h1 j (aWm.2 hj);simp only[Bool.or_eq_true,beq_iff_eq,hjf,false_or]at h2;rcases h2 with h2|h2
   ·obtain⟨e,he,h3⟩:=Array.any_eq_true'.1 h2;rw[aWc]at h3;have h4:=b e he h3.1;rwa[show e.on=j by simpa using h3.2]at h4
   obtain⟨k,hk,h3⟩:=List.any_eq_true.1 h2;have n:=aWm.1 hk;have c:ops[k]? =some ops[k]:=Array.getElem?_eq_getElem (by omega);rw[aWc]at h3;obtain⟨p,h3⟩:=h3;simp only[c]at h3;obtain⟨e,he,h4⟩:=Array.any_eq_true'.1 h3;rw[aWc]at h4;have l:e.on=j:=by simpa using h4.2
   have h5:=aWo.1 s k (aWm.2 (by omega));simp only[c]at h5;have h6:=Array.all_eq_true_iff_forall_mem.1 h5 e he;simp[h4.1]at h6;have:=g k _ c (ih k (by omega) n (by simpa using p)) e he h4.1;rwa[l]at this
 exact fun j hj hjf=>t m j (by omega) hj hjf
theorem aEh {n:Nat}(m:qA md ops n=true){a0:Act}{vals:Nat→Value}{l:Nat→Prop}{a b:Act}{i:Nat}{o:Oper}(ho:ops[i]? =some o)
  (p: ∀e∈o.after,Region.binds md e=true→l e.on)
  (ha:FrI ops a0 vals l a) (hb:FrI ops a0 vals (fun j=>j∈(gM ops i).map (·.1)) b):execOp a.eval o=execOp b.eval o∧Region.wanted o (yielded ops a.tmps)=Region.wanted o (yielded ops b.tmps):=by
 obtain⟨f,hs⟩:=mH m;obtain⟨h1,h2⟩:=hs i o ho;have d: ∀cs x,o.op≠ .select cs x:=fun cs x=>Region.noSelect_spec f i o cs x ho
 have c: ∀t∈o.looksAt ops,a.tmps[t]? =b.tmps[t]? :=fun t ht=>by
  by_cases hd: ∃j,jT ops j=some t
  ·obtain⟨j,hj⟩:=hd;obtain⟨e,he,h,rfl⟩:=h2 t ht j hj;rw[ha.mem _ _ hj (p e he h),hb.mem _ _ hj (aRi ho hj ht)]
  rw[ha.out t fun j _ hj=>hd ⟨j,hj⟩,hb.out t fun j _ hj=>hd ⟨j,hj⟩]
 have k:execOp a.eval o=execOp b.eval o:=execOp_congr o d fun x hx=>by
  cases x with
  |tmp t=>have:=c t (aX9 _ (List.mem_filterMap.2 ⟨.tmp t,by simpa using hx,rfl⟩));simp only[Act.eval,Array.getD_eq_getD_getElem?,this]
  |_=>rfl
 have q:Region.wanted o (yielded ops a.tmps)=Region.wanted o (yielded ops b.tmps):=by
  unfold Region.wanted;cases hg:o.guard with
  |none=>rfl
  |some gw=>
   obtain⟨g,r⟩:=gw;have:yielded ops a.tmps g=yielded ops b.tmps g:=by
    unfold yielded;cases ht:(ops[g]?).bind (·.dst)with
    |none=>rfl
    |some t=>have:=c t (by simp[Oper.looksAt,hg,ht]);simp[this]
   simp only[this]
 exact⟨k,q⟩
variable {T:Nat→World→Prop} {st:Nat}
def aAu (P:Program)(ops:Array Oper)(G:Nat→Value→World→Prop)(R:World→World→Prop)(T:Nat→World→Prop)(st kk:Nat)(i:Nat)(o:Oper)(w:World)(a:Act):Prop:=
 ∀K':Act→World→Prop,(∀a' w'',(∃v,a'=a.put o.dst v∧G i v w''∧R w w''∧T (kk+st) w'')→K' a' w'')→if Region.wanted o (yielded ops a.tmps)=true then Oper.wp P o a w K' (fun _ _ _=>False)else K' (a.put o.dst undef) w
def StepsLT (P:Program)(md:Region.Mode)(ops:Array Oper)(G:Nat→Value→World→Prop)(R:World→World→Prop)(T:Nat→World→Prop)(st:Nat)(top:Nat)(a0:Act)(W:World)(l:List Nat):Prop:=
 ∀i∈l,∀o,ops[i]? =some o→ ∀w kk,R W w→T kk w→kk≤top→ForV G w (gM ops i) a0 (aAu P ops G R T st kk i o w)
theorem StepsLT.nil {a:Nat}{a0:Act}{W:World}:StepsLT P md ops G R T st a a0 W []:=fun _ h=>by cases h
theorem StepsLT.cons {b:Nat}{a0:Act}{W:World}{i:Nat}{o:Oper}{ps:List (Nat×Option Tmp)}{is:List Nat}(ho:ops[i]? =some o) (hp:gM ops i=ps)
  (h: ∀w kk,R W w→T kk w→kk≤b→ForV G w ps a0 (aAu P ops G R T st kk i o w)) (hs:StepsLT P md ops G R T st b a0 W is):StepsLT P md ops G R T st b a0 W (i::is):=by
 intro j hj o' a w kk hw hr hk;rcases aWd.1 hj with rfl|hj
 ·rw[ho]at a;cases a;rw[hp];exact h w kk hw hr hk
 exact hs j hj o' a w kk hw hr hk
theorem aPz {n:Nat}(p:qA md ops n=true){a0:Act}{kk:Nat}(hn:a0.tmps.size=n){vals:Nat→Value}{w:World}{l:Nat→Prop}{a b:Act}{i:Nat}{o:Oper}(ho:ops[i]? =some o)
  (y: ∀e∈o.after,Region.binds md e=true→l e.on) (ab: ¬l i)
  (ha:FrI ops a0 vals l a) (hb:FrI ops a0 vals (fun j=>j∈(gM ops i).map (·.1)) b) (h:aAu P ops G R T st kk i o w b) {K:Act→World→Prop}
  (hK: ∀v w'',G i v w''→R w w''∧T (kk+st) w''→K (a.put o.dst v) w''):wpOp P ops Q i K a w:=by
 obtain⟨aa,hs⟩:=mH p;obtain⟨h1,h2⟩:=hs i o ho;obtain⟨s,z⟩:=aEh p ho y ha hb;have g:=h (fun a' w'=> ∃v,a'=b.put o.dst v∧G i v w'∧R w w'∧T (kk+st) w') (fun a' w'' h=>h);have k: ∀u v:Value,b.put o.dst u=b.put o.dst v→a.put o.dst u=a.put o.dst v:=fun u v he=>by
  cases hd:o.dst with
  |none=>rfl
  |some d=>
   rw[hd]at he;obtain⟨t,-⟩:=h1 d hd;have e1:(b.tmps.setIfInBounds d u)[d]? =(b.tmps.setIfInBounds d v)[d]? :=by have:=congrArg Act.tmps he;simp only[Act.put]at this;rw[this]
   have q:d<b.tmps.size:=by rw[hb.size,hn];exact t
   simp[q]at e1;rw[e1]
 refine wpOp_step ho fun K' hK'=> ?_
 rw[z];split
 ·rename_i hw;rw[if_pos hw]at g;unfold Oper.wp at*;rw[s];generalize (execOp b.eval o).run P w=r at*;cases r with
  |ok m w'=>
   cases m<;>simp only[Oper.upon]at g⊢
   case value u=>obtain⟨v,he,hg,hr⟩:=g;rw[k _ _ he];exact hK' _ _ (hK v _ hg hr)
   case skip=>obtain⟨v,he,hg,hr⟩:=g;rw[k _ _ he];exact hK' _ _ (hK v _ hg hr)
   case defer d=>obtain⟨v,he,hg,hr⟩:=g;have:=congrArg Act.defers he;cases hd:o.dst<;>simp[Act.put,hd]at this
   case enter f args=>
    refine Calls.mono g fun e w'' he=> ?_
    cases e with
    |returned u=>obtain⟨v,he,hg,hr⟩:=he;show K' _ _;rw[k _ _ he];exact hK' _ _ (hK v _ hg hr)
    |panicked c=>exact he.elim
    |outgrown=>obtain⟨_,_,h⟩:=he;exact h.elim
   case row row args=>
    refine Rows.mono g fun u w'' he=> ?_
    obtain⟨v,he,hg,hr⟩:=he;rw[k _ _ he];exact hK' _ _ (hK v _ hg hr)
  |halt x w'=>cases x<;>simp only[Oper.upon]at g
 rename_i hw;rw[if_neg hw]at g;obtain⟨v,he,hg,hr⟩:=g;rw[k _ _ he];exact hK' _ _ (hK v _ hg hr)
def tC (m fl n:Nat):Array Bool:=((List.replicate m true).set fl false++List.replicate n false).toArray
theorem aRj {k0 n m fl:Nat}(r:qA md ops n=true)(am:xF md ops=true)(ht:oP md ops m fl=true)(hm:m≤ops.size)(hT: ∀k w,T k w→T (k+st) w)(hQ:fl<m→ ∀o,ops[fl]? =some o→ ∀v c a w,Q (.panic c) (Act.put a o.dst v) w→Q (.panic c) a w) (ag:fl<m→Region.free md ops (tC m fl (ops.size-m)) fl=true) {a0:Act} (hn:a0.tmps.size=n) {W:World} (ay: ∀a b c,R a b→R b c→R a c) (hG: ∀i v w w',G i v w→R w w'→G i v w')
  (hy:fl<m→ ∀o,ops[fl]? =some o→ ∀w,R W w→ForV G w (gM ops fl) a0 (fun b=> ∃v,Yields P ops o v b∧G fl v w)) (hs:StepsLT P md ops G R T st (k0+st*ops.size) a0 W (List.range m)) (he: ∀w,R W w→T (k0+st*m) w→ForV G w (sY ops m) a0 (fun a=>wpAny P md ops Q (ops.size-m) (iD m (ops.size-m)) a w)):
  ∀(fuel:Nat) (listed:Array Bool) (a:Act) (w:World) (vals:Nat→Value),listed.size=ops.size→(∀i o,ops[i]? =some o→listed.getD i false=true→ ∀e∈o.after,Region.binds md e=true→listed.getD e.on false=true)→
   (∀i,m≤i→listed.getD i false=false)→
   R W w→(∃j,j+fuel=ops.size∧T (k0+st*j) w)→FrI ops a0 vals (fun j=>listed.getD j false=true) a→(∀i,listed.getD i false=true→G i (vals i) w)→
   List.count false listed.toList=fuel→wpAny P md ops Q fuel listed a w:=by
 intro fuel
 -- all of the head have come up
 have ad: ∀(fuel:Nat) (listed:Array Bool) (a:Act) (w:World) (vals:Nat→Value),listed.size=ops.size→(∀i,m≤i→listed.getD i false=false)→R W w→(∃j,j+fuel=ops.size∧T (k0+st*j) w)→FrI ops a0 vals (fun j=>listed.getD j false=true) a→(∀i,listed.getD i false=true→G i (vals i) w)→
   List.count false listed.toList=fuel→(∀i,i<m→listed.getD i false=true)→wpAny P md ops Q fuel listed a w:=by
  intro fuel listed a w vals x q hR y hF s u f;have ap:listed.toList=List.replicate m true++List.replicate (ops.size-m) false:=by
   apply List.ext_getElem?;intro i;rw[Array.getElem?_toList];by_cases him:i<m
   ·have h1:=f i him;have h2:i<listed.size:=by omega
    simp[h2]at h1;simp[h2,h1,List.getElem?_append,him]
   by_cases hio:i<listed.size
   ·have h1:=q i (by omega);simp[hio]at h1;have h2:i-m<ops.size-m:=by omega
    rw[aWx (by simp;omega)];simp[hio,h1,h2]
   rw[Array.getElem?_eq_none (by omega),aXg (by simp;omega)]
  have e2:listed=iD m (ops.size-m):=by unfold iD;rw[←ap]
  have e3:fuel=ops.size-m:=by rw[←u,e2];simp[iD,List.count_append,List.count_replicate]
  have h:=he w hR (by
   obtain⟨j,hj,hr⟩:=y;have:j=m:=by omega
   rw[this]at hr;exact hr)
  obtain⟨b,hb,hq⟩:=ForV.get r hn (G:=G) (vals:=vals) (sY ops m) (fun _=>False) a0 (fun p hp=>by
   unfold sY at hp;obtain⟨i,hi,rfl⟩:=List.mem_map.1 hp;have:=aWm.1 hi
   exact⟨⟨ops[i]'(by omega),Array.getElem?_eq_getElem _⟩,rfl⟩) (fun p hp=>by
   unfold sY at hp;obtain⟨i,hi,rfl⟩:=List.mem_map.1 hp
   exact s i (f i (aWm.1 hi))) FrI.nil h
  have e1:a=b:=hF.eq (hb.congr (fun i=>by
   simp only[false_or,sY,List.map_map,List.mem_map,aWm];constructor
   ·rintro⟨j,hj,rfl⟩;exact f j hj
   ·intro hl;refine⟨i,?_,rfl⟩;rcases Nat.lt_or_ge i m with h'|h'
    ·exact h'
    ·rw[q i h']at hl;cases hl) (fun _ _=>rfl))
  rw[e1,e2,e3];exact hq
 induction fuel with
 |zero=>
  intro listed a w vals x ae q hR y hF s u;refine ad 0 listed a w vals x q hR y hF s u fun i hi=> ?_
  have ar:i<listed.size:=by omega
  cases hb:listed[i]with
  |true=>simp[hb,ar]
  |false=>
   have ao:false∈listed.toList:=by rw[←hb];simp
   have:=List.count_pos_iff.2 ao;omega
 |succ fuel ih=>
  intro listed a w vals x ae q hR y hF s u;by_cases f: ∀i,i<m→listed.getD i false=true
  ·exact ad _ listed a w vals x q hR y hF s u f
  by_cases hbut: ∀i,i<m→i≠fl→listed.getD i false=true
  ·have af:fl<m:=by
    rcases Nat.lt_or_ge fl m with h|h
    ·exact h
    exact absurd (fun i hi=>hbut i hi (by omega)) f
   have g:fl<listed.size:=by omega
   have z:listed[fl]=false:=by
    cases hb':listed[fl]with
    |false=>rfl
    |true=>exact absurd (fun i hi=>by
      by_cases e:i=fl
      ·subst e;simp[g,hb']
      ·exact hbut i hi e) f
   have ho:ops[fl]? =some ops[fl]:=Array.getElem?_eq_getElem (by omega);have l: ∀e∈(ops[fl]).after,Region.binds md e=true→listed.getD e.on false=true:=fun e he hb=>by have h5:=aWo.1 am fl (aWm.2 (by omega));simp only[ho]at h5;have h6:=Array.all_eq_true_iff_forall_mem.1 h5 e he;simp[hb]at h6;exact hbut _ (by omega) (by omega)
   have av:listed.toList=(List.replicate m true).set fl false++List.replicate (ops.size-m) false:=by
    apply List.ext_getElem?;intro i;rw[Array.getElem?_toList];by_cases him:i<m
    ·have h2:i<listed.size:=by omega
     rw[aWl (by simpa using him)];by_cases e:i=fl
     ·subst e;simp[g,z,him]
     have h1:=hbut i him e;simp[h2]at h1;simp[h2,h1,him,Ne.symm e]
    by_cases hio:i<listed.size
    ·have h1:=q i (by omega);simp[hio]at h1;have h2:i-m<ops.size-m:=by omega
     rw[aWx (by simp;omega)];simp[hio,h1,h2]
    rw[Array.getElem?_eq_none (by omega),aXg (by simp;omega)]
   have aq:listed=tC m fl (ops.size-m):=by unfold tC;rw[←av]
   have ai: ∀p∈gM ops fl,listed.getD p.1 false=true:=fun p hp=>by obtain⟨_,_,d,hd,hl⟩:=tZ ho hp;obtain⟨e,he,hbd,ak⟩:=((mH r).2 fl _ ho).2 d hl p.1 hd;have h3:=l e he hbd;rwa[ak]at h3
   obtain⟨b,hb,v,az,hg⟩:=ForV.get r hn (G:=G) (vals:=vals) (gM ops fl) (fun _=>False) a0 (fun p hp=>by
    obtain⟨h1,h2,_⟩:=tZ ho hp
    exact⟨⟨ops[p.1]'h1,Array.getElem?_eq_getElem _⟩,h2⟩) (fun p hp=>s _ (ai p hp)) FrI.nil (hy af _ ho w hR)
   have ab: ¬listed.getD fl false=true:=by simp[g,z]
   refine wpAny_take ho (mH r).1 (by rw[aq];exact ag af) (by simpa using mem_ready.2 ⟨by simp[g,z],_,ho,l⟩) (fun c a w h=>hQ af _ ho _ c a w h) (by obtain⟨h1,h2⟩:=aEh r ho l hF (hb.congr (fun j=>by simp) (fun _ _=>rfl));unfold Yields at*;rw[h1,h2];exact az) ?_;refine ad fuel (listed.setIfInBounds fl true) _ w (fun j=>if j=fl then v else vals j) (by simpa using x) (fun j hj=>by rw[getD_set_ne false (by omega)];exact q j hj) hR (by obtain⟨j,hj,hr⟩:=y;exact⟨j+1,by omega,by rw[Nat.mul_succ,←Nat.add_assoc];exact hT _ _ hr⟩) ?_ ?_ ?_ ?_
   ·refine(hF.put r hn ho v (fun h=>absurd h ab)).congr (fun j=> ?_) (fun _ _=>rfl);by_cases hji:j=fl
    ·subst hji;simp[g]
    rw[getD_set_ne false (Ne.symm hji)];simp[hji]
   ·intro j hj;by_cases hji:j=fl
    ·subst hji;simp only[if_true];exact hg
    rw[getD_set_ne false (Ne.symm hji)]at hj;simp only[hji,if_false];exact s j hj
   ·have e1:(listed.setIfInBounds fl true).toList=listed.toList.set fl true:=by simp
    rw[e1];have ah:fl<listed.toList.length:=by simpa using g
    have aa:listed.toList[fl]=false:=by simpa using z
    rw[List.count_set ah];rw[aa];have e2:((false==false)=true):=rfl;have e3: ¬((true==false)=true):=by decide
    rw[if_pos e2,if_neg e3];omega
   intro i hi;by_cases e:i=fl
   ·subst e;simp[g]
   rw[getD_set_ne false (Ne.symm e)];exact hbut i hi e
  refine⟨fun h=> ?_,fun i hi=> ?_⟩
  ·exact absurd (fun i hi=>aOh am listed x h i (by omega)) f
  have him:i<m:=by
   rcases Nat.lt_or_ge i m with h|h
   ·exact h
   exact absurd (aNh am ht listed hm ae q hi h) hbut
  obtain⟨h0,o,ho,l⟩:=mem_ready.1 hi;have an:i<ops.size:=(aX6.1 ho).1;have t:i<listed.size:=by rw[x];exact an
  have ab: ¬listed.getD i false=true:=by intro h;simp[t]at h h0;rw[h0]at h;cases h
  obtain⟨jj,a1,aw⟩:=y;have al:=hs i (aWm.2 him) o ho w (k0+st*jj) hR aw (Nat.add_le_add_left (Nat.mul_le_mul_left st (by omega)) k0);have ai: ∀p∈gM ops i,listed.getD p.1 false=true:=fun p hp=>by obtain⟨_,_,d,hd,hl⟩:=tZ ho hp;obtain⟨e,he,hbd,ak⟩:=((mH r).2 i o ho).2 d hl p.1 hd;have h3:=l e he hbd;rwa[ak]at h3
  obtain⟨b,hb,ax⟩:=ForV.get r hn (G:=G) (vals:=vals) (gM ops i) (fun _=>False) a0 (fun p hp=>by
   obtain⟨h1,h2,_⟩:=tZ ho hp
   exact⟨⟨ops[p.1]'h1,Array.getElem?_eq_getElem _⟩,h2⟩) (fun p hp=>s _ (ai p hp)) FrI.nil al
  refine aPz (vals:=vals) r hn ho (fun e he hbd=>l e he hbd) ab hF (hb.congr (fun j=>by simp) (fun _ _=>rfl)) ax fun v w'' hg ⟨hr,hr2⟩=> ?_
  refine ih (listed.setIfInBounds i true) _ w'' (fun j=>if j=i then v else vals j) (by simpa using x) ?_ ?_ (ay _ _ _ hR hr) ⟨jj+1,by omega,by rw[Nat.mul_succ,←Nat.add_assoc];exact hr2⟩ ?_ ?_ ?_
  ·intro j oj aj hj e he hbd;by_cases hji:j=i
   ·subst hji;rw[ho]at aj;cases aj
    exact getD_set_true (l e he hbd)
   rw[getD_set_ne false (Ne.symm hji)]at hj;exact getD_set_true (ae j oj aj hj e he hbd)
  ·intro j hj;rw[getD_set_ne false (by omega)];exact q j hj
  ·refine(hF.put r hn ho v (fun h=>absurd h ab)).congr (fun j=> ?_) (fun _ _=>rfl);by_cases hji:j=i
   ·subst hji;simp[t]
   rw[getD_set_ne false (Ne.symm hji)];simp[hji]
  ·intro j hj;by_cases hji:j=i
   ·subst hji;simp only[if_true];exact hg
   rw[getD_set_ne false (Ne.symm hji)]at hj;simp only[hji,if_false];exact hG _ _ _ _ (s j hj) hr
  have au:listed[i]=false:=by
   cases hb':listed[i]with
   |false=>rfl
   |true=>exact absurd (by simp[t,hb']) ab
  have e1:(listed.setIfInBounds i true).toList=listed.toList.set i true:=by simp
  rw[e1];have ah:i<listed.toList.length:=by simpa using t
  have aa:listed.toList[i]=false:=by simpa using au
  rw[List.count_set ah];rw[aa];have e2:((false==false)=true):=rfl;have e3: ¬((true==false)=true):=by decide
  rw[if_pos e2,if_neg e3];omega
theorem sJ {id n:Nat}{a0:Act}{w W:World}(G:Nat→Value→World→Prop)(R:World→World→Prop)(T:Nat→World→Prop)(k0 st m fl:Nat)(hm:P.follows .mixedOrders=true)(hn:a0.tmps.size=n)(p:qA .any ops n=true)(u:xF .any ops=true)(ht:oP .any ops m fl=true)
  (hT: ∀k w,T k w→T (k+st) w)(q:T k0 W)(e: ∀w,R w w)(t: ∀a b c,R a b→R b c→R a c)(hG: ∀i v w w',G i v w→R w w'→G i v w')(hW:W=w.drew){k:Nat}(r:ops.size=k)(l:m≤k)
  (hQ:fl<m→ ∀o,ops[fl]? =some o→ ∀v c a w,Q (.panic c) (Act.put a o.dst v) w→Q (.panic c) a w) (d:fl<m→Region.free .any ops (tC m fl (k-m)) fl=true) (hy:fl<m→ ∀o,ops[fl]? =some o→ ∀w,R W w→ForV G w (gM ops fl) a0 (fun b=> ∃v,Yields P ops o v b∧G fl v w))
  {ls:List (Nat×Option Tmp)} (j:sY ops m=ls) {ir:List Nat} (g:List.range m=ir)
  (hs:StepsLT P .any ops G R T st (k0+st*k) a0 W ir) {tl:Array Bool} (s:iD m (k-m)=tl) (he: ∀w,R W w→T (k0+st*m) w→ForV G w ls a0 (fun a=>wpAny P .any ops Q (k-m) tl a w)):
  (Code.region id ops true).wp P Q a0 w:=by
 subst r j g s;refine wp_region_any hm ?_;have f:W={w with drawn:=w.drawn+1}:=hW;rw[←f];refine aRj p u ht l hT hQ d hn t hG hy hs he ops.size (Array.replicate ops.size false) a0 W (fun _=>undef) (by simp) ?_ ?_ (e _) ⟨0,by omega,by simpa using q⟩ ?_ ?_ ?_
 ·intro i o ho hl;have hi:=(aX6.1 ho).1;simp[hi]at hl
 ·intro i _;by_cases hi:i<ops.size<;>simp[hi]
 ·refine FrI.nil.congr (fun i=> ?_) (fun _ _=>rfl);constructor
  ·exact False.elim
  intro h;by_cases hi:i<ops.size
  ·simp[hi]at h
  simp[hi]at h
 ·intro i h;by_cases hi:i<ops.size
  ·simp[hi]at h
  simp[hi]at h
 simp
theorem ForV.map {w:World}: ∀ {l:List (Nat×Option Tmp)} {a:Act} {K K':Act→Prop},(∀a,K a→K' a)→ForV G w l a K→ForV G w l a K'
 | [],_,_,_,h,k=>h _ k
 |_::_,_,_,_,h,k=>fun v hv=>ForV.map h (k v hv)
theorem StepsL.t {a0:Act}{W:World}{is:List Nat}{a:Nat}(h:StepsL P md ops G R a0 W is):StepsLT P md ops G R (fun _ _=>True) 0 a a0 W is:=
 fun i hi o ho w _ hw _ _=>ForV.map (fun _ k K' hK=>k K' fun a' w'' ⟨v,e,g,x⟩=>hK a' w'' ⟨v,e,g,x,trivial⟩) (h i hi o ho w hw)
theorem aKw {id n:Nat}{a0:Act}{w:World}(G:Nat→Value→World→Prop)(m:Nat)(hm:P.follows .mixedOrders=true)(hn:a0.tmps.size=n)(e:qA .any ops n=true)(j:xF .any ops=true)(ht:oP .any ops m m=true)
  (hG: ∀i v w w',G i v w→Ext w w'→G i v w'){k:Nat}(f:ops.size=k)(d:m≤k){ls:List (Nat×Option Tmp)}(c:sY ops m=ls){ir:List Nat}(b:List.range m=ir)
  (hs:StepsL P .any ops G Ext a0 w.drew ir){tl:Array Bool}(g:iD m (k-m)=tl)(he: ∀w',Ext w.drew w'→ForV G w' ls a0 (fun a=>wpAny P .any ops Q (k-m) tl a w')):
  (Code.region id ops true).wp P Q a0 w:=
 sJ G Ext (fun _ _=>True) 0 0 m m hm hn e j ht (fun _ _ h=>h) trivial Ext.refl (fun _ _ _=>Ext.trans) hG rfl f d (fun h=>absurd h (Nat.lt_irrefl _)) (fun h=>absurd h (Nat.lt_irrefl _)) (fun h=>absurd h (Nat.lt_irrefl _)) c b hs.t g (fun w h _=>he w h)
theorem oT {id n:Nat}{a0:Act}{w:World}(G:Nat→Value→World→Prop)(m fl:Nat)(hm:P.follows .mixedOrders=true)(hn:a0.tmps.size=n)(p:qA .any ops n=true)(s:xF .any ops=true)(ht:oP .any ops m fl=true)(u:fl<m)
  (hG: ∀i v w w',G i v w→Ext w w'→G i v w'){k:Nat}(q:ops.size=k)(l:m≤k)(d:Region.free .any ops (tC m fl (k-m)) fl=true){ls:List (Nat×Option Tmp)}(j:sY ops m=ls){ir:List Nat}(f:List.range m=ir){of:Oper}(e:ops[fl]? =some of) (hQ: ∀v c a w,Q (.panic c) (Act.put a of.dst v) w→Q (.panic c) a w) {lf:List (Nat×Option Tmp)} (g:gM ops fl=lf)
  (hy: ∀w',Ext w.drew w'→ForV G w' lf a0 (fun b=> ∃v,Yields P ops of v b∧G fl v w'))
  (hs:StepsL P .any ops G Ext a0 w.drew ir) {tl:Array Bool} (r:iD m (k-m)=tl) (he: ∀w',Ext w.drew w'→ForV G w' ls a0 (fun a=>wpAny P .any ops Q (k-m) tl a w')):
  (Code.region id ops true).wp P Q a0 w:=
 sJ G Ext (fun _ _=>True) 0 0 m fl hm hn p s ht (fun _ _ h=>h) trivial Ext.refl (fun _ _ _=>Ext.trans) hG rfl q l (fun _ o ho=>by rw[e]at ho;cases ho;exact hQ) (fun _=>d) (fun _ o ho=>by rw[e]at ho;cases ho;subst g;exact hy) j f hs.t r (fun w h _=>he w h)
end
def gl (l:List (Value→World→Prop))(i:Nat):Value→World→Prop:=l.getD i (fun _ _=>True)
def aAd (g:Value→World→Prop):Prop:= ∀v w w',g v w→Ext w w'→g v w'
theorem mQ {l:List (Value→World→Prop)}(h: ∀g∈l,aAd g): ∀i v w w',gl l i v w→Ext w w'→gl l i v w':=by
 intro i v w w' hg hx;unfold gl at*;rw[aW7]at*;cases hi:l[i]? with
 |none=>rw[hi]at hg;exact hg
 |some g=>rw[hi]at hg;simp only[Option.getD_some]at*;exact h g (aW1 hi) _ _ _ hg hx
def gEq (u:Value):Value→World→Prop:=fun v _=>v=u
theorem bL (u:Value):aAd (gEq u):=fun _ _ _ h _=>h
def aJa (lo:Nat)(t:TypeId)(cs:Array Value):Value→World→Prop:=fun v w=> ∃g,v= .pointer (some ⟨g,0,none⟩)∧lo≤g∧Blk w g t cs
theorem uF (t:TypeId)(cs:Array Value):aAd (aJa lo t cs):=fun _ _ _ ⟨g,h1,h2,h3⟩ hx=>⟨g,h1,h2,h3.ext hx⟩
def aDn (lo:Nat)(t:TypeId)(cs:Array Value)(n:Nat):Value→World→Prop:=fun v w=> ∃g,v= .slice (some ⟨g,0,none⟩) n n∧lo≤g∧Blk w g t cs
theorem aEs (t:TypeId)(cs:Array Value)(n:Nat):aAd (aDn lo t cs n):=fun _ _ _ ⟨g,h1,h2,h3⟩ hx=>⟨g,h1,h2,h3.ext hx⟩
theorem pM: ∀g∈([]:List (Value→World→Prop)),aAd g:=fun _ h=>by cases h
theorem aW {g:Value→World→Prop}{l:List (Value→World→Prop)}(h:aAd g)(k: ∀g∈l,aAd g): ∀g'∈g::l,aAd g':=fun g' h'=>by
 rcases aWd.1 h' with rfl|h'
 ·exact h
 exact k g' h'
section
variable {P:Program} {ops:Array Oper} {Q:Exit→Act→World→Prop} {md:Region.Mode} {G:Nat→Value→World→Prop} {R:World→World→Prop}
theorem rL {id n:Nat}{a0:Act}{w:World}(G:Nat→Value→World→Prop)(m k:Nat)(ls:List (Nat×Option Tmp))(hs:StepsL P .any ops G Ext a0 w.drew (List.range m))(he: ∀w',Ext w.drew w'→ForV G w' ls a0 (fun a=>wpAny P .any ops Q (k-m) (iD m (k-m)) a w'))
  (hG: ∀i v w w',G i v w→Ext w w'→G i v w':=by(refine mQ ?_;repeat (first|exact pM|refine aW (bL _) ?_|refine aW (uF _ _ _) ?_|refine aW (aEs _ _ _ _) ?_)))
  (hm:P.follows .mixedOrders=true:=by kernel_rfl)(hn:a0.tmps.size=n:=by exact rfl)(d:qA .any ops n=true:=by kernel_rfl)(f:xF .any ops=true:=by kernel_rfl)(ht:oP .any ops m m=true:=by kernel_rfl)
  (e:ops.size=k:=by kernel_rfl)(c:m≤k:=by decide)(b:sY ops m=ls:=by kernel_rfl):(Code.region id ops true).wp P Q a0 w:=
 aKw G m hm hn d f ht hG e c b rfl hs rfl he
end
end
def Rand (w:World)(R k:Nat):Prop:= ∃(p:OA) (n cap:Nat) (q:Int) (bs:List Int),
 Blk w R 79 #[.slice p n cap,q]∧0≤q∧q≤k∧Sl w p n cap 1 (bs.map (Value.int .u8))∧n≤2000∧(∀x∈bs,0≤x∧x≤255)∧(0<n→ ∀b off,p=some ⟨b,off,none⟩→b<R)
theorem Rand.mono {w:World}{R k':Nat}(h:Rand w R k)(hk:k≤k'):Rand w R k':=by obtain⟨p,n,a,q,bs,h1,h2,h3,h4⟩:=h;exact⟨p,n,a,q,bs,h1,h2,by omega,h4⟩
theorem Rand.below {w:World}{R:Nat}(h:Rand w R k)(hx:Below (R+1) w w'):Rand w' R k:=by obtain⟨p,n,c,q,bs,h1,h2,h3,h4,h5,h6,h7⟩:=h;refine⟨p,n,c,q,bs,(hx.block R (Nat.lt_succ_self R)).trans h1,h2,h3,⟨h4.len,h4.le,h4.mx,fun h0=> ?_⟩,h5,h6,h7⟩;obtain⟨b,a,rfl,hb,hc⟩:=h4.rd h0;have d:=h7 h0 b a rfl;exact⟨b,a,rfl,aVy hb hx.size,fun k hk=>(World.cell?_of_block (hx.block b (by omega))).trans (hc k hk)⟩
theorem Rand.alloc {w:World}{R:Nat}(h:Rand w R k)(o:Obj):Rand (w.alloc o) R k:=by obtain⟨p,n,a,q,bs,h1,h2⟩:=id h;exact h.below (Below.alloc (Below.refl _ _) h1.lt o)
theorem Rand.setCell {w:World}{R:Nat}(h:Rand w R k){p:Addr}(hp:R<p.block)(u:Value):Rand (w.setCell p u) R k:=h.below (Below.setCell (Below.refl _ _) hp u)
theorem Rand.drew {w:World}{R:Nat}(h:Rand w R k):Rand w.drew R k:=h.below (Below.drew (Below.refl _ _))
theorem Rand.drewN {w:World}{R:Nat}(h:Rand w R k)(n:Nat):Rand (w.drewN n) R k:=h.below (below_drewN (Below.refl _ _) n)
theorem Rand.ext {w:World}{R:Nat}(h:Rand w R k)(hx:Ext w w'):Rand w' R k:=by obtain⟨p,n,a,q,bs,h1,h2,h3,h4,h5⟩:=h;exact⟨p,n,a,q,bs,h1.ext hx,h2,h3,h4.ext hx,h5⟩
theorem Rand.lt {w:World}{R:Nat}(h:Rand w R k):R<w.heap.size:=by obtain⟨p,n,a,q,bs,h1,_⟩:=h;exact h1.lt
theorem Rand.grown {w:World}{R:Nat}(h:Rand w R k)(hg:w.grownBy w' row)(hr:some R≠row)(hb: ∀b,row=some b→w.heap.size≤b):Rand w' R k:=
 h.ext ((Ext.refl w).grown hg hb)
theorem aBa {w:World}{p:OA}{c:Nat}{xs:List Int}(h:Sl w p n c 1 (xs.map (Value.int .u8)))(hk:k<n):
  ∃b off x,p=some ⟨b,off,none⟩∧x∈xs∧b<w.heap.size∧w.cell? ⟨b,off+k,none⟩=some (.int .u8 x):=by
 obtain⟨b,off,rfl,hb,hc⟩:=h.rd (by omega);have hl:xs.length=n:=by simpa using h.len
 have a:k<xs.length:=by rw[hl];exact hk
 have hx:xs[k]? =some (xs[k]'a):=aW0 a;refine⟨b,off,_,rfl,List.getElem_mem a,hb,?_⟩;rw[hc k (by omega),aWp,hx];rfl
theorem aEd (ha:a<9223372036854775808):(BitVec.ofInt 64 (a:Int)).toNat=a:=by rw[BitVec.ofInt_natCast,BitVec.toNat_ofNat];exact Nat.mod_eq_of_lt (by omega)
theorem aJv (x y:Int)(hx:0≤x)(c:x<9223372036854775808)(hy:0≤y)(f:y<9223372036854775808):0≤bits .xor .i64 x y∧bits .xor .i64 x y<9223372036854775808:=by
 obtain⟨a,rfl⟩:=aWk hx;obtain⟨b,rfl⟩:=aWk hy;have d:a ^^^ b<2 ^ 63:=Nat.xor_lt_two_pow (by omega) (by omega);have e:bits .xor .i64 (a:Int) (b:Int)=((a ^^^ b:Nat):Int):=by show IntKind.i64.wrap ((BitVec.ofInt 64 (a:Int) ^^^ BitVec.ofInt 64 (b:Int)).toNat:Int)=_;rw[BitVec.toNat_xor,aEd a (by omega),aEd b (by omega),IntKind.wrap_i64];omega
 rw[e];omega
def aUg (R k:Nat)(n:Int)(w:World)(e:Ending)(w':World):Prop:= ∃x:Int,e= .returned (.int .i64 x)∧0≤x∧(x<n∨x=0)∧Rand w' R (k+1)∧ExtR R w w'
theorem aO9 {w:World}{R:Nat}{p:OA}{a:Nat}{q:Int}{bs:List Int}(hw:w'=w.setCell ⟨R,1,none⟩ (I (q+1)))(h1:Blk w R 79 #[.slice p n a,q])(h2:0≤q)(h3:q≤k)(h4:Sl w p n a 1 (bs.map (Value.int .u8)))(h5:n≤2000)(h6: ∀x∈bs,0≤x∧x≤255)(h7:0<n→ ∀b off,p=some ⟨b,off,none⟩→b<R):
  Rand w' R (k+1)∧ExtR R w w':=by
 have hx:ExtR R w w':=by rw[hw];exact(ExtR.refl R w).setCell (p:=⟨R,1,none⟩) (.inl rfl) _
 refine⟨⟨p,n,a,q+1,bs,by rw[hw];exact h1.set 1 _,by omega,by omega,hx.sl (b0:=0) h4 (fun h0 b off e=>by have:=h7 h0 b off e;omega),h5,h6,h7⟩,hx⟩
theorem cP (k:Nat)(n:Int)(w:World)(hr:Rand w R k)(hk:k≤1099511627776):
  U 20 #[.pointer (some ⟨R,0,none⟩),n] w (aUg R k n w):=by
 obtain⟨p,m,g,q,bs,h1,h2,h3,h4,h5,h6,a⟩:=hr;have h7:0<m→ ∀b off,p=some ⟨b,off,none⟩→b≠R:=fun h0 b off e=>by have:=a h0 b off e;omega
 have c0:=h1.cl 0;have c1:=h1.cl 1;have f1:=h1.frozen 1;have HS:=xQ (fun w' hw=>aO9 (w':=w') hw h1 h2 h3 h4 h5 h6 a);by_cases hn:n<1
 ·skip;go_enter func20,ntmps20;go_wp2;go_ret;exact⟨0,rfl,by omega,.inr rfl,HS _ rfl⟩
 by_cases hm:m=0
 ·subst hm;go_enter func20,ntmps20;go_wp2;go_ret;exact⟨0,rfl,by omega,.inr rfl,HS _ rfl⟩
 by_cases hq:q<m
 ·obtain⟨b,off,x,rfl,hx,hb,hc⟩:=aBa h4 (k:=q.toNat) (by omega);obtain⟨x0,x1⟩:=h6 x hx;have d:b≠R:=h7 (by omega) b off rfl;have hl:=h4.le;go_enter func20,ntmps20;go_wp2;go_ret;exact⟨_,rfl,Int.emod_nonneg _ (by omega),.inl (Int.emod_lt_of_pos _ (by omega)),HS _ rfl⟩
 obtain⟨b,off,x,rfl,hx,hb,hc⟩:=aBa h4 (k:=(q%m).toNat) (by have:=Int.emod_lt_of_pos q (show(0:Int)<m by omega);have:=Int.emod_nonneg q (show(m:Int)≠0 by omega);omega);obtain⟨b2,f,y,c,hy,h,i⟩:=aBa h4 (k:=((q*7+3)%m).toNat) (by have:=Int.emod_lt_of_pos (q*7+3) (show(0:Int)<m by omega);have:=Int.emod_nonneg (q*7+3) (show(m:Int)≠0 by omega);omega);simp only[aX3,Addr.mk.injEq,and_true]at c;obtain⟨rfl,rfl⟩:=c;obtain⟨x0,x1⟩:=h6 x hx;obtain⟨y0,y1⟩:=h6 y hy;have d:b≠R:=h7 (by omega) b off rfl;have hl:=h4.le;have i1:0≤q%m:=Int.emod_nonneg _ (by omega);have i2:q%m<m:=Int.emod_lt_of_pos _ (by omega);have i3:0≤(q*7+3)%m:=Int.emod_nonneg _ (by omega);have i4:(q*7+3)%m<m:=Int.emod_lt_of_pos _ (by omega);have i5:0≤q/m:=Int.ediv_nonneg h2 (by omega);have i6:q/m≤q:=Int.ediv_le_self _ h2;go_enter func20,ntmps20;go_wp2;go_quiet (fail);all_goals go_wp2
 all_goals go_ret
 have z0:0≤x*131+y*1117+q*29+q/m*53:=by omega
 have z1:x*131+y*1117+q*29+q/m*53<9223372036854775808:=by omega
 obtain⟨z2,z3⟩:=aJv (x*131+y*1117+q*29+q/m*53) ((x*131+y*1117+q*29+q/m*53)/64) z0 z1 (by omega) (by omega);refine⟨_,rfl,?_,.inl ?_,?_⟩
 ·rw[Int.tmod_eq_emod_of_nonneg z2];exact Int.emod_nonneg _ (by omega)
 ·rw[Int.tmod_eq_emod_of_nonneg z2];exact Int.emod_lt_of_pos _ (by omega)
 obtain⟨a1,a2⟩:=HS _ rfl;exact⟨a1.ext (Ext.drewN (Ext.refl _) _),a2.drewN _⟩
theorem xN {w:World}{R c:Nat}(h:Rand w R c:=by(repeat' (first|(with_reducible assumption)|(with_reducible refine Rand.alloc ?_ _)|(with_reducible refine Rand.setCell ?_ (by first|exact Nat.le_refl _|(dsimp only;omega)|(simp;done)|(simp;omega)) _)|(with_reducible refine Rand.drew ?_)|(with_reducible refine Rand.drewN ?_ _)|(refine Rand.ext ?_ (by with_reducible assumption))))):Rand w R c:=h
end Go.Proofs.YthfmmibomhhmpabGreatDoor
