/-
  Texts of this proof, packed (@packed).
-/
import Derived.Below
import Derived.BigQuiet
import Derived.ChangeArms
import Derived.Deep.DeepCutAuto
import Derived.Deep.DeepFit
import Derived.Deep.Draws
import Derived.Deep.QuietTactic
import Derived.Deep.RegionHeld3
import Derived.Deep.RegionWith
import Derived.Deep.Slices
import Derived.Deep.Strs
import Derived.Handy
import Derived.IntWalk
import Derived.Laws.OwnMore
import Derived.Laws.Rows
import Derived.Lib.Hide
import Derived.Lib.SmallJoins
import Derived.OpenShut
import Derived.OwnWalk
import Derived.ProofKit
import Derived.ShutString
import Derived.Test.YthfmmibomhhmpaaGreatDoorRows
import Derived.WalkKit
import Derived.WalkSmall
import Derived.WalkSpells
namespace Go.Proofs.YthfmmibomhhmpaaGreatDoor
open Go.RowKit
set_option linter.unusedSimpArgs false
set_option linter.unusedVariables false
set_option maxRecDepth 100000
def Ext (w w':World):Prop:=Below w.heap.size w w'
theorem Ext.refl (w:World):Ext w w:=Below.refl _ _
theorem Ext.trans {a b c:World}(h:Ext a b)(k:Ext b c):Ext a c:=Below.trans h (Below.mono k h.size)
theorem Ext.alloc {a b:World}(h:Ext a b)(o:Obj):Ext a (b.alloc o):=Below.alloc h h.size o
theorem Ext.drew {a b:World}(h:Ext a b):Ext a b.drew:=Below.drew h
theorem Ext.drewN {a b:World}(h:Ext a b)(n:Nat):Ext a (b.drewN n):=below_drewN h n
theorem Ext.of_drew {a b:World}(h:Ext a.drew b):Ext a b:=⟨h.os,h.tape,h.output,h.size,h.block⟩
theorem Ext.setCell {a b:World}(h:Ext a b){p:Addr}(hp:a.heap.size≤p.block)(u:Value):Ext a (b.setCell p u):=Below.setCell h hp u
theorem Ext.grown {a b c:World}{row:Option Nat}(h:Ext a b)(hg:b.grownBy c row)(hr: ∀k,row=some k→a.heap.size≤k):Ext a c:=Below.grown h hg h.size hr
theorem Ext.cells {W w1:World}(hb:Ext W w1):(∀b o,b<W.heap.size→w1.cell? ⟨b,o,none⟩=W.cell? ⟨b,o,none⟩)∧(∀b o,b<W.heap.size→w1.frozen? ⟨b,o,none⟩=W.frozen? ⟨b,o,none⟩):=
 ⟨fun b o h=>Below.cell hb (p:=⟨b,o,none⟩) h,fun b o h=>Below.frozen hb (p:=⟨b,o,none⟩) h⟩
theorem Ext.sz {W w1:World}(hb:Ext W w1):W.heap.size≤w1.heap.size:=hb.size
def Rd (w:World)(v:Value)(n sz:Nat)(cs:List Value):Prop:=
 cs.length=n*sz∧((v= .slice none 0 0∧n=0)∨
  ∃b off cap,v= .slice (some ⟨b,off,none⟩) n cap∧n≤cap∧cap≤maxLen∧b<w.heap.size∧ ∀k,k<n*sz→w.cell? ⟨b,off+k,none⟩=cs[k]?)
theorem Rd.nil (w:World)(sz:Nat):Rd w (.slice none 0 0) 0 sz []:=⟨by simp,.inl ⟨rfl,rfl⟩⟩
theorem Rd.ext {w w':World}{v:Value}{n sz:Nat}{cs:List Value}(h:Rd w v n sz cs)(hb:Ext w w'):Rd w' v n sz cs:=by
 refine⟨h.1,?_⟩;rcases h.2 with h|⟨b,a,c,rfl,h1,h2,h3,h4⟩
 ·exact .inl h
 refine .inr ⟨b,a,c,rfl,h1,h2,Nat.lt_of_lt_of_le h3 hb.size,fun k hk=> ?_⟩;rw[Below.cell hb (p:=⟨b,a+k,none⟩) h3];exact h4 k hk
def Own (w:World)(base:Nat)(e:TypeId)(sz:Nat)(v:Value)(n:Nat)(xs:List Value):Prop:=
 w.ownsRow base e sz v n xs∨(n=0∧xs= []∧ ∃b off,v= .slice (some ⟨b,off,none⟩) 0 0∧b<w.heap.size)
theorem Own.len {w:World}{base:Nat}{e:TypeId}{sz:Nat}{v:Value}{n:Nat}{xs:List Value}(h:Own w base e sz v n xs):xs.length=n*sz:=by
 rcases h with h|⟨rfl,rfl,_⟩
 ·exact h.1
 simp
theorem Own.rd {w:World}{base:Nat}{e:TypeId}{sz:Nat}{v:Value}{n:Nat}{xs:List Value}(h:Own w base e sz v n xs):Rd w v n sz xs:=by
 refine⟨h.len,?_⟩;rcases h with h|⟨rfl,rfl,b,c,rfl,hb⟩
 ·rcases h.2 with h2|⟨g,a,d,rfl,hb,hg,hn,hm,hs,ht⟩
  ·exact .inl h2
  refine .inr ⟨g,0,a,rfl,hn,hm,(Array.getElem?_eq_some_iff.1 hg).1,fun k hk=> ?_⟩;rw[Nat.zero_add];exact h.cellAt k hk
 exact .inr ⟨b,c,0,rfl,Nat.le_refl _,by simp[maxLen],hb,fun k hk=>by simp at hk⟩
theorem eS {k:IntKind}{a b:Int}(h:a=b):Ending.returned (.int k a)= .returned (.int k b):=by rw[h]
theorem aT {a b:Bool}(h:a=b):Ending.returned (.bool a)= .returned (.bool b):=by rw[h]
theorem xQ {p:Prop}(h:p):Hid p:=h
theorem xE {w v:World}(h:Ext w v:=by(repeat' (first|exact Ext.refl _|(with_reducible assumption)|(with_reducible refine Ext.alloc ?_ _)|(with_reducible refine Ext.setCell ?_ (by first|exact Nat.le_refl _|(dsimp only;omega)|(simp;done)|(simp;omega)) _)|(with_reducible refine Ext.drew ?_)|(with_reducible refine Ext.drewN ?_ _)|(refine Ext.trans ?_ (by with_reducible assumption))))):Ext w v:=h
instance hidFun {p:Prop}:CoeFun (Hid p) (fun _=>p):=⟨fun h=>h.out⟩
instance : Coe Int Value := ⟨fun x => .int .i64 x⟩
instance : Coe Nat Value := ⟨fun x => .int .i64 (x : Int)⟩
instance : Coe Unit Value := ⟨fun _ => .int .i64 0⟩
instance : Coe (Unit × Unit) Value := ⟨fun _ => .slice none 0 0⟩
abbrev xC (f : FuncId) (s : Array Value) (w : World) (Q : World → Ending → World → Prop) : Prop := Hid (∀ w', Ext w w' → Calls Tryz.prog f s w' (Q w'))
abbrev xB (f : FuncId) (s : Array Value) (w : World) (b : Bool) : Prop := Hid (∀ w', Ext w w' → Calls Tryz.prog f s w' fun e w'' => e = .returned (.bool b) ∧ Ext w' w'')
abbrev OA : Type := Option Addr
abbrev zT:Array Value:=#[.int .i64 0,.int .i64 0,.slice none 0 0,.int .i64 0,.int .i64 0,.int .i64 0,.int .i64 0,.int .i64 0,.int .i64 0,.slice none 0 0]
structure m3I where
structure m3U where
instance:CoeFun m3I (fun _=>Int→Value):=⟨fun _=>Value.int .i64⟩
instance:CoeFun m3U (fun _=>FuncId→Array Value→World→(Ending→World→Prop)→Prop):=⟨fun _=>Calls Tryz.prog⟩
instance:Coe World Nat:=⟨fun w=>w.heap.size⟩
instance m3N{α:Type}:CoeOut (List α) Nat:=⟨List.length⟩
def I:m3I:=⟨⟩
def U:m3U:=⟨⟩
abbrev aT4:=@Nat.lt_of_lt_of_le
abbrev aT5:=@Nat.le_refl
abbrev aT6:=@List.getElem?_eq_getElem
abbrev aT7:=@List.mem_of_getElem?
abbrev aT8:=@IntWalk.i64_in
abbrev aT9:=@List.getElem?_eq_some_iff
abbrev aTa:=@List.take_of_length_le
abbrev aTb:=@List.getD_eq_getElem?_getD
abbrev aTc:=@List.length_append
abbrev aTd:=@Nat.zero_le
abbrev aTe:=@World.ownsRow_nil
abbrev aTf:=@Bool.and_eq_true
abbrev aTg:=@Nat.le_trans
abbrev aTh:=@List.getElem?_set_self
abbrev aTi:=@List.mem_cons
abbrev aTj:=@List.set_cons_succ
abbrev aTk:=@List.set_cons_zero
abbrev aTl:=@Nat.pow_le_pow_right
abbrev aTm:=@List.setIfInBounds_toArray
abbrev aTn:=@List.mem_append
abbrev aTo:=@List.getElem?_map
abbrev aTp:=@List.mem_singleton
abbrev aTq:=@List.mem_range
abbrev aTr:=@List.getElem?_append_left
abbrev aTs:=@List.mem_filter
abbrev aTt:=@List.length_take
abbrev aTu:=@Prod.mk.injEq
abbrev aTv:=@List.append_nil
abbrev aTw:=@Int.eq_ofNat_of_zero_le
abbrev aTx:=@List.append_assoc
abbrev aTy:=@List.getElem?_append_right
abbrev aTz:=@List.flatMap_append
abbrev aU0:=@World.ownsRow.lt
abbrev aU1:=@List.length_map
abbrev aU2:=@List.filter_append
abbrev aU3:=@List.set_set
abbrev aU4:=@Option.map_some
abbrev aU5:=@World.ownsRow_made
abbrev aU6:=@List.all_eq_true
abbrev aU7:=@List.eq_nil_of_length_eq_zero
abbrev aU8:=@List.mem_append_left
abbrev aU9:=@List.mem_or_eq_of_mem_set
abbrev aUa:=@List.mem_of_find?_eq_some
abbrev aUb:=@List.length_filter_le
abbrev aUc:=@List.flatMap_cons
abbrev aUd:=@Joins.ownsRow_form
abbrev aUe:=@List.getElem_of_mem
abbrev aUf:=@Nat.zero_add
abbrev aUg:=@Array.getElem?_eq_some_iff
abbrev aUh:=@List.length_cons
abbrev aUi:=@List.length_set
abbrev aUj:=@List.map_append
abbrev aUk:=@World.cell?_alloc_past
abbrev aUl:=@List.mem_of_mem_take
abbrev aUm:=@List.length_drop
abbrev aUn:=@List.getElem?_eq_none
abbrev aUo:=@Joins.unfrozen_of_block
abbrev aUp:=@List.map_cons
abbrev aUq:=@Option.some.injEq
abbrev aUr:=@List.drop_eq_nil_of_le
abbrev aUs:=@World.grownBy.refl
abbrev aUt:=@List.range_succ
abbrev aUu:=@List.cons_append
abbrev aUv:=@List.take_length
abbrev aUw:=@Nat.mul_le_mul_right
abbrev aUx:=@List.nil_append
abbrev aUy:=@Joins.cell_of_block
abbrev aUz:=@Int.toNat_natCast
abbrev aV0:=@Nat.sub_self
abbrev aV1:=@List.getElem?_replicate
abbrev aV2:=@List.getElem?_set_ne
abbrev aV3:=@Nat.testBit_zero
abbrev aV4:=@Nat.lt_trans
abbrev aV5:=@List.take_append_of_le_length
abbrev aV6:=@List.filter_cons_of_pos
abbrev aV7:=@List.filter_cons_of_neg
abbrev aV8:=@World.frozen?_of_block
abbrev aV9:=@List.replicate_succ
abbrev aVa:=@Nat.testBit_succ
abbrev aVb:=@Nat.div_add_mod
abbrev aVc:=@Nat.succ_mul
abbrev aVd:=@Nat.add_sub_cancel
abbrev aVe:=@IntWalk.i64_quo
abbrev aVf:=@Nat.two_pow_pos
abbrev aVg:=@Nat.eq_of_testBit_eq
abbrev aVh:=@Nat.testBit_two_pow
abbrev aVi:=@List.getElem?_cons_succ
abbrev aVj:=@List.set_append_right
abbrev aVk:=@Nat.le_of_eq
abbrev aVl:=@Below.heap_setCell
abbrev aVm:=@List.getElem?_cons_zero
abbrev aVn:=@Joins.block_setCell
abbrev aVo:=@World.size_alloc
abbrev aVp:=@Below.heap_alloc
abbrev O(v:Value)(w:World)(e:Ending)(w1:World):Prop:=e= .returned v∧Ext w w1
theorem Z {P:Program}{f:FuncId}{s:Array Value}{w:World}{v:Value}{R:World→Prop}{K:Ending→World→Prop}(H:Calls P f s w fun e w1=>e= .returned v∧R w1)(k: ∀w1,R w1→K (.returned v) w1):Calls P f s w K:=H.mono (by rintro e w1 ⟨rfl,h⟩;exact k w1 h)
theorem aVt (u:Nat):(0:Int)≤(u:Int):=by omega
theorem aVu (a b:Nat)(h:a<b:=by omega):(a:Int)<(b:Int):=by omega
theorem aVv (a b:Nat)(h:a≤b:=by omega):(a:Int)≤(b:Int):=by omega
theorem aVw (e:Int)(h:-9223372036854775808≤e∧e≤9223372036854775807:=by omega):IntKind.i64.wrap e=e:=IntWalk.i64_in e (by omega)
theorem aVx (e:Nat)(h:e≤9223372036854775807:=by omega): ¬9223372036854775807<e:=by omega
section
open Go.ChangeShapes Go.WideShapes Go.ChangeAt Go.Deep
theorem eP {α:Type}(f:α→List Value)(sz:Nat)(hf: ∀a,(f a).length=sz): ∀(xs:List α) (k:Nat) (a:α),xs[k]? =some a→ ∀j,j<sz→(xs.flatMap f)[k*sz+j]? =(f a)[j]? :=by
 intro xs;induction xs with
 |nil=>intro k a h;simp at h
 |cons x xs ih=>
  intro k a h j hj;rw[aUc];cases k with
  |zero=>simp at h;subst h;rw[Nat.zero_mul,aUf,aTr (by rw[hf];exact hj)]
  |succ k=>rw[aTy (by rw[hf,aVc];omega),hf];have:=ih k a (by simpa using h) j hj;rw[←this];congr 1;rw[aVc];omega
theorem dD {α:Type}(f:α→List Value)(sz:Nat)(hf: ∀a,(f a).length=sz)(xs:List α):(xs.flatMap f).length=xs.length*sz:=by
 induction xs with
 |nil=>simp
 |cons x xs ih=>rw[aUc,aTc,hf,ih,aUh,aVc];omega
theorem lT (b o n:Nat):(⟨b,o,none⟩:Addr).add n=⟨b,o+n,none⟩:=by unfold Addr.add;split<;>simp_all
section
variable {H:Type} {enc:TypeId×Value→H} {w:World} {base:Nat} {spare:Nat→Bool} {held:Bool} {b0:Nat} {r:Reach} {v:Value} {d:DataW H} {p:List MemPlace}
end
end
section
open Go.ChangeShapes Go.WideShapes Go.ChangeAt Go.Deep Go.Proofs.Tryz
structure Sl (w:World) (p:OA) (n cap sz:Nat) (cs:List Value):Prop where
 len:cs.length=n*sz
 le:n≤cap
 mx:cap≤maxLen
 rd:0<n→ ∃b off,p=some ⟨b,off,none⟩∧b<w.heap.size∧ ∀k,k<n*sz→w.cell? ⟨b,off+k,none⟩=cs[k]?
theorem Sl.ext {w w':World}{p:OA}{n a sz:Nat}{cs:List Value}(h:Sl w p n a sz cs)(hb:Ext w w'):Sl w' p n a sz cs:=
 ⟨h.len,h.le,h.mx,fun h0=>by
  obtain⟨b,c,rfl,h1,h2⟩:=h.rd h0
  exact⟨b,c,rfl,aT4 h1 hb.sz,fun k hk=>(hb.cells.1 _ _ h1).trans (h2 k hk)⟩⟩
theorem Sl.nil (w:World)(sz:Nat):Sl w none 0 0 sz []:=⟨by simp,aT5 _,aTd _,fun h=>absurd h (by omega)⟩
theorem Sl.bd {w:World}{p:OA}{n a sz:Nat}{cs:List Value}(h:Sl w p n a sz cs):n≤9223372036854775807:=by have:=h.le;have:=h.mx;unfold maxLen at this;omega
theorem Sl.own {w:World}{base n a sz:Nat}{e:TypeId}{p:OA}{xs:List Value}(h:w.ownsRow base e sz (.slice p n a) n xs):Sl w p n a sz xs:=by
 rcases h.2 with⟨h1,h2⟩|⟨g,cap',cur,h1,hb,hg,hn,hm,hs,ht⟩
 ·injection h1 with e1 e2 e3;subst e1 e2 e3;have:=h.1;exact⟨this,aT5 _,aTd _,fun h=>absurd h (by omega)⟩
 injection h1 with e1 e2 e3;subst e1 e3;exact⟨h.1,hn,hm,fun h0=>⟨g,0,rfl,(aUg.1 hg).1,fun k hk=>by rw[aUf];exact h.cellAt k hk⟩⟩
theorem Sl.at_ {α:Type}{w:World}{p:OA}{n d sz:Nat}{f:α→List Value}{xs:List α}(hf: ∀a,(f a).length=sz)(h:Sl w p n d sz (xs.flatMap f)){k:Nat}(hk:k<n)(hs:0<sz):
  ∃b off x,p=some ⟨b,off,none⟩∧xs[k]? =some x∧b<w.heap.size∧ ∀j,j<sz→w.cell? ⟨b,off+(k*sz+j),none⟩=(f x)[j]? :=by
 obtain⟨b,off,rfl,hb,hc⟩:=h.rd (by omega);have hl:xs.length=n:=by have:=h.len;rw[dD f sz hf]at this;exact Nat.eq_of_mul_eq_mul_right hs this
 have c:k<xs.length:=by rw[hl];exact hk
 have hx:xs[k]? =some (xs[k]'c):=aT6 c;refine⟨b,off,_,rfl,hx,hb,fun j hj=> ?_⟩;have e:k*sz+j<n*sz:=by have:=aUw sz hk;rw[aVc]at this;omega
 rw[hc _ e];exact eP f sz hf _ _ _ hx j hj
abbrev iv (x:Int):Value:= .int .i64 x
abbrev ivs (xs:List Int):List Value:=xs.map iv
theorem zB (xs:List Int):xs.flatMap (fun x=> [iv x])=ivs xs:=by induction xs with|nil=>rfl|cons x xs ih=>simp_all
theorem Sl.int_at {w:World}{p:OA}{n a:Nat}{xs:List Int}(h:Sl w p n a 1 (ivs xs)){k:Nat}(hk:k<n):
  ∃b off x,p=some ⟨b,off,none⟩∧xs[k]? =some x∧b<w.heap.size∧w.cell? ⟨b,off+k,none⟩=some (iv x):=by
 rw[←zB]at h;obtain⟨b,off,x,hp,hx,hb,hc⟩:=Sl.at_ (sz:=1) (f:=fun x=> [iv x]) (fun _=>rfl) h hk Nat.one_pos;exact⟨b,off,x,hp,hx,hb,by simpa using hc 0 (by omega)⟩
theorem Sl.ilen {w:World}{p:OA}{n a:Nat}{xs:List Int}(h:Sl w p n a 1 (ivs xs)):xs.length=n:=by simpa using h.len
theorem rU {α:Type}{xs:List α}{k:Nat}{x:α}(h:xs[k]? =some x):xs.drop k=x::xs.drop (k+1):=by obtain⟨hk,rfl⟩:=aT9.1 h;exact List.drop_eq_getElem_cons hk
theorem bA {α:Type}{xs:List α}{k:Nat}{x:α}(h:xs[k]? =some x):xs.take (k+1)=xs.take k++ [x]:=by obtain⟨hk,rfl⟩:=aT9.1 h;rw[List.take_succ_eq_append_getElem hk]
theorem aHp {w:World}{p:OA}{n a sz m:Nat}{cs:List Value}(h:Sl w p n a sz cs)(hm:m≤n):Sl w p m a sz (cs.take (m*sz)):=by have hl:=h.len;have d:m*sz≤n*sz:=aUw _ hm;refine⟨by rw[aTt];omega,aTg hm h.le,h.mx,fun h0=> ?_⟩;obtain⟨b,c,rfl,hb,hc⟩:=h.rd (by omega);exact⟨b,c,rfl,hb,fun k hk=>by rw[hc k (by omega),List.getElem?_take,if_pos hk]⟩
theorem aQh {w:World}{p:OA}{n a m:Nat}{xs:List Int}(h:Sl w p n a 1 (ivs xs))(hm:m≤n):Sl w p m a 1 (ivs (xs.take m)):=by have:=aHp h hm;rwa[Nat.mul_one,←List.map_take]at this
section
variable {H:Type} {enc:TypeId×Value→H} {w:World} {base:Nat} {spare:Nat→Bool} {held:Bool} {b0:Nat} {r:Reach} {v:Value} {d:DataW H} {p:List MemPlace}
theorem aOa {α:Type}[Inhabited α](f:α→List Value)(c:α→Prop)(sz:Nat){t e:TypeId}{o:Nat}{x:DataW H×List MemPlace}(ht:prog.underlying t=some (.slice e))(hc:prog.cellsOf e=sz)(hs:0<sz)(hf: ∀a,(f a).length=sz)
  (r: ∀n cs y,DataW.trod enc prog w base spare held n e cs=some y→ ∃a,cs=f a∧c a)
  (h:DataW.trod enc prog w base spare held o t [v]=some x):
  ∃(xs:List α) (p:OA) (cap:Nat),v= .slice p xs cap∧Sl w p xs.length cap sz (xs.flatMap f)∧ ∀a∈xs,c a:=by
 rcases open_slice ht h with⟨hcs,hx⟩|⟨a,len,cap,m,n,D,Pl,hcs,hb,hl,hm,hmm,hx,hel⟩
 ·simp at hcs;subst hcs;exact⟨[],none,0,rfl,Sl.nil _ _,by simp⟩
 simp at hcs;subst hcs;by_cases h0:len=0
 ·subst h0;exact⟨[],some a,cap,rfl,⟨by simp,hl,hm,fun h=>absurd h (by simp)⟩,by simp⟩
 have ag:len≤m:=by rw[hmm];split<;>omega
 have ab: ∀i,i<len→ ∃x:α,w.cells? base (a.add (i*sz)) sz=some (f x)∧c x:=by intro i hi;obtain⟨af,h1,h2⟩:=hel i (by omega);obtain⟨x,rfl,hg⟩:=r _ _ _ h2;exact⟨x,by rw[←hc];exact h1,hg⟩
 obtain⟨V,hV⟩:=choose_lt (α:=α) (p:=fun i x=>w.cells? base (a.add (i*sz)) sz=some (f x)∧c x) ab;have d: ∀i,i<len→ ∀j,j<sz→w.cell? ((a.add (i*sz)).add j)=(f (V i))[j]? :=by intro i hi j hj;exact(World.cells?_some (hV i hi).1).2.2 j hj
 obtain⟨b,z,aa⟩:=a;have hz: ∃u,(f (V 0))[0]? =some u:=⟨_,aT6 (by rw[hf];exact hs)⟩
 obtain⟨u,hu⟩:=hz;have q:=(d 0 (by omega) 0 hs).trans hu;have g:aa=none:=by simpa[Addr.add]using World.cell?_spot q
 subst g;have ad:b<w:=by simpa[Addr.add]using World.block_lt_of_cell? w _ q
 have l:((List.range len).map V).length=len:=by simp
 refine⟨(List.range len).map V,some ⟨b,z,none⟩,cap,by rw[l],?_,?_⟩
 ·rw[l];refine⟨by rw[dD f sz hf,l],hl,hm,fun _=>⟨b,z,rfl,ad,fun k hk=> ?_⟩⟩;have hi:k/sz<len:=Nat.div_lt_of_lt_mul (by rw[Nat.mul_comm];exact hk);have hj:k%sz<sz:=Nat.mod_lt _ hs;have s:k=k/sz*sz+k%sz:=by rw[Nat.mul_comm];exact(aVb k sz).symm
  have ae:((List.range len).map V)[k/sz]? =some (V (k/sz)):=by simp[hi]
  have h1:=eP f sz hf _ _ _ ae (k%sz) hj;rw[←s]at h1;rw[h1,←d _ hi _ hj];rw[lT,lT,Nat.add_assoc,←s]
 intro x hx;obtain⟨i,hi,rfl⟩:=List.mem_map.1 hx;exact(hV i (by simpa using hi)).2
end
end
section
def Blk (w:World)(g:Nat)(t:TypeId)(cs:Array Value):Prop:=w.heap[g]? =some (.cells cs t (0,0))
section
variable {w w':World} {g:Nat} {t:TypeId} {cs:Array Value}
theorem Blk.lt (h:Blk w g t cs):g<w.heap.size:=(aUg.1 h).1
theorem Blk.cell (h:Blk w g t cs)(i:Nat):w.cell? ⟨g,i,none⟩=cs[i]? :=cell_of_row w g i cs t (0,0) h
theorem Blk.frozen (h:Blk w g t cs)(i:Nat):w.frozen? ⟨g,i,none⟩=false:=by unfold Blk at h;simp[World.frozen?,h]
theorem Blk.new (w:World)(t:TypeId)(cs:Array Value):Blk (w.alloc (.cells cs t)) w t cs:=heap_alloc_new w _
theorem Blk.set (h:Blk w g t cs)(i:Nat)(u:Value):Blk (w.setCell ⟨g,i,none⟩ u) g t (cs.setIfInBounds i u):=by unfold Blk at h⊢;simp[World.setCell,Array.getElem?_modify,h]
theorem Blk.far (h:Blk w g t cs){p:Addr}(hp:g≠p.block)(u:Value):Blk (w.setCell p u) g t cs:=(aVl w p u g hp).trans h
theorem Blk.ext (h:Blk w g t cs)(hb:Ext w w'):Blk w' g t cs:=(hb.block g h.lt).trans h
theorem Blk.alloc (h:Blk w g t cs)(o:Obj):Blk (w.alloc o) g t cs:=h.ext ((Ext.refl w).alloc o)
theorem Blk.grown {row:Option Nat}(h:Blk w g t cs)(hb:w.grownBy w' row)(hg:some g≠row):Blk w' g t cs:=(hb.block g h.lt hg).trans h
end
theorem Sl.new (w:World)(cs:Array Value)(t:TypeId)(n:Nat)(h:cs.size=n)(hn:n≤maxLen):Sl (w.alloc (.cells cs t)) (some ⟨w,0,none⟩) n n 1 cs.toList:=
 ⟨by simpa using h,aT5 _,hn,fun _=>⟨w.heap.size,0,rfl,by simp,fun k hk=>by rw[aUf,(Blk.new w t cs).cell k];simp⟩⟩
def ExtR (R:Nat)(w w':World):Prop:=w.grownBy w' (some R)
theorem ExtR.refl (R:Nat)(w:World):ExtR R w w:=aUs _ _
theorem Ext.r {w w':World}(h:Ext w w')(R:Nat):ExtR R w w':=⟨h.os,h.tape,h.output,h.size,fun i hi _=>h.block i hi⟩
theorem ExtR.sz {R:Nat}{w w':World}(h:ExtR R w w'):w.heap.size≤w'.heap.size:=h.size
theorem ExtR.trans {R:Nat}{a b c:World}(h:ExtR R a b)(k:ExtR R b c):ExtR R a c:=
 ⟨k.os.trans h.os,k.tape.trans h.tape,k.output.trans h.output,aTg h.size k.size,fun i hi hne=>(k.block i (aT4 hi h.size) hne).trans (h.block i hi hne)⟩
theorem ExtR.ext {R:Nat}{a b c:World}(h:ExtR R a b)(k:Ext b c):ExtR R a c:=h.trans (k.r R)
theorem ExtR.alloc {R:Nat}{a b:World}(h:ExtR R a b)(o:Obj):ExtR R a (b.alloc o):=h.ext ((Ext.refl b).alloc o)
theorem ExtR.drew {R:Nat}{a b:World}(h:ExtR R a b):ExtR R a b.drew:=h.ext (Ext.drew (Ext.refl b))
theorem ExtR.drewN {R:Nat}{a b:World}(h:ExtR R a b)(n:Nat):ExtR R a (b.drewN n):=h.ext (Ext.drewN (Ext.refl b) n)
theorem ExtR.setCell {R:Nat}{a b:World}(h:ExtR R a b){p:Addr}(hp:p.block=R∨a.heap.size≤p.block)(u:Value):ExtR R a (b.setCell p u):=
 ⟨h.os,h.tape,h.output,by simpa[World.setCell]using h.size,fun i hi hne=>(aVl b p u i (by
  rintro rfl;rcases hp with hp|hp
  ·exact hne (by rw[hp])
  ·omega)).trans (h.block i hi hne)⟩
theorem ExtR.new {R:Nat}{a b c:World}(h:Ext a b)(k:ExtR R b c)(hR:a.heap.size≤R):Ext a c:=
 h.grown k (fun i hi=>by simp at hi;omega)
theorem ExtR.grown {R:Nat}{a b c:World}{row:Option Nat}(h:ExtR R a b)(hg:b.grownBy c row)(hr: ∀k,row=some k→a.heap.size≤k∨k=R):ExtR R a c:=
 ⟨hg.os.trans h.os,hg.tape.trans h.tape,hg.output.trans h.output,aTg h.size hg.size,fun i hi hne=>(hg.block i (aT4 hi h.size) (fun e=>by
  rcases hr i e.symm with h|h
  ·omega
  ·exact hne (by rw[h]))).trans (h.block i hi hne)⟩
theorem ExtR.cell {R:Nat}{w w':World}(h:ExtR R w w'){b:Nat}(o:Nat)(hb:b<w.heap.size)(a:b≠R):w'.cell? ⟨b,o,none⟩=w.cell? ⟨b,o,none⟩:=
 World.cell?_of_block (h.block b hb (fun e=>a (by injection e)))
theorem ExtR.own {R base sz n:Nat}{e:TypeId}{w w':World}{v:Value}{xs:List Value}(h:ExtR R w w')(ho:w.ownsRow base e sz v n xs)(hb:R<base):w'.ownsRow base e sz v n xs:=
 ho.kept h (.inr (fun hh=>by have:=ho.lt R hh;omega))
theorem ExtR.sl {R n a sz b0:Nat}{w w':World}{p:OA}{cs:List Value}(h:ExtR R w w')(hs:Sl w p n a sz cs)(hp:0<n→ ∀b off,p=some ⟨b,off,none⟩→b≠R):Sl w' p n a sz cs:=
 ⟨hs.len,hs.le,hs.mx,fun h0=>by
  obtain⟨b,off,rfl,h1,h2⟩:=hs.rd h0
  exact⟨b,off,rfl,aT4 h1 h.sz,fun k hk=>(h.cell _ h1 (hp h0 b off rfl)).trans (h2 k hk)⟩⟩
theorem Blk.tri {w:World}{g:Nat}{t:TypeId}{a0 a1 a2:Value}(h:Blk w g t #[a0,a1,a2]):w.cell? ⟨g,0,none⟩=some a0∧w.cell? ⟨g,1,none⟩=some a1∧w.cell? ⟨g,2,none⟩=some a2:=
 ⟨h.cell 0,h.cell 1,h.cell 2⟩
theorem Blk.trif {w:World}{g:Nat}{t:TypeId}{a0 a1 a2:Value}(h:Blk w g t #[a0,a1,a2]):w.cell? ⟨g,0,none⟩=some a0∧w.frozen? ⟨g,0,none⟩=false∧w.cell? ⟨g,1,none⟩=some a1∧w.frozen? ⟨g,1,none⟩=false∧w.cell? ⟨g,2,none⟩=some a2∧w.frozen? ⟨g,2,none⟩=false:=
 ⟨h.cell 0,h.frozen 0,h.cell 1,h.frozen 1,h.cell 2,h.frozen 2⟩
theorem Blk.ten {w:World}{g:Nat}{t:TypeId}{a0 a1 a2 a3 a4 a5 a6 a7 a8 a9:Value}(h:Blk w g t #[a0,a1,a2,a3,a4,a5,a6,a7,a8,a9]):w.cell? ⟨g,0,none⟩=some a0∧w.cell? ⟨g,1,none⟩=some a1∧w.cell? ⟨g,2,none⟩=some a2∧w.cell? ⟨g,3,none⟩=some a3∧w.cell? ⟨g,4,none⟩=some a4∧w.cell? ⟨g,5,none⟩=some a5∧w.cell? ⟨g,6,none⟩=some a6∧w.cell? ⟨g,7,none⟩=some a7∧w.cell? ⟨g,8,none⟩=some a8∧w.cell? ⟨g,9,none⟩=some a9:=
 ⟨h.cell 0,h.cell 1,h.cell 2,h.cell 3,h.cell 4,h.cell 5,h.cell 6,h.cell 7,h.cell 8,h.cell 9⟩
theorem Blk.tenf {w:World}{g:Nat}{t:TypeId}{a0 a1 a2 a3 a4 a5 a6 a7 a8 a9:Value}(h:Blk w g t #[a0,a1,a2,a3,a4,a5,a6,a7,a8,a9]):w.cell? ⟨g,0,none⟩=some a0∧w.frozen? ⟨g,0,none⟩=false∧w.cell? ⟨g,1,none⟩=some a1∧w.frozen? ⟨g,1,none⟩=false∧w.cell? ⟨g,2,none⟩=some a2∧w.frozen? ⟨g,2,none⟩=false∧w.cell? ⟨g,3,none⟩=some a3∧w.frozen? ⟨g,3,none⟩=false∧w.cell? ⟨g,4,none⟩=some a4∧w.frozen? ⟨g,4,none⟩=false∧w.cell? ⟨g,5,none⟩=some a5∧w.frozen? ⟨g,5,none⟩=false∧w.cell? ⟨g,6,none⟩=some a6∧w.frozen? ⟨g,6,none⟩=false∧w.cell? ⟨g,7,none⟩=some a7∧w.frozen? ⟨g,7,none⟩=false∧w.cell? ⟨g,8,none⟩=some a8∧w.frozen? ⟨g,8,none⟩=false∧w.cell? ⟨g,9,none⟩=some a9∧w.frozen? ⟨g,9,none⟩=false:=
 ⟨h.cell 0,h.frozen 0,h.cell 1,h.frozen 1,h.cell 2,h.frozen 2,h.cell 3,h.frozen 3,h.cell 4,h.frozen 4,h.cell 5,h.frozen 5,h.cell 6,h.frozen 6,h.cell 7,h.frozen 7,h.cell 8,h.frozen 8,h.cell 9,h.frozen 9⟩
theorem Blk.putr {R:Nat}{w5 w9:World}{t:TypeId}{a0 a1 a2 a3 a4 a5 a6 a7 a8 a9 b0 b1 b2 b3 b4 b5 b6 b7 b8 b9:Value}(H:Blk w5 R t #[a0,a1,a2,a3,a4,a5,a6,a7,a8,a9])(h9:((((((((((w5.setCell ⟨R,0,none⟩ b0).setCell ⟨R,1,none⟩ b1).setCell ⟨R,2,none⟩ b2).setCell ⟨R,3,none⟩ b3).setCell ⟨R,4,none⟩ b4).setCell ⟨R,5,none⟩ b5).setCell ⟨R,6,none⟩ b6).setCell ⟨R,7,none⟩ b7).setCell ⟨R,8,none⟩ b8).setCell ⟨R,9,none⟩ b9)=w9):Blk w9 R t #[b0,b1,b2,b3,b4,b5,b6,b7,b8,b9]∧ExtR R w5 w9:=by
 subst h9;have hR:=(((((((((((ExtR.refl _ w5).setCell (p:=⟨R,0,none⟩) (.inl rfl) b0).setCell (p:=⟨R,1,none⟩) (.inl rfl) b1).setCell (p:=⟨R,2,none⟩) (.inl rfl) b2).setCell (p:=⟨R,3,none⟩) (.inl rfl) b3).setCell (p:=⟨R,4,none⟩) (.inl rfl) b4).setCell (p:=⟨R,5,none⟩) (.inl rfl) b5).setCell (p:=⟨R,6,none⟩) (.inl rfl) b6).setCell (p:=⟨R,7,none⟩) (.inl rfl) b7).setCell (p:=⟨R,8,none⟩) (.inl rfl) b8).setCell (p:=⟨R,9,none⟩) (.inl rfl) b9)
 have Y:=((((((((((H.set 0 b0).set 1 b1).set 2 b2).set 3 b3).set 4 b4).set 5 b5).set 6 b6).set 7 b7).set 8 b8).set 9 b9)
 simp only[aTm,aTk,aTj]at Y;exact⟨Y,hR⟩
theorem xR {R:Nat}{w v:World}(h:ExtR R w v:=by(repeat' (first|exact ExtR.refl _ _|(with_reducible assumption)|(with_reducible refine ExtR.alloc ?_ _)|(with_reducible refine ExtR.setCell ?_ (.inr (by first|exact Nat.le_refl _|(dsimp only;omega)|(simp;done)|(simp;omega))) _)|(with_reducible refine ExtR.drew ?_)|(with_reducible refine ExtR.drewN ?_ _)|(refine ExtR.trans ?_ (by with_reducible assumption))|(refine ExtR.ext ?_ (by with_reducible assumption))))):ExtR R w v:=h
def nthL {α:Type}:List α→Nat→Option α
 | [],_=>none
 |a::_,0=>some a
 |_::l,n+1=>nthL l n
theorem nthL_eq {α:Type}: ∀(l:List α) (k:Nat),nthL l k=l[k]?
 | [],_=>by simp[nthL]
 |_::_,0=>by simp[nthL]
 |_::l,n+1=>by simp[nthL,nthL_eq l n]
theorem Blk.cl {w:World}{g:Nat}{t:TypeId}{l:List Value}(h:Blk w g t l.toArray)(k:Nat){v:Value}(hv:nthL l k=Option.some v:=by exact rfl):w.cell? ⟨g,k,none⟩=Option.some v:=by rw[h.cell k,←hv,nthL_eq];simp
end
end Go.Proofs.YthfmmibomhhmpaaGreatDoor
