/-
  Texts of this proof, packed (@packed).
-/
import Derived.Below
import Derived.BigQuiet
import Derived.ChangeArms
import Derived.Deep.DeepCutAuto
import Derived.Deep.DeepFit
import Derived.Deep.Draws
import Derived.Deep.QuietTactic
import Derived.Deep.RegionHeld3
import Derived.Deep.RegionWith
import Derived.Deep.Slices
import Derived.Deep.Strs
import Derived.Handy
import Derived.IntWalk
import Derived.Laws.AppendOwn
import Derived.Laws.OwnMore
import Derived.Laws.Rows
import Derived.Lib.Hide
import Derived.Lib.SmallJoins
import Derived.OpenShut
import Derived.OwnWalk
import Derived.ProofKit
import Derived.ShutString
import Derived.Test.YtbgkcehffiogcacGreatDoorRows
import Derived.WalkKit
import Derived.WalkSmall
import Derived.WalkSpells
namespace Go.Proofs.YtbgkcehffiogcacGreatDoor
set_option linter.unusedSimpArgs false
set_option linter.unusedVariables false
set_option maxRecDepth 100000
section
open Go.RowKit
def Ext (w w':World):Prop:=Below w.heap.size w w'
theorem Ext.refl (w:World):Ext w w:=Below.refl _ _
theorem Ext.trans {a b c:World}(h:Ext a b)(k:Ext b c):Ext a c:=Below.trans h (Below.mono k h.size)
theorem Ext.alloc {a b:World}(h:Ext a b)(o:Obj):Ext a (b.alloc o):=Below.alloc h h.size o
theorem Ext.drew {a b:World}(h:Ext a b):Ext a b.drew:=Below.drew h
theorem Ext.drewN {a b:World}(h:Ext a b)(n:Nat):Ext a (b.drewN n):=below_drewN h n
theorem Ext.of_drew {a b:World}(h:Ext a.drew b):Ext a b:=⟨h.os,h.tape,h.output,h.size,h.block⟩
theorem Ext.setCell {a b:World}(h:Ext a b){p:Addr}(hp:a.heap.size≤p.block)(u:Value):Ext a (b.setCell p u):=Below.setCell h hp u
theorem Ext.grown {a b c:World}{row:Option Nat}(h:Ext a b)(hg:b.grownBy c row)(hr: ∀k,row=some k→a.heap.size≤k):Ext a c:=Below.grown h hg h.size hr
theorem Ext.cells {W w1:World}(hb:Ext W w1):(∀b o,b<W.heap.size→w1.cell? ⟨b,o,none⟩=W.cell? ⟨b,o,none⟩)∧(∀b o,b<W.heap.size→w1.frozen? ⟨b,o,none⟩=W.frozen? ⟨b,o,none⟩):=
 ⟨fun b o h=>Below.cell hb (p:=⟨b,o,none⟩) h,fun b o h=>Below.frozen hb (p:=⟨b,o,none⟩) h⟩
theorem Ext.sz {W w1:World}(hb:Ext W w1):W.heap.size≤w1.heap.size:=hb.size
def Rd (w:World)(v:Value)(n sz:Nat)(cs:List Value):Prop:=
 cs.length=n*sz∧((v= .slice none 0 0∧n=0)∨
  ∃b off cap,v= .slice (some ⟨b,off,none⟩) n cap∧n≤cap∧cap≤maxLen∧b<w.heap.size∧ ∀k,k<n*sz→w.cell? ⟨b,off+k,none⟩=cs[k]?)
theorem Rd.nil (w:World)(sz:Nat):Rd w (.slice none 0 0) 0 sz []:=⟨by simp,.inl ⟨rfl,rfl⟩⟩
theorem Rd.ext {w w':World}{v:Value}{n sz:Nat}{cs:List Value}(h:Rd w v n sz cs)(hb:Ext w w'):Rd w' v n sz cs:=by
 refine⟨h.1,?_⟩;rcases h.2 with h|⟨b,a,c,rfl,h1,h2,h3,h4⟩
 ·exact .inl h
 refine .inr ⟨b,a,c,rfl,h1,h2,Nat.lt_of_lt_of_le h3 hb.size,fun k hk=> ?_⟩;rw[Below.cell hb (p:=⟨b,a+k,none⟩) h3];exact h4 k hk
def Own (w:World)(base:Nat)(e:TypeId)(sz:Nat)(v:Value)(n:Nat)(xs:List Value):Prop:=
 w.ownsRow base e sz v n xs∨(n=0∧xs= []∧ ∃b off,v= .slice (some ⟨b,off,none⟩) 0 0∧b<w.heap.size)
theorem Own.len {w:World}{base:Nat}{e:TypeId}{sz:Nat}{v:Value}{n:Nat}{xs:List Value}(h:Own w base e sz v n xs):xs.length=n*sz:=by
 rcases h with h|⟨rfl,rfl,_⟩
 ·exact h.1
 simp
theorem Own.rd {w:World}{base:Nat}{e:TypeId}{sz:Nat}{v:Value}{n:Nat}{xs:List Value}(h:Own w base e sz v n xs):Rd w v n sz xs:=by
 refine⟨h.len,?_⟩;rcases h with h|⟨rfl,rfl,b,c,rfl,hb⟩
 ·rcases h.2 with h2|⟨g,a,d,rfl,hb,hg,hn,hm,hs,ht⟩
  ·exact .inl h2
  refine .inr ⟨g,0,a,rfl,hn,hm,(Array.getElem?_eq_some_iff.1 hg).1,fun k hk=> ?_⟩;rw[Nat.zero_add];exact h.cellAt k hk
 exact .inr ⟨b,c,0,rfl,Nat.le_refl _,by simp[maxLen],hb,fun k hk=>by simp at hk⟩
theorem dO {k:IntKind}{a b:Int}(h:a=b):Ending.returned (.int k a)= .returned (.int k b):=by rw[h]
theorem aQ {a b:Bool}(h:a=b):Ending.returned (.bool a)= .returned (.bool b):=by rw[h]
theorem xQ {p:Prop}(h:p):Hid p:=h
theorem xE {w v:World}(h:Ext w v:=by(repeat' (first|exact Ext.refl _|(with_reducible assumption)|(with_reducible refine Ext.alloc ?_ _)|(with_reducible refine Ext.setCell ?_ (by first|exact Nat.le_refl _|(dsimp only;omega)|(simp;done)|(simp;omega)) _)|(with_reducible refine Ext.drew ?_)|(with_reducible refine Ext.drewN ?_ _)|(refine Ext.trans ?_ (by with_reducible assumption))))):Ext w v:=h
instance hidFun {p:Prop}:CoeFun (Hid p) (fun _=>p):=⟨fun h=>h.out⟩
instance : Coe Int Value := ⟨fun x => .int .i64 x⟩
instance : Coe Nat Value := ⟨fun x => .int .i64 (x : Int)⟩
instance : Coe Unit Value := ⟨fun _ => .int .i64 0⟩
instance : Coe (Unit × Unit) Value := ⟨fun _ => .slice none 0 0⟩
abbrev xC (f : FuncId) (s : Array Value) (w : World) (Q : World → Ending → World → Prop) : Prop := Hid (∀ w', Ext w w' → Calls Tryz.prog f s w' (Q w'))
abbrev xB (f : FuncId) (s : Array Value) (w : World) (b : Bool) : Prop := Hid (∀ w', Ext w w' → Calls Tryz.prog f s w' fun e w'' => e = .returned (.bool b) ∧ Ext w' w'')
abbrev OA : Type := Option Addr
abbrev zT:Array Value:=#[.int .i64 0,.int .i64 0,.slice none 0 0,.int .i64 0,.int .i64 0,.int .i64 0,.int .i64 0,.int .i64 0,.int .i64 0,.slice none 0 0]
structure m3I where
structure m3U where
instance:CoeFun m3I (fun _=>Int→Value):=⟨fun _=>Value.int .i64⟩
instance:CoeFun m3U (fun _=>FuncId→Array Value→World→(Ending→World→Prop)→Prop):=⟨fun _=>Calls Tryz.prog⟩
instance:Coe World Nat:=⟨fun w=>w.heap.size⟩
instance m3N{α:Type}:CoeOut (List α) Nat:=⟨List.length⟩
def I:m3I:=⟨⟩
def U:m3U:=⟨⟩
abbrev aQm:=@Nat.lt_of_lt_of_le
abbrev aQn:=@Nat.le_refl
abbrev aQo:=@List.getElem?_eq_getElem
abbrev aQp:=@IntWalk.i64_in
abbrev aQq:=@List.mem_of_getElem?
abbrev aQr:=@List.getElem?_eq_some_iff
abbrev aQs:=@List.getD_eq_getElem?_getD
abbrev aQt:=@Nat.zero_le
abbrev aQu:=@List.take_of_length_le
abbrev aQv:=@Bool.and_eq_true
abbrev aQw:=@List.length_append
abbrev aQx:=@Nat.pow_le_pow_right
abbrev aQy:=@Nat.le_trans
abbrev aQz:=@List.set_cons_zero
abbrev aR0:=@List.set_cons_succ
abbrev aR1:=@List.setIfInBounds_toArray
abbrev aR2:=@List.getElem?_append_right
abbrev aR3:=@List.mem_range
abbrev aR4:=@List.getElem?_append_left
abbrev aR5:=@List.mem_cons
abbrev aR6:=@List.getElem?_map
abbrev aR7:=@List.mem_append
abbrev aR8:=@List.eq_nil_of_length_eq_zero
abbrev aR9:=@World.ownsRow_nil
abbrev aRa:=@List.getElem?_set_self
abbrev aRb:=@List.length_map
abbrev aRc:=@List.length_take
abbrev aRd:=@List.mem_singleton
abbrev aRe:=@List.append_assoc
abbrev aRf:=@List.mem_filter
abbrev aRg:=@Nat.mul_le_mul_right
abbrev aRh:=@List.flatMap_append
abbrev aRi:=@List.append_nil
abbrev aRj:=@List.filter_append
abbrev aRk:=@Option.map_some
abbrev aRl:=@List.flatMap_cons
abbrev aRm:=@List.length_cons
abbrev aRn:=@List.all_eq_true
abbrev aRo:=@List.mem_append_left
abbrev aRp:=@List.map_append
abbrev aRq:=@Nat.zero_add
abbrev aRr:=@List.length_filter_le
abbrev aRs:=@List.getElem?_eq_none
abbrev aRt:=@World.grownBy.refl
abbrev aRu:=@World.ownsRow_made
abbrev aRv:=@Joins.ownsRow_form
abbrev aRw:=@Prod.mk.injEq
abbrev aRx:=@Array.getElem?_eq_some_iff
abbrev aRy:=@List.mem_or_eq_of_mem_set
abbrev aRz:=@Nat.succ_mul
abbrev aS0:=@World.cell?_alloc_past
abbrev aS1:=@Joins.unfrozen_of_block
abbrev aS2:=@List.getElem_of_mem
abbrev aS3:=@List.mem_of_find?_eq_some
abbrev aS4:=@List.drop_eq_nil_of_le
abbrev aS5:=@List.set_append_right
abbrev aS6:=@List.nil_append
abbrev aS7:=@List.range_succ
abbrev aS8:=@List.length_set
abbrev aS9:=@List.take_length
abbrev aSa:=@List.length_drop
abbrev aSb:=@Option.some.injEq
abbrev aSc:=@List.mem_of_mem_take
abbrev aSd:=@List.cons_append
abbrev aSe:=@List.replicate_succ
abbrev aSf:=@Joins.cell_of_block
abbrev aSg:=@Nat.sub_self
abbrev aSh:=@Int.eq_ofNat_of_zero_le
abbrev aSi:=@List.getElem?_replicate
abbrev aSj:=@List.getElem?_set_ne
abbrev aSk:=@List.map_cons
abbrev aSl:=@World.ownsRow.lt
abbrev aSm:=@Nat.testBit_zero
abbrev aSn:=@Nat.lt_trans
abbrev aSo:=@Int.toNat_natCast
abbrev aSp:=@List.take_append_of_le_length
abbrev aSq:=@List.set_set
abbrev aSr:=@List.filter_cons_of_pos
abbrev aSs:=@List.filter_cons_of_neg
abbrev aSt:=@List.getElem?_cons_succ
abbrev aSu:=@World.frozen?_of_block
abbrev aSv:=@List.take_succ_cons
abbrev aSw:=@List.drop_succ_cons
abbrev aSx:=@Nat.testBit_succ
abbrev aSy:=@List.getElem?_cons_zero
abbrev aSz:=@Nat.div_add_mod
abbrev aT0:=@Below.heap_setCell
abbrev aT1:=@Nat.add_sub_cancel
abbrev aT2:=@IntWalk.i64_quo
abbrev aT3:=@Nat.two_pow_pos
abbrev aT4:=@Nat.eq_of_testBit_eq
abbrev aT5:=@Nat.testBit_two_pow
abbrev aT6:=@Nat.le_of_eq
abbrev aT7:=@World.size_alloc
abbrev aT8:=@Joins.block_setCell
abbrev aT9:=@Below.heap_alloc
abbrev O(v:Value)(w:World)(e:Ending)(w1:World):Prop:=e= .returned v∧Ext w w1
theorem Z {P:Program}{f:FuncId}{s:Array Value}{w:World}{v:Value}{R:World→Prop}{K:Ending→World→Prop}(H:Calls P f s w fun e w1=>e= .returned v∧R w1)(k: ∀w1,R w1→K (.returned v) w1):Calls P f s w K:=H.mono (by rintro e w1 ⟨rfl,h⟩;exact k w1 h)
end
section
open Go.ChangeShapes Go.WideShapes Go.ChangeAt Go.RowKit Go.Deep Go.Proofs.Tryz
theorem eK {α:Type}(f:α→List Value)(sz:Nat)(hf: ∀a,(f a).length=sz): ∀(xs:List α) (k:Nat) (a:α),xs[k]? =some a→ ∀j,j<sz→(xs.flatMap f)[k*sz+j]? =(f a)[j]? :=by
 intro xs;induction xs with
 |nil=>intro k a h;simp at h
 |cons x xs ih=>
  intro k a h j hj;rw[aRl];cases k with
  |zero=>simp at h;subst h;rw[Nat.zero_mul,aRq,aR4 (by rw[hf];exact hj)]
  |succ k=>rw[aR2 (by rw[hf,aRz];omega),hf];have:=ih k a (by simpa using h) j hj;rw[←this];congr 1;rw[aRz];omega
theorem cQ {α:Type}(f:α→List Value)(sz:Nat)(hf: ∀a,(f a).length=sz)(xs:List α):(xs.flatMap f).length=xs.length*sz:=by
 induction xs with
 |nil=>simp
 |cons x xs ih=>rw[aRl,aQw,hf,ih,aRm,aRz];omega
theorem lW (b o n:Nat):(⟨b,o,none⟩:Addr).add n=⟨b,o+n,none⟩:=by unfold Addr.add;split<;>simp_all
def B64 (x:Int):Prop:= -9223372036854775808≤x∧x≤9223372036854775807
theorem aNt {x:Int}(h:(Lit.int .i64 x).wf=true):B64 x:=bounds_i64 h
section
variable {H:Type} {enc:TypeId×Value→H} {w:World} {base:Nat} {spare:Nat→Bool} {held:Bool} {b0:Nat} {r:Reach} {v:Value} {d:DataW H} {p:List MemPlace}
theorem fY {n:Nat}{c:Value}{y:DataW H×List MemPlace}(h:DataW.trod enc prog w base spare held n 3 [c]=some y): ∃x:Int,c=I x∧B64 x:=by obtain⟨x,e,_,hx⟩:=DataW.trod_int underlying3 h;exact⟨x,by simpa using e,aNt hx⟩
end
end
section
open Go.ChangeShapes Go.WideShapes Go.ChangeAt Go.RowKit Go.Deep Go.Proofs.Tryz
structure Sl (w:World) (p:OA) (n cap sz:Nat) (cs:List Value):Prop where
 len:cs.length=n*sz
 le:n≤cap
 mx:cap≤maxLen
 rd:0<n→ ∃b off,p=some ⟨b,off,none⟩∧b<w.heap.size∧ ∀k,k<n*sz→w.cell? ⟨b,off+k,none⟩=cs[k]?
theorem Sl.ext {w w':World}{p:OA}{n cap sz:Nat}{cs:List Value}(h:Sl w p n cap sz cs)(hb:Ext w w'):Sl w' p n cap sz cs:=
 ⟨h.len,h.le,h.mx,fun h0=>by
  obtain⟨b,a,rfl,h1,h2⟩:=h.rd h0
  exact⟨b,a,rfl,aQm h1 hb.sz,fun k hk=>(hb.cells.1 _ _ h1).trans (h2 k hk)⟩⟩
theorem Sl.nil (w:World)(sz:Nat):Sl w none 0 0 sz []:=⟨by simp,aQn _,aQt _,fun h=>absurd h (by omega)⟩
theorem Sl.bd {w:World}{p:OA}{n cap sz:Nat}{cs:List Value}(h:Sl w p n cap sz cs):n≤9223372036854775807:=by have:=h.le;have:=h.mx;unfold maxLen at this;omega
theorem Sl.own {w:World}{base n cap sz:Nat}{e:TypeId}{p:OA}{xs:List Value}(h:w.ownsRow base e sz (.slice p n cap) n xs):Sl w p n cap sz xs:=by
 rcases h.2 with⟨h1,h2⟩|⟨g,cap',cur,h1,hb,hg,hn,hm,hs,ht⟩
 ·injection h1 with e1 e2 e3;subst e1 e2 e3;have:=h.1;exact⟨this,aQn _,aQt _,fun h=>absurd h (by omega)⟩
 injection h1 with e1 e2 e3;subst e1 e3;exact⟨h.1,hn,hm,fun h0=>⟨g,0,rfl,(aRx.1 hg).1,fun k hk=>by rw[aRq];exact h.cellAt k hk⟩⟩
theorem Sl.at_ {α:Type}{w:World}{p:OA}{n cap sz:Nat}{f:α→List Value}{xs:List α}(hf: ∀a,(f a).length=sz)(h:Sl w p n cap sz (xs.flatMap f)){k:Nat}(hk:k<n)(hs:0<sz):
  ∃b off x,p=some ⟨b,off,none⟩∧xs[k]? =some x∧b<w.heap.size∧ ∀j,j<sz→w.cell? ⟨b,off+(k*sz+j),none⟩=(f x)[j]? :=by
 obtain⟨b,off,rfl,hb,hc⟩:=h.rd (by omega);have hl:xs.length=n:=by have:=h.len;rw[cQ f sz hf]at this;exact Nat.eq_of_mul_eq_mul_right hs this
 have c:k<xs.length:=by rw[hl];exact hk
 have hx:xs[k]? =some (xs[k]'c):=aQo c;refine⟨b,off,_,rfl,hx,hb,fun j hj=> ?_⟩;have d:k*sz+j<n*sz:=by have:=aRg sz hk;rw[aRz]at this;omega
 rw[hc _ d];exact eK f sz hf _ _ _ hx j hj
abbrev iv (x:Int):Value:= .int .i64 x
abbrev ivs (xs:List Int):List Value:=xs.map iv
theorem rW (xs:List Int):xs.flatMap (fun x=> [iv x])=ivs xs:=by induction xs with|nil=>rfl|cons x xs ih=>simp_all
theorem Sl.int_at {w:World}{p:OA}{n cap:Nat}{xs:List Int}(h:Sl w p n cap 1 (ivs xs)){k:Nat}(hk:k<n):
  ∃b off x,p=some ⟨b,off,none⟩∧xs[k]? =some x∧b<w.heap.size∧w.cell? ⟨b,off+k,none⟩=some (iv x):=by
 rw[←rW]at h;obtain⟨b,off,x,hp,hx,hb,hc⟩:=Sl.at_ (sz:=1) (f:=fun x=> [iv x]) (fun _=>rfl) h hk Nat.one_pos;exact⟨b,off,x,hp,hx,hb,by simpa using hc 0 (by omega)⟩
theorem Sl.ilen {w:World}{p:OA}{n cap:Nat}{xs:List Int}(h:Sl w p n cap 1 (ivs xs)):xs.length=n:=by simpa using h.len
theorem qC {α:Type}{xs:List α}{k:Nat}{x:α}(h:xs[k]? =some x):xs.drop k=x::xs.drop (k+1):=by obtain⟨hk,rfl⟩:=aQr.1 h;exact List.drop_eq_getElem_cons hk
theorem bC {α:Type}{xs:List α}{k:Nat}{x:α}(h:xs[k]? =some x):xs.take (k+1)=xs.take k++ [x]:=by obtain⟨hk,rfl⟩:=aQr.1 h;rw[List.take_succ_eq_append_getElem hk]
theorem aPe {w:World}{p:OA}{n cap sz m:Nat}{cs:List Value}(h:Sl w p n cap sz cs)(hm:m≤n):Sl w p m cap sz (cs.take (m*sz)):=by have hl:=h.len;have c:m*sz≤n*sz:=aRg _ hm;refine⟨by rw[aRc];omega,aQy hm h.le,h.mx,fun h0=> ?_⟩;obtain⟨b,a,rfl,hb,hc⟩:=h.rd (by omega);exact⟨b,a,rfl,hb,fun k hk=>by rw[hc k (by omega),List.getElem?_take,if_pos hk]⟩
theorem aO4 {w:World}{p:OA}{n cap m:Nat}{xs:List Int}(h:Sl w p n cap 1 (ivs xs))(hm:m≤n):Sl w p m cap 1 (ivs (xs.take m)):=by have:=aPe h hm;rwa[Nat.mul_one,←List.map_take]at this
section
variable {H:Type} {enc:TypeId×Value→H} {w:World} {base:Nat} {spare:Nat→Bool} {held:Bool} {b0:Nat} {r:Reach} {v:Value} {d:DataW H} {p:List MemPlace}
theorem aDc {α:Type}[Inhabited α](f:α→List Value)(c:α→Prop)(sz:Nat){t e:TypeId}{o:Nat}{x:DataW H×List MemPlace}(ht:prog.underlying t=some (.slice e))(hc:prog.cellsOf e=sz)(hs:0<sz)(hf: ∀a,(f a).length=sz)
  (r: ∀n cs y,DataW.trod enc prog w base spare held n e cs=some y→ ∃a,cs=f a∧c a)
  (h:DataW.trod enc prog w base spare held o t [v]=some x):
  ∃(xs:List α) (p:OA) (cap:Nat),v= .slice p xs cap∧Sl w p xs.length cap sz (xs.flatMap f)∧ ∀a∈xs,c a:=by
 rcases open_slice ht h with⟨hcs,hx⟩|⟨a,len,cap,m,n,D,Pl,hcs,hb,hl,hm,hmm,hx,hel⟩
 ·simp at hcs;subst hcs;exact⟨[],none,0,rfl,Sl.nil _ _,by simp⟩
 simp at hcs;subst hcs;by_cases h0:len=0
 ·subst h0;exact⟨[],some a,cap,rfl,⟨by simp,hl,hm,fun h=>absurd h (by simp)⟩,by simp⟩
 have ag:len≤m:=by rw[hmm];split<;>omega
 have ab: ∀i,i<len→ ∃x:α,w.cells? base (a.add (i*sz)) sz=some (f x)∧c x:=by intro i hi;obtain⟨af,h1,h2⟩:=hel i (by omega);obtain⟨x,rfl,hg⟩:=r _ _ _ h2;exact⟨x,by rw[←hc];exact h1,hg⟩
 obtain⟨V,hV⟩:=choose_lt (α:=α) (p:=fun i x=>w.cells? base (a.add (i*sz)) sz=some (f x)∧c x) ab;have d: ∀i,i<len→ ∀j,j<sz→w.cell? ((a.add (i*sz)).add j)=(f (V i))[j]? :=by intro i hi j hj;exact(World.cells?_some (hV i hi).1).2.2 j hj
 obtain⟨b,z,aa⟩:=a;have hz: ∃u,(f (V 0))[0]? =some u:=⟨_,aQo (by rw[hf];exact hs)⟩
 obtain⟨u,hu⟩:=hz;have q:=(d 0 (by omega) 0 hs).trans hu;have g:aa=none:=by simpa[Addr.add]using World.cell?_spot q
 subst g;have ad:b<w:=by simpa[Addr.add]using World.block_lt_of_cell? w _ q
 have l:((List.range len).map V).length=len:=by simp
 refine⟨(List.range len).map V,some ⟨b,z,none⟩,cap,by rw[l],?_,?_⟩
 ·rw[l];refine⟨by rw[cQ f sz hf,l],hl,hm,fun _=>⟨b,z,rfl,ad,fun k hk=> ?_⟩⟩;have hi:k/sz<len:=Nat.div_lt_of_lt_mul (by rw[Nat.mul_comm];exact hk);have hj:k%sz<sz:=Nat.mod_lt _ hs;have s:k=k/sz*sz+k%sz:=by rw[Nat.mul_comm];exact(aSz k sz).symm
  have ae:((List.range len).map V)[k/sz]? =some (V (k/sz)):=by simp[hi]
  have h1:=eK f sz hf _ _ _ ae (k%sz) hj;rw[←s]at h1;rw[h1,←d _ hi _ hj];rw[lW,lW,Nat.add_assoc,←s]
 intro x hx;obtain⟨i,hi,rfl⟩:=List.mem_map.1 hx;exact(hV i (by simpa using hi)).2
theorem aDd {b:Nat}{x:DataW H×List MemPlace}(h:DataW.trod enc prog w base spare held b 22 [v]=some x):
  ∃(xs:List Int) (p:OA) (cap:Nat),v= .slice p xs cap∧Sl w p xs.length cap 1 (ivs xs)∧ ∀a∈xs,B64 a:=by
 obtain⟨xs,p,cap,hv,hS,hg⟩:=aDc (α:=Int) (fun x=> [iv x]) B64 1 underlying22 (by kernel_rfl) (by omega) (fun _=>rfl) (fun n cs y hy=>by
  obtain⟨a,rfl,_,ha⟩:=DataW.trod_int underlying3 hy
  exact⟨a,rfl,aNt ha⟩) h
 exact⟨xs,p,cap,hv,by rw[←rW];exact hS,hg⟩
end
end
def eO (val:Int)(s:List Int×List Nat)(v:Nat):List Int×List Nat:=
 if s.1.getD v 0<0 then(s.1.set v val,s.2++ [v])else s
def bQ (val:Int)(s:List Int×List Nat)(vs:List Nat):List Int×List Nat:=vs.foldl (eO val) s
theorem dX (a:Int)(s:List Int×List Nat)(vs:List Nat)(v:Nat):bQ a s (vs++ [v])=eO a (bQ a s vs) v:=by simp[bQ]
def oH (adj:Nat→List Nat)(src:List Nat):Nat→Nat→Prop
 |0,v=>v∈src
 |d+1,v=> ∃u,oH adj src d u∧v∈adj u
structure Inv (adj:Nat→List Nat) (src:List Nat) (N k:Nat) (s:List Int×List Nat):Prop where
 len:s.1.length=N
 bd: ∀v∈s.2,v<N
 mem: ∀v,v<N→(0≤s.1.getD v 0↔v∈s.2)
 nodup:s.2.Nodup
 mono:s.2.Pairwise (fun a b=>s.1.getD a 0≤s.1.getD b 0)
 near: ∀u,s.2[k]? =some u→ ∀v∈s.2,s.1.getD v 0≤s.1.getD u 0+1
 sound: ∀v∈s.2,oH adj src (s.1.getD v 0).toNat v
 src: ∀v∈src,v∈s.2∧s.1.getD v 0=0
 done: ∀i u,i<k→s.2[i]? =some u→ ∀v∈adj u,v∈s.2∧s.1.getD v 0≤s.1.getD u 0+1
structure Mid (adj:Nat→List Nat) (src:List Nat) (N k u:Nat) (ws:List Nat) (s0 s:List Int×List Nat):Prop where
 len:s.1.length=N
 bd: ∀v∈s.2,v<N
 mem: ∀v,v<N→(0≤s.1.getD v 0↔v∈s.2)
 nodup:s.2.Nodup
 mono:s.2.Pairwise (fun a b=>s.1.getD a 0≤s.1.getD b 0)
 near: ∀v∈s.2,s.1.getD v 0≤s.1.getD u 0+1
 sound: ∀v∈s.2,oH adj src (s.1.getD v 0).toNat v
 pre: ∃r,s.2=s0.2++r
 same: ∀v∈s0.2,s.1.getD v 0=s0.1.getD v 0
 seen: ∀v∈ws,v∈s.2
theorem cI {l:List Int}{v:Nat}{x:Int}(h:v<l.length):(l.set v x).getD v 0=x:=by simp[List.getD,h]
theorem bR {l:List Int}{v w:Nat}{x:Int}(h:v≠w):(l.set v x).getD w 0=l.getD w 0:=by simp[List.getD,aSj h]
theorem Mid.step {adj:Nat→List Nat}{src:List Nat}{N k u w:Nat}{ws:List Nat}{s0 s:List Int×List Nat}(h:Mid adj src N k u ws s0 s)(hu:u∈s0.2)(hw:w∈adj u)(i:w<N)(f:s0.1.getD u 0=s.1.getD u 0):
  Mid adj src N k u (ws++ [w]) s0 (eO (s0.1.getD u 0+1) s w):=by
 have g:u∈s.2:=by obtain⟨r,hr⟩:=h.pre;rw[hr];exact aRo _ hu
 have n:0≤s.1.getD u 0:=(h.mem u (h.bd u g)).2 g;unfold eO;by_cases hc:s.1.getD w 0<0
 ·rw[if_pos hc];have j:w∉s.2:=fun hm=>by have:=(h.mem w i).2 hm;omega
  have d: ∀v∈s.2,w≠v:=fun v hv e=>j (by rw[e];exact hv)
  have m:w<s.1.length:=by rw[h.len];exact i
  have c:=cI (x:=s0.1.getD u 0+1) m;refine⟨by simp[h.len],?_,?_,?_,?_,?_,?_,?_,?_,?_⟩
  ·intro v hv;rcases aR7.1 hv with hv|hv
   ·exact h.bd v hv
   simp at hv;rw[hv];exact i
  ·intro v hv;by_cases e:w=v
   ·subst e;dsimp only;rw[c];exact⟨fun _=>by simp,fun _=>by omega⟩
   dsimp only;rw[bR e,h.mem v hv];simp;intro e2;exact absurd e2.symm e
  ·dsimp only;rw[List.nodup_append];refine⟨h.nodup,by simp,fun a ha b hb=> ?_⟩;simp at hb;subst hb;exact fun e=>j (by rw[←e];exact ha)
  ·dsimp only;rw[List.pairwise_append];refine⟨?_,by simp,?_⟩
   ·refine h.mono.imp_of_mem ?_;intro a b ha hb l;rw[bR (d a ha),bR (d b hb)];exact l
   intro a ha b hb;simp at hb;subst hb;rw[c,bR (d a ha),f];exact h.near a ha
  ·intro v hv;dsimp only at hv⊢;rw[bR (d u g)];rcases aR7.1 hv with hv|hv
   ·rw[bR (d v hv)];exact h.near v hv
   simp at hv;subst hv;rw[c,f];exact Int.le_refl _
  ·intro v hv;dsimp only at hv⊢;rcases aR7.1 hv with hv|hv
   ·rw[bR (d v hv)];exact h.sound v hv
   simp at hv;subst hv;rw[c,f];have e:(s.1.getD u 0+1).toNat=(s.1.getD u 0).toNat+1:=by omega
   rw[e];exact⟨u,h.sound u g,hw⟩
  ·obtain⟨r,hr⟩:=h.pre;exact⟨r++ [w],by dsimp only;rw[hr,List.append_assoc]⟩
  ·intro v hv;have:v∈s.2:=by obtain⟨r,hr⟩:=h.pre;rw[hr];exact aRo _ hv
   dsimp only;rw[bR (d v this)];exact h.same v hv
  intro v hv;dsimp only;rcases aR7.1 hv with hv|hv
  ·exact aRo _ (h.seen v hv)
  simp at hv;subst hv;simp
 rw[if_neg hc]
 exact⟨h.len,h.bd,h.mem,h.nodup,h.mono,h.near,h.sound,h.pre,h.same,fun v hv=>by
  rcases aR7.1 hv with hv|hv
  ·exact h.seen v hv
  ·simp at hv;subst hv;exact(h.mem v i).1 (by omega)⟩
theorem Inv.mid {adj:Nat→List Nat}{src:List Nat}{N k u:Nat}{s:List Int×List Nat}(h:Inv adj src N k s)(hu:s.2[k]? =some u):Mid adj src N k u [] s s:=
 ⟨h.len,h.bd,h.mem,h.nodup,h.mono,h.near u hu,h.sound,⟨[],by simp⟩,fun _ _=>rfl,fun v hv=>by cases hv⟩
theorem Mid.many {adj:Nat→List Nat}{src:List Nat}{N k u:Nat}{s0:List Int×List Nat}(hu:u∈s0.2): ∀(vs ws:List Nat) (s:List Int×List Nat),Mid adj src N k u ws s0 s→(∀v∈vs,v∈adj u∧v<N)→Mid adj src N k u (ws++vs) s0 (bQ (s0.1.getD u 0+1) s vs):=by
 intro vs;induction vs with
 |nil=>intro ws s h _;simpa[bQ]using h
 |cons v vs ih=>intro ws s h hv;have h1:=h.step hu (hv v (by simp)).1 (hv v (by simp)).2 (h.same u hu).symm;have:=ih (ws++ [v]) _ h1 (fun x hx=>hv x (by simp[hx]));simpa[bQ]using this
theorem Inv.step {adj:Nat→List Nat}{src:List Nat}{N k u:Nat}{s:List Int×List Nat}(h:Inv adj src N k s)(hu:s.2[k]? =some u) (ha: ∀v∈adj u,v<N):Inv adj src N (k+1) (bQ (s.1.getD u 0+1) s (adj u)):=by
 have n:u∈s.2:=aQq hu;have m:=Mid.many n (adj u) [] s (h.mid hu) (fun v hv=>⟨hv,ha v hv⟩);rw[aS6]at m;obtain⟨r,hr⟩:=m.pre;have hk:k<s.2.length:=(aQr.1 hu).1;refine⟨m.len,m.bd,m.mem,m.nodup,m.mono,?_,m.sound,?_,?_⟩
 ·intro u' c v hv;have h1:=m.near v hv;have o:(bQ (s.1.getD u 0+1) s (adj u)).1.getD u 0≤(bQ (s.1.getD u 0+1) s (adj u)).1.getD u' 0:=by
   obtain⟨g,e'⟩:=aQr.1 c;have l:(bQ (s.1.getD u 0+1) s (adj u)).2[k]? =some u:=by rw[hr,aR4 hk];exact hu
   obtain⟨j,e2⟩:=aQr.1 l;have:=List.pairwise_iff_getElem.1 m.mono k (k+1) j g (by omega);rw[e',e2]at this;exact this
  omega
 ·intro v hv;obtain⟨a,b⟩:=h.src v hv;exact⟨by rw[hr];exact aRo _ a,by rw[m.same v a];exact b⟩
 intro i u' hi c v hv;by_cases hik:i<k
 ·have f:i<s.2.length:=by omega
  rw[hr,aR4 f]at c;obtain⟨a,b⟩:=h.done i u' hik c v hv;have d:u'∈s.2:=aQq c;exact⟨by rw[hr];exact aRo _ a,by rw[m.same v a,m.same u' d];exact b⟩
 obtain rfl:i=k:=by omega
 rw[hr,aR4 hk,hu]at c;injection c with c;subst c;have e:=m.seen v hv;exact⟨e,m.near v e⟩
theorem oS: ∀ {N:Nat} {l:List Nat},l.Nodup→(∀v∈l,v<N)→l.length≤N:=by
 intro N;induction N with
 |zero=>
  intro l _ hb;cases l with
  |nil=>simp
  |cons a l=>exact absurd (hb a (by simp)) (by omega)
 |succ N ih=>
  intro l h hb
  have h1:=ih (h.erase N) (fun v hv=>by
   have:=h.mem_erase_iff.1 hv;have:=hb v this.2
   omega)
  rw[List.length_erase]at h1;split at h1<;>omega
theorem Inv.qlen {adj:Nat→List Nat}{src:List Nat}{N k:Nat}{s:List Int×List Nat}(h:Inv adj src N k s):s.2.length≤N:=oS h.nodup h.bd
theorem Inv.far {adj:Nat→List Nat}{src:List Nat}{N k:Nat}{s:List Int×List Nat}(h:Inv adj src N k s)(hk:s.2.length≤k): ∀d v,oH adj src d v→v∈s.2∧s.1.getD v 0≤d:=by
 intro d;induction d with
 |zero=>intro v hv;obtain⟨a,b⟩:=h.src v hv;exact⟨a,by omega⟩
 |succ d ih=>rintro v ⟨u,hu,hv⟩;obtain⟨a,b⟩:=ih u hu;obtain⟨i,hi,e⟩:=aS2 a;obtain⟨c1,c2⟩:=h.done i u (by omega) (by rw[aQo hi,e]) v hv;exact⟨c1,by omega⟩
structure sU (adj:Nat→List Nat) (src:List Nat) (N:Nat) (D:List Int):Prop where
 len:D.length=N
 zero: ∀v,v<N→(D.getD v 0=0↔v∈src)
 edge: ∀u v,u<N→0≤D.getD u 0→v∈adj u→0≤D.getD v 0∧D.getD v 0≤D.getD u 0+1
 back: ∀v,v<N→0<D.getD v 0→ ∃u,u<N∧v∈adj u∧D.getD u 0=D.getD v 0-1
theorem Inv.dist {adj:Nat→List Nat}{src:List Nat}{N k:Nat}{s:List Int×List Nat}(h:Inv adj src N k s)(hk:s.2.length≤k):sU adj src N s.1:=by
 have hb: ∀v,v<N→0<s.1.getD v 0→ ∃u,u∈s.2∧v∈adj u∧s.1.getD u 0=s.1.getD v 0-1:=by
  intro v hv h0;have f:=(h.mem v hv).1 (by omega);have hw:=h.sound v f;obtain⟨d,hd⟩: ∃d,(s.1.getD v 0).toNat=d+1:=⟨(s.1.getD v 0).toNat-1,by omega⟩
  rw[hd]at hw;obtain⟨u,hu,g⟩:=hw;obtain⟨a,b⟩:=h.far hk d u hu;obtain⟨i,hi,e⟩:=aS2 a;obtain⟨_,c⟩:=h.done i u (by omega) (by rw[aQo hi,e]) v g;exact⟨u,a,g,by omega⟩
 refine⟨h.len,?_,?_,?_⟩
 ·intro v hv;constructor
  ·intro e;have f:=(h.mem v hv).1 (by omega);have:=h.sound v f;rw[e]at this;exact this
  intro hm;exact(h.src v hm).2
 ·intro u v hu h0 hv;have j:=(h.mem u hu).1 h0;obtain⟨i,hi,e⟩:=aS2 j;obtain⟨a,b⟩:=h.done i u (by omega) (by rw[aQo hi,e]) v hv;exact⟨(h.mem v (h.bd v a)).2 a,b⟩
 intro v hv h0;obtain⟨u,a,b,c⟩:=hb v hv h0;exact⟨u,h.bd u a,b,c⟩
def qG (a b:Int):Int:=max (a-b) (b-a)
def aX (aA a b:Int):Int:=qG (a%aA) (b%aA)+qG (a/aA) (b/aA)
def aR (aA:Int)(n a:Nat):List Nat:=(List.range n).filter (fun b=>decide (aX aA a b=1))
theorem aA6 (a b:Int):qG a b=qG b a:=by unfold qG;omega
theorem xX (aA a b:Int):aX aA a b=aX aA b a:=by unfold aX;rw[aA6 (a%aA),aA6 (a/aA)]
theorem bU {aA:Int}{n a b:Nat}:b∈aR aA n a↔b<n∧aX aA a b=1:=by simp[aR]
theorem fX {aA:Int}{n a b:Nat}(ha:a<n)(h:b∈aR aA n a):a∈aR aA n b:=by rw[bU]at h⊢;exact⟨ha,by rw[xX];exact h.2⟩
section
open Go.RowKit
def Blk (w:World)(g:Nat)(t:TypeId)(cs:Array Value):Prop:=w.heap[g]? =some (.cells cs t (0,0))
section
variable {w w':World} {g:Nat} {t:TypeId} {cs:Array Value}
theorem Blk.lt (h:Blk w g t cs):g<w.heap.size:=(aRx.1 h).1
theorem Blk.cell (h:Blk w g t cs)(i:Nat):w.cell? ⟨g,i,none⟩=cs[i]? :=cell_of_row w g i cs t (0,0) h
theorem Blk.frozen (h:Blk w g t cs)(i:Nat):w.frozen? ⟨g,i,none⟩=false:=by unfold Blk at h;simp[World.frozen?,h]
theorem Blk.new (w:World)(t:TypeId)(cs:Array Value):Blk (w.alloc (.cells cs t)) w t cs:=heap_alloc_new w _
theorem Blk.set (h:Blk w g t cs)(i:Nat)(u:Value):Blk (w.setCell ⟨g,i,none⟩ u) g t (cs.setIfInBounds i u):=by unfold Blk at h⊢;simp[World.setCell,Array.getElem?_modify,h]
theorem Blk.far (h:Blk w g t cs){p:Addr}(hp:g≠p.block)(u:Value):Blk (w.setCell p u) g t cs:=(aT0 w p u g hp).trans h
theorem Blk.ext (h:Blk w g t cs)(hb:Ext w w'):Blk w' g t cs:=(hb.block g h.lt).trans h
theorem Blk.alloc (h:Blk w g t cs)(o:Obj):Blk (w.alloc o) g t cs:=h.ext ((Ext.refl w).alloc o)
theorem Blk.grown {row:Option Nat}(h:Blk w g t cs)(hb:w.grownBy w' row)(hg:some g≠row):Blk w' g t cs:=(hb.block g h.lt hg).trans h
end
theorem Sl.new (w:World)(cs:Array Value)(t:TypeId)(n:Nat)(h:cs.size=n)(hn:n≤maxLen):Sl (w.alloc (.cells cs t)) (some ⟨w,0,none⟩) n n 1 cs.toList:=
 ⟨by simpa using h,aQn _,hn,fun _=>⟨w.heap.size,0,rfl,by simp,fun k hk=>by rw[aRq,(Blk.new w t cs).cell k];simp⟩⟩
def ExtR (R:Nat)(w w':World):Prop:=w.grownBy w' (some R)
theorem ExtR.refl (R:Nat)(w:World):ExtR R w w:=aRt _ _
theorem Ext.r {w w':World}(h:Ext w w')(R:Nat):ExtR R w w':=⟨h.os,h.tape,h.output,h.size,fun i hi _=>h.block i hi⟩
theorem ExtR.sz {R:Nat}{w w':World}(h:ExtR R w w'):w.heap.size≤w'.heap.size:=h.size
theorem ExtR.trans {R:Nat}{a b c:World}(h:ExtR R a b)(k:ExtR R b c):ExtR R a c:=
 ⟨k.os.trans h.os,k.tape.trans h.tape,k.output.trans h.output,aQy h.size k.size,fun i hi hne=>(k.block i (aQm hi h.size) hne).trans (h.block i hi hne)⟩
theorem ExtR.ext {R:Nat}{a b c:World}(h:ExtR R a b)(k:Ext b c):ExtR R a c:=h.trans (k.r R)
theorem ExtR.alloc {R:Nat}{a b:World}(h:ExtR R a b)(o:Obj):ExtR R a (b.alloc o):=h.ext ((Ext.refl b).alloc o)
theorem ExtR.drew {R:Nat}{a b:World}(h:ExtR R a b):ExtR R a b.drew:=h.ext (Ext.drew (Ext.refl b))
theorem ExtR.drewN {R:Nat}{a b:World}(h:ExtR R a b)(n:Nat):ExtR R a (b.drewN n):=h.ext (Ext.drewN (Ext.refl b) n)
theorem ExtR.setCell {R:Nat}{a b:World}(h:ExtR R a b){p:Addr}(hp:p.block=R∨a.heap.size≤p.block)(u:Value):ExtR R a (b.setCell p u):=
 ⟨h.os,h.tape,h.output,by simpa[World.setCell]using h.size,fun i hi hne=>(aT0 b p u i (by
  rintro rfl;rcases hp with hp|hp
  ·exact hne (by rw[hp])
  ·omega)).trans (h.block i hi hne)⟩
theorem ExtR.new {R:Nat}{a b c:World}(h:Ext a b)(k:ExtR R b c)(hR:a.heap.size≤R):Ext a c:=
 h.grown k (fun i hi=>by simp at hi;omega)
theorem ExtR.grown {R:Nat}{a b c:World}{row:Option Nat}(h:ExtR R a b)(hg:b.grownBy c row)(hr: ∀k,row=some k→a.heap.size≤k∨k=R):ExtR R a c:=
 ⟨hg.os.trans h.os,hg.tape.trans h.tape,hg.output.trans h.output,aQy h.size hg.size,fun i hi hne=>(hg.block i (aQm hi h.size) (fun e=>by
  rcases hr i e.symm with h|h
  ·omega
  ·exact hne (by rw[h]))).trans (h.block i hi hne)⟩
theorem ExtR.cell {R:Nat}{w w':World}(h:ExtR R w w'){b:Nat}(o:Nat)(hb:b<w.heap.size)(a:b≠R):w'.cell? ⟨b,o,none⟩=w.cell? ⟨b,o,none⟩:=
 World.cell?_of_block (h.block b hb (fun e=>a (by injection e)))
theorem ExtR.own {R base sz n:Nat}{e:TypeId}{w w':World}{v:Value}{xs:List Value}(h:ExtR R w w')(ho:w.ownsRow base e sz v n xs)(hb:R<base):w'.ownsRow base e sz v n xs:=
 ho.kept h (.inr (fun hh=>by have:=ho.lt R hh;omega))
theorem ExtR.sl {R n cap sz b0:Nat}{w w':World}{p:OA}{cs:List Value}(h:ExtR R w w')(hs:Sl w p n cap sz cs)(hp:0<n→ ∀b off,p=some ⟨b,off,none⟩→b≠R):Sl w' p n cap sz cs:=
 ⟨hs.len,hs.le,hs.mx,fun h0=>by
  obtain⟨b,off,rfl,h1,h2⟩:=hs.rd h0
  exact⟨b,off,rfl,aQm h1 h.sz,fun k hk=>(h.cell _ h1 (hp h0 b off rfl)).trans (h2 k hk)⟩⟩
theorem Blk.tri {w:World}{g:Nat}{t:TypeId}{a0 a1 a2:Value}(h:Blk w g t #[a0,a1,a2]):w.cell? ⟨g,0,none⟩=some a0∧w.cell? ⟨g,1,none⟩=some a1∧w.cell? ⟨g,2,none⟩=some a2:=
 ⟨h.cell 0,h.cell 1,h.cell 2⟩
theorem Blk.trif {w:World}{g:Nat}{t:TypeId}{a0 a1 a2:Value}(h:Blk w g t #[a0,a1,a2]):w.cell? ⟨g,0,none⟩=some a0∧w.frozen? ⟨g,0,none⟩=false∧w.cell? ⟨g,1,none⟩=some a1∧w.frozen? ⟨g,1,none⟩=false∧w.cell? ⟨g,2,none⟩=some a2∧w.frozen? ⟨g,2,none⟩=false:=
 ⟨h.cell 0,h.frozen 0,h.cell 1,h.frozen 1,h.cell 2,h.frozen 2⟩
theorem Blk.ten {w:World}{g:Nat}{t:TypeId}{a0 a1 a2 a3 a4 a5 a6 a7 a8 a9:Value}(h:Blk w g t #[a0,a1,a2,a3,a4,a5,a6,a7,a8,a9]):w.cell? ⟨g,0,none⟩=some a0∧w.cell? ⟨g,1,none⟩=some a1∧w.cell? ⟨g,2,none⟩=some a2∧w.cell? ⟨g,3,none⟩=some a3∧w.cell? ⟨g,4,none⟩=some a4∧w.cell? ⟨g,5,none⟩=some a5∧w.cell? ⟨g,6,none⟩=some a6∧w.cell? ⟨g,7,none⟩=some a7∧w.cell? ⟨g,8,none⟩=some a8∧w.cell? ⟨g,9,none⟩=some a9:=
 ⟨h.cell 0,h.cell 1,h.cell 2,h.cell 3,h.cell 4,h.cell 5,h.cell 6,h.cell 7,h.cell 8,h.cell 9⟩
theorem Blk.tenf {w:World}{g:Nat}{t:TypeId}{a0 a1 a2 a3 a4 a5 a6 a7 a8 a9:Value}(h:Blk w g t #[a0,a1,a2,a3,a4,a5,a6,a7,a8,a9]):w.cell? ⟨g,0,none⟩=some a0∧w.frozen? ⟨g,0,none⟩=false∧w.cell? ⟨g,1,none⟩=some a1∧w.frozen? ⟨g,1,none⟩=false∧w.cell? ⟨g,2,none⟩=some a2∧w.frozen? ⟨g,2,none⟩=false∧w.cell? ⟨g,3,none⟩=some a3∧w.frozen? ⟨g,3,none⟩=false∧w.cell? ⟨g,4,none⟩=some a4∧w.frozen? ⟨g,4,none⟩=false∧w.cell? ⟨g,5,none⟩=some a5∧w.frozen? ⟨g,5,none⟩=false∧w.cell? ⟨g,6,none⟩=some a6∧w.frozen? ⟨g,6,none⟩=false∧w.cell? ⟨g,7,none⟩=some a7∧w.frozen? ⟨g,7,none⟩=false∧w.cell? ⟨g,8,none⟩=some a8∧w.frozen? ⟨g,8,none⟩=false∧w.cell? ⟨g,9,none⟩=some a9∧w.frozen? ⟨g,9,none⟩=false:=
 ⟨h.cell 0,h.frozen 0,h.cell 1,h.frozen 1,h.cell 2,h.frozen 2,h.cell 3,h.frozen 3,h.cell 4,h.frozen 4,h.cell 5,h.frozen 5,h.cell 6,h.frozen 6,h.cell 7,h.frozen 7,h.cell 8,h.frozen 8,h.cell 9,h.frozen 9⟩
theorem Blk.putr {R:Nat}{w5 w9:World}{t:TypeId}{a0 a1 a2 a3 a4 a5 a6 a7 a8 a9 b0 b1 b2 b3 b4 b5 b6 b7 b8 b9:Value}(H:Blk w5 R t #[a0,a1,a2,a3,a4,a5,a6,a7,a8,a9])(h9:((((((((((w5.setCell ⟨R,0,none⟩ b0).setCell ⟨R,1,none⟩ b1).setCell ⟨R,2,none⟩ b2).setCell ⟨R,3,none⟩ b3).setCell ⟨R,4,none⟩ b4).setCell ⟨R,5,none⟩ b5).setCell ⟨R,6,none⟩ b6).setCell ⟨R,7,none⟩ b7).setCell ⟨R,8,none⟩ b8).setCell ⟨R,9,none⟩ b9)=w9):Blk w9 R t #[b0,b1,b2,b3,b4,b5,b6,b7,b8,b9]∧ExtR R w5 w9:=by
 subst h9;have hR:=(((((((((((ExtR.refl _ w5).setCell (p:=⟨R,0,none⟩) (.inl rfl) b0).setCell (p:=⟨R,1,none⟩) (.inl rfl) b1).setCell (p:=⟨R,2,none⟩) (.inl rfl) b2).setCell (p:=⟨R,3,none⟩) (.inl rfl) b3).setCell (p:=⟨R,4,none⟩) (.inl rfl) b4).setCell (p:=⟨R,5,none⟩) (.inl rfl) b5).setCell (p:=⟨R,6,none⟩) (.inl rfl) b6).setCell (p:=⟨R,7,none⟩) (.inl rfl) b7).setCell (p:=⟨R,8,none⟩) (.inl rfl) b8).setCell (p:=⟨R,9,none⟩) (.inl rfl) b9)
 have Y:=((((((((((H.set 0 b0).set 1 b1).set 2 b2).set 3 b3).set 4 b4).set 5 b5).set 6 b6).set 7 b7).set 8 b8).set 9 b9)
 simp only[aR1,aQz,aR0]at Y;exact⟨Y,hR⟩
theorem xR {R:Nat}{w v:World}(h:ExtR R w v:=by(repeat' (first|exact ExtR.refl _ _|(with_reducible assumption)|(with_reducible refine ExtR.alloc ?_ _)|(with_reducible refine ExtR.setCell ?_ (.inr (by first|exact Nat.le_refl _|(dsimp only;omega)|(simp;done)|(simp;omega))) _)|(with_reducible refine ExtR.drew ?_)|(with_reducible refine ExtR.drewN ?_ _)|(refine ExtR.trans ?_ (by with_reducible assumption))|(refine ExtR.ext ?_ (by with_reducible assumption))))):ExtR R w v:=h
def nthL {α:Type}:List α→Nat→Option α
 | [],_=>none
 |a::_,0=>some a
 |_::l,n+1=>nthL l n
theorem nthL_eq {α:Type}: ∀(l:List α) (k:Nat),nthL l k=l[k]?
 | [],_=>by simp[nthL]
 |_::_,0=>by simp[nthL]
 |_::l,n+1=>by simp[nthL,nthL_eq l n]
theorem Blk.cl {w:World}{g:Nat}{t:TypeId}{l:List Value}(h:Blk w g t l.toArray)(k:Nat){v:Value}(hv:nthL l k=Option.some v:=by exact rfl):w.cell? ⟨g,k,none⟩=Option.some v:=by rw[h.cell k,←hv,nthL_eq];simp
end
section
open Go.RowKit
structure Chg (B T:Nat) (w w':World):Prop where
 os:w'.os=w.os
 tape:w'.tape=w.tape
 output:w'.output=w.output
 size:w.heap.size≤w'.heap.size
 block: ∀i,i<w.heap.size→(i<B∨T≤i)→w'.heap[i]? =w.heap[i]?
theorem Chg.refl (B T:Nat)(w:World):Chg B T w w:=⟨rfl,rfl,rfl,aQn _,fun _ _ _=>rfl⟩
theorem Ext.chg {w w':World}(h:Ext w w')(B T:Nat):Chg B T w w':=⟨h.os,h.tape,h.output,h.size,fun i hi _=>h.block i hi⟩
theorem Chg.trans {B T:Nat}{a b c:World}(h:Chg B T a b)(k:Chg B T b c):Chg B T a c:=
 ⟨k.os.trans h.os,k.tape.trans h.tape,k.output.trans h.output,aQy h.size k.size,fun i hi hh=>(k.block i (aQm hi h.size) hh).trans (h.block i hi hh)⟩
theorem Chg.mono {B T B' T':Nat}{a b:World}(h:Chg B T a b)(hB:B'≤B)(hT:T≤T'):Chg B' T' a b:=
 ⟨h.os,h.tape,h.output,h.size,fun i hi hh=>h.block i hi (by omega)⟩
theorem Chg.ext {B T:Nat}{a b c:World}(h:Ext a b)(k:Chg B T b c)(hB:a.heap.size≤B):Ext a c:=
 ⟨k.os.trans h.os,k.tape.trans h.tape,k.output.trans h.output,aQy h.size k.size,fun i hi=>(k.block i (aQm hi h.size) (.inl (aQm hi hB))).trans (h.block i hi)⟩
theorem Chg.of_grown {B T:Nat}{w w':World}{row:Option Nat}(h:w.grownBy w' row)(hr: ∀g,row=some g→B≤g∧g<T):Chg B T w w':=
 ⟨h.os,h.tape,h.output,h.size,fun i hi hh=>h.block i hi (fun e=>by have:=hr i e.symm;omega)⟩
def OwnT (w:World)(B T:Nat)(e:TypeId)(sz:Nat)(p:OA)(n cap:Nat)(xs:List Value):Prop:=
 T≤w.heap.size∧((n=0∧cap=0∧xs= [])∨(w.ownsRow B e sz (.slice p n cap) n xs∧ ∀g,(Value.slice p n cap).ownBlock=some g→g<T))
theorem OwnT.of {w:World}{B:Nat}{e:TypeId}{sz n cap:Nat}{p:OA}{xs:List Value}(h:w.ownsRow B e sz (.slice p n cap) n xs):OwnT w B w e sz p n cap xs:=
 ⟨aQn _,.inr ⟨h,fun g hg=>(h.lt g hg).2⟩⟩
theorem OwnT.zero (w:World)(B:Nat)(e:TypeId)(sz:Nat)(p:OA):OwnT w B w e sz p 0 0 []:=⟨aQn _,.inl ⟨rfl,rfl,rfl⟩⟩
theorem OwnT.sl {w:World}{B T:Nat}{e:TypeId}{sz n cap:Nat}{p:OA}{xs:List Value}(h:OwnT w B T e sz p n cap xs):Sl w p n cap sz xs:=by
 rcases h.2 with⟨rfl,rfl,rfl⟩|h
 ·exact⟨by simp,aQn _,aQt _,fun h=>absurd h (by omega)⟩
 exact Sl.own h.1
theorem OwnT.top {w:World}{B T:Nat}{e:TypeId}{sz n cap:Nat}{p:OA}{xs:List Value}(h:OwnT w B T e sz p n cap xs){T':Nat}(h1:T≤T')(h2:T'≤w.heap.size):OwnT w B T' e sz p n cap xs:=by
 refine⟨h2,?_⟩;rcases h.2 with h|⟨h,k⟩
 ·exact .inl h
 exact .inr ⟨h,fun g hg=>aQm (k g hg) h1⟩
theorem OwnT.base {w:World}{B T:Nat}{e:TypeId}{sz n cap:Nat}{p:OA}{xs:List Value}(h:OwnT w B T e sz p n cap xs){B':Nat}(h1:B'≤B):OwnT w B' T e sz p n cap xs:=by
 refine⟨h.1,?_⟩;rcases h.2 with h|⟨h,k⟩
 ·exact .inl h
 refine .inr ⟨⟨h.1,?_⟩,k⟩;rcases h.2 with h2|⟨g,a,b,e1,hb,r⟩
 ·exact .inl h2
 exact .inr ⟨g,a,b,e1,aQy h1 hb,r⟩
theorem OwnT.chg {w w':World}{B T B' T':Nat}{e:TypeId}{sz n cap:Nat}{p:OA}{xs:List Value}(h:OwnT w B T e sz p n cap xs)(hc:Chg B' T' w w')(hd:T≤B'∨T'≤B):OwnT w' B T e sz p n cap xs:=by
 refine⟨aQy h.1 hc.size,?_⟩;rcases h.2 with h2|⟨h2,k⟩
 ·exact .inl h2
 refine .inr ⟨⟨h2.1,?_⟩,k⟩;rcases h2.2 with h3|⟨g,a,b,h1,hb,hg,hn,hm,hs,ht⟩
 ·exact .inl h3
 have c:(Value.slice p n cap).ownBlock=some g:=by rw[h1];rfl
 have h4:=k g c;exact .inr ⟨g,a,b,h1,hb,(hc.block g (aRx.1 hg).1 (by omega)).trans hg,hn,hm,hs,ht⟩
theorem OwnT.ext {w w':World}{B T:Nat}{e:TypeId}{sz n cap:Nat}{p:OA}{xs:List Value}(h:OwnT w B T e sz p n cap xs)(hx:Ext w w'):OwnT w' B T e sz p n cap xs:=h.chg (hx.chg T T) (.inl (aQn _))
theorem Sl.chg {w w':World}{B T n cap sz:Nat}{p:OA}{cs:List Value}(hs:Sl w p n cap sz cs)(h:Chg B T w w')(hp:0<n→ ∀b off,p=some ⟨b,off,none⟩→b<B∨T≤b):Sl w' p n cap sz cs:=
 ⟨hs.len,hs.le,hs.mx,fun h0=>by
  obtain⟨b,off,rfl,h1,h2⟩:=hs.rd h0
  exact⟨b,off,rfl,aQm h1 h.size,fun k hk=>(World.cell?_of_block (h.block b h1 (hp h0 b off rfl))).trans (h2 k hk)⟩⟩
end
section
open Go.RowKit Go.Proofs.Tryz
structure ElT (P:Program) (t e:TypeId) (sz:Nat):Prop where
 ht:P.underlying t=some (.slice e)
 info: ∃i z,P.info? e=some i∧i.zero=some z∧i.size=sz∧i.bytes≤64∧z.cells.size=sz
 pos:0<sz
theorem oQ {w:World}{base sz n:Nat}{e:TypeId}{v:Value}{xs:List Value}(h:w.ownsRow base e sz v n xs): ∃p cap,v= .slice p n cap:=by
 rcases h.2 with⟨h1,h2⟩|⟨g,cap,_,h1,_⟩
 ·exact⟨none,0,by rw[h1,h2]⟩
 exact⟨_,cap,h1⟩
theorem Ext.own {a b c:World}{base sz n:Nat}{e:TypeId}{v:Value}{xs:List Value}(h:Ext a b)(ho:b.ownsRow base e sz v n xs)(hg:b.grownBy c v.ownBlock)(hb:a.heap.size≤base):Ext a c:=
 h.grown hg (fun q hq=>aQy hb (ho.lt q hq).1)
section
variable {P:Program} {w:World} {ops:Array Oper} {rest:List Oper} {o:Oper} {a:Act} {Q:Exit→Act→World→Prop}
theorem jU {α:Type}{t e:TypeId}{sz:Nat}(E:ElT P t e sz){f:α→List Value}(hf: ∀a,(f a).length=sz)(h1: ∀a,∀u∈f a,u.oneCell'=true)(q:o.guard=none)(s x:Operand)
  (ho:o.op= .call {callee:= .builtin .append,args:=#[s,x],argTypes:=#[t,t]})
  (base:Nat)(v:Value)(n:Nat)(xs:List α)(hs:a.eval s=v)(k:w.ownsRow base e sz v n (xs.flatMap f))
  (b g:Nat)(y:α)(c:Nat)(hx:a.eval x= .slice (some ⟨b,g,none⟩) 1 c)(hc: ∀j u,(f y)[j]? =some u→w.cell? ⟨b,g+j,none⟩=some u)
  (hn:n≤1099511627776) (d:base≤w.heap.size)
  (h: ∀p' cap' w',w'.ownsRow base e sz (.slice p' (n+1) cap') (n+1) ((xs++ [y]).flatMap f)→w.grownBy w' v.ownBlock→wpList P ops Q rest (a.put o.dst (.slice p' (n+1) cap')) w'):wpList P ops Q (o::rest) a w:=by
 obtain⟨i,z,hi,hz,r,m,aa⟩:=E.info;refine wpList_append_own w q s x t ho base e i z sz i.bytes E.ht hi hz r rfl aa E.pos v n _ hs k ⟨b,g,none⟩ 1 c (f y) hx (by rw[hf];omega) (fun j u hu=>by rw[lW];exact hc j u hu) (h1 y) (by unfold maxLen;omega) ?_ d ?_
 ·have:(n+1)*i.bytes≤(n+1)*64:=Nat.mul_le_mul_left _ m;omega
 intro v' w' h2 h3 _;obtain⟨p,l,rfl⟩:=oQ h2;exact h p l w' (by rw[aRh];simpa using h2) h3
theorem cL (E:ElT P 22 3 1)(i:o.guard=none)(s x:Operand)
  (ho:o.op= .call {callee:= .builtin .append,args:=#[s,x],argTypes:=#[22,22]})
  (base:Nat)(v:Value)(n:Nat)(xs:List Int)(hs:a.eval s=v)(g:w.ownsRow base 3 1 v n (ivs xs))
  (b e:Nat)(y:Int)(c:Nat)(hx:a.eval x= .slice (some ⟨b,e,none⟩) 1 c)(hc:w.cell? ⟨b,e,none⟩=some (iv y))
  (hn:n≤1099511627776)(d:base≤w.heap.size)
  (h: ∀p' cap' w',w'.ownsRow base 3 1 (.slice p' (n+1) cap') (n+1) (ivs (xs++ [y]))→w.grownBy w' v.ownBlock→wpList P ops Q rest (a.put o.dst (.slice p' (n+1) cap')) w'):wpList P ops Q (o::rest) a w:=by
 refine jU E (f:=fun x=> [iv x]) (fun _=>rfl) (fun _ u hu=>by simp at hu;subst hu;rfl) i s x ho base v n xs hs (by rw[rW];exact g) b e y c hx (fun j u hu=> ?_) hn d (fun p' cap' w' h2 h3=>h p' cap' w' (by rw[rW]at h2;exact h2) h3)
 match j,hu with
 |0,hu=>simp at hu;subst hu;exact hc
end
theorem fM:ElT prog 22 3 1:=
 ⟨underlying22,by
  obtain⟨i,hi,h0,h1,h2⟩:=info_parts (show(prog.info? 3).map (fun i=>(i.zero,i.size,i.bytes))=some (some (I 0),1,8) by kernel_rfl)
  exact⟨i,_,hi,h0,h1,by omega,rfl⟩,Nat.one_pos⟩
end
end Go.Proofs.YtbgkcehffiogcacGreatDoor
