/-
  Texts of this proof, packed (@packed).
-/
import Derived.Below
import Derived.BigQuiet
import Derived.ChangeArms
import Derived.Deep.DeepCutAuto
import Derived.Deep.DeepFit
import Derived.Deep.Draws
import Derived.Deep.QuietTactic
import Derived.Deep.RegionHeld3
import Derived.Deep.RegionWith
import Derived.Deep.Slices
import Derived.Deep.Strs
import Derived.Handy
import Derived.IntWalk
import Derived.Laws.AppendOwn
import Derived.Laws.OwnMore
import Derived.Laws.Rows
import Derived.Lib.Hide
import Derived.Lib.SmallJoins
import Derived.OpenShut
import Derived.OwnWalk
import Derived.ProofKit
import Derived.ShutString
import Derived.Test.YtbgkcehffiogcacGreatDoorRows
import Derived.WalkKit
import Derived.WalkSmall
import Derived.WalkSpells
namespace Go.Proofs.YtbgkcehffiogcacGreatDoor
open Go.RowKit
set_option linter.unusedSimpArgs false
set_option linter.unusedVariables false
set_option maxHeartbeats 8000000
set_option maxRecDepth 100000
def Ext (w w':World):Prop:=Below w.heap.size w w'
theorem Ext.refl (w:World):Ext w w:=Below.refl _ _
theorem Ext.trans {a b c:World}(h:Ext a b)(k:Ext b c):Ext a c:=Below.trans h (Below.mono k h.size)
theorem Ext.alloc {a b:World}(h:Ext a b)(o:Obj):Ext a (b.alloc o):=Below.alloc h h.size o
theorem Ext.drew {a b:World}(h:Ext a b):Ext a b.drew:=Below.drew h
theorem Ext.drewN {a b:World}(h:Ext a b)(n:Nat):Ext a (b.drewN n):=below_drewN h n
theorem Ext.of_drew {a b:World}(h:Ext a.drew b):Ext a b:=⟨h.os,h.tape,h.output,h.size,h.block⟩
theorem Ext.setCell {a b:World}(h:Ext a b){p:Addr}(hp:a.heap.size≤p.block)(u:Value):Ext a (b.setCell p u):=Below.setCell h hp u
theorem Ext.grown {a b c:World}{row:Option Nat}(h:Ext a b)(hg:b.grownBy c row)(hr: ∀k,row=some k→a.heap.size≤k):Ext a c:=Below.grown h hg h.size hr
theorem Ext.cells {W w1:World}(hb:Ext W w1):(∀b o,b<W.heap.size→w1.cell? ⟨b,o,none⟩=W.cell? ⟨b,o,none⟩)∧(∀b o,b<W.heap.size→w1.frozen? ⟨b,o,none⟩=W.frozen? ⟨b,o,none⟩):=
 ⟨fun b o h=>Below.cell hb (p:=⟨b,o,none⟩) h,fun b o h=>Below.frozen hb (p:=⟨b,o,none⟩) h⟩
theorem Ext.sz {W w1:World}(hb:Ext W w1):W.heap.size≤w1.heap.size:=hb.size
def Rd (w:World)(v:Value)(n sz:Nat)(cs:List Value):Prop:=
 cs.length=n*sz∧((v= .slice none 0 0∧n=0)∨
  ∃b off cap,v= .slice (some ⟨b,off,none⟩) n cap∧n≤cap∧cap≤maxLen∧b<w.heap.size∧ ∀k,k<n*sz→w.cell? ⟨b,off+k,none⟩=cs[k]?)
theorem Rd.nil (w:World)(sz:Nat):Rd w (.slice none 0 0) 0 sz []:=⟨by simp,.inl ⟨rfl,rfl⟩⟩
theorem Rd.ext {w w':World}{v:Value}{n sz:Nat}{cs:List Value}(h:Rd w v n sz cs)(hb:Ext w w'):Rd w' v n sz cs:=by
 refine⟨h.1,?_⟩;rcases h.2 with h|⟨b,a,c,rfl,h1,h2,h3,h4⟩
 ·exact .inl h
 refine .inr ⟨b,a,c,rfl,h1,h2,Nat.lt_of_lt_of_le h3 hb.size,fun k hk=> ?_⟩;rw[Below.cell hb (p:=⟨b,a+k,none⟩) h3];exact h4 k hk
def Own (w:World)(base:Nat)(e:TypeId)(sz:Nat)(v:Value)(n:Nat)(xs:List Value):Prop:=
 w.ownsRow base e sz v n xs∨(n=0∧xs= []∧ ∃b off,v= .slice (some ⟨b,off,none⟩) 0 0∧b<w.heap.size)
theorem Own.len {w:World}{base:Nat}{e:TypeId}{sz:Nat}{v:Value}{n:Nat}{xs:List Value}(h:Own w base e sz v n xs):xs.length=n*sz:=by
 rcases h with h|⟨rfl,rfl,_⟩
 ·exact h.1
 simp
theorem Own.rd {w:World}{base:Nat}{e:TypeId}{sz:Nat}{v:Value}{n:Nat}{xs:List Value}(h:Own w base e sz v n xs):Rd w v n sz xs:=by
 refine⟨h.len,?_⟩;rcases h with h|⟨rfl,rfl,b,c,rfl,hb⟩
 ·rcases h.2 with h2|⟨g,a,d,rfl,hb,hg,hn,hm,hs,ht⟩
  ·exact .inl h2
  refine .inr ⟨g,0,a,rfl,hn,hm,(Array.getElem?_eq_some_iff.1 hg).1,fun k hk=> ?_⟩;rw[Nat.zero_add];exact h.cellAt k hk
 exact .inr ⟨b,c,0,rfl,Nat.le_refl _,by simp[maxLen],hb,fun k hk=>by simp at hk⟩
theorem dV {k:IntKind}{a b:Int}(h:a=b):Ending.returned (.int k a)= .returned (.int k b):=by rw[h]
theorem aQ {a b:Bool}(h:a=b):Ending.returned (.bool a)= .returned (.bool b):=by rw[h]
theorem xQ {p:Prop}(h:p):Hid p:=h
theorem xE {w v:World}(h:Ext w v:=by(repeat' (first|exact Ext.refl _|(with_reducible assumption)|(with_reducible refine Ext.alloc ?_ _)|(with_reducible refine Ext.setCell ?_ (by first|exact Nat.le_refl _|(dsimp only;omega)|(simp;done)|(simp;omega)) _)|(with_reducible refine Ext.drew ?_)|(with_reducible refine Ext.drewN ?_ _)|(refine Ext.trans ?_ (by with_reducible assumption))))):Ext w v:=h
instance hidFun {p:Prop}:CoeFun (Hid p) (fun _=>p):=⟨fun h=>h.out⟩
instance : Coe Int Value := ⟨fun x => .int .i64 x⟩
instance : Coe Nat Value := ⟨fun x => .int .i64 (x : Int)⟩
instance : Coe Unit Value := ⟨fun _ => .int .i64 0⟩
instance : Coe (Unit × Unit) Value := ⟨fun _ => .slice none 0 0⟩
abbrev xC (f : FuncId) (s : Array Value) (w : World) (Q : World → Ending → World → Prop) : Prop := Hid (∀ w', Ext w w' → Calls Tryz.prog f s w' (Q w'))
abbrev xB (f : FuncId) (s : Array Value) (w : World) (b : Bool) : Prop := Hid (∀ w', Ext w w' → Calls Tryz.prog f s w' fun e w'' => e = .returned (.bool b) ∧ Ext w' w'')
abbrev OA : Type := Option Addr
abbrev zT:Array Value:=#[.int .i64 0,.int .i64 0,.slice none 0 0,.int .i64 0,.int .i64 0,.int .i64 0,.int .i64 0,.int .i64 0,.int .i64 0,.slice none 0 0]
structure m3I where
structure m3U where
instance:CoeFun m3I (fun _=>Int→Value):=⟨fun _=>Value.int .i64⟩
instance:CoeFun m3U (fun _=>FuncId→Array Value→World→(Ending→World→Prop)→Prop):=⟨fun _=>Calls Tryz.prog⟩
instance:Coe World Nat:=⟨fun w=>w.heap.size⟩
instance m3N{α:Type}:CoeOut (List α) Nat:=⟨List.length⟩
def I:m3I:=⟨⟩
def U:m3U:=⟨⟩
abbrev aRo:=@Nat.lt_of_lt_of_le
abbrev aRp:=@Nat.le_refl
abbrev aRq:=@List.getElem?_eq_getElem
abbrev aRr:=@IntWalk.i64_in
abbrev aRs:=@List.mem_of_getElem?
abbrev aRt:=@List.getElem?_eq_some_iff
abbrev aRu:=@List.take_of_length_le
abbrev aRv:=@Nat.zero_le
abbrev aRw:=@List.getD_eq_getElem?_getD
abbrev aRx:=@List.length_append
abbrev aRy:=@Bool.and_eq_true
abbrev aRz:=@Nat.le_trans
abbrev aS0:=@Nat.pow_le_pow_right
abbrev aS1:=@List.set_cons_zero
abbrev aS2:=@List.set_cons_succ
abbrev aS3:=@List.getElem?_append_right
abbrev aS4:=@World.ownsRow_nil
abbrev aS5:=@List.setIfInBounds_toArray
abbrev aS6:=@List.mem_cons
abbrev aS7:=@List.mem_range
abbrev aS8:=@List.getElem?_append_left
abbrev aS9:=@List.getElem?_map
abbrev aSa:=@List.mem_append
abbrev aSb:=@List.eq_nil_of_length_eq_zero
abbrev aSc:=@List.mem_singleton
abbrev aSd:=@List.length_take
abbrev aSe:=@List.append_nil
abbrev aSf:=@List.getElem?_set_self
abbrev aSg:=@List.length_map
abbrev aSh:=@List.append_assoc
abbrev aSi:=@List.mem_filter
abbrev aSj:=@Nat.mul_le_mul_right
abbrev aSk:=@List.flatMap_append
abbrev aSl:=@List.filter_append
abbrev aSm:=@Option.map_some
abbrev aSn:=@List.flatMap_cons
abbrev aSo:=@List.length_cons
abbrev aSp:=@List.all_eq_true
abbrev aSq:=@List.map_append
abbrev aSr:=@List.mem_append_left
abbrev aSs:=@Nat.zero_add
abbrev aSt:=@List.length_filter_le
abbrev aSu:=@List.getElem?_eq_none
abbrev aSv:=@World.grownBy.refl
abbrev aSw:=@World.ownsRow_made
abbrev aSx:=@Joins.ownsRow_form
abbrev aSy:=@Prod.mk.injEq
abbrev aSz:=@Array.getElem?_eq_some_iff
abbrev aT0:=@Nat.sub_self
abbrev aT1:=@List.mem_or_eq_of_mem_set
abbrev aT2:=@Nat.succ_mul
abbrev aT3:=@World.cell?_alloc_past
abbrev aT4:=@Joins.unfrozen_of_block
abbrev aT5:=@List.getElem_of_mem
abbrev aT6:=@List.mem_of_find?_eq_some
abbrev aT7:=@List.drop_eq_nil_of_le
abbrev aT8:=@List.set_append_right
abbrev aT9:=@List.replicate_succ
abbrev aTa:=@List.nil_append
abbrev aTb:=@List.length_set
abbrev aTc:=@List.range_succ
abbrev aTd:=@List.cons_append
abbrev aTe:=@List.getElem?_replicate
abbrev aTf:=@List.take_length
abbrev aTg:=@List.length_drop
abbrev aTh:=@Option.some.injEq
abbrev aTi:=@List.mem_of_mem_take
abbrev aTj:=@Joins.cell_of_block
abbrev aTk:=@Int.eq_ofNat_of_zero_le
abbrev aTl:=@List.getElem?_cons_succ
abbrev aTm:=@List.getElem?_set_ne
abbrev aTn:=@List.map_cons
abbrev aTo:=@World.ownsRow.lt
abbrev aTp:=@Nat.lt_trans
abbrev aTq:=@Nat.testBit_zero
abbrev aTr:=@Int.toNat_natCast
abbrev aTs:=@List.take_append_of_le_length
abbrev aTt:=@List.set_set
abbrev aTu:=@List.filter_cons_of_pos
abbrev aTv:=@List.filter_cons_of_neg
abbrev aTw:=@World.frozen?_of_block
abbrev aTx:=@List.take_succ_cons
abbrev aTy:=@List.drop_succ_cons
abbrev aTz:=@Nat.testBit_succ
abbrev aU0:=@List.getElem?_cons_zero
abbrev aU1:=@Nat.div_add_mod
abbrev aU2:=@IntWalk.i64_quo
abbrev aU3:=@Below.heap_setCell
abbrev aU4:=@Nat.add_sub_cancel
abbrev aU5:=@Nat.two_pow_pos
abbrev aU6:=@Nat.eq_of_testBit_eq
abbrev aU7:=@Nat.testBit_two_pow
abbrev aU8:=@World.size_alloc
abbrev aU9:=@Nat.le_of_eq
abbrev aUa:=@Joins.block_setCell
abbrev aUb:=@Below.heap_alloc
abbrev O(v:Value)(w:World)(e:Ending)(w1:World):Prop:=e= .returned v∧Ext w w1
theorem Z {P:Program}{f:FuncId}{s:Array Value}{w:World}{v:Value}{R:World→Prop}{K:Ending→World→Prop}(H:Calls P f s w fun e w1=>e= .returned v∧R w1)(k: ∀w1,R w1→K (.returned v) w1):Calls P f s w K:=H.mono (by rintro e w1 ⟨rfl,h⟩;exact k w1 h)
def bE (K:Int):Nat→List Value
 |0=> []
 |m+1=>bE K m++ [.int .i64 (K+m)]
theorem iR (K:Int)(m:Nat):(bE K m).length=m:=by induction m with|zero=>rfl|succ m ih=>simp[bE,ih]
theorem mZ (K:Int): ∀(m j:Nat),j<m→(bE K m)[j]? =some (I (K+j)):=by
 intro m;induction m with
 |zero=>intro j h;omega
 |succ m ih=>
  intro j h;by_cases hj:j<m
  ·rw[bE,aS8 (by rw[iR];exact hj)];exact ih j hj
  obtain rfl:j=m:=by omega
  rw[bE,aS3 (by rw[iR];omega),iR];simp
theorem aE2 (K:Int)(k:Nat):bE K ((k+1)*1)=bE K (k*1)++ [I (K+(k*1:Nat))]:=by rw[aT2];rfl
theorem aE1 (K:Int)(k:Nat):bE K ((k+1)*4)=bE K (k*4)++ [I (K+(k*4:Nat)),I (K+(k*4:Nat)+1),I (K+(k*4:Nat)+1+1),I (K+(k*4:Nat)+1+1+1)]:=by
 have e1:K+((k*4+1:Nat):Int)=K+(k*4:Nat)+1:=by omega
 have e2:K+((k*4+2:Nat):Int)=K+(k*4:Nat)+1+1:=by omega
 have e3:K+((k*4+3:Nat):Int)=K+(k*4:Nat)+1+1+1:=by omega
 rw[aT2];show bE K (k*4)++ [I (K+(k*4:Nat))]++ [I (K+((k*4+1:Nat):Int))]++ [I (K+((k*4+2:Nat):Int))]++ [I (K+((k*4+3:Nat):Int))]=_;rw[e1,e2,e3];simp only[aSh,aTd,aTa]
section
open Go.ChangeShapes Go.WideShapes Go.ChangeAt Go.Deep Go.Proofs.Tryz
theorem eP {α:Type}(f:α→List Value)(sz:Nat)(hf: ∀a,(f a).length=sz): ∀(xs:List α) (k:Nat) (a:α),xs[k]? =some a→ ∀j,j<sz→(xs.flatMap f)[k*sz+j]? =(f a)[j]? :=by
 intro xs;induction xs with
 |nil=>intro k a h;simp at h
 |cons x xs ih=>
  intro k a h j hj;rw[aSn];cases k with
  |zero=>simp at h;subst h;rw[Nat.zero_mul,aSs,aS8 (by rw[hf];exact hj)]
  |succ k=>rw[aS3 (by rw[hf,aT2];omega),hf];have:=ih k a (by simpa using h) j hj;rw[←this];congr 1;rw[aT2];omega
theorem cR {α:Type}(f:α→List Value)(sz:Nat)(hf: ∀a,(f a).length=sz)(xs:List α):(xs.flatMap f).length=xs.length*sz:=by
 induction xs with
 |nil=>simp
 |cons x xs ih=>rw[aSn,aRx,hf,ih,aSo,aT2];omega
theorem mH (b o n:Nat):(⟨b,o,none⟩:Addr).add n=⟨b,o+n,none⟩:=by unfold Addr.add;split<;>simp_all
def B64 (x:Int):Prop:= -9223372036854775808≤x∧x≤9223372036854775807
theorem aOl {x:Int}(h:(Lit.int .i64 x).wf=true):B64 x:=bounds_i64 h
section
variable {H:Type} {enc:TypeId×Value→H} {w:World} {base:Nat} {spare:Nat→Bool} {held:Bool} {b0:Nat} {r:Reach} {v:Value} {d:DataW H} {p:List MemPlace}
theorem gG {n:Nat}{c:Value}{y:DataW H×List MemPlace}(h:DataW.trod enc prog w base spare held n 3 [c]=some y): ∃x:Int,c=I x∧B64 x:=by obtain⟨x,e,_,hx⟩:=DataW.trod_int underlying3 h;exact⟨x,by simpa using e,aOl hx⟩
end
end
section
open Go.ChangeShapes Go.WideShapes Go.ChangeAt Go.Deep Go.Proofs.Tryz
structure Sl (w:World) (p:OA) (n cap sz:Nat) (cs:List Value):Prop where
 len:cs.length=n*sz
 le:n≤cap
 mx:cap≤maxLen
 rd:0<n→ ∃b off,p=some ⟨b,off,none⟩∧b<w.heap.size∧ ∀k,k<n*sz→w.cell? ⟨b,off+k,none⟩=cs[k]?
theorem Sl.ext {w w':World}{p:OA}{n cap sz:Nat}{cs:List Value}(h:Sl w p n cap sz cs)(hb:Ext w w'):Sl w' p n cap sz cs:=
 ⟨h.len,h.le,h.mx,fun h0=>by
  obtain⟨b,a,rfl,h1,h2⟩:=h.rd h0
  exact⟨b,a,rfl,aRo h1 hb.sz,fun k hk=>(hb.cells.1 _ _ h1).trans (h2 k hk)⟩⟩
theorem Sl.nil (w:World)(sz:Nat):Sl w none 0 0 sz []:=⟨by simp,aRp _,aRv _,fun h=>absurd h (by omega)⟩
theorem Sl.bd {w:World}{p:OA}{n cap sz:Nat}{cs:List Value}(h:Sl w p n cap sz cs):n≤9223372036854775807:=by have:=h.le;have:=h.mx;unfold maxLen at this;omega
theorem Sl.own {w:World}{base n cap sz:Nat}{e:TypeId}{p:OA}{xs:List Value}(h:w.ownsRow base e sz (.slice p n cap) n xs):Sl w p n cap sz xs:=by
 rcases h.2 with⟨h1,h2⟩|⟨g,cap',cur,h1,hb,hg,hn,hm,hs,ht⟩
 ·injection h1 with e1 e2 e3;subst e1 e2 e3;have:=h.1;exact⟨this,aRp _,aRv _,fun h=>absurd h (by omega)⟩
 injection h1 with e1 e2 e3;subst e1 e3;exact⟨h.1,hn,hm,fun h0=>⟨g,0,rfl,(aSz.1 hg).1,fun k hk=>by rw[aSs];exact h.cellAt k hk⟩⟩
theorem Sl.at_ {α:Type}{w:World}{p:OA}{n cap sz:Nat}{f:α→List Value}{xs:List α}(hf: ∀a,(f a).length=sz)(h:Sl w p n cap sz (xs.flatMap f)){k:Nat}(hk:k<n)(hs:0<sz):
  ∃b off x,p=some ⟨b,off,none⟩∧xs[k]? =some x∧b<w.heap.size∧ ∀j,j<sz→w.cell? ⟨b,off+(k*sz+j),none⟩=(f x)[j]? :=by
 obtain⟨b,off,rfl,hb,hc⟩:=h.rd (by omega);have hl:xs.length=n:=by have:=h.len;rw[cR f sz hf]at this;exact Nat.eq_of_mul_eq_mul_right hs this
 have c:k<xs.length:=by rw[hl];exact hk
 have hx:xs[k]? =some (xs[k]'c):=aRq c;refine⟨b,off,_,rfl,hx,hb,fun j hj=> ?_⟩;have d:k*sz+j<n*sz:=by have:=aSj sz hk;rw[aT2]at this;omega
 rw[hc _ d];exact eP f sz hf _ _ _ hx j hj
abbrev iv (x:Int):Value:= .int .i64 x
abbrev ivs (xs:List Int):List Value:=xs.map iv
theorem sL (xs:List Int):xs.flatMap (fun x=> [iv x])=ivs xs:=by induction xs with|nil=>rfl|cons x xs ih=>simp_all
theorem Sl.int_at {w:World}{p:OA}{n cap:Nat}{xs:List Int}(h:Sl w p n cap 1 (ivs xs)){k:Nat}(hk:k<n):
  ∃b off x,p=some ⟨b,off,none⟩∧xs[k]? =some x∧b<w.heap.size∧w.cell? ⟨b,off+k,none⟩=some (iv x):=by
 rw[←sL]at h;obtain⟨b,off,x,hp,hx,hb,hc⟩:=Sl.at_ (sz:=1) (f:=fun x=> [iv x]) (fun _=>rfl) h hk Nat.one_pos;exact⟨b,off,x,hp,hx,hb,by simpa using hc 0 (by omega)⟩
theorem Sl.ilen {w:World}{p:OA}{n cap:Nat}{xs:List Int}(h:Sl w p n cap 1 (ivs xs)):xs.length=n:=by simpa using h.len
theorem qP {α:Type}{xs:List α}{k:Nat}{x:α}(h:xs[k]? =some x):xs.drop k=x::xs.drop (k+1):=by obtain⟨hk,rfl⟩:=aRt.1 h;exact List.drop_eq_getElem_cons hk
theorem aY {α:Type}{xs:List α}{k:Nat}{x:α}(h:xs[k]? =some x):xs.take (k+1)=xs.take k++ [x]:=by obtain⟨hk,rfl⟩:=aRt.1 h;rw[List.take_succ_eq_append_getElem hk]
theorem aQe {w:World}{p:OA}{n cap sz m:Nat}{cs:List Value}(h:Sl w p n cap sz cs)(hm:m≤n):Sl w p m cap sz (cs.take (m*sz)):=by have hl:=h.len;have c:m*sz≤n*sz:=aSj _ hm;refine⟨by rw[aSd];omega,aRz hm h.le,h.mx,fun h0=> ?_⟩;obtain⟨b,a,rfl,hb,hc⟩:=h.rd (by omega);exact⟨b,a,rfl,hb,fun k hk=>by rw[hc k (by omega),List.getElem?_take,if_pos hk]⟩
theorem aOy {w:World}{p:OA}{n cap m:Nat}{xs:List Int}(h:Sl w p n cap 1 (ivs xs))(hm:m≤n):Sl w p m cap 1 (ivs (xs.take m)):=by have:=aQe h hm;rwa[Nat.mul_one,←List.map_take]at this
section
variable {H:Type} {enc:TypeId×Value→H} {w:World} {base:Nat} {spare:Nat→Bool} {held:Bool} {b0:Nat} {r:Reach} {v:Value} {d:DataW H} {p:List MemPlace}
theorem xD {α:Type}[Inhabited α](f:α→List Value)(c:α→Prop)(sz:Nat){t e:TypeId}{o:Nat}{x:DataW H×List MemPlace}(ht:prog.underlying t=some (.slice e))(hc:prog.cellsOf e=sz)(hs:0<sz)(hf: ∀a,(f a).length=sz)
  (r: ∀n cs y,DataW.trod enc prog w base spare held n e cs=some y→ ∃a,cs=f a∧c a)
  (h:DataW.trod enc prog w base spare held o t [v]=some x):
  ∃(xs:List α) (p:OA) (cap:Nat),v= .slice p xs cap∧Sl w p xs.length cap sz (xs.flatMap f)∧ ∀a∈xs,c a:=by
 rcases open_slice ht h with⟨hcs,hx⟩|⟨a,len,cap,m,n,D,Pl,hcs,hb,hl,hm,hmm,hx,hel⟩
 ·simp at hcs;subst hcs;exact⟨[],none,0,rfl,Sl.nil _ _,by simp⟩
 simp at hcs;subst hcs;by_cases h0:len=0
 ·subst h0;exact⟨[],some a,cap,rfl,⟨by simp,hl,hm,fun h=>absurd h (by simp)⟩,by simp⟩
 have ag:len≤m:=by rw[hmm];split<;>omega
 have ab: ∀i,i<len→ ∃x:α,w.cells? base (a.add (i*sz)) sz=some (f x)∧c x:=by intro i hi;obtain⟨af,h1,h2⟩:=hel i (by omega);obtain⟨x,rfl,hg⟩:=r _ _ _ h2;exact⟨x,by rw[←hc];exact h1,hg⟩
 obtain⟨V,hV⟩:=choose_lt (α:=α) (p:=fun i x=>w.cells? base (a.add (i*sz)) sz=some (f x)∧c x) ab;have d: ∀i,i<len→ ∀j,j<sz→w.cell? ((a.add (i*sz)).add j)=(f (V i))[j]? :=by intro i hi j hj;exact(World.cells?_some (hV i hi).1).2.2 j hj
 obtain⟨b,z,aa⟩:=a;have hz: ∃u,(f (V 0))[0]? =some u:=⟨_,aRq (by rw[hf];exact hs)⟩
 obtain⟨u,hu⟩:=hz;have q:=(d 0 (by omega) 0 hs).trans hu;have g:aa=none:=by simpa[Addr.add]using World.cell?_spot q
 subst g;have ad:b<w:=by simpa[Addr.add]using World.block_lt_of_cell? w _ q
 have l:((List.range len).map V).length=len:=by simp
 refine⟨(List.range len).map V,some ⟨b,z,none⟩,cap,by rw[l],?_,?_⟩
 ·rw[l];refine⟨by rw[cR f sz hf,l],hl,hm,fun _=>⟨b,z,rfl,ad,fun k hk=> ?_⟩⟩;have hi:k/sz<len:=Nat.div_lt_of_lt_mul (by rw[Nat.mul_comm];exact hk);have hj:k%sz<sz:=Nat.mod_lt _ hs;have s:k=k/sz*sz+k%sz:=by rw[Nat.mul_comm];exact(aU1 k sz).symm
  have ae:((List.range len).map V)[k/sz]? =some (V (k/sz)):=by simp[hi]
  have h1:=eP f sz hf _ _ _ ae (k%sz) hj;rw[←s]at h1;rw[h1,←d _ hi _ hj];rw[mH,mH,Nat.add_assoc,←s]
 intro x hx;obtain⟨i,hi,rfl⟩:=List.mem_map.1 hx;exact(hV i (by simpa using hi)).2
theorem aDv {b:Nat}{x:DataW H×List MemPlace}(h:DataW.trod enc prog w base spare held b 22 [v]=some x):
  ∃(xs:List Int) (p:OA) (cap:Nat),v= .slice p xs cap∧Sl w p xs.length cap 1 (ivs xs)∧ ∀a∈xs,B64 a:=by
 obtain⟨xs,p,cap,hv,hS,hg⟩:=xD (α:=Int) (fun x=> [iv x]) B64 1 underlying22 (by kernel_rfl) (by omega) (fun _=>rfl) (fun n cs y hy=>by
  obtain⟨a,rfl,_,ha⟩:=DataW.trod_int underlying3 hy
  exact⟨a,rfl,aOl ha⟩) h
 exact⟨xs,p,cap,hv,by rw[←sL];exact hS,hg⟩
end
end
section
def Blk (w:World)(g:Nat)(t:TypeId)(cs:Array Value):Prop:=w.heap[g]? =some (.cells cs t (0,0))
section
variable {w w':World} {g:Nat} {t:TypeId} {cs:Array Value}
theorem Blk.lt (h:Blk w g t cs):g<w.heap.size:=(aSz.1 h).1
theorem Blk.cell (h:Blk w g t cs)(i:Nat):w.cell? ⟨g,i,none⟩=cs[i]? :=cell_of_row w g i cs t (0,0) h
theorem Blk.frozen (h:Blk w g t cs)(i:Nat):w.frozen? ⟨g,i,none⟩=false:=by unfold Blk at h;simp[World.frozen?,h]
theorem Blk.new (w:World)(t:TypeId)(cs:Array Value):Blk (w.alloc (.cells cs t)) w t cs:=heap_alloc_new w _
theorem Blk.set (h:Blk w g t cs)(i:Nat)(u:Value):Blk (w.setCell ⟨g,i,none⟩ u) g t (cs.setIfInBounds i u):=by unfold Blk at h⊢;simp[World.setCell,Array.getElem?_modify,h]
theorem Blk.far (h:Blk w g t cs){p:Addr}(hp:g≠p.block)(u:Value):Blk (w.setCell p u) g t cs:=(aU3 w p u g hp).trans h
theorem Blk.ext (h:Blk w g t cs)(hb:Ext w w'):Blk w' g t cs:=(hb.block g h.lt).trans h
theorem Blk.alloc (h:Blk w g t cs)(o:Obj):Blk (w.alloc o) g t cs:=h.ext ((Ext.refl w).alloc o)
theorem Blk.grown {row:Option Nat}(h:Blk w g t cs)(hb:w.grownBy w' row)(hg:some g≠row):Blk w' g t cs:=(hb.block g h.lt hg).trans h
end
theorem Sl.new (w:World)(cs:Array Value)(t:TypeId)(n:Nat)(h:cs.size=n)(hn:n≤maxLen):Sl (w.alloc (.cells cs t)) (some ⟨w,0,none⟩) n n 1 cs.toList:=
 ⟨by simpa using h,aRp _,hn,fun _=>⟨w.heap.size,0,rfl,by simp,fun k hk=>by rw[aSs,(Blk.new w t cs).cell k];simp⟩⟩
def ExtR (R:Nat)(w w':World):Prop:=w.grownBy w' (some R)
theorem ExtR.refl (R:Nat)(w:World):ExtR R w w:=aSv _ _
theorem Ext.r {w w':World}(h:Ext w w')(R:Nat):ExtR R w w':=⟨h.os,h.tape,h.output,h.size,fun i hi _=>h.block i hi⟩
theorem ExtR.sz {R:Nat}{w w':World}(h:ExtR R w w'):w.heap.size≤w'.heap.size:=h.size
theorem ExtR.trans {R:Nat}{a b c:World}(h:ExtR R a b)(k:ExtR R b c):ExtR R a c:=
 ⟨k.os.trans h.os,k.tape.trans h.tape,k.output.trans h.output,aRz h.size k.size,fun i hi hne=>(k.block i (aRo hi h.size) hne).trans (h.block i hi hne)⟩
theorem ExtR.ext {R:Nat}{a b c:World}(h:ExtR R a b)(k:Ext b c):ExtR R a c:=h.trans (k.r R)
theorem ExtR.alloc {R:Nat}{a b:World}(h:ExtR R a b)(o:Obj):ExtR R a (b.alloc o):=h.ext ((Ext.refl b).alloc o)
theorem ExtR.drew {R:Nat}{a b:World}(h:ExtR R a b):ExtR R a b.drew:=h.ext (Ext.drew (Ext.refl b))
theorem ExtR.drewN {R:Nat}{a b:World}(h:ExtR R a b)(n:Nat):ExtR R a (b.drewN n):=h.ext (Ext.drewN (Ext.refl b) n)
theorem ExtR.setCell {R:Nat}{a b:World}(h:ExtR R a b){p:Addr}(hp:p.block=R∨a.heap.size≤p.block)(u:Value):ExtR R a (b.setCell p u):=
 ⟨h.os,h.tape,h.output,by simpa[World.setCell]using h.size,fun i hi hne=>(aU3 b p u i (by
  rintro rfl;rcases hp with hp|hp
  ·exact hne (by rw[hp])
  ·omega)).trans (h.block i hi hne)⟩
theorem ExtR.new {R:Nat}{a b c:World}(h:Ext a b)(k:ExtR R b c)(hR:a.heap.size≤R):Ext a c:=
 h.grown k (fun i hi=>by simp at hi;omega)
theorem ExtR.grown {R:Nat}{a b c:World}{row:Option Nat}(h:ExtR R a b)(hg:b.grownBy c row)(hr: ∀k,row=some k→a.heap.size≤k∨k=R):ExtR R a c:=
 ⟨hg.os.trans h.os,hg.tape.trans h.tape,hg.output.trans h.output,aRz h.size hg.size,fun i hi hne=>(hg.block i (aRo hi h.size) (fun e=>by
  rcases hr i e.symm with h|h
  ·omega
  ·exact hne (by rw[h]))).trans (h.block i hi hne)⟩
theorem ExtR.cell {R:Nat}{w w':World}(h:ExtR R w w'){b:Nat}(o:Nat)(hb:b<w.heap.size)(a:b≠R):w'.cell? ⟨b,o,none⟩=w.cell? ⟨b,o,none⟩:=
 World.cell?_of_block (h.block b hb (fun e=>a (by injection e)))
theorem ExtR.own {R base sz n:Nat}{e:TypeId}{w w':World}{v:Value}{xs:List Value}(h:ExtR R w w')(ho:w.ownsRow base e sz v n xs)(hb:R<base):w'.ownsRow base e sz v n xs:=
 ho.kept h (.inr (fun hh=>by have:=ho.lt R hh;omega))
theorem ExtR.sl {R n cap sz b0:Nat}{w w':World}{p:OA}{cs:List Value}(h:ExtR R w w')(hs:Sl w p n cap sz cs)(hp:0<n→ ∀b off,p=some ⟨b,off,none⟩→b≠R):Sl w' p n cap sz cs:=
 ⟨hs.len,hs.le,hs.mx,fun h0=>by
  obtain⟨b,off,rfl,h1,h2⟩:=hs.rd h0
  exact⟨b,off,rfl,aRo h1 h.sz,fun k hk=>(h.cell _ h1 (hp h0 b off rfl)).trans (h2 k hk)⟩⟩
theorem Blk.tri {w:World}{g:Nat}{t:TypeId}{a0 a1 a2:Value}(h:Blk w g t #[a0,a1,a2]):w.cell? ⟨g,0,none⟩=some a0∧w.cell? ⟨g,1,none⟩=some a1∧w.cell? ⟨g,2,none⟩=some a2:=
 ⟨h.cell 0,h.cell 1,h.cell 2⟩
theorem Blk.trif {w:World}{g:Nat}{t:TypeId}{a0 a1 a2:Value}(h:Blk w g t #[a0,a1,a2]):w.cell? ⟨g,0,none⟩=some a0∧w.frozen? ⟨g,0,none⟩=false∧w.cell? ⟨g,1,none⟩=some a1∧w.frozen? ⟨g,1,none⟩=false∧w.cell? ⟨g,2,none⟩=some a2∧w.frozen? ⟨g,2,none⟩=false:=
 ⟨h.cell 0,h.frozen 0,h.cell 1,h.frozen 1,h.cell 2,h.frozen 2⟩
theorem Blk.ten {w:World}{g:Nat}{t:TypeId}{a0 a1 a2 a3 a4 a5 a6 a7 a8 a9:Value}(h:Blk w g t #[a0,a1,a2,a3,a4,a5,a6,a7,a8,a9]):w.cell? ⟨g,0,none⟩=some a0∧w.cell? ⟨g,1,none⟩=some a1∧w.cell? ⟨g,2,none⟩=some a2∧w.cell? ⟨g,3,none⟩=some a3∧w.cell? ⟨g,4,none⟩=some a4∧w.cell? ⟨g,5,none⟩=some a5∧w.cell? ⟨g,6,none⟩=some a6∧w.cell? ⟨g,7,none⟩=some a7∧w.cell? ⟨g,8,none⟩=some a8∧w.cell? ⟨g,9,none⟩=some a9:=
 ⟨h.cell 0,h.cell 1,h.cell 2,h.cell 3,h.cell 4,h.cell 5,h.cell 6,h.cell 7,h.cell 8,h.cell 9⟩
theorem Blk.tenf {w:World}{g:Nat}{t:TypeId}{a0 a1 a2 a3 a4 a5 a6 a7 a8 a9:Value}(h:Blk w g t #[a0,a1,a2,a3,a4,a5,a6,a7,a8,a9]):w.cell? ⟨g,0,none⟩=some a0∧w.frozen? ⟨g,0,none⟩=false∧w.cell? ⟨g,1,none⟩=some a1∧w.frozen? ⟨g,1,none⟩=false∧w.cell? ⟨g,2,none⟩=some a2∧w.frozen? ⟨g,2,none⟩=false∧w.cell? ⟨g,3,none⟩=some a3∧w.frozen? ⟨g,3,none⟩=false∧w.cell? ⟨g,4,none⟩=some a4∧w.frozen? ⟨g,4,none⟩=false∧w.cell? ⟨g,5,none⟩=some a5∧w.frozen? ⟨g,5,none⟩=false∧w.cell? ⟨g,6,none⟩=some a6∧w.frozen? ⟨g,6,none⟩=false∧w.cell? ⟨g,7,none⟩=some a7∧w.frozen? ⟨g,7,none⟩=false∧w.cell? ⟨g,8,none⟩=some a8∧w.frozen? ⟨g,8,none⟩=false∧w.cell? ⟨g,9,none⟩=some a9∧w.frozen? ⟨g,9,none⟩=false:=
 ⟨h.cell 0,h.frozen 0,h.cell 1,h.frozen 1,h.cell 2,h.frozen 2,h.cell 3,h.frozen 3,h.cell 4,h.frozen 4,h.cell 5,h.frozen 5,h.cell 6,h.frozen 6,h.cell 7,h.frozen 7,h.cell 8,h.frozen 8,h.cell 9,h.frozen 9⟩
theorem Blk.putr {R:Nat}{w5 w9:World}{t:TypeId}{a0 a1 a2 a3 a4 a5 a6 a7 a8 a9 b0 b1 b2 b3 b4 b5 b6 b7 b8 b9:Value}(H:Blk w5 R t #[a0,a1,a2,a3,a4,a5,a6,a7,a8,a9])(h9:((((((((((w5.setCell ⟨R,0,none⟩ b0).setCell ⟨R,1,none⟩ b1).setCell ⟨R,2,none⟩ b2).setCell ⟨R,3,none⟩ b3).setCell ⟨R,4,none⟩ b4).setCell ⟨R,5,none⟩ b5).setCell ⟨R,6,none⟩ b6).setCell ⟨R,7,none⟩ b7).setCell ⟨R,8,none⟩ b8).setCell ⟨R,9,none⟩ b9)=w9):Blk w9 R t #[b0,b1,b2,b3,b4,b5,b6,b7,b8,b9]∧ExtR R w5 w9:=by
 subst h9;have hR:=(((((((((((ExtR.refl _ w5).setCell (p:=⟨R,0,none⟩) (.inl rfl) b0).setCell (p:=⟨R,1,none⟩) (.inl rfl) b1).setCell (p:=⟨R,2,none⟩) (.inl rfl) b2).setCell (p:=⟨R,3,none⟩) (.inl rfl) b3).setCell (p:=⟨R,4,none⟩) (.inl rfl) b4).setCell (p:=⟨R,5,none⟩) (.inl rfl) b5).setCell (p:=⟨R,6,none⟩) (.inl rfl) b6).setCell (p:=⟨R,7,none⟩) (.inl rfl) b7).setCell (p:=⟨R,8,none⟩) (.inl rfl) b8).setCell (p:=⟨R,9,none⟩) (.inl rfl) b9)
 have Y:=((((((((((H.set 0 b0).set 1 b1).set 2 b2).set 3 b3).set 4 b4).set 5 b5).set 6 b6).set 7 b7).set 8 b8).set 9 b9)
 simp only[aS5,aS1,aS2]at Y;exact⟨Y,hR⟩
theorem xR {R:Nat}{w v:World}(h:ExtR R w v:=by(repeat' (first|exact ExtR.refl _ _|(with_reducible assumption)|(with_reducible refine ExtR.alloc ?_ _)|(with_reducible refine ExtR.setCell ?_ (.inr (by first|exact Nat.le_refl _|(dsimp only;omega)|(simp;done)|(simp;omega))) _)|(with_reducible refine ExtR.drew ?_)|(with_reducible refine ExtR.drewN ?_ _)|(refine ExtR.trans ?_ (by with_reducible assumption))|(refine ExtR.ext ?_ (by with_reducible assumption))))):ExtR R w v:=h
def nthL {α:Type}:List α→Nat→Option α
 | [],_=>none
 |a::_,0=>some a
 |_::l,n+1=>nthL l n
theorem nthL_eq {α:Type}: ∀(l:List α) (k:Nat),nthL l k=l[k]?
 | [],_=>by simp[nthL]
 |_::_,0=>by simp[nthL]
 |_::l,n+1=>by simp[nthL,nthL_eq l n]
theorem Blk.cl {w:World}{g:Nat}{t:TypeId}{l:List Value}(h:Blk w g t l.toArray)(k:Nat){v:Value}(hv:nthL l k=Option.some v:=by exact rfl):w.cell? ⟨g,k,none⟩=Option.some v:=by rw[h.cell k,←hv,nthL_eq];simp
end
structure Chg (B T:Nat) (w w':World):Prop where
 os:w'.os=w.os
 tape:w'.tape=w.tape
 output:w'.output=w.output
 size:w.heap.size≤w'.heap.size
 block: ∀i,i<w.heap.size→(i<B∨T≤i)→w'.heap[i]? =w.heap[i]?
theorem Chg.refl (B T:Nat)(w:World):Chg B T w w:=⟨rfl,rfl,rfl,aRp _,fun _ _ _=>rfl⟩
theorem Ext.chg {w w':World}(h:Ext w w')(B T:Nat):Chg B T w w':=⟨h.os,h.tape,h.output,h.size,fun i hi _=>h.block i hi⟩
theorem Chg.trans {B T:Nat}{a b c:World}(h:Chg B T a b)(k:Chg B T b c):Chg B T a c:=
 ⟨k.os.trans h.os,k.tape.trans h.tape,k.output.trans h.output,aRz h.size k.size,fun i hi hh=>(k.block i (aRo hi h.size) hh).trans (h.block i hi hh)⟩
theorem Chg.mono {B T B' T':Nat}{a b:World}(h:Chg B T a b)(hB:B'≤B)(hT:T≤T'):Chg B' T' a b:=
 ⟨h.os,h.tape,h.output,h.size,fun i hi hh=>h.block i hi (by omega)⟩
theorem Chg.ext {B T:Nat}{a b c:World}(h:Ext a b)(k:Chg B T b c)(hB:a.heap.size≤B):Ext a c:=
 ⟨k.os.trans h.os,k.tape.trans h.tape,k.output.trans h.output,aRz h.size k.size,fun i hi=>(k.block i (aRo hi h.size) (.inl (aRo hi hB))).trans (h.block i hi)⟩
theorem Chg.of_grown {B T:Nat}{w w':World}{row:Option Nat}(h:w.grownBy w' row)(hr: ∀g,row=some g→B≤g∧g<T):Chg B T w w':=
 ⟨h.os,h.tape,h.output,h.size,fun i hi hh=>h.block i hi (fun e=>by have:=hr i e.symm;omega)⟩
def OwnT (w:World)(B T:Nat)(e:TypeId)(sz:Nat)(p:OA)(n cap:Nat)(xs:List Value):Prop:=
 T≤w.heap.size∧((n=0∧cap=0∧xs= [])∨(w.ownsRow B e sz (.slice p n cap) n xs∧ ∀g,(Value.slice p n cap).ownBlock=some g→g<T))
theorem OwnT.of {w:World}{B:Nat}{e:TypeId}{sz n cap:Nat}{p:OA}{xs:List Value}(h:w.ownsRow B e sz (.slice p n cap) n xs):OwnT w B w e sz p n cap xs:=
 ⟨aRp _,.inr ⟨h,fun g hg=>(h.lt g hg).2⟩⟩
theorem OwnT.zero (w:World)(B:Nat)(e:TypeId)(sz:Nat)(p:OA):OwnT w B w e sz p 0 0 []:=⟨aRp _,.inl ⟨rfl,rfl,rfl⟩⟩
theorem OwnT.sl {w:World}{B T:Nat}{e:TypeId}{sz n cap:Nat}{p:OA}{xs:List Value}(h:OwnT w B T e sz p n cap xs):Sl w p n cap sz xs:=by
 rcases h.2 with⟨rfl,rfl,rfl⟩|h
 ·exact⟨by simp,aRp _,aRv _,fun h=>absurd h (by omega)⟩
 exact Sl.own h.1
theorem OwnT.top {w:World}{B T:Nat}{e:TypeId}{sz n cap:Nat}{p:OA}{xs:List Value}(h:OwnT w B T e sz p n cap xs){T':Nat}(h1:T≤T')(h2:T'≤w.heap.size):OwnT w B T' e sz p n cap xs:=by
 refine⟨h2,?_⟩;rcases h.2 with h|⟨h,k⟩
 ·exact .inl h
 exact .inr ⟨h,fun g hg=>aRo (k g hg) h1⟩
theorem OwnT.base {w:World}{B T:Nat}{e:TypeId}{sz n cap:Nat}{p:OA}{xs:List Value}(h:OwnT w B T e sz p n cap xs){B':Nat}(h1:B'≤B):OwnT w B' T e sz p n cap xs:=by
 refine⟨h.1,?_⟩;rcases h.2 with h|⟨h,k⟩
 ·exact .inl h
 refine .inr ⟨⟨h.1,?_⟩,k⟩;rcases h.2 with h2|⟨g,a,b,e1,hb,r⟩
 ·exact .inl h2
 exact .inr ⟨g,a,b,e1,aRz h1 hb,r⟩
theorem OwnT.chg {w w':World}{B T B' T':Nat}{e:TypeId}{sz n cap:Nat}{p:OA}{xs:List Value}(h:OwnT w B T e sz p n cap xs)(hc:Chg B' T' w w')(hd:T≤B'∨T'≤B):OwnT w' B T e sz p n cap xs:=by
 refine⟨aRz h.1 hc.size,?_⟩;rcases h.2 with h2|⟨h2,k⟩
 ·exact .inl h2
 refine .inr ⟨⟨h2.1,?_⟩,k⟩;rcases h2.2 with h3|⟨g,a,b,h1,hb,hg,hn,hm,hs,ht⟩
 ·exact .inl h3
 have c:(Value.slice p n cap).ownBlock=some g:=by rw[h1];rfl
 have h4:=k g c;exact .inr ⟨g,a,b,h1,hb,(hc.block g (aSz.1 hg).1 (by omega)).trans hg,hn,hm,hs,ht⟩
theorem OwnT.ext {w w':World}{B T:Nat}{e:TypeId}{sz n cap:Nat}{p:OA}{xs:List Value}(h:OwnT w B T e sz p n cap xs)(hx:Ext w w'):OwnT w' B T e sz p n cap xs:=h.chg (hx.chg T T) (.inl (aRp _))
theorem Sl.chg {w w':World}{B T n cap sz:Nat}{p:OA}{cs:List Value}(hs:Sl w p n cap sz cs)(h:Chg B T w w')(hp:0<n→ ∀b off,p=some ⟨b,off,none⟩→b<B∨T≤b):Sl w' p n cap sz cs:=
 ⟨hs.len,hs.le,hs.mx,fun h0=>by
  obtain⟨b,off,rfl,h1,h2⟩:=hs.rd h0
  exact⟨b,off,rfl,aRo h1 h.size,fun k hk=>(World.cell?_of_block (h.block b h1 (hp h0 b off rfl))).trans (h2 k hk)⟩⟩
section
open Go.Proofs.Tryz
structure ElT (P:Program) (t e:TypeId) (sz:Nat):Prop where
 ht:P.underlying t=some (.slice e)
 info: ∃i z,P.info? e=some i∧i.zero=some z∧i.size=sz∧i.bytes≤64∧z.cells.size=sz
 pos:0<sz
theorem oZ {w:World}{base sz n:Nat}{e:TypeId}{v:Value}{xs:List Value}(h:w.ownsRow base e sz v n xs): ∃p cap,v= .slice p n cap:=by
 rcases h.2 with⟨h1,h2⟩|⟨g,cap,_,h1,_⟩
 ·exact⟨none,0,by rw[h1,h2]⟩
 exact⟨_,cap,h1⟩
theorem Ext.own {a b c:World}{base sz n:Nat}{e:TypeId}{v:Value}{xs:List Value}(h:Ext a b)(ho:b.ownsRow base e sz v n xs)(hg:b.grownBy c v.ownBlock)(hb:a.heap.size≤base):Ext a c:=
 h.grown hg (fun q hq=>aRz hb (ho.lt q hq).1)
section
variable {P:Program} {w:World} {ops:Array Oper} {rest:List Oper} {o:Oper} {a:Act} {Q:Exit→Act→World→Prop}
theorem kD {α:Type}{t e:TypeId}{sz:Nat}(E:ElT P t e sz){f:α→List Value}(hf: ∀a,(f a).length=sz)(h1: ∀a,∀u∈f a,u.oneCell'=true)(q:o.guard=none)(s x:Operand)
  (ho:o.op= .call {callee:= .builtin .append,args:=#[s,x],argTypes:=#[t,t]})
  (base:Nat)(v:Value)(n:Nat)(xs:List α)(hs:a.eval s=v)(k:w.ownsRow base e sz v n (xs.flatMap f))
  (b g:Nat)(y:α)(c:Nat)(hx:a.eval x= .slice (some ⟨b,g,none⟩) 1 c)(hc: ∀j u,(f y)[j]? =some u→w.cell? ⟨b,g+j,none⟩=some u)
  (hn:n≤1099511627776) (d:base≤w.heap.size)
  (h: ∀p' cap' w',w'.ownsRow base e sz (.slice p' (n+1) cap') (n+1) ((xs++ [y]).flatMap f)→w.grownBy w' v.ownBlock→wpList P ops Q rest (a.put o.dst (.slice p' (n+1) cap')) w'):wpList P ops Q (o::rest) a w:=by
 obtain⟨i,z,hi,hz,r,m,aa⟩:=E.info;refine wpList_append_own w q s x t ho base e i z sz i.bytes E.ht hi hz r rfl aa E.pos v n _ hs k ⟨b,g,none⟩ 1 c (f y) hx (by rw[hf];omega) (fun j u hu=>by rw[mH];exact hc j u hu) (h1 y) (by unfold maxLen;omega) ?_ d ?_
 ·have:(n+1)*i.bytes≤(n+1)*64:=Nat.mul_le_mul_left _ m;omega
 intro v' w' h2 h3 _;obtain⟨p,l,rfl⟩:=oZ h2;exact h p l w' (by rw[aSk];simpa using h2) h3
theorem cM (E:ElT P 22 3 1)(i:o.guard=none)(s x:Operand)
  (ho:o.op= .call {callee:= .builtin .append,args:=#[s,x],argTypes:=#[22,22]})
  (base:Nat)(v:Value)(n:Nat)(xs:List Int)(hs:a.eval s=v)(g:w.ownsRow base 3 1 v n (ivs xs))
  (b e:Nat)(y:Int)(c:Nat)(hx:a.eval x= .slice (some ⟨b,e,none⟩) 1 c)(hc:w.cell? ⟨b,e,none⟩=some (iv y))
  (hn:n≤1099511627776)(d:base≤w.heap.size)
  (h: ∀p' cap' w',w'.ownsRow base 3 1 (.slice p' (n+1) cap') (n+1) (ivs (xs++ [y]))→w.grownBy w' v.ownBlock→wpList P ops Q rest (a.put o.dst (.slice p' (n+1) cap')) w'):wpList P ops Q (o::rest) a w:=by
 refine kD E (f:=fun x=> [iv x]) (fun _=>rfl) (fun _ u hu=>by simp at hu;subst hu;rfl) i s x ho base v n xs hs (by rw[sL];exact g) b e y c hx (fun j u hu=> ?_) hn d (fun p' cap' w' h2 h3=>h p' cap' w' (by rw[sL]at h2;exact h2) h3)
 match j,hu with
 |0,hu=>simp at hu;subst hu;exact hc
end
theorem fQ:ElT prog 22 3 1:=
 ⟨underlying22,by
  obtain⟨i,hi,h0,h1,h2⟩:=info_parts (show(prog.info? 3).map (fun i=>(i.zero,i.size,i.bytes))=some (some (I 0),1,8) by kernel_rfl)
  exact⟨i,_,hi,h0,h1,by omega,rfl⟩,Nat.one_pos⟩
end
def eG:List Int→List Int→Bool
 |_,[]=>true
 |seen,x::xs=>decide (0≤x∧x≤99)&& !(decide (0<x)&&seen.contains x)&&eG (seen++ [x]) xs
def kN (aA aB:Int)(n:Nat):Bool:=decide (2≤aA∧aA≤4∧2≤aB∧aB≤3∧(n:Int)=aA*aB)
def aO (aA aB:Int)(xs:List Int):Bool:=kN aA aB xs.length&&eG [] xs
theorem tC (a:List Int)(x:Int)(xs:List Int):eG a (x::xs)=(decide (0≤x∧x≤99)&& !(decide (0<x)&&a.contains x)&&eG (a++ [x]) xs):=rfl
theorem yL {xs:List Int}{k:Nat}{x:Int}(h:xs[k]? =some x):eG (xs.take k) (xs.drop k)=(decide (0≤x∧x≤99)&& !(decide (0<x)&&(xs.take k).contains x)&&eG (xs.take (k+1)) (xs.drop (k+1))):=by rw[qP h,aY h,tC]
theorem vI {xs:List Int}{k:Nat}(h:xs.length≤k):eG (xs.take k) (xs.drop k)=true:=by rw[aT7 h];rfl
theorem fK: ∀(xs seen:List Int),eG seen xs=true↔(∀x∈xs,0≤x∧x≤99)∧(∀x∈xs,0<x→x∉seen)∧(xs.filter (fun x=>decide (0<x))).Nodup:=by
 intro xs;induction xs with
 |nil=>intro seen;simp[eG]
 |cons x xs ih=>
  intro seen;rw[tC,aRy,aRy,ih];simp only[decide_eq_true_eq,Bool.not_eq_true',Bool.and_eq_false_iff,decide_eq_false_iff_not,List.contains_eq_mem,aS6,aSa,List.not_mem_nil,or_false];constructor
  ·rintro⟨⟨h1,h2⟩,h3,h4,h5⟩;refine⟨?_,?_,?_⟩
   ·rintro y (rfl|hy)
    ·exact h1
    exact h3 y hy
   ·rintro y (rfl|hy) h0
    ·rcases h2 with h2|h2
     ·omega
     exact h2
    exact fun h=>h4 y hy h0 (.inl h)
   by_cases h0:0<x
   ·rw[aTu (by simpa using h0),List.nodup_cons];refine⟨fun hm=> ?_,h5⟩;have:=aSi.1 hm;exact h4 x this.1 h0 (.inr rfl)
   rw[aTv (by simpa using h0)];exact h5
  rintro⟨h1,h2,h3⟩;refine⟨⟨h1 x (.inl rfl),?_⟩,fun y hy=>h1 y (.inr hy),?_,?_⟩
  ·by_cases h0:0<x
   ·exact .inr (h2 x (.inl rfl) h0)
   exact .inl h0
  ·intro y hy h0 h;rcases h with h|rfl
   ·exact h2 y (.inr hy) h0 h
   rw[aTu (by simpa using h0),List.nodup_cons]at h3;exact h3.1 (aSi.2 ⟨hy,by simpa using h0⟩)
  by_cases h0:0<x
  ·rw[aTu (by simpa using h0),List.nodup_cons]at h3;exact h3.2
  rw[aTv (by simpa using h0)]at h3;exact h3
theorem cE {aA aB:Int}{n:Nat}(h:kN aA aB n=true):2≤aA∧aA≤4∧2≤aB∧aB≤3∧4≤n∧n≤12∧(n:Int)=aA*aB:=by
 simp only[kN,decide_eq_true_eq]at h;obtain⟨h1,h2,h3,h4,h5⟩:=h;have hw:aA=2∨aA=3∨aA=4:=by omega
 have hd:aB=2∨aB=3:=by omega
 refine⟨h1,h2,h3,h4,?_,?_,h5⟩
 ·rcases hw with rfl|rfl|rfl<;>rcases hd with rfl|rfl<;>omega
 rcases hw with rfl|rfl|rfl<;>rcases hd with rfl|rfl<;>omega
theorem zX {aA aB:Int}{n:Nat}(hs:kN aA aB n=false):aA<2∨2≤aA∧4<aA∨2≤aA∧aA≤4∧aB<2∨2≤aA∧aA≤4∧2≤aB∧3<aB∨2≤aA∧aA≤4∧2≤aB∧aB≤3∧0≤aA*aB∧aA*aB≤12∧((n:Int)!=aA*aB)=true:=by
 simp only[kN,decide_eq_false_iff_not]at hs;by_cases a1:2≤aA
 ·by_cases a2:aA≤4
  ·by_cases a3:2≤aB
   ·by_cases a4:aB≤3
    ·refine .inr (.inr (.inr (.inr ⟨a1,a2,a3,a4,?_,?_,?_⟩)))
     ·exact Int.mul_nonneg (by omega) (by omega)
     ·have:=Int.mul_le_mul a2 a4 (by omega) (by omega);omega
     simp only[bne_iff_ne,ne_eq];exact fun e=>hs ⟨a1,a2,a3,a4,e⟩
    exact .inr (.inr (.inr (.inl ⟨a1,a2,a3,by omega⟩)))
   exact .inr (.inr (.inl ⟨a1,a2,by omega⟩))
  exact .inr (.inl ⟨a1,by omega⟩)
 exact .inl (by omega)
def rR (xs:List Int)(cs:Array Value):Prop:=cs.size=100∧ ∀j:Nat,j<100→cs[j]? =some (.bool (decide (0<j)&&xs.contains (j:Int)))
theorem aD1:rR [] (Array.replicate 100 (.bool false)):=⟨by simp,fun j hj=>by rw[Array.getElem?_replicate,if_pos hj];simp⟩
theorem aD0 {xs:List Int}{cs:Array Value}(h:rR xs cs)(x:Int)(h0:0≤x)(h1:x≤99)(hx:0<x→xs.contains x=false):rR (xs++ [x]) (cs.setIfInBounds x.toNat (.bool (decide (0<x)))):=by
 refine⟨by simpa using h.1,fun j hj=> ?_⟩;rw[Array.getElem?_setIfInBounds];by_cases e:x.toNat=j
 ·subst e;rw[if_pos rfl,if_pos (by rw[h.1];exact hj)];have:((x.toNat:Nat):Int)=x:=by omega
  rw[this];simp
 rw[if_neg e,h.2 j hj];have a:((j:Int)==x)=false:=by rw[beq_eq_false_iff_ne];omega
 rw[beq_eq_false_iff_ne]at a;simp[List.contains_eq_mem,aSa,a]
section
open Go.Proofs.Tryz
abbrev aH (aA aB:Int)(p:OA)(n cap:Nat):Value:= .agg #[aA,aB,.slice p n cap]
theorem aH7 (aA aB:Int)(p:OA)(n cap:Nat)(w:World)(hn:n≤9223372036854775807)
  (h:aA<2∨2≤aA∧4<aA∨2≤aA∧aA≤4∧aB<2∨2≤aA∧aA≤4∧2≤aB∧3<aB∨2≤aA∧aA≤4∧2≤aB∧aB≤3∧0≤aA*aB∧aA*aB≤12∧((n:Int)!=aA*aB)=true):
  U 72 #[aH aA aB p n cap] w (O (.bool false) w):=by
 rcases h with h|⟨h0,h⟩|⟨h0,h1,h⟩|⟨h0,h1,h2,h⟩|⟨h0,h1,h2,h3,h4,h5,h⟩
 all_goals
  go_enter func72,ntmps72;go_wp2;go_ret;exact⟨rfl,by exact .alloc (.refl _) _⟩
theorem aLg:rR [] Tryz.zeroCells137:=⟨by kernel_rfl,by
 have e:Tryz.zeroCells137=Array.replicate 100 (.bool false):=by kernel_rfl
 rw[e];exact aD1.2⟩
theorem aEk (aA aB:Int)(p:OA)(n cap:Nat)(xs:List Int)(w:World)(h0:2≤aA)(h1:aA≤4)(h2:2≤aB)(h3:aB≤3)(h4:0≤aA*aB)(h5:aA*aB≤12)(h6:((n:Int)!=aA*aB)=false)(hn:n≤12)
  (HS:Hid (Sl w p n cap 1 (ivs xs))):
  U 72 #[aH aA aB p n cap] w (O (.bool (eG [] xs)) w):=by
 go_enter func72,ntmps72;go_wp2;clear h4 h5 h6;go_loopw [38] (fun i wr=> ∃(k:Nat) (cs:Array Value),k≤n∧i=I k∧Blk wr (w.heap.size+1) 137 cs∧rR (xs.take k) cs∧eG [] xs=eG (xs.take k) (xs.drop k)∧Ext w wr) (fun i _=>n-(intOf i).toNat)
 case atStart=>exact⟨0,_,aRv _,rfl,by have:=Blk.new (w.alloc (.cells #[aA,aB,.slice p n cap] 31)) 137 Tryz.zeroCells137;simpa using this,aLg,rfl,by exact .alloc (.alloc (.refl _) _) _⟩
 case round=>
  obtain⟨k,cs,hk,rfl,hb,ht,d,hE⟩:=hrel;have HB:=xQ hb;have HT:=xQ ht;by_cases hlt:k<n
  ·obtain⟨b,s,x,rfl,hx,m,l⟩:=(HS.out.ext hE).int_at hlt;have a:=xQ (d.trans (yL hx));have HX:=xQ hx;clear d hx hb ht;by_cases hr:0≤x∧x≤99
   ·obtain⟨f,g⟩:=hr;have j:wr.cell? ⟨w.heap.size+1,x.toNat,none⟩=some (.bool (decide (0<x)&&(xs.take k).contains x)):=by
     rw[HB.out.cell,HT.out.2 x.toNat (by omega)];congr 2;rw[show((x.toNat:Nat):Int)=x by omega];congr 1;simp
    have q:wr.frozen? ⟨w.heap.size+1,x.toNat,none⟩=false:=HB.out.frozen _;have o:x<100:=by omega
    cases hs:(decide (0<x)&&(xs.take k).contains x)with
    |true=>rw[hs]at j;have c:=xQ hs;clear hs;go_wp2;go_ret;exact⟨aQ (by rw[a.out,c.out];simp),hE⟩
    |false=>
     rw[hs]at j;have c:=xQ hs;clear hs;go_wp2;go_roundw
     case rel=>
      refine⟨k+1,_,by omega,by go_num,HB.out.set _ _,?_,?_,xE⟩
      ·rw[aY HX.out];refine aD0 HT x f g (fun h0=> ?_);have:=c.out;simpa[h0]using this
      rw[a.out,c.out];simp[f,g]
     case measure=>simp[intOf];omega
   have h:eG [] xs=false:=by rw[a.out];simp[hr]
   have HF:=xQ h;clear h;by_cases f:x<0
   ·go_wp2;go_ret;exact⟨aQ HF.out.symm,hE⟩
   have g:99<x:=by omega
   have r:0≤x:=by omega
   go_wp2;go_ret;exact⟨aQ HF.out.symm,hE⟩
  have a:=xQ (d.trans (vI (by have:=HS.out.ilen;omega)));clear d hb ht;go_wp2;go_ret;exact⟨aQ a.out.symm,hE⟩
theorem fY (aA aB:Int)(p:OA)(n cap:Nat)(xs:List Int)(w:World)(hS:Sl w p n cap 1 (ivs xs)):
  U 72 #[aH aA aB p n cap] w (O (.bool (aO aA aB xs)) w):=by
 have hl:=hS.ilen;unfold aO;rw[hl];cases hs:kN aA aB n with
 |true=>obtain⟨h1,h2,h3,h4,h5,h6,h7⟩:=cE hs;rw[Bool.true_and];exact aEk aA aB p n cap xs w h1 h2 h3 h4 (by omega) (by omega) (by simp[h7]) h6 hS
 |false=>rw[Bool.false_and];exact aH7 aA aB p n cap w hS.bd (zX hs)
end
end Go.Proofs.YtbgkcehffiogcacGreatDoor
