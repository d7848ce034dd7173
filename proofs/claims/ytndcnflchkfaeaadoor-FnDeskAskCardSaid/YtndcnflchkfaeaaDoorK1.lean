/-
  Texts of this proof, packed (@packed).
-/
import Derived.Below
import Derived.BigQuiet
import Derived.ChangeArms
import Derived.Deep.AppendLies
import Derived.Deep.DeepCutAuto
import Derived.Deep.DeepFit
import Derived.Deep.Draws
import Derived.Deep.QuietTactic
import Derived.Deep.RegionHeld3
import Derived.Deep.RegionLaw
import Derived.Deep.RegionWith
import Derived.Deep.Slices
import Derived.Deep.Strs
import Derived.Handy
import Derived.IntWalk
import Derived.Laws.AppendOwn
import Derived.Laws.OwnMore
import Derived.Laws.Rows
import Derived.Lib.Hide
import Derived.Lib.SmallJoins
import Derived.Maps.AppendAt
import Derived.OpenShut
import Derived.OwnWalk
import Derived.ProofKit
import Derived.RegionTactic
import Derived.ShutString
import Derived.Test.YtndcnflchkfaeaaDoorRows
import Derived.WalkKit
import Derived.WalkLawsBesides
import Derived.WalkSmall
import Derived.WalkSpells
namespace Go.Proofs.YtndcnflchkfaeaaDoor
open Go.RowKit
set_option linter.unusedVariables false
def Ext (w w':World):Prop:=Below w.heap.size w w'
theorem Ext.refl (w:World):Ext w w:=Below.refl _ _
theorem Ext.trans {a b c:World}(h:Ext a b)(k:Ext b c):Ext a c:=Below.trans h (Below.mono k h.size)
theorem Ext.alloc {a b:World}(h:Ext a b)(o:Obj):Ext a (b.alloc o):=Below.alloc h h.size o
theorem Ext.drew {a b:World}(h:Ext a b):Ext a b.drew:=Below.drew h
theorem Ext.drewN {a b:World}(h:Ext a b)(n:Nat):Ext a (b.drewN n):=below_drewN h n
theorem Ext.of_drew {a b:World}(h:Ext a.drew b):Ext a b:=⟨h.os,h.tape,h.output,h.size,h.block⟩
theorem Ext.setCell {a b:World}(h:Ext a b){p:Addr}(hp:a.heap.size≤p.block)(u:Value):Ext a (b.setCell p u):=Below.setCell h hp u
theorem Ext.grown {a b c:World}{row:Option Nat}(h:Ext a b)(hg:b.grownBy c row)(hr: ∀k,row=some k→a.heap.size≤k):Ext a c:=Below.grown h hg h.size hr
theorem Ext.cells {W w1:World}(hb:Ext W w1):(∀b o,b<W.heap.size→w1.cell? ⟨b,o,none⟩=W.cell? ⟨b,o,none⟩)∧(∀b o,b<W.heap.size→w1.frozen? ⟨b,o,none⟩=W.frozen? ⟨b,o,none⟩):=
 ⟨fun b o h=>Below.cell hb (p:=⟨b,o,none⟩) h,fun b o h=>Below.frozen hb (p:=⟨b,o,none⟩) h⟩
theorem Ext.sz {W w1:World}(hb:Ext W w1):W.heap.size≤w1.heap.size:=hb.size
def Rd (w:World)(v:Value)(n sz:Nat)(cs:List Value):Prop:=
 cs.length=n*sz∧((v= .slice none 0 0∧n=0)∨
  ∃b off cap,v= .slice (some ⟨b,off,none⟩) n cap∧n≤cap∧cap≤maxLen∧b<w.heap.size∧ ∀k,k<n*sz→w.cell? ⟨b,off+k,none⟩=cs[k]?)
theorem Rd.nil (w:World)(sz:Nat):Rd w (.slice none 0 0) 0 sz []:=⟨by simp,.inl ⟨rfl,rfl⟩⟩
theorem Rd.ext {w w':World}{v:Value}{n sz:Nat}{cs:List Value}(h:Rd w v n sz cs)(hb:Ext w w'):Rd w' v n sz cs:=by
 refine⟨h.1,?_⟩
 rcases h.2 with h|⟨b,off,cap,rfl,h1,h2,h3,h4⟩
 ·exact .inl h
 ·refine .inr ⟨b,off,cap,rfl,h1,h2,Nat.lt_of_lt_of_le h3 hb.size,fun k hk=> ?_⟩
  rw[Below.cell hb (p:=⟨b,off+k,none⟩) h3];exact h4 k hk
def Own (w:World)(base:Nat)(e:TypeId)(sz:Nat)(v:Value)(n:Nat)(xs:List Value):Prop:=
 w.ownsRow base e sz v n xs∨(n=0∧xs= []∧ ∃b off,v= .slice (some ⟨b,off,none⟩) 0 0∧b<w.heap.size)
theorem Own.len {w:World}{base:Nat}{e:TypeId}{sz:Nat}{v:Value}{n:Nat}{xs:List Value}(h:Own w base e sz v n xs):xs.length=n*sz:=by
 rcases h with h|⟨rfl,rfl,_⟩
 ·exact h.1
 ·simp
theorem Own.rd {w:World}{base:Nat}{e:TypeId}{sz:Nat}{v:Value}{n:Nat}{xs:List Value}(h:Own w base e sz v n xs):Rd w v n sz xs:=by
 refine⟨h.len,?_⟩
 rcases h with h|⟨rfl,rfl,b,off,rfl,hb⟩
 ·rcases h.2 with h2|⟨g,cap,cur,rfl,hb,hg,hn,hm,hs,ht⟩
  ·exact .inl h2
  ·refine .inr ⟨g,0,cap,rfl,hn,hm,(Array.getElem?_eq_some_iff.1 hg).1,fun k hk=> ?_⟩
   rw[Nat.zero_add];exact h.cellAt k hk
 ·exact .inr ⟨b,off,0,rfl,Nat.le_refl _,by simp[maxLen],hb,fun k hk=>by simp at hk⟩
theorem ret_bool {a b:Bool}(h:a=b):Ending.returned (.bool a)= .returned (.bool b):=by rw[h]
end Go.Proofs.YtndcnflchkfaeaaDoor

namespace Go.Proofs.YtndcnflchkfaeaaDoor
open Go.ChangeShapes Go.WideShapes Go.ChangeAt Go.RowKit Go.Deep
set_option linter.unusedVariables false
theorem flat_get {α:Type}(f:α→List Value)(sz:Nat)(hf: ∀a,(f a).length=sz): ∀(xs:List α) (k:Nat) (a:α),xs[k]? =some a→ ∀j,j<sz→(xs.flatMap f)[k*sz+j]? =(f a)[j]? :=by
 intro xs
 induction xs with
 |nil=>intro k a h;simp at h
 |cons x xs ih=>
  intro k a h j hj
  rw[List.flatMap_cons]
  cases k with
  |zero=>
   simp at h;subst h
   rw[Nat.zero_mul,Nat.zero_add,List.getElem?_append_left (by rw[hf];exact hj)]
  |succ k=>
   rw[List.getElem?_append_right (by rw[hf,Nat.succ_mul];omega),hf]
   have:=ih k a (by simpa using h) j hj
   rw[←this];congr 1
   rw[Nat.succ_mul];omega
theorem flat_len {α:Type}(f:α→List Value)(sz:Nat)(hf: ∀a,(f a).length=sz)(xs:List α):(xs.flatMap f).length=xs.length*sz:=by
 induction xs with
 |nil=>simp
 |cons x xs ih=>rw[List.flatMap_cons,List.length_append,hf,ih,List.length_cons,Nat.succ_mul];omega
theorem addr_add (b o n:Nat):(⟨b,o,none⟩:Addr).add n=⟨b,o+n,none⟩:=by
 unfold Addr.add;split<;>simp_all
section
variable {H:Type} {enc:TypeId×Value→H} {w:World} {base:Nat} {spare:Nat→Bool} {held:Bool} {b0:Nat} {r:Reach} {v:Value} {d:DataW H} {p:List MemPlace}
end
end Go.Proofs.YtndcnflchkfaeaaDoor

namespace Go.Proofs.YtndcnflchkfaeaaDoor
open Go.ChangeShapes Go.WideShapes Go.ChangeAt Go.RowKit Go.Deep
set_option linter.unusedVariables false
structure Sl (w:World) (p:Option Addr) (n cap sz:Nat) (cs:List Value):Prop where
 len:cs.length=n*sz
 le:n≤cap
 mx:cap≤maxLen
 rd:0<n→ ∃b off,p=some ⟨b,off,none⟩∧b<w.heap.size∧ ∀k,k<n*sz→w.cell? ⟨b,off+k,none⟩=cs[k]?
theorem Sl.ext {w w':World}{p:Option Addr}{n cap sz:Nat}{cs:List Value}(h:Sl w p n cap sz cs)(hb:Ext w w'):Sl w' p n cap sz cs:=
 ⟨h.len,h.le,h.mx,fun h0=>by
  obtain⟨b,off,rfl,h1,h2⟩:=h.rd h0
  exact⟨b,off,rfl,Nat.lt_of_lt_of_le h1 hb.sz,fun k hk=>(hb.cells.1 _ _ h1).trans (h2 k hk)⟩⟩
theorem Sl.nil (w:World)(sz:Nat):Sl w none 0 0 sz []:=⟨by simp,Nat.le_refl _,Nat.zero_le _,fun h=>absurd h (by omega)⟩
theorem Sl.bd {w:World}{p:Option Addr}{n cap sz:Nat}{cs:List Value}(h:Sl w p n cap sz cs):n≤9223372036854775807:=by
 have:=h.le;have:=h.mx;unfold maxLen at this;omega
theorem Sl.own {w:World}{base n cap sz:Nat}{e:TypeId}{p:Option Addr}{xs:List Value}(h:w.ownsRow base e sz (.slice p n cap) n xs):Sl w p n cap sz xs:=by
 rcases h.2 with⟨h1,h2⟩|⟨g,cap',cur,h1,hb,hg,hn,hm,hs,ht⟩
 ·injection h1 with e1 e2 e3
  subst e1 e2 e3
  have:=h.1
  exact⟨this,Nat.le_refl _,Nat.zero_le _,fun h=>absurd h (by omega)⟩
 ·injection h1 with e1 e2 e3
  subst e1 e3
  exact⟨h.1,hn,hm,fun h0=>⟨g,0,rfl,(Array.getElem?_eq_some_iff.1 hg).1,fun k hk=>by rw[Nat.zero_add];exact h.cellAt k hk⟩⟩
theorem Sl.at_ {α:Type}{w:World}{p:Option Addr}{n cap sz:Nat}{f:α→List Value}{xs:List α}(hf: ∀a,(f a).length=sz)(h:Sl w p n cap sz (xs.flatMap f)){k:Nat}(hk:k<n)(hs:0<sz):
  ∃b off x,p=some ⟨b,off,none⟩∧xs[k]? =some x∧b<w.heap.size∧ ∀j,j<sz→w.cell? ⟨b,off+(k*sz+j),none⟩=(f x)[j]? :=by
 obtain⟨b,off,rfl,hb,hc⟩:=h.rd (by omega)
 have hl:xs.length=n:=by
  have:=h.len
  rw[flat_len f sz hf]at this
  exact Nat.eq_of_mul_eq_mul_right hs this
 have hkl:k<xs.length:=by rw[hl];exact hk
 have hx:xs[k]? =some (xs[k]'hkl):=List.getElem?_eq_getElem hkl
 refine⟨b,off,_,rfl,hx,hb,fun j hj=> ?_⟩
 have hkj:k*sz+j<n*sz:=by
  have:=Nat.mul_le_mul_right sz hk
  rw[Nat.succ_mul]at this
  omega
 rw[hc _ hkj]
 exact flat_get f sz hf _ _ _ hx j hj
abbrev iv (x:Int):Value:= .int .i64 x
abbrev ivs (xs:List Int):List Value:=xs.map iv
theorem ivs_flat (xs:List Int):xs.flatMap (fun x=> [iv x])=ivs xs:=by induction xs with|nil=>rfl|cons x xs ih=>simp_all
theorem Sl.int_at {w:World}{p:Option Addr}{n cap:Nat}{xs:List Int}(h:Sl w p n cap 1 (ivs xs)){k:Nat}(hk:k<n):
  ∃b off x,p=some ⟨b,off,none⟩∧xs[k]? =some x∧b<w.heap.size∧w.cell? ⟨b,off+k,none⟩=some (iv x):=by
 rw[←ivs_flat]at h
 obtain⟨b,off,x,hp,hx,hb,hc⟩:=Sl.at_ (sz:=1) (f:=fun x=> [iv x]) (fun _=>rfl) h hk Nat.one_pos
 exact⟨b,off,x,hp,hx,hb,by simpa using hc 0 (by omega)⟩
theorem Sl.ilen {w:World}{p:Option Addr}{n cap:Nat}{xs:List Int}(h:Sl w p n cap 1 (ivs xs)):xs.length=n:=by simpa using h.len
theorem drop_cons {α:Type}{xs:List α}{k:Nat}{x:α}(h:xs[k]? =some x):xs.drop k=x::xs.drop (k+1):=by
 obtain⟨hk,rfl⟩:=List.getElem?_eq_some_iff.1 h
 exact List.drop_eq_getElem_cons hk
theorem take_snocL {α:Type}{xs:List α}{k:Nat}{x:α}(h:xs[k]? =some x):xs.take (k+1)=xs.take k++ [x]:=by
 obtain⟨hk,rfl⟩:=List.getElem?_eq_some_iff.1 h
 rw[List.take_succ_eq_append_getElem hk]
theorem sl_cut {w:World}{p:Option Addr}{n cap sz m:Nat}{cs:List Value}(h:Sl w p n cap sz cs)(hm:m≤n):Sl w p m cap sz (cs.take (m*sz)):=by
 have hl:=h.len
 have hms:m*sz≤n*sz:=Nat.mul_le_mul_right _ hm
 refine⟨by rw[List.length_take];omega,Nat.le_trans hm h.le,h.mx,fun h0=> ?_⟩
 obtain⟨b,off,rfl,hb,hc⟩:=h.rd (by omega)
 exact⟨b,off,rfl,hb,fun k hk=>by rw[hc k (by omega),List.getElem?_take,if_pos hk]⟩
section
variable {H:Type} {enc:TypeId×Value→H} {w:World} {base:Nat} {spare:Nat→Bool} {held:Bool} {b0:Nat} {r:Reach} {v:Value} {d:DataW H} {p:List MemPlace}
set_option maxRecDepth 100000 in
theorem open_slc {α:Type}[Inhabited α](f:α→List Value)(good:α→Prop)(sz:Nat){t e:TypeId}{fuel:Nat}{x:DataW H×List MemPlace}(ht:Tryd.prog.underlying t=some (.slice e))(hc:Tryd.prog.cellsOf e=sz)(hs:0<sz)(hf: ∀a,(f a).length=sz)
  (hdec: ∀n cs y,DataW.trod enc Tryd.prog w base spare held n e cs=some y→ ∃a,cs=f a∧good a)
  (h:DataW.trod enc Tryd.prog w base spare held fuel t [v]=some x):
  ∃(xs:List α) (p:Option Addr) (cap:Nat),v= .slice p xs.length cap∧Sl w p xs.length cap sz (xs.flatMap f)∧ ∀a∈xs,good a:=by
 rcases open_slice ht h with⟨hcs,hx⟩|⟨a,len,cap,m,n,D,Pl,hcs,hb,hl,hm,hmm,hx,hel⟩
 ·simp at hcs
  subst hcs
  exact⟨[],none,0,rfl,Sl.nil _ _,by simp⟩
 ·simp at hcs
  subst hcs
  by_cases h0:len=0
  ·subst h0
   exact⟨[],some a,cap,rfl,⟨by simp,hl,hm,fun h=>absurd h (by simp)⟩,by simp⟩
  ·have hml:len≤m:=by rw[hmm];split<;>omega
   have hex: ∀i,i<len→ ∃x:α,w.cells? base (a.add (i*sz)) sz=some (f x)∧good x:=by
    intro i hi
    obtain⟨cs',h1,h2⟩:=hel i (by omega)
    obtain⟨x,rfl,hg⟩:=hdec _ _ _ h2
    exact⟨x,by rw[←hc];exact h1,hg⟩
   obtain⟨V,hV⟩:=choose_lt (α:=α) (p:=fun i x=>w.cells? base (a.add (i*sz)) sz=some (f x)∧good x) hex
   have hcell: ∀i,i<len→ ∀j,j<sz→w.cell? ((a.add (i*sz)).add j)=(f (V i))[j]? :=by
    intro i hi j hj
    exact(World.cells?_some (hV i hi).1).2.2 j hj
   obtain⟨b,off,spot⟩:=a
   have hz: ∃u,(f (V 0))[0]? =some u:=⟨_,List.getElem?_eq_getElem (by rw[hf];exact hs)⟩
   obtain⟨u,hu⟩:=hz
   have hc0:=(hcell 0 (by omega) 0 hs).trans hu
   have hspot:spot=none:=by simpa[Addr.add]using World.cell?_spot hc0
   subst hspot
   have hlt:b<w.heap.size:=by simpa[Addr.add]using World.block_lt_of_cell? w _ hc0
   have hxl:((List.range len).map V).length=len:=by simp
   refine⟨(List.range len).map V,some ⟨b,off,none⟩,cap,by rw[hxl],?_,?_⟩
   ·rw[hxl]
    refine⟨by rw[flat_len f sz hf,hxl],hl,hm,fun _=>⟨b,off,rfl,hlt,fun k hk=> ?_⟩⟩
    have hi:k/sz<len:=Nat.div_lt_of_lt_mul (by rw[Nat.mul_comm];exact hk)
    have hj:k%sz<sz:=Nat.mod_lt _ hs
    have hkk:k=k/sz*sz+k%sz:=by rw[Nat.mul_comm];exact(Nat.div_add_mod k sz).symm
    have hxi:((List.range len).map V)[k/sz]? =some (V (k/sz)):=by simp[hi]
    have h1:=flat_get f sz hf _ _ _ hxi (k%sz) hj
    rw[←hkk]at h1
    rw[h1,←hcell _ hi _ hj]
    rw[addr_add,addr_add,Nat.add_assoc,←hkk]
   ·intro x hx
    obtain⟨i,hi,rfl⟩:=List.mem_map.1 hx
    exact(hV i (by simpa using hi)).2
end
end Go.Proofs.YtndcnflchkfaeaaDoor

namespace Go.Proofs.YtndcnflchkfaeaaDoor
open Go.RowKit
set_option linter.unusedVariables false
def Blk (w:World)(g:Nat)(t:TypeId)(cs:Array Value):Prop:=w.heap[g]? =some (.cells cs t (0,0))
section
variable {w w':World} {g:Nat} {t:TypeId} {cs:Array Value}
theorem Blk.lt (h:Blk w g t cs):g<w.heap.size:=(Array.getElem?_eq_some_iff.1 h).1
theorem Blk.cell (h:Blk w g t cs)(i:Nat):w.cell? ⟨g,i,none⟩=cs[i]? :=cell_of_row w g i cs t (0,0) h
theorem Blk.frozen (h:Blk w g t cs)(i:Nat):w.frozen? ⟨g,i,none⟩=false:=by unfold Blk at h;simp[World.frozen?,h]
theorem Blk.new (w:World)(t:TypeId)(cs:Array Value):Blk (w.alloc (.cells cs t)) w.heap.size t cs:=heap_alloc_new w _
theorem Blk.set (h:Blk w g t cs)(i:Nat)(u:Value):Blk (w.setCell ⟨g,i,none⟩ u) g t (cs.setIfInBounds i u):=by
 unfold Blk at h⊢
 simp[World.setCell,Array.getElem?_modify,h]
theorem Blk.far (h:Blk w g t cs){p:Addr}(hp:g≠p.block)(u:Value):Blk (w.setCell p u) g t cs:=(Below.heap_setCell w p u g hp).trans h
theorem Blk.ext (h:Blk w g t cs)(hb:Ext w w'):Blk w' g t cs:=(hb.block g h.lt).trans h
theorem Blk.alloc (h:Blk w g t cs)(o:Obj):Blk (w.alloc o) g t cs:=h.ext ((Ext.refl w).alloc o)
theorem Blk.grown {row:Option Nat}(h:Blk w g t cs)(hb:w.grownBy w' row)(hg:some g≠row):Blk w' g t cs:=(hb.block g h.lt hg).trans h
end
theorem Sl.new (w:World)(cs:Array Value)(t:TypeId)(n:Nat)(h:cs.size=n)(hn:n≤maxLen):Sl (w.alloc (.cells cs t)) (some ⟨w.heap.size,0,none⟩) n n 1 cs.toList:=
 ⟨by simpa using h,Nat.le_refl _,hn,fun _=>⟨w.heap.size,0,rfl,by simp,fun k hk=>by rw[Nat.zero_add,(Blk.new w t cs).cell k];simp⟩⟩
def ExtR (R:Nat)(w w':World):Prop:=w.grownBy w' (some R)
theorem ExtR.refl (R:Nat)(w:World):ExtR R w w:=World.grownBy.refl _ _
theorem Ext.r {w w':World}(h:Ext w w')(R:Nat):ExtR R w w':=⟨h.os,h.tape,h.output,h.size,fun i hi _=>h.block i hi⟩
theorem ExtR.sz {R:Nat}{w w':World}(h:ExtR R w w'):w.heap.size≤w'.heap.size:=h.size
theorem ExtR.trans {R:Nat}{a b c:World}(h:ExtR R a b)(k:ExtR R b c):ExtR R a c:=
 ⟨k.os.trans h.os,k.tape.trans h.tape,k.output.trans h.output,Nat.le_trans h.size k.size,fun i hi hne=>(k.block i (Nat.lt_of_lt_of_le hi h.size) hne).trans (h.block i hi hne)⟩
theorem ExtR.ext {R:Nat}{a b c:World}(h:ExtR R a b)(k:Ext b c):ExtR R a c:=h.trans (k.r R)
theorem ExtR.alloc {R:Nat}{a b:World}(h:ExtR R a b)(o:Obj):ExtR R a (b.alloc o):=h.ext ((Ext.refl b).alloc o)
theorem ExtR.drew {R:Nat}{a b:World}(h:ExtR R a b):ExtR R a b.drew:=h.ext (Ext.drew (Ext.refl b))
theorem ExtR.drewN {R:Nat}{a b:World}(h:ExtR R a b)(n:Nat):ExtR R a (b.drewN n):=h.ext (Ext.drewN (Ext.refl b) n)
theorem ExtR.setCell {R:Nat}{a b:World}(h:ExtR R a b){p:Addr}(hp:p.block=R∨a.heap.size≤p.block)(u:Value):ExtR R a (b.setCell p u):=
 ⟨h.os,h.tape,h.output,by simpa[World.setCell]using h.size,fun i hi hne=>(Below.heap_setCell b p u i (by
  rintro rfl
  rcases hp with hp|hp
  ·exact hne (by rw[hp])
  ·omega)).trans (h.block i hi hne)⟩
theorem ExtR.new {R:Nat}{a b c:World}(h:Ext a b)(k:ExtR R b c)(hR:a.heap.size≤R):Ext a c:=
 h.grown k (fun i hi=>by simp at hi;omega)
theorem ExtR.grown {R:Nat}{a b c:World}{row:Option Nat}(h:ExtR R a b)(hg:b.grownBy c row)(hr: ∀k,row=some k→a.heap.size≤k∨k=R):ExtR R a c:=
 ⟨hg.os.trans h.os,hg.tape.trans h.tape,hg.output.trans h.output,Nat.le_trans h.size hg.size,fun i hi hne=>(hg.block i (Nat.lt_of_lt_of_le hi h.size) (fun e=>by
  rcases hr i e.symm with h|h
  ·omega
  ·exact hne (by rw[h]))).trans (h.block i hi hne)⟩
theorem ExtR.cell {R:Nat}{w w':World}(h:ExtR R w w'){b:Nat}(o:Nat)(hb:b<w.heap.size)(hne:b≠R):w'.cell? ⟨b,o,none⟩=w.cell? ⟨b,o,none⟩:=
 World.cell?_of_block (h.block b hb (fun e=>hne (by injection e)))
theorem ExtR.own {R base sz n:Nat}{e:TypeId}{w w':World}{v:Value}{xs:List Value}(h:ExtR R w w')(ho:w.ownsRow base e sz v n xs)(hb:R<base):w'.ownsRow base e sz v n xs:=
 ho.kept h (.inr (fun hh=>by have:=ho.lt R hh;omega))
theorem ExtR.sl {R n cap sz b0:Nat}{w w':World}{p:Option Addr}{cs:List Value}(h:ExtR R w w')(hs:Sl w p n cap sz cs)(hp:0<n→ ∀b off,p=some ⟨b,off,none⟩→b≠R):Sl w' p n cap sz cs:=
 ⟨hs.len,hs.le,hs.mx,fun h0=>by
  obtain⟨b,off,rfl,h1,h2⟩:=hs.rd h0
  exact⟨b,off,rfl,Nat.lt_of_lt_of_le h1 h.sz,fun k hk=>(h.cell _ h1 (hp h0 b off rfl)).trans (h2 k hk)⟩⟩
theorem Blk.tri {w:World}{g:Nat}{t:TypeId}{a0 a1 a2:Value}(h:Blk w g t #[a0,a1,a2]):w.cell? ⟨g,0,none⟩=some a0∧w.cell? ⟨g,1,none⟩=some a1∧w.cell? ⟨g,2,none⟩=some a2:=
 ⟨h.cell 0,h.cell 1,h.cell 2⟩
theorem Blk.trif {w:World}{g:Nat}{t:TypeId}{a0 a1 a2:Value}(h:Blk w g t #[a0,a1,a2]):w.cell? ⟨g,0,none⟩=some a0∧w.frozen? ⟨g,0,none⟩=false∧w.cell? ⟨g,1,none⟩=some a1∧w.frozen? ⟨g,1,none⟩=false∧w.cell? ⟨g,2,none⟩=some a2∧w.frozen? ⟨g,2,none⟩=false:=
 ⟨h.cell 0,h.frozen 0,h.cell 1,h.frozen 1,h.cell 2,h.frozen 2⟩
end Go.Proofs.YtndcnflchkfaeaaDoor

namespace Go.Proofs.YtndcnflchkfaeaaDoor
open Go.RowKit
set_option linter.unusedVariables false
structure Chg (B T:Nat) (w w':World):Prop where
 os:w'.os=w.os
 tape:w'.tape=w.tape
 output:w'.output=w.output
 size:w.heap.size≤w'.heap.size
 block: ∀i,i<w.heap.size→(i<B∨T≤i)→w'.heap[i]? =w.heap[i]?
theorem Chg.refl (B T:Nat)(w:World):Chg B T w w:=⟨rfl,rfl,rfl,Nat.le_refl _,fun _ _ _=>rfl⟩
theorem Ext.chg {w w':World}(h:Ext w w')(B T:Nat):Chg B T w w':=⟨h.os,h.tape,h.output,h.size,fun i hi _=>h.block i hi⟩
theorem Chg.trans {B T:Nat}{a b c:World}(h:Chg B T a b)(k:Chg B T b c):Chg B T a c:=
 ⟨k.os.trans h.os,k.tape.trans h.tape,k.output.trans h.output,Nat.le_trans h.size k.size,fun i hi hh=>(k.block i (Nat.lt_of_lt_of_le hi h.size) hh).trans (h.block i hi hh)⟩
theorem Chg.mono {B T B' T':Nat}{a b:World}(h:Chg B T a b)(hB:B'≤B)(hT:T≤T'):Chg B' T' a b:=
 ⟨h.os,h.tape,h.output,h.size,fun i hi hh=>h.block i hi (by omega)⟩
theorem Chg.ext {B T:Nat}{a b c:World}(h:Ext a b)(k:Chg B T b c)(hB:a.heap.size≤B):Ext a c:=
 ⟨k.os.trans h.os,k.tape.trans h.tape,k.output.trans h.output,Nat.le_trans h.size k.size,fun i hi=>(k.block i (Nat.lt_of_lt_of_le hi h.size) (.inl (Nat.lt_of_lt_of_le hi hB))).trans (h.block i hi)⟩
def OwnT (w:World)(B T:Nat)(e:TypeId)(sz:Nat)(p:Option Addr)(n cap:Nat)(xs:List Value):Prop:=
 T≤w.heap.size∧((n=0∧cap=0∧xs= [])∨(w.ownsRow B e sz (.slice p n cap) n xs∧ ∀g,(Value.slice p n cap).ownBlock=some g→g<T))
theorem OwnT.of {w:World}{B:Nat}{e:TypeId}{sz n cap:Nat}{p:Option Addr}{xs:List Value}(h:w.ownsRow B e sz (.slice p n cap) n xs):OwnT w B w.heap.size e sz p n cap xs:=
 ⟨Nat.le_refl _,.inr ⟨h,fun g hg=>(h.lt g hg).2⟩⟩
theorem OwnT.zero (w:World)(B:Nat)(e:TypeId)(sz:Nat)(p:Option Addr):OwnT w B w.heap.size e sz p 0 0 []:=⟨Nat.le_refl _,.inl ⟨rfl,rfl,rfl⟩⟩
theorem OwnT.sl {w:World}{B T:Nat}{e:TypeId}{sz n cap:Nat}{p:Option Addr}{xs:List Value}(h:OwnT w B T e sz p n cap xs):Sl w p n cap sz xs:=by
 rcases h.2 with⟨rfl,rfl,rfl⟩|h
 ·exact⟨by simp,Nat.le_refl _,Nat.zero_le _,fun h=>absurd h (by omega)⟩
 ·exact Sl.own h.1
theorem OwnT.top {w:World}{B T:Nat}{e:TypeId}{sz n cap:Nat}{p:Option Addr}{xs:List Value}(h:OwnT w B T e sz p n cap xs){T':Nat}(h1:T≤T')(h2:T'≤w.heap.size):OwnT w B T' e sz p n cap xs:=by
 refine⟨h2,?_⟩
 rcases h.2 with h|⟨h,k⟩
 ·exact .inl h
 ·exact .inr ⟨h,fun g hg=>Nat.lt_of_lt_of_le (k g hg) h1⟩
theorem OwnT.base {w:World}{B T:Nat}{e:TypeId}{sz n cap:Nat}{p:Option Addr}{xs:List Value}(h:OwnT w B T e sz p n cap xs){B':Nat}(h1:B'≤B):OwnT w B' T e sz p n cap xs:=by
 refine⟨h.1,?_⟩
 rcases h.2 with h|⟨h,k⟩
 ·exact .inl h
 ·refine .inr ⟨⟨h.1,?_⟩,k⟩
  rcases h.2 with h2|⟨g,cap',cur,e1,hb,r⟩
  ·exact .inl h2
  ·exact .inr ⟨g,cap',cur,e1,Nat.le_trans h1 hb,r⟩
theorem OwnT.chg {w w':World}{B T B' T':Nat}{e:TypeId}{sz n cap:Nat}{p:Option Addr}{xs:List Value}(h:OwnT w B T e sz p n cap xs)(hc:Chg B' T' w w')(hd:T≤B'∨T'≤B):OwnT w' B T e sz p n cap xs:=by
 refine⟨Nat.le_trans h.1 hc.size,?_⟩
 rcases h.2 with h2|⟨h2,k⟩
 ·exact .inl h2
 ·refine .inr ⟨⟨h2.1,?_⟩,k⟩
  rcases h2.2 with h3|⟨g,cap',cur,h1,hb,hg,hn,hm,hs,ht⟩
  ·exact .inl h3
  ·have hgb:(Value.slice p n cap).ownBlock=some g:=by rw[h1];rfl
   have h4:=k g hgb
   exact .inr ⟨g,cap',cur,h1,hb,(hc.block g (Array.getElem?_eq_some_iff.1 hg).1 (by omega)).trans hg,hn,hm,hs,ht⟩
theorem OwnT.ext {w w':World}{B T:Nat}{e:TypeId}{sz n cap:Nat}{p:Option Addr}{xs:List Value}(h:OwnT w B T e sz p n cap xs)(hx:Ext w w'):OwnT w' B T e sz p n cap xs:=h.chg (hx.chg T T) (.inl (Nat.le_refl _))
theorem Sl.chg {w w':World}{B T n cap sz:Nat}{p:Option Addr}{cs:List Value}(hs:Sl w p n cap sz cs)(h:Chg B T w w')(hp:0<n→ ∀b off,p=some ⟨b,off,none⟩→b<B∨T≤b):Sl w' p n cap sz cs:=
 ⟨hs.len,hs.le,hs.mx,fun h0=>by
  obtain⟨b,off,rfl,h1,h2⟩:=hs.rd h0
  exact⟨b,off,rfl,Nat.lt_of_lt_of_le h1 h.size,fun k hk=>(World.cell?_of_block (h.block b h1 (hp h0 b off rfl))).trans (h2 k hk)⟩⟩
end Go.Proofs.YtndcnflchkfaeaaDoor

namespace Go.Proofs.YtndcnflchkfaeaaDoor
open Go.RowKit
set_option linter.unusedVariables false
structure ElT (P:Program) (t e:TypeId) (sz:Nat):Prop where
 ht:P.underlying t=some (.slice e)
 info: ∃i z,P.info? e=some i∧i.zero=some z∧i.size=sz∧i.bytes≤64∧z.cells.size=sz
 pos:0<sz
theorem own_form {w:World}{base sz n:Nat}{e:TypeId}{v:Value}{xs:List Value}(h:w.ownsRow base e sz v n xs): ∃p cap,v= .slice p n cap:=by
 rcases h.2 with⟨h1,h2⟩|⟨g,cap,_,h1,_⟩
 ·exact⟨none,0,by rw[h1,h2]⟩
 ·exact⟨_,cap,h1⟩
theorem Ext.own {a b c:World}{base sz n:Nat}{e:TypeId}{v:Value}{xs:List Value}(h:Ext a b)(ho:b.ownsRow base e sz v n xs)(hg:b.grownBy c v.ownBlock)(hb:a.heap.size≤base):Ext a c:=
 h.grown hg (fun q hq=>Nat.le_trans hb (ho.lt q hq).1)
section
variable {P:Program} {w:World} {ops:Array Oper} {rest:List Oper} {o:Oper} {a:Act} {Q:Exit→Act→World→Prop}
theorem wpList_append_el {α:Type}{t e:TypeId}{sz:Nat}(E:ElT P t e sz){f:α→List Value}(hf: ∀a,(f a).length=sz)(h1: ∀a,∀u∈f a,u.oneCell'=true)(hgd:o.guard=none)(s x:Operand)
  (ho:o.op= .call {callee:= .builtin .append,args:=#[s,x],argTypes:=#[t,t]})
  (base:Nat)(v:Value)(n:Nat)(xs:List α)(hs:a.eval s=v)(hown:w.ownsRow base e sz v n (xs.flatMap f))
  (b off:Nat)(y:α)(c:Nat)(hx:a.eval x= .slice (some ⟨b,off,none⟩) 1 c)(hc: ∀j u,(f y)[j]? =some u→w.cell? ⟨b,off+j,none⟩=some u)
  (hn:n≤1099511627776) (hbase:base≤w.heap.size)
  (h: ∀p' cap' w',w'.ownsRow base e sz (.slice p' (n+1) cap') (n+1) ((xs++ [y]).flatMap f)→w.grownBy w' v.ownBlock→wpList P ops Q rest (a.put o.dst (.slice p' (n+1) cap')) w'):wpList P ops Q (o::rest) a w:=by
 obtain⟨i,z,hi,hz,hsz,hby,hzs⟩:=E.info
 refine wpList_append_own w hgd s x t ho base e i z sz i.bytes E.ht hi hz hsz rfl hzs E.pos v n _ hs hown ⟨b,off,none⟩ 1 c (f y) hx (by rw[hf];omega) (fun j u hu=>by rw[addr_add];exact hc j u hu) (h1 y) (by unfold maxLen;omega) ?_ hbase ?_
 ·have:(n+1)*i.bytes≤(n+1)*64:=Nat.mul_le_mul_left _ hby
  omega
 ·intro v' w' h2 h3 _
  obtain⟨p,cap,rfl⟩:=own_form h2
  exact h p cap w' (by rw[List.flatMap_append];simpa using h2) h3
theorem wpList_append_int (E:ElT P 40 3 1)(hgd:o.guard=none)(s x:Operand)
  (ho:o.op= .call {callee:= .builtin .append,args:=#[s,x],argTypes:=#[40,40]})
  (base:Nat)(v:Value)(n:Nat)(xs:List Int)(hs:a.eval s=v)(hown:w.ownsRow base 3 1 v n (ivs xs))
  (b off:Nat)(y:Int)(c:Nat)(hx:a.eval x= .slice (some ⟨b,off,none⟩) 1 c)(hc:w.cell? ⟨b,off,none⟩=some (iv y))
  (hn:n≤1099511627776)(hbase:base≤w.heap.size)
  (h: ∀p' cap' w',w'.ownsRow base 3 1 (.slice p' (n+1) cap') (n+1) (ivs (xs++ [y]))→w.grownBy w' v.ownBlock→wpList P ops Q rest (a.put o.dst (.slice p' (n+1) cap')) w'):wpList P ops Q (o::rest) a w:=by
 refine wpList_append_el E (f:=fun x=> [iv x]) (fun _=>rfl) (fun _ u hu=>by simp at hu;subst hu;rfl) hgd s x ho base v n xs hs (by rw[ivs_flat];exact hown) b off y c hx (fun j u hu=> ?_) hn hbase (fun p' cap' w' h2 h3=>h p' cap' w' (by rw[ivs_flat]at h2;exact h2) h3)
 match j,hu with
 |0,hu=>simp at hu;subst hu;exact hc
end
theorem elInt:ElT Tryd.prog 40 3 1:=
 ⟨Tryd.underlying40,by
  obtain⟨i,hi,h0,h1,h2⟩:=info_parts (show(Tryd.prog.info? 3).map (fun i=>(i.zero,i.size,i.bytes))=some (some (.int .i64 0),1,8) by kernel_rfl)
  exact⟨i,_,hi,h0,h1,by omega,rfl⟩,Nat.one_pos⟩
end Go.Proofs.YtndcnflchkfaeaaDoor

namespace Go.Proofs.YtndcnflchkfaeaaDoor
open Go.RowKit
set_option linter.unusedVariables false
def cellsOk:List Int→List Int→Bool
 |_,[]=>true
 |seen,x::xs=>decide (0≤x∧x≤99)&& !(decide (0<x)&&seen.contains x)&&cellsOk (seen++ [x]) xs
def shapeOk (wide deep:Int)(n:Nat):Bool:=decide (2≤wide∧wide≤4∧2≤deep∧deep≤3∧(n:Int)=wide*deep)
def hallOk (wide deep:Int)(xs:List Int):Bool:=shapeOk wide deep xs.length&&cellsOk [] xs
theorem cellsOk_cons (seen:List Int)(x:Int)(xs:List Int):cellsOk seen (x::xs)=(decide (0≤x∧x≤99)&& !(decide (0<x)&&seen.contains x)&&cellsOk (seen++ [x]) xs):=rfl
theorem cellsOk_at {xs:List Int}{k:Nat}{x:Int}(h:xs[k]? =some x):cellsOk (xs.take k) (xs.drop k)=(decide (0≤x∧x≤99)&& !(decide (0<x)&&(xs.take k).contains x)&&cellsOk (xs.take (k+1)) (xs.drop (k+1))):=by
 rw[drop_cons h,take_snocL h,cellsOk_cons]
theorem cellsOk_end {xs:List Int}{k:Nat}(h:xs.length≤k):cellsOk (xs.take k) (xs.drop k)=true:=by
 rw[List.drop_eq_nil_of_le h];rfl
theorem cellsOk_iff: ∀(xs seen:List Int),cellsOk seen xs=true↔(∀x∈xs,0≤x∧x≤99)∧(∀x∈xs,0<x→x∉seen)∧(xs.filter (fun x=>decide (0<x))).Nodup:=by
 intro xs
 induction xs with
 |nil=>intro seen;simp[cellsOk]
 |cons x xs ih=>
  intro seen
  rw[cellsOk_cons,Bool.and_eq_true,Bool.and_eq_true,ih]
  simp only[decide_eq_true_eq,Bool.not_eq_true',Bool.and_eq_false_iff,decide_eq_false_iff_not,List.contains_eq_mem,List.mem_cons,List.mem_append,List.not_mem_nil,or_false]
  constructor
  ·rintro⟨⟨h1,h2⟩,h3,h4,h5⟩
   refine⟨?_,?_,?_⟩
   ·rintro y (rfl|hy)
    ·exact h1
    ·exact h3 y hy
   ·rintro y (rfl|hy) h0
    ·rcases h2 with h2|h2
     ·omega
     ·exact h2
    ·exact fun h=>h4 y hy h0 (.inl h)
   ·by_cases h0:0<x
    ·rw[List.filter_cons_of_pos (by simpa using h0),List.nodup_cons]
     refine⟨fun hm=> ?_,h5⟩
     have:=List.mem_filter.1 hm
     exact h4 x this.1 h0 (.inr rfl)
    ·rw[List.filter_cons_of_neg (by simpa using h0)]
     exact h5
  ·rintro⟨h1,h2,h3⟩
   refine⟨⟨h1 x (.inl rfl),?_⟩,fun y hy=>h1 y (.inr hy),?_,?_⟩
   ·by_cases h0:0<x
    ·exact .inr (h2 x (.inl rfl) h0)
    ·exact .inl h0
   ·intro y hy h0 h
    rcases h with h|rfl
    ·exact h2 y (.inr hy) h0 h
    ·rw[List.filter_cons_of_pos (by simpa using h0),List.nodup_cons]at h3
     exact h3.1 (List.mem_filter.2 ⟨hy,by simpa using h0⟩)
   ·by_cases h0:0<x
    ·rw[List.filter_cons_of_pos (by simpa using h0),List.nodup_cons]at h3
     exact h3.2
    ·rw[List.filter_cons_of_neg (by simpa using h0)]at h3
     exact h3
theorem shape_bd {wide deep:Int}{n:Nat}(h:shapeOk wide deep n=true):2≤wide∧wide≤4∧2≤deep∧deep≤3∧4≤n∧n≤12∧(n:Int)=wide*deep:=by
 simp only[shapeOk,decide_eq_true_eq]at h
 obtain⟨h1,h2,h3,h4,h5⟩:=h
 have hw:wide=2∨wide=3∨wide=4:=by omega
 have hd:deep=2∨deep=3:=by omega
 refine⟨h1,h2,h3,h4,?_,?_,h5⟩
 ·rcases hw with rfl|rfl|rfl<;>rcases hd with rfl|rfl<;>omega
 ·rcases hw with rfl|rfl|rfl<;>rcases hd with rfl|rfl<;>omega
theorem shape_bad {wide deep:Int}{n:Nat}(hs:shapeOk wide deep n=false):wide<2∨2≤wide∧4<wide∨2≤wide∧wide≤4∧deep<2∨2≤wide∧wide≤4∧2≤deep∧3<deep∨2≤wide∧wide≤4∧2≤deep∧deep≤3∧0≤wide*deep∧wide*deep≤12∧((n:Int)!=wide*deep)=true:=by
 simp only[shapeOk,decide_eq_false_iff_not]at hs
 by_cases a1:2≤wide
 ·by_cases a2:wide≤4
  ·by_cases a3:2≤deep
   ·by_cases a4:deep≤3
    ·refine .inr (.inr (.inr (.inr ⟨a1,a2,a3,a4,?_,?_,?_⟩)))
     ·exact Int.mul_nonneg (by omega) (by omega)
     ·have:=Int.mul_le_mul a2 a4 (by omega) (by omega);omega
     ·simp only[bne_iff_ne,ne_eq];exact fun e=>hs ⟨a1,a2,a3,a4,e⟩
    ·exact .inr (.inr (.inr (.inl ⟨a1,a2,a3,by omega⟩)))
   ·exact .inr (.inr (.inl ⟨a1,a2,by omega⟩))
  ·exact .inr (.inl ⟨a1,by omega⟩)
 ·exact .inl (by omega)
def thereIs (xs:List Int)(cs:Array Value):Prop:=cs.size=100∧ ∀j:Nat,j<100→cs[j]? =some (.bool (decide (0<j)&&xs.contains (j:Int)))
theorem thereIs_nil:thereIs [] (Array.replicate 100 (.bool false)):=⟨by simp,fun j hj=>by rw[Array.getElem?_replicate,if_pos hj];simp⟩
theorem thereIs_set {xs:List Int}{cs:Array Value}(h:thereIs xs cs)(x:Int)(h0:0≤x)(h1:x≤99)(hx:0<x→xs.contains x=false):thereIs (xs++ [x]) (cs.setIfInBounds x.toNat (.bool (decide (0<x)))):=by
 refine⟨by simpa using h.1,fun j hj=> ?_⟩
 rw[Array.getElem?_setIfInBounds]
 by_cases e:x.toNat=j
 ·subst e
  rw[if_pos rfl,if_pos (by rw[h.1];exact hj)]
  have:((x.toNat:Nat):Int)=x:=by omega
  rw[this]
  simp
 ·rw[if_neg e,h.2 j hj]
  have hne:((j:Int)==x)=false:=by rw[beq_eq_false_iff_ne];omega
  rw[beq_eq_false_iff_ne]at hne
  simp[List.contains_eq_mem,List.mem_append,hne]
end Go.Proofs.YtndcnflchkfaeaaDoor

namespace Go.Proofs.YtndcnflchkfaeaaDoor
open Go.RowKit
set_option linter.unusedVariables false
abbrev hallV (wide deep:Int)(p:Option Addr)(n cap:Nat):Value:= .agg #[.int .i64 wide,.int .i64 deep,.slice p n cap]
set_option maxRecDepth 100000 in
set_option maxHeartbeats 1000000 in
theorem implHv_bad (wide deep:Int)(p:Option Addr)(n cap:Nat)(w:World)(hn:n≤9223372036854775807)
  (h:wide<2∨2≤wide∧4<wide∨2≤wide∧wide≤4∧deep<2∨2≤wide∧wide≤4∧2≤deep∧3<deep∨2≤wide∧wide≤4∧2≤deep∧deep≤3∧0≤wide*deep∧wide*deep≤12∧((n:Int)!=wide*deep)=true):
  Calls Tryd.prog 72 #[hallV wide deep p n cap] w fun e w'=>e= .returned (.bool false)∧Ext w w':=by
 rcases h with h|⟨h0,h⟩|⟨h0,h1,h⟩|⟨h0,h1,h2,h⟩|⟨h0,h1,h2,h3,h4,h5,h⟩
 all_goals
  go_enter Tryd.func72,Tryd.ntmps72
  go_wp2
  go_ret
  exact⟨rfl,by exact .alloc (.refl _) _⟩
theorem zc_there:thereIs [] Tryd.zeroCells104:=⟨by kernel_rfl,by
 have e:Tryd.zeroCells104=Array.replicate 100 (.bool false):=by kernel_rfl
 rw[e];exact thereIs_nil.2⟩
set_option maxRecDepth 100000 in
set_option maxHeartbeats 1000000 in
theorem implHv_main (wide deep:Int)(p:Option Addr)(n cap:Nat)(xs:List Int)(w:World)(h0:2≤wide)(h1:wide≤4)(h2:2≤deep)(h3:deep≤3)(h4:0≤wide*deep)(h5:wide*deep≤12)(h6:((n:Int)!=wide*deep)=false)(hn:n≤12)
  (HS:Hid (Sl w p n cap 1 (ivs xs))):
  Calls Tryd.prog 72 #[hallV wide deep p n cap] w fun e w'=>e= .returned (.bool (cellsOk [] xs))∧Ext w w':=by
 go_enter Tryd.func72,Tryd.ntmps72
 go_wp2
 clear h4 h5 h6
 go_loopw [38] (fun i wr=> ∃(k:Nat) (cs:Array Value),k≤n∧i= .int .i64 k∧Blk wr (w.heap.size+1) 104 cs∧thereIs (xs.take k) cs∧cellsOk [] xs=cellsOk (xs.take k) (xs.drop k)∧Ext w wr) (fun i _=>n-(intOf i).toNat)
 case atStart=>exact⟨0,_,Nat.zero_le _,rfl,by have:=Blk.new (w.alloc (.cells #[.int .i64 wide,.int .i64 deep,.slice p n cap] 65)) 104 Tryd.zeroCells104;simpa using this,zc_there,rfl,by exact .alloc (.alloc (.refl _) _) _⟩
 case round=>
  obtain⟨k,cs,hk,rfl,hb,ht,hok,hE⟩:=hrel
  have HB:=Lib.hid hb
  have HT:=Lib.hid ht
  by_cases hlt:k<n
  ·obtain⟨b,off,x,rfl,hx,hbs,hcell⟩:=(HS.out.ext hE).int_at hlt
   have hfin:=Lib.hid (hok.trans (cellsOk_at hx))
   have HX:=Lib.hid hx
   clear hok hx hb ht
   by_cases hr:0≤x∧x≤99
   ·obtain⟨hx0,hx1⟩:=hr
    have htc:wr.cell? ⟨w.heap.size+1,x.toNat,none⟩=some (.bool (decide (0<x)&&(xs.take k).contains x)):=by
     rw[HB.out.cell,HT.out.2 x.toNat (by omega)]
     congr 2
     rw[show((x.toNat:Nat):Int)=x by omega]
     congr 1
     simp
    have htf:wr.frozen? ⟨w.heap.size+1,x.toNat,none⟩=false:=HB.out.frozen _
    have hix:x<100:=by omega
    cases hs:(decide (0<x)&&(xs.take k).contains x)with
    |true=>
     rw[hs]at htc
     have HS2:=Lib.hid hs
     clear hs
     go_wp2
     go_ret
     exact⟨ret_bool (by rw[hfin.out,HS2.out];simp),hE⟩
    |false=>
     rw[hs]at htc
     have HS2:=Lib.hid hs
     clear hs
     go_wp2
     go_roundw
     case rel=>
      refine⟨k+1,_,by omega,by go_num,HB.out.set _ _,?_,?_,by(repeat' (first|exact Ext.refl _|(with_reducible assumption)|(with_reducible refine Ext.alloc ?_ _)|(with_reducible refine Ext.setCell ?_ (by first|exact Nat.le_refl _|(dsimp only;omega)|(simp;done)|(simp;omega)) _)|(with_reducible refine Ext.drew ?_)|(with_reducible refine Ext.drewN ?_ _)|(refine Ext.trans ?_ (by with_reducible assumption))))⟩
      ·rw[take_snocL HX.out]
       refine thereIs_set HT.out x hx0 hx1 (fun h0=> ?_)
       have:=HS2.out
       simpa[h0]using this
      ·rw[hfin.out,HS2.out]
       simp[hx0,hx1]
     case measure=>simp[intOf];omega
   ·have hfx:cellsOk [] xs=false:=by rw[hfin.out];simp[hr]
    have HF:=Lib.hid hfx
    clear hfx
    by_cases hx0:x<0
    ·go_wp2
     go_ret
     exact⟨ret_bool HF.out.symm,hE⟩
    ·have hx1:99<x:=by omega
     have hx2:0≤x:=by omega
     go_wp2
     go_ret
     exact⟨ret_bool HF.out.symm,hE⟩
  ·have hfin:=Lib.hid (hok.trans (cellsOk_end (by have:=HS.out.ilen;omega)))
   clear hok hb ht
   go_wp2
   go_ret
   exact⟨ret_bool hfin.out.symm,hE⟩
theorem implHv (wide deep:Int)(p:Option Addr)(n cap:Nat)(xs:List Int)(w:World)(hS:Sl w p n cap 1 (ivs xs)):
  Calls Tryd.prog 72 #[hallV wide deep p n cap] w fun e w'=>e= .returned (.bool (hallOk wide deep xs))∧Ext w w':=by
 have hl:=hS.ilen
 unfold hallOk
 rw[hl]
 cases hs:shapeOk wide deep n with
 |true=>
  obtain⟨h1,h2,h3,h4,h5,h6,h7⟩:=shape_bd hs
  rw[Bool.true_and]
  exact implHv_main wide deep p n cap xs w h1 h2 h3 h4 (by omega) (by omega) (by simp[h7]) h6 hS
 |false=>
  rw[Bool.false_and]
  exact implHv_bad wide deep p n cap w hS.bd (shape_bad hs)
end Go.Proofs.YtndcnflchkfaeaaDoor

namespace Go.Proofs.YtndcnflchkfaeaaDoor
open Go.RowKit
set_option linter.unusedVariables false
theorem quiet_l {f:FuncId}{args:Array Value}{w:World}{n:Nat}{v:Value}(h:Calls Tryd.prog f args (w.drewN n) fun e w'=>e= .returned v∧w.drewN n=w'):
  Calls Tryd.prog f args (w.drewN n) fun e w'=>e= .returned v∧ ∃m,w'=w.drewN m:=h.mono fun _ _ ⟨he,hm⟩=>⟨he,n,hm.symm⟩
set_option maxRecDepth 100000 in
set_option maxHeartbeats 1000000 in
theorem l1In_yes (n lo hi:Int)(w:World)(h:lo≤n)(h2:n≤hi):Calls Tryd.prog 44 #[.int .i64 n,.int .i64 lo,.int .i64 hi] w fun e w'=>e= .returned (.bool true)∧w=w':=by
 go_enter Tryd.func44,Tryd.ntmps44
 go_wp2
 go_ret
 exact⟨rfl,rfl⟩
set_option maxRecDepth 100000 in
set_option maxHeartbeats 1000000 in
theorem l1In_no (n lo hi:Int)(w:World)(h:n<lo∨lo≤n∧hi<n):Calls Tryd.prog 44 #[.int .i64 n,.int .i64 lo,.int .i64 hi] w fun e w'=>e= .returned (.bool false)∧w=w':=by
 rcases h with h|⟨h,h2⟩
 all_goals
  go_enter Tryd.func44,Tryd.ntmps44
  go_wp2
  go_ret
  exact⟨ret_bool (by first|rfl|(simp;omega)),rfl⟩
end Go.Proofs.YtndcnflchkfaeaaDoor

namespace Go.Proofs.YtndcnflchkfaeaaDoor
open Go.RowKit
set_option linter.unusedVariables false
def insL (x:Int):List Int→List Int
 | []=> [x]
 |y::ys=>if y<x then y::insL x ys else x::y::ys
def sortL (xs:List Int):List Int:=xs.foldl (fun acc x=>insL x acc) []
theorem insL_perm (x:Int): ∀xs,List.Perm (insL x xs) (x::xs):=by
 intro xs
 induction xs with
 |nil=>exact List.Perm.refl _
 |cons y ys ih=>
  unfold insL
  split
  ·exact(List.Perm.cons y ih).trans (List.Perm.swap x y ys)
  ·exact List.Perm.refl _
theorem insL_sorted (x:Int): ∀xs,xs.Pairwise (·≤ ·)→(insL x xs).Pairwise (·≤ ·):=by
 intro xs
 induction xs with
 |nil=>intro _;simp[insL]
 |cons y ys ih=>
  intro h
  rw[List.pairwise_cons]at h
  unfold insL
  split
  ·rename_i hlt
   rw[List.pairwise_cons]
   refine⟨fun z hz=> ?_,ih h.2⟩
   rcases List.mem_cons.1 ((insL_perm x ys).mem_iff.1 hz)with rfl|hz
   ·omega
   ·exact h.1 z hz
  ·rename_i hge
   rw[List.pairwise_cons,List.pairwise_cons]
   refine⟨fun z hz=> ?_,h⟩
   rcases List.mem_cons.1 hz with rfl|hz
   ·omega
   ·have:=h.1 z hz;omega
theorem sortL_snoc (xs:List Int)(x:Int):sortL (xs++ [x])=insL x (sortL xs):=by simp[sortL,List.foldl_append]
theorem sortL_go (xs:List Int):List.Perm (sortL xs) xs∧(sortL xs).Pairwise (·≤ ·):=by
 suffices h: ∀(n:Nat) (xs:List Int),xs.length=n→List.Perm (sortL xs) xs∧(sortL xs).Pairwise (·≤ ·)from h _ xs rfl
 intro n
 induction n with
 |zero=>intro xs h;obtain rfl:=List.eq_nil_of_length_eq_zero h;simp[sortL]
 |succ n ih=>
  intro xs h
  have hne:xs≠ []:=by intro e;rw[e]at h;simp at h
  rw[←List.dropLast_concat_getLast hne,sortL_snoc]
  obtain⟨h1,h2⟩:=ih xs.dropLast (by simp[h])
  refine⟨?_,insL_sorted _ _ h2⟩
  exact(insL_perm _ _).trans ((List.Perm.cons _ h1).trans (List.perm_append_singleton _ _).symm)
theorem sortL_perm (xs:List Int):List.Perm (sortL xs) xs:=(sortL_go xs).1
theorem sortL_sorted (xs:List Int):(sortL xs).Pairwise (·≤ ·):=(sortL_go xs).2
theorem sortL_len (xs:List Int):(sortL xs).length=xs.length:=(sortL_perm xs).length_eq
theorem sortL_uniq {xs ys:List Int}(h:List.Perm ys xs)(hs:ys.Pairwise (·≤ ·)):ys=sortL xs:=
 List.Perm.eq_of_pairwise (fun a b _ _ h1 h2=>Int.le_antisymm h1 h2) hs (sortL_sorted xs) (h.trans (sortL_perm xs).symm)
abbrev Visit4:=Int×Int×Int×Int
def visitCells (v:Visit4):List Value:= [.int .i64 v.1,.int .i64 v.2.1,.int .i64 v.2.2.1,.int .i64 v.2.2.2]
structure HouseD where
 wide:Int
 deep:Int
 cells:List Int
 free:Int
 step:Int
 price:Int
 capp:Int
 clock:Int
 bank:Int
 vs:List Visit4
end Go.Proofs.YtndcnflchkfaeaaDoor

namespace Go.Proofs.YtndcnflchkfaeaaDoor
open Go.RowKit
set_option linter.unusedVariables false
abbrev TI:TypeId:=3
theorem made_zero (n:Nat):(madeCells (Value.int .i64 0).cells (n*1)).toList=ivs (List.replicate n 0):=by
 apply List.ext_getElem<;>simp[madeCells,Value.cells,Nat.mod_one]
end Go.Proofs.YtndcnflchkfaeaaDoor

namespace Go.Proofs.YtndcnflchkfaeaaDoor
open Go.RowKit
set_option linter.unusedVariables false
section
variable {P:Program} (w:World)
theorem run_append_sl {t e ty:TypeId}{sz:Nat}(E:ElT P t e sz)(base:Nat)(v:Value)(n:Nat)(xs:List Value)(hown:w.ownsRow base e sz v n xs)(p:Option Addr)(m c:Nat)(news:List Value)(hs:Sl w p m c sz news)
  (h1: ∀u∈news,u.oneCell'=true)(hn:n+m≤1099511627776)(hbase:base≤w.heap.size):
  ∃p' cap' w',(Builtin.append_ #[t,t] ty #[v,.slice p m c]).run P w= .ok (.slice p' (n+m) cap') w'∧w'.ownsRow base e sz (.slice p' (n+m) cap') (n+m) (xs++news)∧w.grownBy w' v.ownBlock:=by
 obtain⟨i,z,hi,hz,hsz,hby,hzs⟩:=E.info
 cases p with
 |none=>
  have hm:m=0:=by
   rcases Nat.eq_zero_or_pos m with h0|h0
   ·exact h0
   ·obtain⟨b,off,h,_⟩:=hs.rd h0;cases h
  subst hm
  have hnews:news= []:=List.eq_nil_of_length_eq_zero (by simpa using hs.len)
  subst hnews
  obtain⟨q,cap,rfl⟩:=own_form hown
  refine⟨q,cap,w,?_,by simpa using hown,World.grownBy.refl w _⟩
  rcases hown.2 with⟨h2,h3⟩|⟨g,cap',cur,h2,_,_,hnc,_⟩
  ·injection h2 with e1 e2 e3
   subst e1 e2 e3
   simp[Builtin.append_,run_underlying E.ht,sizeOf,typeInfo,hi,Builtin.lenOf,Builtin.firstCells]
  ·injection h2 with e1 e2 e3
   subst e1 e3
   simp[Builtin.append_,run_underlying E.ht,sizeOf,typeInfo,hi,Builtin.lenOf,Builtin.firstCells,hnc,storeCells]
 |some ad=>
  have hcells: ∀j u,news[j]? =some u→w.cell? (ad.add j)=some u:=by
   intro j u hu
   rcases Nat.eq_zero_or_pos m with h0|h0
   ·subst h0
    have hnews:news= []:=List.eq_nil_of_length_eq_zero (by simpa using hs.len)
    subst hnews
    simp at hu
   ·obtain⟨b,off,h,_,hc⟩:=hs.rd h0
    injection h with h
    subst h
    rw[addr_add,hc j (by rw[←hs.len];exact(List.getElem?_eq_some_iff.1 hu).1)]
    exact hu
  have hbb:(n+m)*i.bytes≤140737488355328:=by
   have:(n+m)*i.bytes≤(n+m)*64:=Nat.mul_le_mul_left _ hby
   omega
  obtain⟨v',w',hrun,h2,h3,_,_⟩:=run_append_own_at (P:=P) w base t ty e i z sz i.bytes E.ht hi hz hsz rfl hzs E.pos v n xs hown ad m c news hs.len hcells h1 (by unfold maxLen;omega) hbb hbase
  obtain⟨q,cap,rfl⟩:=own_form h2
  exact⟨q,cap,w',hrun,h2,h3⟩
theorem wp_append_sl {o:Oper}{a:Act}{K:Act→World→Prop}{Q:Exit→Act→World→Prop}{t e:TypeId}{sz:Nat}(E:ElT P t e sz)(s x:Operand)
  (ho:o.op= .call {callee:= .builtin .append,args:=#[s,x],argTypes:=#[t,t]})
  (base:Nat)(v:Value)(n:Nat)(xs:List Value)(hs:a.eval s=v)(hown:w.ownsRow base e sz v n xs)
  (p:Option Addr)(m c:Nat)(news:List Value)(hx:a.eval x= .slice p m c)(hr:Sl w p m c sz news)(h1: ∀u∈news,u.oneCell'=true)
  (hn:n+m≤1099511627776)(hbase:base≤w.heap.size)
  (h: ∀p' cap' w',w'.ownsRow base e sz (.slice p' (n+m) cap') (n+m) (xs++news)→w.grownBy w' v.ownBlock→K (a.put o.dst (.slice p' (n+m) cap')) w'):o.wp P a w K Q:=by
 obtain⟨p',cap',w',hrun,h2,h3⟩:=run_append_sl (ty:=o.type) w E base v n xs hown p m c news hr h1 hn hbase
 unfold Oper.wp execOp
 simp only[ho,resolve,invoke,builtin,Sem.run_bind,Sem.run_pure,Result.andThen_ok,List.map_toArray,List.map_cons,List.map_nil,hs,hx,hrun]
 exact h p' cap' w' h2 h3
theorem step_append_sl {ops:Array Oper}{o:Oper}{a:Act}{K:Act→World→Prop}{Q:Exit→Act→World→Prop}{E0:Prop}{t e:TypeId}{sz:Nat}(E:ElT P t e sz)(hgd:o.guard=none)(s x:Operand)
  (ho:o.op= .call {callee:= .builtin .append,args:=#[s,x],argTypes:=#[t,t]})
  (base:Nat)(v:Value)(n:Nat)(xs:List Value)(hs:a.eval s=v)(hown:w.ownsRow base e sz v n xs)
  (p:Option Addr)(m c:Nat)(news:List Value)(hx:a.eval x= .slice p m c)(hr:Sl w p m c sz news)(h1: ∀u∈news,u.oneCell'=true)
  (hn:n+m≤1099511627776)(hbase:base≤w.heap.size)
  (h: ∀p' cap' w',w'.ownsRow base e sz (.slice p' (n+m) cap') (n+m) (xs++news)→w.grownBy w' v.ownBlock→K (a.put o.dst (.slice p' (n+m) cap')) w'):
  if Region.wanted o (yielded ops a.tmps)=true then Oper.wp P o a w K Q else E0:=by
 have hw:Region.wanted o (yielded ops a.tmps)=true:=by simp[Region.wanted,hgd]
 rw[if_pos hw]
 exact wp_append_sl w E s x ho base v n xs hs hown p m c news hx hr h1 hn hbase h
end
theorem ivs_one (xs:List Int): ∀u∈ivs xs,u.oneCell'=true:=by
 intro u hu
 obtain⟨x,_,rfl⟩:=List.mem_map.1 hu
 rfl
end Go.Proofs.YtndcnflchkfaeaaDoor

