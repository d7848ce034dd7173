/-
  Texts of this proof, packed (@packed).
-/
import Derived.Test.YteejdnmmpmcmeaaGreatDoorP29
namespace Go.Proofs.YteejdnmmpmcmeaaGreatDoor
open Go.RowKit
set_option linter.unusedVariables false
set_option linter.unusedSimpArgs false
abbrev hvc (h:aV)(p:Option Addr)(cap:Nat)(q:Option Addr)(c2:Nat):Array Value:=#[.int .i64 h.aA,.int .i64 h.aB,.slice p h.cells.length cap,.int .i64 h.free,.int .i64 h.step,.int .i64 h.aD,.int .i64 h.aH,.int .i64 h.aC,.int .i64 h.aI,.slice q h.vs.length c2]
def oH (lo:Nat)(w:World)(a:Nat):Prop:=
 ∃(h:aV) (p:Option Addr) (cap:Nat) (q:Option Addr) (c2:Nat),Blk w a aQ (hvc h p cap q c2)∧Good h∧w.ownsRow lo TI 1 (.slice p h.cells.length cap) h.cells.length (ivs h.cells)∧w.ownsRow lo TV 4 (.slice q h.vs.length c2) h.vs.length (h.vs.flatMap aE)
structure RG (R lo:Nat) (w w':World):Prop where
 os:w'.os=w.os
 tape:w'.tape=w.tape
 output:w'.output=w.output
 size:w.heap.size≤w'.heap.size
 block: ∀i,i<w.heap.size→i≠R→w'.heap[i]? =w.heap[i]? ∨(lo≤i∧(∃cs,Blk w i aQ cs)∧oH lo w' i)
theorem RG.refl (R lo:Nat)(w:World):RG R lo w w:=⟨rfl,rfl,rfl,Nat.le_refl _,fun i _ _=> .inl rfl⟩
theorem RG.ofR {R lo:Nat}{w w':World}(h:ExtR R w w'):RG R lo w w':=⟨h.os,h.tape,h.output,h.size,fun i hi hne=> .inl (h.block i hi (fun e=>hne (by injection e)))⟩
theorem RG.ofE {R lo:Nat}{w w':World}(h:Ext w w'):RG R lo w w':=RG.ofR (h.r R)
theorem oO {w:World}{b1 s1 n1:Nat}{e1:TypeId}{v1:Value}{xs1:List Value}{g:Nat}{t:TypeId}{cs:Array Value}(h1:w.ownsRow b1 e1 s1 v1 n1 xs1)(h2:Blk w g t cs)(ne:e1≠t):v1.ownBlock≠some g:=by
 intro hg
 rcases h1.2 with⟨b1,_⟩|⟨g1,cap1,cur1,b1,_,b3,_⟩
 ·rw[b1]at hg;cases hg
 ·rw[b1]at hg
  injection hg with hg
  have x1:g1=g:=hg
  subst x1
  unfold Blk at h2
  rw[h2]at b3
  injection b3 with b3;injection b3 with _ b3
  exact ne b3.symm
theorem RG.own {R lo B n sz:Nat}{e:TypeId}{w w':World}{v:Value}{xs:List Value}(h:RG R lo w w')(ho:w.ownsRow B e sz v n xs)(hB:R<B)(he:e≠aQ):w'.ownsRow B e sz v n xs:=by
 refine kU ho (fun g hg=> ?_)
 have hl:=World.ownsRow.lt ho g hg
 rcases h.block g hl.2 (by omega)with h1|⟨_,⟨cs,hb⟩,_⟩
 ·exact h1
 ·exfalso
  rcases ho.2 with⟨b1,_⟩|⟨g1,cap1,cur1,b1,_,b3,_⟩
  ·rw[b1]at hg;cases hg
  ·rw[b1]at hg
   injection hg with hg
   have x1:g1=g:=hg
   subst x1
   unfold Blk at hb
   rw[hb]at b3
   injection b3 with b3;injection b3 with _ b3
   exact he b3.symm
theorem RG.house {R lo a:Nat}{w w':World}(h:RG R lo w w')(hR:R<lo)(ha:lo≤a)(hb:oH lo w a):oH lo w' a:=by
 obtain⟨h2,p,cap,q,c2,b1,b2,b3,b4⟩:=hb
 rcases h.block a b1.lt (by omega)with h1|⟨_,_,h1⟩
 ·exact⟨h2,p,cap,q,c2,by unfold Blk at*;rw[h1];exact b1,b2,h.own b3 hR (by decide),h.own b4 hR (by decide)⟩
 ·exact h1
theorem RG.trans {R lo:Nat}{a b c:World}(hR:R<lo)(h:RG R lo a b)(k:RG R lo b c):RG R lo a c:=
 ⟨k.os.trans h.os,k.tape.trans h.tape,k.output.trans h.output,Nat.le_trans h.size k.size,fun i hi hne=>by
  rcases h.block i hi hne with h1|⟨l1,h2,h3⟩
  ·rcases k.block i (Nat.lt_of_lt_of_le hi h.size) hne with k1|⟨l2,⟨cs,k2⟩,k3⟩
   ·exact .inl (k1.trans h1)
   ·exact .inr ⟨l2,⟨cs,by unfold Blk at*;rw[←h1];exact k2⟩,k3⟩
  ·exact .inr ⟨l1,h2,k.house hR l1 h3⟩⟩
theorem RG.extR {R:Nat}{w w':World}(h:RG R w.heap.size w.drew w'):ExtR R w w':=
 ⟨h.os,h.tape,h.output,h.size,fun i hi hne=>by
  rcases h.block i hi (fun e=>hne (by rw[e]))with h1|⟨h2,_⟩
  ·exact h1
  ·omega⟩
theorem aAj {lo:Nat}(w:World):oH lo (w.alloc (.cells #[.int .i64 0,.int .i64 0,.slice none 0 0,.int .i64 0,.int .i64 0,.int .i64 0,.int .i64 0,.int .i64 0,.int .i64 0,.slice none 0 0] aQ)) w.heap.size:=
 ⟨bT,none,0,none,0,Blk.new _ _ _,.inr rfl,World.ownsRow_nil _ _ _ _,World.ownsRow_nil _ _ _ _⟩
theorem RG.put {R lo g:Nat}{w w':World}{cs:Array Value}{h:aV}{p q:Option Addr}{cap c2:Nat}(hx:ExtR g w w')(hl:lo≤g)(hb:Blk w g aQ cs)(hb':Blk w' g aQ (hvc h p cap q c2))(hg:Good h)
  (h1:w.ownsRow lo TI 1 (.slice p h.cells.length cap) h.cells.length (ivs h.cells))(h2:w.ownsRow lo TV 4 (.slice q h.vs.length c2) h.vs.length (h.vs.flatMap aE)):RG R lo w w':=
 ⟨hx.os,hx.tape,hx.output,hx.size,fun i hi hne=>by
  by_cases e:i=g
  ·subst e
   refine .inr ⟨hl,⟨cs,hb⟩,h,p,cap,q,c2,hb',hg,?_,?_⟩
   ·exact kU h1 (fun k hk=>hx.block k (World.ownsRow.lt h1 k hk).2 (fun e=>oO h1 hb (by decide) (by rw[hk];exact e)))
   ·exact kU h2 (fun k hk=>hx.block k (World.ownsRow.lt h2 k hk).2 (fun e=>oO h2 hb (by decide) (by rw[hk];exact e)))
  ·exact .inl (hx.block i hi (fun e'=>e (by injection e')))⟩
structure XS (R g:Nat) (t:TypeId) (cs:Array Value) (w w':World):Prop where
 os:w'.os=w.os
 tape:w'.tape=w.tape
 output:w'.output=w.output
 size:w.heap.size≤w'.heap.size
 block: ∀i,i<w.heap.size→i≠R→i≠g→w'.heap[i]? =w.heap[i]?
 put:g<w.heap.size→w'.heap[g]? =w.heap[g]? ∨Blk w' g t cs
theorem XS.refl (R g:Nat)(t:TypeId)(cs:Array Value)(w:World):XS R g t cs w w:=⟨rfl,rfl,rfl,Nat.le_refl _,fun i _ _ _=>rfl,fun _=> .inl rfl⟩
theorem XS.blk {R g:Nat}{t:TypeId}{cs:Array Value}{w w':World}(h:XS R g t cs w w')(hb:Blk w g t cs):Blk w' g t cs:=by
 rcases h.put hb.lt with h1|h1
 ·unfold Blk at*;rw[h1];exact hb
 ·exact h1
theorem XS.trans {R g:Nat}{t:TypeId}{cs:Array Value}{a b c:World}(h:XS R g t cs a b)(k:XS R g t cs b c):XS R g t cs a c:=
 ⟨k.os.trans h.os,k.tape.trans h.tape,k.output.trans h.output,Nat.le_trans h.size k.size,fun i hi h1 h2=>(k.block i (Nat.lt_of_lt_of_le hi h.size) h1 h2).trans (h.block i hi h1 h2),fun hg=>by
  rcases h.put hg with h1|h1
  ·rcases k.put (Nat.lt_of_lt_of_le hg h.size)with k1|k1
   ·exact .inl (k1.trans h1)
   ·exact .inr k1
  ·exact .inr (k.blk h1)⟩
theorem XS.ofR {R g:Nat}{t:TypeId}{cs:Array Value}{w w':World}(hne:g≠R)(h:ExtR R w w'):XS R g t cs w w':=
 ⟨h.os,h.tape,h.output,h.size,fun i hi h1 _=>h.block i hi (fun e=>h1 (by injection e)),fun hg=> .inl (h.block g hg (fun e=>hne (by injection e)))⟩
theorem XS.ofE {R g:Nat}{t:TypeId}{cs:Array Value}{w w':World}(h:Ext w w'):XS R g t cs w w':=
 ⟨h.os,h.tape,h.output,h.size,fun i hi _ _=>h.block i hi,fun hg=> .inl (h.block g hg)⟩
theorem XS.other {R g a:Nat}{t t':TypeId}{cs cs':Array Value}{w w':World}(h:XS R g t cs w.drew w')(hb:Blk w a t' cs')(h1:a≠R)(h2:a≠g):Blk w' a t' cs':=by
 have:=h.block a hb.lt h1 h2
 unfold Blk at*
 rw[this];exact hb
section
variable {R:Nat} {w0 w w':World} {L:List Item}
end
end Go.Proofs.YteejdnmmpmcmeaaGreatDoor
