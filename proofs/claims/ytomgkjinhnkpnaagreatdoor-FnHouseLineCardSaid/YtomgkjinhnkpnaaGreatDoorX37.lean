/-
  Texts of this proof, packed (@packed).
-/
import Derived.Test.YtomgkjinhnkpnaaGreatDoorX36
namespace Go.Proofs.YtomgkjinhnkpnaaGreatDoor
open Go.RowKit
set_option linter.unusedSimpArgs false
set_option linter.unusedVariables false
theorem aQt (x:Int):dec x≠ [110,111]:=by intro h;have:=aLb x.toNat 110 (by rw[show Lib.decDigits x.toNat=_ from h];simp);simp at this
theorem aN8 {h:aM}(c:aS h=true)(l:List UInt8){r:aM}{t:List UInt8}(hr:mA h l=(r,t)):
  aS r=true∧(((bN l).isSome=true∧(t== [110,111])=false)∨((bN l).isSome=true∧t= [110,111]∧(l== [101,110,100])=false∧r=h)∨((bN l).isSome=false∧l= [101,110,100])∨((bN l).isSome=false∧(l== [101,110,100])=false∧r=h)):=by
 unfold mA at hr;rw[if_pos c]at hr;have he:bN [101,110,100]=none:=by rfl
 cases hd:bN l with
 |some d=>
  obtain⟨k,a,b⟩:=d;have e:(l== [101,110,100])=false:=by rw[beq_eq_false_iff_ne];rintro rfl;rw[he]at hd;cases hd
  rw[hd]at hr;dsimp only at hr;simp only[aS3]at hr;obtain⟨rfl,rfl⟩:=hr;unfold doR;rw[if_pos c];cases hx:cC h k a b with
  |none=>exact⟨c,.inr (.inl ⟨rfl,rfl,e,rfl⟩)⟩
  |some x=>obtain⟨g,n⟩:=x;obtain⟨l1,_⟩:=aQs c hx;exact⟨l1,.inl ⟨rfl,by rw[beq_eq_false_iff_ne];exact aQt n⟩⟩
 |none=>
  rw[hd]at hr;dsimp only at hr;by_cases h0:l= [101,110,100]
  ·rw[if_pos h0]at hr;simp only[aS3]at hr;obtain⟨rfl,rfl⟩:=hr;refine⟨?_,.inr (.inr (.inl ⟨rfl,h0⟩))⟩;unfold aFc sP;rw[if_pos c];exact wM _ c
  rw[if_neg h0]at hr;simp only[aS3]at hr;obtain⟨rfl,rfl⟩:=hr;exact⟨c,.inr (.inr (.inr ⟨rfl,by rw[beq_eq_false_iff_ne];exact h0,rfl⟩))⟩
theorem aH6 {h:aM}(a:aS h=true):mA h [32]=(h,[119,104,97,116]):=by unfold mA;rw[if_pos a,show bN [32]=none from rfl];rfl
theorem aH7 (h:aM)(l:List UInt8):(mA h l).1.cells.length≤1000∧(mA h l).1.vs.length≤1000:=by
 unfold mA;by_cases hok:aS h=true
 ·rw[if_pos hok];cases hd:bN l with
  |some d=>obtain⟨k,a,b⟩:=d;exact aPt h k a b
  |none=>
   dsimp only;by_cases he:l= [101,110,100]
   ·rw[if_pos he];have:=aMt h (bZ (aY h) (dJ h));exact⟨this.1,this.2.1⟩
   rw[if_neg he];have:=eL hok;dsimp only;omega
 rw[if_neg hok];simp[hZ]
end Go.Proofs.YtomgkjinhnkpnaaGreatDoor
