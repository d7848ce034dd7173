/-
  Texts of this proof, packed (@packed).
-/
import Derived.Lib.CountLaws
import Derived.Lib.SplitLaws
import Derived.Test.YtbgkcehffiogcacGreatDoorQ7
namespace Go.Proofs.YtbgkcehffiogcacGreatDoor
open Go.RowKit
set_option linter.unusedSimpArgs false
set_option linter.unusedVariables false
set_option maxHeartbeats 8000000
set_option maxRecDepth 100000
section
open Go.Proofs.Tryz
def bT (k:Int):List UInt8:=
 if k=0 then [105,110]else if k=1 then [112,97,121]else if k=2 then [111,117,116]else if k=3 then [119,97,105,116]else if k=4 then [115,108,105,100,101]else []
def iI (k:Int):Bool:=k==1 || k==4
def fZ (k a b:Int):Bool:=decide (0≤k∧k≤4∧0≤a∧a≤9999∧0≤b∧b≤9999)&&(iI k || b==0)
def bL (k a b:Int):List UInt8:=
 if fZ k a b then bT k++ [32]++Lib.decDigits a.toNat++(if iI k then [32]++Lib.decDigits b.toNat else [])else []
abbrev fU (k a b:Int):Value:= .agg #[k,a,b]
theorem oE (k a b:Int)(w:World)(h:a<0∨0≤a∧9999<a∨0≤a∧a≤9999∧b<0∨0≤a∧a≤9999∧0≤b∧9999<b∨0≤a∧a≤9999∧0≤b∧b≤9999∧(k==1)=false∧(k==4)=false∧(b !=0)=true
  ∨0≤a∧a≤9999∧0≤b∧b≤9999∧(k==1)=false∧(k==4)=false∧(b !=0)=false∧(k==0)=false∧(k==2)=false∧(k==3)=false):
  U 78 #[fU k a b] w (O (str []) w):=by
 rcases h with h|⟨h0,h⟩|⟨h0,h1,h⟩|⟨h0,h1,h2,h⟩|⟨h0,h1,h2,h3,h4,h5,h6⟩|⟨h0,h1,h2,h3,h4,h5,h6,h7,h8,h9⟩
 all_goals
  go_enter func78,ntmps78;go_wp2;go_ret;exact⟨rfl,xE⟩
theorem aBj (k a b:Int)(w:World)(h:(k==0)=false∧(k==1)=false∧(k==2)=false∧(k==3)=false∧(k==4)=false):
  U 55 #[fU k a b] w (O (str []) w):=by
 obtain⟨h0,h1,h2,h3,h4⟩:=h;go_enter func55,ntmps55;go_wp2;go_ret;exact⟨rfl,xE⟩
theorem yY (k a b:Int)(w:World)(hk:k=0∨k=1∨k=2∨k=3∨k=4)(h:a<0∨0≤a∧9999<a∨0≤a∧a≤9999∧b<0∨0≤a∧a≤9999∧0≤b∧9999<b):
  U 55 #[fU k a b] w (O (str []) w):=by
 rcases hk with rfl|rfl|rfl|rfl|rfl
 all_goals
  rcases h with h|⟨h0,h⟩|⟨h0,h1,h⟩|⟨h0,h1,h2,h⟩
  all_goals
   go_enter func55,ntmps55;go_wp2;go_ret;exact⟨rfl,xE⟩
theorem yX (k a b:Int)(w:World)(hk:k=0∨k=2∨k=3)(h0:0≤a)(h1:a≤9999)(h2:0≤b)(h3:b≤9999)(h4:(b !=0)=true):
  U 55 #[fU k a b] w (O (str []) w):=by
 rcases hk with rfl|rfl|rfl
 all_goals
  go_enter func55,ntmps55;go_wp2;go_ret;exact⟨rfl,xE⟩
theorem aCe (k a:Int)(w:World)(hE:Env w)(hk:k=0∨k=2∨k=3)(h0:0≤a)(h1:a≤9999):
  U 78 #[fU k a 0] w (O (str (bT k++ [32]++Lib.decDigits a.toNat)) w):=by
 have hl:(Lib.decDigits a.toNat).length≤21:=cS _ (by omega);have HE:=xQ hE;clear hE;rcases hk with rfl|rfl|rfl
 all_goals
  go_enter func78,ntmps78;go_wp2_with fail;go_fit (oO a _ h0 (by omega) (HE.out.ext xE));rintro e w1 ⟨rfl,h1⟩;go_wp2;go_ret;exact⟨nX (by simp[bT]),xE⟩
theorem aCd (k a b:Int)(w:World)(hE:Env w)(hk:k=1∨k=4)(h0:0≤a)(h1:a≤9999)(h2:0≤b)(h3:b≤9999):
  U 78 #[fU k a b] w (O (str (bT k++ [32]++Lib.decDigits a.toNat++([32]++Lib.decDigits b.toNat))) w):=by
 have hl:(Lib.decDigits a.toNat).length≤21:=cS _ (by omega);have d:(Lib.decDigits b.toNat).length≤21:=cS _ (by omega);have HE:=xQ hE;clear hE;rcases hk with rfl|rfl
 all_goals
  go_enter func78,ntmps78;go_wp2_with fail;go_fit (oO a _ h0 (by omega) (HE.out.ext xE));rintro e w1 ⟨rfl,h1⟩;have c:=h1.cells.1;go_wp2_with fail;go_fit (oO b _ h2 (by omega) (HE.out.ext xE));rintro e w2 ⟨rfl,h2⟩;go_wp2;go_ret;exact⟨nX (by simp[bT]),xE⟩
theorem hU (k:Int)(w:World)(hk:k=0∨k=1∨k=2∨k=3∨k=4):U 53 #[k] w fun e w'=>e= .returned (str (bT k))∧w=w':=by
 rcases hk with rfl|rfl|rfl|rfl|rfl
 all_goals
  go_enter func53,ntmps53;go_wp2;go_ret;exact⟨nX (by simp[bT]),rfl⟩
theorem aBi (k a:Int)(nm:List UInt8)(w:World)(t1:(k==1)=false)(t4:(k==4)=false)(h0:0≤a)(h1:a≤9999)(hN: ∀w,U 53 #[k] w fun e w'=>e= .returned (str nm)∧w=w')(he:nm.isEmpty=false)(hn:nm.length≤5):
  U 55 #[fU k a 0] w (O (str (nm++ [32]++Lib.decDigits a.toNat)) w):=by
 have hl:(Lib.decDigits a.toNat).length≤21:=cS _ (by omega);have c: ¬9223372036854775807<nm.length+1:=by omega
 have d: ¬9223372036854775807<nm.length+1+(Lib.decDigits a.toNat).length:=by omega
 all_goals
  have HN:=xQ hN;clear hN;go_enter func55,ntmps55;go_wp2_with (first|(go_at_call 53;refine(HN _).mono ?_;rintro e w1 ⟨rfl,rfl⟩)|go_in)
  go_region_held3 (fun w'=>w'.cell? ⟨w,0,none⟩=some (I k)∧w'.cell? ⟨w,1,none⟩=some (I a)) (go_keep)
   (first|(go_at_call 53;refine(HN _).mono ?_;rintro e w1 ⟨rfl,rfl⟩)|(go_at_call 24;refine Z (jS a _ h0 (by omega)) fun w1 h1=>?_;have b:=h1.cells.1))
  all_goals go_wp2
  all_goals go_ret
  all_goals exact⟨nX (by simp),xE⟩
theorem aBh (k a b:Int)(nm:List UInt8)(w:World)(hk:(k==1)=true∨(k==1)=false∧(k==4)=true)(h0:0≤a)(h1:a≤9999)(h2:0≤b)(h3:b≤9999)(hN: ∀w,U 53 #[k] w fun e w'=>e= .returned (str nm)∧w=w')(he:nm.isEmpty=false)(hn:nm.length≤5):
  U 55 #[fU k a b] w (O (str (nm++ [32]++Lib.decDigits a.toNat++([32]++Lib.decDigits b.toNat))) w):=by
 have hl:(Lib.decDigits a.toNat).length≤21:=cS _ (by omega);have d:(Lib.decDigits b.toNat).length≤21:=cS _ (by omega);have f: ¬9223372036854775807<nm.length+1:=by omega
 have g: ¬9223372036854775807<nm.length+1+(Lib.decDigits a.toNat).length:=by omega
 rcases hk with t1|⟨t1,t4⟩
 all_goals
  have HN:=xQ hN;clear hN;go_enter func55,ntmps55;go_wp2_with (first|(go_at_call 53;refine(HN _).mono ?_;rintro e w1 ⟨rfl,rfl⟩)|go_in)
  go_region_held3 (fun w'=>w'.cell? ⟨w,0,none⟩=some (I k)∧w'.cell? ⟨w,1,none⟩=some (I a)∧w'.cell? ⟨w,2,none⟩=some (I b)) (go_keep)
   (first|(go_at_call 53;refine(HN _).mono ?_;rintro e w1 ⟨rfl,rfl⟩)|(go_at_call 24;refine Z (jS a _ h0 (by omega)) fun w1 h1=>?_;have c:=h1.cells.1))
  all_goals go_wp2_with (first|(go_at_call 24;refine(jS b _ h2 (by omega)).mono ?_;rintro e w2 ⟨rfl,h2⟩)|go_in)
  all_goals go_ret
  all_goals exact⟨nX (by simp),xE⟩
theorem aCr (k:Int)(hk:k=0∨k=1∨k=2∨k=3∨k=4):(bT k).isEmpty=false∧(bT k).length≤5:=by rcases hk with rfl|rfl|rfl|rfl|rfl<;>decide
theorem aM7 (k a b:Int)(w:World):U 55 #[fU k a b] w (O (str (bL k a b)) w):=by
 by_cases hk:k=0∨k=1∨k=2∨k=3∨k=4
 ·by_cases hr:0≤a∧a≤9999∧0≤b∧b≤9999
  ·obtain⟨h0,h1,h2,h3⟩:=hr;obtain⟨he,hn⟩:=aCr k hk;by_cases ht:k=1∨k=4
   ·have e:bL k a b=bT k++ [32]++Lib.decDigits a.toNat++([32]++Lib.decDigits b.toNat):=by
     rcases ht with rfl|rfl<;>simp[bL,fZ,iI,h0,h1,h2,h3]
    rw[e];exact aBh k a b _ w (by simp;omega) h0 h1 h2 h3 (fun w=>hU k w hk) he hn
   have c:k=0∨k=2∨k=3:=by omega
   by_cases hb:b=0
   ·subst hb;have e:bL k a 0=bT k++ [32]++Lib.decDigits a.toNat:=by
     rcases c with rfl|rfl|rfl<;>simp[bL,fZ,iI,h0,h1]
    rw[e];exact aBi k a _ w (by simp;omega) (by simp;omega) h0 h1 (fun w=>hU k w hk) he hn
   have e:bL k a b= []:=by rcases c with rfl|rfl|rfl<;>simp[bL,fZ,iI,hb]
   rw[e];exact yX k a b w c h0 h1 h2 h3 (by simp[hb])
  have e:bL k a b= []:=by unfold bL;rw[if_neg];simp[fZ];omega
  rw[e];exact yY k a b w hk (by omega)
 have e:bL k a b= []:=by unfold bL;rw[if_neg];simp[fZ];omega
 rw[e];exact aBj k a b w (by simp;omega)
theorem sQ (k a b:Int)(w:World)(hE:Env w):U 78 #[fU k a b] w (O (str (bL k a b)) w):=by
 by_cases hr:0≤a∧a≤9999∧0≤b∧b≤9999
 ·obtain⟨h0,h1,h2,h3⟩:=hr;by_cases ht:k=1∨k=4
  ·have e:bL k a b=bT k++ [32]++Lib.decDigits a.toNat++([32]++Lib.decDigits b.toNat):=by
    rcases ht with rfl|rfl<;>simp[bL,fZ,iI,h0,h1,h2,h3]
   rw[e];exact aCd k a b w hE ht h0 h1 h2 h3
  by_cases hb:b=0
  ·subst hb;by_cases hk:k=0∨k=2∨k=3
   ·have e:bL k a 0=bT k++ [32]++Lib.decDigits a.toNat:=by
     rcases hk with rfl|rfl|rfl<;>simp[bL,fZ,iI,h0,h1]
    rw[e];exact aCe k a w hE hk h0 h1
   have e:bL k a 0= []:=by unfold bL;rw[if_neg];simp[fZ];omega
   rw[e];exact oE k a 0 w (.inr (.inr (.inr (.inr (.inr ⟨h0,h1,by omega,by omega,by simp;omega,by simp;omega,by simp,by simp;omega,by simp;omega,by simp;omega⟩)))))
  have e:bL k a b= []:=by unfold bL;rw[if_neg];simp[fZ,iI];omega
  rw[e];exact oE k a b w (.inr (.inr (.inr (.inr (.inl ⟨h0,h1,h2,h3,by simp;omega,by simp;omega,by simp[hb]⟩)))))
 have e:bL k a b= []:=by unfold bL;rw[if_neg];simp[fZ];omega
 rw[e];exact oE k a b w (by omega)
end
theorem lI (s:ByteArray)(k:Nat)(h:k<s.size):s.data.toList.take (k+1)=s.data.toList.take k++ [s[k]]:=by rw[List.take_succ_eq_append_getElem (by simpa using h)];rfl
section
open Go.Proofs.Tryz
def eK (c:UInt8):Bool:=decide (48≤(c.toNat:Int)∧(c.toNat:Int)≤57)
def lC (l:List UInt8):Int:=l.foldl (fun n c=>10*n+((c.toNat:Int)-48)) 0
def dR (m:Nat)(l:List UInt8):Option Int:=
 if 1≤l.length∧l.length≤m∧(l.length≤1∨l.head? ≠some 48)∧l.all eK=true then some (lC l)else none
theorem tZ (l:List UInt8)(c:UInt8):lC (l++ [c])=10*lC l+((c.toNat:Int)-48):=by unfold lC;rw[List.foldl_append];rfl
theorem xF (l:List UInt8)(h:l.all eK=true)(hl:l.length≤5):0≤lC l∧lC l≤99999:=by
 match l,hl with
 | [],_=>simp[lC]
 | [a],_=>simp[lC,eK]at h⊢;omega
 | [a,b],_=>simp[lC,eK]at h⊢;omega
 | [a,b,c],_=>simp[lC,eK]at h⊢;omega
 | [a,b,c,d],_=>simp[lC,eK]at h⊢;omega
 | [a,b,c,d,e],_=>simp[lC,eK]at h⊢;omega
 |_::_::_::_::_::_::_,hl=>simp at hl
theorem rB (s:ByteArray)(k:Nat)(h:k<s.size)(ha:(s.data.toList.take k).all eK=true)(hc:eK s[k]=true):(s.data.toList.take (k+1)).all eK=true:=by rw[lI s k h];simp[ha,hc]
theorem qI (s:ByteArray)(k:Nat)(h:k<s.size)(hc:eK s[k]=false):s.data.toList.all eK=false:=by rw[List.all_eq_false];exact⟨s[k],by rw[Array.mem_toList_iff];exact Array.getElem_mem (xs:=s.data) (i:=k) h,by simp[hc]⟩
theorem aL4 (s:ByteArray)(h:0<s.size):s.data.toList.head? =some s[0]:=by
 obtain⟨⟨l⟩⟩:=s;cases l with
 |nil=>simp[ByteArray.size]at h
 |cons a l=>rfl
theorem jR {m:Nat}{l:List UInt8}(h:l.length<1∨m<l.length):dR m l=none:=by unfold dR;rw[if_neg];omega
theorem oN {m:Nat}{l:List UInt8}(h:1<l.length)(h0:l.head? =some 48):dR m l=none:=by
 unfold dR;rw[if_neg];rintro⟨_,_,h1|h1,_⟩
 ·omega
 exact h1 h0
theorem oX {m:Nat}{l:List UInt8}(h:l.all eK=false):dR m l=none:=by unfold dR;rw[if_neg];simp[h]
theorem rD {m:Nat}{l:List UInt8}(h1:1≤l.length)(h2:l.length≤m)(h3:l.length≤1∨l.head? ≠some 48)(h4:l.all eK=true):dR m l=some (lC l):=by unfold dR;rw[if_pos ⟨h1,h2,h3,h4⟩]
theorem aEa {c:UInt8}(h0:48≤(c.toNat:Int))(h1:(c.toNat:Int)≤57):eK c=true:=by simp[eK];omega
theorem lM {c:UInt8}(h:(c.toNat:Int)<48∨57<(c.toNat:Int)):eK c=false:=by simp[eK];omega
def aHw (l:List UInt8):Int:=if l.all eK then lC l else -1
theorem yH {l:List UInt8}(h:l.all eK=true):aHw l=lC l:=if_pos h
theorem uI {l:List UInt8}(h:l.all eK=false):aHw l= -1:=if_neg (by simp[h])
theorem oD (s:ByteArray)(w:World)(h:s.size<1∨4<s.size∧s.size≤9223372036854775807∨1<s.size∧s.size≤4∧ ∀h:0<s.size,((s[0].toNat:Int)==48)=true):
  U 54 #[.string s] w fun e w'=>e= .returned (I (-1))∧w=w':=by
 rcases h with h|⟨h,h'⟩|⟨h,h',h0⟩
 ·go_enter func54,ntmps54;go_wp2;go_ret;exact⟨rfl,rfl⟩
 ·go_enter func54,ntmps54;go_wp2;go_ret;exact⟨rfl,rfl⟩
 have hp:0<s.size:=by omega
 have a:=h0 hp;clear h0;go_enter func54,ntmps54;go_wp2;go_ret;exact⟨rfl,rfl⟩
theorem aE6 (s:ByteArray)(w:World)(h1:1≤s.size)(h4:s.size≤4)(hz:s.size≤1∨1<s.size∧ ∀h:0<s.size,((s[0].toNat:Int)==48)=false):
  U 54 #[.string s] w fun e w'=>e= .returned (I (aHw s.data.toList))∧w=w':=by
 have hp:0<s.size:=by omega
 rcases hz with hz|⟨hz,h0⟩
 all_goals
  try (have b:=h0 hp)
  try clear h0
  go_enter func54,ntmps54;go_wp2;go_loop [3,4] (fun n i=> ∃k:Nat,k≤s.size∧i=I k∧n=I (lC (s.data.toList.take k))∧(s.data.toList.take k).all eK=true) (fun _ i=>s.size-(intOf i).toNat)
  case atStart=>exact⟨0,aRv _,rfl,rfl,by simp⟩
  case round=>
   obtain⟨k,hk,rfl,rfl,a⟩:=hrel;have hb:=xF _ a (by simp;omega);have HA:=xQ a;clear a;by_cases hlt:k<s.size
   ·have HS:Hid (lC (s.data.toList.take (k+1))=10*lC (s.data.toList.take k)+((s[k].toNat:Int)-48)):=by rw[lI s k hlt];exact tZ _ _
    rcases(show(s[k].toNat:Int)<48∨48≤(s[k].toNat:Int)∧57<(s[k].toNat:Int)∨48≤(s[k].toNat:Int)∧(s[k].toNat:Int)≤57 by omega)with hc|⟨hc0,hc⟩|⟨hc0,hc⟩
    ·go_wp2;go_ret;exact⟨dV (uI (qI s k hlt (lM (.inl hc)))).symm,rfl⟩
    ·go_wp2;go_ret;exact⟨dV (uI (qI s k hlt (lM (.inr hc)))).symm,rfl⟩
    go_wp2;go_round
    case rel=>exact⟨k+1,by omega,by go_num,by rw[HS.out],rB s k hlt HA (aEa hc0 hc)⟩
    case measure=>simp[intOf];omega
   have e:s.data.toList.take k=s.data.toList:=aRu (by simp;omega);have HE:=xQ e;clear e;go_wp2;go_ret;exact⟨dV (by rw[yH (by rw[←HE.out];exact HA.out),HE.out]),rfl⟩
theorem wC (s:ByteArray)(h:0<s.size):s.data.toList.head? =some 48↔((s[0].toNat:Int)==48)=true:=by
 rw[aL4 s h];simp only[aTh,beq_iff_eq];constructor
 ·intro e;rw[e];rfl
 intro e;exact UInt8.toNat_inj.1 (by show _=48;omega)
theorem dA (s:ByteArray):s.data.toList.length=s.size:=by simp
theorem xL (s:ByteArray)(w:World)(hs:s.size≤maxLen):
  U 54 #[.string s] w fun e w'=>e= .returned (I ((dR 4 s.data.toList).getD (-1)))∧w=w':=by
 unfold maxLen at hs;by_cases h1:s.size<1
 ·rw[jR (by rw[dA];omega)];exact oD s w (.inl h1)
 by_cases h4:4<s.size
 ·rw[jR (by rw[dA];omega)];exact oD s w (.inr (.inl ⟨h4,hs⟩))
 by_cases h0:1<s.size∧s.data.toList.head? =some 48
 ·rw[oN (by rw[dA];omega) h0.2];exact oD s w (.inr (.inr ⟨h0.1,by omega,fun h=>(wC s h).1 h0.2⟩))
 refine(aE6 s w (by omega) (by omega) ?_).mono ?_
 ·by_cases hq:s.size≤1
  ·exact .inl hq
  refine .inr ⟨by omega,fun h=> ?_⟩;rw[←Bool.not_eq_true,←wC s h];intro e;exact h0 ⟨by omega,e⟩
 rintro e w' ⟨rfl,rfl⟩;refine⟨dV ?_,rfl⟩;cases ha:s.data.toList.all eK with
 |true=>rw[yH ha,rD (by rw[dA];omega) (by rw[dA];omega) (by rw[dA];by_cases hq:s.size≤1;exact .inl hq;exact .inr (fun e=>h0 ⟨by omega,e⟩)) ha];rfl
 |false=>rw[uI ha,oX ha];rfl
def aIp (l:List UInt8):Bool:=l.all eK
def aCq (l:List UInt8):Int:=if l.all eK then lC l else 0
theorem vG {l:List UInt8}(h:l.all eK=true):aCq l=lC l:=if_pos h
theorem rO {l:List UInt8}(h:l.all eK=false):aCq l=0:=if_neg (by simp[h])
theorem aGh {a b:Int}{c d:Bool}(h:a=b)(k:c=d):Ending.returned (.tuple #[a,.bool c])= .returned (.tuple #[b,.bool d]):=by rw[h,k]
theorem kF (s:ByteArray)(m:Int)(w:World)(hm:1≤m∧m≤5)(h:s.size<1∨1≤s.size∧m<(s.size:Int)∧s.size≤9223372036854775807∨1<s.size∧(s.size:Int)≤m∧ ∀h:0<s.size,((s[0].toNat:Int)==48)=true):
  U 77 #[.string s,m] w fun e w'=>e= .returned (.tuple #[(),.bool false])∧w=w':=by
 rcases h with h|⟨h,h',h2⟩|⟨h,h',h0⟩
 ·go_enter func77,ntmps77;go_wp2;go_ret2;exact⟨rfl,rfl⟩
 ·go_enter func77,ntmps77;go_wp2;go_ret2;exact⟨rfl,rfl⟩
 have hp:0<s.size:=by omega
 have a:=h0 hp;clear h0;go_enter func77,ntmps77;go_wp2;go_ret2;exact⟨rfl,rfl⟩
theorem vT (s:ByteArray)(m:Int)(w:World)(hm:1≤m∧m≤5)(h1:1≤s.size)(h4:(s.size:Int)≤m)(hz:s.size≤1∨1<s.size∧ ∀h:0<s.size,((s[0].toNat:Int)==48)=false):
  U 77 #[.string s,m] w fun e w'=>e= .returned (.tuple #[(aCq s.data.toList:Int),.bool (aIp s.data.toList)])∧w=w':=by
 have hp:0<s.size:=by omega
 rcases hz with hz|⟨hz,h0⟩
 all_goals
  try (have b:=h0 hp)
  try clear h0
  go_enter func77,ntmps77;go_wp2;go_loop [6,7] (fun n i=> ∃k:Nat,k≤s.size∧i=I k∧n=I (lC (s.data.toList.take k))∧(s.data.toList.take k).all eK=true) (fun _ i=>s.size-(intOf i).toNat)
  case atStart=>exact⟨0,aRv _,rfl,rfl,by simp⟩
  case round=>
   obtain⟨k,hk,rfl,rfl,a⟩:=hrel;have hb:=xF _ a (by simp;omega);have HA:=xQ a;clear a;by_cases hlt:k<s.size
   ·have HS:Hid (lC (s.data.toList.take (k+1))=lC (s.data.toList.take k)*10+((s[k].toNat:Int)-48)):=by rw[lI s k hlt,tZ];show _=_;omega
    rcases(show(s[k].toNat:Int)<48∨48≤(s[k].toNat:Int)∧57<(s[k].toNat:Int)∨48≤(s[k].toNat:Int)∧(s[k].toNat:Int)≤57 by omega)with hc|⟨hc0,hc⟩|⟨hc0,hc⟩
    ·go_wp2;go_ret2;exact⟨aGh (rO (qI s k hlt (lM (.inl hc)))).symm (qI s k hlt (lM (.inl hc))).symm,rfl⟩
    ·go_wp2;go_ret2;exact⟨aGh (rO (qI s k hlt (lM (.inr hc)))).symm (qI s k hlt (lM (.inr hc))).symm,rfl⟩
    go_wp2;go_round
    case rel=>exact⟨k+1,by omega,by go_num,by rw[HS.out],rB s k hlt HA (aEa hc0 hc)⟩
    case measure=>simp[intOf];omega
   have e:s.data.toList.take k=s.data.toList:=aRu (by simp;omega);have HE:=xQ e;clear e;go_wp2;go_ret2;exact⟨aGh (by rw[vG (by rw[←HE.out];exact HA.out),HE.out]) (by rw[aIp,←HE.out];exact HA.out.symm),rfl⟩
theorem wV (s:ByteArray)(m:Nat)(w:World)(hm:1≤m∧m≤5)(hs:s.size≤maxLen):
  U 77 #[.string s,m] w fun e w'=>e= .returned (.tuple #[((dR m s.data.toList).getD 0:Int),.bool (dR m s.data.toList).isSome])∧w=w':=by
 unfold maxLen at hs;by_cases h1:s.size<1
 ·rw[jR (by rw[dA];omega)];exact kF s m w (by omega) (.inl h1)
 by_cases h4:m<s.size
 ·rw[jR (by rw[dA];omega)];exact kF s m w (by omega) (.inr (.inl ⟨by omega,by omega,hs⟩))
 by_cases h0:1<s.size∧s.data.toList.head? =some 48
 ·rw[oN (by rw[dA];omega) h0.2];exact kF s m w (by omega) (.inr (.inr ⟨h0.1,by omega,fun h=>(wC s h).1 h0.2⟩))
 refine(vT s m w (by omega) (by omega) (by omega) ?_).mono ?_
 ·by_cases hq:s.size≤1
  ·exact .inl hq
  refine .inr ⟨by omega,fun h=> ?_⟩;rw[←Bool.not_eq_true,←wC s h];intro e;exact h0 ⟨by omega,e⟩
 rintro e w' ⟨rfl,rfl⟩;cases ha:s.data.toList.all eK with
 |true=>rw[vG ha,rD (by rw[dA];omega) (by rw[dA];omega) (by rw[dA];by_cases hq:s.size≤1;exact .inl hq;exact .inr (fun e=>h0 ⟨by omega,e⟩)) ha,aIp,ha];exact⟨rfl,rfl⟩
 |false=>rw[rO ha,oX ha,aIp,ha];exact⟨rfl,rfl⟩
def cL (c:UInt8):List UInt8→List (List UInt8)
 | []=> [[]]
 |x::xs=>if x=c then []::cL c xs else match cL c xs with
  | []=> [[x]]
  |p::ps=>(x::p)::ps
theorem kO (c:UInt8)(l:List UInt8):cL c l≠ []:=by
 cases l with
 |nil=>simp[cL]
 |cons x xs=>unfold cL;split
             ·simp
             split<;>simp
theorem zN (c:UInt8): ∀(l:List UInt8),cL c (l++ [c])=cL c l++ [[]]:=by
 intro l;induction l with
 |nil=>simp[cL]
 |cons x xs ih=>
  rw[aTd];unfold cL;by_cases h:x=c
  ·rw[if_pos h,if_pos h,ih];rfl
  rw[if_neg h,if_neg h,ih];cases hq:cL c xs with
  |nil=>exact absurd hq (kO c xs)
  |cons p ps=>rfl
theorem vX (c:UInt8)(x:UInt8)(hx:x≠c): ∀(l:List UInt8) (A:List (List UInt8)) (p:List UInt8),cL c l=A++ [p]→cL c (l++ [x])=A++ [p++ [x]]:=by
 intro l;induction l with
 |nil=>
  intro A p h;simp only[cL,aTa]at h⊢;have:A= []∧p= []:=by
   cases A with
   |nil=>simpa using h.symm
   |cons a A=>simp at h
  obtain⟨rfl,rfl⟩:=this;simp[hx]
 |cons y ys ih=>
  intro A p h;rw[aTd];unfold cL at h⊢;by_cases hy:y=c
  ·rw[if_pos hy]at h⊢;cases A with
   |nil=>simp at h;exact absurd h.2 (kO c ys)
   |cons a A=>simp only[aTd,List.cons.injEq]at h;rw[ih A p h.2,←h.1];rfl
  rw[if_neg hy]at h⊢;cases hq:cL c ys with
  |nil=>exact absurd hq (kO c ys)
  |cons q qs=>
   rw[hq]at h;simp only at h;cases A with
   |nil=>simp only[aTa,List.cons.injEq]at h;obtain⟨rfl,rfl⟩:=h;rw[ih [] q (by simpa using hq)];rfl
   |cons a A=>simp only[aTd,List.cons.injEq]at h;obtain⟨rfl,rfl⟩:=h;rw[ih (q::A) p (by simpa using hq)];rfl
abbrev gI (ls:List (List UInt8)):List Value:=ls.map str
theorem vD (s:ByteArray)(a b:Nat)(l:List UInt8)(h:(s.data.toList.take b).drop a=l):Value.string (s.extract a b)=str l:=by
 have:s.extract a b=⟨l.toArray⟩:=by apply ByteArray.ext;apply Array.toList_inj.1;rw[Lib.extract_data];show _=l;rw[←h,List.drop_take]
 rw[this]
theorem aPk:(prog.info? 9).map (fun i=>(i.zero,i.size,i.bytes))=some (some (.string ⟨#[]⟩),1,16):=by kernel_rfl
theorem aAa (s:ByteArray)(c:UInt8)(ci:Int)(l:ci=(c.toNat:Int))(w:World)(hs:s.size≤1099511627776):
  U 52 #[.string s,.int .u8 ci] w fun e w'=> ∃v,e= .returned v∧w'.ownsRow w 9 1 v (cL c s.data.toList).length (gI (cL c s.data.toList))∧Ext w w':=by
 obtain⟨i0,hi,m,n,o⟩:=info_parts aPk;have HC:=xQ l;clear l;go_enter func52,ntmps52;go_wp2
 go_loopw [5,6,7] (fun v fr i wr=> ∃(k f:Nat) (A:List (List UInt8)) (p:List UInt8),k≤s.size∧f≤k∧A.length≤k∧fr=I f∧i=I k∧cL c (s.data.toList.take k)=A++ [p]∧p=(s.data.toList.take k).drop f∧
   wr.ownsRow w 9 1 v A.length (gI A)∧Ext w wr) (fun _ _ i _=>s.size-(intOf i).toNat)
 case atStart=>exact⟨0,0,[],[],aRv _,aRp _,aRp _,rfl,rfl,by simp[cL],by simp,aSw _ #[] 0 (aRp _) (by simp[maxLen]) rfl,(Ext.refl _).alloc _⟩
 case round=>
  obtain⟨k,f,A,p,hk,hf,t,rfl,rfl,h,hp,b,hE⟩:=hrel;have g:=xQ h;have HP:=xQ hp;have x:=hE.sz;clear h hp;by_cases hlt:k<s.size
  ·by_cases hc:s[k]=c
   ·have hb:((s[k].toNat:Int)==ci)=true:=by rw[HC.out,hc];simp
    have r:=xQ hc;clear hc;go_wp2_with (at_builtin;refine wpList_append_own _ rfl _ _ 42 rfl w 9 i0 (.string ⟨#[]⟩) 1 16 underlying42 hi m n o rfl (by decide) _ _ _ rfl (b.alloc _) ⟨wr,0,none⟩ 1 1 [.string (s.extract f k)] rfl rfl ?c1 ?c2 ?c3 ?c4 ?c5 ?_)
    case c1=>exact cell_one_new _ _ _
    case c2=>intro u hu;simp at hu;subst hu;rfl
    case c3=>unfold maxLen;omega
    case c4=>omega
    case c5=>simp;omega
    intro v' w1 d a _;have j:Ext w w1:=(hE.alloc _).grown a (fun q hq=>(b.lt q hq).1);clear a b;go_wp2;go_roundw
    case rel=>
     refine⟨k+1,k+1,A++ [p],[],by omega,aRp _,by simp;omega,by go_num,by go_num,?_,?_,?_,j⟩
     ·rw[lI s k hlt,r.out,zN,g.out]
     ·rw[aT7 (by simp;omega)]
     have:=d;rw[vD s f k p HP.out.symm]at this;simpa[gI]using this
    case measure=>simp[intOf];omega
   have hb:((s[k].toNat:Int)==ci)=false:=by rw[HC.out,beq_eq_false_iff_ne];intro e;exact hc (UInt8.toNat_inj.1 (by omega))
   go_wp2;go_roundw
   case rel=>
    refine⟨k+1,f,A,p++ [s[k]],by omega,by omega,by omega,by go_num,by go_num,?_,?_,b,hE⟩
    ·rw[lI s k hlt];exact vX c _ hc _ A p g.out
    rw[lI s k hlt,HP.out,List.drop_append_of_le_length (by simp;omega)]
   case measure=>simp[intOf];omega
  obtain rfl:k=s.size:=by omega
  have e:s.data.toList.take s.size=s.data.toList:=aRu (by simp);have HE:=xQ e;clear e;go_wp2_with (at_builtin;refine wpList_append_own _ rfl _ _ 42 rfl w 9 i0 (.string ⟨#[]⟩) 1 16 underlying42 hi m n o rfl (by decide) _ _ _ rfl (b.alloc _) ⟨wr,0,none⟩ 1 1 [.string (s.extract f s.size)] rfl rfl ?d1 ?d2 ?d3 ?d4 ?d5 ?_)
  case d1=>exact cell_one_new _ _ _
  case d2=>intro u hu;simp at hu;subst hu;rfl
  case d3=>unfold maxLen;omega
  case d4=>omega
  case d5=>simp;omega
  intro v' w1 d a _;have j:Ext w w1:=(hE.alloc _).grown a (fun q hq=>(b.lt q hq).1);clear a b;go_wp2;go_ret;refine⟨_,rfl,?_,j⟩;have:=d;rw[vD s f s.size p HP.out.symm]at this;rw[←HE.out,g.out];simpa[gI]using this
end
theorem qN (c:UInt8): ∀l:List UInt8,(Lib.index l [c]= -1∧cL c l= [l]∧c∉l)∨ ∃i:Nat,Lib.index l [c]=i∧i<l.length∧cL c l=l.take i::cL c (l.drop (i+1))∧c∉l.take i:=by
 intro l;induction l with
 |nil=>exact .inl ⟨rfl,rfl,by simp⟩
 |cons b l ih=>
  by_cases hb:b=c
  ·subst hb;refine .inr ⟨0,?_,by simp,by simp[cL],by simp⟩;unfold Lib.index;rw[if_pos (by simp[List.isPrefixOf])];rfl
  have hp:([c]:List UInt8).isPrefixOf (b::l)=false:=by simp[List.isPrefixOf];exact fun e=>hb e.symm
  rcases ih with⟨h1,h2,h3⟩|⟨i,h1,h2,h3,h4⟩
  ·refine .inl ⟨?_,?_,?_⟩
   ·unfold Lib.index;rw[hp,h1];rfl
   ·unfold cL;rw[if_neg hb,h2]
   simp[h3];exact fun e=>hb e.symm
  refine .inr ⟨i+1,?_,by simp;omega,?_,?_⟩
  ·unfold Lib.index;rw[hp,h1];simp only[Bool.false_eq_true,if_false];rw[if_neg (by simp)];rfl
  ·have e:cL c (b::l)=match cL c l with| []=> [[b]]|p::ps=>(b::p)::ps:=by
    rw[cL,if_neg hb]<;>rfl
   rw[e,h3];rfl
  simp[h4];exact fun e=>hb e.symm
theorem aJ8 (c:UInt8): ∀(k:Nat) (s:ByteArray),Lib.countB s ⟨#[c]⟩=k→(Lib.splitB ⟨#[c]⟩ 0 k s).map (fun b=>b.data.toList)=cL c s.data.toList:=by
 intro k;induction k with
 |zero=>
  intro s hk;rw[Lib.splitB_zero];rcases qN c s.data.toList with⟨h1,h2,h3⟩|⟨i,h1,h2,h3,h4⟩
  ·rw[h2];rfl
  have:=Lib.countB_hit s ⟨#[c]⟩ i (aRp 1) h1;omega
 |succ k ih=>
  intro s hk;rcases qN c s.data.toList with⟨h1,h2,h3⟩|⟨i,h1,h2,h3,h4⟩
  ·have:=Lib.countB_miss s ⟨#[c]⟩ h1;omega
  have hc:=Lib.countB_hit s ⟨#[c]⟩ i (aRp 1) h1
  have hr:=ih (s.extract (i+1) s.size) (by
   have e:s.extract (i+1) s.size=s.extract (i+(⟨#[c]⟩:ByteArray).size) s.size:=rfl
   rw[e];omega)
  rw[Lib.splitB_hit ⟨#[c]⟩ 0 k s i h1,aTn];have e2:s.extract (i+(⟨#[c]⟩:ByteArray).size) s.size=s.extract (i+1) s.size:=rfl;rw[e2,hr,h3];congr 1
  ·rw[Lib.extract_data];simp
  congr 1;rw[Lib.extract_data];rw[aRu (by simp)]
theorem aJ9 (s:ByteArray)(c:UInt8)(w:World)(hs:s.size<4294967281)(hE:Env w):
  U 76 #[.string s,.string ⟨#[c]⟩] w fun e w'=> ∃v,e= .returned v∧w'.ownsRow w 9 1 v (cL c s.data.toList).length (gI (cL c s.data.toList))∧Ext w w':=by
 obtain⟨m,hm⟩:=hE.mx;refine(Tryz.strings_Split s ⟨#[c]⟩ m w hs hm (aRp 1)).mono ?_;rintro e w' ⟨rfl,rfl⟩;have hq:=aJ8 c _ s rfl;have hl:(cL c s.data.toList).length=Lib.countB s ⟨#[c]⟩+1:=by rw[←hq,aSg];exact Lib.splitB_all ⟨#[c]⟩ (aRp 1) 0 _ s rfl
 have hv:(Lib.splitB ⟨#[c]⟩ 0 (Lib.countB s ⟨#[c]⟩) s).map Value.string=gI (cL c s.data.toList):=by rw[←hq,gI,List.map_map];rfl
 refine⟨_,rfl,?_,(Ext.refl _).alloc _⟩;rw[hv,←hl];have:=Lib.countB_le ⟨#[c]⟩ (aRp 1) _ s (aRp _);have h2:=World.ownsRow_lit (e:=9) (size:=1) (base:=w.heap.size) w (gI (cL c s.data.toList)).toArray (cL c s.data.toList).length (aRp _) (by unfold maxLen;omega) (by simp[gI]);simpa using h2
theorem aOd: ∀(k n:Nat),n≤k→(Lib.decDigits n).all eK=true∧(n≤9223372036854775807→lC (Lib.decDigits n)=n)∧(1≤n→(Lib.decDigits n).head? ≠some 48):=by
 intro k;induction k with
 |zero=>
  intro n h;obtain rfl:n=0:=by omega
  rw[fJ 0 (by omega)];exact⟨by decide,fun _=>by decide,fun h=>by omega⟩
 |succ k ih=>
  intro n h;by_cases h10:n<10
  ·rw[fJ n h10];have e:(UInt8.ofNat (48+n)).toNat=48+n:=by simp;omega
   refine⟨?_,fun _=> ?_,fun h1 hh=> ?_⟩
   ·simp[eK];omega
   ·simp[lC];omega
   simp at hh;have:=congrArg UInt8.toNat hh;simp at this;omega
  obtain⟨i1,i2,i3⟩:=ih (n/10) (by omega);rw[jV n h10];have e:(UInt8.ofNat (48+n%10)).toNat=48+n%10:=by simp;omega
  refine⟨?_,fun hb=> ?_,fun h1=> ?_⟩
  ·simp only[List.all_append,i1,List.all_cons,List.all_nil,Bool.and_true,Bool.true_and,eK,e];simp;omega
  ·rw[tZ,i2 (by omega),e];omega
  have hp:=qZ (n/10);cases hd:Lib.decDigits (n/10)with
  |nil=>rw[hd]at hp;simp at hp
  |cons x xs=>have:=i3 (by omega);rw[hd]at this;simpa using this
theorem aR3: ∀(k n:Nat),n<10 ^ (k+1)→(Lib.decDigits n).length≤k+1:=by
 intro k;induction k with
 |zero=>intro n h;rw[fJ n (by simpa using h)];simp
 |succ k ih=>
  intro n h;by_cases h10:n<10
  ·rw[fJ n h10];simp
  rw[jV n h10,aRx];have:=ih (n/10) (by rw[Nat.pow_succ]at h;omega);simp;omega
theorem aBp (m n:Nat)(h:n<10 ^ m)(hm:1≤m)(a:m≤5):dR m (Lib.decDigits n)=some (n:Int):=by
 obtain⟨k,rfl⟩: ∃k,m=k+1:=⟨m-1,by omega⟩
 have hb:n≤99999:=by have:10 ^ (k+1)≤10 ^ 5:=aS0 (by omega) a;omega
 obtain⟨a1,a2,a3⟩:=aOd n n (aRp _);rw[rD (qZ n) (aR3 k n h) ?_ a1,a2 (by omega)];by_cases h0:n=0
 ·left;subst h0;rw[fJ 0 (by omega)];simp
 right;exact a3 (by omega)
theorem aCp (n:Nat)(c:UInt8)(hc:eK c=false):c∉Lib.decDigits n:=by intro h;have:=(aOd n n (aRp _)).1;rw[aSp]at this;rw[this c h]at hc;simp at hc
theorem lP (c:UInt8): ∀l:List UInt8,c∉l→cL c l= [l]:=by
 intro l;induction l with
 |nil=>intro _;rfl
 |cons x xs ih=>
  intro h;have e:cL c (x::xs)=match cL c xs with| []=> [[x]]|p::ps=>(x::p)::ps:=by rw[cL,if_neg (by intro e;exact h (by simp[e]))]<;>rfl
  rw[e,ih (by intro q;exact h (by simp[q]))]
theorem jK (c:UInt8): ∀(a b:List UInt8),c∉a→cL c (a++c::b)=a::cL c b:=by
 intro a b;induction a with
 |nil=>intro _;simp[cL]
 |cons x xs ih=>
  intro h;have e:cL c (x::(xs++c::b))=match cL c (xs++c::b)with| []=> [[x]]|p::ps=>(x::p)::ps:=by rw[cL,if_neg (by intro e;exact h (by simp[e]))]<;>rfl
  rw[aTd,e,ih (by intro q;exact h (by simp[q]))]
def iP (p:List UInt8):Option Int:=
 if p= [105,110]then some 0 else if p= [112,97,121]then some 1 else if p= [111,117,116]then some 2 else if p= [119,97,105,116]then some 3 else if p= [115,108,105,100,101]then some 4 else none
theorem mN {p:List UInt8}{k:Int}(h:iP p=some k):0≤k∧k≤4∧p=bT k:=by
 unfold iP at h
 repeat' split at h
 all_goals simp at h
 all_goals subst h;simp_all [bT]
theorem mO (k:Int)(h:0≤k∧k≤4):iP (bT k)=some k:=by rcases(show k=0∨k=1∨k=2∨k=3∨k=4 by omega)with rfl|rfl|rfl|rfl|rfl<;>decide
def bY (l:List UInt8):Option (Int×Int×Int):=
 match cL 32 l with
 | [p,q]=>match iP p,dR 4 q with
   |some k,some a=>if bL k a 0=l then some (k,a,0)else none
   |_,_=>none
 | [p,q,r]=>match iP p,dR 4 q,dR 4 r with
   |some k,some a,some b=>if bL k a b=l then some (k,a,b)else none
   |_,_,_=>none
 |_=>none
def iZ (ps:List (List UInt8)):Int×Int×Int:=
 match ps with
 | []=>(-1,0,0)
 | [p]=>((iP p).getD (-1),0,0)
 | [p,q]=>((iP p).getD (-1),(dR 4 q).getD (-1),0)
 |p::q::r::_=>((iP p).getD (-1),(dR 4 q).getD (-1),(dR 4 r).getD (-1))
def lU (l:List UInt8):Option (Int×Int×Int):=
 if l≠ []∧bL (iZ (cL 32 l)).1 (iZ (cL 32 l)).2.1 (iZ (cL 32 l)).2.2=l then some (iZ (cL 32 l))else none
theorem sZ {k a b:Int}(h:fZ k a b=true):0≤k∧k≤4∧0≤a∧a≤9999∧0≤b∧b≤9999∧(iI k=true∨b=0):=by simp[fZ]at h;obtain⟨⟨h1,h2,h3,h4,h5,h6⟩,h7⟩:=h;exact⟨h1,h2,h3,h4,h5,h6,by cases hk:iI k<;>simp_all⟩
theorem vH {k a b:Int}(h:bL k a b≠ []):fZ k a b=true:=by
 unfold bL at h;split at h
 ·assumption
 simp at h
theorem aA7 (k:Int):(32:UInt8)∉bT k:=by
 unfold bT
 repeat' split
 all_goals decide
theorem aF7 {k a b:Int}(h:fZ k a b=true):cL 32 (bL k a b)=if iI k then [bT k,Lib.decDigits a.toNat,Lib.decDigits b.toNat]else [bT k,Lib.decDigits a.toNat]:=by
 unfold bL;rw[if_pos h];split
 ·have e:bT k++ [32]++Lib.decDigits a.toNat++([32]++Lib.decDigits b.toNat)=bT k++32::(Lib.decDigits a.toNat++32::Lib.decDigits b.toNat):=by simp
  rw[e,jK _ _ _ (aA7 k),jK _ _ _ (aCp _ _ (by decide)),lP _ _ (aCp _ _ (by decide))]
 have e:bT k++ [32]++Lib.decDigits a.toNat++ []=bT k++32::Lib.decDigits a.toNat:=by simp
 rw[e,jK _ _ _ (aA7 k),lP _ _ (aCp _ _ (by decide))]
theorem tU {a:Int}(h0:0≤a)(h1:a≤9999):dR 4 (Lib.decDigits a.toNat)=some a:=by rw[aBp 4 a.toNat (by omega) (by omega) (by omega)];congr 1;omega
theorem zC {k a b:Int}(h:fZ k a b=true):bY (bL k a b)=some (k,a,b):=by
 obtain⟨h1,h2,h3,h4,h5,h6,h7⟩:=sZ h;unfold bY;rw[aF7 h];cases hk:iI k with
 |true=>simp[mO k ⟨h1,h2⟩,tU h3 h4,tU h5 h6]
 |false=>
  obtain rfl:b=0:=by simpa[hk]using h7
  simp[mO k ⟨h1,h2⟩,tU h3 h4]
theorem aF6 {k a b:Int}(h:fZ k a b=true):bL k a b≠ []:=by unfold bL;rw[if_pos h];simp
theorem yR {k a b:Int}(h:fZ k a b=true):lU (bL k a b)=some (k,a,b):=by
 obtain⟨h1,h2,h3,h4,h5,h6,h7⟩:=sZ h;have e:iZ (cL 32 (bL k a b))=(k,a,b):=by
  rw[aF7 h];cases hk:iI k with
  |true=>simp[iZ,mO k ⟨h1,h2⟩,tU h3 h4,tU h5 h6]
  |false=>
   obtain rfl:b=0:=by simpa[hk]using h7
   simp[iZ,mO k ⟨h1,h2⟩,tU h3 h4]
 unfold lU;rw[e,if_pos ⟨aF6 h,rfl⟩]
theorem zD {l:List UInt8}{k a b:Int}(h:bY l=some (k,a,b)):bL k a b=l∧fZ k a b=true:=by
 have c:bL k a b=l∧0≤k∧k≤4∧l≠ []:=by
  have d: ∀p q,cL 32 l=p::q:: []∨(∃r,cL 32 l= [p,q,r])→l≠ []:=by rintro p q h rfl;rcases h with h|⟨r,h⟩<;>simp[cL]at h
  unfold bY at h;split at h
  ·rename_i p q hc;have:=d p q (.inl hc);split at h
   ·rename_i k' a' hk ha;split at h
    ·rename_i ht;simp only[aTh,aSy]at h;obtain⟨rfl,rfl,rfl⟩:=h;exact⟨ht,(mN hk).1,(mN hk).2.1,this⟩
    simp at h
   simp at h
  ·rename_i p q r hc;have:=d p q (.inr ⟨r,hc⟩);split at h
   ·rename_i k' a' b' hk ha hb;split at h
    ·rename_i ht;simp only[aTh,aSy]at h;obtain⟨rfl,rfl,rfl⟩:=h;exact⟨ht,(mN hk).1,(mN hk).2.1,this⟩
    simp at h
   simp at h
  simp at h
 exact⟨c.1,vH (by rw[c.1];exact c.2.2.2)⟩
theorem aD8 (l:List UInt8):lU l=bY l:=by
 cases h:lU l with
 |some d=>
  obtain⟨k,a,b⟩:=d;unfold lU at h;split at h
  ·rename_i hc;simp only[aTh]at h;rw[h]at hc;have ho:=vH (by rw[hc.2];exact hc.1);rw[←hc.2,zC ho]
  simp at h
 |none=>
  cases h2:bY l with
  |none=>rfl
  |some d=>obtain⟨k,a,b⟩:=d;obtain⟨e,ho⟩:=zD h2;rw[←e,yR ho]at h;simp at h
def gC (c:UInt8):List UInt8→List UInt8
 | []=> []
 |x::xs=>if x=c then []else x::gC c xs
def gK (c:UInt8):List UInt8→List UInt8
 | []=> []
 |x::xs=>if x=c then xs else gK c xs
theorem iU (c:UInt8): ∀(a b:List UInt8),c∉a→gC c (a++c::b)=a∧gK c (a++c::b)=b:=by
 intro a b;induction a with
 |nil=>intro _;simp[gC,gK]
 |cons x xs ih=>
  intro h;obtain⟨i1,i2⟩:=ih (fun q=>h (by simp[q]));have hx:x≠c:=fun q=>h (by simp[q])
  simp[gC,gK,hx,i1,i2]
theorem aL6 (c:UInt8): ∀(l:List UInt8),(cL c l)[0]? =some (gC c l):=by
 intro l;induction l with
 |nil=>rfl
 |cons x xs ih=>
  by_cases h:x=c
  ·rw[cL,if_pos h,gC,if_pos h]<;>rfl
  have e:cL c (x::xs)=match cL c xs with| []=> [[x]]|p::ps=>(x::p)::ps:=by rw[cL,if_neg h]<;>rfl
  rw[e,gC,if_neg h];cases hq:cL c xs with
  |nil=>exact absurd hq (kO c xs)
  |cons p ps=>rw[hq]at ih;simpa using ih
theorem qQ (c:UInt8): ∀(l:List UInt8),c∈l→ ∃a b,l=a++c::b∧c∉a:=by
 intro l;induction l with
 |nil=>intro h;simp at h
 |cons x xs ih=>
  intro h;by_cases hx:x=c
  ·exact⟨[],xs,by simp[hx],by simp⟩
  obtain⟨a,b,e,ha⟩:=ih (by rcases aS6.1 h with h|h;exact absurd h.symm hx;exact h);exact⟨x::a,b,by simp[e],by simp[ha];exact fun q=>hx q.symm⟩
abbrev aIz:=Int×Int×Int
end Go.Proofs.YtbgkcehffiogcacGreatDoor
