/-
  Texts of this proof, packed (@packed).
-/
import Derived.Lib.CountLaws
import Derived.Lib.SplitLaws
import Derived.Test.YtbgkcehffiogcabGreatDoorX4
namespace Go.Proofs.YtbgkcehffiogcabGreatDoor
open Go.RowKit
set_option linter.unusedSimpArgs false
set_option linter.unusedVariables false
set_option maxHeartbeats 8000000
set_option maxRecDepth 100000
section
open Go.Proofs.Tryz
def bX (k:Int):List UInt8:=
 if k=0 then [105,110]else if k=1 then [112,97,121]else if k=2 then [111,117,116]else if k=3 then [119,97,105,116]else if k=4 then [115,108,105,100,101]else []
def jL (k:Int):Bool:=k==1 || k==4
def fU (k a b:Int):Bool:=decide (0≤k∧k≤4∧0≤a∧a≤9999∧0≤b∧b≤9999)&&(jL k || b==0)
def aY (k a b:Int):List UInt8:=
 if fU k a b then bX k++ [32]++Lib.decDigits a.toNat++(if jL k then [32]++Lib.decDigits b.toNat else [])else []
abbrev dL (k a b:Int):Value:= .agg #[k,a,b]
theorem pP (k a b:Int)(w:World)(h:a<0∨0≤a∧9999<a∨0≤a∧a≤9999∧b<0∨0≤a∧a≤9999∧0≤b∧9999<b∨0≤a∧a≤9999∧0≤b∧b≤9999∧(k==1)=false∧(k==4)=false∧(b !=0)=true
  ∨0≤a∧a≤9999∧0≤b∧b≤9999∧(k==1)=false∧(k==4)=false∧(b !=0)=false∧(k==0)=false∧(k==2)=false∧(k==3)=false):
  U 124 #[dL k a b] w (Z (str []) w):=by
 rcases h with h|⟨h0,h⟩|⟨h0,h1,h⟩|⟨h0,h1,h2,h⟩|⟨h0,h1,h2,h3,h4,h5,h6⟩|⟨h0,h1,h2,h3,h4,h5,h6,h7,h8,h9⟩
 all_goals
  go_enter func124,ntmps124;go_wp2;go_ret;exact⟨rfl,xE⟩
theorem aDz (k a b:Int)(w:World)(h:(k==0)=false∧(k==1)=false∧(k==2)=false∧(k==3)=false∧(k==4)=false):
  U 70 #[dL k a b] w (Z (str []) w):=by
 obtain⟨h0,h1,h2,h3,h4⟩:=h;go_enter func70,ntmps70;go_wp2;go_ret;exact⟨rfl,xE⟩
theorem aBg (k a b:Int)(w:World)(hk:k=0∨k=1∨k=2∨k=3∨k=4)(h:a<0∨0≤a∧9999<a∨0≤a∧a≤9999∧b<0∨0≤a∧a≤9999∧0≤b∧9999<b):
  U 70 #[dL k a b] w (Z (str []) w):=by
 rcases hk with rfl|rfl|rfl|rfl|rfl
 all_goals
  rcases h with h|⟨h0,h⟩|⟨h0,h1,h⟩|⟨h0,h1,h2,h⟩
  all_goals
   go_enter func70,ntmps70;go_wp2;go_ret;exact⟨rfl,xE⟩
theorem aBf (k a b:Int)(w:World)(hk:k=0∨k=2∨k=3)(h0:0≤a)(h1:a≤9999)(h2:0≤b)(h3:b≤9999)(h4:(b !=0)=true):
  U 70 #[dL k a b] w (Z (str []) w):=by
 rcases hk with rfl|rfl|rfl
 all_goals
  go_enter func70,ntmps70;go_wp2;go_ret;exact⟨rfl,xE⟩
theorem aEz (k a:Int)(w:World)(hE:Env w)(hk:k=0∨k=2∨k=3)(h0:0≤a)(h1:a≤9999):
  U 124 #[dL k a 0] w (Z (str (bX k++ [32]++Lib.decDigits a.toNat)) w):=by
 have hl:(Lib.decDigits a.toNat).length≤21:=cI _ (by omega);have HE:=xQ hE;clear hE;rcases hk with rfl|rfl|rfl
 all_goals
  go_enter func124,ntmps124;go_wp2_with fail;go_fit (tL a _ h0 (by omega) (HE.out.ext xE));rintro e w1 ⟨rfl,h1⟩;go_wp2;go_ret;exact⟨kV (by simp[bX]),xE⟩
theorem aEy (k a b:Int)(w:World)(hE:Env w)(hk:k=1∨k=4)(h0:0≤a)(h1:a≤9999)(h2:0≤b)(h3:b≤9999):
  U 124 #[dL k a b] w (Z (str (bX k++ [32]++Lib.decDigits a.toNat++([32]++Lib.decDigits b.toNat))) w):=by
 have hl:(Lib.decDigits a.toNat).length≤21:=cI _ (by omega);have d:(Lib.decDigits b.toNat).length≤21:=cI _ (by omega);have HE:=xQ hE;clear hE;rcases hk with rfl|rfl
 all_goals
  go_enter func124,ntmps124;go_wp2_with fail;go_fit (tL a _ h0 (by omega) (HE.out.ext xE));rintro e w1 ⟨rfl,h1⟩;have c:=h1.cells.1;go_wp2_with fail;go_fit (tL b _ h2 (by omega) (HE.out.ext xE));rintro e w2 ⟨rfl,h2⟩;go_wp2;go_ret;exact⟨kV (by simp[bX]),xE⟩
theorem iY (k:Int)(w:World)(hk:k=0∨k=1∨k=2∨k=3∨k=4):U 116 #[k] w fun e w'=>e= .returned (str (bX k))∧w=w':=by
 rcases hk with rfl|rfl|rfl|rfl|rfl
 all_goals
  go_enter func116,ntmps116;go_wp2;go_ret;exact⟨kV (by simp[bX]),rfl⟩
theorem aDy (k a:Int)(nm:List UInt8)(w:World)(t1:(k==1)=false)(t4:(k==4)=false)(h0:0≤a)(h1:a≤9999)(hN: ∀w,U 116 #[k] w fun e w'=>e= .returned (str nm)∧w=w')(he:nm.isEmpty=false)(hn:nm.length≤5):
  U 70 #[dL k a 0] w (Z (str (nm++ [32]++Lib.decDigits a.toNat)) w):=by
 have hl:(Lib.decDigits a.toNat).length≤21:=cI _ (by omega);have c: ¬9223372036854775807<nm.length+1:=by omega
 have d: ¬9223372036854775807<nm.length+1+(Lib.decDigits a.toNat).length:=by omega
 all_goals
  have HN:=xQ hN;clear hN;go_enter func70,ntmps70;go_wp2_with (first|(go_at_call 116;refine(HN _).mono ?_;rintro e w1 ⟨rfl,rfl⟩)|go_in)
  go_region_held3 (fun w'=>w'.cell? ⟨w,0,none⟩=some (I k)∧w'.cell? ⟨w,1,none⟩=some (I a)) (go_keep)
   (first|(go_at_call 116;refine(HN _).mono ?_;rintro e w1 ⟨rfl,rfl⟩)|(go_at_call 72;refine Ω (lI a _ h0 (by omega)) fun w1 h1=>?_;have b:=h1.cells.1))
  all_goals go_wp2
  all_goals go_ret
  all_goals exact⟨kV (by simp),xE⟩
theorem aDx (k a b:Int)(nm:List UInt8)(w:World)(hk:(k==1)=true∨(k==1)=false∧(k==4)=true)(h0:0≤a)(h1:a≤9999)(h2:0≤b)(h3:b≤9999)(hN: ∀w,U 116 #[k] w fun e w'=>e= .returned (str nm)∧w=w')(he:nm.isEmpty=false)(hn:nm.length≤5):
  U 70 #[dL k a b] w (Z (str (nm++ [32]++Lib.decDigits a.toNat++([32]++Lib.decDigits b.toNat))) w):=by
 have hl:(Lib.decDigits a.toNat).length≤21:=cI _ (by omega);have d:(Lib.decDigits b.toNat).length≤21:=cI _ (by omega);have f: ¬9223372036854775807<nm.length+1:=by omega
 have g: ¬9223372036854775807<nm.length+1+(Lib.decDigits a.toNat).length:=by omega
 rcases hk with t1|⟨t1,t4⟩
 all_goals
  have HN:=xQ hN;clear hN;go_enter func70,ntmps70;go_wp2_with (first|(go_at_call 116;refine(HN _).mono ?_;rintro e w1 ⟨rfl,rfl⟩)|go_in)
  go_region_held3 (fun w'=>w'.cell? ⟨w,0,none⟩=some (I k)∧w'.cell? ⟨w,1,none⟩=some (I a)∧w'.cell? ⟨w,2,none⟩=some (I b)) (go_keep)
   (first|(go_at_call 116;refine(HN _).mono ?_;rintro e w1 ⟨rfl,rfl⟩)|(go_at_call 72;refine Ω (lI a _ h0 (by omega)) fun w1 h1=>?_;have c:=h1.cells.1))
  all_goals go_wp2_with (first|(go_at_call 72;refine(lI b _ h2 (by omega)).mono ?_;rintro e w2 ⟨rfl,h2⟩)|go_in)
  all_goals go_ret
  all_goals exact⟨kV (by simp),xE⟩
theorem vQ (k:Int)(hk:k=0∨k=1∨k=2∨k=3∨k=4):(bX k).isEmpty=false∧(bX k).length≤5:=by rcases hk with rfl|rfl|rfl|rfl|rfl<;>decide
theorem zL (k a b:Int)(w:World):U 70 #[dL k a b] w (Z (str (aY k a b)) w):=by
 by_cases hk:k=0∨k=1∨k=2∨k=3∨k=4
 ·by_cases hr:0≤a∧a≤9999∧0≤b∧b≤9999
  ·obtain⟨h0,h1,h2,h3⟩:=hr;obtain⟨he,hn⟩:=vQ k hk;by_cases ht:k=1∨k=4
   ·have e:aY k a b=bX k++ [32]++Lib.decDigits a.toNat++([32]++Lib.decDigits b.toNat):=by
     rcases ht with rfl|rfl<;>simp[aY,fU,jL,h0,h1,h2,h3]
    rw[e];exact aDx k a b _ w (by simp;omega) h0 h1 h2 h3 (fun w=>iY k w hk) he hn
   have c:k=0∨k=2∨k=3:=by omega
   by_cases hb:b=0
   ·subst hb;have e:aY k a 0=bX k++ [32]++Lib.decDigits a.toNat:=by
     rcases c with rfl|rfl|rfl<;>simp[aY,fU,jL,h0,h1]
    rw[e];exact aDy k a _ w (by simp;omega) (by simp;omega) h0 h1 (fun w=>iY k w hk) he hn
   have e:aY k a b= []:=by rcases c with rfl|rfl|rfl<;>simp[aY,fU,jL,hb]
   rw[e];exact aBf k a b w c h0 h1 h2 h3 (by simp[hb])
  have e:aY k a b= []:=by unfold aY;rw[if_neg];simp[fU];omega
  rw[e];exact aBg k a b w hk (by omega)
 have e:aY k a b= []:=by unfold aY;rw[if_neg];simp[fU];omega
 rw[e];exact aDz k a b w (by simp;omega)
theorem oV (k a b:Int)(w:World)(hE:Env w):U 124 #[dL k a b] w (Z (str (aY k a b)) w):=by
 by_cases hr:0≤a∧a≤9999∧0≤b∧b≤9999
 ·obtain⟨h0,h1,h2,h3⟩:=hr;by_cases ht:k=1∨k=4
  ·have e:aY k a b=bX k++ [32]++Lib.decDigits a.toNat++([32]++Lib.decDigits b.toNat):=by
    rcases ht with rfl|rfl<;>simp[aY,fU,jL,h0,h1,h2,h3]
   rw[e];exact aEy k a b w hE ht h0 h1 h2 h3
  by_cases hb:b=0
  ·subst hb;by_cases hk:k=0∨k=2∨k=3
   ·have e:aY k a 0=bX k++ [32]++Lib.decDigits a.toNat:=by
     rcases hk with rfl|rfl|rfl<;>simp[aY,fU,jL,h0,h1]
    rw[e];exact aEz k a w hE hk h0 h1
   have e:aY k a 0= []:=by unfold aY;rw[if_neg];simp[fU];omega
   rw[e];exact pP k a 0 w (.inr (.inr (.inr (.inr (.inr ⟨h0,h1,by omega,by omega,by simp;omega,by simp;omega,by simp,by simp;omega,by simp;omega,by simp;omega⟩)))))
  have e:aY k a b= []:=by unfold aY;rw[if_neg];simp[fU,jL];omega
  rw[e];exact pP k a b w (.inr (.inr (.inr (.inr (.inl ⟨h0,h1,h2,h3,by simp;omega,by simp;omega,by simp[hb]⟩)))))
 have e:aY k a b= []:=by unfold aY;rw[if_neg];simp[fU];omega
 rw[e];exact pP k a b w (by omega)
def lZ (l:List UInt8):Int:=l.foldl (fun s c=>(7*s+(c.toNat:Int))%97) 1
theorem rY (l:List UInt8):0≤lZ l∧lZ l<97:=by
 unfold lZ;have: ∀(l:List UInt8) (s:Int),0≤s∧s<97→0≤l.foldl (fun s c=>(7*s+(c.toNat:Int))%97) s∧l.foldl (fun s c=>(7*s+(c.toNat:Int))%97) s<97:=by
  intro l;induction l with
  |nil=>intro s h;exact h
  |cons c l ih=>intro s h;simp only[List.foldl_cons];apply ih;omega
 exact this l 1 (by omega)
theorem kE (s:ByteArray)(k:Nat)(h:k<s.size):s.data.toList.take (k+1)=s.data.toList.take k++ [s[k]]:=by rw[List.take_succ_eq_append_getElem (by simpa using h)];rfl
theorem aC2 (l:List UInt8)(c:UInt8):lZ (l++ [c])=(7*lZ l+(c.toNat:Int))%97:=by unfold lZ;rw[List.foldl_append];rfl
theorem aL6 (s:ByteArray)(w:World)(hs:s.size≤maxLen):
  U 74 #[.string s] w fun e w'=>e= .returned (I (lZ s.data.toList))∧w=w':=by
 unfold maxLen at hs;go_enter func74,ntmps74;go_wp2;go_loop [3,4] (fun n i=> ∃k:Nat,k≤s.size∧i=I k∧n=I (lZ (s.data.toList.take k))) (fun _ i=>s.size-(intOf i).toNat)
 case atStart=>exact⟨0,aT8 _,rfl,rfl⟩
 case round=>
  obtain⟨k,hk,rfl,rfl⟩:=hrel;have hd:=rY (s.data.toList.take k);by_cases hlt:k<s.size
  ·have hc:(s[k].toNat:Int)<256:=by have:=s[k].toNat_lt;omega
   have HS:Hid (lZ (s.data.toList.take (k+1))=(7*lZ (s.data.toList.take k)+(s[k].toNat:Int))%97):=by rw[kE s k hlt];exact aC2 _ _
   go_wp2;go_round
   case rel=>exact⟨k+1,by omega,by go_num,by rw[HS.out]⟩
   case measure=>simp[intOf];omega
  go_wp2;go_ret;exact⟨eE (by rw[aT7 (by simp;omega)]),rfl⟩
theorem aMb (s:ByteArray)(w:World)(hs:s.size≤maxLen):
  U 91 #[.string s] w fun e w'=>e= .returned (I (lZ s.data.toList))∧w=w':=by
 unfold maxLen at hs;go_enter func91,ntmps91;go_wp2;go_loop [3,4] (fun n i=> ∃k:Nat,k≤s.size∧i=I k∧n=I (lZ (s.data.toList.take k))) (fun _ i=>s.size-(intOf i).toNat)
 case atStart=>exact⟨0,aT8 _,rfl,rfl⟩
 case round=>
  obtain⟨k,hk,rfl,rfl⟩:=hrel;have hd:=rY (s.data.toList.take k);by_cases hlt:k<s.size
  ·have hc:(s[k].toNat:Int)<256:=by have:=s[k].toNat_lt;omega
   have HS:Hid (lZ (s.data.toList.take (k+1))=(7*lZ (s.data.toList.take k)+(s[k].toNat:Int))%97):=by rw[kE s k hlt];exact aC2 _ _
   go_wp2;go_round
   case rel=>exact⟨k+1,by omega,by go_num,by rw[HS.out]⟩
   case measure=>simp[intOf];omega
  go_wp2;go_ret;exact⟨eE (by rw[aT7 (by simp;omega)]),rfl⟩
theorem zG (l:List UInt8)(w:World)(hl:l.length≤maxLen):
  U 74 #[str l] w fun e w'=>e= .returned (I (lZ l))∧w=w':=aL6 ⟨l.toArray⟩ w (by simpa[ByteArray.size]using hl)
theorem aJ8 (l:List UInt8)(w:World)(hl:l.length≤maxLen):
  U 91 #[str l] w fun e w'=>e= .returned (I (lZ l))∧w=w':=aMb ⟨l.toArray⟩ w (by simpa[ByteArray.size]using hl)
def jZ (t:List UInt8):List UInt8:=t++ [35]++Lib.decDigits (lZ t).toNat
def yV (n:Int)(t:List UInt8):List UInt8:=if 1≤n∧n≤99∧t≠ []then jZ (Lib.decDigits n.toNat++ [58]++t)++ [59]else []
def bU (n k a b:Int):List UInt8:=yV n (aY k a b)
theorem uL (t:List UInt8):(Lib.decDigits (lZ t).toNat).length≤21:=by have:=rY t;exact cI _ (by omega)
theorem lB (k a b:Int):(aY k a b).length≤60:=by
 unfold aY;split
 ·rename_i h;simp[fU]at h;obtain⟨⟨h1,h2,h3,h4,h5,h6⟩,_⟩:=h;have e1:(bX k).length≤5:=(vQ k (by omega)).2;have e2:=cI a.toNat (by omega);have e3:=cI b.toNat (by omega);split<;>simp<;>omega
 simp
theorem xW (t:List UInt8)(w:World)(ht:t.length≤1000000)(hE:Env w):
  U 52 #[str t] w (Z (str (jZ t)) w):=by
 have hl:=uL t;have hb:=rY t;have HE:=xQ hE;clear hE;go_enter func52,ntmps52;go_wp2_with fail;refine(aJ8 t _ (by unfold maxLen;omega)).mono ?_;rintro e w1 ⟨rfl,rfl⟩;go_wp2_with fail;refine Ω (tL (lZ t) _ (by omega) (by omega) HE.out) fun w1 h1=>?_
 go_wp2;go_ret;exact⟨kV rfl,xE⟩
theorem aEx (n k a b:Int)(t:List UInt8)(w:World)(hE:Env w)(hD: ∀w,Env w→U 124 #[dL k a b] w (Z (str t) w))(c:t.length≤60)
  (h:n<1∨1≤n∧99<n∨1≤n∧n≤99∧t.isEmpty=true):
  U 84 #[n,dL k a b] w (Z (str []) w):=by
 have HE:=xQ hE;have HD:=xQ hD;clear hE hD;rcases h with h|⟨h0,h⟩|⟨h0,h1,h⟩
 all_goals
  go_enter func84,ntmps84;go_wp2_with fail;refine Ω (HD _ (HE.out.ext xE)) fun w1 h1=>?_
  go_wp2;go_ret;exact⟨rfl,xE⟩
theorem aEw (n k a b:Int)(t:List UInt8)(w:World)(hE:Env w)(hD: ∀w,Env w→U 124 #[dL k a b] w (Z (str t) w))(f:t.length≤60)
  (h0:1≤n)(h1:n≤99)(h:t.isEmpty=false):
  U 84 #[n,dL k a b] w (Z (str (jZ (Lib.decDigits n.toNat++ [58]++t)++ [59])) w):=by
 have HE:=xQ hE;have HD:=xQ hD;clear hE hD;have hl:=cI n.toNat (by omega);have c:=uL (Lib.decDigits n.toNat++ [58]++t);obtain⟨r,hr⟩: ∃r,r=jZ (Lib.decDigits n.toNat++ [58]++t):=⟨_,rfl⟩
 have d:r.length≤200:=by rw[hr];simp only[jZ,aTa,aU1,List.length_nil];omega
 have HW:Hid (∀w,Env w→U 52 #[.string (⟨(Lib.decDigits n.toNat).toArray⟩++⟨#[58]⟩++⟨t.toArray⟩)] w (Z (str r) w)):=by intro w hE;rw[hr];exact xW (Lib.decDigits n.toNat++ [58]++t) w (by simp;omega) hE
 rw[←hr];clear c hr;go_enter func84,ntmps84;go_wp2_with fail;refine Ω (HD _ (HE.out.ext xE)) fun w1 h1=>?_
 go_wp2_with fail;refine Ω (tL n _ (by omega) (by omega) (HE.out.ext xE)) fun w2 h2=>?_
 go_wp2_with fail;refine Ω (HW _ (HE.out.ext xE)) fun w3 h3=>?_
 go_wp2;go_ret;exact⟨kV rfl,xE⟩
theorem aMp (n k a b:Int)(w:World)(hE:Env w):U 84 #[n,dL k a b] w (Z (str (bU n k a b)) w):=by
 unfold bU yV;split
 ·rename_i h;exact aEw n k a b _ w hE (fun w h=>oV k a b w h) (lB k a b) h.1 h.2.1 (by simpa using h.2.2)
 rename_i h;refine aEx n k a b _ w hE (fun w h=>oV k a b w h) (lB k a b) ?_;by_cases e:aY k a b= []<;>simp[e]at h⊢ <;>omega
theorem aDv (n k a b:Int)(t:List UInt8)(w:World)(hD: ∀w,U 70 #[dL k a b] w (Z (str t) w))(c:t.length≤60)
  (h:n<1∨1≤n∧99<n∨1≤n∧n≤99∧t.isEmpty=true):
  U 99 #[n,dL k a b] w (Z (str []) w):=by
 have HD:=xQ hD;clear hD;rcases h with h|⟨h0,h⟩|⟨h0,h1,h⟩
 all_goals
  go_enter func99,ntmps99;go_wp2_with (first|(go_at_call 70;refine(HD _).mono ?_;rintro e w1 ⟨rfl,h1⟩)|go_in);go_ret;exact⟨rfl,xE⟩
theorem aDu (n k a b:Int)(t:List UInt8)(w:World)(hD: ∀w,U 70 #[dL k a b] w (Z (str t) w))(m:t.length≤60)
  (h0:1≤n)(h1:n≤99)(h:t.isEmpty=false):
  U 99 #[n,dL k a b] w (Z (str (jZ (Lib.decDigits n.toNat++ [58]++t)++ [59])) w):=by
 have HD:=xQ hD;clear hD;have hl:=cI n.toNat (by omega);have d:=uL (Lib.decDigits n.toNat++ [58]++t);have hb:=rY (Lib.decDigits n.toNat++ [58]++t);have j: ¬9223372036854775807<(Lib.decDigits n.toNat).length+1:=by omega
 have l: ¬9223372036854775807<(Lib.decDigits n.toNat).length+1+t.length:=by omega
 obtain⟨q,hq⟩: ∃q,q=Lib.decDigits n.toNat++ [58]++t:=⟨_,rfl⟩
 have i:q.length≤100:=by rw[hq];simp;omega
 rw[←hq]at d hb⊢;have HQ:=xQ hq;clear hq;go_enter func99,ntmps99;go_wp2_with (first|(go_at_call 70;refine Ω (HD _) fun w1 h1=>?_;have g:=h1.cells.1)|go_in);go_upto_region 3 with fail;go_cut [5] (fun s5 wx=>s5=str q∧Ext w wx)
 case first=>
  have o:(w:Nat)<w1:=aT1 (by simp) h1.sz
  go_region_held3 (fun w'=>w'.cell? ⟨w,0,none⟩=some (I k)∧w'.cell? ⟨w,1,none⟩=some (I a)∧w'.cell? ⟨w,2,none⟩=some (I b)) (go_keep)
   (first|(go_at_call 70;refine(HD _).mono ?_;rintro e w2 ⟨rfl,h2⟩;(try replace h2:=h2.of_drew);have c:=h2.cells.1;have f:(w:Nat)<w2:=aT1 (by assumption) h2.sz)|(go_at_call 72;refine Ω (lI n _ (by omega) (by omega)) fun w2 h2=>?_;(try replace h2:=h2.of_drew);have c:=h2.cells.1;have f:(w:Nat)<w2:=aT1 (by assumption) h2.sz))
  all_goals (go_wp2_with fail;go_meet;exact⟨by rw[HQ.out];rfl,xE⟩)
 case rest=>
  obtain⟨rfl,hx⟩:=hcut;go_wp2_with fail;refine(zG q _ (by unfold maxLen;omega)).mono ?_;rintro e w1 ⟨rfl,rfl⟩;go_wp2_with fail;refine Ω (lI (lZ q) _ (by omega) (by omega)) fun w1 h1=>?_
  go_wp2;go_ret;exact⟨kV rfl,xE⟩
theorem aLj (n k a b:Int)(w:World):U 99 #[n,dL k a b] w (Z (str (bU n k a b)) w):=by
 unfold bU yV;split
 ·rename_i h;exact aDu n k a b _ w (fun w=>zL k a b w) (lB k a b) h.1 h.2.1 (by simpa using h.2.2)
 rename_i h;refine aDv n k a b _ w (fun w=>zL k a b w) (lB k a b) ?_;by_cases e:aY k a b= []<;>simp[e]at h⊢ <;>omega
def dN (c:UInt8):Bool:=decide (48≤(c.toNat:Int)∧(c.toNat:Int)≤57)
def iQ (l:List UInt8):Int:=l.foldl (fun n c=>10*n+((c.toNat:Int)-48)) 0
def bH (m:Nat)(l:List UInt8):Option Int:=
 if 1≤l.length∧l.length≤m∧(l.length≤1∨l.head? ≠some 48)∧l.all dN=true then some (iQ l)else none
theorem sH (l:List UInt8)(c:UInt8):iQ (l++ [c])=10*iQ l+((c.toNat:Int)-48):=by unfold iQ;rw[List.foldl_append];rfl
theorem aA3 (l:List UInt8)(h:l.all dN=true)(hl:l.length≤5):0≤iQ l∧iQ l≤99999:=by
 match l,hl with
 | [],_=>simp[iQ]
 | [a],_=>simp[iQ,dN]at h⊢;omega
 | [a,b],_=>simp[iQ,dN]at h⊢;omega
 | [a,b,c],_=>simp[iQ,dN]at h⊢;omega
 | [a,b,c,d],_=>simp[iQ,dN]at h⊢;omega
 | [a,b,c,d,e],_=>simp[iQ,dN]at h⊢;omega
 |_::_::_::_::_::_::_,hl=>simp at hl
theorem tR (s:ByteArray)(k:Nat)(h:k<s.size)(ha:(s.data.toList.take k).all dN=true)(hc:dN s[k]=true):(s.data.toList.take (k+1)).all dN=true:=by rw[kE s k h];simp[ha,hc]
theorem sI (s:ByteArray)(k:Nat)(h:k<s.size)(hc:dN s[k]=false):s.data.toList.all dN=false:=by rw[List.all_eq_false];exact⟨s[k],by rw[Array.mem_toList_iff];exact Array.getElem_mem (xs:=s.data) (i:=k) h,by simp[hc]⟩
theorem aMx (s:ByteArray)(h:0<s.size):s.data.toList.head? =some s[0]:=by
 obtain⟨⟨l⟩⟩:=s;cases l with
 |nil=>simp[ByteArray.size]at h
 |cons a l=>rfl
theorem kW {m:Nat}{l:List UInt8}(h:l.length<1∨m<l.length):bH m l=none:=by unfold bH;rw[if_neg];omega
theorem qF {m:Nat}{l:List UInt8}(h:1<l.length)(h0:l.head? =some 48):bH m l=none:=by
 unfold bH;rw[if_neg];rintro⟨_,_,h1|h1,_⟩
 ·omega
 exact h1 h0
theorem qR {m:Nat}{l:List UInt8}(h:l.all dN=false):bH m l=none:=by unfold bH;rw[if_neg];simp[h]
theorem tW {m:Nat}{l:List UInt8}(h1:1≤l.length)(h2:l.length≤m)(h3:l.length≤1∨l.head? ≠some 48)(h4:l.all dN=true):bH m l=some (iQ l):=by unfold bH;rw[if_pos ⟨h1,h2,h3,h4⟩]
theorem aGs {c:UInt8}(h0:48≤(c.toNat:Int))(h1:(c.toNat:Int)≤57):dN c=true:=by simp[dN];omega
theorem mY {c:UInt8}(h:(c.toNat:Int)<48∨57<(c.toNat:Int)):dN c=false:=by simp[dN];omega
def aJx (l:List UInt8):Int:=if l.all dN then iQ l else -1
theorem aAx {l:List UInt8}(h:l.all dN=true):aJx l=iQ l:=if_pos h
theorem wY {l:List UInt8}(h:l.all dN=false):aJx l= -1:=if_neg (by simp[h])
theorem pN (s:ByteArray)(w:World)(h:s.size<1∨4<s.size∧s.size≤9223372036854775807∨1<s.size∧s.size≤4∧ ∀h:0<s.size,((s[0].toNat:Int)==48)=true):
  U 57 #[.string s] w fun e w'=>e= .returned (I (-1))∧w=w':=by
 rcases h with h|⟨h,h'⟩|⟨h,h',h0⟩
 ·go_enter func57,ntmps57;go_wp2;go_ret;exact⟨rfl,rfl⟩
 ·go_enter func57,ntmps57;go_wp2;go_ret;exact⟨rfl,rfl⟩
 have hp:0<s.size:=by omega
 have a:=h0 hp;clear h0;go_enter func57,ntmps57;go_wp2;go_ret;exact⟨rfl,rfl⟩
theorem aGn (s:ByteArray)(w:World)(h1:1≤s.size)(h4:s.size≤4)(hz:s.size≤1∨1<s.size∧ ∀h:0<s.size,((s[0].toNat:Int)==48)=false):
  U 57 #[.string s] w fun e w'=>e= .returned (I (aJx s.data.toList))∧w=w':=by
 have hp:0<s.size:=by omega
 rcases hz with hz|⟨hz,h0⟩
 all_goals
  try (have b:=h0 hp)
  try clear h0
  go_enter func57,ntmps57;go_wp2;go_loop [3,4] (fun n i=> ∃k:Nat,k≤s.size∧i=I k∧n=I (iQ (s.data.toList.take k))∧(s.data.toList.take k).all dN=true) (fun _ i=>s.size-(intOf i).toNat)
  case atStart=>exact⟨0,aT8 _,rfl,rfl,by simp⟩
  case round=>
   obtain⟨k,hk,rfl,rfl,a⟩:=hrel;have hb:=aA3 _ a (by simp;omega);have HA:=xQ a;clear a;by_cases hlt:k<s.size
   ·have HS:Hid (iQ (s.data.toList.take (k+1))=10*iQ (s.data.toList.take k)+((s[k].toNat:Int)-48)):=by rw[kE s k hlt];exact sH _ _
    rcases(show(s[k].toNat:Int)<48∨48≤(s[k].toNat:Int)∧57<(s[k].toNat:Int)∨48≤(s[k].toNat:Int)∧(s[k].toNat:Int)≤57 by omega)with hc|⟨hc0,hc⟩|⟨hc0,hc⟩
    ·go_wp2;go_ret;exact⟨eE (wY (sI s k hlt (mY (.inl hc)))).symm,rfl⟩
    ·go_wp2;go_ret;exact⟨eE (wY (sI s k hlt (mY (.inr hc)))).symm,rfl⟩
    go_wp2;go_round
    case rel=>exact⟨k+1,by omega,by go_num,by rw[HS.out],tR s k hlt HA (aGs hc0 hc)⟩
    case measure=>simp[intOf];omega
   have e:s.data.toList.take k=s.data.toList:=aT7 (by simp;omega);have HE:=xQ e;clear e;go_wp2;go_ret;exact⟨eE (by rw[aAx (by rw[←HE.out];exact HA.out),HE.out]),rfl⟩
theorem yU (s:ByteArray)(h:0<s.size):s.data.toList.head? =some 48↔((s[0].toNat:Int)==48)=true:=by
 rw[aMx s h];simp only[aU6,beq_iff_eq];constructor
 ·intro e;rw[e];rfl
 intro e;exact UInt8.toNat_inj.1 (by show _=48;omega)
theorem cH (s:ByteArray):s.data.toList.length=s.size:=by simp
theorem aAa (s:ByteArray)(w:World)(hs:s.size≤maxLen):
  U 57 #[.string s] w fun e w'=>e= .returned (I ((bH 4 s.data.toList).getD (-1)))∧w=w':=by
 unfold maxLen at hs;by_cases h1:s.size<1
 ·rw[kW (by rw[cH];omega)];exact pN s w (.inl h1)
 by_cases h4:4<s.size
 ·rw[kW (by rw[cH];omega)];exact pN s w (.inr (.inl ⟨h4,hs⟩))
 by_cases h0:1<s.size∧s.data.toList.head? =some 48
 ·rw[qF (by rw[cH];omega) h0.2];exact pN s w (.inr (.inr ⟨h0.1,by omega,fun h=>(yU s h).1 h0.2⟩))
 refine(aGn s w (by omega) (by omega) ?_).mono ?_
 ·by_cases hq:s.size≤1
  ·exact .inl hq
  refine .inr ⟨by omega,fun h=> ?_⟩;rw[←Bool.not_eq_true,←yU s h];intro e;exact h0 ⟨by omega,e⟩
 rintro e w' ⟨rfl,rfl⟩;refine⟨eE ?_,rfl⟩;cases ha:s.data.toList.all dN with
 |true=>rw[aAx ha,tW (by rw[cH];omega) (by rw[cH];omega) (by rw[cH];by_cases hq:s.size≤1;exact .inl hq;exact .inr (fun e=>h0 ⟨by omega,e⟩)) ha];rfl
 |false=>rw[wY ha,qR ha];rfl
def aKp (l:List UInt8):Bool:=l.all dN
def aFb (l:List UInt8):Int:=if l.all dN then iQ l else 0
theorem yB {l:List UInt8}(h:l.all dN=true):aFb l=iQ l:=if_pos h
theorem uG {l:List UInt8}(h:l.all dN=false):aFb l=0:=if_neg (by simp[h])
theorem aIr {a b:Int}{c d:Bool}(h:a=b)(k:c=d):Ending.returned (.tuple #[a,.bool c])= .returned (.tuple #[b,.bool d]):=by rw[h,k]
theorem lN (s:ByteArray)(m:Int)(w:World)(hm:1≤m∧m≤5)(h:s.size<1∨1≤s.size∧m<(s.size:Int)∧s.size≤9223372036854775807∨1<s.size∧(s.size:Int)≤m∧ ∀h:0<s.size,((s[0].toNat:Int)==48)=true):
  U 62 #[.string s,m] w fun e w'=>e= .returned (.tuple #[(),.bool false])∧w=w':=by
 rcases h with h|⟨h,h',h2⟩|⟨h,h',h0⟩
 ·go_enter func62,ntmps62;go_wp2;go_ret2;exact⟨rfl,rfl⟩
 ·go_enter func62,ntmps62;go_wp2;go_ret2;exact⟨rfl,rfl⟩
 have hp:0<s.size:=by omega
 have a:=h0 hp;clear h0;go_enter func62,ntmps62;go_wp2;go_ret2;exact⟨rfl,rfl⟩
theorem yM (s:ByteArray)(m:Int)(w:World)(hm:1≤m∧m≤5)(h1:1≤s.size)(h4:(s.size:Int)≤m)(hz:s.size≤1∨1<s.size∧ ∀h:0<s.size,((s[0].toNat:Int)==48)=false):
  U 62 #[.string s,m] w fun e w'=>e= .returned (.tuple #[(aFb s.data.toList:Int),.bool (aKp s.data.toList)])∧w=w':=by
 have hp:0<s.size:=by omega
 rcases hz with hz|⟨hz,h0⟩
 all_goals
  try (have b:=h0 hp)
  try clear h0
  go_enter func62,ntmps62;go_wp2;go_loop [6,7] (fun n i=> ∃k:Nat,k≤s.size∧i=I k∧n=I (iQ (s.data.toList.take k))∧(s.data.toList.take k).all dN=true) (fun _ i=>s.size-(intOf i).toNat)
  case atStart=>exact⟨0,aT8 _,rfl,rfl,by simp⟩
  case round=>
   obtain⟨k,hk,rfl,rfl,a⟩:=hrel;have hb:=aA3 _ a (by simp;omega);have HA:=xQ a;clear a;by_cases hlt:k<s.size
   ·have HS:Hid (iQ (s.data.toList.take (k+1))=iQ (s.data.toList.take k)*10+((s[k].toNat:Int)-48)):=by rw[kE s k hlt,sH];show _=_;omega
    rcases(show(s[k].toNat:Int)<48∨48≤(s[k].toNat:Int)∧57<(s[k].toNat:Int)∨48≤(s[k].toNat:Int)∧(s[k].toNat:Int)≤57 by omega)with hc|⟨hc0,hc⟩|⟨hc0,hc⟩
    ·go_wp2;go_ret2;exact⟨aIr (uG (sI s k hlt (mY (.inl hc)))).symm (sI s k hlt (mY (.inl hc))).symm,rfl⟩
    ·go_wp2;go_ret2;exact⟨aIr (uG (sI s k hlt (mY (.inr hc)))).symm (sI s k hlt (mY (.inr hc))).symm,rfl⟩
    go_wp2;go_round
    case rel=>exact⟨k+1,by omega,by go_num,by rw[HS.out],tR s k hlt HA (aGs hc0 hc)⟩
    case measure=>simp[intOf];omega
   have e:s.data.toList.take k=s.data.toList:=aT7 (by simp;omega);have HE:=xQ e;clear e;go_wp2;go_ret2;exact⟨aIr (by rw[yB (by rw[←HE.out];exact HA.out),HE.out]) (by rw[aKp,←HE.out];exact HA.out.symm),rfl⟩
theorem zV (s:ByteArray)(m:Nat)(w:World)(hm:1≤m∧m≤5)(hs:s.size≤maxLen):
  U 62 #[.string s,m] w fun e w'=>e= .returned (.tuple #[((bH m s.data.toList).getD 0:Int),.bool (bH m s.data.toList).isSome])∧w=w':=by
 unfold maxLen at hs;by_cases h1:s.size<1
 ·rw[kW (by rw[cH];omega)];exact lN s m w (by omega) (.inl h1)
 by_cases h4:m<s.size
 ·rw[kW (by rw[cH];omega)];exact lN s m w (by omega) (.inr (.inl ⟨by omega,by omega,hs⟩))
 by_cases h0:1<s.size∧s.data.toList.head? =some 48
 ·rw[qF (by rw[cH];omega) h0.2];exact lN s m w (by omega) (.inr (.inr ⟨h0.1,by omega,fun h=>(yU s h).1 h0.2⟩))
 refine(yM s m w (by omega) (by omega) (by omega) ?_).mono ?_
 ·by_cases hq:s.size≤1
  ·exact .inl hq
  refine .inr ⟨by omega,fun h=> ?_⟩;rw[←Bool.not_eq_true,←yU s h];intro e;exact h0 ⟨by omega,e⟩
 rintro e w' ⟨rfl,rfl⟩;cases ha:s.data.toList.all dN with
 |true=>rw[yB ha,tW (by rw[cH];omega) (by rw[cH];omega) (by rw[cH];by_cases hq:s.size≤1;exact .inl hq;exact .inr (fun e=>h0 ⟨by omega,e⟩)) ha,aKp,ha];exact⟨rfl,rfl⟩
 |false=>rw[uG ha,qR ha,aKp,ha];exact⟨rfl,rfl⟩
def aK (c:UInt8):List UInt8→List (List UInt8)
 | []=> [[]]
 |x::xs=>if x=c then []::aK c xs else match aK c xs with
  | []=> [[x]]
  |p::ps=>(x::p)::ps
theorem eN (c:UInt8)(l:List UInt8):aK c l≠ []:=by
 cases l with
 |nil=>simp[aK]
 |cons x xs=>unfold aK;split
             ·simp
             split<;>simp
theorem aBw (c:UInt8): ∀(l:List UInt8),aK c (l++ [c])=aK c l++ [[]]:=by
 intro l;induction l with
 |nil=>simp[aK]
 |cons x xs ih=>
  rw[aUu];unfold aK;by_cases h:x=c
  ·rw[if_pos h,if_pos h,ih];rfl
  rw[if_neg h,if_neg h,ih];cases hq:aK c xs with
  |nil=>exact absurd hq (eN c xs)
  |cons p ps=>rfl
theorem yQ (c:UInt8)(x:UInt8)(hx:x≠c): ∀(l:List UInt8) (A:List (List UInt8)) (p:List UInt8),aK c l=A++ [p]→aK c (l++ [x])=A++ [p++ [x]]:=by
 intro l;induction l with
 |nil=>
  intro A p h;simp only[aK,aUt]at h⊢;have:A= []∧p= []:=by
   cases A with
   |nil=>simpa using h.symm
   |cons a A=>simp at h
  obtain⟨rfl,rfl⟩:=this;simp[hx]
 |cons y ys ih=>
  intro A p h;rw[aUu];unfold aK at h⊢;by_cases hy:y=c
  ·rw[if_pos hy]at h⊢;cases A with
   |nil=>simp at h;exact absurd h.2 (eN c ys)
   |cons a A=>simp only[aUu,List.cons.injEq]at h;rw[ih A p h.2,←h.1];rfl
  rw[if_neg hy]at h⊢;cases hq:aK c ys with
  |nil=>exact absurd hq (eN c ys)
  |cons q qs=>
   rw[hq]at h;simp only at h;cases A with
   |nil=>simp only[aUt,List.cons.injEq]at h;obtain⟨rfl,rfl⟩:=h;rw[ih [] q (by simpa using hq)];rfl
   |cons a A=>simp only[aUu,List.cons.injEq]at h;obtain⟨rfl,rfl⟩:=h;rw[ih (q::A) p (by simpa using hq)];rfl
abbrev eQ (ls:List (List UInt8)):List Value:=ls.map str
theorem oC (s:ByteArray)(a b:Nat)(l:List UInt8)(h:(s.data.toList.take b).drop a=l):Value.string (s.extract a b)=str l:=by
 have:s.extract a b=⟨l.toArray⟩:=by apply ByteArray.ext;apply Array.toList_inj.1;rw[Lib.extract_data];show _=l;rw[←h,List.drop_take]
 rw[this]
theorem aR7:(prog.info? 9).map (fun i=>(i.zero,i.size,i.bytes))=some (some (.string ⟨#[]⟩),1,16):=by kernel_rfl
theorem lQ (s:ByteArray)(c:UInt8)(ci:Int)(l:ci=(c.toNat:Int))(w:World)(hs:s.size≤1099511627776):
  U 55 #[.string s,.int .u8 ci] w fun e w'=> ∃v,e= .returned v∧w'.ownsRow w 9 1 v (aK c s.data.toList).length (eQ (aK c s.data.toList))∧Ext w w':=by
 obtain⟨i0,hi,m,n,o⟩:=info_parts aR7;have HC:=xQ l;clear l;go_enter func55,ntmps55;go_wp2
 go_loopw [5,6,7] (fun v fr i wr=> ∃(k f:Nat) (A:List (List UInt8)) (p:List UInt8),k≤s.size∧f≤k∧A.length≤k∧fr=I f∧i=I k∧aK c (s.data.toList.take k)=A++ [p]∧p=(s.data.toList.take k).drop f∧
   wr.ownsRow w 9 1 v A.length (eQ A)∧Ext w wr) (fun _ _ i _=>s.size-(intOf i).toNat)
 case atStart=>exact⟨0,0,[],[],aT8 _,aT2 _,aT2 _,rfl,rfl,by simp[aK],by simp,aUc _ #[] 0 (aT2 _) (by simp[maxLen]) rfl,(Ext.refl _).alloc _⟩
 case round=>
  obtain⟨k,f,A,p,hk,hf,t,rfl,rfl,h,hp,b,hE⟩:=hrel;have g:=xQ h;have HP:=xQ hp;have x:=hE.sz;clear h hp;by_cases hlt:k<s.size
  ·by_cases hc:s[k]=c
   ·have hb:((s[k].toNat:Int)==ci)=true:=by rw[HC.out,hc];simp
    have r:=xQ hc;clear hc;go_wp2_with (at_builtin;refine wpList_append_own _ rfl _ _ 84 rfl w 9 i0 (.string ⟨#[]⟩) 1 16 underlying84 hi m n o rfl (by decide) _ _ _ rfl (b.alloc _) ⟨wr,0,none⟩ 1 1 [.string (s.extract f k)] rfl rfl ?c1 ?c2 ?c3 ?c4 ?c5 ?_)
    case c1=>exact cell_one_new _ _ _
    case c2=>intro u hu;simp at hu;subst hu;rfl
    case c3=>unfold maxLen;omega
    case c4=>omega
    case c5=>simp;omega
    intro v' w1 d a _;have j:Ext w w1:=(hE.alloc _).grown a (fun q hq=>(b.lt q hq).1);clear a b;go_wp2;go_roundw
    case rel=>
     refine⟨k+1,k+1,A++ [p],[],by omega,aT2 _,by simp;omega,by go_num,by go_num,?_,?_,?_,j⟩
     ·rw[kE s k hlt,r.out,aBw,g.out]
     ·rw[aUf (by simp;omega)]
     have:=d;rw[oC s f k p HP.out.symm]at this;simpa[eQ]using this
    case measure=>simp[intOf];omega
   have hb:((s[k].toNat:Int)==ci)=false:=by rw[HC.out,beq_eq_false_iff_ne];intro e;exact hc (UInt8.toNat_inj.1 (by omega))
   go_wp2;go_roundw
   case rel=>
    refine⟨k+1,f,A,p++ [s[k]],by omega,by omega,by omega,by go_num,by go_num,?_,?_,b,hE⟩
    ·rw[kE s k hlt];exact yQ c _ hc _ A p g.out
    rw[kE s k hlt,HP.out,List.drop_append_of_le_length (by simp;omega)]
   case measure=>simp[intOf];omega
  obtain rfl:k=s.size:=by omega
  have e:s.data.toList.take s.size=s.data.toList:=aT7 (by simp);have HE:=xQ e;clear e;go_wp2_with (at_builtin;refine wpList_append_own _ rfl _ _ 84 rfl w 9 i0 (.string ⟨#[]⟩) 1 16 underlying84 hi m n o rfl (by decide) _ _ _ rfl (b.alloc _) ⟨wr,0,none⟩ 1 1 [.string (s.extract f s.size)] rfl rfl ?d1 ?d2 ?d3 ?d4 ?d5 ?_)
  case d1=>exact cell_one_new _ _ _
  case d2=>intro u hu;simp at hu;subst hu;rfl
  case d3=>unfold maxLen;omega
  case d4=>omega
  case d5=>simp;omega
  intro v' w1 d a _;have j:Ext w w1:=(hE.alloc _).grown a (fun q hq=>(b.lt q hq).1);clear a b;go_wp2;go_ret;refine⟨_,rfl,?_,j⟩;have:=d;rw[oC s f s.size p HP.out.symm]at this;rw[←HE.out,g.out];simpa[eQ]using this
end
theorem sN (c:UInt8): ∀l:List UInt8,(Lib.index l [c]= -1∧aK c l= [l]∧c∉l)∨ ∃i:Nat,Lib.index l [c]=i∧i<l.length∧aK c l=l.take i::aK c (l.drop (i+1))∧c∉l.take i:=by
 intro l;induction l with
 |nil=>exact .inl ⟨rfl,rfl,by simp⟩
 |cons b l ih=>
  by_cases hb:b=c
  ·subst hb;refine .inr ⟨0,?_,by simp,by simp[aK],by simp⟩;unfold Lib.index;rw[if_pos (by simp[List.isPrefixOf])];rfl
  have hp:([c]:List UInt8).isPrefixOf (b::l)=false:=by simp[List.isPrefixOf];exact fun e=>hb e.symm
  rcases ih with⟨h1,h2,h3⟩|⟨i,h1,h2,h3,h4⟩
  ·refine .inl ⟨?_,?_,?_⟩
   ·unfold Lib.index;rw[hp,h1];rfl
   ·unfold aK;rw[if_neg hb,h2]
   simp[h3];exact fun e=>hb e.symm
  refine .inr ⟨i+1,?_,by simp;omega,?_,?_⟩
  ·unfold Lib.index;rw[hp,h1];simp only[Bool.false_eq_true,if_false];rw[if_neg (by simp)];rfl
  ·have e:aK c (b::l)=match aK c l with| []=> [[b]]|p::ps=>(b::p)::ps:=by
    rw[aK,if_neg hb]<;>rfl
   rw[e,h3];rfl
  simp[h4];exact fun e=>hb e.symm
theorem aL4 (c:UInt8): ∀(k:Nat) (s:ByteArray),Lib.countB s ⟨#[c]⟩=k→(Lib.splitB ⟨#[c]⟩ 0 k s).map (fun b=>b.data.toList)=aK c s.data.toList:=by
 intro k;induction k with
 |zero=>
  intro s hk;rw[Lib.splitB_zero];rcases sN c s.data.toList with⟨h1,h2,h3⟩|⟨i,h1,h2,h3,h4⟩
  ·rw[h2];rfl
  have:=Lib.countB_hit s ⟨#[c]⟩ i (aT2 1) h1;omega
 |succ k ih=>
  intro s hk;rcases sN c s.data.toList with⟨h1,h2,h3⟩|⟨i,h1,h2,h3,h4⟩
  ·have:=Lib.countB_miss s ⟨#[c]⟩ h1;omega
  have hc:=Lib.countB_hit s ⟨#[c]⟩ i (aT2 1) h1
  have hr:=ih (s.extract (i+1) s.size) (by
   have e:s.extract (i+1) s.size=s.extract (i+(⟨#[c]⟩:ByteArray).size) s.size:=rfl
   rw[e];omega)
  rw[Lib.splitB_hit ⟨#[c]⟩ 0 k s i h1,aUn];have e2:s.extract (i+(⟨#[c]⟩:ByteArray).size) s.size=s.extract (i+1) s.size:=rfl;rw[e2,hr,h3];congr 1
  ·rw[Lib.extract_data];simp
  congr 1;rw[Lib.extract_data];rw[aT7 (by simp)]
theorem zB (b:ByteArray):Value.string b=str b.data.toList:=rfl
theorem rZ (s:ByteArray)(c:UInt8)(w:World)(hs:s.size<4294967281)(hE:Env w):
  U 109 #[.string s,.string ⟨#[c]⟩] w fun e w'=> ∃v,e= .returned v∧w'.ownsRow w 9 1 v (aK c s.data.toList).length (eQ (aK c s.data.toList))∧Ext w w':=by
 obtain⟨m,hm⟩:=hE.mx;refine(Tryz.strings_Split s ⟨#[c]⟩ m w hs hm (aT2 1)).mono ?_;rintro e w' ⟨rfl,rfl⟩;have hq:=aL4 c _ s rfl;have hl:(aK c s.data.toList).length=Lib.countB s ⟨#[c]⟩+1:=by rw[←hq,aTk];exact Lib.splitB_all ⟨#[c]⟩ (aT2 1) 0 _ s rfl
 have hv:(Lib.splitB ⟨#[c]⟩ 0 (Lib.countB s ⟨#[c]⟩) s).map Value.string=eQ (aK c s.data.toList):=by rw[←hq,eQ,List.map_map];rfl
 refine⟨_,rfl,?_,(Ext.refl _).alloc _⟩;rw[hv,←hl];have:=Lib.countB_le ⟨#[c]⟩ (aT2 1) _ s (aT2 _);have h2:=World.ownsRow_lit (e:=9) (size:=1) (base:=w.heap.size) w (eQ (aK c s.data.toList)).toArray (aK c s.data.toList).length (aT2 _) (by unfold maxLen;omega) (by simp[eQ]);simpa using h2
theorem aQ8: ∀(k n:Nat),n≤k→(Lib.decDigits n).all dN=true∧(n≤9223372036854775807→iQ (Lib.decDigits n)=n)∧(1≤n→(Lib.decDigits n).head? ≠some 48):=by
 intro k;induction k with
 |zero=>
  intro n h;obtain rfl:n=0:=by omega
  rw[iJ 0 (by omega)];exact⟨by decide,fun _=>by decide,fun h=>by omega⟩
 |succ k ih=>
  intro n h;by_cases h10:n<10
  ·rw[iJ n h10];have e:(UInt8.ofNat (48+n)).toNat=48+n:=by simp;omega
   refine⟨?_,fun _=> ?_,fun h1 hh=> ?_⟩
   ·simp[dN];omega
   ·simp[iQ];omega
   simp at hh;have:=congrArg UInt8.toNat hh;simp at this;omega
  obtain⟨i1,i2,i3⟩:=ih (n/10) (by omega);rw[mT n h10];have e:(UInt8.ofNat (48+n%10)).toNat=48+n%10:=by simp;omega
  refine⟨?_,fun hb=> ?_,fun h1=> ?_⟩
  ·simp only[List.all_append,i1,List.all_cons,List.all_nil,Bool.and_true,Bool.true_and,dN,e];simp;omega
  ·rw[sH,i2 (by omega),e];omega
  have hp:=tO (n/10);cases hd:Lib.decDigits (n/10)with
  |nil=>rw[hd]at hp;simp at hp
  |cons x xs=>have:=i3 (by omega);rw[hd]at this;simpa using this
theorem aSj: ∀(k n:Nat),n<10 ^ (k+1)→(Lib.decDigits n).length≤k+1:=by
 intro k;induction k with
 |zero=>intro n h;rw[iJ n (by simpa using h)];simp
 |succ k ih=>
  intro n h;by_cases h10:n<10
  ·rw[iJ n h10];simp
  rw[mT n h10,aTa];have:=ih (n/10) (by rw[Nat.pow_succ]at h;omega);simp;omega
theorem jE (m n:Nat)(h:n<10 ^ m)(hm:1≤m)(a:m≤5):bH m (Lib.decDigits n)=some (n:Int):=by
 obtain⟨k,rfl⟩: ∃k,m=k+1:=⟨m-1,by omega⟩
 have hb:n≤99999:=by have:10 ^ (k+1)≤10 ^ 5:=aTg (by omega) a;omega
 obtain⟨a1,a2,a3⟩:=aQ8 n n (aT2 _);rw[tW (tO n) (aSj k n h) ?_ a1,a2 (by omega)];by_cases h0:n=0
 ·left;subst h0;rw[iJ 0 (by omega)];simp
 right;exact a3 (by omega)
theorem eW (n:Nat)(c:UInt8)(hc:dN c=false):c∉Lib.decDigits n:=by intro h;have:=(aQ8 n n (aT2 _)).1;rw[aTp]at this;rw[this c h]at hc;simp at hc
theorem kP (c:UInt8): ∀l:List UInt8,c∉l→aK c l= [l]:=by
 intro l;induction l with
 |nil=>intro _;rfl
 |cons x xs ih=>
  intro h;have e:aK c (x::xs)=match aK c xs with| []=> [[x]]|p::ps=>(x::p)::ps:=by rw[aK,if_neg (by intro e;exact h (by simp[e]))]<;>rfl
  rw[e,ih (by intro q;exact h (by simp[q]))]
theorem hU (c:UInt8): ∀(a b:List UInt8),c∉a→aK c (a++c::b)=a::aK c b:=by
 intro a b;induction a with
 |nil=>intro _;simp[aK]
 |cons x xs ih=>
  intro h;have e:aK c (x::(xs++c::b))=match aK c (xs++c::b)with| []=> [[x]]|p::ps=>(x::p)::ps:=by rw[aK,if_neg (by intro e;exact h (by simp[e]))]<;>rfl
  rw[aUu,e,ih (by intro q;exact h (by simp[q]))]
def jU (p:List UInt8):Option Int:=
 if p= [105,110]then some 0 else if p= [112,97,121]then some 1 else if p= [111,117,116]then some 2 else if p= [119,97,105,116]then some 3 else if p= [115,108,105,100,101]then some 4 else none
theorem nW {p:List UInt8}{k:Int}(h:jU p=some k):0≤k∧k≤4∧p=bX k:=by
 unfold jU at h
 repeat' split at h
 all_goals simp at h
 all_goals subst h;simp_all [bX]
theorem nX (k:Int)(h:0≤k∧k≤4):jU (bX k)=some k:=by rcases(show k=0∨k=1∨k=2∨k=3∨k=4 by omega)with rfl|rfl|rfl|rfl|rfl<;>decide
def cG (l:List UInt8):Option (Int×Int×Int):=
 match aK 32 l with
 | [p,q]=>match jU p,bH 4 q with
   |some k,some a=>if aY k a 0=l then some (k,a,0)else none
   |_,_=>none
 | [p,q,r]=>match jU p,bH 4 q,bH 4 r with
   |some k,some a,some b=>if aY k a b=l then some (k,a,b)else none
   |_,_,_=>none
 |_=>none
def kF (ps:List (List UInt8)):Int×Int×Int:=
 match ps with
 | []=>(-1,0,0)
 | [p]=>((jU p).getD (-1),0,0)
 | [p,q]=>((jU p).getD (-1),(bH 4 q).getD (-1),0)
 |p::q::r::_=>((jU p).getD (-1),(bH 4 q).getD (-1),(bH 4 r).getD (-1))
def nG (l:List UInt8):Option (Int×Int×Int):=
 if l≠ []∧aY (kF (aK 32 l)).1 (kF (aK 32 l)).2.1 (kF (aK 32 l)).2.2=l then some (kF (aK 32 l))else none
theorem vP {k a b:Int}(h:fU k a b=true):0≤k∧k≤4∧0≤a∧a≤9999∧0≤b∧b≤9999∧(jL k=true∨b=0):=by simp[fU]at h;obtain⟨⟨h1,h2,h3,h4,h5,h6⟩,h7⟩:=h;exact⟨h1,h2,h3,h4,h5,h6,by cases hk:jL k<;>simp_all⟩
theorem rN {k a b:Int}(h:aY k a b≠ []):fU k a b=true:=by
 unfold aY at h;split at h
 ·assumption
 simp at h
theorem aCj (k:Int):(32:UInt8)∉bX k:=by
 unfold bX
 repeat' split
 all_goals decide
theorem aHq {k a b:Int}(h:fU k a b=true):aK 32 (aY k a b)=if jL k then [bX k,Lib.decDigits a.toNat,Lib.decDigits b.toNat]else [bX k,Lib.decDigits a.toNat]:=by
 unfold aY;rw[if_pos h];split
 ·have e:bX k++ [32]++Lib.decDigits a.toNat++([32]++Lib.decDigits b.toNat)=bX k++32::(Lib.decDigits a.toNat++32::Lib.decDigits b.toNat):=by simp
  rw[e,hU _ _ _ (aCj k),hU _ _ _ (eW _ _ (by decide)),kP _ _ (eW _ _ (by decide))]
 have e:bX k++ [32]++Lib.decDigits a.toNat++ []=bX k++32::Lib.decDigits a.toNat:=by simp
 rw[e,hU _ _ _ (aCj k),kP _ _ (eW _ _ (by decide))]
theorem wL {a:Int}(h0:0≤a)(h1:a≤9999):bH 4 (Lib.decDigits a.toNat)=some a:=by rw[jE 4 a.toNat (by omega) (by omega) (by omega)];congr 1;omega
theorem oF {k a b:Int}(h:fU k a b=true):cG (aY k a b)=some (k,a,b):=by
 obtain⟨h1,h2,h3,h4,h5,h6,h7⟩:=vP h;unfold cG;rw[aHq h];cases hk:jL k with
 |true=>simp[nX k ⟨h1,h2⟩,wL h3 h4,wL h5 h6]
 |false=>
  obtain rfl:b=0:=by simpa[hk]using h7
  simp[nX k ⟨h1,h2⟩,wL h3 h4]
theorem aHp {k a b:Int}(h:fU k a b=true):aY k a b≠ []:=by unfold aY;rw[if_pos h];simp
theorem aB9 {k a b:Int}(h:fU k a b=true):nG (aY k a b)=some (k,a,b):=by
 obtain⟨h1,h2,h3,h4,h5,h6,h7⟩:=vP h;have e:kF (aK 32 (aY k a b))=(k,a,b):=by
  rw[aHq h];cases hk:jL k with
  |true=>simp[kF,nX k ⟨h1,h2⟩,wL h3 h4,wL h5 h6]
  |false=>
   obtain rfl:b=0:=by simpa[hk]using h7
   simp[kF,nX k ⟨h1,h2⟩,wL h3 h4]
 unfold nG;rw[e,if_pos ⟨aHp h,rfl⟩]
theorem aBl {l:List UInt8}{k a b:Int}(h:cG l=some (k,a,b)):aY k a b=l∧fU k a b=true:=by
 have c:aY k a b=l∧0≤k∧k≤4∧l≠ []:=by
  have d: ∀p q,aK 32 l=p::q:: []∨(∃r,aK 32 l= [p,q,r])→l≠ []:=by rintro p q h rfl;rcases h with h|⟨r,h⟩<;>simp[aK]at h
  unfold cG at h;split at h
  ·rename_i p q hc;have:=d p q (.inl hc);split at h
   ·rename_i k' a' hk ha;split at h
    ·rename_i ht;simp only[aU6,aUk]at h;obtain⟨rfl,rfl,rfl⟩:=h;exact⟨ht,(nW hk).1,(nW hk).2.1,this⟩
    simp at h
   simp at h
  ·rename_i p q r hc;have:=d p q (.inr ⟨r,hc⟩);split at h
   ·rename_i k' a' b' hk ha hb;split at h
    ·rename_i ht;simp only[aU6,aUk]at h;obtain⟨rfl,rfl,rfl⟩:=h;exact⟨ht,(nW hk).1,(nW hk).2.1,this⟩
    simp at h
   simp at h
  simp at h
 exact⟨c.1,rN (by rw[c.1];exact c.2.2.2)⟩
theorem aFu (l:List UInt8):nG l=cG l:=by
 cases h:nG l with
 |some d=>
  obtain⟨k,a,b⟩:=d;unfold nG at h;split at h
  ·rename_i hc;simp only[aU6]at h;rw[h]at hc;have ho:=rN (by rw[hc.2];exact hc.1);rw[←hc.2,oF ho]
  simp at h
 |none=>
  cases h2:cG l with
  |none=>rfl
  |some d=>obtain⟨k,a,b⟩:=d;obtain⟨e,ho⟩:=aBl h2;rw[←e,aB9 ho]at h;simp at h
end Go.Proofs.YtbgkcehffiogcabGreatDoor
