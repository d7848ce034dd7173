/-
  Texts of this proof, packed (@packed).
-/
import Derived.Deep.DeepCutAuto
import Derived.Deep.DeepFit
import Derived.Deep.RegionHeld3
import Derived.Handy
import Derived.Lib.CountLaws
import Derived.Lib.Hide
import Derived.Lib.ItoaLen
import Derived.Lib.ItoaMem
import Derived.Lib.SmallJoins
import Derived.Lib.SplitLaws
import Derived.Test.YtpelpnfhbepokaaGreatDoorUS
import Derived.Test.YtpelpnfhbepokaaGreatDoorU1
namespace Go.Proofs.YtpelpnfhbepokaaGreatDoor
open Go.RowKit
set_option linter.unusedVariables false
theorem aNa:Tryz.prog.globalNamed "internal/strconv.uint64pow10" =some 1:=by kernel_rfl
structure Env (w:World):Prop where
 tab:Lib.TabIs Tryz.prog w "internal/strconv.uint64pow10" .u64 Lib.pow10Tab
 mx: ∃m,w.cell? ⟨0,0,none⟩=some (.int .i64 m)
theorem Env.ext {w w':World}(h:Env w)(hb:Ext w w'):Env w' where
 tab:=Joins.var_stays aNa h.tab hb (Nat.le_refl _)
 mx:=by obtain⟨m,hm⟩:=h.mx;exact⟨m,(hb.cells.1 _ _ (World.block_lt_of_cell? w _ hm)).trans hm⟩
theorem Env.start {w:World}(ht:Lib.TabIs Tryz.prog w "internal/strconv.uint64pow10" .u64 Lib.pow10Tab)(hS:w.ShapedOpen Tryz.prog):Env w where
 tab:=ht
 mx:=Tryz.laysM145.s1_3 w hS
abbrev str (l:List UInt8):Value:= .string ⟨l.toArray⟩
theorem jP {a b:List UInt8}(h:a=b):Ending.returned (str a)= .returned (str b):=by rw[h]
theorem aC7 (n:Nat):Lib.itoa (n:Int)=Lib.decDigits n:=by unfold Lib.itoa;rw[if_neg (by omega)];simp
theorem aKq (w:World)(os:Array Obj):Ext w (Sort.grow w os):=
 ⟨rfl,rfl,rfl,by simp,fun k hk=>by simp only[Sort.grow];rw[Array.getElem?_append_left hk]⟩
theorem aJq (n:Nat)(w:World)(hn:n≤9223372036854775807)(hE:Env w):
  Calls Tryz.prog 94 #[n] w fun e w'=>e= .returned (str (Lib.decDigits n))∧Ext w w':=by
 refine(Tryz.strconv_Itoa (n:Int) (by omega) (by omega) w hE.tab).mono ?_;rintro e w' ⟨rfl,k,os,rfl⟩;exact⟨by rw[aC7],(Ext.drewN (Ext.refl w) k).trans (aKq _ _)⟩
theorem aC8 (n:Int)(w:World)(h0:0≤n)(hn:n≤9223372036854775807)(hE:Env w):
  Calls Tryz.prog 94 #[n] w fun e w'=>e= .returned (str (Lib.decDigits n.toNat))∧Ext w w':=by
 obtain⟨m,rfl⟩:=Int.eq_ofNat_of_zero_le h0;exact aJq m w (by omega) hE
theorem aM7 (x:Int)(W:World)(b:Nat)(h:W.cell? ⟨b,0,none⟩=some (.int .u8 x)):Sem.run Tryz.prog (convert 22 9 (.slice (some ⟨b,0,none⟩) 1 1)) W= .ok (str [UInt8.ofNat x.toNat]) W:=
 run_convert_bytes_arg W 22 5 Tryz.underlying22 Tryz.underlying5 b 0 1 1 [x] rfl (fun i hi=>by
  obtain rfl:i=0:=by omega
  simpa using h) 9 Tryz.underlying9
theorem fK (n:Nat)(h:n<10):Lib.decDigits n= [UInt8.ofNat (48+n)]:=by rw[Lib.decDigits];simp[h]
theorem kK (n:Nat)(h: ¬n<10):Lib.decDigits n=Lib.decDigits (n/10)++ [UInt8.ofNat (48+n%10)]:=by rw[Lib.decDigits];simp[h]
theorem cQ (n:Nat)(h:n≤9223372036854775807):(Lib.decDigits n).length≤21:=by rw[←aC7];exact Lib.itoa_length_le _ (by omega) (by omega)
theorem pE (n:Nat):1≤(Lib.decDigits n).length:=by
 by_cases h:n<10
 ·rw[fK n h];simp
 rw[kK n h];simp
set_option maxHeartbeats 8000000
set_option maxRecDepth 100000
theorem vB (n:Int)(w:World)(h0:0≤n)(a:n<10):
  Calls Tryz.prog 172 #[n] w fun e w'=>e= .returned (str (Lib.decDigits n.toNat))∧Ext w w':=by
 have b:=aM7 (48+n);have HD:Hid (Lib.decDigits n.toNat= [UInt8.ofNat (48+n).toNat]):=by rw[fK _ (by omega),show(48+n).toNat=48+n.toNat by omega];rfl
 go_enter Tryz.func172,Tryz.ntmps172;go_wp2_with fail;go_ret;exact⟨jP HD.out.symm,(Ext.refl _).alloc _⟩
theorem aEo (n:Int)(w:World)(h0:0≤n)(a:10≤n)(h:n≤9223372036854775807)(ih: ∀w,Calls Tryz.prog 172 #[(n/10:Int)] w fun e w'=>e= .returned (str (Lib.decDigits (n/10).toNat))∧Ext w w'):
  Calls Tryz.prog 172 #[n] w fun e w'=>e= .returned (str (Lib.decDigits n.toNat))∧Ext w w':=by
 have c:=aM7 (48+n%10);have IH:Hid (∀w,Calls Tryz.prog 172 #[(n/10:Int)] w fun e w'=>e= .returned (str (Lib.decDigits (n/10).toNat))∧Ext w w'):=ih;have hq:=IntWalk.i64_quo n 10 ⟨h0,h,by omega⟩;have hr:=IntWalk.rem_in n 10 h0;have d:IntKind.i64.wrap (n%10)=n%10:=IntWalk.i64_in _ (by omega);have hs:IntKind.i64.wrap (48+n%10)=48+n%10:=IntWalk.i64_in _ (by omega);have hc:IntKind.u8.wrap (48+n%10)=48+n%10:=IntWalk.u8_in _ (by omega);have hl:(Lib.decDigits (n/10).toNat).length≤21:=cQ _ (by omega);have HD:Hid (Lib.decDigits n.toNat=Lib.decDigits (n/10).toNat++ [UInt8.ofNat (48+n%10).toNat]):=by show _=_;rw[kK _ (by omega),show(48+n%10).toNat=48+n.toNat%10 by omega,show(n/10).toNat=n.toNat/10 by omega]
 clear ih;go_enter Tryz.func172,Tryz.ntmps172;go_wp2_with fail;go_region_with (go_at_call 172;go_must (go_fit (IH _));rintro e w' ⟨rfl,h1⟩;have b:=h1.cells.1)
 all_goals go_wp2
 all_goals go_ret
 all_goals exact⟨jP HD.out.symm,xE⟩
theorem aA6 (k:Nat): ∀(n:Int) (w:World),0≤n→n≤k→n≤9223372036854775807→
  Calls Tryz.prog 172 #[n] w fun e w'=>e= .returned (str (Lib.decDigits n.toNat))∧Ext w w':=by
 induction k with
 |zero=>intro n w h0 hk h;exact vB n w h0 (by omega)
 |succ k ih=>
  intro n w h0 hk h;by_cases h10:n<10
  ·exact vB n w h0 h10
  exact aEo n w h0 (by omega) h (fun w=>ih (n/10) w (by omega) (by omega) (by omega))
theorem aC5 (n:Int)(w:World)(h0:0≤n)(h:n≤9223372036854775807):
  Calls Tryz.prog 172 #[n] w fun e w'=>e= .returned (str (Lib.decDigits n.toNat))∧Ext w w':=aA6 n.toNat n w h0 (by omega) h
def aV (k:Int):List UInt8:=
 if k=0 then [105,110]else if k=1 then [112,97,121]else if k=2 then [111,117,116]else if k=3 then [119,97,105,116]else if k=4 then [115,108,105,100,101]else []
def gK (k:Int):Bool:=k==1 || k==4
def eL (k a b:Int):Bool:=decide (0≤k∧k≤4∧0≤a∧a≤9999∧0≤b∧b≤9999)&&(gK k || b==0)
def aS (k a b:Int):List UInt8:=
 if eL k a b then aV k++ [32]++Lib.decDigits a.toNat++(if gK k then [32]++Lib.decDigits b.toNat else [])else []
abbrev cI (k a b:Int):Value:= .agg #[k,a,b]
theorem mR (k a b:Int)(w:World)(h:a<0∨0≤a∧9999<a∨0≤a∧a≤9999∧b<0∨0≤a∧a≤9999∧0≤b∧9999<b∨0≤a∧a≤9999∧0≤b∧b≤9999∧(k==1)=false∧(k==4)=false∧(b !=0)=true
  ∨0≤a∧a≤9999∧0≤b∧b≤9999∧(k==1)=false∧(k==4)=false∧(b !=0)=false∧(k==0)=false∧(k==2)=false∧(k==3)=false):
  Calls Tryz.prog 176 #[cI k a b] w fun e w'=>e= .returned (str [])∧Ext w w':=by
 rcases h with h|⟨h0,h⟩|⟨h0,h1,h⟩|⟨h0,h1,h2,h⟩|⟨h0,h1,h2,h3,h4,h5,h6⟩|⟨h0,h1,h2,h3,h4,h5,h6,h7,h8,h9⟩
 all_goals
  go_enter Tryz.func176,Tryz.ntmps176;go_wp2;go_ret;exact⟨rfl,xE⟩
theorem zV (k a b:Int)(w:World)(h:(k==0)=false∧(k==1)=false∧(k==2)=false∧(k==3)=false∧(k==4)=false):
  Calls Tryz.prog 120 #[cI k a b] w fun e w'=>e= .returned (str [])∧Ext w w':=by
 obtain⟨h0,h1,h2,h3,h4⟩:=h;go_enter Tryz.func120,Tryz.ntmps120;go_wp2;go_ret;exact⟨rfl,xE⟩
theorem wL (k a b:Int)(w:World)(hk:k=0∨k=1∨k=2∨k=3∨k=4)(h:a<0∨0≤a∧9999<a∨0≤a∧a≤9999∧b<0∨0≤a∧a≤9999∧0≤b∧9999<b):
  Calls Tryz.prog 120 #[cI k a b] w fun e w'=>e= .returned (str [])∧Ext w w':=by
 rcases hk with rfl|rfl|rfl|rfl|rfl
 all_goals
  rcases h with h|⟨h0,h⟩|⟨h0,h1,h⟩|⟨h0,h1,h2,h⟩
  all_goals
   go_enter Tryz.func120,Tryz.ntmps120;go_wp2;go_ret;exact⟨rfl,xE⟩
theorem wK (k a b:Int)(w:World)(hk:k=0∨k=2∨k=3)(h0:0≤a)(h1:a≤9999)(h2:0≤b)(h3:b≤9999)(h4:(b !=0)=true):
  Calls Tryz.prog 120 #[cI k a b] w fun e w'=>e= .returned (str [])∧Ext w w':=by
 rcases hk with rfl|rfl|rfl
 all_goals
  go_enter Tryz.func120,Tryz.ntmps120;go_wp2;go_ret;exact⟨rfl,xE⟩
theorem aAm (k a:Int)(w:World)(hE:Env w)(hk:k=0∨k=2∨k=3)(h0:0≤a)(h1:a≤9999):
  Calls Tryz.prog 176 #[cI k a 0] w fun e w'=>e= .returned (str (aV k++ [32]++Lib.decDigits a.toNat))∧Ext w w':=by
 have hl:(Lib.decDigits a.toNat).length≤21:=cQ _ (by omega);have HE:=xQ hE;clear hE;rcases hk with rfl|rfl|rfl
 all_goals
  go_enter Tryz.func176,Tryz.ntmps176;go_wp2_with fail;go_fit (aC8 a _ h0 (by omega) (HE.out.ext xE));rintro e w1 ⟨rfl,h1⟩;go_wp2;go_ret;exact⟨jP (by simp[aV]),xE⟩
theorem aAl (k a b:Int)(w:World)(hE:Env w)(hk:k=1∨k=4)(h0:0≤a)(h1:a≤9999)(h2:0≤b)(h3:b≤9999):
  Calls Tryz.prog 176 #[cI k a b] w fun e w'=>e= .returned (str (aV k++ [32]++Lib.decDigits a.toNat++([32]++Lib.decDigits b.toNat)))∧Ext w w':=by
 have hl:(Lib.decDigits a.toNat).length≤21:=cQ _ (by omega);have d:(Lib.decDigits b.toNat).length≤21:=cQ _ (by omega);have HE:=xQ hE;clear hE;rcases hk with rfl|rfl
 all_goals
  go_enter Tryz.func176,Tryz.ntmps176;go_wp2_with fail;go_fit (aC8 a _ h0 (by omega) (HE.out.ext xE));rintro e w1 ⟨rfl,h1⟩;have c:=h1.cells.1;go_wp2_with fail;go_fit (aC8 b _ h2 (by omega) (HE.out.ext xE));rintro e w2 ⟨rfl,h2⟩;go_wp2;go_ret;exact⟨jP (by simp[aV]),xE⟩
theorem cJ (k:Int)(w:World)(hk:k=0∨k=1∨k=2∨k=3∨k=4):Calls Tryz.prog 170 #[k] w fun e w'=>e= .returned (str (aV k))∧w=w':=by
 rcases hk with rfl|rfl|rfl|rfl|rfl
 all_goals
  go_enter Tryz.func170,Tryz.ntmps170;go_wp2;go_ret;exact⟨jP (by simp[aV]),rfl⟩
theorem zU (k a:Int)(nm:List UInt8)(w:World)(t1:(k==1)=false)(t4:(k==4)=false)(h0:0≤a)(h1:a≤9999)(hN: ∀w,Calls Tryz.prog 170 #[k] w fun e w'=>e= .returned (str nm)∧w=w')(he:nm.isEmpty=false)(hn:nm.length≤5):
  Calls Tryz.prog 120 #[cI k a 0] w fun e w'=>e= .returned (str (nm++ [32]++Lib.decDigits a.toNat))∧Ext w w':=by
 have hl:(Lib.decDigits a.toNat).length≤21:=cQ _ (by omega);have c: ¬9223372036854775807<nm.length+1:=by omega
 have d: ¬9223372036854775807<nm.length+1+(Lib.decDigits a.toNat).length:=by omega
 all_goals
  have HN:=xQ hN;clear hN;go_enter Tryz.func120,Tryz.ntmps120;go_wp2_with (first|(go_at_call 170;refine(HN _).mono ?_;rintro e w1 ⟨rfl,rfl⟩)|go_in)
  go_region_held3 (fun w'=>w'.cell? ⟨w.heap.size,0,none⟩=some (.int .i64 k)∧w'.cell? ⟨w.heap.size,1,none⟩=some (.int .i64 a)) (go_keep)
   (first|(go_at_call 170;refine(HN _).mono ?_;rintro e w1 ⟨rfl,rfl⟩)|(go_at_call 172;refine(aC5 a _ h0 (by omega)).mono ?_;rintro e w1 ⟨rfl,h1⟩;have b:=h1.cells.1))
  all_goals go_wp2
  all_goals go_ret
  all_goals exact⟨jP (by simp),xE⟩
theorem zS (k a b:Int)(nm:List UInt8)(w:World)(hk:(k==1)=true∨(k==1)=false∧(k==4)=true)(h0:0≤a)(h1:a≤9999)(h2:0≤b)(h3:b≤9999)(hN: ∀w,Calls Tryz.prog 170 #[k] w fun e w'=>e= .returned (str nm)∧w=w')(he:nm.isEmpty=false)(hn:nm.length≤5):
  Calls Tryz.prog 120 #[cI k a b] w fun e w'=>e= .returned (str (nm++ [32]++Lib.decDigits a.toNat++([32]++Lib.decDigits b.toNat)))∧Ext w w':=by
 have hl:(Lib.decDigits a.toNat).length≤21:=cQ _ (by omega);have d:(Lib.decDigits b.toNat).length≤21:=cQ _ (by omega);have f: ¬9223372036854775807<nm.length+1:=by omega
 have g: ¬9223372036854775807<nm.length+1+(Lib.decDigits a.toNat).length:=by omega
 rcases hk with t1|⟨t1,t4⟩
 all_goals
  have HN:=xQ hN;clear hN;go_enter Tryz.func120,Tryz.ntmps120;go_wp2_with (first|(go_at_call 170;refine(HN _).mono ?_;rintro e w1 ⟨rfl,rfl⟩)|go_in)
  go_region_held3 (fun w'=>w'.cell? ⟨w.heap.size,0,none⟩=some (.int .i64 k)∧w'.cell? ⟨w.heap.size,1,none⟩=some (.int .i64 a)∧w'.cell? ⟨w.heap.size,2,none⟩=some (.int .i64 b)) (go_keep)
   (first|(go_at_call 170;refine(HN _).mono ?_;rintro e w1 ⟨rfl,rfl⟩)|(go_at_call 172;refine(aC5 a _ h0 (by omega)).mono ?_;rintro e w1 ⟨rfl,h1⟩;have c:=h1.cells.1))
  all_goals go_wp2_with (first|(go_at_call 172;refine(aC5 b _ h2 (by omega)).mono ?_;rintro e w2 ⟨rfl,h2⟩)|go_in)
  all_goals go_ret
  all_goals exact⟨jP (by simp),xE⟩
theorem rB (k:Int)(hk:k=0∨k=1∨k=2∨k=3∨k=4):(aV k).isEmpty=false∧(aV k).length≤5:=by rcases hk with rfl|rfl|rfl|rfl|rfl<;>decide
theorem uK (k a b:Int)(w:World):Calls Tryz.prog 120 #[cI k a b] w fun e w'=>e= .returned (str (aS k a b))∧Ext w w':=by
 by_cases hk:k=0∨k=1∨k=2∨k=3∨k=4
 ·by_cases hr:0≤a∧a≤9999∧0≤b∧b≤9999
  ·obtain⟨h0,h1,h2,h3⟩:=hr;obtain⟨he,hn⟩:=rB k hk;by_cases ht:k=1∨k=4
   ·have e:aS k a b=aV k++ [32]++Lib.decDigits a.toNat++([32]++Lib.decDigits b.toNat):=by
     rcases ht with rfl|rfl<;>simp[aS,eL,gK,h0,h1,h2,h3]
    rw[e];exact zS k a b _ w (by simp;omega) h0 h1 h2 h3 (fun w=>cJ k w hk) he hn
   have c:k=0∨k=2∨k=3:=by omega
   by_cases hb:b=0
   ·subst hb;have e:aS k a 0=aV k++ [32]++Lib.decDigits a.toNat:=by
     rcases c with rfl|rfl|rfl<;>simp[aS,eL,gK,h0,h1]
    rw[e];exact zU k a _ w (by simp;omega) (by simp;omega) h0 h1 (fun w=>cJ k w hk) he hn
   have e:aS k a b= []:=by rcases c with rfl|rfl|rfl<;>simp[aS,eL,gK,hb]
   rw[e];exact wK k a b w c h0 h1 h2 h3 (by simp[hb])
  have e:aS k a b= []:=by unfold aS;rw[if_neg];simp[eL];omega
  rw[e];exact wL k a b w hk (by omega)
 have e:aS k a b= []:=by unfold aS;rw[if_neg];simp[eL];omega
 rw[e];exact zV k a b w (by simp;omega)
theorem mD (k a b:Int)(w:World)(hE:Env w):Calls Tryz.prog 176 #[cI k a b] w fun e w'=>e= .returned (str (aS k a b))∧Ext w w':=by
 by_cases hr:0≤a∧a≤9999∧0≤b∧b≤9999
 ·obtain⟨h0,h1,h2,h3⟩:=hr;by_cases ht:k=1∨k=4
  ·have e:aS k a b=aV k++ [32]++Lib.decDigits a.toNat++([32]++Lib.decDigits b.toNat):=by
    rcases ht with rfl|rfl<;>simp[aS,eL,gK,h0,h1,h2,h3]
   rw[e];exact aAl k a b w hE ht h0 h1 h2 h3
  by_cases hb:b=0
  ·subst hb;by_cases hk:k=0∨k=2∨k=3
   ·have e:aS k a 0=aV k++ [32]++Lib.decDigits a.toNat:=by
     rcases hk with rfl|rfl|rfl<;>simp[aS,eL,gK,h0,h1]
    rw[e];exact aAm k a w hE hk h0 h1
   have e:aS k a 0= []:=by unfold aS;rw[if_neg];simp[eL];omega
   rw[e];exact mR k a 0 w (.inr (.inr (.inr (.inr (.inr ⟨h0,h1,by omega,by omega,by simp;omega,by simp;omega,by simp,by simp;omega,by simp;omega,by simp;omega⟩)))))
  have e:aS k a b= []:=by unfold aS;rw[if_neg];simp[eL,gK];omega
  rw[e];exact mR k a b w (.inr (.inr (.inr (.inr (.inl ⟨h0,h1,h2,h3,by simp;omega,by simp;omega,by simp[hb]⟩)))))
 have e:aS k a b= []:=by unfold aS;rw[if_neg];simp[eL];omega
 rw[e];exact mR k a b w (by omega)
end Go.Proofs.YtpelpnfhbepokaaGreatDoor
namespace Go.Proofs.YtpelpnfhbepokaaGreatDoor
open Go.RowKit
set_option linter.unusedVariables false
set_option maxHeartbeats 8000000
def kR (l:List UInt8):Int:=l.foldl (fun s c=>(7*s+(c.toNat:Int))%97) 1
theorem qD (l:List UInt8):0≤kR l∧kR l<97:=by
 unfold kR;have: ∀(l:List UInt8) (s:Int),0≤s∧s<97→0≤l.foldl (fun s c=>(7*s+(c.toNat:Int))%97) s∧l.foldl (fun s c=>(7*s+(c.toNat:Int))%97) s<97:=by
  intro l;induction l with
  |nil=>intro s h;exact h
  |cons c l ih=>intro s h;simp only[List.foldl_cons];apply ih;omega
 exact this l 1 (by omega)
theorem iI (s:ByteArray)(k:Nat)(h:k<s.size):s.data.toList.take (k+1)=s.data.toList.take k++ [s[k]]:=by rw[List.take_succ_eq_append_getElem (by simpa using h)];rfl
theorem xH (l:List UInt8)(c:UInt8):kR (l++ [c])=(7*kR l+(c.toNat:Int))%97:=by unfold kR;rw[List.foldl_append];rfl
theorem aGl (s:ByteArray)(w:World)(hs:s.size≤maxLen):
  Calls Tryz.prog 199 #[.string s] w fun e w'=>e= .returned (.int .i64 (kR s.data.toList))∧w=w':=by
 unfold maxLen at hs;go_enter Tryz.func199,Tryz.ntmps199;go_wp2;go_loop [3,4] (fun n i=> ∃k:Nat,k≤s.size∧i= .int .i64 k∧n= .int .i64 (kR (s.data.toList.take k))) (fun _ i=>s.size-(intOf i).toNat)
 case atStart=>exact⟨0,Nat.zero_le _,rfl,rfl⟩
 case round=>
  obtain⟨k,hk,rfl,rfl⟩:=hrel;have hd:=qD (s.data.toList.take k);by_cases hlt:k<s.size
  ·have hc:(s[k].toNat:Int)<256:=by have:=s[k].toNat_lt;omega
   have HS:Hid (kR (s.data.toList.take (k+1))=(7*kR (s.data.toList.take k)+(s[k].toNat:Int))%97):=by rw[iI s k hlt];exact xH _ _
   go_wp2;go_round
   case rel=>exact⟨k+1,by omega,by go_num,by rw[HS.out]⟩
   case measure=>simp[intOf];omega
  go_wp2;go_ret;exact⟨dG (by rw[List.take_of_length_le (by simp;omega)]),rfl⟩
theorem aHg (s:ByteArray)(w:World)(hs:s.size≤maxLen):
  Calls Tryz.prog 203 #[.string s] w fun e w'=>e= .returned (.int .i64 (kR s.data.toList))∧w=w':=by
 unfold maxLen at hs;go_enter Tryz.func203,Tryz.ntmps203;go_wp2;go_loop [3,4] (fun n i=> ∃k:Nat,k≤s.size∧i= .int .i64 k∧n= .int .i64 (kR (s.data.toList.take k))) (fun _ i=>s.size-(intOf i).toNat)
 case atStart=>exact⟨0,Nat.zero_le _,rfl,rfl⟩
 case round=>
  obtain⟨k,hk,rfl,rfl⟩:=hrel;have hd:=qD (s.data.toList.take k);by_cases hlt:k<s.size
  ·have hc:(s[k].toNat:Int)<256:=by have:=s[k].toNat_lt;omega
   have HS:Hid (kR (s.data.toList.take (k+1))=(7*kR (s.data.toList.take k)+(s[k].toNat:Int))%97):=by rw[iI s k hlt];exact xH _ _
   go_wp2;go_round
   case rel=>exact⟨k+1,by omega,by go_num,by rw[HS.out]⟩
   case measure=>simp[intOf];omega
  go_wp2;go_ret;exact⟨dG (by rw[List.take_of_length_le (by simp;omega)]),rfl⟩
theorem aDh (l:List UInt8)(w:World)(hl:l.length≤maxLen):
  Calls Tryz.prog 199 #[str l] w fun e w'=>e= .returned (.int .i64 (kR l))∧w=w':=aGl ⟨l.toArray⟩ w (by simpa[ByteArray.size]using hl)
theorem aEp (l:List UInt8)(w:World)(hl:l.length≤maxLen):
  Calls Tryz.prog 203 #[str l] w fun e w'=>e= .returned (.int .i64 (kR l))∧w=w':=aHg ⟨l.toArray⟩ w (by simpa[ByteArray.size]using hl)
set_option maxRecDepth 100000
def mH (t:List UInt8):List UInt8:=t++ [35]++Lib.decDigits (kR t).toNat
def tU (n:Int)(t:List UInt8):List UInt8:=if 1≤n∧n≤99∧t≠ []then mH (Lib.decDigits n.toNat++ [58]++t)++ [59]else []
def bG (n k a b:Int):List UInt8:=tU n (aS k a b)
theorem tQ (t:List UInt8):(Lib.decDigits (kR t).toNat).length≤21:=by have:=qD t;exact cQ _ (by omega)
theorem jD (k a b:Int):(aS k a b).length≤60:=by
 unfold aS;split
 ·rename_i h;simp[eL]at h;obtain⟨⟨h1,h2,h3,h4,h5,h6⟩,_⟩:=h;have e1:(aV k).length≤5:=(rB k (by omega)).2;have e2:=cQ a.toNat (by omega);have e3:=cQ b.toNat (by omega);split<;>simp<;>omega
 simp
theorem aCc (t:List UInt8)(w:World)(ht:t.length≤1000000)(hE:Env w):
  Calls Tryz.prog 177 #[str t] w fun e w'=>e= .returned (str (mH t))∧Ext w w':=by
 have hl:=tQ t;have hb:=qD t;have HE:=xQ hE;clear hE;go_enter Tryz.func177,Tryz.ntmps177;go_wp2_with fail;refine(aEp t _ (by unfold maxLen;omega)).mono ?_;rintro e w1 ⟨rfl,rfl⟩;go_wp2_with fail;refine(aC8 (kR t) _ (by omega) (by omega) HE.out).mono ?_;rintro e w1 ⟨rfl,h1⟩;go_wp2;go_ret;exact⟨jP rfl,xE⟩
theorem aAk (n k a b:Int)(t:List UInt8)(w:World)(hE:Env w)(hD: ∀w,Env w→Calls Tryz.prog 176 #[cI k a b] w fun e w'=>e= .returned (str t)∧Ext w w')(c:t.length≤60)
  (h:n<1∨1≤n∧99<n∨1≤n∧n≤99∧t.isEmpty=true):
  Calls Tryz.prog 127 #[n,cI k a b] w fun e w'=>e= .returned (str [])∧Ext w w':=by
 have HE:=xQ hE;have HD:=xQ hD;clear hE hD;rcases h with h|⟨h0,h⟩|⟨h0,h1,h⟩
 all_goals
  go_enter Tryz.func127,Tryz.ntmps127;go_wp2_with fail;refine(HD _ (HE.out.ext xE)).mono ?_;rintro e w1 ⟨rfl,h1⟩;go_wp2;go_ret;exact⟨rfl,xE⟩
theorem aAj (n k a b:Int)(t:List UInt8)(w:World)(hE:Env w)(hD: ∀w,Env w→Calls Tryz.prog 176 #[cI k a b] w fun e w'=>e= .returned (str t)∧Ext w w')(f:t.length≤60)
  (h0:1≤n)(h1:n≤99)(h:t.isEmpty=false):
  Calls Tryz.prog 127 #[n,cI k a b] w fun e w'=>e= .returned (str (mH (Lib.decDigits n.toNat++ [58]++t)++ [59]))∧Ext w w':=by
 have HE:=xQ hE;have HD:=xQ hD;clear hE hD;have hl:=cQ n.toNat (by omega);have c:=tQ (Lib.decDigits n.toNat++ [58]++t);obtain⟨r,hr⟩: ∃r,r=mH (Lib.decDigits n.toNat++ [58]++t):=⟨_,rfl⟩
 have d:r.length≤200:=by rw[hr];simp only[mH,List.length_append,List.length_cons,List.length_nil];omega
 have HW:Hid (∀w,Env w→Calls Tryz.prog 177 #[.string (⟨(Lib.decDigits n.toNat).toArray⟩++⟨#[58]⟩++⟨t.toArray⟩)] w fun e w'=>e= .returned (str r)∧Ext w w'):=by intro w hE;rw[hr];exact aCc (Lib.decDigits n.toNat++ [58]++t) w (by simp;omega) hE
 rw[←hr];clear c hr;go_enter Tryz.func127,Tryz.ntmps127;go_wp2_with fail;refine(HD _ (HE.out.ext xE)).mono ?_;rintro e w1 ⟨rfl,h1⟩;go_wp2_with fail;refine(aC8 n _ (by omega) (by omega) (HE.out.ext xE)).mono ?_;rintro e w2 ⟨rfl,h2⟩;go_wp2_with fail;refine(HW _ (HE.out.ext xE)).mono ?_;rintro e w3 ⟨rfl,h3⟩;go_wp2;go_ret;exact⟨jP rfl,xE⟩
theorem aHu (n k a b:Int)(w:World)(hE:Env w):Calls Tryz.prog 127 #[n,cI k a b] w fun e w'=>e= .returned (str (bG n k a b))∧Ext w w':=by
 unfold bG tU;split
 ·rename_i h;exact aAj n k a b _ w hE (fun w h=>mD k a b w h) (jD k a b) h.1 h.2.1 (by simpa using h.2.2)
 rename_i h;refine aAk n k a b _ w hE (fun w h=>mD k a b w h) (jD k a b) ?_;by_cases e:aS k a b= []<;>simp[e]at h⊢ <;>omega
theorem zQ (n k a b:Int)(t:List UInt8)(w:World)(hD: ∀w,Calls Tryz.prog 120 #[cI k a b] w fun e w'=>e= .returned (str t)∧Ext w w')(c:t.length≤60)
  (h:n<1∨1≤n∧99<n∨1≤n∧n≤99∧t.isEmpty=true):
  Calls Tryz.prog 167 #[n,cI k a b] w fun e w'=>e= .returned (str [])∧Ext w w':=by
 have HD:=xQ hD;clear hD;rcases h with h|⟨h0,h⟩|⟨h0,h1,h⟩
 all_goals
  go_enter Tryz.func167,Tryz.ntmps167;go_wp2_with (first|(go_at_call 120;refine(HD _).mono ?_;rintro e w1 ⟨rfl,h1⟩)|go_in);go_ret;exact⟨rfl,xE⟩
theorem zP (n k a b:Int)(t:List UInt8)(w:World)(hD: ∀w,Calls Tryz.prog 120 #[cI k a b] w fun e w'=>e= .returned (str t)∧Ext w w')(m:t.length≤60)
  (h0:1≤n)(h1:n≤99)(h:t.isEmpty=false):
  Calls Tryz.prog 167 #[n,cI k a b] w fun e w'=>e= .returned (str (mH (Lib.decDigits n.toNat++ [58]++t)++ [59]))∧Ext w w':=by
 have HD:=xQ hD;clear hD;have hl:=cQ n.toNat (by omega);have d:=tQ (Lib.decDigits n.toNat++ [58]++t);have hb:=qD (Lib.decDigits n.toNat++ [58]++t);have j: ¬9223372036854775807<(Lib.decDigits n.toNat).length+1:=by omega
 have l: ¬9223372036854775807<(Lib.decDigits n.toNat).length+1+t.length:=by omega
 obtain⟨q,hq⟩: ∃q,q=Lib.decDigits n.toNat++ [58]++t:=⟨_,rfl⟩
 have i:q.length≤100:=by rw[hq];simp;omega
 rw[←hq]at d hb⊢;have HQ:=xQ hq;clear hq;go_enter Tryz.func167,Tryz.ntmps167;go_wp2_with (first|(go_at_call 120;refine(HD _).mono ?_;rintro e w1 ⟨rfl,h1⟩;have g:=h1.cells.1)|go_in);go_upto_region 3 with fail;go_cut [5] (fun s5 wx=>s5=str q∧Ext w wx)
 case first=>
  have o:w.heap.size<w1.heap.size:=Nat.lt_of_lt_of_le (by simp) h1.sz;have e0:w1.cell? ⟨w.heap.size,0,none⟩=some (.int .i64 k):=by rw[h1.cells.1 _ _ (by simp)];simp
  have e1:w1.cell? ⟨w.heap.size,1,none⟩=some (.int .i64 a):=by rw[h1.cells.1 _ _ (by simp)];simp
  have e2:w1.cell? ⟨w.heap.size,2,none⟩=some (.int .i64 b):=by rw[h1.cells.1 _ _ (by simp)];simp
  go_region_held3 (fun w'=>w'.cell? ⟨w.heap.size,0,none⟩=some (.int .i64 k)∧w'.cell? ⟨w.heap.size,1,none⟩=some (.int .i64 a)∧w'.cell? ⟨w.heap.size,2,none⟩=some (.int .i64 b)) (go_keep)
   (first|(go_at_call 120;refine(HD _).mono ?_;rintro e w2 ⟨rfl,h2⟩;(try replace h2:=h2.of_drew);have c:=h2.cells.1;have f:w.heap.size<w2.heap.size:=Nat.lt_of_lt_of_le (by assumption) h2.sz)|(go_at_call 172;refine(aC5 n _ (by omega) (by omega)).mono ?_;rintro e w2 ⟨rfl,h2⟩;(try replace h2:=h2.of_drew);have c:=h2.cells.1;have f:w.heap.size<w2.heap.size:=Nat.lt_of_lt_of_le (by assumption) h2.sz))
  all_goals (go_wp2_with fail;go_meet;exact⟨by rw[HQ.out];rfl,xE⟩)
 case rest=>obtain⟨rfl,hx⟩:=hcut;go_wp2_with fail;refine(aDh q _ (by unfold maxLen;omega)).mono ?_;rintro e w1 ⟨rfl,rfl⟩;go_wp2_with fail;refine(aC5 (kR q) _ (by omega) (by omega)).mono ?_;rintro e w1 ⟨rfl,h1⟩;go_wp2;go_ret;exact⟨jP rfl,xE⟩
theorem aGv (n k a b:Int)(w:World):Calls Tryz.prog 167 #[n,cI k a b] w fun e w'=>e= .returned (str (bG n k a b))∧Ext w w':=by
 unfold bG tU;split
 ·rename_i h;exact zP n k a b _ w (fun w=>uK k a b w) (jD k a b) h.1 h.2.1 (by simpa using h.2.2)
 rename_i h;refine zQ n k a b _ w (fun w=>uK k a b w) (jD k a b) ?_;by_cases e:aS k a b= []<;>simp[e]at h⊢ <;>omega
def dV (c:UInt8):Bool:=decide (48≤(c.toNat:Int)∧(c.toNat:Int)≤57)
def kC (l:List UInt8):Int:=l.foldl (fun n c=>10*n+((c.toNat:Int)-48)) 0
def dE (m:Nat)(l:List UInt8):Option Int:=
 if 1≤l.length∧l.length≤m∧(l.length≤1∨l.head? ≠some 48)∧l.all dV=true then some (kC l)else none
theorem rZ (l:List UInt8)(c:UInt8):kC (l++ [c])=10*kC l+((c.toNat:Int)-48):=by unfold kC;rw[List.foldl_append];rfl
theorem aBu (l:List UInt8)(h:l.all dV=true)(hl:l.length≤5):0≤kC l∧kC l≤99999:=by
 match l,hl with
 | [],_=>simp[kC]
 | [a],_=>simp[kC,dV]at h⊢;omega
 | [a,b],_=>simp[kC,dV]at h⊢;omega
 | [a,b,c],_=>simp[kC,dV]at h⊢;omega
 | [a,b,c,d],_=>simp[kC,dV]at h⊢;omega
 | [a,b,c,d,e],_=>simp[kC,dV]at h⊢;omega
 |_::_::_::_::_::_::_,hl=>simp at hl
theorem pH (s:ByteArray)(k:Nat)(h:k<s.size)(ha:(s.data.toList.take k).all dV=true)(hc:dV s[k]=true):(s.data.toList.take (k+1)).all dV=true:=by rw[iI s k h];simp[ha,hc]
theorem oK (s:ByteArray)(k:Nat)(h:k<s.size)(hc:dV s[k]=false):s.data.toList.all dV=false:=by rw[List.all_eq_false];exact⟨s[k],by rw[Array.mem_toList_iff];exact Array.getElem_mem (xs:=s.data) (i:=k) h,by simp[hc]⟩
theorem aI2 (s:ByteArray)(h:0<s.size):s.data.toList.head? =some s[0]:=by
 obtain⟨⟨l⟩⟩:=s;cases l with
 |nil=>simp[ByteArray.size]at h
 |cons a l=>rfl
theorem iY {m:Nat}{l:List UInt8}(h:l.length<1∨m<l.length):dE m l=none:=by unfold dE;rw[if_neg];omega
theorem nC {m:Nat}{l:List UInt8}(h:1<l.length)(h0:l.head? =some 48):dE m l=none:=by
 unfold dE;rw[if_neg];rintro⟨_,_,h1|h1,_⟩
 ·omega
 exact h1 h0
theorem nM {m:Nat}{l:List UInt8}(h:l.all dV=false):dE m l=none:=by unfold dE;rw[if_neg];simp[h]
theorem pK {m:Nat}{l:List UInt8}(h1:1≤l.length)(h2:l.length≤m)(h3:l.length≤1∨l.head? ≠some 48)(h4:l.all dV=true):dE m l=some (kC l):=by unfold dE;rw[if_pos ⟨h1,h2,h3,h4⟩]
theorem aC9 {c:UInt8}(h0:48≤(c.toNat:Int))(h1:(c.toNat:Int)≤57):dV c=true:=by simp[dV];omega
theorem kO {c:UInt8}(h:(c.toNat:Int)<48∨57<(c.toNat:Int)):dV c=false:=by simp[dV];omega
def aFe (l:List UInt8):Int:=if l.all dV then kC l else -1
theorem vR {l:List UInt8}(h:l.all dV=true):aFe l=kC l:=if_pos h
theorem sK {l:List UInt8}(h:l.all dV=false):aFe l= -1:=if_neg (by simp[h])
theorem mQ (s:ByteArray)(w:World)(h:s.size<1∨4<s.size∧s.size≤9223372036854775807∨1<s.size∧s.size≤4∧ ∀h:0<s.size,((s[0].toNat:Int)==48)=true):
  Calls Tryz.prog 165 #[.string s] w fun e w'=>e= .returned (.int .i64 (-1))∧w=w':=by
 rcases h with h|⟨h,h'⟩|⟨h,h',h0⟩
 ·go_enter Tryz.func165,Tryz.ntmps165;go_wp2;go_ret;exact⟨rfl,rfl⟩
 ·go_enter Tryz.func165,Tryz.ntmps165;go_wp2;go_ret;exact⟨rfl,rfl⟩
 have hp:0<s.size:=by omega
 have a:=h0 hp;clear h0;go_enter Tryz.func165,Tryz.ntmps165;go_wp2;go_ret;exact⟨rfl,rfl⟩
theorem aC4 (s:ByteArray)(w:World)(h1:1≤s.size)(h4:s.size≤4)(hz:s.size≤1∨1<s.size∧ ∀h:0<s.size,((s[0].toNat:Int)==48)=false):
  Calls Tryz.prog 165 #[.string s] w fun e w'=>e= .returned (.int .i64 (aFe s.data.toList))∧w=w':=by
 have hp:0<s.size:=by omega
 rcases hz with hz|⟨hz,h0⟩
 all_goals
  try (have b:=h0 hp)
  try clear h0
  go_enter Tryz.func165,Tryz.ntmps165;go_wp2;go_loop [3,4] (fun n i=> ∃k:Nat,k≤s.size∧i= .int .i64 k∧n= .int .i64 (kC (s.data.toList.take k))∧(s.data.toList.take k).all dV=true) (fun _ i=>s.size-(intOf i).toNat)
  case atStart=>exact⟨0,Nat.zero_le _,rfl,rfl,by simp⟩
  case round=>
   obtain⟨k,hk,rfl,rfl,a⟩:=hrel;have hb:=aBu _ a (by simp;omega);have HA:=xQ a;clear a;by_cases hlt:k<s.size
   ·have HS:Hid (kC (s.data.toList.take (k+1))=10*kC (s.data.toList.take k)+((s[k].toNat:Int)-48)):=by rw[iI s k hlt];exact rZ _ _
    rcases(show(s[k].toNat:Int)<48∨48≤(s[k].toNat:Int)∧57<(s[k].toNat:Int)∨48≤(s[k].toNat:Int)∧(s[k].toNat:Int)≤57 by omega)with hc|⟨hc0,hc⟩|⟨hc0,hc⟩
    ·go_wp2;go_ret;exact⟨dG (sK (oK s k hlt (kO (.inl hc)))).symm,rfl⟩
    ·go_wp2;go_ret;exact⟨dG (sK (oK s k hlt (kO (.inr hc)))).symm,rfl⟩
    go_wp2;go_round
    case rel=>exact⟨k+1,by omega,by go_num,by rw[HS.out],pH s k hlt HA (aC9 hc0 hc)⟩
    case measure=>simp[intOf];omega
   have e:s.data.toList.take k=s.data.toList:=List.take_of_length_le (by simp;omega);have HE:=xQ e;clear e;go_wp2;go_ret;exact⟨dG (by rw[vR (by rw[←HE.out];exact HA.out),HE.out]),rfl⟩
theorem tT (s:ByteArray)(h:0<s.size):s.data.toList.head? =some 48↔((s[0].toNat:Int)==48)=true:=by
 rw[aI2 s h];simp only[Option.some.injEq,beq_iff_eq];constructor
 ·intro e;rw[e];rfl
 intro e;exact UInt8.toNat_inj.1 (by show _=48;omega)
theorem bV (s:ByteArray):s.data.toList.length=s.size:=by simp
theorem aEn (s:ByteArray)(w:World)(hs:s.size≤maxLen):
  Calls Tryz.prog 165 #[.string s] w fun e w'=>e= .returned (.int .i64 ((dE 4 s.data.toList).getD (-1)))∧w=w':=by
 unfold maxLen at hs;by_cases h1:s.size<1
 ·rw[iY (by rw[bV];omega)];exact mQ s w (.inl h1)
 by_cases h4:4<s.size
 ·rw[iY (by rw[bV];omega)];exact mQ s w (.inr (.inl ⟨h4,hs⟩))
 by_cases h0:1<s.size∧s.data.toList.head? =some 48
 ·rw[nC (by rw[bV];omega) h0.2];exact mQ s w (.inr (.inr ⟨h0.1,by omega,fun h=>(tT s h).1 h0.2⟩))
 refine(aC4 s w (by omega) (by omega) ?_).mono ?_
 ·by_cases hq:s.size≤1
  ·exact .inl hq
  refine .inr ⟨by omega,fun h=> ?_⟩;rw[←Bool.not_eq_true,←tT s h];intro e;exact h0 ⟨by omega,e⟩
 rintro e w' ⟨rfl,rfl⟩;refine⟨dG ?_,rfl⟩;cases ha:s.data.toList.all dV with
 |true=>rw[vR ha,pK (by rw[bV];omega) (by rw[bV];omega) (by rw[bV];by_cases hq:s.size≤1;exact .inl hq;exact .inr (fun e=>h0 ⟨by omega,e⟩)) ha];rfl
 |false=>rw[sK ha,nM ha];rfl
def aG6 (l:List UInt8):Bool:=l.all dV
def aAy (l:List UInt8):Int:=if l.all dV then kC l else 0
theorem tD {l:List UInt8}(h:l.all dV=true):aAy l=kC l:=if_pos h
theorem pW {l:List UInt8}(h:l.all dV=false):aAy l=0:=if_neg (by simp[h])
theorem aE7 {a b:Int}{c d:Bool}(h:a=b)(k:c=d):Ending.returned (.tuple #[a,.bool c])= .returned (.tuple #[b,.bool d]):=by rw[h,k]
theorem jK (s:ByteArray)(m:Int)(w:World)(hm:1≤m∧m≤5)(h:s.size<1∨1≤s.size∧m<(s.size:Int)∧s.size≤9223372036854775807∨1<s.size∧(s.size:Int)≤m∧ ∀h:0<s.size,((s[0].toNat:Int)==48)=true):
  Calls Tryz.prog 125 #[.string s,m] w fun e w'=>e= .returned (.tuple #[(),.bool false])∧w=w':=by
 rcases h with h|⟨h,h',h2⟩|⟨h,h',h0⟩
 ·go_enter Tryz.func125,Tryz.ntmps125;go_wp2;go_ret2;exact⟨rfl,rfl⟩
 ·go_enter Tryz.func125,Tryz.ntmps125;go_wp2;go_ret2;exact⟨rfl,rfl⟩
 have hp:0<s.size:=by omega
 have a:=h0 hp;clear h0;go_enter Tryz.func125,Tryz.ntmps125;go_wp2;go_ret2;exact⟨rfl,rfl⟩
theorem tN (s:ByteArray)(m:Int)(w:World)(hm:1≤m∧m≤5)(h1:1≤s.size)(h4:(s.size:Int)≤m)(hz:s.size≤1∨1<s.size∧ ∀h:0<s.size,((s[0].toNat:Int)==48)=false):
  Calls Tryz.prog 125 #[.string s,m] w fun e w'=>e= .returned (.tuple #[(aAy s.data.toList:Int),.bool (aG6 s.data.toList)])∧w=w':=by
 have hp:0<s.size:=by omega
 rcases hz with hz|⟨hz,h0⟩
 all_goals
  try (have b:=h0 hp)
  try clear h0
  go_enter Tryz.func125,Tryz.ntmps125;go_wp2;go_loop [6,7] (fun n i=> ∃k:Nat,k≤s.size∧i= .int .i64 k∧n= .int .i64 (kC (s.data.toList.take k))∧(s.data.toList.take k).all dV=true) (fun _ i=>s.size-(intOf i).toNat)
  case atStart=>exact⟨0,Nat.zero_le _,rfl,rfl,by simp⟩
  case round=>
   obtain⟨k,hk,rfl,rfl,a⟩:=hrel;have hb:=aBu _ a (by simp;omega);have HA:=xQ a;clear a;by_cases hlt:k<s.size
   ·have HS:Hid (kC (s.data.toList.take (k+1))=kC (s.data.toList.take k)*10+((s[k].toNat:Int)-48)):=by rw[iI s k hlt,rZ];show _=_;omega
    rcases(show(s[k].toNat:Int)<48∨48≤(s[k].toNat:Int)∧57<(s[k].toNat:Int)∨48≤(s[k].toNat:Int)∧(s[k].toNat:Int)≤57 by omega)with hc|⟨hc0,hc⟩|⟨hc0,hc⟩
    ·go_wp2;go_ret2;exact⟨aE7 (pW (oK s k hlt (kO (.inl hc)))).symm (oK s k hlt (kO (.inl hc))).symm,rfl⟩
    ·go_wp2;go_ret2;exact⟨aE7 (pW (oK s k hlt (kO (.inr hc)))).symm (oK s k hlt (kO (.inr hc))).symm,rfl⟩
    go_wp2;go_round
    case rel=>exact⟨k+1,by omega,by go_num,by rw[HS.out],pH s k hlt HA (aC9 hc0 hc)⟩
    case measure=>simp[intOf];omega
   have e:s.data.toList.take k=s.data.toList:=List.take_of_length_le (by simp;omega);have HE:=xQ e;clear e;go_wp2;go_ret2;exact⟨aE7 (by rw[tD (by rw[←HE.out];exact HA.out),HE.out]) (by rw[aG6,←HE.out];exact HA.out.symm),rfl⟩
theorem uQ (s:ByteArray)(m:Nat)(w:World)(hm:1≤m∧m≤5)(hs:s.size≤maxLen):
  Calls Tryz.prog 125 #[.string s,m] w fun e w'=>e= .returned (.tuple #[((dE m s.data.toList).getD 0:Int),.bool (dE m s.data.toList).isSome])∧w=w':=by
 unfold maxLen at hs;by_cases h1:s.size<1
 ·rw[iY (by rw[bV];omega)];exact jK s m w (by omega) (.inl h1)
 by_cases h4:m<s.size
 ·rw[iY (by rw[bV];omega)];exact jK s m w (by omega) (.inr (.inl ⟨by omega,by omega,hs⟩))
 by_cases h0:1<s.size∧s.data.toList.head? =some 48
 ·rw[nC (by rw[bV];omega) h0.2];exact jK s m w (by omega) (.inr (.inr ⟨h0.1,by omega,fun h=>(tT s h).1 h0.2⟩))
 refine(tN s m w (by omega) (by omega) (by omega) ?_).mono ?_
 ·by_cases hq:s.size≤1
  ·exact .inl hq
  refine .inr ⟨by omega,fun h=> ?_⟩;rw[←Bool.not_eq_true,←tT s h];intro e;exact h0 ⟨by omega,e⟩
 rintro e w' ⟨rfl,rfl⟩;cases ha:s.data.toList.all dV with
 |true=>rw[tD ha,pK (by rw[bV];omega) (by rw[bV];omega) (by rw[bV];by_cases hq:s.size≤1;exact .inl hq;exact .inr (fun e=>h0 ⟨by omega,e⟩)) ha,aG6,ha];exact⟨rfl,rfl⟩
 |false=>rw[pW ha,nM ha,aG6,ha];exact⟨rfl,rfl⟩
def cE (c:UInt8):List UInt8→List (List UInt8)
 | []=> [[]]
 |x::xs=>if x=c then []::cE c xs else match cE c xs with
  | []=> [[x]]
  |p::ps=>(x::p)::ps
theorem jS (c:UInt8)(l:List UInt8):cE c l≠ []:=by
 cases l with
 |nil=>simp[cE]
 |cons x xs=>unfold cE;split
             ·simp
             split<;>simp
theorem wX (c:UInt8): ∀(l:List UInt8),cE c (l++ [c])=cE c l++ [[]]:=by
 intro l;induction l with
 |nil=>simp[cE]
 |cons x xs ih=>
  rw[List.cons_append];unfold cE;by_cases h:x=c
  ·rw[if_pos h,if_pos h,ih];rfl
  rw[if_neg h,if_neg h,ih];cases hq:cE c xs with
  |nil=>exact absurd hq (jS c xs)
  |cons p ps=>rfl
theorem tP (c:UInt8)(x:UInt8)(hx:x≠c): ∀(l:List UInt8) (A:List (List UInt8)) (p:List UInt8),cE c l=A++ [p]→cE c (l++ [x])=A++ [p++ [x]]:=by
 intro l;induction l with
 |nil=>
  intro A p h;simp only[cE,List.nil_append]at h⊢;have:A= []∧p= []:=by
   cases A with
   |nil=>simpa using h.symm
   |cons a A=>simp at h
  obtain⟨rfl,rfl⟩:=this;simp[hx]
 |cons y ys ih=>
  intro A p h;rw[List.cons_append];unfold cE at h⊢;by_cases hy:y=c
  ·rw[if_pos hy]at h⊢;cases A with
   |nil=>simp at h;exact absurd h.2 (jS c ys)
   |cons a A=>simp only[List.cons_append,List.cons.injEq]at h;rw[ih A p h.2,←h.1];rfl
  rw[if_neg hy]at h⊢;cases hq:cE c ys with
  |nil=>exact absurd hq (jS c ys)
  |cons q qs=>
   rw[hq]at h;simp only at h;cases A with
   |nil=>simp only[List.nil_append,List.cons.injEq]at h;obtain⟨rfl,rfl⟩:=h;rw[ih [] q (by simpa using hq)];rfl
   |cons a A=>simp only[List.cons_append,List.cons.injEq]at h;obtain⟨rfl,rfl⟩:=h;rw[ih (q::A) p (by simpa using hq)];rfl
abbrev eX (ls:List (List UInt8)):List Value:=ls.map str
theorem nX (s:ByteArray)(a b:Nat)(l:List UInt8)(h:(s.data.toList.take b).drop a=l):Value.string (s.extract a b)=str l:=by
 have:s.extract a b=⟨l.toArray⟩:=by apply ByteArray.ext;apply Array.toList_inj.1;rw[Lib.extract_data];show _=l;rw[←h,List.drop_take]
 rw[this]
theorem aLq:(Tryz.prog.info? 9).map (fun i=>(i.zero,i.size,i.bytes))=some (some (.string ⟨#[]⟩),1,16):=by kernel_rfl
theorem sD (s:ByteArray)(c:UInt8)(ci:Int)(l:ci=(c.toNat:Int))(w:World)(hs:s.size≤1099511627776):
  Calls Tryz.prog 164 #[.string s,.int .u8 ci] w fun e w'=> ∃v,e= .returned v∧w'.ownsRow w.heap.size 9 1 v (cE c s.data.toList).length (eX (cE c s.data.toList))∧Ext w w':=by
 obtain⟨i0,hi,m,n,o⟩:=info_parts aLq;have HC:=xQ l;clear l;go_enter Tryz.func164,Tryz.ntmps164;go_wp2
 go_loopw [5,6,7] (fun v fr i wr=> ∃(k f:Nat) (A:List (List UInt8)) (p:List UInt8),k≤s.size∧f≤k∧A.length≤k∧fr= .int .i64 f∧i= .int .i64 k∧cE c (s.data.toList.take k)=A++ [p]∧p=(s.data.toList.take k).drop f∧
   wr.ownsRow w.heap.size 9 1 v A.length (eX A)∧Ext w wr) (fun _ _ i _=>s.size-(intOf i).toNat)
 case atStart=>exact⟨0,0,[],[],Nat.zero_le _,Nat.le_refl _,Nat.le_refl _,rfl,rfl,by simp[cE],by simp,World.ownsRow_made _ #[] 0 (Nat.le_refl _) (by simp[maxLen]) rfl,(Ext.refl _).alloc _⟩
 case round=>
  obtain⟨k,f,A,p,hk,hf,t,rfl,rfl,h,hp,b,hE⟩:=hrel;have g:=xQ h;have HP:=xQ hp;have x:=hE.sz;clear h hp;by_cases hlt:k<s.size
  ·by_cases hc:s[k]=c
   ·have hb:((s[k].toNat:Int)==ci)=true:=by rw[HC.out,hc];simp
    have r:=xQ hc;clear hc;go_wp2_with (at_builtin;refine wpList_append_own _ rfl _ _ 189 rfl w.heap.size 9 i0 (.string ⟨#[]⟩) 1 16 Tryz.underlying189 hi m n o rfl (by decide) _ _ _ rfl (b.alloc _) ⟨wr.heap.size,0,none⟩ 1 1 [.string (s.extract f k)] rfl rfl ?c1 ?c2 ?c3 ?c4 ?c5 ?_)
    case c1=>exact cell_one_new _ _ _
    case c2=>intro u hu;simp at hu;subst hu;rfl
    case c3=>unfold maxLen;omega
    case c4=>omega
    case c5=>simp;omega
    intro v' w1 d a _;have j:Ext w w1:=(hE.alloc _).grown a (fun q hq=>(b.lt q hq).1);clear a b;go_wp2;go_roundw
    case rel=>
     refine⟨k+1,k+1,A++ [p],[],by omega,Nat.le_refl _,by simp;omega,by go_num,by go_num,?_,?_,?_,j⟩
     ·rw[iI s k hlt,r.out,wX,g.out]
     ·rw[List.drop_eq_nil_of_le (by simp;omega)]
     have:=d;rw[nX s f k p HP.out.symm]at this;simpa[eX]using this
    case measure=>simp[intOf];omega
   have hb:((s[k].toNat:Int)==ci)=false:=by rw[HC.out,beq_eq_false_iff_ne];intro e;exact hc (UInt8.toNat_inj.1 (by omega))
   go_wp2;go_roundw
   case rel=>
    refine⟨k+1,f,A,p++ [s[k]],by omega,by omega,by omega,by go_num,by go_num,?_,?_,b,hE⟩
    ·rw[iI s k hlt];exact tP c _ hc _ A p g.out
    rw[iI s k hlt,HP.out,List.drop_append_of_le_length (by simp;omega)]
   case measure=>simp[intOf];omega
  obtain rfl:k=s.size:=by omega
  have e:s.data.toList.take s.size=s.data.toList:=List.take_of_length_le (by simp);have HE:=xQ e;clear e;go_wp2_with (at_builtin;refine wpList_append_own _ rfl _ _ 189 rfl w.heap.size 9 i0 (.string ⟨#[]⟩) 1 16 Tryz.underlying189 hi m n o rfl (by decide) _ _ _ rfl (b.alloc _) ⟨wr.heap.size,0,none⟩ 1 1 [.string (s.extract f s.size)] rfl rfl ?d1 ?d2 ?d3 ?d4 ?d5 ?_)
  case d1=>exact cell_one_new _ _ _
  case d2=>intro u hu;simp at hu;subst hu;rfl
  case d3=>unfold maxLen;omega
  case d4=>omega
  case d5=>simp;omega
  intro v' w1 d a _;have j:Ext w w1:=(hE.alloc _).grown a (fun q hq=>(b.lt q hq).1);clear a b;go_wp2;go_ret;refine⟨_,rfl,?_,j⟩;have:=d;rw[nX s f s.size p HP.out.symm]at this;rw[←HE.out,g.out];simpa[eX]using this
end Go.Proofs.YtpelpnfhbepokaaGreatDoor
namespace Go.Proofs.YtpelpnfhbepokaaGreatDoor
open Go.RowKit
set_option linter.unusedVariables false
theorem oO (c:UInt8): ∀l:List UInt8,(Lib.index l [c]= -1∧cE c l= [l]∧c∉l)∨ ∃i:Nat,Lib.index l [c]=i∧i<l.length∧cE c l=l.take i::cE c (l.drop (i+1))∧c∉l.take i:=by
 intro l;induction l with
 |nil=>exact .inl ⟨rfl,rfl,by simp⟩
 |cons b l ih=>
  by_cases hb:b=c
  ·subst hb;refine .inr ⟨0,?_,by simp,by simp[cE],by simp⟩;unfold Lib.index;rw[if_pos (by simp[List.isPrefixOf])];rfl
  have hp:([c]:List UInt8).isPrefixOf (b::l)=false:=by simp[List.isPrefixOf];exact fun e=>hb e.symm
  rcases ih with⟨h1,h2,h3⟩|⟨i,h1,h2,h3,h4⟩
  ·refine .inl ⟨?_,?_,?_⟩
   ·unfold Lib.index;rw[hp,h1];rfl
   ·unfold cE;rw[if_neg hb,h2]
   simp[h3];exact fun e=>hb e.symm
  refine .inr ⟨i+1,?_,by simp;omega,?_,?_⟩
  ·unfold Lib.index;rw[hp,h1];simp only[Bool.false_eq_true,if_false];rw[if_neg (by simp)];rfl
  ·have e:cE c (b::l)=match cE c l with| []=> [[b]]|p::ps=>(b::p)::ps:=by
    rw[cE,if_neg hb]<;>rfl
   rw[e,h3];rfl
  simp[h4];exact fun e=>hb e.symm
theorem aGi (c:UInt8): ∀(k:Nat) (s:ByteArray),Lib.countB s ⟨#[c]⟩=k→(Lib.splitB ⟨#[c]⟩ 0 k s).map (fun b=>b.data.toList)=cE c s.data.toList:=by
 intro k;induction k with
 |zero=>
  intro s hk;rw[Lib.splitB_zero];rcases oO c s.data.toList with⟨h1,h2,h3⟩|⟨i,h1,h2,h3,h4⟩
  ·rw[h2];rfl
  have:=Lib.countB_hit s ⟨#[c]⟩ i (Nat.le_refl 1) h1;omega
 |succ k ih=>
  intro s hk;rcases oO c s.data.toList with⟨h1,h2,h3⟩|⟨i,h1,h2,h3,h4⟩
  ·have:=Lib.countB_miss s ⟨#[c]⟩ h1;omega
  have hc:=Lib.countB_hit s ⟨#[c]⟩ i (Nat.le_refl 1) h1
  have hr:=ih (s.extract (i+1) s.size) (by
   have e:s.extract (i+1) s.size=s.extract (i+(⟨#[c]⟩:ByteArray).size) s.size:=rfl
   rw[e];omega)
  rw[Lib.splitB_hit ⟨#[c]⟩ 0 k s i h1,List.map_cons];have e2:s.extract (i+(⟨#[c]⟩:ByteArray).size) s.size=s.extract (i+1) s.size:=rfl;rw[e2,hr,h3];congr 1
  ·rw[Lib.extract_data];simp
  congr 1;rw[Lib.extract_data];rw[List.take_of_length_le (by simp)]
theorem uC (b:ByteArray):Value.string b=str b.data.toList:=rfl
theorem aGj (s:ByteArray)(c:UInt8)(w:World)(hs:s.size<4294967281)(hE:Env w):
  Calls Tryz.prog 175 #[.string s,.string ⟨#[c]⟩] w fun e w'=> ∃v,e= .returned v∧w'.ownsRow w.heap.size 9 1 v (cE c s.data.toList).length (eX (cE c s.data.toList))∧Ext w w':=by
 obtain⟨m,hm⟩:=hE.mx;refine(Tryz.strings_Split s ⟨#[c]⟩ m w hs hm (Nat.le_refl 1)).mono ?_;rintro e w' ⟨rfl,rfl⟩;have hq:=aGi c _ s rfl;have hl:(cE c s.data.toList).length=Lib.countB s ⟨#[c]⟩+1:=by rw[←hq,List.length_map];exact Lib.splitB_all ⟨#[c]⟩ (Nat.le_refl 1) 0 _ s rfl
 have hv:(Lib.splitB ⟨#[c]⟩ 0 (Lib.countB s ⟨#[c]⟩) s).map Value.string=eX (cE c s.data.toList):=by rw[←hq,eX,List.map_map];rfl
 refine⟨_,rfl,?_,(Ext.refl _).alloc _⟩;rw[hv,←hl];have:=Lib.countB_le ⟨#[c]⟩ (Nat.le_refl 1) _ s (Nat.le_refl _);have h2:=World.ownsRow_lit (e:=9) (size:=1) (base:=w.heap.size) w (eX (cE c s.data.toList)).toArray (cE c s.data.toList).length (Nat.le_refl _) (by unfold maxLen;omega) (by simp[eX]);simpa using h2
end Go.Proofs.YtpelpnfhbepokaaGreatDoor
