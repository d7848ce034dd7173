/-
  Texts of this proof, packed (@packed).
-/
import Derived.KernelRfl
import Derived.RegionTactic
import Derived.Shelf.Strings.BuilderK
import Derived.Test.YtpelpnfhbepokaaGreatDoorRows
import Derived.Test.YtpelpnfhbepokaaGreatDoorU1
import Derived.Test.YtpelpnfhbepokaaGreatDoorU2
import Derived.Test.YtpelpnfhbepokaaGreatDoorU3
import Derived.Test.YtpelpnfhbepokaaGreatDoorU4
import Derived.Test.YtpelpnfhbepokaaGreatDoorU6
namespace Go.Proofs.YtpelpnfhbepokaaGreatDoor
open Go.RowKit
set_option linter.unusedVariables false
set_option maxHeartbeats 8000000
set_option maxRecDepth 100000
theorem tE (c:UInt8): ∀l:List UInt8,c∉l→dA c l=l∧fY c l= []:=by
 intro l;induction l with
 |nil=>intro _;exact⟨rfl,rfl⟩
 |cons x xs ih=>
  intro h;have hx:x≠c:=fun q=>h (by simp[q])
  obtain⟨i1,i2⟩:=ih (fun q=>h (by simp[q]));simp[dA,fY,hx,i1,i2]
theorem aCb (c:UInt8)(a b:List UInt8)(h:c∉a):Lib.index (a++c::b) [c]=a.length:=by
 rcases oO c (a++c::b)with⟨h1,h2,h3⟩|⟨i,h1,h2,h3,h4⟩
 ·exact absurd (by simp) h3
 have e:=yT c (a++c::b);rw[h3,(eC c a b h).1]at e;simp only[List.getElem?_cons_zero,Option.some.injEq]at e;have:=congrArg List.length e;simp at this h2;rw[h1];omega
theorem aMk (c:UInt8)(l:List UInt8):(Lib.cut l [c]).1=dA c l∧(Lib.cut l [c]).2.1=fY c l:=by
 by_cases h:c∈l
 ·obtain⟨a,b,rfl,ha⟩:=sM c l h;unfold Lib.cut;rw[aCb c a b ha,if_pos (by omega),(eC c a b ha).1,(eC c a b ha).2];simp
 have e:Lib.index l [c]= -1:=by
  rcases oO c l with⟨h1,_⟩|⟨i,h1,h2,h3,h4⟩
  ·exact h1
  exfalso;have e2:=oT c l h;rw[h3]at e2;have:=congrArg List.length e2;simp at this;exact absurd this (jS c _)
 unfold Lib.cut;rw[e,if_neg (by omega),(tE c l h).1,(tE c l h).2];exact⟨rfl,rfl⟩
theorem wS (c:UInt8)(l:List UInt8):Lib.indexByte l c=match gS c l with|some e=>(e:Int)|none=> -1:=by
 by_cases h:c∈l
 ·obtain⟨a,b,rfl,ha⟩:=sM c l h;rw[qK c a b ha];have hg:=Lib.indexByte_ge (a++c::b) c;by_cases h1:Lib.indexByte (a++c::b) c= -1
  ·exact absurd (by simp) (Lib.indexByte_none h1 a.length)
  obtain⟨o,ho⟩:=Int.eq_ofNat_of_zero_le (show 0≤Lib.indexByte (a++c::b) c by omega);obtain⟨s1,s2⟩:=Lib.indexByte_some ho;have:o=a.length:=by
   rcases Nat.lt_trichotomy o a.length with q|q|q
   ·rw[List.getElem?_append_left q]at s1;exact absurd (List.mem_of_getElem? s1) ha
   ·exact q
   exact absurd (by simp) (s2 a.length q)
  rw[ho,this]
 have e:gS c l=none:=by unfold gS;rw[if_neg h]
 rw[e];by_cases h1:Lib.indexByte l c= -1
 ·exact h1
 have hg:=Lib.indexByte_ge l c;obtain⟨o,ho⟩:=Int.eq_ofNat_of_zero_le (show 0≤Lib.indexByte l c by omega);exact absurd (List.mem_of_getElem? (Lib.indexByte_some ho).1) h
theorem aD4 (l:List UInt8)(c:UInt8)(w:World)(hs:l.length<4294967281)(hE:Env w):
  Calls Tryz.prog 124 #[str l,.string ⟨#[c]⟩] w fun e w'=>e= .returned (.tuple #[str (dA c l),str (fY c l),.bool (Lib.cut l [c]).2.2])∧Ext w w':=by
 obtain⟨m,hm⟩:=hE.mx;refine(Tryz.strings_Cut ⟨l.toArray⟩ ⟨#[c]⟩ m w (by simpa[ByteArray.size]using hs) hm).mono ?_;rintro e w' ⟨rfl,n,rfl⟩;obtain⟨c1,c2⟩:=aMk c l;refine⟨?_,(Ext.refl _).drewN _⟩;show Ending.returned (.tuple #[.string ⟨(Lib.cut l [c]).1.toArray⟩,.string ⟨(Lib.cut l [c]).2.1.toArray⟩,.bool (Lib.cut l [c]).2.2])=_;rw[c1,c2]
theorem jR (n k a b:Int):(bG n k a b).length≤200:=by
 by_cases h:bG n k a b= []
 ·rw[h];simp
 obtain⟨h1,h2,ho,e⟩:=jC h;rw[e];have e1:=cQ n.toNat (by omega);have e2:=jD k a b;have e3:=tQ (Lib.decDigits n.toNat++ [58]++aS k a b);simp only[List.length_append,List.length_cons,List.length_nil]at e3⊢;omega
def reV:Option (Int×gY×Nat)→Value
 |some (n,(k,a,b),m)=> .tuple #[n,cI k a b,m]
 |none=> .tuple #[(),cI 0 0 0,()]
def kE (o:Option (Int×gY×Nat))(w:World)(e:Ending)(w':World):Prop:=e= .returned (reV o)∧Ext w w'
theorem vF (l:List UInt8)(w:World)(HI:Hid (∀w,Calls Tryz.prog 123 #[str l,.int .u8 59] w fun e w'=>e= .returned (.int .i64 (-1))∧w=w')):
  Calls Tryz.prog 74 #[str l] w (kE none w):=by
 go_enter Tryz.func74,Tryz.ntmps74;go_wp2_with fail;refine(HI _).mono ?_;rintro e w1 ⟨rfl,rfl⟩;go_wp2;exact bodyPost_ret (v:=reV none) (by simp[results,Tryz.results74,go_sem];rfl) rfl ⟨rfl,xE⟩
theorem wU (l b b2 f r:List UInt8)(e:Nat)(x y:Bool)(w:World)(hl:l.length≤4294967280)(d:e<l.length)
  (HI:Hid (∀w,Calls Tryz.prog 123 #[str l,.int .u8 59] w fun q w'=>q= .returned (.int .i64 e)∧w=w'))
  (HC:Hid (∀w,Env w→Calls Tryz.prog 124 #[.string ((⟨l.toArray⟩:ByteArray).extract 0 e),.string ⟨#[35]⟩] w fun q w'=>q= .returned (.tuple #[str b,str b2,.bool x])∧Ext w w'))
  (a:Hid (∀w,Env w→Calls Tryz.prog 124 #[str b,.string ⟨#[58]⟩] w fun q w'=>q= .returned (.tuple #[str f,str r,.bool y])∧Ext w w'))
  (HN:Hid (∀w,Calls Tryz.prog 125 #[str f,.int .i64 2] w fun q w'=>q= .returned (.tuple #[(),.bool false])∧w=w'))(HE:Hid (Env w)):
  Calls Tryz.prog 74 #[str l] w (kE none w):=by
 go_enter Tryz.func74,Tryz.ntmps74;go_wp2_with fail;refine(HI _).mono ?_;rintro q w1 ⟨rfl,rfl⟩;go_wp2_with fail;refine(HC _ (HE.out.ext xE)).mono ?_;rintro q w1 ⟨rfl,h1⟩;go_wp2_with fail;refine(a _ (HE.out.ext xE)).mono ?_;rintro q w2 ⟨rfl,h2⟩;replace h2:=h1.trans h2;clear h1;obtain⟨c,g⟩:=h2.cells;go_wp2_with fail;refine(HN _).mono ?_;rintro q w3 ⟨rfl,rfl⟩;go_wp2;exact bodyPost_ret (v:=reV none) (by simp[results,Tryz.results74,go_sem, *];rfl) rfl ⟨rfl,xE⟩
theorem vG (l b b2 f r:List UInt8)(e:Nat)(n:Int)(x y:Bool)(w:World)(hl:l.length≤4294967280)(d:e<l.length)
  (HI:Hid (∀w,Calls Tryz.prog 123 #[str l,.int .u8 59] w fun q w'=>q= .returned (.int .i64 e)∧w=w'))
  (HC:Hid (∀w,Env w→Calls Tryz.prog 124 #[.string ((⟨l.toArray⟩:ByteArray).extract 0 e),.string ⟨#[35]⟩] w fun q w'=>q= .returned (.tuple #[str b,str b2,.bool x])∧Ext w w'))
  (a:Hid (∀w,Env w→Calls Tryz.prog 124 #[str b,.string ⟨#[58]⟩] w fun q w'=>q= .returned (.tuple #[str f,str r,.bool y])∧Ext w w'))
  (HN:Hid (∀w,Calls Tryz.prog 125 #[str f,.int .i64 2] w fun q w'=>q= .returned (.tuple #[n,.bool true])∧w=w'))
  (HR:Hid (∀w,Env w→Calls Tryz.prog 126 #[str r] w fun q w'=>q= .returned (.tuple #[cI 0 0 0,.bool false])∧Ext w w'))(HE:Hid (Env w)):
  Calls Tryz.prog 74 #[str l] w (kE none w):=by
 go_enter Tryz.func74,Tryz.ntmps74;go_wp2_with fail;refine(HI _).mono ?_;rintro q w1 ⟨rfl,rfl⟩;go_wp2_with fail;refine(HC _ (HE.out.ext xE)).mono ?_;rintro q w1 ⟨rfl,h1⟩;go_wp2_with fail;refine(a _ (HE.out.ext xE)).mono ?_;rintro q w2 ⟨rfl,h2⟩;replace h2:=h1.trans h2;clear h1;go_wp2_with fail;refine(HN _).mono ?_;rintro q w3 ⟨rfl,rfl⟩;go_wp2_with fail;refine(HR _ (HE.out.ext xE)).mono ?_;rintro q w3 ⟨rfl,h3⟩;replace h3:=h2.trans h3;clear h2;obtain⟨c,g⟩:=h3.cells;have h:w.heap.size<w3.heap.size:=Nat.lt_of_lt_of_le (by simp) h3.sz;go_wp2;go_quiet (fail);go_wp2;exact bodyPost_ret (v:=reV none) (by simp[results,Tryz.results74,go_sem, *];rfl) rfl ⟨rfl,xE⟩
theorem aAe (l b b2 f r:List UInt8)(e:Nat)(n k a b0:Int)(t:List UInt8)(x y:Bool)(w:World)(hl:l.length≤4294967280)(j:e<l.length)
  (HI:Hid (∀w,Calls Tryz.prog 123 #[str l,.int .u8 59] w fun q w'=>q= .returned (.int .i64 e)∧w=w'))
  (HC:Hid (∀w,Env w→Calls Tryz.prog 124 #[.string ((⟨l.toArray⟩:ByteArray).extract 0 e),.string ⟨#[35]⟩] w fun q w'=>q= .returned (.tuple #[str b,str b2,.bool x])∧Ext w w'))
  (c:Hid (∀w,Env w→Calls Tryz.prog 124 #[str b,.string ⟨#[58]⟩] w fun q w'=>q= .returned (.tuple #[str f,str r,.bool y])∧Ext w w'))
  (HN:Hid (∀w,Calls Tryz.prog 125 #[str f,.int .i64 2] w fun q w'=>q= .returned (.tuple #[n,.bool true])∧w=w'))
  (HR:Hid (∀w,Env w→Calls Tryz.prog 126 #[str r] w fun q w'=>q= .returned (.tuple #[cI k a b0,.bool true])∧Ext w w'))(HE:Hid (Env w))
  (HT:Hid (∀w,Env w→Calls Tryz.prog 127 #[n,cI k a b0] w fun q w'=>q= .returned (str t)∧Ext w w'))(p:t.length≤200)(d:(t==((⟨l.toArray⟩:ByteArray).extract 0 (e+1)).toList)=false):
  Calls Tryz.prog 74 #[str l] w (kE none w):=by
 go_enter Tryz.func74,Tryz.ntmps74;go_wp2_with fail;refine(HI _).mono ?_;rintro q w1 ⟨rfl,rfl⟩;go_wp2_with fail;refine(HC _ (HE.out.ext xE)).mono ?_;rintro q w1 ⟨rfl,h1⟩;go_wp2_with fail;refine(c _ (HE.out.ext xE)).mono ?_;rintro q w2 ⟨rfl,h2⟩;replace h2:=h1.trans h2;clear h1;go_wp2_with fail;refine(HN _).mono ?_;rintro q w3 ⟨rfl,rfl⟩;go_wp2_with fail;refine(HR _ (HE.out.ext xE)).mono ?_;rintro q w3 ⟨rfl,h3⟩;replace h3:=h2.trans h3;clear h2;obtain⟨g,m⟩:=h3.cells;have s:w.heap.size<w3.heap.size:=Nat.lt_of_lt_of_le (by simp) h3.sz;go_wp2;have q1:IntKind.i64.wrap ((e:Int)+1)=(e:Int)+1:=IntWalk.i64_in _ (by omega);have q2:0≤(e:Int)+1:=by omega
 have q3:((e:Int)+1).toNat=e+1:=by omega
 have q4:(e:Int)+1≤(l.length:Int):=by omega
 have q5:e+1≤l.length:=by omega
 go_region_held3 (fun w'=>w'.cell? ⟨w3.heap.size,0,none⟩=some (.int .i64 k)∧w'.cell? ⟨w3.heap.size,1,none⟩=some (.int .i64 a)∧w'.cell? ⟨w3.heap.size,2,none⟩=some (.int .i64 b0)) (go_keep)
  ((go_at_call 127;refine(HT _ (HE.out.ext xE)).mono ?_;rintro q w4 ⟨rfl,h4⟩;(try replace h4:=h4.of_drew);have i:=h4.cells.1))
 clear q1 q2 q3 q4 q5;replace h4:=(h3.alloc (.cells #[k,a,b0] 44)).trans h4;obtain⟨h,o⟩:=h4.cells;have u:w.heap.size<w4.heap.size:=Nat.lt_of_lt_of_le (by simp) h4.sz;go_wp2;exact bodyPost_ret (v:=reV none) (by simp[results,Tryz.results74,go_sem, *];rfl) rfl ⟨rfl,xE⟩
theorem aAd (l b b2 f r:List UInt8)(e:Nat)(n k a b0:Int)(t:List UInt8)(x y:Bool)(w:World)(hl:l.length≤4294967280)(j:e<l.length)
  (HI:Hid (∀w,Calls Tryz.prog 123 #[str l,.int .u8 59] w fun q w'=>q= .returned (.int .i64 e)∧w=w'))
  (HC:Hid (∀w,Env w→Calls Tryz.prog 124 #[.string ((⟨l.toArray⟩:ByteArray).extract 0 e),.string ⟨#[35]⟩] w fun q w'=>q= .returned (.tuple #[str b,str b2,.bool x])∧Ext w w'))
  (c:Hid (∀w,Env w→Calls Tryz.prog 124 #[str b,.string ⟨#[58]⟩] w fun q w'=>q= .returned (.tuple #[str f,str r,.bool y])∧Ext w w'))
  (HN:Hid (∀w,Calls Tryz.prog 125 #[str f,.int .i64 2] w fun q w'=>q= .returned (.tuple #[n,.bool true])∧w=w'))
  (HR:Hid (∀w,Env w→Calls Tryz.prog 126 #[str r] w fun q w'=>q= .returned (.tuple #[cI k a b0,.bool true])∧Ext w w'))(HE:Hid (Env w))
  (HT:Hid (∀w,Env w→Calls Tryz.prog 127 #[n,cI k a b0] w fun q w'=>q= .returned (str t)∧Ext w w'))(p:t.length≤200)(d:(t==((⟨l.toArray⟩:ByteArray).extract 0 (e+1)).toList)=true):
  Calls Tryz.prog 74 #[str l] w (kE (some (n,(k,a,b0),e+1)) w):=by
 go_enter Tryz.func74,Tryz.ntmps74;go_wp2_with fail;refine(HI _).mono ?_;rintro q w1 ⟨rfl,rfl⟩;go_wp2_with fail;refine(HC _ (HE.out.ext xE)).mono ?_;rintro q w1 ⟨rfl,h1⟩;go_wp2_with fail;refine(c _ (HE.out.ext xE)).mono ?_;rintro q w2 ⟨rfl,h2⟩;replace h2:=h1.trans h2;clear h1;go_wp2_with fail;refine(HN _).mono ?_;rintro q w3 ⟨rfl,rfl⟩;go_wp2_with fail;refine(HR _ (HE.out.ext xE)).mono ?_;rintro q w3 ⟨rfl,h3⟩;replace h3:=h2.trans h3;clear h2;obtain⟨g,m⟩:=h3.cells;have s:w.heap.size<w3.heap.size:=Nat.lt_of_lt_of_le (by simp) h3.sz;go_wp2;have q1:IntKind.i64.wrap ((e:Int)+1)=(e:Int)+1:=IntWalk.i64_in _ (by omega);have q2:0≤(e:Int)+1:=by omega
 have q3:((e:Int)+1).toNat=e+1:=by omega
 have q4:(e:Int)+1≤(l.length:Int):=by omega
 have q5:e+1≤l.length:=by omega
 go_region_held3 (fun w'=>w'.cell? ⟨w3.heap.size,0,none⟩=some (.int .i64 k)∧w'.cell? ⟨w3.heap.size,1,none⟩=some (.int .i64 a)∧w'.cell? ⟨w3.heap.size,2,none⟩=some (.int .i64 b0)) (go_keep)
  ((go_at_call 127;refine(HT _ (HE.out.ext xE)).mono ?_;rintro q w4 ⟨rfl,h4⟩;(try replace h4:=h4.of_drew);have i:=h4.cells.1))
 clear q1 q2 q3 q4 q5;replace h4:=(h3.alloc (.cells #[k,a,b0] 44)).trans h4;obtain⟨h,o⟩:=h4.cells;have u:w.heap.size<w4.heap.size:=Nat.lt_of_lt_of_le (by simp) h4.sz;go_wp2;go_region;all_goals go_wp2
 all_goals exact bodyPost_ret (v:=reV (some (n,(k,a,b0),e+1))) (by simp[results,Tryz.results74,go_sem, *];rfl) rfl ⟨rfl,xE⟩
theorem mW (l:List UInt8)(n:Nat):(((⟨l.toArray⟩:ByteArray).extract 0 n).toList)=l.take n:=by rw[Lib.toList_data,Lib.extract_data];simp
theorem aAv (l:List UInt8)(n:Nat):Value.string ((⟨l.toArray⟩:ByteArray).extract 0 n)=str (l.take n):=by rw[uC,←Lib.toList_data,mW]
theorem wT (l:List UInt8)(w:World)(hs:l.length≤4294967280)(hE:Env w):Calls Tryz.prog 74 #[str l] w (kE (bZ l) w):=by
 have hI: ∀w,Calls Tryz.prog 123 #[str l,.int .u8 59] w fun q w'=>q= .returned (.int .i64 (match gS 59 l with|some e=>(e:Int)|none=> -1))∧w=w':=by intro w;refine(Tryz.strings_IndexByte ⟨l.toArray⟩ 59 w).mono ?_;rintro q w' ⟨rfl,rfl⟩;exact⟨by rw[←wS];rfl,rfl⟩
 unfold bZ;cases hp:gS 59 l with
 |none=>rw[hp]at hI;exact vF l w hI
 |some e=>
  rw[hp]at hI;have f:=(eP hp).1;simp only;have g:=(mX 35 (l.take e)).1;have j:(l.take e).length≤l.length:=List.length_take_le' _ _;obtain⟨x,hC⟩: ∃x,∀w,Env w→Calls Tryz.prog 124 #[.string ((⟨l.toArray⟩:ByteArray).extract 0 e),.string ⟨#[35]⟩] w fun q w'=>q= .returned (.tuple #[str (dA 35 (l.take e)),str (fY 35 (l.take e)),.bool x])∧Ext w w':=by rw[aAv];refine⟨(Lib.cut (l.take e) [35]).2.2,fun w hE=>aD4 _ 35 w (by omega) hE⟩
  obtain⟨y,c⟩: ∃y,∀w,Env w→Calls Tryz.prog 124 #[str (dA 35 (l.take e)),.string ⟨#[58]⟩] w fun q w'=>q= .returned (.tuple #[str (dA 58 (dA 35 (l.take e))),str (fY 58 (dA 35 (l.take e))),.bool y])∧Ext w w':=
   ⟨_,fun w hE=>aD4 _ 58 w (by omega) hE⟩
  generalize hb:dA 35 (l.take e)=b at*;have h:=(mX 58 b).1;have i:=(mX 58 b).2;have hN: ∀o,dE 2 (dA 58 b)=o→ ∀w,Calls Tryz.prog 125 #[str (dA 58 b),.int .i64 2] w fun q w'=>q= .returned (.tuple #[(o.getD 0:Int),.bool o.isSome])∧w=w':=by intro o ho w;subst ho;exact sV _ 2 (by omega) (by unfold maxLen;omega) w
  have hR: ∀o,bO (fY 58 b)=o→ ∀w,Env w→Calls Tryz.prog 126 #[str (fY 58 b)] w fun q w'=>q= .returned (rdV o)∧Ext w w':=by intro o ho w hE;subst ho;exact aAf _ w (by omega) hE
  cases hn:dE 2 (dA 58 b)with
  |none=>exact wU l b _ _ _ e x y w hs f hI hC c (hN _ hn) hE
  |some n=>
   cases hd:bO (fY 58 b)with
   |none=>exact vG l b _ _ _ e n x y w hs f hI hC c (hN _ hn) (hR _ hd) hE
   |some d=>
    obtain⟨k,a,b0⟩:=d;have hT: ∀w,Env w→Calls Tryz.prog 127 #[n,cI k a b0] w fun q w'=>q= .returned (str (bG n k a b0))∧Ext w w':=fun w hE=>aHu n k a b0 w hE
    by_cases ht:bG n k a b0=l.take (e+1)
    ·simp only[ht,if_true];exact aAd l b _ _ _ e n k a b0 _ x y w hs f hI hC c (hN _ hn) (hR _ hd) hE hT (jR n k a b0) (by rw[mW,ht];simp)
    simp only[ht,if_false];exact aAe l b _ _ _ e n k a b0 _ x y w hs f hI hC c (hN _ hn) (hR _ hd) hE hT (jR n k a b0) (by rw[mW];simpa using ht)
end Go.Proofs.YtpelpnfhbepokaaGreatDoor
namespace Go.Proofs.YtpelpnfhbepokaaGreatDoor
open Go.RowKit
set_option linter.unusedVariables false
/-! ### slices of structs -/
theorem Rd.at {α:Type}{f:α→List Value}{w:World}{b c n cap sz:Nat}{xs:List α}(hf: ∀a,(f a).length=sz)(h:Rd w (.slice (some ⟨b,c,none⟩) n cap) n sz (xs.flatMap f)){k:Nat}{a:α}(hk:xs[k]? =some a) (hn:xs.length=n) (j:Nat) (hj:j<sz):
  w.cell? ⟨b,c+k*sz+j,none⟩=(f a)[j]? :=by
 rcases h.2 with⟨h1,_⟩|⟨b',off',cap',h1,_,_,_,h2⟩
 ·simp at h1
 simp only[Value.slice.injEq,Option.some.injEq,Addr.mk.injEq,and_true,true_and]at h1;obtain⟨⟨rfl,rfl⟩,rfl⟩:=h1;have d:k<n:=by rw[←hn];exact(List.getElem?_eq_some_iff.1 hk).1
 have e:k*sz+j<n*sz:=by have:(k+1)*sz≤n*sz:=Nat.mul_le_mul_right sz d;rw[Nat.succ_mul]at this;omega
 rw[Nat.add_assoc,h2 _ e,dW f sz hf xs k a hk j hj]
def eY (d:gY):List Value:= [.int .i64 d.1,.int .i64 d.2.1,.int .i64 d.2.2]
abbrev RdDeeds (w:World)(v:Value)(ds:List gY):Prop:=Rd w v ds.length 3 (ds.flatMap eY)
theorem RdDeeds.at {w:World}{b c n cap:Nat}{ds:List gY}(h:Rd w (.slice (some ⟨b,c,none⟩) n cap) n 3 (ds.flatMap eY))(hn:ds.length=n){k:Nat}{d:gY}(hk:ds[k]? =some d):
  w.cell? ⟨b,c+k*3,none⟩=some (.int .i64 d.1)∧w.cell? ⟨b,c+k*3+1,none⟩=some (.int .i64 d.2.1)∧w.cell? ⟨b,c+k*3+2,none⟩=some (.int .i64 d.2.2):=
 ⟨h.at (f:=eY) (fun _=>rfl) hk hn 0 (by omega),h.at (f:=eY) (fun _=>rfl) hk hn 1 (by omega),h.at (f:=eY) (fun _=>rfl) hk hn 2 (by omega)⟩
/-! ### the text -/
/-! ### a builder while the world grows -/
theorem Ext.gb {w w':World}(h:Ext w w'):w.grownBy w' none:=⟨h.os,h.tape,h.output,h.size,fun k hk _=>h.block k hk⟩
theorem bQ {aA aB:Int}{xs:List Int}(h:aN aA aB xs=true):2≤aA∧aA≤4∧2≤aB∧aB≤3∧4≤xs.length∧xs.length≤12∧(xs.length:Int)=aA*aB∧(∀x∈xs,0≤x∧x≤99)∧(xs.filter (fun x=>decide (0<x))).Nodup:=by simp only[aN,Bool.and_eq_true]at h;obtain⟨h1,h2,h3,h4,h5,h6,h7⟩:=cG h.1;obtain⟨q1,_,q3⟩:=(gC _ _).1 h.2;exact⟨h1,h2,h3,h4,h5,h6,h7,q1,q3⟩
set_option linter.unusedSimpArgs false
set_option maxHeartbeats 8000000
set_option maxRecDepth 100000
theorem yD (a b:Int)(w:World)(h0:0≤a)(h1:a≤1000)(h2:0≤b)(h3:b≤1000):Calls Tryz.prog 229 #[a,b] w fun e w'=>e= .returned (.int .i64 (oX a b))∧Ext w w':=by go_enter Tryz.func229,Tryz.ntmps229;go_wp2;go_ret;exact⟨dG (by unfold oX;omega),by exact .refl _⟩
theorem aC6 (aA a b:Int)(w:World)(h0:0≤a)(h1:a≤100)(h2:0≤b)(h3:b≤100)(h4:2≤aA)(h5:aA≤4):Calls Tryz.prog 208 #[aA,a,b] w fun e w'=>e= .returned (.int .i64 (aX aA a b))∧Ext w w':=by
 have q0: ¬(aA=0):=by omega
 have r1:a.tmod aA=a%aA:=IntWalk.rem_in _ _ h0;have r2:b.tmod aA=b%aA:=IntWalk.rem_in _ _ h2;have d1:IntKind.i64.wrap (a.tdiv aA)=a/aA:=IntWalk.i64_quo _ _ (by omega);have d2:IntKind.i64.wrap (b.tdiv aA)=b/aA:=IntWalk.i64_quo _ _ (by omega);have e1:=Int.emod_nonneg a q0;have e2:=Int.emod_nonneg b q0;have e3:=Int.emod_lt_of_pos a (show 0<aA by omega);have e4:=Int.emod_lt_of_pos b (show 0<aA by omega);have e5:=Int.ediv_nonneg h0 (show 0≤aA by omega);have e6:=Int.ediv_nonneg h2 (show 0≤aA by omega);have e7:=Int.ediv_le_self aA h0;have e8:=Int.ediv_le_self aA h2;have s1:IntKind.i64.wrap (oX (a%aA) (b%aA)+oX (a/aA) (b/aA))=aX aA a b:=IntWalk.i64_in _ (by unfold oX;omega);go_enter Tryz.func208,Tryz.ntmps208;go_wp2;refine rL (gl [gEq (a:Int),gEq (aA:Int),gEq (a%aA:Int),gEq (b:Int),gEq (aA:Int),gEq (b%aA:Int),gEq (oX (a%aA) (b%aA):Int),gEq (a:Int),gEq (aA:Int),gEq (a/aA:Int),gEq (b:Int),gEq (aA:Int),gEq (b/aA:Int),gEq (oX (a/aA) (b/aA):Int),gEq (aX aA a b:Int)]) 15 16 [(0,some 7),(1,some 8),(2,some 9),(3,some 10),(4,some 11),(5,some 12),(6,some 13),(7,some 14),(8,some 15),(9,some 16),(10,some 17),(11,some 18),(12,some 19),(13,some 20),(14,some 21)] ?steps ?fin
 case steps=>
  refine sS0 [] (sS0 [] (sS2 [(0,some 7),(1,some 8)] (sS0 [] (sS0 [] (sS2 [(3,some 10),(4,some 11)] ?_)))));refine sC [(2,some 9),(5,some 12)] rfl (fun wi hx=> ?_) ?_
  ·intro v2 h2 v5 h5 K hK;obtain rfl:=h2;obtain rfl:=h5;go_wp2_with fail;refine(yD (a%aA) (b%aA) _ (by omega) (by omega) (by omega) (by omega)).mono ?_;rintro e w2 ⟨rfl,d⟩;go_simp;exact hK _ _ ⟨.int .i64 (oX (a%aA) (b%aA)),rfl,rfl,d⟩
  refine sS0 [] (sS0 [] (sS2 [(7,some 14),(8,some 15)] (sS0 [] (sS0 [] (sS2 [(10,some 17),(11,some 18)] ?_)))));refine sC [(9,some 16),(12,some 19)] rfl (fun wi hx=> ?_) ?_
  ·intro v9 h9 j c K hK;obtain rfl:=h9;obtain rfl:=c;go_wp2_with fail;refine(yD (a/aA) (b/aA) _ (by omega) (by omega) (by omega) (by omega)).mono ?_;rintro e w2 ⟨rfl,d⟩;go_simp;exact hK _ _ ⟨.int .i64 (oX (a/aA) (b/aA)),rfl,rfl,d⟩
  exact sS2 [(6,some 13),(13,some 20)] StepsL.nil
 case fin=>intro wi hx v0 h0 v1 h1 v2 h2 v3 h3 v4 h4 v5 h5 v6 h6 v7 h7 v8 h8 v9 h9 k f l g j c m h n i;obtain rfl:=h0;obtain rfl:=h1;obtain rfl:=h2;obtain rfl:=h3;obtain rfl:=h4;obtain rfl:=h5;obtain rfl:=h6;obtain rfl:=h7;obtain rfl:=h8;obtain rfl:=h9;obtain rfl:=f;obtain rfl:=g;obtain rfl:=c;obtain rfl:=h;obtain rfl:=i;refine wpAny_ready (rs:= [15]) (by kernel_rfl) (by simp) ?_;refine AllReady.cons rfl (fun K hK=> ?_) AllReady.nil;go_simp;refine hK _ _ ?_;clear hK K;refine wpAny_done (by kernel_rfl) ?_ _;go_wp2;go_ret;exact⟨rfl,by exact .trans (.drew (.refl _)) hx⟩
theorem qP (n lo hi:Int)(w:World):Calls Tryz.prog 43 #[n,lo,hi] w fun e w'=>e= .returned (.bool (decide (lo≤n∧n≤hi)))∧w=w':=by
 by_cases h:lo≤n∧n≤hi
 ·rw[decide_eq_true h];exact mB n lo hi w h.1 h.2
 rw[decide_eq_false h];exact tS n lo hi w (by omega)
def dC (aA aB:Int)(xs:List Int)(a b:Int):Int:=if aN aA aB xs=true∧(0≤a∧a<xs.length)∧0≤b∧b<xs.length then aX aA a b else -1
theorem aE1 (aA aB a b:Int)(p:OA)(n cap:Nat)(w:World)(HV:xB 41 #[aH aA aB p n cap] w false):
  Calls Tryz.prog 183 #[aH aA aB p n cap,a,b] w fun e w'=>e= .returned (.int .i64 (-1))∧Ext w w':=by
 go_enter Tryz.func183,Tryz.ntmps183;go_wp2_with fail;refine(HV _ (by exact .alloc (.refl _) _)).mono ?_;rintro e w1 ⟨rfl,c⟩;have B1:=xQ ((Blk.new w 25 #[aA,aB,.slice p n cap]).ext c);have X1:Ext w w1:=by exact .trans (.alloc (.refl _) _) c
 have z1:w.heap.size<w1.heap.size:=B1.out.lt;clear c;obtain⟨c0,c1,c2⟩:=B1.out.tri;go_wp2;go_ret;exact⟨rfl,by exact X1⟩
theorem aJ5 (aA aB a b:Int)(p:OA)(n cap:Nat)(ba bb:Bool)(R:Int)(w:World)(d:4≤n)(hn:n≤12)(HV:xB 41 #[aH aA aB p n cap] w true)
  (HA:Hid (∀w,Calls Tryz.prog 43 #[a,(),((n:Int)-1:Int)] w fun e w'=>e= .returned (.bool ba)∧w=w'))
  (HB:Hid (∀w,Calls Tryz.prog 43 #[b,(),((n:Int)-1:Int)] w fun e w'=>e= .returned (.bool bb)∧w=w'))
  (HP:Hid (ba=true→bb=true→ ∀w,Calls Tryz.prog 208 #[aA,a,b] w fun e w'=>e= .returned (.int .i64 R)∧Ext w w')):
  Calls Tryz.prog 183 #[aH aA aB p n cap,a,b] w fun e w'=>e= .returned (.int .i64 (if ba&&bb then R else -1))∧Ext w w':=by
 go_enter Tryz.func183,Tryz.ntmps183;go_wp2_with fail;refine(HV _ (by exact .alloc (.refl _) _)).mono ?_;rintro e w1 ⟨rfl,c⟩;have B1:=xQ ((Blk.new w 25 #[aA,aB,.slice p n cap]).ext c);have X1:Ext w w1:=by exact .trans (.alloc (.refl _) _) c
 have z1:w.heap.size<w1.heap.size:=B1.out.lt;clear c;obtain⟨c0,c1,c2⟩:=B1.out.tri;cases ba
 ·go_wp2_with ((go_at_call 43;(with_reducible refine(HA _).mono ?_);rintro e w' ⟨rfl,rfl⟩));go_ret;exact⟨rfl,by exact X1⟩
 cases bb
 ·go_wp2_with fail;refine(HA _).mono ?_;rintro e w' ⟨rfl,rfl⟩;go_wp2_with fail;refine(HB _).mono ?_;rintro e w' ⟨rfl,rfl⟩;go_wp2;go_ret;exact⟨rfl,by exact X1⟩
 go_wp2_with fail;refine(HA _).mono ?_;rintro e w' ⟨rfl,rfl⟩;go_wp2_with fail;refine(HB _).mono ?_;rintro e w' ⟨rfl,rfl⟩;go_wp2_with fail;refine(HP (by simp) (by simp) _).mono ?_;rintro e w' ⟨rfl,hp⟩;go_wp2;go_ret;exact⟨rfl,by exact .trans X1 hp⟩
theorem zW (aA aB a b:Int)(p:OA)(n cap:Nat)(xs:List Int)(w:World)(hS:Sl w p n cap 1 (ivs xs)):
  Calls Tryz.prog 183 #[aH aA aB p n cap,a,b] w fun e w'=>e= .returned (.int .i64 (dC aA aB xs a b))∧Ext w w':=by
 have hl:=hS.ilen;have HV:=fun(w':World) (hx:Ext w w')=>gZ aA aB p n cap xs w' (hS.ext hx)
 unfold dC;cases hok:aN aA aB xs with
 |false=>rw[hok]at HV;simpa using aE1 aA aB a b p n cap w HV
 |true=>
  rw[hok]at HV;obtain⟨g1,g2,g3,g4,g5,g6,g7,g8,g9⟩:=bQ hok
  have:=aJ5 aA aB a b p n cap (decide (0≤a∧a≤(n:Int)-1)) (decide (0≤b∧b≤(n:Int)-1)) (aX aA a b) w (by omega) (by omega) HV (fun w=>qP _ _ _ w) (fun w=>qP _ _ _ w)
   (fun h1 h2 w=>by simp at h1 h2;exact aC6 aA a b w h1.1 (by omega) h2.1 (by omega) (by omega) (by omega))
  refine this.mono fun e w' ⟨he,hx⟩=>⟨?_,hx⟩
  rw[he];apply dG;have e1:(decide (0≤a∧a≤(n:Int)-1)&&decide (0≤b∧b≤(n:Int)-1))=decide ((0≤a∧a<xs.length)∧0≤b∧b<xs.length):=by rw[Bool.eq_iff_iff];simp;omega
  rw[e1];by_cases h:(0≤a∧a<xs.length)∧0≤b∧b<xs.length
  ·rw[decide_eq_true h,if_pos rfl,if_pos ⟨rfl,h⟩]
  rw[decide_eq_false h,if_neg (by simp),if_neg (fun hh=>h hh.2)]
abbrev TH3:TypeId:=25
theorem Blk.cells3 {w:World}{g:Nat}{t:TypeId}{a b c:Value}(h:Blk w g t #[a,b,c]):w.cell? ⟨g,0,none⟩=some a∧w.cell? ⟨g,1,none⟩=some b∧w.cell? ⟨g,2,none⟩=some c:=⟨h.cell 0,h.cell 1,h.cell 2⟩
theorem rE {wr w2:World}{B n:Nat}{v:Value}{xs:List Value}{ob:Obj}{t e:TypeId}{sz:Nat}{cs:Array Value}(ho:wr.ownsRow (B+1) e sz v n xs)(hg:(wr.alloc ob).grownBy w2 v.ownBlock)(h:Blk wr B t cs):Blk w2 B t cs:=
 (h.alloc ob).grown hg (fun hh=>by have:=ho.lt B hh.symm;omega)
def jF (aA:Int)(n:Nat)(a:Int):List Int:=fC (fun b=>decide (aX aA a b=1)) n
theorem aJ4 (aA aB a:Int)(p:OA)(n cap:Nat)(w:World)(hn:n≤12)
  (HC:Hid (∀(k:Nat),k<n→ ∀w',Ext w w'→Calls Tryz.prog 183 #[aH aA aB p n cap,a,k] w' fun e w''=>e= .returned (.int .i64 (aX aA a k))∧Ext w' w'')):
  Calls Tryz.prog 228 #[aH aA aB p n cap,a] w (bH (jF aA n a) w):=by
 go_enter Tryz.func228,Tryz.ntmps228;go_wp2;go_loopw [5,6] (fun v i wr=> ∃(k:Nat) (q:OA) (m c:Nat),k≤n∧i= .int .i64 k∧v= .slice q m c∧m≤k∧wr.ownsRow (w.heap.size+1) TI 1 (.slice q m c) m (ivs (fC (fun b=>decide (aX aA a b=1)) k))∧Ext w wr∧Blk wr w.heap.size TH3 #[aA,aB,.slice p n cap]) (fun _ i _=>n-(intOf i).toNat)
 case atStart=>refine⟨0,_,0,0,Nat.zero_le _,rfl,rfl,Nat.le_refl _,?_,by exact .alloc (.alloc (.refl _) _) _,(Blk.new w _ _).alloc _⟩;have ho:((w.alloc (.cells #[aA,aB,.slice p n cap] TH3)).alloc (.cells #[] TI)).ownsRow (w.heap.size+1) TI 1 (.slice (some ⟨(w.alloc (.cells #[aA,aB,.slice p n cap] TH3)).heap.size,0,none⟩) 0 0) 0 []:=World.ownsRow_made _ #[] 0 (by simp) (by simp[maxLen]) rfl;simpa[fC]using ho
 case round=>
  obtain⟨k,q,m,c,hk,rfl,rfl,z,l,h,hB⟩:=hrel;have HO:=xQ l;have HB:=xQ hB;have aa:w.heap.size<wr.heap.size:=hB.lt;clear l hB;obtain⟨b0,b1,b2⟩:=HB.out.cells3;by_cases hlt:k<n
  ·go_wp2_with fail;refine(HC k hlt _ h).mono ?_;rintro e w1 ⟨rfl,h1⟩;have g:=xQ (bD HO h1);have o:=xQ (HB.out.ext h1);have j:=xQ (h.trans h1);have y:w.heap.size<w1.heap.size:=o.out.lt;clear h1 b0 b1 b2 HO HB h;by_cases hx0:aX aA a k=1
   ·have t0:(aX aA a k==1)=true:=by simp[hx0]
    have d:Hid (fC (fun b=>decide (aX aA a b=1)) (k+1)=fC (fun b=>decide (aX aA a b=1)) k++ [(k:Int)]):=by show _=_;rw[fC,if_pos (by simpa using hx0)]
    clear hx0;go_wp2_with (at_builtin;refine dI fX rfl _ _ rfl (w.heap.size+1) _ _ _ rfl (g.out.alloc _) _ _ (k:Int) _ rfl (by simp) (by omega) (by first|(simp;done)|(simp;omega)) ?_;intro p' s w2 f r;have u:=xQ f;have x:Ext w w2:=Ext.own (j.out.alloc _) (g.out.alloc _) r (by omega);have t:=xQ (rE g r o.out);clear f r);go_roundw
    case rel=>exact⟨k+1,p',m+1,s,by omega,by go_num,rfl,by omega,by rw[d.out];exact u.out,x,t.out⟩
    case measure=>simp[intOf];omega
   have t0:(aX aA a k==1)=false:=by simp[hx0]
   have d:Hid (fC (fun b=>decide (aX aA a b=1)) (k+1)=fC (fun b=>decide (aX aA a b=1)) k):=by show _=_;rw[fC,if_neg (by simpa using hx0),List.append_nil]
   clear hx0;go_wp2;go_roundw
   case rel=>exact⟨k+1,q,m,c,by omega,by go_num,rfl,by omega,by rw[d.out];exact g.out,j.out,o.out⟩
   case measure=>simp[intOf];omega
  have d:Hid (fC (fun b=>decide (aX aA a b=1)) k=jF aA n a):=by show _=_;unfold jF;rw[show k=n by omega]
  go_wp2;go_ret;exact dP (by rw[←d.out];have:=HO.out.1;simpa using this) (by rw[←d.out];exact bK HO (Nat.le_succ _)) h
theorem aE0 (aA aB a:Int)(p:OA)(n cap:Nat)(xs:List Int)(w:World)(hS:Sl w p n cap 1 (ivs xs))(b:aN aA aB xs=true)(h0:0≤a)(h1:a<n):
  Calls Tryz.prog 228 #[aH aA aB p n cap,a] w (bH (jF aA n a) w):=by
 have hl:=hS.ilen;obtain⟨g1,g2,g3,g4,g5,g6,g7,g8,g9⟩:=bQ b;refine aJ4 aA aB a p n cap w (by omega) (fun k hk w' hx=> ?_);have:=zW aA aB a k p n cap xs w' (hS.ext hx);unfold dC at this;rwa[if_pos ⟨b,by omega,by omega⟩]at this
def yI (x:Int):Nat→List Int→Int
 |_,[]=> -1
 |b,y::ys=>if y=x then(b:Int)else yI x (b+1) ys
def oW (xs:List Int)(x:Int):Int:=yI x 0 xs
theorem aKb {x:Int}: ∀(xs:List Int) (k b:Nat),xs[k]? =some x→x∉xs.take k→yI x b xs=((b+k:Nat):Int):=by
 intro xs;induction xs with
 |nil=>intro k b h;simp at h
 |cons y ys ih=>
  intro k b h hn;unfold yI;cases k with
  |zero=>simp at h;rw[if_pos h];rfl
  |succ k=>simp only[List.getElem?_cons_succ]at h;simp only[List.take_succ_cons,List.mem_cons,not_or]at hn;rw[if_neg (fun e=>hn.1 e.symm),ih k (b+1) h hn.2];congr 1;omega
theorem aF7 {x:Int}: ∀(xs:List Int) (b:Nat),x∉xs→yI x b xs= -1:=by
 intro xs;induction xs with
 |nil=>intro b _;rfl
 |cons y ys ih=>intro b hn;simp only[List.mem_cons,not_or]at hn;unfold yI;rw[if_neg (fun e=>hn.1 e.symm),ih _ hn.2]
theorem qS {xs:List Int}{x:Int}{k:Nat}(h:xs[k]? =some x) (hn:x∉xs.take k):oW xs x=k:=by unfold oW;rw[aKb xs k 0 h hn];simp
theorem sF {xs:List Int}{x:Int}(h:x∉xs):oW xs x= -1:=aF7 xs 0 h
def iC (aA aB:Int)(xs:List Int)(id:Int):Int:=if aN aA aB xs=true∧1≤id then oW xs id else -1
theorem wI (aA aB id:Int)(p:OA)(n cap:Nat)(b:Bool)(w:World)(hb:b=false∨b=true∧id<1)(HV:xB 41 #[aH aA aB p n cap] w b):
  Calls Tryz.prog 180 #[aH aA aB p n cap,id] w fun e w'=>e= .returned (.int .i64 (-1))∧Ext w w':=by
 rcases hb with rfl|⟨rfl,hi⟩
 all_goals
  go_enter Tryz.func180,Tryz.ntmps180;go_wp2_with fail;refine(HV _ (by exact .alloc (.refl _) _)).mono ?_;rintro e w1 ⟨rfl,a⟩;go_wp2;go_ret;exact⟨rfl,by exact .trans (.alloc (.refl _) _) a⟩
theorem zO (aA aB id:Int)(p:OA)(n cap:Nat)(xs:List Int)(w:World)(hn:n≤12)(hi:1≤id)(HS:Hid (Sl w p n cap 1 (ivs xs)))(HV:xB 41 #[aH aA aB p n cap] w true):
  Calls Tryz.prog 180 #[aH aA aB p n cap,id] w fun e w'=>e= .returned (.int .i64 (oW xs id))∧Ext w w':=by
 have hl:=xQ HS.out.ilen;go_enter Tryz.func180,Tryz.ntmps180;go_wp2_with fail;refine(HV _ (by exact .alloc (.refl _) _)).mono ?_;rintro e w1 ⟨rfl,c⟩;have hB:=(Blk.new w TH3 #[aA,aB,.slice p n cap]).ext c;have X1:=xQ (show Ext w w1 by exact .trans (.alloc (.refl _) _) c);have d:=xQ (HS.out.ext X1.out);obtain⟨b0,b1,b2⟩:=hB.cells3;have g:w.heap.size<w1.heap.size:=hB.lt;clear c hB HS;go_wp2;go_loop [5] (fun i=> ∃k:Nat,k≤n∧i= .int .i64 k∧id∉xs.take k) (fun i=>n-(intOf i).toNat)
 case atStart=>exact⟨0,Nat.zero_le _,rfl,by simp⟩
 case round=>
  obtain⟨k,hk,rfl,hc⟩:=hrel;have HC:=xQ hc;clear hc;by_cases hlt:k<n
  ·obtain⟨b,j,y,rfl,hx,hb,f⟩:=d.out.int_at hlt;have HX:=xQ hx;clear hx;by_cases hy:y=id
   ·have t1:(y==id)=true:=by simp[hy]
    have a:Hid (oW xs id=k):=qS (by rw[HX.out,hy]) HC.out;clear hy;go_wp2;go_ret;exact⟨dG a.out.symm,X1.out⟩
   have t1:(y==id)=false:=by simp[hy]
   have a:Hid (id∉xs.take (k+1)):=by show _∉_;rw[bI HX.out,List.mem_append,List.mem_singleton];exact fun h=>h.elim HC (fun e=>hy e.symm)
   clear hy;go_wp2;go_round
   case rel=>exact⟨k+1,by omega,by go_num,a.out⟩
   case measure=>simp[intOf];omega
  have a:Hid (oW xs id= -1):=sF (by have:=HC.out;rwa[List.take_of_length_le (by rw[hl.out];omega)]at this);go_wp2;go_ret;exact⟨dG a.out.symm,X1.out⟩
theorem rN (aA aB id:Int)(p:OA)(n cap:Nat)(xs:List Int)(w:World)(hS:Sl w p n cap 1 (ivs xs)):
  Calls Tryz.prog 180 #[aH aA aB p n cap,id] w fun e w'=>e= .returned (.int .i64 (iC aA aB xs id))∧Ext w w':=by
 have hl:=hS.ilen;have HV:=fun(w':World) (hx:Ext w w')=>gZ aA aB p n cap xs w' (hS.ext hx)
 unfold iC;by_cases h:aN aA aB xs=true∧1≤id
 ·rw[if_pos h];rw[h.1]at HV;obtain⟨g1,g2,g3,g4,g5,g6,g7,g8,g9⟩:=bQ h.1;exact zO aA aB id p n cap xs w (by omega) h.2 hS HV
 rw[if_neg h]
 exact wI aA aB id p n cap _ w (by cases hh:aN aA aB xs with
  |false=>exact .inl rfl
  |true=>exact .inr ⟨rfl,by have: ¬1≤id:=fun k=>h ⟨hh,k⟩;omega⟩) HV
end Go.Proofs.YtpelpnfhbepokaaGreatDoor
namespace Go.Proofs.YtpelpnfhbepokaaGreatDoor
open Go.RowKit
set_option linter.unusedVariables false
theorem pU {w:World}{g:Nat}{a:Array Value}{e:TypeId}(hg:w.heap[g]? =some (.cells a e (0,0))):Ext w (w.setRow g a):=
 ⟨rfl,rfl,rfl,by simp[World.setRow],fun k hk=>by
  by_cases h:k=g
  ·subst h;rw[setRow_heap w k a a e _ hg,hg]
  ·exact setRow_other w g k _ h⟩
section
variable {P:Program} (w:World)
theorem tM {t e ty:TypeId}{sz:Nat}(E:ElT P t e sz)(base g n:Nat)(cs:Array Value)(hB:Blk w g e cs)(hb:base≤g)(a:cs.size=n*sz)(p:OA)(m c:Nat)(news:List Value)(hs:Sl w p m c sz news)
  (h1: ∀u∈news,u.oneCell'=true)(hn:n+m≤1099511627776):
  ∃p' cap' w',(Builtin.append_ #[t,t] ty #[.slice (some ⟨g,0,none⟩) n n,.slice p m c]).run P w= .ok (.slice p' (n+m) cap') w'∧w'.ownsRow base e sz (.slice p' (n+m) cap') (n+m) (cs.toList++news)∧Ext w w':=by
 obtain⟨i,z,hi,hz,q,v,aa⟩:=E.info;have d:w.ownsRow base e sz (.slice (some ⟨g,0,none⟩) n n) n cs.toList:=⟨by simpa using a,.inr ⟨g,n,cs,rfl,hb,hB,Nat.le_refl _,by unfold maxLen;omega,a,by rw[List.take_of_length_le (by simp;omega)]⟩⟩
 by_cases hm:m=0
 ·subst hm;have l:news= []:=List.eq_nil_of_length_eq_zero (by simpa using hs.len);subst l;cases p with
  |none=>refine⟨some ⟨g,0,none⟩,n,w,?_,by simpa using d,Ext.refl w⟩;simp[Builtin.append_,run_underlying E.ht,sizeOf,typeInfo,hi,Builtin.lenOf,Builtin.firstCells,storeCells]
  |some ad=>
   have hr:=run_append_room (P:=P) w t ty e i E.ht hi g n n cs hB ad 0 c [] (by simp) (by simp) (by simp) (by omega) (by rw[a,q];simp);have e1:(List.take (n*i.size) cs.toList++ []++List.drop (n*i.size+([]:List Value).length) cs.toList).toArray=cs:=by simp
   rw[e1]at hr;refine⟨some ⟨g,0,none⟩,n,w.setRow g cs,hr,?_,pU hB⟩;have h2:=d.kept (w':=w.setRow g cs) (row:=none) ⟨rfl,rfl,rfl,(pU hB).sz,fun k hk _=>(pU hB).block k hk⟩ (by simp[Value.ownBlock]);simpa using h2
 obtain⟨b,r,rfl,_,hc⟩:=hs.rd (by omega);have f: ∀j u,news[j]? =some u→w.cell? ((⟨b,r,none⟩:Addr).add j)=some u:=by intro j u hu;rw[jZ,hc j (by rw[←hs.len];exact(List.getElem?_eq_some_iff.1 hu).1)];exact hu
 have s:(n+m)*i.bytes≤140737488355328:=by have:(n+m)*i.bytes≤(n+m)*64:=Nat.mul_le_mul_left _ v;omega
 have o: ∀j u,cs.toList[j]? =some u→w.cell? ((⟨g,0,none⟩:Addr).add j)=some u:=d.cells (g:=g) rfl;have hr:=run_append_grow (P:=P) w t ty e i z E.ht hi hz ⟨g,0,none⟩ n n cs.toList (by simpa[q]using a) o ⟨b,r,none⟩ m c news (by rw[q];exact hs.len) f (by omega) (by omega) (growslice_fits (by omega) s);have y:=grownCap_ge w (n+m) n e;have x:grownCap w (n+m) n e≤maxLen:=grownCap_le_maxLen w (n+m) n e (by unfold maxLen;omega);have h:(cs.toList++news).length=(n+m)*sz:=by rw[List.length_append,hs.len,Nat.add_mul];simp[a]
 refine⟨_,_,_,hr,⟨h,.inr ⟨w.heap.size,_,_,rfl,?_,heap_alloc_new w.drew _,y,x,?_,?_⟩⟩,(Ext.refl w).drew.alloc _⟩
 ·have:=hB.lt;omega
 ·simp only[Array.size_append,List.size_toArray,size_zeroCells,aa,hs.len,a,←Nat.add_mul];congr 1;omega
 simp only[Array.toList_append,List.append_assoc];rw[←List.append_assoc,←h];exact List.take_left
theorem tX {o:Oper}{a:Act}{K:Act→World→Prop}{Q:Exit→Act→World→Prop}{t e:TypeId}{sz:Nat}(E:ElT P t e sz)(s x:Operand)
  (ho:o.op= .call {callee:= .builtin .append,args:=#[s,x],argTypes:=#[t,t]})
  (base g n:Nat)(cs:Array Value)(hs:a.eval s= .slice (some ⟨g,0,none⟩) n n)(hB:Blk w g e cs)(hb:base≤g)(d:cs.size=n*sz)
  (p:OA)(m c:Nat)(news:List Value)(hx:a.eval x= .slice p m c)(hr:Sl w p m c sz news)(h1: ∀u∈news,u.oneCell'=true)
  (hn:n+m≤1099511627776)
  (h: ∀p' cap' w',w'.ownsRow base e sz (.slice p' (n+m) cap') (n+m) (cs.toList++news)→Ext w w'→K (a.put o.dst (.slice p' (n+m) cap')) w'):o.wp P a w K Q:=by
 obtain⟨p',cap',w',b,h2,h3⟩:=tM (ty:=o.type) w E base g n cs hB hb d p m c news hr h1 hn;unfold Oper.wp execOp;simp only[ho,resolve,invoke,builtin,Sem.run_bind,Sem.run_pure,Result.andThen_ok,List.map_toArray,List.map_cons,List.map_nil,hs,hx,b];exact h p' cap' w' h2 h3
theorem rK {b:Array Oper}{i:Nat}{o:Oper}{a:Act}{G:Nat→Value→World→Prop}{t e:TypeId}{sz:Nat}(E:ElT P t e sz)(f:o.guard=none)(s x:Operand)
  (ho:o.op= .call {callee:= .builtin .append,args:=#[s,x],argTypes:=#[t,t]})
  (base g n:Nat)(cs:Array Value)(hs:a.eval s= .slice (some ⟨g,0,none⟩) n n)(hB:Blk w g e cs)(hb:base≤g)(d:cs.size=n*sz)
  (p:OA)(m c:Nat)(news:List Value)(hx:a.eval x= .slice p m c)(hr:Sl w p m c sz news)(h1: ∀u∈news,u.oneCell'=true)
  (hn:n+m≤1099511627776)(h: ∀p' cap' w',w'.ownsRow base e sz (.slice p' (n+m) cap') (n+m) (cs.toList++news)→G i (.slice p' (n+m) cap') w'):
  mZ P b G Ext i o w a:=by
 intro K hK;have hw:Region.wanted o (yielded b a.tmps)=true:=by simp[Region.wanted,f]
 rw[if_pos hw];exact tX w E s x ho base g n cs hs hB hb d p m c news hx hr h1 hn (fun p' cap' w' h2 h3=>hK _ _ ⟨_,rfl,h p' cap' w' h2,h3⟩)
end
end Go.Proofs.YtpelpnfhbepokaaGreatDoor
namespace Go.Proofs.YtpelpnfhbepokaaGreatDoor
open Go.RowKit
set_option linter.unusedVariables false
set_option linter.unusedSimpArgs false
set_option maxHeartbeats 8000000
set_option maxRecDepth 100000
theorem dD {w:World}{B n:Nat}{q:OA}{cap:Nat}{xs:List Value}{g:Nat}{t:TypeId}{cs:Array Value}(ho:w.ownsRow B TI 1 (.slice q n cap) n xs)(hb:Blk w g t cs)(ht:t≠TI):(Value.slice q n cap).ownBlock≠some g:=by
 intro he;rcases ho.2 with⟨h1,h2⟩|⟨g',cap',cur,h1,hb',hg,hn,hm,hs,ht'⟩
 ·injection h1 with e1;subst e1;simp[Value.ownBlock]at he
 injection h1 with e1 e2 e3;subst e1;simp[Value.ownBlock]at he;subst he;unfold Blk at hb;rw[hb]at hg;injection hg with e;injection e with e1 e2;exact ht e2
theorem fG (aA aB:Int)(p:OA)(n cap:Nat)(xs:List Int)(w:World)(hn:n≤1099511627776)(hS:Sl w p n cap 1 (ivs xs)):
  Calls Tryz.prog 81 #[aH aA aB p n cap] w (dK aA aB xs w):=by
 have hl:=xQ hS.ilen;have HS:=xQ hS;clear hS;go_enter Tryz.func81,Tryz.ntmps81;go_wp2;refine rL (gl [gEq (.pointer (some ⟨w.heap.size,0,none⟩)),gEq aA,gEq (.pointer (some ⟨w.heap.size,1,none⟩)),gEq aB,aNb (w.heap.size+2) TI #[] 0,gEq (.pointer (some ⟨w.heap.size,2,none⟩)),gEq (.slice p n cap),(fun v w'=> ∃q c,v= .slice q n c∧w'.ownsRow (w.heap.size+2) TI 1 (.slice q n c) n (ivs xs)),(fun v w'=> ∃q c,v=aH aA aB q n c∧w'.ownsRow (w.heap.size+2) TI 1 (.slice q n c) n (ivs xs))]) 9 10 [(0,some 3),(1,some 4),(2,some 5),(3,some 6),(4,some 7),(5,some 8),(6,some 9),(7,some 10),(8,some 11)] ?steps ?fin (hG:=(mT (bL (bP _) (bL (bP _) (bL (bP _) (bL (bP _) (bL (yL _ _ _ _) (bL (bP _) (bL (bP _) (bL (fun v w w' ⟨q,c,he,ho⟩ hx=>⟨q,c,he,bD ho hx⟩) (bL (fun v w w' ⟨q,c,he,ho⟩ hx=>⟨q,c,he,bD ho hx⟩) (pS))))))))))))
 case steps=>
  refine sS0 [] ?_;refine sC [(0,some 3)] rfl (fun wi hx=> ?_) ?_
  ·intro v0 h0 K hK;obtain rfl:=h0;have B:=(Blk.new w TH3 #[aA,aB,.slice p n cap]).ext (by exact .trans (.drew (.alloc (.refl _) _)) hx:Ext (w.alloc (.cells #[aA,aB,.slice p n cap] TH3)) wi);have c0:=B.cl 0;go_simp;exact hK _ _ ⟨.int .i64 aA,rfl,rfl,Ext.refl _⟩
  refine sS0 [] ?_;refine sC [(2,some 5)] rfl (fun wi hx=> ?_) ?_
  ·intro v2 h2 K hK;obtain rfl:=h2;have B:=(Blk.new w TH3 #[aA,aB,.slice p n cap]).ext (by exact .trans (.drew (.alloc (.refl _) _)) hx:Ext (w.alloc (.cells #[aA,aB,.slice p n cap] TH3)) wi);have c1:=B.cl 1;go_simp;exact hK _ _ ⟨.int .i64 aB,rfl,rfl,Ext.refl _⟩
  refine sC [] rfl (fun wi hx=> ?_) ?_
  ·intro K hK;go_simp;exact hK _ _ ⟨.slice (some ⟨wi.heap.size,0,none⟩) 0 0,rfl,⟨wi.heap.size,rfl,by have:=hx.sz;simp at this;omega,Blk.new _ _ _⟩,(Ext.refl _).alloc _⟩
  refine sS0 [] ?_;refine sC [(5,some 8)] rfl (fun wi hx=> ?_) ?_
  ·intro v5 h5 K hK;obtain rfl:=h5;have B:=(Blk.new w TH3 #[aA,aB,.slice p n cap]).ext (by exact .trans (.drew (.alloc (.refl _) _)) hx:Ext (w.alloc (.cells #[aA,aB,.slice p n cap] TH3)) wi);have c2:=B.cl 2;go_simp;exact hK _ _ ⟨.slice p n cap,rfl,rfl,Ext.refl _⟩
  refine sC [(4,some 7),(6,some 9)] rfl (fun wi hx=> ?_) ?_
  ·intro v4 h4 v6 h6;obtain⟨g4,rfl,d,B4⟩:=h4;obtain rfl:=h6;refine rK _ fX rfl (.tmp 7) (.tmp 9) rfl (w.heap.size+2) g4 0 #[] rfl B4 d (by simp) p n cap (ivs xs) rfl (HS.out.ext (Ext.trans (by exact .drew (.alloc (.alloc (.refl _) _) _)) hx)) (oN _) (by omega) (fun p' cap' w' h2=>⟨p',cap',by rw[Nat.zero_add],by simpa using h2⟩)
  refine sC [(1,some 4),(3,some 6),(7,some 10)] rfl (fun wi hx=> ?_) StepsL.nil
  ·intro v1 h1 v3 h3 v7 h7 K hK;obtain rfl:=h1;obtain rfl:=h3;obtain⟨q7,c7,rfl,a⟩:=h7;go_simp;exact hK _ _ ⟨aH aA aB q7 n c7,rfl,⟨q7,c7,rfl,a⟩,Ext.refl _⟩
 case fin=>
  intro wi hx v0 h0 v1 h1 v2 h2 v3 h3 v4 h4 v5 h5 v6 h6 v7 h7 v8 h8;obtain rfl:=h0;obtain rfl:=h1;obtain rfl:=h2;obtain rfl:=h3;obtain⟨g4,rfl,d,B4⟩:=h4;obtain rfl:=h5;obtain rfl:=h6;obtain⟨q7,c7,rfl,a⟩:=h7;obtain⟨q8,c8,rfl,e⟩:=h8;have BZ:Blk wi (w.heap.size+1) TH3 #[(),(),((),())]:=by have:=(Blk.new (w.alloc (.cells #[aA,aB,.slice p n cap] TH3)) TH3 #[(),(),((),())]).ext hx.of_drew;simpa using this
  obtain⟨z0,g,z1,h,z2,i⟩:=BZ.trif;have z1:w.heap.size+1<wi.heap.size:=BZ.lt;have f:Ext w wi:=Ext.trans (by exact .drew (.alloc (.alloc (.refl _) _) _)) hx;clear a hx;refine wpAny_ready (rs:= [9]) (by kernel_rfl) (by simp) ?_;refine AllReady.cons rfl (fun K hK=> ?_) AllReady.nil;go_simp;refine hK _ _ ?_;clear hK K;refine wpAny_done (by kernel_rfl) ?_ _;go_wp2;have hY:=((BZ.set 0 (.int .i64 aA)).set 1 (.int .i64 aB)).set 2 (.slice q8 n c8);generalize b:World.setCell _ _ _=w3;rw[b]at hY;have hR:ExtR (w.heap.size+1) wi w3:=by rw[←b];exact(((ExtR.refl (w.heap.size+1) wi).setCell (p:=⟨w.heap.size+1,0,none⟩) (.inl rfl) _).setCell (p:=⟨w.heap.size+1,1,none⟩) (.inl rfl) _).setCell (p:=⟨w.heap.size+1,2,none⟩) (.inl rfl) _
  clear b z0 z1 z2 g h i;simp only[List.setIfInBounds_toArray,List.set_cons_zero,List.set_cons_succ]at hY;obtain⟨y0,y1,y2⟩:=hY.tri;exact bodyPost_ret (v:=aH aA aB q8 n c8) (by simp[results,Tryz.results81,go_sem, *]) rfl (uP hl.out (bK (e.kept hR (.inr (dD e BZ (by decide)))) (by omega)) (ExtR.new f hR (by omega)))
end Go.Proofs.YtpelpnfhbepokaaGreatDoor
