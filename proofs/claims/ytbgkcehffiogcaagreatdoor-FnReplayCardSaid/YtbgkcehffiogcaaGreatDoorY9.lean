/-
  Texts of this proof, packed (@packed).
-/
import Derived.Test.YtbgkcehffiogcaaGreatDoorY8
namespace Go.Proofs.YtbgkcehffiogcaaGreatDoor
open Go.RowKit
set_option linter.unusedSimpArgs false
set_option linter.unusedVariables false
set_option maxHeartbeats 8000000
set_option maxRecDepth 100000
section
open Go.Proofs.Tryz
theorem vG (c:UInt8): ∀l:List UInt8,c∉l→dC c l=l∧iA c l= []:=by
 intro l;induction l with
 |nil=>intro _;exact⟨rfl,rfl⟩
 |cons x xs ih=>
  intro h;have hx:x≠c:=fun q=>h (by simp[q])
  obtain⟨i1,i2⟩:=ih (fun q=>h (by simp[q]));simp[dC,iA,hx,i1,i2]
theorem aDu (c:UInt8)(a b:List UInt8)(h:c∉a):Lib.index (a++c::b) [c]=a.length:=by
 rcases qF c (a++c::b)with⟨h1,h2,h3⟩|⟨i,h1,h2,h3,h4⟩
 ·exact absurd (by simp) h3
 have e:=aAu c (a++c::b);rw[h3,(eJ c a b h).1]at e;simp only[aSb,aR3]at e;have:=congrArg List.length e;simp at this h2;rw[h1];omega
theorem aOz (c:UInt8)(l:List UInt8):(Lib.cut l [c]).1=dC c l∧(Lib.cut l [c]).2.1=iA c l:=by
 by_cases h:c∈l
 ·obtain⟨a,b,rfl,ha⟩:=uL c l h;unfold Lib.cut;rw[aDu c a b ha,if_pos (by omega),(eJ c a b ha).1,(eJ c a b ha).2];simp
 have e:Lib.index l [c]= -1:=by
  rcases qF c l with⟨h1,_⟩|⟨i,h1,h2,h3,h4⟩
  ·exact h1
  exfalso;have e2:=qL c l h;rw[h3]at e2;have:=congrArg List.length e2;simp at this;exact absurd this (kI c _)
 unfold Lib.cut;rw[e,if_neg (by omega),(vG c l h).1,(vG c l h).2];exact⟨rfl,rfl⟩
theorem zE (c:UInt8)(l:List UInt8):Lib.indexByte l c=match iK c l with|some e=>(e:Int)|none=> -1:=by
 by_cases h:c∈l
 ·obtain⟨a,b,rfl,ha⟩:=uL c l h;rw[sI c a b ha];have hg:=Lib.indexByte_ge (a++c::b) c;by_cases h1:Lib.indexByte (a++c::b) c= -1
  ·exact absurd (by simp) (Lib.indexByte_none h1 a.length)
  obtain⟨o,ho⟩:=aQi (show 0≤Lib.indexByte (a++c::b) c by omega);obtain⟨s1,s2⟩:=Lib.indexByte_some ho;have:o=a.length:=by
   rcases Nat.lt_trichotomy o a.length with q|q|q
   ·rw[aQc q]at s1;exact absurd (aPz s1) ha
   ·exact q
   exact absurd (by simp) (s2 a.length q)
  rw[ho,this]
 have e:iK c l=none:=by unfold iK;rw[if_neg h]
 rw[e];by_cases h1:Lib.indexByte l c= -1
 ·exact h1
 have hg:=Lib.indexByte_ge l c;obtain⟨o,ho⟩:=aQi (show 0≤Lib.indexByte l c by omega);exact absurd (aPz (Lib.indexByte_some ho).1) h
theorem aEo (l:List UInt8)(c:UInt8)(w:World)(hs:l.length<4294967281)(hE:Env w):
  U 84 #[str l,.string ⟨#[c]⟩] w (O (.tuple #[str (dC c l),str (iA c l),.bool (Lib.cut l [c]).2.2]) w):=by
 obtain⟨m,hm⟩:=hE.mx;refine(Tryz.strings_Cut ⟨l.toArray⟩ ⟨#[c]⟩ m w (by simpa[ByteArray.size]using hs) hm).mono ?_;rintro e w' ⟨rfl,n,rfl⟩;obtain⟨c1,c2⟩:=aOz c l;refine⟨?_,(Ext.refl _).drewN _⟩;show Ending.returned (.tuple #[.string ⟨(Lib.cut l [c]).1.toArray⟩,.string ⟨(Lib.cut l [c]).2.1.toArray⟩,.bool (Lib.cut l [c]).2.2])=_;rw[c1,c2]
theorem fX (n k a b:Int):(aY n k a b).length≤200:=by
 by_cases h:aY n k a b= []
 ·rw[h];simp
 obtain⟨h1,h2,ho,e⟩:=gZ h;rw[e];have e1:=cA n.toNat (by omega);have e2:=jQ k a b;have e3:=vT (Lib.decDigits n.toNat++ [58]++aT k a b);simp only[aQ3,aRf,List.length_nil]at e3⊢;omega
def reV:Option (Int×dZ×Nat)→Value
 |some (n,(k,a,b),m)=> .tuple #[n,cF k a b,m]
 |none=> .tuple #[(),cF 0 0 0,()]
def kW (o:Option (Int×dZ×Nat))(w:World)(e:Ending)(w':World):Prop:=e= .returned (reV o)∧Ext w w'
theorem xP (l:List UInt8)(w:World)(HI:Hid (∀w,U 83 #[str l,.int .u8 59] w fun e w'=>e= .returned (I (-1))∧w=w')):
  U 47 #[str l] w (kW none w):=by
 go_enter func47,ntmps47;go_wp2_with fail;refine(HI _).mono ?_;rintro e w1 ⟨rfl,rfl⟩;go_wp2;exact bodyPost_ret (v:=reV none) (by simp[results,results47,go_sem];rfl) rfl ⟨rfl,xE⟩
theorem zG (l b b2 f r:List UInt8)(e:Nat)(x y:Bool)(w:World)(hl:l.length≤4294967280)(d:e<l.length)
  (HI:Hid (∀w,U 83 #[str l,.int .u8 59] w fun q w'=>q= .returned (I e)∧w=w'))
  (HC:Hid (∀w,Env w→U 84 #[.string ((⟨l.toArray⟩:ByteArray).extract 0 e),.string ⟨#[35]⟩] w (O (.tuple #[str b,str b2,.bool x]) w)))
  (a:Hid (∀w,Env w→U 84 #[str b,.string ⟨#[58]⟩] w (O (.tuple #[str f,str r,.bool y]) w)))
  (HN:Hid (∀w,U 85 #[str f,I 2] w fun q w'=>q= .returned (.tuple #[(),.bool false])∧w=w'))(HE:Hid (Env w)):
  U 47 #[str l] w (kW none w):=by
 go_enter func47,ntmps47;go_wp2_with fail;refine(HI _).mono ?_;rintro q w1 ⟨rfl,rfl⟩;go_wp2_with fail;refine Z (HC _ (HE.out.ext xE)) fun w1 h1=>?_
 go_wp2_with fail;refine Z (a _ (HE.out.ext xE)) fun w2 h2=>?_
 replace h2:=h1.trans h2;clear h1;obtain⟨c,g⟩:=h2.cells;go_wp2_with fail;refine(HN _).mono ?_;rintro q w3 ⟨rfl,rfl⟩;go_wp2;exact bodyPost_ret (v:=reV none) (by simp[results,results47,go_sem, *];rfl) rfl ⟨rfl,xE⟩
theorem xS (l b b2 f r:List UInt8)(e:Nat)(n:Int)(x y:Bool)(w:World)(hl:l.length≤4294967280)(d:e<l.length)
  (HI:Hid (∀w,U 83 #[str l,.int .u8 59] w fun q w'=>q= .returned (I e)∧w=w'))
  (HC:Hid (∀w,Env w→U 84 #[.string ((⟨l.toArray⟩:ByteArray).extract 0 e),.string ⟨#[35]⟩] w (O (.tuple #[str b,str b2,.bool x]) w)))
  (a:Hid (∀w,Env w→U 84 #[str b,.string ⟨#[58]⟩] w (O (.tuple #[str f,str r,.bool y]) w)))
  (HN:Hid (∀w,U 85 #[str f,I 2] w fun q w'=>q= .returned (.tuple #[n,.bool true])∧w=w'))
  (HR:Hid (∀w,Env w→U 86 #[str r] w (O (.tuple #[cF 0 0 0,.bool false]) w)))(HE:Hid (Env w)):
  U 47 #[str l] w (kW none w):=by
 go_enter func47,ntmps47;go_wp2_with fail;refine(HI _).mono ?_;rintro q w1 ⟨rfl,rfl⟩;go_wp2_with fail;refine Z (HC _ (HE.out.ext xE)) fun w1 h1=>?_
 go_wp2_with fail;refine Z (a _ (HE.out.ext xE)) fun w2 h2=>?_
 replace h2:=h1.trans h2;clear h1;go_wp2_with fail;refine(HN _).mono ?_;rintro q w3 ⟨rfl,rfl⟩;go_wp2_with fail;refine Z (HR _ (HE.out.ext xE)) fun w3 h3=>?_
 replace h3:=h2.trans h3;clear h2;obtain⟨c,g⟩:=h3.cells;have h:(w:Nat)<w3:=aPu (by simp) h3.sz;go_wp2;go_quiet (fail);go_wp2;exact bodyPost_ret (v:=reV none) (by simp[results,results47,go_sem, *];rfl) rfl ⟨rfl,xE⟩
theorem aBy (l b b2 f r:List UInt8)(e:Nat)(n k a b0:Int)(t:List UInt8)(x y:Bool)(w:World)(hl:l.length≤4294967280)(j:e<l.length)
  (HI:Hid (∀w,U 83 #[str l,.int .u8 59] w fun q w'=>q= .returned (I e)∧w=w'))
  (HC:Hid (∀w,Env w→U 84 #[.string ((⟨l.toArray⟩:ByteArray).extract 0 e),.string ⟨#[35]⟩] w (O (.tuple #[str b,str b2,.bool x]) w)))
  (c:Hid (∀w,Env w→U 84 #[str b,.string ⟨#[58]⟩] w (O (.tuple #[str f,str r,.bool y]) w)))
  (HN:Hid (∀w,U 85 #[str f,I 2] w fun q w'=>q= .returned (.tuple #[n,.bool true])∧w=w'))
  (HR:Hid (∀w,Env w→U 86 #[str r] w (O (.tuple #[cF k a b0,.bool true]) w)))(HE:Hid (Env w))
  (HT:Hid (∀w,Env w→U 87 #[n,cF k a b0] w (O (str t) w)))(p:t.length≤200)(d:(t==((⟨l.toArray⟩:ByteArray).extract 0 (e+1)).toList)=false):
  U 47 #[str l] w (kW none w):=by
 go_enter func47,ntmps47;go_wp2_with fail;refine(HI _).mono ?_;rintro q w1 ⟨rfl,rfl⟩;go_wp2_with fail;refine Z (HC _ (HE.out.ext xE)) fun w1 h1=>?_
 go_wp2_with fail;refine Z (c _ (HE.out.ext xE)) fun w2 h2=>?_
 replace h2:=h1.trans h2;clear h1;go_wp2_with fail;refine(HN _).mono ?_;rintro q w3 ⟨rfl,rfl⟩;go_wp2_with fail;refine Z (HR _ (HE.out.ext xE)) fun w3 h3=>?_
 replace h3:=h2.trans h3;clear h2;obtain⟨g,m⟩:=h3.cells;have s:(w:Nat)<w3:=aPu (by simp) h3.sz;go_wp2;have q1:IntKind.i64.wrap ((e:Int)+1)=(e:Int)+1:=aPx _ (by omega);have q2:0≤(e:Int)+1:=by omega
 have q3:((e:Int)+1).toNat=e+1:=by omega
 have q4:(e:Int)+1≤(l.length:Int):=by omega
 go_region_held3 (fun w'=>w'.cell? ⟨w3,0,none⟩=some (I k)∧w'.cell? ⟨w3,1,none⟩=some (I a)∧w'.cell? ⟨w3,2,none⟩=some (I b0)) (go_keep)
  ((go_at_call 87;refine Z (HT _ (HE.out.ext xE)) fun w4 h4=>?_;(try replace h4:=h4.of_drew);have i:=h4.cells.1))
 clear q1 q2 q3 q4;replace h4:=(h3.alloc (.cells #[k,a,b0] 44)).trans h4;obtain⟨h,o⟩:=h4.cells;go_wp2;exact bodyPost_ret (v:=reV none) (by simp[results,results47,go_sem, *];rfl) rfl ⟨rfl,xE⟩
theorem aBx (l b b2 f r:List UInt8)(e:Nat)(n k a b0:Int)(t:List UInt8)(x y:Bool)(w:World)(hl:l.length≤4294967280)(j:e<l.length)
  (HI:Hid (∀w,U 83 #[str l,.int .u8 59] w fun q w'=>q= .returned (I e)∧w=w'))
  (HC:Hid (∀w,Env w→U 84 #[.string ((⟨l.toArray⟩:ByteArray).extract 0 e),.string ⟨#[35]⟩] w (O (.tuple #[str b,str b2,.bool x]) w)))
  (c:Hid (∀w,Env w→U 84 #[str b,.string ⟨#[58]⟩] w (O (.tuple #[str f,str r,.bool y]) w)))
  (HN:Hid (∀w,U 85 #[str f,I 2] w fun q w'=>q= .returned (.tuple #[n,.bool true])∧w=w'))
  (HR:Hid (∀w,Env w→U 86 #[str r] w (O (.tuple #[cF k a b0,.bool true]) w)))(HE:Hid (Env w))
  (HT:Hid (∀w,Env w→U 87 #[n,cF k a b0] w (O (str t) w)))(p:t.length≤200)(d:(t==((⟨l.toArray⟩:ByteArray).extract 0 (e+1)).toList)=true):
  U 47 #[str l] w (kW (some (n,(k,a,b0),e+1)) w):=by
 go_enter func47,ntmps47;go_wp2_with fail;refine(HI _).mono ?_;rintro q w1 ⟨rfl,rfl⟩;go_wp2_with fail;refine Z (HC _ (HE.out.ext xE)) fun w1 h1=>?_
 go_wp2_with fail;refine Z (c _ (HE.out.ext xE)) fun w2 h2=>?_
 replace h2:=h1.trans h2;clear h1;go_wp2_with fail;refine(HN _).mono ?_;rintro q w3 ⟨rfl,rfl⟩;go_wp2_with fail;refine Z (HR _ (HE.out.ext xE)) fun w3 h3=>?_
 replace h3:=h2.trans h3;clear h2;obtain⟨g,m⟩:=h3.cells;have s:(w:Nat)<w3:=aPu (by simp) h3.sz;go_wp2;have q1:IntKind.i64.wrap ((e:Int)+1)=(e:Int)+1:=aPx _ (by omega);have q2:0≤(e:Int)+1:=by omega
 have q3:((e:Int)+1).toNat=e+1:=by omega
 have q4:(e:Int)+1≤(l.length:Int):=by omega
 go_region_held3 (fun w'=>w'.cell? ⟨w3,0,none⟩=some (I k)∧w'.cell? ⟨w3,1,none⟩=some (I a)∧w'.cell? ⟨w3,2,none⟩=some (I b0)) (go_keep)
  ((go_at_call 87;refine Z (HT _ (HE.out.ext xE)) fun w4 h4=>?_;(try replace h4:=h4.of_drew);have i:=h4.cells.1))
 clear q1 q2 q3 q4;replace h4:=(h3.alloc (.cells #[k,a,b0] 44)).trans h4;obtain⟨h,o⟩:=h4.cells;go_wp2;go_region;all_goals go_wp2
 all_goals exact bodyPost_ret (v:=reV (some (n,(k,a,b0),e+1))) (by simp[results,results47,go_sem, *];rfl) rfl ⟨rfl,xE⟩
theorem oF (l:List UInt8)(n:Nat):(((⟨l.toArray⟩:ByteArray).extract 0 n).toList)=l.take n:=by rw[Lib.toList_data,Lib.extract_data];simp
theorem aCf (l:List UInt8)(n:Nat):Value.string ((⟨l.toArray⟩:ByteArray).extract 0 n)=str (l.take n):=by rw[wE,←Lib.toList_data,oF]
theorem zF (l:List UInt8)(w:World)(hs:l.length≤4294967280)(hE:Env w):U 47 #[str l] w (kW (bX l) w):=by
 have hI: ∀w,U 83 #[str l,.int .u8 59] w fun q w'=>q= .returned (I (match iK 59 l with|some e=>(e:Int)|none=> -1))∧w=w':=by intro w;refine(Tryz.strings_IndexByte ⟨l.toArray⟩ 59 w).mono ?_;rintro q w' ⟨rfl,rfl⟩;exact⟨by rw[←zE];rfl,rfl⟩
 unfold bX;cases hp:iK 59 l with
 |none=>rw[hp]at hI;exact xP l w hI
 |some e=>
  rw[hp]at hI;have f:=(eW hp).1;simp only;have g:=(oH 35 (l.take e)).1;have j:(l.take e).length≤l.length:=List.length_take_le' _ _;obtain⟨x,hC⟩: ∃x,∀w,Env w→U 84 #[.string ((⟨l.toArray⟩:ByteArray).extract 0 e),.string ⟨#[35]⟩] w (O (.tuple #[str (dC 35 (l.take e)),str (iA 35 (l.take e)),.bool x]) w):=by rw[aCf];refine⟨(Lib.cut (l.take e) [35]).2.2,fun w hE=>aEo _ 35 w (by omega) hE⟩
  obtain⟨y,c⟩: ∃y,∀w,Env w→U 84 #[str (dC 35 (l.take e)),.string ⟨#[58]⟩] w (O (.tuple #[str (dC 58 (dC 35 (l.take e))),str (iA 58 (dC 35 (l.take e))),.bool y]) w):=
   ⟨_,fun w hE=>aEo _ 58 w (by omega) hE⟩
  generalize hb:dC 35 (l.take e)=b at*;have h:=(oH 58 b).1;have i:=(oH 58 b).2;have hN: ∀o,dK 2 (dC 58 b)=o→ ∀w,U 85 #[str (dC 58 b),I 2] w fun q w'=>q= .returned (.tuple #[(o.getD 0:Int),.bool o.isSome])∧w=w':=by intro o ho w;subst ho;exact uW _ 2 (by omega) (by unfold maxLen;omega) w
  have hR: ∀o,bS (iA 58 b)=o→ ∀w,Env w→U 86 #[str (iA 58 b)] w (O (rdV o) w):=by intro o ho w hE;subst ho;exact aBz _ w (by omega) hE
  cases hn:dK 2 (dC 58 b)with
  |none=>exact zG l b _ _ _ e x y w hs f hI hC c (hN _ hn) hE
  |some n=>
   cases hd:bS (iA 58 b)with
   |none=>exact xS l b _ _ _ e n x y w hs f hI hC c (hN _ hn) (hR _ hd) hE
   |some d=>
    obtain⟨k,a,b0⟩:=d;have hT: ∀w,Env w→U 87 #[n,cF k a b0] w (O (str (aY n k a b0)) w):=fun w hE=>aJv n k a b0 w hE
    by_cases ht:aY n k a b0=l.take (e+1)
    ·simp only[ht,if_true];exact aBx l b _ _ _ e n k a b0 _ x y w hs f hI hC c (hN _ hn) (hR _ hd) hE hT (fX n k a b0) (by rw[oF,ht];simp)
    simp only[ht,if_false];exact aBy l b _ _ _ e n k a b0 _ x y w hs f hI hC c (hN _ hn) (hR _ hd) hE hT (fX n k a b0) (by rw[oF];simpa using ht)
end
/-! ### slices of structs -/
theorem Rd.at {α:Type}{f:α→List Value}{w:World}{b c n d sz:Nat}{xs:List α}(hf: ∀a,(f a).length=sz)(h:Rd w (.slice (some ⟨b,c,none⟩) n d) n sz (xs.flatMap f)){k:Nat}{a:α}(hk:xs[k]? =some a) (hn:xs.length=n) (j:Nat) (hj:j<sz):
  w.cell? ⟨b,c+k*sz+j,none⟩=(f a)[j]? :=by
 rcases h.2 with⟨h1,_⟩|⟨b',off',cap',h1,_,_,_,h2⟩
 ·simp at h1
 simp only[Value.slice.injEq,aR3,Addr.mk.injEq,and_true,true_and]at h1;obtain⟨⟨rfl,rfl⟩,rfl⟩:=h1;have e:k<n:=by rw[←hn];exact(aPy.1 hk).1
 have g:k*sz+j<n*sz:=by have:(k+1)*sz≤n*sz:=aRi sz e;rw[aS0]at this;omega
 rw[Nat.add_assoc,h2 _ g,dY f sz hf xs k a hk j hj]
def eM (d:dZ):List Value:= [.int .i64 d.1,.int .i64 d.2.1,.int .i64 d.2.2]
abbrev RdDeeds (w:World)(v:Value)(ds:List dZ):Prop:=Rd w v ds.length 3 (ds.flatMap eM)
theorem RdDeeds.at {w:World}{b a n c:Nat}{ds:List dZ}(h:Rd w (.slice (some ⟨b,a,none⟩) n c) n 3 (ds.flatMap eM))(hn:ds.length=n){k:Nat}{d:dZ}(hk:ds[k]? =some d):
  w.cell? ⟨b,a+k*3,none⟩=some (I d.1)∧w.cell? ⟨b,a+k*3+1,none⟩=some (I d.2.1)∧w.cell? ⟨b,a+k*3+2,none⟩=some (I d.2.2):=
 ⟨h.at (f:=eM) (fun _=>rfl) hk hn 0 (by omega),h.at (f:=eM) (fun _=>rfl) hk hn 1 (by omega),h.at (f:=eM) (fun _=>rfl) hk hn 2 (by omega)⟩
/-! ### the text -/
def jt (first:Int):List dZ→Option (List UInt8)
 | []=>some []
 |d::ds=>if aY first d.1 d.2.1 d.2.2= []then none else(jt (first+1) ds).map (aY first d.1 d.2.1 d.2.2++ ·)
def eY (first:Int)(ds:List dZ):List UInt8:=(jt first ds).getD []
theorem aAg (B:List dZ): ∀(A:List dZ) (first:Int),jt first (A++B)=(jt first A).bind fun x=>(jt (first+A.length) B).map (x++ ·):=by
 intro A;induction A with
 |nil=>intro first;simp[jt]
 |cons d A ih=>
  intro first
  simp only[aRl,jt];split
  ·simp
  rw[ih (first+1)];have e:first+1+(A.length:Int)=first+((d::A).length:Nat):=by simp;omega
  rw[e];cases jt (first+1) A with
  |none=>simp
  |some x=>simp only[Option.bind_some,aQs,Option.map_map]
           cases jt (first+((d::A).length:Nat)) B<;>simp
theorem aOk: ∀(A:List dZ) (first:Int) (x:List UInt8),jt first A=some x→(A= []∨1≤first∧first+A.length≤100)∧x.length≤200*A.length:=by
 intro A;induction A with
 |nil=>intro first x h;simp[jt]at h;subst h;simp
 |cons d A ih=>
  intro first x h
  simp only[jt]at h;split at h
  ·simp at h
  rename_i hne;obtain⟨y,hy,rfl⟩:=Option.map_eq_some_iff.1 h;obtain⟨h1,h2⟩:=ih _ _ hy;obtain⟨q1,q2,_⟩:=gZ hne;have:=fX first d.1 d.2.1 d.2.2
  refine⟨.inr ⟨q1,?_⟩,by simp;omega⟩;rcases h1 with rfl|⟨_,h1⟩
  ·simp;omega
  simp;omega
theorem aNz {first:Int}{ds:List dZ}{k:Nat}{d:dZ}{x:List UInt8}(hd:ds[k]? =some d) (hx:jt first (ds.take k)=some x) (a:aY (first+k) d.1 d.2.1 d.2.2≠ []):
  jt first (ds.take (k+1))=some (x++aY (first+k) d.1 d.2.1 d.2.2):=by
 have hk:k<ds.length:=(aPy.1 hd).1;have e:ds.take (k+1)=ds.take k++ [d]:=by rw[List.take_succ_eq_append_getElem hk];congr 2;exact(aPy.1 hd).2
 have hl:(ds.take k).length=k:=by simp;omega
 rw[e,aAg,hx,hl];simp[jt,a]
theorem aNy {first:Int}{ds:List dZ}{k:Nat}{d:dZ}{x:List UInt8}(hd:ds[k]? =some d) (hx:jt first (ds.take k)=some x) (b:aY (first+k) d.1 d.2.1 d.2.2= []):
  jt first ds=none:=by
 have hk:k<ds.length:=(aPy.1 hd).1;have e:ds=ds.take k++d::ds.drop (k+1):=by
  conv=>lhs;rw[←List.take_append_drop k ds]
  congr 1;rw[List.drop_eq_getElem_cons hk];congr 1;exact(aPy.1 hd).2
 have hl:(ds.take k).length=k:=by simp;omega
 rw[e,aAg,hx,hl];simp[jt,b]
/-! ### a builder while the world grows -/
theorem Ext.gb {w w':World}(h:Ext w w'):w.grownBy w' none:=⟨h.os,h.tape,h.output,h.size,fun k hk _=>h.block k hk⟩
theorem qY {T e:TypeId}{B b:Nat}{p:Value}{bs:List Value}{w w':World}(h:Lib.BuilderAtF T e B b p bs w)(hx:Ext w w'):Lib.BuilderAtF T e B b p bs w':=by have c:=h.lt;obtain⟨hB,v,hh,a,d⟩:=h;exact⟨hB,v,by rw[hx.block b c];exact hh,a.kept hx.gb (by cases v.ownBlock<;>simp),d⟩
theorem pO {T e:TypeId}{B b:Nat}{bs:List Value}{w w':World}(h:Lib.IsBuilderF T e B b bs w)(hx:Ext w w'):Lib.IsBuilderF T e B b bs w':=
 h.elim (fun q=> .inl (qY q hx)) (fun q=> .inr (qY q hx))
theorem iH {w wr w':World}{B:Nat}(h:Ext w wr)(hb:Below B wr w')(hB:w.heap.size≤B):Ext w w':=Below.trans h (Below.mono hb hB)
section
open Go.Proofs.Tryz
theorem aP0 {first:Int}{ds:List dZ}{k:Nat}{x:List UInt8}(hx:jt first (ds.take k)=some x)(hk:k<ds.length)(hB: -9223372036854775808≤first∧first≤9223372036854775807):
  -9223372036854775808≤first+k∧first+k≤9223372036854775807∧x.length≤20000:=by
 have hl:(ds.take k).length=k:=by simp;omega
 obtain⟨h1,h2⟩:=aOk _ _ _ hx;rw[hl]at h1 h2;rcases h1 with h1|h1
 ·have:=congrArg List.length h1;rw[hl]at this;simp at this;subst this;simp;omega
 omega
theorem tL (first:Int)(ds:List dZ)(b f n c:Nat)(w:World)(hB: -9223372036854775808≤first∧first≤9223372036854775807)(hn:ds.length=n)(h:n≤1099511627776)(hb:b<w.heap.size)
  (HR:Hid (Rd w (.slice (some ⟨b,f,none⟩) n c) n 3 (ds.flatMap eM))):
  U 80 #[first,.slice (some ⟨b,f,none⟩) n c] w (O (str (eY first ds)) w):=by
 have HN:=xQ hn;clear hn;go_enter func80,ntmps80;go_wp2;go_loopw [5,6] (fun out i wr=> ∃(k:Nat) (acc:List UInt8),k≤n∧i=I k∧out=str acc∧jt first (ds.take k)=some acc∧Ext w wr) (fun _ i _=>n-(intOf i).toNat)
 case atStart=>exact⟨0,[],aQ1 _,rfl,rfl,rfl,Ext.refl _⟩
 case round=>
  obtain⟨k,acc,hk,rfl,rfl,hj,hE⟩:=hrel;have HJ:=xQ hj;clear hj;by_cases hlt:k<n
  ·obtain⟨d,hd⟩: ∃d,ds[k]? =some d:=⟨_,aPw (by rw[HN.out];exact hlt)⟩
   have HD:=xQ hd;obtain⟨c0,c1,c2⟩:=RdDeeds.at HR HN.out hd;have e0:=(hE.cells.1 _ _ hb).trans c0;have e1:=(hE.cells.1 _ _ hb).trans c1;have e2:=(hE.cells.1 _ _ hb).trans c2;obtain⟨q1,q2,q3⟩:=aP0 HJ (by rw[HN.out];exact hlt) hB;clear c0 c1 c2 hd;obtain⟨d0,d1,d2⟩:=d;obtain⟨t,ht⟩: ∃t,aY (first+k) d0 d1 d2=t:=⟨_,rfl⟩
   have j:t.length≤200:=by rw[←ht];exact fX _ _ _ _
   have HS:Hid (∀w,U 117 #[(first+k:Int),cF d0 d1 d2] w (O (str t) w)):=fun w=>by rw[←ht];exact zW _ _ _ _ w
   have HT:=xQ ht;clear ht;by_cases h0:t= []
   ·have g:t.isEmpty=true:=by simp[h0]
    have a:Hid (eY first ds= []):=by show _=_;rw[eY,aNy HD HJ.out (by rw[HT.out,h0])];rfl
    clear h0;go_wp2_with fail;refine Z (HS _) fun w1 h1=>?_
    go_wp2;go_ret;exact⟨iT a.out.symm,xE⟩
   have g:t.isEmpty=false:=by simp[h0]
   have a:Hid (jt first (ds.take (k+1))=some (acc++t)):=by show _=_;rw[aNz HD HJ.out (by rw[HT.out];exact h0),HT.out]
   clear h0;go_wp2_with fail;refine Z (HS _) fun w1 h1=>?_
   go_wp2;go_roundw
   case rel=>exact⟨k+1,acc++t,by omega,by go_num,rfl,a.out,xE⟩
   case measure=>simp[intOf];omega
  have e:ds.take k=ds:=aQ2 (by rw[HN.out];omega);have a:Hid (eY first ds=acc):=by show _=_;rw[eY,←e,HJ.out];rfl
  clear e;go_wp2;go_ret;exact⟨iT a.out.symm,xE⟩
theorem kH (a b:List UInt8):Lib.byteCells (a++b)=Lib.byteCells a++Lib.strCells ⟨b.toArray⟩:=by simp[Lib.byteCells,Lib.strCells]
def iV (x:Int):List UInt8:=if x=0 then [46]else Lib.decDigits x.toNat
def jS (aA:Int)(k:Nat):List UInt8:=if k=0 then []else if(k:Int)%aA=0 then [47]else [44]
def bB (aA:Int)(xs:List Int):Nat→List UInt8
 |0=> []
 |k+1=>bB aA xs k++jS aA k++iV (xs[k]?.getD 0)
def lX (aA aB:Int)(xs:List Int):List UInt8:=if aN aA aB xs then bB aA xs xs.length else []
theorem aEq (x:Int)(h:x≤99):(iV x).length≤21:=by
 unfold iV;split
 ·simp
 exact cA _ (by omega)
theorem zK (aA:Int)(xs:List Int)(h: ∀x∈xs,x≤99): ∀k,(bB aA xs k).length≤22*k:=by
 intro k;induction k with
 |zero=>simp[bB]
 |succ k ih=>
  have h1:(iV (xs[k]?.getD 0)).length≤21:=by
   refine aEq _ ?_;cases hx:xs[k]? with
   |none=>simp
   |some x=>exact h x (aPz hx)
  have h2:(jS aA k).length≤1:=by unfold jS;split;simp;split<;>simp
  simp only[bB,aQ3];omega
theorem xW {aA:Int}{xs:List Int}{k:Nat}{x:Int}(h:xs[k]? =some x):bB aA xs (k+1)=bB aA xs k++jS aA k++iV x:=by simp[bB,h]
theorem iS (a:List UInt8)(c:UInt8)(ci:Int)(hc:ci=(c.toNat:Int)):Lib.byteCells (a++ [c])=Lib.byteCells a++ [.int .u8 ci]:=by subst hc;simp[Lib.byteCells]
theorem uB (aA aB:Int)(p:OA)(n a:Nat)(w:World)(HV:xB 41 #[aH aA aB p n a] w false):
  U 33 #[aH aA aB p n a] w (O (str []) w):=by
 go_enter func33,ntmps33;go_wp2_with fail;refine Z (HV _ (by exact .alloc (.refl _) _)) fun w1 h1=>?_
 go_wp2;go_ret;exact⟨rfl,by exact .trans (.alloc (.refl _) _) h1⟩
theorem vR (aA aB:Int)(p:OA)(n u:Nat)(xs:List Int)(w:World)(ad:Env w)(h0:2≤aA)(h1:aA≤4)(hn:n≤12)(hc: ∀x∈xs,0≤x∧x≤99)(HS:Hid (Sl w p n u 1 (ivs xs)))
  (HV:xB 41 #[aH aA aB p n u] w true):
  U 33 #[aH aA aB p n u] w (O (str (bB aA xs n)) w):=by
 have aa:=xQ ad;have HC:=xQ hc;clear ad hc;go_enter func33,ntmps33;go_wp2_with fail;refine Z (HV _ (by exact .alloc (.refl _) _)) fun w1 v=>?_
 have ai:(w:Nat)<w1:=aPu (by simp) v.sz;have ea:w1.cell? ⟨w,0,none⟩=some (I aA):=by rw[v.cells.1 _ _ (by simp)];simp
 have eb:w1.cell? ⟨w,2,none⟩=some (.slice p n u):=by rw[v.cells.1 _ _ (by simp)];simp
 have z:Ext w w1:=by exact .trans (.alloc (.refl _) _) v
 go_wp2;go_loopw [12] (fun i wr=> ∃(k:Nat),k≤n∧i=I k∧Lib.IsBuilderF 103 5 w1 w1 (Lib.byteCells (bB aA xs k)) wr∧Ext w1 wr∧w1.heap.size<wr.heap.size) (fun i _=>n-(intOf i).toNat)
 case atStart=>exact⟨0,aQ1 _,rfl,.inl ⟨aPv _,.slice none 0 0,by rw[heap_alloc_new],World.ownsRowF_nil _ _ _ _,by simp[Value.ownBlock]⟩,(Ext.refl _).alloc _,by simp⟩
 case round=>
  obtain⟨k,hk,rfl,af,hE,y⟩:=hrel;have s:=xQ af;clear af;have ae:Ext w wr:=z.trans hE;have ak:wr.cell? ⟨w,0,none⟩=some (I aA):=(hE.cells.1 _ _ ai).trans ea;have o:(Lib.byteCells (bB aA xs k)).length≤300:=by have:=zK aA xs (fun x hx=>(HC x hx).2) k;simp[Lib.byteCells];omega
  by_cases hlt:k<n
  ·obtain⟨b,am,x,rfl,hx,al,ah⟩:=(HS.out.ext ae).int_at hlt;obtain⟨ab,aj⟩:=HC x (aPz hx);have HX:=xQ hx;clear hx;have j:=xQ (xW (aA:=aA) HX.out);by_cases hk0:k=0
   ·have k1:((k:Int)==0)=true:=by simp[hk0]
    have c:Hid (jS aA k= []):=by show _=_;simp[jS,hk0]
    clear hk0;by_cases hz:x=0
    ·have z1:(x==0)=true:=by simp[hz]
     have a:Hid (bB aA xs (k+1)=bB aA xs k++ [46]):=by show _=_;rw[j.out,c.out,aQo];simp[iV,hz]
     clear hz;go_wp2_with fail;refine(kS w1 w1 (Lib.byteCells (bB aA xs k)) 46 _ s (by simp[Lib.byteCells]at o⊢;omega) (by omega)).mono ?_;rintro e w3 ⟨rfl,h2,h3,_⟩;have d:Hid (Lib.IsBuilderF 103 5 w1 w1 (Lib.byteCells (bB aA xs (k+1))) w3):=by rw[a.out,iS _ 46 46 rfl];exact .inr h2
     have g:Ext w1 w3:=iH hE h3 (aPv _);have h:(w1:Nat)<w3:=aPu y h3.size;clear h2 h3;go_wp2;go_roundw
     case rel=>exact⟨k+1,by omega,by go_num,d.out,g,h⟩
     case measure=>simp[intOf];omega
    have z1:(x==0)=false:=by simp[hz]
    have a:Hid (bB aA xs (k+1)=bB aA xs k++Lib.decDigits x.toNat):=by show _=_;rw[j.out,c.out,aQo];simp[iV,hz]
    clear hz;have ag:(Lib.decDigits x.toNat).length≤21:=cA _ (by omega);go_wp2_with fail;refine Z (uZ x _ ab (by omega) (aa.out.ext (z.trans hE))) fun w3 f=>?_
    have q:=xQ (pO s f);have m:(w1:Nat)<w3:=aPu y f.sz;go_wp2_with fail;refine(mU w1 w1 (Lib.byteCells (bB aA xs k)) _ _ q (by simp[Lib.byteCells,ByteArray.size]at o⊢;omega) (by omega)).mono ?_;rintro e w4 ⟨rfl,h2,h3,_⟩;have d:Hid (Lib.IsBuilderF 103 5 w1 w1 (Lib.byteCells (bB aA xs (k+1))) w4):=by rw[a.out,kH];exact .inr h2
    have g:Ext w1 w4:=iH (Ext.trans hE f) h3 (aPv _);have h:(w1:Nat)<w4:=aPu m h3.size;clear h2 h3;go_wp2;go_roundw
    case rel=>exact⟨k+1,by omega,by go_num,d.out,g,h⟩
    case measure=>simp[intOf];omega
   have k1:((k:Int)==0)=false:=by simp;omega
   by_cases hm:(k:Int)%aA=0
   ·have k2:((k:Int)%aA==0)=true:=by simp[hm]
    have c:Hid (jS aA k= [47]):=by show _=_;simp[jS,hk0,hm]
    clear hk0 hm;go_wp2_with fail;refine(kS w1 w1 (Lib.byteCells (bB aA xs k)) 47 _ s (by omega) (by omega)).mono ?_;rintro e w2 ⟨rfl,h2,h3,_⟩;have r:Hid (Lib.IsBuilderF 103 5 w1 w1 (Lib.byteCells (bB aA xs k++ [47])) w2):=by rw[iS _ 47 47 rfl];exact .inr h2
    have l:Ext w1 w2:=iH hE h3 (aPv _);have t:(w1:Nat)<w2:=aPu y h3.size;clear h2 h3;by_cases hz:x=0
    ·have z1:(x==0)=true:=by simp[hz]
     have a:Hid (bB aA xs (k+1)=bB aA xs k++ [47]++ [46]):=by show _=_;rw[j.out,c.out];simp[iV,hz]
     clear hz;go_wp2_with fail;refine(kS w1 w1 (Lib.byteCells (bB aA xs k++ [47])) 46 _ r (by simp[Lib.byteCells]at o⊢;omega) (by omega)).mono ?_;rintro e w3 ⟨rfl,h2,h3,_⟩;have d:Hid (Lib.IsBuilderF 103 5 w1 w1 (Lib.byteCells (bB aA xs (k+1))) w3):=by rw[a.out,iS _ 46 46 rfl];exact .inr h2
     have g:Ext w1 w3:=iH l h3 (aPv _);have h:(w1:Nat)<w3:=aPu t h3.size;clear h2 h3;go_wp2;go_roundw
     case rel=>exact⟨k+1,by omega,by go_num,d.out,g,h⟩
     case measure=>simp[intOf];omega
    have z1:(x==0)=false:=by simp[hz]
    have a:Hid (bB aA xs (k+1)=bB aA xs k++ [47]++Lib.decDigits x.toNat):=by show _=_;rw[j.out,c.out];simp[iV,hz]
    clear hz;have ag:(Lib.decDigits x.toNat).length≤21:=cA _ (by omega);go_wp2_with fail;refine Z (uZ x _ ab (by omega) (aa.out.ext (z.trans l))) fun w3 f=>?_
    have q:=xQ (pO r f);have m:(w1:Nat)<w3:=aPu t f.sz;go_wp2_with fail;refine(mU w1 w1 (Lib.byteCells (bB aA xs k++ [47])) _ _ q (by simp[Lib.byteCells,ByteArray.size]at o⊢;omega) (by omega)).mono ?_;rintro e w4 ⟨rfl,h2,h3,_⟩;have d:Hid (Lib.IsBuilderF 103 5 w1 w1 (Lib.byteCells (bB aA xs (k+1))) w4):=by rw[a.out,kH];exact .inr h2
    have g:Ext w1 w4:=iH (Ext.trans l f) h3 (aPv _);have h:(w1:Nat)<w4:=aPu m h3.size;clear h2 h3;go_wp2;go_roundw
    case rel=>exact⟨k+1,by omega,by go_num,d.out,g,h⟩
    case measure=>simp[intOf];omega
   have k2:((k:Int)%aA==0)=false:=by simp[hm]
   have c:Hid (jS aA k= [44]):=by show _=_;simp[jS,hk0,hm]
   clear hk0 hm;go_wp2_with fail;refine(kS w1 w1 (Lib.byteCells (bB aA xs k)) 44 _ s (by omega) (by omega)).mono ?_;rintro e w2 ⟨rfl,h2,h3,_⟩;have r:Hid (Lib.IsBuilderF 103 5 w1 w1 (Lib.byteCells (bB aA xs k++ [44])) w2):=by rw[iS _ 44 44 rfl];exact .inr h2
   have l:Ext w1 w2:=iH hE h3 (aPv _);have t:(w1:Nat)<w2:=aPu y h3.size;clear h2 h3;by_cases hz:x=0
   ·have z1:(x==0)=true:=by simp[hz]
    have a:Hid (bB aA xs (k+1)=bB aA xs k++ [44]++ [46]):=by show _=_;rw[j.out,c.out];simp[iV,hz]
    clear hz;go_wp2_with fail;refine(kS w1 w1 (Lib.byteCells (bB aA xs k++ [44])) 46 _ r (by simp[Lib.byteCells]at o⊢;omega) (by omega)).mono ?_;rintro e w3 ⟨rfl,h2,h3,_⟩;have d:Hid (Lib.IsBuilderF 103 5 w1 w1 (Lib.byteCells (bB aA xs (k+1))) w3):=by rw[a.out,iS _ 46 46 rfl];exact .inr h2
    have g:Ext w1 w3:=iH l h3 (aPv _);have h:(w1:Nat)<w3:=aPu t h3.size;clear h2 h3;go_wp2;go_roundw
    case rel=>exact⟨k+1,by omega,by go_num,d.out,g,h⟩
    case measure=>simp[intOf];omega
   have z1:(x==0)=false:=by simp[hz]
   have a:Hid (bB aA xs (k+1)=bB aA xs k++ [44]++Lib.decDigits x.toNat):=by show _=_;rw[j.out,c.out];simp[iV,hz]
   clear hz;have ag:(Lib.decDigits x.toNat).length≤21:=cA _ (by omega);go_wp2_with fail;refine Z (uZ x _ ab (by omega) (aa.out.ext (z.trans l))) fun w3 f=>?_
   have q:=xQ (pO r f);have m:(w1:Nat)<w3:=aPu t f.sz;go_wp2_with fail;refine(mU w1 w1 (Lib.byteCells (bB aA xs k++ [44])) _ _ q (by simp[Lib.byteCells,ByteArray.size]at o⊢;omega) (by omega)).mono ?_;rintro e w4 ⟨rfl,h2,h3,_⟩;have d:Hid (Lib.IsBuilderF 103 5 w1 w1 (Lib.byteCells (bB aA xs (k+1))) w4):=by rw[a.out,kH];exact .inr h2
   have g:Ext w1 w4:=iH (Ext.trans l f) h3 (aPv _);have h:(w1:Nat)<w4:=aPu m h3.size;clear h2 h3;go_wp2;go_roundw
   case rel=>exact⟨k+1,by omega,by go_num,d.out,g,h⟩
   case measure=>simp[intOf];omega
  obtain rfl:k=n:=by omega
  go_wp2_with fail;refine(Tryz.Builder_String_any_f w1 w1 (bB aA xs k) _ s (by omega)).mono ?_;rintro e w2 ⟨rfl,h2,h3⟩;have l:Ext w w2:=iH ae h3 (by omega);clear h2 h3;go_wp2;go_ret;exact⟨rfl,l⟩
theorem bQ {aA aB:Int}{xs:List Int}(h:aN aA aB xs=true):2≤aA∧aA≤4∧2≤aB∧aB≤3∧4≤xs.length∧xs.length≤12∧(xs.length:Int)=aA*aB∧(∀x∈xs,0≤x∧x≤99)∧(xs.filter (fun x=>decide (0<x))).Nodup:=by simp only[aN,aQa]at h;obtain⟨h1,h2,h3,h4,h5,h6,h7⟩:=cM h.1;obtain⟨q1,_,q3⟩:=(fM _ _).1 h.2;exact⟨h1,h2,h3,h4,h5,h6,h7,q1,q3⟩
theorem sQ (aA aB:Int)(p:OA)(n a:Nat)(xs:List Int)(w:World)(hE:Env w)(hS:Sl w p n a 1 (ivs xs)):
  U 33 #[aH aA aB p n a] w (O (str (lX aA aB xs)) w):=by
 have hl:=hS.ilen;cases h:aN aA aB xs with
 |true=>obtain⟨h1,h2,h3,h4,h5,h6,h7,h8,h9⟩:=bQ h;unfold lX;rw[if_pos h,hl];exact vR aA aB p n a xs w hE h1 h2 (by omega) h8 hS (fun w' hx=>by rw[←h];exact fS aA aB p n a xs w' (hS.ext hx))
 |false=>unfold lX;rw[if_neg (by simp[h])];exact uB aA aB p n a w (fun w' hx=>by rw[←h];exact fS aA aB p n a xs w' (hS.ext hx))
theorem aKa (w:World)(hE:Env w):U 12 #[] w (O (.bool true) w):=by
 have HE:=xQ hE;have T1:Hid (∀w p,Env w→Sl w p 4 4 1 (ivs [0,7,0,0])→U 33 #[aH 2 2 p 4 4] w (O (str [46,44,55,47,46,44,46]) w)):=fun w p hE hS=>by
  have:=sQ 2 2 p 4 4 [0,7,0,0] w hE hS;have e:lX 2 2 [0,7,0,0]= [46,44,55,47,46,44,46]:=by simp[lX,aN,gE,dN,bB,jS,iV,fA]
  rwa[e]at this
 have T2:Hid (∀w,Env w→U 33 #[aH 0 0 none 0 0] w (O (str []) w)):=fun w hE=>by
  have:=sQ 0 0 none 0 0 [] w hE (Sl.nil w 1);have e:lX 0 0 []= []:=by simp[lX,aN,gE]
  rwa[e]at this
 clear hE;go_enter func12,ntmps12;go_wp2_with fail;refine Z (T1 _ _ (HE.out.ext (by exact .alloc (.refl _) _)) (Sl.new w #[iv 0,iv 7,iv 0,iv 0] _ 4 rfl (by unfold maxLen;omega))) fun w1 h1=>?_
 go_wp2_with fail;refine Z (T2 _ (HE.out.ext (by exact .trans (.alloc (.refl _) _) h1))) fun w2 h2=>?_
 go_wp2;go_ret;exact⟨rfl,by exact .trans (.trans (.alloc (.refl _) _) h1) h2⟩
theorem aAf (a b:Int)(w:World)(h0:0≤a)(h1:a≤1000)(h2:0≤b)(h3:b≤1000):U 189 #[a,b] w (O (I (qR a b)) w):=by go_enter func189,ntmps189;go_wp2;go_ret;exact⟨eA (by unfold qR;omega),by exact .refl _⟩
theorem aDq (aA a b:Int)(w:World)(h0:0≤a)(h1:a≤100)(h2:0≤b)(h3:b≤100)(h4:2≤aA)(h5:aA≤4):U 163 #[aA,a,b] w (O (I (aV aA a b)) w):=by
 have q0: ¬(aA=0):=by omega
 have r1:a.tmod aA=a%aA:=IntWalk.rem_in _ _ h0;have r2:b.tmod aA=b%aA:=IntWalk.rem_in _ _ h2;have d1:IntKind.i64.wrap (a.tdiv aA)=a/aA:=aS3 _ _ (by omega);have d2:IntKind.i64.wrap (b.tdiv aA)=b/aA:=aS3 _ _ (by omega);have e1:=Int.emod_nonneg a q0;have e2:=Int.emod_nonneg b q0;have e3:=Int.emod_lt_of_pos a (show 0<aA by omega);have e4:=Int.emod_lt_of_pos b (show 0<aA by omega);have e5:=Int.ediv_nonneg h0 (show 0≤aA by omega);have e6:=Int.ediv_nonneg h2 (show 0≤aA by omega);have e7:=Int.ediv_le_self aA h0;have e8:=Int.ediv_le_self aA h2;have s1:IntKind.i64.wrap (qR (a%aA) (b%aA)+qR (a/aA) (b/aA))=aV aA a b:=aPx _ (by unfold qR;omega);go_enter func163,ntmps163;go_wp2;refine rL (gl [gEq (a:Int),gEq (aA:Int),gEq (a%aA:Int),gEq (b:Int),gEq (aA:Int),gEq (b%aA:Int),gEq (qR (a%aA) (b%aA):Int),gEq (a:Int),gEq (aA:Int),gEq (a/aA:Int),gEq (b:Int),gEq (aA:Int),gEq (b/aA:Int),gEq (qR (a/aA) (b/aA):Int),gEq (aV aA a b:Int)]) 15 16 [(0,some 7),(1,some 8),(2,some 9),(3,some 10),(4,some 11),(5,some 12),(6,some 13),(7,some 14),(8,some 15),(9,some 16),(10,some 17),(11,some 18),(12,some 19),(13,some 20),(14,some 21)] ?steps ?fin
 case steps=>
  refine sS0 [] (sS0 [] (sS2 [(0,some 7),(1,some 8)] (sS0 [] (sS0 [] (sS2 [(3,some 10),(4,some 11)] ?_)))));refine sC [(2,some 9),(5,some 12)] rfl (fun wi hx=> ?_) ?_
  ·intro v2 h2 v5 h5 K hK;subst h2 h5;go_wp2_with fail;refine Z (aAf (a%aA) (b%aA) _ (by omega) (by omega) (by omega) (by omega)) fun w2 d=>?_
   go_simp;exact hK _ _ ⟨I (qR (a%aA) (b%aA)),rfl,rfl,d⟩
  refine sS0 [] (sS0 [] (sS2 [(7,some 14),(8,some 15)] (sS0 [] (sS0 [] (sS2 [(10,some 17),(11,some 18)] ?_)))));refine sC [(9,some 16),(12,some 19)] rfl (fun wi hx=> ?_) ?_
  ·intro v9 h9 j c K hK;obtain rfl:=h9;obtain rfl:=c;go_wp2_with fail;refine Z (aAf (a/aA) (b/aA) _ (by omega) (by omega) (by omega) (by omega)) fun w2 d=>?_
   go_simp;exact hK _ _ ⟨I (qR (a/aA) (b/aA)),rfl,rfl,d⟩
  exact sS2 [(6,some 13),(13,some 20)] StepsL.nil
 case fin=>intro wi hx v0 h0 v1 h1 v2 h2 v3 h3 v4 h4 v5 h5 v6 h6 v7 h7 v8 h8 v9 h9 k f l g j c m h n i;subst h0 h1 h2 h3 h4 h5 h6 h7 h8 h9;obtain rfl:=f;obtain rfl:=g;obtain rfl:=c;obtain rfl:=h;obtain rfl:=i;refine wpAny_ready (rs:= [15]) (by kernel_rfl) (by simp) ?_;refine AllReady.cons rfl (fun K hK=> ?_) AllReady.nil;go_simp;refine hK _ _ ?_;clear hK K;refine wpAny_done (by kernel_rfl) ?_ _;go_wp2;go_ret;exact⟨rfl,by exact .trans (.drew (.refl _)) hx⟩
theorem sO (n lo hi:Int)(w:World):U 31 #[n,lo,hi] w fun e w'=>e= .returned (.bool (decide (lo≤n∧n≤hi)))∧w=w':=by
 by_cases h:lo≤n∧n≤hi
 ·rw[decide_eq_true h];exact nG n lo hi w h.1 h.2
 rw[decide_eq_false h];exact vU n lo hi w (by omega)
def dF (aA aB:Int)(xs:List Int)(a b:Int):Int:=if aN aA aB xs=true∧(0≤a∧a<xs.length)∧0≤b∧b<xs.length then aV aA a b else -1
theorem aFr (aA aB a b:Int)(p:OA)(n c:Nat)(w:World)(HV:xB 29 #[aH aA aB p n c] w false):
  U 132 #[aH aA aB p n c,a,b] w (O (I (-1)) w):=by
 go_enter func132,ntmps132;go_wp2_with fail;refine Z (HV _ (by exact .alloc (.refl _) _)) fun w1 d=>?_
 have X1:Ext w w1:=by exact .trans (.alloc (.refl _) _) d
 clear d;go_wp2;go_ret;exact⟨rfl,by exact X1⟩
theorem aL7 (aA aB a b:Int)(p:OA)(n c:Nat)(ba bb:Bool)(R:Int)(w:World)(f:4≤n)(hn:n≤12)(HV:xB 29 #[aH aA aB p n c] w true)
  (HA:Hid (∀w,U 31 #[a,(),((n:Int)-1:Int)] w fun e w'=>e= .returned (.bool ba)∧w=w'))
  (HB:Hid (∀w,U 31 #[b,(),((n:Int)-1:Int)] w fun e w'=>e= .returned (.bool bb)∧w=w'))
  (HP:Hid (ba=true→bb=true→ ∀w,U 163 #[aA,a,b] w (O (I R) w))):
  U 132 #[aH aA aB p n c,a,b] w fun e w'=>e= .returned (I (if ba&&bb then R else -1))∧Ext w w':=by
 go_enter func132,ntmps132;go_wp2_with fail;refine Z (HV _ (by exact .alloc (.refl _) _)) fun w1 d=>?_
 have B1:=xQ ((Blk.new w 25 #[aA,aB,.slice p n c]).ext d);have X1:Ext w w1:=by exact .trans (.alloc (.refl _) _) d
 clear d;obtain⟨c0,c1,c2⟩:=B1.out.tri;cases ba
 ·go_wp2_with ((go_at_call 31;(with_reducible refine(HA _).mono ?_);rintro e w' ⟨rfl,rfl⟩));go_ret;exact⟨rfl,by exact X1⟩
 cases bb
 ·go_wp2_with fail;refine(HA _).mono ?_;rintro e w' ⟨rfl,rfl⟩;go_wp2_with fail;refine(HB _).mono ?_;rintro e w' ⟨rfl,rfl⟩;go_wp2;go_ret;exact⟨rfl,by exact X1⟩
 go_wp2_with fail;refine(HA _).mono ?_;rintro e w' ⟨rfl,rfl⟩;go_wp2_with fail;refine(HB _).mono ?_;rintro e w' ⟨rfl,rfl⟩;go_wp2_with fail;refine Z (HP (by simp) (by simp) _) fun w' hp=>?_
 go_wp2;go_ret;exact⟨rfl,by exact .trans X1 hp⟩
theorem aBb (aA aB a b:Int)(p:OA)(n c:Nat)(xs:List Int)(w:World)(hS:Sl w p n c 1 (ivs xs)):
  U 132 #[aH aA aB p n c,a,b] w (O (I (dF aA aB xs a b)) w):=by
 have hl:=hS.ilen;have HV:=fun(w':World) (hx:Ext w w')=>gS aA aB p n c xs w' (hS.ext hx)
 unfold dF;cases hok:aN aA aB xs with
 |false=>rw[hok]at HV;simpa using aFr aA aB a b p n c w HV
 |true=>
  rw[hok]at HV;obtain⟨g1,g2,g3,g4,g5,g6,g7,g8,g9⟩:=bQ hok
  have:=aL7 aA aB a b p n c (decide (0≤a∧a≤(n:Int)-1)) (decide (0≤b∧b≤(n:Int)-1)) (aV aA a b) w (by omega) (by omega) HV (fun w=>sO _ _ _ w) (fun w=>sO _ _ _ w)
   (fun h1 h2 w=>by simp at h1 h2;exact aDq aA a b w h1.1 (by omega) h2.1 (by omega) (by omega) (by omega))
  refine this.mono fun e w' ⟨he,hx⟩=>⟨?_,hx⟩
  rw[he];apply eA;have e1:(decide (0≤a∧a≤(n:Int)-1)&&decide (0≤b∧b≤(n:Int)-1))=decide ((0≤a∧a<xs.length)∧0≤b∧b<xs.length):=by rw[Bool.eq_iff_iff];simp;omega
  rw[e1];by_cases h:(0≤a∧a<xs.length)∧0≤b∧b<xs.length
  ·rw[decide_eq_true h,if_pos rfl,if_pos ⟨rfl,h⟩]
  rw[decide_eq_false h,if_neg (by simp),if_neg (fun hh=>h hh.2)]
end
end Go.Proofs.YtbgkcehffiogcaaGreatDoor
