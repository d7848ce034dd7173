/-
  Texts of this proof, packed (@packed).
-/
import Derived.Test.YtbgkcehffiogcacGreatDoorZ21
namespace Go.Proofs.YtbgkcehffiogcacGreatDoor
open Go.RowKit Go.Proofs.Tryz
set_option linter.unusedSimpArgs false
set_option linter.unusedVariables false
set_option maxHeartbeats 8000000
set_option maxRecDepth 100000
theorem aJf {B n cap:Nat}{p:OA}{xs:List Value}(K:Int)(w:World)(h:w.ownsRow B TI 1 (.slice p n cap) n xs)(hn:n≤1099511627776)(h0:0≤K)(h1:K≤4611686018427387904):
  U 96 #[.slice p n cap,K] w fun e w'=>e= .returned (I (K+(n*1:Nat)))∧w'.ownsRow B TI 1 (.slice p n cap) n (bG K (n*1))∧w.grownBy w' (Value.slice p n cap).ownBlock:=by
 by_cases hz:0<n
 ·have h2:=h;rcases h2.2 with⟨_,h3⟩|⟨g,cap',cur,e1,hb,hg,r⟩
  ·omega
  injection e1 with e1 e2 e3;subst e1;refine(aBc g n cap B xs K w hn h0 h1 h).mono ?_;rintro e w' ⟨rfl,h4,h5⟩;exact⟨rfl,h4,h5⟩
 obtain rfl:n=0:=by omega
 refine(aBb p cap K w).mono ?_;rintro e w' ⟨rfl,rfl⟩;obtain rfl:xs= []:=aR8 (by have:=h.1;simpa using this);exact⟨by simp,by simpa[bG]using h,aRt _ _⟩
theorem aKb {B n cap:Nat}{p:OA}(K:Int)(w:World)(h:w.ownsRow B TI 1 (.slice p n cap) n (bG K (n*1)))(hn:n≤1099511627776)(h0:0≤K)(h1:K≤4611686018427387904):
  U 97 #[.slice p n cap,K] w fun e w'=>e= .returned (I (K+(n*1:Nat)))∧w=w':=by
 by_cases hz:0<n
 ·have h2:=h;rcases h2.2 with⟨_,h3⟩|⟨g,cap',cur,e1,hb,hg,r⟩
  ·omega
  injection e1 with e1 e2 e3;subst e1;refine aC0 g 0 n cap K w hn h0 h1 (xQ fun j hj=> ?_);rw[aRq,h.cellAt j hj];exact mN _ _ _ hj
 obtain rfl:n=0:=by omega
 refine(aBz p cap K w).mono ?_;rintro e w' ⟨rfl,rfl⟩;exact⟨by simp,rfl⟩
theorem aDl {B n cap:Nat}{p:OA}{xs:List Value}(K:Int)(w:World)(h:w.ownsRow B TV 4 (.slice p n cap) n xs)(hn:n≤1099511627776)(h0:0≤K)(h1:K≤4611686018427387904):
  U 42 #[.slice p n cap,K] w fun e w'=>e= .returned (I (K+(n*4:Nat)))∧w'.ownsRow B TV 4 (.slice p n cap) n (bG K (n*4))∧w.grownBy w' (Value.slice p n cap).ownBlock:=by
 by_cases hz:0<n
 ·have h2:=h;rcases h2.2 with⟨_,h3⟩|⟨g,cap',cur,e1,hb,hg,r⟩
  ·omega
  injection e1 with e1 e2 e3;subst e1;refine(wR g n cap B xs K w hn h0 h1 h).mono ?_;rintro e w' ⟨rfl,h4,h5⟩;exact⟨rfl,h4,h5⟩
 obtain rfl:n=0:=by omega
 refine(wQ p cap K w).mono ?_;rintro e w' ⟨rfl,rfl⟩;obtain rfl:xs= []:=aR8 (by have:=h.1;simpa using this);exact⟨by simp,by simpa[bG]using h,aRt _ _⟩
theorem aEd {B n cap:Nat}{p:OA}(K:Int)(w:World)(h:w.ownsRow B TV 4 (.slice p n cap) n (bG K (n*4)))(hn:n≤1099511627776)(h0:0≤K)(h1:K≤4611686018427387904):
  U 44 #[.slice p n cap,K] w fun e w'=>e= .returned (I (K+(n*4:Nat)))∧w=w':=by
 by_cases hz:0<n
 ·have h2:=h;rcases h2.2 with⟨_,h3⟩|⟨g,cap',cur,e1,hb,hg,r⟩
  ·omega
  injection e1 with e1 e2 e3;subst e1;refine xK g 0 n cap K w hn h0 h1 (xQ fun j hj=> ?_);rw[aRq,h.cellAt j hj];exact mN _ _ _ hj
 obtain rfl:n=0:=by omega
 refine(xJ p cap K w).mono ?_;rintro e w' ⟨rfl,rfl⟩;exact⟨by simp,rfl⟩
theorem aG9 {B n cap:Nat}{p:OA}{xs:List Value}(aA aB K:Int)(w:World)(a:Hid (∀g,(Value.slice p n cap).ownBlock=some g→g<w.heap.size))(h:Hid (w.ownsRow B TI 1 (.slice p n cap) n xs))(hn:n≤1099511627776)(h0:0≤K)(h1:K≤1099511627776):
  U 41 #[aH aA aB p n cap,K] w fun e w'=>e= .returned (I (K+(n:Nat)))∧w'.ownsRow B TI 1 (.slice p n cap) n (bG K n)∧w.grownBy w' (Value.slice p n cap).ownBlock:=by
 have HM:xC 96 #[.slice p n cap,K] w fun w' e w''=>e= .returned (I (K+(n:Nat)))∧w''.ownsRow B TI 1 (.slice p n cap) n (bG K n)∧w'.grownBy w'' (Value.slice p n cap).ownBlock:=fun w' hx=>by have:=aJf K w' (bB h.out hx) hn h0 (by omega);simpa using this
 go_enter func41,ntmps41;go_wp2_with fail;refine(HM _ ((Ext.refl _).alloc _)).mono ?_;rintro e w1 ⟨rfl,h2,h3⟩;have h4:w.grownBy w1 (Value.slice p n cap).ownBlock:=by have ha:Ext w (w.alloc (.cells #[aA,aB,.slice p n cap] 31)):=(Ext.refl w).alloc _;exact⟨h3.os.trans ha.os,h3.tape.trans ha.tape,h3.output.trans ha.output,aQy ha.size h3.size,fun i hi hne=>(h3.block i (aQm hi ha.size) hne).trans (ha.block i hi)⟩
 clear h3;go_wp2;go_ret;exact⟨rfl,h2,h4⟩
theorem aH4 {B n cap:Nat}{p:OA}(aA aB K:Int)(w:World)(h:Hid (w.ownsRow B TI 1 (.slice p n cap) n (bG K n)))(hn:n≤1099511627776)(h0:0≤K)(h1:K≤1099511627776):
  U 43 #[aH aA aB p n cap,K] w (O (I (K+(n:Nat))) w):=by
 have k1:0≤K+(n:Nat):=by omega
 have HM:xC 97 #[.slice p n cap,K] w fun w' e w''=>e= .returned (I (K+(n:Nat)))∧w'=w'':=fun w' hx=>by have:=aKb (B:=B) (p:=p) (cap:=cap) (n:=n) K w' (by simpa using bB h.out hx) hn h0 (by omega);simpa using this
 go_enter func43,ntmps43;go_wp2_with fail;refine(HM _ ((Ext.refl _).alloc _)).mono ?_;rintro e w1 ⟨rfl,rfl⟩;go_wp2;go_ret;exact⟨rfl,xE⟩
theorem uJ (aA aB a b aD aF aC aG:Int)(p:OA)(n cap:Nat)(q:OA)(m c2:Nat)(K:Int)(xs ys:List Value)(w0 w:World)(L:List Item)(h:Mem w0 w (aI w0 TI 1 p n cap xs::aI w0 TV 4 q m c2 ys::L))(hn:n≤1099511627776)(hm:m≤1099511627776)(h0:0≤K)(h1:K≤1000000):
  U 10 #[.agg #[aA,aB,.slice p n cap,a,b,aD,aF,aC,aG,.slice q m c2],K] w fun e w'=>e= .returned (I (K+(n:Nat)+(m*4:Nat)))∧Mem w0 w' (aI w0 TI 1 p n cap (bG K n)::aI w0 TV 4 q m c2 (bG (K+(n:Nat)) (m*4))::L):=by
 have M1:=(h.c0 aK #[aA,aB,.slice p n cap,a,b,aD,aF,aC,aG,.slice q m c2])
 clear h;go_enter func10,ntmps10;go_wp2_with fail;refine(aG9 aA aB K _ (xQ fun g hg=>(M1.lt (i:=1) (g:=g) rfl hg).2) (xQ (M1.ow 1)) hn h0 (by omega)).mono ?_;rintro e w1 ⟨rfl,ho,hg⟩;have M2:=(show Mem w0 w1 (aJ w0 w aK #[aA,aB,.slice p n cap,a,b,aD,aF,aC,aG,.slice q m c2]::aI w0 TI 1 p n cap (bG K n)::aI w0 TV 4 q m c2 ys::L)from M1.app (i:=1) rfl ho hg (.inl rfl))
 clear ho hg M1;obtain⟨c,d,f,j,k,l,o,r,s,t⟩:=(M2.bk 0).ten;go_wp2_with fail;clear c d f j k l o r s t;refine(aDl (K+(n:Nat)) _ (M2.ow 2) hm (by omega) (by omega)).mono ?_;rintro e w2 ⟨rfl,ho,hg⟩;have M3:=(show Mem w0 w2 (aJ w0 w aK #[aA,aB,.slice p n cap,a,b,aD,aF,aC,aG,.slice q m c2]::aI w0 TI 1 p n cap (bG K n)::aI w0 TV 4 q m c2 (bG (K+(n:Nat)) (m*4))::L)from M2.app (i:=2) rfl ho hg (.inl rfl))
 clear ho hg M2;go_wp2;go_ret;exact⟨rfl,M3.sub (List.sublist_cons_self _ _)⟩
theorem uP (aA aB a b aD aF aC aG:Int)(p:OA)(n cap:Nat)(q:OA)(m c2:Nat)(K:Int)(B:Nat)(w:World)(h:w.ownsRow B TI 1 (.slice p n cap) n (bG K n))(h2:w.ownsRow B TV 4 (.slice q m c2) m (bG (K+(n:Nat)) (m*4)))(hn:n≤1099511627776)(hm:m≤1099511627776)(h0:0≤K)(h1:K≤1000000):
  U 11 #[.agg #[aA,aB,.slice p n cap,a,b,aD,aF,aC,aG,.slice q m c2],K] w (O (I (K+(n:Nat)+(m*4:Nat))) w):=by
 have H2:=xQ h2;have M0:=((Mem.start w).c0 aK #[aA,aB,.slice p n cap,a,b,aD,aF,aC,aG,.slice q m c2])
 have H1:=xQ (bB h M0.ext);clear h h2;have k1:0≤K+(n:Nat):=by omega
 have k2:0≤K+(n:Nat)+(m*4:Nat):=by omega
 go_enter func11,ntmps11;go_wp2_with fail;refine Z (aH4 aA aB K _ H1 hn h0 (by omega)) fun w1 hx=>?_
 have M1:=(M0.adv hx)
 clear hx M0;obtain⟨c,d,f,g,i,j,k,l,o,r⟩:=(M1.bk 0).ten;go_wp2_with fail;clear c d f g i j k l o r;refine(aEd (K+(n:Nat)) _ (bB H2 M1.ext) hm (by omega) (by omega)).mono ?_;rintro e w2 ⟨rfl,rfl⟩;go_wp2;go_ret;exact⟨rfl,M1.ext⟩
end Go.Proofs.YtbgkcehffiogcacGreatDoor
