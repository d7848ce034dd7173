/- Lemmas (@packed). -/
import Derived.KernelRfl
import Derived.Lib.CountLaws
import Derived.Lib.ItoaLen
import Derived.Lib.ItoaMem
import Derived.Lib.SplitLaws
import Derived.Shelf.Strings.BuilderK
import Derived.Sort.OwnSortedInts
import Derived.Test.YthfmmibomhhmpabGreatDoorZS
import Derived.Test.YthfmmibomhhmpabGreatDoorZ3
namespace Go.Proofs.YthfmmibomhhmpabGreatDoor
open Go.RowKit Go.Proofs.Tryz
set_option linter.all false
set_option maxHeartbeats 8000000
set_option maxRecDepth 100000
variable{sz:Nat}{e:TypeId}{c:UInt8}{v:Value}{w':World}(t l:List UInt8)(s:ByteArray)(B b:Nat)(bs:List Value)(k aA aB:Int)(p:OA)(n m d a:Nat)(xs:List Int)(x:Int)(w:World)
def cC (xs:List Int)(w:World)(e:Ending)(w':World):Prop:=
 ∃p cap,e= .returned (.slice p xs.length cap)∧w'.ownsRow w.heap.size TI 1 (.slice p xs.length cap) xs.length (ivs xs)∧Ext w w'
theorem fE {p:OA}{n a:Nat}{xs:List Int}{w:World}(hn:xs.length=n)(ho:w'.ownsRow w TI 1 (.slice p n a) n (ivs xs))(hx:Ext w w'):cC xs w (.returned (.slice p n a)) w':=by subst hn;exact⟨p,a,rfl,ho,hx⟩
theorem aMv: ∀(xs:List Int) (k:Nat) (x:Int),(∀y∈xs.take k,y<x)→(∀y,xs[k]? =some y→ ¬y<x)→oG x xs=xs.take k++x::xs.drop k:=by
 intro xs;induction xs with
 |nil=>intro k x _ _;simp[oG]
 |cons y ys ih=>
  intro k x h1 h2;cases k with
  |zero=>have:=h2 y rfl;simp[oG,this]
  |succ k=>have h3:y<x:=h1 y (by simp);rw[oG,if_pos h3,ih k x (fun z hz=>h1 z (by simp[hz])) (fun z hz=>h2 z (by simpa using hz))];simp
theorem aRn (xs:List Int):(oG x xs).length=xs.length+1:=(qE x xs).length_eq
theorem aTc {w:World}{b c n a k:Nat}{xs:List Int}(h:Sl w (some ⟨b,c,none⟩) n a 1 (ivs xs))(hk:k≤n):Sl w (some ⟨b,c+k,none⟩) (n-k) (a-k) 1 (ivs (xs.drop k)):=by have hl:=h.ilen;have f:=h.le;have g:=h.mx;refine⟨by simp;omega,by omega,by omega,fun h0=> ?_⟩;obtain⟨b',d,e,hb,hc⟩:=h.rd (by omega);injection e with e;injection e with e1 e2;subst e1 e2;refine⟨_,_,rfl,hb,fun j hj=> ?_⟩;rw[Nat.add_assoc,hc (k+j) (by omega)];simp
theorem aTb (p:OA){c:Nat}(hc:c≤maxLen):Sl w p 0 c 1 (ivs []):=⟨by simp,aW6 _,hc,fun h=>absurd h (by omega)⟩
theorem aG3 (hn:n≤1000000)(hS:Sl w p n m 1 (ivs xs)):
  U 64 #[.slice p n m,x] w (cC (oG x xs) w):=by
 have hl:=xQ hS.ilen;have ae:=hS.le;have ad:=hS.mx;unfold maxLen at ad;have HS:=xQ hS;go_enter func64,ntmps64;go_wp2;go_loopw [5,6] (fun v i wr=> ∃(k:Nat) (q:OA) (c:Nat),k≤n∧i=I k∧v= .slice q k c∧wr.ownsRow w TI 1 (.slice q k c) k (ivs (xs.take k))∧(∀y∈xs.take k,y<x)∧Ext w wr) (fun _ i _=>n-(intOf i).toNat)
 case atStart=>exact⟨0,_,0,aW6 _,rfl,rfl,aX7 _ #[] 0 (aVz _) (by simp[maxLen]) rfl,by simp,by exact .alloc (.refl _) _⟩
 case round=>
  obtain⟨k,q,c,hk,rfl,rfl,aa,u,hE⟩:=hrel;have HO:=xQ aa;have HL:=xQ u;have ah:=hE.sz;by_cases hlt:k<n
  ·obtain⟨b,ai,y,rfl,hx,hb,ab⟩:=(HS.out.ext hE).int_at hlt;have HX:=xQ hx;by_cases hy:y<x
   ·have d:Hid (∀z∈xs.take (k+1),z<x):=by
     show∀z∈xs.take (k+1),z<x;rw[aX HX.out];intro z hz;rcases aWh.1 hz with h|h
     ·exact HL z h
     simp at h;omega
    go_wp2_with (at_builtin;refine dB iA rfl _ _ rfl w _ _ _ rfl (HO.out.alloc _) _ _ y _ rfl (by simp) (by omega) (by simp;omega) ?_;intro p' t w1 a g;have j:=xQ a;have f:Ext w w1:=Ext.own (hE.alloc _) (HO.out.alloc _) g (aVz _);clear a g);go_roundw
    case rel=>exact⟨k+1,p',t,by omega,by go_num,rfl,by rw[aX HX.out];exact j.out,d.out,f⟩
    case measure=>simp[intOf];omega
   have d:Hid (oG x xs=xs.take k++x::xs.drop k):=aMv xs k x HL (fun z hz=>by rw[HX.out]at hz;injection hz with hz;subst hz;exact hy);have i1:=aYp k;have i2:=aYr k n;have ag: ¬m=k:=by omega
   go_wp2
   go_region_law ((first
    |(refine gG _ iA (by rfl) _ _ (by rfl) w _ k (ivs (xs.take k)) (by rfl) (by first|exact HO.out|exact HO.out.alloc _|exact(HO.out.alloc _).drew|exact HO.out.drew.alloc _|exact HO.out.drew) _ 1 1 [iv x] (by rfl) (by first|exact Sl.new wr #[iv x] _ 1 rfl (by decide)|exact(Sl.new wr #[iv x] _ 1 rfl (by decide)).ext (Ext.drew (Ext.refl _))|exact Sl.new wr.drew #[iv x] _ 1 rfl (by decide)) (rD [x]) (by omega) (by simp;omega) ?_
      intro p1 c1 w1 a g;have f:Ext w w1:=Ext.own (by exact .drew (.alloc hE _)) (by first|exact HO.out|exact HO.out.alloc _|exact(HO.out.alloc _).drew|exact HO.out.drew.alloc _|exact HO.out.drew) g (aVz _);have j:=xQ a;have s:=xQ (HS.out.ext f);have af:=f.sz
      clear a g)
    |(refine gG _ iA (by rfl) _ _ (by rfl) w _ (k+1) (ivs (xs.take k)++ [iv x]) (by rfl) j _ (n-k) (m-k) (ivs (xs.drop k)) (by rfl) (aTc s (by omega)) (rD _) (by omega) (by omega) ?_
      intro p2 c2 w2 e l;have r:Ext w w2:=Ext.own f j l (aVz _);have o:=xQ e
      clear e l)))
   all_goals go_wp2
   all_goals go_ret
   all_goals exact fE (by rw[d.out];simp;rw[hl.out];omega) (by rw[d.out];simpa using o.out) r
  obtain rfl:k=n:=by omega
  have d:Hid (oG x xs=xs++ [x]):=by have:=aMv xs k x HL (fun z hz=>by rw[aXg (by rw[hl.out];exact aVz _)]at hz;cases hz);show _=_;rw[this,aW4 (by rw[hl.out];exact aVz _),aXd (by rw[hl.out];exact aVz _)]
  have i1:=aYp k;go_wp2
  go_region_law ((first
   |(refine gG _ iA (by rfl) _ _ (by rfl) w _ k (ivs (xs.take k)) (by rfl) (by first|exact HO.out|exact HO.out.alloc _|exact(HO.out.alloc _).drew|exact HO.out.drew.alloc _|exact HO.out.drew) _ 1 1 [iv x] (by rfl) (by first|exact Sl.new wr #[iv x] _ 1 rfl (by decide)|exact(Sl.new wr #[iv x] _ 1 rfl (by decide)).ext (Ext.drew (Ext.refl _))|exact Sl.new wr.drew #[iv x] _ 1 rfl (by decide)) (rD [x]) (by omega) (by simp;omega) ?_
     intro p1 c1 w1 a g;have f:Ext w w1:=Ext.own (by exact .drew (.alloc hE _)) (by first|exact HO.out|exact HO.out.alloc _|exact(HO.out.alloc _).drew|exact HO.out.drew.alloc _|exact HO.out.drew) g (aVz _);have j:=xQ a;have s:=xQ (HS.out.ext f);have af:=f.sz
     clear a g)
   |(refine gG _ iA (by rfl) _ _ (by rfl) w _ (k+1) (ivs (xs.take k)++ [iv x]) (by rfl) j _ 0 _ (ivs []) (by rfl) (aTb _ _ (by unfold maxLen;omega)) (rD _) (by omega) (by omega) ?_
     intro p2 c2 w2 e l;have r:Ext w w2:=Ext.own f j l (aVz _);have o:=xQ e
     clear e l)))
  all_goals go_wp2
  all_goals go_ret
  all_goals exact fE (by rw[d.out];simp;rw[hl.out]) (by rw[d.out];have:=o.out;rw[aW4 (by rw[hl.out];exact aVz _)]at this;simpa using this) r
theorem aId:(xs.mergeSort fun x y=>decide (x≤y))=iP xs:=by refine qQ (List.mergeSort_perm _ _) ?_;have:=List.pairwise_mergeSort (le:=fun x y:Int=>decide (x≤y)) (fun a b c h1 h2=>by simp at*;omega) (fun a b=>by simp;omega) xs;simpa using this
theorem aQo (h:w.ownsRow B TI 1 (.slice p n a) n (ivs xs))(hn:n≤1000000):
  U 66 #[.slice p n a] w fun e w'=>e= .returned (.tuple #[])∧w'.ownsRow B TI 1 (.slice p n a) n (ivs (iP xs))∧w.grownBy w' (Value.slice p n a).ownBlock:=by
 have hl:xs.length=n:=by have:=h.1;simpa using this
 subst hl;by_cases h0:xs.length=0
 ·obtain rfl:xs= []:=aWv h0;refine(Tryz.slices_Sort_int_none p a w).mono ?_;rintro e w' ⟨rfl,rfl⟩;exact⟨rfl,h,aXk _ _⟩
 rcases h.2 with⟨h1,h2⟩|⟨g,cap',cur,h1,hb,hg,hnc,hm,hs,ht⟩
 ·exact absurd h2 h0
 injection h1 with e1 e2 e3;subst e1 e3;refine(Tryz.slices_Sort_int g 0 a xs w (Go.holds_of_blockI hg (by simpa using ht)) (aX6.1 hg).1 (by omega)).mono ?_;rintro e w' ⟨rfl,k,os,rfl⟩;rw[aId];exact⟨rfl,Go.ownsRow_sortedI (aE0 xs) hb hg hnc hm hs,Go.grownBy_sortedI _⟩
theorem aM {w:World}{B n:Nat}{xs:List Value}(ho:w.ownsRow B e sz v n xs)(h:Ext w w'):w'.ownsRow B e sz v n xs:=
 ho.kept (row:=none) ⟨h.os,h.tape,h.output,h.size,fun k hk _=>h.block k hk⟩ (by cases v.ownBlock<;>simp)
theorem bF {w:World}{B B' n:Nat}{xs:List Value}(h:w.ownsRow B e sz v n xs)(hb:B'≤B):w.ownsRow B' e sz v n xs:=by
 refine⟨h.1,?_⟩;rcases h.2 with h2|⟨g,a,b,e1,c,r⟩
 ·exact .inl h2
 exact .inr ⟨g,a,b,e1,aW8 hb c,r⟩
theorem aKg (HV:xB 30 #[aH aA aB p n a] w false):
  U 29 #[aH aA aB p n a] w (cC [] w):=by
 go_enter func29,ntmps29;go_wp2_with fail;refine Ω (HV _ (by exact .alloc (.alloc (.refl _) _) _)) fun w1 h1=>?_
 go_wp2;go_ret;have ho:((w.alloc (.cells #[aA,aB,.slice p n a] 27)).alloc (.cells #[] TI)).ownsRow w TI 1 (.slice (some ⟨(w.alloc (.cells #[aA,aB,.slice p n a] 27)).heap.size,0,none⟩) 0 0) 0 []:=aX7 _ #[] 0 (by simp) (by simp[maxLen]) rfl;exact fE rfl (by simpa using aM ho h1) (by exact .trans (.alloc (.alloc (.refl _) _) _) h1)
theorem aNx (hn:n≤12)(HS:Hid (Sl w p n d 1 (ivs xs)))(HV:xB 30 #[aH aA aB p n d] w true):
  U 29 #[aH aA aB p n d] w (cC (jC xs) w):=by
 have hl:=xQ HS.out.ilen;go_enter func29,ntmps29;go_wp2_with fail;refine Ω (HV _ (by exact .alloc (.alloc (.refl _) _) _)) fun w1 h1=>?_
 have ho:((w.alloc (.cells #[aA,aB,.slice p n d] 27)).alloc (.cells #[] TI)).ownsRow w TI 1 (.slice (some ⟨(w.alloc (.cells #[aA,aB,.slice p n d] 27)).heap.size,0,none⟩) 0 0) 0 []:=aX7 _ #[] 0 (by simp) (by simp[maxLen]) rfl;have l:=xQ (aM ho h1);have t:(w:Nat)<w1:=aVy (by first|(simp;omega)|simp) h1.sz;have eb:w1.cell? ⟨w,2,none⟩=some (.slice p n d):=by rw[h1.cells.1 _ _ (by simp;omega)];simp
 have s:Ext w w1:=by exact .trans (.alloc (.alloc (.refl _) _) _) h1
 go_wp2;go_loopw [3,4] (fun v i wr=> ∃(k:Nat) (q:OA) (m c:Nat),k≤n∧i=I k∧v= .slice q m c∧m≤k∧wr.ownsRow w TI 1 (.slice q m c) m (ivs (iP (eJ (xs.take k))))∧Ext w1 wr) (fun _ i _=>n-(intOf i).toNat)
 case atStart=>exact⟨0,_,0,0,aW6 _,rfl,rfl,aVz _,by simpa[eJ,iP]using l.out,Ext.refl _⟩
 case round=>
  obtain⟨k,q,m,c,hk,rfl,rfl,u,j,hE⟩:=hrel;have HO:=xQ j;have g:=s.trans hE;have ec:wr.cell? ⟨w,2,none⟩=some (.slice p n d):=(hE.cells.1 _ _ t).trans eb;by_cases hlt:k<n
  ·obtain⟨b,y,x,rfl,hx,hb,r⟩:=(HS.out.ext g).int_at hlt;have HX:=xQ hx;by_cases hx0:0<x
   ·have a:Hid (iP (eJ (xs.take (k+1)))=oG x (iP (eJ (xs.take k)))):=by
     show _=_;rw[aX HX.out,oV,if_pos hx0,aB9]
    have HC:Hid (∀w',Ext wr w'→U 64 #[.slice q m c,x] w' (cC (oG x (iP (eJ (xs.take k)))) w')):=fun w' hx=>aG3 q m c _ x w' (by omega) ((Sl.own HO.out).ext hx)
    have h:(oG x (iP (eJ (xs.take k)))).length=m+1:=by rw[aRn];have:=HO.out.1;simp at this;omega
    have f:=xQ h;go_wp2_with fail;refine(HC _ (by exact .refl _)).mono ?_;rintro e w2 ⟨q2,c2,rfl,h2,h3⟩;have o:Hid (w2.ownsRow w TI 1 (.slice q2 (m+1) c2) (m+1) (ivs (iP (eJ (xs.take (k+1)))))):=by rw[a.out,←f.out];exact bF h2 g.sz
    rw[f.out];go_wp2;go_roundw
    case rel=>exact⟨k+1,q2,m+1,c2,by omega,by go_num,rfl,by omega,o.out,by exact .trans hE h3⟩
    case measure=>simp[intOf];omega
   have a:Hid (iP (eJ (xs.take (k+1)))=iP (eJ (xs.take k))):=by show _=_;rw[aX HX.out,oV,if_neg hx0,aWr]
   go_wp2;go_roundw
   case rel=>exact⟨k+1,q,m,c,by omega,by go_num,rfl,by omega,by rw[a.out];exact HO.out,hE⟩
   case measure=>simp[intOf];omega
  have a:Hid (iP (eJ (xs.take k))=jC xs):=by show _=_;rw[aW4 (by rw[hl.out];omega)];rfl
  go_wp2;go_ret;exact fE (by rw[←a.out];have:=HO.out.1;simpa using this) (by rw[←a.out];exact HO.out) g
theorem aLs (HV:xB 34 #[aH aA aB p n a] w false):
  U 36 #[aH aA aB p n a] w (cC [] w):=by
 go_enter func36,ntmps36;go_wp2_with fail;refine Ω (HV _ (by exact .alloc (.refl _) _)) fun w1 h1=>?_
 go_wp2;go_ret;exact fE rfl (aW9 _ _ _ _) (by exact .trans (.alloc (.refl _) _) h1)
theorem aP1 (f:Nat)(xs:List Int)(w:World)(hn:n≤12)(HS:Hid (Sl w p n f 1 (ivs xs)))(HV:xB 34 #[aH aA aB p n f] w true):
  U 36 #[aH aA aB p n f] w (cC (jC xs) w):=by
 have hl:=xQ HS.out.ilen;go_enter func36,ntmps36;go_wp2_with fail;refine Ω (HV _ (by exact .alloc (.refl _) _)) fun w1 h1=>?_
 have eb:w1.cell? ⟨w,2,none⟩=some (.slice p n f):=by rw[h1.cells.1 _ _ (by simp)];simp
 have g:Ext w w1:=by exact .trans (.alloc (.refl _) _) h1
 go_wp2;go_loopw [3,12] (fun v i wr=> ∃(k:Nat) (q:OA) (m c:Nat),k≤n∧i=I k∧v= .slice q m c∧m≤k∧wr.ownsRow w1 TI 1 (.slice q m c) m (ivs (eJ (xs.take k)))∧Ext w1 wr) (fun _ i _=>n-(intOf i).toNat)
 case atStart=>exact⟨0,none,0,0,aW6 _,rfl,rfl,aVz _,aW9 _ _ _ _,Ext.refl _⟩
 case round=>
  obtain⟨k,q,m,c,hk,rfl,rfl,aa,r,hE⟩:=hrel;have HO:=xQ r;have l:=g.trans hE;have ab:=hE.sz;have z:=g.sz;by_cases hlt:k<n
  ·obtain⟨b,ad,x,rfl,hx,hb,y⟩:=(HS.out.ext l).int_at hlt;have HX:=xQ hx;by_cases hx0:0<x
   ·have a:Hid (eJ (xs.take (k+1))=eJ (xs.take k)++ [x]):=by
     show _=_;rw[aX HX.out,oV,if_pos hx0]
    go_wp2_with (at_builtin;refine dB iA rfl _ _ rfl w1 _ _ _ rfl (HO.out.alloc _) _ _ x _ rfl (by simp) (by omega) (by simp;omega) ?_;intro p' j w2 d o;have s:=xQ d;have t:Ext w1 w2:=Ext.own (hE.alloc _) (HO.out.alloc _) o (aVz _);clear d o);go_roundw
    case rel=>exact⟨k+1,p',m+1,j,by omega,by go_num,rfl,by omega,by rw[a.out];exact s.out,t⟩
    case measure=>simp[intOf];omega
   have a:Hid (eJ (xs.take (k+1))=eJ (xs.take k)):=by show _=_;rw[aX HX.out,oV,if_neg hx0,aWr]
   go_wp2;go_roundw
   case rel=>exact⟨k+1,q,m,c,by omega,by go_num,rfl,by omega,by rw[a.out];exact HO.out,hE⟩
   case measure=>simp[intOf];omega
  have a:Hid (iP (eJ (xs.take k))=jC xs):=by show _=_;rw[aW4 (by rw[hl.out];omega)];rfl
  go_wp2_with fail;refine(aQo w1 q m c _ _ HO (by omega)).mono ?_;rintro e w2 ⟨rfl,h2,h3⟩;have u:Ext w w2:=l.own HO h3 (by omega);have h:=xQ h2;go_wp2;go_ret;exact fE (by rw[←a.out];have:=h.out.1;simpa using this) (by rw[←a.out];exact bF h g.sz) u
theorem aUq (hS:Sl w p n a 1 (ivs xs)):U 29 #[aH aA aB p n a] w (cC (if aO aA aB xs then jC xs else []) w):=by
 have hl:=hS.ilen;cases h:aO aA aB xs with
 |true=>
  have h2:iU aA aB n=true:=by simp only[aO,aWc]at h;rw[←hl];exact h.1
  rw[if_pos rfl];exact aNx aA aB p n a xs w (cQ h2).2.2.2.2.2.1 hS (fun w' hx=>by rw[←h];exact iJ aA aB p n a xs w' (hS.ext hx))
 |false=>rw[if_neg (by simp)];exact aKg aA aB p n a w (fun w' hx=>by rw[←h];exact iJ aA aB p n a xs w' (hS.ext hx))
theorem aV6 (hS:Sl w p n a 1 (ivs xs)):U 36 #[aH aA aB p n a] w (cC (if aO aA aB xs then jC xs else []) w):=by
 have hl:=hS.ilen;cases h:aO aA aB xs with
 |true=>
  have h2:iU aA aB n=true:=by simp only[aO,aWc]at h;rw[←hl];exact h.1
  rw[if_pos rfl];exact aP1 aA aB p n a xs w (cQ h2).2.2.2.2.2.1 hS (fun w' hx=>by rw[←h];exact iK aA aB p n a xs w' (hS.ext hx))
 |false=>rw[if_neg (by simp)];exact aLs aA aB p n a w (fun w' hx=>by rw[←h];exact iK aA aB p n a xs w' (hS.ext hx))
def iV (f:Nat→Bool):Nat→List Int
 |0=> []
 |k+1=>iV f k++(if f k then [(k:Int)]else [])
def dQ (xs:List Int)(k:Nat):Bool:=xs[k]? ==some 0
def vI (xs:List Int):List Int:=iV (dQ xs) xs.length
theorem aMu {wr w2:World}{B o n:Nat}{u:Value}{xs:List Value}{ob:Obj}(ho:wr.ownsRow (B+1) TI 1 v n xs)(hg:(wr.alloc ob).grownBy w2 v.ownBlock)(hb:B<wr.heap.size)(hc:wr.cell? ⟨B,o,none⟩=some u):w2.cell? ⟨B,o,none⟩=some u:=by rw[World.cell?_of_block (w:=wr.alloc ob) (hg.block B (by simp;omega) (fun e=>by have:=ho.lt B e.symm;omega))];rw[((Ext.refl wr).alloc ob).cells.1 B o hb];exact hc
theorem aKe (HV:xB 30 #[aH aA aB p n a] w false):
  U 195 #[aH aA aB p n a] w (cC [] w):=by
 go_enter func195,ntmps195;go_wp2_with fail;refine Ω (HV _ (by exact .alloc (.alloc (.refl _) _) _)) fun w1 h1=>?_
 have ho:((w.alloc (.cells #[aA,aB,.slice p n a] 27)).alloc (.cells #[] TI)).ownsRow (w.heap.size+1) TI 1 (.slice (some ⟨(w.alloc (.cells #[aA,aB,.slice p n a] 27)).heap.size,0,none⟩) 0 0) 0 []:=aX7 _ #[] 0 (by simp) (by simp[maxLen]) rfl;have b:=xQ (aM ho h1);go_wp2;go_ret;exact fE (xs:= []) rfl (by simpa using bF b (Nat.le_succ _)) (by exact .trans (.alloc (.alloc (.refl _) _) _) h1)
theorem aNv (hn:n≤12)(HS:Hid (Sl w p n d 1 (ivs xs)))(HV:xB 30 #[aH aA aB p n d] w true):
  U 195 #[aH aA aB p n d] w (cC (vI xs) w):=by
 have hl:=xQ HS.out.ilen;go_enter func195,ntmps195;go_wp2_with fail;refine Ω (HV _ (by exact .alloc (.alloc (.refl _) _) _)) fun w1 h1=>?_
 have ho:((w.alloc (.cells #[aA,aB,.slice p n d] 27)).alloc (.cells #[] TI)).ownsRow (w.heap.size+1) TI 1 (.slice (some ⟨(w.alloc (.cells #[aA,aB,.slice p n d] 27)).heap.size,0,none⟩) 0 0) 0 []:=aX7 _ #[] 0 (by simp) (by simp[maxLen]) rfl;have s:=xQ (aM ho h1);have ab:(w:Nat)<w1:=aVy (by first|(simp;omega)|simp) h1.sz;have eb:w1.cell? ⟨w,2,none⟩=some (.slice p n d):=by rw[h1.cells.1 _ _ (by first|(simp;done)|(simp;omega))];simp
 have aa:Ext w w1:=by exact .trans (.alloc (.alloc (.refl _) _) _) h1
 go_wp2;go_loopw [3,4] (fun v i wr=> ∃(k:Nat) (q:OA) (m c:Nat),k≤n∧i=I k∧v= .slice q m c∧m≤k∧wr.ownsRow (w.heap.size+1) TI 1 (.slice q m c) m (ivs (iV (dQ xs) k))∧Ext w wr∧wr.cell? ⟨w,2,none⟩=some (.slice p n d)∧w.heap.size<wr.heap.size) (fun _ i _=>n-(intOf i).toNat)
 case atStart=>exact⟨0,_,0,0,aW6 _,rfl,rfl,aVz _,by simpa[iV]using s.out,aa,eb,ab⟩
 case round=>
  obtain⟨k,q,m,c,hk,rfl,rfl,ad,o,g,ec,j⟩:=hrel;have HO:=xQ o;by_cases hlt:k<n
  ·obtain⟨b,ae,x,rfl,hx,hb,z⟩:=(HS.out.ext g).int_at hlt;have HX:=xQ hx;by_cases hx0:x=0
   ·have t0:(x==0)=true:=by simp[hx0]
    have a:Hid (iV (dQ xs) (k+1)=iV (dQ xs) k++ [(k:Int)]):=by show _=_;rw[iV,if_pos (by unfold dQ;rw[HX.out,hx0];rfl)]
    go_wp2_with (at_builtin;refine dB iA rfl _ _ rfl (w.heap.size+1) _ _ _ rfl (HO.out.alloc _) _ _ (k:Int) _ rfl (by simp) (by omega) (by simp;omega) ?_;intro p' l w2 f h;have t:=xQ f;have y:Ext w w2:=Ext.own (g.alloc _) (HO.out.alloc _) h (by omega);have u:=aMu HO h j ec;have r:(w:Nat)<w2:=aVy j (by have:=h.size;simp at this;omega);clear f h);go_roundw
    case rel=>exact⟨k+1,p',m+1,l,by omega,by go_num,rfl,by omega,by rw[a.out];exact t.out,y,u,r⟩
    case measure=>simp[intOf];omega
   have t0:(x==0)=false:=by simp[hx0]
   have a:Hid (iV (dQ xs) (k+1)=iV (dQ xs) k):=by show _=_;rw[iV,if_neg (by unfold dQ;rw[HX.out];simp[hx0]),aWr]
   go_wp2;go_roundw
   case rel=>exact⟨k+1,q,m,c,by omega,by go_num,rfl,by omega,by rw[a.out];exact HO.out,g,ec,j⟩
   case measure=>simp[intOf];omega
  have a:Hid (iV (dQ xs) k=vI xs):=by show _=_;unfold vI;rw[hl.out,show k=n by omega]
  go_wp2;go_ret;exact fE (by rw[←a.out];have:=HO.out.1;simpa using this) (by rw[←a.out];exact bF HO (Nat.le_succ _)) g
theorem aQf (hS:Sl w p n a 1 (ivs xs)):U 195 #[aH aA aB p n a] w (cC (if aO aA aB xs then vI xs else []) w):=by
 have hl:=hS.ilen;cases h:aO aA aB xs with
 |true=>
  have hb:n≤12:=by unfold aO at h;rw[aWc]at h;have:=cQ h.1;omega
  simpa using aNv aA aB p n a xs w hb hS (fun w' hx=>by have:=iJ aA aB p n a xs w' (hS.ext hx);rwa[h]at this)
 |false=>simpa using aKe aA aB p n a w (fun w' hx=>by have:=iJ aA aB p n a xs w' (hS.ext hx);rwa[h]at this)
set_option maxRecDepth 100000 in set_option maxHeartbeats 1000000 in
theorem aLr (HV:xB 34 #[aH aA aB p n a] w false):
  U 183 #[aH aA aB p n a] w (cC [] w):=by
 go_enter func183,ntmps183;go_wp2_with fail;refine Ω (HV _ (by exact .alloc (.refl _) _)) fun w1 h1=>?_
 go_wp2;go_ret;exact fE (xs:= []) rfl (aW9 _ _ _ _) (by exact .trans (.alloc (.refl _) _) h1)
set_option maxRecDepth 100000 in set_option maxHeartbeats 1000000 in
theorem aP0 (hn:n≤12)(HS:Hid (Sl w p n d 1 (ivs xs)))(HV:xB 34 #[aH aA aB p n d] w true):
  U 183 #[aH aA aB p n d] w (cC (vI xs) w):=by
 have hl:=xQ HS.out.ilen;go_enter func183,ntmps183;go_wp2_with fail;refine Ω (HV _ (by exact .alloc (.refl _) _)) fun w1 h1=>?_
 have aa:(w:Nat)<w1:=aVy (by first|(simp;omega)|simp) h1.sz;have eb:w1.cell? ⟨w,2,none⟩=some (.slice p n d):=by rw[h1.cells.1 _ _ (by first|(simp;done)|(simp;omega))];simp
 have z:Ext w w1:=by exact .trans (.alloc (.refl _) _) h1
 go_wp2;go_loopw [3,12] (fun v i wr=> ∃(k:Nat) (q:OA) (m c:Nat),k≤n∧i=I k∧v= .slice q m c∧m≤k∧wr.ownsRow (w.heap.size+1) TI 1 (.slice q m c) m (ivs (iV (dQ xs) k))∧Ext w wr∧wr.cell? ⟨w,2,none⟩=some (.slice p n d)∧w.heap.size<wr.heap.size) (fun _ i _=>n-(intOf i).toNat)
 case atStart=>exact⟨0,_,0,0,aW6 _,rfl,rfl,aVz _,aW9 _ _ _ _,z,eb,aa⟩
 case round=>
  obtain⟨k,q,m,c,hk,rfl,rfl,ab,o,g,ec,j⟩:=hrel;have HO:=xQ o;by_cases hlt:k<n
  ·obtain⟨b,ad,x,rfl,hx,hb,y⟩:=(HS.out.ext g).int_at hlt;have HX:=xQ hx;by_cases hx0:x=0
   ·have t0:(x==0)=true:=by simp[hx0]
    have a:Hid (iV (dQ xs) (k+1)=iV (dQ xs) k++ [(k:Int)]):=by show _=_;rw[iV,if_pos (by unfold dQ;rw[HX.out,hx0];rfl)]
    go_wp2_with (at_builtin;refine dB iA rfl _ _ rfl (w.heap.size+1) _ _ _ rfl (HO.out.alloc _) _ _ (k:Int) _ rfl (by simp) (by omega) (by simp;omega) ?_;intro p' l w2 f h;have s:=xQ f;have u:Ext w w2:=Ext.own (g.alloc _) (HO.out.alloc _) h (by omega);have t:=aMu HO h j ec;have r:(w:Nat)<w2:=aVy j (by have:=h.size;simp at this;omega);clear f h);go_roundw
    case rel=>exact⟨k+1,p',m+1,l,by omega,by go_num,rfl,by omega,by rw[a.out];exact s.out,u,t,r⟩
    case measure=>simp[intOf];omega
   have t0:(x==0)=false:=by simp[hx0]
   have a:Hid (iV (dQ xs) (k+1)=iV (dQ xs) k):=by show _=_;rw[iV,if_neg (by unfold dQ;rw[HX.out];simp[hx0]),aWr]
   go_wp2;go_roundw
   case rel=>exact⟨k+1,q,m,c,by omega,by go_num,rfl,by omega,by rw[a.out];exact HO.out,g,ec,j⟩
   case measure=>simp[intOf];omega
  have a:Hid (iV (dQ xs) k=vI xs):=by show _=_;unfold vI;rw[hl.out,show k=n by omega]
  go_wp2;go_ret;exact fE (by rw[←a.out];have:=HO.out.1;simpa using this) (by rw[←a.out];exact bF HO (Nat.le_succ _)) g
theorem aV5 (hS:Sl w p n a 1 (ivs xs)):U 183 #[aH aA aB p n a] w (cC (if aO aA aB xs then vI xs else []) w):=by
 have hl:=hS.ilen;cases h:aO aA aB xs with
 |true=>
  have hb:n≤12:=by unfold aO at h;rw[aWc]at h;have:=cQ h.1;omega
  simpa using aP0 aA aB p n a xs w hb hS (fun w' hx=>by have:=iK aA aB p n a xs w' (hS.ext hx);rwa[h]at this)
 |false=>simpa using aLr aA aB p n a w (fun w' hx=>by have:=iK aA aB p n a xs w' (hS.ext hx);rwa[h]at this)
def zZ:Go.Shelf.Ren:=⟨fun|166=>62|240=>104|276=>133|n=>n,fun|0=>0|3=>3|4=>4|5=>5|9=>9|20=>20|37=>22|70=>94|72=>96|75=>98|80=>102|164=>162|n=>n,fun|n=>n⟩
theorem aTu:Go.Proofs.Lays.n166 Tryz.prog zZ:={
 mixed:=by kernel_rfl,
 f166:=Tryz.func62.trans (congrArg some (by kernel_rfl)),
 f240:=Tryz.func104.trans (congrArg some (by kernel_rfl)),
 f276:=Tryz.func133.trans (congrArg some (by kernel_rfl)),
 t0:=Tryz.underlying0,
 a0:=Tryz.isAgg0,
 z0:=Tryz.sizeOf0,
 v0:=Tryz.zeroValue0,
 t3:=Tryz.underlying3,
 a3:=Tryz.isAgg3,
 z3:=Tryz.sizeOf3,
 v3:=Tryz.zeroValue3,
 t4:=Tryz.underlying4,
 a4:=Tryz.isAgg4,
 z4:=Tryz.sizeOf4,
 v4:=Tryz.zeroValue4,
 t9:=Tryz.underlying9,
 a9:=Tryz.isAgg9,
 z9:=Tryz.sizeOf9,
 v9:=Tryz.zeroValue9,
 t20:=Tryz.underlying20,
 a20:=Tryz.isAgg20,
 z20:=Tryz.sizeOf20,
 v20:=Tryz.zeroValue20,
 t37:=Tryz.underlying22,
 a37:=Tryz.isAgg22,
 z37:=Tryz.sizeOf22,
 v37:=Tryz.zeroValue22,
 t70:=Tryz.underlying94,
 a70:=Tryz.isAgg94,
 z70:=Tryz.sizeOf94,
 v70:=Tryz.zeroValue94,
 t72:=Tryz.underlying96,
 a72:=Tryz.isAgg96,
 z72:=Tryz.sizeOf96,
 v72:=Tryz.zeroValue96,
 t75:=Tryz.underlying98,
 a75:=Tryz.isAgg98,
 z75:=Tryz.sizeOf98,
 v75:=Tryz.zeroValue98,
 t164:=Tryz.underlying162,
 a164:=Tryz.isAgg162,
 z164:=Tryz.sizeOf162,
 v164:=Tryz.zeroValue162}
theorem aSn:Go.Proofs.Builder.Extra Tryz.prog zZ:={
 sizeBuilder:=by kernel_rfl
 liesBuilder:=by kernel_rfl
 t5:=Tryz.underlying5
 a5:=Tryz.isAgg5
 z5:=Tryz.sizeOf5
 v5:=Tryz.zeroValue5
 infoByte:=by kernel_rfl
 cellsByte:=by kernel_rfl
 sizeByte:=by kernel_rfl
 neB5:=by decide}
def zY:Go.Shelf.Ren:=⟨fun|167=>61|240=>104|276=>133|n=>n,fun|0=>0|3=>3|4=>4|5=>5|9=>9|20=>20|37=>22|70=>94|72=>96|75=>98|80=>102|164=>162|n=>n,fun|n=>n⟩
theorem aTt:Go.Proofs.Lays.n167 Tryz.prog zY:={
 mixed:=by kernel_rfl,
 f167:=Tryz.func61.trans (congrArg some (by kernel_rfl)),
 f240:=Tryz.func104.trans (congrArg some (by kernel_rfl)),
 f276:=Tryz.func133.trans (congrArg some (by kernel_rfl)),
 t0:=Tryz.underlying0,
 a0:=Tryz.isAgg0,
 z0:=Tryz.sizeOf0,
 v0:=Tryz.zeroValue0,
 t4:=Tryz.underlying4,
 a4:=Tryz.isAgg4,
 z4:=Tryz.sizeOf4,
 v4:=Tryz.zeroValue4,
 t5:=Tryz.underlying5,
 a5:=Tryz.isAgg5,
 z5:=Tryz.sizeOf5,
 v5:=Tryz.zeroValue5,
 t9:=Tryz.underlying9,
 a9:=Tryz.isAgg9,
 z9:=Tryz.sizeOf9,
 v9:=Tryz.zeroValue9,
 t20:=Tryz.underlying20,
 a20:=Tryz.isAgg20,
 z20:=Tryz.sizeOf20,
 v20:=Tryz.zeroValue20,
 t37:=Tryz.underlying22,
 a37:=Tryz.isAgg22,
 z37:=Tryz.sizeOf22,
 v37:=Tryz.zeroValue22,
 t70:=Tryz.underlying94,
 a70:=Tryz.isAgg94,
 z70:=Tryz.sizeOf94,
 v70:=Tryz.zeroValue94,
 t72:=Tryz.underlying96,
 a72:=Tryz.isAgg96,
 z72:=Tryz.sizeOf96,
 v72:=Tryz.zeroValue96,
 t75:=Tryz.underlying98,
 a75:=Tryz.isAgg98,
 z75:=Tryz.sizeOf98,
 v75:=Tryz.zeroValue98,
 t164:=Tryz.underlying162,
 a164:=Tryz.isAgg162,
 z164:=Tryz.sizeOf162,
 v164:=Tryz.zeroValue162}
theorem aSm:Go.Proofs.Builder.Extra Tryz.prog zY:={
 sizeBuilder:=by kernel_rfl
 liesBuilder:=by kernel_rfl
 t5:=Tryz.underlying5
 a5:=Tryz.isAgg5
 z5:=Tryz.sizeOf5
 v5:=Tryz.zeroValue5
 infoByte:=by kernel_rfl
 cellsByte:=by kernel_rfl
 sizeByte:=by kernel_rfl
 neB5:=by decide}
theorem pO (s:ByteArray)(w:World)(h:Lib.IsBuilderF 96 5 B b bs w)(hl:bs.length+s.size≤140737488355328)(hB:B≤w.heap.size):
  Calls Tryz.prog 62 #[.pointer (some ⟨b,0,none⟩),.string s] w fun e w'=>e= .returned (.tuple #[.int .i64 s.size,.nilIface])∧Lib.BuilderAtF 96 5 B b (.pointer (some ⟨b,0,none⟩)) (bs++Lib.strCells s) w'∧Below B w w'∧Lib.OthersKept 5 (some b) w w':=
 Any.Builder_WriteString_k aTu aSn B b bs s w h hl hB
theorem nC (c:Int)(w:World)(h:Lib.IsBuilderF 96 5 B b bs w)(hl:bs.length+1≤140737488355328)(hB:B≤w.heap.size):
  Calls Tryz.prog 61 #[.pointer (some ⟨b,0,none⟩),.int .u8 c] w fun e w'=>e= .returned .nilIface∧Lib.BuilderAtF 96 5 B b (.pointer (some ⟨b,0,none⟩)) (bs++ [.int .u8 c]) w'∧Below B w w'∧Lib.OthersKept 5 (some b) w w':=
 Any.Builder_WriteByte_k aTt aSm B b bs c w h hl hB
theorem aVo:prog.globalNamed "internal/strconv.uint64pow10" =some 1:=by kernel_rfl
structure Env (w:World):Prop where
 tab:Lib.TabIs prog w "internal/strconv.uint64pow10" .u64 Lib.pow10Tab
 mx: ∃m,w.cell? ⟨0,0,none⟩=some (.int .i64 m)
theorem Env.ext {w:World}(h:Env w)(hb:Ext w w'):Env w' where
 tab:=Joins.var_stays aVo h.tab hb (aVz _)
 mx:=by obtain⟨m,hm⟩:=h.mx;exact⟨m,(hb.cells.1 _ _ (World.block_lt_of_cell? w _ hm)).trans hm⟩
theorem Env.start {w:World}(ht:Lib.TabIs prog w "internal/strconv.uint64pow10" .u64 Lib.pow10Tab)(hS:w.ShapedOpen prog):Env w where
 tab:=ht
 mx:=Tryz.laysM145.s1_3 w hS
abbrev str (l:List UInt8):Value:= .string ⟨l.toArray⟩
theorem jZ {a b:List UInt8}(h:a=b):Ending.returned (str a)= .returned (str b):=by rw[h]
theorem aIk:Lib.itoa (n:Int)=Lib.decDigits n:=by unfold Lib.itoa;rw[if_neg (by omega)];simp
theorem aSp (os:Array Obj):Ext w (Sort.grow w os):=
 ⟨rfl,rfl,rfl,by simp,fun k hk=>by simp only[Sort.grow];rw[Array.getElem?_append_left hk]⟩
theorem aRk (hn:n≤9223372036854775807)(hE:Env w):
  U 42 #[n] w (Z (str (Lib.decDigits n)) w):=by
 refine(Tryz.strconv_Itoa (n:Int) (by omega) (by omega) w hE.tab).mono ?_;rintro e w' ⟨rfl,k,os,rfl⟩;exact⟨by rw[aIk],(Ext.drewN (Ext.refl w) k).trans (aSp _ _)⟩
theorem vG (n:Int)(w:World)(h0:0≤n)(hn:n≤9223372036854775807)(hE:Env w):
  U 42 #[n] w (Z (str (Lib.decDigits n.toNat)) w):=by
 obtain⟨m,rfl⟩:=aWk h0;exact aRk m w (by omega) hE
theorem aUk (W:World)(b:Nat)(h:W.cell? ⟨b,0,none⟩=some (.int .u8 x)):Sem.run prog (convert 22 9 (.slice (some ⟨b,0,none⟩) 1 1)) W= .ok (str [UInt8.ofNat x.toNat]) W:=
 run_convert_bytes_arg W 22 5 underlying22 underlying5 b 0 1 1 [x] rfl (fun i hi=>by
  obtain rfl:i=0:=by omega
  simpa using h) 9 underlying9
theorem iC (h:n<10):Lib.decDigits n= [UInt8.ofNat (48+n)]:=by rw[Lib.decDigits];simp[h]
theorem nQ (h: ¬n<10):Lib.decDigits n=Lib.decDigits (n/10)++ [UInt8.ofNat (48+n%10)]:=by rw[Lib.decDigits];simp[h]
theorem cG (h:n≤9223372036854775807):(Lib.decDigits n).length≤21:=by rw[←aIk];exact Lib.itoa_length_le _ (by omega) (by omega)
theorem vJ:1≤(Lib.decDigits n).length:=by
 by_cases h:n<10
 ·rw[iC n h];simp
 rw[nQ n h];simp
theorem aBw (n:Int)(w:World)(h0:0≤n)(a:n<10):
  U 51 #[n] w (Z (str (Lib.decDigits n.toNat)) w):=by
 have b:=aUk (48+n);have HD:Hid (Lib.decDigits n.toNat= [UInt8.ofNat (48+n).toNat]):=by rw[iC _ (by omega),show(48+n).toNat=48+n.toNat by omega];rfl
 go_enter func51,ntmps51;go_wp2_with fail;go_ret;exact⟨jZ HD.out.symm,(Ext.refl _).alloc _⟩
theorem aLd (n:Int)(w:World)(h0:0≤n)(a:10≤n)(h:n≤9223372036854775807)(ih: ∀w,U 51 #[(n/10:Int)] w (Z (str (Lib.decDigits (n/10).toNat)) w)):
  U 51 #[n] w (Z (str (Lib.decDigits n.toNat)) w):=by
 have c:=aUk (48+n%10);have IH:Hid (∀w,U 51 #[(n/10:Int)] w (Z (str (Lib.decDigits (n/10).toNat)) w)):=ih;have hq:=aY9 n 10 ⟨h0,h,by omega⟩;have hr:=IntWalk.rem_in n 10 h0;have d:=aYs (n%10);have hs:=aYs (48+n%10);have hc:IntKind.u8.wrap (48+n%10)=48+n%10:=IntWalk.u8_in _ (by omega);have hl:(Lib.decDigits (n/10).toNat).length≤21:=cG _ (by omega);have HD:Hid (Lib.decDigits n.toNat=Lib.decDigits (n/10).toNat++ [UInt8.ofNat (48+n%10).toNat]):=by show _=_;rw[nQ _ (by omega),show(48+n%10).toNat=48+n.toNat%10 by omega,show(n/10).toNat=n.toNat/10 by omega]
 go_enter func51,ntmps51;go_wp2_with fail;go_region_with (go_at_call 51;go_must (go_fit (IH _));rintro e w' ⟨rfl,h1⟩;have b:=h1.cells.1)
 all_goals go_wp2
 all_goals go_ret
 all_goals exact⟨jZ HD.out.symm,xE⟩
theorem aG4 (k:Nat): ∀(n:Int) (w:World),0≤n→n≤k→n≤9223372036854775807→
  U 51 #[n] w (Z (str (Lib.decDigits n.toNat)) w):=by
 induction k with
 |zero=>intro n w h0 hk h;exact aBw n w h0 (by omega)
 |succ k ih=>
  intro n w h0 hk h;by_cases h10:n<10
  ·exact aBw n w h0 h10
  exact aLd n w h0 (by omega) h (fun w=>ih (n/10) w (by omega) (by omega) (by omega))
theorem lZ (n:Int)(w:World)(h0:0≤n)(h:n≤9223372036854775807):
  U 51 #[n] w (Z (str (Lib.decDigits n.toNat)) w):=aG4 n.toNat n w h0 (by omega) h
def bZ (k:Int):List UInt8:=
 if k=0 then [105,110]else if k=1 then [112,97,121]else if k=2 then [111,117,116]else if k=3 then [119,97,105,116]else if k=4 then [115,108,105,100,101]else []
def kH (k:Int):Bool:=k==1 || k==4
def gQ (k a b:Int):Bool:=decide (0≤k∧k≤4∧0≤a∧a≤9999∧0≤b∧b≤9999)&&(kH k || b==0)
def aZ (k a b:Int):List UInt8:=
 if gQ k a b then bZ k++ [32]++Lib.decDigits a.toNat++(if kH k then [32]++Lib.decDigits b.toNat else [])else []
abbrev cS (k a b:Int):Value:= .agg #[k,a,b]
theorem rF (a b:Int)(w:World)(h:a<0∨0≤a∧9999<a∨0≤a∧a≤9999∧b<0∨0≤a∧a≤9999∧0≤b∧9999<b∨0≤a∧a≤9999∧0≤b∧b≤9999∧(k==1)=false∧(k==4)=false∧(b !=0)=true
  ∨0≤a∧a≤9999∧0≤b∧b≤9999∧(k==1)=false∧(k==4)=false∧(b !=0)=false∧(k==0)=false∧(k==2)=false∧(k==3)=false):
  U 108 #[cS k a b] w (Z (str []) w):=by
 rcases h with h|⟨h0,h⟩|⟨h0,h1,h⟩|⟨h0,h1,h2,h⟩|⟨h0,h1,h2,h3,h4,h5,h6⟩|⟨h0,h1,h2,h3,h4,h5,h6,h7,h8,h9⟩
 all_goals
  go_enter func108,ntmps108;go_wp2;go_ret;exact⟨rfl,xE⟩
theorem aFp (a b:Int)(w:World)(h:(k==0)=false∧(k==1)=false∧(k==2)=false∧(k==3)=false∧(k==4)=false):
  U 46 #[cS k a b] w (Z (str []) w):=by
 obtain⟨h0,h1,h2,h3,h4⟩:=h;go_enter func46,ntmps46;go_wp2;go_ret;exact⟨rfl,xE⟩
theorem aD4 (a b:Int)(w:World)(hk:k=0∨k=1∨k=2∨k=3∨k=4)(h:a<0∨0≤a∧9999<a∨0≤a∧a≤9999∧b<0∨0≤a∧a≤9999∧0≤b∧9999<b):
  U 46 #[cS k a b] w (Z (str []) w):=by
 rcases hk with rfl|rfl|rfl|rfl|rfl
 all_goals
  rcases h with h|⟨h0,h⟩|⟨h0,h1,h⟩|⟨h0,h1,h2,h⟩
  all_goals
   go_enter func46,ntmps46;go_wp2;go_ret;exact⟨rfl,xE⟩
theorem aD3 (a b:Int)(w:World)(hk:k=0∨k=2∨k=3)(h0:0≤a)(h1:a≤9999)(h2:0≤b)(h3:b≤9999)(h4:(b !=0)=true):
  U 46 #[cS k a b] w (Z (str []) w):=by
 rcases hk with rfl|rfl|rfl
 all_goals
  go_enter func46,ntmps46;go_wp2;go_ret;exact⟨rfl,xE⟩
theorem aGq (a:Int)(w:World)(hE:Env w)(hk:k=0∨k=2∨k=3)(h0:0≤a)(h1:a≤9999):
  U 108 #[cS k a 0] w (Z (str (bZ k++ [32]++Lib.decDigits a.toNat)) w):=by
 have hl:(Lib.decDigits a.toNat).length≤21:=cG _ (by omega);have HE:=xQ hE;rcases hk with rfl|rfl|rfl
 all_goals
  go_enter func108,ntmps108;go_wp2_with fail;go_fit (vG a _ h0 (by omega) (HE.out.ext xE));rintro e w1 ⟨rfl,h1⟩;go_wp2;go_ret;exact⟨jZ (by simp[bZ]),xE⟩
theorem aGp (a b:Int)(w:World)(hE:Env w)(hk:k=1∨k=4)(h0:0≤a)(h1:a≤9999)(h2:0≤b)(h3:b≤9999):
  U 108 #[cS k a b] w (Z (str (bZ k++ [32]++Lib.decDigits a.toNat++([32]++Lib.decDigits b.toNat))) w):=by
 have hl:(Lib.decDigits a.toNat).length≤21:=cG _ (by omega);have d:(Lib.decDigits b.toNat).length≤21:=cG _ (by omega);have HE:=xQ hE;rcases hk with rfl|rfl
 all_goals
  go_enter func108,ntmps108;go_wp2_with fail;go_fit (vG a _ h0 (by omega) (HE.out.ext xE));rintro e w1 ⟨rfl,h1⟩;have c:=h1.cells.1;go_wp2_with fail;go_fit (vG b _ h2 (by omega) (HE.out.ext xE));rintro e w2 ⟨rfl,h2⟩;go_wp2;go_ret;exact⟨jZ (by simp[bZ]),xE⟩
theorem jR (hk:k=0∨k=1∨k=2∨k=3∨k=4):U 83 #[k] w fun e w'=>e= .returned (str (bZ k))∧w=w':=by
 rcases hk with rfl|rfl|rfl|rfl|rfl
 all_goals
  go_enter func83,ntmps83;go_wp2;go_ret;exact⟨jZ (by simp[bZ]),rfl⟩
theorem aFo (a:Int)(nm:List UInt8)(w:World)(t1:(k==1)=false)(t4:(k==4)=false)(h0:0≤a)(h1:a≤9999)(hN: ∀w,U 83 #[k] w fun e w'=>e= .returned (str nm)∧w=w')(he:nm.isEmpty=false)(hn:nm.length≤5):
  U 46 #[cS k a 0] w (Z (str (nm++ [32]++Lib.decDigits a.toNat)) w):=by
 have hl:(Lib.decDigits a.toNat).length≤21:=cG _ (by omega);have c:=aYt (nm.length+1);have d:=aYt (nm.length+1+(Lib.decDigits a.toNat).length)
 all_goals
  have HN:=xQ hN;go_enter func46,ntmps46;go_wp2_with (first|(go_at_call 83;refine(HN _).mono ?_;rintro e w1 ⟨rfl,rfl⟩)|go_in)
  go_region_held3 (fun w'=>w'.cell? ⟨w,0,none⟩=some (I k)∧w'.cell? ⟨w,1,none⟩=some (I a)) (go_keep)
   (first|(go_at_call 83;refine(HN _).mono ?_;rintro e w1 ⟨rfl,rfl⟩)|(go_at_call 51;refine Ω (lZ a _ h0 (by omega)) fun w1 h1=>?_;have b:=h1.cells.1))
  all_goals go_wp2
  all_goals go_ret
  all_goals exact⟨jZ (by simp),xE⟩
theorem aFn (a b:Int)(nm:List UInt8)(w:World)(hk:(k==1)=true∨(k==1)=false∧(k==4)=true)(h0:0≤a)(h1:a≤9999)(h2:0≤b)(h3:b≤9999)(hN: ∀w,U 83 #[k] w fun e w'=>e= .returned (str nm)∧w=w')(he:nm.isEmpty=false)(hn:nm.length≤5):
  U 46 #[cS k a b] w (Z (str (nm++ [32]++Lib.decDigits a.toNat++([32]++Lib.decDigits b.toNat))) w):=by
 have hl:(Lib.decDigits a.toNat).length≤21:=cG _ (by omega);have d:(Lib.decDigits b.toNat).length≤21:=cG _ (by omega);have f:=aYt (nm.length+1);have g:=aYt (nm.length+1+(Lib.decDigits a.toNat).length);rcases hk with t1|⟨t1,t4⟩
 all_goals
  have HN:=xQ hN;go_enter func46,ntmps46;go_wp2_with (first|(go_at_call 83;refine(HN _).mono ?_;rintro e w1 ⟨rfl,rfl⟩)|go_in)
  go_region_held3 (fun w'=>w'.cell? ⟨w,0,none⟩=some (I k)∧w'.cell? ⟨w,1,none⟩=some (I a)∧w'.cell? ⟨w,2,none⟩=some (I b)) (go_keep)
   (first|(go_at_call 83;refine(HN _).mono ?_;rintro e w1 ⟨rfl,rfl⟩)|(go_at_call 51;refine Ω (lZ a _ h0 (by omega)) fun w1 h1=>?_;have c:=h1.cells.1))
  all_goals go_wp2_with (first|(go_at_call 51;refine(lZ b _ h2 (by omega)).mono ?_;rintro e w2 ⟨rfl,h2⟩)|go_in)
  all_goals go_ret
  all_goals exact⟨jZ (by simp),xE⟩
theorem xY (hk:k=0∨k=1∨k=2∨k=3∨k=4):(bZ k).isEmpty=false∧(bZ k).length≤5:=by rcases hk with rfl|rfl|rfl|rfl|rfl<;>decide
theorem wP (a b:Int)(w:World):U 46 #[cS k a b] w (Z (str (aZ k a b)) w):=by
 by_cases hk:k=0∨k=1∨k=2∨k=3∨k=4
 ·by_cases hr:0≤a∧a≤9999∧0≤b∧b≤9999
  ·obtain⟨h0,h1,h2,h3⟩:=hr;obtain⟨he,hn⟩:=xY k hk;by_cases ht:k=1∨k=4
   ·have e:aZ k a b=bZ k++ [32]++Lib.decDigits a.toNat++([32]++Lib.decDigits b.toNat):=by
     rcases ht with rfl|rfl<;>simp[aZ,gQ,kH,h0,h1,h2,h3]
    rw[e];exact aFn k a b _ w (by simp;omega) h0 h1 h2 h3 (fun w=>jR k w hk) he hn
   have c:k=0∨k=2∨k=3:=by omega
   by_cases hb:b=0
   ·subst hb;have e:aZ k a 0=bZ k++ [32]++Lib.decDigits a.toNat:=by
     rcases c with rfl|rfl|rfl<;>simp[aZ,gQ,kH,h0,h1]
    rw[e];exact aFo k a _ w (by simp;omega) (by simp;omega) h0 h1 (fun w=>jR k w hk) he hn
   have e:aZ k a b= []:=by rcases c with rfl|rfl|rfl<;>simp[aZ,gQ,kH,hb]
   rw[e];exact aD3 k a b w c h0 h1 h2 h3 (by simp[hb])
  have e:aZ k a b= []:=by unfold aZ;rw[if_neg];simp[gQ];omega
  rw[e];exact aD4 k a b w hk (by omega)
 have e:aZ k a b= []:=by unfold aZ;rw[if_neg];simp[gQ];omega
 rw[e];exact aFp k a b w (by simp;omega)
theorem qF (a b:Int)(w:World)(hE:Env w):U 108 #[cS k a b] w (Z (str (aZ k a b)) w):=by
 by_cases hr:0≤a∧a≤9999∧0≤b∧b≤9999
 ·obtain⟨h0,h1,h2,h3⟩:=hr;by_cases ht:k=1∨k=4
  ·have e:aZ k a b=bZ k++ [32]++Lib.decDigits a.toNat++([32]++Lib.decDigits b.toNat):=by
    rcases ht with rfl|rfl<;>simp[aZ,gQ,kH,h0,h1,h2,h3]
   rw[e];exact aGp k a b w hE ht h0 h1 h2 h3
  by_cases hb:b=0
  ·subst hb;by_cases hk:k=0∨k=2∨k=3
   ·have e:aZ k a 0=bZ k++ [32]++Lib.decDigits a.toNat:=by
     rcases hk with rfl|rfl|rfl<;>simp[aZ,gQ,kH,h0,h1]
    rw[e];exact aGq k a w hE hk h0 h1
   have e:aZ k a 0= []:=by unfold aZ;rw[if_neg];simp[gQ];omega
   rw[e];exact rF k a 0 w (.inr (.inr (.inr (.inr (.inr ⟨h0,h1,by omega,by omega,by simp;omega,by simp;omega,by simp,by simp;omega,by simp;omega,by simp;omega⟩)))))
  have e:aZ k a b= []:=by unfold aZ;rw[if_neg];simp[gQ,kH];omega
  rw[e];exact rF k a b w (.inr (.inr (.inr (.inr (.inl ⟨h0,h1,h2,h3,by simp;omega,by simp;omega,by simp[hb]⟩)))))
 have e:aZ k a b= []:=by unfold aZ;rw[if_neg];simp[gQ];omega
 rw[e];exact rF k a b w (by omega)
def mD (l:List UInt8):Int:=l.foldl (fun s c=>(7*s+(c.toNat:Int))%97) 1
theorem qM:0≤mD l∧mD l<97:=by
 unfold mD;have: ∀(l:List UInt8) (s:Int),0≤s∧s<97→0≤l.foldl (fun s c=>(7*s+(c.toNat:Int))%97) s∧l.foldl (fun s c=>(7*s+(c.toNat:Int))%97) s<97:=by
  intro l;induction l with
  |nil=>intro s h;exact h
  |cons c l ih=>intro s h;simp only[List.foldl_cons];apply ih;omega
 exact this l 1 (by omega)
theorem kV (k:Nat)(h:k<s.size):s.data.toList.take (k+1)=s.data.toList.take k++ [s[k]]:=by rw[List.take_succ_eq_append_getElem (by simpa using h)];rfl
theorem aDu (c:UInt8):mD (l++ [c])=(7*mD l+(c.toNat:Int))%97:=by unfold mD;rw[List.foldl_append];rfl
theorem aNl (hs:s.size≤maxLen):
  U 53 #[.string s] w fun e w'=>e= .returned (I (mD s.data.toList))∧w=w':=by
 unfold maxLen at hs;go_enter func53,ntmps53;go_wp2;go_loop [3,4] (fun n i=> ∃k:Nat,k≤s.size∧i=I k∧n=I (mD (s.data.toList.take k))) (fun _ i=>s.size-(intOf i).toNat)
 case atStart=>exact⟨0,aW6 _,rfl,rfl⟩
 case round=>
  obtain⟨k,hk,rfl,rfl⟩:=hrel;have hd:=qM (s.data.toList.take k);by_cases hlt:k<s.size
  ·have hc:(s[k].toNat:Int)<256:=by have:=s[k].toNat_lt;omega
   have HS:Hid (mD (s.data.toList.take (k+1))=(7*mD (s.data.toList.take k)+(s[k].toNat:Int))%97):=by rw[kV s k hlt];exact aDu _ _
   go_wp2;go_round
   case rel=>exact⟨k+1,by omega,by go_num,by rw[HS.out]⟩
   case measure=>simp[intOf];omega
  go_wp2;go_ret;exact⟨fI (by rw[aW4 (by simp;omega)]),rfl⟩
theorem aOp (hs:s.size≤maxLen):
  U 76 #[.string s] w fun e w'=>e= .returned (I (mD s.data.toList))∧w=w':=by
 unfold maxLen at hs;go_enter func76,ntmps76;go_wp2;go_loop [3,4] (fun n i=> ∃k:Nat,k≤s.size∧i=I k∧n=I (mD (s.data.toList.take k))) (fun _ i=>s.size-(intOf i).toNat)
 case atStart=>exact⟨0,aW6 _,rfl,rfl⟩
 case round=>
  obtain⟨k,hk,rfl,rfl⟩:=hrel;have hd:=qM (s.data.toList.take k);by_cases hlt:k<s.size
  ·have hc:(s[k].toNat:Int)<256:=by have:=s[k].toNat_lt;omega
   have HS:Hid (mD (s.data.toList.take (k+1))=(7*mD (s.data.toList.take k)+(s[k].toNat:Int))%97):=by rw[kV s k hlt];exact aDu _ _
   go_wp2;go_round
   case rel=>exact⟨k+1,by omega,by go_num,by rw[HS.out]⟩
   case measure=>simp[intOf];omega
  go_wp2;go_ret;exact⟨fI (by rw[aW4 (by simp;omega)]),rfl⟩
theorem aB4 (hl:l.length≤maxLen):
  U 53 #[str l] w fun e w'=>e= .returned (I (mD l))∧w=w':=aNl ⟨l.toArray⟩ w (by simpa[ByteArray.size]using hl)
theorem aLf (hl:l.length≤maxLen):
  U 76 #[str l] w fun e w'=>e= .returned (I (mD l))∧w=w':=aOp ⟨l.toArray⟩ w (by simpa[ByteArray.size]using hl)
def jH (t:List UInt8):List UInt8:=t++ [35]++Lib.decDigits (mD t).toNat
def aAr (n:Int)(t:List UInt8):List UInt8:=if 1≤n∧n≤99∧t≠ []then jH (Lib.decDigits n.toNat++ [58]++t)++ [59]else []
def bN (n k a b:Int):List UInt8:=aAr n (aZ k a b)
theorem wJ:(Lib.decDigits (mD t).toNat).length≤21:=by have:=qM t;exact cG _ (by omega)
theorem lQ (a b:Int):(aZ k a b).length≤60:=by
 unfold aZ;split
 ·rename_i h;simp[gQ]at h;obtain⟨⟨h1,h2,h3,h4,h5,h6⟩,_⟩:=h;have e1:(bZ k).length≤5:=(xY k (by omega)).2;have e2:=cG a.toNat (by omega);have e3:=cG b.toNat (by omega);split<;>simp<;>omega
 simp
theorem aA3 (ht:t.length≤1000000)(hE:Env w):
  U 41 #[str t] w (Z (str (jH t)) w):=by
 have hl:=wJ t;have hb:=qM t;have HE:=xQ hE;clear hE;go_enter func41,ntmps41;go_wp2_with fail;refine(aLf t _ (by unfold maxLen;omega)).mono ?_;rintro e w1 ⟨rfl,rfl⟩;go_wp2_with fail;refine Ω (vG (mD t) _ (by omega) (by omega) HE.out) fun w1 h1=>?_
 go_wp2;go_ret;exact⟨jZ rfl,xE⟩
theorem aGo (n k a b:Int)(t:List UInt8)(w:World)(hE:Env w)(hD: ∀w,Env w→U 108 #[cS k a b] w (Z (str t) w))(c:t.length≤60)(h:n<1∨1≤n∧99<n∨1≤n∧n≤99∧t.isEmpty=true):
  U 69 #[n,cS k a b] w (Z (str []) w):=by
 have HE:=xQ hE;have HD:=xQ hD;clear hE hD;rcases h with h|⟨h0,h⟩|⟨h0,h1,h⟩
 all_goals
  go_enter func69,ntmps69;go_wp2_with fail;refine Ω (HD _ (HE.out.ext xE)) fun w1 h1=>?_
  go_wp2;go_ret;exact⟨rfl,xE⟩
theorem aGn (n k a b:Int)(t:List UInt8)(w:World)(hE:Env w)(hD: ∀w,Env w→U 108 #[cS k a b] w (Z (str t) w))(f:t.length≤60)(h0:1≤n)(h1:n≤99)(h:t.isEmpty=false):
  U 69 #[n,cS k a b] w (Z (str (jH (Lib.decDigits n.toNat++ [58]++t)++ [59])) w):=by
 have HE:=xQ hE;have HD:=xQ hD;clear hE hD;have hl:=cG n.toNat (by omega);have c:=wJ (Lib.decDigits n.toNat++ [58]++t);obtain⟨r,hr⟩: ∃r,r=jH (Lib.decDigits n.toNat++ [58]++t):=⟨_,rfl⟩
 have d:r.length≤200:=by rw[hr];simp only[jH,aW5,aX0,List.length_nil];omega
 have HW:Hid (∀w,Env w→U 41 #[.string (⟨(Lib.decDigits n.toNat).toArray⟩++⟨#[58]⟩++⟨t.toArray⟩)] w (Z (str r) w)):=by intro w hE;rw[hr];exact aA3 (Lib.decDigits n.toNat++ [58]++t) w (by simp;omega) hE
 rw[←hr];clear c hr;go_enter func69,ntmps69;go_wp2_with fail;refine Ω (HD _ (HE.out.ext xE)) fun w1 h1=>?_
 go_wp2_with fail;refine Ω (vG n _ (by omega) (by omega) (HE.out.ext xE)) fun w2 h2=>?_
 go_wp2_with fail;refine Ω (HW _ (HE.out.ext xE)) fun w3 h3=>?_
 go_wp2;go_ret;exact⟨jZ rfl,xE⟩
theorem aP3 (n k a b:Int)(w:World)(hE:Env w):U 69 #[n,cS k a b] w (Z (str (bN n k a b)) w):=by
 unfold bN aAr;split
 ·rename_i h;exact aGn n k a b _ w hE (fun w h=>qF k a b w h) (lQ k a b) h.1 h.2.1 (by simpa using h.2.2)
 rename_i h;refine aGo n k a b _ w hE (fun w h=>qF k a b w h) (lQ k a b) ?_;by_cases e:aZ k a b= []<;>simp[e]at h⊢ <;>omega
theorem aFl (n k a b:Int)(t:List UInt8)(w:World)(hD: ∀w,U 46 #[cS k a b] w (Z (str t) w))(c:t.length≤60)(h:n<1∨1≤n∧99<n∨1≤n∧n≤99∧t.isEmpty=true):
  U 85 #[n,cS k a b] w (Z (str []) w):=by
 have HD:=xQ hD;clear hD;rcases h with h|⟨h0,h⟩|⟨h0,h1,h⟩
 all_goals
  go_enter func85,ntmps85;go_wp2_with (first|(go_at_call 46;refine(HD _).mono ?_;rintro e w1 ⟨rfl,h1⟩)|go_in);go_ret;exact⟨rfl,xE⟩
theorem aFk (n k a b:Int)(t:List UInt8)(w:World)(hD: ∀w,U 46 #[cS k a b] w (Z (str t) w))(m:t.length≤60)(h0:1≤n)(h1:n≤99)(h:t.isEmpty=false):
  U 85 #[n,cS k a b] w (Z (str (jH (Lib.decDigits n.toNat++ [58]++t)++ [59])) w):=by
 have HD:=xQ hD;clear hD;have hl:=cG n.toNat (by omega);have d:=wJ (Lib.decDigits n.toNat++ [58]++t);have hb:=qM (Lib.decDigits n.toNat++ [58]++t);have j:=aYt ((Lib.decDigits n.toNat).length+1);have l:=aYt ((Lib.decDigits n.toNat).length+1+t.length);obtain⟨q,hq⟩: ∃q,q=Lib.decDigits n.toNat++ [58]++t:=⟨_,rfl⟩
 have i:q.length≤100:=by rw[hq];simp;omega
 rw[←hq]at d hb⊢;have HQ:=xQ hq;clear hq;go_enter func85,ntmps85;go_wp2_with (first|(go_at_call 46;refine Ω (HD _) fun w1 h1=>?_;have g:=h1.cells.1)|go_in);go_upto_region 3 with fail;go_cut [5] (fun s5 wx=>s5=str q∧Ext w wx)
 case first=>
  have o:(w:Nat)<w1:=aVy (by simp) h1.sz
  go_region_held3 (fun w'=>w'.cell? ⟨w,0,none⟩=some (I k)∧w'.cell? ⟨w,1,none⟩=some (I a)∧w'.cell? ⟨w,2,none⟩=some (I b)) (go_keep)
   (first|(go_at_call 46;refine(HD _).mono ?_;rintro e w2 ⟨rfl,h2⟩;(try replace h2:=h2.of_drew);have c:=h2.cells.1;have f:(w:Nat)<w2:=aVy (by assumption) h2.sz)|(go_at_call 51;refine Ω (lZ n _ (by omega) (by omega)) fun w2 h2=>?_;(try replace h2:=h2.of_drew);have c:=h2.cells.1;have f:(w:Nat)<w2:=aVy (by assumption) h2.sz))
  all_goals (go_wp2_with fail;go_meet;exact⟨by rw[HQ.out];rfl,xE⟩)
 case rest=>
  obtain⟨rfl,hx⟩:=hcut;go_wp2_with fail;refine(aB4 q _ (by unfold maxLen;omega)).mono ?_;rintro e w1 ⟨rfl,rfl⟩;go_wp2_with fail;refine Ω (lZ (mD q) _ (by omega) (by omega)) fun w1 h1=>?_
  go_wp2;go_ret;exact⟨jZ rfl,xE⟩
theorem aDz (n k a b:Int)(w:World):U 85 #[n,cS k a b] w (Z (str (bN n k a b)) w):=by
 unfold bN aAr;split
 ·rename_i h;exact aFk n k a b _ w (fun w=>wP k a b w) (lQ k a b) h.1 h.2.1 (by simpa using h.2.2)
 rename_i h;refine aFl n k a b _ w (fun w=>wP k a b w) (lQ k a b) ?_;by_cases e:aZ k a b= []<;>simp[e]at h⊢ <;>omega
def dR (c:UInt8):Bool:=decide (48≤(c.toNat:Int)∧(c.toNat:Int)≤57)
def jM (l:List UInt8):Int:=l.foldl (fun n c=>10*n+((c.toNat:Int)-48)) 0
def bK (m:Nat)(l:List UInt8):Option Int:=
 if 1≤l.length∧l.length≤m∧(l.length≤1∨l.head? ≠some 48)∧l.all dR=true then some (jM l)else none
theorem tW (c:UInt8):jM (l++ [c])=10*jM l+((c.toNat:Int)-48):=by unfold jM;rw[List.foldl_append];rfl
theorem aBp (h:l.all dR=true)(hl:l.length≤5):0≤jM l∧jM l≤99999:=by
 match l,hl with
 | [],_=>simp[jM]
 | [a],_=>simp[jM,dR]at h⊢;omega
 | [a,b],_=>simp[jM,dR]at h⊢;omega
 | [a,b,c],_=>simp[jM,dR]at h⊢;omega
 | [a,b,c,d],_=>simp[jM,dR]at h⊢;omega
 | [a,b,c,d,e],_=>simp[jM,dR]at h⊢;omega
 |_::_::_::_::_::_::_,hl=>simp at hl
theorem vM (k:Nat)(h:k<s.size)(ha:(s.data.toList.take k).all dR=true)(hc:dR s[k]=true):(s.data.toList.take (k+1)).all dR=true:=by rw[kV s k h];simp[ha,hc]
theorem tX (k:Nat)(h:k<s.size)(hc:dR s[k]=false):s.data.toList.all dR=false:=by rw[List.all_eq_false];exact⟨s[k],by rw[Array.mem_toList_iff];exact Array.getElem_mem (xs:=s.data) (i:=k) h,by simp[hc]⟩
theorem aPa (h:0<s.size):s.data.toList.head? =some s[0]:=by
 obtain⟨⟨l⟩⟩:=s;cases l with
 |nil=>simp[ByteArray.size]at h
 |cons a l=>rfl
theorem lL {m:Nat}{l:List UInt8}(h:l.length<1∨m<l.length):bK m l=none:=by unfold bK;rw[if_neg];omega
theorem rU {m:Nat}{l:List UInt8}(h:1<l.length)(h0:l.head? =some 48):bK m l=none:=by
 unfold bK;rw[if_neg];rintro⟨_,_,h1|h1,_⟩
 ·omega
 exact h1 h0
theorem sK {m:Nat}{l:List UInt8}(h:l.all dR=false):bK m l=none:=by unfold bK;rw[if_neg];simp[h]
theorem vQ {m:Nat}{l:List UInt8}(h1:1≤l.length)(h2:l.length≤m)(h3:l.length≤1∨l.head? ≠some 48)(h4:l.all dR=true):bK m l=some (jM l):=by unfold bK;rw[if_pos ⟨h1,h2,h3,h4⟩]
theorem aIl (h0:48≤(c.toNat:Int))(h1:(c.toNat:Int)≤57):dR c=true:=by simp[dR];omega
theorem nU (h:(c.toNat:Int)<48∨57<(c.toNat:Int)):dR c=false:=by simp[dR];omega
def aM8 (l:List UInt8):Int:=if l.all dR then jM l else -1
theorem aCj {l:List UInt8}(h:l.all dR=true):aM8 l=jM l:=if_pos h
theorem zH {l:List UInt8}(h:l.all dR=false):aM8 l= -1:=if_neg (by simp[h])
theorem rC (s:ByteArray)(w:World)(h:s.size<1∨4<s.size∧s.size≤9223372036854775807∨1<s.size∧s.size≤4∧ ∀h:0<s.size,((s[0].toNat:Int)==48)=true):
  U 59 #[.string s] w fun e w'=>e= .returned (I (-1))∧w=w':=by
 rcases h with h|⟨h,h'⟩|⟨h,h',h0⟩
 ·go_enter func59,ntmps59;go_wp2;go_ret;exact⟨rfl,rfl⟩
 ·go_enter func59,ntmps59;go_wp2;go_ret;exact⟨rfl,rfl⟩
 have hp:0<s.size:=by omega
 have a:=h0 hp;go_enter func59,ntmps59;go_wp2;go_ret;exact⟨rfl,rfl⟩
theorem aIg (s:ByteArray)(w:World)(h1:1≤s.size)(h4:s.size≤4)(hz:s.size≤1∨1<s.size∧ ∀h:0<s.size,((s[0].toNat:Int)==48)=false):
  U 59 #[.string s] w fun e w'=>e= .returned (I (aM8 s.data.toList))∧w=w':=by
 have hp:0<s.size:=by omega
 rcases hz with hz|⟨hz,h0⟩
 all_goals
  try (have b:=h0 hp)
  try clear h0
  go_enter func59,ntmps59;go_wp2;go_loop [3,4] (fun n i=> ∃k:Nat,k≤s.size∧i=I k∧n=I (jM (s.data.toList.take k))∧(s.data.toList.take k).all dR=true) (fun _ i=>s.size-(intOf i).toNat)
  case atStart=>exact⟨0,aW6 _,rfl,rfl,by simp⟩
  case round=>
   obtain⟨k,hk,rfl,rfl,a⟩:=hrel;have hb:=aBp _ a (by simp;omega);have HA:=xQ a;clear a;by_cases hlt:k<s.size
   ·have HS:Hid (jM (s.data.toList.take (k+1))=10*jM (s.data.toList.take k)+((s[k].toNat:Int)-48)):=by rw[kV s k hlt];exact tW _ _
    rcases(show(s[k].toNat:Int)<48∨48≤(s[k].toNat:Int)∧57<(s[k].toNat:Int)∨48≤(s[k].toNat:Int)∧(s[k].toNat:Int)≤57 by omega)with hc|⟨hc0,hc⟩|⟨hc0,hc⟩
    ·go_wp2;go_ret;exact⟨fI (zH (tX s k hlt (nU (.inl hc)))).symm,rfl⟩
    ·go_wp2;go_ret;exact⟨fI (zH (tX s k hlt (nU (.inr hc)))).symm,rfl⟩
    go_wp2;go_round
    case rel=>exact⟨k+1,by omega,by go_num,by rw[HS.out],vM s k hlt HA (aIl hc0 hc)⟩
    case measure=>simp[intOf];omega
   have e:s.data.toList.take k=s.data.toList:=aW4 (by simp;omega);have HE:=xQ e;clear e;go_wp2;go_ret;exact⟨fI (by rw[aCj (by rw[←HE.out];exact HA.out),HE.out]),rfl⟩
theorem aAq (h:0<s.size):s.data.toList.head? =some 48↔((s[0].toNat:Int)==48)=true:=by
 rw[aPa s h];simp only[aX3,beq_iff_eq];constructor
 ·intro e;rw[e];rfl
 intro e;exact UInt8.toNat_inj.1 (by show _=48;omega)
theorem cJ:s.data.toList.length=s.size:=by simp
theorem aBv (hs:s.size≤maxLen):
  U 59 #[.string s] w fun e w'=>e= .returned (I ((bK 4 s.data.toList).getD (-1)))∧w=w':=by
 unfold maxLen at hs;by_cases h1:s.size<1
 ·rw[lL (by rw[cJ];omega)];exact rC s w (.inl h1)
 by_cases h4:4<s.size
 ·rw[lL (by rw[cJ];omega)];exact rC s w (.inr (.inl ⟨h4,hs⟩))
 by_cases h0:1<s.size∧s.data.toList.head? =some 48
 ·rw[rU (by rw[cJ];omega) h0.2];exact rC s w (.inr (.inr ⟨h0.1,by omega,fun h=>(aAq s h).1 h0.2⟩))
 refine(aIg s w (by omega) (by omega) ?_).mono ?_
 ·by_cases hq:s.size≤1
  ·exact .inl hq
  refine .inr ⟨by omega,fun h=> ?_⟩;rw[←Bool.not_eq_true,←aAq s h];intro e;exact h0 ⟨by omega,e⟩
 rintro e w' ⟨rfl,rfl⟩;refine⟨fI ?_,rfl⟩;cases ha:s.data.toList.all dR with
 |true=>rw[aCj ha,vQ (by rw[cJ];omega) (by rw[cJ];omega) (by rw[cJ];by_cases hq:s.size≤1;exact .inl hq;exact .inr (fun e=>h0 ⟨by omega,e⟩)) ha];rfl
 |false=>rw[zH ha,sK ha];rfl
def aN5 (l:List UInt8):Bool:=l.all dR
def aH0 (l:List UInt8):Int:=if l.all dR then jM l else 0
theorem aA9 {l:List UInt8}(h:l.all dR=true):aH0 l=jM l:=if_pos h
theorem wD {l:List UInt8}(h:l.all dR=false):aH0 l=0:=if_neg (by simp[h])
theorem aKt {a b:Int}{c d:Bool}(h:a=b)(k:c=d):Ending.returned (.tuple #[a,.bool c])= .returned (.tuple #[b,.bool d]):=by rw[h,k]
theorem mF (s:ByteArray)(m:Int)(w:World)(hm:1≤m∧m≤5)(h:s.size<1∨1≤s.size∧m<(s.size:Int)∧s.size≤9223372036854775807∨1<s.size∧(s.size:Int)≤m∧ ∀h:0<s.size,((s[0].toNat:Int)==48)=true):
  U 55 #[.string s,m] w fun e w'=>e= .returned (.tuple #[(),.bool false])∧w=w':=by
 rcases h with h|⟨h,h',h2⟩|⟨h,h',h0⟩
 ·go_enter func55,ntmps55;go_wp2;go_ret2;exact⟨rfl,rfl⟩
 ·go_enter func55,ntmps55;go_wp2;go_ret2;exact⟨rfl,rfl⟩
 have hp:0<s.size:=by omega
 have a:=h0 hp;go_enter func55,ntmps55;go_wp2;go_ret2;exact⟨rfl,rfl⟩
theorem aAk (s:ByteArray)(m:Int)(w:World)(hm:1≤m∧m≤5)(h1:1≤s.size)(h4:(s.size:Int)≤m)(hz:s.size≤1∨1<s.size∧ ∀h:0<s.size,((s[0].toNat:Int)==48)=false):
  U 55 #[.string s,m] w fun e w'=>e= .returned (.tuple #[(aH0 s.data.toList:Int),.bool (aN5 s.data.toList)])∧w=w':=by
 have hp:0<s.size:=by omega
 rcases hz with hz|⟨hz,h0⟩
 all_goals
  try (have b:=h0 hp)
  try clear h0
  go_enter func55,ntmps55;go_wp2;go_loop [6,7] (fun n i=> ∃k:Nat,k≤s.size∧i=I k∧n=I (jM (s.data.toList.take k))∧(s.data.toList.take k).all dR=true) (fun _ i=>s.size-(intOf i).toNat)
  case atStart=>exact⟨0,aW6 _,rfl,rfl,by simp⟩
  case round=>
   obtain⟨k,hk,rfl,rfl,a⟩:=hrel;have hb:=aBp _ a (by simp;omega);have HA:=xQ a;clear a;by_cases hlt:k<s.size
   ·have HS:Hid (jM (s.data.toList.take (k+1))=jM (s.data.toList.take k)*10+((s[k].toNat:Int)-48)):=by rw[kV s k hlt,tW];show _=_;omega
    rcases(show(s[k].toNat:Int)<48∨48≤(s[k].toNat:Int)∧57<(s[k].toNat:Int)∨48≤(s[k].toNat:Int)∧(s[k].toNat:Int)≤57 by omega)with hc|⟨hc0,hc⟩|⟨hc0,hc⟩
    ·go_wp2;go_ret2;exact⟨aKt (wD (tX s k hlt (nU (.inl hc)))).symm (tX s k hlt (nU (.inl hc))).symm,rfl⟩
    ·go_wp2;go_ret2;exact⟨aKt (wD (tX s k hlt (nU (.inr hc)))).symm (tX s k hlt (nU (.inr hc))).symm,rfl⟩
    go_wp2;go_round
    case rel=>exact⟨k+1,by omega,by go_num,by rw[HS.out],vM s k hlt HA (aIl hc0 hc)⟩
    case measure=>simp[intOf];omega
   have e:s.data.toList.take k=s.data.toList:=aW4 (by simp;omega);have HE:=xQ e;clear e;go_wp2;go_ret2;exact⟨aKt (by rw[aA9 (by rw[←HE.out];exact HA.out),HE.out]) (by rw[aN5,←HE.out];exact HA.out.symm),rfl⟩
theorem aBg (hm:1≤m∧m≤5)(hs:s.size≤maxLen):
  U 55 #[.string s,m] w fun e w'=>e= .returned (.tuple #[((bK m s.data.toList).getD 0:Int),.bool (bK m s.data.toList).isSome])∧w=w':=by
 unfold maxLen at hs;by_cases h1:s.size<1
 ·rw[lL (by rw[cJ];omega)];exact mF s m w (by omega) (.inl h1)
 by_cases h4:m<s.size
 ·rw[lL (by rw[cJ];omega)];exact mF s m w (by omega) (.inr (.inl ⟨by omega,by omega,hs⟩))
 by_cases h0:1<s.size∧s.data.toList.head? =some 48
 ·rw[rU (by rw[cJ];omega) h0.2];exact mF s m w (by omega) (.inr (.inr ⟨h0.1,by omega,fun h=>(aAq s h).1 h0.2⟩))
 refine(aAk s m w (by omega) (by omega) (by omega) ?_).mono ?_
 ·by_cases hq:s.size≤1
  ·exact .inl hq
  refine .inr ⟨by omega,fun h=> ?_⟩;rw[←Bool.not_eq_true,←aAq s h];intro e;exact h0 ⟨by omega,e⟩
 rintro e w' ⟨rfl,rfl⟩;cases ha:s.data.toList.all dR with
 |true=>rw[aA9 ha,vQ (by rw[cJ];omega) (by rw[cJ];omega) (by rw[cJ];by_cases hq:s.size≤1;exact .inl hq;exact .inr (fun e=>h0 ⟨by omega,e⟩)) ha,aN5,ha];exact⟨rfl,rfl⟩
 |false=>rw[wD ha,sK ha,aN5,ha];exact⟨rfl,rfl⟩
def aL (c:UInt8):List UInt8→List (List UInt8)
 | []=> [[]]
 |x::xs=>if x=c then []::aL c xs else match aL c xs with
  | []=> [[x]]
  |p::ps=>(x::p)::ps
theorem eX (c:UInt8)(l:List UInt8):aL c l≠ []:=by
 cases l with
 |nil=>simp[aL]
 |cons x xs=>unfold aL;split
             ·simp
             split<;>simp
theorem aDo (c:UInt8): ∀(l:List UInt8),aL c (l++ [c])=aL c l++ [[]]:=by
 intro l;induction l with
 |nil=>simp[aL]
 |cons x xs ih=>
  rw[aXs];unfold aL;by_cases h:x=c
  ·rw[if_pos h,if_pos h,ih];rfl
  rw[if_neg h,if_neg h,ih];cases hq:aL c xs with
  |nil=>exact absurd hq (eX c xs)
  |cons p ps=>rfl
theorem aAm (c:UInt8)(x:UInt8)(hx:x≠c): ∀(l:List UInt8) (A:List (List UInt8)) (p:List UInt8),aL c l=A++ [p]→aL c (l++ [x])=A++ [p++ [x]]:=by
 intro l;induction l with
 |nil=>
  intro A p h;simp only[aL,aXz]at h⊢;have:A= []∧p= []:=by
   cases A with
   |nil=>simpa using h.symm
   |cons a A=>simp at h
  obtain⟨rfl,rfl⟩:=this;simp[hx]
 |cons y ys ih=>
  intro A p h;rw[aXs];unfold aL at h⊢;by_cases hy:y=c
  ·rw[if_pos hy]at h⊢;cases A with
   |nil=>simp at h;exact absurd h.2 (eX c ys)
   |cons a A=>simp only[aXs,List.cons.injEq]at h;rw[ih A p h.2,←h.1];rfl
  rw[if_neg hy]at h⊢;cases hq:aL c ys with
  |nil=>exact absurd hq (eX c ys)
  |cons q qs=>
   rw[hq]at h;simp only at h;cases A with
   |nil=>simp only[aXz,List.cons.injEq]at h;obtain⟨rfl,rfl⟩:=h;rw[ih [] q (by simpa using hq)];rfl
   |cons a A=>simp only[aXs,List.cons.injEq]at h;obtain⟨rfl,rfl⟩:=h;rw[ih (q::A) p (by simpa using hq)];rfl
abbrev eY (ls:List (List UInt8)):List Value:=ls.map str
theorem pD (b:Nat)(l:List UInt8)(h:(s.data.toList.take b).drop a=l):Value.string (s.extract a b)=str l:=by
 have:s.extract a b=⟨l.toArray⟩:=by apply ByteArray.ext;apply Array.toList_inj.1;rw[Lib.extract_data];show _=l;rw[←h,List.drop_take]
 rw[this]
theorem aTy:(prog.info? 9).map (fun i=>(i.zero,i.size,i.bytes))=some (some (.string ⟨#[]⟩),1,16):=by kernel_rfl
theorem mI (c:UInt8)(ci:Int)(l:ci=(c.toNat:Int))(w:World)(hs:s.size≤1099511627776):
  U 57 #[.string s,.int .u8 ci] w (aYx 9 1 (aL c s.data.toList).length (eY (aL c s.data.toList)) w):=by
 obtain⟨i0,hi,m,n,o⟩:=info_parts aTy;have HC:=xQ l;clear l;go_enter func57,ntmps57;go_wp2
 go_loopw [5,6,7] (fun v fr i wr=> ∃(k f:Nat) (A:List (List UInt8)) (p:List UInt8),k≤s.size∧f≤k∧A.length≤k∧fr=I f∧i=I k∧aL c (s.data.toList.take k)=A++ [p]∧p=(s.data.toList.take k).drop f∧
   wr.ownsRow w 9 1 v A.length (eY A)∧Ext w wr) (fun _ _ i _=>s.size-(intOf i).toNat)
 case atStart=>exact⟨0,0,[],[],aW6 _,aVz _,aVz _,rfl,rfl,by simp[aL],by simp,aX7 _ #[] 0 (aVz _) (by simp[maxLen]) rfl,(Ext.refl _).alloc _⟩
 case round=>
  obtain⟨k,f,A,p,hk,hf,t,rfl,rfl,h,hp,b,hE⟩:=hrel;have g:=xQ h;have HP:=xQ hp;have x:=hE.sz;clear h hp;by_cases hlt:k<s.size
  ·by_cases hc:s[k]=c
   ·have hb:((s[k].toNat:Int)==ci)=true:=by rw[HC.out,hc];simp
    have r:=xQ hc;clear hc;go_wp2_with (at_builtin;refine wpList_append_own _ rfl _ _ 85 rfl w 9 i0 (.string ⟨#[]⟩) 1 16 underlying85 hi m n o rfl (by decide) _ _ _ rfl (b.alloc _) ⟨wr,0,none⟩ 1 1 [.string (s.extract f k)] rfl rfl ?c1 ?c2 ?c3 ?c4 ?c5 ?_)
    case c1=>exact cell_one_new _ _ _
    case c2=>intro u hu;simp at hu;subst hu;rfl
    case c3=>unfold maxLen;omega
    case c4=>omega
    case c5=>simp;omega
    intro v' w1 d a _;have j:Ext w w1:=(hE.alloc _).grown a (fun q hq=>(b.lt q hq).1);clear a b;go_wp2;go_roundw
    case rel=>
     refine⟨k+1,k+1,A++ [p],[],by omega,aVz _,by simp;omega,by go_num,by go_num,?_,?_,?_,j⟩
     ·rw[kV s k hlt,r.out,aDo,g.out]
     ·rw[aXd (by simp;omega)]
     have:=d;rw[pD s f k p HP.out.symm]at this;simpa[eY]using this
    case measure=>simp[intOf];omega
   have hb:((s[k].toNat:Int)==ci)=false:=by rw[HC.out,beq_eq_false_iff_ne];intro e;exact hc (UInt8.toNat_inj.1 (by omega))
   go_wp2;go_roundw
   case rel=>
    refine⟨k+1,f,A,p++ [s[k]],by omega,by omega,by omega,by go_num,by go_num,?_,?_,b,hE⟩
    ·rw[kV s k hlt];exact aAm c _ hc _ A p g.out
    rw[kV s k hlt,HP.out,List.drop_append_of_le_length (by simp;omega)]
   case measure=>simp[intOf];omega
  obtain rfl:k=s.size:=by omega
  have e:s.data.toList.take s.size=s.data.toList:=aW4 (by simp);have HE:=xQ e;clear e;go_wp2_with (at_builtin;refine wpList_append_own _ rfl _ _ 85 rfl w 9 i0 (.string ⟨#[]⟩) 1 16 underlying85 hi m n o rfl (by decide) _ _ _ rfl (b.alloc _) ⟨wr,0,none⟩ 1 1 [.string (s.extract f s.size)] rfl rfl ?d1 ?d2 ?d3 ?d4 ?d5 ?_)
  case d1=>exact cell_one_new _ _ _
  case d2=>intro u hu;simp at hu;subst hu;rfl
  case d3=>unfold maxLen;omega
  case d4=>omega
  case d5=>simp;omega
  intro v' w1 d a _;have j:Ext w w1:=(hE.alloc _).grown a (fun q hq=>(b.lt q hq).1);clear a b;go_wp2;go_ret;refine⟨_,rfl,?_,j⟩;have:=d;rw[pD s f s.size p HP.out.symm]at this;rw[←HE.out,g.out];simpa[eY]using this
theorem uC (c:UInt8): ∀l:List UInt8,(Lib.index l [c]= -1∧aL c l= [l]∧c∉l)∨ ∃i:Nat,Lib.index l [c]=i∧i<l.length∧aL c l=l.take i::aL c (l.drop (i+1))∧c∉l.take i:=by
 intro l;induction l with
 |nil=>exact .inl ⟨rfl,rfl,by simp⟩
 |cons b l ih=>
  by_cases hb:b=c
  ·subst hb;refine .inr ⟨0,?_,by simp,by simp[aL],by simp⟩;unfold Lib.index;rw[if_pos (by simp[List.isPrefixOf])];rfl
  have hp:([c]:List UInt8).isPrefixOf (b::l)=false:=by simp[List.isPrefixOf];exact fun e=>hb e.symm
  rcases ih with⟨h1,h2,h3⟩|⟨i,h1,h2,h3,h4⟩
  ·refine .inl ⟨?_,?_,?_⟩
   ·unfold Lib.index;rw[hp,h1];rfl
   ·unfold aL;rw[if_neg hb,h2]
   simp[h3];exact fun e=>hb e.symm
  refine .inr ⟨i+1,?_,by simp;omega,?_,?_⟩
  ·unfold Lib.index;rw[hp,h1];simp only[Bool.false_eq_true,if_false];rw[if_neg (by simp)];rfl
  ·have e:aL c (b::l)=match aL c l with| []=> [[b]]|p::ps=>(b::p)::ps:=by
    rw[aL,if_neg hb]<;>rfl
   rw[e,h3];rfl
  simp[h4];exact fun e=>hb e.symm
theorem aNj (c:UInt8): ∀(k:Nat) (s:ByteArray),Lib.countB s ⟨#[c]⟩=k→(Lib.splitB ⟨#[c]⟩ 0 k s).map (fun b=>b.data.toList)=aL c s.data.toList:=by
 intro k;induction k with
 |zero=>
  intro s hk;rw[Lib.splitB_zero];rcases uC c s.data.toList with⟨h1,h2,h3⟩|⟨i,h1,h2,h3,h4⟩
  ·rw[h2];rfl
  have:=Lib.countB_hit s ⟨#[c]⟩ i (aVz 1) h1;omega
 |succ k ih=>
  intro s hk;rcases uC c s.data.toList with⟨h1,h2,h3⟩|⟨i,h1,h2,h3,h4⟩
  ·have:=Lib.countB_miss s ⟨#[c]⟩ h1;omega
  have hc:=Lib.countB_hit s ⟨#[c]⟩ i (aVz 1) h1
  have hr:=ih (s.extract (i+1) s.size) (by
   have e:s.extract (i+1) s.size=s.extract (i+(⟨#[c]⟩:ByteArray).size) s.size:=rfl
   rw[e];omega)
  rw[Lib.splitB_hit ⟨#[c]⟩ 0 k s i h1,aXl];have e2:s.extract (i+(⟨#[c]⟩:ByteArray).size) s.size=s.extract (i+1) s.size:=rfl;rw[e2,hr,h3];congr 1
  ·rw[Lib.extract_data];simp
  congr 1;rw[Lib.extract_data];rw[aW4 (by simp)]
theorem aAy (b:ByteArray):Value.string b=str b.data.toList:=rfl
theorem tR (c:UInt8)(w:World)(hs:s.size<4294967281)(hE:Env w):
  U 98 #[.string s,.string ⟨#[c]⟩] w (aYx 9 1 (aL c s.data.toList).length (eY (aL c s.data.toList)) w):=by
 obtain⟨m,hm⟩:=hE.mx;refine(Tryz.strings_Split s ⟨#[c]⟩ m w hs hm (aVz 1)).mono ?_;rintro e w' ⟨rfl,rfl⟩;have hq:=aNj c _ s rfl;have hl:(aL c s.data.toList).length=Lib.countB s ⟨#[c]⟩+1:=by rw[←hq,aWj];exact Lib.splitB_all ⟨#[c]⟩ (aVz 1) 0 _ s rfl
 have hv:(Lib.splitB ⟨#[c]⟩ 0 (Lib.countB s ⟨#[c]⟩) s).map Value.string=eY (aL c s.data.toList):=by rw[←hq,eY,List.map_map];rfl
 refine⟨_,rfl,?_,(Ext.refl _).alloc _⟩;rw[hv,←hl];have:=Lib.countB_le ⟨#[c]⟩ (aVz 1) _ s (aVz _);have h2:=World.ownsRow_lit (e:=9) (size:=1) (base:=w.heap.size) w (eY (aL c s.data.toList)).toArray (aL c s.data.toList).length (aVz _) (by unfold maxLen;omega) (by simp[eY]);simpa using h2
end Go.Proofs.YthfmmibomhhmpabGreatDoor
