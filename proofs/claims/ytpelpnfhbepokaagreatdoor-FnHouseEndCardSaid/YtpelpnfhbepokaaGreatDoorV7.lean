/-
  Texts of this proof, packed (@packed).
-/
import Derived.KernelRfl
import Derived.Lib.CountLaws
import Derived.Lib.ItoaLen
import Derived.Lib.ItoaMem
import Derived.Lib.SplitLaws
import Derived.Shelf.Strings.BuilderK
import Derived.Sort.OwnSortedInts
import Derived.Test.YtpelpnfhbepokaaGreatDoorVS
import Derived.Test.YtpelpnfhbepokaaGreatDoorV6
namespace Go.Proofs.YtpelpnfhbepokaaGreatDoor
open Go.RowKit
set_option linter.unusedVariables false
set_option maxHeartbeats 8000000
set_option maxRecDepth 100000
def aX (xs:List Int)(w:World)(e:Ending)(w':World):Prop:=
 ∃p cap,e= .returned (.slice p xs.length cap)∧w'.ownsRow w.heap.size TI 1 (.slice p xs.length cap) xs.length (ivs xs)∧Ext w w'
theorem cZ {p:OA}{n a:Nat}{xs:List Int}{w w':World}(hn:xs.length=n)(ho:w'.ownsRow w.heap.size TI 1 (.slice p n a) n (ivs xs))(hx:Ext w w'):aX xs w (.returned (.slice p n a)) w':=by subst hn;exact⟨p,a,rfl,ho,hx⟩
theorem aEa: ∀(xs:List Int) (k:Nat) (x:Int),(∀y∈xs.take k,y<x)→(∀y,xs[k]? =some y→ ¬y<x)→kL x xs=xs.take k++x::xs.drop k:=by
 intro xs;induction xs with
 |nil=>intro k x _ _;simp[kL]
 |cons y ys ih=>
  intro k x h1 h2;cases k with
  |zero=>have:=h2 y rfl;simp[kL,this]
  |succ k=>have h3:y<x:=h1 y (by simp);rw[kL,if_pos h3,ih k x (fun z hz=>h1 z (by simp[hz])) (fun z hz=>h2 z (by simpa using hz))];simp
theorem aI8 (x:Int)(xs:List Int):(kL x xs).length=xs.length+1:=(lX x xs).length_eq
theorem aJo {w:World}{b c n a k:Nat}{xs:List Int}(h:Sl w (some ⟨b,c,none⟩) n a 1 (ivs xs))(hk:k≤n):Sl w (some ⟨b,c+k,none⟩) (n-k) (a-k) 1 (ivs (xs.drop k)):=by have hl:=h.ilen;have f:=h.le;have g:=h.mx;refine⟨by simp;omega,by omega,by omega,fun h0=> ?_⟩;obtain⟨b',d,e,hb,hc⟩:=h.rd (by omega);injection e with e;injection e with e1 e2;subst e1 e2;refine⟨_,_,rfl,hb,fun j hj=> ?_⟩;rw[Nat.add_assoc,hc (k+j) (by omega)];simp
theorem aJn (w:World)(p:OA){c:Nat}(hc:c≤maxLen):Sl w p 0 c 1 (ivs []):=⟨by simp,Nat.zero_le _,hc,fun h=>absurd h (by omega)⟩
theorem yF (p:OA)(n m:Nat)(xs:List Int)(x:Int)(w:World)(hn:n≤1000000)(hS:Sl w p n m 1 (ivs xs)):
  Calls Tryz.prog 90 #[.slice p n m,x] w (aX (kL x xs) w):=by
 have hl:=xQ hS.ilen;have ae:=hS.le;have ad:=hS.mx;unfold maxLen at ad;have HS:=xQ hS;clear hS;go_enter Tryz.func90,Tryz.ntmps90;go_wp2;go_loopw [5,6] (fun v i wr=> ∃(k:Nat) (q:OA) (c:Nat),k≤n∧i= .int .i64 k∧v= .slice q k c∧wr.ownsRow w.heap.size TI 1 (.slice q k c) k (ivs (xs.take k))∧(∀y∈xs.take k,y<x)∧Ext w wr) (fun _ i _=>n-(intOf i).toNat)
 case atStart=>exact⟨0,_,0,Nat.zero_le _,rfl,rfl,World.ownsRow_made _ #[] 0 (Nat.le_refl _) (by simp[maxLen]) rfl,by simp,by exact .alloc (.refl _) _⟩
 case round=>
  obtain⟨k,q,c,hk,rfl,rfl,r,o,hE⟩:=hrel;have HO:=xQ r;have HL:=xQ o;have ah:=hE.sz;clear r o;by_cases hlt:k<n
  ·obtain⟨b,ai,y,rfl,hx,hb,ab⟩:=(HS.out.ext hE).int_at hlt;have HX:=xQ hx;clear hx;by_cases hy:y<x
   ·have d:Hid (∀z∈xs.take (k+1),z<x):=by
     show∀z∈xs.take (k+1),z<x;rw[bA HX.out];intro z hz;rcases List.mem_append.1 hz with h|h
     ·exact HL z h
     simp at h;omega
    go_wp2_with (at_builtin;refine cI eV rfl _ _ rfl w.heap.size _ _ _ rfl (HO.out.alloc _) _ _ y _ rfl (by simp) (by omega) (by simp;omega) ?_;intro p' aa w1 a g;have j:=xQ a;have f:Ext w w1:=Ext.own (hE.alloc _) (HO.out.alloc _) g (Nat.le_refl _);clear a g);go_roundw
    case rel=>exact⟨k+1,p',aa,by omega,by go_num,rfl,by rw[bA HX.out];exact j.out,d.out,f⟩
    case measure=>simp[intOf];omega
   have d:Hid (kL x xs=xs.take k++x::xs.drop k):=aEa xs k x HL (fun z hz=>by rw[HX.out]at hz;injection hz with hz;subst hz;exact hy);have i1:(0:Int)≤(k:Int):=by omega
   have i2:(k:Int)≤(n:Int):=by omega
   have ag: ¬m=k:=by omega
   go_wp2
   go_region_law ((first
    |(refine iP _ eV (by rfl) _ _ (by rfl) w.heap.size _ k (ivs (xs.take k)) (by rfl) (by first|exact HO.out|exact HO.out.alloc _|exact(HO.out.alloc _).drew|exact HO.out.drew.alloc _|exact HO.out.drew) _ 1 1 [iv x] (by rfl) (by first|exact Sl.new wr #[iv x] _ 1 rfl (by decide)|exact(Sl.new wr #[iv x] _ 1 rfl (by decide)).ext (Ext.drew (Ext.refl _))|exact Sl.new wr.drew #[iv x] _ 1 rfl (by decide)) (oB [x]) (by omega) (by simp;omega) ?_
      intro p1 c1 w1 a g;have f:Ext w w1:=Ext.own (by exact .drew (.alloc hE _)) (by first|exact HO.out|exact HO.out.alloc _|exact(HO.out.alloc _).drew|exact HO.out.drew.alloc _|exact HO.out.drew) g (Nat.le_refl _);have j:=xQ a;have u:=xQ (HS.out.ext f);have af:=f.sz
      clear a g)
    |(refine iP _ eV (by rfl) _ _ (by rfl) w.heap.size _ (k+1) (ivs (xs.take k)++ [iv x]) (by rfl) j _ (n-k) (m-k) (ivs (xs.drop k)) (by rfl) (aJo u (by omega)) (oB _) (by omega) (by omega) ?_
      intro p2 c2 w2 e l;have t:Ext w w2:=Ext.own f j l (Nat.le_refl _);have s:=xQ e
      clear e l)))
   all_goals go_wp2
   all_goals go_ret
   all_goals exact cZ (by rw[d.out];simp;rw[hl.out];omega) (by rw[d.out];simpa using s.out) t
  obtain rfl:k=n:=by omega
  have d:Hid (kL x xs=xs++ [x]):=by have:=aEa xs k x HL (fun z hz=>by rw[List.getElem?_eq_none (by rw[hl.out];exact Nat.le_refl _)]at hz;cases hz);show _=_;rw[this,List.take_of_length_le (by rw[hl.out];exact Nat.le_refl _),List.drop_eq_nil_of_le (by rw[hl.out];exact Nat.le_refl _)]
  have i1:(0:Int)≤(k:Int):=by omega
  go_wp2
  go_region_law ((first
   |(refine iP _ eV (by rfl) _ _ (by rfl) w.heap.size _ k (ivs (xs.take k)) (by rfl) (by first|exact HO.out|exact HO.out.alloc _|exact(HO.out.alloc _).drew|exact HO.out.drew.alloc _|exact HO.out.drew) _ 1 1 [iv x] (by rfl) (by first|exact Sl.new wr #[iv x] _ 1 rfl (by decide)|exact(Sl.new wr #[iv x] _ 1 rfl (by decide)).ext (Ext.drew (Ext.refl _))|exact Sl.new wr.drew #[iv x] _ 1 rfl (by decide)) (oB [x]) (by omega) (by simp;omega) ?_
     intro p1 c1 w1 a g;have f:Ext w w1:=Ext.own (by exact .drew (.alloc hE _)) (by first|exact HO.out|exact HO.out.alloc _|exact(HO.out.alloc _).drew|exact HO.out.drew.alloc _|exact HO.out.drew) g (Nat.le_refl _);have j:=xQ a;have u:=xQ (HS.out.ext f);have af:=f.sz
     clear a g)
   |(refine iP _ eV (by rfl) _ _ (by rfl) w.heap.size _ (k+1) (ivs (xs.take k)++ [iv x]) (by rfl) j _ 0 _ (ivs []) (by rfl) (aJn _ _ (by unfold maxLen;omega)) (oB _) (by omega) (by omega) ?_
     intro p2 c2 w2 e l;have t:Ext w w2:=Ext.own f j l (Nat.le_refl _);have s:=xQ e
     clear e l)))
  all_goals go_wp2
  all_goals go_ret
  all_goals exact cZ (by rw[d.out];simp;rw[hl.out]) (by rw[d.out];have:=s.out;rw[List.take_of_length_le (by rw[hl.out];exact Nat.le_refl _)]at this;simpa using this) t
theorem aAd (xs:List Int):(xs.mergeSort fun x y=>decide (x≤y))=eZ xs:=by refine mF (List.mergeSort_perm _ _) ?_;have:=List.pairwise_mergeSort (le:=fun x y:Int=>decide (x≤y)) (fun a b c h1 h2=>by simp at*;omega) (fun a b=>by simp;omega) xs;simpa using this
theorem aHj (B:Nat)(p:OA)(n a:Nat)(xs:List Int)(w:World)(h:w.ownsRow B TI 1 (.slice p n a) n (ivs xs))(hn:n≤1000000):
  Calls Tryz.prog 58 #[.slice p n a] w fun e w'=>e= .returned (.tuple #[])∧w'.ownsRow B TI 1 (.slice p n a) n (ivs (eZ xs))∧w.grownBy w' (Value.slice p n a).ownBlock:=by
 have hl:xs.length=n:=by have:=h.1;simpa using this
 subst hl;by_cases h0:xs.length=0
 ·obtain rfl:xs= []:=List.eq_nil_of_length_eq_zero h0;refine(Tryz.slices_Sort_int_none p a w).mono ?_;rintro e w' ⟨rfl,rfl⟩;exact⟨rfl,h,World.grownBy.refl _ _⟩
 rcases h.2 with⟨h1,h2⟩|⟨g,cap',cur,h1,hb,hg,hnc,hm,hs,ht⟩
 ·exact absurd h2 h0
 injection h1 with e1 e2 e3;subst e1 e3;refine(Tryz.slices_Sort_int g 0 a xs w (Go.holds_of_blockI hg (by simpa using ht)) (Array.getElem?_eq_some_iff.1 hg).1 (by omega)).mono ?_;rintro e w' ⟨rfl,k,os,rfl⟩;rw[aAd];exact⟨rfl,Go.ownsRow_sortedI (vY xs) hb hg hnc hm hs,Go.grownBy_sortedI _⟩
theorem bG {w w':World}{B n sz:Nat}{e:TypeId}{v:Value}{xs:List Value}(ho:w.ownsRow B e sz v n xs)(h:Ext w w'):w'.ownsRow B e sz v n xs:=
 ho.kept (row:=none) ⟨h.os,h.tape,h.output,h.size,fun k hk _=>h.block k hk⟩ (by cases v.ownBlock<;>simp)
theorem bE {w:World}{B B' n sz:Nat}{e:TypeId}{v:Value}{xs:List Value}(h:w.ownsRow B e sz v n xs)(hb:B'≤B):w.ownsRow B' e sz v n xs:=by
 refine⟨h.1,?_⟩;rcases h.2 with h2|⟨g,a,b,e1,c,r⟩
 ·exact .inl h2
 exact .inr ⟨g,a,b,e1,Nat.le_trans hb c,r⟩
theorem aC5 (aA aB:Int)(p:OA)(n a:Nat)(w:World)(HV:xB 41 #[aH aA aB p n a] w false):
  Calls Tryz.prog 40 #[aH aA aB p n a] w (aX [] w):=by
 go_enter Tryz.func40,Tryz.ntmps40;go_wp2_with fail;refine(HV _ (by exact .alloc (.alloc (.refl _) _) _)).mono ?_;rintro e w1 ⟨rfl,h1⟩;go_wp2;go_ret;have ho:((w.alloc (.cells #[aA,aB,.slice p n a] 25)).alloc (.cells #[] TI)).ownsRow w.heap.size TI 1 (.slice (some ⟨(w.alloc (.cells #[aA,aB,.slice p n a] 25)).heap.size,0,none⟩) 0 0) 0 []:=World.ownsRow_made _ #[] 0 (by simp) (by simp[maxLen]) rfl;exact cZ rfl (by simpa using bG ho h1) (by exact .trans (.alloc (.alloc (.refl _) _) _) h1)
theorem aF8 (aA aB:Int)(p:OA)(n d:Nat)(xs:List Int)(w:World)(hn:n≤12)(HS:Hid (Sl w p n d 1 (ivs xs)))(HV:xB 41 #[aH aA aB p n d] w true):
  Calls Tryz.prog 40 #[aH aA aB p n d] w (aX (cJ xs) w):=by
 have hl:=xQ HS.out.ilen;go_enter Tryz.func40,Tryz.ntmps40;go_wp2_with fail;refine(HV _ (by exact .alloc (.alloc (.refl _) _) _)).mono ?_;rintro e w1 ⟨rfl,h1⟩;have ho:((w.alloc (.cells #[aA,aB,.slice p n d] 25)).alloc (.cells #[] TI)).ownsRow w.heap.size TI 1 (.slice (some ⟨(w.alloc (.cells #[aA,aB,.slice p n d] 25)).heap.size,0,none⟩) 0 0) 0 []:=World.ownsRow_made _ #[] 0 (by simp) (by simp[maxLen]) rfl;have l:=xQ (bG ho h1);have t:w.heap.size<w1.heap.size:=Nat.lt_of_lt_of_le (by first|(simp;omega)|simp) h1.sz;have eb:w1.cell? ⟨w.heap.size,2,none⟩=some (.slice p n d):=by rw[h1.cells.1 _ _ (by simp;omega)];simp
 have s:Ext w w1:=by exact .trans (.alloc (.alloc (.refl _) _) _) h1
 clear ho;go_wp2;go_loopw [3,4] (fun v i wr=> ∃(k:Nat) (q:OA) (m c:Nat),k≤n∧i= .int .i64 k∧v= .slice q m c∧m≤k∧wr.ownsRow w.heap.size TI 1 (.slice q m c) m (ivs (eZ (dA (xs.take k))))∧Ext w1 wr) (fun _ i _=>n-(intOf i).toNat)
 case atStart=>exact⟨0,_,0,0,Nat.zero_le _,rfl,rfl,Nat.le_refl _,by simpa[dA,eZ]using l.out,Ext.refl _⟩
 case round=>
  obtain⟨k,q,m,c,hk,rfl,rfl,u,h,hE⟩:=hrel;have HO:=xQ h;have j:=s.trans hE;have y:=hE.sz;have ec:wr.cell? ⟨w.heap.size,2,none⟩=some (.slice p n d):=(hE.cells.1 _ _ t).trans eb;clear h;by_cases hlt:k<n
  ·obtain⟨b,z,x,rfl,hx,hb,r⟩:=(HS.out.ext j).int_at hlt;have HX:=xQ hx;clear hx;by_cases hx0:0<x
   ·have a:Hid (eZ (dA (xs.take (k+1)))=kL x (eZ (dA (xs.take k)))):=by
     show _=_;rw[bA HX.out,kY,if_pos hx0,tW]
    have HC:Hid (∀w',Ext wr w'→Calls Tryz.prog 90 #[.slice q m c,x] w' (aX (kL x (eZ (dA (xs.take k)))) w')):=fun w' hx=>yF q m c _ x w' (by omega) ((Sl.own HO.out).ext hx)
    have g:(kL x (eZ (dA (xs.take k)))).length=m+1:=by rw[aI8];have:=HO.out.1;simp at this;omega
    have f:=xQ g;clear g;go_wp2_with fail;refine(HC _ (by exact .refl _)).mono ?_;rintro e w2 ⟨q2,c2,rfl,h2,h3⟩;have o:Hid (w2.ownsRow w.heap.size TI 1 (.slice q2 (m+1) c2) (m+1) (ivs (eZ (dA (xs.take (k+1)))))):=by rw[a.out,←f.out];exact bE h2 j.sz
    rw[f.out];clear h2;go_wp2;go_roundw
    case rel=>exact⟨k+1,q2,m+1,c2,by omega,by go_num,rfl,by omega,o.out,by exact .trans hE h3⟩
    case measure=>simp[intOf];omega
   have a:Hid (eZ (dA (xs.take (k+1)))=eZ (dA (xs.take k))):=by show _=_;rw[bA HX.out,kY,if_neg hx0,List.append_nil]
   go_wp2;go_roundw
   case rel=>exact⟨k+1,q,m,c,by omega,by go_num,rfl,by omega,by rw[a.out];exact HO.out,hE⟩
   case measure=>simp[intOf];omega
  have a:Hid (eZ (dA (xs.take k))=cJ xs):=by show _=_;rw[List.take_of_length_le (by rw[hl.out];omega)];rfl
  go_wp2;go_ret;exact cZ (by rw[←a.out];have:=HO.out.1;simpa using this) (by rw[←a.out];exact HO.out) j
theorem aDb (aA aB:Int)(p:OA)(n a:Nat)(w:World)(HV:xB 53 #[aH aA aB p n a] w false):
  Calls Tryz.prog 23 #[aH aA aB p n a] w (aX [] w):=by
 go_enter Tryz.func23,Tryz.ntmps23;go_wp2_with fail;refine(HV _ (by exact .alloc (.refl _) _)).mono ?_;rintro e w1 ⟨rfl,h1⟩;go_wp2;go_ret;exact cZ rfl (World.ownsRow_nil _ _ _ _) (by exact .trans (.alloc (.refl _) _) h1)
theorem aG5 (aA aB:Int)(p:OA)(n f:Nat)(xs:List Int)(w:World)(hn:n≤12)(HS:Hid (Sl w p n f 1 (ivs xs)))(HV:xB 53 #[aH aA aB p n f] w true):
  Calls Tryz.prog 23 #[aH aA aB p n f] w (aX (cJ xs) w):=by
 have hl:=xQ HS.out.ilen;go_enter Tryz.func23,Tryz.ntmps23;go_wp2_with fail;refine(HV _ (by exact .alloc (.refl _) _)).mono ?_;rintro e w1 ⟨rfl,h1⟩;have ad:w.heap.size<w1.heap.size:=Nat.lt_of_lt_of_le (by first|(simp;omega)|simp) h1.sz;have eb:w1.cell? ⟨w.heap.size,2,none⟩=some (.slice p n f):=by rw[h1.cells.1 _ _ (by simp)];simp
 have h:Ext w w1:=by exact .trans (.alloc (.refl _) _) h1
 go_wp2;go_loopw [3,12] (fun v i wr=> ∃(k:Nat) (q:OA) (m c:Nat),k≤n∧i= .int .i64 k∧v= .slice q m c∧m≤k∧wr.ownsRow w1.heap.size TI 1 (.slice q m c) m (ivs (dA (xs.take k)))∧Ext w1 wr) (fun _ i _=>n-(intOf i).toNat)
 case atStart=>exact⟨0,none,0,0,Nat.zero_le _,rfl,rfl,Nat.le_refl _,World.ownsRow_nil _ _ _ _,Ext.refl _⟩
 case round=>
  obtain⟨k,q,m,c,hk,rfl,rfl,aa,g,hE⟩:=hrel;have HO:=xQ g;have o:=h.trans hE;have ab:=hE.sz;have z:=h.sz;clear g;by_cases hlt:k<n
  ·obtain⟨b,ae,x,rfl,hx,hb,y⟩:=(HS.out.ext o).int_at hlt;have HX:=xQ hx;clear hx;by_cases hx0:0<x
   ·have a:Hid (dA (xs.take (k+1))=dA (xs.take k)++ [x]):=by
     show _=_;rw[bA HX.out,kY,if_pos hx0]
    go_wp2_with (at_builtin;refine cI eV rfl _ _ rfl w1.heap.size _ _ _ rfl (HO.out.alloc _) _ _ x _ rfl (by simp) (by omega) (by simp;omega) ?_;intro p' l w2 d r;have s:=xQ d;have t:Ext w1 w2:=Ext.own (hE.alloc _) (HO.out.alloc _) r (Nat.le_refl _);clear d r);go_roundw
    case rel=>exact⟨k+1,p',m+1,l,by omega,by go_num,rfl,by omega,by rw[a.out];exact s.out,t⟩
    case measure=>simp[intOf];omega
   have a:Hid (dA (xs.take (k+1))=dA (xs.take k)):=by show _=_;rw[bA HX.out,kY,if_neg hx0,List.append_nil]
   go_wp2;go_roundw
   case rel=>exact⟨k+1,q,m,c,by omega,by go_num,rfl,by omega,by rw[a.out];exact HO.out,hE⟩
   case measure=>simp[intOf];omega
  have a:Hid (eZ (dA (xs.take k))=cJ xs):=by show _=_;rw[List.take_of_length_le (by rw[hl.out];omega)];rfl
  go_wp2_with fail;refine(aHj w1.heap.size q m c _ _ HO (by omega)).mono ?_;rintro e w2 ⟨rfl,h2,h3⟩;have u:Ext w w2:=o.own HO h3 (by omega);have j:=xQ h2;clear h2 h3;go_wp2;go_ret;exact cZ (by rw[←a.out];have:=j.out.1;simpa using this) (by rw[←a.out];exact bE j h.sz) u
theorem aKu (aA aB:Int)(p:OA)(n a:Nat)(xs:List Int)(w:World)(hS:Sl w p n a 1 (ivs xs)):Calls Tryz.prog 40 #[aH aA aB p n a] w (aX (if aM aA aB xs then cJ xs else []) w):=by
 have hl:=hS.ilen;cases h:aM aA aB xs with
 |true=>
  have h2:fN aA aB n=true:=by simp only[aM,Bool.and_eq_true]at h;rw[←hl];exact h.1
  rw[if_pos rfl];exact aF8 aA aB p n a xs w (bZ h2).2.2.2.2.2.1 hS (fun w' hx=>by rw[←h];exact fV aA aB p n a xs w' (hS.ext hx))
 |false=>rw[if_neg (by simp)];exact aC5 aA aB p n a w (fun w' hx=>by rw[←h];exact fV aA aB p n a xs w' (hS.ext hx))
theorem aDc (aA aB:Int)(p:OA)(n a:Nat)(xs:List Int)(w:World)(hS:Sl w p n a 1 (ivs xs)):Calls Tryz.prog 23 #[aH aA aB p n a] w (aX (if aM aA aB xs then cJ xs else []) w):=by
 have hl:=hS.ilen;cases h:aM aA aB xs with
 |true=>
  have h2:fN aA aB n=true:=by simp only[aM,Bool.and_eq_true]at h;rw[←hl];exact h.1
  rw[if_pos rfl];exact aG5 aA aB p n a xs w (bZ h2).2.2.2.2.2.1 hS (fun w' hx=>by rw[←h];exact fI aA aB p n a xs w' (hS.ext hx))
 |false=>rw[if_neg (by simp)];exact aDb aA aB p n a w (fun w' hx=>by rw[←h];exact fI aA aB p n a xs w' (hS.ext hx))
set_option linter.unusedSimpArgs false
def eW (f:Nat→Bool):Nat→List Int
 |0=> []
 |k+1=>eW f k++(if f k then [(k:Int)]else [])
theorem aA3 (f:Nat→Bool)(k:Nat)(x:Int):x∈eW f k↔ ∃j:Nat,j<k∧f j=true∧x=(j:Int):=by
 induction k with
 |zero=>simp[eW]
 |succ k ih=>
  unfold eW;rw[List.mem_append,ih];constructor
  ·rintro(⟨j,h1,h2,h3⟩|h)
   ·exact⟨j,by omega,h2,h3⟩
   by_cases hf:f k=true
   ·rw[if_pos hf]at h;simp at h;exact⟨k,by omega,hf,h⟩
   rw[if_neg hf]at h;simp at h
  rintro⟨j,h1,h2,h3⟩;by_cases hj:j<k
  ·exact .inl ⟨j,hj,h2,h3⟩
  obtain rfl:j=k:=by omega
  right;rw[if_pos h2];simpa using h3
def cP (xs:List Int)(k:Nat):Bool:=xs[k]? ==some 0
def lC (xs:List Int):List Int:=eW (cP xs) xs.length
theorem rN (xs:List Int):lC xs= []↔(0:Int)∉xs:=by
 rw[List.eq_nil_iff_forall_not_mem];constructor
 ·intro h hm;obtain⟨k,hk,e⟩:=List.getElem_of_mem hm;exact h (k:Int) ((aA3 _ _ _).2 ⟨k,hk,by simp[cP,hk,e],rfl⟩)
 intro h x hx;obtain⟨j,h1,h2,h3⟩:=(aA3 _ _ _).1 hx;simp[cP,h1]at h2;exact h (by rw[←h2];exact List.getElem_mem h1)
theorem pU {wr w2:World}{B o n:Nat}{v u:Value}{xs:List Value}{ob:Obj}(ho:wr.ownsRow (B+1) TI 1 v n xs)(hg:(wr.alloc ob).grownBy w2 v.ownBlock)(hb:B<wr.heap.size)(hc:wr.cell? ⟨B,o,none⟩=some u):w2.cell? ⟨B,o,none⟩=some u:=by rw[World.cell?_of_block (w:=wr.alloc ob) (hg.block B (by simp;omega) (fun e=>by have:=ho.lt B e.symm;omega))];rw[((Ext.refl wr).alloc ob).cells.1 B o hb];exact hc
theorem aC1 (aA aB:Int)(p:OA)(n a:Nat)(w:World)(HV:xB 41 #[aH aA aB p n a] w false):
  Calls Tryz.prog 151 #[aH aA aB p n a] w (aX [] w):=by
 go_enter Tryz.func151,Tryz.ntmps151;go_wp2_with fail;refine(HV _ (by exact .alloc (.alloc (.refl _) _) _)).mono ?_;rintro e w1 ⟨rfl,h1⟩;have ho:((w.alloc (.cells #[aA,aB,.slice p n a] 25)).alloc (.cells #[] TI)).ownsRow (w.heap.size+1) TI 1 (.slice (some ⟨(w.alloc (.cells #[aA,aB,.slice p n a] 25)).heap.size,0,none⟩) 0 0) 0 []:=World.ownsRow_made _ #[] 0 (by simp) (by simp[maxLen]) rfl;have b:=xQ (bG ho h1);clear ho;go_wp2;go_ret;exact cZ (xs:= []) rfl (by simpa using bE b (Nat.le_succ _)) (by exact .trans (.alloc (.alloc (.refl _) _) _) h1)
theorem aF5 (aA aB:Int)(p:OA)(n d:Nat)(xs:List Int)(w:World)(hn:n≤12)(HS:Hid (Sl w p n d 1 (ivs xs)))(HV:xB 41 #[aH aA aB p n d] w true):
  Calls Tryz.prog 151 #[aH aA aB p n d] w (aX (lC xs) w):=by
 have hl:=xQ HS.out.ilen;go_enter Tryz.func151,Tryz.ntmps151;go_wp2_with fail;refine(HV _ (by exact .alloc (.alloc (.refl _) _) _)).mono ?_;rintro e w1 ⟨rfl,h1⟩;have ho:((w.alloc (.cells #[aA,aB,.slice p n d] 25)).alloc (.cells #[] TI)).ownsRow (w.heap.size+1) TI 1 (.slice (some ⟨(w.alloc (.cells #[aA,aB,.slice p n d] 25)).heap.size,0,none⟩) 0 0) 0 []:=World.ownsRow_made _ #[] 0 (by simp) (by simp[maxLen]) rfl;have s:=xQ (bG ho h1);clear ho;have ab:w.heap.size<w1.heap.size:=Nat.lt_of_lt_of_le (by first|(simp;omega)|simp) h1.sz;have eb:w1.cell? ⟨w.heap.size,2,none⟩=some (.slice p n d):=by rw[h1.cells.1 _ _ (by first|(simp;done)|(simp;omega))];simp
 have aa:Ext w w1:=by exact .trans (.alloc (.alloc (.refl _) _) _) h1
 go_wp2;go_loopw [3,4] (fun v i wr=> ∃(k:Nat) (q:OA) (m c:Nat),k≤n∧i= .int .i64 k∧v= .slice q m c∧m≤k∧wr.ownsRow (w.heap.size+1) TI 1 (.slice q m c) m (ivs (eW (cP xs) k))∧Ext w wr∧wr.cell? ⟨w.heap.size,2,none⟩=some (.slice p n d)∧w.heap.size<wr.heap.size) (fun _ i _=>n-(intOf i).toNat)
 case atStart=>exact⟨0,_,0,0,Nat.zero_le _,rfl,rfl,Nat.le_refl _,by simpa[eW]using s.out,aa,eb,ab⟩
 case round=>
  obtain⟨k,q,m,c,hk,rfl,rfl,ad,j,g,ec,l⟩:=hrel;have HO:=xQ j;clear j;by_cases hlt:k<n
  ·obtain⟨b,ae,x,rfl,hx,hb,z⟩:=(HS.out.ext g).int_at hlt;have HX:=xQ hx;clear hx;by_cases hx0:x=0
   ·have t0:(x==0)=true:=by simp[hx0]
    have a:Hid (eW (cP xs) (k+1)=eW (cP xs) k++ [(k:Int)]):=by show _=_;rw[eW,if_pos (by unfold cP;rw[HX.out,hx0];rfl)]
    clear hx0;go_wp2_with (at_builtin;refine cI eV rfl _ _ rfl (w.heap.size+1) _ _ _ rfl (HO.out.alloc _) _ _ (k:Int) _ rfl (by simp) (by omega) (by simp;omega) ?_;intro p' o w2 f h;have t:=xQ f;have y:Ext w w2:=Ext.own (g.alloc _) (HO.out.alloc _) h (by omega);have u:=pU HO h l ec;have r:w.heap.size<w2.heap.size:=Nat.lt_of_lt_of_le l (by have:=h.size;simp at this;omega);clear f h);go_roundw
    case rel=>exact⟨k+1,p',m+1,o,by omega,by go_num,rfl,by omega,by rw[a.out];exact t.out,y,u,r⟩
    case measure=>simp[intOf];omega
   have t0:(x==0)=false:=by simp[hx0]
   have a:Hid (eW (cP xs) (k+1)=eW (cP xs) k):=by show _=_;rw[eW,if_neg (by unfold cP;rw[HX.out];simp[hx0]),List.append_nil]
   clear hx0;go_wp2;go_roundw
   case rel=>exact⟨k+1,q,m,c,by omega,by go_num,rfl,by omega,by rw[a.out];exact HO.out,g,ec,l⟩
   case measure=>simp[intOf];omega
  have a:Hid (eW (cP xs) k=lC xs):=by show _=_;unfold lC;rw[hl.out,show k=n by omega]
  go_wp2;go_ret;exact cZ (by rw[←a.out];have:=HO.out.1;simpa using this) (by rw[←a.out];exact bE HO (Nat.le_succ _)) g
theorem aC2 (aA aB:Int)(p:OA)(n a:Nat)(xs:List Int)(w:World)(hS:Sl w p n a 1 (ivs xs)):Calls Tryz.prog 151 #[aH aA aB p n a] w (aX (if aM aA aB xs then lC xs else []) w):=by
 have hl:=hS.ilen;cases h:aM aA aB xs with
 |true=>
  have hb:n≤12:=by unfold aM at h;rw[Bool.and_eq_true]at h;have:=bZ h.1;omega
  simpa using aF5 aA aB p n a xs w hb hS (fun w' hx=>by have:=fV aA aB p n a xs w' (hS.ext hx);rwa[h]at this)
 |false=>simpa using aC1 aA aB p n a w (fun w' hx=>by have:=fV aA aB p n a xs w' (hS.ext hx);rwa[h]at this)
set_option maxRecDepth 100000 in set_option maxHeartbeats 1000000 in
theorem aD9 (aA aB:Int)(p:OA)(n a:Nat)(w:World)(HV:xB 53 #[aH aA aB p n a] w false):
  Calls Tryz.prog 186 #[aH aA aB p n a] w (aX [] w):=by
 go_enter Tryz.func186,Tryz.ntmps186;go_wp2_with fail;refine(HV _ (by exact .alloc (.refl _) _)).mono ?_;rintro e w1 ⟨rfl,h1⟩;go_wp2;go_ret;exact cZ (xs:= []) rfl (World.ownsRow_nil _ _ _ _) (by exact .trans (.alloc (.refl _) _) h1)
set_option maxRecDepth 100000 in set_option maxHeartbeats 1000000 in
theorem aG3 (aA aB:Int)(p:OA)(n d:Nat)(xs:List Int)(w:World)(hn:n≤12)(HS:Hid (Sl w p n d 1 (ivs xs)))(HV:xB 53 #[aH aA aB p n d] w true):
  Calls Tryz.prog 186 #[aH aA aB p n d] w (aX (lC xs) w):=by
 have hl:=xQ HS.out.ilen;go_enter Tryz.func186,Tryz.ntmps186;go_wp2_with fail;refine(HV _ (by exact .alloc (.refl _) _)).mono ?_;rintro e w1 ⟨rfl,h1⟩;have aa:w.heap.size<w1.heap.size:=Nat.lt_of_lt_of_le (by first|(simp;omega)|simp) h1.sz;have eb:w1.cell? ⟨w.heap.size,2,none⟩=some (.slice p n d):=by rw[h1.cells.1 _ _ (by first|(simp;done)|(simp;omega))];simp
 have z:Ext w w1:=by exact .trans (.alloc (.refl _) _) h1
 go_wp2;go_loopw [3,12] (fun v i wr=> ∃(k:Nat) (q:OA) (m c:Nat),k≤n∧i= .int .i64 k∧v= .slice q m c∧m≤k∧wr.ownsRow (w.heap.size+1) TI 1 (.slice q m c) m (ivs (eW (cP xs) k))∧Ext w wr∧wr.cell? ⟨w.heap.size,2,none⟩=some (.slice p n d)∧w.heap.size<wr.heap.size) (fun _ i _=>n-(intOf i).toNat)
 case atStart=>exact⟨0,_,0,0,Nat.zero_le _,rfl,rfl,Nat.le_refl _,World.ownsRow_nil _ _ _ _,z,eb,aa⟩
 case round=>
  obtain⟨k,q,m,c,hk,rfl,rfl,ab,j,g,ec,l⟩:=hrel;have HO:=xQ j;clear j;by_cases hlt:k<n
  ·obtain⟨b,ad,x,rfl,hx,hb,y⟩:=(HS.out.ext g).int_at hlt;have HX:=xQ hx;clear hx;by_cases hx0:x=0
   ·have t0:(x==0)=true:=by simp[hx0]
    have a:Hid (eW (cP xs) (k+1)=eW (cP xs) k++ [(k:Int)]):=by show _=_;rw[eW,if_pos (by unfold cP;rw[HX.out,hx0];rfl)]
    clear hx0;go_wp2_with (at_builtin;refine cI eV rfl _ _ rfl (w.heap.size+1) _ _ _ rfl (HO.out.alloc _) _ _ (k:Int) _ rfl (by simp) (by omega) (by simp;omega) ?_;intro p' o w2 f h;have s:=xQ f;have u:Ext w w2:=Ext.own (g.alloc _) (HO.out.alloc _) h (by omega);have t:=pU HO h l ec;have r:w.heap.size<w2.heap.size:=Nat.lt_of_lt_of_le l (by have:=h.size;simp at this;omega);clear f h);go_roundw
    case rel=>exact⟨k+1,p',m+1,o,by omega,by go_num,rfl,by omega,by rw[a.out];exact s.out,u,t,r⟩
    case measure=>simp[intOf];omega
   have t0:(x==0)=false:=by simp[hx0]
   have a:Hid (eW (cP xs) (k+1)=eW (cP xs) k):=by show _=_;rw[eW,if_neg (by unfold cP;rw[HX.out];simp[hx0]),List.append_nil]
   clear hx0;go_wp2;go_roundw
   case rel=>exact⟨k+1,q,m,c,by omega,by go_num,rfl,by omega,by rw[a.out];exact HO.out,g,ec,l⟩
   case measure=>simp[intOf];omega
  have a:Hid (eW (cP xs) k=lC xs):=by show _=_;unfold lC;rw[hl.out,show k=n by omega]
  go_wp2;go_ret;exact cZ (by rw[←a.out];have:=HO.out.1;simpa using this) (by rw[←a.out];exact bE HO (Nat.le_succ _)) g
theorem aL6 (aA aB:Int)(p:OA)(n a:Nat)(xs:List Int)(w:World)(hS:Sl w p n a 1 (ivs xs)):Calls Tryz.prog 186 #[aH aA aB p n a] w (aX (if aM aA aB xs then lC xs else []) w):=by
 have hl:=hS.ilen;cases h:aM aA aB xs with
 |true=>
  have hb:n≤12:=by unfold aM at h;rw[Bool.and_eq_true]at h;have:=bZ h.1;omega
  simpa using aG3 aA aB p n a xs w hb hS (fun w' hx=>by have:=fI aA aB p n a xs w' (hS.ext hx);rwa[h]at this)
 |false=>simpa using aD9 aA aB p n a w (fun w' hx=>by have:=fI aA aB p n a xs w' (hS.ext hx);rwa[h]at this)
end Go.Proofs.YtpelpnfhbepokaaGreatDoor
namespace Go.Proofs.YtpelpnfhbepokaaGreatDoor
open Go.RowKit
set_option linter.unusedVariables false
def aKp:Go.Shelf.Ren:=⟨fun|240=>140|276=>184|n=>n,fun|0=>0|3=>3|4=>4|5=>5|9=>9|20=>20|37=>22|70=>123|72=>125|75=>127|80=>132|164=>200|n=>n,fun|n=>n⟩
def sL:Go.Shelf.Ren:=⟨fun|166=>93|240=>140|276=>184|n=>n,fun|0=>0|3=>3|4=>4|5=>5|9=>9|20=>20|37=>22|70=>123|72=>125|75=>127|80=>132|164=>200|n=>n,fun|n=>n⟩
theorem aK3:Go.Proofs.Lays.n166 Tryz.prog sL:={
 mixed:=by kernel_rfl,
 f166:=Tryz.func93.trans (congrArg some (by kernel_rfl)),
 f240:=Tryz.func140.trans (congrArg some (by kernel_rfl)),
 f276:=Tryz.func184.trans (congrArg some (by kernel_rfl)),
 t0:=Tryz.underlying0,
 a0:=Tryz.isAgg0,
 z0:=Tryz.sizeOf0,
 v0:=Tryz.zeroValue0,
 t3:=Tryz.underlying3,
 a3:=Tryz.isAgg3,
 z3:=Tryz.sizeOf3,
 v3:=Tryz.zeroValue3,
 t4:=Tryz.underlying4,
 a4:=Tryz.isAgg4,
 z4:=Tryz.sizeOf4,
 v4:=Tryz.zeroValue4,
 t9:=Tryz.underlying9,
 a9:=Tryz.isAgg9,
 z9:=Tryz.sizeOf9,
 v9:=Tryz.zeroValue9,
 t20:=Tryz.underlying20,
 a20:=Tryz.isAgg20,
 z20:=Tryz.sizeOf20,
 v20:=Tryz.zeroValue20,
 t37:=Tryz.underlying22,
 a37:=Tryz.isAgg22,
 z37:=Tryz.sizeOf22,
 v37:=Tryz.zeroValue22,
 t70:=Tryz.underlying123,
 a70:=Tryz.isAgg123,
 z70:=Tryz.sizeOf123,
 v70:=Tryz.zeroValue123,
 t72:=Tryz.underlying125,
 a72:=Tryz.isAgg125,
 z72:=Tryz.sizeOf125,
 v72:=Tryz.zeroValue125,
 t75:=Tryz.underlying127,
 a75:=Tryz.isAgg127,
 z75:=Tryz.sizeOf127,
 v75:=Tryz.zeroValue127,
 t164:=Tryz.underlying200,
 a164:=Tryz.isAgg200,
 z164:=Tryz.sizeOf200,
 v164:=Tryz.zeroValue200}
theorem aJ7:Go.Proofs.Builder.Extra Tryz.prog sL:={
 sizeBuilder:=by kernel_rfl
 liesBuilder:=by kernel_rfl
 t5:=Tryz.underlying5
 a5:=Tryz.isAgg5
 z5:=Tryz.sizeOf5
 v5:=Tryz.zeroValue5
 infoByte:=by kernel_rfl
 cellsByte:=by kernel_rfl
 sizeByte:=by kernel_rfl
 neB5:=by decide}
def sK:Go.Shelf.Ren:=⟨fun|167=>92|240=>140|276=>184|n=>n,fun|0=>0|3=>3|4=>4|5=>5|9=>9|20=>20|37=>22|70=>123|72=>125|75=>127|80=>132|164=>200|n=>n,fun|n=>n⟩
theorem aK2:Go.Proofs.Lays.n167 Tryz.prog sK:={
 mixed:=by kernel_rfl,
 f167:=Tryz.func92.trans (congrArg some (by kernel_rfl)),
 f240:=Tryz.func140.trans (congrArg some (by kernel_rfl)),
 f276:=Tryz.func184.trans (congrArg some (by kernel_rfl)),
 t0:=Tryz.underlying0,
 a0:=Tryz.isAgg0,
 z0:=Tryz.sizeOf0,
 v0:=Tryz.zeroValue0,
 t4:=Tryz.underlying4,
 a4:=Tryz.isAgg4,
 z4:=Tryz.sizeOf4,
 v4:=Tryz.zeroValue4,
 t5:=Tryz.underlying5,
 a5:=Tryz.isAgg5,
 z5:=Tryz.sizeOf5,
 v5:=Tryz.zeroValue5,
 t9:=Tryz.underlying9,
 a9:=Tryz.isAgg9,
 z9:=Tryz.sizeOf9,
 v9:=Tryz.zeroValue9,
 t20:=Tryz.underlying20,
 a20:=Tryz.isAgg20,
 z20:=Tryz.sizeOf20,
 v20:=Tryz.zeroValue20,
 t37:=Tryz.underlying22,
 a37:=Tryz.isAgg22,
 z37:=Tryz.sizeOf22,
 v37:=Tryz.zeroValue22,
 t70:=Tryz.underlying123,
 a70:=Tryz.isAgg123,
 z70:=Tryz.sizeOf123,
 v70:=Tryz.zeroValue123,
 t72:=Tryz.underlying125,
 a72:=Tryz.isAgg125,
 z72:=Tryz.sizeOf125,
 v72:=Tryz.zeroValue125,
 t75:=Tryz.underlying127,
 a75:=Tryz.isAgg127,
 z75:=Tryz.sizeOf127,
 v75:=Tryz.zeroValue127,
 t164:=Tryz.underlying200,
 a164:=Tryz.isAgg200,
 z164:=Tryz.sizeOf200,
 v164:=Tryz.zeroValue200}
theorem aJ6:Go.Proofs.Builder.Extra Tryz.prog sK:={
 sizeBuilder:=by kernel_rfl
 liesBuilder:=by kernel_rfl
 t5:=Tryz.underlying5
 a5:=Tryz.isAgg5
 z5:=Tryz.sizeOf5
 v5:=Tryz.zeroValue5
 infoByte:=by kernel_rfl
 cellsByte:=by kernel_rfl
 sizeByte:=by kernel_rfl
 neB5:=by decide}
theorem lK (B b:Nat)(bs:List Value)(s:ByteArray)(w:World)(h:Lib.IsBuilderF 125 5 B b bs w)(hl:bs.length+s.size≤140737488355328)(hB:B≤w.heap.size):
  Calls Tryz.prog 93 #[.pointer (some ⟨b,0,none⟩),.string s] w fun e w'=>e= .returned (.tuple #[.int .i64 s.size,.nilIface])∧Lib.BuilderAtF 125 5 B b (.pointer (some ⟨b,0,none⟩)) (bs++Lib.strCells s) w'∧Below B w w'∧Lib.OthersKept 5 (some b) w w':=
 Any.Builder_WriteString_k aK3 aJ7 B b bs s w h hl hB
theorem jR (B b:Nat)(bs:List Value)(c:Int)(w:World)(h:Lib.IsBuilderF 125 5 B b bs w)(hl:bs.length+1≤140737488355328)(hB:B≤w.heap.size):
  Calls Tryz.prog 92 #[.pointer (some ⟨b,0,none⟩),.int .u8 c] w fun e w'=>e= .returned .nilIface∧Lib.BuilderAtF 125 5 B b (.pointer (some ⟨b,0,none⟩)) (bs++ [.int .u8 c]) w'∧Below B w w'∧Lib.OthersKept 5 (some b) w w':=
 Any.Builder_WriteByte_k aK2 aJ6 B b bs c w h hl hB
theorem aLn:Tryz.prog.globalNamed "internal/strconv.uint64pow10" =some 1:=by kernel_rfl
structure Env (w:World):Prop where
 tab:Lib.TabIs Tryz.prog w "internal/strconv.uint64pow10" .u64 Lib.pow10Tab
 mx: ∃m,w.cell? ⟨0,0,none⟩=some (.int .i64 m)
theorem Env.ext {w w':World}(h:Env w)(hb:Ext w w'):Env w' where
 tab:=Joins.var_stays aLn h.tab hb (Nat.le_refl _)
 mx:=by obtain⟨m,hm⟩:=h.mx;exact⟨m,(hb.cells.1 _ _ (World.block_lt_of_cell? w _ hm)).trans hm⟩
theorem Env.start {w:World}(ht:Lib.TabIs Tryz.prog w "internal/strconv.uint64pow10" .u64 Lib.pow10Tab)(hS:w.ShapedOpen Tryz.prog):Env w where
 tab:=ht
 mx:=Tryz.laysM145.s1_3 w hS
abbrev str (l:List UInt8):Value:= .string ⟨l.toArray⟩
theorem aAg (n:Nat):Lib.itoa (n:Int)=Lib.decDigits n:=by unfold Lib.itoa;rw[if_neg (by omega)];simp
theorem aJ8 (w:World)(os:Array Obj):Ext w (Sort.grow w os):=
 ⟨rfl,rfl,rfl,by simp,fun k hk=>by simp only[Sort.grow];rw[Array.getElem?_append_left hk]⟩
theorem aI5 (n:Nat)(w:World)(hn:n≤9223372036854775807)(hE:Env w):
  Calls Tryz.prog 94 #[n] w fun e w'=>e= .returned (str (Lib.decDigits n))∧Ext w w':=by
 refine(Tryz.strconv_Itoa (n:Int) (by omega) (by omega) w hE.tab).mono ?_;rintro e w' ⟨rfl,k,os,rfl⟩;exact⟨by rw[aAg],(Ext.drewN (Ext.refl w) k).trans (aJ8 _ _)⟩
theorem aI6 (n:Int)(w:World)(h0:0≤n)(hn:n≤9223372036854775807)(hE:Env w):
  Calls Tryz.prog 94 #[n] w fun e w'=>e= .returned (str (Lib.decDigits n.toNat))∧Ext w w':=by
 obtain⟨m,rfl⟩:=Int.eq_ofNat_of_zero_le h0;exact aI5 m w (by omega) hE
theorem yZ (n:Nat)(h:n<10):Lib.decDigits n= [UInt8.ofNat (48+n)]:=by rw[Lib.decDigits];simp[h]
theorem jH (n:Nat)(h:n≤9223372036854775807):(Lib.decDigits n).length≤21:=by rw[←aAg];exact Lib.itoa_length_le _ (by omega) (by omega)
abbrev lY (k a b:Int):Value:= .agg #[k,a,b]
abbrev aEt:=Int×Int×Int
/-! ### slices of structs -/
theorem Rd.at {α:Type}{f:α→List Value}{w:World}{b c n d sz:Nat}{xs:List α}(hf: ∀a,(f a).length=sz)(h:Rd w (.slice (some ⟨b,c,none⟩) n d) n sz (xs.flatMap f)){k:Nat}{a:α}(hk:xs[k]? =some a) (hn:xs.length=n) (j:Nat) (hj:j<sz):
  w.cell? ⟨b,c+k*sz+j,none⟩=(f a)[j]? :=by
 rcases h.2 with⟨h1,_⟩|⟨b',off',cap',h1,_,_,_,h2⟩
 ·simp at h1
 simp only[Value.slice.injEq,Option.some.injEq,Addr.mk.injEq,and_true,true_and]at h1;obtain⟨⟨rfl,rfl⟩,rfl⟩:=h1;have e:k<n:=by rw[←hn];exact(List.getElem?_eq_some_iff.1 hk).1
 have g:k*sz+j<n*sz:=by have:(k+1)*sz≤n*sz:=Nat.mul_le_mul_right sz e;rw[Nat.succ_mul]at this;omega
 rw[Nat.add_assoc,h2 _ g,dW f sz hf xs k a hk j hj]
def lZ (d:aEt):List Value:= [.int .i64 d.1,.int .i64 d.2.1,.int .i64 d.2.2]
abbrev RdDeeds (w:World)(v:Value)(ds:List aEt):Prop:=Rd w v ds.length 3 (ds.flatMap lZ)
theorem RdDeeds.at {w:World}{b c n e:Nat}{ds:List aEt}(h:Rd w (.slice (some ⟨b,c,none⟩) n e) n 3 (ds.flatMap lZ))(hn:ds.length=n){k:Nat}{d:aEt}(hk:ds[k]? =some d):
  w.cell? ⟨b,c+k*3,none⟩=some (.int .i64 d.1)∧w.cell? ⟨b,c+k*3+1,none⟩=some (.int .i64 d.2.1)∧w.cell? ⟨b,c+k*3+2,none⟩=some (.int .i64 d.2.2):=
 ⟨h.at (f:=lZ) (fun _=>rfl) hk hn 0 (by omega),h.at (f:=lZ) (fun _=>rfl) hk hn 1 (by omega),h.at (f:=lZ) (fun _=>rfl) hk hn 2 (by omega)⟩
/-! ### the text -/
/-! ### a builder while the world grows -/
theorem Ext.gb {w w':World}(h:Ext w w'):w.grownBy w' none:=⟨h.os,h.tape,h.output,h.size,fun k hk _=>h.block k hk⟩
theorem oT {T e:TypeId}{B b:Nat}{p:Value}{bs:List Value}{w w':World}(h:Lib.BuilderAtF T e B b p bs w)(hx:Ext w w'):Lib.BuilderAtF T e B b p bs w':=by have c:=h.lt;obtain⟨hB,v,hh,a,d⟩:=h;exact⟨hB,v,by rw[hx.block b c];exact hh,a.kept hx.gb (by cases v.ownBlock<;>simp),d⟩
theorem nO {T e:TypeId}{B b:Nat}{bs:List Value}{w w':World}(h:Lib.IsBuilderF T e B b bs w)(hx:Ext w w'):Lib.IsBuilderF T e B b bs w':=
 h.elim (fun q=> .inl (oT q hx)) (fun q=> .inr (oT q hx))
theorem gI {w wr w':World}{B:Nat}(h:Ext w wr)(hb:Below B wr w')(hB:w.heap.size≤B):Ext w w':=Below.trans h (Below.mono hb hB)
theorem jG (a b:List UInt8):Lib.byteCells (a++b)=Lib.byteCells a++Lib.strCells ⟨b.toArray⟩:=by simp[Lib.byteCells,Lib.strCells]
end Go.Proofs.YtpelpnfhbepokaaGreatDoor
