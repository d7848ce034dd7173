/-
  Texts of this proof, packed (@packed).
-/
import Derived.Deep.RegionHeld3
import Derived.RegionTactic
import Derived.Sort.OwnSortedInts
import Derived.Test.YtpelpnfhbepokaaGreatDoorUS
import Derived.Test.YtpelpnfhbepokaaGreatDoorU1
import Derived.Test.YtpelpnfhbepokaaGreatDoorU3
namespace Go.Proofs.YtpelpnfhbepokaaGreatDoor
open Go.RowKit
set_option linter.unusedVariables false
set_option maxHeartbeats 8000000
set_option maxRecDepth 100000
theorem aBy (xs:List Int):(xs.mergeSort fun x y=>decide (x≤y))=eZ xs:=by refine mK (List.mergeSort_perm _ _) ?_;have:=List.pairwise_mergeSort (le:=fun x y:Int=>decide (x≤y)) (fun a b c h1 h2=>by simp at*;omega) (fun a b=>by simp;omega) xs;simpa using this
theorem aJ7 (B:Nat)(p:OA)(n cap:Nat)(xs:List Int)(w:World)(h:w.ownsRow B TI 1 (.slice p n cap) n (ivs xs))(hn:n≤1000000):
  Calls Tryz.prog 58 #[.slice p n cap] w fun e w'=>e= .returned (.tuple #[])∧w'.ownsRow B TI 1 (.slice p n cap) n (ivs (eZ xs))∧w.grownBy w' (Value.slice p n cap).ownBlock:=by
 have hl:xs.length=n:=by have:=h.1;simpa using this
 subst hl;by_cases h0:xs.length=0
 ·obtain rfl:xs= []:=List.eq_nil_of_length_eq_zero h0;refine(Tryz.slices_Sort_int_none p cap w).mono ?_;rintro e w' ⟨rfl,rfl⟩;exact⟨rfl,h,World.grownBy.refl _ _⟩
 rcases h.2 with⟨h1,h2⟩|⟨g,cap',cur,h1,hb,hg,hnc,hm,hs,ht⟩
 ·exact absurd h2 h0
 injection h1 with e1 e2 e3;subst e1 e3;refine(Tryz.slices_Sort_int g 0 cap xs w (Go.holds_of_blockI hg (by simpa using ht)) (Array.getElem?_eq_some_iff.1 hg).1 (by omega)).mono ?_;rintro e w' ⟨rfl,k,os,rfl⟩;rw[aBy];exact⟨rfl,Go.ownsRow_sortedI (xL xs) hb hg hnc hm hs,Go.grownBy_sortedI _⟩
theorem bD {w w':World}{B n sz:Nat}{e:TypeId}{v:Value}{xs:List Value}(ho:w.ownsRow B e sz v n xs)(h:Ext w w'):w'.ownsRow B e sz v n xs:=
 ho.kept (row:=none) ⟨h.os,h.tape,h.output,h.size,fun k hk _=>h.block k hk⟩ (by cases v.ownBlock<;>simp)
theorem bK {w:World}{B B' n sz:Nat}{e:TypeId}{v:Value}{xs:List Value}(h:w.ownsRow B e sz v n xs)(hb:B'≤B):w.ownsRow B' e sz v n xs:=by
 refine⟨h.1,?_⟩;rcases h.2 with h2|⟨g,a,b,e1,c,r⟩
 ·exact .inl h2
 exact .inr ⟨g,a,b,e1,Nat.le_trans hb c,r⟩
theorem aDv (aA aB:Int)(p:OA)(n cap:Nat)(w:World)(HV:xB 41 #[aH aA aB p n cap] w false):
  Calls Tryz.prog 40 #[aH aA aB p n cap] w (bH [] w):=by
 go_enter Tryz.func40,Tryz.ntmps40;go_wp2_with fail;refine(HV _ (by exact .alloc (.alloc (.refl _) _) _)).mono ?_;rintro e w1 ⟨rfl,h1⟩;go_wp2;go_ret;have ho:((w.alloc (.cells #[aA,aB,.slice p n cap] 25)).alloc (.cells #[] TI)).ownsRow w.heap.size TI 1 (.slice (some ⟨(w.alloc (.cells #[aA,aB,.slice p n cap] 25)).heap.size,0,none⟩) 0 0) 0 []:=World.ownsRow_made _ #[] 0 (by simp) (by simp[maxLen]) rfl;exact dP rfl (by simpa using bD ho h1) (by exact .trans (.alloc (.alloc (.refl _) _) _) h1)
theorem aGt (aA aB:Int)(p:OA)(n cap:Nat)(xs:List Int)(w:World)(hn:n≤12)(HS:Hid (Sl w p n cap 1 (ivs xs)))(HV:xB 41 #[aH aA aB p n cap] w true):
  Calls Tryz.prog 40 #[aH aA aB p n cap] w (bH (gE xs) w):=by
 have hl:=xQ HS.out.ilen;go_enter Tryz.func40,Tryz.ntmps40;go_wp2_with fail;refine(HV _ (by exact .alloc (.alloc (.refl _) _) _)).mono ?_;rintro e w1 ⟨rfl,h1⟩;have ho:((w.alloc (.cells #[aA,aB,.slice p n cap] 25)).alloc (.cells #[] TI)).ownsRow w.heap.size TI 1 (.slice (some ⟨(w.alloc (.cells #[aA,aB,.slice p n cap] 25)).heap.size,0,none⟩) 0 0) 0 []:=World.ownsRow_made _ #[] 0 (by simp) (by simp[maxLen]) rfl;have j:=xQ (bD ho h1);have s:w.heap.size<w1.heap.size:=Nat.lt_of_lt_of_le (by first|(simp;omega)|simp) h1.sz;have eb:w1.cell? ⟨w.heap.size,2,none⟩=some (.slice p n cap):=by rw[h1.cells.1 _ _ (by simp;omega)];simp
 have r:Ext w w1:=by exact .trans (.alloc (.alloc (.refl _) _) _) h1
 clear ho;go_wp2;go_loopw [3,4] (fun v i wr=> ∃(k:Nat) (q:OA) (m c:Nat),k≤n∧i= .int .i64 k∧v= .slice q m c∧m≤k∧wr.ownsRow w.heap.size TI 1 (.slice q m c) m (ivs (eZ (dJ (xs.take k))))∧Ext w1 wr) (fun _ i _=>n-(intOf i).toNat)
 case atStart=>exact⟨0,_,0,0,Nat.zero_le _,rfl,rfl,Nat.le_refl _,by simpa[dJ,eZ]using j.out,Ext.refl _⟩
 case round=>
  obtain⟨k,q,m,c,hk,rfl,rfl,t,g,hE⟩:=hrel;have HO:=xQ g;have h:=r.trans hE;have u:=hE.sz;have ec:wr.cell? ⟨w.heap.size,2,none⟩=some (.slice p n cap):=(hE.cells.1 _ _ s).trans eb;clear g;by_cases hlt:k<n
  ·obtain⟨b,y,x,rfl,hx,hb,o⟩:=(HS.out.ext h).int_at hlt;have HX:=xQ hx;clear hx;by_cases hx0:0<x
   ·have a:Hid (eZ (dJ (xs.take (k+1)))=kY x (eZ (dJ (xs.take k)))):=by
     show _=_;rw[bI HX.out,lG,if_pos hx0,uL]
    have HC:Hid (∀w',Ext wr w'→Calls Tryz.prog 90 #[.slice q m c,x] w' (bH (kY x (eZ (dJ (xs.take k)))) w')):=fun w' hx=>aA5 q m c _ x w' (by omega) ((Sl.own HO.out).ext hx)
    have f:(kY x (eZ (dJ (xs.take k)))).length=m+1:=by rw[aJs];have:=HO.out.1;simp at this;omega
    have d:=xQ f;clear f;go_wp2_with fail;refine(HC _ (by exact .refl _)).mono ?_;rintro e w2 ⟨q2,c2,rfl,h2,h3⟩;have l:Hid (w2.ownsRow w.heap.size TI 1 (.slice q2 (m+1) c2) (m+1) (ivs (eZ (dJ (xs.take (k+1)))))):=by rw[a.out,←d.out];exact bK h2 h.sz
    rw[d.out];clear h2;go_wp2;go_roundw
    case rel=>exact⟨k+1,q2,m+1,c2,by omega,by go_num,rfl,by omega,l.out,by exact .trans hE h3⟩
    case measure=>simp[intOf];omega
   have a:Hid (eZ (dJ (xs.take (k+1)))=eZ (dJ (xs.take k))):=by show _=_;rw[bI HX.out,lG,if_neg hx0,List.append_nil]
   go_wp2;go_roundw
   case rel=>exact⟨k+1,q,m,c,by omega,by go_num,rfl,by omega,by rw[a.out];exact HO.out,hE⟩
   case measure=>simp[intOf];omega
  have a:Hid (eZ (dJ (xs.take k))=gE xs):=by show _=_;rw[List.take_of_length_le (by rw[hl.out];omega)];rfl
  go_wp2;go_ret;exact dP (by rw[←a.out];have:=HO.out.1;simpa using this) (by rw[←a.out];exact HO.out) h
theorem aF1 (aA aB:Int)(p:OA)(n cap:Nat)(w:World)(HV:xB 53 #[aH aA aB p n cap] w false):
  Calls Tryz.prog 23 #[aH aA aB p n cap] w (bH [] w):=by
 go_enter Tryz.func23,Tryz.ntmps23;go_wp2_with fail;refine(HV _ (by exact .alloc (.refl _) _)).mono ?_;rintro e w1 ⟨rfl,h1⟩;go_wp2;go_ret;exact dP rfl (World.ownsRow_nil _ _ _ _) (by exact .trans (.alloc (.refl _) _) h1)
theorem aHs (aA aB:Int)(p:OA)(n cap:Nat)(xs:List Int)(w:World)(hn:n≤12)(HS:Hid (Sl w p n cap 1 (ivs xs)))(HV:xB 53 #[aH aA aB p n cap] w true):
  Calls Tryz.prog 23 #[aH aA aB p n cap] w (bH (gE xs) w):=by
 have hl:=xQ HS.out.ilen;go_enter Tryz.func23,Tryz.ntmps23;go_wp2_with fail;refine(HV _ (by exact .alloc (.refl _) _)).mono ?_;rintro e w1 ⟨rfl,h1⟩;have ab:w.heap.size<w1.heap.size:=Nat.lt_of_lt_of_le (by first|(simp;omega)|simp) h1.sz;have eb:w1.cell? ⟨w.heap.size,2,none⟩=some (.slice p n cap):=by rw[h1.cells.1 _ _ (by simp)];simp
 have g:Ext w w1:=by exact .trans (.alloc (.refl _) _) h1
 go_wp2;go_loopw [3,12] (fun v i wr=> ∃(k:Nat) (q:OA) (m c:Nat),k≤n∧i= .int .i64 k∧v= .slice q m c∧m≤k∧wr.ownsRow w1.heap.size TI 1 (.slice q m c) m (ivs (dJ (xs.take k)))∧Ext w1 wr) (fun _ i _=>n-(intOf i).toNat)
 case atStart=>exact⟨0,none,0,0,Nat.zero_le _,rfl,rfl,Nat.le_refl _,World.ownsRow_nil _ _ _ _,Ext.refl _⟩
 case round=>
  obtain⟨k,q,m,c,hk,rfl,rfl,z,f,hE⟩:=hrel;have HO:=xQ f;have l:=g.trans hE;have aa:=hE.sz;have y:=g.sz;clear f;by_cases hlt:k<n
  ·obtain⟨b,ad,x,rfl,hx,hb,u⟩:=(HS.out.ext l).int_at hlt;have HX:=xQ hx;clear hx;by_cases hx0:0<x
   ·have a:Hid (dJ (xs.take (k+1))=dJ (xs.take k)++ [x]):=by
     show _=_;rw[bI HX.out,lG,if_pos hx0]
    go_wp2_with (at_builtin;refine dI fX rfl _ _ rfl w1.heap.size _ _ _ rfl (HO.out.alloc _) _ _ x _ rfl (by simp) (by omega) (by simp;omega) ?_;intro p' j w2 d o;have r:=xQ d;have s:Ext w1 w2:=Ext.own (hE.alloc _) (HO.out.alloc _) o (Nat.le_refl _);clear d o);go_roundw
    case rel=>exact⟨k+1,p',m+1,j,by omega,by go_num,rfl,by omega,by rw[a.out];exact r.out,s⟩
    case measure=>simp[intOf];omega
   have a:Hid (dJ (xs.take (k+1))=dJ (xs.take k)):=by show _=_;rw[bI HX.out,lG,if_neg hx0,List.append_nil]
   go_wp2;go_roundw
   case rel=>exact⟨k+1,q,m,c,by omega,by go_num,rfl,by omega,by rw[a.out];exact HO.out,hE⟩
   case measure=>simp[intOf];omega
  have a:Hid (eZ (dJ (xs.take k))=gE xs):=by show _=_;rw[List.take_of_length_le (by rw[hl.out];omega)];rfl
  go_wp2_with fail;refine(aJ7 w1.heap.size q m c _ _ HO (by omega)).mono ?_;rintro e w2 ⟨rfl,h2,h3⟩;have t:Ext w w2:=l.own HO h3 (by omega);have h:=xQ h2;clear h2 h3;go_wp2;go_ret;exact dP (by rw[←a.out];have:=h.out.1;simpa using this) (by rw[←a.out];exact bK h g.sz) t
theorem aMb (aA aB:Int)(p:OA)(n cap:Nat)(xs:List Int)(w:World)(hS:Sl w p n cap 1 (ivs xs)):Calls Tryz.prog 40 #[aH aA aB p n cap] w (bH (if aN aA aB xs then gE xs else []) w):=by
 have hl:=hS.ilen;cases h:aN aA aB xs with
 |true=>
  have h2:jO aA aB n=true:=by simp only[aN,Bool.and_eq_true]at h;rw[←hl];exact h.1
  rw[if_pos rfl];exact aGt aA aB p n cap xs w (cG h2).2.2.2.2.2.1 hS (fun w' hx=>by rw[←h];exact gZ aA aB p n cap xs w' (hS.ext hx))
 |false=>rw[if_neg (by simp)];exact aDv aA aB p n cap w (fun w' hx=>by rw[←h];exact gZ aA aB p n cap xs w' (hS.ext hx))
theorem aMt (aA aB:Int)(p:OA)(n cap:Nat)(xs:List Int)(w:World)(hS:Sl w p n cap 1 (ivs xs)):Calls Tryz.prog 23 #[aH aA aB p n cap] w (bH (if aN aA aB xs then gE xs else []) w):=by
 have hl:=hS.ilen;cases h:aN aA aB xs with
 |true=>
  have h2:jO aA aB n=true:=by simp only[aN,Bool.and_eq_true]at h;rw[←hl];exact h.1
  rw[if_pos rfl];exact aHs aA aB p n cap xs w (cG h2).2.2.2.2.2.1 hS (fun w' hx=>by rw[←h];exact fW aA aB p n cap xs w' (hS.ext hx))
 |false=>rw[if_neg (by simp)];exact aF1 aA aB p n cap w (fun w' hx=>by rw[←h];exact fW aA aB p n cap xs w' (hS.ext hx))
set_option linter.unusedSimpArgs false
def fC (f:Nat→Bool):Nat→List Int
 |0=> []
 |k+1=>fC f k++(if f k then [(k:Int)]else [])
def cV (xs:List Int)(k:Nat):Bool:=xs[k]? ==some 0
def pD (xs:List Int):List Int:=fC (cV xs) xs.length
theorem aFw {wr w2:World}{B o n:Nat}{v u:Value}{xs:List Value}{ob:Obj}(ho:wr.ownsRow (B+1) TI 1 v n xs)(hg:(wr.alloc ob).grownBy w2 v.ownBlock)(hb:B<wr.heap.size)(hc:wr.cell? ⟨B,o,none⟩=some u):w2.cell? ⟨B,o,none⟩=some u:=by rw[World.cell?_of_block (w:=wr.alloc ob) (hg.block B (by simp;omega) (fun e=>by have:=ho.lt B e.symm;omega))];rw[((Ext.refl wr).alloc ob).cells.1 B o hb];exact hc
theorem aDu (aA aB:Int)(p:OA)(n cap:Nat)(w:World)(HV:xB 41 #[aH aA aB p n cap] w false):
  Calls Tryz.prog 151 #[aH aA aB p n cap] w (bH [] w):=by
 go_enter Tryz.func151,Tryz.ntmps151;go_wp2_with fail;refine(HV _ (by exact .alloc (.alloc (.refl _) _) _)).mono ?_;rintro e w1 ⟨rfl,h1⟩;have ho:((w.alloc (.cells #[aA,aB,.slice p n cap] 25)).alloc (.cells #[] TI)).ownsRow (w.heap.size+1) TI 1 (.slice (some ⟨(w.alloc (.cells #[aA,aB,.slice p n cap] 25)).heap.size,0,none⟩) 0 0) 0 []:=World.ownsRow_made _ #[] 0 (by simp) (by simp[maxLen]) rfl;have a:=xQ (bD ho h1);clear ho;go_wp2;go_ret;exact dP (xs:= []) rfl (by simpa using bK a (Nat.le_succ _)) (by exact .trans (.alloc (.alloc (.refl _) _) _) h1)
theorem aGs (aA aB:Int)(p:OA)(n cap:Nat)(xs:List Int)(w:World)(hn:n≤12)(HS:Hid (Sl w p n cap 1 (ivs xs)))(HV:xB 41 #[aH aA aB p n cap] w true):
  Calls Tryz.prog 151 #[aH aA aB p n cap] w (bH (pD xs) w):=by
 have hl:=xQ HS.out.ilen;go_enter Tryz.func151,Tryz.ntmps151;go_wp2_with fail;refine(HV _ (by exact .alloc (.alloc (.refl _) _) _)).mono ?_;rintro e w1 ⟨rfl,h1⟩;have ho:((w.alloc (.cells #[aA,aB,.slice p n cap] 25)).alloc (.cells #[] TI)).ownsRow (w.heap.size+1) TI 1 (.slice (some ⟨(w.alloc (.cells #[aA,aB,.slice p n cap] 25)).heap.size,0,none⟩) 0 0) 0 []:=World.ownsRow_made _ #[] 0 (by simp) (by simp[maxLen]) rfl;have r:=xQ (bD ho h1);clear ho;have aa:w.heap.size<w1.heap.size:=Nat.lt_of_lt_of_le (by first|(simp;omega)|simp) h1.sz;have eb:w1.cell? ⟨w.heap.size,2,none⟩=some (.slice p n cap):=by rw[h1.cells.1 _ _ (by first|(simp;done)|(simp;omega))];simp
 have z:Ext w w1:=by exact .trans (.alloc (.alloc (.refl _) _) _) h1
 go_wp2;go_loopw [3,4] (fun v i wr=> ∃(k:Nat) (q:OA) (m c:Nat),k≤n∧i= .int .i64 k∧v= .slice q m c∧m≤k∧wr.ownsRow (w.heap.size+1) TI 1 (.slice q m c) m (ivs (fC (cV xs) k))∧Ext w wr∧wr.cell? ⟨w.heap.size,2,none⟩=some (.slice p n cap)∧w.heap.size<wr.heap.size) (fun _ i _=>n-(intOf i).toNat)
 case atStart=>exact⟨0,_,0,0,Nat.zero_le _,rfl,rfl,Nat.le_refl _,by simpa[fC]using r.out,z,eb,aa⟩
 case round=>
  obtain⟨k,q,m,c,hk,rfl,rfl,ab,h,f,ec,j⟩:=hrel;have HO:=xQ h;clear h;by_cases hlt:k<n
  ·obtain⟨b,ad,x,rfl,hx,hb,y⟩:=(HS.out.ext f).int_at hlt;have HX:=xQ hx;clear hx;by_cases hx0:x=0
   ·have t0:(x==0)=true:=by simp[hx0]
    have a:Hid (fC (cV xs) (k+1)=fC (cV xs) k++ [(k:Int)]):=by show _=_;rw[fC,if_pos (by unfold cV;rw[HX.out,hx0];rfl)]
    clear hx0;go_wp2_with (at_builtin;refine dI fX rfl _ _ rfl (w.heap.size+1) _ _ _ rfl (HO.out.alloc _) _ _ (k:Int) _ rfl (by simp) (by omega) (by simp;omega) ?_;intro p' l w2 d g;have s:=xQ d;have u:Ext w w2:=Ext.own (f.alloc _) (HO.out.alloc _) g (by omega);have t:=aFw HO g j ec;have o:w.heap.size<w2.heap.size:=Nat.lt_of_lt_of_le j (by have:=g.size;simp at this;omega);clear d g);go_roundw
    case rel=>exact⟨k+1,p',m+1,l,by omega,by go_num,rfl,by omega,by rw[a.out];exact s.out,u,t,o⟩
    case measure=>simp[intOf];omega
   have t0:(x==0)=false:=by simp[hx0]
   have a:Hid (fC (cV xs) (k+1)=fC (cV xs) k):=by show _=_;rw[fC,if_neg (by unfold cV;rw[HX.out];simp[hx0]),List.append_nil]
   clear hx0;go_wp2;go_roundw
   case rel=>exact⟨k+1,q,m,c,by omega,by go_num,rfl,by omega,by rw[a.out];exact HO.out,f,ec,j⟩
   case measure=>simp[intOf];omega
  have a:Hid (fC (cV xs) k=pD xs):=by show _=_;unfold pD;rw[hl.out,show k=n by omega]
  go_wp2;go_ret;exact dP (by rw[←a.out];have:=HO.out.1;simpa using this) (by rw[←a.out];exact bK HO (Nat.le_succ _)) f
theorem aIz (aA aB:Int)(p:OA)(n cap:Nat)(xs:List Int)(w:World)(hS:Sl w p n cap 1 (ivs xs)):Calls Tryz.prog 151 #[aH aA aB p n cap] w (bH (if aN aA aB xs then pD xs else []) w):=by
 have hl:=hS.ilen;cases h:aN aA aB xs with
 |true=>
  have hb:n≤12:=by unfold aN at h;rw[Bool.and_eq_true]at h;have:=cG h.1;omega
  simpa using aGs aA aB p n cap xs w hb hS (fun w' hx=>by have:=gZ aA aB p n cap xs w' (hS.ext hx);rwa[h]at this)
 |false=>simpa using aDu aA aB p n cap w (fun w' hx=>by have:=gZ aA aB p n cap xs w' (hS.ext hx);rwa[h]at this)
set_option maxRecDepth 100000 in set_option maxHeartbeats 1000000 in
theorem aF0 (aA aB:Int)(p:OA)(n cap:Nat)(w:World)(HV:xB 53 #[aH aA aB p n cap] w false):
  Calls Tryz.prog 186 #[aH aA aB p n cap] w (bH [] w):=by
 go_enter Tryz.func186,Tryz.ntmps186;go_wp2_with fail;refine(HV _ (by exact .alloc (.refl _) _)).mono ?_;rintro e w1 ⟨rfl,h1⟩;go_wp2;go_ret;exact dP (xs:= []) rfl (World.ownsRow_nil _ _ _ _) (by exact .trans (.alloc (.refl _) _) h1)
set_option maxRecDepth 100000 in set_option maxHeartbeats 1000000 in
theorem aHr (aA aB:Int)(p:OA)(n cap:Nat)(xs:List Int)(w:World)(hn:n≤12)(HS:Hid (Sl w p n cap 1 (ivs xs)))(HV:xB 53 #[aH aA aB p n cap] w true):
  Calls Tryz.prog 186 #[aH aA aB p n cap] w (bH (pD xs) w):=by
 have hl:=xQ HS.out.ilen;go_enter Tryz.func186,Tryz.ntmps186;go_wp2_with fail;refine(HV _ (by exact .alloc (.refl _) _)).mono ?_;rintro e w1 ⟨rfl,h1⟩;have z:w.heap.size<w1.heap.size:=Nat.lt_of_lt_of_le (by first|(simp;omega)|simp) h1.sz;have eb:w1.cell? ⟨w.heap.size,2,none⟩=some (.slice p n cap):=by rw[h1.cells.1 _ _ (by first|(simp;done)|(simp;omega))];simp
 have y:Ext w w1:=by exact .trans (.alloc (.refl _) _) h1
 go_wp2;go_loopw [3,12] (fun v i wr=> ∃(k:Nat) (q:OA) (m c:Nat),k≤n∧i= .int .i64 k∧v= .slice q m c∧m≤k∧wr.ownsRow (w.heap.size+1) TI 1 (.slice q m c) m (ivs (fC (cV xs) k))∧Ext w wr∧wr.cell? ⟨w.heap.size,2,none⟩=some (.slice p n cap)∧w.heap.size<wr.heap.size) (fun _ i _=>n-(intOf i).toNat)
 case atStart=>exact⟨0,_,0,0,Nat.zero_le _,rfl,rfl,Nat.le_refl _,World.ownsRow_nil _ _ _ _,y,eb,z⟩
 case round=>
  obtain⟨k,q,m,c,hk,rfl,rfl,aa,h,f,ec,j⟩:=hrel;have HO:=xQ h;clear h;by_cases hlt:k<n
  ·obtain⟨b,ab,x,rfl,hx,hb,u⟩:=(HS.out.ext f).int_at hlt;have HX:=xQ hx;clear hx;by_cases hx0:x=0
   ·have t0:(x==0)=true:=by simp[hx0]
    have a:Hid (fC (cV xs) (k+1)=fC (cV xs) k++ [(k:Int)]):=by show _=_;rw[fC,if_pos (by unfold cV;rw[HX.out,hx0];rfl)]
    clear hx0;go_wp2_with (at_builtin;refine dI fX rfl _ _ rfl (w.heap.size+1) _ _ _ rfl (HO.out.alloc _) _ _ (k:Int) _ rfl (by simp) (by omega) (by simp;omega) ?_;intro p' l w2 d g;have r:=xQ d;have t:Ext w w2:=Ext.own (f.alloc _) (HO.out.alloc _) g (by omega);have s:=aFw HO g j ec;have o:w.heap.size<w2.heap.size:=Nat.lt_of_lt_of_le j (by have:=g.size;simp at this;omega);clear d g);go_roundw
    case rel=>exact⟨k+1,p',m+1,l,by omega,by go_num,rfl,by omega,by rw[a.out];exact r.out,t,s,o⟩
    case measure=>simp[intOf];omega
   have t0:(x==0)=false:=by simp[hx0]
   have a:Hid (fC (cV xs) (k+1)=fC (cV xs) k):=by show _=_;rw[fC,if_neg (by unfold cV;rw[HX.out];simp[hx0]),List.append_nil]
   clear hx0;go_wp2;go_roundw
   case rel=>exact⟨k+1,q,m,c,by omega,by go_num,rfl,by omega,by rw[a.out];exact HO.out,f,ec,j⟩
   case measure=>simp[intOf];omega
  have a:Hid (fC (cV xs) k=pD xs):=by show _=_;unfold pD;rw[hl.out,show k=n by omega]
  go_wp2;go_ret;exact dP (by rw[←a.out];have:=HO.out.1;simpa using this) (by rw[←a.out];exact bK HO (Nat.le_succ _)) f
theorem aMs (aA aB:Int)(p:OA)(n cap:Nat)(xs:List Int)(w:World)(hS:Sl w p n cap 1 (ivs xs)):Calls Tryz.prog 186 #[aH aA aB p n cap] w (bH (if aN aA aB xs then pD xs else []) w):=by
 have hl:=hS.ilen;cases h:aN aA aB xs with
 |true=>
  have hb:n≤12:=by unfold aN at h;rw[Bool.and_eq_true]at h;have:=cG h.1;omega
  simpa using aHr aA aB p n cap xs w hb hS (fun w' hx=>by have:=fW aA aB p n cap xs w' (hS.ext hx);rwa[h]at this)
 |false=>simpa using aF0 aA aB p n cap w (fun w' hx=>by have:=fW aA aB p n cap xs w' (hS.ext hx);rwa[h]at this)
end Go.Proofs.YtpelpnfhbepokaaGreatDoor
namespace Go.Proofs.YtpelpnfhbepokaaGreatDoor
open Go Go.RowKit
set_option linter.unusedVariables false
section
variable {P:Program} {ops:Array Oper} {Q:Exit→Act→World→Prop} {md:Region.Mode} {G:Nat→Value→World→Prop} {R:World→World→Prop}
def fQ (ops:Array Oper)(i:Nat):Option Tmp:=(ops[i]?).bind (·.dst)
def aLu (ops:Array Oper):List (Nat×Option Tmp):=(List.range ops.size).map (fun i=>(i,fQ ops i))
def aNf (md:Region.Mode)(ops:Array Oper)(i:Nat):List (Nat×Option Tmp):=
 match ops[i]? with
 |none=> []
 |some o=>(o.after.toList.filter (fun e=>Region.binds md e)).map (fun e=>(e.on,fQ ops e.on))
def lI (ops:Array Oper)(i:Nat):List (Nat×Option Tmp):=
 match ops[i]? with
 |none=> []
 |some o=>(aLu ops).filter (fun p=>match p.2 with
  |none=>false
  |some d=>(o.looksAt ops).contains d)
def ForV (G:Nat→Value→World→Prop)(w:World):List (Nat×Option Tmp)→Act→(Act→Prop)→Prop
 | [],a,K=>K a
 |p::ps,a,K=> ∀v,G p.1 v w→ForV G w ps (a.put p.2 v) K
def mZ (P:Program)(ops:Array Oper)(G:Nat→Value→World→Prop)(R:World→World→Prop)(i:Nat)(o:Oper)(w:World)(a:Act):Prop:=
 ∀K':Act→World→Prop,(∀a' w'',(∃v,a'=a.put o.dst v∧G i v w''∧R w w'')→K' a' w'')→if Region.wanted o (yielded ops a.tmps)=true then Oper.wp P o a w K' (fun _ _ _=>False)else K' (a.put o.dst undef) w
def StepsL (P:Program)(md:Region.Mode)(ops:Array Oper)(G:Nat→Value→World→Prop)(R:World→World→Prop)(a0:Act)(W:World)(l:List Nat):Prop:=
 ∀i∈l,∀o,ops[i]? =some o→ ∀w,R W w→ForV G w (lI ops i) a0 (mZ P ops G R i o w)
theorem StepsL.nil {a0:Act}{W:World}:StepsL P md ops G R a0 W []:=fun _ h=>by cases h
theorem StepsL.cons {a0:Act}{W:World}{i:Nat}{o:Oper}{ps:List (Nat×Option Tmp)}{is:List Nat}(ho:ops[i]? =some o) (hp:lI ops i=ps)
  (h: ∀w,R W w→ForV G w ps a0 (mZ P ops G R i o w)) (hs:StepsL P md ops G R a0 W is):StepsL P md ops G R a0 W (i::is):=by
 intro j hj o' a w hw;rcases List.mem_cons.1 hj with rfl|hj
 ·rw[ho]at a;cases a;rw[hp];exact h w hw
 exact hs j hj o' a w hw
theorem sC {a0:Act}{W:World}{i:Nat}{o:Oper}{is:List Nat}(ps:List (Nat×Option Tmp))(ho:ops[i]? =some o) (h: ∀w,R W w→ForV G w ps a0 (mZ P ops G R i o w)) (hs:StepsL P md ops G R a0 W is) (hp:lI ops i=ps:=by kernel_rfl):StepsL P md ops G R a0 W (i::is):=StepsL.cons ho hp h hs
theorem sS0 {a0:Act}{W:World}{i:Nat}{o:Oper}{is:List Nat}(ps:List (Nat×Option Tmp))(hs:StepsL P md ops G Ext a0 W is)(ho:ops[i]? =some o:=by exact rfl) (hp:lI ops i=ps:=by kernel_rfl) (h: ∀w,Ext W w→ForV G w ps a0 (mZ P ops G Ext i o w):=by intro wi hx K hK;go_simp;exact hK _ _ ⟨_,rfl,rfl,Ext.refl _⟩):StepsL P md ops G Ext a0 W (i::is):=StepsL.cons ho hp h hs
theorem sS1 {a0:Act}{W:World}{i:Nat}{o:Oper}{is:List Nat}(ps:List (Nat×Option Tmp))(hs:StepsL P md ops G Ext a0 W is)(ho:ops[i]? =some o:=by exact rfl) (hp:lI ops i=ps:=by kernel_rfl) (h: ∀w,Ext W w→ForV G w ps a0 (mZ P ops G Ext i o w):=by intro wi hx v0 h0 K hK;obtain rfl:=h0;go_simp;exact hK _ _ ⟨_,rfl,rfl,Ext.refl _⟩):StepsL P md ops G Ext a0 W (i::is):=StepsL.cons ho hp h hs
theorem sS2 {a0:Act}{W:World}{i:Nat}{o:Oper}{is:List Nat}(ps:List (Nat×Option Tmp))(hs:StepsL P md ops G Ext a0 W is)(ho:ops[i]? =some o:=by exact rfl) (hp:lI ops i=ps:=by kernel_rfl) (h: ∀w,Ext W w→ForV G w ps a0 (mZ P ops G Ext i o w):=by intro wi hx v0 h0 v1 h1 K hK;obtain rfl:=h0;obtain rfl:=h1;go_simp;exact hK _ _ ⟨_,rfl,rfl,Ext.refl _⟩):StepsL P md ops G Ext a0 W (i::is):=StepsL.cons ho hp h hs
theorem sS3 {a0:Act}{W:World}{i:Nat}{o:Oper}{is:List Nat}(ps:List (Nat×Option Tmp))(hs:StepsL P md ops G Ext a0 W is)(ho:ops[i]? =some o:=by exact rfl) (hp:lI ops i=ps:=by kernel_rfl) (h: ∀w,Ext W w→ForV G w ps a0 (mZ P ops G Ext i o w):=by intro wi hx v0 h0 v1 h1 v2 h2 K hK;obtain rfl:=h0;obtain rfl:=h1;obtain rfl:=h2;go_simp;exact hK _ _ ⟨_,rfl,rfl,Ext.refl _⟩):StepsL P md ops G Ext a0 W (i::is):=StepsL.cons ho hp h hs
def qO (md:Region.Mode)(ops:Array Oper)(n:Nat):Bool:=
 Region.noSelect ops&&(List.range ops.size).all fun i=>
  match ops[i]? with
  |none=>true
  |some o=>
   (match o.dst with
    |none=>true
    |some d=>decide (d<n)&&(List.range ops.size).all fun j=>j==i || fQ ops j !=some d)&&
   (o.looksAt ops).all fun t=>(List.range ops.size).all fun j=>fQ ops j !=some t || o.after.any fun e=>Region.binds md e&&e.on==j
theorem pN {n:Nat}(h:qO md ops n=true):
  Region.noSelect ops=true∧ ∀i o,ops[i]? =some o→
   (∀d,o.dst=some d→d<n∧ ∀j,j≠i→fQ ops j≠some d)∧
   (∀t∈o.looksAt ops,∀j,fQ ops j=some t→ ∃e∈o.after,Region.binds md e=true∧e.on=j):=by
 unfold qO at h;rw[Bool.and_eq_true]at h;refine⟨h.1,fun i o ho=> ?_⟩;have b:i<ops.size:=(Array.getElem?_eq_some_iff.1 ho).1;have h1:=List.all_eq_true.1 h.2 i (List.mem_range.2 b);simp only[ho,Bool.and_eq_true]at h1;obtain⟨h1,h2⟩:=h1;have a: ∀j t,fQ ops j=some t→j<ops.size:=fun j t hj=>by
  rcases Nat.lt_or_ge j ops.size with h'|h'
  ·exact h'
  simp[fQ,Array.getElem?_eq_none h']at hj
 refine⟨fun d hd=> ?_,fun t ht j hj=> ?_⟩
 ·rw[hd]at h1;simp only[Bool.and_eq_true,decide_eq_true_eq]at h1;refine⟨h1.1,fun j hji hj=> ?_⟩;have:=List.all_eq_true.1 h1.2 j (List.mem_range.2 (a j d hj));simp[hji,hj]at this
 have:=List.all_eq_true.1 (List.all_eq_true.1 h2 t ht) j (List.mem_range.2 (a j t hj));simp only[Bool.or_eq_true,bne_iff_ne,ne_eq]at this;rcases this with h'|h'
 ·exact absurd hj h'
 obtain⟨e,he,h3⟩:=Array.any_eq_true'.1 h';rw[Bool.and_eq_true]at h3;exact⟨e,he,h3.1,by simpa using h3.2⟩
structure FrI (ops:Array Oper) (a0:Act) (vals:Nat→Value) (l:Nat→Prop) (a:Act):Prop where
 defers:a.defers=a0.defers
 size:a.tmps.size=a0.tmps.size
 mem: ∀i d,fQ ops i=some d→l i→a.tmps[d]? =some (vals i)
 out: ∀d,(∀i,l i→fQ ops i≠some d)→a.tmps[d]? =a0.tmps[d]?
theorem aM4 {a b:Act}(h:a.tmps=b.tmps)(k:a.defers=b.defers):a=b:=by cases a;cases b;simp_all
theorem FrI.put {n:Nat}{a0 a:Act}{vals:Nat→Value}{l:Nat→Prop}(k:qO md ops n=true)(hn:a0.tmps.size=n)(h:FrI ops a0 vals l a){i:Nat}{o:Oper}(ho:ops[i]? =some o) (v:Value) (hv:l i→vals i=v):
  FrI ops a0 (fun j=>if j=i then v else vals j) (fun j=>l j∨j=i) (a.put o.dst v):=by
 obtain⟨-,hs⟩:=pN k;have c:fQ ops i=o.dst:=by simp[fQ,ho]
 cases hd:o.dst with
 |none=>
  refine⟨h.defers,h.size,fun j d hj hl=> ?_,fun d hd'=>h.out d fun j hj=>hd' j (.inl hj)⟩;have b:j≠i:=by rintro rfl;rw[c,hd]at hj;cases hj
  simp only[Act.put,b,if_false];exact h.mem j d hj (hl.resolve_right b)
 |some d0=>
  obtain⟨g,f⟩:=(hs i o ho).1 d0 hd;refine⟨h.defers,by simp[Act.put,h.size],fun j d hj hl=> ?_,fun d hd'=> ?_⟩
  ·by_cases b:j=i
   ·subst b;rw[c,hd]at hj;cases hj
    simp[Act.put,h.size,hn,g]
   have e:d0≠d:=by rintro rfl;exact f j b hj
   simp only[Act.put,b,if_false];rw[Array.getElem?_setIfInBounds_ne e];exact h.mem j d hj (hl.resolve_right b)
  have e:d0≠d:=by rintro rfl;exact hd' i (.inr rfl) (by rw[c,hd])
  simp only[Act.put];rw[Array.getElem?_setIfInBounds_ne e];exact h.out d fun j hj=>hd' j (.inl hj)
theorem FrI.congr {a0 a:Act}{vals vals':Nat→Value}{l l':Nat→Prop}(h:FrI ops a0 vals l a)(hl: ∀i,l i↔l' i)(hv: ∀i,l' i→vals i=vals' i):FrI ops a0 vals' l' a:=
 ⟨h.defers,h.size,fun i d hd hi=>by rw[←hv i hi];exact h.mem i d hd ((hl i).2 hi),fun d hd=>h.out d fun i hi=>hd i ((hl i).1 hi)⟩
theorem FrI.nil {a0:Act}{vals:Nat→Value}:FrI ops a0 vals (fun _=>False) a0:=⟨rfl,rfl,fun _ _ _ h=>h.elim,fun _ _=>rfl⟩
theorem FrI.eq {a0 a b:Act}{vals:Nat→Value}{l:Nat→Prop}(h:FrI ops a0 vals l a)(k:FrI ops a0 vals l b):a=b:=by
 refine aM4 ?_ (h.defers.trans k.defers.symm);apply Array.ext_getElem?;intro d;by_cases hd: ∃i,l i∧fQ ops i=some d
 ·obtain⟨i,hi,hd⟩:=hd;rw[h.mem i d hd hi,k.mem i d hd hi]
 have c: ∀i,l i→fQ ops i≠some d:=fun i hi he=>hd ⟨i,hi,he⟩
 rw[h.out d c,k.out d c]
theorem ForV.get {n:Nat}(c:qO md ops n=true){a0:Act}(hn:a0.tmps.size=n){vals:Nat→Value}{w:World}{K:Act→Prop}:
  ∀(ps:List (Nat×Option Tmp)) (l:Nat→Prop) (a:Act),(∀p∈ps,(∃o,ops[p.1]? =some o)∧p.2=fQ ops p.1)→(∀p∈ps,G p.1 (vals p.1) w)→FrI ops a0 vals l a→ForV G w ps a K→
   ∃b,FrI ops a0 vals (fun j=>l j∨j∈ps.map (·.1)) b∧K b
 | [],l,a,_,_,hf,h=>⟨a,hf.congr (fun i=>by simp) (fun _ _=>rfl),h⟩
 |p::ps,l,a,hp,hG,hf,h=>by
  obtain⟨⟨o,ho⟩,hd⟩:=hp p (by simp);have d:p.2=o.dst:=by rw[hd];simp[fQ,ho]
  have h1:=h (vals p.1) (hG p (by simp));rw[d]at h1
  have e:=(hf.put c hn ho (vals p.1) (fun _=>rfl)).congr (l':=fun j=>l j∨j=p.1) (vals':=vals) (fun _=>Iff.rfl) (fun i _=>by
   by_cases hi:i=p.1
   ·simp[hi]
   ·simp[hi])
  obtain⟨b,hb,hK⟩:=ForV.get c hn ps _ _ (fun q hq=>hp q (by simp[hq])) (fun q hq=>hG q (by simp[hq])) e h1;refine⟨b,hb.congr (fun i=> ?_) (fun _ _=>rfl),hK⟩;simp only[List.map_cons,List.mem_cons];constructor
  ·rintro((h|h)|h)
   ·exact .inl h
   ·exact .inr (.inl h)
   exact .inr (.inr h)
  rintro(h|h|h)
  ·exact .inl (.inl h)
  ·exact .inl (.inr h)
  exact .inr h
theorem xY {i:Nat}{o:Oper}(ho:ops[i]? =some o) {p:Nat×Option Tmp} (h:p∈lI ops i):p.1<ops.size∧p.2=fQ ops p.1∧ ∃d,fQ ops p.1=some d∧d∈o.looksAt ops:=by
 unfold lI at h;rw[ho]at h;obtain⟨h1,h2⟩:=List.mem_filter.1 h;obtain⟨k,hk,rfl⟩:=List.mem_map.1 h1;refine⟨List.mem_range.1 hk,rfl,?_⟩;dsimp only at h2⊢;cases hd:fQ ops k with
 |none=>rw[hd]at h2;simp at h2
 |some d=>rw[hd]at h2;exact⟨d,rfl,by simpa using h2⟩
theorem aJp {i:Nat}{o:Oper}(ho:ops[i]? =some o) {j d:Nat} (hj:fQ ops j=some d) (hd:d∈o.looksAt ops):j∈(lI ops i).map (·.1):=by
 unfold lI;rw[ho];have a:j<ops.size:=by
  rcases Nat.lt_or_ge j ops.size with h'|h'
  ·exact h'
  simp[fQ,Array.getElem?_eq_none h']at hj
 refine List.mem_map.2 ⟨(j,fQ ops j),List.mem_filter.2 ⟨List.mem_map.2 ⟨j,List.mem_range.2 a,rfl⟩,?_⟩,rfl⟩;dsimp only;rw[hj];simpa using hd
theorem aL7 {n:Nat}(ae:qO md ops n=true){a0:Act}(hn:a0.tmps.size=n){vals:Nat→Value}{w:World}{l:Nat→Prop}{a b:Act}{i:Nat}{o:Oper}(ho:ops[i]? =some o)
  (af: ∀e∈o.after,Region.binds md e=true→l e.on) (ai: ¬l i)
  (ha:FrI ops a0 vals l a) (hb:FrI ops a0 vals (fun j=>j∈(lI ops i).map (·.1)) b) (h:mZ P ops G R i o w b) {K:Act→World→Prop}
  (hK: ∀v w'',G i v w''→R w w''→K (a.put o.dst v) w''):wpOp P ops Q i K a w:=by
 obtain⟨y,hs⟩:=pN ae;obtain⟨h1,h2⟩:=hs i o ho;have s: ∀cs x,o.op≠ .select cs x:=fun cs x=>Region.noSelect_spec y i o cs x ho
 have q: ∀t∈o.looksAt ops,a.tmps[t]? =b.tmps[t]? :=fun t ht=>by
  by_cases hd: ∃j,fQ ops j=some t
  ·obtain⟨j,hj⟩:=hd;obtain⟨e,he,z,rfl⟩:=h2 t ht j hj;rw[ha.mem _ _ hj (af e he z),hb.mem _ _ hj (aJp ho hj ht)]
  rw[ha.out t fun j _ hj=>hd ⟨j,hj⟩,hb.out t fun j _ hj=>hd ⟨j,hj⟩]
 have ab:execOp a.eval o=execOp b.eval o:=execOp_congr o s fun x hx=>by
  cases x with
  |tmp t=>have:=q t (List.mem_append_left _ (List.mem_filterMap.2 ⟨.tmp t,by simpa using hx,rfl⟩));simp only[Act.eval,Array.getD_eq_getD_getElem?,this]
  |_=>rfl
 have ag:Region.wanted o (yielded ops a.tmps)=Region.wanted o (yielded ops b.tmps):=by
  unfold Region.wanted;cases hg:o.guard with
  |none=>rfl
  |some gw=>
   obtain⟨g,ah⟩:=gw;have:yielded ops a.tmps g=yielded ops b.tmps g:=by
    unfold yielded;cases ht:(ops[g]?).bind (·.dst)with
    |none=>rfl
    |some t=>have:=q t (by simp[Oper.looksAt,hg,ht]);simp[this]
   simp only[this]
 have k:=h (fun a' w'=> ∃v,a'=b.put o.dst v∧G i v w'∧R w w') (fun a' w'' h=>h);have p: ∀u v:Value,b.put o.dst u=b.put o.dst v→a.put o.dst u=a.put o.dst v:=fun u v he=>by
  cases hd:o.dst with
  |none=>rfl
  |some d=>
   rw[hd]at he;obtain⟨ad,-⟩:=h1 d hd;have e1:(b.tmps.setIfInBounds d u)[d]? =(b.tmps.setIfInBounds d v)[d]? :=by have:=congrArg Act.tmps he;simp only[Act.put]at this;rw[this]
   have aa:d<b.tmps.size:=by rw[hb.size,hn];exact ad
   simp[aa]at e1;rw[e1]
 refine wpOp_step ho fun K' hK'=> ?_
 rw[ag];split
 ·rename_i hw;rw[if_pos hw]at k;unfold Oper.wp at*;rw[ab];generalize (execOp b.eval o).run P w=r at*;cases r with
  |ok m w'=>
   cases m<;>simp only[Oper.upon]at k⊢
   case value u=>obtain⟨v,he,hg,hr⟩:=k;rw[p _ _ he];exact hK' _ _ (hK v _ hg hr)
   case skip=>obtain⟨v,he,hg,hr⟩:=k;rw[p _ _ he];exact hK' _ _ (hK v _ hg hr)
   case defer d=>obtain⟨v,he,hg,hr⟩:=k;have:=congrArg Act.defers he;cases hd:o.dst<;>simp[Act.put,hd]at this
   case enter f args=>
    refine Calls.mono k fun e w'' he=> ?_
    cases e with
    |returned u=>obtain⟨v,he,hg,hr⟩:=he;show K' _ _;rw[p _ _ he];exact hK' _ _ (hK v _ hg hr)
    |panicked c=>exact he.elim
    |outgrown=>obtain⟨_,_,h⟩:=he;exact h.elim
   case row row args=>
    refine Rows.mono k fun u w'' he=> ?_
    obtain⟨v,he,hg,hr⟩:=he;rw[p _ _ he];exact hK' _ _ (hK v _ hg hr)
  |halt x w'=>cases x<;>simp only[Oper.upon]at k
 rename_i hw;rw[if_neg hw]at k;obtain⟨v,he,hg,hr⟩:=k;rw[p _ _ he];exact hK' _ _ (hK v _ hg hr)
def yB (md:Region.Mode)(ops:Array Oper):Bool:=(List.range ops.size).all fun i=>match ops[i]? with
 |none=>true
 |some o=>o.after.all fun e=> !Region.binds md e || decide (e.on<i)
theorem aHb (h:yB md ops=true)(a:Array Bool)(d:a.size=ops.size)(hr:Region.ready md ops a= []): ∀i,i<ops.size→a.getD i false=true:=by
 intro i;induction i using Nat.strongRecOn with
 |_ i ih=>
  intro hi;cases hl:a.getD i false with
  |true=>rfl
  |false=>
   have ho:ops[i]? =some ops[i]:=Array.getElem?_eq_getElem hi;have c:i<a.size:=by omega
   have b:i∈Region.ready md ops a:=by rw[mem_ready];refine⟨by simp[c]at hl⊢;exact hl,_,ho,fun e he hb=> ?_⟩;have h1:=List.all_eq_true.1 h i (List.mem_range.2 hi);simp only[ho]at h1;have h2:=Array.all_eq_true_iff_forall_mem.1 h1 e he;simp[hb]at h2;exact ih e.on h2 (by omega)
   rw[hr]at b;cases b
def uA (md:Region.Mode)(ops:Array Oper)(m:Nat):Bool:=(List.range ops.size).all fun i=>decide (i<m) || match ops[i]? with
 |none=>true
 |some o=>(o.after.any fun e=>Region.binds md e&&decide (m≤e.on)) || (List.range m).all fun j=>
   (o.after.any fun e=>Region.binds md e&&e.on==j) || (List.range m).any fun k=>match ops[k]? with
    |none=>false
    |some ok=>ok.after.any fun e=>Region.binds md e&&e.on==j
theorem aIj {m:Nat}(r:yB md ops=true)(ht:uA md ops m=true)(a:Array Bool)(hm:m≤ops.size)
  (g: ∀i o,ops[i]? =some o→a.getD i false=true→ ∀e∈o.after,Region.binds md e=true→a.getD e.on false=true)
  (q: ∀i,m≤i→a.getD i false=false) {i:Nat} (hi:i∈Region.ready md ops a) (t:m≤i): ∀j,j<m→a.getD j false=true:=by
 obtain⟨h0,o,ho,b⟩:=mem_ready.1 hi;have p:i<ops.size:=(Array.getElem?_eq_some_iff.1 ho).1;have h1:=List.all_eq_true.1 ht i (List.mem_range.2 p);have f: ¬i<m:=by omega
 simp only[ho,f,decide_false,Bool.false_or,Bool.or_eq_true]at h1;rcases h1 with h1|h1
 ·obtain⟨e,he,h2⟩:=Array.any_eq_true'.1 h1;rw[Bool.and_eq_true]at h2;have h3:=b e he h2.1;rw[q e.on (by simpa using h2.2)]at h3;cases h3
 have s: ∀d j,m-j≤d→j<m→a.getD j false=true:=by
  intro d;induction d with
  |zero=>intro j h h';omega
  |succ d ih=>
   intro j hd hj;have h2:=List.all_eq_true.1 h1 j (List.mem_range.2 hj);rw[Bool.or_eq_true]at h2;rcases h2 with h2|h2
   ·obtain⟨e,he,h3⟩:=Array.any_eq_true'.1 h2;rw[Bool.and_eq_true]at h3;have h4:=b e he h3.1;rwa[show e.on=j by simpa using h3.2]at h4
   obtain⟨k,hk,h3⟩:=List.any_eq_true.1 h2;have n:=List.mem_range.1 hk;have c:ops[k]? =some ops[k]:=Array.getElem?_eq_getElem (by omega);simp only[c]at h3;obtain⟨e,he,h4⟩:=Array.any_eq_true'.1 h3;rw[Bool.and_eq_true]at h4;have l:e.on=j:=by simpa using h4.2
   have h5:=List.all_eq_true.1 r k (List.mem_range.2 (by omega));simp only[c]at h5;have h6:=Array.all_eq_true_iff_forall_mem.1 h5 e he;simp[h4.1]at h6;have:=g k _ c (ih k (by omega) n) e he h4.1;rwa[l]at this
 exact fun j hj=>s m j (by omega) hj
def iG (m n:Nat):Array Bool:=(List.replicate m true++List.replicate n false).toArray
def tA (ops:Array Oper)(m:Nat):List (Nat×Option Tmp):=(List.range m).map (fun i=>(i,fQ ops i))
theorem aLo {n m:Nat}(s:qO md ops n=true)(af:yB md ops=true)(ht:uA md ops m=true)(hm:m≤ops.size){a0:Act}(hn:a0.tmps.size=n){W:World}(an: ∀a b c,R a b→R b c→R a c)(hG: ∀i v w w',G i v w→R w w'→G i v w')
  (hs:StepsL P md ops G R a0 W (List.range m))(he: ∀w,R W w→ForV G w (tA ops m) a0 (fun a=>wpAny P md ops Q (ops.size-m) (iG m (ops.size-m)) a w)):
  ∀(fuel:Nat) (listed:Array Bool) (a:Act) (w:World) (vals:Nat→Value),listed.size=ops.size→(∀i o,ops[i]? =some o→listed.getD i false=true→ ∀e∈o.after,Region.binds md e=true→listed.getD e.on false=true)→
   (∀i,m≤i→listed.getD i false=false)→
   R W w→FrI ops a0 vals (fun j=>listed.getD j false=true) a→(∀i,listed.getD i false=true→G i (vals i) w)→
   List.count false listed.toList=fuel→wpAny P md ops Q fuel listed a w:=by
 intro fuel
 -- all of the head have come up
 have aa: ∀(fuel:Nat) (listed:Array Bool) (a:Act) (w:World) (vals:Nat→Value),listed.size=ops.size→(∀i,m≤i→listed.getD i false=false)→R W w→FrI ops a0 vals (fun j=>listed.getD j false=true) a→(∀i,listed.getD i false=true→G i (vals i) w)→
   List.count false listed.toList=fuel→(∀i,i<m→listed.getD i false=true)→wpAny P md ops Q fuel listed a w:=by
  intro fuel listed a w vals r l hR hF q k f;have h:=he w hR
  obtain⟨b,hb,hq⟩:=ForV.get s hn (G:=G) (vals:=vals) (tA ops m) (fun _=>False) a0 (fun p hp=>by
   unfold tA at hp;obtain⟨i,hi,rfl⟩:=List.mem_map.1 hp;have:=List.mem_range.1 hi
   exact⟨⟨ops[i]'(by omega),Array.getElem?_eq_getElem _⟩,rfl⟩) (fun p hp=>by
   unfold tA at hp;obtain⟨i,hi,rfl⟩:=List.mem_map.1 hp
   exact q i (f i (List.mem_range.1 hi))) FrI.nil h
  have e1:a=b:=hF.eq (hb.congr (fun i=>by
   simp only[false_or,tA,List.map_map,List.mem_map,List.mem_range];constructor
   ·rintro⟨j,hj,rfl⟩;exact f j hj
   ·intro hl;refine⟨i,?_,rfl⟩;rcases Nat.lt_or_ge i m with h'|h'
    ·exact h'
    ·rw[l i h']at hl;cases hl) (fun _ _=>rfl))
  have ag:listed.toList=List.replicate m true++List.replicate (ops.size-m) false:=by
   apply List.ext_getElem?;intro i;rw[Array.getElem?_toList];by_cases him:i<m
   ·have h1:=f i him;have h2:i<listed.size:=by omega
    simp[h2]at h1;simp[h2,h1,List.getElem?_append,him]
   by_cases hio:i<listed.size
   ·have h1:=l i (by omega);simp[hio]at h1;have h2:i-m<ops.size-m:=by omega
    rw[List.getElem?_append_right (by simp;omega)];simp[hio,h1,h2]
   rw[Array.getElem?_eq_none (by omega),List.getElem?_eq_none (by simp;omega)]
  have e2:listed=iG m (ops.size-m):=by unfold iG;rw[←ag]
  have e3:fuel=ops.size-m:=by rw[←k,e2];simp[iG,List.count_append,List.count_replicate]
  rw[e1,e2,e3];exact hq
 induction fuel with
 |zero=>
  intro listed a w vals r u l hR hF q k;refine aa 0 listed a w vals r l hR hF q k fun i hi=> ?_
  have ah:i<listed.size:=by omega
  cases hb:listed[i]with
  |true=>simp[hb,ah]
  |false=>
   have ae:false∈listed.toList:=by rw[←hb];simp
   have:=List.count_pos_iff.2 ae;omega
 |succ fuel ih=>
  intro listed a w vals r u l hR hF q k;by_cases f: ∀i,i<m→listed.getD i false=true
  ·exact aa _ listed a w vals r l hR hF q k f
  refine⟨fun h=> ?_,fun i hi=> ?_⟩
  ·exact absurd (fun i hi=>aHb af listed r h i (by omega)) f
  have him:i<m:=by
   rcases Nat.lt_or_ge i m with h|h
   ·exact h
   exact absurd (aIj af ht listed hm u l hi h) f
  obtain⟨h0,o,ho,t⟩:=mem_ready.1 hi;have ad:i<ops.size:=(Array.getElem?_eq_some_iff.1 ho).1;have g:i<listed.size:=by rw[r];exact ad
  have x: ¬listed.getD i false=true:=by intro h;simp[g]at h h0;rw[h0]at h;cases h
  have z:=hs i (List.mem_range.2 him) o ho w hR;have ak: ∀p∈lI ops i,listed.getD p.1 false=true:=fun p hp=>by obtain⟨_,_,d,hd,hl⟩:=xY ho hp;obtain⟨e,he,hbd,al⟩:=((pN s).2 i o ho).2 d hl p.1 hd;have h3:=t e he hbd;rwa[al]at h3
  obtain⟨b,hb,am⟩:=ForV.get s hn (G:=G) (vals:=vals) (lI ops i) (fun _=>False) a0 (fun p hp=>by
   obtain⟨h1,h2,_⟩:=xY ho hp
   exact⟨⟨ops[p.1]'h1,Array.getElem?_eq_getElem _⟩,h2⟩) (fun p hp=>q _ (ak p hp)) FrI.nil z
  refine aL7 (vals:=vals) s hn ho (fun e he hbd=>t e he hbd) x hF (hb.congr (fun j=>by simp) (fun _ _=>rfl)) am fun v w'' hg hr=> ?_
  refine ih (listed.setIfInBounds i true) _ w'' (fun j=>if j=i then v else vals j) (by simpa using r) ?_ ?_ (an _ _ _ hR hr) ?_ ?_ ?_
  ·intro j oj y hj e he hbd;by_cases hji:j=i
   ·subst hji;rw[ho]at y;cases y
    exact getD_set_true (t e he hbd)
   rw[getD_set_ne false (Ne.symm hji)]at hj;exact getD_set_true (u j oj y hj e he hbd)
  ·intro j hj;rw[getD_set_ne false (by omega)];exact l j hj
  ·refine(hF.put s hn ho v (fun h=>absurd h x)).congr (fun j=> ?_) (fun _ _=>rfl);by_cases hji:j=i
   ·subst hji;simp[g]
   rw[getD_set_ne false (Ne.symm hji)];simp[hji]
  ·intro j hj;by_cases hji:j=i
   ·subst hji;simp only[if_true];exact hg
   rw[getD_set_ne false (Ne.symm hji)]at hj;simp only[hji,if_false];exact hG _ _ _ _ (q j hj) hr
  have aj:listed[i]=false:=by
   cases hb':listed[i]with
   |false=>rfl
   |true=>exact absurd (by simp[g,hb']) x
  have e1:(listed.setIfInBounds i true).toList=listed.toList.set i true:=by simp
  rw[e1];have ai:i<listed.toList.length:=by simpa using g
  have ab:listed.toList[i]=false:=by simpa using aj
  rw[List.count_set ai];rw[ab];have e2:((false==false)=true):=rfl;have e3: ¬((true==false)=true):=by decide
  rw[if_pos e2,if_neg e3];omega
theorem wC {id n:Nat}{a0:Act}{w W:World}(G:Nat→Value→World→Prop)(R:World→World→Prop)(m:Nat)(hm:P.follows .mixedOrders=true)(hn:a0.tmps.size=n)(l:qO .any ops n=true)(s:yB .any ops=true)(ht:uA .any ops m=true)
  (d: ∀w,R w w)(r: ∀a b c,R a b→R b c→R a c)(hG: ∀i v w w',G i v w→R w w'→G i v w')(hW:W=w.drew){k:Nat}(p:ops.size=k)(j:m≤k){ls:List (Nat×Option Tmp)}(g:tA ops m=ls){ir:List Nat}(f:List.range m=ir)
  (hs:StepsL P .any ops G R a0 W ir){tl:Array Bool}(q:iG m (k-m)=tl)(he: ∀w,R W w→ForV G w ls a0 (fun a=>wpAny P .any ops Q (k-m) tl a w)):
  (Code.region id ops true).wp P Q a0 w:=by
 subst p g f q;refine wp_region_any hm ?_;have e:W={w with drawn:=w.drawn+1}:=hW;rw[←e];refine aLo l s ht j hn r hG hs he ops.size (Array.replicate ops.size false) a0 W (fun _=>undef) (by simp) ?_ ?_ (d _) ?_ ?_ ?_
 ·intro i o ho hl;have hi:=(Array.getElem?_eq_some_iff.1 ho).1;simp[hi]at hl
 ·intro i _;by_cases hi:i<ops.size<;>simp[hi]
 ·refine FrI.nil.congr (fun i=> ?_) (fun _ _=>rfl);constructor
  ·exact False.elim
  intro h;by_cases hi:i<ops.size
  ·simp[hi]at h
  simp[hi]at h
 ·intro i h;by_cases hi:i<ops.size
  ·simp[hi]at h
  simp[hi]at h
 simp
theorem aE8 {id n:Nat}{a0:Act}{w:World}(G:Nat→Value→World→Prop)(m:Nat)(hm:P.follows .mixedOrders=true)(hn:a0.tmps.size=n)(e:qO .any ops n=true)(h:yB .any ops=true)(ht:uA .any ops m=true)
  (hG: ∀i v w w',G i v w→Ext w w'→G i v w'){k:Nat}(f:ops.size=k)(d:m≤k){ls:List (Nat×Option Tmp)}(c:tA ops m=ls){ir:List Nat}(b:List.range m=ir)
  (hs:StepsL P .any ops G Ext a0 w.drew ir){tl:Array Bool}(g:iG m (k-m)=tl)(he: ∀w',Ext w.drew w'→ForV G w' ls a0 (fun a=>wpAny P .any ops Q (k-m) tl a w')):
  (Code.region id ops true).wp P Q a0 w:=
 wC G Ext m hm hn e h ht Ext.refl (fun _ _ _=>Ext.trans) hG rfl f d c b hs g he
end
def gl (l:List (Value→World→Prop))(i:Nat):Value→World→Prop:=l.getD i (fun _ _=>True)
def tH (g:Value→World→Prop):Prop:= ∀v w w',g v w→Ext w w'→g v w'
theorem mT {l:List (Value→World→Prop)}(h: ∀g∈l,tH g): ∀i v w w',gl l i v w→Ext w w'→gl l i v w':=by
 intro i v w w' hg hx;unfold gl at*;rw[List.getD_eq_getElem?_getD]at*;cases hi:l[i]? with
 |none=>rw[hi]at hg;exact hg
 |some g=>rw[hi]at hg;simp only[Option.getD_some]at*;exact h g (List.mem_of_getElem? hi) _ _ _ hg hx
def gEq (u:Value):Value→World→Prop:=fun v _=>v=u
theorem bP (u:Value):tH (gEq u):=fun _ _ _ h _=>h
def aNc (lo:Nat)(t:TypeId)(cs:Array Value):Value→World→Prop:=fun v w=> ∃g,v= .pointer (some ⟨g,0,none⟩)∧lo≤g∧Blk w g t cs
theorem aI3 (lo:Nat)(t:TypeId)(cs:Array Value):tH (aNc lo t cs):=fun _ _ _ ⟨g,h1,h2,h3⟩ hx=>⟨g,h1,h2,h3.ext hx⟩
def aNb (lo:Nat)(t:TypeId)(cs:Array Value)(n:Nat):Value→World→Prop:=fun v w=> ∃g,v= .slice (some ⟨g,0,none⟩) n n∧lo≤g∧Blk w g t cs
theorem yL (lo:Nat)(t:TypeId)(cs:Array Value)(n:Nat):tH (aNb lo t cs n):=fun _ _ _ ⟨g,h1,h2,h3⟩ hx=>⟨g,h1,h2,h3.ext hx⟩
theorem pS: ∀g∈([]:List (Value→World→Prop)),tH g:=fun _ h=>by cases h
theorem bL {g:Value→World→Prop}{l:List (Value→World→Prop)}(h:tH g)(k: ∀g∈l,tH g): ∀g'∈g::l,tH g':=fun g' h'=>by
 rcases List.mem_cons.1 h' with rfl|h'
 ·exact h
 exact k g' h'
section
variable {P:Program} {ops:Array Oper} {Q:Exit→Act→World→Prop} {md:Region.Mode} {G:Nat→Value→World→Prop} {R:World→World→Prop}
theorem rL {id n:Nat}{a0:Act}{w:World}(G:Nat→Value→World→Prop)(m k:Nat)(ls:List (Nat×Option Tmp))(hs:StepsL P .any ops G Ext a0 w.drew (List.range m))(he: ∀w',Ext w.drew w'→ForV G w' ls a0 (fun a=>wpAny P .any ops Q (k-m) (iG m (k-m)) a w'))
  (hG: ∀i v w w',G i v w→Ext w w'→G i v w':=by(refine mT ?_;repeat (first|exact pS|refine bL (bP _) ?_|refine bL (aI3 _ _ _) ?_|refine bL (yL _ _ _ _) ?_)))
  (hm:P.follows .mixedOrders=true:=by kernel_rfl)(hn:a0.tmps.size=n:=by exact rfl)(d:qO .any ops n=true:=by kernel_rfl)(f:yB .any ops=true:=by kernel_rfl)(ht:uA .any ops m=true:=by kernel_rfl)
  (e:ops.size=k:=by kernel_rfl)(c:m≤k:=by decide)(b:tA ops m=ls:=by kernel_rfl):(Code.region id ops true).wp P Q a0 w:=
 aE8 G m hm hn d f ht hG e c b rfl hs rfl he
end
end Go.Proofs.YtpelpnfhbepokaaGreatDoor
