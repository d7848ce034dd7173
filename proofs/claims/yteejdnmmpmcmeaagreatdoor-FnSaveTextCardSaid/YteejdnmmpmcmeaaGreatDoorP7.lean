/-
  Texts of this proof, packed (@packed).
-/
import Derived.Deep.DeepCutAuto
import Derived.Deep.DeepFit
import Derived.Deep.RegionHeld3
import Derived.Handy
import Derived.KernelRfl
import Derived.Lib.Hide
import Derived.Lib.ItoaLen
import Derived.Lib.ItoaMem
import Derived.Lib.SmallJoins
import Derived.Shelf.Strings.BuilderK
import Derived.Sort.OwnSortedInts
import Derived.Test.YteejdnmmpmcmeaaGreatDoorPS
import Derived.Test.YteejdnmmpmcmeaaGreatDoorRows
import Derived.Test.YteejdnmmpmcmeaaGreatDoorP1
import Derived.Test.YteejdnmmpmcmeaaGreatDoorP6
namespace Go.Proofs.YteejdnmmpmcmeaaGreatDoor
open Go.RowKit
set_option linter.unusedVariables false
theorem aC9 (xs:List Int):(xs.mergeSort fun x y=>decide (x≤y))=fI xs:=by
 refine mQ (List.mergeSort_perm _ _) ?_
 have:=List.pairwise_mergeSort (le:=fun x y:Int=>decide (x≤y)) (fun a b c h1 h2=>by simp at*;omega) (fun a b=>by simp;omega) xs
 simpa using this
theorem aHr (B:Nat)(p:Option Addr)(n cap:Nat)(xs:List Int)(w:World)(h:w.ownsRow B TI 1 (.slice p n cap) n (ivs xs))(hn:n≤1000000):
  Calls Tryz.prog 70 #[.slice p n cap] w fun e w'=>e= .returned (.tuple #[])∧w'.ownsRow B TI 1 (.slice p n cap) n (ivs (fI xs))∧w.grownBy w' (Value.slice p n cap).ownBlock:=by
 have hl:xs.length=n:=by have:=h.1;simpa using this
 subst hl
 by_cases h0:xs.length=0
 ·obtain rfl:xs= []:=List.eq_nil_of_length_eq_zero h0
  refine(Tryz.slices_Sort_int_none p cap w).mono ?_
  rintro e w' ⟨rfl,rfl⟩
  exact⟨rfl,h,World.grownBy.refl _ _⟩
 ·rcases h.2 with⟨h1,h2⟩|⟨g,cap',cur,h1,hb,hg,hnc,hm,hs,ht⟩
  ·exact absurd h2 h0
  ·injection h1 with e1 e2 e3
   subst e1 e3
   refine(Tryz.slices_Sort_int g 0 cap xs w (Go.holds_of_blockI hg (by simpa using ht)) (Array.getElem?_eq_some_iff.1 hg).1 (by omega)).mono ?_
   rintro e w' ⟨rfl,k,os,rfl⟩
   rw[aC9]
   exact⟨rfl,Go.ownsRow_sortedI (yF xs) hb hg hnc hm hs,Go.grownBy_sortedI _⟩
theorem aO {w w':World}{B n sz:Nat}{e:TypeId}{v:Value}{xs:List Value}(ho:w.ownsRow B e sz v n xs)(h:Ext w w'):w'.ownsRow B e sz v n xs:=
 ho.kept (row:=none) ⟨h.os,h.tape,h.output,h.size,fun k hk _=>h.block k hk⟩ (by cases v.ownBlock<;>simp)
theorem aZ {w:World}{B B' n sz:Nat}{e:TypeId}{v:Value}{xs:List Value}(h:w.ownsRow B e sz v n xs)(hb:B'≤B):w.ownsRow B' e sz v n xs:=by
 refine⟨h.1,?_⟩
 rcases h.2 with h2|⟨g,cap',cur,e1,hb',r⟩
 ·exact .inl h2
 ·exact .inr ⟨g,cap',cur,e1,Nat.le_trans hb hb',r⟩
set_option maxRecDepth 100000 in
set_option maxHeartbeats 1000000 in
theorem aDt (aA aB:Int)(p:Option Addr)(n cap:Nat)(w:World)(HV:Hid (∀w',Ext w w'→Calls Tryz.prog 64 #[aJ aA aB p n cap] w' fun e w''=>e= .returned (.bool false)∧Ext w' w'')):
  Calls Tryz.prog 63 #[aJ aA aB p n cap] w (cC [] w):=by
 go_enter Tryz.func63,Tryz.ntmps63
 go_wp2_with fail
 refine(HV.out _ (by exact .alloc (.alloc (.refl _) _) _)).mono ?_
 rintro e w1 ⟨rfl,h1⟩
 go_wp2
 go_ret
 have ho:((w.alloc (.cells #[.int .i64 aA,.int .i64 aB,.slice p n cap] 25)).alloc (.cells #[] TI)).ownsRow w.heap.size TI 1 (.slice (some ⟨(w.alloc (.cells #[.int .i64 aA,.int .i64 aB,.slice p n cap] 25)).heap.size,0,none⟩) 0 0) 0 []:=World.ownsRow_made _ #[] 0 (by simp) (by simp[maxLen]) rfl
 exact eZ rfl (by simpa using aO ho h1) (by exact .trans (.alloc (.alloc (.refl _) _) _) h1)
set_option maxRecDepth 100000 in
set_option maxHeartbeats 1000000 in
theorem aFy (aA aB:Int)(p:Option Addr)(n cap:Nat)(xs:List Int)(w:World)(hn:n≤12)(HS:Hid (Sl w p n cap 1 (ivs xs)))(HV:Hid (∀w',Ext w w'→Calls Tryz.prog 64 #[aJ aA aB p n cap] w' fun e w''=>e= .returned (.bool true)∧Ext w' w'')):
  Calls Tryz.prog 63 #[aJ aA aB p n cap] w (cC (eM xs) w):=by
 have hl:=xQ HS.out.ilen
 go_enter Tryz.func63,Tryz.ntmps63
 go_wp2_with fail
 refine(HV.out _ (by exact .alloc (.alloc (.refl _) _) _)).mono ?_
 rintro e w1 ⟨rfl,h1⟩
 have ho:((w.alloc (.cells #[.int .i64 aA,.int .i64 aB,.slice p n cap] 25)).alloc (.cells #[] TI)).ownsRow w.heap.size TI 1 (.slice (some ⟨(w.alloc (.cells #[.int .i64 aA,.int .i64 aB,.slice p n cap] 25)).heap.size,0,none⟩) 0 0) 0 []:=World.ownsRow_made _ #[] 0 (by simp) (by simp[maxLen]) rfl
 have HO0:=xQ (aO ho h1)
 have hz1:w.heap.size<w1.heap.size:=Nat.lt_of_lt_of_le (by first|(simp;omega)|simp) h1.sz
 have eb:w1.cell? ⟨w.heap.size,2,none⟩=some (.slice p n cap):=by rw[h1.cells.1 _ _ (by simp;omega)];simp
 have hx1:Ext w w1:=by exact .trans (.alloc (.alloc (.refl _) _) _) h1
 clear ho
 go_wp2
 go_loopw [3,4] (fun v i wr=> ∃(k:Nat) (q:Option Addr) (m c:Nat),k≤n∧i= .int .i64 k∧v= .slice q m c∧m≤k∧wr.ownsRow w.heap.size TI 1 (.slice q m c) m (ivs (fI (dH (xs.take k))))∧Ext w1 wr) (fun _ i _=>n-(intOf i).toNat)
 case atStart=>exact⟨0,_,0,0,Nat.zero_le _,rfl,rfl,Nat.le_refl _,by simpa[dH,fI]using HO0.out,Ext.refl _⟩
 case round=>
  obtain⟨k,q,m,c,hk,rfl,rfl,hmk,hown,hE⟩:=hrel
  have HO:=xQ hown
  have hEw:=hx1.trans hE
  have hsz:=hE.sz
  have ec:wr.cell? ⟨w.heap.size,2,none⟩=some (.slice p n cap):=(hE.cells.1 _ _ hz1).trans eb
  clear hown
  by_cases hlt:k<n
  ·obtain⟨b,off,x,rfl,hx,hb,hcell⟩:=(HS.out.ext hEw).int_at hlt
   have HX:=xQ hx
   clear hx
   by_cases hx0:0<x
   ·have hfin:Hid (fI (dH (xs.take (k+1)))=kV x (fI (dH (xs.take k)))):=by
     show _=_;rw[bF HX.out,lD,if_pos hx0,uV]
    have HC:Hid (∀w',Ext wr w'→Calls Tryz.prog 119 #[.slice q m c,.int .i64 x] w' (cC (kV x (fI (dH (xs.take k)))) w')):=fun w' hx=>aA9 q m c _ x w' (by omega) ((Sl.own HO.out).ext hx)
    have hlen:(kV x (fI (dH (xs.take k)))).length=m+1:=by rw[aIh];have:=HO.out.1;simp at this;omega
    have HLEN:=xQ hlen
    clear hlen
    go_wp2_with fail
    refine(HC.out _ (by exact .refl _)).mono ?_
    rintro e w2 ⟨q2,c2,rfl,h2,h3⟩
    have HO2:Hid (w2.ownsRow w.heap.size TI 1 (.slice q2 (m+1) c2) (m+1) (ivs (fI (dH (xs.take (k+1)))))):=by
     rw[hfin.out,←HLEN.out];exact aZ h2 hEw.sz
    rw[HLEN.out]
    clear h2
    go_wp2
    go_roundw
    case rel=>exact⟨k+1,q2,m+1,c2,by omega,by go_num,rfl,by omega,HO2.out,by exact .trans hE h3⟩
    case measure=>simp[intOf];omega
   ·have hfin:Hid (fI (dH (xs.take (k+1)))=fI (dH (xs.take k))):=by
     show _=_;rw[bF HX.out,lD,if_neg hx0,List.append_nil]
    go_wp2
    go_roundw
    case rel=>exact⟨k+1,q,m,c,by omega,by go_num,rfl,by omega,by rw[hfin.out];exact HO.out,hE⟩
    case measure=>simp[intOf];omega
  ·have hfin:Hid (fI (dH (xs.take k))=eM xs):=by
    show _=_;rw[List.take_of_length_le (by rw[hl.out];omega)];rfl
   go_wp2
   go_ret
   exact eZ (by rw[←hfin.out];have:=HO.out.1;simpa using this) (by rw[←hfin.out];exact HO.out) hEw
set_option maxRecDepth 100000 in
set_option maxHeartbeats 1000000 in
theorem aEm (aA aB:Int)(p:Option Addr)(n cap:Nat)(w:World)(HV:Hid (∀w',Ext w w'→Calls Tryz.prog 61 #[aJ aA aB p n cap] w' fun e w''=>e= .returned (.bool false)∧Ext w' w'')):
  Calls Tryz.prog 20 #[aJ aA aB p n cap] w (cC [] w):=by
 go_enter Tryz.func20,Tryz.ntmps20
 go_wp2_with fail
 refine(HV.out _ (by exact .alloc (.refl _) _)).mono ?_
 rintro e w1 ⟨rfl,h1⟩
 go_wp2
 go_ret
 exact eZ rfl (World.ownsRow_nil _ _ _ _) (by exact .trans (.alloc (.refl _) _) h1)
set_option maxRecDepth 100000 in
set_option maxHeartbeats 1000000 in
theorem aGk (aA aB:Int)(p:Option Addr)(n cap:Nat)(xs:List Int)(w:World)(hn:n≤12)(HS:Hid (Sl w p n cap 1 (ivs xs)))(HV:Hid (∀w',Ext w w'→Calls Tryz.prog 61 #[aJ aA aB p n cap] w' fun e w''=>e= .returned (.bool true)∧Ext w' w'')):
  Calls Tryz.prog 20 #[aJ aA aB p n cap] w (cC (eM xs) w):=by
 have hl:=xQ HS.out.ilen
 go_enter Tryz.func20,Tryz.ntmps20
 go_wp2_with fail
 refine(HV.out _ (by exact .alloc (.refl _) _)).mono ?_
 rintro e w1 ⟨rfl,h1⟩
 have hz1:w.heap.size<w1.heap.size:=Nat.lt_of_lt_of_le (by first|(simp;omega)|simp) h1.sz
 have eb:w1.cell? ⟨w.heap.size,2,none⟩=some (.slice p n cap):=by rw[h1.cells.1 _ _ (by simp)];simp
 have hx1:Ext w w1:=by exact .trans (.alloc (.refl _) _) h1
 go_wp2
 go_loopw [3,12] (fun v i wr=> ∃(k:Nat) (q:Option Addr) (m c:Nat),k≤n∧i= .int .i64 k∧v= .slice q m c∧m≤k∧wr.ownsRow w1.heap.size TI 1 (.slice q m c) m (ivs (dH (xs.take k)))∧Ext w1 wr) (fun _ i _=>n-(intOf i).toNat)
 case atStart=>exact⟨0,none,0,0,Nat.zero_le _,rfl,rfl,Nat.le_refl _,World.ownsRow_nil _ _ _ _,Ext.refl _⟩
 case round=>
  obtain⟨k,q,m,c,hk,rfl,rfl,hmk,hown,hE⟩:=hrel
  have HO:=xQ hown
  have hEw:=hx1.trans hE
  have hsz:=hE.sz
  have hszw:=hx1.sz
  clear hown
  by_cases hlt:k<n
  ·obtain⟨b,off,x,rfl,hx,hb,hcell⟩:=(HS.out.ext hEw).int_at hlt
   have HX:=xQ hx
   clear hx
   by_cases hx0:0<x
   ·have hfin:Hid (dH (xs.take (k+1))=dH (xs.take k)++ [x]):=by
     show _=_;rw[bF HX.out,lD,if_pos hx0]
    go_wp2_with (at_builtin;refine cP gW rfl _ _ rfl w1.heap.size _ _ _ rfl (HO.out.alloc _) _ _ x _ rfl (by simp) (by omega) (by simp;omega) ?_;intro p' cap' w2 hown1 hg1;have HO1:=xQ hown1;have hE1:Ext w1 w2:=Ext.own (hE.alloc _) (HO.out.alloc _) hg1 (Nat.le_refl _);clear hown1 hg1)
    go_roundw
    case rel=>exact⟨k+1,p',m+1,cap',by omega,by go_num,rfl,by omega,by rw[hfin.out];exact HO1.out,hE1⟩
    case measure=>simp[intOf];omega
   ·have hfin:Hid (dH (xs.take (k+1))=dH (xs.take k)):=by
     show _=_;rw[bF HX.out,lD,if_neg hx0,List.append_nil]
    go_wp2
    go_roundw
    case rel=>exact⟨k+1,q,m,c,by omega,by go_num,rfl,by omega,by rw[hfin.out];exact HO.out,hE⟩
    case measure=>simp[intOf];omega
  ·have hfin:Hid (fI (dH (xs.take k))=eM xs):=by
    show _=_;rw[List.take_of_length_le (by rw[hl.out];omega)];rfl
   go_wp2_with fail
   refine(aHr w1.heap.size q m c _ _ HO.out (by omega)).mono ?_
   rintro e w2 ⟨rfl,h2,h3⟩
   have hE2:Ext w w2:=hEw.own HO.out h3 (by omega)
   have HO2:=xQ h2
   clear h2 h3
   go_wp2
   go_ret
   exact eZ (by rw[←hfin.out];have:=HO2.out.1;simpa using this) (by rw[←hfin.out];exact aZ HO2.out hx1.sz) hE2
theorem aKn (aA aB:Int)(p:Option Addr)(n cap:Nat)(xs:List Int)(w:World)(hS:Sl w p n cap 1 (ivs xs)):Calls Tryz.prog 63 #[aJ aA aB p n cap] w (cC (if aR aA aB xs then eM xs else []) w):=by
 have hl:=hS.ilen
 cases h:aR aA aB xs with
 |true=>
  have h2:fK aA aB n=true:=by simp only[aR,Bool.and_eq_true]at h;rw[←hl];exact h.1
  rw[if_pos rfl]
  exact aFy aA aB p n cap xs w (cG h2).2.2.2.2.2.1 hS (fun w' hx=>by rw[←h];exact eY aA aB p n cap xs w' (hS.ext hx))
 |false=>
  rw[if_neg (by simp)]
  exact aDt aA aB p n cap w (fun w' hx=>by rw[←h];exact eY aA aB p n cap xs w' (hS.ext hx))
theorem aKw (aA aB:Int)(p:Option Addr)(n cap:Nat)(xs:List Int)(w:World)(hS:Sl w p n cap 1 (ivs xs)):Calls Tryz.prog 20 #[aJ aA aB p n cap] w (cC (if aR aA aB xs then eM xs else []) w):=by
 have hl:=hS.ilen
 cases h:aR aA aB xs with
 |true=>
  have h2:fK aA aB n=true:=by simp only[aR,Bool.and_eq_true]at h;rw[←hl];exact h.1
  rw[if_pos rfl]
  exact aGk aA aB p n cap xs w (cG h2).2.2.2.2.2.1 hS (fun w' hx=>by rw[←h];exact rY aA aB p n cap xs w' (hS.ext hx))
 |false=>
  rw[if_neg (by simp)]
  exact aEm aA aB p n cap w (fun w' hx=>by rw[←h];exact rY aA aB p n cap xs w' (hS.ext hx))
set_option linter.unusedSimpArgs false
def kR (f:Nat→Bool):Nat→List Int
 |0=> []
 |k+1=>kR f k++(if f k then [(k:Int)]else [])
def dY (xs:List Int)(k:Nat):Bool:=xs[k]? ==some 0
def yW (xs:List Int):List Int:=kR (dY xs) xs.length
theorem aJt {wr w2:World}{B o n:Nat}{v u:Value}{xs:List Value}{ob:Obj}(ho:wr.ownsRow (B+1) TI 1 v n xs)(hg:(wr.alloc ob).grownBy w2 v.ownBlock)(hb:B<wr.heap.size)(hc:wr.cell? ⟨B,o,none⟩=some u):w2.cell? ⟨B,o,none⟩=some u:=by
 rw[World.cell?_of_block (w:=wr.alloc ob) (hg.block B (by simp;omega) (fun e=>by have:=ho.lt B e.symm;omega))]
 rw[((Ext.refl wr).alloc ob).cells.1 B o hb];exact hc
set_option maxRecDepth 100000 in
set_option maxHeartbeats 1000000 in
theorem aDr (aA aB:Int)(p:Option Addr)(n cap:Nat)(w:World)(HV:Hid (∀w',Ext w w'→Calls Tryz.prog 64 #[aJ aA aB p n cap] w' fun e w''=>e= .returned (.bool false)∧Ext w' w'')):
  Calls Tryz.prog 79 #[aJ aA aB p n cap] w (cC [] w):=by
 go_enter Tryz.func79,Tryz.ntmps79
 go_wp2_with fail
 refine(HV.out _ (by exact .alloc (.alloc (.refl _) _) _)).mono ?_
 rintro e w1 ⟨rfl,h1⟩
 have ho:((w.alloc (.cells #[.int .i64 aA,.int .i64 aB,.slice p n cap] 25)).alloc (.cells #[] TI)).ownsRow (w.heap.size+1) TI 1 (.slice (some ⟨(w.alloc (.cells #[.int .i64 aA,.int .i64 aB,.slice p n cap] 25)).heap.size,0,none⟩) 0 0) 0 []:=World.ownsRow_made _ #[] 0 (by simp) (by simp[maxLen]) rfl
 have HO0:=xQ (aO ho h1)
 clear ho
 go_wp2
 go_ret
 exact eZ (xs:= []) rfl (by simpa using aZ HO0.out (Nat.le_succ _)) (by exact .trans (.alloc (.alloc (.refl _) _) _) h1)
set_option maxRecDepth 100000 in
set_option maxHeartbeats 1000000 in
theorem aFw (aA aB:Int)(p:Option Addr)(n cap:Nat)(xs:List Int)(w:World)(hn:n≤12)(HS:Hid (Sl w p n cap 1 (ivs xs)))(HV:Hid (∀w',Ext w w'→Calls Tryz.prog 64 #[aJ aA aB p n cap] w' fun e w''=>e= .returned (.bool true)∧Ext w' w'')):
  Calls Tryz.prog 79 #[aJ aA aB p n cap] w (cC (yW xs) w):=by
 have hl:=xQ HS.out.ilen
 go_enter Tryz.func79,Tryz.ntmps79
 go_wp2_with fail
 refine(HV.out _ (by exact .alloc (.alloc (.refl _) _) _)).mono ?_
 rintro e w1 ⟨rfl,h1⟩
 have ho:((w.alloc (.cells #[.int .i64 aA,.int .i64 aB,.slice p n cap] 25)).alloc (.cells #[] TI)).ownsRow (w.heap.size+1) TI 1 (.slice (some ⟨(w.alloc (.cells #[.int .i64 aA,.int .i64 aB,.slice p n cap] 25)).heap.size,0,none⟩) 0 0) 0 []:=World.ownsRow_made _ #[] 0 (by simp) (by simp[maxLen]) rfl
 have HO0:=xQ (aO ho h1)
 clear ho
 have hz1:w.heap.size<w1.heap.size:=Nat.lt_of_lt_of_le (by first|(simp;omega)|simp) h1.sz
 have eb:w1.cell? ⟨w.heap.size,2,none⟩=some (.slice p n cap):=by rw[h1.cells.1 _ _ (by first|(simp;done)|(simp;omega))];simp
 have hx1:Ext w w1:=by exact .trans (.alloc (.alloc (.refl _) _) _) h1
 go_wp2
 go_loopw [3,4] (fun v i wr=> ∃(k:Nat) (q:Option Addr) (m c:Nat),k≤n∧i= .int .i64 k∧v= .slice q m c∧m≤k∧wr.ownsRow (w.heap.size+1) TI 1 (.slice q m c) m (ivs (kR (dY xs) k))∧Ext w wr∧wr.cell? ⟨w.heap.size,2,none⟩=some (.slice p n cap)∧w.heap.size<wr.heap.size) (fun _ i _=>n-(intOf i).toNat)
 case atStart=>exact⟨0,_,0,0,Nat.zero_le _,rfl,rfl,Nat.le_refl _,by simpa[kR]using HO0.out,hx1,eb,hz1⟩
 case round=>
  obtain⟨k,q,m,c,hk,rfl,rfl,hmk,hown,hEw,ec,hsz⟩:=hrel
  have HO:=xQ hown
  clear hown
  by_cases hlt:k<n
  ·obtain⟨b,off,x,rfl,hx,hb,hcell⟩:=(HS.out.ext hEw).int_at hlt
   have HX:=xQ hx
   clear hx
   by_cases hx0:x=0
   ·have t0:(x==0)=true:=by simp[hx0]
    have hfin:Hid (kR (dY xs) (k+1)=kR (dY xs) k++ [(k:Int)]):=by
     show _=_;rw[kR,if_pos (by unfold dY;rw[HX.out,hx0];rfl)]
    clear hx0
    go_wp2_with (at_builtin;refine cP gW rfl _ _ rfl (w.heap.size+1) _ _ _ rfl (HO.out.alloc _) _ _ (k:Int) _ rfl (by simp) (by omega) (by simp;omega) ?_;intro p' cap' w2 hown1 hg1;have HO1:=xQ hown1;have hE1:Ext w w2:=Ext.own (hEw.alloc _) (HO.out.alloc _) hg1 (by omega);have ec2:=aJt HO.out hg1 hsz ec;have hsz2:w.heap.size<w2.heap.size:=Nat.lt_of_lt_of_le hsz (by have:=hg1.size;simp at this;omega);clear hown1 hg1)
    go_roundw
    case rel=>exact⟨k+1,p',m+1,cap',by omega,by go_num,rfl,by omega,by rw[hfin.out];exact HO1.out,hE1,ec2,hsz2⟩
    case measure=>simp[intOf];omega
   ·have t0:(x==0)=false:=by simp[hx0]
    have hfin:Hid (kR (dY xs) (k+1)=kR (dY xs) k):=by
     show _=_;rw[kR,if_neg (by unfold dY;rw[HX.out];simp[hx0]),List.append_nil]
    clear hx0
    go_wp2
    go_roundw
    case rel=>exact⟨k+1,q,m,c,by omega,by go_num,rfl,by omega,by rw[hfin.out];exact HO.out,hEw,ec,hsz⟩
    case measure=>simp[intOf];omega
  ·have hfin:Hid (kR (dY xs) k=yW xs):=by
    show _=_;unfold yW;rw[hl.out,show k=n by omega]
   go_wp2
   go_ret
   exact eZ (by rw[←hfin.out];have:=HO.out.1;simpa using this) (by rw[←hfin.out];exact aZ HO.out (Nat.le_succ _)) hEw
theorem aHk (aA aB:Int)(p:Option Addr)(n cap:Nat)(xs:List Int)(w:World)(hS:Sl w p n cap 1 (ivs xs)):Calls Tryz.prog 79 #[aJ aA aB p n cap] w (cC (if aR aA aB xs then yW xs else []) w):=by
 have hl:=hS.ilen
 cases h:aR aA aB xs with
 |true=>
  have hb:n≤12:=by unfold aR at h;rw[Bool.and_eq_true]at h;have:=cG h.1;omega
  simpa using aFw aA aB p n cap xs w hb hS (fun w' hx=>by have:=eY aA aB p n cap xs w' (hS.ext hx);rwa[h]at this)
 |false=>simpa using aDr aA aB p n cap w (fun w' hx=>by have:=eY aA aB p n cap xs w' (hS.ext hx);rwa[h]at this)
def sX:Go.Shelf.Ren:=⟨fun|166=>121|240=>153|276=>190|n=>n,fun|0=>0|3=>3|4=>4|5=>5|9=>9|20=>20|37=>22|70=>116|72=>118|75=>120|80=>124|164=>174|n=>n,fun|n=>n⟩
theorem aJy:Go.Proofs.Lays.n166 Tryz.prog sX:={
 mixed:=by kernel_rfl,
 f166:=Tryz.func121.trans (congrArg some (by kernel_rfl)),
 f240:=Tryz.func153.trans (congrArg some (by kernel_rfl)),
 f276:=Tryz.func190.trans (congrArg some (by kernel_rfl)),
 t0:=Tryz.underlying0,
 a0:=Tryz.isAgg0,
 z0:=Tryz.sizeOf0,
 v0:=Tryz.zeroValue0,
 t3:=Tryz.underlying3,
 a3:=Tryz.isAgg3,
 z3:=Tryz.sizeOf3,
 v3:=Tryz.zeroValue3,
 t4:=Tryz.underlying4,
 a4:=Tryz.isAgg4,
 z4:=Tryz.sizeOf4,
 v4:=Tryz.zeroValue4,
 t9:=Tryz.underlying9,
 a9:=Tryz.isAgg9,
 z9:=Tryz.sizeOf9,
 v9:=Tryz.zeroValue9,
 t20:=Tryz.underlying20,
 a20:=Tryz.isAgg20,
 z20:=Tryz.sizeOf20,
 v20:=Tryz.zeroValue20,
 t37:=Tryz.underlying22,
 a37:=Tryz.isAgg22,
 z37:=Tryz.sizeOf22,
 v37:=Tryz.zeroValue22,
 t70:=Tryz.underlying116,
 a70:=Tryz.isAgg116,
 z70:=Tryz.sizeOf116,
 v70:=Tryz.zeroValue116,
 t72:=Tryz.underlying118,
 a72:=Tryz.isAgg118,
 z72:=Tryz.sizeOf118,
 v72:=Tryz.zeroValue118,
 t75:=Tryz.underlying120,
 a75:=Tryz.isAgg120,
 z75:=Tryz.sizeOf120,
 v75:=Tryz.zeroValue120,
 t164:=Tryz.underlying174,
 a164:=Tryz.isAgg174,
 z164:=Tryz.sizeOf174,
 v164:=Tryz.zeroValue174}
theorem aIx:Go.Proofs.Builder.Extra Tryz.prog sX:={
 sizeBuilder:=by kernel_rfl
 liesBuilder:=by kernel_rfl
 t5:=Tryz.underlying5
 a5:=Tryz.isAgg5
 z5:=Tryz.sizeOf5
 v5:=Tryz.zeroValue5
 infoByte:=by kernel_rfl
 cellsByte:=by kernel_rfl
 sizeByte:=by kernel_rfl
 neB5:=by decide}
def sW:Go.Shelf.Ren:=⟨fun|167=>120|240=>153|276=>190|n=>n,fun|0=>0|3=>3|4=>4|5=>5|9=>9|20=>20|37=>22|70=>116|72=>118|75=>120|80=>124|164=>174|n=>n,fun|n=>n⟩
theorem aJx:Go.Proofs.Lays.n167 Tryz.prog sW:={
 mixed:=by kernel_rfl,
 f167:=Tryz.func120.trans (congrArg some (by kernel_rfl)),
 f240:=Tryz.func153.trans (congrArg some (by kernel_rfl)),
 f276:=Tryz.func190.trans (congrArg some (by kernel_rfl)),
 t0:=Tryz.underlying0,
 a0:=Tryz.isAgg0,
 z0:=Tryz.sizeOf0,
 v0:=Tryz.zeroValue0,
 t4:=Tryz.underlying4,
 a4:=Tryz.isAgg4,
 z4:=Tryz.sizeOf4,
 v4:=Tryz.zeroValue4,
 t5:=Tryz.underlying5,
 a5:=Tryz.isAgg5,
 z5:=Tryz.sizeOf5,
 v5:=Tryz.zeroValue5,
 t9:=Tryz.underlying9,
 a9:=Tryz.isAgg9,
 z9:=Tryz.sizeOf9,
 v9:=Tryz.zeroValue9,
 t20:=Tryz.underlying20,
 a20:=Tryz.isAgg20,
 z20:=Tryz.sizeOf20,
 v20:=Tryz.zeroValue20,
 t37:=Tryz.underlying22,
 a37:=Tryz.isAgg22,
 z37:=Tryz.sizeOf22,
 v37:=Tryz.zeroValue22,
 t70:=Tryz.underlying116,
 a70:=Tryz.isAgg116,
 z70:=Tryz.sizeOf116,
 v70:=Tryz.zeroValue116,
 t72:=Tryz.underlying118,
 a72:=Tryz.isAgg118,
 z72:=Tryz.sizeOf118,
 v72:=Tryz.zeroValue118,
 t75:=Tryz.underlying120,
 a75:=Tryz.isAgg120,
 z75:=Tryz.sizeOf120,
 v75:=Tryz.zeroValue120,
 t164:=Tryz.underlying174,
 a164:=Tryz.isAgg174,
 z164:=Tryz.sizeOf174,
 v164:=Tryz.zeroValue174}
theorem aIw:Go.Proofs.Builder.Extra Tryz.prog sW:={
 sizeBuilder:=by kernel_rfl
 liesBuilder:=by kernel_rfl
 t5:=Tryz.underlying5
 a5:=Tryz.isAgg5
 z5:=Tryz.sizeOf5
 v5:=Tryz.zeroValue5
 infoByte:=by kernel_rfl
 cellsByte:=by kernel_rfl
 sizeByte:=by kernel_rfl
 neB5:=by decide}
theorem lQ (B b:Nat)(bs:List Value)(s:ByteArray)(w:World)(h:Lib.IsBuilderF 118 5 B b bs w)(hl:bs.length+s.size≤140737488355328)(hB:B≤w.heap.size):
  Calls Tryz.prog 121 #[.pointer (some ⟨b,0,none⟩),.string s] w fun e w'=>e= .returned (.tuple #[.int .i64 s.size,.nilIface])∧Lib.BuilderAtF 118 5 B b (.pointer (some ⟨b,0,none⟩)) (bs++Lib.strCells s) w'∧Below B w w'∧Lib.OthersKept 5 (some b) w w':=
 Any.Builder_WriteString_k aJy aIx B b bs s w h hl hB
theorem jT (B b:Nat)(bs:List Value)(c:Int)(w:World)(h:Lib.IsBuilderF 118 5 B b bs w)(hl:bs.length+1≤140737488355328)(hB:B≤w.heap.size):
  Calls Tryz.prog 120 #[.pointer (some ⟨b,0,none⟩),.int .u8 c] w fun e w'=>e= .returned .nilIface∧Lib.BuilderAtF 118 5 B b (.pointer (some ⟨b,0,none⟩)) (bs++ [.int .u8 c]) w'∧Below B w w'∧Lib.OthersKept 5 (some b) w w':=
 Any.Builder_WriteByte_k aJx aIw B b bs c w h hl hB
theorem aIm:Tryz.prog.globalNamed "internal/strconv.uint64pow10" =some 1:=by kernel_rfl
structure Env (w:World):Prop where
 tab:Lib.TabIs Tryz.prog w "internal/strconv.uint64pow10" .u64 Lib.pow10Tab
 mx: ∃m,w.cell? ⟨0,0,none⟩=some (.int .i64 m)
theorem Env.ext {w w':World}(h:Env w)(hb:Ext w w'):Env w' where
 tab:=Joins.var_stays aIm h.tab hb (Nat.le_refl _)
 mx:=by
  obtain⟨m,hm⟩:=h.mx
  exact⟨m,(hb.cells.1 _ _ (World.block_lt_of_cell? w _ hm)).trans hm⟩
theorem Env.start {w:World}(ht:Lib.TabIs Tryz.prog w "internal/strconv.uint64pow10" .u64 Lib.pow10Tab)(hS:w.ShapedOpen Tryz.prog):Env w where
 tab:=ht
 mx:=Tryz.laysM145.s1_3 w hS
abbrev str (l:List UInt8):Value:= .string ⟨l.toArray⟩
theorem uC {a b:List UInt8}(h:a=b):Ending.returned (str a)= .returned (str b):=by rw[h]
theorem aCg (n:Nat):Lib.itoa (n:Int)=Lib.decDigits n:=by
 unfold Lib.itoa;rw[if_neg (by omega)];simp
theorem aIz (w:World)(os:Array Obj):Ext w (Sort.grow w os):=
 ⟨rfl,rfl,rfl,by simp,fun k hk=>by simp only[Sort.grow];rw[Array.getElem?_append_left hk]⟩
theorem aIf (n:Nat)(w:World)(hn:n≤9223372036854775807)(hE:Env w):
  Calls Tryz.prog 106 #[.int .i64 n] w fun e w'=>e= .returned (str (Lib.decDigits n))∧Ext w w':=by
 refine(Tryz.strconv_Itoa (n:Int) (by omega) (by omega) w hE.tab).mono ?_
 rintro e w' ⟨rfl,k,os,rfl⟩
 exact⟨by rw[aCg],(Ext.drewN (Ext.refl w) k).trans (aIz _ _)⟩
theorem yQ (n:Int)(w:World)(h0:0≤n)(hn:n≤9223372036854775807)(hE:Env w):
  Calls Tryz.prog 106 #[.int .i64 n] w fun e w'=>e= .returned (str (Lib.decDigits n.toNat))∧Ext w w':=by
 obtain⟨m,rfl⟩:=Int.eq_ofNat_of_zero_le h0
 exact aIf m w (by omega) hE
theorem aKi (x:Int)(W:World)(b:Nat)(h:W.cell? ⟨b,0,none⟩=some (.int .u8 x)):Sem.run Tryz.prog (convert 22 9 (.slice (some ⟨b,0,none⟩) 1 1)) W= .ok (str [UInt8.ofNat x.toNat]) W:=
 run_convert_bytes_arg W 22 5 Tryz.underlying22 Tryz.underlying5 b 0 1 1 [x] rfl (fun i hi=>by
  obtain rfl:i=0:=by omega
  simpa using h) 9 Tryz.underlying9
theorem eT (n:Nat)(h:n<10):Lib.decDigits n= [UInt8.ofNat (48+n)]:=by rw[Lib.decDigits];simp[h]
theorem kI (n:Nat)(h: ¬n<10):Lib.decDigits n=Lib.decDigits (n/10)++ [UInt8.ofNat (48+n%10)]:=by rw[Lib.decDigits];simp[h]
theorem dT (n:Nat)(h:n≤9223372036854775807):(Lib.decDigits n).length≤21:=by
 rw[←aCg];exact Lib.itoa_length_le _ (by omega) (by omega)
theorem pR (n:Nat):1≤(Lib.decDigits n).length:=by
 by_cases h:n<10
 ·rw[eT n h];simp
 ·rw[kI n h];simp
set_option maxRecDepth 100000 in
set_option maxHeartbeats 1000000 in
theorem vU (n:Int)(w:World)(h0:0≤n)(h10:n<10):
  Calls Tryz.prog 102 #[.int .i64 n] w fun e w'=>e= .returned (str (Lib.decDigits n.toNat))∧Ext w w':=by
 have hcv:=aKi (48+n)
 have HD:Hid (Lib.decDigits n.toNat= [UInt8.ofNat (48+n).toNat]):=by rw[eT _ (by omega),show(48+n).toNat=48+n.toNat by omega];rfl
 go_enter Tryz.func102,Tryz.ntmps102
 go_wp2_with fail
 go_ret
 exact⟨uC HD.out.symm,(Ext.refl _).alloc _⟩
set_option maxRecDepth 100000 in
set_option maxHeartbeats 1000000 in
theorem aEj (n:Int)(w:World)(h0:0≤n)(h10:10≤n)(h:n≤9223372036854775807)(ih: ∀w,Calls Tryz.prog 102 #[.int .i64 (n/10)] w fun e w'=>e= .returned (str (Lib.decDigits (n/10).toNat))∧Ext w w'):
  Calls Tryz.prog 102 #[.int .i64 n] w fun e w'=>e= .returned (str (Lib.decDigits n.toNat))∧Ext w w':=by
 have hcv:=aKi (48+n%10)
 have IH:Hid (∀w,Calls Tryz.prog 102 #[.int .i64 (n/10)] w fun e w'=>e= .returned (str (Lib.decDigits (n/10).toNat))∧Ext w w'):=ih
 have hq:=IntWalk.i64_quo n 10 ⟨h0,h,by omega⟩
 have hr:=IntWalk.rem_in n 10 h0
 have hr1:IntKind.i64.wrap (n%10)=n%10:=IntWalk.i64_in _ (by omega)
 have hs:IntKind.i64.wrap (48+n%10)=48+n%10:=IntWalk.i64_in _ (by omega)
 have hc:IntKind.u8.wrap (48+n%10)=48+n%10:=IntWalk.u8_in _ (by omega)
 have hl:(Lib.decDigits (n/10).toNat).length≤21:=dT _ (by omega)
 have HD:Hid (Lib.decDigits n.toNat=Lib.decDigits (n/10).toNat++ [UInt8.ofNat (48+n%10).toNat]):=by
  show _=_
  rw[kI _ (by omega),show(48+n%10).toNat=48+n.toNat%10 by omega,show(n/10).toNat=n.toNat/10 by omega]
 clear ih
 go_enter Tryz.func102,Tryz.ntmps102
 go_wp2_with fail
 go_region_with (go_at_call 102;go_must (go_fit (IH.out _));rintro e w' ⟨rfl,h1⟩;have hce:=h1.cells.1)
 all_goals go_wp2
 all_goals go_ret
 all_goals exact⟨uC HD.out.symm,xE⟩
theorem aAa (k:Nat): ∀(n:Int) (w:World),0≤n→n≤k→n≤9223372036854775807→
  Calls Tryz.prog 102 #[.int .i64 n] w fun e w'=>e= .returned (str (Lib.decDigits n.toNat))∧Ext w w':=by
 induction k with
 |zero=>intro n w h0 hk h;exact vU n w h0 (by omega)
 |succ k ih=>
  intro n w h0 hk h
  by_cases h10:n<10
  ·exact vU n w h0 h10
  ·exact aEj n w h0 (by omega) h (fun w=>ih (n/10) w (by omega) (by omega) (by omega))
theorem lY (n:Int)(w:World)(h0:0≤n)(h:n≤9223372036854775807):
  Calls Tryz.prog 102 #[.int .i64 n] w fun e w'=>e= .returned (str (Lib.decDigits n.toNat))∧Ext w w':=aAa n.toNat n w h0 (by omega) h
abbrev oB (k a b:Int):Value:= .agg #[.int .i64 k,.int .i64 a,.int .i64 b]
def gA (l:List UInt8):Int:=l.foldl (fun s c=>(7*s+(c.toNat:Int))%97) 1
theorem oK (l:List UInt8):0≤gA l∧gA l<97:=by
 unfold gA
 have: ∀(l:List UInt8) (s:Int),0≤s∧s<97→0≤l.foldl (fun s c=>(7*s+(c.toNat:Int))%97) s∧l.foldl (fun s c=>(7*s+(c.toNat:Int))%97) s<97:=by
  intro l
  induction l with
  |nil=>intro s h;exact h
  |cons c l ih=>intro s h;simp only[List.foldl_cons];apply ih;omega
 exact this l 1 (by omega)
theorem iI (s:ByteArray)(k:Nat)(h:k<s.size):s.data.toList.take (k+1)=s.data.toList.take k++ [s[k]]:=by
 rw[List.take_succ_eq_append_getElem (by simpa using h)];rfl
theorem yC (l:List UInt8)(c:UInt8):gA (l++ [c])=(7*gA l+(c.toNat:Int))%97:=by
 unfold gA;rw[List.foldl_append];rfl
set_option maxHeartbeats 400000 in
theorem aFp (s:ByteArray)(w:World)(hs:s.size≤maxLen):
  Calls Tryz.prog 107 #[.string s] w fun e w'=>e= .returned (.int .i64 (gA s.data.toList))∧w=w':=by
 unfold maxLen at hs
 go_enter Tryz.func107,Tryz.ntmps107
 go_wp2
 go_loop [3,4] (fun n i=> ∃k:Nat,k≤s.size∧i= .int .i64 k∧n= .int .i64 (gA (s.data.toList.take k))) (fun _ i=>s.size-(intOf i).toNat)
 case atStart=>exact⟨0,Nat.zero_le _,rfl,rfl⟩
 case round=>
  obtain⟨k,hk,rfl,rfl⟩:=hrel
  have hd:=oK (s.data.toList.take k)
  by_cases hlt:k<s.size
  ·have hc:(s[k].toNat:Int)<256:=by have:=s[k].toNat_lt;omega
   have HS:Hid (gA (s.data.toList.take (k+1))=(7*gA (s.data.toList.take k)+(s[k].toNat:Int))%97):=by rw[iI s k hlt];exact yC _ _
   go_wp2
   go_round
   case rel=>exact⟨k+1,by omega,by go_num,by rw[HS.out]⟩
   case measure=>simp[intOf];omega
  ·go_wp2
   go_ret
   exact⟨gM (by rw[List.take_of_length_le (by simp;omega)]),rfl⟩
set_option maxHeartbeats 400000 in
theorem aGj (s:ByteArray)(w:World)(hs:s.size≤maxLen):
  Calls Tryz.prog 135 #[.string s] w fun e w'=>e= .returned (.int .i64 (gA s.data.toList))∧w=w':=by
 unfold maxLen at hs
 go_enter Tryz.func135,Tryz.ntmps135
 go_wp2
 go_loop [3,4] (fun n i=> ∃k:Nat,k≤s.size∧i= .int .i64 k∧n= .int .i64 (gA (s.data.toList.take k))) (fun _ i=>s.size-(intOf i).toNat)
 case atStart=>exact⟨0,Nat.zero_le _,rfl,rfl⟩
 case round=>
  obtain⟨k,hk,rfl,rfl⟩:=hrel
  have hd:=oK (s.data.toList.take k)
  by_cases hlt:k<s.size
  ·have hc:(s[k].toNat:Int)<256:=by have:=s[k].toNat_lt;omega
   have HS:Hid (gA (s.data.toList.take (k+1))=(7*gA (s.data.toList.take k)+(s[k].toNat:Int))%97):=by rw[iI s k hlt];exact yC _ _
   go_wp2
   go_round
   case rel=>exact⟨k+1,by omega,by go_num,by rw[HS.out]⟩
   case measure=>simp[intOf];omega
  ·go_wp2
   go_ret
   exact⟨gM (by rw[List.take_of_length_le (by simp;omega)]),rfl⟩
theorem aDb (l:List UInt8)(w:World)(hl:l.length≤maxLen):
  Calls Tryz.prog 107 #[str l] w fun e w'=>e= .returned (.int .i64 (gA l))∧w=w':=aFp ⟨l.toArray⟩ w (by simpa[ByteArray.size]using hl)
theorem aEk (l:List UInt8)(w:World)(hl:l.length≤maxLen):
  Calls Tryz.prog 135 #[str l] w fun e w'=>e= .returned (.int .i64 (gA l))∧w=w':=aGj ⟨l.toArray⟩ w (by simpa[ByteArray.size]using hl)
def kY (t:List UInt8):List UInt8:=t++ [35]++Lib.decDigits (gA t).toNat
theorem aF2 (t:List UInt8):(Lib.decDigits (gA t).toNat).length≤21:=by
 have:=oK t
 exact dT _ (by omega)
set_option maxRecDepth 100000 in
set_option maxHeartbeats 1000000 in
theorem aCj (t:List UInt8)(w:World)(ht:t.length≤1000000)(hE:Env w):
  Calls Tryz.prog 105 #[str t] w fun e w'=>e= .returned (str (kY t))∧Ext w w':=by
 have hl:=aF2 t
 have hb:=oK t
 have HE:=xQ hE
 clear hE
 go_enter Tryz.func105,Tryz.ntmps105
 go_wp2_with fail
 refine(aEk t _ (by unfold maxLen;omega)).mono ?_
 rintro e w1 ⟨rfl,rfl⟩
 go_wp2_with fail
 refine(yQ (gA t) _ (by omega) (by omega) HE.out).mono ?_
 rintro e w1 ⟨rfl,h1⟩
 go_wp2
 go_ret
 exact⟨uC rfl,xE⟩
def cQ (c:UInt8):Bool:=decide (48≤(c.toNat:Int)∧(c.toNat:Int)≤57)
def gC (l:List UInt8):Int:=l.foldl (fun n c=>10*n+((c.toNat:Int)-48)) 0
def bQ (m:Nat)(l:List UInt8):Option Int:=
 if 1≤l.length∧l.length≤m∧(l.length≤1∨l.head? ≠some 48)∧l.all cQ=true then some (gC l)else none
theorem oQ (l:List UInt8)(c:UInt8):gC (l++ [c])=10*gC l+((c.toNat:Int)-48):=by
 unfold gC;rw[List.foldl_append];rfl
theorem vM (l:List UInt8)(h:l.all cQ=true)(hl:l.length≤5):0≤gC l∧gC l≤99999:=by
 match l,hl with
 | [],_=>simp[gC]
 | [a],_=>simp[gC,cQ]at h⊢;omega
 | [a,b],_=>simp[gC,cQ]at h⊢;omega
 | [a,b,c],_=>simp[gC,cQ]at h⊢;omega
 | [a,b,c,d],_=>simp[gC,cQ]at h⊢;omega
 | [a,b,c,d,e],_=>simp[gC,cQ]at h⊢;omega
 |_::_::_::_::_::_::_,hl=>simp at hl
theorem pT (s:ByteArray)(k:Nat)(h:k<s.size)(ha:(s.data.toList.take k).all cQ=true)(hc:cQ s[k]=true):(s.data.toList.take (k+1)).all cQ=true:=by
 rw[iI s k h];simp[ha,hc]
theorem oR (s:ByteArray)(k:Nat)(h:k<s.size)(hc:cQ s[k]=false):s.data.toList.all cQ=false:=by
 rw[List.all_eq_false]
 exact⟨s[k],by rw[Array.mem_toList_iff];exact Array.getElem_mem (xs:=s.data) (i:=k) h,by simp[hc]⟩
theorem aGl (s:ByteArray)(h:0<s.size):s.data.toList.head? =some s[0]:=by
 obtain⟨⟨l⟩⟩:=s
 cases l with
 |nil=>simp[ByteArray.size]at h
 |cons a l=>rfl
theorem iS {m:Nat}{l:List UInt8}(h:l.length<1∨m<l.length):bQ m l=none:=by
 unfold bQ;rw[if_neg];omega
theorem nG {m:Nat}{l:List UInt8}(h:1<l.length)(h0:l.head? =some 48):bQ m l=none:=by
 unfold bQ;rw[if_neg];rintro⟨_,_,h1|h1,_⟩
 ·omega
 ·exact h1 h0
theorem nT {m:Nat}{l:List UInt8}(h:l.all cQ=false):bQ m l=none:=by
 unfold bQ;rw[if_neg];simp[h]
theorem pV {m:Nat}{l:List UInt8}(h1:1≤l.length)(h2:l.length≤m)(h3:l.length≤1∨l.head? ≠some 48)(h4:l.all cQ=true):bQ m l=some (gC l):=by
 unfold bQ;rw[if_pos ⟨h1,h2,h3,h4⟩]
theorem aCh {c:UInt8}(h0:48≤(c.toNat:Int))(h1:(c.toNat:Int)≤57):cQ c=true:=by simp[cQ];omega
theorem kM {c:UInt8}(h:(c.toNat:Int)<48∨57<(c.toNat:Int)):cQ c=false:=by simp[cQ];omega
def aEu (l:List UInt8):Int:=if l.all cQ then gC l else -1
theorem wM {l:List UInt8}(h:l.all cQ=true):aEu l=gC l:=if_pos h
theorem sH {l:List UInt8}(h:l.all cQ=false):aEu l= -1:=if_neg (by simp[h])
set_option maxRecDepth 100000 in
set_option maxHeartbeats 1000000 in
theorem mW (s:ByteArray)(w:World)(h:s.size<1∨4<s.size∧s.size≤9223372036854775807∨1<s.size∧s.size≤4∧ ∀h:0<s.size,((s[0].toNat:Int)==48)=true):
  Calls Tryz.prog 95 #[.string s] w fun e w'=>e= .returned (.int .i64 (-1))∧w=w':=by
 rcases h with h|⟨h,h'⟩|⟨h,h',h0⟩
 ·go_enter Tryz.func95,Tryz.ntmps95
  go_wp2
  go_ret
  exact⟨rfl,rfl⟩
 ·go_enter Tryz.func95,Tryz.ntmps95
  go_wp2
  go_ret
  exact⟨rfl,rfl⟩
 ·have hp:0<s.size:=by omega
  have h00:=h0 hp
  clear h0
  go_enter Tryz.func95,Tryz.ntmps95
  go_wp2
  go_ret
  exact⟨rfl,rfl⟩
set_option maxRecDepth 100000 in
set_option maxHeartbeats 1000000 in
theorem aCc (s:ByteArray)(w:World)(h1:1≤s.size)(h4:s.size≤4)(hz:s.size≤1∨1<s.size∧ ∀h:0<s.size,((s[0].toNat:Int)==48)=false):
  Calls Tryz.prog 95 #[.string s] w fun e w'=>e= .returned (.int .i64 (aEu s.data.toList))∧w=w':=by
 have hp:0<s.size:=by omega
 rcases hz with hz|⟨hz,h0⟩
 all_goals
  try (have h00:=h0 hp)
  try clear h0
  go_enter Tryz.func95,Tryz.ntmps95
  go_wp2
  go_loop [3,4] (fun n i=> ∃k:Nat,k≤s.size∧i= .int .i64 k∧n= .int .i64 (gC (s.data.toList.take k))∧(s.data.toList.take k).all cQ=true) (fun _ i=>s.size-(intOf i).toNat)
  case atStart=>exact⟨0,Nat.zero_le _,rfl,rfl,by simp⟩
  case round=>
   obtain⟨k,hk,rfl,rfl,had⟩:=hrel
   have hb:=vM _ had (by simp;omega)
   have HA:=xQ had
   clear had
   by_cases hlt:k<s.size
   ·have HS:Hid (gC (s.data.toList.take (k+1))=10*gC (s.data.toList.take k)+((s[k].toNat:Int)-48)):=by rw[iI s k hlt];exact oQ _ _
    rcases(show(s[k].toNat:Int)<48∨48≤(s[k].toNat:Int)∧57<(s[k].toNat:Int)∨48≤(s[k].toNat:Int)∧(s[k].toNat:Int)≤57 by omega)with hc|⟨hc0,hc⟩|⟨hc0,hc⟩
    ·go_wp2
     go_ret
     exact⟨gM (sH (oR s k hlt (kM (.inl hc)))).symm,rfl⟩
    ·go_wp2
     go_ret
     exact⟨gM (sH (oR s k hlt (kM (.inr hc)))).symm,rfl⟩
    ·go_wp2
     go_round
     case rel=>exact⟨k+1,by omega,by go_num,by rw[HS.out],pT s k hlt HA.out (aCh hc0 hc)⟩
     case measure=>simp[intOf];omega
   ·have e:s.data.toList.take k=s.data.toList:=List.take_of_length_le (by simp;omega)
    have HE:=xQ e
    clear e
    go_wp2
    go_ret
    exact⟨gM (by rw[wM (by rw[←HE.out];exact HA.out),HE.out]),rfl⟩
theorem uF (s:ByteArray)(h:0<s.size):s.data.toList.head? =some 48↔((s[0].toNat:Int)==48)=true:=by
 rw[aGl s h]
 simp only[Option.some.injEq,beq_iff_eq]
 constructor
 ·intro e;rw[e];rfl
 ·intro e;exact UInt8.toNat_inj.1 (by show _=48;omega)
theorem cX (s:ByteArray):s.data.toList.length=s.size:=by simp
theorem aEi (s:ByteArray)(w:World)(hs:s.size≤maxLen):
  Calls Tryz.prog 95 #[.string s] w fun e w'=>e= .returned (.int .i64 ((bQ 4 s.data.toList).getD (-1)))∧w=w':=by
 unfold maxLen at hs
 by_cases h1:s.size<1
 ·rw[iS (by rw[cX];omega)];exact mW s w (.inl h1)
 by_cases h4:4<s.size
 ·rw[iS (by rw[cX];omega)];exact mW s w (.inr (.inl ⟨h4,hs⟩))
 by_cases h0:1<s.size∧s.data.toList.head? =some 48
 ·rw[nG (by rw[cX];omega) h0.2];exact mW s w (.inr (.inr ⟨h0.1,by omega,fun h=>(uF s h).1 h0.2⟩))
 ·refine(aCc s w (by omega) (by omega) ?_).mono ?_
  ·by_cases hq:s.size≤1
   ·exact .inl hq
   ·refine .inr ⟨by omega,fun h=> ?_⟩
    rw[←Bool.not_eq_true,←uF s h]
    intro e;exact h0 ⟨by omega,e⟩
  ·rintro e w' ⟨rfl,rfl⟩
   refine⟨gM ?_,rfl⟩
   cases ha:s.data.toList.all cQ with
   |true=>
    rw[wM ha,pV (by rw[cX];omega) (by rw[cX];omega) (by rw[cX];by_cases hq:s.size≤1;exact .inl hq;exact .inr (fun e=>h0 ⟨by omega,e⟩)) ha];rfl
   |false=>rw[sH ha,nT ha];rfl
def aFd (l:List UInt8):Bool:=l.all cQ
def aAt (l:List UInt8):Int:=if l.all cQ then gC l else 0
theorem tG {l:List UInt8}(h:l.all cQ=true):aAt l=gC l:=if_pos h
theorem pY {l:List UInt8}(h:l.all cQ=false):aAt l=0:=if_neg (by simp[h])
theorem aE2 {a b:Int}{c d:Bool}(h:a=b)(k:c=d):Ending.returned (.tuple #[.int .i64 a,.bool c])= .returned (.tuple #[.int .i64 b,.bool d]):=by rw[h,k]
set_option maxRecDepth 100000 in
set_option maxHeartbeats 1000000 in
theorem jG (s:ByteArray)(m:Int)(w:World)(hm:1≤m∧m≤5)(h:s.size<1∨1≤s.size∧m<(s.size:Int)∧s.size≤9223372036854775807∨1<s.size∧(s.size:Int)≤m∧ ∀h:0<s.size,((s[0].toNat:Int)==48)=true):
  Calls Tryz.prog 97 #[.string s,.int .i64 m] w fun e w'=>e= .returned (.tuple #[.int .i64 0,.bool false])∧w=w':=by
 rcases h with h|⟨h,h',h2⟩|⟨h,h',h0⟩
 ·go_enter Tryz.func97,Tryz.ntmps97
  go_wp2
  go_ret2
  exact⟨rfl,rfl⟩
 ·go_enter Tryz.func97,Tryz.ntmps97
  go_wp2
  go_ret2
  exact⟨rfl,rfl⟩
 ·have hp:0<s.size:=by omega
  have h00:=h0 hp
  clear h0
  go_enter Tryz.func97,Tryz.ntmps97
  go_wp2
  go_ret2
  exact⟨rfl,rfl⟩
set_option maxRecDepth 100000 in
set_option maxHeartbeats 1000000 in
theorem tU (s:ByteArray)(m:Int)(w:World)(hm:1≤m∧m≤5)(h1:1≤s.size)(h4:(s.size:Int)≤m)(hz:s.size≤1∨1<s.size∧ ∀h:0<s.size,((s[0].toNat:Int)==48)=false):
  Calls Tryz.prog 97 #[.string s,.int .i64 m] w fun e w'=>e= .returned (.tuple #[.int .i64 (aAt s.data.toList),.bool (aFd s.data.toList)])∧w=w':=by
 have hp:0<s.size:=by omega
 rcases hz with hz|⟨hz,h0⟩
 all_goals
  try (have h00:=h0 hp)
  try clear h0
  go_enter Tryz.func97,Tryz.ntmps97
  go_wp2
  go_loop [6,7] (fun n i=> ∃k:Nat,k≤s.size∧i= .int .i64 k∧n= .int .i64 (gC (s.data.toList.take k))∧(s.data.toList.take k).all cQ=true) (fun _ i=>s.size-(intOf i).toNat)
  case atStart=>exact⟨0,Nat.zero_le _,rfl,rfl,by simp⟩
  case round=>
   obtain⟨k,hk,rfl,rfl,had⟩:=hrel
   have hb:=vM _ had (by simp;omega)
   have HA:=xQ had
   clear had
   by_cases hlt:k<s.size
   ·have HS:Hid (gC (s.data.toList.take (k+1))=gC (s.data.toList.take k)*10+((s[k].toNat:Int)-48)):=by rw[iI s k hlt,oQ];show _=_;omega
    rcases(show(s[k].toNat:Int)<48∨48≤(s[k].toNat:Int)∧57<(s[k].toNat:Int)∨48≤(s[k].toNat:Int)∧(s[k].toNat:Int)≤57 by omega)with hc|⟨hc0,hc⟩|⟨hc0,hc⟩
    ·go_wp2
     go_ret2
     exact⟨aE2 (pY (oR s k hlt (kM (.inl hc)))).symm (oR s k hlt (kM (.inl hc))).symm,rfl⟩
    ·go_wp2
     go_ret2
     exact⟨aE2 (pY (oR s k hlt (kM (.inr hc)))).symm (oR s k hlt (kM (.inr hc))).symm,rfl⟩
    ·go_wp2
     go_round
     case rel=>exact⟨k+1,by omega,by go_num,by rw[HS.out],pT s k hlt HA.out (aCh hc0 hc)⟩
     case measure=>simp[intOf];omega
   ·have e:s.data.toList.take k=s.data.toList:=List.take_of_length_le (by simp;omega)
    have HE:=xQ e
    clear e
    go_wp2
    go_ret2
    exact⟨aE2 (by rw[tG (by rw[←HE.out];exact HA.out),HE.out]) (by rw[aFd,←HE.out];exact HA.out.symm),rfl⟩
theorem vD (s:ByteArray)(m:Nat)(w:World)(hm:1≤m∧m≤5)(hs:s.size≤maxLen):
  Calls Tryz.prog 97 #[.string s,.int .i64 m] w fun e w'=>e= .returned (.tuple #[.int .i64 ((bQ m s.data.toList).getD 0),.bool (bQ m s.data.toList).isSome])∧w=w':=by
 unfold maxLen at hs
 by_cases h1:s.size<1
 ·rw[iS (by rw[cX];omega)];exact jG s m w (by omega) (.inl h1)
 by_cases h4:m<s.size
 ·rw[iS (by rw[cX];omega)];exact jG s m w (by omega) (.inr (.inl ⟨by omega,by omega,hs⟩))
 by_cases h0:1<s.size∧s.data.toList.head? =some 48
 ·rw[nG (by rw[cX];omega) h0.2];exact jG s m w (by omega) (.inr (.inr ⟨h0.1,by omega,fun h=>(uF s h).1 h0.2⟩))
 ·refine(tU s m w (by omega) (by omega) (by omega) ?_).mono ?_
  ·by_cases hq:s.size≤1
   ·exact .inl hq
   ·refine .inr ⟨by omega,fun h=> ?_⟩
    rw[←Bool.not_eq_true,←uF s h]
    intro e;exact h0 ⟨by omega,e⟩
  ·rintro e w' ⟨rfl,rfl⟩
   cases ha:s.data.toList.all cQ with
   |true=>
    rw[tG ha,pV (by rw[cX];omega) (by rw[cX];omega) (by rw[cX];by_cases hq:s.size≤1;exact .inl hq;exact .inr (fun e=>h0 ⟨by omega,e⟩)) ha,aFd,ha]
    exact⟨rfl,rfl⟩
   |false=>rw[pY ha,nT ha,aFd,ha];exact⟨rfl,rfl⟩
end Go.Proofs.YteejdnmmpmcmeaaGreatDoor
