/-
  Texts of this proof, packed (@packed).
-/
import Derived.Deep.RegionHeld3
import Derived.RegionTactic
import Derived.Sort.OwnSortedInts
import Derived.Test.YtgnkoffndhmhpaaGreatDoorRS
import Derived.Test.YtgnkoffndhmhpaaGreatDoorR1
import Derived.Test.YtgnkoffndhmhpaaGreatDoorR3
namespace Go.Proofs.YtgnkoffndhmhpaaGreatDoor
open Go.RowKit
set_option linter.unusedVariables false
set_option maxHeartbeats 8000000
set_option maxRecDepth 100000
theorem yF (xs:List Int):(xs.mergeSort fun x y=>decide (x≤y))=eQ xs:=by
 refine kV (List.mergeSort_perm _ _) ?_
 have:=List.pairwise_mergeSort (le:=fun x y:Int=>decide (x≤y)) (fun a b c h1 h2=>by simp at*;omega) (fun a b=>by simp;omega) xs
 simpa using this
theorem aFn (B:Nat)(p:OA)(n cap:Nat)(xs:List Int)(w:World)(h:w.ownsRow B TI 1 (.slice p n cap) n (ivs xs))(hn:n≤1000000):
  Calls Tryz.prog 96 #[.slice p n cap] w fun e w'=>e= .returned (.tuple #[])∧w'.ownsRow B TI 1 (.slice p n cap) n (ivs (eQ xs))∧w.grownBy w' (Value.slice p n cap).ownBlock:=by
 have hl:xs.length=n:=by have:=h.1;simpa using this
 subst hl
 by_cases h0:xs.length=0
 ·obtain rfl:xs= []:=List.eq_nil_of_length_eq_zero h0
  refine(Tryz.slices_Sort_int_none p cap w).mono ?_
  rintro e w' ⟨rfl,rfl⟩
  exact⟨rfl,h,World.grownBy.refl _ _⟩
 ·rcases h.2 with⟨h1,h2⟩|⟨g,cap',cur,h1,hb,hg,hnc,hm,hs,ht⟩
  ·exact absurd h2 h0
  ·injection h1 with e1 e2 e3
   subst e1 e3
   refine(Tryz.slices_Sort_int g 0 cap xs w (Go.holds_of_blockI hg (by simpa using ht)) (Array.getElem?_eq_some_iff.1 hg).1 (by omega)).mono ?_
   rintro e w' ⟨rfl,k,os,rfl⟩
   rw[yF]
   exact⟨rfl,Go.ownsRow_sortedI (tN xs) hb hg hnc hm hs,Go.grownBy_sortedI _⟩
theorem bB {w w':World}{B n sz:Nat}{e:TypeId}{v:Value}{xs:List Value}(ho:w.ownsRow B e sz v n xs)(h:Ext w w'):w'.ownsRow B e sz v n xs:=
 ho.kept (row:=none) ⟨h.os,h.tape,h.output,h.size,fun k hk _=>h.block k hk⟩ (by cases v.ownBlock<;>simp)
theorem bG {w:World}{B B' n sz:Nat}{e:TypeId}{v:Value}{xs:List Value}(h:w.ownsRow B e sz v n xs)(hb:B'≤B):w.ownsRow B' e sz v n xs:=by
 refine⟨h.1,?_⟩
 rcases h.2 with h2|⟨g,cap',cur,e1,hb',r⟩
 ·exact .inl h2
 ·exact .inr ⟨g,cap',cur,e1,Nat.le_trans hb hb',r⟩
theorem aAn (aA aB:Int)(p:OA)(n cap:Nat)(w:World)(HV:xB 90 #[aI aA aB p n cap] w false):
  Calls Tryz.prog 89 #[aI aA aB p n cap] w (aY [] w):=by
 go_enter Tryz.func89,Tryz.ntmps89
 go_wp2_with fail
 refine(HV.out _ (by exact .alloc (.alloc (.refl _) _) _)).mono ?_
 rintro e w1 ⟨rfl,h1⟩
 go_wp2
 go_ret
 have ho:((w.alloc (.cells #[aA,aB,.slice p n cap] 31)).alloc (.cells #[] TI)).ownsRow w.heap.size TI 1 (.slice (some ⟨(w.alloc (.cells #[aA,aB,.slice p n cap] 31)).heap.size,0,none⟩) 0 0) 0 []:=World.ownsRow_made _ #[] 0 (by simp) (by simp[maxLen]) rfl
 exact cQ rfl (by simpa using bB ho h1) (by exact .trans (.alloc (.alloc (.refl _) _) _) h1)
theorem aDd (aA aB:Int)(p:OA)(n cap:Nat)(xs:List Int)(w:World)(hn:n≤12)(HS:Hid (Sl w p n cap 1 (ivs xs)))(HV:xB 90 #[aI aA aB p n cap] w true):
  Calls Tryz.prog 89 #[aI aA aB p n cap] w (aY (cZ xs) w):=by
 have hl:=xQ HS.out.ilen
 go_enter Tryz.func89,Tryz.ntmps89
 go_wp2_with fail
 refine(HV.out _ (by exact .alloc (.alloc (.refl _) _) _)).mono ?_
 rintro e w1 ⟨rfl,h1⟩
 have ho:((w.alloc (.cells #[aA,aB,.slice p n cap] 31)).alloc (.cells #[] TI)).ownsRow w.heap.size TI 1 (.slice (some ⟨(w.alloc (.cells #[aA,aB,.slice p n cap] 31)).heap.size,0,none⟩) 0 0) 0 []:=World.ownsRow_made _ #[] 0 (by simp) (by simp[maxLen]) rfl
 have HO0:=xQ (bB ho h1)
 have hz1:w.heap.size<w1.heap.size:=Nat.lt_of_lt_of_le (by first|(simp;omega)|simp) h1.sz
 have eb:w1.cell? ⟨w.heap.size,2,none⟩=some (.slice p n cap):=by rw[h1.cells.1 _ _ (by simp;omega)];simp
 have hx1:Ext w w1:=by exact .trans (.alloc (.alloc (.refl _) _) _) h1
 clear ho
 go_wp2
 go_loopw [3,4] (fun v i wr=> ∃(k:Nat) (q:OA) (m c:Nat),k≤n∧i= .int .i64 k∧v= .slice q m c∧m≤k∧wr.ownsRow w.heap.size TI 1 (.slice q m c) m (ivs (eQ (dA (xs.take k))))∧Ext w1 wr) (fun _ i _=>n-(intOf i).toNat)
 case atStart=>exact⟨0,_,0,0,Nat.zero_le _,rfl,rfl,Nat.le_refl _,by simpa[dA,eQ]using HO0.out,Ext.refl _⟩
 case round=>
  obtain⟨k,q,m,c,hk,rfl,rfl,hmk,hown,hE⟩:=hrel
  have HO:=xQ hown
  have hEw:=hx1.trans hE
  have hsz:=hE.sz
  have ec:wr.cell? ⟨w.heap.size,2,none⟩=some (.slice p n cap):=(hE.cells.1 _ _ hz1).trans eb
  clear hown
  by_cases hlt:k<n
  ·obtain⟨b,off,x,rfl,hx,hb,hcell⟩:=(HS.out.ext hEw).int_at hlt
   have HX:=xQ hx
   clear hx
   by_cases hx0:0<x
   ·have hfin:Hid (eQ (dA (xs.take (k+1)))=jL x (eQ (dA (xs.take k)))):=by
     show _=_;rw[bF HX.out,jX,if_pos hx0,rI]
    have HC:Hid (∀w',Ext wr w'→Calls Tryz.prog 136 #[.slice q m c,x] w' (aY (jL x (eQ (dA (xs.take k)))) w')):=fun w' hx=>vQ q m c _ x w' (by omega) ((Sl.own HO.out).ext hx)
    have hlen:(jL x (eQ (dA (xs.take k)))).length=m+1:=by rw[aG7];have:=HO.out.1;simp at this;omega
    have HLEN:=xQ hlen
    clear hlen
    go_wp2_with fail
    refine(HC.out _ (by exact .refl _)).mono ?_
    rintro e w2 ⟨q2,c2,rfl,h2,h3⟩
    have HO2:Hid (w2.ownsRow w.heap.size TI 1 (.slice q2 (m+1) c2) (m+1) (ivs (eQ (dA (xs.take (k+1)))))):=by
     rw[hfin.out,←HLEN.out];exact bG h2 hEw.sz
    rw[HLEN.out]
    clear h2
    go_wp2
    go_roundw
    case rel=>exact⟨k+1,q2,m+1,c2,by omega,by go_num,rfl,by omega,HO2.out,by exact .trans hE h3⟩
    case measure=>simp[intOf];omega
   ·have hfin:Hid (eQ (dA (xs.take (k+1)))=eQ (dA (xs.take k))):=by
     show _=_;rw[bF HX.out,jX,if_neg hx0,List.append_nil]
    go_wp2
    go_roundw
    case rel=>exact⟨k+1,q,m,c,by omega,by go_num,rfl,by omega,by rw[hfin.out];exact HO.out,hE⟩
    case measure=>simp[intOf];omega
  ·have hfin:Hid (eQ (dA (xs.take k))=cZ xs):=by
    show _=_;rw[List.take_of_length_le (by rw[hl.out];omega)];rfl
   go_wp2
   go_ret
   exact cQ (by rw[←hfin.out];have:=HO.out.1;simpa using this) (by rw[←hfin.out];exact HO.out) hEw
theorem aBn (aA aB:Int)(p:OA)(n cap:Nat)(w:World)(HV:xB 80 #[aI aA aB p n cap] w false):
  Calls Tryz.prog 47 #[aI aA aB p n cap] w (aY [] w):=by
 go_enter Tryz.func47,Tryz.ntmps47
 go_wp2_with fail
 refine(HV.out _ (by exact .alloc (.refl _) _)).mono ?_
 rintro e w1 ⟨rfl,h1⟩
 go_wp2
 go_ret
 exact cQ rfl (World.ownsRow_nil _ _ _ _) (by exact .trans (.alloc (.refl _) _) h1)
theorem aEa (aA aB:Int)(p:OA)(n cap:Nat)(xs:List Int)(w:World)(hn:n≤12)(HS:Hid (Sl w p n cap 1 (ivs xs)))(HV:xB 80 #[aI aA aB p n cap] w true):
  Calls Tryz.prog 47 #[aI aA aB p n cap] w (aY (cZ xs) w):=by
 have hl:=xQ HS.out.ilen
 go_enter Tryz.func47,Tryz.ntmps47
 go_wp2_with fail
 refine(HV.out _ (by exact .alloc (.refl _) _)).mono ?_
 rintro e w1 ⟨rfl,h1⟩
 have hz1:w.heap.size<w1.heap.size:=Nat.lt_of_lt_of_le (by first|(simp;omega)|simp) h1.sz
 have eb:w1.cell? ⟨w.heap.size,2,none⟩=some (.slice p n cap):=by rw[h1.cells.1 _ _ (by simp)];simp
 have hx1:Ext w w1:=by exact .trans (.alloc (.refl _) _) h1
 go_wp2
 go_loopw [3,12] (fun v i wr=> ∃(k:Nat) (q:OA) (m c:Nat),k≤n∧i= .int .i64 k∧v= .slice q m c∧m≤k∧wr.ownsRow w1.heap.size TI 1 (.slice q m c) m (ivs (dA (xs.take k)))∧Ext w1 wr) (fun _ i _=>n-(intOf i).toNat)
 case atStart=>exact⟨0,none,0,0,Nat.zero_le _,rfl,rfl,Nat.le_refl _,World.ownsRow_nil _ _ _ _,Ext.refl _⟩
 case round=>
  obtain⟨k,q,m,c,hk,rfl,rfl,hmk,hown,hE⟩:=hrel
  have HO:=xQ hown
  have hEw:=hx1.trans hE
  have hsz:=hE.sz
  have hszw:=hx1.sz
  clear hown
  by_cases hlt:k<n
  ·obtain⟨b,off,x,rfl,hx,hb,hcell⟩:=(HS.out.ext hEw).int_at hlt
   have HX:=xQ hx
   clear hx
   by_cases hx0:0<x
   ·have hfin:Hid (dA (xs.take (k+1))=dA (xs.take k)++ [x]):=by
     show _=_;rw[bF HX.out,jX,if_pos hx0]
    go_wp2_with (at_builtin;refine cA eP rfl _ _ rfl w1.heap.size _ _ _ rfl (HO.out.alloc _) _ _ x _ rfl (by simp) (by omega) (by simp;omega) ?_;intro p' cap' w2 hown1 hg1;have HO1:=xQ hown1;have hE1:Ext w1 w2:=Ext.own (hE.alloc _) (HO.out.alloc _) hg1 (Nat.le_refl _);clear hown1 hg1)
    go_roundw
    case rel=>exact⟨k+1,p',m+1,cap',by omega,by go_num,rfl,by omega,by rw[hfin.out];exact HO1.out,hE1⟩
    case measure=>simp[intOf];omega
   ·have hfin:Hid (dA (xs.take (k+1))=dA (xs.take k)):=by
     show _=_;rw[bF HX.out,jX,if_neg hx0,List.append_nil]
    go_wp2
    go_roundw
    case rel=>exact⟨k+1,q,m,c,by omega,by go_num,rfl,by omega,by rw[hfin.out];exact HO.out,hE⟩
    case measure=>simp[intOf];omega
  ·have hfin:Hid (eQ (dA (xs.take k))=cZ xs):=by
    show _=_;rw[List.take_of_length_le (by rw[hl.out];omega)];rfl
   go_wp2_with fail
   refine(aFn w1.heap.size q m c _ _ HO.out (by omega)).mono ?_
   rintro e w2 ⟨rfl,h2,h3⟩
   have hE2:Ext w w2:=hEw.own HO.out h3 (by omega)
   have HO2:=xQ h2
   clear h2 h3
   go_wp2
   go_ret
   exact cQ (by rw[←hfin.out];have:=HO2.out.1;simpa using this) (by rw[←hfin.out];exact bG HO2.out hx1.sz) hE2
theorem aIl (aA aB:Int)(p:OA)(n cap:Nat)(xs:List Int)(w:World)(hS:Sl w p n cap 1 (ivs xs)):Calls Tryz.prog 89 #[aI aA aB p n cap] w (aY (if aP aA aB xs then cZ xs else []) w):=by
 have hl:=hS.ilen
 cases h:aP aA aB xs with
 |true=>
  have h2:iN aA aB n=true:=by simp only[aP,Bool.and_eq_true]at h;rw[←hl];exact h.1
  rw[if_pos rfl]
  exact aDd aA aB p n cap xs w (bR h2).2.2.2.2.2.1 hS (fun w' hx=>by rw[←h];exact fV aA aB p n cap xs w' (hS.ext hx))
 |false=>
  rw[if_neg (by simp)]
  exact aAn aA aB p n cap w (fun w' hx=>by rw[←h];exact fV aA aB p n cap xs w' (hS.ext hx))
theorem aGk (aA aB:Int)(p:OA)(n cap:Nat)(xs:List Int)(w:World)(hS:Sl w p n cap 1 (ivs xs)):Calls Tryz.prog 47 #[aI aA aB p n cap] w (aY (if aP aA aB xs then cZ xs else []) w):=by
 have hl:=hS.ilen
 cases h:aP aA aB xs with
 |true=>
  have h2:iN aA aB n=true:=by simp only[aP,Bool.and_eq_true]at h;rw[←hl];exact h.1
  rw[if_pos rfl]
  exact aEa aA aB p n cap xs w (bR h2).2.2.2.2.2.1 hS (fun w' hx=>by rw[←h];exact fJ aA aB p n cap xs w' (hS.ext hx))
 |false=>
  rw[if_neg (by simp)]
  exact aBn aA aB p n cap w (fun w' hx=>by rw[←h];exact fJ aA aB p n cap xs w' (hS.ext hx))
set_option linter.unusedSimpArgs false
def eL (f:Nat→Bool):Nat→List Int
 |0=> []
 |k+1=>eL f k++(if f k then [(k:Int)]else [])
theorem xW (f:Nat→Bool)(k:Nat)(x:Int):x∈eL f k↔ ∃j:Nat,j<k∧f j=true∧x=(j:Int):=by
 induction k with
 |zero=>simp[eL]
 |succ k ih=>
  unfold eL
  rw[List.mem_append,ih]
  constructor
  ·rintro(⟨j,h1,h2,h3⟩|h)
   ·exact⟨j,by omega,h2,h3⟩
   ·by_cases hf:f k=true
    ·rw[if_pos hf]at h;simp at h;exact⟨k,by omega,hf,h⟩
    ·rw[if_neg hf]at h;simp at h
  ·rintro⟨j,h1,h2,h3⟩
   by_cases hj:j<k
   ·exact .inl ⟨j,hj,h2,h3⟩
   ·obtain rfl:j=k:=by omega
    right;rw[if_pos h2];simpa using h3
def cK (xs:List Int)(k:Nat):Bool:=xs[k]? ==some 0
def kE (xs:List Int):List Int:=eL (cK xs) xs.length
theorem uE (xs:List Int):kE xs= []↔(0:Int)∉xs:=by
 rw[List.eq_nil_iff_forall_not_mem]
 constructor
 ·intro h hm
  obtain⟨k,hk,e⟩:=List.getElem_of_mem hm
  exact h (k:Int) ((xW _ _ _).2 ⟨k,hk,by simp[cK,hk,e],rfl⟩)
 ·intro h x hx
  obtain⟨j,h1,h2,h3⟩:=(xW _ _ _).1 hx
  simp[cK,h1]at h2
  exact h (by rw[←h2];exact List.getElem_mem h1)
theorem oD {wr w2:World}{B o n:Nat}{v u:Value}{xs:List Value}{ob:Obj}(ho:wr.ownsRow (B+1) TI 1 v n xs)(hg:(wr.alloc ob).grownBy w2 v.ownBlock)(hb:B<wr.heap.size)(hc:wr.cell? ⟨B,o,none⟩=some u):w2.cell? ⟨B,o,none⟩=some u:=by
 rw[World.cell?_of_block (w:=wr.alloc ob) (hg.block B (by simp;omega) (fun e=>by have:=ho.lt B e.symm;omega))]
 rw[((Ext.refl wr).alloc ob).cells.1 B o hb];exact hc
theorem aAk (aA aB:Int)(p:OA)(n cap:Nat)(w:World)(HV:xB 90 #[aI aA aB p n cap] w false):
  Calls Tryz.prog 134 #[aI aA aB p n cap] w (aY [] w):=by
 go_enter Tryz.func134,Tryz.ntmps134
 go_wp2_with fail
 refine(HV.out _ (by exact .alloc (.alloc (.refl _) _) _)).mono ?_
 rintro e w1 ⟨rfl,h1⟩
 have ho:((w.alloc (.cells #[aA,aB,.slice p n cap] 31)).alloc (.cells #[] TI)).ownsRow (w.heap.size+1) TI 1 (.slice (some ⟨(w.alloc (.cells #[aA,aB,.slice p n cap] 31)).heap.size,0,none⟩) 0 0) 0 []:=World.ownsRow_made _ #[] 0 (by simp) (by simp[maxLen]) rfl
 have HO0:=xQ (bB ho h1)
 clear ho
 go_wp2
 go_ret
 exact cQ (xs:= []) rfl (by simpa using bG HO0.out (Nat.le_succ _)) (by exact .trans (.alloc (.alloc (.refl _) _) _) h1)
theorem aDb (aA aB:Int)(p:OA)(n cap:Nat)(xs:List Int)(w:World)(hn:n≤12)(HS:Hid (Sl w p n cap 1 (ivs xs)))(HV:xB 90 #[aI aA aB p n cap] w true):
  Calls Tryz.prog 134 #[aI aA aB p n cap] w (aY (kE xs) w):=by
 have hl:=xQ HS.out.ilen
 go_enter Tryz.func134,Tryz.ntmps134
 go_wp2_with fail
 refine(HV.out _ (by exact .alloc (.alloc (.refl _) _) _)).mono ?_
 rintro e w1 ⟨rfl,h1⟩
 have ho:((w.alloc (.cells #[aA,aB,.slice p n cap] 31)).alloc (.cells #[] TI)).ownsRow (w.heap.size+1) TI 1 (.slice (some ⟨(w.alloc (.cells #[aA,aB,.slice p n cap] 31)).heap.size,0,none⟩) 0 0) 0 []:=World.ownsRow_made _ #[] 0 (by simp) (by simp[maxLen]) rfl
 have HO0:=xQ (bB ho h1)
 clear ho
 have hz1:w.heap.size<w1.heap.size:=Nat.lt_of_lt_of_le (by first|(simp;omega)|simp) h1.sz
 have eb:w1.cell? ⟨w.heap.size,2,none⟩=some (.slice p n cap):=by rw[h1.cells.1 _ _ (by first|(simp;done)|(simp;omega))];simp
 have hx1:Ext w w1:=by exact .trans (.alloc (.alloc (.refl _) _) _) h1
 go_wp2
 go_loopw [3,4] (fun v i wr=> ∃(k:Nat) (q:OA) (m c:Nat),k≤n∧i= .int .i64 k∧v= .slice q m c∧m≤k∧wr.ownsRow (w.heap.size+1) TI 1 (.slice q m c) m (ivs (eL (cK xs) k))∧Ext w wr∧wr.cell? ⟨w.heap.size,2,none⟩=some (.slice p n cap)∧w.heap.size<wr.heap.size) (fun _ i _=>n-(intOf i).toNat)
 case atStart=>exact⟨0,_,0,0,Nat.zero_le _,rfl,rfl,Nat.le_refl _,by simpa[eL]using HO0.out,hx1,eb,hz1⟩
 case round=>
  obtain⟨k,q,m,c,hk,rfl,rfl,hmk,hown,hEw,ec,hsz⟩:=hrel
  have HO:=xQ hown
  clear hown
  by_cases hlt:k<n
  ·obtain⟨b,off,x,rfl,hx,hb,hcell⟩:=(HS.out.ext hEw).int_at hlt
   have HX:=xQ hx
   clear hx
   by_cases hx0:x=0
   ·have t0:(x==0)=true:=by simp[hx0]
    have hfin:Hid (eL (cK xs) (k+1)=eL (cK xs) k++ [(k:Int)]):=by
     show _=_;rw[eL,if_pos (by unfold cK;rw[HX.out,hx0];rfl)]
    clear hx0
    go_wp2_with (at_builtin;refine cA eP rfl _ _ rfl (w.heap.size+1) _ _ _ rfl (HO.out.alloc _) _ _ (k:Int) _ rfl (by simp) (by omega) (by simp;omega) ?_;intro p' cap' w2 hown1 hg1;have HO1:=xQ hown1;have hE1:Ext w w2:=Ext.own (hEw.alloc _) (HO.out.alloc _) hg1 (by omega);have ec2:=oD HO.out hg1 hsz ec;have hsz2:w.heap.size<w2.heap.size:=Nat.lt_of_lt_of_le hsz (by have:=hg1.size;simp at this;omega);clear hown1 hg1)
    go_roundw
    case rel=>exact⟨k+1,p',m+1,cap',by omega,by go_num,rfl,by omega,by rw[hfin.out];exact HO1.out,hE1,ec2,hsz2⟩
    case measure=>simp[intOf];omega
   ·have t0:(x==0)=false:=by simp[hx0]
    have hfin:Hid (eL (cK xs) (k+1)=eL (cK xs) k):=by
     show _=_;rw[eL,if_neg (by unfold cK;rw[HX.out];simp[hx0]),List.append_nil]
    clear hx0
    go_wp2
    go_roundw
    case rel=>exact⟨k+1,q,m,c,by omega,by go_num,rfl,by omega,by rw[hfin.out];exact HO.out,hEw,ec,hsz⟩
    case measure=>simp[intOf];omega
  ·have hfin:Hid (eL (cK xs) k=kE xs):=by
    show _=_;unfold kE;rw[hl.out,show k=n by omega]
   go_wp2
   go_ret
   exact cQ (by rw[←hfin.out];have:=HO.out.1;simpa using this) (by rw[←hfin.out];exact bG HO.out (Nat.le_succ _)) hEw
theorem aAl (aA aB:Int)(p:OA)(n cap:Nat)(xs:List Int)(w:World)(hS:Sl w p n cap 1 (ivs xs)):Calls Tryz.prog 134 #[aI aA aB p n cap] w (aY (if aP aA aB xs then kE xs else []) w):=by
 have hl:=hS.ilen
 cases h:aP aA aB xs with
 |true=>
  have hb:n≤12:=by unfold aP at h;rw[Bool.and_eq_true]at h;have:=bR h.1;omega
  simpa using aDb aA aB p n cap xs w hb hS (fun w' hx=>by have:=fV aA aB p n cap xs w' (hS.ext hx);rwa[h]at this)
 |false=>simpa using aAk aA aB p n cap w (fun w' hx=>by have:=fV aA aB p n cap xs w' (hS.ext hx);rwa[h]at this)
set_option maxRecDepth 100000 in set_option maxHeartbeats 1000000 in
theorem aBl (aA aB:Int)(p:OA)(n cap:Nat)(w:World)(HV:xB 80 #[aI aA aB p n cap] w false):
  Calls Tryz.prog 174 #[aI aA aB p n cap] w (aY [] w):=by
 go_enter Tryz.func174,Tryz.ntmps174
 go_wp2_with fail
 refine(HV.out _ (by exact .alloc (.refl _) _)).mono ?_
 rintro e w1 ⟨rfl,h1⟩
 go_wp2
 go_ret
 exact cQ (xs:= []) rfl (World.ownsRow_nil _ _ _ _) (by exact .trans (.alloc (.refl _) _) h1)
set_option maxRecDepth 100000 in set_option maxHeartbeats 1000000 in
theorem aE8 (aA aB:Int)(p:OA)(n cap:Nat)(xs:List Int)(w:World)(hn:n≤12)(HS:Hid (Sl w p n cap 1 (ivs xs)))(HV:xB 80 #[aI aA aB p n cap] w true):
  Calls Tryz.prog 174 #[aI aA aB p n cap] w (aY (kE xs) w):=by
 have hl:=xQ HS.out.ilen
 go_enter Tryz.func174,Tryz.ntmps174
 go_wp2_with fail
 refine(HV.out _ (by exact .alloc (.refl _) _)).mono ?_
 rintro e w1 ⟨rfl,h1⟩
 have hz1:w.heap.size<w1.heap.size:=Nat.lt_of_lt_of_le (by first|(simp;omega)|simp) h1.sz
 have eb:w1.cell? ⟨w.heap.size,2,none⟩=some (.slice p n cap):=by rw[h1.cells.1 _ _ (by first|(simp;done)|(simp;omega))];simp
 have hx1:Ext w w1:=by exact .trans (.alloc (.refl _) _) h1
 go_wp2
 go_loopw [3,12] (fun v i wr=> ∃(k:Nat) (q:OA) (m c:Nat),k≤n∧i= .int .i64 k∧v= .slice q m c∧m≤k∧wr.ownsRow (w.heap.size+1) TI 1 (.slice q m c) m (ivs (eL (cK xs) k))∧Ext w wr∧wr.cell? ⟨w.heap.size,2,none⟩=some (.slice p n cap)∧w.heap.size<wr.heap.size) (fun _ i _=>n-(intOf i).toNat)
 case atStart=>exact⟨0,_,0,0,Nat.zero_le _,rfl,rfl,Nat.le_refl _,World.ownsRow_nil _ _ _ _,hx1,eb,hz1⟩
 case round=>
  obtain⟨k,q,m,c,hk,rfl,rfl,hmk,hown,hEw,ec,hsz⟩:=hrel
  have HO:=xQ hown
  clear hown
  by_cases hlt:k<n
  ·obtain⟨b,off,x,rfl,hx,hb,hcell⟩:=(HS.out.ext hEw).int_at hlt
   have HX:=xQ hx
   clear hx
   by_cases hx0:x=0
   ·have t0:(x==0)=true:=by simp[hx0]
    have hfin:Hid (eL (cK xs) (k+1)=eL (cK xs) k++ [(k:Int)]):=by
     show _=_;rw[eL,if_pos (by unfold cK;rw[HX.out,hx0];rfl)]
    clear hx0
    go_wp2_with (at_builtin;refine cA eP rfl _ _ rfl (w.heap.size+1) _ _ _ rfl (HO.out.alloc _) _ _ (k:Int) _ rfl (by simp) (by omega) (by simp;omega) ?_;intro p' cap' w2 hown1 hg1;have HO1:=xQ hown1;have hE1:Ext w w2:=Ext.own (hEw.alloc _) (HO.out.alloc _) hg1 (by omega);have ec2:=oD HO.out hg1 hsz ec;have hsz2:w.heap.size<w2.heap.size:=Nat.lt_of_lt_of_le hsz (by have:=hg1.size;simp at this;omega);clear hown1 hg1)
    go_roundw
    case rel=>exact⟨k+1,p',m+1,cap',by omega,by go_num,rfl,by omega,by rw[hfin.out];exact HO1.out,hE1,ec2,hsz2⟩
    case measure=>simp[intOf];omega
   ·have t0:(x==0)=false:=by simp[hx0]
    have hfin:Hid (eL (cK xs) (k+1)=eL (cK xs) k):=by
     show _=_;rw[eL,if_neg (by unfold cK;rw[HX.out];simp[hx0]),List.append_nil]
    clear hx0
    go_wp2
    go_roundw
    case rel=>exact⟨k+1,q,m,c,by omega,by go_num,rfl,by omega,by rw[hfin.out];exact HO.out,hEw,ec,hsz⟩
    case measure=>simp[intOf];omega
  ·have hfin:Hid (eL (cK xs) k=kE xs):=by
    show _=_;unfold kE;rw[hl.out,show k=n by omega]
   go_wp2
   go_ret
   exact cQ (by rw[←hfin.out];have:=HO.out.1;simpa using this) (by rw[←hfin.out];exact bG HO.out (Nat.le_succ _)) hEw
theorem aIz (aA aB:Int)(p:OA)(n cap:Nat)(xs:List Int)(w:World)(hS:Sl w p n cap 1 (ivs xs)):Calls Tryz.prog 174 #[aI aA aB p n cap] w (aY (if aP aA aB xs then kE xs else []) w):=by
 have hl:=hS.ilen
 cases h:aP aA aB xs with
 |true=>
  have hb:n≤12:=by unfold aP at h;rw[Bool.and_eq_true]at h;have:=bR h.1;omega
  simpa using aE8 aA aB p n cap xs w hb hS (fun w' hx=>by have:=fJ aA aB p n cap xs w' (hS.ext hx);rwa[h]at this)
 |false=>simpa using aBl aA aB p n cap w (fun w' hx=>by have:=fJ aA aB p n cap xs w' (hS.ext hx);rwa[h]at this)
end Go.Proofs.YtgnkoffndhmhpaaGreatDoor
namespace Go.Proofs.YtgnkoffndhmhpaaGreatDoor
open Go Go.RowKit
set_option linter.unusedVariables false
section
variable {P:Program} {ops:Array Oper} {Q:Exit→Act→World→Prop} {md:Region.Mode} {G:Nat→Value→World→Prop} {R:World→World→Prop}
def fC (ops:Array Oper)(i:Nat):Option Tmp:=(ops[i]?).bind (·.dst)
def aI4 (ops:Array Oper):List (Nat×Option Tmp):=(List.range ops.size).map (fun i=>(i,fC ops i))
def aJm (md:Region.Mode)(ops:Array Oper)(i:Nat):List (Nat×Option Tmp):=
 match ops[i]? with
 |none=> []
 |some o=>(o.after.toList.filter (fun e=>Region.binds md e)).map (fun e=>(e.on,fC ops e.on))
def nA (ops:Array Oper)(i:Nat):List (Nat×Option Tmp):=
 match ops[i]? with
 |none=> []
 |some o=>(aI4 ops).filter (fun p=>match p.2 with
  |none=>false
  |some d=>(o.looksAt ops).contains d)
def ForV (G:Nat→Value→World→Prop)(w:World):List (Nat×Option Tmp)→Act→(Act→Prop)→Prop
 | [],a,K=>K a
 |p::ps,a,K=> ∀v,G p.1 v w→ForV G w ps (a.put p.2 v) K
def sS (P:Program)(ops:Array Oper)(G:Nat→Value→World→Prop)(R:World→World→Prop)(i:Nat)(o:Oper)(w:World)(a:Act):Prop:=
 ∀K':Act→World→Prop,(∀a' w'',(∃v,a'=a.put o.dst v∧G i v w''∧R w w'')→K' a' w'')→if Region.wanted o (yielded ops a.tmps)=true then Oper.wp P o a w K' (fun _ _ _=>False)else K' (a.put o.dst undef) w
def StepsL (P:Program)(md:Region.Mode)(ops:Array Oper)(G:Nat→Value→World→Prop)(R:World→World→Prop)(a0:Act)(W:World)(l:List Nat):Prop:=
 ∀i∈l,∀o,ops[i]? =some o→ ∀w,R W w→ForV G w (nA ops i) a0 (sS P ops G R i o w)
theorem StepsL.nil {a0:Act}{W:World}:StepsL P md ops G R a0 W []:=fun _ h=>by cases h
theorem StepsL.cons {a0:Act}{W:World}{i:Nat}{o:Oper}{ps:List (Nat×Option Tmp)}{is:List Nat}(ho:ops[i]? =some o) (hp:nA ops i=ps)
  (h: ∀w,R W w→ForV G w ps a0 (sS P ops G R i o w)) (hs:StepsL P md ops G R a0 W is):StepsL P md ops G R a0 W (i::is):=by
 intro j hj o' ho' w hw
 rcases List.mem_cons.1 hj with rfl|hj
 ·rw[ho]at ho';cases ho';rw[hp];exact h w hw
 ·exact hs j hj o' ho' w hw
theorem sC {a0:Act}{W:World}{i:Nat}{o:Oper}{is:List Nat}(ps:List (Nat×Option Tmp))(ho:ops[i]? =some o) (h: ∀w,R W w→ForV G w ps a0 (sS P ops G R i o w)) (hs:StepsL P md ops G R a0 W is) (hp:nA ops i=ps:=by kernel_rfl):StepsL P md ops G R a0 W (i::is):=StepsL.cons ho hp h hs
def qE (md:Region.Mode)(ops:Array Oper)(n:Nat):Bool:=
 Region.noSelect ops&&(List.range ops.size).all fun i=>
  match ops[i]? with
  |none=>true
  |some o=>
   (match o.dst with
    |none=>true
    |some d=>decide (d<n)&&(List.range ops.size).all fun j=>j==i || fC ops j !=some d)&&
   (o.looksAt ops).all fun t=>(List.range ops.size).all fun j=>fC ops j !=some t || o.after.any fun e=>Region.binds md e&&e.on==j
theorem nL {n:Nat}(h:qE md ops n=true):
  Region.noSelect ops=true∧ ∀i o,ops[i]? =some o→
   (∀d,o.dst=some d→d<n∧ ∀j,j≠i→fC ops j≠some d)∧
   (∀t∈o.looksAt ops,∀j,fC ops j=some t→ ∃e∈o.after,Region.binds md e=true∧e.on=j):=by
 unfold qE at h
 rw[Bool.and_eq_true]at h
 refine⟨h.1,fun i o ho=> ?_⟩
 have hlt:i<ops.size:=(Array.getElem?_eq_some_iff.1 ho).1
 have h1:=List.all_eq_true.1 h.2 i (List.mem_range.2 hlt)
 simp only[ho,Bool.and_eq_true]at h1
 obtain⟨h1,h2⟩:=h1
 have jlt: ∀j t,fC ops j=some t→j<ops.size:=fun j t hj=>by
  rcases Nat.lt_or_ge j ops.size with h'|h'
  ·exact h'
  ·simp[fC,Array.getElem?_eq_none h']at hj
 refine⟨fun d hd=> ?_,fun t ht j hj=> ?_⟩
 ·rw[hd]at h1
  simp only[Bool.and_eq_true,decide_eq_true_eq]at h1
  refine⟨h1.1,fun j hji hj=> ?_⟩
  have:=List.all_eq_true.1 h1.2 j (List.mem_range.2 (jlt j d hj))
  simp[hji,hj]at this
 ·have:=List.all_eq_true.1 (List.all_eq_true.1 h2 t ht) j (List.mem_range.2 (jlt j t hj))
  simp only[Bool.or_eq_true,bne_iff_ne,ne_eq]at this
  rcases this with h'|h'
  ·exact absurd hj h'
  ·obtain⟨e,he,h3⟩:=Array.any_eq_true'.1 h'
   rw[Bool.and_eq_true]at h3
   exact⟨e,he,h3.1,by simpa using h3.2⟩
structure FrI (ops:Array Oper) (a0:Act) (vals:Nat→Value) (l:Nat→Prop) (a:Act):Prop where
 defers:a.defers=a0.defers
 size:a.tmps.size=a0.tmps.size
 mem: ∀i d,fC ops i=some d→l i→a.tmps[d]? =some (vals i)
 out: ∀d,(∀i,l i→fC ops i≠some d)→a.tmps[d]? =a0.tmps[d]?
theorem aIg {a b:Act}(h:a.tmps=b.tmps)(k:a.defers=b.defers):a=b:=by cases a;cases b;simp_all
theorem FrI.put {n:Nat}{a0 a:Act}{vals:Nat→Value}{l:Nat→Prop}(hok:qE md ops n=true)(hn:a0.tmps.size=n)(h:FrI ops a0 vals l a){i:Nat}{o:Oper}(ho:ops[i]? =some o) (v:Value) (hv:l i→vals i=v):
  FrI ops a0 (fun j=>if j=i then v else vals j) (fun j=>l j∨j=i) (a.put o.dst v):=by
 obtain⟨-,hs⟩:=nL hok
 have hdi:fC ops i=o.dst:=by simp[fC,ho]
 cases hd:o.dst with
 |none=>
  refine⟨h.defers,h.size,fun j d hj hl=> ?_,fun d hd'=>h.out d fun j hj=>hd' j (.inl hj)⟩
  have hji:j≠i:=by rintro rfl;rw[hdi,hd]at hj;cases hj
  simp only[Act.put,hji,if_false]
  exact h.mem j d hj (hl.resolve_right hji)
 |some d0=>
  obtain⟨hlt,huniq⟩:=(hs i o ho).1 d0 hd
  refine⟨h.defers,by simp[Act.put,h.size],fun j d hj hl=> ?_,fun d hd'=> ?_⟩
  ·by_cases hji:j=i
   ·subst hji
    rw[hdi,hd]at hj;cases hj
    simp[Act.put,h.size,hn,hlt]
   ·have hne:d0≠d:=by rintro rfl;exact huniq j hji hj
    simp only[Act.put,hji,if_false]
    rw[Array.getElem?_setIfInBounds_ne hne]
    exact h.mem j d hj (hl.resolve_right hji)
  ·have hne:d0≠d:=by rintro rfl;exact hd' i (.inr rfl) (by rw[hdi,hd])
   simp only[Act.put]
   rw[Array.getElem?_setIfInBounds_ne hne]
   exact h.out d fun j hj=>hd' j (.inl hj)
theorem FrI.congr {a0 a:Act}{vals vals':Nat→Value}{l l':Nat→Prop}(h:FrI ops a0 vals l a)(hl: ∀i,l i↔l' i)(hv: ∀i,l' i→vals i=vals' i):FrI ops a0 vals' l' a:=
 ⟨h.defers,h.size,fun i d hd hi=>by rw[←hv i hi];exact h.mem i d hd ((hl i).2 hi),fun d hd=>h.out d fun i hi=>hd i ((hl i).1 hi)⟩
theorem FrI.nil {a0:Act}{vals:Nat→Value}:FrI ops a0 vals (fun _=>False) a0:=⟨rfl,rfl,fun _ _ _ h=>h.elim,fun _ _=>rfl⟩
theorem FrI.eq {a0 a b:Act}{vals:Nat→Value}{l:Nat→Prop}(h:FrI ops a0 vals l a)(k:FrI ops a0 vals l b):a=b:=by
 refine aIg ?_ (h.defers.trans k.defers.symm)
 apply Array.ext_getElem?
 intro d
 by_cases hd: ∃i,l i∧fC ops i=some d
 ·obtain⟨i,hi,hd⟩:=hd
  rw[h.mem i d hd hi,k.mem i d hd hi]
 ·have hd': ∀i,l i→fC ops i≠some d:=fun i hi he=>hd ⟨i,hi,he⟩
  rw[h.out d hd',k.out d hd']
theorem ForV.get {n:Nat}(hok:qE md ops n=true){a0:Act}(hn:a0.tmps.size=n){vals:Nat→Value}{w:World}{K:Act→Prop}:
  ∀(ps:List (Nat×Option Tmp)) (l:Nat→Prop) (a:Act),(∀p∈ps,(∃o,ops[p.1]? =some o)∧p.2=fC ops p.1)→(∀p∈ps,G p.1 (vals p.1) w)→FrI ops a0 vals l a→ForV G w ps a K→
   ∃b,FrI ops a0 vals (fun j=>l j∨j∈ps.map (·.1)) b∧K b
 | [],l,a,_,_,hf,h=>⟨a,hf.congr (fun i=>by simp) (fun _ _=>rfl),h⟩
 |p::ps,l,a,hp,hG,hf,h=>by
  obtain⟨⟨o,ho⟩,hd⟩:=hp p (by simp)
  have hdo:p.2=o.dst:=by rw[hd];simp[fC,ho]
  have h1:=h (vals p.1) (hG p (by simp))
  rw[hdo]at h1
  have hf':=(hf.put hok hn ho (vals p.1) (fun _=>rfl)).congr (l':=fun j=>l j∨j=p.1) (vals':=vals) (fun _=>Iff.rfl) (fun i _=>by
   by_cases hi:i=p.1
   ·simp[hi]
   ·simp[hi])
  obtain⟨b,hb,hK⟩:=ForV.get hok hn ps _ _ (fun q hq=>hp q (by simp[hq])) (fun q hq=>hG q (by simp[hq])) hf' h1
  refine⟨b,hb.congr (fun i=> ?_) (fun _ _=>rfl),hK⟩
  simp only[List.map_cons,List.mem_cons]
  constructor
  ·rintro((h|h)|h)
   ·exact .inl h
   ·exact .inr (.inl h)
   ·exact .inr (.inr h)
  ·rintro(h|h|h)
   ·exact .inl (.inl h)
   ·exact .inl (.inr h)
   ·exact .inr h
theorem tW {i:Nat}{o:Oper}(ho:ops[i]? =some o) {p:Nat×Option Tmp} (h:p∈nA ops i):p.1<ops.size∧p.2=fC ops p.1∧ ∃d,fC ops p.1=some d∧d∈o.looksAt ops:=by
 unfold nA at h
 rw[ho]at h
 obtain⟨h1,h2⟩:=List.mem_filter.1 h
 obtain⟨k,hk,rfl⟩:=List.mem_map.1 h1
 refine⟨List.mem_range.1 hk,rfl,?_⟩
 dsimp only at h2⊢
 cases hd:fC ops k with
 |none=>rw[hd]at h2;simp at h2
 |some d=>rw[hd]at h2;exact⟨d,rfl,by simpa using h2⟩
theorem aG5 {i:Nat}{o:Oper}(ho:ops[i]? =some o) {j d:Nat} (hj:fC ops j=some d) (hd:d∈o.looksAt ops):j∈(nA ops i).map (·.1):=by
 unfold nA
 rw[ho]
 have hlt:j<ops.size:=by
  rcases Nat.lt_or_ge j ops.size with h'|h'
  ·exact h'
  ·simp[fC,Array.getElem?_eq_none h']at hj
 refine List.mem_map.2 ⟨(j,fC ops j),List.mem_filter.2 ⟨List.mem_map.2 ⟨j,List.mem_range.2 hlt,rfl⟩,?_⟩,rfl⟩
 dsimp only
 rw[hj]
 simpa using hd
theorem aHo {n:Nat}(hok:qE md ops n=true){a0:Act}(hn:a0.tmps.size=n){vals:Nat→Value}{w:World}{l:Nat→Prop}{a b:Act}{i:Nat}{o:Oper}(ho:ops[i]? =some o)
  (hpl: ∀e∈o.after,Region.binds md e=true→l e.on) (hni: ¬l i)
  (ha:FrI ops a0 vals l a) (hb:FrI ops a0 vals (fun j=>j∈(nA ops i).map (·.1)) b) (h:sS P ops G R i o w b) {K:Act→World→Prop}
  (hK: ∀v w'',G i v w''→R w w''→K (a.put o.dst v) w''):wpOp P ops Q i K a w:=by
 obtain⟨hsel,hs⟩:=nL hok
 obtain⟨h1,h2⟩:=hs i o ho
 have hsel': ∀cs x,o.op≠ .select cs x:=fun cs x=>Region.noSelect_spec hsel i o cs x ho
 have hlook: ∀t∈o.looksAt ops,a.tmps[t]? =b.tmps[t]? :=fun t ht=>by
  by_cases hd: ∃j,fC ops j=some t
  ·obtain⟨j,hj⟩:=hd
   obtain⟨e,he,hbi,rfl⟩:=h2 t ht j hj
   rw[ha.mem _ _ hj (hpl e he hbi),hb.mem _ _ hj (aG5 ho hj ht)]
  ·rw[ha.out t fun j _ hj=>hd ⟨j,hj⟩,hb.out t fun j _ hj=>hd ⟨j,hj⟩]
 have hev:execOp a.eval o=execOp b.eval o:=execOp_congr o hsel' fun x hx=>by
  cases x with
  |tmp t=>
   have:=hlook t (List.mem_append_left _ (List.mem_filterMap.2 ⟨.tmp t,by simpa using hx,rfl⟩))
   simp only[Act.eval,Array.getD_eq_getD_getElem?,this]
  |_=>rfl
 have hwa:Region.wanted o (yielded ops a.tmps)=Region.wanted o (yielded ops b.tmps):=by
  unfold Region.wanted
  cases hg:o.guard with
  |none=>rfl
  |some gw=>
   obtain⟨g,want⟩:=gw
   have:yielded ops a.tmps g=yielded ops b.tmps g:=by
    unfold yielded
    cases ht:(ops[g]?).bind (·.dst)with
    |none=>rfl
    |some t=>
     have:=hlook t (by simp[Oper.looksAt,hg,ht])
     simp[this]
   simp only[this]
 have hst:=h (fun a' w'=> ∃v,a'=b.put o.dst v∧G i v w'∧R w w') (fun a' w'' h=>h)
 have back: ∀u v:Value,b.put o.dst u=b.put o.dst v→a.put o.dst u=a.put o.dst v:=fun u v he=>by
  cases hd:o.dst with
  |none=>rfl
  |some d=>
   rw[hd]at he
   obtain⟨hlt,-⟩:=h1 d hd
   have e1:(b.tmps.setIfInBounds d u)[d]? =(b.tmps.setIfInBounds d v)[d]? :=by
    have:=congrArg Act.tmps he
    simp only[Act.put]at this
    rw[this]
   have hbs:d<b.tmps.size:=by rw[hb.size,hn];exact hlt
   simp[hbs]at e1
   rw[e1]
 refine wpOp_step ho fun K' hK'=> ?_
 rw[hwa]
 split
 ·rename_i hw
  rw[if_pos hw]at hst
  unfold Oper.wp at*
  rw[hev]
  generalize (execOp b.eval o).run P w=r at*
  cases r with
  |ok m w'=>
   cases m<;>simp only[Oper.upon]at hst⊢
   case value u=>
    obtain⟨v,he,hg,hr⟩:=hst
    rw[back _ _ he];exact hK' _ _ (hK v _ hg hr)
   case skip=>
    obtain⟨v,he,hg,hr⟩:=hst
    rw[back _ _ he];exact hK' _ _ (hK v _ hg hr)
   case defer d=>
    obtain⟨v,he,hg,hr⟩:=hst
    have:=congrArg Act.defers he
    cases hd:o.dst<;>simp[Act.put,hd]at this
   case enter f args=>
    refine Calls.mono hst fun e w'' he=> ?_
    cases e with
    |returned u=>
     obtain⟨v,he,hg,hr⟩:=he
     show K' _ _
     rw[back _ _ he];exact hK' _ _ (hK v _ hg hr)
    |panicked c=>exact he.elim
    |outgrown=>obtain⟨_,_,h⟩:=he;exact h.elim
   case row row args=>
    refine Rows.mono hst fun u w'' he=> ?_
    obtain⟨v,he,hg,hr⟩:=he
    rw[back _ _ he];exact hK' _ _ (hK v _ hg hr)
  |halt x w'=>
   cases x<;>simp only[Oper.upon]at hst
 ·rename_i hw
  rw[if_neg hw]at hst
  obtain⟨v,he,hg,hr⟩:=hst
  rw[back _ _ he];exact hK' _ _ (hK v _ hg hr)
def yM (md:Region.Mode)(ops:Array Oper):Bool:=(List.range ops.size).all fun i=>match ops[i]? with
 |none=>true
 |some o=>o.after.all fun e=> !Region.binds md e || decide (e.on<i)
theorem aDt (h:yM md ops=true)(listed:Array Bool)(hsz:listed.size=ops.size)(hr:Region.ready md ops listed= []): ∀i,i<ops.size→listed.getD i false=true:=by
 intro i
 induction i using Nat.strongRecOn with
 |_ i ih=>
  intro hi
  cases hl:listed.getD i false with
  |true=>rfl
  |false=>
   have ho:ops[i]? =some ops[i]:=Array.getElem?_eq_getElem hi
   have hi':i<listed.size:=by omega
   have hmem:i∈Region.ready md ops listed:=by
    rw[mem_ready]
    refine⟨by simp[hi']at hl⊢;exact hl,_,ho,fun e he hb=> ?_⟩
    have h1:=List.all_eq_true.1 h i (List.mem_range.2 hi)
    simp only[ho]at h1
    have h2:=Array.all_eq_true_iff_forall_mem.1 h1 e he
    simp[hb]at h2
    exact ih e.on h2 (by omega)
   rw[hr]at hmem;cases hmem
def uV (md:Region.Mode)(ops:Array Oper)(m:Nat):Bool:=(List.range ops.size).all fun i=>decide (i<m) || match ops[i]? with
 |none=>true
 |some o=>(o.after.any fun e=>Region.binds md e&&decide (m≤e.on)) || (List.range m).all fun j=>
   (o.after.any fun e=>Region.binds md e&&e.on==j) || (List.range m).any fun k=>match ops[k]? with
    |none=>false
    |some ok=>ok.after.any fun e=>Region.binds md e&&e.on==j
theorem aF1 {m:Nat}(hup:yM md ops=true)(ht:uV md ops m=true)(listed:Array Bool)(hm:m≤ops.size)
  (hcl: ∀i o,ops[i]? =some o→listed.getD i false=true→ ∀e∈o.after,Region.binds md e=true→listed.getD e.on false=true)
  (hnt: ∀i,m≤i→listed.getD i false=false) {i:Nat} (hi:i∈Region.ready md ops listed) (him:m≤i): ∀j,j<m→listed.getD j false=true:=by
 obtain⟨h0,o,ho,hpre⟩:=mem_ready.1 hi
 have hlt:i<ops.size:=(Array.getElem?_eq_some_iff.1 ho).1
 have h1:=List.all_eq_true.1 ht i (List.mem_range.2 hlt)
 have hnot: ¬i<m:=by omega
 simp only[ho,hnot,decide_false,Bool.false_or,Bool.or_eq_true]at h1
 rcases h1 with h1|h1
 ·obtain⟨e,he,h2⟩:=Array.any_eq_true'.1 h1
  rw[Bool.and_eq_true]at h2
  have h3:=hpre e he h2.1
  rw[hnt e.on (by simpa using h2.2)]at h3
  cases h3
 ·have key: ∀d j,m-j≤d→j<m→listed.getD j false=true:=by
   intro d
   induction d with
   |zero=>intro j h h';omega
   |succ d ih=>
    intro j hd hj
    have h2:=List.all_eq_true.1 h1 j (List.mem_range.2 hj)
    rw[Bool.or_eq_true]at h2
    rcases h2 with h2|h2
    ·obtain⟨e,he,h3⟩:=Array.any_eq_true'.1 h2
     rw[Bool.and_eq_true]at h3
     have h4:=hpre e he h3.1
     rwa[show e.on=j by simpa using h3.2]at h4
    ·obtain⟨k,hk,h3⟩:=List.any_eq_true.1 h2
     have hk':=List.mem_range.1 hk
     have hok:ops[k]? =some ops[k]:=Array.getElem?_eq_getElem (by omega)
     simp only[hok]at h3
     obtain⟨e,he,h4⟩:=Array.any_eq_true'.1 h3
     rw[Bool.and_eq_true]at h4
     have hej:e.on=j:=by simpa using h4.2
     have h5:=List.all_eq_true.1 hup k (List.mem_range.2 (by omega))
     simp only[hok]at h5
     have h6:=Array.all_eq_true_iff_forall_mem.1 h5 e he
     simp[h4.1]at h6
     have:=hcl k _ hok (ih k (by omega) hk') e he h4.1
     rwa[hej]at this
  exact fun j hj=>key m j (by omega) hj
def iI (m n:Nat):Array Bool:=(List.replicate m true++List.replicate n false).toArray
def jP (ops:Array Oper)(m:Nat):List (Nat×Option Tmp):=(List.range m).map (fun i=>(i,fC ops i))
theorem aI1 {n m:Nat}(hok:qE md ops n=true)(hup:yM md ops=true)(ht:uV md ops m=true)(hm:m≤ops.size){a0:Act}(hn:a0.tmps.size=n){W:World}(htr: ∀a b c,R a b→R b c→R a c)(hG: ∀i v w w',G i v w→R w w'→G i v w')
  (hs:StepsL P md ops G R a0 W (List.range m))(he: ∀w,R W w→ForV G w (jP ops m) a0 (fun a=>wpAny P md ops Q (ops.size-m) (iI m (ops.size-m)) a w)):
  ∀(fuel:Nat) (listed:Array Bool) (a:Act) (w:World) (vals:Nat→Value),listed.size=ops.size→(∀i o,ops[i]? =some o→listed.getD i false=true→ ∀e∈o.after,Region.binds md e=true→listed.getD e.on false=true)→
   (∀i,m≤i→listed.getD i false=false)→
   R W w→FrI ops a0 vals (fun j=>listed.getD j false=true) a→(∀i,listed.getD i false=true→G i (vals i) w)→
   List.count false listed.toList=fuel→wpAny P md ops Q fuel listed a w:=by
 intro fuel
 -- all of the head have come up
 have fin: ∀(fuel:Nat) (listed:Array Bool) (a:Act) (w:World) (vals:Nat→Value),listed.size=ops.size→(∀i,m≤i→listed.getD i false=false)→R W w→FrI ops a0 vals (fun j=>listed.getD j false=true) a→(∀i,listed.getD i false=true→G i (vals i) w)→
   List.count false listed.toList=fuel→(∀i,i<m→listed.getD i false=true)→wpAny P md ops Q fuel listed a w:=by
  intro fuel listed a w vals hsz hnt hR hF hGv hcnt hall
  have h:=he w hR
  obtain⟨b,hb,hq⟩:=ForV.get hok hn (G:=G) (vals:=vals) (jP ops m) (fun _=>False) a0 (fun p hp=>by
   unfold jP at hp
   obtain⟨i,hi,rfl⟩:=List.mem_map.1 hp
   have:=List.mem_range.1 hi
   exact⟨⟨ops[i]'(by omega),Array.getElem?_eq_getElem _⟩,rfl⟩) (fun p hp=>by
   unfold jP at hp
   obtain⟨i,hi,rfl⟩:=List.mem_map.1 hp
   exact hGv i (hall i (List.mem_range.1 hi))) FrI.nil h
  have e1:a=b:=hF.eq (hb.congr (fun i=>by
   simp only[false_or,jP,List.map_map,List.mem_map,List.mem_range]
   constructor
   ·rintro⟨j,hj,rfl⟩;exact hall j hj
   ·intro hl
    refine⟨i,?_,rfl⟩
    rcases Nat.lt_or_ge i m with h'|h'
    ·exact h'
    ·rw[hnt i h']at hl;cases hl) (fun _ _=>rfl))
  have e2l:listed.toList=List.replicate m true++List.replicate (ops.size-m) false:=by
   apply List.ext_getElem?
   intro i
   rw[Array.getElem?_toList]
   by_cases him:i<m
   ·have h1:=hall i him
    have h2:i<listed.size:=by omega
    simp[h2]at h1
    simp[h2,h1,List.getElem?_append,him]
   ·by_cases hio:i<listed.size
    ·have h1:=hnt i (by omega)
     simp[hio]at h1
     have h2:i-m<ops.size-m:=by omega
     rw[List.getElem?_append_right (by simp;omega)]
     simp[hio,h1,h2]
    ·rw[Array.getElem?_eq_none (by omega),List.getElem?_eq_none (by simp;omega)]
  have e2:listed=iI m (ops.size-m):=by
   unfold iI
   rw[←e2l]
  have e3:fuel=ops.size-m:=by
   rw[←hcnt,e2]
   simp[iI,List.count_append,List.count_replicate]
  rw[e1,e2,e3];exact hq
 induction fuel with
 |zero=>
  intro listed a w vals hsz hcl hnt hR hF hGv hcnt
  refine fin 0 listed a w vals hsz hnt hR hF hGv hcnt fun i hi=> ?_
  have hi':i<listed.size:=by omega
  cases hb:listed[i]with
  |true=>simp[hb,hi']
  |false=>
   have hmem:false∈listed.toList:=by
    rw[←hb];simp
   have:=List.count_pos_iff.2 hmem
   omega
 |succ fuel ih=>
  intro listed a w vals hsz hcl hnt hR hF hGv hcnt
  by_cases hall: ∀i,i<m→listed.getD i false=true
  ·exact fin _ listed a w vals hsz hnt hR hF hGv hcnt hall
  refine⟨fun h=> ?_,fun i hi=> ?_⟩
  ·exact absurd (fun i hi=>aDt hup listed hsz h i (by omega)) hall
  have him:i<m:=by
   rcases Nat.lt_or_ge i m with h|h
   ·exact h
   ·exact absurd (aF1 hup ht listed hm hcl hnt hi h) hall
  obtain⟨h0,o,ho,hpre⟩:=mem_ready.1 hi
  have hilt:i<ops.size:=(Array.getElem?_eq_some_iff.1 ho).1
  have hilt':i<listed.size:=by rw[hsz];exact hilt
  have hni: ¬listed.getD i false=true:=by
   intro h
   simp[hilt']at h h0
   rw[h0]at h;cases h
  have hstep:=hs i (List.mem_range.2 him) o ho w hR
  have hlk: ∀p∈nA ops i,listed.getD p.1 false=true:=fun p hp=>by
   obtain⟨_,_,d,hd,hl⟩:=tW ho hp
   obtain⟨e,he,hbd,hpe⟩:=((nL hok).2 i o ho).2 d hl p.1 hd
   have h3:=hpre e he hbd
   rwa[hpe]at h3
  obtain⟨b,hb,hst⟩:=ForV.get hok hn (G:=G) (vals:=vals) (nA ops i) (fun _=>False) a0 (fun p hp=>by
   obtain⟨h1,h2,_⟩:=tW ho hp
   exact⟨⟨ops[p.1]'h1,Array.getElem?_eq_getElem _⟩,h2⟩) (fun p hp=>hGv _ (hlk p hp)) FrI.nil hstep
  refine aHo (vals:=vals) hok hn ho (fun e he hbd=>hpre e he hbd) hni hF (hb.congr (fun j=>by simp) (fun _ _=>rfl)) hst fun v w'' hg hr=> ?_
  refine ih (listed.setIfInBounds i true) _ w'' (fun j=>if j=i then v else vals j) (by simpa using hsz) ?_ ?_ (htr _ _ _ hR hr) ?_ ?_ ?_
  ·intro j oj hoj hj e he hbd
   by_cases hji:j=i
   ·subst hji
    rw[ho]at hoj;cases hoj
    exact getD_set_true (hpre e he hbd)
   ·rw[getD_set_ne false (Ne.symm hji)]at hj
    exact getD_set_true (hcl j oj hoj hj e he hbd)
  ·intro j hj
   rw[getD_set_ne false (by omega)]
   exact hnt j hj
  ·refine(hF.put hok hn ho v (fun h=>absurd h hni)).congr (fun j=> ?_) (fun _ _=>rfl)
   by_cases hji:j=i
   ·subst hji;simp[hilt']
   ·rw[getD_set_ne false (Ne.symm hji)];simp[hji]
  ·intro j hj
   by_cases hji:j=i
   ·subst hji;simp only[if_true];exact hg
   ·rw[getD_set_ne false (Ne.symm hji)]at hj
    simp only[hji,if_false]
    exact hG _ _ _ _ (hGv j hj) hr
  ·have hli:listed[i]=false:=by
    cases hb':listed[i]with
    |false=>rfl
    |true=>exact absurd (by simp[hilt',hb']) hni
   have e1:(listed.setIfInBounds i true).toList=listed.toList.set i true:=by simp
   rw[e1]
   have hil:i<listed.toList.length:=by simpa using hilt'
   have hget:listed.toList[i]=false:=by simpa using hli
   rw[List.count_set hil]
   rw[hget]
   have e2:((false==false)=true):=rfl
   have e3: ¬((true==false)=true):=by decide
   rw[if_pos e2,if_neg e3]
   omega
theorem sU {id n:Nat}{a0:Act}{w W:World}(G:Nat→Value→World→Prop)(R:World→World→Prop)(m:Nat)(hm:P.follows .mixedOrders=true)(hn:a0.tmps.size=n)(hok:qE .any ops n=true)(hup:yM .any ops=true)(ht:uV .any ops m=true)
  (hrefl: ∀w,R w w)(htr: ∀a b c,R a b→R b c→R a c)(hG: ∀i v w w',G i v w→R w w'→G i v w')(hW:W=w.drew){k:Nat}(hsz:ops.size=k)(hmk:m≤k){ls:List (Nat×Option Tmp)}(hls:jP ops m=ls){ir:List Nat}(hir:List.range m=ir)
  (hs:StepsL P .any ops G R a0 W ir){tl:Array Bool}(htl:iI m (k-m)=tl)(he: ∀w,R W w→ForV G w ls a0 (fun a=>wpAny P .any ops Q (k-m) tl a w)):
  (Code.region id ops true).wp P Q a0 w:=by
 subst hsz hls hir htl
 refine wp_region_any hm ?_
 have hW':W={w with drawn:=w.drawn+1}:=hW
 rw[←hW']
 refine aI1 hok hup ht hmk hn htr hG hs he ops.size (Array.replicate ops.size false) a0 W (fun _=>undef) (by simp) ?_ ?_ (hrefl _) ?_ ?_ ?_
 ·intro i o ho hl
  have hi:=(Array.getElem?_eq_some_iff.1 ho).1
  simp[hi]at hl
 ·intro i _
  by_cases hi:i<ops.size<;>simp[hi]
 ·refine FrI.nil.congr (fun i=> ?_) (fun _ _=>rfl)
  constructor
  ·exact False.elim
  ·intro h
   by_cases hi:i<ops.size
   ·simp[hi]at h
   ·simp[hi]at h
 ·intro i h
  by_cases hi:i<ops.size
  ·simp[hi]at h
  ·simp[hi]at h
 ·simp
theorem cS {id n:Nat}{a0:Act}{w:World}(G:Nat→Value→World→Prop)(m:Nat)(hm:P.follows .mixedOrders=true)(hn:a0.tmps.size=n)(hok:qE .any ops n=true)(hup:yM .any ops=true)(ht:uV .any ops m=true)
  (hG: ∀i v w w',G i v w→Ext w w'→G i v w'){k:Nat}(hsz:ops.size=k)(hmk:m≤k){ls:List (Nat×Option Tmp)}(hls:jP ops m=ls){ir:List Nat}(hir:List.range m=ir)
  (hs:StepsL P .any ops G Ext a0 w.drew ir){tl:Array Bool}(htl:iI m (k-m)=tl)(he: ∀w',Ext w.drew w'→ForV G w' ls a0 (fun a=>wpAny P .any ops Q (k-m) tl a w')):
  (Code.region id ops true).wp P Q a0 w:=
 sU G Ext m hm hn hok hup ht Ext.refl (fun _ _ _=>Ext.trans) hG rfl hsz hmk hls hir hs htl he
end
def gl (l:List (Value→World→Prop))(i:Nat):Value→World→Prop:=l.getD i (fun _ _=>True)
def qM (g:Value→World→Prop):Prop:= ∀v w w',g v w→Ext w w'→g v w'
theorem eG {l:List (Value→World→Prop)}(h: ∀g∈l,qM g): ∀i v w w',gl l i v w→Ext w w'→gl l i v w':=by
 intro i v w w' hg hx
 unfold gl at*
 rw[List.getD_eq_getElem?_getD]at*
 cases hi:l[i]? with
 |none=>rw[hi]at hg;exact hg
 |some g=>
  rw[hi]at hg
  simp only[Option.getD_some]at*
  exact h g (List.mem_of_getElem? hi) _ _ _ hg hx
def gEq (u:Value):Value→World→Prop:=fun v _=>v=u
theorem aH (u:Value):qM (gEq u):=fun _ _ _ h _=>h
def aJi (lo:Nat)(t:TypeId)(cs:Array Value):Value→World→Prop:=fun v w=> ∃g,v= .pointer (some ⟨g,0,none⟩)∧lo≤g∧Blk w g t cs
theorem aEk (lo:Nat)(t:TypeId)(cs:Array Value):qM (aJi lo t cs):=fun _ _ _ ⟨g,h1,h2,h3⟩ hx=>⟨g,h1,h2,h3.ext hx⟩
def aJh (lo:Nat)(t:TypeId)(cs:Array Value)(n:Nat):Value→World→Prop:=fun v w=> ∃g,v= .slice (some ⟨g,0,none⟩) n n∧lo≤g∧Blk w g t cs
theorem aEj (lo:Nat)(t:TypeId)(cs:Array Value)(n:Nat):qM (aJh lo t cs n):=fun _ _ _ ⟨g,h1,h2,h3⟩ hx=>⟨g,h1,h2,h3.ext hx⟩
theorem fK: ∀g∈([]:List (Value→World→Prop)),qM g:=fun _ h=>by cases h
theorem aK {g:Value→World→Prop}{l:List (Value→World→Prop)}(h:qM g)(k: ∀g∈l,qM g): ∀g'∈g::l,qM g':=fun g' h'=>by
 rcases List.mem_cons.1 h' with rfl|h'
 ·exact h
 ·exact k g' h'
end Go.Proofs.YtgnkoffndhmhpaaGreatDoor
