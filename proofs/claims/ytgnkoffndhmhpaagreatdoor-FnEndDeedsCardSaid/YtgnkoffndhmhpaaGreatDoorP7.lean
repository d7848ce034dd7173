/-
  Texts of this proof, packed (@packed).
-/
import Derived.Deep.DeepCutAuto
import Derived.Deep.DeepFit
import Derived.Deep.RegionHeld3
import Derived.Handy
import Derived.KernelRfl
import Derived.Lib.CountLaws
import Derived.Lib.Hide
import Derived.Lib.ItoaLen
import Derived.Lib.ItoaMem
import Derived.Lib.SmallJoins
import Derived.Lib.SplitLaws
import Derived.RegionTactic
import Derived.Shelf.Strings.BuilderK
import Derived.Sort.OwnSortedInts
import Derived.Test.YtgnkoffndhmhpaaGreatDoorPS
import Derived.Test.YtgnkoffndhmhpaaGreatDoorRows
import Derived.Test.YtgnkoffndhmhpaaGreatDoorP1
import Derived.Test.YtgnkoffndhmhpaaGreatDoorP3
import Derived.Test.YtgnkoffndhmhpaaGreatDoorP5
import Derived.Test.YtgnkoffndhmhpaaGreatDoorP6
namespace Go.Proofs.YtgnkoffndhmhpaaGreatDoor
open Go.RowKit
set_option linter.unusedVariables false
set_option maxHeartbeats 8000000
set_option maxRecDepth 100000
abbrev TI:TypeId:=3
def cZ (aA aB:Int)(xs:List Int)(w:World)(e:Ending)(w':World):Prop:=
 ∃p cap,e= .returned (aH aA aB p xs.length cap)∧w'.ownsRow w.heap.size TI 1 (.slice p xs.length cap) xs.length (ivs xs)∧Ext w w'
def cH (aA aB:Int):Int×Int×List Int:=if 2≤aA∧aA≤4∧2≤aB∧aB≤3 then(aA,aB,List.replicate (aA*aB).toNat 0)else(0,0,[])
theorem aFz (n:Nat):(madeCells (Value.int .i64 0).cells (n*1)).toList=ivs (List.replicate n 0):=by
 apply List.ext_getElem<;>simp[madeCells,Value.cells,Nat.mod_one]
theorem aCj (aA aB:Int)(w:World)(h:aA<2∨2≤aA∧4<aA∨2≤aA∧aA≤4∧aB<2∨2≤aA∧aA≤4∧2≤aB∧3<aB):
  Calls Tryz.prog 144 #[aA,aB] w (cZ 0 0 [] w):=by
 rcases h with h|⟨h0,h⟩|⟨h0,h1,h⟩|⟨h0,h1,h2,h⟩
 all_goals
  (try (have a:decide (aB≤3)=false:=by simp;omega))
  (try (have a:decide (aA≤4)=false:=by simp;omega))
  go_enter Tryz.func144,Tryz.ntmps144
  go_wp2_with go_in
  exact bodyPost_ret (v:=aH 0 0 none 0 0) (by simp[results,Tryz.results144,go_sem]) rfl ⟨none,0,rfl,World.ownsRow_nil _ _ _ _,by exact .alloc (.refl _) _⟩
theorem Blk.three {w:World}{g:Nat}{t:TypeId}{a b c:Value}(h:Blk w g t #[a,b,c]):w.cell? ⟨g,0,none⟩=some a∧w.cell? ⟨g,1,none⟩=some b∧w.cell? ⟨g,2,none⟩=some c∧w.frozen? ⟨g,0,none⟩=false∧w.frozen? ⟨g,1,none⟩=false∧w.frozen? ⟨g,2,none⟩=false:=
 ⟨h.cell 0,h.cell 1,h.cell 2,h.frozen 0,h.frozen 1,h.frozen 2⟩
theorem pV {aA aB:Int}{p:OA}{n cap:Nat}{xs:List Int}{w w':World}(hn:xs.length=n)(ho:w'.ownsRow w.heap.size TI 1 (.slice p n cap) n (ivs xs))(hx:Ext w w'):cZ aA aB xs w (.returned (aH aA aB p n cap)) w':=by
 subst hn;exact⟨p,cap,rfl,ho,hx⟩
theorem aD3 {w:World}{B n:Nat}{xs:List Value}{c0 c1 c2:Value}(h:w.ownsRow B TI 1 (.slice (some ⟨B+1,0,none⟩) n n) n xs):
  (((w.setCell ⟨B,0,none⟩ c0).setCell ⟨B,1,none⟩ c1).setCell ⟨B,2,none⟩ c2).ownsRow B TI 1 (.slice (some ⟨B+1,0,none⟩) n n) n xs:=by
 have hx:ExtR B w (((w.setCell ⟨B,0,none⟩ c0).setCell ⟨B,1,none⟩ c1).setCell ⟨B,2,none⟩ c2):=(((ExtR.refl B w).setCell (p:=⟨B,0,none⟩) (.inl rfl) _).setCell (p:=⟨B,1,none⟩) (.inl rfl) _).setCell (p:=⟨B,2,none⟩) (.inl rfl) _
 exact h.kept hx (.inr (by simp[Value.ownBlock]))
theorem aFi (aA aB:Int)(n:Nat)(w:World)(h0:2≤aA)(h1:aA≤4)(h2:2≤aB)(h3:aB≤3)(h4:0≤aA*aB)(h5:aA*aB≤12)(h6:aA*aB=(n:Int))(h7:n≤12):
  Calls Tryz.prog 144 #[aA,aB] w (cZ aA aB (List.replicate n 0) w):=by
 obtain⟨i0,hi,g,e,f⟩:=info_parts (show(Tryz.prog.info? 3).map (fun i=>(i.zero,i.size,i.bytes))=some (some (.int .i64 0),1,8) by kernel_rfl)
 have q1:decide (aA≤4)=true:=by simp[h1]
 have q2:decide (aB≤3)=true:=by simp[h3]
 go_enter Tryz.func144,Tryz.ntmps144
 go_wp2_with (first|go_in|(at_make;refine wpList_make_full _ rfl _ _ 22 rfl w.heap.size 3 i0 (.int .i64 0) 1 Tryz.underlying22 hi g e .i64 .i64 _ _ n rfl rfl (by first|rfl|exact h6) (by first|rfl|exact h6) (by rw[f];omega) (by unfold maxLen;omega) (by simp) ?_;intro w0 a b;have c:Ext _ w0:=(Ext.refl _).grown b (fun q hq=>by cases hq);obtain⟨p0,p1,p2,p3,p4,p5⟩:=((Blk.new w 31 #[(),(),((),())]).ext c).three;have hz:w.heap.size<w0.heap.size:=Nat.lt_of_lt_of_le (by simp) c.sz;rw[aFz]at a;have HO:=xQ a;have d:Hid (Ext w w0):=((Ext.refl w).alloc _).trans c;clear a b c))
 have hx:Ext w _:=(((d.out.setCell (p:=⟨w.heap.size,0,none⟩) (Nat.le_refl _) (.int .i64 aA)).setCell (p:=⟨w.heap.size,1,none⟩) (Nat.le_refl _) (.int .i64 aB)).setCell (p:=⟨w.heap.size,2,none⟩) (Nat.le_refl _) (.slice (some ⟨w.heap.size+1,0,none⟩) n n))
 exact bodyPost_ret (v:=aH aA aB (some ⟨w.heap.size+1,0,none⟩) n n) (by simp[results,Tryz.results144,go_sem, *]) rfl (pV (by simp) (aD3 (by simpa using HO.out)) hx)
def aX (xs:List Int)(w:World)(e:Ending)(w':World):Prop:=
 ∃p cap,e= .returned (.slice p xs.length cap)∧w'.ownsRow w.heap.size TI 1 (.slice p xs.length cap) xs.length (ivs xs)∧Ext w w'
theorem dA {p:OA}{n cap:Nat}{xs:List Int}{w w':World}(hn:xs.length=n)(ho:w'.ownsRow w.heap.size TI 1 (.slice p n cap) n (ivs xs))(hx:Ext w w'):aX xs w (.returned (.slice p n cap)) w':=by
 subst hn;exact⟨p,cap,rfl,ho,hx⟩
theorem aEl: ∀(xs:List Int) (k:Nat) (x:Int),(∀y∈xs.take k,y<x)→(∀y,xs[k]? =some y→ ¬y<x)→kP x xs=xs.take k++x::xs.drop k:=by
 intro xs
 induction xs with
 |nil=>intro k x _ _;simp[kP]
 |cons y ys ih=>
  intro k x h1 h2
  cases k with
  |zero=>
   have:=h2 y rfl
   simp[kP,this]
  |succ k=>
   have h3:y<x:=h1 y (by simp)
   rw[kP,if_pos h3,ih k x (fun z hz=>h1 z (by simp[hz])) (fun z hz=>h2 z (by simpa using hz))]
   simp
theorem aIg (x:Int)(xs:List Int):(kP x xs).length=xs.length+1:=(mA x xs).length_eq
theorem aK5 {w:World}{b off n cap k:Nat}{xs:List Int}(h:Sl w (some ⟨b,off,none⟩) n cap 1 (ivs xs))(hk:k≤n):Sl w (some ⟨b,off+k,none⟩) (n-k) (cap-k) 1 (ivs (xs.drop k)):=by
 have hl:=h.ilen
 have d:=h.le
 have c:=h.mx
 refine⟨by simp;omega,by omega,by omega,fun h0=> ?_⟩
 obtain⟨b',a,e,hb,hc⟩:=h.rd (by omega)
 injection e with e;injection e with e1 e2
 subst e1 e2
 refine⟨_,_,rfl,hb,fun j hj=> ?_⟩
 rw[Nat.add_assoc,hc (k+j) (by omega)]
 simp
theorem aK4 (w:World)(p:OA){c:Nat}(hc:c≤maxLen):Sl w p 0 c 1 (ivs []):=⟨by simp,Nat.zero_le _,hc,fun h=>absurd h (by omega)⟩
theorem yJ (p:OA)(n cap:Nat)(xs:List Int)(x:Int)(w:World)(hn:n≤1000000)(hS:Sl w p n cap 1 (ivs xs)):
  Calls Tryz.prog 136 #[.slice p n cap,x] w (aX (kP x xs) w):=by
 have hl:=xQ hS.ilen
 have aa:=hS.le
 have ab:=hS.mx
 unfold maxLen at ab
 have HS:=xQ hS
 clear hS
 go_enter Tryz.func136,Tryz.ntmps136
 go_wp2
 go_loopw [5,6] (fun v i wr=> ∃(k:Nat) (q:OA) (c:Nat),k≤n∧i= .int .i64 k∧v= .slice q k c∧wr.ownsRow w.heap.size TI 1 (.slice q k c) k (ivs (xs.take k))∧(∀y∈xs.take k,y<x)∧Ext w wr) (fun _ i _=>n-(intOf i).toNat)
 case atStart=>exact⟨0,_,0,Nat.zero_le _,rfl,rfl,World.ownsRow_made _ #[] 0 (Nat.le_refl _) (by simp[maxLen]) rfl,by simp,by exact .alloc (.refl _) _⟩
 case round=>
  obtain⟨k,q,c,hk,rfl,rfl,o,m,hE⟩:=hrel
  have HO:=xQ o
  have HL:=xQ m
  have ah:=hE.sz
  clear o m
  by_cases hlt:k<n
  ·obtain⟨b,af,y,rfl,hx,hb,ae⟩:=(HS.out.ext hE).int_at hlt
   have HX:=xQ hx
   clear hx
   by_cases hy:y<x
   ·have d:Hid (∀z∈xs.take (k+1),z<x):=by
     show∀z∈xs.take (k+1),z<x
     rw[bD HX.out]
     intro z hz
     rcases List.mem_append.1 hz with h|h
     ·exact HL z h
     ·simp at h;omega
    go_wp2_with (at_builtin;refine cI eS rfl _ _ rfl w.heap.size _ _ _ rfl (HO.out.alloc _) _ _ y _ rfl (by simp) (by omega) (by simp;omega) ?_;intro p' u w1 a g;have j:=xQ a;have f:Ext w w1:=Ext.own (hE.alloc _) (HO.out.alloc _) g (Nat.le_refl _);clear a g)
    go_roundw
    case rel=>exact⟨k+1,p',u,by omega,by go_num,rfl,by rw[bD HX.out];exact j.out,d.out,f⟩
    case measure=>simp[intOf];omega
   ·have d:Hid (kP x xs=xs.take k++x::xs.drop k):=aEl xs k x HL (fun z hz=>by rw[HX.out]at hz;injection hz with hz;subst hz;exact hy)
    have i1:(0:Int)≤(k:Int):=by omega
    have i2:(k:Int)≤(n:Int):=by omega
    have ag: ¬cap=k:=by omega
    go_wp2
    go_region_law ((first
     |(refine iS _ eS (by rfl) _ _ (by rfl) w.heap.size _ k (ivs (xs.take k)) (by rfl) (by first|exact HO.out|exact HO.out.alloc _|exact(HO.out.alloc _).drew|exact HO.out.drew.alloc _|exact HO.out.drew) _ 1 1 [iv x] (by rfl) (by first|exact Sl.new wr #[iv x] _ 1 rfl (by decide)|exact(Sl.new wr #[iv x] _ 1 rfl (by decide)).ext (Ext.drew (Ext.refl _))|exact Sl.new wr.drew #[iv x] _ 1 rfl (by decide)) (oL [x]) (by omega) (by simp;omega) ?_
       intro p1 c1 w1 a g
       have f:Ext w w1:=Ext.own (by exact .drew (.alloc hE _)) (by first|exact HO.out|exact HO.out.alloc _|exact(HO.out.alloc _).drew|exact HO.out.drew.alloc _|exact HO.out.drew) g (Nat.le_refl _)
       have j:=xQ a
       have t:=xQ (HS.out.ext f)
       have ad:=f.sz
       clear a g)
     |(refine iS _ eS (by rfl) _ _ (by rfl) w.heap.size _ (k+1) (ivs (xs.take k)++ [iv x]) (by rfl) j _ (n-k) (cap-k) (ivs (xs.drop k)) (by rfl) (aK5 t (by omega)) (oL _) (by omega) (by omega) ?_
       intro p2 c2 w2 e l
       have r:Ext w w2:=Ext.own f j l (Nat.le_refl _)
       have s:=xQ e
       clear e l)))
    all_goals go_wp2
    all_goals go_ret
    all_goals exact dA (by rw[d.out];simp;rw[hl.out];omega) (by rw[d.out];simpa using s.out) r
  ·obtain rfl:k=n:=by omega
   have d:Hid (kP x xs=xs++ [x]):=by
    have:=aEl xs k x HL (fun z hz=>by rw[List.getElem?_eq_none (by rw[hl.out];exact Nat.le_refl _)]at hz;cases hz)
    show _=_
    rw[this,List.take_of_length_le (by rw[hl.out];exact Nat.le_refl _),List.drop_eq_nil_of_le (by rw[hl.out];exact Nat.le_refl _)]
   have i1:(0:Int)≤(k:Int):=by omega
   go_wp2
   go_region_law ((first
    |(refine iS _ eS (by rfl) _ _ (by rfl) w.heap.size _ k (ivs (xs.take k)) (by rfl) (by first|exact HO.out|exact HO.out.alloc _|exact(HO.out.alloc _).drew|exact HO.out.drew.alloc _|exact HO.out.drew) _ 1 1 [iv x] (by rfl) (by first|exact Sl.new wr #[iv x] _ 1 rfl (by decide)|exact(Sl.new wr #[iv x] _ 1 rfl (by decide)).ext (Ext.drew (Ext.refl _))|exact Sl.new wr.drew #[iv x] _ 1 rfl (by decide)) (oL [x]) (by omega) (by simp;omega) ?_
      intro p1 c1 w1 a g
      have f:Ext w w1:=Ext.own (by exact .drew (.alloc hE _)) (by first|exact HO.out|exact HO.out.alloc _|exact(HO.out.alloc _).drew|exact HO.out.drew.alloc _|exact HO.out.drew) g (Nat.le_refl _)
      have j:=xQ a
      have t:=xQ (HS.out.ext f)
      have ad:=f.sz
      clear a g)
    |(refine iS _ eS (by rfl) _ _ (by rfl) w.heap.size _ (k+1) (ivs (xs.take k)++ [iv x]) (by rfl) j _ 0 _ (ivs []) (by rfl) (aK4 _ _ (by unfold maxLen;omega)) (oL _) (by omega) (by omega) ?_
      intro p2 c2 w2 e l
      have r:Ext w w2:=Ext.own f j l (Nat.le_refl _)
      have s:=xQ e
      clear e l)))
   all_goals go_wp2
   all_goals go_ret
   all_goals exact dA (by rw[d.out];simp;rw[hl.out]) (by rw[d.out];have:=s.out;rw[List.take_of_length_le (by rw[hl.out];exact Nat.le_refl _)]at this;simpa using this) r
theorem aAp (xs:List Int):(xs.mergeSort fun x y=>decide (x≤y))=fA xs:=by
 refine mI (List.mergeSort_perm _ _) ?_
 have:=List.pairwise_mergeSort (le:=fun x y:Int=>decide (x≤y)) (fun a b c h1 h2=>by simp at*;omega) (fun a b=>by simp;omega) xs
 simpa using this
theorem aHs (B:Nat)(p:OA)(n cap:Nat)(xs:List Int)(w:World)(h:w.ownsRow B TI 1 (.slice p n cap) n (ivs xs))(hn:n≤1000000):
  Calls Tryz.prog 96 #[.slice p n cap] w fun e w'=>e= .returned (.tuple #[])∧w'.ownsRow B TI 1 (.slice p n cap) n (ivs (fA xs))∧w.grownBy w' (Value.slice p n cap).ownBlock:=by
 have hl:xs.length=n:=by have:=h.1;simpa using this
 subst hl
 by_cases h0:xs.length=0
 ·obtain rfl:xs= []:=List.eq_nil_of_length_eq_zero h0
  refine(Tryz.slices_Sort_int_none p cap w).mono ?_
  rintro e w' ⟨rfl,rfl⟩
  exact⟨rfl,h,World.grownBy.refl _ _⟩
 ·rcases h.2 with⟨h1,h2⟩|⟨g,cap',cur,h1,hb,hg,hnc,hm,hs,ht⟩
  ·exact absurd h2 h0
  ·injection h1 with e1 e2 e3
   subst e1 e3
   refine(Tryz.slices_Sort_int g 0 cap xs w (Go.holds_of_blockI hg (by simpa using ht)) (Array.getElem?_eq_some_iff.1 hg).1 (by omega)).mono ?_
   rintro e w' ⟨rfl,k,os,rfl⟩
   rw[aAp]
   exact⟨rfl,Go.ownsRow_sortedI (wD xs) hb hg hnc hm hs,Go.grownBy_sortedI _⟩
theorem bC {w w':World}{B n sz:Nat}{e:TypeId}{v:Value}{xs:List Value}(ho:w.ownsRow B e sz v n xs)(h:Ext w w'):w'.ownsRow B e sz v n xs:=
 ho.kept (row:=none) ⟨h.os,h.tape,h.output,h.size,fun k hk _=>h.block k hk⟩ (by cases v.ownBlock<;>simp)
theorem bH {w:World}{B B' n sz:Nat}{e:TypeId}{v:Value}{xs:List Value}(h:w.ownsRow B e sz v n xs)(hb:B'≤B):w.ownsRow B' e sz v n xs:=by
 refine⟨h.1,?_⟩
 rcases h.2 with h2|⟨g,a,c,e1,b,r⟩
 ·exact .inl h2
 ·exact .inr ⟨g,a,c,e1,Nat.le_trans hb b,r⟩
theorem aCl (aA aB:Int)(p:OA)(n cap:Nat)(w:World)(HV:xB 90 #[aH aA aB p n cap] w false):
  Calls Tryz.prog 89 #[aH aA aB p n cap] w (aX [] w):=by
 go_enter Tryz.func89,Tryz.ntmps89
 go_wp2_with fail
 refine(HV _ (by exact .alloc (.alloc (.refl _) _) _)).mono ?_
 rintro e w1 ⟨rfl,h1⟩
 go_wp2
 go_ret
 have ho:((w.alloc (.cells #[aA,aB,.slice p n cap] 31)).alloc (.cells #[] TI)).ownsRow w.heap.size TI 1 (.slice (some ⟨(w.alloc (.cells #[aA,aB,.slice p n cap] 31)).heap.size,0,none⟩) 0 0) 0 []:=World.ownsRow_made _ #[] 0 (by simp) (by simp[maxLen]) rfl
 exact dA rfl (by simpa using bC ho h1) (by exact .trans (.alloc (.alloc (.refl _) _) _) h1)
theorem aFk (aA aB:Int)(p:OA)(n cap:Nat)(xs:List Int)(w:World)(hn:n≤12)(HS:Hid (Sl w p n cap 1 (ivs xs)))(HV:xB 90 #[aH aA aB p n cap] w true):
  Calls Tryz.prog 89 #[aH aA aB p n cap] w (aX (cE xs) w):=by
 have hl:=xQ HS.out.ilen
 go_enter Tryz.func89,Tryz.ntmps89
 go_wp2_with fail
 refine(HV _ (by exact .alloc (.alloc (.refl _) _) _)).mono ?_
 rintro e w1 ⟨rfl,h1⟩
 have ho:((w.alloc (.cells #[aA,aB,.slice p n cap] 31)).alloc (.cells #[] TI)).ownsRow w.heap.size TI 1 (.slice (some ⟨(w.alloc (.cells #[aA,aB,.slice p n cap] 31)).heap.size,0,none⟩) 0 0) 0 []:=World.ownsRow_made _ #[] 0 (by simp) (by simp[maxLen]) rfl
 have j:=xQ (bC ho h1)
 have r:w.heap.size<w1.heap.size:=Nat.lt_of_lt_of_le (by first|(simp;omega)|simp) h1.sz
 have eb:w1.cell? ⟨w.heap.size,2,none⟩=some (.slice p n cap):=by rw[h1.cells.1 _ _ (by simp;omega)];simp
 have o:Ext w w1:=by exact .trans (.alloc (.alloc (.refl _) _) _) h1
 clear ho
 go_wp2
 go_loopw [3,4] (fun v i wr=> ∃(k:Nat) (q:OA) (m c:Nat),k≤n∧i= .int .i64 k∧v= .slice q m c∧m≤k∧wr.ownsRow w.heap.size TI 1 (.slice q m c) m (ivs (fA (dB (xs.take k))))∧Ext w1 wr) (fun _ i _=>n-(intOf i).toNat)
 case atStart=>exact⟨0,_,0,0,Nat.zero_le _,rfl,rfl,Nat.le_refl _,by simpa[dB,fA]using j.out,Ext.refl _⟩
 case round=>
  obtain⟨k,q,m,c,hk,rfl,rfl,t,g,hE⟩:=hrel
  have HO:=xQ g
  have h:=o.trans hE
  have y:=hE.sz
  have ec:wr.cell? ⟨w.heap.size,2,none⟩=some (.slice p n cap):=(hE.cells.1 _ _ r).trans eb
  clear g
  by_cases hlt:k<n
  ·obtain⟨b,u,x,rfl,hx,hb,s⟩:=(HS.out.ext h).int_at hlt
   have HX:=xQ hx
   clear hx
   by_cases hx0:0<x
   ·have a:Hid (fA (dB (xs.take (k+1)))=kP x (fA (dB (xs.take k)))):=by
     show _=_;rw[bD HX.out,kZ,if_pos hx0,tU]
    have HC:Hid (∀w',Ext wr w'→Calls Tryz.prog 136 #[.slice q m c,x] w' (aX (kP x (fA (dB (xs.take k)))) w')):=fun w' hx=>yJ q m c _ x w' (by omega) ((Sl.own HO.out).ext hx)
    have f:(kP x (fA (dB (xs.take k)))).length=m+1:=by rw[aIg];have:=HO.out.1;simp at this;omega
    have d:=xQ f
    clear f
    go_wp2_with fail
    refine(HC _ (by exact .refl _)).mono ?_
    rintro e w2 ⟨q2,c2,rfl,h2,h3⟩
    have l:Hid (w2.ownsRow w.heap.size TI 1 (.slice q2 (m+1) c2) (m+1) (ivs (fA (dB (xs.take (k+1)))))):=by
     rw[a.out,←d.out];exact bH h2 h.sz
    rw[d.out]
    clear h2
    go_wp2
    go_roundw
    case rel=>exact⟨k+1,q2,m+1,c2,by omega,by go_num,rfl,by omega,l.out,by exact .trans hE h3⟩
    case measure=>simp[intOf];omega
   ·have a:Hid (fA (dB (xs.take (k+1)))=fA (dB (xs.take k))):=by
     show _=_;rw[bD HX.out,kZ,if_neg hx0,List.append_nil]
    go_wp2
    go_roundw
    case rel=>exact⟨k+1,q,m,c,by omega,by go_num,rfl,by omega,by rw[a.out];exact HO.out,hE⟩
    case measure=>simp[intOf];omega
  ·have a:Hid (fA (dB (xs.take k))=cE xs):=by
    show _=_;rw[List.take_of_length_le (by rw[hl.out];omega)];rfl
   go_wp2
   go_ret
   exact dA (by rw[←a.out];have:=HO.out.1;simpa using this) (by rw[←a.out];exact HO.out) h
theorem aDq (aA aB:Int)(p:OA)(n cap:Nat)(w:World)(HV:xB 80 #[aH aA aB p n cap] w false):
  Calls Tryz.prog 47 #[aH aA aB p n cap] w (aX [] w):=by
 go_enter Tryz.func47,Tryz.ntmps47
 go_wp2_with fail
 refine(HV _ (by exact .alloc (.refl _) _)).mono ?_
 rintro e w1 ⟨rfl,h1⟩
 go_wp2
 go_ret
 exact dA rfl (World.ownsRow_nil _ _ _ _) (by exact .trans (.alloc (.refl _) _) h1)
theorem aGg (aA aB:Int)(p:OA)(n cap:Nat)(xs:List Int)(w:World)(hn:n≤12)(HS:Hid (Sl w p n cap 1 (ivs xs)))(HV:xB 80 #[aH aA aB p n cap] w true):
  Calls Tryz.prog 47 #[aH aA aB p n cap] w (aX (cE xs) w):=by
 have hl:=xQ HS.out.ilen
 go_enter Tryz.func47,Tryz.ntmps47
 go_wp2_with fail
 refine(HV _ (by exact .alloc (.refl _) _)).mono ?_
 rintro e w1 ⟨rfl,h1⟩
 have ad:w.heap.size<w1.heap.size:=Nat.lt_of_lt_of_le (by first|(simp;omega)|simp) h1.sz
 have eb:w1.cell? ⟨w.heap.size,2,none⟩=some (.slice p n cap):=by rw[h1.cells.1 _ _ (by simp)];simp
 have g:Ext w w1:=by exact .trans (.alloc (.refl _) _) h1
 go_wp2
 go_loopw [3,12] (fun v i wr=> ∃(k:Nat) (q:OA) (m c:Nat),k≤n∧i= .int .i64 k∧v= .slice q m c∧m≤k∧wr.ownsRow w1.heap.size TI 1 (.slice q m c) m (ivs (dB (xs.take k)))∧Ext w1 wr) (fun _ i _=>n-(intOf i).toNat)
 case atStart=>exact⟨0,none,0,0,Nat.zero_le _,rfl,rfl,Nat.le_refl _,World.ownsRow_nil _ _ _ _,Ext.refl _⟩
 case round=>
  obtain⟨k,q,m,c,hk,rfl,rfl,z,f,hE⟩:=hrel
  have HO:=xQ f
  have o:=g.trans hE
  have ab:=hE.sz
  have y:=g.sz
  clear f
  by_cases hlt:k<n
  ·obtain⟨b,aa,x,rfl,hx,hb,u⟩:=(HS.out.ext o).int_at hlt
   have HX:=xQ hx
   clear hx
   by_cases hx0:0<x
   ·have a:Hid (dB (xs.take (k+1))=dB (xs.take k)++ [x]):=by
     show _=_;rw[bD HX.out,kZ,if_pos hx0]
    go_wp2_with (at_builtin;refine cI eS rfl _ _ rfl w1.heap.size _ _ _ rfl (HO.out.alloc _) _ _ x _ rfl (by simp) (by omega) (by simp;omega) ?_;intro p' h w2 d l;have s:=xQ d;have r:Ext w1 w2:=Ext.own (hE.alloc _) (HO.out.alloc _) l (Nat.le_refl _);clear d l)
    go_roundw
    case rel=>exact⟨k+1,p',m+1,h,by omega,by go_num,rfl,by omega,by rw[a.out];exact s.out,r⟩
    case measure=>simp[intOf];omega
   ·have a:Hid (dB (xs.take (k+1))=dB (xs.take k)):=by
     show _=_;rw[bD HX.out,kZ,if_neg hx0,List.append_nil]
    go_wp2
    go_roundw
    case rel=>exact⟨k+1,q,m,c,by omega,by go_num,rfl,by omega,by rw[a.out];exact HO.out,hE⟩
    case measure=>simp[intOf];omega
  ·have a:Hid (fA (dB (xs.take k))=cE xs):=by
    show _=_;rw[List.take_of_length_le (by rw[hl.out];omega)];rfl
   go_wp2_with fail
   refine(aHs w1.heap.size q m c _ _ HO (by omega)).mono ?_
   rintro e w2 ⟨rfl,h2,h3⟩
   have t:Ext w w2:=o.own HO h3 (by omega)
   have j:=xQ h2
   clear h2 h3
   go_wp2
   go_ret
   exact dA (by rw[←a.out];have:=j.out.1;simpa using this) (by rw[←a.out];exact bH j g.sz) t
theorem aLh (aA aB:Int)(p:OA)(n cap:Nat)(xs:List Int)(w:World)(hS:Sl w p n cap 1 (ivs xs)):Calls Tryz.prog 89 #[aH aA aB p n cap] w (aX (if aN aA aB xs then cE xs else []) w):=by
 have hl:=hS.ilen
 cases h:aN aA aB xs with
 |true=>
  have h2:fP aA aB n=true:=by simp only[aN,Bool.and_eq_true]at h;rw[←hl];exact h.1
  rw[if_pos rfl]
  exact aFk aA aB p n cap xs w (bX h2).2.2.2.2.2.1 hS (fun w' hx=>by rw[←h];exact fX aA aB p n cap xs w' (hS.ext hx))
 |false=>
  rw[if_neg (by simp)]
  exact aCl aA aB p n cap w (fun w' hx=>by rw[←h];exact fX aA aB p n cap xs w' (hS.ext hx))
theorem aIs (aA aB:Int)(p:OA)(n cap:Nat)(xs:List Int)(w:World)(hS:Sl w p n cap 1 (ivs xs)):Calls Tryz.prog 47 #[aH aA aB p n cap] w (aX (if aN aA aB xs then cE xs else []) w):=by
 have hl:=hS.ilen
 cases h:aN aA aB xs with
 |true=>
  have h2:fP aA aB n=true:=by simp only[aN,Bool.and_eq_true]at h;rw[←hl];exact h.1
  rw[if_pos rfl]
  exact aGg aA aB p n cap xs w (bX h2).2.2.2.2.2.1 hS (fun w' hx=>by rw[←h];exact fI aA aB p n cap xs w' (hS.ext hx))
 |false=>
  rw[if_neg (by simp)]
  exact aDq aA aB p n cap w (fun w' hx=>by rw[←h];exact fI aA aB p n cap xs w' (hS.ext hx))
set_option linter.unusedSimpArgs false
def eT (f:Nat→Bool):Nat→List Int
 |0=> []
 |k+1=>eT f k++(if f k then [(k:Int)]else [])
theorem aAe (f:Nat→Bool)(k:Nat)(x:Int):x∈eT f k↔ ∃j:Nat,j<k∧f j=true∧x=(j:Int):=by
 induction k with
 |zero=>simp[eT]
 |succ k ih=>
  unfold eT
  rw[List.mem_append,ih]
  constructor
  ·rintro(⟨j,h1,h2,h3⟩|h)
   ·exact⟨j,by omega,h2,h3⟩
   ·by_cases hf:f k=true
    ·rw[if_pos hf]at h;simp at h;exact⟨k,by omega,hf,h⟩
    ·rw[if_neg hf]at h;simp at h
  ·rintro⟨j,h1,h2,h3⟩
   by_cases hj:j<k
   ·exact .inl ⟨j,hj,h2,h3⟩
   ·obtain rfl:j=k:=by omega
    right;rw[if_pos h2];simpa using h3
def cR (xs:List Int)(k:Nat):Bool:=xs[k]? ==some 0
def lE (xs:List Int):List Int:=eT (cR xs) xs.length
theorem rO (xs:List Int):lE xs= []↔(0:Int)∉xs:=by
 rw[List.eq_nil_iff_forall_not_mem]
 constructor
 ·intro h hm
  obtain⟨k,hk,e⟩:=List.getElem_of_mem hm
  exact h (k:Int) ((aAe _ _ _).2 ⟨k,hk,by simp[cR,hk,e],rfl⟩)
 ·intro h x hx
  obtain⟨j,h1,h2,h3⟩:=(aAe _ _ _).1 hx
  simp[cR,h1]at h2
  exact h (by rw[←h2];exact List.getElem_mem h1)
theorem pY {wr w2:World}{B o n:Nat}{v u:Value}{xs:List Value}{ob:Obj}(ho:wr.ownsRow (B+1) TI 1 v n xs)(hg:(wr.alloc ob).grownBy w2 v.ownBlock)(hb:B<wr.heap.size)(hc:wr.cell? ⟨B,o,none⟩=some u):w2.cell? ⟨B,o,none⟩=some u:=by
 rw[World.cell?_of_block (w:=wr.alloc ob) (hg.block B (by simp;omega) (fun e=>by have:=ho.lt B e.symm;omega))]
 rw[((Ext.refl wr).alloc ob).cells.1 B o hb];exact hc
theorem aCh (aA aB:Int)(p:OA)(n cap:Nat)(w:World)(HV:xB 90 #[aH aA aB p n cap] w false):
  Calls Tryz.prog 134 #[aH aA aB p n cap] w (aX [] w):=by
 go_enter Tryz.func134,Tryz.ntmps134
 go_wp2_with fail
 refine(HV _ (by exact .alloc (.alloc (.refl _) _) _)).mono ?_
 rintro e w1 ⟨rfl,h1⟩
 have ho:((w.alloc (.cells #[aA,aB,.slice p n cap] 31)).alloc (.cells #[] TI)).ownsRow (w.heap.size+1) TI 1 (.slice (some ⟨(w.alloc (.cells #[aA,aB,.slice p n cap] 31)).heap.size,0,none⟩) 0 0) 0 []:=World.ownsRow_made _ #[] 0 (by simp) (by simp[maxLen]) rfl
 have a:=xQ (bC ho h1)
 clear ho
 go_wp2
 go_ret
 exact dA (xs:= []) rfl (by simpa using bH a (Nat.le_succ _)) (by exact .trans (.alloc (.alloc (.refl _) _) _) h1)
theorem aFh (aA aB:Int)(p:OA)(n cap:Nat)(xs:List Int)(w:World)(hn:n≤12)(HS:Hid (Sl w p n cap 1 (ivs xs)))(HV:xB 90 #[aH aA aB p n cap] w true):
  Calls Tryz.prog 134 #[aH aA aB p n cap] w (aX (lE xs) w):=by
 have hl:=xQ HS.out.ilen
 go_enter Tryz.func134,Tryz.ntmps134
 go_wp2_with fail
 refine(HV _ (by exact .alloc (.alloc (.refl _) _) _)).mono ?_
 rintro e w1 ⟨rfl,h1⟩
 have ho:((w.alloc (.cells #[aA,aB,.slice p n cap] 31)).alloc (.cells #[] TI)).ownsRow (w.heap.size+1) TI 1 (.slice (some ⟨(w.alloc (.cells #[aA,aB,.slice p n cap] 31)).heap.size,0,none⟩) 0 0) 0 []:=World.ownsRow_made _ #[] 0 (by simp) (by simp[maxLen]) rfl
 have s:=xQ (bC ho h1)
 clear ho
 have z:w.heap.size<w1.heap.size:=Nat.lt_of_lt_of_le (by first|(simp;omega)|simp) h1.sz
 have eb:w1.cell? ⟨w.heap.size,2,none⟩=some (.slice p n cap):=by rw[h1.cells.1 _ _ (by first|(simp;done)|(simp;omega))];simp
 have u:Ext w w1:=by exact .trans (.alloc (.alloc (.refl _) _) _) h1
 go_wp2
 go_loopw [3,4] (fun v i wr=> ∃(k:Nat) (q:OA) (m c:Nat),k≤n∧i= .int .i64 k∧v= .slice q m c∧m≤k∧wr.ownsRow (w.heap.size+1) TI 1 (.slice q m c) m (ivs (eT (cR xs) k))∧Ext w wr∧wr.cell? ⟨w.heap.size,2,none⟩=some (.slice p n cap)∧w.heap.size<wr.heap.size) (fun _ i _=>n-(intOf i).toNat)
 case atStart=>exact⟨0,_,0,0,Nat.zero_le _,rfl,rfl,Nat.le_refl _,by simpa[eT]using s.out,u,eb,z⟩
 case round=>
  obtain⟨k,q,m,c,hk,rfl,rfl,ab,h,g,ec,j⟩:=hrel
  have HO:=xQ h
  clear h
  by_cases hlt:k<n
  ·obtain⟨b,ad,x,rfl,hx,hb,aa⟩:=(HS.out.ext g).int_at hlt
   have HX:=xQ hx
   clear hx
   by_cases hx0:x=0
   ·have t0:(x==0)=true:=by simp[hx0]
    have a:Hid (eT (cR xs) (k+1)=eT (cR xs) k++ [(k:Int)]):=by
     show _=_;rw[eT,if_pos (by unfold cR;rw[HX.out,hx0];rfl)]
    clear hx0
    go_wp2_with (at_builtin;refine cI eS rfl _ _ rfl (w.heap.size+1) _ _ _ rfl (HO.out.alloc _) _ _ (k:Int) _ rfl (by simp) (by omega) (by simp;omega) ?_;intro p' o w2 d f;have t:=xQ d;have r:Ext w w2:=Ext.own (g.alloc _) (HO.out.alloc _) f (by omega);have y:=pY HO f j ec;have l:w.heap.size<w2.heap.size:=Nat.lt_of_lt_of_le j (by have:=f.size;simp at this;omega);clear d f)
    go_roundw
    case rel=>exact⟨k+1,p',m+1,o,by omega,by go_num,rfl,by omega,by rw[a.out];exact t.out,r,y,l⟩
    case measure=>simp[intOf];omega
   ·have t0:(x==0)=false:=by simp[hx0]
    have a:Hid (eT (cR xs) (k+1)=eT (cR xs) k):=by
     show _=_;rw[eT,if_neg (by unfold cR;rw[HX.out];simp[hx0]),List.append_nil]
    clear hx0
    go_wp2
    go_roundw
    case rel=>exact⟨k+1,q,m,c,by omega,by go_num,rfl,by omega,by rw[a.out];exact HO.out,g,ec,j⟩
    case measure=>simp[intOf];omega
  ·have a:Hid (eT (cR xs) k=lE xs):=by
    show _=_;unfold lE;rw[hl.out,show k=n by omega]
   go_wp2
   go_ret
   exact dA (by rw[←a.out];have:=HO.out.1;simpa using this) (by rw[←a.out];exact bH HO (Nat.le_succ _)) g
theorem aCi (aA aB:Int)(p:OA)(n cap:Nat)(xs:List Int)(w:World)(hS:Sl w p n cap 1 (ivs xs)):Calls Tryz.prog 134 #[aH aA aB p n cap] w (aX (if aN aA aB xs then lE xs else []) w):=by
 have hl:=hS.ilen
 cases h:aN aA aB xs with
 |true=>
  have hb:n≤12:=by unfold aN at h;rw[Bool.and_eq_true]at h;have:=bX h.1;omega
  simpa using aFh aA aB p n cap xs w hb hS (fun w' hx=>by have:=fX aA aB p n cap xs w' (hS.ext hx);rwa[h]at this)
 |false=>simpa using aCh aA aB p n cap w (fun w' hx=>by have:=fX aA aB p n cap xs w' (hS.ext hx);rwa[h]at this)
set_option maxRecDepth 100000 in set_option maxHeartbeats 1000000 in
theorem aDo (aA aB:Int)(p:OA)(n cap:Nat)(w:World)(HV:xB 80 #[aH aA aB p n cap] w false):
  Calls Tryz.prog 174 #[aH aA aB p n cap] w (aX [] w):=by
 go_enter Tryz.func174,Tryz.ntmps174
 go_wp2_with fail
 refine(HV _ (by exact .alloc (.refl _) _)).mono ?_
 rintro e w1 ⟨rfl,h1⟩
 go_wp2
 go_ret
 exact dA (xs:= []) rfl (World.ownsRow_nil _ _ _ _) (by exact .trans (.alloc (.refl _) _) h1)
set_option maxRecDepth 100000 in set_option maxHeartbeats 1000000 in
theorem aGe (aA aB:Int)(p:OA)(n cap:Nat)(xs:List Int)(w:World)(hn:n≤12)(HS:Hid (Sl w p n cap 1 (ivs xs)))(HV:xB 80 #[aH aA aB p n cap] w true):
  Calls Tryz.prog 174 #[aH aA aB p n cap] w (aX (lE xs) w):=by
 have hl:=xQ HS.out.ilen
 go_enter Tryz.func174,Tryz.ntmps174
 go_wp2_with fail
 refine(HV _ (by exact .alloc (.refl _) _)).mono ?_
 rintro e w1 ⟨rfl,h1⟩
 have y:w.heap.size<w1.heap.size:=Nat.lt_of_lt_of_le (by first|(simp;omega)|simp) h1.sz
 have eb:w1.cell? ⟨w.heap.size,2,none⟩=some (.slice p n cap):=by rw[h1.cells.1 _ _ (by first|(simp;done)|(simp;omega))];simp
 have t:Ext w w1:=by exact .trans (.alloc (.refl _) _) h1
 go_wp2
 go_loopw [3,12] (fun v i wr=> ∃(k:Nat) (q:OA) (m c:Nat),k≤n∧i= .int .i64 k∧v= .slice q m c∧m≤k∧wr.ownsRow (w.heap.size+1) TI 1 (.slice q m c) m (ivs (eT (cR xs) k))∧Ext w wr∧wr.cell? ⟨w.heap.size,2,none⟩=some (.slice p n cap)∧w.heap.size<wr.heap.size) (fun _ i _=>n-(intOf i).toNat)
 case atStart=>exact⟨0,_,0,0,Nat.zero_le _,rfl,rfl,Nat.le_refl _,World.ownsRow_nil _ _ _ _,t,eb,y⟩
 case round=>
  obtain⟨k,q,m,c,hk,rfl,rfl,aa,h,g,ec,j⟩:=hrel
  have HO:=xQ h
  clear h
  by_cases hlt:k<n
  ·obtain⟨b,ab,x,rfl,hx,hb,z⟩:=(HS.out.ext g).int_at hlt
   have HX:=xQ hx
   clear hx
   by_cases hx0:x=0
   ·have t0:(x==0)=true:=by simp[hx0]
    have a:Hid (eT (cR xs) (k+1)=eT (cR xs) k++ [(k:Int)]):=by
     show _=_;rw[eT,if_pos (by unfold cR;rw[HX.out,hx0];rfl)]
    clear hx0
    go_wp2_with (at_builtin;refine cI eS rfl _ _ rfl (w.heap.size+1) _ _ _ rfl (HO.out.alloc _) _ _ (k:Int) _ rfl (by simp) (by omega) (by simp;omega) ?_;intro p' o w2 d f;have s:=xQ d;have r:Ext w w2:=Ext.own (g.alloc _) (HO.out.alloc _) f (by omega);have u:=pY HO f j ec;have l:w.heap.size<w2.heap.size:=Nat.lt_of_lt_of_le j (by have:=f.size;simp at this;omega);clear d f)
    go_roundw
    case rel=>exact⟨k+1,p',m+1,o,by omega,by go_num,rfl,by omega,by rw[a.out];exact s.out,r,u,l⟩
    case measure=>simp[intOf];omega
   ·have t0:(x==0)=false:=by simp[hx0]
    have a:Hid (eT (cR xs) (k+1)=eT (cR xs) k):=by
     show _=_;rw[eT,if_neg (by unfold cR;rw[HX.out];simp[hx0]),List.append_nil]
    clear hx0
    go_wp2
    go_roundw
    case rel=>exact⟨k+1,q,m,c,by omega,by go_num,rfl,by omega,by rw[a.out];exact HO.out,g,ec,j⟩
    case measure=>simp[intOf];omega
  ·have a:Hid (eT (cR xs) k=lE xs):=by
    show _=_;unfold lE;rw[hl.out,show k=n by omega]
   go_wp2
   go_ret
   exact dA (by rw[←a.out];have:=HO.out.1;simpa using this) (by rw[←a.out];exact bH HO (Nat.le_succ _)) g
theorem aLt (aA aB:Int)(p:OA)(n cap:Nat)(xs:List Int)(w:World)(hS:Sl w p n cap 1 (ivs xs)):Calls Tryz.prog 174 #[aH aA aB p n cap] w (aX (if aN aA aB xs then lE xs else []) w):=by
 have hl:=hS.ilen
 cases h:aN aA aB xs with
 |true=>
  have hb:n≤12:=by unfold aN at h;rw[Bool.and_eq_true]at h;have:=bX h.1;omega
  simpa using aGe aA aB p n cap xs w hb hS (fun w' hx=>by have:=fI aA aB p n cap xs w' (hS.ext hx);rwa[h]at this)
 |false=>simpa using aDo aA aB p n cap w (fun w' hx=>by have:=fI aA aB p n cap xs w' (hS.ext hx);rwa[h]at this)
end Go.Proofs.YtgnkoffndhmhpaaGreatDoor
namespace Go.Proofs.YtgnkoffndhmhpaaGreatDoor
open Go.RowKit
set_option linter.unusedVariables false
def aLc:Go.Shelf.Ren:=⟨fun|240=>160|276=>185|n=>n,fun|0=>0|3=>3|4=>4|5=>5|9=>9|20=>20|37=>53|70=>146|72=>148|75=>150|80=>155|164=>191|n=>n,fun|n=>n⟩
def sL:Go.Shelf.Ren:=⟨fun|166=>130|240=>160|276=>185|n=>n,fun|0=>0|3=>3|4=>4|5=>5|9=>9|20=>20|37=>53|70=>146|72=>148|75=>150|80=>155|164=>191|n=>n,fun|n=>n⟩
theorem aKo:Go.Proofs.Lays.n166 Tryz.prog sL:={
 mixed:=by kernel_rfl,
 f166:=Tryz.func130.trans (congrArg some (by kernel_rfl)),
 f240:=Tryz.func160.trans (congrArg some (by kernel_rfl)),
 f276:=Tryz.func185.trans (congrArg some (by kernel_rfl)),
 t0:=Tryz.underlying0,
 a0:=Tryz.isAgg0,
 z0:=Tryz.sizeOf0,
 v0:=Tryz.zeroValue0,
 t3:=Tryz.underlying3,
 a3:=Tryz.isAgg3,
 z3:=Tryz.sizeOf3,
 v3:=Tryz.zeroValue3,
 t4:=Tryz.underlying4,
 a4:=Tryz.isAgg4,
 z4:=Tryz.sizeOf4,
 v4:=Tryz.zeroValue4,
 t9:=Tryz.underlying9,
 a9:=Tryz.isAgg9,
 z9:=Tryz.sizeOf9,
 v9:=Tryz.zeroValue9,
 t20:=Tryz.underlying20,
 a20:=Tryz.isAgg20,
 z20:=Tryz.sizeOf20,
 v20:=Tryz.zeroValue20,
 t37:=Tryz.underlying53,
 a37:=Tryz.isAgg53,
 z37:=Tryz.sizeOf53,
 v37:=Tryz.zeroValue53,
 t70:=Tryz.underlying146,
 a70:=Tryz.isAgg146,
 z70:=Tryz.sizeOf146,
 v70:=Tryz.zeroValue146,
 t72:=Tryz.underlying148,
 a72:=Tryz.isAgg148,
 z72:=Tryz.sizeOf148,
 v72:=Tryz.zeroValue148,
 t75:=Tryz.underlying150,
 a75:=Tryz.isAgg150,
 z75:=Tryz.sizeOf150,
 v75:=Tryz.zeroValue150,
 t164:=Tryz.underlying191,
 a164:=Tryz.isAgg191,
 z164:=Tryz.sizeOf191,
 v164:=Tryz.zeroValue191}
theorem aJg:Go.Proofs.Builder.Extra Tryz.prog sL:={
 sizeBuilder:=by kernel_rfl
 liesBuilder:=by kernel_rfl
 t5:=Tryz.underlying5
 a5:=Tryz.isAgg5
 z5:=Tryz.sizeOf5
 v5:=Tryz.zeroValue5
 infoByte:=by kernel_rfl
 cellsByte:=by kernel_rfl
 sizeByte:=by kernel_rfl
 neB5:=by decide}
def sK:Go.Shelf.Ren:=⟨fun|167=>129|240=>160|276=>185|n=>n,fun|0=>0|3=>3|4=>4|5=>5|9=>9|20=>20|37=>53|70=>146|72=>148|75=>150|80=>155|164=>191|n=>n,fun|n=>n⟩
theorem aKn:Go.Proofs.Lays.n167 Tryz.prog sK:={
 mixed:=by kernel_rfl,
 f167:=Tryz.func129.trans (congrArg some (by kernel_rfl)),
 f240:=Tryz.func160.trans (congrArg some (by kernel_rfl)),
 f276:=Tryz.func185.trans (congrArg some (by kernel_rfl)),
 t0:=Tryz.underlying0,
 a0:=Tryz.isAgg0,
 z0:=Tryz.sizeOf0,
 v0:=Tryz.zeroValue0,
 t4:=Tryz.underlying4,
 a4:=Tryz.isAgg4,
 z4:=Tryz.sizeOf4,
 v4:=Tryz.zeroValue4,
 t5:=Tryz.underlying5,
 a5:=Tryz.isAgg5,
 z5:=Tryz.sizeOf5,
 v5:=Tryz.zeroValue5,
 t9:=Tryz.underlying9,
 a9:=Tryz.isAgg9,
 z9:=Tryz.sizeOf9,
 v9:=Tryz.zeroValue9,
 t20:=Tryz.underlying20,
 a20:=Tryz.isAgg20,
 z20:=Tryz.sizeOf20,
 v20:=Tryz.zeroValue20,
 t37:=Tryz.underlying53,
 a37:=Tryz.isAgg53,
 z37:=Tryz.sizeOf53,
 v37:=Tryz.zeroValue53,
 t70:=Tryz.underlying146,
 a70:=Tryz.isAgg146,
 z70:=Tryz.sizeOf146,
 v70:=Tryz.zeroValue146,
 t72:=Tryz.underlying148,
 a72:=Tryz.isAgg148,
 z72:=Tryz.sizeOf148,
 v72:=Tryz.zeroValue148,
 t75:=Tryz.underlying150,
 a75:=Tryz.isAgg150,
 z75:=Tryz.sizeOf150,
 v75:=Tryz.zeroValue150,
 t164:=Tryz.underlying191,
 a164:=Tryz.isAgg191,
 z164:=Tryz.sizeOf191,
 v164:=Tryz.zeroValue191}
theorem aJf:Go.Proofs.Builder.Extra Tryz.prog sK:={
 sizeBuilder:=by kernel_rfl
 liesBuilder:=by kernel_rfl
 t5:=Tryz.underlying5
 a5:=Tryz.isAgg5
 z5:=Tryz.sizeOf5
 v5:=Tryz.zeroValue5
 infoByte:=by kernel_rfl
 cellsByte:=by kernel_rfl
 sizeByte:=by kernel_rfl
 neB5:=by decide}
theorem lP (B b:Nat)(bs:List Value)(s:ByteArray)(w:World)(h:Lib.IsBuilderF 148 5 B b bs w)(hl:bs.length+s.size≤140737488355328)(hB:B≤w.heap.size):
  Calls Tryz.prog 130 #[.pointer (some ⟨b,0,none⟩),.string s] w fun e w'=>e= .returned (.tuple #[.int .i64 s.size,.nilIface])∧Lib.BuilderAtF 148 5 B b (.pointer (some ⟨b,0,none⟩)) (bs++Lib.strCells s) w'∧Below B w w'∧Lib.OthersKept 5 (some b) w w':=
 Any.Builder_WriteString_k aKo aJg B b bs s w h hl hB
theorem jW (B b:Nat)(bs:List Value)(c:Int)(w:World)(h:Lib.IsBuilderF 148 5 B b bs w)(hl:bs.length+1≤140737488355328)(hB:B≤w.heap.size):
  Calls Tryz.prog 129 #[.pointer (some ⟨b,0,none⟩),.int .u8 c] w fun e w'=>e= .returned .nilIface∧Lib.BuilderAtF 148 5 B b (.pointer (some ⟨b,0,none⟩)) (bs++ [.int .u8 c]) w'∧Below B w w'∧Lib.OthersKept 5 (some b) w w':=
 Any.Builder_WriteByte_k aKn aJf B b bs c w h hl hB
theorem aKu:Tryz.prog.globalNamed "internal/strconv.uint64pow10" =some 0:=by kernel_rfl
structure Env (w:World):Prop where
 tab:Lib.TabIs Tryz.prog w "internal/strconv.uint64pow10" .u64 Lib.pow10Tab
theorem Env.ext {w w':World}(h:Env w)(hb:Ext w w'):Env w' where
 tab:=Joins.var_stays aKu h.tab hb (Nat.le_refl _)
theorem Env.start {w:World}(ht:Lib.TabIs Tryz.prog w "internal/strconv.uint64pow10" .u64 Lib.pow10Tab)(hS:w.ShapedOpen Tryz.prog):Env w where
 tab:=ht
abbrev str (l:List UInt8):Value:= .string ⟨l.toArray⟩
theorem aAs (n:Nat):Lib.itoa (n:Int)=Lib.decDigits n:=by
 unfold Lib.itoa;rw[if_neg (by omega)];simp
theorem aJh (w:World)(os:Array Obj):Ext w (Sort.grow w os):=
 ⟨rfl,rfl,rfl,by simp,fun k hk=>by simp only[Sort.grow];rw[Array.getElem?_append_left hk]⟩
theorem aId (n:Nat)(w:World)(hn:n≤9223372036854775807)(hE:Env w):
  Calls Tryz.prog 131 #[n] w fun e w'=>e= .returned (str (Lib.decDigits n))∧Ext w w':=by
 refine(Tryz.strconv_Itoa (n:Int) (by omega) (by omega) w hE.tab).mono ?_
 rintro e w' ⟨rfl,k,os,rfl⟩
 exact⟨by rw[aAs],(Ext.drewN (Ext.refl w) k).trans (aJh _ _)⟩
theorem aIe (n:Int)(w:World)(h0:0≤n)(hn:n≤9223372036854775807)(hE:Env w):
  Calls Tryz.prog 131 #[n] w fun e w'=>e= .returned (str (Lib.decDigits n.toNat))∧Ext w w':=by
 obtain⟨m,rfl⟩:=Int.eq_ofNat_of_zero_le h0
 exact aId m w (by omega) hE
theorem zF (n:Nat)(h:n<10):Lib.decDigits n= [UInt8.ofNat (48+n)]:=by rw[Lib.decDigits];simp[h]
theorem jL (n:Nat)(h:n≤9223372036854775807):(Lib.decDigits n).length≤21:=by
 rw[←aAs];exact Lib.itoa_length_le _ (by omega) (by omega)
abbrev jC (k a b:Int):Value:= .agg #[k,a,b]
abbrev aF7:=Int×Int×Int
/-! ### slices of structs -/
theorem Rd.at {α:Type}{f:α→List Value}{w:World}{b off n cap sz:Nat}{xs:List α}(hf: ∀a,(f a).length=sz)(h:Rd w (.slice (some ⟨b,off,none⟩) n cap) n sz (xs.flatMap f)){k:Nat}{a:α}(hk:xs[k]? =some a) (hn:xs.length=n) (j:Nat) (hj:j<sz):
  w.cell? ⟨b,off+k*sz+j,none⟩=(f a)[j]? :=by
 rcases h.2 with⟨h1,_⟩|⟨b',off',cap',h1,_,_,_,h2⟩
 ·simp at h1
 ·simp only[Value.slice.injEq,Option.some.injEq,Addr.mk.injEq,and_true,true_and]at h1
  obtain⟨⟨rfl,rfl⟩,rfl⟩:=h1
  have c:k<n:=by rw[←hn];exact(List.getElem?_eq_some_iff.1 hk).1
  have d:k*sz+j<n*sz:=by
   have:(k+1)*sz≤n*sz:=Nat.mul_le_mul_right sz c
   rw[Nat.succ_mul]at this;omega
  rw[Nat.add_assoc,h2 _ d,dZ f sz hf xs k a hk j hj]
def mC (d:aF7):List Value:= [.int .i64 d.1,.int .i64 d.2.1,.int .i64 d.2.2]
abbrev RdDeeds (w:World)(v:Value)(ds:List aF7):Prop:=Rd w v ds.length 3 (ds.flatMap mC)
theorem RdDeeds.at {w:World}{b off n cap:Nat}{ds:List aF7}(h:Rd w (.slice (some ⟨b,off,none⟩) n cap) n 3 (ds.flatMap mC))(hn:ds.length=n){k:Nat}{d:aF7}(hk:ds[k]? =some d):
  w.cell? ⟨b,off+k*3,none⟩=some (.int .i64 d.1)∧w.cell? ⟨b,off+k*3+1,none⟩=some (.int .i64 d.2.1)∧w.cell? ⟨b,off+k*3+2,none⟩=some (.int .i64 d.2.2):=
 ⟨h.at (f:=mC) (fun _=>rfl) hk hn 0 (by omega),h.at (f:=mC) (fun _=>rfl) hk hn 1 (by omega),h.at (f:=mC) (fun _=>rfl) hk hn 2 (by omega)⟩
/-! ### the text -/
/-! ### a builder while the world grows -/
theorem Ext.gb {w w':World}(h:Ext w w'):w.grownBy w' none:=⟨h.os,h.tape,h.output,h.size,fun k hk _=>h.block k hk⟩
theorem pC {T e:TypeId}{B b:Nat}{p:Value}{bs:List Value}{w w':World}(h:Lib.BuilderAtF T e B b p bs w)(hx:Ext w w'):Lib.BuilderAtF T e B b p bs w':=by
 have d:=h.lt
 obtain⟨hB,v,hh,a,c⟩:=h
 exact⟨hB,v,by rw[hx.block b d];exact hh,a.kept hx.gb (by cases v.ownBlock<;>simp),c⟩
theorem nX {T e:TypeId}{B b:Nat}{bs:List Value}{w w':World}(h:Lib.IsBuilderF T e B b bs w)(hx:Ext w w'):Lib.IsBuilderF T e B b bs w':=
 h.elim (fun q=> .inl (pC q hx)) (fun q=> .inr (pC q hx))
theorem gM {w wr w':World}{B:Nat}(h:Ext w wr)(hb:Below B wr w')(hB:w.heap.size≤B):Ext w w':=Below.trans h (Below.mono hb hB)
theorem jK (a b:List UInt8):Lib.byteCells (a++b)=Lib.byteCells a++Lib.strCells ⟨b.toArray⟩:=by
 simp[Lib.byteCells,Lib.strCells]
end Go.Proofs.YtgnkoffndhmhpaaGreatDoor
