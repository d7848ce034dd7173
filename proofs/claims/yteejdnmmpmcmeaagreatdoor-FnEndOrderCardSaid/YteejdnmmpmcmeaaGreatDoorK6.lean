/-
  Texts of this proof, packed (@packed).
-/
import Derived.KernelRfl
import Derived.Shelf.Strings.BuilderK
import Derived.Sort.OwnSortedInts
import Derived.Test.YteejdnmmpmcmeaaGreatDoorRows
import Derived.Test.YteejdnmmpmcmeaaGreatDoorShelf
import Derived.Test.YteejdnmmpmcmeaaGreatDoorK2
import Derived.Test.YteejdnmmpmcmeaaGreatDoorK4
import Derived.Test.YteejdnmmpmcmeaaGreatDoorK5
namespace Go.Proofs.YteejdnmmpmcmeaaGreatDoor
open Go.RowKit
set_option linter.unusedVariables false
def insL (x:Int):List Int→List Int
 | []=> [x]
 |y::ys=>if y<x then y::insL x ys else x::y::ys
def sortL (xs:List Int):List Int:=xs.foldl (fun acc x=>insL x acc) []
def posOfL (xs:List Int):List Int:=xs.filter (fun x=>decide (0<x))
def carsOf (xs:List Int):List Int:=sortL (posOfL xs)
theorem insL_perm (x:Int): ∀xs,List.Perm (insL x xs) (x::xs):=by
 intro xs
 induction xs with
 |nil=>exact List.Perm.refl _
 |cons y ys ih=>
  unfold insL
  split
  ·exact(List.Perm.cons y ih).trans (List.Perm.swap x y ys)
  ·exact List.Perm.refl _
theorem insL_sorted (x:Int): ∀xs,xs.Pairwise (·≤ ·)→(insL x xs).Pairwise (·≤ ·):=by
 intro xs
 induction xs with
 |nil=>intro _;simp[insL]
 |cons y ys ih=>
  intro h
  rw[List.pairwise_cons]at h
  unfold insL
  split
  ·rename_i hlt
   rw[List.pairwise_cons]
   refine⟨fun z hz=> ?_,ih h.2⟩
   rcases List.mem_cons.1 ((insL_perm x ys).mem_iff.1 hz)with rfl|hz
   ·omega
   ·exact h.1 z hz
  ·rename_i hge
   rw[List.pairwise_cons,List.pairwise_cons]
   refine⟨fun z hz=> ?_,h⟩
   rcases List.mem_cons.1 hz with rfl|hz
   ·omega
   ·have:=h.1 z hz;omega
theorem sortL_snoc (xs:List Int)(x:Int):sortL (xs++ [x])=insL x (sortL xs):=by simp[sortL,List.foldl_append]
theorem sortL_go (xs:List Int):List.Perm (sortL xs) xs∧(sortL xs).Pairwise (·≤ ·):=by
 suffices h: ∀(n:Nat) (xs:List Int),xs.length=n→List.Perm (sortL xs) xs∧(sortL xs).Pairwise (·≤ ·)from h _ xs rfl
 intro n
 induction n with
 |zero=>intro xs h;obtain rfl:=List.eq_nil_of_length_eq_zero h;simp[sortL]
 |succ n ih=>
  intro xs h
  have hne:xs≠ []:=by intro e;rw[e]at h;simp at h
  rw[←List.dropLast_concat_getLast hne,sortL_snoc]
  obtain⟨h1,h2⟩:=ih xs.dropLast (by simp[h])
  refine⟨?_,insL_sorted _ _ h2⟩
  exact(insL_perm _ _).trans ((List.Perm.cons _ h1).trans (List.perm_append_singleton _ _).symm)
theorem sortL_perm (xs:List Int):List.Perm (sortL xs) xs:=(sortL_go xs).1
theorem sortL_sorted (xs:List Int):(sortL xs).Pairwise (·≤ ·):=(sortL_go xs).2
theorem sortL_len (xs:List Int):(sortL xs).length=xs.length:=(sortL_perm xs).length_eq
theorem posOfL_snoc (xs:List Int)(x:Int):posOfL (xs++ [x])=posOfL xs++(if 0<x then [x]else []):=by
 unfold posOfL;rw[List.filter_append];congr 1
 by_cases h:0<x<;>simp[h]
theorem posOfL_le (xs:List Int):(posOfL xs).length≤xs.length:=List.length_filter_le _ _
theorem carsOf_len (xs:List Int):(carsOf xs).length=(posOfL xs).length:=sortL_len _
theorem sortL_uniq {xs ys:List Int}(h:List.Perm ys xs)(hs:ys.Pairwise (·≤ ·)):ys=sortL xs:=
 List.Perm.eq_of_pairwise (fun a b _ _ h1 h2=>Int.le_antisymm h1 h2) hs (sortL_sorted xs) (h.trans (sortL_perm xs).symm)
abbrev Visit4:=Int×Int×Int×Int
def visitCells (v:Visit4):List Value:= [.int .i64 v.1,.int .i64 v.2.1,.int .i64 v.2.2.1,.int .i64 v.2.2.2]
structure HouseD where
 wide:Int
 deep:Int
 cells:List Int
 free:Int
 step:Int
 price:Int
 capp:Int
 clock:Int
 bank:Int
 vs:List Visit4
def visitOk (clock:Int)(v:Visit4):Bool:=stayOk v.2.1 v.2.2.1 v.2.2.2&&decide (v.2.2.2≤clock)
def visitsOk (clock:Int):List Int→List Visit4→Bool
 | [],[]=>true
 |c::cs,v::vs=>decide (v.1=c)&&visitOk clock v&&visitsOk clock cs vs
 |_,_=>false
def numsOk (h:HouseD):Bool:=decide (0≤h.clock∧h.clock≤9999∧0≤h.bank∧h.bank≤99999)
def houseOk (h:HouseD):Bool:=hallOk h.wide h.deep h.cells&&tariffOk h.free h.step h.price h.capp&&numsOk h&&visitsOk h.clock (carsOf h.cells) h.vs
def houseZero:HouseD:=⟨0,0,[],0,0,0,0,0,0,[]⟩
theorem visitsOk_at {clock:Int}{cs:List Int}{vs:List Visit4}{k:Nat}{c:Int}{v:Visit4}(hc:cs[k]? =some c) (hv:vs[k]? =some v):
  visitsOk clock (cs.drop k) (vs.drop k)=(decide (v.1=c)&&visitOk clock v&&visitsOk clock (cs.drop (k+1)) (vs.drop (k+1))):=by
 rw[drop_cons hc,drop_cons hv];rfl
theorem visitsOk_len {clock:Int}: ∀ {cs:List Int} {vs:List Visit4},visitsOk clock cs vs=true→vs.map (·.1)=cs∧ ∀v∈vs,visitOk clock v=true:=by
 intro cs
 induction cs with
 |nil=>intro vs h;cases vs with
  |nil=>simp
  |cons v vs=>simp[visitsOk]at h
 |cons c cs ih=>
  intro vs h
  cases vs with
  |nil=>simp[visitsOk]at h
  |cons v vs=>
   simp only[visitsOk,Bool.and_eq_true,decide_eq_true_eq]at h
   obtain⟨⟨h1,h2⟩,h3⟩:=h
   obtain⟨i1,i2⟩:=ih h3
   refine⟨by simp[h1,i1],fun x hx=> ?_⟩
   rcases List.mem_cons.1 hx with rfl|hx
   ·exact h2
   ·exact i2 x hx
theorem visitsOk_ne {clock:Int}{cs:List Int}{vs:List Visit4}(h:cs.length≠vs.length):visitsOk clock cs vs=false:=by
 cases hh:visitsOk clock cs vs with
 |false=>rfl
 |true=>
  have:=congrArg List.length (visitsOk_len hh).1
  simp at this
  omega
def visitAt (id:Int)(vs:List Visit4):Option Visit4:=vs.find? (fun v=>v.1==id)
def houseStay (h:HouseD)(id:Int):Option (Int×Int×Int):=if houseOk h then(visitAt id h.vs).map (·.2)else none
def houseDue (h:HouseD)(id:Int):Int:=match houseStay h id with
 |some s=>stayDue h.free h.step h.price h.capp s.1 s.2.1 s.2.2 h.clock
 |none=> -1
def houseMay (h:HouseD)(id:Int):Bool:=match houseStay h id with
 |some s=>mayLeave h.free h.step h.price h.capp s.1 s.2.1 s.2.2 h.clock
 |none=>false
def endOrder (h:HouseD):List Int:=if houseOk h then
  (if(0:Int)∈h.cells then carsOf h.cells else h.cells.headD 0::(carsOf h.cells).filter (fun x=>x !=h.cells.headD 0))else []
end Go.Proofs.YteejdnmmpmcmeaaGreatDoor

namespace Go.Proofs.YteejdnmmpmcmeaaGreatDoor
open Go.RowKit
set_option linter.unusedVariables false
abbrev TI:TypeId:=3
def RetHall (wide deep:Int)(xs:List Int)(w:World)(e:Ending)(w':World):Prop:=
 ∃p cap,e= .returned (hallV wide deep p xs.length cap)∧w'.ownsRow w.heap.size TI 1 (.slice p xs.length cap) xs.length (ivs xs)∧Ext w w'
def emptyHall (wide deep:Int):Int×Int×List Int:=if 2≤wide∧wide≤4∧2≤deep∧deep≤3 then(wide,deep,List.replicate (wide*deep).toNat 0)else(0,0,[])
theorem made_zero (n:Nat):(madeCells (Value.int .i64 0).cells (n*1)).toList=ivs (List.replicate n 0):=by
 apply List.ext_getElem<;>simp[madeCells,Value.cells,Nat.mod_one]
set_option maxRecDepth 100000 in
set_option maxHeartbeats 1000000 in
theorem specHe_bad (wide deep:Int)(w:World)(h:wide<2∨2≤wide∧4<wide∨2≤wide∧wide≤4∧deep<2∨2≤wide∧wide≤4∧2≤deep∧3<deep):
  Calls Tryz.prog 145 #[.int .i64 wide,.int .i64 deep] w (RetHall 0 0 [] w):=by
 rcases h with h|⟨h0,h⟩|⟨h0,h1,h⟩|⟨h0,h1,h2,h⟩
 all_goals
  (try (have hdd:decide (deep≤3)=false:=by simp;omega))
  (try (have hdd:decide (wide≤4)=false:=by simp;omega))
  go_enter Tryz.func145,Tryz.ntmps145
  go_wp2_with go_in
  exact bodyPost_ret (v:=hallV 0 0 none 0 0) (by simp[results,Tryz.results145,go_sem]) rfl ⟨none,0,rfl,World.ownsRow_nil _ _ _ _,by exact .alloc (.refl _) _⟩
theorem Blk.three {w:World}{g:Nat}{t:TypeId}{a b c:Value}(h:Blk w g t #[a,b,c]):w.cell? ⟨g,0,none⟩=some a∧w.cell? ⟨g,1,none⟩=some b∧w.cell? ⟨g,2,none⟩=some c∧w.frozen? ⟨g,0,none⟩=false∧w.frozen? ⟨g,1,none⟩=false∧w.frozen? ⟨g,2,none⟩=false:=
 ⟨h.cell 0,h.cell 1,h.cell 2,h.frozen 0,h.frozen 1,h.frozen 2⟩
theorem ret_hall {wide deep:Int}{p:Option Addr}{n cap:Nat}{xs:List Int}{w w':World}(hn:xs.length=n)(ho:w'.ownsRow w.heap.size TI 1 (.slice p n cap) n (ivs xs))(hx:Ext w w'):RetHall wide deep xs w (.returned (hallV wide deep p n cap)) w':=by
 subst hn;exact⟨p,cap,rfl,ho,hx⟩
theorem own_store3 {w:World}{B n:Nat}{xs:List Value}{c0 c1 c2:Value}(h:w.ownsRow B TI 1 (.slice (some ⟨B+1,0,none⟩) n n) n xs):
  (((w.setCell ⟨B,0,none⟩ c0).setCell ⟨B,1,none⟩ c1).setCell ⟨B,2,none⟩ c2).ownsRow B TI 1 (.slice (some ⟨B+1,0,none⟩) n n) n xs:=by
 have hx:ExtR B w (((w.setCell ⟨B,0,none⟩ c0).setCell ⟨B,1,none⟩ c1).setCell ⟨B,2,none⟩ c2):=(((ExtR.refl B w).setCell (p:=⟨B,0,none⟩) (.inl rfl) _).setCell (p:=⟨B,1,none⟩) (.inl rfl) _).setCell (p:=⟨B,2,none⟩) (.inl rfl) _
 exact h.kept hx (.inr (by simp[Value.ownBlock]))
set_option maxRecDepth 100000 in
set_option maxHeartbeats 1000000 in
theorem specHe_ok (wide deep:Int)(n:Nat)(w:World)(h0:2≤wide)(h1:wide≤4)(h2:2≤deep)(h3:deep≤3)(h4:0≤wide*deep)(h5:wide*deep≤12)(h6:wide*deep=(n:Int))(h7:n≤12):
  Calls Tryz.prog 145 #[.int .i64 wide,.int .i64 deep] w (RetHall wide deep (List.replicate n 0) w):=by
 obtain⟨i0,hi,hz0,hz1,hz2⟩:=info_parts (show(Tryz.prog.info? 3).map (fun i=>(i.zero,i.size,i.bytes))=some (some (.int .i64 0),1,8) by kernel_rfl)
 have q1:decide (wide≤4)=true:=by simp[h1]
 have q2:decide (deep≤3)=true:=by simp[h3]
 go_enter Tryz.func145,Tryz.ntmps145
 go_wp2_with (first|go_in|(at_make;refine wpList_make_full _ rfl _ _ 23 rfl w.heap.size 3 i0 (.int .i64 0) 1 Tryz.underlying23 hi hz0 hz1 .i64 .i64 _ _ n rfl rfl (by first|rfl|exact h6) (by first|rfl|exact h6) (by rw[hz2];omega) (by unfold maxLen;omega) (by simp) ?_;intro w0 hown0 hgrow0;have hE0:Ext _ w0:=(Ext.refl _).grown hgrow0 (fun q hq=>by cases hq);obtain⟨p0,p1,p2,p3,p4,p5⟩:=((Blk.new w 25 #[.int .i64 0,.int .i64 0,.slice none 0 0]).ext hE0).three;have hz:w.heap.size<w0.heap.size:=Nat.lt_of_lt_of_le (by simp) hE0.sz;rw[made_zero]at hown0;have HO:=Lib.hid hown0;have HE0:Hid (Ext w w0):=((Ext.refl w).alloc _).trans hE0;clear hown0 hgrow0 hE0))
 have hx:Ext w _:=(((HE0.out.setCell (p:=⟨w.heap.size,0,none⟩) (Nat.le_refl _) (.int .i64 wide)).setCell (p:=⟨w.heap.size,1,none⟩) (Nat.le_refl _) (.int .i64 deep)).setCell (p:=⟨w.heap.size,2,none⟩) (Nat.le_refl _) (.slice (some ⟨w.heap.size+1,0,none⟩) n n))
 exact bodyPost_ret (v:=hallV wide deep (some ⟨w.heap.size+1,0,none⟩) n n) (by simp[results,Tryz.results145,go_sem, *]) rfl (ret_hall (by simp) (own_store3 (by simpa using HO.out)) hx)
end Go.Proofs.YteejdnmmpmcmeaaGreatDoor

namespace Go.Proofs.YteejdnmmpmcmeaaGreatDoor
open Go.RowKit
set_option linter.unusedVariables false
def RetInts (xs:List Int)(w:World)(e:Ending)(w':World):Prop:=
 ∃p cap,e= .returned (.slice p xs.length cap)∧w'.ownsRow w.heap.size TI 1 (.slice p xs.length cap) xs.length (ivs xs)∧Ext w w'
theorem ret_ints {p:Option Addr}{n cap:Nat}{xs:List Int}{w w':World}(hn:xs.length=n)(ho:w'.ownsRow w.heap.size TI 1 (.slice p n cap) n (ivs xs))(hx:Ext w w'):RetInts xs w (.returned (.slice p n cap)) w':=by
 subst hn;exact⟨p,cap,rfl,ho,hx⟩
theorem insL_at: ∀(xs:List Int) (k:Nat) (x:Int),(∀y∈xs.take k,y<x)→(∀y,xs[k]? =some y→ ¬y<x)→insL x xs=xs.take k++x::xs.drop k:=by
 intro xs
 induction xs with
 |nil=>intro k x _ _;simp[insL]
 |cons y ys ih=>
  intro k x h1 h2
  cases k with
  |zero=>
   have:=h2 y rfl
   simp[insL,this]
  |succ k=>
   have h3:y<x:=h1 y (by simp)
   rw[insL,if_pos h3,ih k x (fun z hz=>h1 z (by simp[hz])) (fun z hz=>h2 z (by simpa using hz))]
   simp
theorem insL_len (x:Int)(xs:List Int):(insL x xs).length=xs.length+1:=(insL_perm x xs).length_eq
theorem sl_drop {w:World}{b off n cap k:Nat}{xs:List Int}(h:Sl w (some ⟨b,off,none⟩) n cap 1 (ivs xs))(hk:k≤n):Sl w (some ⟨b,off+k,none⟩) (n-k) (cap-k) 1 (ivs (xs.drop k)):=by
 have hl:=h.ilen
 have hle:=h.le
 have hmx:=h.mx
 refine⟨by simp;omega,by omega,by omega,fun h0=> ?_⟩
 obtain⟨b',off',e,hb,hc⟩:=h.rd (by omega)
 injection e with e;injection e with e1 e2
 subst e1 e2
 refine⟨_,_,rfl,hb,fun j hj=> ?_⟩
 rw[Nat.add_assoc,hc (k+j) (by omega)]
 simp
theorem sl_zero (w:World)(p:Option Addr){c:Nat}(hc:c≤maxLen):Sl w p 0 c 1 (ivs []):=⟨by simp,Nat.zero_le _,hc,fun h=>absurd h (by omega)⟩
set_option maxRecDepth 100000 in
set_option maxHeartbeats 1000000 in
theorem l1Sorted_any (p:Option Addr)(n cap:Nat)(xs:List Int)(x:Int)(w:World)(hn:n≤1000000)(hS:Sl w p n cap 1 (ivs xs)):
  Calls Tryz.prog 119 #[.slice p n cap,.int .i64 x] w (RetInts (insL x xs) w):=by
 have hl:=Lib.hid hS.ilen
 have hncap:=hS.le
 have hcm:=hS.mx
 unfold maxLen at hcm
 have HS:=Lib.hid hS
 clear hS
 go_enter Tryz.func119,Tryz.ntmps119
 go_wp2
 go_loopw [5,6] (fun v i wr=> ∃(k:Nat) (q:Option Addr) (c:Nat),k≤n∧i= .int .i64 k∧v= .slice q k c∧wr.ownsRow w.heap.size TI 1 (.slice q k c) k (ivs (xs.take k))∧(∀y∈xs.take k,y<x)∧Ext w wr) (fun _ i _=>n-(intOf i).toNat)
 case atStart=>exact⟨0,_,0,Nat.zero_le _,rfl,rfl,World.ownsRow_made _ #[] 0 (Nat.le_refl _) (by simp[maxLen]) rfl,by simp,by exact .alloc (.refl _) _⟩
 case round=>
  obtain⟨k,q,c,hk,rfl,rfl,hown,hlt',hE⟩:=hrel
  have HO:=Lib.hid hown
  have HL:=Lib.hid hlt'
  have hsz:=hE.sz
  clear hown hlt'
  by_cases hlt:k<n
  ·obtain⟨b,off,y,rfl,hx,hb,hcell⟩:=(HS.out.ext hE).int_at hlt
   have HX:=Lib.hid hx
   clear hx
   by_cases hy:y<x
   ·have hfin:Hid (∀z∈xs.take (k+1),z<x):=by
     show∀z∈xs.take (k+1),z<x
     rw[take_snocL HX.out]
     intro z hz
     rcases List.mem_append.1 hz with h|h
     ·exact HL.out z h
     ·simp at h;omega
    go_wp2_with (at_builtin;refine wpList_append_int elInt rfl _ _ rfl w.heap.size _ _ _ rfl (HO.out.alloc _) _ _ y _ rfl (by simp) (by omega) (by simp;omega) ?_;intro p' cap' w1 hown1 hg1;have HO1:=Lib.hid hown1;have hE1:Ext w w1:=Ext.own (hE.alloc _) (HO.out.alloc _) hg1 (Nat.le_refl _);clear hown1 hg1)
    go_roundw
    case rel=>exact⟨k+1,p',cap',by omega,by go_num,rfl,by rw[take_snocL HX.out];exact HO1.out,hfin.out,hE1⟩
    case measure=>simp[intOf];omega
   ·have hfin:Hid (insL x xs=xs.take k++x::xs.drop k):=insL_at xs k x HL.out (fun z hz=>by rw[HX.out]at hz;injection hz with hz;subst hz;exact hy)
    have i1:(0:Int)≤(k:Int):=by omega
    have i2:(k:Int)≤(n:Int):=by omega
    have hck: ¬cap=k:=by omega
    go_wp2
    go_region_law ((first
     |(refine step_append_sl _ elInt (by rfl) _ _ (by rfl) w.heap.size _ k (ivs (xs.take k)) (by rfl) (by first|exact HO.out|exact HO.out.alloc _|exact(HO.out.alloc _).drew|exact(HO.out.drew).alloc _|exact HO.out.drew) _ 1 1 [iv x] (by rfl) (by first|exact Sl.new wr #[iv x] _ 1 rfl (by decide)|exact(Sl.new wr #[iv x] _ 1 rfl (by decide)).ext (Ext.drew (Ext.refl _))|exact Sl.new wr.drew #[iv x] _ 1 rfl (by decide)) (ivs_one [x]) (by omega) (by simp;omega) ?_
       intro p1 c1 w1 hown1 hg1
       have hE1:Ext w w1:=Ext.own (by exact .drew (.alloc hE _)) (by first|exact HO.out|exact HO.out.alloc _|exact(HO.out.alloc _).drew|exact(HO.out.drew).alloc _|exact HO.out.drew) hg1 (Nat.le_refl _)
       have HO1:=Lib.hid hown1
       have HS1:=Lib.hid (HS.out.ext hE1)
       have hz1:=hE1.sz
       clear hown1 hg1)
     |(refine step_append_sl _ elInt (by rfl) _ _ (by rfl) w.heap.size _ (k+1) (ivs (xs.take k)++ [iv x]) (by rfl) HO1.out _ (n-k) (cap-k) (ivs (xs.drop k)) (by rfl) (sl_drop HS1.out (by omega)) (ivs_one _) (by omega) (by omega) ?_
       intro p2 c2 w2 hown2 hg2
       have hE2:Ext w w2:=Ext.own hE1 HO1.out hg2 (Nat.le_refl _)
       have HO2:=Lib.hid hown2
       clear hown2 hg2)))
    all_goals go_wp2
    all_goals go_ret
    all_goals exact ret_ints (by rw[hfin.out];simp;rw[hl.out];omega) (by rw[hfin.out];simpa using HO2.out) hE2
  ·obtain rfl:k=n:=by omega
   have hfin:Hid (insL x xs=xs++ [x]):=by
    have:=insL_at xs k x HL.out (fun z hz=>by rw[List.getElem?_eq_none (by rw[hl.out];exact Nat.le_refl _)]at hz;cases hz)
    show _=_
    rw[this,List.take_of_length_le (by rw[hl.out];exact Nat.le_refl _),List.drop_eq_nil_of_le (by rw[hl.out];exact Nat.le_refl _)]
   have i1:(0:Int)≤(k:Int):=by omega
   go_wp2
   go_region_law ((first
    |(refine step_append_sl _ elInt (by rfl) _ _ (by rfl) w.heap.size _ k (ivs (xs.take k)) (by rfl) (by first|exact HO.out|exact HO.out.alloc _|exact(HO.out.alloc _).drew|exact(HO.out.drew).alloc _|exact HO.out.drew) _ 1 1 [iv x] (by rfl) (by first|exact Sl.new wr #[iv x] _ 1 rfl (by decide)|exact(Sl.new wr #[iv x] _ 1 rfl (by decide)).ext (Ext.drew (Ext.refl _))|exact Sl.new wr.drew #[iv x] _ 1 rfl (by decide)) (ivs_one [x]) (by omega) (by simp;omega) ?_
      intro p1 c1 w1 hown1 hg1
      have hE1:Ext w w1:=Ext.own (by exact .drew (.alloc hE _)) (by first|exact HO.out|exact HO.out.alloc _|exact(HO.out.alloc _).drew|exact(HO.out.drew).alloc _|exact HO.out.drew) hg1 (Nat.le_refl _)
      have HO1:=Lib.hid hown1
      have HS1:=Lib.hid (HS.out.ext hE1)
      have hz1:=hE1.sz
      clear hown1 hg1)
    |(refine step_append_sl _ elInt (by rfl) _ _ (by rfl) w.heap.size _ (k+1) (ivs (xs.take k)++ [iv x]) (by rfl) HO1.out _ 0 _ (ivs []) (by rfl) (sl_zero _ _ (by unfold maxLen;omega)) (ivs_one _) (by omega) (by omega) ?_
      intro p2 c2 w2 hown2 hg2
      have hE2:Ext w w2:=Ext.own hE1 HO1.out hg2 (Nat.le_refl _)
      have HO2:=Lib.hid hown2
      clear hown2 hg2)))
   all_goals go_wp2
   all_goals go_ret
   all_goals exact ret_ints (by rw[hfin.out];simp;rw[hl.out]) (by rw[hfin.out];have:=HO2.out;rw[List.take_of_length_le (by rw[hl.out];exact Nat.le_refl _)]at this;simpa using this) hE2
end Go.Proofs.YteejdnmmpmcmeaaGreatDoor

namespace Go.Proofs.YteejdnmmpmcmeaaGreatDoor
open Go.RowKit
set_option linter.unusedVariables false
theorem merge_sortL (xs:List Int):(xs.mergeSort fun x y=>decide (x≤y))=sortL xs:=by
 refine sortL_uniq (List.mergeSort_perm _ _) ?_
 have:=List.pairwise_mergeSort (le:=fun x y:Int=>decide (x≤y)) (fun a b c h1 h2=>by simp at*;omega) (fun a b=>by simp;omega) xs
 simpa using this
theorem sort_any (B:Nat)(p:Option Addr)(n cap:Nat)(xs:List Int)(w:World)(h:w.ownsRow B TI 1 (.slice p n cap) n (ivs xs))(hn:n≤1000000):
  Calls Tryz.prog 70 #[.slice p n cap] w fun e w'=>e= .returned (.tuple #[])∧w'.ownsRow B TI 1 (.slice p n cap) n (ivs (sortL xs))∧w.grownBy w' (Value.slice p n cap).ownBlock:=by
 have hl:xs.length=n:=by have:=h.1;simpa using this
 subst hl
 by_cases h0:xs.length=0
 ·obtain rfl:xs= []:=List.eq_nil_of_length_eq_zero h0
  refine(Tryz.slices_Sort_int_none p cap w).mono ?_
  rintro e w' ⟨rfl,rfl⟩
  exact⟨rfl,h,World.grownBy.refl _ _⟩
 ·rcases h.2 with⟨h1,h2⟩|⟨g,cap',cur,h1,hb,hg,hnc,hm,hs,ht⟩
  ·exact absurd h2 h0
  ·injection h1 with e1 e2 e3
   subst e1 e3
   refine(Tryz.slices_Sort_int g 0 cap xs w (Go.holds_of_blockI hg (by simpa using ht)) (Array.getElem?_eq_some_iff.1 hg).1 (by omega)).mono ?_
   rintro e w' ⟨rfl,k,os,rfl⟩
   rw[merge_sortL]
   exact⟨rfl,Go.ownsRow_sortedI (sortL_len xs) hb hg hnc hm hs,Go.grownBy_sortedI _⟩
theorem own_ext {w w':World}{B n sz:Nat}{e:TypeId}{v:Value}{xs:List Value}(ho:w.ownsRow B e sz v n xs)(h:Ext w w'):w'.ownsRow B e sz v n xs:=
 ho.kept (row:=none) ⟨h.os,h.tape,h.output,h.size,fun k hk _=>h.block k hk⟩ (by cases v.ownBlock<;>simp)
theorem own_base {w:World}{B B' n sz:Nat}{e:TypeId}{v:Value}{xs:List Value}(h:w.ownsRow B e sz v n xs)(hb:B'≤B):w.ownsRow B' e sz v n xs:=by
 refine⟨h.1,?_⟩
 rcases h.2 with h2|⟨g,cap',cur,e1,hb',r⟩
 ·exact .inl h2
 ·exact .inr ⟨g,cap',cur,e1,Nat.le_trans hb hb',r⟩
set_option maxRecDepth 100000 in
set_option maxHeartbeats 1000000 in
theorem specHc_bad (wide deep:Int)(p:Option Addr)(n cap:Nat)(w:World)(HV:Hid (∀w',Ext w w'→Calls Tryz.prog 64 #[hallV wide deep p n cap] w' fun e w''=>e= .returned (.bool false)∧Ext w' w'')):
  Calls Tryz.prog 63 #[hallV wide deep p n cap] w (RetInts [] w):=by
 go_enter Tryz.func63,Tryz.ntmps63
 go_wp2_with fail
 refine(HV.out _ (by exact .alloc (.alloc (.refl _) _) _)).mono ?_
 rintro e w1 ⟨rfl,h1⟩
 go_wp2
 go_ret
 have ho:((w.alloc (.cells #[.int .i64 wide,.int .i64 deep,.slice p n cap] 25)).alloc (.cells #[] TI)).ownsRow w.heap.size TI 1 (.slice (some ⟨(w.alloc (.cells #[.int .i64 wide,.int .i64 deep,.slice p n cap] 25)).heap.size,0,none⟩) 0 0) 0 []:=World.ownsRow_made _ #[] 0 (by simp) (by simp[maxLen]) rfl
 exact ret_ints rfl (by simpa using own_ext ho h1) (by exact .trans (.alloc (.alloc (.refl _) _) _) h1)
set_option maxRecDepth 100000 in
set_option maxHeartbeats 1000000 in
theorem specHc_ok (wide deep:Int)(p:Option Addr)(n cap:Nat)(xs:List Int)(w:World)(hn:n≤12)(HS:Hid (Sl w p n cap 1 (ivs xs)))(HV:Hid (∀w',Ext w w'→Calls Tryz.prog 64 #[hallV wide deep p n cap] w' fun e w''=>e= .returned (.bool true)∧Ext w' w'')):
  Calls Tryz.prog 63 #[hallV wide deep p n cap] w (RetInts (carsOf xs) w):=by
 have hl:=Lib.hid HS.out.ilen
 go_enter Tryz.func63,Tryz.ntmps63
 go_wp2_with fail
 refine(HV.out _ (by exact .alloc (.alloc (.refl _) _) _)).mono ?_
 rintro e w1 ⟨rfl,h1⟩
 have ho:((w.alloc (.cells #[.int .i64 wide,.int .i64 deep,.slice p n cap] 25)).alloc (.cells #[] TI)).ownsRow w.heap.size TI 1 (.slice (some ⟨(w.alloc (.cells #[.int .i64 wide,.int .i64 deep,.slice p n cap] 25)).heap.size,0,none⟩) 0 0) 0 []:=World.ownsRow_made _ #[] 0 (by simp) (by simp[maxLen]) rfl
 have HO0:=Lib.hid (own_ext ho h1)
 have hz1:w.heap.size<w1.heap.size:=Nat.lt_of_lt_of_le (by first|(simp;omega)|simp) h1.sz
 have eb:w1.cell? ⟨w.heap.size,2,none⟩=some (.slice p n cap):=by rw[h1.cells.1 _ _ (by simp;omega)];simp
 have hx1:Ext w w1:=by exact .trans (.alloc (.alloc (.refl _) _) _) h1
 clear ho
 go_wp2
 go_loopw [3,4] (fun v i wr=> ∃(k:Nat) (q:Option Addr) (m c:Nat),k≤n∧i= .int .i64 k∧v= .slice q m c∧m≤k∧wr.ownsRow w.heap.size TI 1 (.slice q m c) m (ivs (sortL (posOfL (xs.take k))))∧Ext w1 wr) (fun _ i _=>n-(intOf i).toNat)
 case atStart=>exact⟨0,_,0,0,Nat.zero_le _,rfl,rfl,Nat.le_refl _,by simpa[posOfL,sortL]using HO0.out,Ext.refl _⟩
 case round=>
  obtain⟨k,q,m,c,hk,rfl,rfl,hmk,hown,hE⟩:=hrel
  have HO:=Lib.hid hown
  have hEw:=hx1.trans hE
  have hsz:=hE.sz
  have ec:wr.cell? ⟨w.heap.size,2,none⟩=some (.slice p n cap):=(hE.cells.1 _ _ hz1).trans eb
  clear hown
  by_cases hlt:k<n
  ·obtain⟨b,off,x,rfl,hx,hb,hcell⟩:=(HS.out.ext hEw).int_at hlt
   have HX:=Lib.hid hx
   clear hx
   by_cases hx0:0<x
   ·have hfin:Hid (sortL (posOfL (xs.take (k+1)))=insL x (sortL (posOfL (xs.take k)))):=by
     show _=_;rw[take_snocL HX.out,posOfL_snoc,if_pos hx0,sortL_snoc]
    have HC:Hid (∀w',Ext wr w'→Calls Tryz.prog 119 #[.slice q m c,.int .i64 x] w' (RetInts (insL x (sortL (posOfL (xs.take k)))) w')):=fun w' hx=>l1Sorted_any q m c _ x w' (by omega) ((Sl.own HO.out).ext hx)
    have hlen:(insL x (sortL (posOfL (xs.take k)))).length=m+1:=by rw[insL_len];have:=HO.out.1;simp at this;omega
    have HLEN:=Lib.hid hlen
    clear hlen
    go_wp2_with fail
    refine(HC.out _ (by exact .refl _)).mono ?_
    rintro e w2 ⟨q2,c2,rfl,h2,h3⟩
    have HO2:Hid (w2.ownsRow w.heap.size TI 1 (.slice q2 (m+1) c2) (m+1) (ivs (sortL (posOfL (xs.take (k+1)))))):=by
     rw[hfin.out,←HLEN.out];exact own_base h2 hEw.sz
    rw[HLEN.out]
    clear h2
    go_wp2
    go_roundw
    case rel=>exact⟨k+1,q2,m+1,c2,by omega,by go_num,rfl,by omega,HO2.out,by exact .trans hE h3⟩
    case measure=>simp[intOf];omega
   ·have hfin:Hid (sortL (posOfL (xs.take (k+1)))=sortL (posOfL (xs.take k))):=by
     show _=_;rw[take_snocL HX.out,posOfL_snoc,if_neg hx0,List.append_nil]
    go_wp2
    go_roundw
    case rel=>exact⟨k+1,q,m,c,by omega,by go_num,rfl,by omega,by rw[hfin.out];exact HO.out,hE⟩
    case measure=>simp[intOf];omega
  ·have hfin:Hid (sortL (posOfL (xs.take k))=carsOf xs):=by
    show _=_;rw[List.take_of_length_le (by rw[hl.out];omega)];rfl
   go_wp2
   go_ret
   exact ret_ints (by rw[←hfin.out];have:=HO.out.1;simpa using this) (by rw[←hfin.out];exact HO.out) hEw
set_option maxRecDepth 100000 in
set_option maxHeartbeats 1000000 in
theorem implHc_bad (wide deep:Int)(p:Option Addr)(n cap:Nat)(w:World)(HV:Hid (∀w',Ext w w'→Calls Tryz.prog 61 #[hallV wide deep p n cap] w' fun e w''=>e= .returned (.bool false)∧Ext w' w'')):
  Calls Tryz.prog 20 #[hallV wide deep p n cap] w (RetInts [] w):=by
 go_enter Tryz.func20,Tryz.ntmps20
 go_wp2_with fail
 refine(HV.out _ (by exact .alloc (.refl _) _)).mono ?_
 rintro e w1 ⟨rfl,h1⟩
 go_wp2
 go_ret
 exact ret_ints rfl (World.ownsRow_nil _ _ _ _) (by exact .trans (.alloc (.refl _) _) h1)
set_option maxRecDepth 100000 in
set_option maxHeartbeats 1000000 in
theorem implHc_ok (wide deep:Int)(p:Option Addr)(n cap:Nat)(xs:List Int)(w:World)(hn:n≤12)(HS:Hid (Sl w p n cap 1 (ivs xs)))(HV:Hid (∀w',Ext w w'→Calls Tryz.prog 61 #[hallV wide deep p n cap] w' fun e w''=>e= .returned (.bool true)∧Ext w' w'')):
  Calls Tryz.prog 20 #[hallV wide deep p n cap] w (RetInts (carsOf xs) w):=by
 have hl:=Lib.hid HS.out.ilen
 go_enter Tryz.func20,Tryz.ntmps20
 go_wp2_with fail
 refine(HV.out _ (by exact .alloc (.refl _) _)).mono ?_
 rintro e w1 ⟨rfl,h1⟩
 have hz1:w.heap.size<w1.heap.size:=Nat.lt_of_lt_of_le (by first|(simp;omega)|simp) h1.sz
 have eb:w1.cell? ⟨w.heap.size,2,none⟩=some (.slice p n cap):=by rw[h1.cells.1 _ _ (by simp)];simp
 have hx1:Ext w w1:=by exact .trans (.alloc (.refl _) _) h1
 go_wp2
 go_loopw [3,12] (fun v i wr=> ∃(k:Nat) (q:Option Addr) (m c:Nat),k≤n∧i= .int .i64 k∧v= .slice q m c∧m≤k∧wr.ownsRow w1.heap.size TI 1 (.slice q m c) m (ivs (posOfL (xs.take k)))∧Ext w1 wr) (fun _ i _=>n-(intOf i).toNat)
 case atStart=>exact⟨0,none,0,0,Nat.zero_le _,rfl,rfl,Nat.le_refl _,World.ownsRow_nil _ _ _ _,Ext.refl _⟩
 case round=>
  obtain⟨k,q,m,c,hk,rfl,rfl,hmk,hown,hE⟩:=hrel
  have HO:=Lib.hid hown
  have hEw:=hx1.trans hE
  have hsz:=hE.sz
  have hszw:=hx1.sz
  clear hown
  by_cases hlt:k<n
  ·obtain⟨b,off,x,rfl,hx,hb,hcell⟩:=(HS.out.ext hEw).int_at hlt
   have HX:=Lib.hid hx
   clear hx
   by_cases hx0:0<x
   ·have hfin:Hid (posOfL (xs.take (k+1))=posOfL (xs.take k)++ [x]):=by
     show _=_;rw[take_snocL HX.out,posOfL_snoc,if_pos hx0]
    go_wp2_with (at_builtin;refine wpList_append_int elInt rfl _ _ rfl w1.heap.size _ _ _ rfl (HO.out.alloc _) _ _ x _ rfl (by simp) (by omega) (by simp;omega) ?_;intro p' cap' w2 hown1 hg1;have HO1:=Lib.hid hown1;have hE1:Ext w1 w2:=Ext.own (hE.alloc _) (HO.out.alloc _) hg1 (Nat.le_refl _);clear hown1 hg1)
    go_roundw
    case rel=>exact⟨k+1,p',m+1,cap',by omega,by go_num,rfl,by omega,by rw[hfin.out];exact HO1.out,hE1⟩
    case measure=>simp[intOf];omega
   ·have hfin:Hid (posOfL (xs.take (k+1))=posOfL (xs.take k)):=by
     show _=_;rw[take_snocL HX.out,posOfL_snoc,if_neg hx0,List.append_nil]
    go_wp2
    go_roundw
    case rel=>exact⟨k+1,q,m,c,by omega,by go_num,rfl,by omega,by rw[hfin.out];exact HO.out,hE⟩
    case measure=>simp[intOf];omega
  ·have hfin:Hid (sortL (posOfL (xs.take k))=carsOf xs):=by
    show _=_;rw[List.take_of_length_le (by rw[hl.out];omega)];rfl
   go_wp2_with fail
   refine(sort_any w1.heap.size q m c _ _ HO.out (by omega)).mono ?_
   rintro e w2 ⟨rfl,h2,h3⟩
   have hE2:Ext w w2:=hEw.own HO.out h3 (by omega)
   have HO2:=Lib.hid h2
   clear h2 h3
   go_wp2
   go_ret
   exact ret_ints (by rw[←hfin.out];have:=HO2.out.1;simpa using this) (by rw[←hfin.out];exact own_base HO2.out hx1.sz) hE2
theorem specHc (wide deep:Int)(p:Option Addr)(n cap:Nat)(xs:List Int)(w:World)(hS:Sl w p n cap 1 (ivs xs)):Calls Tryz.prog 63 #[hallV wide deep p n cap] w (RetInts (if hallOk wide deep xs then carsOf xs else []) w):=by
 have hl:=hS.ilen
 cases h:hallOk wide deep xs with
 |true=>
  have h2:shapeOk wide deep n=true:=by simp only[hallOk,Bool.and_eq_true]at h;rw[←hl];exact h.1
  rw[if_pos rfl]
  exact specHc_ok wide deep p n cap xs w (shape_bd h2).2.2.2.2.2.1 hS (fun w' hx=>by rw[←h];exact specHv wide deep p n cap xs w' (hS.ext hx))
 |false=>
  rw[if_neg (by simp)]
  exact specHc_bad wide deep p n cap w (fun w' hx=>by rw[←h];exact specHv wide deep p n cap xs w' (hS.ext hx))
theorem implHc (wide deep:Int)(p:Option Addr)(n cap:Nat)(xs:List Int)(w:World)(hS:Sl w p n cap 1 (ivs xs)):Calls Tryz.prog 20 #[hallV wide deep p n cap] w (RetInts (if hallOk wide deep xs then carsOf xs else []) w):=by
 have hl:=hS.ilen
 cases h:hallOk wide deep xs with
 |true=>
  have h2:shapeOk wide deep n=true:=by simp only[hallOk,Bool.and_eq_true]at h;rw[←hl];exact h.1
  rw[if_pos rfl]
  exact implHc_ok wide deep p n cap xs w (shape_bd h2).2.2.2.2.2.1 hS (fun w' hx=>by rw[←h];exact implHv wide deep p n cap xs w' (hS.ext hx))
 |false=>
  rw[if_neg (by simp)]
  exact implHc_bad wide deep p n cap w (fun w' hx=>by rw[←h];exact implHv wide deep p n cap xs w' (hS.ext hx))
end Go.Proofs.YteejdnmmpmcmeaaGreatDoor

namespace Go.Proofs.YteejdnmmpmcmeaaGreatDoor
open Go.RowKit
set_option linter.unusedVariables false
set_option linter.unusedSimpArgs false
def selN (f:Nat→Bool):Nat→List Int
 |0=> []
 |k+1=>selN f k++(if f k then [(k:Int)]else [])
theorem selN_mem (f:Nat→Bool)(k:Nat)(x:Int):x∈selN f k↔ ∃j:Nat,j<k∧f j=true∧x=(j:Int):=by
 induction k with
 |zero=>simp[selN]
 |succ k ih=>
  unfold selN
  rw[List.mem_append,ih]
  constructor
  ·rintro(⟨j,h1,h2,h3⟩|h)
   ·exact⟨j,by omega,h2,h3⟩
   ·by_cases hf:f k=true
    ·rw[if_pos hf]at h;simp at h;exact⟨k,by omega,hf,h⟩
    ·rw[if_neg hf]at h;simp at h
  ·rintro⟨j,h1,h2,h3⟩
   by_cases hj:j<k
   ·exact .inl ⟨j,hj,h2,h3⟩
   ·obtain rfl:j=k:=by omega
    right;rw[if_pos h2];simpa using h3
def isFree (xs:List Int)(k:Nat):Bool:=xs[k]? ==some 0
def freeL (xs:List Int):List Int:=selN (isFree xs) xs.length
theorem freeL_nil (xs:List Int):freeL xs= []↔(0:Int)∉xs:=by
 rw[List.eq_nil_iff_forall_not_mem]
 constructor
 ·intro h hm
  obtain⟨k,hk,e⟩:=List.getElem_of_mem hm
  exact h (k:Int) ((selN_mem _ _ _).2 ⟨k,hk,by simp[isFree,hk,e],rfl⟩)
 ·intro h x hx
  obtain⟨j,h1,h2,h3⟩:=(selN_mem _ _ _).1 hx
  simp[isFree,h1]at h2
  exact h (by rw[←h2];exact List.getElem_mem h1)
theorem own_far {wr w2:World}{B o n:Nat}{v u:Value}{xs:List Value}{ob:Obj}(ho:wr.ownsRow (B+1) TI 1 v n xs)(hg:(wr.alloc ob).grownBy w2 v.ownBlock)(hb:B<wr.heap.size)(hc:wr.cell? ⟨B,o,none⟩=some u):w2.cell? ⟨B,o,none⟩=some u:=by
 rw[World.cell?_of_block (w:=wr.alloc ob) (hg.block B (by simp;omega) (fun e=>by have:=ho.lt B e.symm;omega))]
 rw[((Ext.refl wr).alloc ob).cells.1 B o hb];exact hc
set_option maxRecDepth 100000 in
set_option maxHeartbeats 1000000 in
theorem specHf_bad (wide deep:Int)(p:Option Addr)(n cap:Nat)(w:World)(HV:Hid (∀w',Ext w w'→Calls Tryz.prog 64 #[hallV wide deep p n cap] w' fun e w''=>e= .returned (.bool false)∧Ext w' w'')):
  Calls Tryz.prog 79 #[hallV wide deep p n cap] w (RetInts [] w):=by
 go_enter Tryz.func79,Tryz.ntmps79
 go_wp2_with fail
 refine(HV.out _ (by exact .alloc (.alloc (.refl _) _) _)).mono ?_
 rintro e w1 ⟨rfl,h1⟩
 have ho:((w.alloc (.cells #[.int .i64 wide,.int .i64 deep,.slice p n cap] 25)).alloc (.cells #[] TI)).ownsRow (w.heap.size+1) TI 1 (.slice (some ⟨(w.alloc (.cells #[.int .i64 wide,.int .i64 deep,.slice p n cap] 25)).heap.size,0,none⟩) 0 0) 0 []:=World.ownsRow_made _ #[] 0 (by simp) (by simp[maxLen]) rfl
 have HO0:=Lib.hid (own_ext ho h1)
 clear ho
 go_wp2
 go_ret
 exact ret_ints (xs:= []) rfl (by simpa using own_base HO0.out (Nat.le_succ _)) (by exact .trans (.alloc (.alloc (.refl _) _) _) h1)
set_option maxRecDepth 100000 in
set_option maxHeartbeats 1000000 in
theorem specHf_ok (wide deep:Int)(p:Option Addr)(n cap:Nat)(xs:List Int)(w:World)(hn:n≤12)(HS:Hid (Sl w p n cap 1 (ivs xs)))(HV:Hid (∀w',Ext w w'→Calls Tryz.prog 64 #[hallV wide deep p n cap] w' fun e w''=>e= .returned (.bool true)∧Ext w' w'')):
  Calls Tryz.prog 79 #[hallV wide deep p n cap] w (RetInts (freeL xs) w):=by
 have hl:=Lib.hid HS.out.ilen
 go_enter Tryz.func79,Tryz.ntmps79
 go_wp2_with fail
 refine(HV.out _ (by exact .alloc (.alloc (.refl _) _) _)).mono ?_
 rintro e w1 ⟨rfl,h1⟩
 have ho:((w.alloc (.cells #[.int .i64 wide,.int .i64 deep,.slice p n cap] 25)).alloc (.cells #[] TI)).ownsRow (w.heap.size+1) TI 1 (.slice (some ⟨(w.alloc (.cells #[.int .i64 wide,.int .i64 deep,.slice p n cap] 25)).heap.size,0,none⟩) 0 0) 0 []:=World.ownsRow_made _ #[] 0 (by simp) (by simp[maxLen]) rfl
 have HO0:=Lib.hid (own_ext ho h1)
 clear ho
 have hz1:w.heap.size<w1.heap.size:=Nat.lt_of_lt_of_le (by first|(simp;omega)|simp) h1.sz
 have eb:w1.cell? ⟨w.heap.size,2,none⟩=some (.slice p n cap):=by rw[h1.cells.1 _ _ (by first|(simp;done)|(simp;omega))];simp
 have hx1:Ext w w1:=by exact .trans (.alloc (.alloc (.refl _) _) _) h1
 go_wp2
 go_loopw [3,4] (fun v i wr=> ∃(k:Nat) (q:Option Addr) (m c:Nat),k≤n∧i= .int .i64 k∧v= .slice q m c∧m≤k∧wr.ownsRow (w.heap.size+1) TI 1 (.slice q m c) m (ivs (selN (isFree xs) k))∧Ext w wr∧wr.cell? ⟨w.heap.size,2,none⟩=some (.slice p n cap)∧w.heap.size<wr.heap.size) (fun _ i _=>n-(intOf i).toNat)
 case atStart=>exact⟨0,_,0,0,Nat.zero_le _,rfl,rfl,Nat.le_refl _,by simpa[selN]using HO0.out,hx1,eb,hz1⟩
 case round=>
  obtain⟨k,q,m,c,hk,rfl,rfl,hmk,hown,hEw,ec,hsz⟩:=hrel
  have HO:=Lib.hid hown
  clear hown
  by_cases hlt:k<n
  ·obtain⟨b,off,x,rfl,hx,hb,hcell⟩:=(HS.out.ext hEw).int_at hlt
   have HX:=Lib.hid hx
   clear hx
   by_cases hx0:x=0
   ·have t0:(x==0)=true:=by simp[hx0]
    have hfin:Hid (selN (isFree xs) (k+1)=selN (isFree xs) k++ [(k:Int)]):=by
     show _=_;rw[selN,if_pos (by unfold isFree;rw[HX.out,hx0];rfl)]
    clear hx0
    go_wp2_with (at_builtin;refine wpList_append_int elInt rfl _ _ rfl (w.heap.size+1) _ _ _ rfl (HO.out.alloc _) _ _ (k:Int) _ rfl (by simp) (by omega) (by simp;omega) ?_;intro p' cap' w2 hown1 hg1;have HO1:=Lib.hid hown1;have hE1:Ext w w2:=Ext.own (hEw.alloc _) (HO.out.alloc _) hg1 (by omega);have ec2:=own_far HO.out hg1 hsz ec;have hsz2:w.heap.size<w2.heap.size:=Nat.lt_of_lt_of_le hsz (by have:=hg1.size;simp at this;omega);clear hown1 hg1)
    go_roundw
    case rel=>exact⟨k+1,p',m+1,cap',by omega,by go_num,rfl,by omega,by rw[hfin.out];exact HO1.out,hE1,ec2,hsz2⟩
    case measure=>simp[intOf];omega
   ·have t0:(x==0)=false:=by simp[hx0]
    have hfin:Hid (selN (isFree xs) (k+1)=selN (isFree xs) k):=by
     show _=_;rw[selN,if_neg (by unfold isFree;rw[HX.out];simp[hx0]),List.append_nil]
    clear hx0
    go_wp2
    go_roundw
    case rel=>exact⟨k+1,q,m,c,by omega,by go_num,rfl,by omega,by rw[hfin.out];exact HO.out,hEw,ec,hsz⟩
    case measure=>simp[intOf];omega
  ·have hfin:Hid (selN (isFree xs) k=freeL xs):=by
    show _=_;unfold freeL;rw[hl.out,show k=n by omega]
   go_wp2
   go_ret
   exact ret_ints (by rw[←hfin.out];have:=HO.out.1;simpa using this) (by rw[←hfin.out];exact own_base HO.out (Nat.le_succ _)) hEw
theorem specHf (wide deep:Int)(p:Option Addr)(n cap:Nat)(xs:List Int)(w:World)(hS:Sl w p n cap 1 (ivs xs)):Calls Tryz.prog 79 #[hallV wide deep p n cap] w (RetInts (if hallOk wide deep xs then freeL xs else []) w):=by
 have hl:=hS.ilen
 cases h:hallOk wide deep xs with
 |true=>
  have hb:n≤12:=by unfold hallOk at h;rw[Bool.and_eq_true]at h;have:=shape_bd h.1;omega
  simpa using specHf_ok wide deep p n cap xs w hb hS (fun w' hx=>by have:=specHv wide deep p n cap xs w' (hS.ext hx);rwa[h]at this)
 |false=>simpa using specHf_bad wide deep p n cap w (fun w' hx=>by have:=specHv wide deep p n cap xs w' (hS.ext hx);rwa[h]at this)
set_option maxRecDepth 100000 in set_option maxHeartbeats 1000000 in
theorem implHf_bad (wide deep:Int)(p:Option Addr)(n cap:Nat)(w:World)(HV:Hid (∀w',Ext w w'→Calls Tryz.prog 61 #[hallV wide deep p n cap] w' fun e w''=>e= .returned (.bool false)∧Ext w' w'')):
  Calls Tryz.prog 37 #[hallV wide deep p n cap] w (RetInts [] w):=by
 go_enter Tryz.func37,Tryz.ntmps37
 go_wp2_with fail
 refine(HV.out _ (by exact .alloc (.refl _) _)).mono ?_
 rintro e w1 ⟨rfl,h1⟩
 go_wp2
 go_ret
 exact ret_ints (xs:= []) rfl (World.ownsRow_nil _ _ _ _) (by exact .trans (.alloc (.refl _) _) h1)
set_option maxRecDepth 100000 in set_option maxHeartbeats 1000000 in
theorem implHf_ok (wide deep:Int)(p:Option Addr)(n cap:Nat)(xs:List Int)(w:World)(hn:n≤12)(HS:Hid (Sl w p n cap 1 (ivs xs)))(HV:Hid (∀w',Ext w w'→Calls Tryz.prog 61 #[hallV wide deep p n cap] w' fun e w''=>e= .returned (.bool true)∧Ext w' w'')):
  Calls Tryz.prog 37 #[hallV wide deep p n cap] w (RetInts (freeL xs) w):=by
 have hl:=Lib.hid HS.out.ilen
 go_enter Tryz.func37,Tryz.ntmps37
 go_wp2_with fail
 refine(HV.out _ (by exact .alloc (.refl _) _)).mono ?_
 rintro e w1 ⟨rfl,h1⟩
 have hz1:w.heap.size<w1.heap.size:=Nat.lt_of_lt_of_le (by first|(simp;omega)|simp) h1.sz
 have eb:w1.cell? ⟨w.heap.size,2,none⟩=some (.slice p n cap):=by rw[h1.cells.1 _ _ (by first|(simp;done)|(simp;omega))];simp
 have hx1:Ext w w1:=by exact .trans (.alloc (.refl _) _) h1
 go_wp2
 go_loopw [3,12] (fun v i wr=> ∃(k:Nat) (q:Option Addr) (m c:Nat),k≤n∧i= .int .i64 k∧v= .slice q m c∧m≤k∧wr.ownsRow (w.heap.size+1) TI 1 (.slice q m c) m (ivs (selN (isFree xs) k))∧Ext w wr∧wr.cell? ⟨w.heap.size,2,none⟩=some (.slice p n cap)∧w.heap.size<wr.heap.size) (fun _ i _=>n-(intOf i).toNat)
 case atStart=>exact⟨0,_,0,0,Nat.zero_le _,rfl,rfl,Nat.le_refl _,World.ownsRow_nil _ _ _ _,hx1,eb,hz1⟩
 case round=>
  obtain⟨k,q,m,c,hk,rfl,rfl,hmk,hown,hEw,ec,hsz⟩:=hrel
  have HO:=Lib.hid hown
  clear hown
  by_cases hlt:k<n
  ·obtain⟨b,off,x,rfl,hx,hb,hcell⟩:=(HS.out.ext hEw).int_at hlt
   have HX:=Lib.hid hx
   clear hx
   by_cases hx0:x=0
   ·have t0:(x==0)=true:=by simp[hx0]
    have hfin:Hid (selN (isFree xs) (k+1)=selN (isFree xs) k++ [(k:Int)]):=by
     show _=_;rw[selN,if_pos (by unfold isFree;rw[HX.out,hx0];rfl)]
    clear hx0
    go_wp2_with (at_builtin;refine wpList_append_int elInt rfl _ _ rfl (w.heap.size+1) _ _ _ rfl (HO.out.alloc _) _ _ (k:Int) _ rfl (by simp) (by omega) (by simp;omega) ?_;intro p' cap' w2 hown1 hg1;have HO1:=Lib.hid hown1;have hE1:Ext w w2:=Ext.own (hEw.alloc _) (HO.out.alloc _) hg1 (by omega);have ec2:=own_far HO.out hg1 hsz ec;have hsz2:w.heap.size<w2.heap.size:=Nat.lt_of_lt_of_le hsz (by have:=hg1.size;simp at this;omega);clear hown1 hg1)
    go_roundw
    case rel=>exact⟨k+1,p',m+1,cap',by omega,by go_num,rfl,by omega,by rw[hfin.out];exact HO1.out,hE1,ec2,hsz2⟩
    case measure=>simp[intOf];omega
   ·have t0:(x==0)=false:=by simp[hx0]
    have hfin:Hid (selN (isFree xs) (k+1)=selN (isFree xs) k):=by
     show _=_;rw[selN,if_neg (by unfold isFree;rw[HX.out];simp[hx0]),List.append_nil]
    clear hx0
    go_wp2
    go_roundw
    case rel=>exact⟨k+1,q,m,c,by omega,by go_num,rfl,by omega,by rw[hfin.out];exact HO.out,hEw,ec,hsz⟩
    case measure=>simp[intOf];omega
  ·have hfin:Hid (selN (isFree xs) k=freeL xs):=by
    show _=_;unfold freeL;rw[hl.out,show k=n by omega]
   go_wp2
   go_ret
   exact ret_ints (by rw[←hfin.out];have:=HO.out.1;simpa using this) (by rw[←hfin.out];exact own_base HO.out (Nat.le_succ _)) hEw
theorem implHf (wide deep:Int)(p:Option Addr)(n cap:Nat)(xs:List Int)(w:World)(hS:Sl w p n cap 1 (ivs xs)):Calls Tryz.prog 37 #[hallV wide deep p n cap] w (RetInts (if hallOk wide deep xs then freeL xs else []) w):=by
 have hl:=hS.ilen
 cases h:hallOk wide deep xs with
 |true=>
  have hb:n≤12:=by unfold hallOk at h;rw[Bool.and_eq_true]at h;have:=shape_bd h.1;omega
  simpa using implHf_ok wide deep p n cap xs w hb hS (fun w' hx=>by have:=implHv wide deep p n cap xs w' (hS.ext hx);rwa[h]at this)
 |false=>simpa using implHf_bad wide deep p n cap w (fun w' hx=>by have:=implHv wide deep p n cap xs w' (hS.ext hx);rwa[h]at this)
end Go.Proofs.YteejdnmmpmcmeaaGreatDoor

namespace Go.Proofs.YteejdnmmpmcmeaaGreatDoor
open Go.RowKit
set_option linter.unusedVariables false
def lays240_ren:Go.Shelf.Ren:=⟨fun|240=>153|276=>190|n=>n,fun|0=>0|3=>3|4=>4|5=>5|9=>9|20=>20|37=>22|70=>116|72=>118|75=>120|80=>124|164=>174|n=>n,fun|n=>n⟩
def lays166_ren:Go.Shelf.Ren:=⟨fun|166=>121|240=>153|276=>190|n=>n,fun|0=>0|3=>3|4=>4|5=>5|9=>9|20=>20|37=>22|70=>116|72=>118|75=>120|80=>124|164=>174|n=>n,fun|n=>n⟩
theorem lays166:Go.Proofs.Lays.n166 Tryz.prog lays166_ren:={
 mixed:=by kernel_rfl,
 f166:=Tryz.func121.trans (congrArg some (by kernel_rfl)),
 f240:=Tryz.func153.trans (congrArg some (by kernel_rfl)),
 f276:=Tryz.func190.trans (congrArg some (by kernel_rfl)),
 t0:=Tryz.underlying0,
 a0:=Tryz.isAgg0,
 z0:=Tryz.sizeOf0,
 v0:=Tryz.zeroValue0,
 t3:=Tryz.underlying3,
 a3:=Tryz.isAgg3,
 z3:=Tryz.sizeOf3,
 v3:=Tryz.zeroValue3,
 t4:=Tryz.underlying4,
 a4:=Tryz.isAgg4,
 z4:=Tryz.sizeOf4,
 v4:=Tryz.zeroValue4,
 t9:=Tryz.underlying9,
 a9:=Tryz.isAgg9,
 z9:=Tryz.sizeOf9,
 v9:=Tryz.zeroValue9,
 t20:=Tryz.underlying20,
 a20:=Tryz.isAgg20,
 z20:=Tryz.sizeOf20,
 v20:=Tryz.zeroValue20,
 t37:=Tryz.underlying22,
 a37:=Tryz.isAgg22,
 z37:=Tryz.sizeOf22,
 v37:=Tryz.zeroValue22,
 t70:=Tryz.underlying116,
 a70:=Tryz.isAgg116,
 z70:=Tryz.sizeOf116,
 v70:=Tryz.zeroValue116,
 t72:=Tryz.underlying118,
 a72:=Tryz.isAgg118,
 z72:=Tryz.sizeOf118,
 v72:=Tryz.zeroValue118,
 t75:=Tryz.underlying120,
 a75:=Tryz.isAgg120,
 z75:=Tryz.sizeOf120,
 v75:=Tryz.zeroValue120,
 t164:=Tryz.underlying174,
 a164:=Tryz.isAgg174,
 z164:=Tryz.sizeOf174,
 v164:=Tryz.zeroValue174}
theorem extra166:Go.Proofs.Builder.Extra Tryz.prog lays166_ren:={
 sizeBuilder:=by kernel_rfl
 liesBuilder:=by kernel_rfl
 t5:=Tryz.underlying5
 a5:=Tryz.isAgg5
 z5:=Tryz.sizeOf5
 v5:=Tryz.zeroValue5
 infoByte:=by kernel_rfl
 cellsByte:=by kernel_rfl
 sizeByte:=by kernel_rfl
 neB5:=by decide}
def lays167_ren:Go.Shelf.Ren:=⟨fun|167=>120|240=>153|276=>190|n=>n,fun|0=>0|3=>3|4=>4|5=>5|9=>9|20=>20|37=>22|70=>116|72=>118|75=>120|80=>124|164=>174|n=>n,fun|n=>n⟩
theorem lays167:Go.Proofs.Lays.n167 Tryz.prog lays167_ren:={
 mixed:=by kernel_rfl,
 f167:=Tryz.func120.trans (congrArg some (by kernel_rfl)),
 f240:=Tryz.func153.trans (congrArg some (by kernel_rfl)),
 f276:=Tryz.func190.trans (congrArg some (by kernel_rfl)),
 t0:=Tryz.underlying0,
 a0:=Tryz.isAgg0,
 z0:=Tryz.sizeOf0,
 v0:=Tryz.zeroValue0,
 t4:=Tryz.underlying4,
 a4:=Tryz.isAgg4,
 z4:=Tryz.sizeOf4,
 v4:=Tryz.zeroValue4,
 t5:=Tryz.underlying5,
 a5:=Tryz.isAgg5,
 z5:=Tryz.sizeOf5,
 v5:=Tryz.zeroValue5,
 t9:=Tryz.underlying9,
 a9:=Tryz.isAgg9,
 z9:=Tryz.sizeOf9,
 v9:=Tryz.zeroValue9,
 t20:=Tryz.underlying20,
 a20:=Tryz.isAgg20,
 z20:=Tryz.sizeOf20,
 v20:=Tryz.zeroValue20,
 t37:=Tryz.underlying22,
 a37:=Tryz.isAgg22,
 z37:=Tryz.sizeOf22,
 v37:=Tryz.zeroValue22,
 t70:=Tryz.underlying116,
 a70:=Tryz.isAgg116,
 z70:=Tryz.sizeOf116,
 v70:=Tryz.zeroValue116,
 t72:=Tryz.underlying118,
 a72:=Tryz.isAgg118,
 z72:=Tryz.sizeOf118,
 v72:=Tryz.zeroValue118,
 t75:=Tryz.underlying120,
 a75:=Tryz.isAgg120,
 z75:=Tryz.sizeOf120,
 v75:=Tryz.zeroValue120,
 t164:=Tryz.underlying174,
 a164:=Tryz.isAgg174,
 z164:=Tryz.sizeOf174,
 v164:=Tryz.zeroValue174}
theorem extra167:Go.Proofs.Builder.Extra Tryz.prog lays167_ren:={
 sizeBuilder:=by kernel_rfl
 liesBuilder:=by kernel_rfl
 t5:=Tryz.underlying5
 a5:=Tryz.isAgg5
 z5:=Tryz.sizeOf5
 v5:=Tryz.zeroValue5
 infoByte:=by kernel_rfl
 cellsByte:=by kernel_rfl
 sizeByte:=by kernel_rfl
 neB5:=by decide}
theorem WriteString_k (B b:Nat)(bs:List Value)(s:ByteArray)(w:World)(h:Lib.IsBuilderF 118 5 B b bs w)(hl:bs.length+s.size≤140737488355328)(hB:B≤w.heap.size):
  Calls Tryz.prog 121 #[.pointer (some ⟨b,0,none⟩),.string s] w fun e w'=>e= .returned (.tuple #[.int .i64 s.size,.nilIface])∧Lib.BuilderAtF 118 5 B b (.pointer (some ⟨b,0,none⟩)) (bs++Lib.strCells s) w'∧Below B w w'∧Lib.OthersKept 5 (some b) w w':=
 Any.Builder_WriteString_k lays166 extra166 B b bs s w h hl hB
theorem WriteByte_k (B b:Nat)(bs:List Value)(c:Int)(w:World)(h:Lib.IsBuilderF 118 5 B b bs w)(hl:bs.length+1≤140737488355328)(hB:B≤w.heap.size):
  Calls Tryz.prog 120 #[.pointer (some ⟨b,0,none⟩),.int .u8 c] w fun e w'=>e= .returned .nilIface∧Lib.BuilderAtF 118 5 B b (.pointer (some ⟨b,0,none⟩)) (bs++ [.int .u8 c]) w'∧Below B w w'∧Lib.OthersKept 5 (some b) w w':=
 Any.Builder_WriteByte_k lays167 extra167 B b bs c w h hl hB
end Go.Proofs.YteejdnmmpmcmeaaGreatDoor

