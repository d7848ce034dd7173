/-
  Texts of this proof, packed (@packed).
-/
import Derived.Deep.RegionHeld3
import Derived.Sort.OwnSortedInts
import Derived.Test.YtndcnflchkfaeaaDoorShelf
import Derived.Test.YtndcnflchkfaeaaDoorK1
namespace Go.Proofs.YtndcnflchkfaeaaDoor
open Go.RowKit
set_option linter.unusedVariables false
def RetInts (xs:List Int)(w:World)(e:Ending)(w':World):Prop:=
 ∃p cap,e= .returned (.slice p xs.length cap)∧w'.ownsRow w.heap.size TI 1 (.slice p xs.length cap) xs.length (ivs xs)∧Ext w w'
theorem ret_ints {p:Option Addr}{n cap:Nat}{xs:List Int}{w w':World}(hn:xs.length=n)(ho:w'.ownsRow w.heap.size TI 1 (.slice p n cap) n (ivs xs))(hx:Ext w w'):RetInts xs w (.returned (.slice p n cap)) w':=by
 subst hn;exact⟨p,cap,rfl,ho,hx⟩
theorem insL_at: ∀(xs:List Int) (k:Nat) (x:Int),(∀y∈xs.take k,y<x)→(∀y,xs[k]? =some y→ ¬y<x)→insL x xs=xs.take k++x::xs.drop k:=by
 intro xs
 induction xs with
 |nil=>intro k x _ _;simp[insL]
 |cons y ys ih=>
  intro k x h1 h2
  cases k with
  |zero=>
   have:=h2 y rfl
   simp[insL,this]
  |succ k=>
   have h3:y<x:=h1 y (by simp)
   rw[insL,if_pos h3,ih k x (fun z hz=>h1 z (by simp[hz])) (fun z hz=>h2 z (by simpa using hz))]
   simp
theorem insL_len (x:Int)(xs:List Int):(insL x xs).length=xs.length+1:=(insL_perm x xs).length_eq
theorem sl_drop {w:World}{b off n cap k:Nat}{xs:List Int}(h:Sl w (some ⟨b,off,none⟩) n cap 1 (ivs xs))(hk:k≤n):Sl w (some ⟨b,off+k,none⟩) (n-k) (cap-k) 1 (ivs (xs.drop k)):=by
 have hl:=h.ilen
 have hle:=h.le
 have hmx:=h.mx
 refine⟨by simp;omega,by omega,by omega,fun h0=> ?_⟩
 obtain⟨b',off',e,hb,hc⟩:=h.rd (by omega)
 injection e with e;injection e with e1 e2
 subst e1 e2
 refine⟨_,_,rfl,hb,fun j hj=> ?_⟩
 rw[Nat.add_assoc,hc (k+j) (by omega)]
 simp
theorem sl_zero (w:World)(p:Option Addr){c:Nat}(hc:c≤maxLen):Sl w p 0 c 1 (ivs []):=⟨by simp,Nat.zero_le _,hc,fun h=>absurd h (by omega)⟩
set_option maxRecDepth 100000 in
set_option maxHeartbeats 1000000 in
theorem l1Sorted_any (p:Option Addr)(n cap:Nat)(xs:List Int)(x:Int)(w:World)(hn:n≤1000000)(hS:Sl w p n cap 1 (ivs xs)):
  Calls Tryd.prog 64 #[.slice p n cap,.int .i64 x] w (RetInts (insL x xs) w):=by
 have hl:=Lib.hid hS.ilen
 have hncap:=hS.le
 have hcm:=hS.mx
 unfold maxLen at hcm
 have HS:=Lib.hid hS
 clear hS
 go_enter Tryd.func64,Tryd.ntmps64
 go_wp2
 go_loopw [5,6] (fun v i wr=> ∃(k:Nat) (q:Option Addr) (c:Nat),k≤n∧i= .int .i64 k∧v= .slice q k c∧wr.ownsRow w.heap.size TI 1 (.slice q k c) k (ivs (xs.take k))∧(∀y∈xs.take k,y<x)∧Ext w wr) (fun _ i _=>n-(intOf i).toNat)
 case atStart=>exact⟨0,_,0,Nat.zero_le _,rfl,rfl,World.ownsRow_made _ #[] 0 (Nat.le_refl _) (by simp[maxLen]) rfl,by simp,by exact .alloc (.refl _) _⟩
 case round=>
  obtain⟨k,q,c,hk,rfl,rfl,hown,hlt',hE⟩:=hrel
  have HO:=Lib.hid hown
  have HL:=Lib.hid hlt'
  have hsz:=hE.sz
  clear hown hlt'
  by_cases hlt:k<n
  ·obtain⟨b,off,y,rfl,hx,hb,hcell⟩:=(HS.out.ext hE).int_at hlt
   have HX:=Lib.hid hx
   clear hx
   by_cases hy:y<x
   ·have hfin:Hid (∀z∈xs.take (k+1),z<x):=by
     show∀z∈xs.take (k+1),z<x
     rw[take_snocL HX.out]
     intro z hz
     rcases List.mem_append.1 hz with h|h
     ·exact HL.out z h
     ·simp at h;omega
    go_wp2_with (at_builtin;refine wpList_append_int elInt rfl _ _ rfl w.heap.size _ _ _ rfl (HO.out.alloc _) _ _ y _ rfl (by simp) (by omega) (by simp;omega) ?_;intro p' cap' w1 hown1 hg1;have HO1:=Lib.hid hown1;have hE1:Ext w w1:=Ext.own (hE.alloc _) (HO.out.alloc _) hg1 (Nat.le_refl _);clear hown1 hg1)
    go_roundw
    case rel=>exact⟨k+1,p',cap',by omega,by go_num,rfl,by rw[take_snocL HX.out];exact HO1.out,hfin.out,hE1⟩
    case measure=>simp[intOf];omega
   ·have hfin:Hid (insL x xs=xs.take k++x::xs.drop k):=insL_at xs k x HL.out (fun z hz=>by rw[HX.out]at hz;injection hz with hz;subst hz;exact hy)
    have i1:(0:Int)≤(k:Int):=by omega
    have i2:(k:Int)≤(n:Int):=by omega
    have hck: ¬cap=k:=by omega
    go_wp2
    go_region_law ((first
     |(refine step_append_sl _ elInt (by rfl) _ _ (by rfl) w.heap.size _ k (ivs (xs.take k)) (by rfl) (by first|exact HO.out|exact HO.out.alloc _|exact(HO.out.alloc _).drew|exact(HO.out.drew).alloc _|exact HO.out.drew) _ 1 1 [iv x] (by rfl) (by first|exact Sl.new wr #[iv x] _ 1 rfl (by decide)|exact(Sl.new wr #[iv x] _ 1 rfl (by decide)).ext (Ext.drew (Ext.refl _))|exact Sl.new wr.drew #[iv x] _ 1 rfl (by decide)) (ivs_one [x]) (by omega) (by simp;omega) ?_
       intro p1 c1 w1 hown1 hg1
       have hE1:Ext w w1:=Ext.own (by exact .drew (.alloc hE _)) (by first|exact HO.out|exact HO.out.alloc _|exact(HO.out.alloc _).drew|exact(HO.out.drew).alloc _|exact HO.out.drew) hg1 (Nat.le_refl _)
       have HO1:=Lib.hid hown1
       have HS1:=Lib.hid (HS.out.ext hE1)
       have hz1:=hE1.sz
       clear hown1 hg1)
     |(refine step_append_sl _ elInt (by rfl) _ _ (by rfl) w.heap.size _ (k+1) (ivs (xs.take k)++ [iv x]) (by rfl) HO1.out _ (n-k) (cap-k) (ivs (xs.drop k)) (by rfl) (sl_drop HS1.out (by omega)) (ivs_one _) (by omega) (by omega) ?_
       intro p2 c2 w2 hown2 hg2
       have hE2:Ext w w2:=Ext.own hE1 HO1.out hg2 (Nat.le_refl _)
       have HO2:=Lib.hid hown2
       clear hown2 hg2)))
    all_goals go_wp2
    all_goals go_ret
    all_goals exact ret_ints (by rw[hfin.out];simp;rw[hl.out];omega) (by rw[hfin.out];simpa using HO2.out) hE2
  ·obtain rfl:k=n:=by omega
   have hfin:Hid (insL x xs=xs++ [x]):=by
    have:=insL_at xs k x HL.out (fun z hz=>by rw[List.getElem?_eq_none (by rw[hl.out];exact Nat.le_refl _)]at hz;cases hz)
    show _=_
    rw[this,List.take_of_length_le (by rw[hl.out];exact Nat.le_refl _),List.drop_eq_nil_of_le (by rw[hl.out];exact Nat.le_refl _)]
   have i1:(0:Int)≤(k:Int):=by omega
   go_wp2
   go_region_law ((first
    |(refine step_append_sl _ elInt (by rfl) _ _ (by rfl) w.heap.size _ k (ivs (xs.take k)) (by rfl) (by first|exact HO.out|exact HO.out.alloc _|exact(HO.out.alloc _).drew|exact(HO.out.drew).alloc _|exact HO.out.drew) _ 1 1 [iv x] (by rfl) (by first|exact Sl.new wr #[iv x] _ 1 rfl (by decide)|exact(Sl.new wr #[iv x] _ 1 rfl (by decide)).ext (Ext.drew (Ext.refl _))|exact Sl.new wr.drew #[iv x] _ 1 rfl (by decide)) (ivs_one [x]) (by omega) (by simp;omega) ?_
      intro p1 c1 w1 hown1 hg1
      have hE1:Ext w w1:=Ext.own (by exact .drew (.alloc hE _)) (by first|exact HO.out|exact HO.out.alloc _|exact(HO.out.alloc _).drew|exact(HO.out.drew).alloc _|exact HO.out.drew) hg1 (Nat.le_refl _)
      have HO1:=Lib.hid hown1
      have HS1:=Lib.hid (HS.out.ext hE1)
      have hz1:=hE1.sz
      clear hown1 hg1)
    |(refine step_append_sl _ elInt (by rfl) _ _ (by rfl) w.heap.size _ (k+1) (ivs (xs.take k)++ [iv x]) (by rfl) HO1.out _ 0 _ (ivs []) (by rfl) (sl_zero _ _ (by unfold maxLen;omega)) (ivs_one _) (by omega) (by omega) ?_
      intro p2 c2 w2 hown2 hg2
      have hE2:Ext w w2:=Ext.own hE1 HO1.out hg2 (Nat.le_refl _)
      have HO2:=Lib.hid hown2
      clear hown2 hg2)))
   all_goals go_wp2
   all_goals go_ret
   all_goals exact ret_ints (by rw[hfin.out];simp;rw[hl.out]) (by rw[hfin.out];have:=HO2.out;rw[List.take_of_length_le (by rw[hl.out];exact Nat.le_refl _)]at this;simpa using this) hE2
end Go.Proofs.YtndcnflchkfaeaaDoor

namespace Go.Proofs.YtndcnflchkfaeaaDoor
open Go.RowKit
set_option linter.unusedVariables false
theorem merge_sortL (xs:List Int):(xs.mergeSort fun x y=>decide (x≤y))=sortL xs:=by
 refine sortL_uniq (List.mergeSort_perm _ _) ?_
 have:=List.pairwise_mergeSort (le:=fun x y:Int=>decide (x≤y)) (fun a b c h1 h2=>by simp at*;omega) (fun a b=>by simp;omega) xs
 simpa using this
theorem sort_any (B:Nat)(p:Option Addr)(n cap:Nat)(xs:List Int)(w:World)(h:w.ownsRow B TI 1 (.slice p n cap) n (ivs xs))(hn:n≤1000000):
  Calls Tryd.prog 62 #[.slice p n cap] w fun e w'=>e= .returned (.tuple #[])∧w'.ownsRow B TI 1 (.slice p n cap) n (ivs (sortL xs))∧w.grownBy w' (Value.slice p n cap).ownBlock:=by
 have hl:xs.length=n:=by have:=h.1;simpa using this
 subst hl
 by_cases h0:xs.length=0
 ·obtain rfl:xs= []:=List.eq_nil_of_length_eq_zero h0
  refine(Tryd.slices_Sort_int_none p cap w).mono ?_
  rintro e w' ⟨rfl,rfl⟩
  exact⟨rfl,h,World.grownBy.refl _ _⟩
 ·rcases h.2 with⟨h1,h2⟩|⟨g,cap',cur,h1,hb,hg,hnc,hm,hs,ht⟩
  ·exact absurd h2 h0
  ·injection h1 with e1 e2 e3
   subst e1 e3
   refine(Tryd.slices_Sort_int g 0 cap xs w (Go.holds_of_blockI hg (by simpa using ht)) (Array.getElem?_eq_some_iff.1 hg).1 (by omega)).mono ?_
   rintro e w' ⟨rfl,k,os,rfl⟩
   rw[merge_sortL]
   exact⟨rfl,Go.ownsRow_sortedI (sortL_len xs) hb hg hnc hm hs,Go.grownBy_sortedI _⟩
theorem own_ext {w w':World}{B n sz:Nat}{e:TypeId}{v:Value}{xs:List Value}(ho:w.ownsRow B e sz v n xs)(h:Ext w w'):w'.ownsRow B e sz v n xs:=
 ho.kept (row:=none) ⟨h.os,h.tape,h.output,h.size,fun k hk _=>h.block k hk⟩ (by cases v.ownBlock<;>simp)
theorem own_base {w:World}{B B' n sz:Nat}{e:TypeId}{v:Value}{xs:List Value}(h:w.ownsRow B e sz v n xs)(hb:B'≤B):w.ownsRow B' e sz v n xs:=by
 refine⟨h.1,?_⟩
 rcases h.2 with h2|⟨g,cap',cur,e1,hb',r⟩
 ·exact .inl h2
 ·exact .inr ⟨g,cap',cur,e1,Nat.le_trans hb hb',r⟩
end Go.Proofs.YtndcnflchkfaeaaDoor

namespace Go.Proofs.YtndcnflchkfaeaaDoor
open Go.RowKit
set_option linter.unusedVariables false
structure IsHouse (w:World) (h:HouseD) (p:Option Addr) (n cap:Nat) (q:Option Addr) (m c2:Nat):Prop where
 cells:Sl w p n cap 1 (ivs h.cells)
 vs:Sl w q m c2 4 (h.vs.flatMap visitCells)
theorem IsHouse.ext {w w':World}{h:HouseD}{p q:Option Addr}{n cap m c2:Nat}(i:IsHouse w h p n cap q m c2)(hx:Ext w w'):IsHouse w' h p n cap q m c2:=⟨i.cells.ext hx,i.vs.ext hx⟩
theorem visit_at {w:World}{q:Option Addr}{m c2:Nat}{vs:List Visit4}(h:Sl w q m c2 4 (vs.flatMap visitCells)){k:Nat}(hk:k<m):
  ∃b off a0 a1 a2 a3,q=some ⟨b,off,none⟩∧vs[k]? =some (a0,a1,a2,a3)∧b<w.heap.size∧w.cell? ⟨b,off+k*4,none⟩=some (.int .i64 a0)∧w.cell? ⟨b,off+k*4+1,none⟩=some (.int .i64 a1)∧w.cell? ⟨b,off+k*4+2,none⟩=some (.int .i64 a2)∧w.cell? ⟨b,off+k*4+3,none⟩=some (.int .i64 a3):=by
 obtain⟨b,off,x,hp,hx,hb,hc⟩:=Sl.at_ (sz:=4) (f:=visitCells) (fun _=>rfl) h hk (by omega)
 obtain⟨a0,a1,a2,a3⟩:=x
 exact⟨b,off,a0,a1,a2,a3,hp,hx,hb,hc 0 (by omega),hc 1 (by omega),hc 2 (by omega),hc 3 (by omega)⟩
def OwnZ (w:World)(p:Option Addr)(n c:Nat)(xs:List Int):Prop:=Sl w p n c 1 (ivs xs)
theorem OwnZ.ext {w w':World}{p:Option Addr}{n c:Nat}{xs:List Int}(h:OwnZ w p n c xs)(hx:Ext w w'):Sl w' p n c 1 (ivs xs):=Sl.ext h hx
end Go.Proofs.YtndcnflchkfaeaaDoor

namespace Go.Proofs.YtndcnflchkfaeaaDoor
open Go.RowKit
set_option linter.unusedVariables false
def vix (id:Int)(vs:List Visit4):Int:=if vs.any (fun v=>v.1==id)then(vs.findIdx (fun v=>v.1==id):Int)else -1
theorem vix_hit {id:Int}{vs:List Visit4}{k:Nat}{v:Visit4}(hv:vs[k]? =some v) (h:v.1=id) (hp:(vs.take k).any (fun v=>v.1==id)=false):vix id vs=k:=by
 have hlt:k<vs.length:=(List.getElem?_eq_some_iff.1 hv).1
 have e:vs[k]=v:=by have:=(List.getElem?_eq_some_iff.1 hv).2;exact this
 have ha:vs.any (fun v=>v.1==id)=true:=List.any_eq_true.2 ⟨v,List.mem_of_getElem? hv,by simp[h]⟩
 have hi:vs.findIdx (fun v=>v.1==id)=k:=by
  rw[List.findIdx_eq hlt]
  refine⟨by simp[e,h],fun j hj=> ?_⟩
  have:=List.any_eq_false.1 hp vs[j] (by
   rw[List.mem_take_iff_getElem];exact⟨j,by omega,rfl⟩)
  simpa using this
 unfold vix;rw[if_pos ha,hi]
theorem vix_miss {id:Int}{vs:List Visit4}(hp:vs.any (fun v=>v.1==id)=false):vix id vs= -1:=by unfold vix;simp[hp]
theorem any_snoc {id:Int}{vs:List Visit4}{k:Nat}{v:Visit4}(hv:vs[k]? =some v) (h: ¬v.1=id) (hp:(vs.take k).any (fun v=>v.1==id)=false):(vs.take (k+1)).any (fun v=>v.1==id)=false:=by
 rw[take_snocL hv,List.any_append,hp];simp[h]
end Go.Proofs.YtndcnflchkfaeaaDoor

namespace Go.Proofs.YtndcnflchkfaeaaDoor
open Go.RowKit
set_option linter.unusedVariables false
set_option linter.unusedSimpArgs false
def bookOk (b:Visit4):Bool:=decide (1≤b.1∧b.1≤99∧0≤b.2.1∧b.2.1≤29∧b.2.1+1≤b.2.2.1∧b.2.2.1≤30∧0≤b.2.2.2∧b.2.2.2≤99)
def noBook (id:Int)(bs:List Visit4):Bool:= !bs.any (fun v=>v.1==id)
def booksGo (bs:List Visit4):Nat→Bool
 |0=>true
 |k+1=>booksGo bs k&&(match bs[k]? with|some b=>bookOk b&&noBook b.1 (bs.take k)|none=>true)
def booksOk (bs:List Visit4):Bool:=decide (bs.length≤7)&&booksGo bs bs.length
theorem booksGo_le {bs:List Visit4}{j:Nat}: ∀ {k:Nat},j≤k→booksGo bs k=true→booksGo bs j=true:=by
 intro k
 induction k with
 |zero=>
  intro h1 h2
  obtain rfl:j=0:=by omega
  exact h2
 |succ k ih=>
  intro h1 h2
  by_cases h:j=k+1
  ·subst h;exact h2
  ·simp only[booksGo,Bool.and_eq_true]at h2
   exact ih (by omega) h2.1
theorem booksGo_no {bs:List Visit4}{k:Nat}{b:Visit4}(hk:bs[k]? =some b) (h:bookOk b=false∨noBook b.1 (bs.take k)=false):booksOk bs=false:=by
 cases hq:booksOk bs with
 |false=>rfl
 |true=>
  have hlt:k<bs.length:=(List.getElem?_eq_some_iff.1 hk).1
  simp only[booksOk,Bool.and_eq_true]at hq
  have:=booksGo_le (j:=k+1) (by omega) hq.2
  simp only[booksGo,hk,Bool.and_eq_true]at this
  rcases h with h|h
  ·rw[this.2.1]at h;simp at h
  ·rw[this.2.2]at h;simp at h
theorem booksGo_step {bs:List Visit4}{k:Nat}{b:Visit4}(hk:bs[k]? =some b) (hg:booksGo bs k=true) (h1:bookOk b=true) (h2:noBook b.1 (bs.take k)=true):booksGo bs (k+1)=true:=by
 simp[booksGo,hk,hg,h1,h2]
theorem booksGo_iff (bs:List Visit4): ∀k,k≤bs.length→(booksGo bs k=true↔(∀b∈bs.take k,bookOk b=true)∧((bs.take k).map (·.1)).Nodup):=by
 intro k
 induction k with
 |zero=>intro _;simp[booksGo]
 |succ k ih=>
  intro hk
  have hb:bs[k]? =some bs[k]:=List.getElem?_eq_getElem (by omega)
  rw[take_snocL hb]
  simp only[booksGo,hb,Bool.and_eq_true,ih (by omega),List.map_append,List.map_cons,List.map_nil,List.nodup_append,List.mem_append,List.mem_singleton]
  constructor
  ·rintro⟨⟨h1,h2⟩,h3,h4⟩
   refine⟨?_,h2,by simp,?_⟩
   ·rintro b (hb|rfl)
    ·exact h1 b hb
    ·exact h3
   ·intro x hx y hy e
    subst hy;subst e
    obtain⟨v,hv,hv1⟩:=List.mem_map.1 hx
    simp only[noBook,Bool.not_eq_true',List.any_eq_false]at h4
    exact absurd (by simpa using hv1) (h4 v hv)
  ·rintro⟨h1,h2,_,h4⟩
   refine⟨⟨fun b hb=>h1 b (.inl hb),h2⟩,h1 _ (.inr rfl),?_⟩
   simp only[noBook,Bool.not_eq_true',List.any_eq_false]
   intro v hv
   have:=h4 v.1 (List.mem_map_of_mem hv) bs[k].1 rfl
   simpa using this
theorem booksOk_iff (bs:List Visit4):booksOk bs=true↔bs.length≤7∧(∀b∈bs,bookOk b=true)∧(bs.map (·.1)).Nodup:=by
 simp only[booksOk,Bool.and_eq_true,decide_eq_true_eq]
 rw[booksGo_iff bs bs.length (Nat.le_refl _),List.take_length]
theorem booksOk_perm {a b:List Visit4}(h:a.Perm b):booksOk a=booksOk b:=by
 apply Bool.eq_iff_iff.2
 rw[booksOk_iff,booksOk_iff,h.length_eq,(h.map _).nodup_iff]
 constructor
 ·rintro⟨q1,q2,q3⟩;exact⟨q1,fun x hx=>q2 x (h.mem_iff.2 hx),q3⟩
 ·rintro⟨q1,q2,q3⟩;exact⟨q1,fun x hx=>q2 x (h.mem_iff.1 hx),q3⟩
def inHour (h:Int)(b:Visit4):Bool:=decide (b.2.1≤h∧h<b.2.2.1)
def booksAt (bs:List Visit4)(h:Int):Nat:=(bs.filter (inHour h)).length
def mostTo (bs:List Visit4):Nat→Int
 |0=>0
 |k+1=>max (mostTo bs k) (booksAt bs k:Int)
def booksMost (bs:List Visit4):Int:=if booksOk bs then mostTo bs 30 else -1
theorem booksAt_perm {a b:List Visit4}(h:a.Perm b)(t:Int):booksAt a t=booksAt b t:=(h.filter _).length_eq
theorem mostTo_perm {a b:List Visit4}(h:a.Perm b): ∀k,mostTo a k=mostTo b k:=by
 intro k
 induction k with
 |zero=>rfl
 |succ k ih=>rw[mostTo,mostTo,ih,booksAt_perm h]
theorem booksMost_perm {a b:List Visit4}(h:a.Perm b):booksMost a=booksMost b:=by
 unfold booksMost;rw[booksOk_perm h,mostTo_perm h]
theorem booksAt_le (bs:List Visit4)(h:Int):booksAt bs h≤bs.length:=List.length_filter_le _ _
def byKey (f:Nat→Int)(n:Nat):Nat→List Nat
 |0=> []
 |h+1=>byKey f n h++(List.range n).filter (fun k=>f k==(h:Int))
def lexLt (f:Nat→Int)(a b:Nat):Prop:=f a<f b∨f a=f b∧a<b
theorem byKey_mem (f:Nat→Int)(n:Nat): ∀h k,k∈byKey f n h↔k<n∧0≤f k∧f k<h:=by
 intro h
 induction h with
 |zero=>intro k;simp only[byKey,List.not_mem_nil,false_iff];omega
 |succ h ih=>intro k;simp only[byKey,List.mem_append,ih,List.mem_filter,List.mem_range,beq_iff_eq];omega
theorem byKey_sorted (f:Nat→Int)(n:Nat): ∀h,(byKey f n h).Pairwise (lexLt f):=by
 intro h
 induction h with
 |zero=>simp[byKey]
 |succ h ih=>
  simp only[byKey,List.pairwise_append]
  refine⟨ih,?_,?_⟩
  ·have:=(List.pairwise_lt_range (n:=n)).filter (fun k=>f k==(h:Int))
   refine List.Pairwise.imp_of_mem ?_ this
   intro a b ha hb hab
   simp only[List.mem_filter,beq_iff_eq]at ha hb
   exact .inr ⟨by omega,hab⟩
  ·intro a ha b hb
   rw[byKey_mem]at ha
   simp only[List.mem_filter,beq_iff_eq]at hb
   exact .inl (by omega)
theorem lex_nodup {f:Nat→Int}{l:List Nat}(h:l.Pairwise (lexLt f)):l.Nodup:=by
 refine List.Pairwise.imp ?_ h
 intro a b hab e
 subst e
 rcases hab with h|⟨_,h⟩<;>omega
theorem byKey_perm (f:Nat→Int)(n H:Nat)(hf: ∀k,k<n→0≤f k∧f k<H):(byKey f n H).Perm (List.range n):=by
 rw[List.perm_ext_iff_of_nodup (lex_nodup (byKey_sorted f n H)) List.nodup_range]
 intro k
 rw[byKey_mem,List.mem_range]
 exact⟨fun h=>h.1,fun h=>⟨h,hf k h⟩⟩
theorem byKey_uniq (f:Nat→Int)(n H:Nat)(hf: ∀k,k<n→0≤f k∧f k<H){l:List Nat}(hp:l.Perm (List.range n))(hs:l.Pairwise (lexLt f)):l=byKey f n H:=
 List.Perm.eq_of_pairwise (fun a b _ _ h1 h2=>by rcases h1 with h1|⟨h1,h3⟩<;>rcases h2 with h2|⟨h2,h4⟩<;>omega) hs (byKey_sorted f n H) (hp.trans (byKey_perm f n H hf).symm)
def keepStep (bs:List Visit4)(places:Int)(s:List Visit4×List Int)(k:Nat):List Visit4×List Int:=
 match bs[k]? with
 |some b=>if booksMost (s.1++ [b])≤places then(s.1++ [b],s.2++ [b.1])else s
 |none=>s
def toOf (bs:List Visit4)(k:Nat):Int:=match bs[k]? with|some b=>b.2.2.1|none=>0
def fromOf (bs:List Visit4)(k:Nat):Int:=match bs[k]? with|some b=>b.2.1|none=>0
def keepRun (bs:List Visit4)(places:Int)(ks:List Nat):List Visit4×List Int:=ks.foldl (keepStep bs places) ([],[])
def booksKeep (bs:List Visit4)(places:Int):List Int:=if booksOk bs=true∧0≤places then sortL (keepRun bs places (byKey (toOf bs) bs.length 31)).2 else []
end Go.Proofs.YtndcnflchkfaeaaDoor

namespace Go.Proofs.YtndcnflchkfaeaaDoor
open Go.RowKit
set_option linter.unusedVariables false
set_option linter.unusedSimpArgs false
def Fits (k:Int)(F:List Visit4):Prop:= ∀h:Nat,h<30→(booksAt F h:Int)≤k
theorem booksAt_append (a b:List Visit4)(h:Int):booksAt (a++b) h=booksAt a h+booksAt b h:=by simp[booksAt]
theorem booksAt_cons (e:Visit4)(b:List Visit4)(h:Int):booksAt (e::b) h=(if inHour h e then 1 else 0)+booksAt b h:=by
 unfold booksAt;rw[List.filter_cons];split<;>simp<;>omega
theorem booksAt_sub {a b:List Visit4}(h:a.Sublist b)(t:Int):booksAt a t≤booksAt b t:=(h.filter _).length_le
theorem fits_sub {k:Int}{a b:List Visit4}(h:a.Sublist b)(hf:Fits k b):Fits k a:=fun t ht=>by
 have:=booksAt_sub h (t:Int);have:=hf t ht;omega
theorem least_from: ∀(S:List Visit4),S≠ []→ ∃f,f∈S∧ ∀g∈S,f.2.1≤g.2.1
 | [],h=>absurd rfl h
 | [a],_=>⟨a,by simp,by simp⟩
 |a::b::r,_=>by
  obtain⟨f,hf,hm⟩:=least_from (b::r) (by simp)
  by_cases h:a.2.1≤f.2.1
  ·refine⟨a,by simp,fun g hg=> ?_⟩
   rcases List.mem_cons.1 hg with rfl|hg
   ·omega
   ·have:=hm g hg;omega
  ·refine⟨f,by simp[hf],fun g hg=> ?_⟩
   rcases List.mem_cons.1 hg with rfl|hg
   ·omega
   ·exact hm g hg
theorem booksAt_erase {S:List Visit4}{f:Visit4}(hf:f∈S)(h:Int):booksAt S h=(if inHour h f then 1 else 0)+booksAt (S.erase f) h:=by
 rw[←booksAt_cons]
 exact((List.perm_cons_erase hf).filter _).length_eq
open Classical in
noncomputable def greedy (k:Int):List Visit4→List Visit4→List Visit4
 |kept,[]=>kept
 |kept,e::r=>greedy k (if Fits k (kept++ [e])then kept++ [e]else kept) r
theorem greedy_best (k:Int): ∀(L kept S:List Visit4),L.Pairwise (fun a b=>a.2.2.1≤b.2.2.1)→S.Sublist L→Fits k (kept++S)→kept.length+S.length≤(greedy k kept L).length:=by
 intro L
 induction L with
 |nil=>
  intro kept S _ hs _
  have:=List.sublist_nil.1 hs
  subst this;simp[greedy]
 |cons e r ih=>
  intro kept S hp hs hf
  have hp2:=List.pairwise_cons.1 hp
  rw[greedy]
  by_cases hx:Fits k (kept++ [e])
  ·rw[if_pos hx]
   rcases List.sublist_cons_iff.1 hs with hs|⟨S',rfl,hs'⟩
   ·by_cases hne:S= []
    ·subst hne
     have:=ih (kept++ [e]) [] hp2.2 (List.nil_sublist _) (by simpa using hx)
     simp at this⊢;omega
    ·obtain⟨f,hfS,hm⟩:=least_from S hne
     have hfr:f∈r:=hs.subset hfS
     have hto:=hp2.1 f hfr
     have:=ih (kept++ [e]) (S.erase f) hp2.2 (List.erase_sublist.trans hs) (fun h hh=>by
      have h1:=hf h hh
      have h2:=hx h hh
      rw[booksAt_append]at h1 h2⊢
      rw[booksAt_append,booksAt_cons e []]
      rw[booksAt_cons e []]at h2
      have h3:=booksAt_erase hfS (h:Int)
      have h0:booksAt [] (h:Int)=0:=rfl
      rw[h0]at h2⊢
      by_cases he:inHour h e=true
      ·rw[if_pos he]at h2⊢
       by_cases hfh:inHour h f=true
       ·rw[if_pos hfh]at h3;omega
       ·have hz:booksAt S h=0:=by
         unfold booksAt
         rw[List.length_eq_zero_iff,List.filter_eq_nil_iff]
         intro g hg hgh
         apply hfh
         have:=hm g hg
         simp only[inHour,decide_eq_true_eq]at he hgh⊢
         omega
        rw[hz]at h3;omega
      ·rw[if_neg he]at h2⊢;omega)
     rw[List.length_erase_of_mem hfS]at this
     have hpos:0<S.length:=List.length_pos_of_mem hfS
     simp at this;omega
   ·have:=ih (kept++ [e]) S' hp2.2 hs' (by simpa using hf)
    simp at this⊢;omega
  ·rw[if_neg hx]
   rcases List.sublist_cons_iff.1 hs with hs|⟨S',rfl,hs'⟩
   ·exact ih kept S hp2.2 hs hf
   ·exact absurd (fits_sub (List.append_sublist_append_left kept |>.2 (List.cons_sublist_cons.2 (List.nil_sublist S'))) hf) hx
theorem greedy_fits (k:Int): ∀(L kept:List Visit4),Fits k kept→Fits k (greedy k kept L)
 | [],kept,h=>h
 |e::r,kept,h=>by
  rw[greedy];split
  ·exact greedy_fits k r _ ‹_›
  ·exact greedy_fits k r _ h
theorem greedy_sub (k:Int): ∀(L kept:List Visit4),∃S,S.Sublist L∧greedy k kept L=kept++S
 | [],kept=>⟨[],List.Sublist.refl _,by simp[greedy]⟩
 |e::r,kept=>by
  rw[greedy];split
  ·obtain⟨S,h1,h2⟩:=greedy_sub k r (kept++ [e])
   exact⟨e::S,List.cons_sublist_cons.2 h1,by simp[h2]⟩
  ·obtain⟨S,h1,h2⟩:=greedy_sub k r kept
   exact⟨S,h1.cons _,h2⟩
end Go.Proofs.YtndcnflchkfaeaaDoor

namespace Go.Proofs.YtndcnflchkfaeaaDoor
open Go.RowKit
set_option linter.unusedVariables false
set_option linter.unusedSimpArgs false
theorem mostTo_le {bs:List Visit4}{k:Int}(hk:0≤k): ∀n,mostTo bs n≤k↔ ∀h:Nat,h<n→(booksAt bs h:Int)≤k:=by
 intro n
 induction n with
 |zero=>simp[mostTo,hk]
 |succ n ih=>
  rw[mostTo]
  constructor
  ·intro h t ht
   by_cases e:t=n
   ·subst e;omega
   ·exact(ih.1 (by omega)) t (by omega)
  ·intro h
   have h1:=ih.2 (fun t ht=>h t (by omega))
   have h2:=h n (by omega)
   omega
theorem most_fits {bs:List Visit4}{k:Int}(ho:booksOk bs=true)(hk:0≤k):booksMost bs≤k↔Fits k bs:=by
 unfold booksMost;rw[if_pos ho];exact mostTo_le hk 30
theorem booksOk_sub {a b:List Visit4}(h:a.Sublist b)(hb:booksOk b=true):booksOk a=true:=by
 rw[booksOk_iff]at hb⊢
 exact⟨Nat.le_trans h.length_le hb.1,fun x hx=>hb.2.1 x (h.subset hx),hb.2.2.sublist (h.map _)⟩
abbrev pickOf (bs:List Visit4)(ks:List Nat):List Visit4:=ks.filterMap (fun k=>bs[k]?)
theorem keep_greedy (bs:List Visit4)(p:Int)(hp:0≤p): ∀(ks:List Nat) (kept:List Visit4),booksOk (kept++pickOf bs ks)=true→
  ks.foldl (keepStep bs p) (kept,kept.map (·.1))=(greedy p kept (pickOf bs ks),(greedy p kept (pickOf bs ks)).map (·.1)):=by
 intro ks
 induction ks with
 |nil=>intro kept _;simp[greedy,pickOf]
 |cons k ks ih=>
  intro kept hb
  rw[List.foldl_cons]
  cases hk:bs[k]? with
  |none=>
   have e1:pickOf bs (k::ks)=pickOf bs ks:=by simp[pickOf,hk]
   rw[e1]at hb⊢
   rw[show keepStep bs p (kept,kept.map (·.1)) k=(kept,kept.map (·.1)) by simp[keepStep,hk]]
   exact ih kept hb
  |some b=>
   have e1:pickOf bs (k::ks)=b::pickOf bs ks:=by simp[pickOf,hk]
   rw[e1]at hb⊢
   have hb1:booksOk (kept++ [b])=true:=booksOk_sub ((List.append_sublist_append_left kept).2 (List.cons_sublist_cons.2 (List.nil_sublist _))) hb
   rw[greedy]
   by_cases hf:Fits p (kept++ [b])
   ·rw[if_pos hf,show keepStep bs p (kept,kept.map (·.1)) k=(kept++ [b],(kept++ [b]).map (·.1)) by simp[keepStep,hk,(most_fits hb1 hp).2 hf]]
    exact ih _ (by simpa using hb)
   ·rw[if_neg hf,show keepStep bs p (kept,kept.map (·.1)) k=(kept,kept.map (·.1)) by
     simp only[keepStep,hk]
     rw[if_neg (fun h=>hf ((most_fits hb1 hp).1 h))]]
    exact ih kept (booksOk_sub ((List.append_sublist_append_left kept).2 (List.sublist_cons_self _ _)) hb)
theorem pick_take (bs:List Visit4): ∀n,pickOf bs (List.range n)=bs.take n:=by
 intro n
 induction n with
 |zero=>simp[pickOf]
 |succ n ih=>
  rw[pickOf,List.range_succ,List.filterMap_append]
  show pickOf bs (List.range n)++_=_
  rw[ih]
  cases hk:bs[n]? with
  |none=>
   have:bs.length≤n:=List.getElem?_eq_none_iff.1 hk
   simp[hk]
   omega
  |some b=>rw[take_snocL hk];simp[hk]
theorem pick_range (bs:List Visit4):pickOf bs (List.range bs.length)=bs:=by rw[pick_take,List.take_length]
abbrev byTo (bs:List Visit4):List Visit4:=pickOf bs (byKey (toOf bs) bs.length 31)
theorem to_bd {bs:List Visit4}(ho:booksOk bs=true): ∀k,k<bs.length→0≤toOf bs k∧toOf bs k<(31:Nat):=by
 intro k hk
 have hb:=(booksOk_iff bs).1 ho |>.2.1 bs[k] (List.getElem_mem hk)
 simp only[bookOk,decide_eq_true_eq]at hb
 simp only[toOf,List.getElem?_eq_getElem hk]
 omega
theorem from_bd {bs:List Visit4}(ho:booksOk bs=true): ∀k,k<bs.length→0≤fromOf bs k∧fromOf bs k<(31:Nat):=by
 intro k hk
 have hb:=(booksOk_iff bs).1 ho |>.2.1 bs[k] (List.getElem_mem hk)
 simp only[bookOk,decide_eq_true_eq]at hb
 simp only[fromOf,List.getElem?_eq_getElem hk]
 omega
theorem byTo_perm {bs:List Visit4}(ho:booksOk bs=true):(byTo bs).Perm bs:=by
 have h:=(byKey_perm (toOf bs) bs.length 31 (to_bd ho)).filterMap (fun k=>bs[k]?)
 have e:=pick_range bs
 exact h.trans (by rw[show(List.range bs.length).filterMap (fun k=>bs[k]?)=bs from e])
theorem byTo_sorted (bs:List Visit4):(byTo bs).Pairwise (fun a b=>a.2.2.1≤b.2.2.1):=by
 refine List.pairwise_filterMap.2 ((byKey_sorted (toOf bs) bs.length 31).imp ?_)
 intro a a' h b hb b' hb'
 have e1:toOf bs a=b.2.2.1:=by simp[toOf,hb]
 have e2:toOf bs a'=b'.2.2.1:=by simp[toOf,hb']
 rcases h with h|h<;>omega
theorem books_nodup {bs:List Visit4}(ho:booksOk bs=true):bs.Nodup:=(List.pairwise_map.1 ((booksOk_iff bs).1 ho).2.2).imp (fun h e=>h (congrArg _ e))
theorem keep_eq {bs:List Visit4}{p:Int}(ho:booksOk bs=true)(hp:0≤p):booksKeep bs p=sortL ((greedy p [] (byTo bs)).map (·.1)):=by
 unfold booksKeep keepRun
 rw[if_pos ⟨ho,hp⟩]
 have:=keep_greedy bs p hp (byKey (toOf bs) bs.length 31) [] (by rw[List.nil_append,booksOk_perm (byTo_perm ho)];exact ho)
 simp only[List.map_nil]at this
 rw[this]
theorem fits_nil {p:Int}(hp:0≤p):Fits p []:=fun h _=>by simp[booksAt];exact hp
theorem fits_perm {p:Int}{a b:List Visit4}(h:a.Perm b)(hf:Fits p a):Fits p b:=fun t ht=>by rw[←booksAt_perm h];exact hf t ht
theorem keep_best {bs S:List Visit4}{p:Int}(ho:booksOk bs=true)(hp:0≤p)(hS:S.Sublist bs)(hf:booksMost S≤p):S.length≤(booksKeep bs p).length:=by
 rw[keep_eq ho hp,sortL_len,List.length_map]
 have hSo:=booksOk_sub hS ho
 have hP:((byTo bs).filter (fun b=>decide (b∈S))).Perm S:=by
  rw[List.perm_ext_iff_of_nodup (((byTo_perm ho).nodup_iff.2 (books_nodup ho)).filter _) (books_nodup hSo)]
  intro b
  simp only[List.mem_filter,decide_eq_true_eq,(byTo_perm ho).mem_iff]
  exact⟨fun h=>h.2,fun h=>⟨hS.subset h,h⟩⟩
 have:=greedy_best p (byTo bs) [] _ (byTo_sorted bs) (List.filter_sublist (p:=fun b=>decide (b∈S))) (by
  rw[List.nil_append]
  exact fits_perm hP.symm ((most_fits hSo hp).1 hf))
 rw[hP.length_eq]at this
 simpa using this
theorem keep_own {bs:List Visit4}{p:Int}(ho:booksOk bs=true)(hp:0≤p):
  (bs.filter (fun b=>(booksKeep bs p).contains b.1)).length=(booksKeep bs p).length∧booksMost (bs.filter (fun b=>(booksKeep bs p).contains b.1))≤p∧(booksKeep bs p).Pairwise (·< ·):=by
 obtain⟨S,hS,hG⟩:=greedy_sub p (byTo bs) []
 rw[List.nil_append]at hG
 have hK:=keep_eq ho hp
 rw[hG]at hK
 have hSo:booksOk S=true:=booksOk_sub hS (by rw[booksOk_perm (byTo_perm ho)];exact ho)
 have hmem: ∀x,x∈booksKeep bs p↔x∈S.map (·.1):=fun x=>by rw[hK];exact(sortL_perm _).mem_iff
 have hP:(bs.filter (fun b=>(booksKeep bs p).contains b.1)).Perm S:=by
  rw[List.perm_ext_iff_of_nodup ((books_nodup ho).filter _) (books_nodup hSo)]
  intro b
  rw[List.mem_filter]
  simp only[List.contains_iff_mem,hmem,List.mem_map]
  constructor
  ·rintro⟨hb,c,hc,e⟩
   have hcb:c∈bs:=(byTo_perm ho).mem_iff.1 (hS.subset hc)
   obtain⟨i,hi,rfl⟩:=List.getElem_of_mem hb
   obtain⟨j,hj,rfl⟩:=List.getElem_of_mem hcb
   have hn:=((booksOk_iff bs).1 ho).2.2
   have:j=i:=by
    have h1:=(List.getElem_inj (xs:=bs.map (·.1)) (i:=j) (j:=i) (h₀:=by simpa using hj) (h₁:=by simpa using hi) hn).1 (by simpa using e)
    exact h1
   subst this;exact hc
  ·intro hb
   exact⟨(byTo_perm ho).mem_iff.1 (hS.subset hb),b,hb,rfl⟩
 refine⟨by rw[hP.length_eq,hK,sortL_len,List.length_map],?_,?_⟩
 ·rw[booksMost_perm hP]
  have:=greedy_fits p (byTo bs) [] (fits_nil hp)
  rw[hG]at this
  exact(most_fits hSo hp).2 this
 ·have h1:(booksKeep bs p).Pairwise (·≤ ·):=by rw[hK];exact sortL_sorted _
  have h2:(booksKeep bs p).Nodup:=by rw[hK,(sortL_perm _).nodup_iff];exact((booksOk_iff S).1 hSo).2.2
  exact(List.Pairwise.and h1 h2).imp (fun h=>by have:=h.1;have:=h.2;omega)
end Go.Proofs.YtndcnflchkfaeaaDoor

namespace Go.Proofs.YtndcnflchkfaeaaDoor
open Go.RowKit
set_option linter.unusedVariables false
set_option linter.unusedSimpArgs false
theorem nodup_sub {α:Type}[DecidableEq α]: ∀ {l m:List α},l.Nodup→(∀x∈l,x∈m)→l.length≤m.length
 | [],m,_,_=>by simp
 |a::l,m,hn,hs=>by
  have ha:a∈m:=hs a (by simp)
  have h1:=List.nodup_cons.1 hn
  have:=nodup_sub (l:=l) (m:=m.erase a) h1.2 (fun x hx=>(List.mem_erase_of_ne (by rintro rfl;exact h1.1 hx)).2 (hs x (by simp[hx])))
  rw[List.length_erase_of_mem ha]at this
  have:0<m.length:=List.length_pos_of_mem ha
  simp;omega
def overlap (a b:Visit4):Bool:=decide (a.2.1<b.2.2.1∧b.2.1<a.2.2.1)
theorem overlap_comm (a b:Visit4):overlap a b=overlap b a:=by simp only[overlap];congr 1;apply propext;constructor<;>rintro⟨h1,h2⟩<;>exact⟨h2,h1⟩
def overAt (bs:List Visit4)(b:Visit4)(j:Nat):Bool:=match bs[j]? with|some c=>overlap c b|none=>false
def usedAt (bs:List Visit4)(out:List Int)(b:Visit4)(p:Int):Bool:=(List.range bs.length).any (fun j=>(out[j]? ==some p)&&overAt bs b j)
theorem used_iff {bs:List Visit4}{out:List Int}{b:Visit4}{p:Int}:usedAt bs out b p=true↔ ∃(j:Nat) (c:Visit4),bs[j]? =some c∧out[j]? =some p∧overlap c b=true:=by
 simp only[usedAt,List.any_eq_true,List.mem_range,Bool.and_eq_true,beq_iff_eq,overAt]
 constructor
 ·rintro⟨j,hj,h1,h2⟩
  rw[List.getElem?_eq_getElem hj]at h2
  exact⟨j,bs[j],List.getElem?_eq_getElem hj,h1,h2⟩
 ·rintro⟨j,c,hc,h1,h2⟩
  exact⟨j,(List.getElem?_eq_some_iff.1 hc).1,h1,by rw[hc];exact h2⟩
def leastFree (u:Int→Bool):Nat→Int→Int
 |0,p=>p
 |f+1,p=>if u p then leastFree u f (p+1)else p
theorem least_ok (u:Int→Bool): ∀(f:Nat) (p q:Int),p≤q→q<p+f→u q=false→u (leastFree u f p)=false∧p≤leastFree u f p∧leastFree u f p≤q∧ ∀r,p≤r→r<leastFree u f p→u r=true:=by
 intro f
 induction f with
 |zero=>intro p q h1 h2 _;omega
 |succ f ih=>
  intro p q h1 h2 hq
  rw[leastFree]
  by_cases h:u p=true
  ·rw[if_pos h]
   have hne:p≠q:=fun e=>by subst e;rw[h]at hq;simp at hq
   obtain⟨a,b,c,d⟩:=ih (p+1) q (by omega) (by push_cast at h2;omega) hq
   refine⟨a,by omega,c,fun r hr hr2=> ?_⟩
   by_cases e:r=p
   ·subst e;exact h
   ·exact d r (by omega) hr2
  ·rw[if_neg h]
   exact⟨by simpa using h,by omega,h1,fun r hr hr2=>by omega⟩
theorem least_eq (u:Int→Bool){f:Nat}{p x:Int}(h:u x=false)(hp:p≤x)(hx:x<p+f)(hd: ∀r,p≤r→r<x→u r=true):leastFree u f p=x:=by
 obtain⟨a,b,c,d⟩:=least_ok u f p x hp hx h
 by_cases e:leastFree u f p=x
 ·exact e
 ·have:=hd _ b (by omega)
  rw[a]at this;simp at this
def placeStep (bs:List Visit4)(out:List Int)(i:Nat):List Int:=match bs[i]? with|some b=>out.set i (leastFree (usedAt bs out b) 7 0)|none=>out
def placeRun (bs:List Visit4)(ks:List Nat):List Int:=ks.foldl (placeStep bs) (List.replicate bs.length (-1))
def bookPlaces (bs:List Visit4):List Int:=if booksOk bs=true then placeRun bs (byKey (fromOf bs) bs.length 31)else []
structure PInv (bs:List Visit4) (k:Int) (done:List Nat) (out:List Int):Prop where
 len:out.length=bs.length
 has: ∀i∈done,∃p,out[i]? =some p∧0≤p∧p<k
 none: ∀i,i<bs.length→i∉done→out[i]? =some (-1)
 apart: ∀i∈done,∀j∈done,i≠j→ ∀a b,bs[i]? =some a→bs[j]? =some b→overlap a b=true→out[i]? ≠out[j]?
theorem booksAt_idx (bs:List Visit4)(h:Int):((List.range bs.length).filter (fun j=>match bs[j]? with|some c=>inHour h c|none=>false)).length=booksAt bs h:=by
 have e:booksAt bs h=((pickOf bs (List.range bs.length)).filter (inHour h)).length:=by rw[pick_range];rfl
 rw[e]
 generalize List.range bs.length=l
 induction l with
 |nil=>rfl
 |cons a l ih=>
  cases ha:bs[a]? with
  |none=>simp only[List.filter_cons,ha,pickOf,List.filterMap_cons];simpa using ih
  |some c=>
   simp only[List.filter_cons,ha,pickOf,List.filterMap_cons]
   split<;>simp[ih]
theorem free_at {bs:List Visit4}{k:Int}{done:List Nat}{out:List Int}{i:Nat}{b:Visit4}(ho:booksOk bs=true)(hf:Fits k bs)(hI:PInv bs k done out)(hd:done.Nodup)(hi:i∉done)(hb:bs[i]? =some b)
  (hlt: ∀j∈done,j<bs.length) (hfrom: ∀j∈done,fromOf bs j≤fromOf bs i): ∃q:Int,0≤q∧q<k∧q<7∧usedAt bs out b q=false:=by
 have hil:i<bs.length:=(List.getElem?_eq_some_iff.1 hb).1
 have hbi:fromOf bs i=b.2.1:=by simp[fromOf,hb]
 have hbo:=(booksOk_iff bs).1 ho
 have hbok:=hbo.2.1 b (List.mem_of_getElem? hb)
 simp only[bookOk,decide_eq_true_eq]at hbok
 let A:=done.filter (fun j=>overAt bs b j)
 have hin:(i::A).length≤booksAt bs b.2.1:=by
  rw[←booksAt_idx]
  refine nodup_sub (List.nodup_cons.2 ⟨fun h=>hi (List.mem_filter.1 h).1,hd.filter _⟩) ?_
  intro j hj
  rw[List.mem_filter,List.mem_range]
  rcases List.mem_cons.1 hj with rfl|hj
  ·refine⟨hil,?_⟩
   rw[hb];simp only[inHour,decide_eq_true_eq];omega
  ·obtain⟨h1,h2⟩:=List.mem_filter.1 hj
   have hjl:=hlt j h1
   refine⟨hjl,?_⟩
   have hjf:=hfrom j h1
   simp only[overAt]at h2
   rw[List.getElem?_eq_getElem hjl]at h2⊢
   simp only[overlap,inHour,decide_eq_true_eq]at h2⊢
   have e:fromOf bs j=(bs[j]).2.1:=by simp[fromOf,List.getElem?_eq_getElem hjl]
   omega
 have hk:((i::A).length:Int)≤k:=by
  have:=hf b.2.1.toNat (by omega)
  have e:((b.2.1.toNat:Nat):Int)=b.2.1:=Int.toNat_of_nonneg (by omega)
  rw[e]at this
  omega
 have h7:(i::A).length≤7:=Nat.le_trans (nodup_sub (m:=List.range bs.length) (List.nodup_cons.2 ⟨fun h=>hi (List.mem_filter.1 h).1,hd.filter _⟩) (fun j hj=>by
  rw[List.mem_range]
  rcases List.mem_cons.1 hj with rfl|hj
  ·exact hil
  ·exact hlt j (List.mem_filter.1 hj).1)) (by rw[List.length_range];exact hbo.1)
 by_cases hall: ∃q:Nat,q<(i::A).length∧usedAt bs out b (q:Int)=false
 ·obtain⟨q,hq,hu⟩:=hall
  exact⟨q,by omega,by omega,by omega,hu⟩
 ·exfalso
  have hc:(List.range (i::A).length).length≤(A.map (fun j=>((out[j]?).getD 0).toNat)).length:=by
   refine nodup_sub List.nodup_range ?_
   intro q hq
   rw[List.mem_range]at hq
   have hu:usedAt bs out b (q:Int)=true:=by
    cases h:usedAt bs out b (q:Int)with
    |true=>rfl
    |false=>exact absurd ⟨q,hq,h⟩ hall
   obtain⟨j,c,h1,h2,h3⟩:=used_iff.1 hu
   have hjl:j<bs.length:=(List.getElem?_eq_some_iff.1 h1).1
   have hjd:j∈done:=by
    by_cases h:j∈done
    ·exact h
    ·have:=hI.none j hjl h
     rw[h2]at this;injection this with this;omega
   refine List.mem_map.2 ⟨j,List.mem_filter.2 ⟨hjd,by rw[overAt,h1];exact h3⟩,by rw[h2];simp⟩
  simp at hc
  omega
theorem place_step {bs:List Visit4}{k:Int}{done:List Nat}{out:List Int}{i:Nat}(ho:booksOk bs=true)(hf:Fits k bs)(hI:PInv bs k done out)(hd:done.Nodup)(hi:i∉done)(hil:i<bs.length)
  (hlt: ∀j∈done,j<bs.length)(hfrom: ∀j∈done,fromOf bs j≤fromOf bs i):PInv bs k (done++ [i]) (placeStep bs out i):=by
 have hb:bs[i]? =some bs[i]:=List.getElem?_eq_getElem hil
 obtain⟨q,q0,qk,q7,hu⟩:=free_at ho hf hI hd hi hb hlt hfrom
 obtain⟨a1,a2,a3,a4⟩:=least_ok (usedAt bs out bs[i]) 7 0 q q0 (by omega) hu
 have hs:placeStep bs out i=out.set i (leastFree (usedAt bs out bs[i]) 7 0):=by simp only[placeStep,hb]
 rw[hs]
 generalize leastFree (usedAt bs out bs[i]) 7 0=x at a1 a2 a3 a4
 have hiol:i<out.length:=by rw[hI.len];exact hil
 have hset: ∀j,j≠i→(out.set i x)[j]? =out[j]? :=fun j hj=>List.getElem?_set_ne (by omega)
 have hself:(out.set i x)[i]? =some x:=List.getElem?_set_self hiol
 have hfree: ∀j∈done,∀c,bs[j]? =some c→overlap c bs[i]=true→out[j]? ≠some x:=by
  intro j hj c hc hov e
  have:=used_iff.2 ⟨j,c,hc,e,hov⟩
  rw[a1]at this;simp at this
 refine⟨by rw[List.length_set];exact hI.len,?_,?_,?_⟩
 ·intro j hj
  by_cases e:j=i
  ·subst e;exact⟨x,hself,a2,by omega⟩
  ·rw[hset j e]
   rcases List.mem_append.1 hj with hj|hj
   ·exact hI.has j hj
   ·exact absurd (List.mem_singleton.1 hj) e
 ·intro j hj hjn
  have e:j≠i:=fun e=>hjn (by simp[e])
  rw[hset j e]
  exact hI.none j hj (fun h=>hjn (by simp[h]))
 ·intro j hj l hl hne a b ha hb2 hov
  by_cases ej:j=i
  ·subst ej
   have el:l≠j:=fun e=>hne e.symm
   rw[hself,hset l el]
   have hld:l∈done:=by
    rcases List.mem_append.1 hl with h|h
    ·exact h
    ·exact absurd (List.mem_singleton.1 h) el
   intro e
   rw[hb]at ha;injection ha with ha;subst ha
   exact hfree l hld b hb2 (by rw[overlap_comm];exact hov) e.symm
  ·by_cases el:l=i
   ·subst el
    rw[hself,hset j ej]
    have hjd:j∈done:=by
     rcases List.mem_append.1 hj with h|h
     ·exact h
     ·exact absurd (List.mem_singleton.1 h) ej
    intro e
    rw[hb]at hb2;injection hb2 with hb2;subst hb2
    exact hfree j hjd a ha hov e
   ·rw[hset j ej,hset l el]
    have f: ∀y,y∈done++ [i]→y≠i→y∈done:=fun y hy hne=>by
     rcases List.mem_append.1 hy with h|h
     ·exact h
     ·exact absurd (List.mem_singleton.1 h) hne
    exact hI.apart j (f j hj ej) l (f l hl el) hne a b ha hb2 hov
theorem place_go {bs:List Visit4}{k:Int}(ho:booksOk bs=true)(hf:Fits k bs): ∀(ks done:List Nat) (out:List Int),(done++ks).Pairwise (lexLt (fromOf bs))→(∀j∈done++ks,j<bs.length)→PInv bs k done out→PInv bs k (done++ks) (ks.foldl (placeStep bs) out):=by
 intro ks
 induction ks with
 |nil=>intro done out _ _ h;simpa using h
 |cons i ks ih=>
  intro done out hp hl hI
  have hn:=lex_nodup hp
  rw[List.foldl_cons]
  have hp2:=List.pairwise_append.1 hp
  have:=place_step ho hf hI (lex_nodup hp2.1) (fun h=>(List.nodup_append.1 hn).2.2 i h i (by simp) rfl) (hl i (by simp)) (fun j hj=>hl j (by simp[hj])) (fun j hj=>by
   rcases hp2.2.2 j hj i (by simp)with h|h<;>omega)
  have h2:=ih (done++ [i]) _ (by simpa using hp) (by simpa using hl) this
  simpa using h2
theorem places_ok {bs:List Visit4}{k:Int}(ho:booksOk bs=true)(hf:Fits k bs):PInv bs k (byKey (fromOf bs) bs.length 31) (bookPlaces bs):=by
 unfold bookPlaces placeRun
 rw[if_pos ho]
 have h0:PInv bs k [] (List.replicate bs.length (-1)):=⟨by simp,fun i h=>absurd h (by simp),fun i h _=>by simp[List.getElem?_replicate,h],fun i h=>absurd h (by simp)⟩
 have:=place_go ho hf (byKey (fromOf bs) bs.length 31) [] _ (by simpa using byKey_sorted (fromOf bs) bs.length 31) (fun j hj=>by
  rw[List.nil_append,byKey_mem]at hj;exact hj.1) h0
 simpa using this
theorem places_len {bs:List Visit4}(ho:booksOk bs=true):(bookPlaces bs).length=bs.length:=
 (places_ok (k:=7) ho (fun h hh=>by
  have:=booksAt_le bs h
  have:=((booksOk_iff bs).1 ho).1
  omega)).len
theorem place_has {bs:List Visit4}{k:Int}(ho:booksOk bs=true)(hf:Fits k bs){i:Nat}(hi:i<bs.length): ∃p,(bookPlaces bs)[i]? =some p∧0≤p∧p<k:=
 (places_ok ho hf).has i ((byKey_mem _ _ _ _).2 ⟨hi,from_bd ho i hi⟩)
theorem place_apart {bs:List Visit4}(ho:booksOk bs=true){i j:Nat}{a b:Visit4}(hij:i≠j)(ha:bs[i]? =some a) (hb:bs[j]? =some b) (hov:overlap a b=true):(bookPlaces bs)[i]? ≠(bookPlaces bs)[j]? :=
 (places_ok (k:=7) ho (fun h hh=>by
  have:=booksAt_le bs h
  have:=((booksOk_iff bs).1 ho).1
  omega)).apart i ((byKey_mem _ _ _ _).2 ⟨(List.getElem?_eq_some_iff.1 ha).1,from_bd ho i (List.getElem?_eq_some_iff.1 ha).1⟩) j ((byKey_mem _ _ _ _).2 ⟨(List.getElem?_eq_some_iff.1 hb).1,from_bd ho j (List.getElem?_eq_some_iff.1 hb).1⟩) hij a b ha hb hov
end Go.Proofs.YtndcnflchkfaeaaDoor

