/-
  Texts of this proof, packed (@packed).
-/
import Derived.Test.YtndcnflchkfaeaaDoorK1
import Derived.Test.YtndcnflchkfaeaaDoorK3
import Derived.Test.YtndcnflchkfaeaaDoorK4
import Derived.Test.YtndcnflchkfaeaaDoorK6
namespace Go.Proofs.YtndcnflchkfaeaaDoor
open Go.RowKit
set_option linter.unusedVariables false
set_option linter.unusedSimpArgs false
theorem fits7 {bs:List Visit4}(ho:booksOk bs=true):Fits 7 bs:=fun h hh=>by
 have:=booksAt_le bs h
 have:=((booksOk_iff bs).1 ho).1
 omega
abbrev byFrom (bs:List Visit4):List Nat:=byKey (fromOf bs) bs.length 31
abbrev byToN (bs:List Visit4):List Nat:=byKey (toOf bs) bs.length 31
theorem byFrom_lt {bs:List Visit4}{k i:Nat}(h:(byFrom bs)[k]? =some i):i<bs.length:=((byKey_mem _ _ _ _).1 (List.mem_of_getElem? h)).1
theorem byTo_lt {bs:List Visit4}{k i:Nat}(h:(byToN bs)[k]? =some i):i<bs.length:=((byKey_mem _ _ _ _).1 (List.mem_of_getElem? h)).1
theorem byFrom_len {bs:List Visit4}(ho:booksOk bs=true):(byFrom bs).length=bs.length:=by have:=(byKey_perm (fromOf bs) bs.length 31 (from_bd ho)).length_eq;simpa using this
theorem byTo_len {bs:List Visit4}(ho:booksOk bs=true):(byToN bs).length=bs.length:=by have:=(byKey_perm (toOf bs) bs.length 31 (to_bd ho)).length_eq;simpa using this
def placesAt (bs:List Visit4)(k:Nat):List Int:=placeRun bs ((byFrom bs).take k)
theorem place_pre {bs:List Visit4}(ho:booksOk bs=true)(k:Nat):PInv bs 7 ((byFrom bs).take k) (placesAt bs k):=by
 have h0:PInv bs 7 [] (List.replicate bs.length (-1)):=⟨by simp,fun i h=>absurd h (by simp),fun i h _=>by simp[List.getElem?_replicate,h],fun i h=>absurd h (by simp)⟩
 have hp:((byFrom bs).take k).Pairwise (lexLt (fromOf bs)):=(byKey_sorted (fromOf bs) bs.length 31).sublist (List.take_sublist _ _)
 have:=place_go ho (fits7 ho) ((byFrom bs).take k) [] _ (by simpa using hp) (fun j hj=>by
  rw[List.nil_append]at hj
  exact((byKey_mem _ _ _ _).1 (List.mem_of_mem_take hj)).1) h0
 rw[List.nil_append]at this
 exact this
theorem placesAt_len {bs:List Visit4}(ho:booksOk bs=true)(k:Nat):(placesAt bs k).length=bs.length:=(place_pre ho k).len
theorem placesAt_zero (bs:List Visit4):placesAt bs 0=List.replicate bs.length (-1):=by simp[placesAt,placeRun]
theorem placesAt_end {bs:List Visit4}(ho:booksOk bs=true){k:Nat}(hk:(byFrom bs).length≤k):placesAt bs k=bookPlaces bs:=by
 unfold placesAt bookPlaces;rw[if_pos ho,List.take_of_length_le hk]
theorem placesAt_succ {bs:List Visit4}{k i:Nat}{b:Visit4}(hi:(byFrom bs)[k]? =some i) (hb:bs[i]? =some b):placesAt bs (k+1)=(placesAt bs k).set i (leastFree (usedAt bs (placesAt bs k) b) 7 0):=by
 unfold placesAt placeRun
 rw[take_snocL hi,List.foldl_append]
 simp only[List.foldl_cons,List.foldl_nil]
 rw[placeStep]
 rw[hb]
theorem placesAt_bd {bs:List Visit4}(ho:booksOk bs=true){k j:Nat}{o:Int}(h:(placesAt bs k)[j]? =some o):o= -1∨(0≤o∧o<7):=by
 have hI:=place_pre ho k
 have hj:j<bs.length:=by have:=(List.getElem?_eq_some_iff.1 h).1;rw[hI.len]at this;exact this
 by_cases hm:j∈(byFrom bs).take k
 ·obtain⟨p,hp,h0,h1⟩:=hI.has j hm
  rw[h]at hp
  obtain rfl:=Option.some.inj hp
  exact .inr ⟨h0,h1⟩
 ·have:=hI.none j hj hm
  rw[h]at this
  exact .inl (Option.some.inj this)
theorem place_room {bs:List Visit4}(ho:booksOk bs=true){k i:Nat}{b:Visit4}(hi:(byFrom bs)[k]? =some i) (hb:bs[i]? =some b): ∃q:Int,0≤q∧q<7∧usedAt bs (placesAt bs k) b q=false:=by
 have hs:((byFrom bs).take (k+1)).Pairwise (lexLt (fromOf bs)):=(byKey_sorted (fromOf bs) bs.length 31).sublist (List.take_sublist _ _)
 rw[take_snocL hi]at hs
 have hs2:=List.pairwise_append.1 hs
 have hn:=lex_nodup hs
 obtain⟨q,h0,_,h7,hu⟩:=free_at (k:=7) ho (fits7 ho) (place_pre ho k) (lex_nodup hs2.1) (fun h=>(List.nodup_append.1 hn).2.2 i h i (by simp) rfl) hb
  (fun j hj=>((byKey_mem _ _ _ _).1 (List.mem_of_mem_take hj)).1) (fun j hj=>by
   rcases hs2.2.2 j hj i (by simp)with h|h<;>omega)
 exact⟨q,h0,h7,hu⟩
def usedTo (bs:List Visit4)(out:List Int)(b:Visit4)(j:Nat)(r:Int):Bool:=(List.range j).any (fun i=>(out[i]? ==some r)&&overAt bs b i)
theorem usedTo_succ (bs:List Visit4)(out:List Int)(b:Visit4)(j:Nat)(r:Int):usedTo bs out b (j+1) r=(usedTo bs out b j r || ((out[j]? ==some r)&&overAt bs b j)):=by
 simp[usedTo,List.range_succ,List.any_append]
theorem used_hit {bs:List Visit4}{out:List Int}{b c:Visit4}{j:Nat}{r:Int}(hc:bs[j]? =some c) (ho:out[j]? =some r) (hov:overlap c b=true):usedAt bs out b r=true:=used_iff.2 ⟨j,c,hc,ho,hov⟩
structure LInv (bs:List Visit4) (out:List Int) (b:Visit4) (q p:Int) (j:Nat):Prop where
 p0:0≤p
 pq:p≤q
 below: ∀r,0≤r→r<p→usedAt bs out b r=true
 no:usedTo bs out b j p=false
theorem LInv.start {bs:List Visit4}{out:List Int}{b:Visit4}{q:Int}(hq:0≤q):LInv bs out b q 0 0:=⟨by omega,hq,fun r h1 h2=>by omega,rfl⟩
theorem LInv.hit {bs:List Visit4}{out:List Int}{b c:Visit4}{q p:Int}{j:Nat}(h:LInv bs out b q p j)(hu:usedAt bs out b q=false)(hc:bs[j]? =some c) (ho:out[j]? =some p) (hov:overlap c b=true):LInv bs out b q (p+1) 0∧p<q:=by
 have h1:=used_hit hc ho hov
 have hne:p≠q:=fun e=>by rw[e,hu]at h1;simp at h1
 have hlt:p<q:=by have:=h.pq;omega
 refine⟨⟨by have:=h.p0;omega,by omega,fun r h2 h3=> ?_,rfl⟩,hlt⟩
 by_cases e:r=p
 ·rw[e];exact h1
 ·exact h.below r h2 (by omega)
theorem LInv.miss {bs:List Visit4}{out:List Int}{b c:Visit4}{q p o:Int}{j:Nat}(h:LInv bs out b q p j)(hc:bs[j]? =some c) (ho:out[j]? =some o) (hn: ¬o=p∨overlap c b=false):LInv bs out b q p (j+1):=by
 refine⟨h.p0,h.pq,h.below,?_⟩
 rw[usedTo_succ,h.no,ho]
 simp only[overAt,hc,Bool.false_or]
 rcases hn with hn|hn
 ·simp[hn]
 ·simp[hn]
theorem LInv.done {bs:List Visit4}{out:List Int}{b:Visit4}{q p:Int}{j:Nat}(h:LInv bs out b q p j)(hq:q<7)(hj:j=bs.length):leastFree (usedAt bs out b) 7 0=p:=by
 subst hj
 have:=h.pq
 exact least_eq (usedAt bs out b) (h.no) h.p0 (by omega) (fun r h1 h2=>h.below r h1 h2)
def flags (u:Int→Bool):List Value:=(List.range 7).map (fun(r:Nat)=>Value.bool (u (r:Int)))
theorem flags_len (u:Int→Bool):(flags u).length=7:=by simp[flags]
theorem flags_get (u:Int→Bool){r:Nat}(h:r<7):(flags u)[r]? =some (.bool (u (r:Int))):=by simp[flags,h]
theorem flags_set (u v:Int→Bool){p:Nat}(hp:p<7)(h: ∀r:Nat,r<7→v r=(u r || decide (r=p))):(flags u).set p (.bool true)=flags v:=by
 apply List.ext_getElem?
 intro i
 by_cases hi:i<7
 ·rw[flags_get v hi,h i hi]
  by_cases e:i=p
  ·subst e
   rw[List.getElem?_set_self (by rw[flags_len];exact hi)]
   simp
  ·rw[List.getElem?_set_ne (fun h=>e h.symm),flags_get u hi]
   simp[e]
 ·rw[List.getElem?_eq_none (by rw[List.length_set,flags_len];omega),List.getElem?_eq_none (by rw[flags_len];omega)]
theorem flags_same (u v:Int→Bool)(h: ∀r:Nat,r<7→v r=u r):flags u=flags v:=by
 unfold flags
 apply List.map_congr_left
 intro r hr
 rw[h r (List.mem_range.1 hr)]
theorem used_step {bs:List Visit4}{out:List Int}{b c:Visit4}{j:Nat}{p:Nat}(hc:bs[j]? =some c) (ho:out[j]? =some (p:Int)) (hov:overlap c b=true) (hp:p<7):(flags (usedTo bs out b j)).set p (.bool true)=flags (usedTo bs out b (j+1)):=by
 refine flags_set _ _ hp (fun r hr=> ?_)
 rw[usedTo_succ,ho]
 simp only[overAt,hc,hov,Bool.and_true]
 congr 1
 by_cases e:r=p
 ·subst e;simp
 ·have: ¬((p:Int)=(r:Int)):=by omega
  simp[e,this]
theorem used_skip {bs:List Visit4}{out:List Int}{b c:Visit4}{j:Nat}{o:Int}(hc:bs[j]? =some c) (ho:out[j]? =some o) (hn:o<0∨overlap c b=false):flags (usedTo bs out b j)=flags (usedTo bs out b (j+1)):=by
 refine flags_same _ _ (fun r hr=> ?_)
 rw[usedTo_succ,ho]
 simp only[overAt,hc]
 rcases hn with hn|hn
 ·have: ¬(o=(r:Int)):=by omega
  simp[this]
 ·simp[hn]
theorem least_lt {u:Int→Bool}{q:Int}(h0:0≤q)(h7:q<7)(hu:u q=false): ∃x:Nat,x<7∧leastFree u 7 0=x∧u x=false∧ ∀r:Nat,r<x→u r=true:=by
 obtain⟨h1,h2,h3,h4⟩:=least_ok u 7 0 q h0 (by omega) hu
 refine⟨(leastFree u 7 0).toNat,by omega,by omega,?_,fun r hr=>h4 r (by omega) (by omega)⟩
 rw[Int.toNat_of_nonneg h2];exact h1
def keepAt (bs:List Visit4)(p:Int)(k:Nat):List Visit4×List Int:=keepRun bs p ((byToN bs).take k)
theorem keepAt_zero (bs:List Visit4)(p:Int):keepAt bs p 0=([],[]):=by simp[keepAt,keepRun]
theorem keepAt_succ {bs:List Visit4}{p:Int}{k i:Nat}{b:Visit4}(hi:(byToN bs)[k]? =some i) (hb:bs[i]? =some b):
  keepAt bs p (k+1)=if booksMost ((keepAt bs p k).1++ [b])≤p then((keepAt bs p k).1++ [b],(keepAt bs p k).2++ [b.1])else keepAt bs p k:=by
 have e:keepAt bs p (k+1)=keepStep bs p (keepAt bs p k) i:=by
  unfold keepAt keepRun
  rw[take_snocL hi,List.foldl_append,List.foldl_cons,List.foldl_nil]
 rw[e,keepStep,hb]
theorem keepAt_end {bs:List Visit4}{p:Int}(ho:booksOk bs=true)(hp:0≤p){k:Nat}(hk:(byToN bs).length≤k):sortL (keepAt bs p k).2=booksKeep bs p:=by
 unfold keepAt booksKeep;rw[if_pos ⟨ho,hp⟩,List.take_of_length_le hk]
theorem keepStep_len (bs:List Visit4)(p:Int)(s:List Visit4×List Int)(k:Nat)(h:s.1.length=s.2.length):(keepStep bs p s k).1.length=(keepStep bs p s k).2.length∧(keepStep bs p s k).1.length≤s.1.length+1:=by
 unfold keepStep
 split
 ·split<;>simp[h]
 ·simp[h]
theorem keepFold_len (bs:List Visit4)(p:Int): ∀(ks:List Nat) (s:List Visit4×List Int),s.1.length=s.2.length→(ks.foldl (keepStep bs p) s).1.length=(ks.foldl (keepStep bs p) s).2.length∧(ks.foldl (keepStep bs p) s).1.length≤s.1.length+ks.length:=by
 intro ks
 induction ks with
 |nil=>intro s h;simp[h]
 |cons i ks ih=>
  intro s h
  rw[List.foldl_cons]
  obtain⟨h1,h2⟩:=keepStep_len bs p s i h
  obtain⟨h3,h4⟩:=ih _ h1
  exact⟨h3,by simp only[List.length_cons];omega⟩
theorem keepAt_len (bs:List Visit4)(p:Int)(k:Nat):(keepAt bs p k).1.length=(keepAt bs p k).2.length∧(keepAt bs p k).1.length≤k:=by
 obtain⟨h1,h2⟩:=keepFold_len bs p ((byToN bs).take k) ([],[]) rfl
 refine⟨h1,Nat.le_trans h2 ?_⟩
 simp only[List.length_nil,List.length_take];omega
theorem booksKeep_len (bs:List Visit4)(p:Int):(booksKeep bs p).length≤7:=by
 unfold booksKeep
 split
 ·next h=>
  rw[sortL_len]
  obtain⟨h1,h2⟩:=keepFold_len bs p (byKey (toOf bs) bs.length 31) ([],[]) rfl
  have h3:=byTo_len h.1
  have h4:=((booksOk_iff bs).1 h.1).1
  simp only[List.length_nil]at h2
  unfold keepRun
  rw[←h1]
  have:(byKey (toOf bs) bs.length 31).length=bs.length:=h3
  omega
 ·simp
end Go.Proofs.YtndcnflchkfaeaaDoor

namespace Go.Proofs.YtndcnflchkfaeaaDoor
open Go.RowKit
set_option linter.unusedVariables false
set_option linter.unusedSimpArgs false
abbrev natI (ks:List Nat):List Int:=ks.map (fun(k:Nat)=>(k:Int))
theorem byKey_le (f:Nat→Int)(n:Nat): ∀h,(byKey f n h).length≤h*n:=by
 intro h
 induction h with
 |zero=>simp[byKey]
 |succ h ih=>
  simp only[byKey,List.length_append]
  have:=List.length_filter_le (fun k=>f k==(h:Int)) (List.range n)
  rw[List.length_range]at this
  rw[Nat.succ_mul];omega
theorem toOf_at {bs:List Visit4}{k:Nat}{a b c d:Int}(h:bs[k]? =some (a,b,c,d)):toOf bs k=c:=by simp[toOf,h]
theorem fromOf_at {bs:List Visit4}{k:Nat}{a b c d:Int}(h:bs[k]? =some (a,b,c,d)):fromOf bs k=b:=by simp[fromOf,h]
def keyIn (f:Nat→Int)(n h k:Nat):List Nat:=byKey f n h++(List.range k).filter (fun j=>f j==(h:Int))
theorem keyIn_zero (f:Nat→Int)(n h:Nat):keyIn f n h 0=byKey f n h:=by simp[keyIn]
theorem keyIn_end (f:Nat→Int)(n h:Nat):keyIn f n h n=byKey f n (h+1):=rfl
theorem keyIn_yes {f:Nat→Int}{n h k:Nat}(e:f k=(h:Int)):keyIn f n h (k+1)=keyIn f n h k++ [k]:=by
 simp[keyIn,List.range_succ,List.filter_append,e]
theorem keyIn_no {f:Nat→Int}{n h k:Nat}(e: ¬f k=(h:Int)):keyIn f n h (k+1)=keyIn f n h k:=by
 simp[keyIn,List.range_succ,List.filter_append,e]
theorem iv_one (x:Int): ∀u∈([iv x]:List Value),u.oneCell'=true:=by intro u hu;obtain rfl:=List.mem_singleton.1 hu;rfl
set_option maxRecDepth 100000 in
set_option maxHeartbeats 8000000 in
theorem specByFrom (q:Option Addr)(m c2:Nat)(bs:List Visit4)(w:World)(hm7:m≤7)(hS:Sl w q m c2 4 (bs.flatMap visitCells)):
  Calls Tryd.prog 87 #[.slice q m c2] w (RetInts (natI (byKey (fromOf bs) bs.length 31)) w):=by
 have hn:=hS.bd
 have HS:=Lib.hid hS
 have hl:Hid (bs.length=m):=by
  have:=hS.len;rw[flat_len visitCells 4 (fun _=>rfl)]at this;exact(by omega:bs.length=m)
 clear hS
 have ME:=Lib.hid (show Mem w (w.alloc (.cells #[] TI)) [ownI w.heap.size TI 1 (some ⟨w.heap.size,0,none⟩) (0) (0) ([])]from((Mem.start w).made0 TI 1 (w.heap.size) (by simp)))
 go_enter Tryd.func87,Tryd.ntmps87
 go_wp2
 go_loopw [3,4] (fun v x wr=> ∃(h:Nat) (q3:Option Addr) (l c3:Nat),h≤31∧x= .int .i64 (h:Int)∧v= .slice q3 l c3∧l=(byKey (fromOf bs) m h).length∧Mem w wr [ownI w.heap.size TI 1 (q3) (l) (c3) (ivs (natI (byKey (fromOf bs) m h)))]) (fun _ x _=>31-(intOf x).toNat)
 case atStart=>exact⟨0,some ⟨w.heap.size,0,none⟩,0,0,Nat.zero_le _,rfl,rfl,rfl,ME.out⟩
 case round=>
  clear ME
  obtain⟨h,q3,l,c3,hh,rfl,rfl,hl3,hM⟩:=hrel
  have HM:=Lib.hid hM
  have HL3:=Lib.hid hl3
  have hlb:l≤h*7:=by rw[hl3];exact Nat.le_trans (byKey_le _ _ _) (Nat.mul_le_mul_left _ hm7)
  clear hM hl3
  by_cases hlt:h<31
  ·have t0:decide ((h:Int)≤30)=true:=by simp;omega
   have t1:(h:Int)≤30:=by omega
   go_wp2
   go_loopw [3,5] (fun v x wr=> ∃(k:Nat) (q5:Option Addr) (l5 c5:Nat),k≤m∧x= .int .i64 (k:Int)∧v= .slice q5 l5 c5∧l5≤l+k∧l5=(keyIn (fromOf bs) m h k).length∧Mem w wr [ownI w.heap.size TI 1 (q5) (l5) (c5) (ivs (natI (keyIn (fromOf bs) m h k)))]) (fun _ x _=>m-(intOf x).toNat)
   case atStart=>exact⟨0,q3,l,c3,Nat.zero_le _,rfl,rfl,by omega,by rw[keyIn_zero];exact HL3.out,by rw[keyIn_zero];exact HM.out⟩
   case round=>
    clear HM
    obtain⟨k,q5,l5,c5,hk,rfl,rfl,hl5,hl6,hM⟩:=hrel
    have HN:=Lib.hid hM
    have HL5:=Lib.hid hl6
    clear hM hl6
    by_cases hkt:k<m
    ·obtain⟨b,off,a0,a1,a2,a3,rfl,hv,hb,g0,g1,g2,g3⟩:=visit_at (HS.out.ext HN.out.ext) hkt
     have hf:=Lib.hid (fromOf_at hv)
     clear hv
     have i1:(0:Int)≤(k:Int):=by omega
     have i2:(k:Int)<(m:Int):=by omega
     by_cases t:a1=(h:Int)
     ·have q0:(a1==(h:Int))=true:=by simp[t]
      have hnx:Hid (keyIn (fromOf bs) m h (k+1)=keyIn (fromOf bs) m h k++ [k]):=keyIn_yes (by rw[hf.out,t])
      clear t
      go_wp2_with (at_builtin;go_loud (refine wpList_appM elInt rfl _ _ rfl (HN.out.adv ((Ext.refl _).alloc (.cells #[.int .i64 (k:Int)] TI))) 0 rfl rfl [.int .i64 (k:Int)] rfl (sl_lit _ _ _ 1 1 _ (by simp) (by simp) (by simp[maxLen])) (iv_one _) (by omega) ?_;intro q7 c7 w6 M6))
      have M7:=Lib.hid (show Mem w w6 [ownI w.heap.size TI 1 (q7) (l5+1) (c7) (ivs (natI (keyIn (fromOf bs) m h (k+1))))]from by rw[hnx.out];simpa using M6)
      have hl7:Hid (l5+1=(keyIn (fromOf bs) m h (k+1)).length):=by show _=_;rw[hnx.out,List.length_append,←HL5.out];rfl
      clear M6 HN
      go_wp2
      go_roundw
      case rel=>exact⟨k+1,q7,l5+1,c7,by omega,by go_num,rfl,by omega,hl7.out,M7.out⟩
      case measure=>simp[intOf];omega
     ·have q0:(a1==(h:Int))=false:=by simp[t]
      have hnx:Hid (keyIn (fromOf bs) m h (k+1)=keyIn (fromOf bs) m h k):=keyIn_no (by rw[hf.out];exact t)
      clear t
      go_wp2
      go_roundw
      case rel=>exact⟨k+1,q5,l5,c5,by omega,by go_num,rfl,by omega,by rw[hnx.out];exact HL5.out,by rw[hnx.out];exact HN.out⟩
      case measure=>simp[intOf];omega
    ·obtain rfl:k=m:=by omega
     go_wp2
     go_roundw
     case rel=>exact⟨h+1,q5,l5,c5,by omega,by go_num,rfl,by rw[←keyIn_end];exact HL5.out,by rw[←keyIn_end];exact HN.out⟩
     case measure=>simp[intOf];omega
  ·obtain rfl:h=31:=by omega
   go_wp2
   go_ret
   have h1:=HM.out.own (i:=0) rfl
   have h2:=HL3.out
   have h3:=hl.out
   subst h3
   exact ret_ints (by rw[h2];simp) h1 HM.out.ext
set_option maxRecDepth 100000 in
set_option maxHeartbeats 8000000 in
theorem specByTo (q:Option Addr)(m c2:Nat)(bs:List Visit4)(w:World)(hm7:m≤7)(hS:Sl w q m c2 4 (bs.flatMap visitCells)):
  Calls Tryd.prog 63 #[.slice q m c2] w (RetInts (natI (byKey (toOf bs) bs.length 31)) w):=by
 have hn:=hS.bd
 have HS:=Lib.hid hS
 have hl:Hid (bs.length=m):=by
  have:=hS.len;rw[flat_len visitCells 4 (fun _=>rfl)]at this;exact(by omega:bs.length=m)
 clear hS
 have ME:=Lib.hid (show Mem w (w.alloc (.cells #[] TI)) [ownI w.heap.size TI 1 (some ⟨w.heap.size,0,none⟩) (0) (0) ([])]from((Mem.start w).made0 TI 1 (w.heap.size) (by simp)))
 go_enter Tryd.func63,Tryd.ntmps63
 go_wp2
 go_loopw [3,4] (fun v x wr=> ∃(h:Nat) (q3:Option Addr) (l c3:Nat),h≤31∧x= .int .i64 (h:Int)∧v= .slice q3 l c3∧l=(byKey (toOf bs) m h).length∧Mem w wr [ownI w.heap.size TI 1 (q3) (l) (c3) (ivs (natI (byKey (toOf bs) m h)))]) (fun _ x _=>31-(intOf x).toNat)
 case atStart=>exact⟨0,some ⟨w.heap.size,0,none⟩,0,0,Nat.zero_le _,rfl,rfl,rfl,ME.out⟩
 case round=>
  clear ME
  obtain⟨h,q3,l,c3,hh,rfl,rfl,hl3,hM⟩:=hrel
  have HM:=Lib.hid hM
  have HL3:=Lib.hid hl3
  have hlb:l≤h*7:=by rw[hl3];exact Nat.le_trans (byKey_le _ _ _) (Nat.mul_le_mul_left _ hm7)
  clear hM hl3
  by_cases hlt:h<31
  ·have t0:decide ((h:Int)≤30)=true:=by simp;omega
   have t1:(h:Int)≤30:=by omega
   go_wp2
   go_loopw [3,5] (fun v x wr=> ∃(k:Nat) (q5:Option Addr) (l5 c5:Nat),k≤m∧x= .int .i64 (k:Int)∧v= .slice q5 l5 c5∧l5≤l+k∧l5=(keyIn (toOf bs) m h k).length∧Mem w wr [ownI w.heap.size TI 1 (q5) (l5) (c5) (ivs (natI (keyIn (toOf bs) m h k)))]) (fun _ x _=>m-(intOf x).toNat)
   case atStart=>exact⟨0,q3,l,c3,Nat.zero_le _,rfl,rfl,by omega,by rw[keyIn_zero];exact HL3.out,by rw[keyIn_zero];exact HM.out⟩
   case round=>
    clear HM
    obtain⟨k,q5,l5,c5,hk,rfl,rfl,hl5,hl6,hM⟩:=hrel
    have HN:=Lib.hid hM
    have HL5:=Lib.hid hl6
    clear hM hl6
    by_cases hkt:k<m
    ·obtain⟨b,off,a0,a1,a2,a3,rfl,hv,hb,g0,g1,g2,g3⟩:=visit_at (HS.out.ext HN.out.ext) hkt
     have hf:=Lib.hid (toOf_at hv)
     clear hv
     have i1:(0:Int)≤(k:Int):=by omega
     have i2:(k:Int)<(m:Int):=by omega
     by_cases t:a2=(h:Int)
     ·have q0:(a2==(h:Int))=true:=by simp[t]
      have hnx:Hid (keyIn (toOf bs) m h (k+1)=keyIn (toOf bs) m h k++ [k]):=keyIn_yes (by rw[hf.out,t])
      clear t
      go_wp2_with (at_builtin;go_loud (refine wpList_appM elInt rfl _ _ rfl (HN.out.adv ((Ext.refl _).alloc (.cells #[.int .i64 (k:Int)] TI))) 0 rfl rfl [.int .i64 (k:Int)] rfl (sl_lit _ _ _ 1 1 _ (by simp) (by simp) (by simp[maxLen])) (iv_one _) (by omega) ?_;intro q7 c7 w6 M6))
      have M7:=Lib.hid (show Mem w w6 [ownI w.heap.size TI 1 (q7) (l5+1) (c7) (ivs (natI (keyIn (toOf bs) m h (k+1))))]from by rw[hnx.out];simpa using M6)
      have hl7:Hid (l5+1=(keyIn (toOf bs) m h (k+1)).length):=by show _=_;rw[hnx.out,List.length_append,←HL5.out];rfl
      clear M6 HN
      go_wp2
      go_roundw
      case rel=>exact⟨k+1,q7,l5+1,c7,by omega,by go_num,rfl,by omega,hl7.out,M7.out⟩
      case measure=>simp[intOf];omega
     ·have q0:(a2==(h:Int))=false:=by simp[t]
      have hnx:Hid (keyIn (toOf bs) m h (k+1)=keyIn (toOf bs) m h k):=keyIn_no (by rw[hf.out];exact t)
      clear t
      go_wp2
      go_roundw
      case rel=>exact⟨k+1,q5,l5,c5,by omega,by go_num,rfl,by omega,by rw[hnx.out];exact HL5.out,by rw[hnx.out];exact HN.out⟩
      case measure=>simp[intOf];omega
    ·obtain rfl:k=m:=by omega
     go_wp2
     go_roundw
     case rel=>exact⟨h+1,q5,l5,c5,by omega,by go_num,rfl,by rw[←keyIn_end];exact HL5.out,by rw[←keyIn_end];exact HN.out⟩
     case measure=>simp[intOf];omega
  ·obtain rfl:h=31:=by omega
   go_wp2
   go_ret
   have h1:=HM.out.own (i:=0) rfl
   have h2:=HL3.out
   have h3:=hl.out
   subst h3
   exact ret_ints (by rw[h2];simp) h1 HM.out.ext
end Go.Proofs.YtndcnflchkfaeaaDoor

