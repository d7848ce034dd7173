/-
  Texts of this proof, packed (@packed).
-/
import Derived.Test.YtahglfakiobbcaaGreatDoorK13
import Derived.Test.YtahglfakiobbcaaGreatDoorK14
namespace Go.Proofs.YtahglfakiobbcaaGreatDoor
open Go.RowKit
set_option linter.unusedVariables false
set_option linter.unusedSimpArgs false
set_option maxRecDepth 100000 in
set_option maxHeartbeats 4000000 in
theorem zE (S:Nat)(w:World)(hS:S≤1099511627776):Calls Tryz.prog 127 #[.int .i64 (S:Int)] w fun e w'=>e= .returned (.int .i64 (eQ S:Int))∧w=w':=by
 go_enter Tryz.func127,Tryz.ntmps127
 go_wp2
 go_loopw [0,3] (fun v i wr=> ∃(T c:Nat),v= .int .i64 (T:Int)∧i= .int .i64 (c:Int)∧c+eQ T=eQ S∧T≤S∧c+T≤2*S∧w=wr) (fun v _ _=>(intOf v).toNat)
 case atStart=>exact⟨S,0,rfl,rfl,by omega,Nat.le_refl _,by omega,rfl⟩
 case round=>
  obtain⟨T,c,rfl,rfl,h1,h2,h3,rfl⟩:=hrel
  by_cases h0:0<T
  ·have t0:decide ((0:Int)<(T:Int))=true:=by simp;omega
   have t1:(T:Int).tmod 2=((T%2:Nat):Int):=rfl
   have t2:(T:Int).tdiv 2=((T/2:Nat):Int):=rfl
   have hp:=mM T
   have hw:IntKind.i64.wrap ((c:Int)+((T%2:Nat):Int))=(c:Int)+((T%2:Nat):Int):=IntWalk.i64_in _ (by omega)
   have HP:=xQ hp
   have H1:=xQ h1
   clear hp h1
   go_wp2
   go_roundw
   case rel=>exact⟨T/2,c+T%2,by first|rfl|go_num,by first|rfl|go_num,by have:=HP.out;have:=H1.out;omega,by omega,by omega,by trivial⟩
   case measure=>simp[intOf];omega
  ·have t0:decide ((0:Int)<(T:Int))=false:=by simp;omega
   have hc:Hid (c=eQ S):=by show _=_;rw[←h1,show T=0 by omega];simp[eQ]
   clear h1
   go_wp2
   go_ret
   exact⟨by rw[hc.out];rfl,rfl⟩
def aAi (fr:List Nat):Nat:=fr.foldl (fun a f=>a+2 ^ f) 0
theorem aFq: ∀(l:List Nat) (a:Nat),(∀f∈l,f<12)→l.foldl (fun a f=>a+2 ^ f) a≤a+l.length*4096:=by
 intro l
 induction l with
 |nil=>intro a _;simp
 |cons f l ih=>
  intro a h
  have h1:=ih (a+2 ^ f) (fun x hx=>h x (by simp[hx]))
  have h2:2 ^ f≤4096:=Nat.le_trans (Nat.pow_le_pow_right (by omega) (show f≤11 by have:=h f (by simp);omega)) (by decide)
  rw[List.foldl_cons,List.length_cons,Nat.succ_mul]
  omega
theorem aFr {fr:List Nat}(h: ∀f∈fr,f<12)(k:Nat):(fr.take k).foldl (fun a f=>a+2 ^ f) 0≤k*4096:=by
 have h1:=aFq (fr.take k) 0 (fun f hf=>h f (List.mem_of_mem_take hf))
 have h2:(fr.take k).length≤k:=by rw[List.length_take];omega
 have h3:=Nat.mul_le_mul_right 4096 h2
 omega
theorem aEo (xs:List Int):aAi (bE xs)=aN xs:=by
 unfold aAi bE aN
 generalize xs.length=k
 induction k with
 |zero=>rfl
 |succ k ih=>
  rw[List.range_succ,List.filter_append,List.foldl_append,ih,show fV (cG xs) (k+1)=fV (cG xs) k+(if cG xs k then 2 ^ k else 0)from rfl]
  cases h:cG xs k<;>simp[h]
set_option maxRecDepth 100000 in
set_option maxHeartbeats 4000000 in
theorem yH (aA aB:Int)(p:Option Addr)(n cap:Nat)(fr:List Nat)(F:Nat)(w:World)(hF:Hid (fr.length=F))(hF12:F≤12)(hfr:Hid (∀x∈fr,x<12))
  (HF:Hid (∀w',Ext w w'→Calls Tryz.prog 123 #[aK aA aB p n cap] w' fun e w''=> ∃q c,e= .returned (.slice q F c)∧w''.ownsRow w'.heap.size TI 1 (.slice q F c) F (ivs (aY fr))∧Ext w' w'')):
  Calls Tryz.prog 103 #[aK aA aB p n cap] w fun e w'=>e= .returned (.int .i64 (aAi fr:Int))∧Ext w w':=by
 go_enter Tryz.func103,Tryz.ntmps103
 go_wp2_with fail
 refine(HF.out _ (Mem.b1 w).ext).mono ?_
 rintro e w1 ⟨q1,c1,rfl,ho1,hx1⟩
 have M1:=xQ (show Mem w w1 [aJ w.heap.size TI 1 (q1) (F) (c1) (ivs (aY fr)),aF w.heap.size (w.heap.size) TH3 #[.int .i64 aA,.int .i64 aB,.slice p n cap]]from(Mem.b1 w).call hx1 ho1)
 have lt1_1:=M1.out.hi 1
 clear hx1 ho1
 go_wp2
 go_loopw [3,5] (fun v i wr=> ∃(k T:Nat),k≤F∧i= .int .i64 (k:Int)∧v= .int .i64 (T:Int)∧T=(fr.take k).foldl (fun a f=>a+2 ^ f) 0∧w1=wr) (fun _ i _=>F-(intOf i).toNat)
 case atStart=>exact⟨0,0,Nat.zero_le _,rfl,rfl,rfl,rfl⟩
 case round=>
  obtain⟨k,T,hk,rfl,rfl,hT,rfl⟩:=hrel
  have HT:=xQ hT
  have hTb:T≤12*4096:=by have:=aFr hfr.out k;rw[hT];have:k≤12:=by omega
                         omega
  clear hT
  by_cases hlt:k<F
  ·obtain⟨f,hf⟩: ∃f,fr[k]? =some f:=⟨_,List.getElem?_eq_getElem (by rw[hF.out];exact hlt)⟩
   have hfn:f<12:=hfr.out f (List.mem_of_getElem? hf)
   obtain⟨gf,rfl,hf1,hf2⟩:=M1.out.some (i:=0) rfl (by omega)
   have cu:w1.cell? ⟨gf,k,none⟩=some (.int .i64 (f:Int)):=by have:=(M1.out.own (i:=0) rfl).cellAt k (by omega);rw[this];simp[ivs,aY,hf]
   have hn:=xQ (show(fr.take (k+1)).foldl (fun a f=>a+2 ^ f) 0=T+2 ^ f by rw[bH hf,List.foldl_append,←HT.out];rfl)
   clear hf
   have i1:(0:Int)≤(k:Int):=by omega
   have i2:(k:Int)<(F:Int):=by omega
   obtain⟨P,hP⟩: ∃P:Nat,P=2 ^ f:=⟨_,rfl⟩
   have hPb:P≤2048:=by rw[hP];exact Nat.le_trans (Nat.pow_le_pow_right (by omega) (show f≤11 by omega)) (by decide)
   have hsh:(2:Int) ^ f=(P:Int):=by rw[hP];simp
   have hw1:IntKind.i64.wrap (P:Int)=(P:Int):=IntWalk.i64_in _ (by omega)
   have hw2:IntKind.i64.wrap ((T:Int)+(P:Int))=(T:Int)+(P:Int):=IntWalk.i64_in _ (by omega)
   rw[←hP]at hn
   clear hP
   go_wp2
   go_roundw
   case rel=>exact⟨k+1,T+P,by omega,by go_num,by first|rfl|go_num,hn.out.symm,by trivial⟩
   case measure=>simp[intOf];omega
  ·obtain rfl:F=k:=by omega
   have hfin:Hid ((T:Int)=((aAi fr:Nat):Int)):=by
    show _=_
    rw[HT.out,List.take_of_length_le (by rw[hF.out];omega)];rfl
   go_wp2
   go_ret
   exact⟨by rw[hfin.out];rfl,M1.out.ext⟩
theorem mW (aA aB:Int)(p:Option Addr)(n cap:Nat)(xs:List Int)(w:World)(hS:Sl w p n cap 1 (ivs xs))(hok:aP aA aB xs=true):
  Calls Tryz.prog 123 #[aK aA aB p n cap] w fun e w'=> ∃q c,e= .returned (.slice q (bE xs).length c)∧w'.ownsRow w.heap.size TI 1 (.slice q (bE xs).length c) (bE xs).length (ivs (aY (bE xs)))∧Ext w w':=by
 have:=aD8 aA aB p n cap xs w hS
 rw[hok,if_pos rfl,qS]at this
 refine this.mono fun e w'' h=> ?_
 obtain⟨q,c,h1,h2,h3⟩:=h
 rw[List.length_map]at h1 h2
 exact⟨q,c,h1,h2,h3⟩
theorem aEn {aA aB:Int}{xs:List Int}(hok:aP aA aB xs=true):(bE xs).length≤12:=by
 obtain⟨g1,g2,g3,g4,g5,g6,g7⟩:=bU (bW hok)
 unfold bE
 exact Nat.le_trans (List.length_filter_le _ _) (by simp;omega)
theorem qG (aA aB:Int)(p:Option Addr)(n cap:Nat)(xs:List Int)(w:World)(hS:Sl w p n cap 1 (ivs xs))(hok:aP aA aB xs=true):
  Calls Tryz.prog 103 #[aK aA aB p n cap] w fun e w'=>e= .returned (.int .i64 (aN xs:Int))∧Ext w w':=by
 have hl:=hS.ilen
 obtain⟨g1,g2,g3,g4,g5,g6,g7⟩:=bU (bW hok)
 rw[←aEo]
 exact yH aA aB p n cap (bE xs) _ w rfl (aEn hok) (fun x hx=>by have:=(gW hx).1;omega) (fun w' hy=>mW aA aB p n cap xs w' (hS.ext hy) hok)
abbrev TSS:TypeId:=22
theorem aGv:ElT Tryz.prog 143 TSS 1:=
 ⟨Tryz.underlying143,by
  obtain⟨i,hi,h0,h1,h2⟩:=info_parts (show(Tryz.prog.info? TSS).map (fun i=>(i.zero,i.size,i.bytes))=some (some (.slice none 0 0),1,24) by kernel_rfl)
  exact⟨i,_,hi,h0,h1,by omega,rfl⟩,by omega⟩
def lK (aA:Int)(n k:Nat)(rows:List RowD):Prop:=rows.length=k∧ ∀(j:Nat) (r:RowD),rows[j]? =some r→r.n=(aR aA n j).length∧r.xs=ivs (aY (aR aA n j))
def uL (aA:Int)(n:Nat)(w:World)(e:Ending)(w':World):Prop:=
 ∃q c rows,e= .returned (.slice q n c)∧lK aA n n rows∧uM w.heap.size TSS TI 1 q c rows w'∧Ext w w'
theorem oT {aA:Int}{n k:Nat}{rows:List RowD}{q:Option Addr}{c:Nat}(h:lK aA n k rows):lK aA n (k+1) (rows++ [⟨q,(aR aA n k).length,c,ivs (aY (aR aA n k))⟩]):=by
 refine⟨by rw[List.length_append,h.1];rfl,fun j r hj=> ?_⟩
 by_cases hk:j<k
 ·rw[List.getElem?_append_left (by rw[h.1];exact hk)]at hj;exact h.2 j r hj
 ·have hl:=(List.getElem?_eq_some_iff.1 hj).1
  rw[List.length_append,h.1]at hl
  simp at hl
  obtain rfl:j=k:=by omega
  rw[List.getElem?_append_right (by rw[h.1];exact Nat.le_refl _),h.1,Nat.sub_self]at hj
  simp at hj
  subst hj
  exact⟨rfl,by simp[ivs,aY]⟩
set_option maxRecDepth 100000 in
set_option maxHeartbeats 4000000 in
theorem aBc (aA aB:Int)(p:Option Addr)(n cap:Nat)(w:World)(hn:n≤12)
  (HC:Hid (∀(k:Nat),k<n→ ∀w',Ext w w'→Calls Tryz.prog 140 #[aK aA aB p n cap,.int .i64 (k:Int)] w' (bB (aY (aR aA n k)) w'))):
  Calls Tryz.prog 128 #[aK aA aB p n cap] w (uL aA n w):=by
 go_enter Tryz.func128,Tryz.ntmps128
 have ME:=xQ (show Mem w ((w.alloc (.cells #[.int .i64 aA,.int .i64 aB,.slice p n cap] TH3)).alloc (.cells #[] TSS)) [aJ w.heap.size TSS 1 (some ⟨w.heap.size+1,0,none⟩) (0) (0) ([]),aF w.heap.size (w.heap.size) TH3 #[.int .i64 aA,.int .i64 aB,.slice p n cap]]from((((Mem.start w).blkNew TH3 #[.int .i64 aA,.int .i64 aB,.slice p n cap] (w.heap.size) (by simp))).made0 TSS 1 (w.heap.size+1) (by simp)))
 go_wp2
 go_loopw [3,4] (fun v i wr=> ∃(k:Nat) (q:Option Addr) (c:Nat) (rows:List RowD),k≤n∧i= .int .i64 (k:Int)∧v= .slice q k c∧lK aA n k rows∧Mem w wr [fD w.heap.size TI 1 rows,aJ w.heap.size TSS 1 (q) (k) (c) (rows.map RowD.v),aF w.heap.size (w.heap.size) TH3 #[.int .i64 aA,.int .i64 aB,.slice p n cap]]) (fun _ i _=>n-(intOf i).toNat)
 case atStart=>exact⟨0,some ⟨w.heap.size+1,0,none⟩,0,[],Nat.zero_le _,rfl,rfl,⟨rfl,fun j r h=>by simp at h⟩,ME.out.rows0 rfl⟩
 case round=>
  clear ME
  obtain⟨k,q,c,rows,hk,rfl,rfl,hrows,hM⟩:=hrel
  have HM:=xQ hM
  have HR:=xQ hrows
  clear hM hrows
  have lt0:=(HM.out.lt (i:=2) rfl rfl).2
  obtain⟨c0,c1,c2⟩:=((HM.out.blk (i:=2) rfl)).tri
  by_cases hlt:k<n
  ·go_wp2_with fail
   clear c0 c1 c2
   refine(HC.out k hlt _ HM.out.ext).mono ?_
   rintro e w2 ⟨q2,c2,rfl,o2,hx2⟩
   rw[List.length_map]at o2⊢
   have M2:=xQ (HM.out.call hx2 o2)
   have M3:=xQ (M2.out.rowsAdd rfl)
   have hR2:=xQ (oT (q:=q2) (c:=c2) HR.out)
   clear o2 hx2 M2 HM HR
   go_wp2_with (at_builtin;go_loud (refine cJ aGv rfl _ _ rfl (M3.out.adv ((Ext.refl _).alloc (.cells #[.slice q2 (aR aA n k).length c2] TSS))) 1 rfl rfl [.slice q2 (aR aA n k).length c2] rfl (eA _ _ _ 1 1 _ (by first|rfl|simp) (by first|rfl|simp) (by simp[maxLen])) (fun u hu=>by obtain rfl:=List.mem_singleton.1 hu;rfl) (by omega) ?_;intro q7 c7 w6 M6))
   have M7:=xQ (show Mem w w6 [fD w.heap.size TI 1 (rows++ [⟨q2,(aR aA n k).length,c2,ivs (aY (aR aA n k))⟩]),aJ w.heap.size TSS 1 q7 (k+1) c7 ((rows++ [⟨q2,(aR aA n k).length,c2,ivs (aY (aR aA n k))⟩]:List RowD).map RowD.v),aF w.heap.size (w.heap.size) TH3 #[.int .i64 aA,.int .i64 aB,.slice p n cap]]from by rw[List.map_append];exact M6)
   clear M6 M3
   go_wp2
   go_roundw
   case rel=>exact⟨k+1,q7,c7,_,by omega,by go_num,rfl,hR2.out,M7.out⟩
   case measure=>simp[intOf];omega
  ·obtain rfl:n=k:=by omega
   go_wp2
   go_ret
   have hl:=HR.out.1
   have h1:=HM.out.own (i:=1) rfl
   refine⟨q,c,rows,rfl,HR.out,⟨?_,fun r hr=>HM.out.ok (fD w.heap.size TI 1 rows) (by simp) r hr⟩,HM.out.ext⟩
   rw[hl];exact h1
theorem tT (aA aB:Int)(p:Option Addr)(n cap:Nat)(xs:List Int)(w:World)(hS:Sl w p n cap 1 (ivs xs))(hok:aP aA aB xs=true):
  Calls Tryz.prog 128 #[aK aA aB p n cap] w (uL aA n w):=by
 have hl:=hS.ilen
 obtain⟨g1,g2,g3,g4,g5,g6,g7⟩:=bU (bW hok)
 exact aBc aA aB p n cap w (by omega) (fun k hk w' hx=>by
  have:=yK aA aB k p n cap xs w' (hS.ext hx) hok (by omega) (by omega)
  rwa[iK]at this)
theorem aAr (S h:Nat):S.testBit h=decide (S/2 ^ h%2=1):=by exact Nat.testBit_eq_decide_div_mod_eq
def iE (k:Nat):List Int:=List.replicate k (-1)++List.replicate (NN-k) 0
theorem zA {k:Nat}(h:k<NN):(iE k).set k (-1)=iE (k+1):=by
 unfold iE
 obtain⟨m,hm⟩: ∃m,NN-k=m+1:=⟨NN-k-1,by omega⟩
 rw[hm,show NN-(k+1)=m by omega,List.replicate_succ]
 rw[List.set_append_right _ _ (by rw[List.length_replicate];exact Nat.le_refl _),List.length_replicate,Nat.sub_self,List.set_cons_zero,List.replicate_succ',List.append_assoc]
 rfl
theorem zB {k:Nat}(h:k<NN):(iE k)[k]? =some 0:=by
 unfold iE
 rw[List.getElem?_append_right (by rw[List.length_replicate];exact Nat.le_refl _),List.length_replicate,Nat.sub_self]
 rw[List.getElem?_replicate,if_pos (by omega)]
def dQ (many m:Nat):List Nat:=(List.range m).filter (fun s=> !s.testBit 0&&decide (eQ s=many))
theorem zC (many:Nat):iE NN=fJ NN (dQ many 0):=by
 unfold iE fJ dQ
 rw[Nat.sub_self,List.replicate_zero,List.append_nil]
 rfl
theorem uS {many m:Nat}(hm:m%2=0):dQ many (m+2)=dQ many m++(if eQ m=many then [m]else []):=by
 unfold dQ
 rw[List.range_succ,List.range_succ,List.filter_append,List.filter_append,List.append_assoc]
 have h0:m.testBit 0=false:=by rw[Nat.testBit_zero];simp;omega
 have h1:(m+1).testBit 0=true:=by rw[Nat.testBit_zero];simp;omega
 congr 1
 by_cases hp:eQ m=many
 ·simp only[List.filter_cons,List.filter_nil,h0,h1];simp[hp]
 ·simp only[List.filter_cons,List.filter_nil,h0,h1];simp[hp]
theorem uT (many m:Nat):(dQ many m).length≤m:=by
 unfold dQ;exact Nat.le_trans (List.length_filter_le _ _) (by simp)
def fB (aA:Int)(n M s h:Nat):List Nat:=if(s%M).testBit h then((aR aA n h).filter (fun f=> !(s%M).testBit f)).map (fun f=>eK M (s/M) (s%M) f h)else []
def fR (aA:Int)(n M s h:Nat):List Nat:=(List.range h).flatMap (fB aA n M s)
def gK (aA:Int)(n M s h j:Nat):List Nat:=(((aR aA n h).take j).filter (fun f=> !(s%M).testBit f)).map (fun f=>eK M (s/M) (s%M) f h)
theorem nT (aA:Int)(n M s:Nat):fR aA n M s n=qZ aA n M s:=rfl
theorem qC (aA:Int)(n M s h:Nat):fR aA n M s (h+1)=fR aA n M s h++fB aA n M s h:=by
 unfold fR;rw[List.range_succ,List.flatMap_append];simp
theorem aGt {aA:Int}{n M s h:Nat}(hb:(s%M).testBit h=false):fB aA n M s h= []:=by unfold fB;rw[hb];rfl
theorem aEr {aA:Int}{n M s h:Nat}(hb:(s%M).testBit h=true):fB aA n M s h=gK aA n M s h (aR aA n h).length:=by unfold fB gK;rw[if_pos hb,List.take_length]
theorem yT (aA:Int)(n M s h:Nat):gK aA n M s h 0= []:=rfl
theorem aDs {aA:Int}{n M s h j f:Nat}(hj:(aR aA n h)[j]? =some f) (hb:(s%M).testBit f=true):gK aA n M s h (j+1)=gK aA n M s h j:=by
 unfold gK;rw[bH hj,List.filter_append];simp[hb]
theorem aBj {aA:Int}{n M s h j f:Nat}(hj:(aR aA n h)[j]? =some f) (hb:(s%M).testBit f=false):gK aA n M s h (j+1)=gK aA n M s h j++ [eK M (s/M) (s%M) f h]:=by
 unfold gK;rw[bH hj,List.filter_append];simp[hb]
theorem yU {aA:Int}{n M s h j:Nat}(hh:h<n)(hb:(s%M).testBit h=true): ∀v∈fR aA n M s h++gK aA n M s h j,v∈qZ aA n M s:=by
 intro v hv
 rw[←nT]
 unfold fR
 rw[List.mem_flatMap]
 rcases List.mem_append.1 hv with hv|hv
 ·unfold fR at hv
  obtain⟨a,ha,hm⟩:=List.mem_flatMap.1 hv
  exact⟨a,List.mem_range.2 (by have:=List.mem_range.1 ha;omega),hm⟩
 ·refine⟨h,List.mem_range.2 hh,?_⟩
  rw[aEr hb]
  unfold gK at hv⊢
  obtain⟨f,hf,rfl⟩:=List.mem_map.1 hv
  obtain⟨h1,h2⟩:=List.mem_filter.1 hf
  exact List.mem_map.2 ⟨f,List.mem_filter.2 ⟨by rw[List.take_length];exact List.mem_of_mem_take h1,h2⟩,rfl⟩
theorem aBk {aA:Int}{n M s h:Nat}(hh:h≤n): ∀v∈fR aA n M s h,v∈qZ aA n M s:=by
 intro v hv
 rw[←nT]
 unfold fR at hv⊢
 obtain⟨a,ha,hm⟩:=List.mem_flatMap.1 hv
 exact List.mem_flatMap.2 ⟨a,List.mem_range.2 (by have:=List.mem_range.1 ha;omega),hm⟩
theorem vT {adj:Nat→List Nat}{src:List Nat}{N k u:Nat}{D:List Int}{Q:List Nat}(h:Inv adj src N k (D,Q))(hu:Q[k]? =some u) (ha: ∀v∈adj u,v<N) {vs:List Nat} (hv: ∀v∈vs,v∈adj u) {D2:List Int} {Q2:List Nat} (he:(D2,Q2)=bF (D.getD u 0+1) (D,Q) vs):
  Mid adj src N k u vs (D,Q) (D2,Q2):=by
 rw[he]
 have:=Mid.many (List.mem_of_getElem? hu) vs [] (D,Q) (h.mid hu) (fun v hv'=>⟨hv v hv',ha v (hv v hv')⟩)
 simpa using this
end Go.Proofs.YtahglfakiobbcaaGreatDoor
