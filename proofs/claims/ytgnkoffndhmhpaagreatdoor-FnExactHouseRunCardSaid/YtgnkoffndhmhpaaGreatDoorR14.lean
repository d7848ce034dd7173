/-
  Texts of this proof, packed (@packed).
-/
import Derived.Deep.OwnRows
import Derived.Test.YtgnkoffndhmhpaaGreatDoorR12
import Derived.Test.YtgnkoffndhmhpaaGreatDoorR13
namespace Go.Proofs.YtgnkoffndhmhpaaGreatDoor
open Go.RowKit
set_option linter.unusedVariables false
set_option linter.unusedSimpArgs false
set_option maxHeartbeats 8000000
set_option maxRecDepth 100000
theorem aBc (S:Nat)(w:World)(hS:S≤1099511627776):Calls Tryz.prog 182 #[(S:Int)] w fun e w'=>e= .returned (.int .i64 (fI S:Int))∧w=w':=by
 go_enter Tryz.func182,Tryz.ntmps182
 go_wp2
 go_loopw [0,3] (fun v i wr=> ∃(T c:Nat),v= .int .i64 (T:Int)∧i= .int .i64 (c:Int)∧c+fI T=fI S∧T≤S∧c+T≤2*S∧w=wr) (fun v _ _=>(intOf v).toNat)
 case atStart=>exact⟨S,0,rfl,rfl,by omega,Nat.le_refl _,by omega,rfl⟩
 case round=>
  obtain⟨T,c,rfl,rfl,h1,h2,h3,rfl⟩:=hrel
  by_cases h0:0<T
  ·have t0:decide ((0:Int)<(T:Int))=true:=by simp;omega
   have t1:(T:Int).tmod 2=((T%2:Nat):Int):=rfl
   have t2:(T:Int).tdiv 2=((T/2:Nat):Int):=rfl
   have hp:=oB T
   have hw:IntKind.i64.wrap ((c:Int)+((T%2:Nat):Int))=(c:Int)+((T%2:Nat):Int):=IntWalk.i64_in _ (by omega)
   have HP:=xQ hp
   have H1:=xQ h1
   clear hp h1
   go_wp2
   go_roundw
   case rel=>exact⟨T/2,c+T%2,by first|rfl|go_num,by first|rfl|go_num,by have:=HP.out;have:=H1.out;omega,by omega,by omega,by trivial⟩
   case measure=>simp[intOf];omega
  ·have t0:decide ((0:Int)<(T:Int))=false:=by simp;omega
   have hc:Hid (c=fI S):=by show _=_;rw[←h1,show T=0 by omega];simp[fI]
   clear h1
   go_wp2
   go_ret
   exact⟨by rw[hc.out];rfl,rfl⟩
def aCk (fr:List Nat):Nat:=fr.foldl (fun a f=>a+2 ^ f) 0
theorem aI9: ∀(l:List Nat) (a:Nat),(∀f∈l,f<12)→l.foldl (fun a f=>a+2 ^ f) a≤a+l.length*4096:=by
 intro l
 induction l with
 |nil=>intro a _;simp
 |cons f l ih=>
  intro a h
  have h1:=ih (a+2 ^ f) (fun x hx=>h x (by simp[hx]))
  have h2:2 ^ f≤4096:=Nat.le_trans (Nat.pow_le_pow_right (by omega) (show f≤11 by have:=h f (by simp);omega)) (by decide)
  rw[List.foldl_cons,List.length_cons,Nat.succ_mul]
  omega
theorem aIa {fr:List Nat}(h: ∀f∈fr,f<12)(k:Nat):(fr.take k).foldl (fun a f=>a+2 ^ f) 0≤k*4096:=by
 have h1:=aI9 (fr.take k) 0 (fun f hf=>h f (List.mem_of_mem_take hf))
 have h2:(fr.take k).length≤k:=by rw[List.length_take];omega
 have h3:=Nat.mul_le_mul_right 4096 h2
 omega
theorem aH1 (xs:List Int):aCk (bI xs)=aN xs:=by
 unfold aCk bI aN
 generalize xs.length=k
 induction k with
 |zero=>rfl
 |succ k ih=>
  rw[List.range_succ,List.filter_append,List.foldl_append,ih,show gS (cK xs) (k+1)=gS (cK xs) k+(if cK xs k then 2 ^ k else 0)from rfl]
  cases h:cK xs k<;>simp[h]
theorem aAo (aA aB:Int)(p:OA)(n cap:Nat)(fr:List Nat)(F:Nat)(w:World)(hF:Hid (fr.length=F))(hF12:F≤12)(hfr:Hid (∀x∈fr,x<12))
  (HF:xC 134 #[aI aA aB p n cap] w fun w' e w''=> ∃q c,e= .returned (.slice q F c)∧w''.ownsRow w'.heap.size TI 1 (.slice q F c) F (ivs (bD fr))∧Ext w' w''):
  Calls Tryz.prog 158 #[aI aA aB p n cap] w fun e w'=>e= .returned (.int .i64 (aCk fr:Int))∧Ext w w':=by
 go_enter Tryz.func158,Tryz.ntmps158
 go_wp2_with fail
 refine(HF.out _ (Mem.b1 w).ext).mono ?_
 rintro e w1 ⟨q1,c1,rfl,ho1,hx1⟩
 have M1:=xQ ((Mem.b1 w).call hx1 ho1)
 have lt1_1:=M1.out.hi 1
 clear hx1 ho1
 go_wp2
 go_loopw [3,5] (fun v i wr=> ∃(k T:Nat),k≤F∧i= .int .i64 (k:Int)∧v= .int .i64 (T:Int)∧T=(fr.take k).foldl (fun a f=>a+2 ^ f) 0∧w1=wr) (fun _ i _=>F-(intOf i).toNat)
 case atStart=>exact⟨0,0,Nat.zero_le _,rfl,rfl,rfl,rfl⟩
 case round=>
  obtain⟨k,T,hk,rfl,rfl,hT,rfl⟩:=hrel
  have HT:=xQ hT
  have hTb:T≤12*4096:=by have:=aIa hfr.out k;rw[hT];have:k≤12:=by omega
                         omega
  clear hT
  by_cases hlt:k<F
  ·obtain⟨f,hf⟩: ∃f,fr[k]? =some f:=⟨_,List.getElem?_eq_getElem (by rw[hF.out];exact hlt)⟩
   have hfn:f<12:=hfr.out f (List.mem_of_getElem? hf)
   obtain⟨gf,rfl,hf1,hf2⟩:=M1.out.some (i:=0) rfl (by omega)
   have cu:w1.cell? ⟨gf,k,none⟩=some (.int .i64 (f:Int)):=by have:=(M1.out.own (i:=0) rfl).cellAt k (by omega);rw[this];simp[ivs,bD,hf]
   have hn:=xQ (show(fr.take (k+1)).foldl (fun a f=>a+2 ^ f) 0=T+2 ^ f by rw[bF hf,List.foldl_append,←HT.out];rfl)
   clear hf
   have i1:(0:Int)≤(k:Int):=by omega
   have i2:(k:Int)<(F:Int):=by omega
   obtain⟨P,hP⟩: ∃P:Nat,P=2 ^ f:=⟨_,rfl⟩
   have hPb:P≤2048:=by rw[hP];exact Nat.le_trans (Nat.pow_le_pow_right (by omega) (show f≤11 by omega)) (by decide)
   have hsh:(2:Int) ^ f=(P:Int):=by rw[hP];simp
   have hw1:IntKind.i64.wrap (P:Int)=(P:Int):=IntWalk.i64_in _ (by omega)
   have hw2:IntKind.i64.wrap ((T:Int)+(P:Int))=(T:Int)+(P:Int):=IntWalk.i64_in _ (by omega)
   rw[←hP]at hn
   clear hP
   go_wp2
   go_roundw
   case rel=>exact⟨k+1,T+P,by omega,by go_num,by first|rfl|go_num,hn.out.symm,by trivial⟩
   case measure=>simp[intOf];omega
  ·obtain rfl:F=k:=by omega
   have hfin:Hid ((T:Int)=((aCk fr:Nat):Int)):=by
    show _=_
    rw[HT.out,List.take_of_length_le (by rw[hF.out];omega)];rfl
   go_wp2
   go_ret
   exact⟨by rw[hfin.out];rfl,M1.out.ext⟩
theorem oL (aA aB:Int)(p:OA)(n cap:Nat)(xs:List Int)(w:World)(hS:Sl w p n cap 1 (ivs xs))(hok:aP aA aB xs=true):
  Calls Tryz.prog 134 #[aI aA aB p n cap] w fun e w'=> ∃q c,e= .returned (.slice q (bI xs).length c)∧w'.ownsRow w.heap.size TI 1 (.slice q (bI xs).length c) (bI xs).length (ivs (bD (bI xs)))∧Ext w w':=by
 have:=aAl aA aB p n cap xs w hS
 rw[hok,if_pos rfl,sI]at this
 refine this.mono fun e w'' h=> ?_
 obtain⟨q,c,h1,h2,h3⟩:=h
 rw[List.length_map]at h1 h2
 exact⟨q,c,h1,h2,h3⟩
theorem aH0 {aA aB:Int}{xs:List Int}(hok:aP aA aB xs=true):(bI xs).length≤12:=by
 obtain⟨g1,g2,g3,g4,g5,g6,g7⟩:=bR (cF hok)
 unfold bI
 exact Nat.le_trans (List.length_filter_le _ _) (by simp;omega)
theorem rW (aA aB:Int)(p:OA)(n cap:Nat)(xs:List Int)(w:World)(hS:Sl w p n cap 1 (ivs xs))(hok:aP aA aB xs=true):
  Calls Tryz.prog 158 #[aI aA aB p n cap] w fun e w'=>e= .returned (.int .i64 (aN xs:Int))∧Ext w w':=by
 have hl:=hS.ilen
 obtain⟨g1,g2,g3,g4,g5,g6,g7⟩:=bR (cF hok)
 rw[←aH1]
 exact aAo aA aB p n cap (bI xs) _ w rfl (aH0 hok) (fun x hx=>by have:=(iM hx).1;omega) (fun w' hy=>oL aA aB p n cap xs w' (hS.ext hy) hok)
abbrev TSS:TypeId:=22
theorem aJo:ElT Tryz.prog 189 TSS 1:=
 ⟨Tryz.underlying189,by
  obtain⟨i,hi,h0,h1,h2⟩:=info_parts (show(Tryz.prog.info? TSS).map (fun i=>(i.zero,i.size,i.bytes))=some (some (.slice none 0 0),1,24) by kernel_rfl)
  exact⟨i,_,hi,h0,h1,by omega,rfl⟩,by omega⟩
def mT (aA:Int)(n k:Nat)(rows:List RowD):Prop:=rows.length=k∧ ∀(j:Nat) (r:RowD),rows[j]? =some r→r.n=(aS aA n j).length∧r.xs=ivs (bD (aS aA n j))
def wP (aA:Int)(n:Nat)(w:World)(e:Ending)(w':World):Prop:=
 ∃q c rows,e= .returned (.slice q n c)∧mT aA n n rows∧wQ w.heap.size TSS TI 1 q c rows w'∧Ext w w'
theorem qL {aA:Int}{n k:Nat}{rows:List RowD}{q:OA}{c:Nat}(h:mT aA n k rows):mT aA n (k+1) (rows++ [⟨q,(aS aA n k).length,c,ivs (bD (aS aA n k))⟩]):=by
 refine⟨by rw[List.length_append,h.1];rfl,fun j r hj=> ?_⟩
 by_cases hk:j<k
 ·rw[List.getElem?_append_left (by rw[h.1];exact hk)]at hj;exact h.2 j r hj
 ·have hl:=(List.getElem?_eq_some_iff.1 hj).1
  rw[List.length_append,h.1]at hl
  simp at hl
  obtain rfl:j=k:=by omega
  rw[List.getElem?_append_right (by rw[h.1];exact Nat.le_refl _),h.1,Nat.sub_self]at hj
  simp at hj
  subst hj
  exact⟨rfl,by simp[ivs,bD]⟩
theorem aDg (aA aB:Int)(p:OA)(n cap:Nat)(w:World)(hn:n≤12)
  (HC:Hid (∀(k:Nat),k<n→ ∀w',Ext w w'→Calls Tryz.prog 201 #[aI aA aB p n cap,(k:Int)] w' (aY (bD (aS aA n k)) w'))):
  Calls Tryz.prog 183 #[aI aA aB p n cap] w (wP aA n w):=by
 go_enter Tryz.func183,Tryz.ntmps183
 have ME:=xQ (((((Mem.start w).blkNew TH3 #[aA,aB,.slice p n cap] (w.heap.size) (by simp))).made0 TSS 1 (w.heap.size+1) (by simp)))
 go_wp2
 go_loopw [3,4] (fun v i wr=> ∃(k:Nat) (q:OA) (c:Nat) (rows:List RowD),k≤n∧i= .int .i64 (k:Int)∧v= .slice q k c∧mT aA n k rows∧Mem w wr [fS w.heap.size TI 1 rows,aJ w.heap.size TSS 1 (q) (k) (c) (rows.map RowD.v),aL w.heap.size (w.heap.size) TH3 #[aA,aB,.slice p n cap]]) (fun _ i _=>n-(intOf i).toNat)
 case atStart=>exact⟨0,some ⟨w.heap.size+1,0,none⟩,0,[],Nat.zero_le _,rfl,rfl,⟨rfl,fun j r h=>by simp at h⟩,ME.out.rows0 rfl⟩
 case round=>
  clear ME
  obtain⟨k,q,c,rows,hk,rfl,rfl,hrows,hM⟩:=hrel
  have HM:=xQ hM
  have HR:=xQ hrows
  clear hM hrows
  have lt0:=(HM.out.lt (i:=2) rfl rfl).2
  obtain⟨c0,c1,c2⟩:=((HM.out.blk (i:=2) rfl)).tri
  by_cases hlt:k<n
  ·go_wp2_with fail
   clear c0 c1 c2
   refine(HC.out k hlt _ HM.out.ext).mono ?_
   rintro e w2 ⟨q2,c2,rfl,o2,hx2⟩
   rw[List.length_map]at o2⊢
   have M2:=xQ (HM.out.call hx2 o2)
   have M3:=xQ (M2.out.rowsAdd rfl)
   have hR2:=xQ (qL (q:=q2) (c:=c2) HR.out)
   clear o2 hx2 M2 HM HR
   go_wp2_with (at_builtin;go_loud (refine bX aJo rfl _ _ rfl (M3.out.adv ((Ext.refl _).alloc (.cells #[.slice q2 (aS aA n k).length c2] TSS))) 1 rfl rfl [.slice q2 (aS aA n k).length c2] rfl (dM _ _ _ 1 1 _ (by first|rfl|simp) (by first|rfl|simp) (by simp[maxLen])) (fun u hu=>by obtain rfl:=List.mem_singleton.1 hu;rfl) (by omega) ?_;intro q7 c7 w6 M6))
   have M7:=xQ (show Mem w w6 [fS w.heap.size TI 1 (rows++ [⟨q2,(aS aA n k).length,c2,ivs (bD (aS aA n k))⟩]),aJ w.heap.size TSS 1 q7 (k+1) c7 ((rows++ [⟨q2,(aS aA n k).length,c2,ivs (bD (aS aA n k))⟩]:List RowD).map RowD.v),aL w.heap.size (w.heap.size) TH3 #[aA,aB,.slice p n cap]]from by rw[List.map_append];exact M6)
   clear M6 M3
   go_wp2
   go_roundw
   case rel=>exact⟨k+1,q7,c7,_,by omega,by go_num,rfl,hR2.out,M7.out⟩
   case measure=>simp[intOf];omega
  ·obtain rfl:n=k:=by omega
   go_wp2
   go_ret
   have hl:=HR.out.1
   have h1:=HM.out.own (i:=1) rfl
   refine⟨q,c,rows,rfl,HR.out,⟨?_,fun r hr=>HM.out.ok (fS w.heap.size TI 1 rows) (by simp) r hr⟩,HM.out.ext⟩
   rw[hl];exact h1
theorem vP (aA aB:Int)(p:OA)(n cap:Nat)(xs:List Int)(w:World)(hS:Sl w p n cap 1 (ivs xs))(hok:aP aA aB xs=true):
  Calls Tryz.prog 183 #[aI aA aB p n cap] w (wP aA n w):=by
 have hl:=hS.ilen
 obtain⟨g1,g2,g3,g4,g5,g6,g7⟩:=bR (cF hok)
 exact aDg aA aB p n cap w (by omega) (fun k hk w' hx=>by
  have:=aAr aA aB k p n cap xs w' (hS.ext hx) hok (by omega) (by omega)
  rwa[jF]at this)
end Go.Proofs.YtgnkoffndhmhpaaGreatDoor
namespace Go.Proofs.YtgnkoffndhmhpaaGreatDoor
open Go.RowKit
theorem aCu (S h:Nat):S.testBit h=decide (S/2 ^ h%2=1):=by exact Nat.testBit_eq_decide_div_mod_eq
def iW (k:Nat):List Int:=List.replicate k (-1)++List.replicate (NN-k) 0
theorem aB8 {k:Nat}(h:k<NN):(iW k).set k (-1)=iW (k+1):=by
 unfold iW
 obtain⟨m,hm⟩: ∃m,NN-k=m+1:=⟨NN-k-1,by omega⟩
 rw[hm,show NN-(k+1)=m by omega,List.replicate_succ]
 rw[List.set_append_right _ _ (by rw[List.length_replicate];exact Nat.le_refl _),List.length_replicate,Nat.sub_self,List.set_cons_zero,List.replicate_succ',List.append_assoc]
 rfl
theorem aB9 {k:Nat}(h:k<NN):(iW k)[k]? =some 0:=by
 unfold iW
 rw[List.getElem?_append_right (by rw[List.length_replicate];exact Nat.le_refl _),List.length_replicate,Nat.sub_self]
 rw[List.getElem?_replicate,if_pos (by omega)]
def eF (many m:Nat):List Nat:=(List.range m).filter (fun s=> !s.testBit 0&&decide (fI s=many))
theorem aBa (many:Nat):iW NN=gG NN (eF many 0):=by
 unfold iW gG eF
 rw[Nat.sub_self,List.replicate_zero,List.append_nil]
 rfl
theorem wV {many m:Nat}(hm:m%2=0):eF many (m+2)=eF many m++(if fI m=many then [m]else []):=by
 unfold eF
 rw[List.range_succ,List.range_succ,List.filter_append,List.filter_append,List.append_assoc]
 have h0:m.testBit 0=false:=by rw[Nat.testBit_zero];simp;omega
 have h1:(m+1).testBit 0=true:=by rw[Nat.testBit_zero];simp;omega
 congr 1
 by_cases hp:fI m=many
 ·simp only[List.filter_cons,List.filter_nil,h0,h1];simp[hp]
 ·simp only[List.filter_cons,List.filter_nil,h0,h1];simp[hp]
theorem wW (many m:Nat):(eF many m).length≤m:=by
 unfold eF;exact Nat.le_trans (List.length_filter_le _ _) (by simp)
def fB (aA:Int)(n M s h:Nat):List Nat:=if(s%M).testBit h then((aS aA n h).filter (fun f=> !(s%M).testBit f)).map (fun f=>eZ M (s/M) (s%M) f h)else []
def gI (aA:Int)(n M s h:Nat):List Nat:=(List.range h).flatMap (fB aA n M s)
def iF (aA:Int)(n M s h j:Nat):List Nat:=(((aS aA n h).take j).filter (fun f=> !(s%M).testBit f)).map (fun f=>eZ M (s/M) (s%M) f h)
theorem pJ (aA:Int)(n M s:Nat):gI aA n M s n=sR aA n M s:=rfl
theorem rQ (aA:Int)(n M s h:Nat):gI aA n M s (h+1)=gI aA n M s h++fB aA n M s h:=by
 unfold gI;rw[List.range_succ,List.flatMap_append];simp
theorem aJk {aA:Int}{n M s h:Nat}(hb:(s%M).testBit h=false):fB aA n M s h= []:=by unfold fB;rw[hb];rfl
theorem aH4 {aA:Int}{n M s h:Nat}(hb:(s%M).testBit h=true):fB aA n M s h=iF aA n M s h (aS aA n h).length:=by unfold fB iF;rw[if_pos hb,List.take_length]
theorem aB1 (aA:Int)(n M s h:Nat):iF aA n M s h 0= []:=rfl
theorem aG1 {aA:Int}{n M s h j f:Nat}(hj:(aS aA n h)[j]? =some f) (hb:(s%M).testBit f=true):iF aA n M s h (j+1)=iF aA n M s h j:=by
 unfold iF;rw[bF hj,List.filter_append];simp[hb]
theorem aDo {aA:Int}{n M s h j f:Nat}(hj:(aS aA n h)[j]? =some f) (hb:(s%M).testBit f=false):iF aA n M s h (j+1)=iF aA n M s h j++ [eZ M (s/M) (s%M) f h]:=by
 unfold iF;rw[bF hj,List.filter_append];simp[hb]
theorem aB2 {aA:Int}{n M s h j:Nat}(hh:h<n)(hb:(s%M).testBit h=true): ∀v∈gI aA n M s h++iF aA n M s h j,v∈sR aA n M s:=by
 intro v hv
 rw[←pJ]
 unfold gI
 rw[List.mem_flatMap]
 rcases List.mem_append.1 hv with hv|hv
 ·unfold gI at hv
  obtain⟨a,ha,hm⟩:=List.mem_flatMap.1 hv
  exact⟨a,List.mem_range.2 (by have:=List.mem_range.1 ha;omega),hm⟩
 ·refine⟨h,List.mem_range.2 hh,?_⟩
  rw[aH4 hb]
  unfold iF at hv⊢
  obtain⟨f,hf,rfl⟩:=List.mem_map.1 hv
  obtain⟨h1,h2⟩:=List.mem_filter.1 hf
  exact List.mem_map.2 ⟨f,List.mem_filter.2 ⟨by rw[List.take_length];exact List.mem_of_mem_take h1,h2⟩,rfl⟩
theorem aDp {aA:Int}{n M s h:Nat}(hh:h≤n): ∀v∈gI aA n M s h,v∈sR aA n M s:=by
 intro v hv
 rw[←pJ]
 unfold gI at hv⊢
 obtain⟨a,ha,hm⟩:=List.mem_flatMap.1 hv
 exact List.mem_flatMap.2 ⟨a,List.mem_range.2 (by have:=List.mem_range.1 ha;omega),hm⟩
theorem yE {adj:Nat→List Nat}{src:List Nat}{N k u:Nat}{D:List Int}{Q:List Nat}(h:Inv adj src N k (D,Q))(hu:Q[k]? =some u) (ha: ∀v∈adj u,v<N) {vs:List Nat} (hv: ∀v∈vs,v∈adj u) {D2:List Int} {Q2:List Nat} (he:(D2,Q2)=bJ (D.getD u 0+1) (D,Q) vs):
  Mid adj src N k u vs (D,Q) (D2,Q2):=by
 rw[he]
 have:=Mid.many (List.mem_of_getElem? hu) vs [] (D,Q) (h.mid hu) (fun v hv'=>⟨hv v hv',ha v (hv v hv')⟩)
 simpa using this
set_option linter.unusedVariables false
set_option linter.unusedSimpArgs false
set_option maxHeartbeats 16000000
set_option maxRecDepth 100000
theorem lA (n:Nat):(madeCells #[Value.int .i64 0] n).toList=ivs (List.replicate n 0)∧(madeCells #[Value.int .i64 0] n).size=n:=by
 constructor
 ·apply List.ext_getElem<;>simp[madeCells,Nat.mod_one]
 ·simp[madeCells]
theorem aHs (N:Nat)(src:List Nat): ∀x∈gG N src,-1≤x∧x≤((0:Nat):Int):=by
 unfold gG
 suffices h: ∀(l:List Nat) (A:List Int),(∀x∈A,-1≤x∧x≤((0:Nat):Int))→ ∀x∈l.foldl (fun A v=>A.set v 0) A,-1≤x∧x≤((0:Nat):Int)from h src _ (fun x hx=>by rw[List.mem_replicate]at hx;omega)
 intro l
 induction l with
 |nil=>intro A h;exact h
 |cons v l ih=>
  intro A h
  exact ih (A.set v 0) (fun x hx=>by
   rcases List.mem_or_eq_of_mem_set hx with h1|h1
   ·exact h x h1
   ·omega)
theorem aAe (aA aB:Int)(p:OA)(n cap F P:Nat)(w:World)(hn0:4≤n)(hn:n≤12)(hP:Hid (P=2 ^ n))(hP12:P≤4096)(hPe:P%2=0)
  (HF:xC 134 #[aI aA aB p n cap] w fun w' e w''=> ∃q c,e= .returned (.slice q F c)∧Ext w' w'')
  (HBI:Hid (∀(m:Nat) w',m≤4096→Calls Tryz.prog 182 #[(m:Int)] w' fun e w''=>e= .returned (.int .i64 (fI m:Int))∧w'=w''))
  (HN:Hid (∀w',Ext w w'→Calls Tryz.prog 183 #[aI aA aB p n cap] w' (wP aA n w'))):
  Calls Tryz.prog 157 #[aI aA aB p n cap] w fun e w'=> ∃D,eE aA n F D∧aY D w e w':=by
 obtain⟨AR,hAR⟩: ∃AR:Array Value,AR=madeCells #[()] 49152:=⟨_,rfl⟩
 have hmk: ∀w:World,(Instr.makeSlice 22 (.int .i64 49152) (.int .i64 49152)).run Tryz.prog w= .ok (.slice (some ⟨w.heap.size,0,none⟩) 49152 49152) (w.alloc (.cells AR TI)):=fun w=>by
  rw[hAR]
  exact run_make_row' _ _ (.int .i64 0) 8 Tryz.underlying22 (by kernel_rfl) rfl .i64 .i64 49152 (by omega) (by omega) w
 have hA1:Hid (AR.toList=ivs (iW 0)):=by
  show _=_
  rw[hAR,(lA 49152).1];rfl
 have hA2:Hid (AR.size=49152):=by show _=_;rw[hAR];exact(lA 49152).2
 clear hAR
 go_enter Tryz.func157,Tryz.ntmps157
 go_wp2
 have ME:=xQ (show Mem w ((w.alloc (.cells #[aA,aB,.slice p n cap] TH3)).alloc (.cells AR TI)) [aJ w.heap.size TI 1 (some ⟨w.heap.size+1,0,none⟩) (49152) (49152) (ivs (iW 0)),aL w.heap.size (w.heap.size) TH3 #[aA,aB,.slice p n cap]]from by rw[←hA1.out];exact((Mem.start w).blkNew TH3 #[aA,aB,.slice p n cap] w.heap.size rfl).lit TI 1 49152 _ AR (by simp) (by rw[hA2.out]) (by simp[maxLen]))
 clear hA1 hA2 hmk
 go_loopw [4] (fun i wr=> ∃(k:Nat),k≤49152∧i= .int .i64 (k:Int)∧Mem w wr [aJ w.heap.size TI 1 (some ⟨w.heap.size+1,0,none⟩) (49152) (49152) (ivs (iW k)),aL w.heap.size (w.heap.size) TH3 #[aA,aB,.slice p n cap]]) (fun i _=>49152-(intOf i).toNat)
 case atStart=>exact⟨0,Nat.zero_le _,rfl,ME.out⟩
 case round=>
  clear ME
  obtain⟨k,hk,rfl,hM⟩:=hrel
  have HM:=xQ hM
  clear hM
  have lt0:=(HM.out.lt (i:=1) rfl rfl).2
  by_cases hlt:k<49152
  ·have i1:(0:Int)≤(k:Int):=by omega
   have i2:(k:Int)<49152:=by omega
   have cl:wr.cell? ⟨w.heap.size+1,k,none⟩=some (.int .i64 0):=by have:=(HM.out.own (i:=0) rfl).cellAt k (by omega);rw[this];simp[ivs,aB9 hlt]
   have cf:wr.frozen? ⟨w.heap.size+1,k,none⟩=false:=(HM.out.own (i:=0) rfl).frozenAt k
   have M2:=xQ (show Mem w (wr.setCell ⟨w.heap.size+1,k,none⟩ (.int .i64 (-1))) [aJ w.heap.size TI 1 (some ⟨w.heap.size+1,0,none⟩) (49152) (49152) (ivs (iW (k+1))),aL w.heap.size (w.heap.size) TH3 #[aA,aB,.slice p n cap]]from by rw[←aB8 hlt,←dI];exact HM.out.ostore (i:=0) rfl k (.int .i64 (-1)))
   clear HM
   go_wp2
   go_roundw
   case rel=>exact⟨k+1,by omega,by go_num,M2.out⟩
   case measure=>simp[intOf];omega
  ·obtain rfl:k=49152:=by omega
   have M1:=xQ (show Mem w wr [aJ w.heap.size TI 1 (some ⟨w.heap.size+1,0,none⟩) (49152) (49152) (ivs (gG NN (eF F 0))),aL w.heap.size (w.heap.size) TH3 #[aA,aB,.slice p n cap]]from by have:=HM.out;rwa[show iW 49152=gG NN (eF F 0)from aBa F]at this)
   clear HM hlt hk
   have M2:=xQ ((M1.out.made0 TI 1 wr.heap.size rfl))
   clear M1
   have c0:(wr.alloc (.cells #[] TI)).cell? ⟨w.heap.size,0,none⟩=some (.int .i64 aA):=((M2.out).blk (i:=2) rfl).cell 0
   have c1:(wr.alloc (.cells #[] TI)).cell? ⟨w.heap.size,1,none⟩=some (.int .i64 aB):=((M2.out).blk (i:=2) rfl).cell 1
   have c2:(wr.alloc (.cells #[] TI)).cell? ⟨w.heap.size,2,none⟩=some (.slice p n cap):=((M2.out).blk (i:=2) rfl).cell 2
   go_wp2_with fail
   clear c0 c1 c2
   refine(HF.out _ M2.out.ext).mono ?_
   rintro e w3 ⟨q3,c3,rfl,hx3⟩
   have M3:=xQ (M2.out.adv hx3)
   clear M2 hx3 lt0
   have hp1:(2:Int) ^ n=(P:Int):=by rw[hP.out];simp
   have hw1:IntKind.i64.wrap (P:Int)=(P:Int):=IntWalk.i64_in _ (by omega)
   have ltw:=(M3.out.lt (i:=2) rfl rfl).2
   go_wp2
   go_loopw [5,7] (fun v i wx=> ∃(m:Nat) (q:OA) (l lc:Nat),m≤P∧m%2=0∧i= .int .i64 (m:Int)∧v= .slice q l lc∧l=(eF F m).length∧Mem w wx [aJ w.heap.size TI 1 (q) (l) (lc) (ivs (bD (eF F m))),aJ w.heap.size TI 1 (some ⟨w.heap.size+1,0,none⟩) (49152) (49152) (ivs (gG NN (eF F m))),aL w.heap.size (w.heap.size) TH3 #[aA,aB,.slice p n cap]]) (fun _ i _=>P-(intOf i).toNat)
   case atStart=>exact⟨0,some ⟨wr.heap.size,0,none⟩,0,0,Nat.zero_le _,rfl,rfl,rfl,rfl,M3.out⟩
   case round=>
    clear M3 ltw
    obtain⟨m,q,l,lc,hm,hm2,rfl,rfl,hl,hM⟩:=hrel
    have HM:=xQ hM
    have HL:=xQ hl
    have hlm:l≤4096:=by have:=wW F m;omega
    clear hM hl
    obtain⟨c0,c1,c2⟩:=(((HM.out).blk (i:=2) rfl)).tri
    have lt0:=(HM.out.lt (i:=2) rfl rfl).2
    by_cases hlt:m<P
    ·have t0:decide ((m:Int)<(P:Int))=true:=by simp[hlt]
     go_wp2_with fail
     refine(HBI.out m _ (by omega)).mono ?_
     rintro e wx ⟨rfl,rfl⟩
     have h2:=wV (many:=F) hm2
     by_cases hp:fI m=F
     ·have t1:((fI m:Int)==(F:Int))=true:=by simp[hp]
      rw[if_pos hp]at h2
      have H2:=xQ h2
      have HL2:=xQ (show l+1=(eF F (m+2)).length by rw[h2,List.length_append,←HL.out];rfl)
      clear h2 hp
      have hmN:m<49152:=by omega
      have i1:(0:Int)≤(m:Int):=by omega
      have i2:(m:Int)<49152:=by omega
      obtain⟨x0,hx0⟩: ∃x0,(gG NN (eF F m))[m]? =some x0:=⟨_,List.getElem?_eq_getElem (by rw[tQ];exact hmN)⟩
      have cl:wr.cell? ⟨w.heap.size+1,m,none⟩=some (.int .i64 x0):=by have:=(HM.out.own (i:=1) rfl).cellAt m (by omega);rw[this];simp[ivs,hx0]
      have cf:wr.frozen? ⟨w.heap.size+1,m,none⟩=false:=(HM.out.own (i:=1) rfl).frozenAt m
      clear hx0
      go_wp2_with (at_builtin;refine bX eP rfl _ _ rfl ((HM.out.ostore (i:=1) rfl m (.int .i64 0)).adv ((Ext.refl _).alloc (.cells #[(m:Int)] TI))) 0 rfl rfl [.int .i64 (m:Int)] rfl (dM _ _ _ 1 1 _ (by first|rfl|simp) (by first|rfl|simp) (by simp[maxLen])) (fun u hu=>by obtain rfl:=List.mem_singleton.1 hu;rfl) (by omega) ?_;intro q7 c7 w6 M6)
      have M7:=xQ (show Mem w w6 [aJ w.heap.size TI 1 (q7) (l+1) (c7) (ivs (bD (eF F (m+2)))),aJ w.heap.size TI 1 (some ⟨w.heap.size+1,0,none⟩) (49152) (49152) (ivs (gG NN (eF F (m+2)))),aL w.heap.size (w.heap.size) TH3 #[aA,aB,.slice p n cap]]from by rw[H2.out,aAu,←dI,bD,List.map_append,ivs,List.map_append];exact M6)
      clear M6 HM cl cf c0 c1 c2
      go_wp2
      go_roundw
      case rel=>exact⟨m+2,q7,l+1,c7,by omega,by omega,by go_num,rfl,HL2.out,M7.out⟩
      case measure=>simp[intOf];omega
     ·have t1:((fI m:Int)==(F:Int))=false:=by simp;omega
      rw[if_neg hp,List.append_nil]at h2
      have H2:=xQ h2
      clear h2
      go_wp2
      go_roundw
      case rel=>exact⟨m+2,q,l,lc,by omega,by omega,by go_num,rfl,by rw[H2.out];exact HL.out,by rw[H2.out];exact HM.out⟩
      case measure=>simp[intOf];omega
    ·obtain rfl:m=P:=by omega
     have hsrc:eF F m=rE n F:=by rw[hP.out];rfl
     rw[hsrc]at HL HM
     have hnn:n≤12:=hn
     have hI:=Inv.begin (adj:=sR aA n MM) (src:=rE n F) (N:=NN) (aCc hnn) rD
     have HI0:=xQ hI
     clear hI hsrc hlt
     go_wp2_with fail
     clear c0 c1 c2
     refine(HN.out _ HM.out.ext).mono ?_
     rintro e w4 ⟨qB,cB,rows,rfl,hrows,hnest,hx4⟩
     obtain⟨gB,rfl,hgB1,hgB2⟩:=eB hnest.1 (by rw[hrows.1];omega)
     have M4:=xQ (HM.out.nestNew hx4 hnest (Nat.le_refl _))
     have HR:=xQ hrows
     clear hnest hx4 hrows HM
     go_wp2
     go_loopw [5,9] (fun v i wx=> ∃(k:Nat) (q:OA) (l lc:Nat) (D:List Int) (Q:List Nat),k≤l∧i= .int .i64 (k:Int)∧v= .slice q l lc∧l=Q.length∧(∀x∈D,-1≤x∧x≤(k:Int))∧Inv (sR aA n MM) (rE n F) NN k (D,Q)∧Mem w wx [aJ w.heap.size TI 1 (q) (l) (lc) (ivs (bD Q)),aJ w.heap.size TI 1 (some ⟨w.heap.size+1,0,none⟩) (49152) (49152) (ivs D),mZ w.heap.size TSS TI 1 (some ⟨gB,0,none⟩) cB rows,aL w.heap.size (w.heap.size) TH3 #[aA,aB,.slice p n cap]]) (fun _ i _=>49152-(intOf i).toNat)
     case atStart=>exact⟨0,q,l,lc,_,rE n F,Nat.zero_le _,rfl,rfl,HL.out,aHs _ _,HI0.out,M4.out.pick [1,2,0,3] (by decide) rfl⟩
     case round=>
      clear M4 HI0 HL
      obtain⟨k,q,l,lc,D,Q,hk,rfl,rfl,hl,hbd,hinv,hM⟩:=hrel
      have HM:=xQ hM
      have HL:=xQ hl
      have HBD:=xQ hbd
      have HI:=xQ hinv
      have hlN:l≤49152:=by have:=hinv.qlen;rw[hl];exact this
      clear hM hl hbd hinv
      by_cases hlt:k<l
      ·obtain⟨gL,rfl,hg1,hg2⟩:=HM.out.some (i:=0) rfl (by omega)
       obtain⟨u,hu⟩: ∃u,Q[k]? =some u:=⟨_,List.getElem?_eq_getElem (by rw[←HL.out];exact hlt)⟩
       have hun:u<49152:=HI.out.bd u (List.mem_of_getElem? hu)
       obtain⟨C,hC⟩: ∃C,C=u/4096:=⟨_,rfl⟩
       obtain⟨S,hS⟩: ∃S,S=u%4096:=⟨_,rfl⟩
       have hC12:C<12:=by omega
       have hS12:S<4096:=by omega
       have HU:=xQ hu
       have HC:=xQ hC
       have HS:=xQ hS
       have i1:(0:Int)≤(k:Int):=by omega
       have i2:(k:Int)<(l:Int):=by omega
       have d1:(u:Int)/4096=(C:Int):=by omega
       have d2:(u:Int)%4096=(S:Int):=by omega
       have cu:wr.cell? ⟨gL,k,none⟩=some (.int .i64 (u:Int)):=by have:=(HM.out.own (i:=0) rfl).cellAt k (by omega);rw[this];simp[ivs,bD,hu]
       have lt0:=(HM.out.lt (i:=3) rfl rfl).2
       clear hu hC hS
       go_wp2
       rw[d2]
       clear cu d1 d2
       go_loopw [5,12] (fun v i wx=> ∃(h:Nat) (q:OA) (l2 lc:Nat) (D2:List Int) (Q2:List Nat),h≤n∧i= .int .i64 (h:Int)∧v= .slice q l2 lc∧l2=Q2.length∧(D2,Q2)=bJ (D.getD u 0+1) (D,Q) (gI aA n MM u h)∧(∀x∈D2,-1≤x∧x≤(k:Int)+1)∧Mem w wx [aJ w.heap.size TI 1 (q) (l2) (lc) (ivs (bD Q2)),aJ w.heap.size TI 1 (some ⟨w.heap.size+1,0,none⟩) (49152) (49152) (ivs D2),mZ w.heap.size TSS TI 1 (some ⟨gB,0,none⟩) cB rows,aL w.heap.size (w.heap.size) TH3 #[aA,aB,.slice p n cap]]) (fun _ i _=>n-(intOf i).toNat)
       case atStart=>exact⟨0,_,l,lc,D,Q,Nat.zero_le _,rfl,rfl,HL.out,rfl,fun x hx=>by have:=HBD.out x hx;omega,HM.out⟩
       case round=>
        clear HM lt0
        obtain⟨h,q,l2,lc,D2,Q2,hh,rfl,rfl,hl2,heq,hbd2,hM⟩:=hrel
        have HM:=xQ hM
        have HL2:=xQ hl2
        have HEQ:=xQ heq
        have HBD2:=xQ hbd2
        clear hM hl2 heq hbd2
        obtain⟨c0,c1,c2⟩:=(((HM.out).blk (i:=3) rfl)).tri
        have lt0:=(HM.out.lt (i:=3) rfl rfl).2
        by_cases hlth:h<n
        ·have t0:decide ((h:Int)<(n:Int))=true:=by simp[hlth]
         obtain⟨Ph,hPh⟩: ∃Ph:Nat,Ph=2 ^ h:=⟨_,rfl⟩
         have hPhb:Ph≤2048:=by rw[hPh];exact Nat.le_trans (Nat.pow_le_pow_right (by omega) (show h≤11 by omega)) (by decide)
         have hsh:(2:Int) ^ h=(Ph:Int):=by rw[hPh];simp
         have hwh:IntKind.i64.wrap (Ph:Int)=(Ph:Int):=IntWalk.i64_in _ (by omega)
         obtain⟨A,hA⟩: ∃A:Nat,A=S/Ph:=⟨_,rfl⟩
         have hshr:(S:Int)/(Ph:Int)=(A:Int):=by rw[hA];simp
         have hbit:S.testBit h=decide (A%2=1):=by rw[hA,hPh];exact aCu S h
         have HPH:=xQ hPh
         have HBIT:=xQ hbit
         obtain⟨rw_,hrw⟩: ∃r,rows[h]? =some r:=⟨_,List.getElem?_eq_getElem (by rw[HR.out.1];exact hlth)⟩
         obtain⟨qi,ni,ci,xi⟩:=rw_
         obtain⟨hni,hxi⟩:=HR.out.2 h _ hrw
         dsimp only at hni hxi
         subst hni hxi
         have HRW:=xQ hrw
         have rl:=HR.out.1
         have RL:=xQ rl
         clear hPh hbit hA hrw
         obtain⟨nb,hnb⟩: ∃nb,nb=aS aA n h:=⟨_,rfl⟩
         rw[←hnb]at HRW
         have HNB:=xQ hnb
         have hnb12:nb.length≤12:=by rw[hnb];exact Nat.le_trans (List.length_filter_le _ _) (by simp;omega)
         clear hnb rl
         have k1:(0:Int)≤(h:Int):=by omega
         have k2:(h:Int)<(n:Int):=by omega
         go_wp2
         clear c0 c1 c2
         cases hb:S.testBit h with
         |false=>
          have t1:(A:Int)%2=0:=by have:=HBIT.out;rw[hb]at this;simp at this;omega
          have hfin:=xQ (show gI aA n MM u (h+1)=gI aA n MM u h by rw[rQ,aJk (by rw[←show S=u%MM from HS.out];exact hb),List.append_nil])
          clear hb
          go_loopw [5,13] (fun v i wx=>i= .int .i64 0∧v= .slice q l2 lc∧wr=wx) (fun _ _ _=>0)
          case atStart=>exact⟨rfl,rfl,rfl⟩
          case round=>
           obtain⟨rfl,rfl,rfl⟩:=hrel
           go_wp2
           go_roundw
           case rel=>exact⟨h+1,q,l2,lc,D2,Q2,by omega,by go_num,rfl,HL2.out,by rw[hfin.out];exact HEQ.out,HBD2.out,HM.out⟩
           case measure=>simp[intOf];omega
         |true=>
          have t1:(A:Int)%2=1:=by have:=HBIT.out;rw[hb]at this;simp at this;omega
          have hbU:=xQ (show(u%MM).testBit h=true by rw[←show S=u%MM from HS.out];exact hb)
          clear hb
          go_loopw [5,13] (fun v i wx=> ∃(j:Nat) (q:OA) (l2 lc:Nat) (D2:List Int) (Q2:List Nat),j≤nb.length∧i= .int .i64 (j:Int)∧v= .slice q l2 lc∧l2=Q2.length∧(D2,Q2)=bJ (D.getD u 0+1) (D,Q) (gI aA n MM u h++iF aA n MM u h j)∧(∀x∈D2,-1≤x∧x≤(k:Int)+1)∧Mem w wx [aJ w.heap.size TI 1 (q) (l2) (lc) (ivs (bD Q2)),aJ w.heap.size TI 1 (some ⟨w.heap.size+1,0,none⟩) (49152) (49152) (ivs D2),mZ w.heap.size TSS TI 1 (some ⟨gB,0,none⟩) cB rows,aL w.heap.size (w.heap.size) TH3 #[aA,aB,.slice p n cap]]) (fun _ i _=>nb.length-(intOf i).toNat)
          case atStart=>exact⟨0,q,l2,lc,D2,Q2,Nat.zero_le _,rfl,rfl,HL2.out,by rw[aB1,List.append_nil];exact HEQ.out,HBD2.out,HM.out⟩
          case round=>
           clear HM HL2 HEQ HBD2 lt0
           obtain⟨j,q,l2,lc,D2,Q2,hj,rfl,rfl,hl2,heq,hbd2,hM⟩:=hrel
           have HM:=xQ hM
           have hvs: ∀v∈gI aA n MM u h++iF aA n MM u h j,v∈sR aA n MM u:=aB2 hlth hbU.out
           have hmid:=yE HI.out HU.out (fun v hv=>oT hn u v hun hv) hvs heq
           have hD2:D2.length=49152:=hmid.len
           have hQ2:Q2.length≤49152:=lT hmid.nodup hmid.bd
           have hum:u∈Q:=List.mem_of_getElem? HU.out
           have hsu:D2.getD u 0=D.getD u 0:=hmid.same u hum
           obtain⟨r,hr⟩:=hmid.pre
           dsimp only at hr
           have hkl:k<Q2.length:=by rw[hr,List.length_append];have:=HL.out;omega
           have hQk:Q2[k]? =some u:=by
            have:=HL.out
            rw[hr,List.getElem?_append_left (by omega)];exact HU.out
           have hdu:=cW (D:=D2) (v:=u) (by omega)
           have hdu1: -1≤D2.getD u 0:=(hbd2 _ hdu.2).1
           have hdu2:D2.getD u 0≤(k:Int):=by
            rw[hsu];exact(HBD.out _ (cW (D:=D) (v:=u) (by have:=HI.out.len;dsimp only at this;rw[this];exact hun)).2).2
           have HEQ:=xQ heq
           have HBD2:=xQ hbd2
           have HL2:=xQ hl2
           have HQK:=xQ hQk
           have HDU:=xQ hdu.1
           have HSU:=xQ hsu
           have HD2:=xQ hD2
           have hl2n:l2≤49152:=by omega
           have hkl2:k<l2:=by omega
           have cb:wr.cell? ⟨gB,h,none⟩=some (.slice qi nb.length ci):=by
            have:=(HM.out.nest (i:=2) rfl).1.cellAt h (by rw[RL.out];omega)
            rw[this,List.getElem?_map,HRW.out];rfl
           have hrow:=(HM.out.nest (i:=2) rfl).2 _ (List.mem_of_getElem? HRW.out)
           have HROW:=xQ (show wr.ownsRow w.heap.size TI 1 (.slice qi nb.length ci) nb.length (ivs (bD nb))from hrow)
           clear hM hvs hmid hr heq hbd2 hl2 hQk hdu hsu hrow hD2 hkl
           by_cases hltj:j<nb.length
           ·obtain⟨gi,rfl,hgi1,hgi2⟩:=eB HROW.out (by omega)
            obtain⟨f,hf⟩: ∃f,nb[j]? =some f:=⟨_,List.getElem?_eq_getElem hltj⟩
            have hfn:f<n:=(bM.1 (by rw[←HNB.out];exact List.mem_of_getElem? hf:f∈aS aA n h)).1
            have hf':(aS aA n h)[j]? =some f:=by rw[←HNB.out];exact hf
            have HF':=xQ hf'
            have cj:wr.cell? ⟨gi,j,none⟩=some (.int .i64 (f:Int)):=by have:=HROW.out.cellAt j (by omega);rw[this];simp[ivs,bD,hf]
            clear hf hf'
            have m1:(0:Int)≤(j:Int):=by omega
            have m2:(j:Int)<(nb.length:Int):=by omega
            obtain⟨Pf,hPf⟩: ∃Pf:Nat,Pf=2 ^ f:=⟨_,rfl⟩
            have hPfb:Pf≤2048:=by rw[hPf];exact Nat.le_trans (Nat.pow_le_pow_right (by omega) (show f≤11 by omega)) (by decide)
            have hsf:(2:Int) ^ f=(Pf:Int):=by rw[hPf];simp
            have hwf:IntKind.i64.wrap (Pf:Int)=(Pf:Int):=IntWalk.i64_in _ (by omega)
            obtain⟨B,hB⟩: ∃B:Nat,B=S/Pf:=⟨_,rfl⟩
            have hshf:(S:Int)/(Pf:Int)=(B:Int):=by rw[hB];simp
            have hbf:S.testBit f=decide (B%2=1):=by rw[hB,hPf];exact aCu S f
            have HBF:=xQ hbf
            have HPF:=xQ hPf
            clear hPf hB hbf
            cases hb:S.testBit f with
            |true=>
             have t2:(B:Int)%2=1:=by have:=HBF.out;rw[hb]at this;simp at this;omega
             have hfin:=xQ (aG1 HF'.out (show(u%MM).testBit f=true by rw[←show S=u%MM from HS.out];exact hb))
             clear hb
             go_wp2
             go_roundw
             case rel=>exact⟨j+1,q,l2,lc,D2,Q2,by omega,by go_num,rfl,HL2.out,by rw[hfin.out];exact HEQ.out,HBD2.out,HM.out⟩
             case measure=>simp[intOf];omega
            |false=>
             have t2:(B:Int)%2=0:=by have:=HBF.out;rw[hb]at this;simp at this;omega
             have hbfU:(u%MM).testBit f=false:=by rw[←show S=u%MM from HS.out];exact hb
             have hfin:=xQ (aDo HF'.out hbfU)
             have hsub:=(qW hbU.out).1
             have hSh:Ph≤S:=by rw[HPH.out,show S=u%MM from HS.out];exact hsub
             obtain⟨v,hv⟩: ∃v,v=eZ MM (u/MM) (u%MM) f h:=⟨_,rfl⟩
             have hvN:v<49152:=oT hn u v hun (kS.2 ⟨f,h,hfn,hlth,eW hlth (by exact List.mem_of_getElem? HF'.out),hbfU,hbU.out,hv⟩)
             have hvv:v=dC C f h*4096+(S-Ph+Pf):=by
              rw[hv,HPH.out,HPF.out,show C=u/MM from HC.out,show S=u%MM from HS.out];rfl
             rw[←hv]at hfin
             have HVV:=xQ hvv
             clear hb hbfU hsub hv hvv
             have s1:(0:Int)≤(v:Int):=by omega
             have s2:(v:Int)<49152:=by omega
             obtain⟨dv,hdv,hdvm⟩: ∃dv,D2[v]? =some dv∧D2.getD v 0=dv:=⟨_,(cW (D:=D2) (v:=v) (by rw[HD2.out];exact hvN)).1,rfl⟩
             have HDV:=xQ hdv
             have HDVM:=xQ hdvm
             clear hdv hdvm
             by_cases hcar:f=C
             ·have t3:((f:Int)==(C:Int))=true:=by simp[hcar]
              have hvI:(h:Int)*4096+(S:Int)-(Ph:Int)+(Pf:Int)=(v:Int):=by
               have:=HVV.out;unfold dC at this;rw[if_pos hcar]at this;omega
              have HVI:=xQ hvI
              clear hvI hcar
              go_wp2
              have hm1:IntKind.i64.wrap ((h:Int)*4096)=(h:Int)*4096:=IntWalk.i64_in _ (by omega)
              have hm2:IntKind.i64.wrap ((h:Int)*4096+(S:Int))=(h:Int)*4096+(S:Int):=IntWalk.i64_in _ (by omega)
              have hm3:IntKind.i64.wrap ((h:Int)*4096+(S:Int)-(Ph:Int))=(h:Int)*4096+(S:Int)-(Ph:Int):=IntWalk.i64_in _ (by omega)
              have hm4:IntKind.i64.wrap ((h:Int)*4096+(S:Int)-(Ph:Int)+(Pf:Int))=(v:Int):=(IntWalk.i64_in _ (by omega)).trans HVI.out
              go_quiet (fail)
              generalize hwi:World.drewN wr _=wi
              have hX:Ext wr wi:=by rw[←hwi];exact Ext.drewN (Ext.refl _) _
              clear hwi hm1 hm2 hm3 hm4
              have MI:=xQ (HM.out.adv hX)
              have HE:=xQ (show Mem w wi [aJ w.heap.size TI 1 (q) (l2) (lc) (ivs (bD Q2)),aJ w.heap.size TI 1 (some ⟨w.heap.size+1,0,none⟩) (49152) (49152) (ivs D2),mZ w.heap.size TSS TI 1 (some ⟨gB,0,none⟩) cB rows,aL w.heap.size (w.heap.size) TH3 #[aA,aB,.slice p n cap]]from MI.out)
              clear hX HM MI cb cj
              have cl:wi.cell? ⟨w.heap.size+1,v,none⟩=some (.int .i64 dv):=by have:=(HE.out.own (i:=1) rfl).cellAt v (by omega);rw[this];simp[ivs,HDV.out]
              by_cases hd0:dv<0
              ·have t4:decide (dv<0)=true:=by simp[hd0]
               have hrel2:Hid ((D2.set v (D.getD u 0+1),Q2++ [v])=bJ (D.getD u 0+1) (D,Q) (gI aA n MM u h++iF aA n MM u h (j+1))):=by
                show _=_
                rw[hfin.out,←List.append_assoc,dG,←HEQ.out,jC (by rw[HDVM.out];exact hd0)]
               obtain⟨du,hdu⟩: ∃du,du=D2.getD u 0:=⟨_,rfl⟩
               have HDU2:=xQ hdu
               have du1: -1≤du:=by omega
               have du2:du≤(k:Int):=by omega
               have hw12:IntKind.i64.wrap (du+1)=du+1:=IntWalk.i64_in _ (by omega)
               obtain⟨gl,rfl,hgl1,hgl2⟩:=HE.out.some (i:=0) rfl (by omega)
               have n0:(0:Int)≤(u:Int):=by omega
               have n1:(u:Int)<49152:=by omega
               have n2:(k:Int)<(l2:Int):=by omega
               have ck:wi.cell? ⟨gl,k,none⟩=some (.int .i64 (u:Int)):=by have:=(HE.out.own (i:=0) rfl).cellAt k (by omega);rw[this];simp[ivs,bD,HQK.out]
               have cd:wi.cell? ⟨w.heap.size+1,u,none⟩=some (.int .i64 du):=by have:=(HE.out.own (i:=1) rfl).cellAt u (by omega);rw[this,HDU2.out];simp only[ivs,List.getElem?_map,HDU.out,Option.map_some]
               have cf:wi.frozen? ⟨w.heap.size+1,v,none⟩=false:=(HE.out.own (i:=1) rfl).frozenAt v
               clear hdu hd0
               go_wp2_with (at_builtin;refine bX eP rfl _ _ rfl ((HE.out.ostore (i:=1) rfl v (.int .i64 (du+1))).adv ((Ext.refl _).alloc (.cells #[(v:Int)] TI))) 0 rfl rfl [.int .i64 (v:Int)] rfl (dM _ _ _ 1 1 _ (by first|rfl|simp) (by first|rfl|simp) (by simp[maxLen])) (fun u hu=>by obtain rfl:=List.mem_singleton.1 hu;rfl) (by omega) ?_;intro q7 c7 w6 M6)
               have M7:=xQ (show Mem w w6 [aJ w.heap.size TI 1 (q7) (l2+1) (c7) (ivs (bD (Q2++ [v]))),aJ w.heap.size TI 1 (some ⟨w.heap.size+1,0,none⟩) (49152) (49152) (ivs (D2.set v (du+1))),mZ w.heap.size TSS TI 1 (some ⟨gB,0,none⟩) cB rows,aL w.heap.size (w.heap.size) TH3 #[aA,aB,.slice p n cap]]from by rw[←dI,bD,List.map_append,ivs,List.map_append];exact M6)
               clear M6 HE cl ck cd cf
               go_wp2
               go_roundw
               case rel=>exact⟨j+1,q7,l2+1,c7,D2.set v (du+1),Q2++ [v],by omega,by go_num,rfl,by rw[List.length_append,←HL2.out];rfl,by rw[←hrel2.out,←HSU.out,←HDU2.out],fun x hx=>by
                rcases List.mem_or_eq_of_mem_set hx with h|h
                ·exact HBD2.out x h
                ·omega,M7.out⟩
               case measure=>simp[intOf];omega
              ·have t4:decide (dv<0)=false:=by simp[hd0]
               have hrel2:Hid ((D2,Q2)=bJ (D.getD u 0+1) (D,Q) (gI aA n MM u h++iF aA n MM u h (j+1))):=by
                show _=_
                rw[hfin.out,←List.append_assoc,dG,←HEQ.out,kM (by rw[HDVM.out];exact hd0)]
               clear hd0
               go_wp2
               go_roundw
               case rel=>exact⟨j+1,q,l2,lc,D2,Q2,by omega,by go_num,rfl,HL2.out,hrel2.out,HBD2.out,HE.out⟩
               case measure=>simp[intOf];omega
             ·have t3:((f:Int)==(C:Int))=false:=by simp;omega
              have hvI:(C:Int)*4096+(S:Int)-(Ph:Int)+(Pf:Int)=(v:Int):=by
               have:=HVV.out;unfold dC at this;rw[if_neg hcar]at this;omega
              have HVI:=xQ hvI
              clear hvI hcar
              go_wp2
              have hm1:IntKind.i64.wrap ((C:Int)*4096)=(C:Int)*4096:=IntWalk.i64_in _ (by omega)
              have hm2:IntKind.i64.wrap ((C:Int)*4096+(S:Int))=(C:Int)*4096+(S:Int):=IntWalk.i64_in _ (by omega)
              have hm3:IntKind.i64.wrap ((C:Int)*4096+(S:Int)-(Ph:Int))=(C:Int)*4096+(S:Int)-(Ph:Int):=IntWalk.i64_in _ (by omega)
              have hm4:IntKind.i64.wrap ((C:Int)*4096+(S:Int)-(Ph:Int)+(Pf:Int))=(v:Int):=(IntWalk.i64_in _ (by omega)).trans HVI.out
              go_quiet (fail)
              generalize hwi:World.drewN wr _=wi
              have hX:Ext wr wi:=by rw[←hwi];exact Ext.drewN (Ext.refl _) _
              clear hwi hm1 hm2 hm3 hm4
              have MI:=xQ (HM.out.adv hX)
              have HE:=xQ (show Mem w wi [aJ w.heap.size TI 1 (q) (l2) (lc) (ivs (bD Q2)),aJ w.heap.size TI 1 (some ⟨w.heap.size+1,0,none⟩) (49152) (49152) (ivs D2),mZ w.heap.size TSS TI 1 (some ⟨gB,0,none⟩) cB rows,aL w.heap.size (w.heap.size) TH3 #[aA,aB,.slice p n cap]]from MI.out)
              clear hX HM MI cb cj
              have cl:wi.cell? ⟨w.heap.size+1,v,none⟩=some (.int .i64 dv):=by have:=(HE.out.own (i:=1) rfl).cellAt v (by omega);rw[this];simp[ivs,HDV.out]
              by_cases hd0:dv<0
              ·have t4:decide (dv<0)=true:=by simp[hd0]
               have hrel2:Hid ((D2.set v (D.getD u 0+1),Q2++ [v])=bJ (D.getD u 0+1) (D,Q) (gI aA n MM u h++iF aA n MM u h (j+1))):=by
                show _=_
                rw[hfin.out,←List.append_assoc,dG,←HEQ.out,jC (by rw[HDVM.out];exact hd0)]
               obtain⟨du,hdu⟩: ∃du,du=D2.getD u 0:=⟨_,rfl⟩
               have HDU2:=xQ hdu
               have du1: -1≤du:=by omega
               have du2:du≤(k:Int):=by omega
               have hw12:IntKind.i64.wrap (du+1)=du+1:=IntWalk.i64_in _ (by omega)
               obtain⟨gl,rfl,hgl1,hgl2⟩:=HE.out.some (i:=0) rfl (by omega)
               have n0:(0:Int)≤(u:Int):=by omega
               have n1:(u:Int)<49152:=by omega
               have n2:(k:Int)<(l2:Int):=by omega
               have ck:wi.cell? ⟨gl,k,none⟩=some (.int .i64 (u:Int)):=by have:=(HE.out.own (i:=0) rfl).cellAt k (by omega);rw[this];simp[ivs,bD,HQK.out]
               have cd:wi.cell? ⟨w.heap.size+1,u,none⟩=some (.int .i64 du):=by have:=(HE.out.own (i:=1) rfl).cellAt u (by omega);rw[this,HDU2.out];simp only[ivs,List.getElem?_map,HDU.out,Option.map_some]
               have cf:wi.frozen? ⟨w.heap.size+1,v,none⟩=false:=(HE.out.own (i:=1) rfl).frozenAt v
               clear hdu hd0
               go_wp2_with (at_builtin;refine bX eP rfl _ _ rfl ((HE.out.ostore (i:=1) rfl v (.int .i64 (du+1))).adv ((Ext.refl _).alloc (.cells #[(v:Int)] TI))) 0 rfl rfl [.int .i64 (v:Int)] rfl (dM _ _ _ 1 1 _ (by first|rfl|simp) (by first|rfl|simp) (by simp[maxLen])) (fun u hu=>by obtain rfl:=List.mem_singleton.1 hu;rfl) (by omega) ?_;intro q7 c7 w6 M6)
               have M7:=xQ (show Mem w w6 [aJ w.heap.size TI 1 (q7) (l2+1) (c7) (ivs (bD (Q2++ [v]))),aJ w.heap.size TI 1 (some ⟨w.heap.size+1,0,none⟩) (49152) (49152) (ivs (D2.set v (du+1))),mZ w.heap.size TSS TI 1 (some ⟨gB,0,none⟩) cB rows,aL w.heap.size (w.heap.size) TH3 #[aA,aB,.slice p n cap]]from by rw[←dI,bD,List.map_append,ivs,List.map_append];exact M6)
               clear M6 HE cl ck cd cf
               go_wp2
               go_roundw
               case rel=>exact⟨j+1,q7,l2+1,c7,D2.set v (du+1),Q2++ [v],by omega,by go_num,rfl,by rw[List.length_append,←HL2.out];rfl,by rw[←hrel2.out,←HSU.out,←HDU2.out],fun x hx=>by
                rcases List.mem_or_eq_of_mem_set hx with h|h
                ·exact HBD2.out x h
                ·omega,M7.out⟩
               case measure=>simp[intOf];omega
              ·have t4:decide (dv<0)=false:=by simp[hd0]
               have hrel2:Hid ((D2,Q2)=bJ (D.getD u 0+1) (D,Q) (gI aA n MM u h++iF aA n MM u h (j+1))):=by
                show _=_
                rw[hfin.out,←List.append_assoc,dG,←HEQ.out,kM (by rw[HDVM.out];exact hd0)]
               clear hd0
               go_wp2
               go_roundw
               case rel=>exact⟨j+1,q,l2,lc,D2,Q2,by omega,by go_num,rfl,HL2.out,hrel2.out,HBD2.out,HE.out⟩
               case measure=>simp[intOf];omega
           ·have hfin:Hid (gI aA n MM u h++iF aA n MM u h j=gI aA n MM u (h+1)):=by
             show _=_
             rw[rQ,aH4 hbU.out,←HNB.out,show j=nb.length by omega]
            rw[hfin.out]at HEQ
            obtain rfl:nb.length=j:=by omega
            go_wp2
            go_roundw
            case rel=>exact⟨h+1,q,l2,lc,D2,Q2,by omega,by go_num,rfl,HL2.out,HEQ.out,HBD2.out,HM.out⟩
            case measure=>simp[intOf];omega
        ·obtain rfl:n=h:=by omega
         have hI:=HI.out.step HU.out (fun v hv=>oT hn u v hun hv)
         have he:=HEQ.out
         obtain⟨r,hr⟩:=(yE HI.out HU.out (fun v hv=>oT hn u v hun hv) (aDp (Nat.le_refl _)) he).pre
         dsimp only at hr
         have hkl3:k+1≤l2:=by rw[HL2.out,hr,List.length_append];have:=HL.out;omega
         clear hr
         rw[pJ]at he
         rw[←he]at hI
         have HI2:=xQ hI
         clear hI he
         go_wp2
         go_roundw
         case rel=>exact⟨k+1,q,l2,lc,D2,Q2,hkl3,by go_num,rfl,HL2.out,fun x hx=>by have:=HBD2.out x hx;omega,HI2.out,HM.out⟩
         case measure=>simp[intOf];omega
      ·have hdist:=xQ (HI.out.dist (by have:=HL.out;dsimp only;omega))
       go_wp2
       go_ret
       refine⟨D,hdist.out,cQ hdist.out.len (HM.out.own (i:=1) rfl) HM.out.ext⟩
end Go.Proofs.YtgnkoffndhmhpaaGreatDoor
