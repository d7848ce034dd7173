/-
  Texts of this proof, packed (@packed).
-/
import Derived.Test.YteejdnmmpmcmeaaGreatDoorP12
import Derived.Test.YteejdnmmpmcmeaaGreatDoorP17
namespace Go.Proofs.YteejdnmmpmcmeaaGreatDoor
open Go.RowKit
theorem aFg (S h:Nat):S.testBit h=decide (S/2 ^ h%2=1):=by exact Nat.testBit_eq_decide_div_mod_eq
def jW (k:Nat):List Int:=List.replicate k (-1)++List.replicate (NN-k) 0
theorem aEc {k:Nat}(h:k<NN):(jW k).set k (-1)=jW (k+1):=by
 unfold jW
 obtain⟨m,hm⟩: ∃m,NN-k=m+1:=⟨NN-k-1,by omega⟩
 rw[hm,show NN-(k+1)=m by omega,List.replicate_succ]
 rw[List.set_append_right _ _ (by rw[List.length_replicate];exact Nat.le_refl _),List.length_replicate,Nat.sub_self,List.set_cons_zero,List.replicate_succ',List.append_assoc]
 rfl
theorem aEd {k:Nat}(h:k<NN):(jW k)[k]? =some 0:=by
 unfold jW
 rw[List.getElem?_append_right (by rw[List.length_replicate];exact Nat.le_refl _),List.length_replicate,Nat.sub_self]
 rw[List.getElem?_replicate,if_pos (by omega)]
def eN (many m:Nat):List Nat:=(List.range m).filter (fun s=> !s.testBit 0&&decide (gX s=many))
theorem aEe (many:Nat):jW NN=gY NN (eN many 0):=by
 unfold jW gY eN
 rw[Nat.sub_self,List.replicate_zero,List.append_nil]
 rfl
theorem aBc {many m:Nat}(hm:m%2=0):eN many (m+2)=eN many m++(if gX m=many then [m]else []):=by
 unfold eN
 rw[List.range_succ,List.range_succ,List.filter_append,List.filter_append,List.append_assoc]
 have h0:m.testBit 0=false:=by rw[Nat.testBit_zero];simp;omega
 have h1:(m+1).testBit 0=true:=by rw[Nat.testBit_zero];simp;omega
 congr 1
 by_cases hp:gX m=many
 ·simp only[List.filter_cons,List.filter_nil,h0,h1];simp[hp]
 ·simp only[List.filter_cons,List.filter_nil,h0,h1];simp[hp]
theorem aBd (many m:Nat):(eN many m).length≤m:=by
 unfold eN;exact Nat.le_trans (List.length_filter_le _ _) (by simp)
def fB (aA:Int)(n M s h:Nat):List Nat:=if(s%M).testBit h then((aY aA n h).filter (fun f=> !(s%M).testBit f)).map (fun f=>nJ M (s/M) (s%M) f h)else []
def iN (aA:Int)(n M s h:Nat):List Nat:=(List.range h).flatMap (fB aA n M s)
def iZ (aA:Int)(n M s h j:Nat):List Nat:=(((aY aA n h).take j).filter (fun f=> !(s%M).testBit f)).map (fun f=>nJ M (s/M) (s%M) f h)
theorem rU (aA:Int)(n M s:Nat):iN aA n M s n=wT aA n M s:=rfl
theorem vK (aA:Int)(n M s h:Nat):iN aA n M s (h+1)=iN aA n M s h++fB aA n M s h:=by
 unfold iN;rw[List.range_succ,List.flatMap_append];simp
theorem aL1 {aA:Int}{n M s h:Nat}(hb:(s%M).testBit h=false):fB aA n M s h= []:=by unfold fB;rw[hb];rfl
theorem aIv {aA:Int}{n M s h:Nat}(hb:(s%M).testBit h=true):fB aA n M s h=iZ aA n M s h (aY aA n h).length:=by unfold fB iZ;rw[if_pos hb,List.take_length]
theorem aE6 (aA:Int)(n M s h:Nat):iZ aA n M s h 0= []:=rfl
theorem aI6 {aA:Int}{n M s h j f:Nat}(hj:(aY aA n h)[j]? =some f) (hb:(s%M).testBit f=true):iZ aA n M s h (j+1)=iZ aA n M s h j:=by
 unfold iZ;rw[bF hj,List.filter_append];simp[hb]
theorem aG9 {aA:Int}{n M s h j f:Nat}(hj:(aY aA n h)[j]? =some f) (hb:(s%M).testBit f=false):iZ aA n M s h (j+1)=iZ aA n M s h j++ [nJ M (s/M) (s%M) f h]:=by
 unfold iZ;rw[bF hj,List.filter_append];simp[hb]
theorem aE7 {aA:Int}{n M s h j:Nat}(hh:h<n)(hb:(s%M).testBit h=true): ∀v∈iN aA n M s h++iZ aA n M s h j,v∈wT aA n M s:=by
 intro v hv
 rw[←rU]
 unfold iN
 rw[List.mem_flatMap]
 rcases List.mem_append.1 hv with hv|hv
 ·unfold iN at hv
  obtain⟨a,ha,hm⟩:=List.mem_flatMap.1 hv
  exact⟨a,List.mem_range.2 (by have:=List.mem_range.1 ha;omega),hm⟩
 ·refine⟨h,List.mem_range.2 hh,?_⟩
  rw[aIv hb]
  unfold iZ at hv⊢
  obtain⟨f,hf,rfl⟩:=List.mem_map.1 hv
  obtain⟨h1,h2⟩:=List.mem_filter.1 hf
  exact List.mem_map.2 ⟨f,List.mem_filter.2 ⟨by rw[List.take_length];exact List.mem_of_mem_take h1,h2⟩,rfl⟩
theorem aGa {aA:Int}{n M s h:Nat}(hh:h≤n): ∀v∈iN aA n M s h,v∈wT aA n M s:=by
 intro v hv
 rw[←rU]
 unfold iN at hv⊢
 obtain⟨a,ha,hm⟩:=List.mem_flatMap.1 hv
 exact List.mem_flatMap.2 ⟨a,List.mem_range.2 (by have:=List.mem_range.1 ha;omega),hm⟩
theorem aC8 {adj:Nat→List Nat}{src:List Nat}{N k u:Nat}{D:List Int}{Q:List Nat}(h:Inv adj src N k (D,Q))(hu:Q[k]? =some u) (ha: ∀v∈adj u,v<N) {vs:List Nat} (hv: ∀v∈vs,v∈adj u) {D2:List Int} {Q2:List Nat} (he:(D2,Q2)=cO (D.getD u 0+1) (D,Q) vs):
  Mid adj src N k u vs (D,Q) (D2,Q2):=by
 rw[he]
 have:=Mid.many (List.mem_of_getElem? hu) vs [] (D,Q) (h.mid hu) (fun v hv'=>⟨hv v hv',ha v (hv v hv')⟩)
 simpa using this
set_option linter.unusedVariables false
set_option linter.unusedSimpArgs false
theorem vQ (n:Nat):(madeCells #[Value.int .i64 0] n).toList=ivs (List.replicate n 0)∧(madeCells #[Value.int .i64 0] n).size=n:=by
 constructor
 ·apply List.ext_getElem<;>simp[madeCells,Nat.mod_one]
 ·simp[madeCells]
theorem aJp (N:Nat)(src:List Nat): ∀x∈gY N src,-1≤x∧x≤((0:Nat):Int):=by
 unfold gY
 suffices h: ∀(l:List Nat) (A:List Int),(∀x∈A,-1≤x∧x≤((0:Nat):Int))→ ∀x∈l.foldl (fun A v=>A.set v 0) A,-1≤x∧x≤((0:Nat):Int)from h src _ (fun x hx=>by rw[List.mem_replicate]at hx;omega)
 intro l
 induction l with
 |nil=>intro A h;exact h
 |cons v l ih=>
  intro A h
  exact ih (A.set v 0) (fun x hx=>by
   rcases List.mem_or_eq_of_mem_set hx with h1|h1
   ·exact h x h1
   ·omega)
set_option maxRecDepth 100000 in
set_option maxHeartbeats 16000000 in
theorem aDi (aA aB:Int)(p:Option Addr)(n cap F P:Nat)(w:World)(hn0:4≤n)(hn:n≤12)(hP:Hid (P=2 ^ n))(hP12:P≤4096)(hPe:P%2=0)
  (HF:Hid (∀w',Ext w w'→Calls Tryz.prog 79 #[aJ aA aB p n cap] w' fun e w''=> ∃q c,e= .returned (.slice q F c)∧Ext w' w''))
  (HBI:Hid (∀(m:Nat) w',m≤4096→Calls Tryz.prog 234 #[.int .i64 (m:Int)] w' fun e w''=>e= .returned (.int .i64 (gX m:Int))∧w'=w''))
  (HN:Hid (∀w',Ext w w'→Calls Tryz.prog 235 #[aJ aA aB p n cap] w' (aB0 aA n w'))):
  Calls Tryz.prog 216 #[aJ aA aB p n cap] w fun e w'=> ∃D,fG aA n F D∧cC D w e w':=by
 obtain⟨AR,hAR⟩: ∃AR:Array Value,AR=madeCells #[.int .i64 0] 49152:=⟨_,rfl⟩
 have hmk: ∀w:World,(Instr.makeSlice 23 (.int .i64 49152) (.int .i64 49152)).run Tryz.prog w= .ok (.slice (some ⟨w.heap.size,0,none⟩) 49152 49152) (w.alloc (.cells AR TI)):=fun w=>by
  rw[hAR]
  exact run_make_row' _ _ (.int .i64 0) 8 Tryz.underlying23 (by kernel_rfl) rfl .i64 .i64 49152 (by omega) (by omega) w
 have hA1:Hid (AR.toList=ivs (jW 0)):=by
  show _=_
  rw[hAR,(vQ 49152).1];rfl
 have hA2:Hid (AR.size=49152):=by show _=_;rw[hAR];exact(vQ 49152).2
 clear hAR
 go_enter Tryz.func216,Tryz.ntmps216
 go_wp2
 have ME:=xQ (show Mem w ((w.alloc (.cells #[.int .i64 aA,.int .i64 aB,.slice p n cap] TH3)).alloc (.cells AR TI)) [aP w.heap.size TI 1 (some ⟨w.heap.size+1,0,none⟩) (49152) (49152) (ivs (jW 0)),aK w.heap.size (w.heap.size) TH3 #[.int .i64 aA,.int .i64 aB,.slice p n cap]]from by rw[←hA1.out];exact((Mem.start w).blkNew TH3 #[.int .i64 aA,.int .i64 aB,.slice p n cap] w.heap.size rfl).lit TI 1 49152 _ AR (by simp) (by rw[hA2.out]) (by simp[maxLen]))
 clear hA1 hA2 hmk
 go_loopw [4] (fun i wr=> ∃(k:Nat),k≤49152∧i= .int .i64 (k:Int)∧Mem w wr [aP w.heap.size TI 1 (some ⟨w.heap.size+1,0,none⟩) (49152) (49152) (ivs (jW k)),aK w.heap.size (w.heap.size) TH3 #[.int .i64 aA,.int .i64 aB,.slice p n cap]]) (fun i _=>49152-(intOf i).toNat)
 case atStart=>exact⟨0,Nat.zero_le _,rfl,ME.out⟩
 case round=>
  clear ME
  obtain⟨k,hk,rfl,hM⟩:=hrel
  have HM:=xQ hM
  clear hM
  have lt0:=(HM.out.lt (i:=1) rfl rfl).2
  by_cases hlt:k<49152
  ·have i1:(0:Int)≤(k:Int):=by omega
   have i2:(k:Int)<49152:=by omega
   have cl:wr.cell? ⟨w.heap.size+1,k,none⟩=some (.int .i64 0):=by have:=(HM.out.own (i:=0) rfl).cellAt k (by omega);rw[this];simp[ivs,aEd hlt]
   have cf:wr.frozen? ⟨w.heap.size+1,k,none⟩=false:=(HM.out.own (i:=0) rfl).frozenAt k
   have M2:=xQ (show Mem w (wr.setCell ⟨w.heap.size+1,k,none⟩ (.int .i64 (-1))) [aP w.heap.size TI 1 (some ⟨w.heap.size+1,0,none⟩) (49152) (49152) (ivs (jW (k+1))),aK w.heap.size (w.heap.size) TH3 #[.int .i64 aA,.int .i64 aB,.slice p n cap]]from by rw[←aEc hlt,←iB];exact HM.out.ostore (i:=0) rfl k (.int .i64 (-1)))
   clear HM
   go_wp2
   go_roundw
   case rel=>exact⟨k+1,by omega,by go_num,M2.out⟩
   case measure=>simp[intOf];omega
  ·obtain rfl:k=49152:=by omega
   have M1:=xQ (show Mem w wr [aP w.heap.size TI 1 (some ⟨w.heap.size+1,0,none⟩) (49152) (49152) (ivs (gY NN (eN F 0))),aK w.heap.size (w.heap.size) TH3 #[.int .i64 aA,.int .i64 aB,.slice p n cap]]from by have:=HM.out;rwa[show jW 49152=gY NN (eN F 0)from aEe F]at this)
   clear HM hlt hk
   have M2:=xQ (show Mem w (wr.alloc (.cells #[] TI)) [aP w.heap.size TI 1 (some ⟨wr.heap.size,0,none⟩) (0) (0) ([]),aP w.heap.size TI 1 (some ⟨w.heap.size+1,0,none⟩) (49152) (49152) (ivs (gY NN (eN F 0))),aK w.heap.size (w.heap.size) TH3 #[.int .i64 aA,.int .i64 aB,.slice p n cap]]from(M1.out.made0 TI 1 wr.heap.size rfl))
   clear M1
   have c0:(wr.alloc (.cells #[] TI)).cell? ⟨w.heap.size,0,none⟩=some (.int .i64 aA):=((M2.out).blk (i:=2) rfl).cell 0
   have c1:(wr.alloc (.cells #[] TI)).cell? ⟨w.heap.size,1,none⟩=some (.int .i64 aB):=((M2.out).blk (i:=2) rfl).cell 1
   have c2:(wr.alloc (.cells #[] TI)).cell? ⟨w.heap.size,2,none⟩=some (.slice p n cap):=((M2.out).blk (i:=2) rfl).cell 2
   go_wp2_with fail
   clear c0 c1 c2
   refine(HF.out _ M2.out.ext).mono ?_
   rintro e w3 ⟨q3,c3,rfl,hx3⟩
   have M3:=xQ (M2.out.adv hx3)
   clear M2 hx3 lt0
   have hp1:(2:Int) ^ n=(P:Int):=by rw[hP.out];simp
   have hw1:IntKind.i64.wrap (P:Int)=(P:Int):=IntWalk.i64_in _ (by omega)
   have ltw:=(M3.out.lt (i:=2) rfl rfl).2
   go_wp2
   go_loopw [5,7] (fun v i wx=> ∃(m:Nat) (q:Option Addr) (l lc:Nat),m≤P∧m%2=0∧i= .int .i64 (m:Int)∧v= .slice q l lc∧l=(eN F m).length∧Mem w wx [aP w.heap.size TI 1 (q) (l) (lc) (ivs (cT (eN F m))),aP w.heap.size TI 1 (some ⟨w.heap.size+1,0,none⟩) (49152) (49152) (ivs (gY NN (eN F m))),aK w.heap.size (w.heap.size) TH3 #[.int .i64 aA,.int .i64 aB,.slice p n cap]]) (fun _ i _=>P-(intOf i).toNat)
   case atStart=>exact⟨0,some ⟨wr.heap.size,0,none⟩,0,0,Nat.zero_le _,rfl,rfl,rfl,rfl,M3.out⟩
   case round=>
    clear M3 ltw
    obtain⟨m,q,l,lc,hm,hm2,rfl,rfl,hl,hM⟩:=hrel
    have HM:=xQ hM
    have HL:=xQ hl
    have hlm:l≤4096:=by have:=aBd F m;omega
    clear hM hl
    obtain⟨c0,c1,c2⟩:=(((HM.out).blk (i:=2) rfl)).tri
    have lt0:=(HM.out.lt (i:=2) rfl rfl).2
    by_cases hlt:m<P
    ·have t0:decide ((m:Int)<(P:Int))=true:=by simp[hlt]
     go_wp2_with fail
     refine(HBI.out m _ (by omega)).mono ?_
     rintro e wx ⟨rfl,rfl⟩
     have h2:=aBc (many:=F) hm2
     by_cases hp:gX m=F
     ·have t1:((gX m:Int)==(F:Int))=true:=by simp[hp]
      rw[if_pos hp]at h2
      have H2:=xQ h2
      have HL2:=xQ (show l+1=(eN F (m+2)).length by rw[h2,List.length_append,←HL.out];rfl)
      clear h2 hp
      have hmN:m<49152:=by omega
      have i1:(0:Int)≤(m:Int):=by omega
      have i2:(m:Int)<49152:=by omega
      obtain⟨x0,hx0⟩: ∃x0,(gY NN (eN F m))[m]? =some x0:=⟨_,List.getElem?_eq_getElem (by rw[yH];exact hmN)⟩
      have cl:wr.cell? ⟨w.heap.size+1,m,none⟩=some (.int .i64 x0):=by have:=(HM.out.own (i:=1) rfl).cellAt m (by omega);rw[this];simp[ivs,hx0]
      have cf:wr.frozen? ⟨w.heap.size+1,m,none⟩=false:=(HM.out.own (i:=1) rfl).frozenAt m
      clear hx0
      go_wp2_with (at_builtin;refine fH gW rfl _ _ rfl ((HM.out.ostore (i:=1) rfl m (.int .i64 0)).adv ((Ext.refl _).alloc (.cells #[.int .i64 (m:Int)] TI))) 0 rfl rfl [.int .i64 (m:Int)] rfl (iE _ _ _ 1 1 _ (by first|rfl|simp) (by first|rfl|simp) (by simp[maxLen])) (fun u hu=>by obtain rfl:=List.mem_singleton.1 hu;rfl) (by omega) ?_;intro q7 c7 w6 M6)
      have M7:=xQ (show Mem w w6 [aP w.heap.size TI 1 (q7) (l+1) (c7) (ivs (cT (eN F (m+2)))),aP w.heap.size TI 1 (some ⟨w.heap.size+1,0,none⟩) (49152) (49152) (ivs (gY NN (eN F (m+2)))),aK w.heap.size (w.heap.size) TH3 #[.int .i64 aA,.int .i64 aB,.slice p n cap]]from by rw[H2.out,aE0,←iB,cT,List.map_append,ivs,List.map_append];exact M6)
      clear M6 HM cl cf c0 c1 c2
      go_wp2
      go_roundw
      case rel=>exact⟨m+2,q7,l+1,c7,by omega,by omega,by go_num,rfl,HL2.out,M7.out⟩
      case measure=>simp[intOf];omega
     ·have t1:((gX m:Int)==(F:Int))=false:=by simp;omega
      rw[if_neg hp,List.append_nil]at h2
      have H2:=xQ h2
      clear h2
      go_wp2
      go_roundw
      case rel=>exact⟨m+2,q,l,lc,by omega,by omega,by go_num,rfl,by rw[H2.out];exact HL.out,by rw[H2.out];exact HM.out⟩
      case measure=>simp[intOf];omega
    ·obtain rfl:m=P:=by omega
     have hsrc:eN F m=uP n F:=by rw[hP.out];rfl
     rw[hsrc]at HL HM
     have hnn:n≤12:=hn
     have hI:=Inv.begin (adj:=wT aA n MM) (src:=uP n F) (N:=NN) (aF3 hnn) uO
     have HI0:=xQ hI
     clear hI hsrc hlt
     go_wp2_with fail
     clear c0 c1 c2
     refine(HN.out _ HM.out.ext).mono ?_
     rintro e w4 ⟨qB,cB,rows,rfl,hrows,hnest,hx4⟩
     obtain⟨gB,rfl,hgB1,hgB2⟩:=eL hnest.1 (by rw[hrows.1];omega)
     have M4:=xQ (HM.out.nestNew hx4 hnest (Nat.le_refl _))
     have HR:=xQ hrows
     clear hnest hx4 hrows HM
     go_wp2
     go_loopw [5,9] (fun v i wx=> ∃(k:Nat) (q:Option Addr) (l lc:Nat) (D:List Int) (Q:List Nat),k≤l∧i= .int .i64 (k:Int)∧v= .slice q l lc∧l=Q.length∧(∀x∈D,-1≤x∧x≤(k:Int))∧Inv (wT aA n MM) (uP n F) NN k (D,Q)∧Mem w wx [aP w.heap.size TI 1 (q) (l) (lc) (ivs (cT Q)),aP w.heap.size TI 1 (some ⟨w.heap.size+1,0,none⟩) (49152) (49152) (ivs D),nK w.heap.size TSS TI 1 (some ⟨gB,0,none⟩) cB rows,aK w.heap.size (w.heap.size) TH3 #[.int .i64 aA,.int .i64 aB,.slice p n cap]]) (fun _ i _=>49152-(intOf i).toNat)
     case atStart=>exact⟨0,q,l,lc,_,uP n F,Nat.zero_le _,rfl,rfl,HL.out,aJp _ _,HI0.out,M4.out.pick [1,2,0,3] (by decide) rfl⟩
     case round=>
      clear M4 HI0 HL
      obtain⟨k,q,l,lc,D,Q,hk,rfl,rfl,hl,hbd,hinv,hM⟩:=hrel
      have HM:=xQ hM
      have HL:=xQ hl
      have HBD:=xQ hbd
      have HI:=xQ hinv
      have hlN:l≤49152:=by have:=hinv.qlen;rw[hl];exact this
      clear hM hl hbd hinv
      by_cases hlt:k<l
      ·obtain⟨gL,rfl,hg1,hg2⟩:=HM.out.some (i:=0) rfl (by omega)
       obtain⟨u,hu⟩: ∃u,Q[k]? =some u:=⟨_,List.getElem?_eq_getElem (by rw[←HL.out];exact hlt)⟩
       have hun:u<49152:=HI.out.bd u (List.mem_of_getElem? hu)
       obtain⟨C,hC⟩: ∃C,C=u/4096:=⟨_,rfl⟩
       obtain⟨S,hS⟩: ∃S,S=u%4096:=⟨_,rfl⟩
       have hC12:C<12:=by omega
       have hS12:S<4096:=by omega
       have HU:=xQ hu
       have HC:=xQ hC
       have HS:=xQ hS
       have i1:(0:Int)≤(k:Int):=by omega
       have i2:(k:Int)<(l:Int):=by omega
       have d1:(u:Int)/4096=(C:Int):=by omega
       have d2:(u:Int)%4096=(S:Int):=by omega
       have cu:wr.cell? ⟨gL,k,none⟩=some (.int .i64 (u:Int)):=by have:=(HM.out.own (i:=0) rfl).cellAt k (by omega);rw[this];simp[ivs,cT,hu]
       have lt0:=(HM.out.lt (i:=3) rfl rfl).2
       clear hu hC hS
       go_wp2
       rw[d2]
       clear cu d1 d2
       go_loopw [5,12] (fun v i wx=> ∃(h:Nat) (q:Option Addr) (l2 lc:Nat) (D2:List Int) (Q2:List Nat),h≤n∧i= .int .i64 (h:Int)∧v= .slice q l2 lc∧l2=Q2.length∧(D2,Q2)=cO (D.getD u 0+1) (D,Q) (iN aA n MM u h)∧(∀x∈D2,-1≤x∧x≤(k:Int)+1)∧Mem w wx [aP w.heap.size TI 1 (q) (l2) (lc) (ivs (cT Q2)),aP w.heap.size TI 1 (some ⟨w.heap.size+1,0,none⟩) (49152) (49152) (ivs D2),nK w.heap.size TSS TI 1 (some ⟨gB,0,none⟩) cB rows,aK w.heap.size (w.heap.size) TH3 #[.int .i64 aA,.int .i64 aB,.slice p n cap]]) (fun _ i _=>n-(intOf i).toNat)
       case atStart=>exact⟨0,_,l,lc,D,Q,Nat.zero_le _,rfl,rfl,HL.out,rfl,fun x hx=>by have:=HBD.out x hx;omega,HM.out⟩
       case round=>
        clear HM lt0
        obtain⟨h,q,l2,lc,D2,Q2,hh,rfl,rfl,hl2,heq,hbd2,hM⟩:=hrel
        have HM:=xQ hM
        have HL2:=xQ hl2
        have HEQ:=xQ heq
        have HBD2:=xQ hbd2
        clear hM hl2 heq hbd2
        obtain⟨c0,c1,c2⟩:=(((HM.out).blk (i:=3) rfl)).tri
        have lt0:=(HM.out.lt (i:=3) rfl rfl).2
        by_cases hlth:h<n
        ·have t0:decide ((h:Int)<(n:Int))=true:=by simp[hlth]
         obtain⟨Ph,hPh⟩: ∃Ph:Nat,Ph=2 ^ h:=⟨_,rfl⟩
         have hPhb:Ph≤2048:=by rw[hPh];exact Nat.le_trans (Nat.pow_le_pow_right (by omega) (show h≤11 by omega)) (by decide)
         have hsh:(2:Int) ^ h=(Ph:Int):=by rw[hPh];simp
         have hwh:IntKind.i64.wrap (Ph:Int)=(Ph:Int):=IntWalk.i64_in _ (by omega)
         obtain⟨A,hA⟩: ∃A:Nat,A=S/Ph:=⟨_,rfl⟩
         have hshr:(S:Int)/(Ph:Int)=(A:Int):=by rw[hA];simp
         have hbit:S.testBit h=decide (A%2=1):=by rw[hA,hPh];exact aFg S h
         have HPH:=xQ hPh
         have HBIT:=xQ hbit
         obtain⟨rw_,hrw⟩: ∃r,rows[h]? =some r:=⟨_,List.getElem?_eq_getElem (by rw[HR.out.1];exact hlth)⟩
         obtain⟨qi,ni,ci,xi⟩:=rw_
         obtain⟨hni,hxi⟩:=HR.out.2 h _ hrw
         dsimp only at hni hxi
         subst hni hxi
         have HRW:=xQ hrw
         have rl:=HR.out.1
         have RL:=xQ rl
         clear hPh hbit hA hrw
         obtain⟨nb,hnb⟩: ∃nb,nb=aY aA n h:=⟨_,rfl⟩
         rw[←hnb]at HRW
         have HNB:=xQ hnb
         have hnb12:nb.length≤12:=by rw[hnb];exact Nat.le_trans (List.length_filter_le _ _) (by simp;omega)
         clear hnb rl
         have k1:(0:Int)≤(h:Int):=by omega
         have k2:(h:Int)<(n:Int):=by omega
         go_wp2
         clear c0 c1 c2
         cases hb:S.testBit h with
         |false=>
          have t1:(A:Int)%2=0:=by have:=HBIT.out;rw[hb]at this;simp at this;omega
          have hfin:=xQ (show iN aA n MM u (h+1)=iN aA n MM u h by rw[vK,aL1 (by rw[←show S=u%MM from HS.out];exact hb),List.append_nil])
          clear hb
          go_loopw [5,13] (fun v i wx=>i= .int .i64 0∧v= .slice q l2 lc∧wr=wx) (fun _ _ _=>0)
          case atStart=>exact⟨rfl,rfl,rfl⟩
          case round=>
           obtain⟨rfl,rfl,rfl⟩:=hrel
           go_wp2
           go_roundw
           case rel=>exact⟨h+1,q,l2,lc,D2,Q2,by omega,by go_num,rfl,HL2.out,by rw[hfin.out];exact HEQ.out,HBD2.out,HM.out⟩
           case measure=>simp[intOf];omega
         |true=>
          have t1:(A:Int)%2=1:=by have:=HBIT.out;rw[hb]at this;simp at this;omega
          have hbU:=xQ (show(u%MM).testBit h=true by rw[←show S=u%MM from HS.out];exact hb)
          clear hb
          go_loopw [5,13] (fun v i wx=> ∃(j:Nat) (q:Option Addr) (l2 lc:Nat) (D2:List Int) (Q2:List Nat),j≤nb.length∧i= .int .i64 (j:Int)∧v= .slice q l2 lc∧l2=Q2.length∧(D2,Q2)=cO (D.getD u 0+1) (D,Q) (iN aA n MM u h++iZ aA n MM u h j)∧(∀x∈D2,-1≤x∧x≤(k:Int)+1)∧Mem w wx [aP w.heap.size TI 1 (q) (l2) (lc) (ivs (cT Q2)),aP w.heap.size TI 1 (some ⟨w.heap.size+1,0,none⟩) (49152) (49152) (ivs D2),nK w.heap.size TSS TI 1 (some ⟨gB,0,none⟩) cB rows,aK w.heap.size (w.heap.size) TH3 #[.int .i64 aA,.int .i64 aB,.slice p n cap]]) (fun _ i _=>nb.length-(intOf i).toNat)
          case atStart=>exact⟨0,q,l2,lc,D2,Q2,Nat.zero_le _,rfl,rfl,HL2.out,by rw[aE6,List.append_nil];exact HEQ.out,HBD2.out,HM.out⟩
          case round=>
           clear HM HL2 HEQ HBD2 lt0
           obtain⟨j,q,l2,lc,D2,Q2,hj,rfl,rfl,hl2,heq,hbd2,hM⟩:=hrel
           have HM:=xQ hM
           have hvs: ∀v∈iN aA n MM u h++iZ aA n MM u h j,v∈wT aA n MM u:=aE7 hlth hbU.out
           have hmid:=aC8 HI.out HU.out (fun v hv=>rF hn u v hun hv) hvs heq
           have hD2:D2.length=49152:=hmid.len
           have hQ2:Q2.length≤49152:=vN hmid.nodup hmid.bd
           have hum:u∈Q:=List.mem_of_getElem? HU.out
           have hsu:D2.getD u 0=D.getD u 0:=hmid.same u hum
           obtain⟨r,hr⟩:=hmid.pre
           dsimp only at hr
           have hkl:k<Q2.length:=by rw[hr,List.length_append];have:=HL.out;omega
           have hQk:Q2[k]? =some u:=by
            have:=HL.out
            rw[hr,List.getElem?_append_left (by omega)];exact HU.out
           have hdu:=fS (D:=D2) (v:=u) (by omega)
           have hdu1: -1≤D2.getD u 0:=(hbd2 _ hdu.2).1
           have hdu2:D2.getD u 0≤(k:Int):=by
            rw[hsu];exact(HBD.out _ (fS (D:=D) (v:=u) (by have:=HI.out.len;dsimp only at this;rw[this];exact hun)).2).2
           have HEQ:=xQ heq
           have HBD2:=xQ hbd2
           have HL2:=xQ hl2
           have HQK:=xQ hQk
           have HDU:=xQ hdu.1
           have HSU:=xQ hsu
           have HD2:=xQ hD2
           have hl2n:l2≤49152:=by omega
           have hkl2:k<l2:=by omega
           have cb:wr.cell? ⟨gB,h,none⟩=some (.slice qi nb.length ci):=by
            have:=(HM.out.nest (i:=2) rfl).1.cellAt h (by rw[RL.out];omega)
            rw[this,List.getElem?_map,HRW.out];rfl
           have hrow:=(HM.out.nest (i:=2) rfl).2 _ (List.mem_of_getElem? HRW.out)
           have HROW:=xQ (show wr.ownsRow w.heap.size TI 1 (.slice qi nb.length ci) nb.length (ivs (cT nb))from hrow)
           clear hM hvs hmid hr heq hbd2 hl2 hQk hdu hsu hrow hD2 hkl
           by_cases hltj:j<nb.length
           ·obtain⟨gi,rfl,hgi1,hgi2⟩:=eL HROW.out (by omega)
            obtain⟨f,hf⟩: ∃f,nb[j]? =some f:=⟨_,List.getElem?_eq_getElem hltj⟩
            have hfn:f<n:=(cL.1 (by rw[←HNB.out];exact List.mem_of_getElem? hf:f∈aY aA n h)).1
            have hf':(aY aA n h)[j]? =some f:=by rw[←HNB.out];exact hf
            have HF':=xQ hf'
            have cj:wr.cell? ⟨gi,j,none⟩=some (.int .i64 (f:Int)):=by have:=HROW.out.cellAt j (by omega);rw[this];simp[ivs,cT,hf]
            clear hf hf'
            have m1:(0:Int)≤(j:Int):=by omega
            have m2:(j:Int)<(nb.length:Int):=by omega
            obtain⟨Pf,hPf⟩: ∃Pf:Nat,Pf=2 ^ f:=⟨_,rfl⟩
            have hPfb:Pf≤2048:=by rw[hPf];exact Nat.le_trans (Nat.pow_le_pow_right (by omega) (show f≤11 by omega)) (by decide)
            have hsf:(2:Int) ^ f=(Pf:Int):=by rw[hPf];simp
            have hwf:IntKind.i64.wrap (Pf:Int)=(Pf:Int):=IntWalk.i64_in _ (by omega)
            obtain⟨B,hB⟩: ∃B:Nat,B=S/Pf:=⟨_,rfl⟩
            have hshf:(S:Int)/(Pf:Int)=(B:Int):=by rw[hB];simp
            have hbf:S.testBit f=decide (B%2=1):=by rw[hB,hPf];exact aFg S f
            have HBF:=xQ hbf
            have HPF:=xQ hPf
            clear hPf hB hbf
            cases hb:S.testBit f with
            |true=>
             have t2:(B:Int)%2=1:=by have:=HBF.out;rw[hb]at this;simp at this;omega
             have hfin:=xQ (aI6 HF'.out (show(u%MM).testBit f=true by rw[←show S=u%MM from HS.out];exact hb))
             clear hb
             go_wp2
             go_roundw
             case rel=>exact⟨j+1,q,l2,lc,D2,Q2,by omega,by go_num,rfl,HL2.out,by rw[hfin.out];exact HEQ.out,HBD2.out,HM.out⟩
             case measure=>simp[intOf];omega
            |false=>
             have t2:(B:Int)%2=0:=by have:=HBF.out;rw[hb]at this;simp at this;omega
             have hbfU:(u%MM).testBit f=false:=by rw[←show S=u%MM from HS.out];exact hb
             have hfin:=xQ (aG9 HF'.out hbfU)
             have hsub:=(aAv hbU.out).1
             have hSh:Ph≤S:=by rw[HPH.out,show S=u%MM from HS.out];exact hsub
             obtain⟨v,hv⟩: ∃v,v=nJ MM (u/MM) (u%MM) f h:=⟨_,rfl⟩
             have hvN:v<49152:=rF hn u v hun (mM.2 ⟨f,h,hfn,hlth,fQ hlth (by exact List.mem_of_getElem? HF'.out),hbfU,hbU.out,hv⟩)
             have hvv:v=dR C f h*4096+(S-Ph+Pf):=by
              rw[hv,HPH.out,HPF.out,show C=u/MM from HC.out,show S=u%MM from HS.out];rfl
             rw[←hv]at hfin
             have HVV:=xQ hvv
             clear hb hbfU hsub hv hvv
             have s1:(0:Int)≤(v:Int):=by omega
             have s2:(v:Int)<49152:=by omega
             obtain⟨dv,hdv,hdvm⟩: ∃dv,D2[v]? =some dv∧D2.getD v 0=dv:=⟨_,(fS (D:=D2) (v:=v) (by rw[HD2.out];exact hvN)).1,rfl⟩
             have HDV:=xQ hdv
             have HDVM:=xQ hdvm
             clear hdv hdvm
             by_cases hcar:f=C
             ·have t3:((f:Int)==(C:Int))=true:=by simp[hcar]
              have hvI:(h:Int)*4096+(S:Int)-(Ph:Int)+(Pf:Int)=(v:Int):=by
               have:=HVV.out;unfold dR at this;rw[if_pos hcar]at this;omega
              have HVI:=xQ hvI
              clear hvI hcar
              go_wp2
              have hm1:IntKind.i64.wrap ((h:Int)*4096)=(h:Int)*4096:=IntWalk.i64_in _ (by omega)
              have hm2:IntKind.i64.wrap ((h:Int)*4096+(S:Int))=(h:Int)*4096+(S:Int):=IntWalk.i64_in _ (by omega)
              have hm3:IntKind.i64.wrap ((h:Int)*4096+(S:Int)-(Ph:Int))=(h:Int)*4096+(S:Int)-(Ph:Int):=IntWalk.i64_in _ (by omega)
              have hm4:IntKind.i64.wrap ((h:Int)*4096+(S:Int)-(Ph:Int)+(Pf:Int))=(v:Int):=(IntWalk.i64_in _ (by omega)).trans HVI.out
              go_quiet (fail)
              generalize hwi:World.drewN wr _=wi
              have hX:Ext wr wi:=by rw[←hwi];exact Ext.drewN (Ext.refl _) _
              clear hwi hm1 hm2 hm3 hm4
              have MI:=xQ (HM.out.adv hX)
              have HE:=xQ (show Mem w wi [aP w.heap.size TI 1 (q) (l2) (lc) (ivs (cT Q2)),aP w.heap.size TI 1 (some ⟨w.heap.size+1,0,none⟩) (49152) (49152) (ivs D2),nK w.heap.size TSS TI 1 (some ⟨gB,0,none⟩) cB rows,aK w.heap.size (w.heap.size) TH3 #[.int .i64 aA,.int .i64 aB,.slice p n cap]]from MI.out)
              clear hX HM MI cb cj
              have cl:wi.cell? ⟨w.heap.size+1,v,none⟩=some (.int .i64 dv):=by have:=(HE.out.own (i:=1) rfl).cellAt v (by omega);rw[this];simp[ivs,HDV.out]
              by_cases hd0:dv<0
              ·have t4:decide (dv<0)=true:=by simp[hd0]
               have hrel2:Hid ((D2.set v (D.getD u 0+1),Q2++ [v])=cO (D.getD u 0+1) (D,Q) (iN aA n MM u h++iZ aA n MM u h (j+1))):=by
                show _=_
                rw[hfin.out,←List.append_assoc,iP,←HEQ.out,rS (by rw[HDVM.out];exact hd0)]
               obtain⟨du,hdu⟩: ∃du,du=D2.getD u 0:=⟨_,rfl⟩
               have HDU2:=xQ hdu
               have du1: -1≤du:=by omega
               have du2:du≤(k:Int):=by omega
               have hw12:IntKind.i64.wrap (du+1)=du+1:=IntWalk.i64_in _ (by omega)
               obtain⟨gl,rfl,hgl1,hgl2⟩:=HE.out.some (i:=0) rfl (by omega)
               have n0:(0:Int)≤(u:Int):=by omega
               have n1:(u:Int)<49152:=by omega
               have n2:(k:Int)<(l2:Int):=by omega
               have ck:wi.cell? ⟨gl,k,none⟩=some (.int .i64 (u:Int)):=by have:=(HE.out.own (i:=0) rfl).cellAt k (by omega);rw[this];simp[ivs,cT,HQK.out]
               have cd:wi.cell? ⟨w.heap.size+1,u,none⟩=some (.int .i64 du):=by have:=(HE.out.own (i:=1) rfl).cellAt u (by omega);rw[this,HDU2.out];simp only[ivs,List.getElem?_map,HDU.out,Option.map_some]
               have cf:wi.frozen? ⟨w.heap.size+1,v,none⟩=false:=(HE.out.own (i:=1) rfl).frozenAt v
               clear hdu hd0
               go_wp2_with (at_builtin;refine fH gW rfl _ _ rfl ((HE.out.ostore (i:=1) rfl v (.int .i64 (du+1))).adv ((Ext.refl _).alloc (.cells #[.int .i64 (v:Int)] TI))) 0 rfl rfl [.int .i64 (v:Int)] rfl (iE _ _ _ 1 1 _ (by first|rfl|simp) (by first|rfl|simp) (by simp[maxLen])) (fun u hu=>by obtain rfl:=List.mem_singleton.1 hu;rfl) (by omega) ?_;intro q7 c7 w6 M6)
               have M7:=xQ (show Mem w w6 [aP w.heap.size TI 1 (q7) (l2+1) (c7) (ivs (cT (Q2++ [v]))),aP w.heap.size TI 1 (some ⟨w.heap.size+1,0,none⟩) (49152) (49152) (ivs (D2.set v (du+1))),nK w.heap.size TSS TI 1 (some ⟨gB,0,none⟩) cB rows,aK w.heap.size (w.heap.size) TH3 #[.int .i64 aA,.int .i64 aB,.slice p n cap]]from by rw[←iB,cT,List.map_append,ivs,List.map_append];exact M6)
               clear M6 HE cl ck cd cf
               go_wp2
               go_roundw
               case rel=>exact⟨j+1,q7,l2+1,c7,D2.set v (du+1),Q2++ [v],by omega,by go_num,rfl,by rw[List.length_append,←HL2.out];rfl,by rw[←hrel2.out,←HSU.out,←HDU2.out],fun x hx=>by
                rcases List.mem_or_eq_of_mem_set hx with h|h
                ·exact HBD2.out x h
                ·omega,M7.out⟩
               case measure=>simp[intOf];omega
              ·have t4:decide (dv<0)=false:=by simp[hd0]
               have hrel2:Hid ((D2,Q2)=cO (D.getD u 0+1) (D,Q) (iN aA n MM u h++iZ aA n MM u h (j+1))):=by
                show _=_
                rw[hfin.out,←List.append_assoc,iP,←HEQ.out,vB (by rw[HDVM.out];exact hd0)]
               clear hd0
               go_wp2
               go_roundw
               case rel=>exact⟨j+1,q,l2,lc,D2,Q2,by omega,by go_num,rfl,HL2.out,hrel2.out,HBD2.out,HE.out⟩
               case measure=>simp[intOf];omega
             ·have t3:((f:Int)==(C:Int))=false:=by simp;omega
              have hvI:(C:Int)*4096+(S:Int)-(Ph:Int)+(Pf:Int)=(v:Int):=by
               have:=HVV.out;unfold dR at this;rw[if_neg hcar]at this;omega
              have HVI:=xQ hvI
              clear hvI hcar
              go_wp2
              have hm1:IntKind.i64.wrap ((C:Int)*4096)=(C:Int)*4096:=IntWalk.i64_in _ (by omega)
              have hm2:IntKind.i64.wrap ((C:Int)*4096+(S:Int))=(C:Int)*4096+(S:Int):=IntWalk.i64_in _ (by omega)
              have hm3:IntKind.i64.wrap ((C:Int)*4096+(S:Int)-(Ph:Int))=(C:Int)*4096+(S:Int)-(Ph:Int):=IntWalk.i64_in _ (by omega)
              have hm4:IntKind.i64.wrap ((C:Int)*4096+(S:Int)-(Ph:Int)+(Pf:Int))=(v:Int):=(IntWalk.i64_in _ (by omega)).trans HVI.out
              go_quiet (fail)
              generalize hwi:World.drewN wr _=wi
              have hX:Ext wr wi:=by rw[←hwi];exact Ext.drewN (Ext.refl _) _
              clear hwi hm1 hm2 hm3 hm4
              have MI:=xQ (HM.out.adv hX)
              have HE:=xQ (show Mem w wi [aP w.heap.size TI 1 (q) (l2) (lc) (ivs (cT Q2)),aP w.heap.size TI 1 (some ⟨w.heap.size+1,0,none⟩) (49152) (49152) (ivs D2),nK w.heap.size TSS TI 1 (some ⟨gB,0,none⟩) cB rows,aK w.heap.size (w.heap.size) TH3 #[.int .i64 aA,.int .i64 aB,.slice p n cap]]from MI.out)
              clear hX HM MI cb cj
              have cl:wi.cell? ⟨w.heap.size+1,v,none⟩=some (.int .i64 dv):=by have:=(HE.out.own (i:=1) rfl).cellAt v (by omega);rw[this];simp[ivs,HDV.out]
              by_cases hd0:dv<0
              ·have t4:decide (dv<0)=true:=by simp[hd0]
               have hrel2:Hid ((D2.set v (D.getD u 0+1),Q2++ [v])=cO (D.getD u 0+1) (D,Q) (iN aA n MM u h++iZ aA n MM u h (j+1))):=by
                show _=_
                rw[hfin.out,←List.append_assoc,iP,←HEQ.out,rS (by rw[HDVM.out];exact hd0)]
               obtain⟨du,hdu⟩: ∃du,du=D2.getD u 0:=⟨_,rfl⟩
               have HDU2:=xQ hdu
               have du1: -1≤du:=by omega
               have du2:du≤(k:Int):=by omega
               have hw12:IntKind.i64.wrap (du+1)=du+1:=IntWalk.i64_in _ (by omega)
               obtain⟨gl,rfl,hgl1,hgl2⟩:=HE.out.some (i:=0) rfl (by omega)
               have n0:(0:Int)≤(u:Int):=by omega
               have n1:(u:Int)<49152:=by omega
               have n2:(k:Int)<(l2:Int):=by omega
               have ck:wi.cell? ⟨gl,k,none⟩=some (.int .i64 (u:Int)):=by have:=(HE.out.own (i:=0) rfl).cellAt k (by omega);rw[this];simp[ivs,cT,HQK.out]
               have cd:wi.cell? ⟨w.heap.size+1,u,none⟩=some (.int .i64 du):=by have:=(HE.out.own (i:=1) rfl).cellAt u (by omega);rw[this,HDU2.out];simp only[ivs,List.getElem?_map,HDU.out,Option.map_some]
               have cf:wi.frozen? ⟨w.heap.size+1,v,none⟩=false:=(HE.out.own (i:=1) rfl).frozenAt v
               clear hdu hd0
               go_wp2_with (at_builtin;refine fH gW rfl _ _ rfl ((HE.out.ostore (i:=1) rfl v (.int .i64 (du+1))).adv ((Ext.refl _).alloc (.cells #[.int .i64 (v:Int)] TI))) 0 rfl rfl [.int .i64 (v:Int)] rfl (iE _ _ _ 1 1 _ (by first|rfl|simp) (by first|rfl|simp) (by simp[maxLen])) (fun u hu=>by obtain rfl:=List.mem_singleton.1 hu;rfl) (by omega) ?_;intro q7 c7 w6 M6)
               have M7:=xQ (show Mem w w6 [aP w.heap.size TI 1 (q7) (l2+1) (c7) (ivs (cT (Q2++ [v]))),aP w.heap.size TI 1 (some ⟨w.heap.size+1,0,none⟩) (49152) (49152) (ivs (D2.set v (du+1))),nK w.heap.size TSS TI 1 (some ⟨gB,0,none⟩) cB rows,aK w.heap.size (w.heap.size) TH3 #[.int .i64 aA,.int .i64 aB,.slice p n cap]]from by rw[←iB,cT,List.map_append,ivs,List.map_append];exact M6)
               clear M6 HE cl ck cd cf
               go_wp2
               go_roundw
               case rel=>exact⟨j+1,q7,l2+1,c7,D2.set v (du+1),Q2++ [v],by omega,by go_num,rfl,by rw[List.length_append,←HL2.out];rfl,by rw[←hrel2.out,←HSU.out,←HDU2.out],fun x hx=>by
                rcases List.mem_or_eq_of_mem_set hx with h|h
                ·exact HBD2.out x h
                ·omega,M7.out⟩
               case measure=>simp[intOf];omega
              ·have t4:decide (dv<0)=false:=by simp[hd0]
               have hrel2:Hid ((D2,Q2)=cO (D.getD u 0+1) (D,Q) (iN aA n MM u h++iZ aA n MM u h (j+1))):=by
                show _=_
                rw[hfin.out,←List.append_assoc,iP,←HEQ.out,vB (by rw[HDVM.out];exact hd0)]
               clear hd0
               go_wp2
               go_roundw
               case rel=>exact⟨j+1,q,l2,lc,D2,Q2,by omega,by go_num,rfl,HL2.out,hrel2.out,HBD2.out,HE.out⟩
               case measure=>simp[intOf];omega
           ·have hfin:Hid (iN aA n MM u h++iZ aA n MM u h j=iN aA n MM u (h+1)):=by
             show _=_
             rw[vK,aIv hbU.out,←HNB.out,show j=nb.length by omega]
            rw[hfin.out]at HEQ
            obtain rfl:nb.length=j:=by omega
            go_wp2
            go_roundw
            case rel=>exact⟨h+1,q,l2,lc,D2,Q2,by omega,by go_num,rfl,HL2.out,HEQ.out,HBD2.out,HM.out⟩
            case measure=>simp[intOf];omega
        ·obtain rfl:n=h:=by omega
         have hI:=HI.out.step HU.out (fun v hv=>rF hn u v hun hv)
         have he:=HEQ.out
         obtain⟨r,hr⟩:=(aC8 HI.out HU.out (fun v hv=>rF hn u v hun hv) (aGa (Nat.le_refl _)) he).pre
         dsimp only at hr
         have hkl3:k+1≤l2:=by rw[HL2.out,hr,List.length_append];have:=HL.out;omega
         clear hr
         rw[rU]at he
         rw[←he]at hI
         have HI2:=xQ hI
         clear hI he
         go_wp2
         go_roundw
         case rel=>exact⟨k+1,q,l2,lc,D2,Q2,hkl3,by go_num,rfl,HL2.out,fun x hx=>by have:=HBD2.out x hx;omega,HI2.out,HM.out⟩
         case measure=>simp[intOf];omega
      ·have hdist:=xQ (HI.out.dist (by have:=HL.out;dsimp only;omega))
       go_wp2
       go_ret
       refine⟨D,hdist.out,eZ hdist.out.len (HM.out.own (i:=1) rfl) HM.out.ext⟩
theorem aEg (aA aB:Int)(p:Option Addr)(n cap:Nat)(xs:List Int)(w:World)(hS:Sl w p n cap 1 (ivs xs))(hok:aR aA aB xs=true):
  Calls Tryz.prog 216 #[aJ aA aB p n cap] w fun e w'=> ∃D,fG aA n (cR xs).length D∧cC D w e w':=by
 have hl:=hS.ilen
 obtain⟨g1,g2,g3,g4,g5,g6,g7⟩:=cG (cW hok)
 have hp:(2:Nat) ^ n≤2 ^ 12:=Nat.pow_le_pow_right (by omega) (by omega)
 have hp2:(2:Nat) ^ 12=4096:=by decide
 have hpe:(2:Nat) ^ n%2=0:=by obtain⟨m,hm⟩: ∃m,n=m+1:=⟨n-1,by omega⟩;rw[hm,Nat.pow_succ];omega
 refine aDi aA aB p n cap (cR xs).length (2 ^ n) w (by omega) (by omega) rfl (by omega) hpe (fun w' hx=> ?_) (fun m w' hm=>aEh m w' (by omega)) (fun w' hx=>aA8 aA aB p n cap xs w' (hS.ext hx) hok)
 exact(qW aA aB p n cap xs w' (hS.ext hx) hok).mono fun e w'' ⟨q,c,h1,_,h3⟩=>⟨q,c,h1,h3⟩
structure zH (aA aB:Int) (xs:List Int) (D:List Int) (c:Nat) (id:Int) (j:Nat) (ys:List Int):Prop where
 ok:aR aA aB ys=true
 len:ys.length=xs.length
 free:aM ys=(gP aA xs.length (bG D) (c,aM xs) j).2
 at_:ys[(gP aA xs.length (bG D) (c,aM xs) j).1]? =some id
theorem yY {aA aB:Int}{ys:List Int}{c:Nat}{id:Int}(hok:aR aA aB ys=true)(hi:1≤id)(hc:ys[c]? =some id):mD aA aB ys id=(c:Int):=by
 unfold mD
 rw[if_pos ⟨hok,hi⟩]
 refine uE hc (fun hm=> ?_)
 unfold aR at hok
 rw[Bool.and_eq_true]at hok
 obtain⟨h1,h2,h3⟩:=(eI _ _).1 hok.2
 obtain⟨hcl,hce⟩:=List.getElem?_eq_some_iff.1 hc
 have e1:ys=ys.take c++ys.drop c:=(List.take_append_drop c ys).symm
 have hd:id∈ys.drop c:=by rw[pA hc];simp
 rw[e1,List.filter_append,List.nodup_append]at h3
 exact h3.2.2 id (List.mem_filter.2 ⟨hm,by simp;omega⟩) id (List.mem_filter.2 ⟨hd,by simp;omega⟩) rfl
theorem aGy {aA aB:Int}{xs:List Int}{D:List Int}{c:Nat}{id:Int}(h:aR aA aB xs=true)(hc:xs[c]? =some id) (h0:id≠0) (hD:fG aA xs.length (cR xs).length D) {d:Nat} (hd:bG D c (aM xs)=d) {j:Nat} (hj:j<d) {ys:List Int} (hw:zH aA aB xs D c id j ys):
  ∃(J:Nat) (es:List (Nat×Nat)),es=fP aA xs.length (aM ys)∧gK aA aB ys=es.map mK∧J<es.length∧es[J]? =some (gZ aA xs.length (bG D) (c,aM xs) j)∧
   (∀i e,i≤J→es[i]? =some e→e∈fP aA xs.length (aM ys)∧(bG D (dR (gP aA xs.length (bG D) (c,aM xs) j).1 e.1 e.2) (dX (aM ys) e.1 e.2)=(d:Int)-j-1↔i=J))∧
   ∀e,es[J]? =some e→zH aA aB xs D c id (j+1) (bP aA aB ys (e.1:Int) (e.2:Int)):=by
 obtain⟨b1,b2,b3,b4,b5,b6,b7⟩:=cG (cW h)
 have hp:=oY hc h0
 obtain⟨e1,e2,e3⟩:=nZ b5 b6 hD hp hd hj
 obtain⟨g1,g2⟩:=mE b5 b6 hD hp hd j (by omega)
 have hsl:=aA0 hw.ok
 rw[hw.len]at hsl
 have hmem:gZ aA xs.length (bG D) (c,aM xs) j∈fP aA xs.length (aM ys):=by rw[hw.free];exact e2
 have e1':(fP aA xs.length (aM ys)).find? (fun e=>decide (bG D (dR (gP aA xs.length (bG D) (c,aM xs) j).1 e.1 e.2) (dX (aM ys) e.1 e.2)=(d:Int)-j-1))=some (gZ aA xs.length (bG D) (c,aM xs) j):=by
  have:=e1
  unfold nH at this
  rw[←hw.free,←g2]at*
  rw[hw.free]at*
  exact this
 have hpe:=List.find?_some e1'
 obtain⟨J,hJ1,hJ2,hJ3,hJ4⟩:=aFc (p:=fun e:Nat×Nat=>decide (bG D (dR (gP aA xs.length (bG D) (c,aM xs) j).1 e.1 e.2) (dX (aM ys) e.1 e.2)=(d:Int)-j-1)) (d:=(0,0)) hmem hpe
 rw[e1']at hJ2 hJ3
 simp only[Option.getD_some]at hJ2 hJ3
 refine⟨J,_,rfl,hsl,hJ1,hJ2,fun i e hi he=>⟨List.mem_of_getElem? he,?_⟩,fun e he=> ?_⟩
 ·constructor
  ·intro hh
   rcases Nat.lt_or_ge i J with hlt|hge
   ·have:=hJ4 i e hlt he
    simp only[decide_eq_false_iff_not]at this
    exact absurd hh this
   ·exact Nat.le_antisymm hi hge
  ·intro hiJ
   have he2:some (gZ aA xs.length (bG D) (c,aM xs) j)=some e:=by rw[←hJ2,←hiJ];exact he
   have he3:=Option.some.inj he2
   rw[←he3]
   exact of_decide_eq_true hJ3
 ·rw[hJ2]at he
  injection he with he
  subst he
  have hm2:gZ aA xs.length (bG D) (c,aM xs) j∈fP aA ys.length (aM ys):=by rw[hw.len];exact hmem
  obtain⟨m1,m2,m3,m4⟩:=sG hw.ok (f:=(gZ aA xs.length (bG D) (c,aM xs) j).1) (t:=(gZ aA xs.length (bG D) (c,aM xs) j).2) hm2
  refine⟨jE _ _ hw.ok,by rw[dW,hw.len],?_,?_⟩
  ·rw[m3,e3,hw.free];rfl
  ·rw[e3];exact m4 _ _ hw.at_ h0
end Go.Proofs.YteejdnmmpmcmeaaGreatDoor
