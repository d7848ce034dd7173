/-
  Texts of this proof, packed (@packed).
-/
import Derived.Test.YteejdnmmpmcmeaaGreatDoorK11
import Derived.Test.YteejdnmmpmcmeaaGreatDoorK16
namespace Go.Proofs.YteejdnmmpmcmeaaGreatDoor
open Go.RowKit
set_option linter.unusedVariables false
set_option linter.unusedSimpArgs false
theorem made_zeros (n:Nat):(madeCells #[Value.int .i64 0] n).toList=ivs (List.replicate n 0)∧(madeCells #[Value.int .i64 0] n).size=n:=by
 constructor
 ·apply List.ext_getElem<;>simp[madeCells,Nat.mod_one]
 ·simp[madeCells]
theorem seed_bd (N:Nat)(src:List Nat): ∀x∈seedD N src,-1≤x∧x≤((0:Nat):Int):=by
 unfold seedD
 suffices h: ∀(l:List Nat) (A:List Int),(∀x∈A,-1≤x∧x≤((0:Nat):Int))→ ∀x∈l.foldl (fun A v=>A.set v 0) A,-1≤x∧x≤((0:Nat):Int)from h src _ (fun x hx=>by rw[List.mem_replicate]at hx;omega)
 intro l
 induction l with
 |nil=>intro A h;exact h
 |cons v l ih=>
  intro A h
  exact ih (A.set v 0) (fun x hx=>by
   rcases List.mem_or_eq_of_mem_set hx with h1|h1
   ·exact h x h1
   ·omega)
set_option maxRecDepth 100000 in
set_option maxHeartbeats 16000000 in
theorem specLeft_o (wide deep:Int)(p:Option Addr)(n cap F P:Nat)(w:World)(hn0:4≤n)(hn:n≤12)(hP:Hid (P=2 ^ n))(hP12:P≤4096)(hPe:P%2=0)
  (HF:Hid (∀w',Ext w w'→Calls Tryz.prog 79 #[hallV wide deep p n cap] w' fun e w''=> ∃q c,e= .returned (.slice q F c)∧Ext w' w''))
  (HBI:Hid (∀(m:Nat) w',m≤4096→Calls Tryz.prog 234 #[.int .i64 (m:Int)] w' fun e w''=>e= .returned (.int .i64 (popc m:Int))∧w'=w''))
  (HN:Hid (∀w',Ext w w'→Calls Tryz.prog 235 #[hallV wide deep p n cap] w' (RetNest wide n w'))):
  Calls Tryz.prog 216 #[hallV wide deep p n cap] w fun e w'=> ∃D,DistB wide n F D∧RetInts D w e w':=by
 obtain⟨AR,hAR⟩: ∃AR:Array Value,AR=madeCells #[.int .i64 0] 49152:=⟨_,rfl⟩
 have hmk: ∀w:World,(Instr.makeSlice 23 (.int .i64 49152) (.int .i64 49152)).run Tryz.prog w= .ok (.slice (some ⟨w.heap.size,0,none⟩) 49152 49152) (w.alloc (.cells AR TI)):=fun w=>by
  rw[hAR]
  exact run_make_row' _ _ (.int .i64 0) 8 Tryz.underlying23 (by kernel_rfl) rfl .i64 .i64 49152 (by omega) (by omega) w
 have hA1:Hid (AR.toList=ivs (leftAt 0)):=by
  show _=_
  rw[hAR,(made_zeros 49152).1];rfl
 have hA2:Hid (AR.size=49152):=by show _=_;rw[hAR];exact(made_zeros 49152).2
 clear hAR
 go_enter Tryz.func216,Tryz.ntmps216
 go_wp2
 have ME:=Lib.hid (show Mem w ((w.alloc (.cells #[.int .i64 wide,.int .i64 deep,.slice p n cap] TH3)).alloc (.cells AR TI)) [ownI w.heap.size TI 1 (some ⟨w.heap.size+1,0,none⟩) (49152) (49152) (ivs (leftAt 0)),blkI w.heap.size (w.heap.size) TH3 #[.int .i64 wide,.int .i64 deep,.slice p n cap]]from by rw[←hA1.out];exact((Mem.start w).blkNew TH3 #[.int .i64 wide,.int .i64 deep,.slice p n cap] w.heap.size rfl).lit TI 1 49152 _ AR (by simp) (by rw[hA2.out]) (by simp[maxLen]))
 clear hA1 hA2 hmk
 go_loopw [4] (fun i wr=> ∃(k:Nat),k≤49152∧i= .int .i64 (k:Int)∧Mem w wr [ownI w.heap.size TI 1 (some ⟨w.heap.size+1,0,none⟩) (49152) (49152) (ivs (leftAt k)),blkI w.heap.size (w.heap.size) TH3 #[.int .i64 wide,.int .i64 deep,.slice p n cap]]) (fun i _=>49152-(intOf i).toNat)
 case atStart=>exact⟨0,Nat.zero_le _,rfl,ME.out⟩
 case round=>
  clear ME
  obtain⟨k,hk,rfl,hM⟩:=hrel
  have HM:=Lib.hid hM
  clear hM
  have lt0:=(HM.out.lt (i:=1) rfl rfl).2
  by_cases hlt:k<49152
  ·have i1:(0:Int)≤(k:Int):=by omega
   have i2:(k:Int)<49152:=by omega
   have cl:wr.cell? ⟨w.heap.size+1,k,none⟩=some (.int .i64 0):=by have:=(HM.out.own (i:=0) rfl).cellAt k (by omega);rw[this];simp[ivs,leftAt_get hlt]
   have cf:wr.frozen? ⟨w.heap.size+1,k,none⟩=false:=(HM.out.own (i:=0) rfl).frozenAt k
   have M2:=Lib.hid (show Mem w (wr.setCell ⟨w.heap.size+1,k,none⟩ (.int .i64 (-1))) [ownI w.heap.size TI 1 (some ⟨w.heap.size+1,0,none⟩) (49152) (49152) (ivs (leftAt (k+1))),blkI w.heap.size (w.heap.size) TH3 #[.int .i64 wide,.int .i64 deep,.slice p n cap]]from by rw[←leftAt_set hlt,←ivs_set];exact HM.out.ostore (i:=0) rfl k (.int .i64 (-1)))
   clear HM
   go_wp2
   go_roundw
   case rel=>exact⟨k+1,by omega,by go_num,M2.out⟩
   case measure=>simp[intOf];omega
  ·obtain rfl:k=49152:=by omega
   have M1:=Lib.hid (show Mem w wr [ownI w.heap.size TI 1 (some ⟨w.heap.size+1,0,none⟩) (49152) (49152) (ivs (seedD NN (srcUpto F 0))),blkI w.heap.size (w.heap.size) TH3 #[.int .i64 wide,.int .i64 deep,.slice p n cap]]from by have:=HM.out;rwa[show leftAt 49152=seedD NN (srcUpto F 0)from leftAt_end F]at this)
   clear HM hlt hk
   have M2:=Lib.hid (show Mem w (wr.alloc (.cells #[] TI)) [ownI w.heap.size TI 1 (some ⟨wr.heap.size,0,none⟩) (0) (0) ([]),ownI w.heap.size TI 1 (some ⟨w.heap.size+1,0,none⟩) (49152) (49152) (ivs (seedD NN (srcUpto F 0))),blkI w.heap.size (w.heap.size) TH3 #[.int .i64 wide,.int .i64 deep,.slice p n cap]]from(M1.out.made0 TI 1 wr.heap.size rfl))
   clear M1
   have c0:(wr.alloc (.cells #[] TI)).cell? ⟨w.heap.size,0,none⟩=some (.int .i64 wide):=((M2.out).blk (i:=2) rfl).cell 0
   have c1:(wr.alloc (.cells #[] TI)).cell? ⟨w.heap.size,1,none⟩=some (.int .i64 deep):=((M2.out).blk (i:=2) rfl).cell 1
   have c2:(wr.alloc (.cells #[] TI)).cell? ⟨w.heap.size,2,none⟩=some (.slice p n cap):=((M2.out).blk (i:=2) rfl).cell 2
   go_wp2_with fail
   clear c0 c1 c2
   refine(HF.out _ M2.out.ext).mono ?_
   rintro e w3 ⟨q3,c3,rfl,hx3⟩
   have M3:=Lib.hid (M2.out.adv hx3)
   clear M2 hx3 lt0
   have hp1:(2:Int) ^ n=(P:Int):=by rw[hP.out];simp
   have hw1:IntKind.i64.wrap (P:Int)=(P:Int):=IntWalk.i64_in _ (by omega)
   have ltw:=(M3.out.lt (i:=2) rfl rfl).2
   go_wp2
   go_loopw [5,7] (fun v i wx=> ∃(m:Nat) (q:Option Addr) (l lc:Nat),m≤P∧m%2=0∧i= .int .i64 (m:Int)∧v= .slice q l lc∧l=(srcUpto F m).length∧Mem w wx [ownI w.heap.size TI 1 (q) (l) (lc) (ivs (natI (srcUpto F m))),ownI w.heap.size TI 1 (some ⟨w.heap.size+1,0,none⟩) (49152) (49152) (ivs (seedD NN (srcUpto F m))),blkI w.heap.size (w.heap.size) TH3 #[.int .i64 wide,.int .i64 deep,.slice p n cap]]) (fun _ i _=>P-(intOf i).toNat)
   case atStart=>exact⟨0,some ⟨wr.heap.size,0,none⟩,0,0,Nat.zero_le _,rfl,rfl,rfl,rfl,M3.out⟩
   case round=>
    clear M3 ltw
    obtain⟨m,q,l,lc,hm,hm2,rfl,rfl,hl,hM⟩:=hrel
    have HM:=Lib.hid hM
    have HL:=Lib.hid hl
    have hlm:l≤4096:=by have:=srcUpto_len F m;omega
    clear hM hl
    obtain⟨c0,c1,c2⟩:=(((HM.out).blk (i:=2) rfl)).tri
    have lt0:=(HM.out.lt (i:=2) rfl rfl).2
    by_cases hlt:m<P
    ·have t0:decide ((m:Int)<(P:Int))=true:=by simp[hlt]
     go_wp2_with fail
     refine(HBI.out m _ (by omega)).mono ?_
     rintro e wx ⟨rfl,rfl⟩
     have h2:=srcUpto_two (many:=F) hm2
     by_cases hp:popc m=F
     ·have t1:((popc m:Int)==(F:Int))=true:=by simp[hp]
      rw[if_pos hp]at h2
      have H2:=Lib.hid h2
      have HL2:=Lib.hid (show l+1=(srcUpto F (m+2)).length by rw[h2,List.length_append,←HL.out];rfl)
      clear h2 hp
      have hmN:m<49152:=by omega
      have i1:(0:Int)≤(m:Int):=by omega
      have i2:(m:Int)<49152:=by omega
      obtain⟨x0,hx0⟩: ∃x0,(seedD NN (srcUpto F m))[m]? =some x0:=⟨_,List.getElem?_eq_getElem (by rw[seedD_len];exact hmN)⟩
      have cl:wr.cell? ⟨w.heap.size+1,m,none⟩=some (.int .i64 x0):=by have:=(HM.out.own (i:=1) rfl).cellAt m (by omega);rw[this];simp[ivs,hx0]
      have cf:wr.frozen? ⟨w.heap.size+1,m,none⟩=false:=(HM.out.own (i:=1) rfl).frozenAt m
      clear hx0
      go_wp2_with (at_builtin;refine wpList_appM elInt rfl _ _ rfl ((HM.out.ostore (i:=1) rfl m (.int .i64 0)).adv ((Ext.refl _).alloc (.cells #[.int .i64 (m:Int)] TI))) 0 rfl rfl [.int .i64 (m:Int)] rfl (sl_lit _ _ _ 1 1 _ (by first|rfl|simp) (by first|rfl|simp) (by simp[maxLen])) (fun u hu=>by obtain rfl:=List.mem_singleton.1 hu;rfl) (by omega) ?_;intro q7 c7 w6 M6)
      have M7:=Lib.hid (show Mem w w6 [ownI w.heap.size TI 1 (q7) (l+1) (c7) (ivs (natI (srcUpto F (m+2)))),ownI w.heap.size TI 1 (some ⟨w.heap.size+1,0,none⟩) (49152) (49152) (ivs (seedD NN (srcUpto F (m+2)))),blkI w.heap.size (w.heap.size) TH3 #[.int .i64 wide,.int .i64 deep,.slice p n cap]]from by rw[H2.out,seedD_snoc,←ivs_set,natI,List.map_append,ivs,List.map_append];exact M6)
      clear M6 HM cl cf c0 c1 c2
      go_wp2
      go_roundw
      case rel=>exact⟨m+2,q7,l+1,c7,by omega,by omega,by go_num,rfl,HL2.out,M7.out⟩
      case measure=>simp[intOf];omega
     ·have t1:((popc m:Int)==(F:Int))=false:=by simp;omega
      rw[if_neg hp,List.append_nil]at h2
      have H2:=Lib.hid h2
      clear h2
      go_wp2
      go_roundw
      case rel=>exact⟨m+2,q,l,lc,by omega,by omega,by go_num,rfl,by rw[H2.out];exact HL.out,by rw[H2.out];exact HM.out⟩
      case measure=>simp[intOf];omega
    ·obtain rfl:m=P:=by omega
     have hsrc:srcUpto F m=srcS n F:=by rw[hP.out];rfl
     rw[hsrc]at HL HM
     have hnn:n≤12:=hn
     have hI:=Inv.begin (adj:=adjB wide n MM) (src:=srcS n F) (N:=NN) (srcS_bd hnn) srcS_nodup
     have HI0:=Lib.hid hI
     clear hI hsrc hlt
     go_wp2_with fail
     clear c0 c1 c2
     refine(HN.out _ HM.out.ext).mono ?_
     rintro e w4 ⟨qB,cB,rows,rfl,hrows,hnest,hx4⟩
     obtain⟨gB,rfl,hgB1,hgB2⟩:=own_some hnest.1 (by rw[hrows.1];omega)
     have M4:=Lib.hid (HM.out.nestNew hx4 hnest (Nat.le_refl _))
     have HR:=Lib.hid hrows
     clear hnest hx4 hrows HM
     go_wp2
     go_loopw [5,9] (fun v i wx=> ∃(k:Nat) (q:Option Addr) (l lc:Nat) (D:List Int) (Q:List Nat),k≤l∧i= .int .i64 (k:Int)∧v= .slice q l lc∧l=Q.length∧(∀x∈D,-1≤x∧x≤(k:Int))∧Inv (adjB wide n MM) (srcS n F) NN k (D,Q)∧Mem w wx [ownI w.heap.size TI 1 (q) (l) (lc) (ivs (natI Q)),ownI w.heap.size TI 1 (some ⟨w.heap.size+1,0,none⟩) (49152) (49152) (ivs D),nestI w.heap.size TSS TI 1 (some ⟨gB,0,none⟩) cB rows,blkI w.heap.size (w.heap.size) TH3 #[.int .i64 wide,.int .i64 deep,.slice p n cap]]) (fun _ i _=>49152-(intOf i).toNat)
     case atStart=>exact⟨0,q,l,lc,_,srcS n F,Nat.zero_le _,rfl,rfl,HL.out,seed_bd _ _,HI0.out,M4.out.pick [1,2,0,3] (by decide) rfl⟩
     case round=>
      clear M4 HI0 HL
      obtain⟨k,q,l,lc,D,Q,hk,rfl,rfl,hl,hbd,hinv,hM⟩:=hrel
      have HM:=Lib.hid hM
      have HL:=Lib.hid hl
      have HBD:=Lib.hid hbd
      have HI:=Lib.hid hinv
      have hlN:l≤49152:=by have:=hinv.qlen;rw[hl];exact this
      clear hM hl hbd hinv
      by_cases hlt:k<l
      ·obtain⟨gL,rfl,hg1,hg2⟩:=HM.out.some (i:=0) rfl (by omega)
       obtain⟨u,hu⟩: ∃u,Q[k]? =some u:=⟨_,List.getElem?_eq_getElem (by rw[←HL.out];exact hlt)⟩
       have hun:u<49152:=HI.out.bd u (List.mem_of_getElem? hu)
       obtain⟨C,hC⟩: ∃C,C=u/4096:=⟨_,rfl⟩
       obtain⟨S,hS⟩: ∃S,S=u%4096:=⟨_,rfl⟩
       have hC12:C<12:=by omega
       have hS12:S<4096:=by omega
       have HU:=Lib.hid hu
       have HC:=Lib.hid hC
       have HS:=Lib.hid hS
       have i1:(0:Int)≤(k:Int):=by omega
       have i2:(k:Int)<(l:Int):=by omega
       have d1:(u:Int)/4096=(C:Int):=by omega
       have d2:(u:Int)%4096=(S:Int):=by omega
       have cu:wr.cell? ⟨gL,k,none⟩=some (.int .i64 (u:Int)):=by have:=(HM.out.own (i:=0) rfl).cellAt k (by omega);rw[this];simp[ivs,natI,hu]
       have lt0:=(HM.out.lt (i:=3) rfl rfl).2
       clear hu hC hS
       go_wp2
       rw[d2]
       clear cu d1 d2
       go_loopw [5,12] (fun v i wx=> ∃(h:Nat) (q:Option Addr) (l2 lc:Nat) (D2:List Int) (Q2:List Nat),h≤n∧i= .int .i64 (h:Int)∧v= .slice q l2 lc∧l2=Q2.length∧(D2,Q2)=expand (D.getD u 0+1) (D,Q) (partH wide n MM u h)∧(∀x∈D2,-1≤x∧x≤(k:Int)+1)∧Mem w wx [ownI w.heap.size TI 1 (q) (l2) (lc) (ivs (natI Q2)),ownI w.heap.size TI 1 (some ⟨w.heap.size+1,0,none⟩) (49152) (49152) (ivs D2),nestI w.heap.size TSS TI 1 (some ⟨gB,0,none⟩) cB rows,blkI w.heap.size (w.heap.size) TH3 #[.int .i64 wide,.int .i64 deep,.slice p n cap]]) (fun _ i _=>n-(intOf i).toNat)
       case atStart=>exact⟨0,_,l,lc,D,Q,Nat.zero_le _,rfl,rfl,HL.out,rfl,fun x hx=>by have:=HBD.out x hx;omega,HM.out⟩
       case round=>
        clear HM lt0
        obtain⟨h,q,l2,lc,D2,Q2,hh,rfl,rfl,hl2,heq,hbd2,hM⟩:=hrel
        have HM:=Lib.hid hM
        have HL2:=Lib.hid hl2
        have HEQ:=Lib.hid heq
        have HBD2:=Lib.hid hbd2
        clear hM hl2 heq hbd2
        obtain⟨c0,c1,c2⟩:=(((HM.out).blk (i:=3) rfl)).tri
        have lt0:=(HM.out.lt (i:=3) rfl rfl).2
        by_cases hlth:h<n
        ·have t0:decide ((h:Int)<(n:Int))=true:=by simp[hlth]
         obtain⟨Ph,hPh⟩: ∃Ph:Nat,Ph=2 ^ h:=⟨_,rfl⟩
         have hPhb:Ph≤2048:=by rw[hPh];exact Nat.le_trans (Nat.pow_le_pow_right (by omega) (show h≤11 by omega)) (by decide)
         have hsh:(2:Int) ^ h=(Ph:Int):=by rw[hPh];simp
         have hwh:IntKind.i64.wrap (Ph:Int)=(Ph:Int):=IntWalk.i64_in _ (by omega)
         obtain⟨A,hA⟩: ∃A:Nat,A=S/Ph:=⟨_,rfl⟩
         have hshr:(S:Int)/(Ph:Int)=(A:Int):=by rw[hA];simp
         have hbit:S.testBit h=decide (A%2=1):=by rw[hA,hPh];exact bit_div S h
         have HPH:=Lib.hid hPh
         have HBIT:=Lib.hid hbit
         obtain⟨rw_,hrw⟩: ∃r,rows[h]? =some r:=⟨_,List.getElem?_eq_getElem (by rw[HR.out.1];exact hlth)⟩
         obtain⟨qi,ni,ci,xi⟩:=rw_
         obtain⟨hni,hxi⟩:=HR.out.2 h _ hrw
         dsimp only at hni hxi
         subst hni hxi
         have HRW:=Lib.hid hrw
         have rl:=HR.out.1
         have RL:=Lib.hid rl
         clear hPh hbit hA hrw
         obtain⟨nb,hnb⟩: ∃nb,nb=besideN wide n h:=⟨_,rfl⟩
         rw[←hnb]at HRW
         have HNB:=Lib.hid hnb
         have hnb12:nb.length≤12:=by rw[hnb];exact Nat.le_trans (List.length_filter_le _ _) (by simp;omega)
         clear hnb rl
         have k1:(0:Int)≤(h:Int):=by omega
         have k2:(h:Int)<(n:Int):=by omega
         go_wp2
         clear c0 c1 c2
         cases hb:S.testBit h with
         |false=>
          have t1:(A:Int)%2=0:=by have:=HBIT.out;rw[hb]at this;simp at this;omega
          have hfin:=Lib.hid (show partH wide n MM u (h+1)=partH wide n MM u h by rw[partH_succ,fB_no (by rw[←show S=u%MM from HS.out];exact hb),List.append_nil])
          clear hb
          go_loopw [5,13] (fun v i wx=>i= .int .i64 0∧v= .slice q l2 lc∧wr=wx) (fun _ _ _=>0)
          case atStart=>exact⟨rfl,rfl,rfl⟩
          case round=>
           obtain⟨rfl,rfl,rfl⟩:=hrel
           go_wp2
           go_roundw
           case rel=>exact⟨h+1,q,l2,lc,D2,Q2,by omega,by go_num,rfl,HL2.out,by rw[hfin.out];exact HEQ.out,HBD2.out,HM.out⟩
           case measure=>simp[intOf];omega
         |true=>
          have t1:(A:Int)%2=1:=by have:=HBIT.out;rw[hb]at this;simp at this;omega
          have hbU:=Lib.hid (show(u%MM).testBit h=true by rw[←show S=u%MM from HS.out];exact hb)
          clear hb
          go_loopw [5,13] (fun v i wx=> ∃(j:Nat) (q:Option Addr) (l2 lc:Nat) (D2:List Int) (Q2:List Nat),j≤nb.length∧i= .int .i64 (j:Int)∧v= .slice q l2 lc∧l2=Q2.length∧(D2,Q2)=expand (D.getD u 0+1) (D,Q) (partH wide n MM u h++partJ wide n MM u h j)∧(∀x∈D2,-1≤x∧x≤(k:Int)+1)∧Mem w wx [ownI w.heap.size TI 1 (q) (l2) (lc) (ivs (natI Q2)),ownI w.heap.size TI 1 (some ⟨w.heap.size+1,0,none⟩) (49152) (49152) (ivs D2),nestI w.heap.size TSS TI 1 (some ⟨gB,0,none⟩) cB rows,blkI w.heap.size (w.heap.size) TH3 #[.int .i64 wide,.int .i64 deep,.slice p n cap]]) (fun _ i _=>nb.length-(intOf i).toNat)
          case atStart=>exact⟨0,q,l2,lc,D2,Q2,Nat.zero_le _,rfl,rfl,HL2.out,by rw[partJ_zero,List.append_nil];exact HEQ.out,HBD2.out,HM.out⟩
          case round=>
           clear HM HL2 HEQ HBD2 lt0
           obtain⟨j,q,l2,lc,D2,Q2,hj,rfl,rfl,hl2,heq,hbd2,hM⟩:=hrel
           have HM:=Lib.hid hM
           have hvs: ∀v∈partH wide n MM u h++partJ wide n MM u h j,v∈adjB wide n MM u:=partHJ_adj hlth hbU.out
           have hmid:=mid_part HI.out HU.out (fun v hv=>adjB_bd hn u v hun hv) hvs heq
           have hD2:D2.length=49152:=hmid.len
           have hQ2:Q2.length≤49152:=nodup_bd hmid.nodup hmid.bd
           have hum:u∈Q:=List.mem_of_getElem? HU.out
           have hsu:D2.getD u 0=D.getD u 0:=hmid.same u hum
           obtain⟨r,hr⟩:=hmid.pre
           dsimp only at hr
           have hkl:k<Q2.length:=by rw[hr,List.length_append];have:=HL.out;omega
           have hQk:Q2[k]? =some u:=by
            have:=HL.out
            rw[hr,List.getElem?_append_left (by omega)];exact HU.out
           have hdu:=getD_mem (D:=D2) (v:=u) (by omega)
           have hdu1: -1≤D2.getD u 0:=(hbd2 _ hdu.2).1
           have hdu2:D2.getD u 0≤(k:Int):=by
            rw[hsu];exact(HBD.out _ (getD_mem (D:=D) (v:=u) (by have:=HI.out.len;dsimp only at this;rw[this];exact hun)).2).2
           have HEQ:=Lib.hid heq
           have HBD2:=Lib.hid hbd2
           have HL2:=Lib.hid hl2
           have HQK:=Lib.hid hQk
           have HDU:=Lib.hid hdu.1
           have HSU:=Lib.hid hsu
           have HD2:=Lib.hid hD2
           have hl2n:l2≤49152:=by omega
           have hkl2:k<l2:=by omega
           have cb:wr.cell? ⟨gB,h,none⟩=some (.slice qi nb.length ci):=by
            have:=(HM.out.nest (i:=2) rfl).1.cellAt h (by rw[RL.out];omega)
            rw[this,List.getElem?_map,HRW.out];rfl
           have hrow:=(HM.out.nest (i:=2) rfl).2 _ (List.mem_of_getElem? HRW.out)
           have HROW:=Lib.hid (show wr.ownsRow w.heap.size TI 1 (.slice qi nb.length ci) nb.length (ivs (natI nb))from hrow)
           clear hM hvs hmid hr heq hbd2 hl2 hQk hdu hsu hrow hD2 hkl
           by_cases hltj:j<nb.length
           ·obtain⟨gi,rfl,hgi1,hgi2⟩:=own_some HROW.out (by omega)
            obtain⟨f,hf⟩: ∃f,nb[j]? =some f:=⟨_,List.getElem?_eq_getElem hltj⟩
            have hfn:f<n:=(besideN_mem.1 (by rw[←HNB.out];exact List.mem_of_getElem? hf:f∈besideN wide n h)).1
            have hf':(besideN wide n h)[j]? =some f:=by rw[←HNB.out];exact hf
            have HF':=Lib.hid hf'
            have cj:wr.cell? ⟨gi,j,none⟩=some (.int .i64 (f:Int)):=by have:=HROW.out.cellAt j (by omega);rw[this];simp[ivs,natI,hf]
            clear hf hf'
            have m1:(0:Int)≤(j:Int):=by omega
            have m2:(j:Int)<(nb.length:Int):=by omega
            obtain⟨Pf,hPf⟩: ∃Pf:Nat,Pf=2 ^ f:=⟨_,rfl⟩
            have hPfb:Pf≤2048:=by rw[hPf];exact Nat.le_trans (Nat.pow_le_pow_right (by omega) (show f≤11 by omega)) (by decide)
            have hsf:(2:Int) ^ f=(Pf:Int):=by rw[hPf];simp
            have hwf:IntKind.i64.wrap (Pf:Int)=(Pf:Int):=IntWalk.i64_in _ (by omega)
            obtain⟨B,hB⟩: ∃B:Nat,B=S/Pf:=⟨_,rfl⟩
            have hshf:(S:Int)/(Pf:Int)=(B:Int):=by rw[hB];simp
            have hbf:S.testBit f=decide (B%2=1):=by rw[hB,hPf];exact bit_div S f
            have HBF:=Lib.hid hbf
            have HPF:=Lib.hid hPf
            clear hPf hB hbf
            cases hb:S.testBit f with
            |true=>
             have t2:(B:Int)%2=1:=by have:=HBF.out;rw[hb]at this;simp at this;omega
             have hfin:=Lib.hid (partJ_no HF'.out (show(u%MM).testBit f=true by rw[←show S=u%MM from HS.out];exact hb))
             clear hb
             go_wp2
             go_roundw
             case rel=>exact⟨j+1,q,l2,lc,D2,Q2,by omega,by go_num,rfl,HL2.out,by rw[hfin.out];exact HEQ.out,HBD2.out,HM.out⟩
             case measure=>simp[intOf];omega
            |false=>
             have t2:(B:Int)%2=0:=by have:=HBF.out;rw[hb]at this;simp at this;omega
             have hbfU:(u%MM).testBit f=false:=by rw[←show S=u%MM from HS.out];exact hb
             have hfin:=Lib.hid (partJ_yes HF'.out hbfU)
             have hsub:=(bit_sub hbU.out).1
             have hSh:Ph≤S:=by rw[HPH.out,show S=u%MM from HS.out];exact hsub
             obtain⟨v,hv⟩: ∃v,v=nextS MM (u/MM) (u%MM) f h:=⟨_,rfl⟩
             have hvN:v<49152:=adjB_bd hn u v hun (adjB_mem.2 ⟨f,h,hfn,hlth,besideN_symm hlth (by exact List.mem_of_getElem? HF'.out),hbfU,hbU.out,hv⟩)
             have hvv:v=carAt C f h*4096+(S-Ph+Pf):=by
              rw[hv,HPH.out,HPF.out,show C=u/MM from HC.out,show S=u%MM from HS.out];rfl
             rw[←hv]at hfin
             have HVV:=Lib.hid hvv
             clear hb hbfU hsub hv hvv
             have s1:(0:Int)≤(v:Int):=by omega
             have s2:(v:Int)<49152:=by omega
             obtain⟨dv,hdv,hdvm⟩: ∃dv,D2[v]? =some dv∧D2.getD v 0=dv:=⟨_,(getD_mem (D:=D2) (v:=v) (by rw[HD2.out];exact hvN)).1,rfl⟩
             have HDV:=Lib.hid hdv
             have HDVM:=Lib.hid hdvm
             clear hdv hdvm
             by_cases hcar:f=C
             ·have t3:((f:Int)==(C:Int))=true:=by simp[hcar]
              have hvI:(h:Int)*4096+(S:Int)-(Ph:Int)+(Pf:Int)=(v:Int):=by
               have:=HVV.out;unfold carAt at this;rw[if_pos hcar]at this;omega
              have HVI:=Lib.hid hvI
              clear hvI hcar
              go_wp2
              have hm1:IntKind.i64.wrap ((h:Int)*4096)=(h:Int)*4096:=IntWalk.i64_in _ (by omega)
              have hm2:IntKind.i64.wrap ((h:Int)*4096+(S:Int))=(h:Int)*4096+(S:Int):=IntWalk.i64_in _ (by omega)
              have hm3:IntKind.i64.wrap ((h:Int)*4096+(S:Int)-(Ph:Int))=(h:Int)*4096+(S:Int)-(Ph:Int):=IntWalk.i64_in _ (by omega)
              have hm4:IntKind.i64.wrap ((h:Int)*4096+(S:Int)-(Ph:Int)+(Pf:Int))=(v:Int):=(IntWalk.i64_in _ (by omega)).trans HVI.out
              go_quiet (fail)
              generalize hwi:World.drewN wr _=wi
              have hX:Ext wr wi:=by rw[←hwi];exact Ext.drewN (Ext.refl _) _
              clear hwi hm1 hm2 hm3 hm4
              have MI:=Lib.hid (HM.out.adv hX)
              have HE:=Lib.hid (show Mem w wi [ownI w.heap.size TI 1 (q) (l2) (lc) (ivs (natI Q2)),ownI w.heap.size TI 1 (some ⟨w.heap.size+1,0,none⟩) (49152) (49152) (ivs D2),nestI w.heap.size TSS TI 1 (some ⟨gB,0,none⟩) cB rows,blkI w.heap.size (w.heap.size) TH3 #[.int .i64 wide,.int .i64 deep,.slice p n cap]]from MI.out)
              clear hX HM MI cb cj
              have cl:wi.cell? ⟨w.heap.size+1,v,none⟩=some (.int .i64 dv):=by have:=(HE.out.own (i:=1) rfl).cellAt v (by omega);rw[this];simp[ivs,HDV.out]
              by_cases hd0:dv<0
              ·have t4:decide (dv<0)=true:=by simp[hd0]
               have hrel2:Hid ((D2.set v (D.getD u 0+1),Q2++ [v])=expand (D.getD u 0+1) (D,Q) (partH wide n MM u h++partJ wide n MM u h (j+1))):=by
                show _=_
                rw[hfin.out,←List.append_assoc,expand_snoc,←HEQ.out,relax_yes (by rw[HDVM.out];exact hd0)]
               obtain⟨du,hdu⟩: ∃du,du=D2.getD u 0:=⟨_,rfl⟩
               have HDU2:=Lib.hid hdu
               have du1: -1≤du:=by omega
               have du2:du≤(k:Int):=by omega
               have hw12:IntKind.i64.wrap (du+1)=du+1:=IntWalk.i64_in _ (by omega)
               obtain⟨gl,rfl,hgl1,hgl2⟩:=HE.out.some (i:=0) rfl (by omega)
               have n0:(0:Int)≤(u:Int):=by omega
               have n1:(u:Int)<49152:=by omega
               have n2:(k:Int)<(l2:Int):=by omega
               have ck:wi.cell? ⟨gl,k,none⟩=some (.int .i64 (u:Int)):=by have:=(HE.out.own (i:=0) rfl).cellAt k (by omega);rw[this];simp[ivs,natI,HQK.out]
               have cd:wi.cell? ⟨w.heap.size+1,u,none⟩=some (.int .i64 du):=by have:=(HE.out.own (i:=1) rfl).cellAt u (by omega);rw[this,HDU2.out];simp only[ivs,List.getElem?_map,HDU.out,Option.map_some]
               have cf:wi.frozen? ⟨w.heap.size+1,v,none⟩=false:=(HE.out.own (i:=1) rfl).frozenAt v
               clear hdu hd0
               go_wp2_with (at_builtin;refine wpList_appM elInt rfl _ _ rfl ((HE.out.ostore (i:=1) rfl v (.int .i64 (du+1))).adv ((Ext.refl _).alloc (.cells #[.int .i64 (v:Int)] TI))) 0 rfl rfl [.int .i64 (v:Int)] rfl (sl_lit _ _ _ 1 1 _ (by first|rfl|simp) (by first|rfl|simp) (by simp[maxLen])) (fun u hu=>by obtain rfl:=List.mem_singleton.1 hu;rfl) (by omega) ?_;intro q7 c7 w6 M6)
               have M7:=Lib.hid (show Mem w w6 [ownI w.heap.size TI 1 (q7) (l2+1) (c7) (ivs (natI (Q2++ [v]))),ownI w.heap.size TI 1 (some ⟨w.heap.size+1,0,none⟩) (49152) (49152) (ivs (D2.set v (du+1))),nestI w.heap.size TSS TI 1 (some ⟨gB,0,none⟩) cB rows,blkI w.heap.size (w.heap.size) TH3 #[.int .i64 wide,.int .i64 deep,.slice p n cap]]from by rw[←ivs_set,natI,List.map_append,ivs,List.map_append];exact M6)
               clear M6 HE cl ck cd cf
               go_wp2
               go_roundw
               case rel=>exact⟨j+1,q7,l2+1,c7,D2.set v (du+1),Q2++ [v],by omega,by go_num,rfl,by rw[List.length_append,←HL2.out];rfl,by rw[←hrel2.out,←HSU.out,←HDU2.out],fun x hx=>by
                rcases List.mem_or_eq_of_mem_set hx with h|h
                ·exact HBD2.out x h
                ·omega,M7.out⟩
               case measure=>simp[intOf];omega
              ·have t4:decide (dv<0)=false:=by simp[hd0]
               have hrel2:Hid ((D2,Q2)=expand (D.getD u 0+1) (D,Q) (partH wide n MM u h++partJ wide n MM u h (j+1))):=by
                show _=_
                rw[hfin.out,←List.append_assoc,expand_snoc,←HEQ.out,relax_no (by rw[HDVM.out];exact hd0)]
               clear hd0
               go_wp2
               go_roundw
               case rel=>exact⟨j+1,q,l2,lc,D2,Q2,by omega,by go_num,rfl,HL2.out,hrel2.out,HBD2.out,HE.out⟩
               case measure=>simp[intOf];omega
             ·have t3:((f:Int)==(C:Int))=false:=by simp;omega
              have hvI:(C:Int)*4096+(S:Int)-(Ph:Int)+(Pf:Int)=(v:Int):=by
               have:=HVV.out;unfold carAt at this;rw[if_neg hcar]at this;omega
              have HVI:=Lib.hid hvI
              clear hvI hcar
              go_wp2
              have hm1:IntKind.i64.wrap ((C:Int)*4096)=(C:Int)*4096:=IntWalk.i64_in _ (by omega)
              have hm2:IntKind.i64.wrap ((C:Int)*4096+(S:Int))=(C:Int)*4096+(S:Int):=IntWalk.i64_in _ (by omega)
              have hm3:IntKind.i64.wrap ((C:Int)*4096+(S:Int)-(Ph:Int))=(C:Int)*4096+(S:Int)-(Ph:Int):=IntWalk.i64_in _ (by omega)
              have hm4:IntKind.i64.wrap ((C:Int)*4096+(S:Int)-(Ph:Int)+(Pf:Int))=(v:Int):=(IntWalk.i64_in _ (by omega)).trans HVI.out
              go_quiet (fail)
              generalize hwi:World.drewN wr _=wi
              have hX:Ext wr wi:=by rw[←hwi];exact Ext.drewN (Ext.refl _) _
              clear hwi hm1 hm2 hm3 hm4
              have MI:=Lib.hid (HM.out.adv hX)
              have HE:=Lib.hid (show Mem w wi [ownI w.heap.size TI 1 (q) (l2) (lc) (ivs (natI Q2)),ownI w.heap.size TI 1 (some ⟨w.heap.size+1,0,none⟩) (49152) (49152) (ivs D2),nestI w.heap.size TSS TI 1 (some ⟨gB,0,none⟩) cB rows,blkI w.heap.size (w.heap.size) TH3 #[.int .i64 wide,.int .i64 deep,.slice p n cap]]from MI.out)
              clear hX HM MI cb cj
              have cl:wi.cell? ⟨w.heap.size+1,v,none⟩=some (.int .i64 dv):=by have:=(HE.out.own (i:=1) rfl).cellAt v (by omega);rw[this];simp[ivs,HDV.out]
              by_cases hd0:dv<0
              ·have t4:decide (dv<0)=true:=by simp[hd0]
               have hrel2:Hid ((D2.set v (D.getD u 0+1),Q2++ [v])=expand (D.getD u 0+1) (D,Q) (partH wide n MM u h++partJ wide n MM u h (j+1))):=by
                show _=_
                rw[hfin.out,←List.append_assoc,expand_snoc,←HEQ.out,relax_yes (by rw[HDVM.out];exact hd0)]
               obtain⟨du,hdu⟩: ∃du,du=D2.getD u 0:=⟨_,rfl⟩
               have HDU2:=Lib.hid hdu
               have du1: -1≤du:=by omega
               have du2:du≤(k:Int):=by omega
               have hw12:IntKind.i64.wrap (du+1)=du+1:=IntWalk.i64_in _ (by omega)
               obtain⟨gl,rfl,hgl1,hgl2⟩:=HE.out.some (i:=0) rfl (by omega)
               have n0:(0:Int)≤(u:Int):=by omega
               have n1:(u:Int)<49152:=by omega
               have n2:(k:Int)<(l2:Int):=by omega
               have ck:wi.cell? ⟨gl,k,none⟩=some (.int .i64 (u:Int)):=by have:=(HE.out.own (i:=0) rfl).cellAt k (by omega);rw[this];simp[ivs,natI,HQK.out]
               have cd:wi.cell? ⟨w.heap.size+1,u,none⟩=some (.int .i64 du):=by have:=(HE.out.own (i:=1) rfl).cellAt u (by omega);rw[this,HDU2.out];simp only[ivs,List.getElem?_map,HDU.out,Option.map_some]
               have cf:wi.frozen? ⟨w.heap.size+1,v,none⟩=false:=(HE.out.own (i:=1) rfl).frozenAt v
               clear hdu hd0
               go_wp2_with (at_builtin;refine wpList_appM elInt rfl _ _ rfl ((HE.out.ostore (i:=1) rfl v (.int .i64 (du+1))).adv ((Ext.refl _).alloc (.cells #[.int .i64 (v:Int)] TI))) 0 rfl rfl [.int .i64 (v:Int)] rfl (sl_lit _ _ _ 1 1 _ (by first|rfl|simp) (by first|rfl|simp) (by simp[maxLen])) (fun u hu=>by obtain rfl:=List.mem_singleton.1 hu;rfl) (by omega) ?_;intro q7 c7 w6 M6)
               have M7:=Lib.hid (show Mem w w6 [ownI w.heap.size TI 1 (q7) (l2+1) (c7) (ivs (natI (Q2++ [v]))),ownI w.heap.size TI 1 (some ⟨w.heap.size+1,0,none⟩) (49152) (49152) (ivs (D2.set v (du+1))),nestI w.heap.size TSS TI 1 (some ⟨gB,0,none⟩) cB rows,blkI w.heap.size (w.heap.size) TH3 #[.int .i64 wide,.int .i64 deep,.slice p n cap]]from by rw[←ivs_set,natI,List.map_append,ivs,List.map_append];exact M6)
               clear M6 HE cl ck cd cf
               go_wp2
               go_roundw
               case rel=>exact⟨j+1,q7,l2+1,c7,D2.set v (du+1),Q2++ [v],by omega,by go_num,rfl,by rw[List.length_append,←HL2.out];rfl,by rw[←hrel2.out,←HSU.out,←HDU2.out],fun x hx=>by
                rcases List.mem_or_eq_of_mem_set hx with h|h
                ·exact HBD2.out x h
                ·omega,M7.out⟩
               case measure=>simp[intOf];omega
              ·have t4:decide (dv<0)=false:=by simp[hd0]
               have hrel2:Hid ((D2,Q2)=expand (D.getD u 0+1) (D,Q) (partH wide n MM u h++partJ wide n MM u h (j+1))):=by
                show _=_
                rw[hfin.out,←List.append_assoc,expand_snoc,←HEQ.out,relax_no (by rw[HDVM.out];exact hd0)]
               clear hd0
               go_wp2
               go_roundw
               case rel=>exact⟨j+1,q,l2,lc,D2,Q2,by omega,by go_num,rfl,HL2.out,hrel2.out,HBD2.out,HE.out⟩
               case measure=>simp[intOf];omega
           ·have hfin:Hid (partH wide n MM u h++partJ wide n MM u h j=partH wide n MM u (h+1)):=by
             show _=_
             rw[partH_succ,fB_yes hbU.out,←HNB.out,show j=nb.length by omega]
            rw[hfin.out]at HEQ
            obtain rfl:nb.length=j:=by omega
            go_wp2
            go_roundw
            case rel=>exact⟨h+1,q,l2,lc,D2,Q2,by omega,by go_num,rfl,HL2.out,HEQ.out,HBD2.out,HM.out⟩
            case measure=>simp[intOf];omega
        ·obtain rfl:n=h:=by omega
         have hI:=HI.out.step HU.out (fun v hv=>adjB_bd hn u v hun hv)
         have he:=HEQ.out
         obtain⟨r,hr⟩:=(mid_part HI.out HU.out (fun v hv=>adjB_bd hn u v hun hv) (partH_adj (Nat.le_refl _)) he).pre
         dsimp only at hr
         have hkl3:k+1≤l2:=by rw[HL2.out,hr,List.length_append];have:=HL.out;omega
         clear hr
         rw[partH_all]at he
         rw[←he]at hI
         have HI2:=Lib.hid hI
         clear hI he
         go_wp2
         go_roundw
         case rel=>exact⟨k+1,q,l2,lc,D2,Q2,hkl3,by go_num,rfl,HL2.out,fun x hx=>by have:=HBD2.out x hx;omega,HI2.out,HM.out⟩
         case measure=>simp[intOf];omega
      ·have hdist:=Lib.hid (HI.out.dist (by have:=HL.out;dsimp only;omega))
       go_wp2
       go_ret
       refine⟨D,hdist.out,ret_ints hdist.out.len (HM.out.own (i:=1) rfl) HM.out.ext⟩
end Go.Proofs.YteejdnmmpmcmeaaGreatDoor

namespace Go.Proofs.YteejdnmmpmcmeaaGreatDoor
open Go.RowKit
set_option linter.unusedVariables false
set_option linter.unusedSimpArgs false
theorem l2Left_any (wide deep:Int)(p:Option Addr)(n cap:Nat)(xs:List Int)(w:World)(hS:Sl w p n cap 1 (ivs xs))(hok:hallOk wide deep xs=true):
  Calls Tryz.prog 216 #[hallV wide deep p n cap] w fun e w'=> ∃D,DistB wide n (freeN xs).length D∧RetInts D w e w':=by
 have hl:=hS.ilen
 obtain⟨g1,g2,g3,g4,g5,g6,g7⟩:=shape_bd (hall_shape hok)
 have hp:(2:Nat) ^ n≤2 ^ 12:=Nat.pow_le_pow_right (by omega) (by omega)
 have hp2:(2:Nat) ^ 12=4096:=by decide
 have hpe:(2:Nat) ^ n%2=0:=by obtain⟨m,hm⟩: ∃m,n=m+1:=⟨n-1,by omega⟩;rw[hm,Nat.pow_succ];omega
 refine specLeft_o wide deep p n cap (freeN xs).length (2 ^ n) w (by omega) (by omega) rfl (by omega) hpe (fun w' hx=> ?_) (fun m w' hm=>l2Bits_any m w' (by omega)) (fun w' hx=>l2Beside_any wide deep p n cap xs w' (hS.ext hx) hok)
 exact(hallFree_any wide deep p n cap xs w' (hS.ext hx) hok).mono fun e w'' ⟨q,c,h1,_,h3⟩=>⟨q,c,h1,h3⟩
structure WayAt (wide deep:Int) (xs:List Int) (D:List Int) (c:Nat) (id:Int) (j:Nat) (ys:List Int):Prop where
 ok:hallOk wide deep ys=true
 len:ys.length=xs.length
 free:freeSet ys=(gP wide xs.length (ddOf D) (c,freeSet xs) j).2
 at_:ys[(gP wide xs.length (ddOf D) (c,freeSet xs) j).1]? =some id
theorem find_hall {wide deep:Int}{ys:List Int}{c:Nat}{id:Int}(hok:hallOk wide deep ys=true)(hi:1≤id)(hc:ys[c]? =some id):hallFind wide deep ys id=(c:Int):=by
 unfold hallFind
 rw[if_pos ⟨hok,hi⟩]
 refine idxI_at hc (fun hm=> ?_)
 unfold hallOk at hok
 rw[Bool.and_eq_true]at hok
 obtain⟨h1,h2,h3⟩:=(cellsOk_iff _ _).1 hok.2
 obtain⟨hcl,hce⟩:=List.getElem?_eq_some_iff.1 hc
 have e1:ys=ys.take c++ys.drop c:=(List.take_append_drop c ys).symm
 have hd:id∈ys.drop c:=by rw[drop_cons hc];simp
 rw[e1,List.filter_append,List.nodup_append]at h3
 exact h3.2.2 id (List.mem_filter.2 ⟨hm,by simp;omega⟩) id (List.mem_filter.2 ⟨hd,by simp;omega⟩) rfl
theorem way_next {wide deep:Int}{xs:List Int}{D:List Int}{c:Nat}{id:Int}(h:hallOk wide deep xs=true)(hc:xs[c]? =some id) (h0:id≠0) (hD:DistB wide xs.length (freeN xs).length D) {d:Nat} (hd:ddOf D c (freeSet xs)=d) {j:Nat} (hj:j<d) {ys:List Int} (hw:WayAt wide deep xs D c id j ys):
  ∃(J:Nat) (es:List (Nat×Nat)),es=edgesS wide xs.length (freeSet ys)∧slidesAll wide deep ys=es.map castE∧J<es.length∧es[J]? =some (edgeP wide xs.length (ddOf D) (c,freeSet xs) j)∧
   (∀i e,i≤J→es[i]? =some e→e∈edgesS wide xs.length (freeSet ys)∧(ddOf D (carAt (gP wide xs.length (ddOf D) (c,freeSet xs) j).1 e.1 e.2) (moveS (freeSet ys) e.1 e.2)=(d:Int)-j-1↔i=J))∧
   ∀e,es[J]? =some e→WayAt wide deep xs D c id (j+1) (slideDo wide deep ys (e.1:Int) (e.2:Int)):=by
 obtain⟨b1,b2,b3,b4,b5,b6,b7⟩:=shape_bd (hall_shape h)
 have hp:=hall_pt hc h0
 obtain⟨e1,e2,e3⟩:=edgeP_facts b5 b6 hD hp hd hj
 obtain⟨g1,g2⟩:=gP_facts b5 b6 hD hp hd j (by omega)
 have hsl:=slides_edges hw.ok
 rw[hw.len]at hsl
 have hmem:edgeP wide xs.length (ddOf D) (c,freeSet xs) j∈edgesS wide xs.length (freeSet ys):=by rw[hw.free];exact e2
 have e1':(edgesS wide xs.length (freeSet ys)).find? (fun e=>decide (ddOf D (carAt (gP wide xs.length (ddOf D) (c,freeSet xs) j).1 e.1 e.2) (moveS (freeSet ys) e.1 e.2)=(d:Int)-j-1))=some (edgeP wide xs.length (ddOf D) (c,freeSet xs) j):=by
  have:=e1
  unfold pickE at this
  rw[←hw.free,←g2]at*
  rw[hw.free]at*
  exact this
 have hpe:=List.find?_some e1'
 obtain⟨J,hJ1,hJ2,hJ3,hJ4⟩:=find_at (p:=fun e:Nat×Nat=>decide (ddOf D (carAt (gP wide xs.length (ddOf D) (c,freeSet xs) j).1 e.1 e.2) (moveS (freeSet ys) e.1 e.2)=(d:Int)-j-1)) (d:=(0,0)) hmem hpe
 rw[e1']at hJ2 hJ3
 simp only[Option.getD_some]at hJ2 hJ3
 refine⟨J,_,rfl,hsl,hJ1,hJ2,fun i e hi he=>⟨List.mem_of_getElem? he,?_⟩,fun e he=> ?_⟩
 ·constructor
  ·intro hh
   rcases Nat.lt_or_ge i J with hlt|hge
   ·have:=hJ4 i e hlt he
    simp only[decide_eq_false_iff_not]at this
    exact absurd hh this
   ·exact Nat.le_antisymm hi hge
  ·intro hiJ
   have he2:some (edgeP wide xs.length (ddOf D) (c,freeSet xs) j)=some e:=by rw[←hJ2,←hiJ];exact he
   have he3:=Option.some.inj he2
   rw[←he3]
   exact of_decide_eq_true hJ3
 ·rw[hJ2]at he
  injection he with he
  subst he
  have hm2:edgeP wide xs.length (ddOf D) (c,freeSet xs) j∈edgesS wide ys.length (freeSet ys):=by rw[hw.len];exact hmem
  obtain⟨m1,m2,m3,m4⟩:=edge_hall hw.ok (f:=(edgeP wide xs.length (ddOf D) (c,freeSet xs) j).1) (t:=(edgeP wide xs.length (ddOf D) (c,freeSet xs) j).2) hm2
  refine⟨slideDo_ok _ _ hw.ok,by rw[slideDo_len,hw.len],?_,?_⟩
  ·rw[m3,e3,hw.free];rfl
  ·rw[e3];exact m4 _ _ hw.at_ h0
end Go.Proofs.YteejdnmmpmcmeaaGreatDoor

