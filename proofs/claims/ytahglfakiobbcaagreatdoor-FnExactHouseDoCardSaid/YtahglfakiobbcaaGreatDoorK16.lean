/-
  Texts of this proof, packed (@packed).
-/
import Derived.Deep.OwnRows
import Derived.Test.YtahglfakiobbcaaGreatDoorK15
namespace Go.Proofs.YtahglfakiobbcaaGreatDoor
open Go.RowKit
set_option linter.unusedVariables false
set_option linter.unusedSimpArgs false
theorem kC (n:Nat):(madeCells #[Value.int .i64 0] n).toList=ivs (List.replicate n 0)∧(madeCells #[Value.int .i64 0] n).size=n:=by
 constructor
 ·apply List.ext_getElem<;>simp[madeCells,Nat.mod_one]
 ·simp[madeCells]
theorem aFb (N:Nat)(src:List Nat): ∀x∈fJ N src,-1≤x∧x≤((0:Nat):Int):=by
 unfold fJ
 suffices h: ∀(l:List Nat) (A:List Int),(∀x∈A,-1≤x∧x≤((0:Nat):Int))→ ∀x∈l.foldl (fun A v=>A.set v 0) A,-1≤x∧x≤((0:Nat):Int)from h src _ (fun x hx=>by rw[List.mem_replicate]at hx;omega)
 intro l
 induction l with
 |nil=>intro A h;exact h
 |cons v l ih=>
  intro A h
  exact ih (A.set v 0) (fun x hx=>by
   rcases List.mem_or_eq_of_mem_set hx with h1|h1
   ·exact h x h1
   ·omega)
set_option maxRecDepth 100000 in
set_option maxHeartbeats 16000000 in
theorem xZ (aA aB:Int)(p:Option Addr)(n cap F P:Nat)(w:World)(hn0:4≤n)(hn:n≤12)(hP:Hid (P=2 ^ n))(hP12:P≤4096)(hPe:P%2=0)
  (HF:Hid (∀w',Ext w w'→Calls Tryz.prog 123 #[aK aA aB p n cap] w' fun e w''=> ∃q c,e= .returned (.slice q F c)∧Ext w' w''))
  (HBI:Hid (∀(m:Nat) w',m≤4096→Calls Tryz.prog 127 #[.int .i64 (m:Int)] w' fun e w''=>e= .returned (.int .i64 (eQ m:Int))∧w'=w''))
  (HN:Hid (∀w',Ext w w'→Calls Tryz.prog 128 #[aK aA aB p n cap] w' (uL aA n w'))):
  Calls Tryz.prog 102 #[aK aA aB p n cap] w fun e w'=> ∃D,dS aA n F D∧bB D w e w':=by
 obtain⟨AR,hAR⟩: ∃AR:Array Value,AR=madeCells #[.int .i64 0] 49152:=⟨_,rfl⟩
 have hmk: ∀w:World,(Instr.makeSlice 22 (.int .i64 49152) (.int .i64 49152)).run Tryz.prog w= .ok (.slice (some ⟨w.heap.size,0,none⟩) 49152 49152) (w.alloc (.cells AR TI)):=fun w=>by
  rw[hAR]
  exact run_make_row' _ _ (.int .i64 0) 8 Tryz.underlying22 (by kernel_rfl) rfl .i64 .i64 49152 (by omega) (by omega) w
 have hA1:Hid (AR.toList=ivs (iE 0)):=by
  show _=_
  rw[hAR,(kC 49152).1];rfl
 have hA2:Hid (AR.size=49152):=by show _=_;rw[hAR];exact(kC 49152).2
 clear hAR
 go_enter Tryz.func102,Tryz.ntmps102
 go_wp2
 have ME:=xQ (show Mem w ((w.alloc (.cells #[.int .i64 aA,.int .i64 aB,.slice p n cap] TH3)).alloc (.cells AR TI)) [aJ w.heap.size TI 1 (some ⟨w.heap.size+1,0,none⟩) (49152) (49152) (ivs (iE 0)),aF w.heap.size (w.heap.size) TH3 #[.int .i64 aA,.int .i64 aB,.slice p n cap]]from by rw[←hA1.out];exact((Mem.start w).blkNew TH3 #[.int .i64 aA,.int .i64 aB,.slice p n cap] w.heap.size rfl).lit TI 1 49152 _ AR (by simp) (by rw[hA2.out]) (by simp[maxLen]))
 clear hA1 hA2 hmk
 go_loopw [4] (fun i wr=> ∃(k:Nat),k≤49152∧i= .int .i64 (k:Int)∧Mem w wr [aJ w.heap.size TI 1 (some ⟨w.heap.size+1,0,none⟩) (49152) (49152) (ivs (iE k)),aF w.heap.size (w.heap.size) TH3 #[.int .i64 aA,.int .i64 aB,.slice p n cap]]) (fun i _=>49152-(intOf i).toNat)
 case atStart=>exact⟨0,Nat.zero_le _,rfl,ME.out⟩
 case round=>
  clear ME
  obtain⟨k,hk,rfl,hM⟩:=hrel
  have HM:=xQ hM
  clear hM
  have lt0:=(HM.out.lt (i:=1) rfl rfl).2
  by_cases hlt:k<49152
  ·have i1:(0:Int)≤(k:Int):=by omega
   have i2:(k:Int)<49152:=by omega
   have cl:wr.cell? ⟨w.heap.size+1,k,none⟩=some (.int .i64 0):=by have:=(HM.out.own (i:=0) rfl).cellAt k (by omega);rw[this];simp[ivs,zB hlt]
   have cf:wr.frozen? ⟨w.heap.size+1,k,none⟩=false:=(HM.out.own (i:=0) rfl).frozenAt k
   have M2:=xQ (show Mem w (wr.setCell ⟨w.heap.size+1,k,none⟩ (.int .i64 (-1))) [aJ w.heap.size TI 1 (some ⟨w.heap.size+1,0,none⟩) (49152) (49152) (ivs (iE (k+1))),aF w.heap.size (w.heap.size) TH3 #[.int .i64 aA,.int .i64 aB,.slice p n cap]]from by rw[←zA hlt,←cZ];exact HM.out.ostore (i:=0) rfl k (.int .i64 (-1)))
   clear HM
   go_wp2
   go_roundw
   case rel=>exact⟨k+1,by omega,by go_num,M2.out⟩
   case measure=>simp[intOf];omega
  ·obtain rfl:k=49152:=by omega
   have M1:=xQ (show Mem w wr [aJ w.heap.size TI 1 (some ⟨w.heap.size+1,0,none⟩) (49152) (49152) (ivs (fJ NN (dQ F 0))),aF w.heap.size (w.heap.size) TH3 #[.int .i64 aA,.int .i64 aB,.slice p n cap]]from by have:=HM.out;rwa[show iE 49152=fJ NN (dQ F 0)from zC F]at this)
   clear HM hlt hk
   have M2:=xQ (show Mem w (wr.alloc (.cells #[] TI)) [aJ w.heap.size TI 1 (some ⟨wr.heap.size,0,none⟩) (0) (0) ([]),aJ w.heap.size TI 1 (some ⟨w.heap.size+1,0,none⟩) (49152) (49152) (ivs (fJ NN (dQ F 0))),aF w.heap.size (w.heap.size) TH3 #[.int .i64 aA,.int .i64 aB,.slice p n cap]]from(M1.out.made0 TI 1 wr.heap.size rfl))
   clear M1
   have c0:(wr.alloc (.cells #[] TI)).cell? ⟨w.heap.size,0,none⟩=some (.int .i64 aA):=((M2.out).blk (i:=2) rfl).cell 0
   have c1:(wr.alloc (.cells #[] TI)).cell? ⟨w.heap.size,1,none⟩=some (.int .i64 aB):=((M2.out).blk (i:=2) rfl).cell 1
   have c2:(wr.alloc (.cells #[] TI)).cell? ⟨w.heap.size,2,none⟩=some (.slice p n cap):=((M2.out).blk (i:=2) rfl).cell 2
   go_wp2_with fail
   clear c0 c1 c2
   refine(HF.out _ M2.out.ext).mono ?_
   rintro e w3 ⟨q3,c3,rfl,hx3⟩
   have M3:=xQ (M2.out.adv hx3)
   clear M2 hx3 lt0
   have hp1:(2:Int) ^ n=(P:Int):=by rw[hP.out];simp
   have hw1:IntKind.i64.wrap (P:Int)=(P:Int):=IntWalk.i64_in _ (by omega)
   have ltw:=(M3.out.lt (i:=2) rfl rfl).2
   go_wp2
   go_loopw [5,7] (fun v i wx=> ∃(m:Nat) (q:Option Addr) (l lc:Nat),m≤P∧m%2=0∧i= .int .i64 (m:Int)∧v= .slice q l lc∧l=(dQ F m).length∧Mem w wx [aJ w.heap.size TI 1 (q) (l) (lc) (ivs (aY (dQ F m))),aJ w.heap.size TI 1 (some ⟨w.heap.size+1,0,none⟩) (49152) (49152) (ivs (fJ NN (dQ F m))),aF w.heap.size (w.heap.size) TH3 #[.int .i64 aA,.int .i64 aB,.slice p n cap]]) (fun _ i _=>P-(intOf i).toNat)
   case atStart=>exact⟨0,some ⟨wr.heap.size,0,none⟩,0,0,Nat.zero_le _,rfl,rfl,rfl,rfl,M3.out⟩
   case round=>
    clear M3 ltw
    obtain⟨m,q,l,lc,hm,hm2,rfl,rfl,hl,hM⟩:=hrel
    have HM:=xQ hM
    have HL:=xQ hl
    have hlm:l≤4096:=by have:=uT F m;omega
    clear hM hl
    obtain⟨c0,c1,c2⟩:=(((HM.out).blk (i:=2) rfl)).tri
    have lt0:=(HM.out.lt (i:=2) rfl rfl).2
    by_cases hlt:m<P
    ·have t0:decide ((m:Int)<(P:Int))=true:=by simp[hlt]
     go_wp2_with fail
     refine(HBI.out m _ (by omega)).mono ?_
     rintro e wx ⟨rfl,rfl⟩
     have h2:=uS (many:=F) hm2
     by_cases hp:eQ m=F
     ·have t1:((eQ m:Int)==(F:Int))=true:=by simp[hp]
      rw[if_pos hp]at h2
      have H2:=xQ h2
      have HL2:=xQ (show l+1=(dQ F (m+2)).length by rw[h2,List.length_append,←HL.out];rfl)
      clear h2 hp
      have hmN:m<49152:=by omega
      have i1:(0:Int)≤(m:Int):=by omega
      have i2:(m:Int)<49152:=by omega
      obtain⟨x0,hx0⟩: ∃x0,(fJ NN (dQ F m))[m]? =some x0:=⟨_,List.getElem?_eq_getElem (by rw[rX];exact hmN)⟩
      have cl:wr.cell? ⟨w.heap.size+1,m,none⟩=some (.int .i64 x0):=by have:=(HM.out.own (i:=1) rfl).cellAt m (by omega);rw[this];simp[ivs,hx0]
      have cf:wr.frozen? ⟨w.heap.size+1,m,none⟩=false:=(HM.out.own (i:=1) rfl).frozenAt m
      clear hx0
      go_wp2_with (at_builtin;refine cJ eT rfl _ _ rfl ((HM.out.ostore (i:=1) rfl m (.int .i64 0)).adv ((Ext.refl _).alloc (.cells #[.int .i64 (m:Int)] TI))) 0 rfl rfl [.int .i64 (m:Int)] rfl (eA _ _ _ 1 1 _ (by first|rfl|simp) (by first|rfl|simp) (by simp[maxLen])) (fun u hu=>by obtain rfl:=List.mem_singleton.1 hu;rfl) (by omega) ?_;intro q7 c7 w6 M6)
      have M7:=xQ (show Mem w w6 [aJ w.heap.size TI 1 (q7) (l+1) (c7) (ivs (aY (dQ F (m+2)))),aJ w.heap.size TI 1 (some ⟨w.heap.size+1,0,none⟩) (49152) (49152) (ivs (fJ NN (dQ F (m+2)))),aF w.heap.size (w.heap.size) TH3 #[.int .i64 aA,.int .i64 aB,.slice p n cap]]from by rw[H2.out,yN,←cZ,aY,List.map_append,ivs,List.map_append];exact M6)
      clear M6 HM cl cf c0 c1 c2
      go_wp2
      go_roundw
      case rel=>exact⟨m+2,q7,l+1,c7,by omega,by omega,by go_num,rfl,HL2.out,M7.out⟩
      case measure=>simp[intOf];omega
     ·have t1:((eQ m:Int)==(F:Int))=false:=by simp;omega
      rw[if_neg hp,List.append_nil]at h2
      have H2:=xQ h2
      clear h2
      go_wp2
      go_roundw
      case rel=>exact⟨m+2,q,l,lc,by omega,by omega,by go_num,rfl,by rw[H2.out];exact HL.out,by rw[H2.out];exact HM.out⟩
      case measure=>simp[intOf];omega
    ·obtain rfl:m=P:=by omega
     have hsrc:dQ F m=pQ n F:=by rw[hP.out];rfl
     rw[hsrc]at HL HM
     have hnn:n≤12:=hn
     have hI:=Inv.begin (adj:=qZ aA n MM) (src:=pQ n F) (N:=NN) (aAc hnn) pP
     have HI0:=xQ hI
     clear hI hsrc hlt
     go_wp2_with fail
     clear c0 c1 c2
     refine(HN.out _ HM.out.ext).mono ?_
     rintro e w4 ⟨qB,cB,rows,rfl,hrows,hnest,hx4⟩
     obtain⟨gB,rfl,hgB1,hgB2⟩:=dN hnest.1 (by rw[hrows.1];omega)
     have M4:=xQ (HM.out.nestNew hx4 hnest (Nat.le_refl _))
     have HR:=xQ hrows
     clear hnest hx4 hrows HM
     go_wp2
     go_loopw [5,9] (fun v i wx=> ∃(k:Nat) (q:Option Addr) (l lc:Nat) (D:List Int) (Q:List Nat),k≤l∧i= .int .i64 (k:Int)∧v= .slice q l lc∧l=Q.length∧(∀x∈D,-1≤x∧x≤(k:Int))∧Inv (qZ aA n MM) (pQ n F) NN k (D,Q)∧Mem w wx [aJ w.heap.size TI 1 (q) (l) (lc) (ivs (aY Q)),aJ w.heap.size TI 1 (some ⟨w.heap.size+1,0,none⟩) (49152) (49152) (ivs D),lQ w.heap.size TSS TI 1 (some ⟨gB,0,none⟩) cB rows,aF w.heap.size (w.heap.size) TH3 #[.int .i64 aA,.int .i64 aB,.slice p n cap]]) (fun _ i _=>49152-(intOf i).toNat)
     case atStart=>exact⟨0,q,l,lc,_,pQ n F,Nat.zero_le _,rfl,rfl,HL.out,aFb _ _,HI0.out,M4.out.pick [1,2,0,3] (by decide) rfl⟩
     case round=>
      clear M4 HI0 HL
      obtain⟨k,q,l,lc,D,Q,hk,rfl,rfl,hl,hbd,hinv,hM⟩:=hrel
      have HM:=xQ hM
      have HL:=xQ hl
      have HBD:=xQ hbd
      have HI:=xQ hinv
      have hlN:l≤49152:=by have:=hinv.qlen;rw[hl];exact this
      clear hM hl hbd hinv
      by_cases hlt:k<l
      ·obtain⟨gL,rfl,hg1,hg2⟩:=HM.out.some (i:=0) rfl (by omega)
       obtain⟨u,hu⟩: ∃u,Q[k]? =some u:=⟨_,List.getElem?_eq_getElem (by rw[←HL.out];exact hlt)⟩
       have hun:u<49152:=HI.out.bd u (List.mem_of_getElem? hu)
       obtain⟨C,hC⟩: ∃C,C=u/4096:=⟨_,rfl⟩
       obtain⟨S,hS⟩: ∃S,S=u%4096:=⟨_,rfl⟩
       have hC12:C<12:=by omega
       have hS12:S<4096:=by omega
       have HU:=xQ hu
       have HC:=xQ hC
       have HS:=xQ hS
       have i1:(0:Int)≤(k:Int):=by omega
       have i2:(k:Int)<(l:Int):=by omega
       have d1:(u:Int)/4096=(C:Int):=by omega
       have d2:(u:Int)%4096=(S:Int):=by omega
       have cu:wr.cell? ⟨gL,k,none⟩=some (.int .i64 (u:Int)):=by have:=(HM.out.own (i:=0) rfl).cellAt k (by omega);rw[this];simp[ivs,aY,hu]
       have lt0:=(HM.out.lt (i:=3) rfl rfl).2
       clear hu hC hS
       go_wp2
       rw[d2]
       clear cu d1 d2
       go_loopw [5,12] (fun v i wx=> ∃(h:Nat) (q:Option Addr) (l2 lc:Nat) (D2:List Int) (Q2:List Nat),h≤n∧i= .int .i64 (h:Int)∧v= .slice q l2 lc∧l2=Q2.length∧(D2,Q2)=bF (D.getD u 0+1) (D,Q) (fR aA n MM u h)∧(∀x∈D2,-1≤x∧x≤(k:Int)+1)∧Mem w wx [aJ w.heap.size TI 1 (q) (l2) (lc) (ivs (aY Q2)),aJ w.heap.size TI 1 (some ⟨w.heap.size+1,0,none⟩) (49152) (49152) (ivs D2),lQ w.heap.size TSS TI 1 (some ⟨gB,0,none⟩) cB rows,aF w.heap.size (w.heap.size) TH3 #[.int .i64 aA,.int .i64 aB,.slice p n cap]]) (fun _ i _=>n-(intOf i).toNat)
       case atStart=>exact⟨0,_,l,lc,D,Q,Nat.zero_le _,rfl,rfl,HL.out,rfl,fun x hx=>by have:=HBD.out x hx;omega,HM.out⟩
       case round=>
        clear HM lt0
        obtain⟨h,q,l2,lc,D2,Q2,hh,rfl,rfl,hl2,heq,hbd2,hM⟩:=hrel
        have HM:=xQ hM
        have HL2:=xQ hl2
        have HEQ:=xQ heq
        have HBD2:=xQ hbd2
        clear hM hl2 heq hbd2
        obtain⟨c0,c1,c2⟩:=(((HM.out).blk (i:=3) rfl)).tri
        have lt0:=(HM.out.lt (i:=3) rfl rfl).2
        by_cases hlth:h<n
        ·have t0:decide ((h:Int)<(n:Int))=true:=by simp[hlth]
         obtain⟨Ph,hPh⟩: ∃Ph:Nat,Ph=2 ^ h:=⟨_,rfl⟩
         have hPhb:Ph≤2048:=by rw[hPh];exact Nat.le_trans (Nat.pow_le_pow_right (by omega) (show h≤11 by omega)) (by decide)
         have hsh:(2:Int) ^ h=(Ph:Int):=by rw[hPh];simp
         have hwh:IntKind.i64.wrap (Ph:Int)=(Ph:Int):=IntWalk.i64_in _ (by omega)
         obtain⟨A,hA⟩: ∃A:Nat,A=S/Ph:=⟨_,rfl⟩
         have hshr:(S:Int)/(Ph:Int)=(A:Int):=by rw[hA];simp
         have hbit:S.testBit h=decide (A%2=1):=by rw[hA,hPh];exact aAr S h
         have HPH:=xQ hPh
         have HBIT:=xQ hbit
         obtain⟨rw_,hrw⟩: ∃r,rows[h]? =some r:=⟨_,List.getElem?_eq_getElem (by rw[HR.out.1];exact hlth)⟩
         obtain⟨qi,ni,ci,xi⟩:=rw_
         obtain⟨hni,hxi⟩:=HR.out.2 h _ hrw
         dsimp only at hni hxi
         subst hni hxi
         have HRW:=xQ hrw
         have rl:=HR.out.1
         have RL:=xQ rl
         clear hPh hbit hA hrw
         obtain⟨nb,hnb⟩: ∃nb,nb=aR aA n h:=⟨_,rfl⟩
         rw[←hnb]at HRW
         have HNB:=xQ hnb
         have hnb12:nb.length≤12:=by rw[hnb];exact Nat.le_trans (List.length_filter_le _ _) (by simp;omega)
         clear hnb rl
         have k1:(0:Int)≤(h:Int):=by omega
         have k2:(h:Int)<(n:Int):=by omega
         go_wp2
         clear c0 c1 c2
         cases hb:S.testBit h with
         |false=>
          have t1:(A:Int)%2=0:=by have:=HBIT.out;rw[hb]at this;simp at this;omega
          have hfin:=xQ (show fR aA n MM u (h+1)=fR aA n MM u h by rw[qC,aGt (by rw[←show S=u%MM from HS.out];exact hb),List.append_nil])
          clear hb
          go_loopw [5,13] (fun v i wx=>i= .int .i64 0∧v= .slice q l2 lc∧wr=wx) (fun _ _ _=>0)
          case atStart=>exact⟨rfl,rfl,rfl⟩
          case round=>
           obtain⟨rfl,rfl,rfl⟩:=hrel
           go_wp2
           go_roundw
           case rel=>exact⟨h+1,q,l2,lc,D2,Q2,by omega,by go_num,rfl,HL2.out,by rw[hfin.out];exact HEQ.out,HBD2.out,HM.out⟩
           case measure=>simp[intOf];omega
         |true=>
          have t1:(A:Int)%2=1:=by have:=HBIT.out;rw[hb]at this;simp at this;omega
          have hbU:=xQ (show(u%MM).testBit h=true by rw[←show S=u%MM from HS.out];exact hb)
          clear hb
          go_loopw [5,13] (fun v i wx=> ∃(j:Nat) (q:Option Addr) (l2 lc:Nat) (D2:List Int) (Q2:List Nat),j≤nb.length∧i= .int .i64 (j:Int)∧v= .slice q l2 lc∧l2=Q2.length∧(D2,Q2)=bF (D.getD u 0+1) (D,Q) (fR aA n MM u h++gK aA n MM u h j)∧(∀x∈D2,-1≤x∧x≤(k:Int)+1)∧Mem w wx [aJ w.heap.size TI 1 (q) (l2) (lc) (ivs (aY Q2)),aJ w.heap.size TI 1 (some ⟨w.heap.size+1,0,none⟩) (49152) (49152) (ivs D2),lQ w.heap.size TSS TI 1 (some ⟨gB,0,none⟩) cB rows,aF w.heap.size (w.heap.size) TH3 #[.int .i64 aA,.int .i64 aB,.slice p n cap]]) (fun _ i _=>nb.length-(intOf i).toNat)
          case atStart=>exact⟨0,q,l2,lc,D2,Q2,Nat.zero_le _,rfl,rfl,HL2.out,by rw[yT,List.append_nil];exact HEQ.out,HBD2.out,HM.out⟩
          case round=>
           clear HM HL2 HEQ HBD2 lt0
           obtain⟨j,q,l2,lc,D2,Q2,hj,rfl,rfl,hl2,heq,hbd2,hM⟩:=hrel
           have HM:=xQ hM
           have hvs: ∀v∈fR aA n MM u h++gK aA n MM u h j,v∈qZ aA n MM u:=yU hlth hbU.out
           have hmid:=vT HI.out HU.out (fun v hv=>nE hn u v hun hv) hvs heq
           have hD2:D2.length=49152:=hmid.len
           have hQ2:Q2.length≤49152:=kR hmid.nodup hmid.bd
           have hum:u∈Q:=List.mem_of_getElem? HU.out
           have hsu:D2.getD u 0=D.getD u 0:=hmid.same u hum
           obtain⟨r,hr⟩:=hmid.pre
           dsimp only at hr
           have hkl:k<Q2.length:=by rw[hr,List.length_append];have:=HL.out;omega
           have hQk:Q2[k]? =some u:=by
            have:=HL.out
            rw[hr,List.getElem?_append_left (by omega)];exact HU.out
           have hdu:=cL (D:=D2) (v:=u) (by omega)
           have hdu1: -1≤D2.getD u 0:=(hbd2 _ hdu.2).1
           have hdu2:D2.getD u 0≤(k:Int):=by
            rw[hsu];exact(HBD.out _ (cL (D:=D) (v:=u) (by have:=HI.out.len;dsimp only at this;rw[this];exact hun)).2).2
           have HEQ:=xQ heq
           have HBD2:=xQ hbd2
           have HL2:=xQ hl2
           have HQK:=xQ hQk
           have HDU:=xQ hdu.1
           have HSU:=xQ hsu
           have HD2:=xQ hD2
           have hl2n:l2≤49152:=by omega
           have hkl2:k<l2:=by omega
           have cb:wr.cell? ⟨gB,h,none⟩=some (.slice qi nb.length ci):=by
            have:=(HM.out.nest (i:=2) rfl).1.cellAt h (by rw[RL.out];omega)
            rw[this,List.getElem?_map,HRW.out];rfl
           have hrow:=(HM.out.nest (i:=2) rfl).2 _ (List.mem_of_getElem? HRW.out)
           have HROW:=xQ (show wr.ownsRow w.heap.size TI 1 (.slice qi nb.length ci) nb.length (ivs (aY nb))from hrow)
           clear hM hvs hmid hr heq hbd2 hl2 hQk hdu hsu hrow hD2 hkl
           by_cases hltj:j<nb.length
           ·obtain⟨gi,rfl,hgi1,hgi2⟩:=dN HROW.out (by omega)
            obtain⟨f,hf⟩: ∃f,nb[j]? =some f:=⟨_,List.getElem?_eq_getElem hltj⟩
            have hfn:f<n:=(bI.1 (by rw[←HNB.out];exact List.mem_of_getElem? hf:f∈aR aA n h)).1
            have hf':(aR aA n h)[j]? =some f:=by rw[←HNB.out];exact hf
            have HF':=xQ hf'
            have cj:wr.cell? ⟨gi,j,none⟩=some (.int .i64 (f:Int)):=by have:=HROW.out.cellAt j (by omega);rw[this];simp[ivs,aY,hf]
            clear hf hf'
            have m1:(0:Int)≤(j:Int):=by omega
            have m2:(j:Int)<(nb.length:Int):=by omega
            obtain⟨Pf,hPf⟩: ∃Pf:Nat,Pf=2 ^ f:=⟨_,rfl⟩
            have hPfb:Pf≤2048:=by rw[hPf];exact Nat.le_trans (Nat.pow_le_pow_right (by omega) (show f≤11 by omega)) (by decide)
            have hsf:(2:Int) ^ f=(Pf:Int):=by rw[hPf];simp
            have hwf:IntKind.i64.wrap (Pf:Int)=(Pf:Int):=IntWalk.i64_in _ (by omega)
            obtain⟨B,hB⟩: ∃B:Nat,B=S/Pf:=⟨_,rfl⟩
            have hshf:(S:Int)/(Pf:Int)=(B:Int):=by rw[hB];simp
            have hbf:S.testBit f=decide (B%2=1):=by rw[hB,hPf];exact aAr S f
            have HBF:=xQ hbf
            have HPF:=xQ hPf
            clear hPf hB hbf
            cases hb:S.testBit f with
            |true=>
             have t2:(B:Int)%2=1:=by have:=HBF.out;rw[hb]at this;simp at this;omega
             have hfin:=xQ (aDs HF'.out (show(u%MM).testBit f=true by rw[←show S=u%MM from HS.out];exact hb))
             clear hb
             go_wp2
             go_roundw
             case rel=>exact⟨j+1,q,l2,lc,D2,Q2,by omega,by go_num,rfl,HL2.out,by rw[hfin.out];exact HEQ.out,HBD2.out,HM.out⟩
             case measure=>simp[intOf];omega
            |false=>
             have t2:(B:Int)%2=0:=by have:=HBF.out;rw[hb]at this;simp at this;omega
             have hbfU:(u%MM).testBit f=false:=by rw[←show S=u%MM from HS.out];exact hb
             have hfin:=xQ (aBj HF'.out hbfU)
             have hsub:=(pI hbU.out).1
             have hSh:Ph≤S:=by rw[HPH.out,show S=u%MM from HS.out];exact hsub
             obtain⟨v,hv⟩: ∃v,v=eK MM (u/MM) (u%MM) f h:=⟨_,rfl⟩
             have hvN:v<49152:=nE hn u v hun (jT.2 ⟨f,h,hfn,hlth,eI hlth (by exact List.mem_of_getElem? HF'.out),hbfU,hbU.out,hv⟩)
             have hvv:v=cQ C f h*4096+(S-Ph+Pf):=by
              rw[hv,HPH.out,HPF.out,show C=u/MM from HC.out,show S=u%MM from HS.out];rfl
             rw[←hv]at hfin
             have HVV:=xQ hvv
             clear hb hbfU hsub hv hvv
             have s1:(0:Int)≤(v:Int):=by omega
             have s2:(v:Int)<49152:=by omega
             obtain⟨dv,hdv,hdvm⟩: ∃dv,D2[v]? =some dv∧D2.getD v 0=dv:=⟨_,(cL (D:=D2) (v:=v) (by rw[HD2.out];exact hvN)).1,rfl⟩
             have HDV:=xQ hdv
             have HDVM:=xQ hdvm
             clear hdv hdvm
             by_cases hcar:f=C
             ·have t3:((f:Int)==(C:Int))=true:=by simp[hcar]
              have hvI:(h:Int)*4096+(S:Int)-(Ph:Int)+(Pf:Int)=(v:Int):=by
               have:=HVV.out;unfold cQ at this;rw[if_pos hcar]at this;omega
              have HVI:=xQ hvI
              clear hvI hcar
              go_wp2
              have hm1:IntKind.i64.wrap ((h:Int)*4096)=(h:Int)*4096:=IntWalk.i64_in _ (by omega)
              have hm2:IntKind.i64.wrap ((h:Int)*4096+(S:Int))=(h:Int)*4096+(S:Int):=IntWalk.i64_in _ (by omega)
              have hm3:IntKind.i64.wrap ((h:Int)*4096+(S:Int)-(Ph:Int))=(h:Int)*4096+(S:Int)-(Ph:Int):=IntWalk.i64_in _ (by omega)
              have hm4:IntKind.i64.wrap ((h:Int)*4096+(S:Int)-(Ph:Int)+(Pf:Int))=(v:Int):=(IntWalk.i64_in _ (by omega)).trans HVI.out
              go_quiet (fail)
              generalize hwi:World.drewN wr _=wi
              have hX:Ext wr wi:=by rw[←hwi];exact Ext.drewN (Ext.refl _) _
              clear hwi hm1 hm2 hm3 hm4
              have MI:=xQ (HM.out.adv hX)
              have HE:=xQ (show Mem w wi [aJ w.heap.size TI 1 (q) (l2) (lc) (ivs (aY Q2)),aJ w.heap.size TI 1 (some ⟨w.heap.size+1,0,none⟩) (49152) (49152) (ivs D2),lQ w.heap.size TSS TI 1 (some ⟨gB,0,none⟩) cB rows,aF w.heap.size (w.heap.size) TH3 #[.int .i64 aA,.int .i64 aB,.slice p n cap]]from MI.out)
              clear hX HM MI cb cj
              have cl:wi.cell? ⟨w.heap.size+1,v,none⟩=some (.int .i64 dv):=by have:=(HE.out.own (i:=1) rfl).cellAt v (by omega);rw[this];simp[ivs,HDV.out]
              by_cases hd0:dv<0
              ·have t4:decide (dv<0)=true:=by simp[hd0]
               have hrel2:Hid ((D2.set v (D.getD u 0+1),Q2++ [v])=bF (D.getD u 0+1) (D,Q) (fR aA n MM u h++gK aA n MM u h (j+1))):=by
                show _=_
                rw[hfin.out,←List.append_assoc,cX,←HEQ.out,iI (by rw[HDVM.out];exact hd0)]
               obtain⟨du,hdu⟩: ∃du,du=D2.getD u 0:=⟨_,rfl⟩
               have HDU2:=xQ hdu
               have du1: -1≤du:=by omega
               have du2:du≤(k:Int):=by omega
               have hw12:IntKind.i64.wrap (du+1)=du+1:=IntWalk.i64_in _ (by omega)
               obtain⟨gl,rfl,hgl1,hgl2⟩:=HE.out.some (i:=0) rfl (by omega)
               have n0:(0:Int)≤(u:Int):=by omega
               have n1:(u:Int)<49152:=by omega
               have n2:(k:Int)<(l2:Int):=by omega
               have ck:wi.cell? ⟨gl,k,none⟩=some (.int .i64 (u:Int)):=by have:=(HE.out.own (i:=0) rfl).cellAt k (by omega);rw[this];simp[ivs,aY,HQK.out]
               have cd:wi.cell? ⟨w.heap.size+1,u,none⟩=some (.int .i64 du):=by have:=(HE.out.own (i:=1) rfl).cellAt u (by omega);rw[this,HDU2.out];simp only[ivs,List.getElem?_map,HDU.out,Option.map_some]
               have cf:wi.frozen? ⟨w.heap.size+1,v,none⟩=false:=(HE.out.own (i:=1) rfl).frozenAt v
               clear hdu hd0
               go_wp2_with (at_builtin;refine cJ eT rfl _ _ rfl ((HE.out.ostore (i:=1) rfl v (.int .i64 (du+1))).adv ((Ext.refl _).alloc (.cells #[.int .i64 (v:Int)] TI))) 0 rfl rfl [.int .i64 (v:Int)] rfl (eA _ _ _ 1 1 _ (by first|rfl|simp) (by first|rfl|simp) (by simp[maxLen])) (fun u hu=>by obtain rfl:=List.mem_singleton.1 hu;rfl) (by omega) ?_;intro q7 c7 w6 M6)
               have M7:=xQ (show Mem w w6 [aJ w.heap.size TI 1 (q7) (l2+1) (c7) (ivs (aY (Q2++ [v]))),aJ w.heap.size TI 1 (some ⟨w.heap.size+1,0,none⟩) (49152) (49152) (ivs (D2.set v (du+1))),lQ w.heap.size TSS TI 1 (some ⟨gB,0,none⟩) cB rows,aF w.heap.size (w.heap.size) TH3 #[.int .i64 aA,.int .i64 aB,.slice p n cap]]from by rw[←cZ,aY,List.map_append,ivs,List.map_append];exact M6)
               clear M6 HE cl ck cd cf
               go_wp2
               go_roundw
               case rel=>exact⟨j+1,q7,l2+1,c7,D2.set v (du+1),Q2++ [v],by omega,by go_num,rfl,by rw[List.length_append,←HL2.out];rfl,by rw[←hrel2.out,←HSU.out,←HDU2.out],fun x hx=>by
                rcases List.mem_or_eq_of_mem_set hx with h|h
                ·exact HBD2.out x h
                ·omega,M7.out⟩
               case measure=>simp[intOf];omega
              ·have t4:decide (dv<0)=false:=by simp[hd0]
               have hrel2:Hid ((D2,Q2)=bF (D.getD u 0+1) (D,Q) (fR aA n MM u h++gK aA n MM u h (j+1))):=by
                show _=_
                rw[hfin.out,←List.append_assoc,cX,←HEQ.out,jM (by rw[HDVM.out];exact hd0)]
               clear hd0
               go_wp2
               go_roundw
               case rel=>exact⟨j+1,q,l2,lc,D2,Q2,by omega,by go_num,rfl,HL2.out,hrel2.out,HBD2.out,HE.out⟩
               case measure=>simp[intOf];omega
             ·have t3:((f:Int)==(C:Int))=false:=by simp;omega
              have hvI:(C:Int)*4096+(S:Int)-(Ph:Int)+(Pf:Int)=(v:Int):=by
               have:=HVV.out;unfold cQ at this;rw[if_neg hcar]at this;omega
              have HVI:=xQ hvI
              clear hvI hcar
              go_wp2
              have hm1:IntKind.i64.wrap ((C:Int)*4096)=(C:Int)*4096:=IntWalk.i64_in _ (by omega)
              have hm2:IntKind.i64.wrap ((C:Int)*4096+(S:Int))=(C:Int)*4096+(S:Int):=IntWalk.i64_in _ (by omega)
              have hm3:IntKind.i64.wrap ((C:Int)*4096+(S:Int)-(Ph:Int))=(C:Int)*4096+(S:Int)-(Ph:Int):=IntWalk.i64_in _ (by omega)
              have hm4:IntKind.i64.wrap ((C:Int)*4096+(S:Int)-(Ph:Int)+(Pf:Int))=(v:Int):=(IntWalk.i64_in _ (by omega)).trans HVI.out
              go_quiet (fail)
              generalize hwi:World.drewN wr _=wi
              have hX:Ext wr wi:=by rw[←hwi];exact Ext.drewN (Ext.refl _) _
              clear hwi hm1 hm2 hm3 hm4
              have MI:=xQ (HM.out.adv hX)
              have HE:=xQ (show Mem w wi [aJ w.heap.size TI 1 (q) (l2) (lc) (ivs (aY Q2)),aJ w.heap.size TI 1 (some ⟨w.heap.size+1,0,none⟩) (49152) (49152) (ivs D2),lQ w.heap.size TSS TI 1 (some ⟨gB,0,none⟩) cB rows,aF w.heap.size (w.heap.size) TH3 #[.int .i64 aA,.int .i64 aB,.slice p n cap]]from MI.out)
              clear hX HM MI cb cj
              have cl:wi.cell? ⟨w.heap.size+1,v,none⟩=some (.int .i64 dv):=by have:=(HE.out.own (i:=1) rfl).cellAt v (by omega);rw[this];simp[ivs,HDV.out]
              by_cases hd0:dv<0
              ·have t4:decide (dv<0)=true:=by simp[hd0]
               have hrel2:Hid ((D2.set v (D.getD u 0+1),Q2++ [v])=bF (D.getD u 0+1) (D,Q) (fR aA n MM u h++gK aA n MM u h (j+1))):=by
                show _=_
                rw[hfin.out,←List.append_assoc,cX,←HEQ.out,iI (by rw[HDVM.out];exact hd0)]
               obtain⟨du,hdu⟩: ∃du,du=D2.getD u 0:=⟨_,rfl⟩
               have HDU2:=xQ hdu
               have du1: -1≤du:=by omega
               have du2:du≤(k:Int):=by omega
               have hw12:IntKind.i64.wrap (du+1)=du+1:=IntWalk.i64_in _ (by omega)
               obtain⟨gl,rfl,hgl1,hgl2⟩:=HE.out.some (i:=0) rfl (by omega)
               have n0:(0:Int)≤(u:Int):=by omega
               have n1:(u:Int)<49152:=by omega
               have n2:(k:Int)<(l2:Int):=by omega
               have ck:wi.cell? ⟨gl,k,none⟩=some (.int .i64 (u:Int)):=by have:=(HE.out.own (i:=0) rfl).cellAt k (by omega);rw[this];simp[ivs,aY,HQK.out]
               have cd:wi.cell? ⟨w.heap.size+1,u,none⟩=some (.int .i64 du):=by have:=(HE.out.own (i:=1) rfl).cellAt u (by omega);rw[this,HDU2.out];simp only[ivs,List.getElem?_map,HDU.out,Option.map_some]
               have cf:wi.frozen? ⟨w.heap.size+1,v,none⟩=false:=(HE.out.own (i:=1) rfl).frozenAt v
               clear hdu hd0
               go_wp2_with (at_builtin;refine cJ eT rfl _ _ rfl ((HE.out.ostore (i:=1) rfl v (.int .i64 (du+1))).adv ((Ext.refl _).alloc (.cells #[.int .i64 (v:Int)] TI))) 0 rfl rfl [.int .i64 (v:Int)] rfl (eA _ _ _ 1 1 _ (by first|rfl|simp) (by first|rfl|simp) (by simp[maxLen])) (fun u hu=>by obtain rfl:=List.mem_singleton.1 hu;rfl) (by omega) ?_;intro q7 c7 w6 M6)
               have M7:=xQ (show Mem w w6 [aJ w.heap.size TI 1 (q7) (l2+1) (c7) (ivs (aY (Q2++ [v]))),aJ w.heap.size TI 1 (some ⟨w.heap.size+1,0,none⟩) (49152) (49152) (ivs (D2.set v (du+1))),lQ w.heap.size TSS TI 1 (some ⟨gB,0,none⟩) cB rows,aF w.heap.size (w.heap.size) TH3 #[.int .i64 aA,.int .i64 aB,.slice p n cap]]from by rw[←cZ,aY,List.map_append,ivs,List.map_append];exact M6)
               clear M6 HE cl ck cd cf
               go_wp2
               go_roundw
               case rel=>exact⟨j+1,q7,l2+1,c7,D2.set v (du+1),Q2++ [v],by omega,by go_num,rfl,by rw[List.length_append,←HL2.out];rfl,by rw[←hrel2.out,←HSU.out,←HDU2.out],fun x hx=>by
                rcases List.mem_or_eq_of_mem_set hx with h|h
                ·exact HBD2.out x h
                ·omega,M7.out⟩
               case measure=>simp[intOf];omega
              ·have t4:decide (dv<0)=false:=by simp[hd0]
               have hrel2:Hid ((D2,Q2)=bF (D.getD u 0+1) (D,Q) (fR aA n MM u h++gK aA n MM u h (j+1))):=by
                show _=_
                rw[hfin.out,←List.append_assoc,cX,←HEQ.out,jM (by rw[HDVM.out];exact hd0)]
               clear hd0
               go_wp2
               go_roundw
               case rel=>exact⟨j+1,q,l2,lc,D2,Q2,by omega,by go_num,rfl,HL2.out,hrel2.out,HBD2.out,HE.out⟩
               case measure=>simp[intOf];omega
           ·have hfin:Hid (fR aA n MM u h++gK aA n MM u h j=fR aA n MM u (h+1)):=by
             show _=_
             rw[qC,aEr hbU.out,←HNB.out,show j=nb.length by omega]
            rw[hfin.out]at HEQ
            obtain rfl:nb.length=j:=by omega
            go_wp2
            go_roundw
            case rel=>exact⟨h+1,q,l2,lc,D2,Q2,by omega,by go_num,rfl,HL2.out,HEQ.out,HBD2.out,HM.out⟩
            case measure=>simp[intOf];omega
        ·obtain rfl:n=h:=by omega
         have hI:=HI.out.step HU.out (fun v hv=>nE hn u v hun hv)
         have he:=HEQ.out
         obtain⟨r,hr⟩:=(vT HI.out HU.out (fun v hv=>nE hn u v hun hv) (aBk (Nat.le_refl _)) he).pre
         dsimp only at hr
         have hkl3:k+1≤l2:=by rw[HL2.out,hr,List.length_append];have:=HL.out;omega
         clear hr
         rw[nT]at he
         rw[←he]at hI
         have HI2:=xQ hI
         clear hI he
         go_wp2
         go_roundw
         case rel=>exact⟨k+1,q,l2,lc,D2,Q2,hkl3,by go_num,rfl,HL2.out,fun x hx=>by have:=HBD2.out x hx;omega,HI2.out,HM.out⟩
         case measure=>simp[intOf];omega
      ·have hdist:=xQ (HI.out.dist (by have:=HL.out;dsimp only;omega))
       go_wp2
       go_ret
       refine⟨D,hdist.out,dB hdist.out.len (HM.out.own (i:=1) rfl) HM.out.ext⟩
end Go.Proofs.YtahglfakiobbcaaGreatDoor
