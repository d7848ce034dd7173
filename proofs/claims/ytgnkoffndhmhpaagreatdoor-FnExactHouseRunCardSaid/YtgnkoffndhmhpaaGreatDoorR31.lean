/-
  Texts of this proof, packed (@packed).
-/
import Derived.Deep.OwnRows
import Derived.Test.YtgnkoffndhmhpaaGreatDoorR6
import Derived.Test.YtgnkoffndhmhpaaGreatDoorR10
import Derived.Test.YtgnkoffndhmhpaaGreatDoorR16
import Derived.Test.YtgnkoffndhmhpaaGreatDoorR27
import Derived.Test.YtgnkoffndhmhpaaGreatDoorR28
import Derived.Test.YtgnkoffndhmhpaaGreatDoorR30
namespace Go.Proofs.YtgnkoffndhmhpaaGreatDoor
open Go.RowKit
set_option linter.unusedVariables false
set_option linter.unusedSimpArgs false
set_option maxHeartbeats 8000000
set_option maxRecDepth 100000
abbrev pV:TypeId:=21
theorem aGs (x:Int)(h: -2147483648≤x∧x≤2147483647):IntKind.i32.wrap x=x:=by
 simp[IntKind.wrap,IntKind.signed,IntKind.bits];omega
theorem aGq (aA aB:Int)(pb po:Nat)(n cap N P2 c C0 st:Nat)(xs:List Int)(pf:Nat→Bool)(adj:Nat→List Nat)(w:World)(hn0:4≤n)(hn:n≤12)(hlen:Hid (xs.length=n))(hpb:pb<w.heap.size)(hE:Hid (BitTab w))(hN49:N≤49152)(hnN:n≤N)(hC0b:C0≤12*4096)
  (hP2:Hid (P2=2 ^ n))(hNN:Hid (N=n*2 ^ n))(hC0:Hid (C0=c*2 ^ n))(hst0:Hid (st=C0+gS pf n))(hstN:st<N)
  (hshn:(2:Int) ^ n=(P2:Int))(hcq:IntKind.i64.wrap ((c:Int)*(P2:Int))=(C0:Int))(hnq:IntKind.i64.wrap ((n:Int)*(P2:Int))=(N:Int))
  (hpf:Hid (∀k x,xs[k]? =some x→pf k=decide (x=0))) (hadj:Hid (adj=fun u=>lF aA n P2 u))
  (HXS:Hid (∀k x,xs[k]? =some x→w.cell? ⟨pb,po+k,none⟩=some (.int .i64 x)))
  (HC:Hid (∀(k:Nat),k<n→ ∀w',Ext w w'→Calls Tryz.prog 195 #[aI aA aB (some ⟨pb,po,none⟩) n cap,(k:Int)] w' (aY (bD (aS aA n k)) w')))
  (HADJ:Hid (∀u v,u<N→v∈lF aA n P2 u→v<N))
  (HSOK:Hid (∀k B Q,SRun adj (fun v=>v/P2=0) N st k B Q→SOk N B Q))
  (HG:Hid (∀k u B Q,SRun adj (fun v=>v/P2=0) N st k B Q→Q[k]? =some u→u/P2=0→ ∃(d:Nat) (code:Nat→Nat) (e:Nat→Nat×Nat),d≤60∧Trail n N d B code e∧code 0=st∧code d=u∧dD aA xs c=some ((List.range d).map (fun i=>gQ (e i)))))
  (HEND:Hid (∀k B Q,SRun adj (fun v=>v/P2=0) N st k B Q→Q.length≤k→dD aA xs c=none)):
  Calls Tryz.prog 179 #[aI aA aB (some ⟨pb,po,none⟩) n cap,(c:Int)] w (iD (dD aA xs c) w):=by
 obtain⟨AR,hAR⟩: ∃AR:Array Value,AR=madeCells #[((),())] n:=⟨_,rfl⟩
 have hmk: ∀w:World,(Instr.makeSlice 189 (.int .i64 (n:Int)) (.int .i64 (n:Int))).run Tryz.prog w= .ok (.slice (some ⟨w.heap.size,0,none⟩) n n) (w.alloc (.cells AR TSS)):=fun w=>by
  rw[hAR]
  exact run_make_row' _ _ (.slice none 0 0) 24 Tryz.underlying189 (by kernel_rfl) rfl .i64 .i64 n (by omega) (by omega) w
 have hA1:Hid (AR.toList=fU n []):=by
  show _=_
  rw[hAR,(kN _ n).1];simp[fU]
 have hA2:Hid (AR.size=n):=by show _=_;rw[hAR];exact(kN _ n).2
 obtain⟨AB,hAB⟩: ∃AB:Array Value,AB=madeCells #[.int .i32 0] N:=⟨_,rfl⟩
 have hmk2: ∀w:World,(Instr.makeSlice 202 (.int .i64 (N:Int)) (.int .i64 (N:Int))).run Tryz.prog w= .ok (.slice (some ⟨w.heap.size,0,none⟩) N N) (w.alloc (.cells AB pV)):=fun w=>by
  rw[hAB]
  exact run_make_row' _ _ (.int .i32 0) 4 Tryz.underlying202 (by kernel_rfl) rfl .i64 .i64 N (by omega) (by omega) w
 have hB1:Hid (AB.toList=lB (List.replicate N 0)):=by
  show _=_
  rw[hAB,(kN _ N).1];simp[lB]
 have hB2:Hid (AB.size=N):=by show _=_;rw[hAB];exact(kN _ N).2
 clear hAR hAB
 go_enter Tryz.func179,Tryz.ntmps179
 go_upto_region 4 with fail
 have ME:=xQ (show Mem w ((w.alloc (.cells #[aA,aB,.slice (some ⟨pb,po,none⟩) n cap] TH3)).alloc (.cells AR TSS)) [fS w.heap.size TI 1 [],aJ w.heap.size TSS 1 (some ⟨w.heap.size+1,0,none⟩) n n (fU n []),aL w.heap.size (w.heap.size) TH3 #[aA,aB,.slice (some ⟨pb,po,none⟩) n cap]]from by
  have h1:=((Mem.start w).blkNew TH3 #[aA,aB,.slice (some ⟨pb,po,none⟩) n cap] w.heap.size rfl).lit TSS 1 n (w.heap.size+1) AR (by simp) (by rw[hA2.out];omega) (by simp[maxLen];omega)
  rw[hA1.out]at h1
  exact h1.rows0 rfl)
 clear hA1 hA2 hmk
 have e0:=(ME.out.blk (i:=2) rfl).tri
 obtain⟨h0,h1,h2⟩:=e0
 go_wp2
 clear h0 h1 h2
 go_loopw [8,32] (fun s i wr=> ∃(k S:Nat) (rows:List RowD),k≤n∧i= .int .i64 (k:Int)∧s= .int .i64 (S:Int)∧S=C0+gS pf k∧mT aA n k rows∧Mem w wr [fS w.heap.size TI 1 rows,aJ w.heap.size TSS 1 (some ⟨w.heap.size+1,0,none⟩) n n (fU n rows),aL w.heap.size (w.heap.size) TH3 #[aA,aB,.slice (some ⟨pb,po,none⟩) n cap]]) (fun _ i _=>n-(intOf i).toNat)
 case atStart=>exact⟨0,C0,[],Nat.zero_le _,rfl,rfl,rfl,⟨rfl,fun j r h=>by simp at h⟩,ME.out⟩
 case round=>
  clear ME
  obtain⟨k,S,rows,hk,rfl,rfl,hS,hrows,hM⟩:=hrel
  have HM:=xQ hM
  have HR:=xQ hrows
  have HS:=xQ hS
  have hSb:S<12*4096+4096:=by
   have h1:=mJ pf k
   have h2:2 ^ k≤2 ^ 12:=Nat.pow_le_pow_right (n:=2) (by omega) (by omega)
   omega
  clear hM hrows hS
  have lt0:=(HM.out.lt (i:=2) rfl rfl).2
  by_cases hlt:k<n
  ·obtain⟨x,hx⟩: ∃x,xs[k]? =some x:=⟨_,List.getElem?_eq_getElem (by rw[hlen.out];exact hlt)⟩
   have i1:(0:Int)≤(k:Int):=by omega
   have i2:(k:Int)<(n:Int):=by omega
   have cx:wr.cell? ⟨pb,po+k,none⟩=some (.int .i64 x):=(HM.out.ext.cells.1 _ _ hpb).trans (HXS.out k x hx)
   obtain⟨h0,h1,h2⟩:=(HM.out.blk (i:=2) rfl).tri
   have HPF:=xQ (hpf.out k x hx)
   clear hx
   have hrl:=HR.out.1
   obtain⟨nb,hnb⟩: ∃nb,nb=aS aA n k:=⟨_,rfl⟩
   have HNB:=xQ hnb
   have HCU:Hid (∀w',Ext w w'→Calls Tryz.prog 195 #[aI aA aB (some ⟨pb,po,none⟩) n cap,(k:Int)] w' (aY (bD nb) w')):=by rw[hnb];exact HC.out k hlt
   have hnbl:(bD nb).length=nb.length:=by simp[bD]
   clear hnb
   go_wp2_with fail
   clear h0 h1 h2 cx lt0
   refine(HCU.out _ HM.out.ext).mono ?_
   rintro e w5 ⟨q5,c5,rfl,o5,hx5⟩
   rw[hnbl]at o5⊢
   have M5:=xQ ((HM.out.call hx5 o5).rowsAdd rfl)
   clear o5 hx5 HM HCU
   have co:w5.cell? ⟨w.heap.size+1,k,none⟩=some (.slice none 0 0):=by
    have h7:=(M5.out.own (i:=1) rfl).cellAt k (by omega)
    rw[h7]
    have h8:=aGu (n:=n) (rows:=rows) (by omega)
    rw[hrl]at h8;exact h8
   have cof:w5.frozen? ⟨w.heap.size+1,k,none⟩=false:=(M5.out.own (i:=1) rfl).frozenAt k
   have hR2:=xQ (show mT aA n (k+1) (rows++ [⟨q5,nb.length,c5,ivs (bD nb)⟩])from by
    have h7:=qL (q:=q5) (c:=c5) HR.out
    rw[←HNB.out]at h7
    exact h7)
   have M6:=xQ (show Mem w (w5.setCell ⟨w.heap.size+1,k,none⟩ (.slice q5 nb.length c5)) [fS w.heap.size TI 1 (rows++ [⟨q5,nb.length,c5,ivs (bD nb)⟩]),aJ w.heap.size TSS 1 (some ⟨w.heap.size+1,0,none⟩) n n (fU n (rows++ [⟨q5,nb.length,c5,ivs (bD nb)⟩])),aL w.heap.size (w.heap.size) TH3 #[aA,aB,.slice (some ⟨pb,po,none⟩) n cap]]from by
    have h7:=aEh (n:=n) (rows:=rows) (by omega) ⟨q5,nb.length,c5,ivs (bD nb)⟩
    rw[←h7,hrl]
    exact M5.out.ostore (i:=1) rfl k (.slice q5 nb.length c5))
   clear M5 HR HNB
   go_upto_region 8 with fail
   clear co cof
   generalize hw6:World.setCell _ _ _=w6
   rw[hw6]at M6
   clear hw6
   by_cases hx0:x=0
   ·have t0:(x==0)=true:=by simp[hx0]
    have hst:=HPF.out
    rw[decide_eq_true hx0]at hst
    obtain⟨PK,hPK⟩: ∃PK:Nat,PK=2 ^ k:=⟨_,rfl⟩
    have hsh:(2:Int) ^ k=(PK:Int):=by rw[hPK];simp
    have hPb:PK≤2048:=by rw[hPK];exact Nat.le_trans (Nat.pow_le_pow_right (by omega) (show k≤11 by omega)) (by decide)
    have hw1:IntKind.i64.wrap (PK:Int)=(PK:Int):=IntWalk.i64_in _ (by omega)
    obtain⟨S2,hS2⟩: ∃S2,S2=C0+gS pf (k+1):=⟨_,rfl⟩
    have hor:bits .or .i64 (S:Int) (PK:Int)=(S2:Int):=by
     rw[aBv S PK (by omega) (by omega),hPK,HS.out,hC0.out,aFo hlt hst,hS2,hC0.out]
    have HS2:=xQ hS2
    clear hst hPK hx0 hS2
    go_wp2
    go_roundw
    case rel=>exact⟨k+1,S2,_,by omega,by go_num,rfl,HS2.out,hR2.out,M6.out⟩
    case measure=>simp[intOf];omega
   ·have t0:(x==0)=false:=by simp[hx0]
    have hst:=HPF.out
    rw[decide_eq_false hx0]at hst
    have HS2:=xQ (show S=C0+gS pf (k+1) by rw[aFp hst];exact HS.out)
    clear hst hx0
    go_wp2
    go_roundw
    case rel=>exact⟨k+1,S,_,by omega,by go_num,rfl,HS2.out,hR2.out,M6.out⟩
    case measure=>simp[intOf];omega
  ·obtain rfl:n=k:=by omega
   obtain rfl:S=st:=by rw[HS.out,hst0.out]
   have HROW:=xQ HR.out
   clear HS HR hSb
   obtain⟨gB,hgB⟩: ∃gB,gB=wr.heap.size:=⟨_,rfl⟩
   have M2:=xQ (show Mem w (wr.alloc (.cells AB pV)) [aJ w.heap.size pV 1 (some ⟨gB,0,none⟩) N N (lB (List.replicate N 0)),fS w.heap.size TI 1 rows,aJ w.heap.size TSS 1 (some ⟨w.heap.size+1,0,none⟩) n n (fU n rows),aL w.heap.size (w.heap.size) TH3 #[aA,aB,.slice (some ⟨pb,po,none⟩) n cap]]from by
    have h1:=HM.out.lit pV 1 N gB AB hgB.symm (by rw[hB2.out];omega) (by simp[maxLen];omega)
    rw[hB1.out]at h1
    exact h1)
   go_upto_region 12 with fail
   rw[←hgB]
   clear hB1 hB2 hmk2 HM hgB
   generalize hw2:World.alloc _ _=w2
   rw[hw2]at M2
   clear hw2 lt0
   go_wp2
   go_loopw [56] (fun i wr=> ∃(k:Nat),k≤N∧i= .int .i64 (k:Int)∧Mem w wr [aJ w.heap.size pV 1 (some ⟨gB,0,none⟩) N N (lB (List.replicate k (-1)++List.replicate (N-k) 0)),fS w.heap.size TI 1 rows,aJ w.heap.size TSS 1 (some ⟨w.heap.size+1,0,none⟩) n n (fU n rows),aL w.heap.size (w.heap.size) TH3 #[aA,aB,.slice (some ⟨pb,po,none⟩) n cap]]) (fun i _=>N-(intOf i).toNat)
   case atStart=>exact⟨0,Nat.zero_le _,rfl,by simpa using M2.out⟩
   case round=>
    clear M2
    obtain⟨k,hk,rfl,hM⟩:=hrel
    have HM:=xQ hM
    clear hM
    by_cases hlt:k<N
    ·have i1:(0:Int)≤(k:Int):=by omega
     have i2:(k:Int)<(N:Int):=by omega
     have hl:(List.replicate k (-1:Int)++List.replicate (N-k) 0)[k]? =some 0:=by
      rw[List.getElem?_append_right (by simp)]
      simp[List.getElem?_replicate];omega
     have ow0:wr.cell? ⟨gB,k,none⟩=some (.int .i32 0):=by
      have:=(HM.out.own (i:=0) rfl).cellAt k (by omega);rw[this];exact wB hl
     have ow1:wr.frozen? ⟨gB,k,none⟩=false:=(HM.out.own (i:=0) rfl).frozenAt k
     clear hl
     have M2:=xQ (HM.out.ostore (i:=0) rfl k (.int .i32 (-1)))
     go_wp2
     go_roundw
     case rel=>exact⟨k+1,by omega,by go_num,by have:=M2.out;rw[oJ,aCg hlt]at this;exact this⟩
     case measure=>simp[intOf];omega
    ·obtain rfl:N=k:=by omega
     rw[Nat.sub_self,show List.replicate N (-1:Int)++List.replicate 0 0=List.replicate N (-1) by simp]at HM
     have i1:(0:Int)≤(S:Int):=by omega
     have i2:(S:Int)<(N:Int):=by omega
     have i3:IntKind.i32.wrap (S:Int)=(S:Int):=aGs _ (by omega)
     have ow0:wr.cell? ⟨gB,S,none⟩=some (.int .i32 (-1)):=by
      have:=(HM.out.own (i:=0) rfl).cellAt S (by omega);rw[this];exact wB (by rw[List.getElem?_replicate,if_pos hstN])
     have ow1:wr.frozen? ⟨gB,S,none⟩=false:=(HM.out.own (i:=0) rfl).frozenAt S
     have M2:=xQ (show Mem w (wr.setCell ⟨gB,S,none⟩ (.int .i32 (S:Int))) [aJ w.heap.size pV 1 (some ⟨gB,0,none⟩) N N (lB ((List.replicate N (-1)).set S (S:Int))),fS w.heap.size TI 1 rows,aJ w.heap.size TSS 1 (some ⟨w.heap.size+1,0,none⟩) n n (fU n rows),aL w.heap.size (w.heap.size) TH3 #[aA,aB,.slice (some ⟨pb,po,none⟩) n cap]]from by rw[←oJ];exact HM.out.ostore (i:=0) rfl S (.int .i32 (S:Int)))
     go_upto_region 18 with fail
     clear ow0 ow1 HM
     generalize hw1:World.setCell _ _ _=w1
     rw[hw1]at M2
     clear hw1
     have M3:=xQ (M2.out.lit TI 1 1 w1.heap.size #[(S:Int)] rfl rfl (by simp[maxLen]))
     have I1:=xQ (show SRun adj (fun v=>v/P2=0) N S 0 ((List.replicate N (-1)).set S (S:Int)) [S]from .init)
     clear M2
     go_wp2
     go_loopw [13,14] (fun v i wr=> ∃(k:Nat) (q:OA) (l lc:Nat) (B:List Int) (Q:List Nat),k≤l∧i= .int .i64 (k:Int)∧v= .slice q l lc∧l=Q.length∧l≤N∧SRun adj (fun v=>v/P2=0) N S k B Q∧Mem w wr [aJ w.heap.size TI 1 (q) (l) lc (ivs (bD (Q))),aJ w.heap.size pV 1 (some ⟨gB,0,none⟩) N N (lB (B)),fS w.heap.size TI 1 rows,aJ w.heap.size TSS 1 (some ⟨w.heap.size+1,0,none⟩) n n (fU n rows),aL w.heap.size (w.heap.size) TH3 #[aA,aB,.slice (some ⟨pb,po,none⟩) n cap]]) (fun _ i _=>N-(intOf i).toNat)
     case atStart=>exact⟨0,some ⟨w1.heap.size,0,none⟩,1,1,_,[S],Nat.zero_le _,rfl,rfl,rfl,by omega,I1.out,M3.out⟩
     case round=>
      clear M3 I1
      obtain⟨k,q,l,lc,B,Q,hk,rfl,rfl,hlq,hlN,hrun,hM⟩:=hrel
      have HM:=xQ hM
      have HRUN:=xQ hrun
      have HLQ:=xQ hlq
      have HOK:=xQ (HSOK.out k B Q hrun)
      clear hM hrun hlq
      by_cases hlt2:k<l
      ·obtain⟨u,hu⟩: ∃u,Q[k]? =some u:=⟨_,List.getElem?_eq_getElem (by rw[←HLQ.out];exact hlt2)⟩
       have huN:u<N:=HOK.out.bd u (List.mem_of_getElem? hu)
       have HU:=xQ hu
       clear hu
       obtain⟨gL,rfl,hL1,hL2⟩:=HM.out.some (i:=0) rfl (by omega)
       clear hL1 hL2
       have i3:(0:Int)≤(k:Int):=by omega
       have i4:(k:Int)<(l:Int):=by omega
       have cu:wr.cell? ⟨gL,k,none⟩=some (.int .i64 (u:Int)):=by
        have:=(HM.out.own (i:=0) rfl).cellAt k (by omega);rw[this];simp[ivs,bD,HU.out]
       obtain⟨cr,hcr⟩: ∃cr,cr=u/P2:=⟨_,rfl⟩
       have hshr:(u:Int)/(P2:Int)=(cr:Int):=by rw[hcr];simp
       have HCR:=xQ hcr
       have hcrb:cr≤u:=by rw[hcr];exact Nat.div_le_self _ _
       clear hcr
       by_cases hc0:cr=0
       ·have t0:((cr:Int)==0)=true:=by simp[hc0]
        obtain⟨d,code,ed,d60,hTr,hcd0,hcd,hbr⟩:=HG.out k u B Q HRUN.out HU.out (by rw[←HCR.out];exact hc0)
        have HTO:=xQ (fun(w':World) (hx:Ext wr w')=>aGa n N d N gB B code ed w' hn hN49 d60 hTr ((HM.out.sl (i:=1) rfl).ext hx) (hE.out.ext (HM.out.ext.trans hx)) (Nat.lt_of_lt_of_le (HM.out.lt (i:=1) rfl rfl).2 hx.sz))
        rw[hcd0,hcd]at HTO
        have HBR:=xQ hbr
        clear hTr hcd0 hcd hbr hc0
        go_wp2_with fail
        clear cu
        refine(HTO.out _ (Ext.refl _)).mono ?_
        rintro e w5 ⟨q5,c5,rfl,o5,hx5⟩
        have M5:=xQ (HM.out.call hx5 o5)
        clear o5 hx5 HM
        go_wp2
        exact bodyPost_ret (v:= .tuple #[.slice q5 ((List.range d).map (fun i=>gQ (ed i))).length c5,.bool true]) (by simp[results,Tryz.results179,go_sem]) rfl (by rw[HBR.out];exact⟨q5,c5,rfl,M5.out.own (i:=0) rfl,M5.out.ext⟩)
       ·have t0:((cr:Int)==0)=false:=by simp;omega
        have hHU:Hid (¬u/P2=0):=by show¬_;rw[←HCR.out];exact hc0
        clear hc0
        go_wp2
        clear cu
        go_loopw [13,91] (fun v i wr=> ∃(f:Nat) (q:OA) (l2 lc:Nat) (B2:List Int) (Q2:List Nat),f≤n∧i= .int .i64 (f:Int)∧v= .slice q l2 lc∧l2=Q2.length∧(B2,Q2)=bJ (u:Int) (B,Q) (fT aA n P2 u f)∧Mem w wr [aJ w.heap.size TI 1 (q) (l2) lc (ivs (bD (Q2))),aJ w.heap.size pV 1 (some ⟨gB,0,none⟩) N N (lB (B2)),fS w.heap.size TI 1 rows,aJ w.heap.size TSS 1 (some ⟨w.heap.size+1,0,none⟩) n n (fU n rows),aL w.heap.size (w.heap.size) TH3 #[aA,aB,.slice (some ⟨pb,po,none⟩) n cap]]) (fun _ i _=>n-(intOf i).toNat)
        case atStart=>exact⟨0,some ⟨gL,0,none⟩,l,lc,B,Q,Nat.zero_le _,rfl,rfl,HLQ.out,rfl,HM.out⟩
        case round=>
         clear HM
         obtain⟨f,q,l2,lc,B2,Q2,hf,rfl,rfl,hlq2,heq,hM⟩:=hrel
         have hok2:SOk N B2 Q2:=by
          have:=SOk.expand (u:=(u:Int)) (by omega) (fT aA n P2 u f) HOK.out (fun v hv=>HADJ.out u v huN (pK hf v hv))
          rw[←heq]at this;exact this
         have HM:=xQ hM
         have HEQ:=xQ heq
         have HLQ2:=xQ hlq2
         have HOK2:=xQ hok2
         clear hM heq hlq2 hok2
         by_cases hlt3:f<n
         ·obtain⟨PF,hPF⟩: ∃PF:Nat,PF=2 ^ f:=⟨_,rfl⟩
          have hshf:(2:Int) ^ f=(PF:Int):=by rw[hPF];simp
          have hPFb:PF≤2048:=by rw[hPF];exact Nat.le_trans (Nat.pow_le_pow_right (by omega) (show f≤11 by omega)) (by decide)
          have hwf:IntKind.i64.wrap (PF:Int)=(PF:Int):=IntWalk.i64_in _ (by omega)
          have HPF:=xQ hPF
          have j1:(0:Int)≤(f:Int):=by omega
          have j2:(f:Int)<(n:Int):=by omega
          by_cases hbf:u.testBit f=true
          ·have hand:bits .and .i64 (u:Int) (PF:Int)=(PF:Int):=by rw[hPF];exact aCt (by omega) (by omega) hbf
           have hpos:0<PF:=by rw[hPF];exact Nat.two_pow_pos f
           have t1:((PF:Int)!=0)=true:=by simp;omega
           have hnx:Hid (fT aA n P2 u (f+1)=fT aA n P2 u f):=by
            show _=_
            rw[nI,aJj (by rw[hP2.out,mN u hlt3];exact hbf),List.append_nil]
           clear hbf hPF
           go_wp2
           go_roundw
           case rel=>exact⟨f+1,q,l2,lc,B2,Q2,by omega,by go_num,rfl,HLQ2.out,by rw[hnx.out];exact HEQ.out,HM.out⟩
           case measure=>simp[intOf];omega
          ·have hbf:u.testBit f=false:=by simpa using hbf
           have hand:bits .and .i64 (u:Int) (PF:Int)=0:=by rw[hPF];exact aHh (by omega) (by omega) hbf
           have hbfm:(u%P2).testBit f=false:=by rw[hP2.out,mN u hlt3];exact hbf
           have HBF:=xQ hbf
           have HBFM:=xQ hbfm
           obtain⟨⟨rq,rn,rc,rxs⟩,hrow⟩: ∃r,rows[f]? =some r:=⟨_,List.getElem?_eq_getElem (by rw[HROW.out.1];exact hlt3)⟩
           obtain⟨hrn,hrx⟩:=HROW.out.2 f _ hrow
           dsimp only at hrn hrx
           have HROWF:=xQ hrow
           obtain⟨nb,hnb⟩: ∃nb,nb=aS aA n f:=⟨_,rfl⟩
           rw[←hnb]at hrn hrx
           have hnb12:nb.length≤n:=by rw[hnb];exact Nat.le_trans (List.length_filter_le _ _) (by simp)
           have HNB:=xQ hnb
           subst hrn hrx
           have cr0:wr.cell? ⟨w.heap.size+1,f,none⟩=some (.slice rq nb.length rc):=by
            have h7:=(HM.out.own (i:=3) rfl).cellAt f (by omega)
            rw[h7];exact aEi hrow
           have hnx:Hid (fT aA n P2 u (f+1)=fT aA n P2 u f++gH aA n P2 u f nb.length):=by
            show _=_
            rw[nI,aH3 hbfm,hnb]
           clear hbf hbfm hPF hrow hnb
           go_wp2
           clear cr0
           go_loopw [13,104] (fun v i wr=> ∃(j:Nat) (q:OA) (l3 lc:Nat) (B3:List Int) (Q3:List Nat),j≤nb.length∧i= .int .i64 (j:Int)∧v= .slice q l3 lc∧l3=Q3.length∧(B3,Q3)=bJ (u:Int) (B,Q) (fT aA n P2 u f++gH aA n P2 u f j)∧Mem w wr [aJ w.heap.size TI 1 (q) (l3) lc (ivs (bD (Q3))),aJ w.heap.size pV 1 (some ⟨gB,0,none⟩) N N (lB (B3)),fS w.heap.size TI 1 rows,aJ w.heap.size TSS 1 (some ⟨w.heap.size+1,0,none⟩) n n (fU n rows),aL w.heap.size (w.heap.size) TH3 #[aA,aB,.slice (some ⟨pb,po,none⟩) n cap]]) (fun _ i _=>nb.length-(intOf i).toNat)
           case atStart=>exact⟨0,q,l2,lc,B2,Q2,Nat.zero_le _,rfl,rfl,HLQ2.out,by rw[aB0,List.append_nil];exact HEQ.out,HM.out⟩
           case round=>
            clear HM
            obtain⟨j,q,l3,lc,B3,Q3,hj,rfl,rfl,hlq3,heq3,hM⟩:=hrel
            have hok3:SOk N B3 Q3:=by
             have:=SOk.expand (u:=(u:Int)) (by omega) (fT aA n P2 u f++gH aA n P2 u f j) HOK.out (fun v hv=>by
              rcases List.mem_append.1 hv with hv|hv
              ·exact HADJ.out u v huN (pK hf v hv)
              ·exact HADJ.out u v huN (tU hlt3 HBFM.out v hv))
             rw[←heq3]at this;exact this
            have HM:=xQ hM
            have HEQ3:=xQ heq3
            have HLQ3:=xQ hlq3
            have HOK3:=xQ hok3
            have hl3:l3≤N:=by rw[hlq3];exact hok3.qlen
            clear hM heq3 hlq3 hok3
            by_cases hlt4:j<nb.length
            ·obtain⟨t,htj⟩: ∃t,nb[j]? =some t:=⟨_,List.getElem?_eq_getElem hlt4⟩
             have htn:t<n:=(bM.1 (by rw[←HNB.out];exact List.mem_of_getElem? htj:t∈aS aA n f)).1
             have htj2:(aS aA n f)[j]? =some t:=by rw[←HNB.out];exact htj
             have hrok:wr.ownsRow w.heap.size TI 1 (.slice rq nb.length rc) nb.length (ivs (bD nb)):=HM.out.ok (fS w.heap.size TI 1 rows) (by simp) _ (List.mem_of_getElem? HROWF.out)
             obtain⟨gR,hgR⟩: ∃gR,rq=some ⟨gR,0,none⟩:=by
              rcases hrok.2 with⟨_,h3⟩|⟨g,_,_,h3,_⟩
              ·omega
              ·injection h3 with h3;exact⟨g,h3⟩
             subst hgR
             have ct:wr.cell? ⟨gR,j,none⟩=some (.int .i64 (t:Int)):=by
              have:=hrok.cellAt j (by omega);rw[this];simp[ivs,bD,htj]
             have HTJ:=xQ htj2
             clear htj htj2 hrok
             obtain⟨PT,hPT⟩: ∃PT:Nat,PT=2 ^ t:=⟨_,rfl⟩
             have hsht:(2:Int) ^ t=(PT:Int):=by rw[hPT];simp
             have hPTb:PT≤2048:=by rw[hPT];exact Nat.le_trans (Nat.pow_le_pow_right (by omega) (show t≤11 by omega)) (by decide)
             have hwt:IntKind.i64.wrap (PT:Int)=(PT:Int):=IntWalk.i64_in _ (by omega)
             have m1:(0:Int)≤(j:Int):=by omega
             have m2:(j:Int)<(nb.length:Int):=by omega
             have m3:(0:Int)≤(t:Int):=by omega
             have m4:(t:Int)<(n:Int):=by omega
             by_cases hbt:u.testBit t=true
             ·have hbtm:(u%P2).testBit t=true:=by rw[hP2.out,mN u htn];exact hbt
              have handt:bits .and .i64 (u:Int) (PT:Int)=(PT:Int):=by rw[hPT];exact aCt (by omega) (by omega) hbt
              have hposT:0<PT:=by rw[hPT];exact Nat.two_pow_pos t
              have t2:((PT:Int)==0)=false:=by simp;omega
              have hnxt:=aDn HTJ.out hbtm
              have hnN:eZ P2 (u/P2) (u%P2) f t<N:=HADJ.out u _ huN (tU (j:=j+1) hlt3 HBFM.out _ (by rw[hnxt];simp))
              have hno:=aHy (u:=u) (f:=f) (t:=t) hn (by rw[←hNN.out];exact huN) hlt3 htn HBF.out hbt (by rw[←hNN.out,←hP2.out];exact hnN)
              rw[←hP2.out,←HPF.out,←hPT]at hno
              generalize eZ P2 (u/P2) (u%P2) f t=nx at*
              have hrelx:fT aA n P2 u f++gH aA n P2 u f (j+1)=(fT aA n P2 u f++gH aA n P2 u f j)++ [nx]:=by rw[hnxt,List.append_assoc]
              have HREL:=xQ hrelx
              clear hnxt hrelx hbt hbtm hPT
              generalize u ^^^ 2 ^ f=X1 at*
              generalize cO u f t=mv at*
              generalize ((t:Int)-(f:Int))*(P2:Int)=D at*
              obtain⟨x1,x2,x3,x4,x5⟩:=hno
              have HNO:=xQ x3
              have HYES:=xQ x4
              have hsub:IntKind.i64.wrap ((t:Int)-(f:Int))=(t:Int)-(f:Int):=IntWalk.i64_in _ (by omega)
              clear x3 x4
              obtain⟨bn,hbn⟩: ∃bn,bn=B3.getD nx 0:=⟨_,rfl⟩
              have hbnm:=cW (D:=B3) (v:=nx) (by rw[HOK3.out.len];exact hnN)
              rw[←hbn]at hbnm
              have cn:wr.cell? ⟨gB,nx,none⟩=some (.int .i32 bn):=by
               have:=(HM.out.own (i:=1) rfl).cellAt nx (by omega);rw[this];exact wB hbnm.1
              have cnf:wr.frozen? ⟨gB,nx,none⟩=false:=(HM.out.own (i:=1) rfl).frozenAt nx
              have HBN:=xQ hbn
              clear hbn hbnm
              have m5:(0:Int)≤(nx:Int):=by omega
              have m6:(nx:Int)<(N:Int):=by omega
              have hu32:IntKind.i32.wrap (u:Int)=(u:Int):=aGs _ (by omega)
              by_cases hfc:f=cr
              ·have t3:((f:Int)==(cr:Int))=true:=by simp[hfc]
               have x4:IntKind.i64.wrap ((mv:Int)+D)=(nx:Int):=HYES.out (hfc.trans HCR.out)
               clear hfc
               by_cases hneg:bn<0
               ·have t4:decide (bn<0)=true:=by simp[hneg]
                have hrel2:Hid ((B3.set nx (u:Int),Q3++ [nx])=bJ (u:Int) (B,Q) (fT aA n P2 u f++gH aA n P2 u f (j+1))):=by
                 show _=_
                 rw[HREL.out,dG,←HEQ3.out,jC (by rw[←HBN.out];exact hneg)]
                have M6:=xQ (show Mem w (wr.setCell ⟨gB,nx,none⟩ (.int .i32 (u:Int))).drew [aJ w.heap.size TI 1 (q) (l3) lc (ivs (bD (Q3))),aJ w.heap.size pV 1 (some ⟨gB,0,none⟩) N N (lB (B3.set nx (u:Int))),fS w.heap.size TI 1 rows,aJ w.heap.size TSS 1 (some ⟨w.heap.size+1,0,none⟩) n n (fU n rows),aL w.heap.size (w.heap.size) TH3 #[aA,aB,.slice (some ⟨pb,po,none⟩) n cap]]from by rw[←oJ];exact(HM.out.ostore (i:=1) rfl nx (.int .i32 (u:Int))).adv (Ext.drew (Ext.refl _)))
                clear hneg HEQ3 HM
                go_upto_region 34 with fail
                go_region
                go_upto_region 39 with fail
                clear ct cn cnf
                generalize hw4:World.setCell _ _ _=w4
                rw[hw4]at M6
                clear hw4
                go_wp2_with (at_builtin;go_loud (refine bX eP rfl _ _ rfl (M6.out.adv ((Ext.refl _).alloc (.cells #[(nx:Int)] TI))) 0 rfl rfl (ivs [(nx:Int)]) rfl ((dM w4 #[(nx:Int)] TI 1 1 _ rfl rfl (by simp[maxLen])).ext (Ext.drew (Ext.refl _))) (fun u hu=>by obtain rfl:=List.mem_singleton.1 hu;rfl) (by omega) ?_;intro q7 c7 w6 M7))
                have M8:=xQ (show Mem w w6 [aJ w.heap.size TI 1 (q7) (l3+1) c7 (ivs (bD (Q3++ [nx]))),aJ w.heap.size pV 1 (some ⟨gB,0,none⟩) N N (lB (B3.set nx (u:Int))),fS w.heap.size TI 1 rows,aJ w.heap.size TSS 1 (some ⟨w.heap.size+1,0,none⟩) n n (fU n rows),aL w.heap.size (w.heap.size) TH3 #[aA,aB,.slice (some ⟨pb,po,none⟩) n cap]]from by rw[show ivs (bD (Q3++ [nx]))=ivs (bD Q3)++ivs [(nx:Int)] by simp[ivs,bD]];exact M7)
                clear M7 M6
                go_wp2
                go_roundw
                case rel=>exact⟨j+1,q7,l3+1,c7,B3.set nx (u:Int),Q3++ [nx],by omega,by go_num,rfl,by simp[HLQ3.out],hrel2.out,M8.out⟩
                case measure=>simp[intOf];omega
               ·have t4:decide (bn<0)=false:=by simp;omega
                have hrel2:Hid ((B3,Q3)=bJ (u:Int) (B,Q) (fT aA n P2 u f++gH aA n P2 u f (j+1))):=by
                 show _=_
                 rw[HREL.out,dG,←HEQ3.out,kM (by rw[←HBN.out];exact hneg)]
                clear hneg HEQ3
                go_upto_region 34 with fail
                go_region
                go_wp2
                go_roundw
                case rel=>exact⟨j+1,q,l3,lc,B3,Q3,by omega,by go_num,rfl,HLQ3.out,hrel2.out,HM.out.adv xE⟩
                case measure=>simp[intOf];omega
              ·have t3:((f:Int)==(cr:Int))=false:=by simp;omega
               have hmn:nx=mv:=(HNO.out (fun e=>hfc (e.trans HCR.out.symm))).symm
               subst hmn
               clear hfc
               by_cases hneg:bn<0
               ·have t4:decide (bn<0)=true:=by simp[hneg]
                have hrel2:Hid ((B3.set nx (u:Int),Q3++ [nx])=bJ (u:Int) (B,Q) (fT aA n P2 u f++gH aA n P2 u f (j+1))):=by
                 show _=_
                 rw[HREL.out,dG,←HEQ3.out,jC (by rw[←HBN.out];exact hneg)]
                have M6:=xQ (show Mem w (wr.setCell ⟨gB,nx,none⟩ (.int .i32 (u:Int))).drew [aJ w.heap.size TI 1 (q) (l3) lc (ivs (bD (Q3))),aJ w.heap.size pV 1 (some ⟨gB,0,none⟩) N N (lB (B3.set nx (u:Int))),fS w.heap.size TI 1 rows,aJ w.heap.size TSS 1 (some ⟨w.heap.size+1,0,none⟩) n n (fU n rows),aL w.heap.size (w.heap.size) TH3 #[aA,aB,.slice (some ⟨pb,po,none⟩) n cap]]from by rw[←oJ];exact(HM.out.ostore (i:=1) rfl nx (.int .i32 (u:Int))).adv (Ext.drew (Ext.refl _)))
                clear hneg HEQ3 HM
                go_upto_region 34 with fail
                go_region
                go_upto_region 39 with fail
                clear ct cn cnf
                generalize hw4:World.setCell _ _ _=w4
                rw[hw4]at M6
                clear hw4
                go_wp2_with (at_builtin;go_loud (refine bX eP rfl _ _ rfl (M6.out.adv ((Ext.refl _).alloc (.cells #[(nx:Int)] TI))) 0 rfl rfl (ivs [(nx:Int)]) rfl ((dM w4 #[(nx:Int)] TI 1 1 _ rfl rfl (by simp[maxLen])).ext (Ext.drew (Ext.refl _))) (fun u hu=>by obtain rfl:=List.mem_singleton.1 hu;rfl) (by omega) ?_;intro q7 c7 w6 M7))
                have M8:=xQ (show Mem w w6 [aJ w.heap.size TI 1 (q7) (l3+1) c7 (ivs (bD (Q3++ [nx]))),aJ w.heap.size pV 1 (some ⟨gB,0,none⟩) N N (lB (B3.set nx (u:Int))),fS w.heap.size TI 1 rows,aJ w.heap.size TSS 1 (some ⟨w.heap.size+1,0,none⟩) n n (fU n rows),aL w.heap.size (w.heap.size) TH3 #[aA,aB,.slice (some ⟨pb,po,none⟩) n cap]]from by rw[show ivs (bD (Q3++ [nx]))=ivs (bD Q3)++ivs [(nx:Int)] by simp[ivs,bD]];exact M7)
                clear M7 M6
                go_wp2
                go_roundw
                case rel=>exact⟨j+1,q7,l3+1,c7,B3.set nx (u:Int),Q3++ [nx],by omega,by go_num,rfl,by simp[HLQ3.out],hrel2.out,M8.out⟩
                case measure=>simp[intOf];omega
               ·have t4:decide (bn<0)=false:=by simp;omega
                have hrel2:Hid ((B3,Q3)=bJ (u:Int) (B,Q) (fT aA n P2 u f++gH aA n P2 u f (j+1))):=by
                 show _=_
                 rw[HREL.out,dG,←HEQ3.out,kM (by rw[←HBN.out];exact hneg)]
                clear hneg HEQ3
                go_upto_region 34 with fail
                go_region
                go_wp2
                go_roundw
                case rel=>exact⟨j+1,q,l3,lc,B3,Q3,by omega,by go_num,rfl,HLQ3.out,hrel2.out,HM.out.adv xE⟩
                case measure=>simp[intOf];omega
             ·have hbt:u.testBit t=false:=by simpa using hbt
              have handt:bits .and .i64 (u:Int) (PT:Int)=0:=by rw[hPT];exact aHh (by omega) (by omega) hbt
              have hnxt:=xQ (aG0 HTJ.out (show(u%P2).testBit t=false by rw[hP2.out,mN u htn];exact hbt))
              clear hbt hPT
              go_wp2
              go_roundw
              case rel=>exact⟨j+1,q,l3,lc,B3,Q3,by omega,by go_num,rfl,HLQ3.out,by rw[hnxt.out];exact HEQ3.out,HM.out⟩
              case measure=>simp[intOf];omega
            ·obtain rfl:nb.length=j:=by omega
             go_wp2
             go_roundw
             case rel=>exact⟨f+1,q,l3,lc,B3,Q3,by omega,by go_num,rfl,HLQ3.out,by rw[hnx.out];exact HEQ3.out,HM.out⟩
             case measure=>simp[intOf];omega
         ·obtain rfl:n=f:=by omega
          have hrun2:Hid (SRun adj (fun v=>v/P2=0) N S (k+1) B2 Q2):=by
           show SRun _ _ _ _ _ _ _
           have h7:=SRun.step HRUN.out HU.out hHU.out
           have h8:=HEQ.out
           rw[tV,←(show adj u=lF aA n P2 u by rw[hadj.out])]at h8
           rw[←h8]at h7
           exact h7
          have hl2N:l2≤N:=by rw[HLQ2.out];exact HOK2.out.qlen
          have hkl2:k+1≤l2:=by
           have h8:=HEQ.out
           obtain⟨r,h9,_⟩:=lZ (u:Int) (fT aA n P2 u n) B Q
           rw[←h8]at h9
           dsimp only at h9
           rw[HLQ2.out,h9,List.length_append]
           have:=HLQ.out
           omega
          go_wp2
          go_roundw
          case rel=>exact⟨k+1,q,l2,lc,B2,Q2,hkl2,by go_num,rfl,HLQ2.out,hl2N,hrun2.out,HM.out⟩
          case measure=>simp[intOf];omega
      ·have hend:=xQ (HEND.out k B Q HRUN.out (by rw[←HLQ.out];omega))
       have hX:=xQ HM.out.ext
       clear HM
       go_wp2
       exact bodyPost_ret (v:= .tuple #[((),()),.bool false]) (by simp[results,Tryz.results179,go_sem]) rfl (by rw[hend.out];exact⟨_,rfl,hX.out⟩)
theorem aE3 (aA aB:Int)(p:OA)(cap:Nat)(f t:Int)(xs:List Int)(w:World)(hn0:4≤xs.length)(hn:xs.length≤12)
  (HV:xB 80 #[aI aA aB p xs.length cap] w true)
  (HK:Hid (∀w',Ext w w'→Calls Tryz.prog 105 #[aI aA aB p xs.length cap] w' (dF aA aB xs w')))
  (HM:xB 118 #[aI aA aB p xs.length cap,dK f t] w false):
  Calls Tryz.prog 70 #[aI aA aB p xs.length cap,dK f t] w (cJ aA aB xs false w):=by
 go_enter Tryz.func70,Tryz.ntmps70
 go_wp2_with fail
 refine(HV.out _ (Mem.b3t w).ext).mono ?_
 rintro e w1 ⟨rfl,hx1⟩
 have M1:=xQ ((Mem.b3t w).adv hx1)
 have lt1_0:=M1.out.hi 0
 have lt1_1:=M1.out.hi 1
 have lt1_2:=M1.out.hi 2
 clear hx1
 obtain⟨h0,h1,h2⟩:=((M1.out.blk (i:=2) rfl)).tri
 go_wp2_with fail
 clear h0 h1 h2
 refine(HK.out _ M1.out.ext).mono ?_
 rintro e w2 ⟨q,c2,rfl,ho2,hx2⟩
 have M2:=xQ ((M1.out).call hx2 ho2)
 clear M1 lt1_0 lt1_1 lt1_2
 have lt2_1:=M2.out.hi 1
 have lt2_2:=M2.out.hi 2
 have lt2_3:=M2.out.hi 3
 clear hx2 ho2
 obtain⟨g,rfl,hg1,hg2⟩:=M2.out.some (i:=0) rfl (by omega)
 obtain⟨h0,h1,h2⟩:=((M2.out.blk (i:=3) rfl)).tri
 have s0:w2.cell? ⟨w.heap.size+1,0,none⟩=some (.int .i64 f):=(M2.out.blk (i:=2) rfl).cell 0
 have s1:w2.cell? ⟨w.heap.size+1,1,none⟩=some (.int .i64 t):=(M2.out.blk (i:=2) rfl).cell 1
 go_wp2_with fail
 clear h0 h1 h2 s0 s1
 refine(HM.out _ (((M2.out).blkNew TH3 #[aA,aB,.slice (some ⟨g,0,none⟩) xs.length c2] (w2.heap.size) (by simp))).ext).mono ?_
 rintro e w3 ⟨rfl,hx3⟩
 have M3:=xQ ((((M2.out).blkNew TH3 #[aA,aB,.slice (some ⟨g,0,none⟩) xs.length c2] (w2.heap.size) (by simp))).adv hx3)
 clear M2 lt2_1 lt2_2 lt2_3
 have lt3_0:=M3.out.hi 0
 have lt3_2:=M3.out.hi 2
 have lt3_3:=M3.out.hi 3
 have lt3_4:=M3.out.hi 4
 clear hx3
 obtain⟨v0,v1,v2⟩:=((M3.out.blk (i:=0) rfl)).tri
 obtain⟨z0,zf0,z1,zf1,z2,zf2⟩:=((M3.out.blk (i:=2) rfl)).trif
 have ne0_1a: ¬(w2.heap.size=w.heap.size+2):=M3.out.ne (i:=0) (j:=2) (by omega) rfl rfl rfl rfl
 have ne0_1b: ¬(w.heap.size+2=w2.heap.size):=fun h=>ne0_1a h.symm
 go_wp2
 have M4:=xQ (((((M3.out).st 2 0 (.int .i64 aA))).st 2 1 (.int .i64 aB)))
 have M5:=xQ (((M4.out).st 2 2 (.slice (some ⟨g,0,none⟩) xs.length c2)))
 have M6:=xQ (show Mem w (((w3.setCell ⟨w.heap.size+2,0,none⟩ (.int .i64 aA)).setCell ⟨w.heap.size+2,1,none⟩ (.int .i64 aB)).setCell ⟨w.heap.size+2,2,none⟩ (.slice (some ⟨g,0,none⟩) xs.length c2)) [aL w.heap.size (w2.heap.size) TH3 #[aA,aB,.slice (some ⟨g,0,none⟩) xs.length c2],aJ w.heap.size TI 1 (some ⟨g,0,none⟩) (xs.length) (c2) (ivs xs),aL w.heap.size (w.heap.size+2) TH3 #[aA,aB,.slice (some ⟨g,0,none⟩) xs.length c2],aL w.heap.size (w.heap.size+1) TSL #[f,t],aL w.heap.size (w.heap.size) TH3 #[aA,aB,.slice p xs.length cap]]from M5.out)
 generalize hwz:World.setCell _ _ _=wz
 rw[hwz]at M6
 clear hwz M3 M4 M5 v0 v1 v2 z0 zf0 z1 zf1 z2 zf2 ne0_1a ne0_1b
 obtain⟨y0,y1,y2⟩:=((M6.out.blk (i:=2) rfl)).tri
 exact bodyPost_ret (v:= .tuple #[.agg #[aA,aB,.slice (some ⟨g,0,none⟩) xs.length c2],.bool false]) (by simp[results,Tryz.results70,go_sem, *]) rfl (dN (by simp) (by exact(M6.out.own (i:=1) rfl)) M6.out.ext)
theorem aBe (aA aB:Int)(cap i j b off:Nat)(x yj:Int)(xs:List Int)(w:World)(hn0:4≤xs.length)(hn:xs.length≤12)(hi:i<xs.length)(hj:j<xs.length)(hij:i≠j)(HX:Hid (xs[i]? =some x)) (HY:Hid (xs[j]? =some yj))
  (hb:b<w.heap.size) (HCX:Hid (w.cell? ⟨b,off+i,none⟩=some (.int .i64 x)))
  (HV:xB 80 #[aI aA aB (some ⟨b,off,none⟩) xs.length cap] w true)
  (HK:Hid (∀w',Ext w w'→Calls Tryz.prog 105 #[aI aA aB (some ⟨b,off,none⟩) xs.length cap] w' (dF aA aB xs w')))
  (HM:xB 118 #[aI aA aB (some ⟨b,off,none⟩) xs.length cap,dK (i:Int) (j:Int)] w true):
  Calls Tryz.prog 70 #[aI aA aB (some ⟨b,off,none⟩) xs.length cap,dK (i:Int) (j:Int)] w (cJ aA aB ((xs.set j x).set i 0) true w):=by
 have a1:(0:Int)≤(i:Int):=by omega
 have a2:(0:Int)≤(j:Int):=by omega
 have a3:(i:Int)<(xs.length:Int):=by omega
 have a4:(j:Int)<(xs.length:Int):=by omega
 go_enter Tryz.func70,Tryz.ntmps70
 go_wp2_with fail
 refine(HV.out _ (Mem.b3t w).ext).mono ?_
 rintro e w1 ⟨rfl,hx1⟩
 have M1:=xQ ((Mem.b3t w).adv hx1)
 have lt1_0:=M1.out.hi 0
 have lt1_1:=M1.out.hi 1
 have lt1_2:=M1.out.hi 2
 clear hx1
 obtain⟨h0,h1,h2⟩:=((M1.out.blk (i:=2) rfl)).tri
 go_wp2_with fail
 clear h0 h1 h2
 refine(HK.out _ M1.out.ext).mono ?_
 rintro e w2 ⟨q,c2,rfl,ho2,hx2⟩
 have M2:=xQ ((M1.out).call hx2 ho2)
 clear M1 lt1_0 lt1_1 lt1_2
 have lt2_1:=M2.out.hi 1
 have lt2_2:=M2.out.hi 2
 have lt2_3:=M2.out.hi 3
 clear hx2 ho2
 obtain⟨g,rfl,hg1,hg2⟩:=M2.out.some (i:=0) rfl (by omega)
 obtain⟨h0,h1,h2⟩:=((M2.out.blk (i:=3) rfl)).tri
 have s0:w2.cell? ⟨w.heap.size+1,0,none⟩=some (.int .i64 (i:Int)):=(M2.out.blk (i:=2) rfl).cell 0
 have s1:w2.cell? ⟨w.heap.size+1,1,none⟩=some (.int .i64 (j:Int)):=(M2.out.blk (i:=2) rfl).cell 1
 go_wp2_with fail
 clear h0 h1 h2 s0 s1
 refine(HM.out _ (((M2.out).blkNew TH3 #[aA,aB,.slice (some ⟨g,0,none⟩) xs.length c2] (w2.heap.size) (by simp))).ext).mono ?_
 rintro e w3 ⟨rfl,hx3⟩
 have M3:=xQ ((((M2.out).blkNew TH3 #[aA,aB,.slice (some ⟨g,0,none⟩) xs.length c2] (w2.heap.size) (by simp))).adv hx3)
 clear M2 lt2_1 lt2_2 lt2_3
 have lt3_0:=M3.out.hi 0
 have lt3_2:=M3.out.hi 2
 have lt3_3:=M3.out.hi 3
 have lt3_4:=M3.out.hi 4
 clear hx3
 obtain⟨v0,v1,v2⟩:=((M3.out.blk (i:=0) rfl)).tri
 obtain⟨h0,h1,h2⟩:=((M3.out.blk (i:=4) rfl)).tri
 have s0:w3.cell? ⟨w.heap.size+1,0,none⟩=some (.int .i64 (i:Int)):=(M3.out.blk (i:=3) rfl).cell 0
 have s1:w3.cell? ⟨w.heap.size+1,1,none⟩=some (.int .i64 (j:Int)):=(M3.out.blk (i:=3) rfl).cell 1
 have cx:w3.cell? ⟨b,off+i,none⟩=some (.int .i64 x):=(M3.out.ext.cells.1 _ _ hb).trans HCX.out
 have gj:w3.cell? ⟨g,j,none⟩=some (.int .i64 yj):=by have:=(M3.out.own (i:=1) rfl).cellAt j (by omega);rw[this];simpa[ivs]using HY.out
 have gi:w3.cell? ⟨g,i,none⟩=some (.int .i64 x):=by have:=(M3.out.own (i:=1) rfl).cellAt i (by omega);rw[this];simpa[ivs]using HX.out
 have gjf:w3.frozen? ⟨g,j,none⟩=false:=(M3.out.own (i:=1) rfl).frozenAt j
 have gif:w3.frozen? ⟨g,i,none⟩=false:=(M3.out.own (i:=1) rfl).frozenAt i
 have nc0_1a: ¬(w2.heap.size=g):=M3.out.ne (i:=0) (j:=1) (by omega) rfl rfl rfl rfl
 have nc0_1b: ¬(g=w2.heap.size):=fun h=>nc0_1a h.symm
 have nd0_1a: ¬(g=w.heap.size):=M3.out.ne (i:=1) (j:=4) (by omega) rfl rfl rfl rfl
 have nd0_1b: ¬(w.heap.size=g):=fun h=>nd0_1a h.symm
 have nf0_1a: ¬(g=w.heap.size+1):=M3.out.ne (i:=1) (j:=3) (by omega) rfl rfl rfl rfl
 have nf0_1b: ¬(w.heap.size+1=g):=fun h=>nf0_1a h.symm
 have nb1: ¬(g=b):=by have:=M3.out.ext.sz;omega
 have nb2: ¬(b=g):=fun e=>nb1 e.symm
 have nij: ¬(i=j):=hij
 have nji: ¬(j=i):=fun e=>hij e.symm
 go_wp2
 go_region_held3 (fun w'=>w'.cell? ⟨w2.heap.size,2,none⟩=some (.slice (some ⟨g,0,none⟩) xs.length c2)∧w'.cell? ⟨w.heap.size,2,none⟩=some (.slice (some ⟨b,off,none⟩) xs.length cap)∧w'.cell? ⟨w.heap.size+1,0,none⟩=some (.int .i64 (i:Int))∧w'.cell? ⟨w.heap.size+1,1,none⟩=some (.int .i64 (j:Int))∧w'.cell? ⟨b,off+i,none⟩=some (.int .i64 x)) (first|(refine⟨?_,?_,?_,?_,?_⟩<;>assumption)|go_keep) (first|fail)
 clear v0 v1 v2 h0 h1 h2 s0 s1 nc0_1a nc0_1b nd0_1a nd0_1b nf0_1a nf0_1b cx gj gi gjf gif nb1 nb2 nij nji
 have MX:=xQ (show Mem w ((w3.setCell ⟨g,j,none⟩ (.int .i64 x)).setCell ⟨g,i,none⟩ (.int .i64 0)) [aL w.heap.size (w2.heap.size) TH3 #[aA,aB,.slice (some ⟨g,0,none⟩) xs.length c2],aJ w.heap.size TI 1 (some ⟨g,0,none⟩) (xs.length) (c2) (ivs ((xs.set j x).set i 0)),aL w.heap.size (w.heap.size+2) TH3 #[(),(),((),())],aL w.heap.size (w.heap.size+1) TSL #[(i:Int),(j:Int)],aL w.heap.size (w.heap.size) TH3 #[aA,aB,.slice (some ⟨b,off,none⟩) xs.length cap]]from by rw[←dI,←dI];exact(M3.out.ostore (i:=1) rfl j (.int .i64 x)).ostore (i:=1) rfl i (.int .i64 0))
 have MY:=xQ (MX.out.adv (Ext.drew (Ext.refl _)))
 generalize hw4:World.drew _=w4
 rw[hw4]at MY
 clear hw4 MX M3 lt3_0 lt3_2 lt3_3 lt3_4
 have lt8_0:w2.heap.size<w4.heap.size:=(MY.out.lt (i:=0) rfl rfl).2
 have lt8_2:w.heap.size+2<w4.heap.size:=(MY.out.lt (i:=2) rfl rfl).2
 have lt8_3:w.heap.size+1<w4.heap.size:=(MY.out.lt (i:=3) rfl rfl).2
 have lt8_4:w.heap.size<w4.heap.size:=(MY.out.lt (i:=4) rfl rfl).2
 obtain⟨v0,v1,v2⟩:=((MY.out.blk (i:=0) rfl)).tri
 obtain⟨z0,zf0,z1,zf1,z2,zf2⟩:=((MY.out.blk (i:=2) rfl)).trif
 have ne0_1a: ¬(w2.heap.size=w.heap.size+2):=MY.out.ne (i:=0) (j:=2) (by omega) rfl rfl rfl rfl
 have ne0_1b: ¬(w.heap.size+2=w2.heap.size):=fun h=>ne0_1a h.symm
 go_wp2
 have M9:=xQ (((((MY.out).st 2 0 (.int .i64 aA))).st 2 1 (.int .i64 aB)))
 have M10:=xQ (((M9.out).st 2 2 (.slice (some ⟨g,0,none⟩) xs.length c2)))
 have M11:=xQ (show Mem w (((w4.setCell ⟨w.heap.size+2,0,none⟩ (.int .i64 aA)).setCell ⟨w.heap.size+2,1,none⟩ (.int .i64 aB)).setCell ⟨w.heap.size+2,2,none⟩ (.slice (some ⟨g,0,none⟩) xs.length c2)) [aL w.heap.size (w2.heap.size) TH3 #[aA,aB,.slice (some ⟨g,0,none⟩) xs.length c2],aJ w.heap.size TI 1 (some ⟨g,0,none⟩) (xs.length) (c2) (ivs ((xs.set j x).set i 0)),aL w.heap.size (w.heap.size+2) TH3 #[aA,aB,.slice (some ⟨g,0,none⟩) xs.length c2],aL w.heap.size (w.heap.size+1) TSL #[(i:Int),(j:Int)],aL w.heap.size (w.heap.size) TH3 #[aA,aB,.slice (some ⟨b,off,none⟩) xs.length cap]]from M10.out)
 generalize hwz:World.setCell _ _ _=wz
 rw[hwz]at M11
 clear hwz MY M9 M10 v0 v1 v2 z0 zf0 z1 zf1 z2 zf2 ne0_1a ne0_1b
 obtain⟨y0,y1,y2⟩:=((M11.out.blk (i:=2) rfl)).tri
 exact bodyPost_ret (v:= .tuple #[.agg #[aA,aB,.slice (some ⟨g,0,none⟩) xs.length c2],.bool true]) (by simp[results,Tryz.results70,go_sem, *]) rfl (dN (by simp) (by exact(M11.out.own (i:=1) rfl)) M11.out.ext)
theorem tZ (aA aB f t:Int)(p:OA)(n cap:Nat)(xs:List Int)(w:World)(hS:Sl w p n cap 1 (ivs xs))(hok:aP aA aB xs=true):
  Calls Tryz.prog 70 #[aI aA aB p n cap,dK f t] w (cJ aA aB (bE aA aB xs f t) (bC aA aB xs f t) w):=by
 have hl:=hS.ilen
 subst hl
 obtain⟨g1,g2,g3,g4,g5,g6,g7,g8,g9⟩:=bN hok
 have HV:=fun(w':World) (hx:Ext w w')=>fJ aA aB p xs.length cap xs w' (hS.ext hx)
 rw[hok]at HV
 have HK:=fun(w':World) (hx:Ext w w')=>jN aA aB p xs.length cap xs w' (by omega) (hS.ext hx)
 have HM:=fun(w':World) (hx:Ext w w')=>aIv aA aB f t p xs.length cap xs w' (hS.ext hx) hok
 unfold bE
 cases h:bC aA aB xs f t with
 |false=>rw[h]at HM;exact aE3 aA aB p cap f t xs w g5 g6 HV HK HM
 |true=>
  rw[h]at HM
  obtain⟨k1,k2,k3,k4,k5,k6,k7,k8,k9⟩:=jI h
  obtain⟨i,rfl⟩: ∃i:Nat,f=(i:Int):=⟨f.toNat,by omega⟩
  obtain⟨j,rfl⟩: ∃j:Nat,t=(j:Int):=⟨t.toNat,by omega⟩
  obtain⟨b,off,rfl,hb,hcc⟩:=hS.rd (by omega)
  have hxi:xs[i]? =some (xs.getD i 0):=by rw[List.getD_eq_getElem?_getD,List.getElem?_eq_getElem (by omega)];rfl
  have hxj:xs[j]? =some (xs.getD j 0):=by rw[List.getD_eq_getElem?_getD,List.getElem?_eq_getElem (by omega)];rfl
  rw[if_pos rfl,Int.toNat_natCast,Int.toNat_natCast]
  exact aBe aA aB cap i j b off _ _ xs w g5 g6 (by omega) (by omega) (by omega) hxi hxj hb (xQ (show w.cell? ⟨b,off+i,none⟩=some (.int .i64 (xs.getD i 0)) by rw[hcc i (by omega)];simp only[ivs,List.getElem?_map,hxi,Option.map_some])) HV HK HM
end Go.Proofs.YtgnkoffndhmhpaaGreatDoor
