/-
  Texts of this proof, packed (@packed).
-/
import Derived.Deep.OwnRows
import Derived.Test.YtpelpnfhbepokaaGreatDoorU8
import Derived.Test.YtpelpnfhbepokaaGreatDoorU12
import Derived.Test.YtpelpnfhbepokaaGreatDoorU17
import Derived.Test.YtpelpnfhbepokaaGreatDoorU24
import Derived.Test.YtpelpnfhbepokaaGreatDoorU25
import Derived.Test.YtpelpnfhbepokaaGreatDoorU27
namespace Go.Proofs.YtpelpnfhbepokaaGreatDoor
open Go.RowKit
set_option linter.unusedVariables false
set_option linter.unusedSimpArgs false
set_option maxHeartbeats 8000000
set_option maxRecDepth 100000
abbrev sO:TypeId:=21
theorem aKc (x:Int)(h: -2147483648≤x∧x≤2147483647):IntKind.i32.wrap x=x:=by simp[IntKind.wrap,IntKind.signed,IntKind.bits];omega
theorem aKa (aA aB:Int)(pb po:Nat)(n cap N P2 c C0 st:Nat)(xs:List Int)(pf:Nat→Bool)(adj:Nat→List Nat)(w:World)(d5:4≤n)(hn:n≤12)(cm:Hid (xs.length=n))(dm:pb<w.heap.size)(hE:Hid (BitTab w))(cb:N≤49152)(bp:n≤N)(dq:C0≤12*4096)
  (ag:Hid (P2=2 ^ n))(cc:Hid (N=n*2 ^ n))(ca:Hid (C0=c*2 ^ n))(cy:Hid (st=C0+iS pf n))(cz:st<N)
  (dw:(2:Int) ^ n=(P2:Int))(d2:IntKind.i64.wrap ((c:Int)*(P2:Int))=(C0:Int))(d6:IntKind.i64.wrap ((n:Int)*(P2:Int))=(N:Int))
  (dn:Hid (∀k x,xs[k]? =some x→pf k=decide (x=0))) (cf:Hid (adj=fun u=>mY aA n P2 u))
  (da:Hid (∀k x,xs[k]? =some x→w.cell? ⟨pb,po+k,none⟩=some (.int .i64 x)))
  (HC:Hid (∀(k:Nat),k<n→ ∀w',Ext w w'→Calls Tryz.prog 214 #[aH aA aB (some ⟨pb,po,none⟩) n cap,(k:Int)] w' (bH (bA (aP aA n k)) w')))
  (ad:Hid (∀u v,u<N→v∈mY aA n P2 u→v<N))
  (b1:Hid (∀k B Q,SRun adj (fun v=>v/P2=0) N st k B Q→SOk N B Q))
  (HG:Hid (∀k u B Q,SRun adj (fun v=>v/P2=0) N st k B Q→Q[k]? =some u→u/P2=0→ ∃(d:Nat) (code:Nat→Nat) (e:Nat→Nat×Nat),d≤60∧Trail n N d B code e∧code 0=st∧code d=u∧dH aA xs c=some ((List.range d).map (fun i=>iR (e i)))))
  (bx:Hid (∀k B Q,SRun adj (fun v=>v/P2=0) N st k B Q→Q.length≤k→dH aA xs c=none)):
  Calls Tryz.prog 191 #[aH aA aB (some ⟨pb,po,none⟩) n cap,(c:Int)] w (jG (dH aA xs c) w):=by
 obtain⟨AR,a3⟩: ∃AR:Array Value,AR=madeCells #[((),())] n:=⟨_,rfl⟩
 have dj: ∀w:World,(Instr.makeSlice 213 (.int .i64 (n:Int)) (.int .i64 (n:Int))).run Tryz.prog w= .ok (.slice (some ⟨w.heap.size,0,none⟩) n n) (w.alloc (.cells AR TSS)):=fun w=>by rw[a3];exact run_make_row' _ _ (.slice none 0 0) 24 Tryz.underlying213 (by kernel_rfl) rfl .i64 .i64 n (by omega) (by omega) w
 have b6:Hid (AR.toList=gW n []):=by show _=_;rw[a3,(mA _ n).1];simp[gW]
 have b7:Hid (AR.size=n):=by show _=_;rw[a3];exact(mA _ n).2
 obtain⟨AB,a2⟩: ∃AB:Array Value,AB=madeCells #[.int .i32 0] N:=⟨_,rfl⟩
 have cq: ∀w:World,(Instr.makeSlice 221 (.int .i64 (N:Int)) (.int .i64 (N:Int))).run Tryz.prog w= .ok (.slice (some ⟨w.heap.size,0,none⟩) N N) (w.alloc (.cells AB sO)):=fun w=>by rw[a2];exact run_make_row' _ _ (.int .i32 0) 4 Tryz.underlying221 (by kernel_rfl) rfl .i64 .i64 N (by omega) (by omega) w
 have b8:Hid (AB.toList=mS (List.replicate N 0)):=by show _=_;rw[a2,(mA _ N).1];simp[mS]
 have b9:Hid (AB.size=N):=by show _=_;rw[a2];exact(mA _ N).2
 clear a3 a2;go_enter Tryz.func191,Tryz.ntmps191;go_upto_region 4 with fail
 have ME:=(show Mem w ((w.alloc (.cells #[aA,aB,.slice (some ⟨pb,po,none⟩) n cap] TH3)).alloc (.cells AR TSS)) [gQ w.heap.size TI 1 [],aI w.heap.size TSS 1 (some ⟨w.heap.size+1,0,none⟩) n n (gW n []),aJ w.heap.size (w.heap.size) TH3 #[aA,aB,.slice (some ⟨pb,po,none⟩) n cap]]from by
  have h1:=((Mem.start w).c0 TH3 #[aA,aB,.slice (some ⟨pb,po,none⟩) n cap]).lit TSS 1 n (w.heap.size+1) AR (by simp) (by rw[b7.out];omega) (by simp[maxLen];omega);rw[b6.out]at h1
  exact h1.rows0 rfl)
 clear b6 b7 dj;have e0:=(ME.bk 2).tri;obtain⟨h0,h1,h2⟩:=e0;go_wp2;clear h0 h1 h2;go_loopw [8,32] (fun s i wr=> ∃(k S:Nat) (rows:List RowD),k≤n∧i= .int .i64 (k:Int)∧s= .int .i64 (S:Int)∧S=C0+iS pf k∧oU aA n k rows∧Mem w wr [gQ w.heap.size TI 1 rows,aI w.heap.size TSS 1 (some ⟨w.heap.size+1,0,none⟩) n n (gW n rows),aJ w.heap.size (w.heap.size) TH3 #[aA,aB,.slice (some ⟨pb,po,none⟩) n cap]]) (fun _ i _=>n-(intOf i).toNat)
 case atStart=>exact⟨0,C0,[],Nat.zero_le _,rfl,rfl,rfl,⟨rfl,fun j r h=>by simp at h⟩,ME⟩
 case round=>
  clear ME;obtain⟨k,S,rows,hk,rfl,rfl,hS,aq,hM⟩:=hrel;have HM:=hM;have HR:=xQ aq;have HS:=xQ hS;have dh:S<12*4096+4096:=by have h1:=oH pf k;have h2:2 ^ k≤2 ^ 12:=Nat.pow_le_pow_right (n:=2) (by omega) (by omega);omega
  clear hM aq hS;have c2:=(HM.hi 2)
  by_cases hlt:k<n
  ·obtain⟨x,hx⟩: ∃x,xs[k]? =some x:=⟨_,List.getElem?_eq_getElem (by rw[cm.out];exact hlt)⟩
   have i1:(0:Int)≤(k:Int):=by omega
   have i2:(k:Int)<(n:Int):=by omega
   have cx:wr.cell? ⟨pb,po+k,none⟩=some (.int .i64 x):=(HM.ext.cells.1 _ _ dm).trans (da k x hx);obtain⟨h0,h1,h2⟩:=(HM.bk 2).tri;have a1:=xQ (dn.out k x hx);clear hx;have cw:=HR.out.1;obtain⟨nb,o⟩: ∃nb,nb=aP aA n k:=⟨_,rfl⟩
   have ah:=xQ o;have bw:Hid (∀w',Ext w w'→Calls Tryz.prog 214 #[aH aA aB (some ⟨pb,po,none⟩) n cap,(k:Int)] w' (bH (bA nb) w')):=by rw[o];exact HC k hlt
   have cs:(bA nb).length=nb.length:=by simp[bA]
   clear o;go_wp2_with fail;clear h0 h1 h2 cx c2;refine(bw _ HM.ext).mono ?_;rintro e w5 ⟨q5,c5,rfl,o5,aw⟩;rw[cs]at o5⊢;have M5:=((HM.call aw o5).rowsAdd rfl)
   clear o5 aw HM bw;have co:w5.cell? ⟨w.heap.size+1,k,none⟩=some (.slice none 0 0):=by have h7:=(M5.ow 1).cellAt k (by omega);rw[h7];have h8:=aKe (n:=n) (rows:=rows) (by omega);rw[cw]at h8;exact h8
   have db:w5.frozen? ⟨w.heap.size+1,k,none⟩=false:=(M5.ow 1).frozenAt k
   have cd:=xQ (show oU aA n (k+1) (rows++ [⟨q5,nb.length,c5,ivs (bA nb)⟩])from by
    have h7:=tG (q:=q5) (c:=c5) HR.out;rw[←ah.out]at h7
    exact h7)
   have M6:=(show Mem w (w5.setCell ⟨w.heap.size+1,k,none⟩ (.slice q5 nb.length c5)) [gQ w.heap.size TI 1 (rows++ [⟨q5,nb.length,c5,ivs (bA nb)⟩]),aI w.heap.size TSS 1 (some ⟨w.heap.size+1,0,none⟩) n n (gW n (rows++ [⟨q5,nb.length,c5,ivs (bA nb)⟩])),aJ w.heap.size (w.heap.size) TH3 #[aA,aB,.slice (some ⟨pb,po,none⟩) n cap]]from by
    have h7:=aI0 (n:=n) (rows:=rows) (by omega) ⟨q5,nb.length,c5,ivs (bA nb)⟩;rw[←h7,cw]
    exact M5.ostore (i:=1) rfl k (.slice q5 nb.length c5))
   clear M5 HR ah;go_upto_region 8 with fail;clear co db;generalize c1:World.setCell _ _ _=w6;rw[c1]at M6;clear c1;by_cases hx0:x=0
   ·have t0:(x==0)=true:=by simp[hx0]
    have ab:=a1.out;rw[decide_eq_true hx0]at ab;obtain⟨PK,a4⟩: ∃PK:Nat,PK=2 ^ k:=⟨_,rfl⟩
    have d8:(2:Int) ^ k=(PK:Int):=by rw[a4];simp
    have d1:PK≤2048:=by rw[a4];exact Nat.le_trans (Nat.pow_le_pow_right (by omega) (show k≤11 by omega)) (by decide)
    have bv:IntKind.i64.wrap (PK:Int)=(PK:Int):=IntWalk.i64_in _ (by omega);obtain⟨S2,bi⟩: ∃S2,S2=C0+iS pf (k+1):=⟨_,rfl⟩
    have d7:bits .or .i64 (S:Int) (PK:Int)=(S2:Int):=by rw[aF8 S PK (by omega) (by omega),a4,HS.out,ca.out,aJ8 hlt ab,bi,ca.out]
    have bh:=xQ bi;clear ab a4 hx0 bi;go_wp2;go_roundw
    case rel=>exact⟨k+1,S2,_,by omega,by go_num,rfl,bh.out,cd.out,M6⟩
    case measure=>simp[intOf];omega
   have t0:(x==0)=false:=by simp[hx0]
   have ab:=a1.out;rw[decide_eq_false hx0]at ab;have bh:=xQ (show S=C0+iS pf (k+1) by rw[aJ9 ab];exact HS.out);clear ab hx0;go_wp2;go_roundw
   case rel=>exact⟨k+1,S,_,by omega,by go_num,rfl,bh.out,cd.out,M6⟩
   case measure=>simp[intOf];omega
  obtain rfl:n=k:=by omega
  obtain rfl:S=st:=by rw[HS.out,cy.out]
  have a8:=xQ HR.out;clear HS HR dh;obtain⟨gB,bo⟩: ∃gB,gB=wr.heap.size:=⟨_,rfl⟩
  have M2:=(show Mem w (wr.alloc (.cells AB sO)) [aI w.heap.size sO 1 (some ⟨gB,0,none⟩) N N (mS (List.replicate N 0)),gQ w.heap.size TI 1 rows,aI w.heap.size TSS 1 (some ⟨w.heap.size+1,0,none⟩) n n (gW n rows),aJ w.heap.size (w.heap.size) TH3 #[aA,aB,.slice (some ⟨pb,po,none⟩) n cap]]from by
   have h1:=HM.lit sO 1 N gB AB bo.symm (by rw[b9.out];omega) (by simp[maxLen];omega);rw[b8.out]at h1
   exact h1)
  go_upto_region 12 with fail;rw[←bo];clear b8 b9 cq HM bo;generalize c0:World.alloc _ _=w2;rw[c0]at M2;clear c0 c2;go_wp2;go_loopw [56] (fun i wr=> ∃(k:Nat),k≤N∧i= .int .i64 (k:Int)∧Mem w wr [aI w.heap.size sO 1 (some ⟨gB,0,none⟩) N N (mS (List.replicate k (-1)++List.replicate (N-k) 0)),gQ w.heap.size TI 1 rows,aI w.heap.size TSS 1 (some ⟨w.heap.size+1,0,none⟩) n n (gW n rows),aJ w.heap.size (w.heap.size) TH3 #[aA,aB,.slice (some ⟨pb,po,none⟩) n cap]]) (fun i _=>N-(intOf i).toNat)
  case atStart=>exact⟨0,Nat.zero_le _,rfl,by simpa using M2⟩
  case round=>
   clear M2;obtain⟨k,hk,rfl,hM⟩:=hrel;have HM:=hM;clear hM;by_cases hlt:k<N
   ·have i1:(0:Int)≤(k:Int):=by omega
    have i2:(k:Int)<(N:Int):=by omega
    have hl:(List.replicate k (-1:Int)++List.replicate (N-k) 0)[k]? =some 0:=by rw[List.getElem?_append_right (by simp)];simp[List.getElem?_replicate];omega
    have c3:wr.cell? ⟨gB,k,none⟩=some (.int .i32 0):=by have:=(HM.ow 0).cellAt k (by omega);rw[this];exact aAn hl
    have c4:wr.frozen? ⟨gB,k,none⟩=false:=(HM.ow 0).frozenAt k;clear hl;have M2:=(HM.ostore (i:=0) rfl k (.int .i32 (-1)))
    go_wp2;go_roundw
    case rel=>exact⟨k+1,by omega,by go_num,by have:=M2;rw[qT,aFv hlt]at this;exact this⟩
    case measure=>simp[intOf];omega
   obtain rfl:N=k:=by omega
   rw[Nat.sub_self,show List.replicate N (-1:Int)++List.replicate 0 0=List.replicate N (-1) by simp]at HM;have i1:(0:Int)≤(S:Int):=by omega
   have i2:(S:Int)<(N:Int):=by omega
   have i3:IntKind.i32.wrap (S:Int)=(S:Int):=aKc _ (by omega);have c3:wr.cell? ⟨gB,S,none⟩=some (.int .i32 (-1)):=by have:=(HM.ow 0).cellAt S (by omega);rw[this];exact aAn (by rw[List.getElem?_replicate,if_pos cz])
   have c4:wr.frozen? ⟨gB,S,none⟩=false:=(HM.ow 0).frozenAt S;have M2:=(show Mem w (wr.setCell ⟨gB,S,none⟩ (.int .i32 (S:Int))) [aI w.heap.size sO 1 (some ⟨gB,0,none⟩) N N (mS ((List.replicate N (-1)).set S (S:Int))),gQ w.heap.size TI 1 rows,aI w.heap.size TSS 1 (some ⟨w.heap.size+1,0,none⟩) n n (gW n rows),aJ w.heap.size (w.heap.size) TH3 #[aA,aB,.slice (some ⟨pb,po,none⟩) n cap]]from by rw[←qT];exact HM.ostore (i:=0) rfl S (.int .i32 (S:Int)))
   go_upto_region 18 with fail;clear c3 c4 HM;generalize bv:World.setCell _ _ _=w1;rw[bv]at M2;clear bv;have M3:=(M2.lit TI 1 1 w1.heap.size #[(S:Int)] rfl rfl (by simp[maxLen]))
   have I1:=xQ (show SRun adj (fun v=>v/P2=0) N S 0 ((List.replicate N (-1)).set S (S:Int)) [S]from .init);clear M2;go_wp2;go_loopw [13,14] (fun v i wr=> ∃(k:Nat) (q:OA) (l lc:Nat) (B:List Int) (Q:List Nat),k≤l∧i= .int .i64 (k:Int)∧v= .slice q l lc∧l=Q.length∧l≤N∧SRun adj (fun v=>v/P2=0) N S k B Q∧Mem w wr [aI w.heap.size TI 1 (q) (l) lc (ivs (bA (Q))),aI w.heap.size sO 1 (some ⟨gB,0,none⟩) N N (mS (B)),gQ w.heap.size TI 1 rows,aI w.heap.size TSS 1 (some ⟨w.heap.size+1,0,none⟩) n n (gW n rows),aJ w.heap.size (w.heap.size) TH3 #[aA,aB,.slice (some ⟨pb,po,none⟩) n cap]]) (fun _ i _=>N-(intOf i).toNat)
   case atStart=>exact⟨0,some ⟨w1.heap.size,0,none⟩,1,1,_,[S],Nat.zero_le _,rfl,rfl,rfl,by omega,I1.out,M3⟩
   case round=>
    clear M3 I1;obtain⟨k,q,l,lc,B,Q,hk,rfl,rfl,cp,d4,ar,hM⟩:=hrel;have HM:=hM;have ai:=xQ ar;have a0:=xQ cp;have bf:=xQ (b1 k B Q ar);clear hM ar cp;by_cases hlt2:k<l
    ·obtain⟨u,hu⟩: ∃u,Q[k]? =some u:=⟨_,List.getElem?_eq_getElem (by rw[←a0.out];exact hlt2)⟩
     have au:u<N:=bf.out.bd u (List.mem_of_getElem? hu);have HU:=xQ hu;clear hu;obtain⟨gL,rfl,df,dg⟩:=HM.so 0;clear df dg;have i3:(0:Int)≤(k:Int):=by omega
     have i4:(k:Int)<(l:Int):=by omega
     have cu:wr.cell? ⟨gL,k,none⟩=some (.int .i64 (u:Int)):=by have:=(HM.ow 0).cellAt k (by omega);rw[this];simp[ivs,bA,HU.out]
     obtain⟨cr,a5⟩: ∃cr,cr=u/P2:=⟨_,rfl⟩
     have dx:(u:Int)/(P2:Int)=(cr:Int):=by rw[a5];simp
     have ay:=xQ a5;have dt:cr≤u:=by rw[a5];exact Nat.div_le_self _ _
     clear a5;by_cases hc0:cr=0
     ·have t0:((cr:Int)==0)=true:=by simp[hc0]
      obtain⟨d,code,ed,dd,ce,ba,ci,ch⟩:=HG k u B Q ai HU.out (by rw[←ay.out];exact hc0);have b3:=xQ (fun(w':World) (hx:Ext wr w')=>aJv n N d N gB B code ed w' hn cb dd ce ((HM.sq 1).ext hx) (hE.out.ext (HM.ext.trans hx)) (Nat.lt_of_lt_of_le (HM.hi 1) hx.sz));rw[ba,ci]at b3;have c8:=xQ ch;clear ce ba ci ch hc0;go_wp2_with fail;clear cu;refine(b3 _ (Ext.refl _)).mono ?_;rintro e w5 ⟨q5,c5,rfl,o5,aw⟩;have M5:=(HM.call aw o5)
      clear o5 aw HM;go_wp2;exact bodyPost_ret (v:= .tuple #[.slice q5 ((List.range d).map (fun i=>iR (ed i))).length c5,.bool true]) (by simp[results,Tryz.results191,go_sem]) rfl (by rw[c8.out];exact⟨q5,c5,rfl,M5.ow 0,M5.ext⟩)
     have t0:((cr:Int)==0)=false:=by simp;omega
     have de:Hid (¬u/P2=0):=by show¬_;rw[←ay.out];exact hc0
     clear hc0;go_wp2;clear cu;go_loopw [13,91] (fun v i wr=> ∃(f:Nat) (q:OA) (l2 lc:Nat) (B2:List Int) (Q2:List Nat),f≤n∧i= .int .i64 (f:Int)∧v= .slice q l2 lc∧l2=Q2.length∧(B2,Q2)=bF (u:Int) (B,Q) (gU aA n P2 u f)∧Mem w wr [aI w.heap.size TI 1 (q) (l2) lc (ivs (bA (Q2))),aI w.heap.size sO 1 (some ⟨gB,0,none⟩) N N (mS (B2)),gQ w.heap.size TI 1 rows,aI w.heap.size TSS 1 (some ⟨w.heap.size+1,0,none⟩) n n (gW n rows),aJ w.heap.size (w.heap.size) TH3 #[aA,aB,.slice (some ⟨pb,po,none⟩) n cap]]) (fun _ i _=>n-(intOf i).toNat)
     case atStart=>exact⟨0,some ⟨gL,0,none⟩,l,lc,B,Q,Nat.zero_le _,rfl,rfl,a0.out,rfl,HM⟩
     case round=>
      clear HM;obtain⟨f,q,l2,lc,B2,Q2,hf,rfl,rfl,bb,bm,hM⟩:=hrel;have bc:SOk N B2 Q2:=by have:=SOk.expand (u:=(u:Int)) (by omega) (gU aA n P2 u f) bf (fun v hv=>ad u v au (rY hf v hv));rw[←bm]at this;exact this
      have HM:=hM;have az:=xQ bm;have p:=xQ bb;have bz:=xQ bc;clear hM bm bb bc;by_cases hlt3:f<n
      ·obtain⟨PF,y⟩: ∃PF:Nat,PF=2 ^ f:=⟨_,rfl⟩
       have dv:(2:Int) ^ f=(PF:Int):=by rw[y];simp
       have dr:PF≤2048:=by rw[y];exact Nat.le_trans (Nat.pow_le_pow_right (by omega) (show f≤11 by omega)) (by decide)
       have d9:IntKind.i64.wrap (PF:Int)=(PF:Int):=IntWalk.i64_in _ (by omega);have a1:=xQ y;have j1:(0:Int)≤(f:Int):=by omega
       have j2:(f:Int)<(n:Int):=by omega
       by_cases hbf:u.testBit f=true
       ·have cg:bits .and .i64 (u:Int) (PF:Int)=(PF:Int):=by rw[y];exact aG9 (by omega) (by omega) hbf
        have du:0<PF:=by rw[y];exact Nat.two_pow_pos f
        have t1:((PF:Int)!=0)=true:=by simp;omega
        have bq:Hid (gU aA n P2 u (f+1)=gU aA n P2 u f):=by show _=_;rw[pM,aNd (by rw[ag.out,oM u hlt3];exact hbf),List.append_nil]
        clear hbf y;go_wp2;go_roundw
        case rel=>exact⟨f+1,q,l2,lc,B2,Q2,by omega,by go_num,rfl,p.out,by rw[bq.out];exact az.out,HM⟩
        case measure=>simp[intOf];omega
       have hbf:u.testBit f=false:=by simpa using hbf
       have cg:bits .and .i64 (u:Int) (PF:Int)=0:=by rw[y];exact aL0 (by omega) (by omega) hbf
       have aj:(u%P2).testBit f=false:=by rw[ag.out,oM u hlt3];exact hbf
       have c6:=xQ hbf;have a7:=xQ aj;obtain⟨⟨rq,rn,rc,eb⟩,af⟩: ∃r,rows[f]? =some r:=⟨_,List.getElem?_eq_getElem (by rw[a8.out.1];exact hlt3)⟩
       obtain⟨br,bt⟩:=a8.out.2 f _ af;dsimp only at br bt;have bg:=xQ af;obtain⟨nb,o⟩: ∃nb,nb=aP aA n f:=⟨_,rfl⟩
       rw[←o]at br bt;have dl:nb.length≤n:=by rw[o];exact Nat.le_trans (List.length_filter_le _ _) (by simp)
       have ah:=xQ o;subst br bt;have dc:wr.cell? ⟨w.heap.size+1,f,none⟩=some (.slice rq nb.length rc):=by have h7:=(HM.ow 3).cellAt f (by omega);rw[h7];exact aI1 af
       have bq:Hid (gU aA n P2 u (f+1)=gU aA n P2 u f++iM aA n P2 u f nb.length):=by show _=_;rw[pM,aKo aj,o]
       clear hbf aj y af o;go_wp2;clear dc;go_loopw [13,104] (fun v i wr=> ∃(j:Nat) (q:OA) (l3 lc:Nat) (B3:List Int) (Q3:List Nat),j≤nb.length∧i= .int .i64 (j:Int)∧v= .slice q l3 lc∧l3=Q3.length∧(B3,Q3)=bF (u:Int) (B,Q) (gU aA n P2 u f++iM aA n P2 u f j)∧Mem w wr [aI w.heap.size TI 1 (q) (l3) lc (ivs (bA (Q3))),aI w.heap.size sO 1 (some ⟨gB,0,none⟩) N N (mS (B3)),gQ w.heap.size TI 1 rows,aI w.heap.size TSS 1 (some ⟨w.heap.size+1,0,none⟩) n n (gW n rows),aJ w.heap.size (w.heap.size) TH3 #[aA,aB,.slice (some ⟨pb,po,none⟩) n cap]]) (fun _ i _=>nb.length-(intOf i).toNat)
       case atStart=>exact⟨0,q,l2,lc,B2,Q2,Nat.zero_le _,rfl,rfl,p.out,by rw[aEa,List.append_nil];exact az.out,HM⟩
       case round=>
        clear HM;obtain⟨j,q,l3,lc,B3,Q3,hj,rfl,rfl,am,al,hM⟩:=hrel;have an:SOk N B3 Q3:=by
         have:=SOk.expand (u:=(u:Int)) (by omega) (gU aA n P2 u f++iM aA n P2 u f j) bf (fun v hv=>by
          rcases List.mem_append.1 hv with hv|hv
          ·exact ad u v au (rY hf v hv)
          ·exact ad u v au (xW hlt3 a7 v hv))
         rw[←al]at this;exact this
        have HM:=hM;have a:=xQ al;have m:=xQ am;have b0:=xQ an;have d3:l3≤N:=by rw[am];exact an.qlen
        clear hM al am an;by_cases hlt4:j<nb.length
        ·obtain⟨t,a6⟩: ∃t,nb[j]? =some t:=⟨_,List.getElem?_eq_getElem hlt4⟩
         have bu:t<n:=(bM.1 (by rw[←ah.out];exact List.mem_of_getElem? a6:t∈aP aA n f)).1;have be:(aP aA n f)[j]? =some t:=by rw[←ah.out];exact a6
         have ap:wr.ownsRow w.heap.size TI 1 (.slice rq nb.length rc) nb.length (ivs (bA nb)):=HM.ok (gQ w.heap.size TI 1 rows) (by simp) _ (List.mem_of_getElem? bg.out);obtain⟨gR,di⟩: ∃gR,rq=some ⟨gR,0,none⟩:=by
          rcases ap.2 with⟨_,h3⟩|⟨g,_,_,h3,_⟩
          ·omega
          injection h3 with h3;exact⟨g,h3⟩
         subst di;have ct:wr.cell? ⟨gR,j,none⟩=some (.int .i64 (t:Int)):=by have:=ap.cellAt j (by omega);rw[this];simp[ivs,bA,a6]
         have b2:=xQ be;clear a6 be ap;obtain⟨PT,z⟩: ∃PT:Nat,PT=2 ^ t:=⟨_,rfl⟩
         have dy:(2:Int) ^ t=(PT:Int):=by rw[z];simp
         have ds:PT≤2048:=by rw[z];exact Nat.le_trans (Nat.pow_le_pow_right (by omega) (show t≤11 by omega)) (by decide)
         have ea:IntKind.i64.wrap (PT:Int)=(PT:Int):=IntWalk.i64_in _ (by omega);have m1:(0:Int)≤(j:Int):=by omega
         have m2:(j:Int)<(nb.length:Int):=by omega
         have m3:(0:Int)≤(t:Int):=by omega
         have m4:(t:Int)<(n:Int):=by omega
         by_cases hbt:u.testBit t=true
         ·have a9:(u%P2).testBit t=true:=by rw[ag.out,oM u bu];exact hbt
          have bj:bits .and .i64 (u:Int) (PT:Int)=(PT:Int):=by rw[z];exact aG9 (by omega) (by omega) hbt
          have dp:0<PT:=by rw[z];exact Nat.two_pow_pos t
          have t2:((PT:Int)==0)=false:=by simp;omega
          have aa:=aH5 b2 a9;have bp:fO P2 (u/P2) (u%P2) f t<N:=ad u _ au (xW (j:=j+1) hlt3 a7 _ (by rw[aa];simp));have cv:=aLl (u:=u) (f:=f) (t:=t) hn (by rw[←cc.out];exact au) hlt3 bu c6 hbt (by rw[←cc.out,←ag.out];exact bp);rw[←ag.out,←a1.out,←z]at cv;generalize fO P2 (u/P2) (u%P2) f t=nx at*;have ao:gU aA n P2 u f++iM aA n P2 u f (j+1)=(gU aA n P2 u f++iM aA n P2 u f j)++ [nx]:=by rw[aa,List.append_assoc]
          have ae:=xQ ao;clear aa ao hbt a9 z;generalize u ^^^ 2 ^ f=X1 at*;generalize cT u f t=mv at*;generalize ((t:Int)-(f:Int))*(P2:Int)=D at*;obtain⟨x1,x2,x3,x4,x5⟩:=cv;have c9:=xQ x3;have b4:=xQ x4;have dz:IntKind.i64.wrap ((t:Int)-(f:Int))=(t:Int)-(f:Int):=IntWalk.i64_in _ (by omega);clear x3 x4;obtain⟨bn,bl⟩: ∃bn,bn=B3.getD nx 0:=⟨_,rfl⟩
          have ak:=dB (D:=B3) (v:=nx) (by rw[b0.out.len];exact bp);rw[←bl]at ak;have cn:wr.cell? ⟨gB,nx,none⟩=some (.int .i32 bn):=by have:=(HM.ow 1).cellAt nx (by omega);rw[this];exact aAn ak.1
          have b5:wr.frozen? ⟨gB,nx,none⟩=false:=(HM.ow 1).frozenAt nx;have ax:=xQ bl;clear bl ak;have m5:(0:Int)≤(nx:Int):=by omega
          have m6:(nx:Int)<(N:Int):=by omega
          have d0:IntKind.i32.wrap (u:Int)=(u:Int):=aKc _ (by omega);by_cases hfc:f=cr
          ·have t3:((f:Int)==(cr:Int))=true:=by simp[hfc]
           have x4:IntKind.i64.wrap ((mv:Int)+D)=(nx:Int):=b4 (hfc.trans ay.out);clear hfc;by_cases hneg:bn<0
           ·have t4:decide (bn<0)=true:=by simp[hneg]
            have b:Hid ((B3.set nx (u:Int),Q3++ [nx])=bF (u:Int) (B,Q) (gU aA n P2 u f++iM aA n P2 u f (j+1))):=by show _=_;rw[ae.out,dL,←a.out,kN (by rw[←ax.out];exact hneg)]
            have M6:=(show Mem w (wr.setCell ⟨gB,nx,none⟩ (.int .i32 (u:Int))).drew [aI w.heap.size TI 1 (q) (l3) lc (ivs (bA (Q3))),aI w.heap.size sO 1 (some ⟨gB,0,none⟩) N N (mS (B3.set nx (u:Int))),gQ w.heap.size TI 1 rows,aI w.heap.size TSS 1 (some ⟨w.heap.size+1,0,none⟩) n n (gW n rows),aJ w.heap.size (w.heap.size) TH3 #[aA,aB,.slice (some ⟨pb,po,none⟩) n cap]]from by rw[←qT];exact(HM.ostore (i:=1) rfl nx (.int .i32 (u:Int))).adv (Ext.drew (Ext.refl _)))
            clear hneg a HM;go_upto_region 34 with fail;go_region;go_upto_region 39 with fail;clear ct cn b5;generalize av:World.setCell _ _ _=w4;rw[av]at M6;clear av;go_wp2_with (at_builtin;go_loud (refine cR fX rfl _ _ rfl (M6.adv ((Ext.refl _).alloc (.cells #[(nx:Int)] TI))) 0 rfl rfl (ivs [(nx:Int)]) rfl ((eU w4 #[(nx:Int)] TI 1 1 _ rfl rfl (by simp[maxLen])).ext (Ext.drew (Ext.refl _))) (fun u hu=>by obtain rfl:=List.mem_singleton.1 hu;rfl) (by omega) ?_;intro q7 c7 w6 M7));have M8:=(show Mem w w6 [aI w.heap.size TI 1 (q7) (l3+1) c7 (ivs (bA (Q3++ [nx]))),aI w.heap.size sO 1 (some ⟨gB,0,none⟩) N N (mS (B3.set nx (u:Int))),gQ w.heap.size TI 1 rows,aI w.heap.size TSS 1 (some ⟨w.heap.size+1,0,none⟩) n n (gW n rows),aJ w.heap.size (w.heap.size) TH3 #[aA,aB,.slice (some ⟨pb,po,none⟩) n cap]]from by rw[show ivs (bA (Q3++ [nx]))=ivs (bA Q3)++ivs [(nx:Int)] by simp[ivs,bA]];exact M7)
            clear M7 M6;go_wp2;go_roundw
            case rel=>exact⟨j+1,q7,l3+1,c7,B3.set nx (u:Int),Q3++ [nx],by omega,by go_num,rfl,by simp[m.out],b.out,M8⟩
            case measure=>simp[intOf];omega
           have t4:decide (bn<0)=false:=by simp;omega
           have b:Hid ((B3,Q3)=bF (u:Int) (B,Q) (gU aA n P2 u f++iM aA n P2 u f (j+1))):=by show _=_;rw[ae.out,dL,←a.out,lZ (by rw[←ax.out];exact hneg)]
           clear hneg a;go_upto_region 34 with fail;go_region;go_wp2;go_roundw
           case rel=>exact⟨j+1,q,l3,lc,B3,Q3,by omega,by go_num,rfl,m.out,b.out,HM.adv xE⟩
           case measure=>simp[intOf];omega
          have t3:((f:Int)==(cr:Int))=false:=by simp;omega
          have dk:nx=mv:=(c9 (fun e=>hfc (e.trans ay.out.symm))).symm;subst dk;clear hfc;by_cases hneg:bn<0
          ·have t4:decide (bn<0)=true:=by simp[hneg]
           have b:Hid ((B3.set nx (u:Int),Q3++ [nx])=bF (u:Int) (B,Q) (gU aA n P2 u f++iM aA n P2 u f (j+1))):=by show _=_;rw[ae.out,dL,←a.out,kN (by rw[←ax.out];exact hneg)]
           have M6:=(show Mem w (wr.setCell ⟨gB,nx,none⟩ (.int .i32 (u:Int))).drew [aI w.heap.size TI 1 (q) (l3) lc (ivs (bA (Q3))),aI w.heap.size sO 1 (some ⟨gB,0,none⟩) N N (mS (B3.set nx (u:Int))),gQ w.heap.size TI 1 rows,aI w.heap.size TSS 1 (some ⟨w.heap.size+1,0,none⟩) n n (gW n rows),aJ w.heap.size (w.heap.size) TH3 #[aA,aB,.slice (some ⟨pb,po,none⟩) n cap]]from by rw[←qT];exact(HM.ostore (i:=1) rfl nx (.int .i32 (u:Int))).adv (Ext.drew (Ext.refl _)))
           clear hneg a HM;go_upto_region 34 with fail;go_region;go_upto_region 39 with fail;clear ct cn b5;generalize av:World.setCell _ _ _=w4;rw[av]at M6;clear av;go_wp2_with (at_builtin;go_loud (refine cR fX rfl _ _ rfl (M6.adv ((Ext.refl _).alloc (.cells #[(nx:Int)] TI))) 0 rfl rfl (ivs [(nx:Int)]) rfl ((eU w4 #[(nx:Int)] TI 1 1 _ rfl rfl (by simp[maxLen])).ext (Ext.drew (Ext.refl _))) (fun u hu=>by obtain rfl:=List.mem_singleton.1 hu;rfl) (by omega) ?_;intro q7 c7 w6 M7));have M8:=(show Mem w w6 [aI w.heap.size TI 1 (q7) (l3+1) c7 (ivs (bA (Q3++ [nx]))),aI w.heap.size sO 1 (some ⟨gB,0,none⟩) N N (mS (B3.set nx (u:Int))),gQ w.heap.size TI 1 rows,aI w.heap.size TSS 1 (some ⟨w.heap.size+1,0,none⟩) n n (gW n rows),aJ w.heap.size (w.heap.size) TH3 #[aA,aB,.slice (some ⟨pb,po,none⟩) n cap]]from by rw[show ivs (bA (Q3++ [nx]))=ivs (bA Q3)++ivs [(nx:Int)] by simp[ivs,bA]];exact M7)
           clear M7 M6;go_wp2;go_roundw
           case rel=>exact⟨j+1,q7,l3+1,c7,B3.set nx (u:Int),Q3++ [nx],by omega,by go_num,rfl,by simp[m.out],b.out,M8⟩
           case measure=>simp[intOf];omega
          have t4:decide (bn<0)=false:=by simp;omega
          have b:Hid ((B3,Q3)=bF (u:Int) (B,Q) (gU aA n P2 u f++iM aA n P2 u f (j+1))):=by show _=_;rw[ae.out,dL,←a.out,lZ (by rw[←ax.out];exact hneg)]
          clear hneg a;go_upto_region 34 with fail;go_region;go_wp2;go_roundw
          case rel=>exact⟨j+1,q,l3,lc,B3,Q3,by omega,by go_num,rfl,m.out,b.out,HM.adv xE⟩
          case measure=>simp[intOf];omega
         have hbt:u.testBit t=false:=by simpa using hbt
         have bj:bits .and .i64 (u:Int) (PT:Int)=0:=by rw[z];exact aL0 (by omega) (by omega) hbt
         have aa:=xQ (aJl b2 (show(u%P2).testBit t=false by rw[ag.out,oM u bu];exact hbt));clear hbt z;go_wp2;go_roundw
         case rel=>exact⟨j+1,q,l3,lc,B3,Q3,by omega,by go_num,rfl,m.out,by rw[aa.out];exact a.out,HM⟩
         case measure=>simp[intOf];omega
        obtain rfl:nb.length=j:=by omega
        go_wp2;go_roundw
        case rel=>exact⟨f+1,q,l3,lc,B3,Q3,by omega,by go_num,rfl,m.out,by rw[bq.out];exact a.out,HM⟩
        case measure=>simp[intOf];omega
      obtain rfl:n=f:=by omega
      have bs:Hid (SRun adj (fun v=>v/P2=0) N S (k+1) B2 Q2):=by show SRun _ _ _ _ _ _ _;have h7:=SRun.step ai HU.out de.out;have h8:=az.out;rw[xX,←(show adj u=mY aA n P2 u by rw[cf.out])]at h8;rw[←h8]at h7;exact h7
      have cl:l2≤N:=by rw[p.out];exact bz.out.qlen
      have ck:k+1≤l2:=by have h8:=az.out;obtain⟨r,h9,_⟩:=nY (u:Int) (gU aA n P2 u n) B Q;rw[←h8]at h9;dsimp only at h9;rw[p.out,h9,List.length_append];have:=a0.out;omega
      go_wp2;go_roundw
      case rel=>exact⟨k+1,q,l2,lc,B2,Q2,ck,by go_num,rfl,p.out,cl,bs.out,HM⟩
      case measure=>simp[intOf];omega
    have cj:=xQ (bx k B Q ai (by rw[←a0.out];omega));have hX:=xQ HM.ext;clear HM;go_wp2;exact bodyPost_ret (v:= .tuple #[((),()),.bool false]) (by simp[results,Tryz.results191,go_sem]) rfl (by rw[cj.out];exact⟨_,rfl,hX.out⟩)
theorem aHm (aA aB:Int)(p:OA)(cap:Nat)(f t:Int)(xs:List Int)(w:World)(af:4≤xs.length)(hn:xs.length≤12)
  (HV:xB 53 #[aH aA aB p xs.length cap] w true)
  (HK:Hid (∀w',Ext w w'→Calls Tryz.prog 79 #[aH aA aB p xs.length cap] w' (dK aA aB xs w')))
  (HM:xB 102 #[aH aA aB p xs.length cap,dQ f t] w false):
  Calls Tryz.prog 49 #[aH aA aB p xs.length cap,dQ f t] w (cN aA aB xs false w):=by
 go_enter Tryz.func49,Tryz.ntmps49;go_wp2_with fail;refine(HV _ ((((Mem.start w).c0 TH3 #[aA,aB,.slice p xs.length cap]).c1 TSL #[f,t]).bn TH3 #[(),(),((),())] (w.heap.size+2)).ext).mono ?_;rintro e w1 ⟨rfl,n⟩;have M1:=(((((Mem.start w).c0 TH3 #[aA,aB,.slice p xs.length cap]).c1 TSL #[f,t]).bn TH3 #[(),(),((),())] (w.heap.size+2)).adv n)
 have c:=M1.hi 0;have d:=M1.hi 1;have h:=M1.hi 2;clear n;obtain⟨h0,h1,h2⟩:=(M1.bk 2).tri;go_wp2_with fail;clear h0 h1 h2;refine(HK _ M1.ext).mono ?_;rintro e w2 ⟨q,c2,rfl,l,o⟩;have M2:=(M1.call o l)
 clear M1 c d h o l;have i:=M2.hi 1;have j:=M2.hi 2;have k:=M2.hi 3;obtain⟨g,rfl,ad,ae⟩:=M2.so 0;obtain⟨h0,h1,h2⟩:=(M2.bk 3).tri;have s0:=(M2.bk 2).cl 0;have s1:=(M2.bk 2).cl 1;go_wp2_with fail;clear h0 h1 h2 s0 s1;refine(HM _ (M2.c0 TH3 #[aA,aB,.slice (some ⟨g,0,none⟩) xs.length c2]).ext).mono ?_;rintro e w3 ⟨rfl,r⟩;have M3:=((M2.c0 TH3 #[aA,aB,.slice (some ⟨g,0,none⟩) xs.length c2]).adv r)
 clear M2 i j k r;have s:=M3.hi 0;have u:=M3.hi 2;have x:=M3.hi 3;have y:=M3.hi 4;obtain⟨v0,v1,v2⟩:=(M3.bk 0).tri;obtain⟨z0,z,z1,aa,z2,ab⟩:=(M3.bk 2).trif;obtain⟨a,b⟩:=M3.nq 0 2;go_wp2;have M4:=((M3.st 2 0 (.int .i64 aA)).st 2 1 (.int .i64 aB))
 have M5:=(M4.st 2 2 (.slice (some ⟨g,0,none⟩) xs.length c2))
 have M6:=(show Mem w (((w3.setCell ⟨w.heap.size+2,0,none⟩ (.int .i64 aA)).setCell ⟨w.heap.size+2,1,none⟩ (.int .i64 aB)).setCell ⟨w.heap.size+2,2,none⟩ (.slice (some ⟨g,0,none⟩) xs.length c2)) [aJ w.heap.size (w2.heap.size) TH3 #[aA,aB,.slice (some ⟨g,0,none⟩) xs.length c2],aI w.heap.size TI 1 (some ⟨g,0,none⟩) (xs.length) (c2) (ivs xs),aJ w.heap.size (w.heap.size+2) TH3 #[aA,aB,.slice (some ⟨g,0,none⟩) xs.length c2],aJ w.heap.size (w.heap.size+1) TSL #[f,t],aJ w.heap.size (w.heap.size) TH3 #[aA,aB,.slice p xs.length cap]]from M5)
 generalize m:World.setCell _ _ _=wz;rw[m]at M6;clear m M3 M4 M5 v0 v1 v2 z0 z z1 aa z2 ab a b;obtain⟨y0,y1,y2⟩:=(M6.bk 2).tri;exact bodyPost_ret (v:= .tuple #[.agg #[aA,aB,.slice (some ⟨g,0,none⟩) xs.length c2],.bool false]) (by simp[results,Tryz.results49,go_sem, *]) rfl (dR (by simp) (by exact(M6.ow 1)) M6.ext)
theorem aEr (aA aB:Int)(cap i j b a:Nat)(x yj:Int)(xs:List Int)(w:World)(a8:4≤xs.length)(hn:xs.length≤12)(hi:i<xs.length)(hj:j<xs.length)(af:i≠j)(HX:Hid (xs[i]? =some x)) (HY:Hid (xs[j]? =some yj))
  (hb:b<w.heap.size) (an:Hid (w.cell? ⟨b,a+i,none⟩=some (.int .i64 x)))
  (HV:xB 53 #[aH aA aB (some ⟨b,a,none⟩) xs.length cap] w true)
  (HK:Hid (∀w',Ext w w'→Calls Tryz.prog 79 #[aH aA aB (some ⟨b,a,none⟩) xs.length cap] w' (dK aA aB xs w')))
  (HM:xB 102 #[aH aA aB (some ⟨b,a,none⟩) xs.length cap,dQ (i:Int) (j:Int)] w true):
  Calls Tryz.prog 49 #[aH aA aB (some ⟨b,a,none⟩) xs.length cap,dQ (i:Int) (j:Int)] w (cN aA aB ((xs.set j x).set i 0) true w):=by
 have a1:(0:Int)≤(i:Int):=by omega
 have a2:(0:Int)≤(j:Int):=by omega
 have a3:(i:Int)<(xs.length:Int):=by omega
 have a4:(j:Int)<(xs.length:Int):=by omega
 go_enter Tryz.func49,Tryz.ntmps49;go_wp2_with fail;refine(HV _ ((((Mem.start w).c0 TH3 #[aA,aB,.slice (some ⟨b,a,none⟩) xs.length cap]).c1 TSL #[(i:Int),(j:Int)]).bn TH3 #[(),(),((),())] (w.heap.size+2)).ext).mono ?_;rintro e w1 ⟨rfl,aj⟩;have M1:=(((((Mem.start w).c0 TH3 #[aA,aB,.slice (some ⟨b,a,none⟩) xs.length cap]).c1 TSL #[(i:Int),(j:Int)]).bn TH3 #[(),(),((),())] (w.heap.size+2)).adv aj)
 have p:=M1.hi 0;have r:=M1.hi 1;have s:=M1.hi 2;clear aj;obtain⟨h0,h1,h2⟩:=(M1.bk 2).tri;go_wp2_with fail;clear h0 h1 h2;refine(HK _ M1.ext).mono ?_;rintro e w2 ⟨q,c2,rfl,ag,ak⟩;have M2:=(M1.call ak ag)
 clear M1 p r s ak ag;have t:=M2.hi 1;have u:=M2.hi 2;have y:=M2.hi 3;obtain⟨g,rfl,a6,a7⟩:=M2.so 0;obtain⟨h0,h1,h2⟩:=(M2.bk 3).tri;have s0:=(M2.bk 2).cl 0;have s1:=(M2.bk 2).cl 1;go_wp2_with fail;clear h0 h1 h2 s0 s1;refine(HM _ (M2.c0 TH3 #[aA,aB,.slice (some ⟨g,0,none⟩) xs.length c2]).ext).mono ?_;rintro e w3 ⟨rfl,al⟩;have M3:=((M2.c0 TH3 #[aA,aB,.slice (some ⟨g,0,none⟩) xs.length c2]).adv al)
 clear M2 t u y al;have z:=M3.hi 0;have aa:=M3.hi 2;have ab:=M3.hi 3;have ad:=M3.hi 4;obtain⟨v0,v1,v2⟩:=(M3.bk 0).tri;obtain⟨h0,h1,h2⟩:=(M3.bk 4).tri;have s0:=(M3.bk 3).cl 0;have s1:=(M3.bk 3).cl 1;have cx:w3.cell? ⟨b,a+i,none⟩=some (.int .i64 x):=(M3.ext.cells.1 _ _ hb).trans an.out;have gj:w3.cell? ⟨g,j,none⟩=some (.int .i64 yj):=by have:=(M3.ow 1).cellAt j (by omega);rw[this];simpa[ivs]using HY.out
 have gi:w3.cell? ⟨g,i,none⟩=some (.int .i64 x):=by have:=(M3.ow 1).cellAt i (by omega);rw[this];simpa[ivs]using HX.out
 have ap:w3.frozen? ⟨g,j,none⟩=false:=(M3.ow 1).frozenAt j;have ao:w3.frozen? ⟨g,i,none⟩=false:=(M3.ow 1).frozenAt i;obtain⟨d,f⟩:=M3.nq 0 1;obtain⟨h,k⟩:=M3.nq 1 4;obtain⟨n,o⟩:=M3.nq 1 3;have am: ¬(g=b):=by have:=M3.ext.sz;omega
 have aw: ¬(b=g):=fun e=>am e.symm
 have ax: ¬(i=j):=af;have ay: ¬(j=i):=fun e=>af e.symm
 go_wp2;go_region_held3 (fun w'=>w'.cell? ⟨w2.heap.size,2,none⟩=some (.slice (some ⟨g,0,none⟩) xs.length c2)∧w'.cell? ⟨w.heap.size,2,none⟩=some (.slice (some ⟨b,a,none⟩) xs.length cap)∧w'.cell? ⟨w.heap.size+1,0,none⟩=some (.int .i64 (i:Int))∧w'.cell? ⟨w.heap.size+1,1,none⟩=some (.int .i64 (j:Int))∧w'.cell? ⟨b,a+i,none⟩=some (.int .i64 x)) (first|(refine⟨?_,?_,?_,?_,?_⟩<;>assumption)|go_keep) (first|fail);clear v0 v1 v2 h0 h1 h2 s0 s1 d f h k n o cx gj gi ap ao am aw ax ay;have MX:=(show Mem w ((w3.setCell ⟨g,j,none⟩ (.int .i64 x)).setCell ⟨g,i,none⟩ (.int .i64 0)) [aJ w.heap.size (w2.heap.size) TH3 #[aA,aB,.slice (some ⟨g,0,none⟩) xs.length c2],aI w.heap.size TI 1 (some ⟨g,0,none⟩) (xs.length) (c2) (ivs ((xs.set j x).set i 0)),aJ w.heap.size (w.heap.size+2) TH3 #[(),(),((),())],aJ w.heap.size (w.heap.size+1) TSL #[(i:Int),(j:Int)],aJ w.heap.size (w.heap.size) TH3 #[aA,aB,.slice (some ⟨b,a,none⟩) xs.length cap]]from by rw[←dN,←dN];exact(M3.ostore (i:=1) rfl j (.int .i64 x)).ostore (i:=1) rfl i (.int .i64 0))
 have MY:=(MX.adv (Ext.drew (Ext.refl _)))
 generalize ah:World.drew _=w4;rw[ah]at MY;clear ah MX M3 z aa ab ad;have aq:w2.heap.size<w4.heap.size:=(MY.hi 0)
 have ar:w.heap.size+2<w4.heap.size:=(MY.hi 2)
 have au:w.heap.size+1<w4.heap.size:=(MY.hi 3)
 have av:w.heap.size<w4.heap.size:=(MY.hi 4)
 obtain⟨v0,v1,v2⟩:=(MY.bk 0).tri;obtain⟨z0,az,z1,a0,z2,a5⟩:=(MY.bk 2).trif;obtain⟨l,m⟩:=MY.nq 0 2;go_wp2;have M9:=((MY.st 2 0 (.int .i64 aA)).st 2 1 (.int .i64 aB))
 have ae:=(M9.st 2 2 (.slice (some ⟨g,0,none⟩) xs.length c2))
 have c:=(show Mem w (((w4.setCell ⟨w.heap.size+2,0,none⟩ (.int .i64 aA)).setCell ⟨w.heap.size+2,1,none⟩ (.int .i64 aB)).setCell ⟨w.heap.size+2,2,none⟩ (.slice (some ⟨g,0,none⟩) xs.length c2)) [aJ w.heap.size (w2.heap.size) TH3 #[aA,aB,.slice (some ⟨g,0,none⟩) xs.length c2],aI w.heap.size TI 1 (some ⟨g,0,none⟩) (xs.length) (c2) (ivs ((xs.set j x).set i 0)),aJ w.heap.size (w.heap.size+2) TH3 #[aA,aB,.slice (some ⟨g,0,none⟩) xs.length c2],aJ w.heap.size (w.heap.size+1) TSL #[(i:Int),(j:Int)],aJ w.heap.size (w.heap.size) TH3 #[aA,aB,.slice (some ⟨b,a,none⟩) xs.length cap]]from ae)
 generalize ai:World.setCell _ _ _=wz;rw[ai]at c;clear ai MY M9 ae v0 v1 v2 z0 az z1 a0 z2 a5 l m;obtain⟨y0,y1,y2⟩:=(c.bk 2).tri;exact bodyPost_ret (v:= .tuple #[.agg #[aA,aB,.slice (some ⟨g,0,none⟩) xs.length c2],.bool true]) (by simp[results,Tryz.results49,go_sem, *]) rfl (dR (by simp) (by exact(c.ow 1)) c.ext)
theorem yF (aA aB f t:Int)(p:OA)(n cap:Nat)(xs:List Int)(w:World)(hS:Sl w p n cap 1 (ivs xs))(a:aN aA aB xs=true):
  Calls Tryz.prog 49 #[aH aA aB p n cap,dQ f t] w (cN aA aB (bC aA aB xs f t) (aZ aA aB xs f t) w):=by
 have hl:=hS.ilen;subst hl;obtain⟨g1,g2,g3,g4,g5,g6,g7,g8,g9⟩:=bQ a;have HV:=fun(w':World) (hx:Ext w w')=>fW aA aB p xs.length cap xs w' (hS.ext hx)
 rw[a]at HV;have HK:=fun(w':World) (hx:Ext w w')=>lA aA aB p xs.length cap xs w' (by omega) (hS.ext hx)
 have HM:=fun(w':World) (hx:Ext w w')=>aMn aA aB f t p xs.length cap xs w' (hS.ext hx) a
 unfold bC;cases h:aZ aA aB xs f t with
 |false=>rw[h]at HM;exact aHm aA aB p cap f t xs w g5 g6 HV HK HM
 |true=>
  rw[h]at HM;obtain⟨k1,k2,k3,k4,k5,k6,k7,k8,k9⟩:=kW h;obtain⟨i,rfl⟩: ∃i:Nat,f=(i:Int):=⟨f.toNat,by omega⟩
  obtain⟨j,rfl⟩: ∃j:Nat,t=(j:Int):=⟨t.toNat,by omega⟩
  obtain⟨b,d,rfl,hb,e⟩:=hS.rd (by omega);have c:xs[i]? =some (xs.getD i 0):=by rw[List.getD_eq_getElem?_getD,List.getElem?_eq_getElem (by omega)];rfl
  have g:xs[j]? =some (xs.getD j 0):=by rw[List.getD_eq_getElem?_getD,List.getElem?_eq_getElem (by omega)];rfl
  rw[if_pos rfl,Int.toNat_natCast,Int.toNat_natCast];exact aEr aA aB cap i j b d _ _ xs w g5 g6 (by omega) (by omega) (by omega) c g hb (xQ (show w.cell? ⟨b,d+i,none⟩=some (.int .i64 (xs.getD i 0)) by rw[e i (by omega)];simp only[ivs,List.getElem?_map,c,Option.map_some])) HV HK HM
end Go.Proofs.YtpelpnfhbepokaaGreatDoor
