/-
  Texts of this proof, packed (@packed).
-/
import Derived.Test.YtpelpnfhbepokaaGreatDoorV28
import Derived.Test.YtpelpnfhbepokaaGreatDoorV29
namespace Go.Proofs.YtpelpnfhbepokaaGreatDoor
open Go.RowKit
set_option linter.unusedVariables false
set_option linter.unusedSimpArgs false
set_option maxHeartbeats 8000000
set_option maxRecDepth 100000
abbrev rV:TypeId:=21
theorem aIs (x:Int)(h: -2147483648≤x∧x≤2147483647):IntKind.i32.wrap x=x:=by simp[IntKind.wrap,IntKind.signed,IntKind.bits];omega
theorem aIq (aA aB:Int)(pb po:Nat)(n a N P2 c C0 st:Nat)(xs:List Int)(pf:Nat→Bool)(adj:Nat→List Nat)(w:World)(d6:4≤n)(hn:n≤12)(cp:Hid (xs.length=n))(dn:pb<w.heap.size)(hE:Hid (BitTab w))(cc:N≤49152)(bq:n≤N)(dr:C0≤12*4096)
  (ah:Hid (P2=2 ^ n))(cd:Hid (N=n*2 ^ n))(cb:Hid (C0=c*2 ^ n))(cz:Hid (st=C0+iL pf n))(c0:st<N)
  (dx:(2:Int) ^ n=(P2:Int))(d3:IntKind.i64.wrap ((c:Int)*(P2:Int))=(C0:Int))(d7:IntKind.i64.wrap ((n:Int)*(P2:Int))=(N:Int))
  (dp:Hid (∀k x,xs[k]? =some x→pf k=decide (x=0))) (cg:Hid (adj=fun u=>mR aA n P2 u))
  (db:Hid (∀k x,xs[k]? =some x→w.cell? ⟨pb,po+k,none⟩=some (.int .i64 x)))
  (HC:Hid (∀(k:Nat),k<n→ ∀w',Ext w w'→Calls Tryz.prog 214 #[aH aA aB (some ⟨pb,po,none⟩) n a,(k:Int)] w' (aX (bF (aS aA n k)) w')))
  (ae:Hid (∀u v,u<N→v∈mR aA n P2 u→v<N))
  (b2:Hid (∀k B Q,SRun adj (fun v=>v/P2=0) N st k B Q→SOk N B Q))
  (HG:Hid (∀k u B Q,SRun adj (fun v=>v/P2=0) N st k B Q→Q[k]? =some u→u/P2=0→ ∃(d:Nat) (code:Nat→Nat) (e:Nat→Nat×Nat),d≤60∧Trail n N d B code e∧code 0=st∧code d=u∧dH aA xs c=some ((List.range d).map (fun i=>iK (e i)))))
  (bz:Hid (∀k B Q,SRun adj (fun v=>v/P2=0) N st k B Q→Q.length≤k→dH aA xs c=none)):
  Calls Tryz.prog 191 #[aH aA aB (some ⟨pb,po,none⟩) n a,(c:Int)] w (iW (dH aA xs c) w):=by
 obtain⟨AR,a4⟩: ∃AR:Array Value,AR=madeCells #[((),())] n:=⟨_,rfl⟩
 have dk: ∀w:World,(Instr.makeSlice 213 (.int .i64 (n:Int)) (.int .i64 (n:Int))).run Tryz.prog w= .ok (.slice (some ⟨w.heap.size,0,none⟩) n n) (w.alloc (.cells AR TSS)):=fun w=>by rw[a4];exact run_make_row' _ _ (.slice none 0 0) 24 Tryz.underlying213 (by kernel_rfl) rfl .i64 .i64 n (by omega) (by omega) w
 have b7:Hid (AR.toList=gO n []):=by show _=_;rw[a4,(lU _ n).1];simp[gO]
 have b8:Hid (AR.size=n):=by show _=_;rw[a4];exact(lU _ n).2
 obtain⟨AB,a3⟩: ∃AB:Array Value,AB=madeCells #[.int .i32 0] N:=⟨_,rfl⟩
 have cs: ∀w:World,(Instr.makeSlice 221 (.int .i64 (N:Int)) (.int .i64 (N:Int))).run Tryz.prog w= .ok (.slice (some ⟨w.heap.size,0,none⟩) N N) (w.alloc (.cells AB rV)):=fun w=>by rw[a3];exact run_make_row' _ _ (.int .i32 0) 4 Tryz.underlying221 (by kernel_rfl) rfl .i64 .i64 N (by omega) (by omega) w
 have b9:Hid (AB.toList=mM (List.replicate N 0)):=by show _=_;rw[a3,(lU _ N).1];simp[mM]
 have ca:Hid (AB.size=N):=by show _=_;rw[a3];exact(lU _ N).2
 clear a4 a3;go_enter Tryz.func191,Tryz.ntmps191;go_upto_region 4 with fail
 have ME:=(show Mem w ((w.alloc (.cells #[aA,aB,.slice (some ⟨pb,po,none⟩) n a] TH3)).alloc (.cells AR TSS)) [gK w.heap.size TI 1 [],aJ w.heap.size TSS 1 (some ⟨w.heap.size+1,0,none⟩) n n (gO n []),aI w.heap.size (w.heap.size) TH3 #[aA,aB,.slice (some ⟨pb,po,none⟩) n a]]from by
  have h1:=((Mem.start w).c0 TH3 #[aA,aB,.slice (some ⟨pb,po,none⟩) n a]).lit TSS 1 n (w.heap.size+1) AR (by simp) (by rw[b8.out];omega) (by simp[maxLen];omega);rw[b7.out]at h1
  exact h1.rows0 rfl)
 clear b7 b8 dk;have e0:=(ME.bk 2).tri;obtain⟨h0,h1,h2⟩:=e0;go_wp2;clear h0 h1 h2;go_loopw [8,32] (fun s i wr=> ∃(k S:Nat) (rows:List RowD),k≤n∧i= .int .i64 (k:Int)∧s= .int .i64 (S:Int)∧S=C0+iL pf k∧oI aA n k rows∧Mem w wr [gK w.heap.size TI 1 rows,aJ w.heap.size TSS 1 (some ⟨w.heap.size+1,0,none⟩) n n (gO n rows),aI w.heap.size (w.heap.size) TH3 #[aA,aB,.slice (some ⟨pb,po,none⟩) n a]]) (fun _ i _=>n-(intOf i).toNat)
 case atStart=>exact⟨0,C0,[],Nat.zero_le _,rfl,rfl,rfl,⟨rfl,fun j r h=>by simp at h⟩,ME⟩
 case round=>
  clear ME;obtain⟨k,S,rows,hk,rfl,rfl,hS,ar,hM⟩:=hrel;have HM:=hM;have HR:=xQ ar;have HS:=xQ hS;have di:S<12*4096+4096:=by have h1:=nV pf k;have h2:2 ^ k≤2 ^ 12:=Nat.pow_le_pow_right (n:=2) (by omega) (by omega);omega
  clear hM ar hS;have c3:=(HM.hi 2)
  by_cases hlt:k<n
  ·obtain⟨x,hx⟩: ∃x,xs[k]? =some x:=⟨_,List.getElem?_eq_getElem (by rw[cp.out];exact hlt)⟩
   have i1:(0:Int)≤(k:Int):=by omega
   have i2:(k:Int)<(n:Int):=by omega
   have cx:wr.cell? ⟨pb,po+k,none⟩=some (.int .i64 x):=(HM.ext.cells.1 _ _ dn).trans (db k x hx);obtain⟨h0,h1,h2⟩:=(HM.bk 2).tri;have a2:=xQ (dp.out k x hx);clear hx;have cy:=HR.out.1;obtain⟨nb,p⟩: ∃nb,nb=aS aA n k:=⟨_,rfl⟩
   have ai:=xQ p;have bx:Hid (∀w',Ext w w'→Calls Tryz.prog 214 #[aH aA aB (some ⟨pb,po,none⟩) n a,(k:Int)] w' (aX (bF nb) w')):=by rw[p];exact HC k hlt
   have cv:(bF nb).length=nb.length:=by simp[bF]
   clear p;go_wp2_with fail;clear h0 h1 h2 cx c3;refine(bx _ HM.ext).mono ?_;rintro e w5 ⟨q5,c5,rfl,o5,ax⟩;rw[cv]at o5⊢;have M5:=((HM.call ax o5).rowsAdd rfl)
   clear o5 ax HM bx;have co:w5.cell? ⟨w.heap.size+1,k,none⟩=some (.slice none 0 0):=by have h7:=(M5.ow 1).cellAt k (by omega);rw[h7];have h8:=aIu (n:=n) (rows:=rows) (by omega);rw[cy]at h8;exact h8
   have dc:w5.frozen? ⟨w.heap.size+1,k,none⟩=false:=(M5.ow 1).frozenAt k
   have ce:=xQ (show oI aA n (k+1) (rows++ [⟨q5,nb.length,c5,ivs (bF nb)⟩])from by
    have h7:=sW (q:=q5) (c:=c5) HR.out;rw[←ai.out]at h7
    exact h7)
   have M6:=(show Mem w (w5.setCell ⟨w.heap.size+1,k,none⟩ (.slice q5 nb.length c5)) [gK w.heap.size TI 1 (rows++ [⟨q5,nb.length,c5,ivs (bF nb)⟩]),aJ w.heap.size TSS 1 (some ⟨w.heap.size+1,0,none⟩) n n (gO n (rows++ [⟨q5,nb.length,c5,ivs (bF nb)⟩])),aI w.heap.size (w.heap.size) TH3 #[aA,aB,.slice (some ⟨pb,po,none⟩) n a]]from by
    have h7:=aGb (n:=n) (rows:=rows) (by omega) ⟨q5,nb.length,c5,ivs (bF nb)⟩;rw[←h7,cy]
    exact M5.ostore (i:=1) rfl k (.slice q5 nb.length c5))
   clear M5 HR ai;go_upto_region 8 with fail;clear co dc;generalize c2:World.setCell _ _ _=w6;rw[c2]at M6;clear c2;by_cases hx0:x=0
   ·have t0:(x==0)=true:=by simp[hx0]
    have ad:=a2.out;rw[decide_eq_true hx0]at ad;obtain⟨PK,a5⟩: ∃PK:Nat,PK=2 ^ k:=⟨_,rfl⟩
    have d9:(2:Int) ^ k=(PK:Int):=by rw[a5];simp
    have d2:PK≤2048:=by rw[a5];exact Nat.le_trans (Nat.pow_le_pow_right (by omega) (show k≤11 by omega)) (by decide)
    have bw:IntKind.i64.wrap (PK:Int)=(PK:Int):=IntWalk.i64_in _ (by omega);obtain⟨S2,bj⟩: ∃S2,S2=C0+iL pf (k+1):=⟨_,rfl⟩
    have d8:bits .or .i64 (S:Int) (PK:Int)=(S2:Int):=by rw[aDk S PK (by omega) (by omega),a5,HS.out,cb.out,aHl hlt ad,bj,cb.out]
    have bi:=xQ bj;clear ad a5 hx0 bj;go_wp2;go_roundw
    case rel=>exact⟨k+1,S2,_,by omega,by go_num,rfl,bi.out,ce.out,M6⟩
    case measure=>simp[intOf];omega
   have t0:(x==0)=false:=by simp[hx0]
   have ad:=a2.out;rw[decide_eq_false hx0]at ad;have bi:=xQ (show S=C0+iL pf (k+1) by rw[aHm ad];exact HS.out);clear ad hx0;go_wp2;go_roundw
   case rel=>exact⟨k+1,S,_,by omega,by go_num,rfl,bi.out,ce.out,M6⟩
   case measure=>simp[intOf];omega
  obtain rfl:n=k:=by omega
  obtain rfl:S=st:=by rw[HS.out,cz.out]
  have a9:=xQ HR.out;clear HS HR di;obtain⟨gB,bp⟩: ∃gB,gB=wr.heap.size:=⟨_,rfl⟩
  have M2:=(show Mem w (wr.alloc (.cells AB rV)) [aJ w.heap.size rV 1 (some ⟨gB,0,none⟩) N N (mM (List.replicate N 0)),gK w.heap.size TI 1 rows,aJ w.heap.size TSS 1 (some ⟨w.heap.size+1,0,none⟩) n n (gO n rows),aI w.heap.size (w.heap.size) TH3 #[aA,aB,.slice (some ⟨pb,po,none⟩) n a]]from by
   have h1:=HM.lit rV 1 N gB AB bp.symm (by rw[ca.out];omega) (by simp[maxLen];omega);rw[b9.out]at h1
   exact h1)
  go_upto_region 12 with fail;rw[←bp];clear b9 ca cs HM bp;generalize c1:World.alloc _ _=w2;rw[c1]at M2;clear c1 c3;go_wp2;go_loopw [56] (fun i wr=> ∃(k:Nat),k≤N∧i= .int .i64 (k:Int)∧Mem w wr [aJ w.heap.size rV 1 (some ⟨gB,0,none⟩) N N (mM (List.replicate k (-1)++List.replicate (N-k) 0)),gK w.heap.size TI 1 rows,aJ w.heap.size TSS 1 (some ⟨w.heap.size+1,0,none⟩) n n (gO n rows),aI w.heap.size (w.heap.size) TH3 #[aA,aB,.slice (some ⟨pb,po,none⟩) n a]]) (fun i _=>N-(intOf i).toNat)
  case atStart=>exact⟨0,Nat.zero_le _,rfl,by simpa using M2⟩
  case round=>
   clear M2;obtain⟨k,hk,rfl,hM⟩:=hrel;have HM:=hM;clear hM;by_cases hlt:k<N
   ·have i1:(0:Int)≤(k:Int):=by omega
    have i2:(k:Int)<(N:Int):=by omega
    have hl:(List.replicate k (-1:Int)++List.replicate (N-k) 0)[k]? =some 0:=by rw[List.getElem?_append_right (by simp)];simp[List.getElem?_replicate];omega
    have c4:wr.cell? ⟨gB,k,none⟩=some (.int .i32 0):=by have:=(HM.ow 0).cellAt k (by omega);rw[this];exact yN hl
    have c6:wr.frozen? ⟨gB,k,none⟩=false:=(HM.ow 0).frozenAt k;clear hl;have M2:=(HM.ostore (i:=0) rfl k (.int .i32 (-1)))
    go_wp2;go_roundw
    case rel=>exact⟨k+1,by omega,by go_num,by have:=M2;rw[qG,aE7 hlt]at this;exact this⟩
    case measure=>simp[intOf];omega
   obtain rfl:N=k:=by omega
   rw[Nat.sub_self,show List.replicate N (-1:Int)++List.replicate 0 0=List.replicate N (-1) by simp]at HM;have i1:(0:Int)≤(S:Int):=by omega
   have i2:(S:Int)<(N:Int):=by omega
   have i3:IntKind.i32.wrap (S:Int)=(S:Int):=aIs _ (by omega);have c4:wr.cell? ⟨gB,S,none⟩=some (.int .i32 (-1)):=by have:=(HM.ow 0).cellAt S (by omega);rw[this];exact yN (by rw[List.getElem?_replicate,if_pos c0])
   have c6:wr.frozen? ⟨gB,S,none⟩=false:=(HM.ow 0).frozenAt S;have M2:=(show Mem w (wr.setCell ⟨gB,S,none⟩ (.int .i32 (S:Int))) [aJ w.heap.size rV 1 (some ⟨gB,0,none⟩) N N (mM ((List.replicate N (-1)).set S (S:Int))),gK w.heap.size TI 1 rows,aJ w.heap.size TSS 1 (some ⟨w.heap.size+1,0,none⟩) n n (gO n rows),aI w.heap.size (w.heap.size) TH3 #[aA,aB,.slice (some ⟨pb,po,none⟩) n a]]from by rw[←qG];exact HM.ostore (i:=0) rfl S (.int .i32 (S:Int)))
   go_upto_region 18 with fail;clear c4 c6 HM;generalize bw:World.setCell _ _ _=w1;rw[bw]at M2;clear bw;have M3:=(M2.lit TI 1 1 w1.heap.size #[(S:Int)] rfl rfl (by simp[maxLen]))
   have I1:=xQ (show SRun adj (fun v=>v/P2=0) N S 0 ((List.replicate N (-1)).set S (S:Int)) [S]from .init);clear M2;go_wp2;go_loopw [13,14] (fun v i wr=> ∃(k:Nat) (q:OA) (l lc:Nat) (B:List Int) (Q:List Nat),k≤l∧i= .int .i64 (k:Int)∧v= .slice q l lc∧l=Q.length∧l≤N∧SRun adj (fun v=>v/P2=0) N S k B Q∧Mem w wr [aJ w.heap.size TI 1 (q) (l) lc (ivs (bF (Q))),aJ w.heap.size rV 1 (some ⟨gB,0,none⟩) N N (mM (B)),gK w.heap.size TI 1 rows,aJ w.heap.size TSS 1 (some ⟨w.heap.size+1,0,none⟩) n n (gO n rows),aI w.heap.size (w.heap.size) TH3 #[aA,aB,.slice (some ⟨pb,po,none⟩) n a]]) (fun _ i _=>N-(intOf i).toNat)
   case atStart=>exact⟨0,some ⟨w1.heap.size,0,none⟩,1,1,_,[S],Nat.zero_le _,rfl,rfl,rfl,by omega,I1.out,M3⟩
   case round=>
    clear M3 I1;obtain⟨k,q,l,lc,B,Q,hk,rfl,rfl,cq,d5,au,hM⟩:=hrel;have HM:=hM;have aj:=xQ au;have a1:=xQ cq;have bg:=xQ (b2 k B Q au);clear hM au cq;by_cases hlt2:k<l
    ·obtain⟨u,hu⟩: ∃u,Q[k]? =some u:=⟨_,List.getElem?_eq_getElem (by rw[←a1.out];exact hlt2)⟩
     have av:u<N:=bg.out.bd u (List.mem_of_getElem? hu);have HU:=xQ hu;clear hu;obtain⟨gL,rfl,dg,dh⟩:=HM.so 0;clear dg dh;have i3:(0:Int)≤(k:Int):=by omega
     have i4:(k:Int)<(l:Int):=by omega
     have cu:wr.cell? ⟨gL,k,none⟩=some (.int .i64 (u:Int)):=by have:=(HM.ow 0).cellAt k (by omega);rw[this];simp[ivs,bF,HU.out]
     obtain⟨cr,a6⟩: ∃cr,cr=u/P2:=⟨_,rfl⟩
     have dy:(u:Int)/(P2:Int)=(cr:Int):=by rw[a6];simp
     have az:=xQ a6;have du:cr≤u:=by rw[a6];exact Nat.div_le_self _ _
     clear a6;by_cases hc0:cr=0
     ·have t0:((cr:Int)==0)=true:=by simp[hc0]
      obtain⟨d,code,ed,de,cf,bb,cj,ci⟩:=HG k u B Q aj HU.out (by rw[←az.out];exact hc0);have b4:=xQ (fun(w':World) (hx:Ext wr w')=>aIa n N d N gB B code ed w' hn cc de cf ((HM.sq 1).ext hx) (hE.out.ext (HM.ext.trans hx)) (Nat.lt_of_lt_of_le (HM.hi 1) hx.sz));rw[bb,cj]at b4;have c9:=xQ ci;clear cf bb cj ci hc0;go_wp2_with fail;clear cu;refine(b4 _ (Ext.refl _)).mono ?_;rintro e w5 ⟨q5,c5,rfl,o5,ax⟩;have M5:=(HM.call ax o5)
      clear o5 ax HM;go_wp2;exact bodyPost_ret (v:= .tuple #[.slice q5 ((List.range d).map (fun i=>iK (ed i))).length c5,.bool true]) (by simp[results,Tryz.results191,go_sem]) rfl (by rw[c9.out];exact⟨q5,c5,rfl,M5.ow 0,M5.ext⟩)
     have t0:((cr:Int)==0)=false:=by simp;omega
     have df:Hid (¬u/P2=0):=by show¬_;rw[←az.out];exact hc0
     clear hc0;go_wp2;clear cu;go_loopw [13,91] (fun v i wr=> ∃(f:Nat) (q:OA) (l2 lc:Nat) (B2:List Int) (Q2:List Nat),f≤n∧i= .int .i64 (f:Int)∧v= .slice q l2 lc∧l2=Q2.length∧(B2,Q2)=bL (u:Int) (B,Q) (gM aA n P2 u f)∧Mem w wr [aJ w.heap.size TI 1 (q) (l2) lc (ivs (bF (Q2))),aJ w.heap.size rV 1 (some ⟨gB,0,none⟩) N N (mM (B2)),gK w.heap.size TI 1 rows,aJ w.heap.size TSS 1 (some ⟨w.heap.size+1,0,none⟩) n n (gO n rows),aI w.heap.size (w.heap.size) TH3 #[aA,aB,.slice (some ⟨pb,po,none⟩) n a]]) (fun _ i _=>n-(intOf i).toNat)
     case atStart=>exact⟨0,some ⟨gL,0,none⟩,l,lc,B,Q,Nat.zero_le _,rfl,rfl,a1.out,rfl,HM⟩
     case round=>
      clear HM;obtain⟨f,q,l2,lc,B2,Q2,hf,rfl,rfl,bc,bo,hM⟩:=hrel;have be:SOk N B2 Q2:=by have:=SOk.expand (u:=(u:Int)) (by omega) (gM aA n P2 u f) bg (fun v hv=>ae u v av (rF hf v hv));rw[←bo]at this;exact this
      have HM:=hM;have a0:=xQ bo;have y:=xQ bc;have b0:=xQ be;clear hM bo bc be;by_cases hlt3:f<n
      ·obtain⟨PF,z⟩: ∃PF:Nat,PF=2 ^ f:=⟨_,rfl⟩
       have dw:(2:Int) ^ f=(PF:Int):=by rw[z];simp
       have ds:PF≤2048:=by rw[z];exact Nat.le_trans (Nat.pow_le_pow_right (by omega) (show f≤11 by omega)) (by decide)
       have ea:IntKind.i64.wrap (PF:Int)=(PF:Int):=IntWalk.i64_in _ (by omega);have a2:=xQ z;have j1:(0:Int)≤(f:Int):=by omega
       have j2:(f:Int)<(n:Int):=by omega
       by_cases hbf:u.testBit f=true
       ·have ch:bits .and .i64 (u:Int) (PF:Int)=(PF:Int):=by rw[z];exact aEn (by omega) (by omega) hbf
        have dv:0<PF:=by rw[z];exact Nat.two_pow_pos f
        have t1:((PF:Int)!=0)=true:=by simp;omega
        have br:Hid (gM aA n P2 u (f+1)=gM aA n P2 u f):=by show _=_;rw[oY,aLo (by rw[ah.out,nZ u hlt3];exact hbf),List.append_nil]
        clear hbf z;go_wp2;go_roundw
        case rel=>exact⟨f+1,q,l2,lc,B2,Q2,by omega,by go_num,rfl,y.out,by rw[br.out];exact a0.out,HM⟩
        case measure=>simp[intOf];omega
       have hbf:u.testBit f=false:=by simpa using hbf
       have ch:bits .and .i64 (u:Int) (PF:Int)=0:=by rw[z];exact aJf (by omega) (by omega) hbf
       have ak:(u%P2).testBit f=false:=by rw[ah.out,nZ u hlt3];exact hbf
       have c8:=xQ hbf;have a8:=xQ ak;obtain⟨⟨rq,rn,rc,ec⟩,ag⟩: ∃r,rows[f]? =some r:=⟨_,List.getElem?_eq_getElem (by rw[a9.out.1];exact hlt3)⟩
       obtain⟨bs,bu⟩:=a9.out.2 f _ ag;dsimp only at bs bu;have bh:=xQ ag;obtain⟨nb,p⟩: ∃nb,nb=aS aA n f:=⟨_,rfl⟩
       rw[←p]at bs bu;have dm:nb.length≤n:=by rw[p];exact Nat.le_trans (List.length_filter_le _ _) (by simp)
       have ai:=xQ p;subst bs bu;have dd:wr.cell? ⟨w.heap.size+1,f,none⟩=some (.slice rq nb.length rc):=by have h7:=(HM.ow 3).cellAt f (by omega);rw[h7];exact aGc ag
       have br:Hid (gM aA n P2 u (f+1)=gM aA n P2 u f++iE aA n P2 u f nb.length):=by show _=_;rw[oY,aJ4 ak,p]
       clear hbf ak z ag p;go_wp2;clear dd;go_loopw [13,104] (fun v i wr=> ∃(j:Nat) (q:OA) (l3 lc:Nat) (B3:List Int) (Q3:List Nat),j≤nb.length∧i= .int .i64 (j:Int)∧v= .slice q l3 lc∧l3=Q3.length∧(B3,Q3)=bL (u:Int) (B,Q) (gM aA n P2 u f++iE aA n P2 u f j)∧Mem w wr [aJ w.heap.size TI 1 (q) (l3) lc (ivs (bF (Q3))),aJ w.heap.size rV 1 (some ⟨gB,0,none⟩) N N (mM (B3)),gK w.heap.size TI 1 rows,aJ w.heap.size TSS 1 (some ⟨w.heap.size+1,0,none⟩) n n (gO n rows),aI w.heap.size (w.heap.size) TH3 #[aA,aB,.slice (some ⟨pb,po,none⟩) n a]]) (fun _ i _=>nb.length-(intOf i).toNat)
       case atStart=>exact⟨0,q,l2,lc,B2,Q2,Nat.zero_le _,rfl,rfl,y.out,by rw[aCk,List.append_nil];exact a0.out,HM⟩
       case round=>
        clear HM;obtain⟨j,q,l3,lc,B3,Q3,hj,rfl,rfl,an,am,hM⟩:=hrel;have ao:SOk N B3 Q3:=by
         have:=SOk.expand (u:=(u:Int)) (by omega) (gM aA n P2 u f++iE aA n P2 u f j) bg (fun v hv=>by
          rcases List.mem_append.1 hv with hv|hv
          ·exact ae u v av (rF hf v hv)
          ·exact ae u v av (wG hlt3 a8 v hv))
         rw[←am]at this;exact this
        have HM:=hM;have b:=xQ am;have o:=xQ an;have b1:=xQ ao;have d4:l3≤N:=by rw[an];exact ao.qlen
        clear hM am an ao;by_cases hlt4:j<nb.length
        ·obtain⟨t,a7⟩: ∃t,nb[j]? =some t:=⟨_,List.getElem?_eq_getElem hlt4⟩
         have bv:t<n:=(bQ.1 (by rw[←ai.out];exact List.mem_of_getElem? a7:t∈aS aA n f)).1;have bf:(aS aA n f)[j]? =some t:=by rw[←ai.out];exact a7
         have aq:wr.ownsRow w.heap.size TI 1 (.slice rq nb.length rc) nb.length (ivs (bF nb)):=HM.ok (gK w.heap.size TI 1 rows) (by simp) _ (List.mem_of_getElem? bh.out);obtain⟨gR,dj⟩: ∃gR,rq=some ⟨gR,0,none⟩:=by
          rcases aq.2 with⟨_,h3⟩|⟨g,_,_,h3,_⟩
          ·omega
          injection h3 with h3;exact⟨g,h3⟩
         subst dj;have ct:wr.cell? ⟨gR,j,none⟩=some (.int .i64 (t:Int)):=by have:=aq.cellAt j (by omega);rw[this];simp[ivs,bF,a7]
         have b3:=xQ bf;clear a7 bf aq;obtain⟨PT,aa⟩: ∃PT:Nat,PT=2 ^ t:=⟨_,rfl⟩
         have dz:(2:Int) ^ t=(PT:Int):=by rw[aa];simp
         have dt:PT≤2048:=by rw[aa];exact Nat.le_trans (Nat.pow_le_pow_right (by omega) (show t≤11 by omega)) (by decide)
         have eb:IntKind.i64.wrap (PT:Int)=(PT:Int):=IntWalk.i64_in _ (by omega);have m1:(0:Int)≤(j:Int):=by omega
         have m2:(j:Int)<(nb.length:Int):=by omega
         have m3:(0:Int)≤(t:Int):=by omega
         have m4:(t:Int)<(n:Int):=by omega
         by_cases hbt:u.testBit t=true
         ·have ba:(u%P2).testBit t=true:=by rw[ah.out,nZ u bv];exact hbt
          have bl:bits .and .i64 (u:Int) (PT:Int)=(PT:Int):=by rw[aa];exact aEn (by omega) (by omega) hbt
          have dq:0<PT:=by rw[aa];exact Nat.two_pow_pos t
          have t2:((PT:Int)==0)=false:=by simp;omega
          have ab:=aFi b3 ba;have bq:fP P2 (u/P2) (u%P2) f t<N:=ae u _ av (wG (j:=j+1) hlt3 a8 _ (by rw[ab];simp));have cw:=aJz (u:=u) (f:=f) (t:=t) hn (by rw[←cd.out];exact av) hlt3 bv c8 hbt (by rw[←cd.out,←ah.out];exact bq);rw[←ah.out,←a2.out,←aa]at cw;generalize fP P2 (u/P2) (u%P2) f t=nx at*;have ap:gM aA n P2 u f++iE aA n P2 u f (j+1)=(gM aA n P2 u f++iE aA n P2 u f j)++ [nx]:=by rw[ab,List.append_assoc]
          have af:=xQ ap;clear ab ap hbt ba aa;generalize u ^^^ 2 ^ f=X1 at*;generalize cV u f t=mv at*;generalize ((t:Int)-(f:Int))*(P2:Int)=D at*;obtain⟨x1,x2,x3,x4,x5⟩:=cw;have da:=xQ x3;have b5:=xQ x4;have d0:IntKind.i64.wrap ((t:Int)-(f:Int))=(t:Int)-(f:Int):=IntWalk.i64_in _ (by omega);clear x3 x4;obtain⟨bn,bm⟩: ∃bn,bn=B3.getD nx 0:=⟨_,rfl⟩
          have al:=dD (D:=B3) (v:=nx) (by rw[b1.out.len];exact bq);rw[←bm]at al;have cn:wr.cell? ⟨gB,nx,none⟩=some (.int .i32 bn):=by have:=(HM.ow 1).cellAt nx (by omega);rw[this];exact yN al.1
          have b6:wr.frozen? ⟨gB,nx,none⟩=false:=(HM.ow 1).frozenAt nx;have ay:=xQ bm;clear bm al;have m5:(0:Int)≤(nx:Int):=by omega
          have m6:(nx:Int)<(N:Int):=by omega
          have d1:IntKind.i32.wrap (u:Int)=(u:Int):=aIs _ (by omega);by_cases hfc:f=cr
          ·have t3:((f:Int)==(cr:Int))=true:=by simp[hfc]
           have x4:IntKind.i64.wrap ((mv:Int)+D)=(nx:Int):=b5 (hfc.trans az.out);clear hfc;by_cases hneg:bn<0
           ·have t4:decide (bn<0)=true:=by simp[hneg]
            have m:Hid ((B3.set nx (u:Int),Q3++ [nx])=bL (u:Int) (B,Q) (gM aA n P2 u f++iE aA n P2 u f (j+1))):=by show _=_;rw[af.out,dM,←b.out,kD (by rw[←ay.out];exact hneg)]
            have M6:=(show Mem w (wr.setCell ⟨gB,nx,none⟩ (.int .i32 (u:Int))).drew [aJ w.heap.size TI 1 (q) (l3) lc (ivs (bF (Q3))),aJ w.heap.size rV 1 (some ⟨gB,0,none⟩) N N (mM (B3.set nx (u:Int))),gK w.heap.size TI 1 rows,aJ w.heap.size TSS 1 (some ⟨w.heap.size+1,0,none⟩) n n (gO n rows),aI w.heap.size (w.heap.size) TH3 #[aA,aB,.slice (some ⟨pb,po,none⟩) n a]]from by rw[←qG];exact(HM.ostore (i:=1) rfl nx (.int .i32 (u:Int))).adv (Ext.drew (Ext.refl _)))
            clear hneg b HM;go_upto_region 34 with fail;go_region;go_upto_region 39 with fail;clear ct cn b6;generalize aw:World.setCell _ _ _=w4;rw[aw]at M6;clear aw;go_wp2_with (at_builtin;go_loud (refine cE eV rfl _ _ rfl (M6.adv ((Ext.refl _).alloc (.cells #[(nx:Int)] TI))) 0 rfl rfl (ivs [(nx:Int)]) rfl ((dJ w4 #[(nx:Int)] TI 1 1 _ rfl rfl (by simp[maxLen])).ext (Ext.drew (Ext.refl _))) (fun u hu=>by obtain rfl:=List.mem_singleton.1 hu;rfl) (by omega) ?_;intro q7 c7 w6 M7));have M8:=(show Mem w w6 [aJ w.heap.size TI 1 (q7) (l3+1) c7 (ivs (bF (Q3++ [nx]))),aJ w.heap.size rV 1 (some ⟨gB,0,none⟩) N N (mM (B3.set nx (u:Int))),gK w.heap.size TI 1 rows,aJ w.heap.size TSS 1 (some ⟨w.heap.size+1,0,none⟩) n n (gO n rows),aI w.heap.size (w.heap.size) TH3 #[aA,aB,.slice (some ⟨pb,po,none⟩) n a]]from by rw[show ivs (bF (Q3++ [nx]))=ivs (bF Q3)++ivs [(nx:Int)] by simp[ivs,bF]];exact M7)
            clear M7 M6;go_wp2;go_roundw
            case rel=>exact⟨j+1,q7,l3+1,c7,B3.set nx (u:Int),Q3++ [nx],by omega,by go_num,rfl,by simp[o.out],m.out,M8⟩
            case measure=>simp[intOf];omega
           have t4:decide (bn<0)=false:=by simp;omega
           have m:Hid ((B3,Q3)=bL (u:Int) (B,Q) (gM aA n P2 u f++iE aA n P2 u f (j+1))):=by show _=_;rw[af.out,dM,←b.out,lR (by rw[←ay.out];exact hneg)]
           clear hneg b;go_upto_region 34 with fail;go_region;go_wp2;go_roundw
           case rel=>exact⟨j+1,q,l3,lc,B3,Q3,by omega,by go_num,rfl,o.out,m.out,HM.adv xE⟩
           case measure=>simp[intOf];omega
          have t3:((f:Int)==(cr:Int))=false:=by simp;omega
          have dl:nx=mv:=(da (fun e=>hfc (e.trans az.out.symm))).symm;subst dl;clear hfc;by_cases hneg:bn<0
          ·have t4:decide (bn<0)=true:=by simp[hneg]
           have m:Hid ((B3.set nx (u:Int),Q3++ [nx])=bL (u:Int) (B,Q) (gM aA n P2 u f++iE aA n P2 u f (j+1))):=by show _=_;rw[af.out,dM,←b.out,kD (by rw[←ay.out];exact hneg)]
           have M6:=(show Mem w (wr.setCell ⟨gB,nx,none⟩ (.int .i32 (u:Int))).drew [aJ w.heap.size TI 1 (q) (l3) lc (ivs (bF (Q3))),aJ w.heap.size rV 1 (some ⟨gB,0,none⟩) N N (mM (B3.set nx (u:Int))),gK w.heap.size TI 1 rows,aJ w.heap.size TSS 1 (some ⟨w.heap.size+1,0,none⟩) n n (gO n rows),aI w.heap.size (w.heap.size) TH3 #[aA,aB,.slice (some ⟨pb,po,none⟩) n a]]from by rw[←qG];exact(HM.ostore (i:=1) rfl nx (.int .i32 (u:Int))).adv (Ext.drew (Ext.refl _)))
           clear hneg b HM;go_upto_region 34 with fail;go_region;go_upto_region 39 with fail;clear ct cn b6;generalize aw:World.setCell _ _ _=w4;rw[aw]at M6;clear aw;go_wp2_with (at_builtin;go_loud (refine cE eV rfl _ _ rfl (M6.adv ((Ext.refl _).alloc (.cells #[(nx:Int)] TI))) 0 rfl rfl (ivs [(nx:Int)]) rfl ((dJ w4 #[(nx:Int)] TI 1 1 _ rfl rfl (by simp[maxLen])).ext (Ext.drew (Ext.refl _))) (fun u hu=>by obtain rfl:=List.mem_singleton.1 hu;rfl) (by omega) ?_;intro q7 c7 w6 M7));have M8:=(show Mem w w6 [aJ w.heap.size TI 1 (q7) (l3+1) c7 (ivs (bF (Q3++ [nx]))),aJ w.heap.size rV 1 (some ⟨gB,0,none⟩) N N (mM (B3.set nx (u:Int))),gK w.heap.size TI 1 rows,aJ w.heap.size TSS 1 (some ⟨w.heap.size+1,0,none⟩) n n (gO n rows),aI w.heap.size (w.heap.size) TH3 #[aA,aB,.slice (some ⟨pb,po,none⟩) n a]]from by rw[show ivs (bF (Q3++ [nx]))=ivs (bF Q3)++ivs [(nx:Int)] by simp[ivs,bF]];exact M7)
           clear M7 M6;go_wp2;go_roundw
           case rel=>exact⟨j+1,q7,l3+1,c7,B3.set nx (u:Int),Q3++ [nx],by omega,by go_num,rfl,by simp[o.out],m.out,M8⟩
           case measure=>simp[intOf];omega
          have t4:decide (bn<0)=false:=by simp;omega
          have m:Hid ((B3,Q3)=bL (u:Int) (B,Q) (gM aA n P2 u f++iE aA n P2 u f (j+1))):=by show _=_;rw[af.out,dM,←b.out,lR (by rw[←ay.out];exact hneg)]
          clear hneg b;go_upto_region 34 with fail;go_region;go_wp2;go_roundw
          case rel=>exact⟨j+1,q,l3,lc,B3,Q3,by omega,by go_num,rfl,o.out,m.out,HM.adv xE⟩
          case measure=>simp[intOf];omega
         have hbt:u.testBit t=false:=by simpa using hbt
         have bl:bits .and .i64 (u:Int) (PT:Int)=0:=by rw[aa];exact aJf (by omega) (by omega) hbt
         have ab:=xQ (aHx b3 (show(u%P2).testBit t=false by rw[ah.out,nZ u bv];exact hbt));clear hbt aa;go_wp2;go_roundw
         case rel=>exact⟨j+1,q,l3,lc,B3,Q3,by omega,by go_num,rfl,o.out,by rw[ab.out];exact b.out,HM⟩
         case measure=>simp[intOf];omega
        obtain rfl:nb.length=j:=by omega
        go_wp2;go_roundw
        case rel=>exact⟨f+1,q,l3,lc,B3,Q3,by omega,by go_num,rfl,o.out,by rw[br.out];exact b.out,HM⟩
        case measure=>simp[intOf];omega
      obtain rfl:n=f:=by omega
      have bt:Hid (SRun adj (fun v=>v/P2=0) N S (k+1) B2 Q2):=by show SRun _ _ _ _ _ _ _;have h7:=SRun.step aj HU.out df.out;have h8:=a0.out;rw[wH,←(show adj u=mR aA n P2 u by rw[cg.out])]at h8;rw[←h8]at h7;exact h7
      have cm:l2≤N:=by rw[y.out];exact b0.out.qlen
      have cl:k+1≤l2:=by have h8:=a0.out;obtain⟨r,h9,_⟩:=nM (u:Int) (gM aA n P2 u n) B Q;rw[←h8]at h9;dsimp only at h9;rw[y.out,h9,List.length_append];have:=a1.out;omega
      go_wp2;go_roundw
      case rel=>exact⟨k+1,q,l2,lc,B2,Q2,cl,by go_num,rfl,y.out,cm,bt.out,HM⟩
      case measure=>simp[intOf];omega
    have ck:=xQ (bz k B Q aj (by rw[←a1.out];omega));have hX:=xQ HM.ext;clear HM;go_wp2;exact bodyPost_ret (v:= .tuple #[((),()),.bool false]) (by simp[results,Tryz.results191,go_sem]) rfl (by rw[ck.out];exact⟨_,rfl,hX.out⟩)
theorem aFy (aA aB:Int)(p:OA)(a:Nat)(f t:Int)(xs:List Int)(w:World)(ag:4≤xs.length)(hn:xs.length≤12)
  (HV:xB 53 #[aH aA aB p xs.length a] w true)
  (HK:Hid (∀w',Ext w w'→Calls Tryz.prog 79 #[aH aA aB p xs.length a] w' (cY aA aB xs w')))
  (HM:xB 102 #[aH aA aB p xs.length a,dQ f t] w false):
  Calls Tryz.prog 49 #[aH aA aB p xs.length a,dQ f t] w (cO aA aB xs false w):=by
 go_enter Tryz.func49,Tryz.ntmps49;go_wp2_with fail;refine(HV _ ((((Mem.start w).c0 TH3 #[aA,aB,.slice p xs.length a]).c1 TSL #[f,t]).bn TH3 #[(),(),((),())] (w.heap.size+2)).ext).mono ?_;rintro e w1 ⟨rfl,o⟩;have M1:=(((((Mem.start w).c0 TH3 #[aA,aB,.slice p xs.length a]).c1 TSL #[f,t]).bn TH3 #[(),(),((),())] (w.heap.size+2)).adv o)
 have d:=M1.hi 0;have h:=M1.hi 1;have i:=M1.hi 2;clear o;obtain⟨h0,h1,h2⟩:=(M1.bk 2).tri;go_wp2_with fail;clear h0 h1 h2;refine(HK _ M1.ext).mono ?_;rintro e w2 ⟨q,c2,rfl,m,r⟩;have M2:=(M1.call r m)
 clear M1 d h i r m;have j:=M2.hi 1;have k:=M2.hi 2;have l:=M2.hi 3;obtain⟨g,rfl,ae,af⟩:=M2.so 0;obtain⟨h0,h1,h2⟩:=(M2.bk 3).tri;have s0:=(M2.bk 2).cl 0;have s1:=(M2.bk 2).cl 1;go_wp2_with fail;clear h0 h1 h2 s0 s1;refine(HM _ (M2.c0 TH3 #[aA,aB,.slice (some ⟨g,0,none⟩) xs.length c2]).ext).mono ?_;rintro e w3 ⟨rfl,s⟩;have M3:=((M2.c0 TH3 #[aA,aB,.slice (some ⟨g,0,none⟩) xs.length c2]).adv s)
 clear M2 j k l s;have u:=M3.hi 0;have x:=M3.hi 2;have y:=M3.hi 3;have z:=M3.hi 4;obtain⟨v0,v1,v2⟩:=(M3.bk 0).tri;obtain⟨z0,aa,z1,ab,z2,ad⟩:=(M3.bk 2).trif;obtain⟨b,c⟩:=M3.nq 0 2;go_wp2;have M4:=((M3.st 2 0 (.int .i64 aA)).st 2 1 (.int .i64 aB))
 have M5:=(M4.st 2 2 (.slice (some ⟨g,0,none⟩) xs.length c2))
 have M6:=(show Mem w (((w3.setCell ⟨w.heap.size+2,0,none⟩ (.int .i64 aA)).setCell ⟨w.heap.size+2,1,none⟩ (.int .i64 aB)).setCell ⟨w.heap.size+2,2,none⟩ (.slice (some ⟨g,0,none⟩) xs.length c2)) [aI w.heap.size (w2.heap.size) TH3 #[aA,aB,.slice (some ⟨g,0,none⟩) xs.length c2],aJ w.heap.size TI 1 (some ⟨g,0,none⟩) (xs.length) (c2) (ivs xs),aI w.heap.size (w.heap.size+2) TH3 #[aA,aB,.slice (some ⟨g,0,none⟩) xs.length c2],aI w.heap.size (w.heap.size+1) TSL #[f,t],aI w.heap.size (w.heap.size) TH3 #[aA,aB,.slice p xs.length a]]from M5)
 generalize n:World.setCell _ _ _=wz;rw[n]at M6;clear n M3 M4 M5 v0 v1 v2 z0 aa z1 ab z2 ad b c;obtain⟨y0,y1,y2⟩:=(M6.bk 2).tri;exact bodyPost_ret (v:= .tuple #[.agg #[aA,aB,.slice (some ⟨g,0,none⟩) xs.length c2],.bool false]) (by simp[results,Tryz.results49,go_sem, *]) rfl (dZ (by simp) (by exact(M6.ow 1)) M6.ext)
theorem aD1 (aA aB:Int)(c i j b a:Nat)(x yj:Int)(xs:List Int)(w:World)(a9:4≤xs.length)(hn:xs.length≤12)(hi:i<xs.length)(hj:j<xs.length)(ag:i≠j)(HX:Hid (xs[i]? =some x)) (HY:Hid (xs[j]? =some yj))
  (hb:b<w.heap.size) (ao:Hid (w.cell? ⟨b,a+i,none⟩=some (.int .i64 x)))
  (HV:xB 53 #[aH aA aB (some ⟨b,a,none⟩) xs.length c] w true)
  (HK:Hid (∀w',Ext w w'→Calls Tryz.prog 79 #[aH aA aB (some ⟨b,a,none⟩) xs.length c] w' (cY aA aB xs w')))
  (HM:xB 102 #[aH aA aB (some ⟨b,a,none⟩) xs.length c,dQ (i:Int) (j:Int)] w true):
  Calls Tryz.prog 49 #[aH aA aB (some ⟨b,a,none⟩) xs.length c,dQ (i:Int) (j:Int)] w (cO aA aB ((xs.set j x).set i 0) true w):=by
 have a1:(0:Int)≤(i:Int):=by omega
 have a2:(0:Int)≤(j:Int):=by omega
 have a3:(i:Int)<(xs.length:Int):=by omega
 have a4:(j:Int)<(xs.length:Int):=by omega
 go_enter Tryz.func49,Tryz.ntmps49;go_wp2_with fail;refine(HV _ ((((Mem.start w).c0 TH3 #[aA,aB,.slice (some ⟨b,a,none⟩) xs.length c]).c1 TSL #[(i:Int),(j:Int)]).bn TH3 #[(),(),((),())] (w.heap.size+2)).ext).mono ?_;rintro e w1 ⟨rfl,ak⟩;have M1:=(((((Mem.start w).c0 TH3 #[aA,aB,.slice (some ⟨b,a,none⟩) xs.length c]).c1 TSL #[(i:Int),(j:Int)]).bn TH3 #[(),(),((),())] (w.heap.size+2)).adv ak)
 have r:=M1.hi 0;have s:=M1.hi 1;have t:=M1.hi 2;clear ak;obtain⟨h0,h1,h2⟩:=(M1.bk 2).tri;go_wp2_with fail;clear h0 h1 h2;refine(HK _ M1.ext).mono ?_;rintro e w2 ⟨q,c2,rfl,ah,al⟩;have M2:=(M1.call al ah)
 clear M1 r s t al ah;have u:=M2.hi 1;have y:=M2.hi 2;have z:=M2.hi 3;obtain⟨g,rfl,a7,a8⟩:=M2.so 0;obtain⟨h0,h1,h2⟩:=(M2.bk 3).tri;have s0:=(M2.bk 2).cl 0;have s1:=(M2.bk 2).cl 1;go_wp2_with fail;clear h0 h1 h2 s0 s1;refine(HM _ (M2.c0 TH3 #[aA,aB,.slice (some ⟨g,0,none⟩) xs.length c2]).ext).mono ?_;rintro e w3 ⟨rfl,am⟩;have M3:=((M2.c0 TH3 #[aA,aB,.slice (some ⟨g,0,none⟩) xs.length c2]).adv am)
 clear M2 u y z am;have aa:=M3.hi 0;have ab:=M3.hi 2;have ad:=M3.hi 3;have ae:=M3.hi 4;obtain⟨v0,v1,v2⟩:=(M3.bk 0).tri;obtain⟨h0,h1,h2⟩:=(M3.bk 4).tri;have s0:=(M3.bk 3).cl 0;have s1:=(M3.bk 3).cl 1;have cx:w3.cell? ⟨b,a+i,none⟩=some (.int .i64 x):=(M3.ext.cells.1 _ _ hb).trans ao.out;have gj:w3.cell? ⟨g,j,none⟩=some (.int .i64 yj):=by have:=(M3.ow 1).cellAt j (by omega);rw[this];simpa[ivs]using HY.out
 have gi:w3.cell? ⟨g,i,none⟩=some (.int .i64 x):=by have:=(M3.ow 1).cellAt i (by omega);rw[this];simpa[ivs]using HX.out
 have aq:w3.frozen? ⟨g,j,none⟩=false:=(M3.ow 1).frozenAt j;have ap:w3.frozen? ⟨g,i,none⟩=false:=(M3.ow 1).frozenAt i;obtain⟨f,h⟩:=M3.nq 0 1;obtain⟨k,l⟩:=M3.nq 1 4;obtain⟨o,p⟩:=M3.nq 1 3;have an: ¬(g=b):=by have:=M3.ext.sz;omega
 have ax: ¬(b=g):=fun e=>an e.symm
 have ay: ¬(i=j):=ag;have az: ¬(j=i):=fun e=>ag e.symm
 go_wp2;go_region_held3 (fun w'=>w'.cell? ⟨w2.heap.size,2,none⟩=some (.slice (some ⟨g,0,none⟩) xs.length c2)∧w'.cell? ⟨w.heap.size,2,none⟩=some (.slice (some ⟨b,a,none⟩) xs.length c)∧w'.cell? ⟨w.heap.size+1,0,none⟩=some (.int .i64 (i:Int))∧w'.cell? ⟨w.heap.size+1,1,none⟩=some (.int .i64 (j:Int))∧w'.cell? ⟨b,a+i,none⟩=some (.int .i64 x)) (first|(refine⟨?_,?_,?_,?_,?_⟩<;>assumption)|go_keep) (first|fail);clear v0 v1 v2 h0 h1 h2 s0 s1 f h k l o p cx gj gi aq ap an ax ay az;have MX:=(show Mem w ((w3.setCell ⟨g,j,none⟩ (.int .i64 x)).setCell ⟨g,i,none⟩ (.int .i64 0)) [aI w.heap.size (w2.heap.size) TH3 #[aA,aB,.slice (some ⟨g,0,none⟩) xs.length c2],aJ w.heap.size TI 1 (some ⟨g,0,none⟩) (xs.length) (c2) (ivs ((xs.set j x).set i 0)),aI w.heap.size (w.heap.size+2) TH3 #[(),(),((),())],aI w.heap.size (w.heap.size+1) TSL #[(i:Int),(j:Int)],aI w.heap.size (w.heap.size) TH3 #[aA,aB,.slice (some ⟨b,a,none⟩) xs.length c]]from by rw[←dR,←dR];exact(M3.ostore (i:=1) rfl j (.int .i64 x)).ostore (i:=1) rfl i (.int .i64 0))
 have MY:=(MX.adv (Ext.drew (Ext.refl _)))
 generalize ai:World.drew _=w4;rw[ai]at MY;clear ai MX M3 aa ab ad ae;have ar:w2.heap.size<w4.heap.size:=(MY.hi 0)
 have au:w.heap.size+2<w4.heap.size:=(MY.hi 2)
 have av:w.heap.size+1<w4.heap.size:=(MY.hi 3)
 have aw:w.heap.size<w4.heap.size:=(MY.hi 4)
 obtain⟨v0,v1,v2⟩:=(MY.bk 0).tri;obtain⟨z0,a0,z1,a5,z2,a6⟩:=(MY.bk 2).trif;obtain⟨m,n⟩:=MY.nq 0 2;go_wp2;have M9:=((MY.st 2 0 (.int .i64 aA)).st 2 1 (.int .i64 aB))
 have af:=(M9.st 2 2 (.slice (some ⟨g,0,none⟩) xs.length c2))
 have d:=(show Mem w (((w4.setCell ⟨w.heap.size+2,0,none⟩ (.int .i64 aA)).setCell ⟨w.heap.size+2,1,none⟩ (.int .i64 aB)).setCell ⟨w.heap.size+2,2,none⟩ (.slice (some ⟨g,0,none⟩) xs.length c2)) [aI w.heap.size (w2.heap.size) TH3 #[aA,aB,.slice (some ⟨g,0,none⟩) xs.length c2],aJ w.heap.size TI 1 (some ⟨g,0,none⟩) (xs.length) (c2) (ivs ((xs.set j x).set i 0)),aI w.heap.size (w.heap.size+2) TH3 #[aA,aB,.slice (some ⟨g,0,none⟩) xs.length c2],aI w.heap.size (w.heap.size+1) TSL #[(i:Int),(j:Int)],aI w.heap.size (w.heap.size) TH3 #[aA,aB,.slice (some ⟨b,a,none⟩) xs.length c]]from af)
 generalize aj:World.setCell _ _ _=wz;rw[aj]at d;clear aj MY M9 af v0 v1 v2 z0 a0 z1 a5 z2 a6 m n;obtain⟨y0,y1,y2⟩:=(d.bk 2).tri;exact bodyPost_ret (v:= .tuple #[.agg #[aA,aB,.slice (some ⟨g,0,none⟩) xs.length c2],.bool true]) (by simp[results,Tryz.results49,go_sem, *]) rfl (dZ (by simp) (by exact(d.ow 1)) d.ext)
theorem wN (aA aB f t:Int)(p:OA)(n a:Nat)(xs:List Int)(w:World)(hS:Sl w p n a 1 (ivs xs))(c:aM aA aB xs=true):
  Calls Tryz.prog 49 #[aH aA aB p n a,dQ f t] w (cO aA aB (bH aA aB xs f t) (bB aA aB xs f t) w):=by
 have hl:=hS.ilen;subst hl;obtain⟨g1,g2,g3,g4,g5,g6,g7,g8,g9⟩:=bM c;have HV:=fun(w':World) (hx:Ext w w')=>fI aA aB p xs.length a xs w' (hS.ext hx)
 rw[c]at HV;have HK:=fun(w':World) (hx:Ext w w')=>kN aA aB p xs.length a xs w' (by omega) (hS.ext hx)
 have HM:=fun(w':World) (hx:Ext w w')=>aL2 aA aB f t p xs.length a xs w' (hS.ext hx) c
 unfold bH;cases h:bB aA aB xs f t with
 |false=>rw[h]at HM;exact aFy aA aB p a f t xs w g5 g6 HV HK HM
 |true=>
  rw[h]at HM;obtain⟨k1,k2,k3,k4,k5,k6,k7,k8,k9⟩:=kK h;obtain⟨i,rfl⟩: ∃i:Nat,f=(i:Int):=⟨f.toNat,by omega⟩
  obtain⟨j,rfl⟩: ∃j:Nat,t=(j:Int):=⟨t.toNat,by omega⟩
  obtain⟨b,e,rfl,hb,g⟩:=hS.rd (by omega);have d:xs[i]? =some (xs.getD i 0):=by rw[List.getD_eq_getElem?_getD,List.getElem?_eq_getElem (by omega)];rfl
  have k:xs[j]? =some (xs.getD j 0):=by rw[List.getD_eq_getElem?_getD,List.getElem?_eq_getElem (by omega)];rfl
  rw[if_pos rfl,Int.toNat_natCast,Int.toNat_natCast];exact aD1 aA aB a i j b e _ _ xs w g5 g6 (by omega) (by omega) (by omega) d k hb (xQ (show w.cell? ⟨b,e+i,none⟩=some (.int .i64 (xs.getD i 0)) by rw[g i (by omega)];simp only[ivs,List.getElem?_map,d,Option.map_some])) HV HK HM
end Go.Proofs.YtpelpnfhbepokaaGreatDoor
