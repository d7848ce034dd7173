/-
  Texts of this proof, packed (@packed).
-/
import Derived.Test.YtbgkcehffiogcacGreatDoorQ23
import Derived.Test.YtbgkcehffiogcacGreatDoorQ25
namespace Go.Proofs.YtbgkcehffiogcacGreatDoor
open Go.RowKit Go.Proofs.Tryz
set_option linter.unusedSimpArgs false
set_option linter.unusedVariables false
set_option maxHeartbeats 8000000
set_option maxRecDepth 100000
abbrev uL:TypeId:=21
theorem aNq (x:Int)(h: -2147483648≤x∧x≤2147483647):IntKind.i32.wrap x=x:=by simp[IntKind.wrap,IntKind.signed,IntKind.bits];omega
theorem aNm (aA aB:Int)(pb po:Nat)(n cap N P2 c C0 st:Nat)(xs:List Int)(pf:Nat→Bool)(adj:Nat→List Nat)(w:World)(d3:4≤n)(hn:n≤12)(cm:Hid (xs.length=n))(dl:pb<w.heap.size)(hE:Hid (BitTab w))(cb:N≤49152)(bp:n≤N)(dp:C0≤12*4096)
  (ag:Hid (P2=2 ^ n))(cc:Hid (N=n*2 ^ n))(ca:Hid (C0=c*2 ^ n))(cy:Hid (st=C0+jM pf n))(cz:st<N)
  (du:(2:Int) ^ n=(P2:Int))(d0:IntKind.i64.wrap ((c:Int)*(P2:Int))=(C0:Int))(d4:IntKind.i64.wrap ((n:Int)*(P2:Int))=(N:Int))
  (dm:Hid (∀k x,xs[k]? =some x→pf k=decide (x=0))) (cf:Hid (adj=fun u=>oK aA n P2 u))
  (c9:Hid (∀k x,xs[k]? =some x→w.cell? ⟨pb,po+k,none⟩=some (I x)))
  (HC:Hid (∀(k:Nat),k<n→ ∀w',Ext w w'→U 217 #[aH aA aB (some ⟨pb,po,none⟩) n cap,k] w' (bA (bG (aS aA n k)) w')))
  (ad:Hid (∀u v,u<N→v∈oK aA n P2 u→v<N))
  (b1:Hid (∀k B Q,SRun adj (fun v=>v/P2=0) N st k B Q→SOk N B Q))
  (HG:Hid (∀k u B Q,SRun adj (fun v=>v/P2=0) N st k B Q→Q[k]? =some u→u/P2=0→ ∃(d:Nat) (code:Nat→Nat) (e:Nat→Nat×Nat),d≤60∧Trail n N d B code e∧code 0=st∧code d=u∧dX aA xs c=some ((List.range d).map (fun i=>jL (e i)))))
  (bx:Hid (∀k B Q,SRun adj (fun v=>v/P2=0) N st k B Q→Q.length≤k→dX aA xs c=none)):
  U 194 #[aH aA aB (some ⟨pb,po,none⟩) n cap,c] w (jY (dX aA xs c) w):=by
 obtain⟨AR,a3⟩: ∃AR:Array Value,AR=madeCells #[((),())] n:=⟨_,rfl⟩
 have di: ∀w:World,(Instr.makeSlice 183 (I n) (I n)).run prog w= .ok (.slice (some ⟨w,0,none⟩) n n) (w.alloc (.cells AR TSS)):=fun w=>by rw[a3];exact run_make_row' _ _ (.slice none 0 0) 24 underlying183 (by kernel_rfl) rfl .i64 .i64 n (by omega) (by omega) w
 have b6:Hid (AR.toList=iO n []):=by show _=_;rw[a3,(iS _ n).1];simp[iO]
 have b7:Hid (AR.size=n):=by show _=_;rw[a3];exact(iS _ n).2
 obtain⟨AB,a2⟩: ∃AB:Array Value,AB=madeCells #[.int .i32 0] N:=⟨_,rfl⟩
 have cq: ∀w:World,(Instr.makeSlice 212 (I N) (I N)).run prog w= .ok (.slice (some ⟨w,0,none⟩) N N) (w.alloc (.cells AB uL)):=fun w=>by rw[a2];exact run_make_row' _ _ (.int .i32 0) 4 underlying212 (by kernel_rfl) rfl .i64 .i64 N (by omega) (by omega) w
 have b8:Hid (AB.toList=oF (List.replicate N 0)):=by show _=_;rw[a2,(iS _ N).1];simp[oF]
 have b9:Hid (AB.size=N):=by show _=_;rw[a2];exact(iS _ N).2
 clear a3 a2;go_enter func194,ntmps194;go_upto_region 4 with fail
 have ME:=(show Mem w ((w.alloc (.cells #[aA,aB,.slice (some ⟨pb,po,none⟩) n cap] TH3)).alloc (.cells AR TSS)) [iL w TI 1 [],aI w TSS 1 (some ⟨w.heap.size+1,0,none⟩) n n (iO n []),aJ w w TH3 #[aA,aB,.slice (some ⟨pb,po,none⟩) n cap]]from by
  have h1:=((Mem.start w).c0 TH3 #[aA,aB,.slice (some ⟨pb,po,none⟩) n cap]).lit TSS 1 n (w.heap.size+1) AR (by simp) (by rw[b7.out];omega) (by simp[maxLen];omega);rw[b6.out]at h1
  exact h1.rows0 rfl)
 clear b6 b7 di;have e0:=(ME.bk 2).tri;obtain⟨h0,h1,h2⟩:=e0;go_wp2;clear h0 h1 h2;go_loopw [8,32] (fun s i wr=> ∃(k S:Nat) (rows:List RowD),k≤n∧i=I k∧s=I S∧S=C0+jM pf k∧qR aA n k rows∧Mem w wr [iL w TI 1 rows,aI w TSS 1 (some ⟨w.heap.size+1,0,none⟩) n n (iO n rows),aJ w w TH3 #[aA,aB,.slice (some ⟨pb,po,none⟩) n cap]]) (fun _ i _=>n-(intOf i).toNat)
 case atStart=>exact⟨0,C0,[],aRv _,rfl,rfl,rfl,⟨rfl,fun j r h=>by simp at h⟩,ME⟩
 case round=>
  clear ME;obtain⟨k,S,rows,hk,rfl,rfl,hS,aq,hM⟩:=hrel;have HM:=hM;have HR:=xQ aq;have HS:=xQ hS;have dg:S<12*4096+4096:=by have h1:=qE pf k;have h2:2 ^ k≤2 ^ 12:=aS0 (n:=2) (by omega) (by omega);omega
  clear hM aq hS;by_cases hlt:k<n
  ·obtain⟨x,hx⟩: ∃x,xs[k]? =some x:=⟨_,aRq (by rw[cm.out];exact hlt)⟩
   have i1:(0:Int)≤(k:Int):=by omega
   have i2:(k:Int)<(n:Int):=by omega
   have cx:wr.cell? ⟨pb,po+k,none⟩=some (I x):=(HM.ext.cells.1 _ _ dl).trans (c9 k x hx);obtain⟨h0,h1,h2⟩:=(HM.bk 2).tri;have a1:=xQ (dm.out k x hx);clear hx;have cw:=HR.out.1;obtain⟨nb,o⟩: ∃nb,nb=aS aA n k:=⟨_,rfl⟩
   have ah:=xQ o;have bw:Hid (∀w',Ext w w'→U 217 #[aH aA aB (some ⟨pb,po,none⟩) n cap,k] w' (bA (bG nb) w')):=by rw[o];exact HC k hlt
   have cs:(bG nb).length=nb.length:=by simp[bG]
   clear o;go_wp2_with fail;clear h0 h1 h2 cx;refine(bw _ HM.ext).mono ?_;rintro e w5 ⟨q5,c5,rfl,o5,aw⟩;rw[cs]at o5⊢;have M5:=((HM.call aw o5).rowsAdd rfl)
   clear o5 aw HM bw;have co:w5.cell? ⟨w.heap.size+1,k,none⟩=some (.slice none 0 0):=by have h7:=(M5.ow 1).cellAt k (by omega);rw[h7];have h8:=aNs (n:=n) (rows:=rows) (by omega);rw[cw]at h8;exact h8
   have da:w5.frozen? ⟨w.heap.size+1,k,none⟩=false:=(M5.ow 1).frozenAt k
   have cd:=xQ (show qR aA n (k+1) (rows++ [⟨q5,nb.length,c5,ivs (bG nb)⟩])from by
    have h7:=vK (q:=q5) (c:=c5) HR.out;rw[←ah.out]at h7
    exact h7)
   have M6:=(show Mem w (w5.setCell ⟨w.heap.size+1,k,none⟩ (.slice q5 nb c5)) [iL w TI 1 (rows++ [⟨q5,nb.length,c5,ivs (bG nb)⟩]),aI w TSS 1 (some ⟨w.heap.size+1,0,none⟩) n n (iO n (rows++ [⟨q5,nb.length,c5,ivs (bG nb)⟩])),aJ w w TH3 #[aA,aB,.slice (some ⟨pb,po,none⟩) n cap]]from by
    have h7:=aL2 (n:=n) (rows:=rows) (by omega) ⟨q5,nb.length,c5,ivs (bG nb)⟩;rw[←h7,cw]
    exact M5.ostore (i:=1) rfl k (.slice q5 nb c5))
   clear M5 HR ah;go_upto_region 8 with fail;clear co da;generalize c1:World.setCell _ _ _=w6;rw[c1]at M6;clear c1;by_cases hx0:x=0
   ·have t0:(x==0)=true:=by simp[hx0]
    have ab:=a1.out;rw[decide_eq_true hx0]at ab;obtain⟨PK,a4⟩: ∃PK:Nat,PK=2 ^ k:=⟨_,rfl⟩
    have d6:(2:Int) ^ k=(PK:Int):=by rw[a4];simp
    have dz:PK≤2048:=by rw[a4];exact aRz (aS0 (by omega) (show k≤11 by omega)) (by decide)
    have bv:IntKind.i64.wrap (PK:Int)=(PK:Int):=aRr _ (by omega);obtain⟨S2,bh⟩: ∃S2,S2=C0+jM pf (k+1):=⟨_,rfl⟩
    have d5:bits .or .i64 (S:Int) (PK:Int)=(S2:Int):=by rw[aHp S PK (by omega) (by omega),a4,HS.out,ca.out,aMd hlt ab,bh,ca.out]
    have bg:=xQ bh;clear ab a4 hx0 bh;go_wp2;go_roundw
    case rel=>exact⟨k+1,S2,_,by omega,by go_num,rfl,bg.out,cd.out,M6⟩
    case measure=>simp[intOf];omega
   have t0:(x==0)=false:=by simp[hx0]
   have ab:=a1.out;rw[decide_eq_false hx0]at ab;have bg:=xQ (show S=C0+jM pf (k+1) by rw[aMe ab];exact HS.out);clear ab hx0;go_wp2;go_roundw
   case rel=>exact⟨k+1,S,_,by omega,by go_num,rfl,bg.out,cd.out,M6⟩
   case measure=>simp[intOf];omega
  obtain rfl:n=k:=by omega
  obtain rfl:S=st:=by rw[HS.out,cy.out]
  have a7:=xQ HR.out;clear HS HR dg;obtain⟨gB,bo⟩: ∃gB,gB=wr.heap.size:=⟨_,rfl⟩
  have M2:=(show Mem w (wr.alloc (.cells AB uL)) [aI w uL 1 (some ⟨gB,0,none⟩) N N (oF (List.replicate N 0)),iL w TI 1 rows,aI w TSS 1 (some ⟨w.heap.size+1,0,none⟩) n n (iO n rows),aJ w w TH3 #[aA,aB,.slice (some ⟨pb,po,none⟩) n cap]]from by
   have h1:=HM.lit uL 1 N gB AB bo.symm (by rw[b9.out];omega) (by simp[maxLen];omega);rw[b8.out]at h1
   exact h1)
  go_upto_region 12 with fail;rw[←bo];clear b8 b9 cq HM bo;generalize c0:World.alloc _ _=w2;rw[c0]at M2;clear c0;go_wp2;go_loopw [56] (fun i wr=> ∃(k:Nat),k≤N∧i=I k∧Mem w wr [aI w uL 1 (some ⟨gB,0,none⟩) N N (oF (List.replicate k (-1)++List.replicate (N-k) 0)),iL w TI 1 rows,aI w TSS 1 (some ⟨w.heap.size+1,0,none⟩) n n (iO n rows),aJ w w TH3 #[aA,aB,.slice (some ⟨pb,po,none⟩) n cap]]) (fun i _=>N-(intOf i).toNat)
  case atStart=>exact⟨0,aRv _,rfl,by simpa using M2⟩
  case round=>
   clear M2;obtain⟨k,hk,rfl,hM⟩:=hrel;have HM:=hM;clear hM;by_cases hlt:k<N
   ·have i1:(0:Int)≤(k:Int):=by omega
    have i2:(k:Int)<(N:Int):=by omega
    have hl:(List.replicate k (-1:Int)++List.replicate (N-k) 0)[k]? =some 0:=by rw[aS3 (by simp)];simp[aTe];omega
    have c2:wr.cell? ⟨gB,k,none⟩=some (.int .i32 0):=by have:=(HM.ow 0).cellAt k (by omega);rw[this];exact aCf hl
    have c3:wr.frozen? ⟨gB,k,none⟩=false:=(HM.ow 0).frozenAt k;clear hl;have M2:=(HM.ostore (i:=0) rfl k (.int .i32 (-1)))
    go_wp2;go_roundw
    case rel=>exact⟨k+1,by omega,by go_num,by have:=M2;rw[sS,aI9 hlt]at this;exact this⟩
    case measure=>simp[intOf];omega
   obtain rfl:N=k:=by omega
   rw[aT0,show List.replicate N (-1:Int)++List.replicate 0 0=List.replicate N (-1) by simp]at HM;have i1:(0:Int)≤(S:Int):=by omega
   have i2:(S:Int)<(N:Int):=by omega
   have i3:IntKind.i32.wrap (S:Int)=(S:Int):=aNq _ (by omega);have c2:wr.cell? ⟨gB,S,none⟩=some (.int .i32 (-1)):=by have:=(HM.ow 0).cellAt S (by omega);rw[this];exact aCf (by rw[aTe,if_pos cz])
   have c3:wr.frozen? ⟨gB,S,none⟩=false:=(HM.ow 0).frozenAt S;have M2:=(show Mem w (wr.setCell ⟨gB,S,none⟩ (.int .i32 (S:Int))) [aI w uL 1 (some ⟨gB,0,none⟩) N N (oF ((List.replicate N (-1)).set S (S:Int))),iL w TI 1 rows,aI w TSS 1 (some ⟨w.heap.size+1,0,none⟩) n n (iO n rows),aJ w w TH3 #[aA,aB,.slice (some ⟨pb,po,none⟩) n cap]]from by rw[←sS];exact HM.ostore (i:=0) rfl S (.int .i32 (S:Int)))
   go_upto_region 18 with fail;clear c2 c3 HM;generalize bv:World.setCell _ _ _=w1;rw[bv]at M2;clear bv;have M3:=(M2.lit TI 1 1 w1 #[S] rfl rfl (by simp[maxLen]))
   have I1:=xQ (show SRun adj (fun v=>v/P2=0) N S 0 ((List.replicate N (-1)).set S (S:Int)) [S]from .init);clear M2;go_wp2;go_loopw [13,14] (fun v i wr=> ∃(k:Nat) (q:OA) (l lc:Nat) (B:List Int) (Q:List Nat),k≤l∧i=I k∧v= .slice q l lc∧l=Q.length∧l≤N∧SRun adj (fun v=>v/P2=0) N S k B Q∧Mem w wr [aI w TI 1 (q) (l) lc (ivs (bG (Q))),aI w uL 1 (some ⟨gB,0,none⟩) N N (oF (B)),iL w TI 1 rows,aI w TSS 1 (some ⟨w.heap.size+1,0,none⟩) n n (iO n rows),aJ w w TH3 #[aA,aB,.slice (some ⟨pb,po,none⟩) n cap]]) (fun _ i _=>N-(intOf i).toNat)
   case atStart=>exact⟨0,some ⟨w1,0,none⟩,1,1,_,[S],aRv _,rfl,rfl,rfl,by omega,I1.out,M3⟩
   case round=>
    clear M3 I1;obtain⟨k,q,l,lc,B,Q,hk,rfl,rfl,cp,d2,ar,hM⟩:=hrel;have HM:=hM;have ai:=xQ ar;have a0:=xQ cp;have be:=xQ (b1 k B Q ar);clear hM ar cp;by_cases hlt2:k<l
    ·obtain⟨u,hu⟩: ∃u,Q[k]? =some u:=⟨_,aRq (by rw[←a0.out];exact hlt2)⟩
     have au:u<N:=be.out.bd u (aRs hu);have HU:=xQ hu;clear hu;obtain⟨gL,rfl,de,df⟩:=HM.so 0;clear de df;have i3:(0:Int)≤(k:Int):=by omega
     have i4:(k:Int)<(l:Int):=by omega
     have cu:wr.cell? ⟨gL,k,none⟩=some (I u):=by have:=(HM.ow 0).cellAt k (by omega);rw[this];simp[ivs,bG,HU.out]
     obtain⟨cr,bl⟩: ∃cr,cr=u/P2:=⟨_,rfl⟩
     have dv:(u:Int)/(P2:Int)=(cr:Int):=by rw[bl];simp
     have ay:=xQ bl;clear bl;by_cases hc0:cr=0
     ·have t0:((cr:Int)==0)=true:=by simp[hc0]
      obtain⟨d,code,ed,dc,ce,a9,ci,ch⟩:=HG k u B Q ai HU.out (by rw[←ay.out];exact hc0);have b3:=xQ (fun(w':World) (hx:Ext wr w')=>aN4 n N d N gB B code ed w' hn cb dc ce ((HM.sq 1).ext hx) (hE.out.ext (HM.ext.trans hx)) (aRo (HM.hi 1) hx.sz));rw[a9,ci]at b3;have c6:=xQ ch;clear ce a9 ci ch hc0;go_wp2_with fail;clear cu;refine(b3 _ (Ext.refl _)).mono ?_;rintro e w5 ⟨q5,c5,rfl,o5,aw⟩;have M5:=(HM.call aw o5)
      clear o5 aw HM;go_wp2;exact bodyPost_ret (v:= .tuple #[.slice q5 ((List.range d).map (fun i=>jL (ed i))).length c5,.bool true]) (by simp[results,results194,go_sem]) rfl (by rw[c6.out];exact⟨q5,c5,rfl,M5.ow 0,M5.ext⟩)
     have t0:((cr:Int)==0)=false:=by simp;omega
     have dd:Hid (¬u/P2=0):=by show¬_;rw[←ay.out];exact hc0
     clear hc0;go_wp2;clear cu;go_loopw [13,91] (fun v i wr=> ∃(f:Nat) (q:OA) (l2 lc:Nat) (B2:List Int) (Q2:List Nat),f≤n∧i=I f∧v= .slice q l2 lc∧l2=Q2.length∧(B2,Q2)=bQ (u:Int) (B,Q) (iM aA n P2 u f)∧Mem w wr [aI w TI 1 (q) (l2) lc (ivs (bG (Q2))),aI w uL 1 (some ⟨gB,0,none⟩) N N (oF (B2)),iL w TI 1 rows,aI w TSS 1 (some ⟨w.heap.size+1,0,none⟩) n n (iO n rows),aJ w w TH3 #[aA,aB,.slice (some ⟨pb,po,none⟩) n cap]]) (fun _ i _=>n-(intOf i).toNat)
     case atStart=>exact⟨0,some ⟨gL,0,none⟩,l,lc,B,Q,aRv _,rfl,rfl,a0.out,rfl,HM⟩
     case round=>
      clear HM;obtain⟨f,q,l2,lc,B2,Q2,hf,rfl,rfl,ba,bm,hM⟩:=hrel;have bb:SOk N B2 Q2:=by have:=SOk.expand (u:=(u:Int)) (by omega) (iM aA n P2 u f) be (fun v hv=>ad u v au (tX hf v hv));rw[←bm]at this;exact this
      have HM:=hM;have az:=xQ bm;have p:=xQ ba;have bz:=xQ bb;clear hM bm ba bb;by_cases hlt3:f<n
      ·obtain⟨PF,y⟩: ∃PF:Nat,PF=2 ^ f:=⟨_,rfl⟩
       have dt:(2:Int) ^ f=(PF:Int):=by rw[y];simp
       have dq:PF≤2048:=by rw[y];exact aRz (aS0 (by omega) (show f≤11 by omega)) (by decide)
       have d7:IntKind.i64.wrap (PF:Int)=(PF:Int):=aRr _ (by omega);have a1:=xQ y;have j1:(0:Int)≤(f:Int):=by omega
       have j2:(f:Int)<(n:Int):=by omega
       by_cases hbf:u.testBit f=true
       ·have cg:bits .and .i64 (u:Int) (PF:Int)=(PF:Int):=by rw[y];exact aIs (by omega) (by omega) hbf
        have ds:0<PF:=by rw[y];exact aU5 f
        have t1:((PF:Int)!=0)=true:=by simp;omega
        have bq:Hid (iM aA n P2 u (f+1)=iM aA n P2 u f):=by show _=_;rw[rE,aRh (by rw[ag.out,qK u hlt3];exact hbf),aSe]
        clear hbf y;go_wp2;go_roundw
        case rel=>exact⟨f+1,q,l2,lc,B2,Q2,by omega,by go_num,rfl,p.out,by rw[bq.out];exact az.out,HM⟩
        case measure=>simp[intOf];omega
       have hbf:u.testBit f=false:=by simpa using hbf
       have cg:bits .and .i64 (u:Int) (PF:Int)=0:=by rw[y];exact aOk (by omega) (by omega) hbf
       have aj:(u%P2).testBit f=false:=by rw[ag.out,qK u hlt3];exact hbf
       have c4:=xQ hbf;have a6:=xQ aj;obtain⟨⟨rq,rn,rc,d9⟩,af⟩: ∃r,rows[f]? =some r:=⟨_,aRq (by rw[a7.out.1];exact hlt3)⟩
       obtain⟨br,bt⟩:=a7.out.2 f _ af;dsimp only at br bt;have bf:=xQ af;obtain⟨nb,o⟩: ∃nb,nb=aS aA n f:=⟨_,rfl⟩
       rw[←o]at br bt;have dk:nb.length≤n:=by rw[o];exact aRz (aSt _ _) (by simp)
       have ah:=xQ o;subst br bt;have db:wr.cell? ⟨w.heap.size+1,f,none⟩=some (.slice rq nb rc):=by have h7:=(HM.ow 3).cellAt f (by omega);rw[h7];exact aL3 af
       have bq:Hid (iM aA n P2 u (f+1)=iM aA n P2 u f++jC aA n P2 u f nb.length):=by show _=_;rw[rE,aO2 aj,o]
       clear hbf aj y af o;go_wp2;clear db;go_loopw [13,104] (fun v i wr=> ∃(j:Nat) (q:OA) (l3 lc:Nat) (B3:List Int) (Q3:List Nat),j≤nb.length∧i=I j∧v= .slice q l3 lc∧l3=Q3.length∧(B3,Q3)=bQ (u:Int) (B,Q) (iM aA n P2 u f++jC aA n P2 u f j)∧Mem w wr [aI w TI 1 (q) (l3) lc (ivs (bG (Q3))),aI w uL 1 (some ⟨gB,0,none⟩) N N (oF (B3)),iL w TI 1 rows,aI w TSS 1 (some ⟨w.heap.size+1,0,none⟩) n n (iO n rows),aJ w w TH3 #[aA,aB,.slice (some ⟨pb,po,none⟩) n cap]]) (fun _ i _=>nb.length-(intOf i).toNat)
       case atStart=>exact⟨0,q,l2,lc,B2,Q2,aRv _,rfl,rfl,p.out,by rw[aGl,aSe];exact az.out,HM⟩
       case round=>
        clear HM;obtain⟨j,q,l3,lc,B3,Q3,hj,rfl,rfl,am,al,hM⟩:=hrel;have an:SOk N B3 Q3:=by
         have:=SOk.expand (u:=(u:Int)) (by omega) (iM aA n P2 u f++jC aA n P2 u f j) be (fun v hv=>by
          rcases aSa.1 hv with hv|hv
          ·exact ad u v au (tX hf v hv)
          ·exact ad u v au (aA4 hlt3 a6 v hv))
         rw[←al]at this;exact this
        have HM:=hM;have a:=xQ al;have m:=xQ am;have b0:=xQ an;have d1:l3≤N:=by rw[am];exact an.qlen
        clear hM al am an;by_cases hlt4:j<nb.length
        ·obtain⟨t,a5⟩: ∃t,nb[j]? =some t:=⟨_,aRq hlt4⟩
         have bu:t<n:=(bU.1 (by rw[←ah.out];exact aRs a5:t∈aS aA n f)).1;have bc:(aS aA n f)[j]? =some t:=by rw[←ah.out];exact a5
         have ap:wr.ownsRow w TI 1 (.slice rq nb rc) nb.length (ivs (bG nb)):=HM.ok (iL w TI 1 rows) (by simp) _ (aRs bf.out);obtain⟨gR,dh⟩: ∃gR,rq=some ⟨gR,0,none⟩:=by
          rcases ap.2 with⟨_,h3⟩|⟨g,_,_,h3,_⟩
          ·omega
          injection h3 with h3;exact⟨g,h3⟩
         subst dh;have ct:wr.cell? ⟨gR,j,none⟩=some (I t):=by have:=ap.cellAt j (by omega);rw[this];simp[ivs,bG,a5]
         have b2:=xQ bc;clear a5 bc ap;obtain⟨PT,z⟩: ∃PT:Nat,PT=2 ^ t:=⟨_,rfl⟩
         have dw:(2:Int) ^ t=(PT:Int):=by rw[z];simp
         have dr:PT≤2048:=by rw[z];exact aRz (aS0 (by omega) (show t≤11 by omega)) (by decide)
         have d8:IntKind.i64.wrap (PT:Int)=(PT:Int):=aRr _ (by omega);have m1:(0:Int)≤(j:Int):=by omega
         have m2:(j:Int)<(nb.length:Int):=by omega
         by_cases hbt:u.testBit t=true
         ·have a8:(u%P2).testBit t=true:=by rw[ag.out,qK u bu];exact hbt
          have bi:bits .and .i64 (u:Int) (PT:Int)=(PT:Int):=by rw[z];exact aIs (by omega) (by omega) hbt
          have dn:0<PT:=by rw[z];exact aU5 t
          have t2:((PT:Int)==0)=false:=by simp;omega
          have aa:=aK1 b2 a8;have bp:gM P2 (u/P2) (u%P2) f t<N:=ad u _ au (aA4 (j:=j+1) hlt3 a6 _ (by rw[aa];simp));have cv:=aPc (u:=u) (f:=f) (t:=t) hn (by rw[←cc.out];exact au) hlt3 bu c4 hbt (by rw[←cc.out,←ag.out];exact bp);rw[←ag.out,←a1.out,←z]at cv;generalize gM P2 (u/P2) (u%P2) f t=nx at*;have ao:iM aA n P2 u f++jC aA n P2 u f (j+1)=(iM aA n P2 u f++jC aA n P2 u f j)++ [nx]:=by rw[aa,aSh]
          have ae:=xQ ao;clear aa ao hbt a8 z;generalize u ^^^ 2 ^ f=X1 at*;generalize dC u f t=mv at*;generalize ((t:Int)-(f:Int))*(P2:Int)=D at*;obtain⟨x1,x2,x3,x4,x5⟩:=cv;have c8:=xQ x3;have b4:=xQ x4;have dx:IntKind.i64.wrap ((t:Int)-(f:Int))=(t:Int)-(f:Int):=aRr _ (by omega);clear x3 x4;obtain⟨bn,bj⟩: ∃bn,bn=B3.getD nx 0:=⟨_,rfl⟩
          have ak:=dL (D:=B3) (v:=nx) (by rw[b0.out.len];exact bp);rw[←bj]at ak;have cn:wr.cell? ⟨gB,nx,none⟩=some (.int .i32 bn):=by have:=(HM.ow 1).cellAt nx (by omega);rw[this];exact aCf ak.1
          have b5:wr.frozen? ⟨gB,nx,none⟩=false:=(HM.ow 1).frozenAt nx;have ax:=xQ bj;clear bj ak;have m5:(0:Int)≤(nx:Int):=by omega
          have m6:(nx:Int)<(N:Int):=by omega
          have dy:IntKind.i32.wrap (u:Int)=(u:Int):=aNq _ (by omega);by_cases hfc:f=cr
          ·have t3:((f:Int)==(cr:Int))=true:=by simp[hfc]
           have x4:IntKind.i64.wrap ((mv:Int)+D)=(nx:Int):=b4 (hfc.trans ay.out);clear hfc;by_cases hneg:bn<0
           ·have t4:decide (bn<0)=true:=by simp[hneg]
            have b:Hid ((B3.set nx (u:Int),Q3++ [nx])=bQ (u:Int) (B,Q) (iM aA n P2 u f++jC aA n P2 u f (j+1))):=by show _=_;rw[ae.out,eD,←a.out,lK (by rw[←ax.out];exact hneg)]
            have M6:=(show Mem w (wr.setCell ⟨gB,nx,none⟩ (.int .i32 (u:Int))).drew [aI w TI 1 (q) (l3) lc (ivs (bG (Q3))),aI w uL 1 (some ⟨gB,0,none⟩) N N (oF (B3.set nx (u:Int))),iL w TI 1 rows,aI w TSS 1 (some ⟨w.heap.size+1,0,none⟩) n n (iO n rows),aJ w w TH3 #[aA,aB,.slice (some ⟨pb,po,none⟩) n cap]]from by rw[←sS];exact(HM.ostore (i:=1) rfl nx (.int .i32 (u:Int))).adv (Ext.drew (Ext.refl _)))
            clear hneg a HM;go_upto_region 34 with fail;go_region;go_upto_region 39 with fail;clear ct cn b5;generalize av:World.setCell _ _ _=w4;rw[av]at M6;clear av;go_wp2_with (at_builtin;go_loud (refine cG fQ rfl _ _ rfl (M6.adv ((Ext.refl _).alloc (.cells #[nx] TI))) 0 rfl rfl (ivs [(nx:Int)]) rfl ((eJ w4 #[nx] TI 1 1 _ rfl rfl (by simp[maxLen])).ext (Ext.drew (Ext.refl _))) (fun u hu=>by obtain rfl:=aSc.1 hu;rfl) (by omega) ?_;intro q7 c7 w6 M7));have M8:=(show Mem w w6 [aI w TI 1 (q7) (l3+1) c7 (ivs (bG (Q3++ [nx]))),aI w uL 1 (some ⟨gB,0,none⟩) N N (oF (B3.set nx (u:Int))),iL w TI 1 rows,aI w TSS 1 (some ⟨w.heap.size+1,0,none⟩) n n (iO n rows),aJ w w TH3 #[aA,aB,.slice (some ⟨pb,po,none⟩) n cap]]from by rw[show ivs (bG (Q3++ [nx]))=ivs (bG Q3)++ivs [(nx:Int)] by simp[ivs,bG]];exact M7)
            clear M7 M6;go_wp2;go_roundw
            case rel=>exact⟨j+1,q7,l3+1,c7,B3.set nx (u:Int),Q3++ [nx],by omega,by go_num,rfl,by simp[m.out],b.out,M8⟩
            case measure=>simp[intOf];omega
           have t4:decide (bn<0)=false:=by simp;omega
           have b:Hid ((B3,Q3)=bQ (u:Int) (B,Q) (iM aA n P2 u f++jC aA n P2 u f (j+1))):=by show _=_;rw[ae.out,eD,←a.out,nG (by rw[←ax.out];exact hneg)]
           clear hneg a;go_upto_region 34 with fail;go_region;go_wp2;go_roundw
           case rel=>exact⟨j+1,q,l3,lc,B3,Q3,by omega,by go_num,rfl,m.out,b.out,HM.adv xE⟩
           case measure=>simp[intOf];omega
          have t3:((f:Int)==(cr:Int))=false:=by simp;omega
          have dj:nx=mv:=(c8 (fun e=>hfc (e.trans ay.out.symm))).symm;subst dj;clear hfc;by_cases hneg:bn<0
          ·have t4:decide (bn<0)=true:=by simp[hneg]
           have b:Hid ((B3.set nx (u:Int),Q3++ [nx])=bQ (u:Int) (B,Q) (iM aA n P2 u f++jC aA n P2 u f (j+1))):=by show _=_;rw[ae.out,eD,←a.out,lK (by rw[←ax.out];exact hneg)]
           have M6:=(show Mem w (wr.setCell ⟨gB,nx,none⟩ (.int .i32 (u:Int))).drew [aI w TI 1 (q) (l3) lc (ivs (bG (Q3))),aI w uL 1 (some ⟨gB,0,none⟩) N N (oF (B3.set nx (u:Int))),iL w TI 1 rows,aI w TSS 1 (some ⟨w.heap.size+1,0,none⟩) n n (iO n rows),aJ w w TH3 #[aA,aB,.slice (some ⟨pb,po,none⟩) n cap]]from by rw[←sS];exact(HM.ostore (i:=1) rfl nx (.int .i32 (u:Int))).adv (Ext.drew (Ext.refl _)))
           clear hneg a HM;go_upto_region 34 with fail;go_region;go_upto_region 39 with fail;clear ct cn b5;generalize av:World.setCell _ _ _=w4;rw[av]at M6;clear av;go_wp2_with (at_builtin;go_loud (refine cG fQ rfl _ _ rfl (M6.adv ((Ext.refl _).alloc (.cells #[nx] TI))) 0 rfl rfl (ivs [(nx:Int)]) rfl ((eJ w4 #[nx] TI 1 1 _ rfl rfl (by simp[maxLen])).ext (Ext.drew (Ext.refl _))) (fun u hu=>by obtain rfl:=aSc.1 hu;rfl) (by omega) ?_;intro q7 c7 w6 M7));have M8:=(show Mem w w6 [aI w TI 1 (q7) (l3+1) c7 (ivs (bG (Q3++ [nx]))),aI w uL 1 (some ⟨gB,0,none⟩) N N (oF (B3.set nx (u:Int))),iL w TI 1 rows,aI w TSS 1 (some ⟨w.heap.size+1,0,none⟩) n n (iO n rows),aJ w w TH3 #[aA,aB,.slice (some ⟨pb,po,none⟩) n cap]]from by rw[show ivs (bG (Q3++ [nx]))=ivs (bG Q3)++ivs [(nx:Int)] by simp[ivs,bG]];exact M7)
           clear M7 M6;go_wp2;go_roundw
           case rel=>exact⟨j+1,q7,l3+1,c7,B3.set nx (u:Int),Q3++ [nx],by omega,by go_num,rfl,by simp[m.out],b.out,M8⟩
           case measure=>simp[intOf];omega
          have t4:decide (bn<0)=false:=by simp;omega
          have b:Hid ((B3,Q3)=bQ (u:Int) (B,Q) (iM aA n P2 u f++jC aA n P2 u f (j+1))):=by show _=_;rw[ae.out,eD,←a.out,nG (by rw[←ax.out];exact hneg)]
          clear hneg a;go_upto_region 34 with fail;go_region;go_wp2;go_roundw
          case rel=>exact⟨j+1,q,l3,lc,B3,Q3,by omega,by go_num,rfl,m.out,b.out,HM.adv xE⟩
          case measure=>simp[intOf];omega
         have hbt:u.testBit t=false:=by simpa using hbt
         have bi:bits .and .i64 (u:Int) (PT:Int)=0:=by rw[z];exact aOk (by omega) (by omega) hbt
         have aa:=xQ (aMs b2 (show(u%P2).testBit t=false by rw[ag.out,qK u bu];exact hbt));clear hbt z;go_wp2;go_roundw
         case rel=>exact⟨j+1,q,l3,lc,B3,Q3,by omega,by go_num,rfl,m.out,by rw[aa.out];exact a.out,HM⟩
         case measure=>simp[intOf];omega
        obtain rfl:nb.length=j:=by omega
        go_wp2;go_roundw
        case rel=>exact⟨f+1,q,l3,lc,B3,Q3,by omega,by go_num,rfl,m.out,by rw[bq.out];exact a.out,HM⟩
        case measure=>simp[intOf];omega
      obtain rfl:n=f:=by omega
      have bs:Hid (SRun adj (fun v=>v/P2=0) N S (k+1) B2 Q2):=by show SRun _ _ _ _ _ _ _;have h7:=SRun.step ai HU.out dd.out;have h8:=az.out;rw[aA5,←(show adj u=oK aA n P2 u by rw[cf.out])]at h8;rw[←h8]at h7;exact h7
      have cl:l2≤N:=by rw[p.out];exact bz.out.qlen
      have ck:k+1≤l2:=by have h8:=az.out;obtain⟨r,h9,_⟩:=pM (u:Int) (iM aA n P2 u n) B Q;rw[←h8]at h9;dsimp only at h9;rw[p.out,h9,aRx];have:=a0.out;omega
      go_wp2;go_roundw
      case rel=>exact⟨k+1,q,l2,lc,B2,Q2,ck,by go_num,rfl,p.out,cl,bs.out,HM⟩
      case measure=>simp[intOf];omega
    have cj:=xQ (bx k B Q ai (by rw[←a0.out];omega));have hX:=xQ HM.ext;clear HM;go_wp2;exact bodyPost_ret (v:= .tuple #[((),()),.bool false]) (by simp[results,results194,go_sem]) rfl (by rw[cj.out];exact⟨_,rfl,hX.out⟩)
theorem aKi (aA aB:Int)(p:OA)(cap:Nat)(f t:Int)(xs:List Int)(w:World)(r:4≤xs.length)(hn:xs.length≤12)
  (HV:xB 72 #[aH aA aB p xs.length cap] w true)
  (HK:Hid (∀w',Ext w w'→U 86 #[aH aA aB p xs.length cap] w' (eC aA aB xs w')))
  (HM:xB 123 #[aH aA aB p xs.length cap,eI f t] w false):
  U 82 #[aH aA aB p xs.length cap,eI f t] w (cW aA aB xs false w):=by
 go_enter func82,ntmps82;go_wp2_with fail;refine Z (HV _ ((((Mem.start w).c0 TH3 #[aA,aB,.slice p xs cap]).c1 TSL #[f,t]).bn TH3 #[(),(),((),())] (w.heap.size+2)).ext) fun w1 h=>?_
 have M1:=(((((Mem.start w).c0 TH3 #[aA,aB,.slice p xs cap]).c1 TSL #[f,t]).bn TH3 #[(),(),((),())] (w.heap.size+2)).adv h)
 clear h;obtain⟨h0,h1,h2⟩:=(M1.bk 2).tri;go_wp2_with fail;clear h0 h1 h2;refine(HK _ M1.ext).mono ?_;rintro e w2 ⟨q,c2,rfl,c,i⟩;have M2:=(M1.call i c)
 clear M1 i c;have a:=M2.hi 2;have b:=M2.hi 3;obtain⟨g,rfl,n,o⟩:=M2.so 0;obtain⟨h0,h1,h2⟩:=(M2.bk 3).tri;have s0:=(M2.bk 2).cl 0;have s1:=(M2.bk 2).cl 1;go_wp2_with fail;clear h0 h1 h2 s0 s1;refine Z (HM _ (M2.c0 TH3 #[aA,aB,.slice (some ⟨g,0,none⟩) xs c2]).ext) fun w3 j=>?_
 have M3:=((M2.c0 TH3 #[aA,aB,.slice (some ⟨g,0,none⟩) xs c2]).adv j)
 clear M2 a b j;obtain⟨v0,v1,v2⟩:=(M3.bk 0).tri;obtain⟨z0,k,z1,l,z2,m⟩:=(M3.bk 2).trif;go_wp2;have M4:=((M3.st 2 0 (I aA)).st 2 1 (I aB))
 have M5:=(M4.st 2 2 (.slice (some ⟨g,0,none⟩) xs c2))
 have M6:=(show Mem w (((w3.setCell ⟨w.heap.size+2,0,none⟩ (I aA)).setCell ⟨w.heap.size+2,1,none⟩ (I aB)).setCell ⟨w.heap.size+2,2,none⟩ (.slice (some ⟨g,0,none⟩) xs c2)) [aJ w w2 TH3 #[aA,aB,.slice (some ⟨g,0,none⟩) xs c2],aI w TI 1 (some ⟨g,0,none⟩) (xs.length) (c2) (ivs xs),aJ w (w.heap.size+2) TH3 #[aA,aB,.slice (some ⟨g,0,none⟩) xs c2],aJ w (w.heap.size+1) TSL #[f,t],aJ w w TH3 #[aA,aB,.slice p xs cap]]from M5)
 generalize d:World.setCell _ _ _=wz;rw[d]at M6;clear d M3 M4 M5 v0 v1 v2 z0 k z1 l z2 m;obtain⟨y0,y1,y2⟩:=(M6.bk 2).tri;exact bodyPost_ret (v:= .tuple #[.agg #[aA,aB,.slice (some ⟨g,0,none⟩) xs c2],.bool false]) (by simp[results,results82,go_sem, *]) rfl (eN (by simp) (by exact(M6.ow 1)) M6.ext)
theorem aH4 (aA aB:Int)(cap i j b a:Nat)(x yj:Int)(xs:List Int)(w:World)(ak:4≤xs.length)(hn:xs.length≤12)(hi:i<xs.length)(hj:j<xs.length)(ab:i≠j)(HX:Hid (xs[i]? =some x)) (HY:Hid (xs[j]? =some yj))
  (hb:b<w.heap.size) (y:Hid (w.cell? ⟨b,a+i,none⟩=some (I x)))
  (HV:xB 72 #[aH aA aB (some ⟨b,a,none⟩) xs.length cap] w true)
  (HK:Hid (∀w',Ext w w'→U 86 #[aH aA aB (some ⟨b,a,none⟩) xs.length cap] w' (eC aA aB xs w')))
  (HM:xB 123 #[aH aA aB (some ⟨b,a,none⟩) xs.length cap,eI (i:Int) (j:Int)] w true):
  U 82 #[aH aA aB (some ⟨b,a,none⟩) xs.length cap,eI (i:Int) (j:Int)] w (cW aA aB ((xs.set j x).set i 0) true w):=by
 have a1:(0:Int)≤(i:Int):=by omega
 have a2:(0:Int)≤(j:Int):=by omega
 have a3:(i:Int)<(xs.length:Int):=by omega
 have a4:(j:Int)<(xs.length:Int):=by omega
 go_enter func82,ntmps82;go_wp2_with fail;refine Z (HV _ ((((Mem.start w).c0 TH3 #[aA,aB,.slice (some ⟨b,a,none⟩) xs cap]).c1 TSL #[i,j]).bn TH3 #[(),(),((),())] (w.heap.size+2)).ext) fun w1 s=>?_
 have M1:=(((((Mem.start w).c0 TH3 #[aA,aB,.slice (some ⟨b,a,none⟩) xs cap]).c1 TSL #[i,j]).bn TH3 #[(),(),((),())] (w.heap.size+2)).adv s)
 clear s;obtain⟨h0,h1,h2⟩:=(M1.bk 2).tri;go_wp2_with fail;clear h0 h1 h2;refine(HK _ M1.ext).mono ?_;rintro e w2 ⟨q,c2,rfl,o,t⟩;have M2:=(M1.call t o)
 clear M1 t o;have l:=M2.hi 2;have m:=M2.hi 3;obtain⟨g,rfl,ai,aj⟩:=M2.so 0;obtain⟨h0,h1,h2⟩:=(M2.bk 3).tri;have s0:=(M2.bk 2).cl 0;have s1:=(M2.bk 2).cl 1;go_wp2_with fail;clear h0 h1 h2 s0 s1;refine Z (HM _ (M2.c0 TH3 #[aA,aB,.slice (some ⟨g,0,none⟩) xs c2]).ext) fun w3 u=>?_
 have M3:=((M2.c0 TH3 #[aA,aB,.slice (some ⟨g,0,none⟩) xs c2]).adv u)
 clear M2 l m u;obtain⟨v0,v1,v2⟩:=(M3.bk 0).tri;obtain⟨h0,h1,h2⟩:=(M3.bk 4).tri;have s0:=(M3.bk 3).cl 0;have s1:=(M3.bk 3).cl 1;have cx:w3.cell? ⟨b,a+i,none⟩=some (I x):=(M3.ext.cells.1 _ _ hb).trans y.out;have gj:w3.cell? ⟨g,j,none⟩=some (I yj):=by have:=(M3.ow 1).cellAt j (by omega);rw[this];simpa[ivs]using HY.out
 have gi:w3.cell? ⟨g,i,none⟩=some (I x):=by have:=(M3.ow 1).cellAt i (by omega);rw[this];simpa[ivs]using HX.out
 have aa:w3.frozen? ⟨g,j,none⟩=false:=(M3.ow 1).frozenAt j;have z:w3.frozen? ⟨g,i,none⟩=false:=(M3.ow 1).frozenAt i;obtain⟨d,f⟩:=M3.nq 0 1;have h: ¬(g=w.heap.size):=M3.ne (i:=1) (j:=4) (by omega) rfl rfl rfl rfl;have k: ¬(g=w.heap.size+1):=M3.ne (i:=1) (j:=3) (by omega) rfl rfl rfl rfl;have ad: ¬(g=b):=by have:=M3.ext.sz;omega
 have ae: ¬(j=i):=fun e=>ab e.symm
 go_wp2;go_region_held3 (fun w'=>w'.cell? ⟨w2,2,none⟩=some (.slice (some ⟨g,0,none⟩) xs c2)∧w'.cell? ⟨w,2,none⟩=some (.slice (some ⟨b,a,none⟩) xs cap)∧w'.cell? ⟨w.heap.size+1,0,none⟩=some (I i)∧w'.cell? ⟨w.heap.size+1,1,none⟩=some (I j)∧w'.cell? ⟨b,a+i,none⟩=some (I x)) (first|(refine⟨?_,?_,?_,?_,?_⟩<;>assumption)|go_keep) (first|fail);clear v0 v1 v2 h0 h1 h2 s0 s1 d f h k cx gj gi aa z ad ae;have MX:=(show Mem w ((w3.setCell ⟨g,j,none⟩ (I x)).setCell ⟨g,i,none⟩ (I 0)) [aJ w w2 TH3 #[aA,aB,.slice (some ⟨g,0,none⟩) xs c2],aI w TI 1 (some ⟨g,0,none⟩) (xs.length) (c2) (ivs ((xs.set j x).set i 0)),aJ w (w.heap.size+2) TH3 #[(),(),((),())],aJ w (w.heap.size+1) TSL #[i,j],aJ w w TH3 #[aA,aB,.slice (some ⟨b,a,none⟩) xs cap]]from by rw[←eF,←eF];exact(M3.ostore (i:=1) rfl j (I x)).ostore (i:=1) rfl i (I 0))
 have MY:=(MX.adv (Ext.drew (Ext.refl _)))
 generalize p:World.drew _=w4;rw[p]at MY;clear p MX M3;obtain⟨v0,v1,v2⟩:=(MY.bk 0).tri;obtain⟨z0,af,z1,ag,z2,ah⟩:=(MY.bk 2).trif;go_wp2;have M9:=((MY.st 2 0 (I aA)).st 2 1 (I aB))
 have n:=(M9.st 2 2 (.slice (some ⟨g,0,none⟩) xs c2))
 have c:=(show Mem w (((w4.setCell ⟨w.heap.size+2,0,none⟩ (I aA)).setCell ⟨w.heap.size+2,1,none⟩ (I aB)).setCell ⟨w.heap.size+2,2,none⟩ (.slice (some ⟨g,0,none⟩) xs c2)) [aJ w w2 TH3 #[aA,aB,.slice (some ⟨g,0,none⟩) xs c2],aI w TI 1 (some ⟨g,0,none⟩) (xs.length) (c2) (ivs ((xs.set j x).set i 0)),aJ w (w.heap.size+2) TH3 #[aA,aB,.slice (some ⟨g,0,none⟩) xs c2],aJ w (w.heap.size+1) TSL #[i,j],aJ w w TH3 #[aA,aB,.slice (some ⟨b,a,none⟩) xs cap]]from n)
 generalize r:World.setCell _ _ _=wz;rw[r]at c;clear r MY M9 n v0 v1 v2 z0 af z1 ag z2 ah;obtain⟨y0,y1,y2⟩:=(c.bk 2).tri;exact bodyPost_ret (v:= .tuple #[.agg #[aA,aB,.slice (some ⟨g,0,none⟩) xs c2],.bool true]) (by simp[results,results82,go_sem, *]) rfl (eN (by simp) (by exact(c.ow 1)) c.ext)
theorem aAc (aA aB f t:Int)(p:OA)(n cap:Nat)(xs:List Int)(w:World)(hS:Sl w p n cap 1 (ivs xs))(a:aO aA aB xs=true):
  U 82 #[aH aA aB p n cap,eI f t] w (cW aA aB (bI aA aB xs f t) (bF aA aB xs f t) w):=by
 have hl:=hS.ilen;subst hl;obtain⟨g1,g2,g3,g4,g5,g6,g7,g8,g9⟩:=bN a;have HV:=fun(w':World) (hx:Ext w w')=>fY aA aB p xs.length cap xs w' (hS.ext hx)
 rw[a]at HV;have HK:=fun(w':World) (hx:Ext w w')=>mC aA aB p xs.length cap xs w' (by omega) (hS.ext hx)
 have HM:=fun(w':World) (hx:Ext w w')=>aQp aA aB f t p xs.length cap xs w' (hS.ext hx) a
 unfold bI;cases h:bF aA aB xs f t with
 |false=>rw[h]at HM;exact aKi aA aB p cap f t xs w g5 g6 HV HK HM
 |true=>
  rw[h]at HM;obtain⟨k1,k2,k3,k4,k5,k6,k7,k8,k9⟩:=lV h;obtain⟨i,rfl⟩: ∃i:Nat,f=(i:Int):=⟨f.toNat,by omega⟩
  obtain⟨j,rfl⟩: ∃j:Nat,t=(j:Int):=⟨t.toNat,by omega⟩
  obtain⟨b,d,rfl,hb,e⟩:=hS.rd (by omega);have c:xs[i]? =some (xs.getD i 0):=by rw[aRw,aRq (by omega)];rfl
  have g:xs[j]? =some (xs.getD j 0):=by rw[aRw,aRq (by omega)];rfl
  rw[if_pos rfl,aTr,aTr];exact aH4 aA aB cap i j b d _ _ xs w g5 g6 (by omega) (by omega) (by omega) c g hb (xQ (show w.cell? ⟨b,d+i,none⟩=some (I (xs.getD i 0)) by rw[e i (by omega)];simp only[ivs,aS9,c,aSm])) HV HK HM
end Go.Proofs.YtbgkcehffiogcacGreatDoor
