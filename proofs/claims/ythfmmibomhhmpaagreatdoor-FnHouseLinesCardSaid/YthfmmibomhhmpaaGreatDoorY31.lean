/-
  Texts of this proof, packed (@packed).
-/
import Derived.Test.YthfmmibomhhmpaaGreatDoorY29
namespace Go.Proofs.YthfmmibomhhmpaaGreatDoor
open Go.RowKit Go.Proofs.Tryz
set_option linter.unusedSimpArgs false
set_option linter.unusedVariables false
set_option maxHeartbeats 8000000
set_option maxRecDepth 100000
abbrev vZ:TypeId:=21
theorem aP9 (x:Int)(h: -2147483648≤x∧x≤2147483647):IntKind.i32.wrap x=x:=by simp[IntKind.wrap,IntKind.signed,IntKind.bits];omega
theorem aP5 (aA aB:Int)(pb po:Nat)(n a N P2 c C0 st:Nat)(xs:List Int)(pf:Nat→Bool)(adj:Nat→List Nat)(w:World)(d4:4≤n)(hn:n≤12)(cp:Hid (xs.length=n))(dm:pb<w.heap.size)(hE:Hid (BitTab w))(cc:N≤49152)(bq:n≤N)(dq:C0≤12*4096)
  (ah:Hid (P2=2 ^ n))(cd:Hid (N=n*2 ^ n))(cb:Hid (C0=c*2 ^ n))(cz:Hid (st=C0+kA pf n))(c0:st<N)
  (dv:(2:Int) ^ n=(P2:Int))(d1:IntKind.i64.wrap ((c:Int)*(P2:Int))=(C0:Int))(d5:IntKind.i64.wrap ((n:Int)*(P2:Int))=(N:Int))
  (dn:Hid (∀k x,xs[k]? =some x→pf k=decide (x=0))) (cg:Hid (adj=fun u=>pK aA n P2 u))
  (da:Hid (∀k x,xs[k]? =some x→w.cell? ⟨pb,po+k,none⟩=some (I x)))
  (HC:Hid (∀(k:Nat),k<n→ ∀w',Ext w w'→U 197 #[aH aA aB (some ⟨pb,po,none⟩) n a,k] w' (bC (bK (aU aA n k)) w')))
  (ae:Hid (∀u v,u<N→v∈pK aA n P2 u→v<N))
  (b2:Hid (∀k B Q,SRun adj (fun v=>v/P2=0) N st k B Q→SOk N B Q))
  (HG:Hid (∀k u B Q,SRun adj (fun v=>v/P2=0) N st k B Q→Q[k]? =some u→u/P2=0→ ∃(d:Nat) (code:Nat→Nat) (e:Nat→Nat×Nat),d≤60∧Trail n N d B code e∧code 0=st∧code d=u∧dX aA xs c=some ((List.range d).map (fun i=>jZ (e i)))))
  (bz:Hid (∀k B Q,SRun adj (fun v=>v/P2=0) N st k B Q→Q.length≤k→dX aA xs c=none)):
  U 173 #[aH aA aB (some ⟨pb,po,none⟩) n a,c] w (kO (dX aA xs c) w):=by
 obtain⟨AR,a4⟩: ∃AR:Array Value,AR=madeCells #[((),())] n:=⟨_,rfl⟩
 have dj: ∀w:World,(Instr.makeSlice 188 (I n) (I n)).run prog w= .ok (.slice (some ⟨w,0,none⟩) n n) (w.alloc (.cells AR TSS)):=fun w=>by rw[a4];exact run_make_row' _ _ (.slice none 0 0) 24 underlying188 (by kernel_rfl) rfl .i64 .i64 n (by omega) (by omega) w
 have b7:Hid (AR.toList=jC n []):=by show _=_;rw[a4,(jG _ n).1];simp[jC]
 have b8:Hid (AR.size=n):=by show _=_;rw[a4];exact(jG _ n).2
 obtain⟨AB,a3⟩: ∃AB:Array Value,AB=madeCells #[.int .i32 0] N:=⟨_,rfl⟩
 have cs: ∀w:World,(Instr.makeSlice 199 (I N) (I N)).run prog w= .ok (.slice (some ⟨w,0,none⟩) N N) (w.alloc (.cells AB vZ)):=fun w=>by rw[a3];exact run_make_row' _ _ (.int .i32 0) 4 underlying199 (by kernel_rfl) rfl .i64 .i64 N (by omega) (by omega) w
 have b9:Hid (AB.toList=pG (List.replicate N 0)):=by show _=_;rw[a3,(jG _ N).1];simp[pG]
 have ca:Hid (AB.size=N):=by show _=_;rw[a3];exact(jG _ N).2
 clear a4 a3;go_enter func173,ntmps173;go_upto_region 4 with fail
 have ME:=(show Mem w ((w.alloc (.cells #[aA,aB,.slice (some ⟨pb,po,none⟩) n a] TH3)).alloc (.cells AR TSS)) [gK w TI 1 [],aJ w TSS 1 (some ⟨w.heap.size+1,0,none⟩) n n (jC n []),aI w w TH3 #[aA,aB,.slice (some ⟨pb,po,none⟩) n a]]from by
  have h1:=((Mem.start w).c0 TH3 #[aA,aB,.slice (some ⟨pb,po,none⟩) n a]).lit TSS 1 n (w.heap.size+1) AR (by simp) (by rw[b8.out];omega) (by simp[maxLen];omega);rw[b7.out]at h1
  exact h1.rows0 rfl)
 clear b7 b8 dj;have e0:=(ME.bk 2).tri;obtain⟨h0,h1,h2⟩:=e0;go_wp2;clear h0 h1 h2;go_loopw [8,32] (fun s i wr=> ∃(k S:Nat) (rows:List RowD),k≤n∧i=I k∧s=I S∧S=C0+kA pf k∧rY aA n k rows∧Mem w wr [gK w TI 1 rows,aJ w TSS 1 (some ⟨w.heap.size+1,0,none⟩) n n (jC n rows),aI w w TH3 #[aA,aB,.slice (some ⟨pb,po,none⟩) n a]]) (fun _ i _=>n-(intOf i).toNat)
 case atStart=>exact⟨0,C0,[],aTd _,rfl,rfl,rfl,⟨rfl,fun j r h=>by simp at h⟩,ME⟩
 case round=>
  clear ME;obtain⟨k,S,rows,hk,rfl,rfl,hS,ar,hM⟩:=hrel;have HM:=hM;have HR:=xQ ar;have HS:=xQ hS;have dh:S<12*4096+4096:=by have h1:=rF pf k;have h2:2 ^ k≤2 ^ 12:=aTl (n:=2) (by omega) (by omega);omega
  clear hM ar hS;by_cases hlt:k<n
  ·obtain⟨x,hx⟩: ∃x,xs[k]? =some x:=⟨_,aT6 (by rw[cp.out];exact hlt)⟩
   have i1:=aVt k;have i2:=aVu k n;have cx:wr.cell? ⟨pb,po+k,none⟩=some (I x):=(HM.ext.cells.1 _ _ dm).trans (da k x hx);obtain⟨h0,h1,h2⟩:=(HM.bk 2).tri;have a2:=xQ (dn.out k x hx);clear hx;have cy:=HR.out.1;obtain⟨nb,p⟩: ∃nb,nb=aU aA n k:=⟨_,rfl⟩
   have ai:=xQ p;have bx:Hid (∀w',Ext w w'→U 197 #[aH aA aB (some ⟨pb,po,none⟩) n a,k] w' (bC (bK nb) w')):=by rw[p];exact HC k hlt
   have cv:(bK nb).length=nb.length:=by simp[bK]
   clear p;go_wp2_with fail;clear h0 h1 h2 cx;refine(bx _ HM.ext).mono ?_;rintro e w5 ⟨q5,c5,rfl,o5,ax⟩;rw[cv]at o5⊢;have M5:=((HM.call ax o5).rowsAdd rfl)
   clear o5 ax HM bx;have co:w5.cell? ⟨w.heap.size+1,k,none⟩=some (.slice none 0 0):=by have h7:=(M5.ow 1).cellAt k (by omega);rw[h7];have h8:=aPb (n:=n) (rows:=rows) (by omega);rw[cy]at h8;exact h8
   have db:w5.frozen? ⟨w.heap.size+1,k,none⟩=false:=(M5.ow 1).frozenAt k
   have ce:=xQ (show rY aA n (k+1) (rows++ [⟨q5,nb.length,c5,ivs (bK nb)⟩])from by
    have h7:=wY (q:=q5) (c:=c5) HR.out;rw[←ai.out]at h7
    exact h7)
   have M6:=(show Mem w (w5.setCell ⟨w.heap.size+1,k,none⟩ (.slice q5 nb c5)) [gK w TI 1 (rows++ [⟨q5,nb.length,c5,ivs (bK nb)⟩]),aJ w TSS 1 (some ⟨w.heap.size+1,0,none⟩) n n (jC n (rows++ [⟨q5,nb.length,c5,ivs (bK nb)⟩])),aI w w TH3 #[aA,aB,.slice (some ⟨pb,po,none⟩) n a]]from by
    have h7:=aMe (n:=n) (rows:=rows) (by omega) ⟨q5,nb.length,c5,ivs (bK nb)⟩;rw[←h7,cy]
    exact M5.ostore (i:=1) rfl k (.slice q5 nb c5))
   clear M5 HR ai;go_upto_region 8 with fail;clear co db;generalize c2:World.setCell _ _ _=w6;rw[c2]at M6;clear c2;by_cases hx0:x=0
   ·have t0:(x==0)=true:=by simp[hx0]
    have ad:=a2.out;rw[decide_eq_true hx0]at ad;obtain⟨PK,a5⟩: ∃PK:Nat,PK=2 ^ k:=⟨_,rfl⟩
    have d7:(2:Int) ^ k=(PK:Int):=by rw[a5];simp
    have d0:PK≤2048:=by rw[a5];exact aTg (aTl (by omega) (show k≤11 by omega)) (by decide)
    have bw:IntKind.i64.wrap (PK:Int)=(PK:Int):=aT8 _ (by omega);obtain⟨S2,bi⟩: ∃S2,S2=C0+kA pf (k+1):=⟨_,rfl⟩
    have d6:bits .or .i64 (S:Int) (PK:Int)=(S2:Int):=by rw[aJ1 S PK (by omega) (by omega),a5,HS.out,cb.out,aNs hlt ad,bi,cb.out]
    have bh:=xQ bi;clear ad a5 hx0 bi;go_wp2;go_roundw
    case rel=>exact⟨k+1,S2,_,by omega,by go_num,rfl,bh.out,ce.out,M6⟩
    case measure=>simp[intOf];omega
   have t0:(x==0)=false:=by simp[hx0]
   have ad:=a2.out;rw[decide_eq_false hx0]at ad;have bh:=xQ (show S=C0+kA pf (k+1) by rw[aNt ad];exact HS.out);clear ad hx0;go_wp2;go_roundw
   case rel=>exact⟨k+1,S,_,by omega,by go_num,rfl,bh.out,ce.out,M6⟩
   case measure=>simp[intOf];omega
  obtain rfl:n=k:=by omega
  obtain rfl:S=st:=by rw[HS.out,cz.out]
  have a8:=xQ HR.out;clear HS HR dh;obtain⟨gB,bp⟩: ∃gB,gB=wr.heap.size:=⟨_,rfl⟩
  have M2:=(show Mem w (wr.alloc (.cells AB vZ)) [aJ w vZ 1 (some ⟨gB,0,none⟩) N N (pG (List.replicate N 0)),gK w TI 1 rows,aJ w TSS 1 (some ⟨w.heap.size+1,0,none⟩) n n (jC n rows),aI w w TH3 #[aA,aB,.slice (some ⟨pb,po,none⟩) n a]]from by
   have h1:=HM.lit vZ 1 N gB AB bp.symm (by rw[ca.out];omega) (by simp[maxLen];omega);rw[b9.out]at h1
   exact h1)
  go_upto_region 12 with fail;rw[←bp];clear b9 ca cs HM bp;generalize c1:World.alloc _ _=w2;rw[c1]at M2;clear c1;go_wp2;go_loopw [56] (fun i wr=> ∃(k:Nat),k≤N∧i=I k∧Mem w wr [aJ w vZ 1 (some ⟨gB,0,none⟩) N N (pG (List.replicate k (-1)++List.replicate (N-k) 0)),gK w TI 1 rows,aJ w TSS 1 (some ⟨w.heap.size+1,0,none⟩) n n (jC n rows),aI w w TH3 #[aA,aB,.slice (some ⟨pb,po,none⟩) n a]]) (fun i _=>N-(intOf i).toNat)
  case atStart=>exact⟨0,aTd _,rfl,by simpa using M2⟩
  case round=>
   clear M2;obtain⟨k,hk,rfl,hM⟩:=hrel;have HM:=hM;clear hM;by_cases hlt:k<N
   ·have i1:=aVt k;have i2:=aVu k N;have hl:(List.replicate k (-1:Int)++List.replicate (N-k) 0)[k]? =some 0:=by
     rw[aTy (by simp)];simp[aV1];omega
    have c3:wr.cell? ⟨gB,k,none⟩=some (.int .i32 0):=by have:=(HM.ow 0).cellAt k (by omega);rw[this];exact aDl hl
    have c4:wr.frozen? ⟨gB,k,none⟩=false:=(HM.ow 0).frozenAt k;clear hl;have M2:=(HM.ostore (i:=0) rfl k (.int .i32 (-1)))
    go_wp2;go_roundw
    case rel=>exact⟨k+1,by omega,by go_num,by have:=M2;rw[uC,aJl hlt]at this;exact this⟩
    case measure=>simp[intOf];omega
   obtain rfl:N=k:=by omega
   rw[aV0,show List.replicate N (-1:Int)++List.replicate 0 0=List.replicate N (-1) by simp]at HM;have i1:=aVt S;have i2:=aVu S N;have i3:IntKind.i32.wrap (S:Int)=(S:Int):=aP9 _ (by omega);have c3:wr.cell? ⟨gB,S,none⟩=some (.int .i32 (-1)):=by have:=(HM.ow 0).cellAt S (by omega);rw[this];exact aDl (by rw[aV1,if_pos c0])
   have c4:wr.frozen? ⟨gB,S,none⟩=false:=(HM.ow 0).frozenAt S;have M2:=(show Mem w (wr.setCell ⟨gB,S,none⟩ (.int .i32 (S:Int))) [aJ w vZ 1 (some ⟨gB,0,none⟩) N N (pG ((List.replicate N (-1)).set S (S:Int))),gK w TI 1 rows,aJ w TSS 1 (some ⟨w.heap.size+1,0,none⟩) n n (jC n rows),aI w w TH3 #[aA,aB,.slice (some ⟨pb,po,none⟩) n a]]from by rw[←uC];exact HM.ostore (i:=0) rfl S (.int .i32 (S:Int)))
   go_upto_region 18 with fail;clear c3 c4 HM;generalize bw:World.setCell _ _ _=w1;rw[bw]at M2;clear bw;have M3:=(M2.lit TI 1 1 w1 #[S] rfl rfl (by simp[maxLen]))
   have I1:=xQ (show SRun adj (fun v=>v/P2=0) N S 0 ((List.replicate N (-1)).set S (S:Int)) [S]from .init);clear M2;go_wp2;go_loopw [13,14] (fun v i wr=> ∃(k:Nat) (q:OA) (l lc:Nat) (B:List Int) (Q:List Nat),k≤l∧i=I k∧v= .slice q l lc∧l=Q.length∧l≤N∧SRun adj (fun v=>v/P2=0) N S k B Q∧Mem w wr [aJ w TI 1 (q) (l) lc (ivs (bK (Q))),aJ w vZ 1 (some ⟨gB,0,none⟩) N N (pG (B)),gK w TI 1 rows,aJ w TSS 1 (some ⟨w.heap.size+1,0,none⟩) n n (jC n rows),aI w w TH3 #[aA,aB,.slice (some ⟨pb,po,none⟩) n a]]) (fun _ i _=>N-(intOf i).toNat)
   case atStart=>exact⟨0,some ⟨w1,0,none⟩,1,1,_,[S],aTd _,rfl,rfl,rfl,by omega,I1.out,M3⟩
   case round=>
    clear M3 I1;obtain⟨k,q,l,lc,B,Q,hk,rfl,rfl,cq,d3,au,hM⟩:=hrel;have HM:=hM;have aj:=xQ au;have a1:=xQ cq;have bf:=xQ (b2 k B Q au);clear hM au cq;by_cases hlt2:k<l
    ·obtain⟨u,hu⟩: ∃u,Q[k]? =some u:=⟨_,aT6 (by rw[←a1.out];exact hlt2)⟩
     have av:u<N:=bf.out.bd u (aT7 hu);have HU:=xQ hu;clear hu;obtain⟨gL,rfl,df,dg⟩:=HM.so 0;clear df dg;have i3:=aVt k;have i4:=aVu k l;have cu:wr.cell? ⟨gL,k,none⟩=some (I u):=by have:=(HM.ow 0).cellAt k (by omega);rw[this];simp[ivs,bK,HU.out]
     obtain⟨cr,bm⟩: ∃cr,cr=u/P2:=⟨_,rfl⟩
     have dw:(u:Int)/(P2:Int)=(cr:Int):=by rw[bm];simp
     have az:=xQ bm;clear bm;by_cases hc0:cr=0
     ·have t0:((cr:Int)==0)=true:=by simp[hc0]
      obtain⟨d,code,ed,dd,cf,ba,cj,ci⟩:=HG k u B Q aj HU.out (by rw[←az.out];exact hc0);have b4:=xQ (fun(w':World) (hx:Ext wr w')=>aOo n N d N gB B code ed w' hn cc dd cf ((HM.sq 1).ext hx) (hE.out.ext (HM.ext.trans hx)) (aT4 (HM.hi 1) hx.sz));rw[ba,cj]at b4;have c8:=xQ ci;clear cf ba cj ci hc0;go_wp2_with fail;clear cu;refine(b4 _ (Ext.refl _)).mono ?_;rintro e w5 ⟨q5,c5,rfl,o5,ax⟩;have M5:=(HM.call ax o5)
      clear o5 ax HM;go_wp2;exact bodyPost_ret (v:= .tuple #[.slice q5 ((List.range d).map (fun i=>jZ (ed i))).length c5,.bool true]) (by simp[results,results173,go_sem]) rfl (by rw[c8.out];exact⟨q5,c5,rfl,M5.ow 0,M5.ext⟩)
     have t0:((cr:Int)==0)=false:=by simp;omega
     have de:Hid (¬u/P2=0):=by show¬_;rw[←az.out];exact hc0
     clear hc0;go_wp2;clear cu;go_loopw [13,91] (fun v i wr=> ∃(f:Nat) (q:OA) (l2 lc:Nat) (B2:List Int) (Q2:List Nat),f≤n∧i=I f∧v= .slice q l2 lc∧l2=Q2.length∧(B2,Q2)=bS (u:Int) (B,Q) (jB aA n P2 u f)∧Mem w wr [aJ w TI 1 (q) (l2) lc (ivs (bK (Q2))),aJ w vZ 1 (some ⟨gB,0,none⟩) N N (pG (B2)),gK w TI 1 rows,aJ w TSS 1 (some ⟨w.heap.size+1,0,none⟩) n n (jC n rows),aI w w TH3 #[aA,aB,.slice (some ⟨pb,po,none⟩) n a]]) (fun _ i _=>n-(intOf i).toNat)
     case atStart=>exact⟨0,some ⟨gL,0,none⟩,l,lc,B,Q,aTd _,rfl,rfl,a1.out,rfl,HM⟩
     case round=>
      clear HM;obtain⟨f,q,l2,lc,B2,Q2,hf,rfl,rfl,bb,bo,hM⟩:=hrel;have bc:SOk N B2 Q2:=by have:=SOk.expand (u:=(u:Int)) (by omega) (jB aA n P2 u f) bf (fun v hv=>ae u v av (vH hf v hv));rw[←bo]at this;exact this
      have HM:=hM;have a0:=xQ bo;have y:=xQ bb;have b0:=xQ bc;clear hM bo bb bc;by_cases hlt3:f<n
      ·obtain⟨PF,z⟩: ∃PF:Nat,PF=2 ^ f:=⟨_,rfl⟩
       have du:(2:Int) ^ f=(PF:Int):=by rw[z];simp
       have dr:PF≤2048:=by rw[z];exact aTg (aTl (by omega) (show f≤11 by omega)) (by decide)
       have d8:IntKind.i64.wrap (PF:Int)=(PF:Int):=aT8 _ (by omega);have a2:=xQ z;have j1:=aVt f;have j2:=aVu f n;by_cases hbf:u.testBit f=true
       ·have ch:bits .and .i64 (u:Int) (PF:Int)=(PF:Int):=by rw[z];exact aK5 (by omega) (by omega) hbf
        have dt:0<PF:=by rw[z];exact aVf f
        have t1:((PF:Int)!=0)=true:=by simp;omega
        have br:Hid (jB aA n P2 u (f+1)=jB aA n P2 u f):=by show _=_;rw[sO,aSw (by rw[ah.out,rK u hlt3];exact hbf),aTv]
        clear hbf z;go_wp2;go_roundw
        case rel=>exact⟨f+1,q,l2,lc,B2,Q2,by omega,by go_num,rfl,y.out,by rw[br.out];exact a0.out,HM⟩
        case measure=>simp[intOf];omega
       have hbf:u.testBit f=false:=by simpa using hbf
       have ch:bits .and .i64 (u:Int) (PF:Int)=0:=by rw[z];exact aQ2 (by omega) (by omega) hbf
       have ak:(u%P2).testBit f=false:=by rw[ah.out,rK u hlt3];exact hbf
       have c6:=xQ hbf;have a7:=xQ ak;obtain⟨⟨rq,rn,rc,ea⟩,ag⟩: ∃r,rows[f]? =some r:=⟨_,aT6 (by rw[a8.out.1];exact hlt3)⟩
       obtain⟨bs,bu⟩:=a8.out.2 f _ ag;dsimp only at bs bu;have bg:=xQ ag;obtain⟨nb,p⟩: ∃nb,nb=aU aA n f:=⟨_,rfl⟩
       rw[←p]at bs bu;have dl:nb.length≤n:=by rw[p];exact aTg (aUb _ _) (by simp)
       have ai:=xQ p;subst bs bu;have dc:wr.cell? ⟨w.heap.size+1,f,none⟩=some (.slice rq nb rc):=by have h7:=(HM.ow 3).cellAt f (by omega);rw[h7];exact aMf ag
       have br:Hid (jB aA n P2 u (f+1)=jB aA n P2 u f++jQ aA n P2 u f nb.length):=by show _=_;rw[sO,aPl ak,p]
       clear hbf ak z ag p;go_wp2;clear dc;go_loopw [13,104] (fun v i wr=> ∃(j:Nat) (q:OA) (l3 lc:Nat) (B3:List Int) (Q3:List Nat),j≤nb.length∧i=I j∧v= .slice q l3 lc∧l3=Q3.length∧(B3,Q3)=bS (u:Int) (B,Q) (jB aA n P2 u f++jQ aA n P2 u f j)∧Mem w wr [aJ w TI 1 (q) (l3) lc (ivs (bK (Q3))),aJ w vZ 1 (some ⟨gB,0,none⟩) N N (pG (B3)),gK w TI 1 rows,aJ w TSS 1 (some ⟨w.heap.size+1,0,none⟩) n n (jC n rows),aI w w TH3 #[aA,aB,.slice (some ⟨pb,po,none⟩) n a]]) (fun _ i _=>nb.length-(intOf i).toNat)
       case atStart=>exact⟨0,q,l2,lc,B2,Q2,aTd _,rfl,rfl,y.out,by rw[aI0,aTv];exact a0.out,HM⟩
       case round=>
        clear HM;obtain⟨j,q,l3,lc,B3,Q3,hj,rfl,rfl,an,am,hM⟩:=hrel;have ao:SOk N B3 Q3:=by
         have:=SOk.expand (u:=(u:Int)) (by omega) (jB aA n P2 u f++jQ aA n P2 u f j) bf (fun v hv=>by
          rcases aTn.1 hv with hv|hv
          ·exact ae u v av (vH hf v hv)
          ·exact ae u v av (aBc hlt3 a7 v hv))
         rw[←am]at this;exact this
        have HM:=hM;have b:=xQ am;have o:=xQ an;have b1:=xQ ao;have d2:l3≤N:=by rw[an];exact ao.qlen
        clear hM am an ao;by_cases hlt4:j<nb.length
        ·obtain⟨t,a6⟩: ∃t,nb[j]? =some t:=⟨_,aT6 hlt4⟩
         have bv:t<n:=(bZ.1 (by rw[←ai.out];exact aT7 a6:t∈aU aA n f)).1;have be:(aU aA n f)[j]? =some t:=by rw[←ai.out];exact a6
         have aq:wr.ownsRow w TI 1 (.slice rq nb rc) nb.length (ivs (bK nb)):=HM.ok (gK w TI 1 rows) (by simp) _ (aT7 bg.out);obtain⟨gR,di⟩: ∃gR,rq=some ⟨gR,0,none⟩:=by
          rcases aq.2 with⟨_,h3⟩|⟨g,_,_,h3,_⟩
          ·omega
          injection h3 with h3;exact⟨g,h3⟩
         subst di;have ct:wr.cell? ⟨gR,j,none⟩=some (I t):=by have:=aq.cellAt j (by omega);rw[this];simp[ivs,bK,a6]
         have b3:=xQ be;clear a6 be aq;obtain⟨PT,aa⟩: ∃PT:Nat,PT=2 ^ t:=⟨_,rfl⟩
         have dx:(2:Int) ^ t=(PT:Int):=by rw[aa];simp
         have ds:PT≤2048:=by rw[aa];exact aTg (aTl (by omega) (show t≤11 by omega)) (by decide)
         have d9:IntKind.i64.wrap (PT:Int)=(PT:Int):=aT8 _ (by omega);have m1:=aVt j;have m2:(j:Int)<(nb.length:Int):=by omega
         by_cases hbt:u.testBit t=true
         ·have a9:(u%P2).testBit t=true:=by rw[ah.out,rK u bv];exact hbt
          have bj:bits .and .i64 (u:Int) (PT:Int)=(PT:Int):=by rw[aa];exact aK5 (by omega) (by omega) hbt
          have dp:0<PT:=by rw[aa];exact aVf t
          have t2:((PT:Int)==0)=false:=by simp;omega
          have ab:=aLh b3 a9;have bq:iE P2 (u/P2) (u%P2) f t<N:=ae u _ av (aBc (j:=j+1) hlt3 a7 _ (by rw[ab];simp));have cw:=aQt (u:=u) (f:=f) (t:=t) hn (by rw[←cd.out];exact av) hlt3 bv c6 hbt (by rw[←cd.out,←ah.out];exact bq);rw[←ah.out,←a2.out,←aa]at cw;generalize iE P2 (u/P2) (u%P2) f t=nx at*;have ap:jB aA n P2 u f++jQ aA n P2 u f (j+1)=(jB aA n P2 u f++jQ aA n P2 u f j)++ [nx]:=by rw[ab,aTx]
          have af:=xQ ap;clear ab ap hbt a9 aa;generalize u ^^^ 2 ^ f=X1 at*;generalize dH u f t=mv at*;generalize ((t:Int)-(f:Int))*(P2:Int)=D at*;obtain⟨x1,x2,x3,x4,x5⟩:=cw;have c9:=xQ x3;have b5:=xQ x4;have dy:=aVw ((t:Int)-(f:Int));clear x3 x4;obtain⟨bn,bl⟩: ∃bn,bn=B3.getD nx 0:=⟨_,rfl⟩
          have al:=dR (D:=B3) (v:=nx) (by rw[b1.out.len];exact bq);rw[←bl]at al;have cn:wr.cell? ⟨gB,nx,none⟩=some (.int .i32 bn):=by have:=(HM.ow 1).cellAt nx (by omega);rw[this];exact aDl al.1
          have b6:wr.frozen? ⟨gB,nx,none⟩=false:=(HM.ow 1).frozenAt nx;have ay:=xQ bl;clear bl al;have m5:=aVt nx;have m6:=aVu nx N;have dz:IntKind.i32.wrap (u:Int)=(u:Int):=aP9 _ (by omega);by_cases hfc:f=cr
          ·have t3:((f:Int)==(cr:Int))=true:=by simp[hfc]
           have x4:IntKind.i64.wrap ((mv:Int)+D)=(nx:Int):=b5 (hfc.trans az.out);clear hfc;by_cases hneg:bn<0
           ·have t4:decide (bn<0)=true:=by simp[hneg]
            have m:Hid ((B3.set nx (u:Int),Q3++ [nx])=bS (u:Int) (B,Q) (jB aA n P2 u f++jQ aA n P2 u f (j+1))):=by show _=_;rw[af.out,eG,←b.out,mH (by rw[←ay.out];exact hneg)]
            have M6:=(show Mem w (wr.setCell ⟨gB,nx,none⟩ (.int .i32 (u:Int))).drew [aJ w TI 1 (q) (l3) lc (ivs (bK (Q3))),aJ w vZ 1 (some ⟨gB,0,none⟩) N N (pG (B3.set nx (u:Int))),gK w TI 1 rows,aJ w TSS 1 (some ⟨w.heap.size+1,0,none⟩) n n (jC n rows),aI w w TH3 #[aA,aB,.slice (some ⟨pb,po,none⟩) n a]]from by rw[←uC];exact(HM.ostore (i:=1) rfl nx (.int .i32 (u:Int))).adv (Ext.drew (Ext.refl _)))
            clear hneg b HM;go_upto_region 34 with fail;go_region;go_upto_region 39 with fail;clear ct cn b6;generalize aw:World.setCell _ _ _=w4;rw[aw]at M6;clear aw;go_wp2_with (at_builtin;go_loud (refine cJ fY rfl _ _ rfl (M6.adv ((Ext.refl _).alloc (.cells #[nx] TI))) 0 rfl rfl (ivs [(nx:Int)]) rfl ((eD w4 #[nx] TI 1 1 _ rfl rfl (by simp[maxLen])).ext (Ext.drew (Ext.refl _))) (fun u hu=>by obtain rfl:=aTp.1 hu;rfl) (by omega) ?_;intro q7 c7 w6 M7));have M8:=(show Mem w w6 [aJ w TI 1 (q7) (l3+1) c7 (ivs (bK (Q3++ [nx]))),aJ w vZ 1 (some ⟨gB,0,none⟩) N N (pG (B3.set nx (u:Int))),gK w TI 1 rows,aJ w TSS 1 (some ⟨w.heap.size+1,0,none⟩) n n (jC n rows),aI w w TH3 #[aA,aB,.slice (some ⟨pb,po,none⟩) n a]]from by rw[show ivs (bK (Q3++ [nx]))=ivs (bK Q3)++ivs [(nx:Int)] by simp[ivs,bK]];exact M7)
            clear M7 M6;go_wp2;go_roundw
            case rel=>exact⟨j+1,q7,l3+1,c7,B3.set nx (u:Int),Q3++ [nx],by omega,by go_num,rfl,by simp[o.out],m.out,M8⟩
            case measure=>simp[intOf];omega
           have t4:decide (bn<0)=false:=by simp;omega
           have m:Hid ((B3,Q3)=bS (u:Int) (B,Q) (jB aA n P2 u f++jQ aA n P2 u f (j+1))):=by show _=_;rw[af.out,eG,←b.out,oB (by rw[←ay.out];exact hneg)]
           clear hneg b;go_upto_region 34 with fail;go_region;go_wp2;go_roundw
           case rel=>exact⟨j+1,q,l3,lc,B3,Q3,by omega,by go_num,rfl,o.out,m.out,HM.adv xE⟩
           case measure=>simp[intOf];omega
          have t3:((f:Int)==(cr:Int))=false:=by simp;omega
          have dk:nx=mv:=(c9 (fun e=>hfc (e.trans az.out.symm))).symm;subst dk;clear hfc;by_cases hneg:bn<0
          ·have t4:decide (bn<0)=true:=by simp[hneg]
           have m:Hid ((B3.set nx (u:Int),Q3++ [nx])=bS (u:Int) (B,Q) (jB aA n P2 u f++jQ aA n P2 u f (j+1))):=by show _=_;rw[af.out,eG,←b.out,mH (by rw[←ay.out];exact hneg)]
           have M6:=(show Mem w (wr.setCell ⟨gB,nx,none⟩ (.int .i32 (u:Int))).drew [aJ w TI 1 (q) (l3) lc (ivs (bK (Q3))),aJ w vZ 1 (some ⟨gB,0,none⟩) N N (pG (B3.set nx (u:Int))),gK w TI 1 rows,aJ w TSS 1 (some ⟨w.heap.size+1,0,none⟩) n n (jC n rows),aI w w TH3 #[aA,aB,.slice (some ⟨pb,po,none⟩) n a]]from by rw[←uC];exact(HM.ostore (i:=1) rfl nx (.int .i32 (u:Int))).adv (Ext.drew (Ext.refl _)))
           clear hneg b HM;go_upto_region 34 with fail;go_region;go_upto_region 39 with fail;clear ct cn b6;generalize aw:World.setCell _ _ _=w4;rw[aw]at M6;clear aw;go_wp2_with (at_builtin;go_loud (refine cJ fY rfl _ _ rfl (M6.adv ((Ext.refl _).alloc (.cells #[nx] TI))) 0 rfl rfl (ivs [(nx:Int)]) rfl ((eD w4 #[nx] TI 1 1 _ rfl rfl (by simp[maxLen])).ext (Ext.drew (Ext.refl _))) (fun u hu=>by obtain rfl:=aTp.1 hu;rfl) (by omega) ?_;intro q7 c7 w6 M7));have M8:=(show Mem w w6 [aJ w TI 1 (q7) (l3+1) c7 (ivs (bK (Q3++ [nx]))),aJ w vZ 1 (some ⟨gB,0,none⟩) N N (pG (B3.set nx (u:Int))),gK w TI 1 rows,aJ w TSS 1 (some ⟨w.heap.size+1,0,none⟩) n n (jC n rows),aI w w TH3 #[aA,aB,.slice (some ⟨pb,po,none⟩) n a]]from by rw[show ivs (bK (Q3++ [nx]))=ivs (bK Q3)++ivs [(nx:Int)] by simp[ivs,bK]];exact M7)
           clear M7 M6;go_wp2;go_roundw
           case rel=>exact⟨j+1,q7,l3+1,c7,B3.set nx (u:Int),Q3++ [nx],by omega,by go_num,rfl,by simp[o.out],m.out,M8⟩
           case measure=>simp[intOf];omega
          have t4:decide (bn<0)=false:=by simp;omega
          have m:Hid ((B3,Q3)=bS (u:Int) (B,Q) (jB aA n P2 u f++jQ aA n P2 u f (j+1))):=by show _=_;rw[af.out,eG,←b.out,oB (by rw[←ay.out];exact hneg)]
          clear hneg b;go_upto_region 34 with fail;go_region;go_wp2;go_roundw
          case rel=>exact⟨j+1,q,l3,lc,B3,Q3,by omega,by go_num,rfl,o.out,m.out,HM.adv xE⟩
          case measure=>simp[intOf];omega
         have hbt:u.testBit t=false:=by simpa using hbt
         have bj:bits .and .i64 (u:Int) (PT:Int)=0:=by rw[aa];exact aQ2 (by omega) (by omega) hbt
         have ab:=xQ (aO7 b3 (show(u%P2).testBit t=false by rw[ah.out,rK u bv];exact hbt));clear hbt aa;go_wp2;go_roundw
         case rel=>exact⟨j+1,q,l3,lc,B3,Q3,by omega,by go_num,rfl,o.out,by rw[ab.out];exact b.out,HM⟩
         case measure=>simp[intOf];omega
        obtain rfl:nb.length=j:=by omega
        go_wp2;go_roundw
        case rel=>exact⟨f+1,q,l3,lc,B3,Q3,by omega,by go_num,rfl,o.out,by rw[br.out];exact b.out,HM⟩
        case measure=>simp[intOf];omega
      obtain rfl:n=f:=by omega
      have bt:Hid (SRun adj (fun v=>v/P2=0) N S (k+1) B2 Q2):=by show SRun _ _ _ _ _ _ _;have h7:=SRun.step aj HU.out de.out;have h8:=a0.out;rw[aBd,←(show adj u=pK aA n P2 u by rw[cg.out])]at h8;rw[←h8]at h7;exact h7
      have cm:l2≤N:=by rw[y.out];exact b0.out.qlen
      have cl:k+1≤l2:=by have h8:=a0.out;obtain⟨r,h9,_⟩:=qT (u:Int) (jB aA n P2 u n) B Q;rw[←h8]at h9;dsimp only at h9;rw[y.out,h9,aTc];have:=a1.out;omega
      go_wp2;go_roundw
      case rel=>exact⟨k+1,q,l2,lc,B2,Q2,cl,by go_num,rfl,y.out,cm,bt.out,HM⟩
      case measure=>simp[intOf];omega
    have ck:=xQ (bz k B Q aj (by rw[←a1.out];omega));have hX:=xQ HM.ext;clear HM;go_wp2;exact bodyPost_ret (v:= .tuple #[((),()),.bool false]) (by simp[results,results173,go_sem]) rfl (by rw[ck.out];exact⟨_,rfl,hX.out⟩)
theorem aM1 (aA aB:Int)(p:OA)(a:Nat)(f t:Int)(xs:List Int)(w:World)(n:4≤xs.length)(hn:xs.length≤12)
  (HV:xB 42 #[aH aA aB p xs.length a] w true)
  (HK:Hid (∀w',Ext w w'→U 46 #[aH aA aB p xs.length a] w' (dN aA aB xs w')))
  (HM:xB 102 #[aH aA aB p xs.length a,eK f t] w false):
  U 64 #[aH aA aB p xs.length a,eK f t] w (dB aA aB xs false w):=by
 go_enter func64,ntmps64;go_wp2_with fail;refine Z (HV _ ((((Mem.start w).c0 TH3 #[aA,aB,.slice p xs a]).c1 TSL #[f,t]).bn TH3 #[(),(),((),())] (w.heap.size+2)).ext) fun w1 i=>?_
 have M1:=(((((Mem.start w).c0 TH3 #[aA,aB,.slice p xs a]).c1 TSL #[f,t]).bn TH3 #[(),(),((),())] (w.heap.size+2)).adv i)
 clear i;have h_:=(M1.bk 2).tri;go_wp2_with fail;clear h_;refine(HK _ M1.ext).mono ?_;rintro e w2 ⟨q,c2,rfl,d,j⟩;have M2:=(M1.call j d)
 clear M1 j d;have b:=M2.hi 2;have c:=M2.hi 3;obtain⟨g,rfl,l,m⟩:=M2.so 0;have h_:=(M2.bk 3).tri;have s0:=(M2.bk 2).cl 0;have s1:=(M2.bk 2).cl 1;go_wp2_with fail;clear h_ s0 s1;refine Z (HM _ (M2.c0 TH3 #[aA,aB,.slice (some ⟨g,0,none⟩) xs c2]).ext) fun w3 k=>?_
 have M3:=((M2.c0 TH3 #[aA,aB,.slice (some ⟨g,0,none⟩) xs c2]).adv k)
 clear M2 b c k;have v_:=(M3.bk 0).tri;have z_:=(M3.bk 2).trif;go_wp2;have M4:=((M3.st 2 0 (I aA)).st 2 1 (I aB))
 have M5:=(M4.st 2 2 (.slice (some ⟨g,0,none⟩) xs c2))
 have M6:=(show Mem w (((w3.setCell ⟨w.heap.size+2,0,none⟩ (I aA)).setCell ⟨w.heap.size+2,1,none⟩ (I aB)).setCell ⟨w.heap.size+2,2,none⟩ (.slice (some ⟨g,0,none⟩) xs c2)) [aI w w2 TH3 #[aA,aB,.slice (some ⟨g,0,none⟩) xs c2],aJ w TI 1 (some ⟨g,0,none⟩) (xs.length) (c2) (ivs xs),aI w (w.heap.size+2) TH3 #[aA,aB,.slice (some ⟨g,0,none⟩) xs c2],aI w (w.heap.size+1) TSL #[f,t],aI w w TH3 #[aA,aB,.slice p xs a]]from M5)
 generalize h:World.setCell _ _ _=wz;rw[h]at M6;clear h M3 M4 M5 v_ z_;have y_:=(M6.bk 2).tri;exact bodyPost_ret (v:= .tuple #[.agg #[aA,aB,.slice (some ⟨g,0,none⟩) xs c2],.bool false]) (by simp[results,results64,go_sem, *]) rfl (eU (by simp) (by exact(M6.ow 1)) M6.ext)
theorem aIi (aA aB:Int)(c i j b a:Nat)(x yj:Int)(xs:List Int)(w:World)(ai:4≤xs.length)(hn:xs.length≤12)(hi:i<xs.length)(hj:j<xs.length)(ad:i≠j)(HX:Hid (xs[i]? =some x)) (HY:Hid (xs[j]? =some yj))
  (hb:b<w.heap.size) (z:Hid (w.cell? ⟨b,a+i,none⟩=some (I x)))
  (HV:xB 42 #[aH aA aB (some ⟨b,a,none⟩) xs.length c] w true)
  (HK:Hid (∀w',Ext w w'→U 46 #[aH aA aB (some ⟨b,a,none⟩) xs.length c] w' (dN aA aB xs w')))
  (HM:xB 102 #[aH aA aB (some ⟨b,a,none⟩) xs.length c,eK (i:Int) (j:Int)] w true):
  U 64 #[aH aA aB (some ⟨b,a,none⟩) xs.length c,eK (i:Int) (j:Int)] w (dB aA aB ((xs.set j x).set i 0) true w):=by
 have a1:=aVt i;have a2:=aVt j;have a3:(i:Int)<(xs.length:Int):=by omega
 have a4:(j:Int)<(xs.length:Int):=by omega
 go_enter func64,ntmps64;go_wp2_with fail;refine Z (HV _ ((((Mem.start w).c0 TH3 #[aA,aB,.slice (some ⟨b,a,none⟩) xs c]).c1 TSL #[i,j]).bn TH3 #[(),(),((),())] (w.heap.size+2)).ext) fun w1 t=>?_
 have M1:=(((((Mem.start w).c0 TH3 #[aA,aB,.slice (some ⟨b,a,none⟩) xs c]).c1 TSL #[i,j]).bn TH3 #[(),(),((),())] (w.heap.size+2)).adv t)
 clear t;have h_:=(M1.bk 2).tri;go_wp2_with fail;clear h_;refine(HK _ M1.ext).mono ?_;rintro e w2 ⟨q,c2,rfl,p,u⟩;have M2:=(M1.call u p)
 clear M1 u p;have m:=M2.hi 2;have n:=M2.hi 3;obtain⟨g,rfl,ag,ah⟩:=M2.so 0;have h_:=(M2.bk 3).tri;have s0:=(M2.bk 2).cl 0;have s1:=(M2.bk 2).cl 1;go_wp2_with fail;clear h_ s0 s1;refine Z (HM _ (M2.c0 TH3 #[aA,aB,.slice (some ⟨g,0,none⟩) xs c2]).ext) fun w3 y=>?_
 have M3:=((M2.c0 TH3 #[aA,aB,.slice (some ⟨g,0,none⟩) xs c2]).adv y)
 clear M2 m n y;have v_:=(M3.bk 0).tri;have h_:=(M3.bk 4).tri;have s0:=(M3.bk 3).cl 0;have s1:=(M3.bk 3).cl 1;have cx:w3.cell? ⟨b,a+i,none⟩=some (I x):=(M3.ext.cells.1 _ _ hb).trans z.out;have gj:w3.cell? ⟨g,j,none⟩=some (I yj):=by have:=(M3.ow 1).cellAt j (by omega);rw[this];simpa[ivs]using HY.out
 have gi:w3.cell? ⟨g,i,none⟩=some (I x):=by have:=(M3.ow 1).cellAt i (by omega);rw[this];simpa[ivs]using HX.out
 have ab:w3.frozen? ⟨g,j,none⟩=false:=(M3.ow 1).frozenAt j;have aa:w3.frozen? ⟨g,i,none⟩=false:=(M3.ow 1).frozenAt i;obtain⟨f,h⟩:=M3.nq 0 1;have k: ¬(g=w.heap.size):=M3.ne (i:=1) (j:=4) (by omega) rfl rfl rfl rfl;have l: ¬(g=w.heap.size+1):=M3.ne (i:=1) (j:=3) (by omega) rfl rfl rfl rfl;have ae: ¬(g=b):=by have:=M3.ext.sz;omega
 have af: ¬(j=i):=fun e=>ad e.symm
 go_wp2;go_region_held3 (fun w'=>w'.cell? ⟨w2,2,none⟩=some (.slice (some ⟨g,0,none⟩) xs c2)∧w'.cell? ⟨w,2,none⟩=some (.slice (some ⟨b,a,none⟩) xs c)∧w'.cell? ⟨w.heap.size+1,0,none⟩=some (I i)∧w'.cell? ⟨w.heap.size+1,1,none⟩=some (I j)∧w'.cell? ⟨b,a+i,none⟩=some (I x)) (first|(refine⟨?_,?_,?_,?_,?_⟩<;>assumption)|go_keep) (first|fail);clear v_ h_ s0 s1 f h k l cx gj gi ab aa ae af;have MX:=(show Mem w ((w3.setCell ⟨g,j,none⟩ (I x)).setCell ⟨g,i,none⟩ (I 0)) [aI w w2 TH3 #[aA,aB,.slice (some ⟨g,0,none⟩) xs c2],aJ w TI 1 (some ⟨g,0,none⟩) (xs.length) (c2) (ivs ((xs.set j x).set i 0)),aI w (w.heap.size+2) TH3 #[(),(),((),())],aI w (w.heap.size+1) TSL #[i,j],aI w w TH3 #[aA,aB,.slice (some ⟨b,a,none⟩) xs c]]from by rw[←eL,←eL];exact(M3.ostore (i:=1) rfl j (I x)).ostore (i:=1) rfl i (I 0))
 have MY:=(MX.adv (Ext.drew (Ext.refl _)))
 generalize r:World.drew _=w4;rw[r]at MY;clear r MX M3;have v_:=(MY.bk 0).tri;have z_:=(MY.bk 2).trif;go_wp2;have M9:=((MY.st 2 0 (I aA)).st 2 1 (I aB))
 have o:=(M9.st 2 2 (.slice (some ⟨g,0,none⟩) xs c2))
 have d:=(show Mem w (((w4.setCell ⟨w.heap.size+2,0,none⟩ (I aA)).setCell ⟨w.heap.size+2,1,none⟩ (I aB)).setCell ⟨w.heap.size+2,2,none⟩ (.slice (some ⟨g,0,none⟩) xs c2)) [aI w w2 TH3 #[aA,aB,.slice (some ⟨g,0,none⟩) xs c2],aJ w TI 1 (some ⟨g,0,none⟩) (xs.length) (c2) (ivs ((xs.set j x).set i 0)),aI w (w.heap.size+2) TH3 #[aA,aB,.slice (some ⟨g,0,none⟩) xs c2],aI w (w.heap.size+1) TSL #[i,j],aI w w TH3 #[aA,aB,.slice (some ⟨b,a,none⟩) xs c]]from o)
 generalize s:World.setCell _ _ _=wz;rw[s]at d;clear s MY M9 o v_ z_;have y_:=(d.bk 2).tri;exact bodyPost_ret (v:= .tuple #[.agg #[aA,aB,.slice (some ⟨g,0,none⟩) xs c2],.bool true]) (by simp[results,results64,go_sem, *]) rfl (eU (by simp) (by exact(d.ow 1)) d.ext)
theorem aBm (aA aB f t:Int)(p:OA)(n a:Nat)(xs:List Int)(w:World)(hS:Sl w p n a 1 (ivs xs))(c:aN aA aB xs=true):
  U 64 #[aH aA aB p n a,eK f t] w (dB aA aB (bL aA aB xs f t) (bH aA aB xs f t) w):=by
 have hl:=hS.ilen;subst hl;obtain⟨g1,g2,g3,g4,g5,g6,g7,g8,g9⟩:=bN c;have HV:=fun(w':World) (hx:Ext w w')=>gU aA aB p xs.length a xs w' (hS.ext hx)
 rw[c]at HV;have HK:=fun(w':World) (hx:Ext w w')=>mT aA aB p xs.length a xs w' (by omega) (hS.ext hx)
 have HM:=fun(w':World) (hx:Ext w w')=>aS6 aA aB f t p xs.length a xs w' (hS.ext hx) c
 unfold bL;cases h:bH aA aB xs f t with
 |false=>rw[h]at HM;exact aM1 aA aB p a f t xs w g5 g6 HV HK HM
 |true=>
  rw[h]at HM;obtain⟨k1,k2,k3,k4,k5,k6,k7,k8,k9⟩:=kH h;obtain⟨i,rfl⟩: ∃i:Nat,f=(i:Int):=⟨f.toNat,by omega⟩
  obtain⟨j,rfl⟩: ∃j:Nat,t=(j:Int):=⟨t.toNat,by omega⟩
  obtain⟨b,e,rfl,hb,g⟩:=hS.rd (by omega);have d:xs[i]? =some (xs.getD i 0):=by rw[aTb,aT6 (by omega)];rfl
  have k:xs[j]? =some (xs.getD j 0):=by rw[aTb,aT6 (by omega)];rfl
  rw[if_pos rfl,aUz,aUz];exact aIi aA aB a i j b e _ _ xs w g5 g6 (by omega) (by omega) (by omega) d k hb (xQ (show w.cell? ⟨b,e+i,none⟩=some (I (xs.getD i 0)) by rw[g i (by omega)];simp only[ivs,aTo,d,aU4])) HV HK HM
end Go.Proofs.YthfmmibomhhmpaaGreatDoor
