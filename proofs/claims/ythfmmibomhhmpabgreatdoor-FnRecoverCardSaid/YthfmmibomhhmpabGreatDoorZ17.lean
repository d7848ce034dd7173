/- Lemmas (@packed). -/
import Derived.Test.YthfmmibomhhmpabGreatDoorZ16
namespace Go.Proofs.YthfmmibomhhmpabGreatDoor
open Go.RowKit Go.Proofs.Tryz
set_option linter.all false
set_option maxHeartbeats 8000000
set_option maxRecDepth 100000
variable{rows:List RowD}{u f k:Nat}(aA aB:Int)(pb po:Nat)(p:OA)(n c a:Nat)(xs:List Int)(lq:OA)(m lc:Nat)(l:List Sl2)(w:World)
theorem pZ (v:Value)(n:Nat):(madeCells #[v] n).toList=List.replicate n v∧(madeCells #[v] n).size=n:=by
 constructor
 ·apply List.ext_getElem<;>simp[madeCells,Nat.mod_one]
 simp[madeCells]
def kL (n:Nat)(rows:List RowD):List Value:=rows.map RowD.v++List.replicate (n-rows.length) (.slice none 0 0)
theorem aSa {n:Nat}(h:rows.length<n):(kL n rows)[rows.length]? =some (.slice none 0 0):=by unfold kL;rw[aWx (by simp)];simp[aY0];omega
theorem aP8 {n:Nat}(h:rows.length<n)(r:RowD):(kL n rows).set rows.length r.v=kL n (rows++ [r]):=by
 unfold kL;have e:n-rows.length=(n-(rows++ [r]).length)+1:=by simp;omega
 rw[e,aXx,aY8 _ _ (by simp),aWs,aWu];simp
theorem aP9 {n:Nat}{r:RowD}(h:rows[k]? =some r):(kL n rows)[k]? =some r.v:=by unfold kL;rw[aWl (by simpa using(aW3.1 h).1),aWp,h];rfl
theorem xM (k:Nat)(x:Int):(rG xs).set k (.int .i32 x)=rG (xs.set k x):=by simp[rG,List.map_set]
theorem aGr {xs:List Int}{x:Int}(h:xs[k]? =some x):(rG xs)[k]? =some (.int .i32 x):=by simp[rG,h]
theorem yV {aA:Int}{n M s f:Nat}(hf:f≤n): ∀v∈kK aA n M s f,v∈rQ aA n M s:=by intro v hv;rw[←aEc];unfold kK at hv⊢;obtain⟨x,hx,hv⟩:=List.mem_flatMap.1 hv;exact List.mem_flatMap.2 ⟨x,aWm.2 (aVy (aWm.1 hx) hf),hv⟩
theorem aEb {aA:Int}{n M s f j:Nat}(hf:f<n)(hb:(s%M).testBit f=false): ∀v∈kZ aA n M s f j,v∈rQ aA n M s:=by intro v hv;refine yV (f:=f+1) hf v ?_;rw[vS,aSk hb];refine List.mem_append_right _ ?_;unfold kZ at hv⊢;rw[aXt];obtain⟨t,ht,e⟩:=List.mem_map.1 hv;obtain⟨h1,h2⟩:=aWy.1 ht;exact List.mem_map.2 ⟨t,aWy.2 ⟨aXq h1,h2⟩,e⟩
structure aVg (n u f t PF PT P2 X1 mv nx:Nat) (D:Int):Prop where
 x1:bits .xor .i64 (u:Int) (PF:Int)=(X1:Int)
 x2:bits .xor .i64 (X1:Int) (PT:Int)=(mv:Int)
 no:f≠u/P2→mv=nx
 yes:f=u/P2→IntKind.i64.wrap ((mv:Int)+D)=(nx:Int)
 d:IntKind.i64.wrap (((t:Int)-(f:Int))*(P2:Int))=D
theorem aTq {n t:Nat}(hn:n≤12)(hu:u<n*2 ^ n)(a:f<n)(b:t<n)(hf:u.testBit f=false)(ht:u.testBit t=true)(hb:jJ (2 ^ n) (u/2 ^ n) (u%2 ^ n) f t<n*2 ^ n):
  aVg n u f t (2 ^ f) (2 ^ t) (2 ^ n) (u ^^^ 2 ^ f) (dP u f t) (jJ (2 ^ n) (u/2 ^ n) (u%2 ^ n) f t) (((t:Int)-(f:Int))*(2 ^ n:Nat)):=by
 have p0:2 ^ n≤2 ^ 12:=aWi (n:=2) (by omega) hn;have p1:2 ^ f≤2 ^ 11:=aWi (n:=2) (by omega) (by omega);have p2:2 ^ t≤2 ^ 11:=aWi (n:=2) (by omega) (by omega);have hN:n*2 ^ n≤12*4096:=Nat.mul_le_mul hn (by omega);have e:u ^^^ 2 ^ f<2 ^ 16:=Nat.xor_lt_two_pow (by omega) (by omega);have c:((t:Int)-(f:Int))*(2 ^ n:Nat)≤12*4096:=by
  have h1:((t:Int)-(f:Int))*(2 ^ n:Nat)=(t:Int)*(2 ^ n:Nat)-(f:Int)*(2 ^ n:Nat):=Int.sub_mul _ _ _;have h2:t*2 ^ n≤12*4096:=Nat.mul_le_mul (by omega) (by omega);have h3:(t:Int)*(2 ^ n:Nat)=((t*2 ^ n:Nat):Int):=by push_cast;rfl
  have h4:(f:Int)*(2 ^ n:Nat)=((f*2 ^ n:Nat):Int):=by push_cast;rfl
  omega
 have d: -(12*4096)≤((t:Int)-(f:Int))*(2 ^ n:Nat):=by
  have h1:((t:Int)-(f:Int))*(2 ^ n:Nat)=(t:Int)*(2 ^ n:Nat)-(f:Int)*(2 ^ n:Nat):=Int.sub_mul _ _ _;have h2:f*2 ^ n≤12*4096:=Nat.mul_le_mul (by omega) (by omega);have h3:(t:Int)*(2 ^ n:Nat)=((t*2 ^ n:Nat):Int):=by push_cast;rfl
  have h4:(f:Int)*(2 ^ n:Nat)=((f*2 ^ n:Nat):Int):=by push_cast;rfl
  omega
 refine⟨aA5 _ _ (by omega) (by omega),?_,fun hc=>(aTr a b hf ht hc).symm,fun hc=> ?_,aW2 _ (by omega)⟩
 ·rw[aA5 _ _ (by omega) (by omega),aPq hf ht]
 have h1:=aRg a b hf ht hc;have h2:((2 ^ n:Nat):Int)=(2:Int) ^ n:=by simp
 rw[h2,←h1];exact aW2 _ (by omega)
theorem aT0 (hu:u<9223372036854775808)(hf:f<12)(hb:u.testBit f=false):bits .and .i64 (u:Int) ((2 ^ f:Nat):Int)=0:=by have p1:2 ^ f≤2 ^ 11:=aWi (n:=2) (by omega) (by omega);rw[sV u _ hu (by omega),aNa,hb];rfl
theorem aN8 (hu:u<9223372036854775808)(hf:f<12)(hb:u.testBit f=true):bits .and .i64 (u:Int) ((2 ^ f:Nat):Int)=((2 ^ f:Nat):Int):=by have p1:2 ^ f≤2 ^ 11:=aWi (n:=2) (by omega) (by omega);rw[sV u _ hu (by omega),aNa,hb];rfl
theorem SGoal.trail {aA:Int}{xs:List Int}{c d:Nat}{B:List Int}(hn:xs.length≤12)(h:SGoal aA xs c d u B)(hl:B.length=xs.length*2 ^ xs.length):
  Trail xs.length (xs.length*2 ^ xs.length) d B (fun j=>gJ xs.length (gP aA xs.length (bD (jL aA xs.length (bX xs).length)) (st0 xs c) j)) (fun j=>jK aA xs.length (bD (jL aA xs.length (bX xs).length)) (st0 xs c) j):=by
 have a: ∀j,j≤d→gJ xs.length (gP aA xs.length (bD (jL aA xs.length (bX xs).length)) (st0 xs c) j)%2 ^ xs.length=(gP aA xs.length (bD (jL aA xs.length (bX xs).length)) (st0 xs c) j).2:=fun j hj=>(nB (h.pt j hj).set).2
 refine⟨hl,fun j hj=>xZ (h.pt j hj).car (h.pt j hj).set,fun j hj e=>h.far j hj e,h.back,fun j hj=> ?_,fun j hj=> ?_,fun j hj=> ?_,fun j hj=> ?_,fun j hj=> ?_⟩
 ·exact(iG.1 (h.edge j hj).1).1
 ·exact(iG.1 (h.edge j hj).1).2.1
 ·rw[a j (by omega)];exact(iG.1 (h.edge j hj).1).2.2.2.1
 ·rw[a j (by omega)];exact(iG.1 (h.edge j hj).1).2.2.2.2
 rw[a j (by omega),a (j+1) (by omega),(h.edge j hj).2];rfl
abbrev zK:TypeId:=21
theorem aS8 (x:Int)(h: -2147483648≤x∧x≤2147483647):IntKind.i32.wrap x=x:=by simp[IntKind.wrap,IntKind.signed,IntKind.bits];omega
theorem aS5 (N P2 c C0 st:Nat)(xs:List Int)(pf:Nat→Bool)(adj:Nat→List Nat)(w:World)(d4:4≤n)(hn:n≤12)(cp:Hid (xs.length=n))(dm:pb<w.heap.size)(hE:Hid (BitTab w))(cc:N≤49152)(bq:n≤N)(dq:C0≤12*4096)(ah:Hid (P2=2 ^ n))(cd:Hid (N=n*2 ^ n))(cb:Hid (C0=c*2 ^ n))(cz:Hid (st=C0+lI pf n))(c0:st<N)(dv:(2:Int) ^ n=(P2:Int))(d1:IntKind.i64.wrap ((c:Int)*(P2:Int))=(C0:Int))(d5:IntKind.i64.wrap ((n:Int)*(P2:Int))=(N:Int))(dn:Hid (∀k x,xs[k]? =some x→pf k=decide (x=0)))(cg:Hid (adj=fun u=>rQ aA n P2 u))(da:Hid (∀k x,xs[k]? =some x→w.cell? ⟨pb,po+k,none⟩=some (I x)))(HC:Hid (∀(k:Nat),k<n→ ∀w',Ext w w'→U 208 #[aH aA aB (some ⟨pb,po,none⟩) n a,k] w' (cC (bO (aU aA n k)) w')))(ae:Hid (∀u v,u<N→v∈rQ aA n P2 u→v<N))(b2:Hid (∀k B Q,SRun adj (fun v=>v/P2=0) N st k B Q→SOk N B Q))(HG:Hid (∀k u B Q,SRun adj (fun v=>v/P2=0) N st k B Q→Q[k]? =some u→u/P2=0→ ∃(d:Nat) (code:Nat→Nat) (e:Nat→Nat×Nat),d≤60∧Trail n N d B code e∧code 0=st∧code d=u∧eO aA xs c=some ((List.range d).map (fun i=>lH (e i)))))(bz:Hid (∀k B Q,SRun adj (fun v=>v/P2=0) N st k B Q→Q.length≤k→eO aA xs c=none)):
  U 189 #[aH aA aB (some ⟨pb,po,none⟩) n a,c] w (lV (eO aA xs c) w):=by
 obtain⟨AR,a4⟩: ∃AR:Array Value,AR=madeCells #[((),())] n:=⟨_,rfl⟩
 have dj: ∀w:World,(Instr.makeSlice 207 (I n) (I n)).run prog w= .ok (.slice (some ⟨w,0,none⟩) n n) (w.alloc (.cells AR TSS)):=fun w=>by rw[a4];exact run_make_row' _ _ (.slice none 0 0) 24 underlying207 (by kernel_rfl) rfl .i64 .i64 n (by omega) (by omega) w
 have b7:Hid (AR.toList=kL n []):=by show _=_;rw[a4,(pZ _ n).1];simp[kL]
 have b8:Hid (AR.size=n):=by show _=_;rw[a4];exact(pZ _ n).2
 obtain⟨AB,a3⟩: ∃AB:Array Value,AB=madeCells #[.int .i32 0] N:=⟨_,rfl⟩
 have cs: ∀w:World,(Instr.makeSlice 219 (I N) (I N)).run prog w= .ok (.slice (some ⟨w,0,none⟩) N N) (w.alloc (.cells AB zK)):=fun w=>by rw[a3];exact run_make_row' _ _ (.int .i32 0) 4 underlying219 (by kernel_rfl) rfl .i64 .i64 N (by omega) (by omega) w
 have b9:Hid (AB.toList=rG (List.replicate N 0)):=by show _=_;rw[a3,(pZ _ N).1];simp[rG]
 have ca:Hid (AB.size=N):=by show _=_;rw[a3];exact(pZ _ N).2
 clear a4 a3;go_enter func189,ntmps189;go_upto_region 4 with fail
 have ME:=(show Mem w ((w.alloc (.cells #[aA,aB,.slice (some ⟨pb,po,none⟩) n a] TH3)).alloc (.cells AR TSS)) [iQ w TI 1 [],aJ w TSS 1 (some ⟨w.heap.size+1,0,none⟩) n n (kL n []),aI w w TH3 #[aA,aB,.slice (some ⟨pb,po,none⟩) n a]]from by
  have h1:=((Mem.start w).c0 TH3 #[aA,aB,.slice (some ⟨pb,po,none⟩) n a]).lit TSS 1 n (w.heap.size+1) AR (by simp) (by rw[b8.out];omega) (by simp[maxLen];omega);rw[b7.out]at h1
  exact h1.rows0 rfl)
 clear b7 b8 dj;have e0:=(ME.bk 2).tri;obtain⟨h0,h1,h2⟩:=e0;go_wp2;clear h0 h1 h2;go_loopw [8,32] (fun s i wr=> ∃(k S:Nat) (rows:List RowD),k≤n∧i=I k∧s=I S∧S=C0+lI pf k∧uP aA n k rows∧Mem w wr [iQ w TI 1 rows,aJ w TSS 1 (some ⟨w.heap.size+1,0,none⟩) n n (kL n rows),aI w w TH3 #[aA,aB,.slice (some ⟨pb,po,none⟩) n a]]) (fun _ i _=>n-(intOf i).toNat)
 case atStart=>exact⟨0,C0,[],aW6 _,rfl,rfl,rfl,⟨rfl,fun j r h=>by simp at h⟩,ME⟩
 case round=>
  clear ME;obtain⟨k,S,rows,hk,rfl,rfl,hS,ar,hM⟩:=hrel;have HM:=hM;have HR:=xQ ar;have HS:=xQ hS;have dh:S<12*4096+4096:=by have h1:=tS pf k;have h2:2 ^ k≤2 ^ 12:=aWi (n:=2) (by omega) (by omega);omega
  clear hM ar hS;by_cases hlt:k<n
  ·obtain⟨x,hx⟩: ∃x,xs[k]? =some x:=⟨_,aW0 (by rw[cp.out];exact hlt)⟩
   have i1:=aYp k;have i2:=aYq k n;have cx:wr.cell? ⟨pb,po+k,none⟩=some (I x):=(HM.ext.cells.1 _ _ dm).trans (da k x hx);obtain⟨h0,h1,h2⟩:=(HM.bk 2).tri;have a2:=xQ (dn.out k x hx);clear hx;have cy:=HR.out.1;obtain⟨nb,p⟩: ∃nb,nb=aU aA n k:=⟨_,rfl⟩
   have ai:=xQ p;have bx:Hid (∀w',Ext w w'→U 208 #[aH aA aB (some ⟨pb,po,none⟩) n a,k] w' (cC (bO nb) w')):=by rw[p];exact HC k hlt
   have cv:(bO nb).length=nb.length:=by simp[bO]
   clear p;go_wp2_with fail;clear h0 h1 h2 cx;refine(bx _ HM.ext).mono ?_;rintro e w5 ⟨q5,c5,rfl,o5,ax⟩;rw[cv]at o5⊢;have M5:=((HM.call ax o5).rowsAdd rfl)
   clear o5 ax HM bx;have co:w5.cell? ⟨w.heap.size+1,k,none⟩=some (.slice none 0 0):=by have h7:=(M5.ow 1).cellAt k (by omega);rw[h7];have h8:=aSa (n:=n) (rows:=rows) (by omega);rw[cy]at h8;exact h8
   have db:w5.frozen? ⟨w.heap.size+1,k,none⟩=false:=(M5.ow 1).frozenAt k
   have ce:=xQ (show uP aA n (k+1) (rows++ [⟨q5,nb.length,c5,ivs (bO nb)⟩])from by
    have h7:=aAc (q:=q5) (c:=c5) HR.out;rw[←ai.out]at h7
    exact h7)
   have M6:=(show Mem w (w5.setCell ⟨w.heap.size+1,k,none⟩ (.slice q5 nb c5)) [iQ w TI 1 (rows++ [⟨q5,nb.length,c5,ivs (bO nb)⟩]),aJ w TSS 1 (some ⟨w.heap.size+1,0,none⟩) n n (kL n (rows++ [⟨q5,nb.length,c5,ivs (bO nb)⟩])),aI w w TH3 #[aA,aB,.slice (some ⟨pb,po,none⟩) n a]]from by
    have h7:=aP8 (n:=n) (rows:=rows) (by omega) ⟨q5,nb.length,c5,ivs (bO nb)⟩;rw[←h7,cy]
    exact M5.ostore (i:=1) rfl k (.slice q5 nb c5))
   clear M5 HR ai;go_upto_region 8 with fail;clear co db;generalize c2:World.setCell _ _ _=w6;rw[c2]at M6;clear c2;by_cases hx0:x=0
   ·have t0:(x==0)=true:=by simp[hx0]
    have ad:=a2.out;rw[decide_eq_true hx0]at ad;obtain⟨PK,a5⟩: ∃PK:Nat,PK=2 ^ k:=⟨_,rfl⟩
    have d7:(2:Int) ^ k=(PK:Int):=by rw[a5];simp
    have d0:PK≤2048:=by rw[a5];exact aW8 (aWi (by omega) (show k≤11 by omega)) (by decide)
    have bw:IntKind.i64.wrap (PK:Int)=(PK:Int):=aW2 _ (by omega);obtain⟨S2,bi⟩: ∃S2,S2=C0+lI pf (k+1):=⟨_,rfl⟩
    have d6:bits .or .i64 (S:Int) (PK:Int)=(S2:Int):=by rw[aLz S PK (by omega) (by omega),a5,HS.out,cb.out,aQq hlt ad,bi,cb.out]
    have bh:=xQ bi;clear ad a5 hx0 bi;go_wp2;go_roundw
    case rel=>exact⟨k+1,S2,_,by omega,by go_num,rfl,bh.out,ce.out,M6⟩
    case measure=>simp[intOf];omega
   have t0:(x==0)=false:=by simp[hx0]
   have ad:=a2.out;rw[decide_eq_false hx0]at ad;have bh:=xQ (show S=C0+lI pf (k+1) by rw[aQr ad];exact HS.out);clear ad hx0;go_wp2;go_roundw
   case rel=>exact⟨k+1,S,_,by omega,by go_num,rfl,bh.out,ce.out,M6⟩
   case measure=>simp[intOf];omega
  obtain rfl:n=k:=by omega
  obtain rfl:S=st:=by rw[HS.out,cz.out]
  have a8:=xQ HR.out;clear HS HR dh;obtain⟨gB,bp⟩: ∃gB,gB=wr.heap.size:=⟨_,rfl⟩
  have M2:=(show Mem w (wr.alloc (.cells AB zK)) [aJ w zK 1 (some ⟨gB,0,none⟩) N N (rG (List.replicate N 0)),iQ w TI 1 rows,aJ w TSS 1 (some ⟨w.heap.size+1,0,none⟩) n n (kL n rows),aI w w TH3 #[aA,aB,.slice (some ⟨pb,po,none⟩) n a]]from by
   have h1:=HM.lit zK 1 N gB AB bp.symm (by rw[ca.out];omega) (by simp[maxLen];omega);rw[b9.out]at h1
   exact h1)
  go_upto_region 12 with fail;rw[←bp];clear b9 ca cs HM bp;generalize c1:World.alloc _ _=w2;rw[c1]at M2;clear c1;go_wp2;go_loopw [56] (fun i wr=> ∃(k:Nat),k≤N∧i=I k∧Mem w wr [aJ w zK 1 (some ⟨gB,0,none⟩) N N (rG (List.replicate k (-1)++List.replicate (N-k) 0)),iQ w TI 1 rows,aJ w TSS 1 (some ⟨w.heap.size+1,0,none⟩) n n (kL n rows),aI w w TH3 #[aA,aB,.slice (some ⟨pb,po,none⟩) n a]]) (fun i _=>N-(intOf i).toNat)
  case atStart=>exact⟨0,aW6 _,rfl,by simpa using M2⟩
  case round=>
   clear M2;obtain⟨k,hk,rfl,hM⟩:=hrel;have HM:=hM;clear hM;by_cases hlt:k<N
   ·have i1:=aYp k;have i2:=aYq k N;have hl:(List.replicate k (-1:Int)++List.replicate (N-k) 0)[k]? =some 0:=by
     rw[aWx (by simp)];simp[aY0];omega
    have c3:wr.cell? ⟨gB,k,none⟩=some (.int .i32 0):=by have:=(HM.ow 0).cellAt k (by omega);rw[this];exact aGr hl
    have c4:wr.frozen? ⟨gB,k,none⟩=false:=(HM.ow 0).frozenAt k;clear hl;have M2:=(HM.ostore (i:=0) rfl k (.int .i32 (-1)))
    go_wp2;go_roundw
    case rel=>exact⟨k+1,by omega,by go_num,by have:=M2;rw[xM,aMr hlt]at this;exact this⟩
    case measure=>simp[intOf];omega
   obtain rfl:N=k:=by omega
   rw[aXp,show List.replicate N (-1:Int)++List.replicate 0 0=List.replicate N (-1) by simp]at HM;have i1:=aYp S;have i2:=aYq S N;have i3:IntKind.i32.wrap (S:Int)=(S:Int):=aS8 _ (by omega);have c3:wr.cell? ⟨gB,S,none⟩=some (.int .i32 (-1)):=by have:=(HM.ow 0).cellAt S (by omega);rw[this];exact aGr (by rw[aY0,if_pos c0])
   have c4:wr.frozen? ⟨gB,S,none⟩=false:=(HM.ow 0).frozenAt S;have M2:=(show Mem w (wr.setCell ⟨gB,S,none⟩ (.int .i32 (S:Int))) [aJ w zK 1 (some ⟨gB,0,none⟩) N N (rG ((List.replicate N (-1)).set S (S:Int))),iQ w TI 1 rows,aJ w TSS 1 (some ⟨w.heap.size+1,0,none⟩) n n (kL n rows),aI w w TH3 #[aA,aB,.slice (some ⟨pb,po,none⟩) n a]]from by rw[←xM];exact HM.ostore (i:=0) rfl S (.int .i32 (S:Int)))
   go_upto_region 18 with fail;clear c3 c4 HM;generalize bw:World.setCell _ _ _=w1;rw[bw]at M2;clear bw;have M3:=(M2.lit TI 1 1 w1 #[S] rfl rfl (by simp[maxLen]))
   have I1:=xQ (show SRun adj (fun v=>v/P2=0) N S 0 ((List.replicate N (-1)).set S (S:Int)) [S]from .init);clear M2;go_wp2;go_loopw [13,14] (fun v i wr=> ∃(k:Nat) (q:OA) (l lc:Nat) (B:List Int) (Q:List Nat),k≤l∧i=I k∧v= .slice q l lc∧l=Q.length∧l≤N∧SRun adj (fun v=>v/P2=0) N S k B Q∧Mem w wr [aJ w TI 1 (q) (l) lc (ivs (bO (Q))),aJ w zK 1 (some ⟨gB,0,none⟩) N N (rG (B)),iQ w TI 1 rows,aJ w TSS 1 (some ⟨w.heap.size+1,0,none⟩) n n (kL n rows),aI w w TH3 #[aA,aB,.slice (some ⟨pb,po,none⟩) n a]]) (fun _ i _=>N-(intOf i).toNat)
   case atStart=>exact⟨0,some ⟨w1,0,none⟩,1,1,_,[S],aW6 _,rfl,rfl,rfl,by omega,I1.out,M3⟩
   case round=>
    clear M3 I1;obtain⟨k,q,l,lc,B,Q,hk,rfl,rfl,cq,d3,au,hM⟩:=hrel;have HM:=hM;have aj:=xQ au;have a1:=xQ cq;have bf:=xQ (b2 k B Q au);clear hM au cq;by_cases hlt2:k<l
    ·obtain⟨u,hu⟩: ∃u,Q[k]? =some u:=⟨_,aW0 (by rw[←a1.out];exact hlt2)⟩
     have av:u<N:=bf.out.bd u (aW1 hu);have HU:=xQ hu;clear hu;obtain⟨gL,rfl,df,dg⟩:=HM.so 0;clear df dg;have i3:=aYp k;have i4:=aYq k l;have cu:wr.cell? ⟨gL,k,none⟩=some (I u):=by have:=(HM.ow 0).cellAt k (by omega);rw[this];simp[ivs,bO,HU.out]
     obtain⟨cr,bm⟩: ∃cr,cr=u/P2:=⟨_,rfl⟩
     have dw:(u:Int)/(P2:Int)=(cr:Int):=by rw[bm];simp
     have az:=xQ bm;clear bm;by_cases hc0:cr=0
     ·have t0:((cr:Int)==0)=true:=by simp[hc0]
      obtain⟨d,code,ed,dd,cf,ba,cj,ci⟩:=HG k u B Q aj HU.out (by rw[←az.out];exact hc0);have b4:=xQ (fun(w':World) (hx:Ext wr w')=>aRq n N d N gB B code ed w' hn cc dd cf ((HM.sq 1).ext hx) (hE.out.ext (HM.ext.trans hx)) (aVy (HM.hi 1) hx.sz));rw[ba,cj]at b4;have c8:=xQ ci;clear cf ba cj ci hc0;go_wp2_with fail;clear cu;refine(b4 _ (Ext.refl _)).mono ?_;rintro e w5 ⟨q5,c5,rfl,o5,ax⟩;have M5:=(HM.call ax o5)
      clear o5 ax HM;go_wp2;exact bodyPost_ret (v:= .tuple #[.slice q5 ((List.range d).map (fun i=>lH (ed i))).length c5,.bool true]) (by simp[results,results189,go_sem]) rfl (by rw[c8.out];exact⟨q5,c5,rfl,M5.ow 0,M5.ext⟩)
     have t0:((cr:Int)==0)=false:=by simp;omega
     have de:Hid (¬u/P2=0):=by show¬_;rw[←az.out];exact hc0
     clear hc0;go_wp2;clear cu;go_loopw [13,91] (fun v i wr=> ∃(f:Nat) (q:OA) (l2 lc:Nat) (B2:List Int) (Q2:List Nat),f≤n∧i=I f∧v= .slice q l2 lc∧l2=Q2.length∧(B2,Q2)=bY (u:Int) (B,Q) (kK aA n P2 u f)∧Mem w wr [aJ w TI 1 (q) (l2) lc (ivs (bO (Q2))),aJ w zK 1 (some ⟨gB,0,none⟩) N N (rG (B2)),iQ w TI 1 rows,aJ w TSS 1 (some ⟨w.heap.size+1,0,none⟩) n n (kL n rows),aI w w TH3 #[aA,aB,.slice (some ⟨pb,po,none⟩) n a]]) (fun _ i _=>n-(intOf i).toNat)
     case atStart=>exact⟨0,some ⟨gL,0,none⟩,l,lc,B,Q,aW6 _,rfl,rfl,a1.out,rfl,HM⟩
     case round=>
      clear HM;obtain⟨f,q,l2,lc,B2,Q2,hf,rfl,rfl,bb,bo,hM⟩:=hrel;have bc:SOk N B2 Q2:=by have:=SOk.expand (u:=(u:Int)) (by omega) (kK aA n P2 u f) bf (fun v hv=>ae u v av (yV hf v hv));rw[←bo]at this;exact this
      have HM:=hM;have a0:=xQ bo;have y:=xQ bb;have b0:=xQ bc;clear hM bo bb bc;by_cases hlt3:f<n
      ·obtain⟨PF,z⟩: ∃PF:Nat,PF=2 ^ f:=⟨_,rfl⟩
       have du:(2:Int) ^ f=(PF:Int):=by rw[z];simp
       have dr:PF≤2048:=by rw[z];exact aW8 (aWi (by omega) (show f≤11 by omega)) (by decide)
       have d8:IntKind.i64.wrap (PF:Int)=(PF:Int):=aW2 _ (by omega);have a2:=xQ z;have j1:=aYp f;have j2:=aYq f n;by_cases hbf:u.testBit f=true
       ·have ch:bits .and .i64 (u:Int) (PF:Int)=(PF:Int):=by rw[z];exact aN8 (by omega) (by omega) hbf
        have dt:0<PF:=by rw[z];exact aYa f
        have t1:((PF:Int)!=0)=true:=by simp;omega
        have br:Hid (kK aA n P2 u (f+1)=kK aA n P2 u f):=by show _=_;rw[vS,aVp (by rw[ah.out,uA u hlt3];exact hbf),aWr]
        clear hbf z;go_wp2;go_roundw
        case rel=>exact⟨f+1,q,l2,lc,B2,Q2,by omega,by go_num,rfl,y.out,by rw[br.out];exact a0.out,HM⟩
        case measure=>simp[intOf];omega
       have hbf:u.testBit f=false:=by simpa using hbf
       have ch:bits .and .i64 (u:Int) (PF:Int)=0:=by rw[z];exact aT0 (by omega) (by omega) hbf
       have ak:(u%P2).testBit f=false:=by rw[ah.out,uA u hlt3];exact hbf
       have c6:=xQ hbf;have a7:=xQ ak;obtain⟨⟨rq,rn,rc,ea⟩,ag⟩: ∃r,rows[f]? =some r:=⟨_,aW0 (by rw[a8.out.1];exact hlt3)⟩
       obtain⟨bs,bu⟩:=a8.out.2 f _ ag;dsimp only at bs bu;have bg:=xQ ag;obtain⟨nb,p⟩: ∃nb,nb=aU aA n f:=⟨_,rfl⟩
       rw[←p]at bs bu;have dl:nb.length≤n:=by rw[p];exact aW8 (aXc _ _) (by simp)
       have ai:=xQ p;subst bs bu;have dc:wr.cell? ⟨w.heap.size+1,f,none⟩=some (.slice rq nb rc):=by have h7:=(HM.ow 3).cellAt f (by omega);rw[h7];exact aP9 ag
       have br:Hid (kK aA n P2 u (f+1)=kK aA n P2 u f++kZ aA n P2 u f nb.length):=by show _=_;rw[vS,aSk ak,p]
       clear hbf ak z ag p;go_wp2;clear dc;go_loopw [13,104] (fun v i wr=> ∃(j:Nat) (q:OA) (l3 lc:Nat) (B3:List Int) (Q3:List Nat),j≤nb.length∧i=I j∧v= .slice q l3 lc∧l3=Q3.length∧(B3,Q3)=bY (u:Int) (B,Q) (kK aA n P2 u f++kZ aA n P2 u f j)∧Mem w wr [aJ w TI 1 (q) (l3) lc (ivs (bO (Q3))),aJ w zK 1 (some ⟨gB,0,none⟩) N N (rG (B3)),iQ w TI 1 rows,aJ w TSS 1 (some ⟨w.heap.size+1,0,none⟩) n n (kL n rows),aI w w TH3 #[aA,aB,.slice (some ⟨pb,po,none⟩) n a]]) (fun _ i _=>nb.length-(intOf i).toNat)
       case atStart=>exact⟨0,q,l2,lc,B2,Q2,aW6 _,rfl,rfl,y.out,by rw[aKz,aWr];exact a0.out,HM⟩
       case round=>
        clear HM;obtain⟨j,q,l3,lc,B3,Q3,hj,rfl,rfl,an,am,hM⟩:=hrel;have ao:SOk N B3 Q3:=by
         have:=SOk.expand (u:=(u:Int)) (by omega) (kK aA n P2 u f++kZ aA n P2 u f j) bf (fun v hv=>by
          rcases aWh.1 hv with hv|hv
          ·exact ae u v av (yV hf v hv)
          ·exact ae u v av (aEb hlt3 a7 v hv))
         rw[←am]at this;exact this
        have HM:=hM;have b:=xQ am;have o:=xQ an;have b1:=xQ ao;have d2:l3≤N:=by rw[an];exact ao.qlen
        clear hM am an ao;by_cases hlt4:j<nb.length
        ·obtain⟨t,a6⟩: ∃t,nb[j]? =some t:=⟨_,aW0 hlt4⟩
         have bv:t<n:=(cH.1 (by rw[←ai.out];exact aW1 a6:t∈aU aA n f)).1;have be:(aU aA n f)[j]? =some t:=by rw[←ai.out];exact a6
         have aq:wr.ownsRow w TI 1 (.slice rq nb rc) nb.length (ivs (bO nb)):=HM.ok (iQ w TI 1 rows) (by simp) _ (aW1 bg.out);obtain⟨gR,di⟩: ∃gR,rq=some ⟨gR,0,none⟩:=by
          rcases aq.2 with⟨_,h3⟩|⟨g,_,_,h3,_⟩
          ·omega
          injection h3 with h3;exact⟨g,h3⟩
         subst di;have ct:wr.cell? ⟨gR,j,none⟩=some (I t):=by have:=aq.cellAt j (by omega);rw[this];simp[ivs,bO,a6]
         have b3:=xQ be;clear a6 be aq;obtain⟨PT,aa⟩: ∃PT:Nat,PT=2 ^ t:=⟨_,rfl⟩
         have dx:(2:Int) ^ t=(PT:Int):=by rw[aa];simp
         have ds:PT≤2048:=by rw[aa];exact aW8 (aWi (by omega) (show t≤11 by omega)) (by decide)
         have d9:IntKind.i64.wrap (PT:Int)=(PT:Int):=aW2 _ (by omega);have m1:=aYp j;have m2:(j:Int)<(nb.length:Int):=by omega
         by_cases hbt:u.testBit t=true
         ·have a9:(u%P2).testBit t=true:=by rw[ah.out,uA u bv];exact hbt
          have bj:bits .and .i64 (u:Int) (PT:Int)=(PT:Int):=by rw[aa];exact aN8 (by omega) (by omega) hbt
          have dp:0<PT:=by rw[aa];exact aYa t
          have t2:((PT:Int)==0)=false:=by simp;omega
          have ab:=aOb b3 a9;have bq:jJ P2 (u/P2) (u%P2) f t<N:=ae u _ av (aEb (j:=j+1) hlt3 a7 _ (by rw[ab];simp));have cw:=aTq (u:=u) (f:=f) (t:=t) hn (by rw[←cd.out];exact av) hlt3 bv c6 hbt (by rw[←cd.out,←ah.out];exact bq);rw[←ah.out,←a2.out,←aa]at cw;generalize jJ P2 (u/P2) (u%P2) f t=nx at*;have ap:kK aA n P2 u f++kZ aA n P2 u f (j+1)=(kK aA n P2 u f++kZ aA n P2 u f j)++ [nx]:=by rw[ab,aWu]
          have af:=xQ ap;clear ab ap hbt a9 aa;generalize u ^^^ 2 ^ f=X1 at*;generalize dP u f t=mv at*;generalize ((t:Int)-(f:Int))*(P2:Int)=D at*;obtain⟨x1,x2,x3,x4,x5⟩:=cw;have c9:=xQ x3;have b5:=xQ x4;have dy:=aYs ((t:Int)-(f:Int));clear x3 x4;obtain⟨bn,bl⟩: ∃bn,bn=B3.getD nx 0:=⟨_,rfl⟩
          have al:=eE (D:=B3) (v:=nx) (by rw[b1.out.len];exact bq);rw[←bl]at al;have cn:wr.cell? ⟨gB,nx,none⟩=some (.int .i32 bn):=by have:=(HM.ow 1).cellAt nx (by omega);rw[this];exact aGr al.1
          have b6:wr.frozen? ⟨gB,nx,none⟩=false:=(HM.ow 1).frozenAt nx;have ay:=xQ bl;clear bl al;have m5:=aYp nx;have m6:=aYq nx N;have dz:IntKind.i32.wrap (u:Int)=(u:Int):=aS8 _ (by omega);by_cases hfc:f=cr
          ·have t3:((f:Int)==(cr:Int))=true:=by simp[hfc]
           have x4:IntKind.i64.wrap ((mv:Int)+D)=(nx:Int):=b5 (hfc.trans az.out);clear hfc;by_cases hneg:bn<0
           ·have t4:decide (bn<0)=true:=by simp[hneg]
            have m:Hid ((B3.set nx (u:Int),Q3++ [nx])=bY (u:Int) (B,Q) (kK aA n P2 u f++kZ aA n P2 u f (j+1))):=by show _=_;rw[af.out,eT,←b.out,nT (by rw[←ay.out];exact hneg)]
            have M6:=(show Mem w (wr.setCell ⟨gB,nx,none⟩ (.int .i32 (u:Int))).drew [aJ w TI 1 (q) (l3) lc (ivs (bO (Q3))),aJ w zK 1 (some ⟨gB,0,none⟩) N N (rG (B3.set nx (u:Int))),iQ w TI 1 rows,aJ w TSS 1 (some ⟨w.heap.size+1,0,none⟩) n n (kL n rows),aI w w TH3 #[aA,aB,.slice (some ⟨pb,po,none⟩) n a]]from by rw[←xM];exact(HM.ostore (i:=1) rfl nx (.int .i32 (u:Int))).adv (Ext.drew (Ext.refl _)))
            clear hneg b HM;go_upto_region 34 with fail;go_region;go_upto_region 39 with fail;clear ct cn b6;generalize aw:World.setCell _ _ _=w4;rw[aw]at M6;clear aw;go_wp2_with (at_builtin;go_loud (refine dN iA rfl _ _ rfl (M6.adv ((Ext.refl _).alloc (.cells #[nx] TI))) 0 rfl rfl (ivs [(nx:Int)]) rfl ((fC w4 #[nx] TI 1 1 _ rfl rfl (by simp[maxLen])).ext (Ext.drew (Ext.refl _))) (fun u hu=>by obtain rfl:=aWq.1 hu;rfl) (by omega) ?_;intro q7 c7 w6 M7));have M8:=(show Mem w w6 [aJ w TI 1 (q7) (l3+1) c7 (ivs (bO (Q3++ [nx]))),aJ w zK 1 (some ⟨gB,0,none⟩) N N (rG (B3.set nx (u:Int))),iQ w TI 1 rows,aJ w TSS 1 (some ⟨w.heap.size+1,0,none⟩) n n (kL n rows),aI w w TH3 #[aA,aB,.slice (some ⟨pb,po,none⟩) n a]]from by rw[show ivs (bO (Q3++ [nx]))=ivs (bO Q3)++ivs [(nx:Int)] by simp[ivs,bO]];exact M7)
            clear M7 M6;go_wp2;go_roundw
            case rel=>exact⟨j+1,q7,l3+1,c7,B3.set nx (u:Int),Q3++ [nx],by omega,by go_num,rfl,by simp[o.out],m.out,M8⟩
            case measure=>simp[intOf];omega
           have t4:=aYu (bn<0);have m:Hid ((B3,Q3)=bY (u:Int) (B,Q) (kK aA n P2 u f++kZ aA n P2 u f (j+1))):=by show _=_;rw[af.out,eT,←b.out,pV (by rw[←ay.out];exact hneg)]
           clear hneg b;go_upto_region 34 with fail;go_region;go_wp2;go_roundw
           case rel=>exact⟨j+1,q,l3,lc,B3,Q3,by omega,by go_num,rfl,o.out,m.out,HM.adv xE⟩
           case measure=>simp[intOf];omega
          have t3:((f:Int)==(cr:Int))=false:=by simp;omega
          have dk:nx=mv:=(c9 (fun e=>hfc (e.trans az.out.symm))).symm;subst dk;clear hfc;by_cases hneg:bn<0
          ·have t4:decide (bn<0)=true:=by simp[hneg]
           have m:Hid ((B3.set nx (u:Int),Q3++ [nx])=bY (u:Int) (B,Q) (kK aA n P2 u f++kZ aA n P2 u f (j+1))):=by show _=_;rw[af.out,eT,←b.out,nT (by rw[←ay.out];exact hneg)]
           have M6:=(show Mem w (wr.setCell ⟨gB,nx,none⟩ (.int .i32 (u:Int))).drew [aJ w TI 1 (q) (l3) lc (ivs (bO (Q3))),aJ w zK 1 (some ⟨gB,0,none⟩) N N (rG (B3.set nx (u:Int))),iQ w TI 1 rows,aJ w TSS 1 (some ⟨w.heap.size+1,0,none⟩) n n (kL n rows),aI w w TH3 #[aA,aB,.slice (some ⟨pb,po,none⟩) n a]]from by rw[←xM];exact(HM.ostore (i:=1) rfl nx (.int .i32 (u:Int))).adv (Ext.drew (Ext.refl _)))
           clear hneg b HM;go_upto_region 34 with fail;go_region;go_upto_region 39 with fail;clear ct cn b6;generalize aw:World.setCell _ _ _=w4;rw[aw]at M6;clear aw;go_wp2_with (at_builtin;go_loud (refine dN iA rfl _ _ rfl (M6.adv ((Ext.refl _).alloc (.cells #[nx] TI))) 0 rfl rfl (ivs [(nx:Int)]) rfl ((fC w4 #[nx] TI 1 1 _ rfl rfl (by simp[maxLen])).ext (Ext.drew (Ext.refl _))) (fun u hu=>by obtain rfl:=aWq.1 hu;rfl) (by omega) ?_;intro q7 c7 w6 M7));have M8:=(show Mem w w6 [aJ w TI 1 (q7) (l3+1) c7 (ivs (bO (Q3++ [nx]))),aJ w zK 1 (some ⟨gB,0,none⟩) N N (rG (B3.set nx (u:Int))),iQ w TI 1 rows,aJ w TSS 1 (some ⟨w.heap.size+1,0,none⟩) n n (kL n rows),aI w w TH3 #[aA,aB,.slice (some ⟨pb,po,none⟩) n a]]from by rw[show ivs (bO (Q3++ [nx]))=ivs (bO Q3)++ivs [(nx:Int)] by simp[ivs,bO]];exact M7)
           clear M7 M6;go_wp2;go_roundw
           case rel=>exact⟨j+1,q7,l3+1,c7,B3.set nx (u:Int),Q3++ [nx],by omega,by go_num,rfl,by simp[o.out],m.out,M8⟩
           case measure=>simp[intOf];omega
          have t4:=aYu (bn<0);have m:Hid ((B3,Q3)=bY (u:Int) (B,Q) (kK aA n P2 u f++kZ aA n P2 u f (j+1))):=by show _=_;rw[af.out,eT,←b.out,pV (by rw[←ay.out];exact hneg)]
          clear hneg b;go_upto_region 34 with fail;go_region;go_wp2;go_roundw
          case rel=>exact⟨j+1,q,l3,lc,B3,Q3,by omega,by go_num,rfl,o.out,m.out,HM.adv xE⟩
          case measure=>simp[intOf];omega
         have hbt:u.testBit t=false:=by simpa using hbt
         have bj:bits .and .i64 (u:Int) (PT:Int)=0:=by rw[aa];exact aT0 (by omega) (by omega) hbt
         have ab:=xQ (aR8 b3 (show(u%P2).testBit t=false by rw[ah.out,uA u bv];exact hbt));clear hbt aa;go_wp2;go_roundw
         case rel=>exact⟨j+1,q,l3,lc,B3,Q3,by omega,by go_num,rfl,o.out,by rw[ab.out];exact b.out,HM⟩
         case measure=>simp[intOf];omega
        obtain rfl:nb.length=j:=by omega
        go_wp2;go_roundw
        case rel=>exact⟨f+1,q,l3,lc,B3,Q3,by omega,by go_num,rfl,o.out,by rw[br.out];exact b.out,HM⟩
        case measure=>simp[intOf];omega
      obtain rfl:n=f:=by omega
      have bt:Hid (SRun adj (fun v=>v/P2=0) N S (k+1) B2 Q2):=by show SRun _ _ _ _ _ _ _;have h7:=SRun.step aj HU.out de.out;have h8:=a0.out;rw[aEc,←(show adj u=rQ aA n P2 u by rw[cg.out])]at h8;rw[←h8]at h7;exact h7
      have cm:l2≤N:=by rw[y.out];exact b0.out.qlen
      have cl:k+1≤l2:=by have h8:=a0.out;obtain⟨r,h9,_⟩:=tD (u:Int) (kK aA n P2 u n) B Q;rw[←h8]at h9;dsimp only at h9;rw[y.out,h9,aW5];have:=a1.out;omega
      go_wp2;go_roundw
      case rel=>exact⟨k+1,q,l2,lc,B2,Q2,cl,by go_num,rfl,y.out,cm,bt.out,HM⟩
      case measure=>simp[intOf];omega
    have ck:=xQ (bz k B Q aj (by rw[←a1.out];omega));have hX:=xQ HM.ext;clear HM;go_wp2;exact bodyPost_ret (v:= .tuple #[((),()),.bool false]) (by simp[results,results189,go_sem]) rfl (by rw[ck.out];exact⟨_,rfl,hX.out⟩)
theorem aOv (f t:Int)(xs:List Int)(w:World)(n:4≤xs.length)(hn:xs.length≤12)(HV:xB 34 #[aH aA aB p xs.length a] w true)(HK:Hid (∀w',Ext w w'→U 70 #[aH aA aB p xs.length a] w' (eA aA aB xs w')))(HM:xB 117 #[aH aA aB p xs.length a,eV f t] w false):
  U 75 #[aH aA aB p xs.length a,eV f t] w (dL aA aB xs false w):=by
 go_enter func75,ntmps75;go_wp2_with fail;refine Ω (HV _ (Mem.b3t w).ext) fun w1 i=>?_
 have M1:=((Mem.b3t w).adv i)
 clear i;have h_:=(M1.bk 2).tri;go_wp2_with fail;clear h_;refine(HK _ M1.ext).mono ?_;rintro e w2 ⟨q,c2,rfl,d,j⟩;have M2:=(M1.call j d)
 clear M1 j d;have b:=M2.hi 2;have c:=M2.hi 3;obtain⟨g,rfl,l,m⟩:=M2.so 0;have h_:=(M2.bk 3).tri;have s0:=(M2.bk 2).cl 0;have s1:=(M2.bk 2).cl 1;go_wp2_with fail;clear h_ s0 s1;refine Ω (HM _ (M2.c0 TH3 #[aA,aB,.slice (some ⟨g,0,none⟩) xs c2]).ext) fun w3 k=>?_
 have M3:=((M2.c0 TH3 #[aA,aB,.slice (some ⟨g,0,none⟩) xs c2]).adv k)
 clear M2 b c k;have v_:=(M3.bk 0).tri;have z_:=(M3.bk 2).trif;go_wp2;have M4:=((M3.st 2 0 (I aA)).st 2 1 (I aB))
 have M5:=(M4.st 2 2 (.slice (some ⟨g,0,none⟩) xs c2))
 have M6:=(show Mem w (((w3.setCell ⟨w.heap.size+2,0,none⟩ (I aA)).setCell ⟨w.heap.size+2,1,none⟩ (I aB)).setCell ⟨w.heap.size+2,2,none⟩ (.slice (some ⟨g,0,none⟩) xs c2)) [aI w w2 TH3 #[aA,aB,.slice (some ⟨g,0,none⟩) xs c2],aJ w TI 1 (some ⟨g,0,none⟩) (xs.length) (c2) (ivs xs),aI w (w.heap.size+2) TH3 #[aA,aB,.slice (some ⟨g,0,none⟩) xs c2],aI w (w.heap.size+1) TSL #[f,t],aI w w TH3 #[aA,aB,.slice p xs a]]from M5)
 generalize h:World.setCell _ _ _=wz;rw[h]at M6;clear h M3 M4 M5 v_ z_;have y_:=(M6.bk 2).tri;exact aYw (v:= .tuple #[.agg #[aA,aB,.slice (some ⟨g,0,none⟩) xs c2],.bool false]) (fL (by simp) (by exact(M6.ow 1)) M6.ext)
theorem aLh (i j b a:Nat)(x yj:Int)(xs:List Int)(w:World)(ai:4≤xs.length)(hn:xs.length≤12)(hi:i<xs.length)(hj:j<xs.length)(ad:i≠j)(HX:Hid (xs[i]? =some x))(HY:Hid (xs[j]? =some yj))(hb:b<w.heap.size)(z:Hid (w.cell? ⟨b,a+i,none⟩=some (I x)))(HV:xB 34 #[aH aA aB (some ⟨b,a,none⟩) xs.length c] w true)(HK:Hid (∀w',Ext w w'→U 70 #[aH aA aB (some ⟨b,a,none⟩) xs.length c] w' (eA aA aB xs w')))(HM:xB 117 #[aH aA aB (some ⟨b,a,none⟩) xs.length c,eV (i:Int) (j:Int)] w true):
  U 75 #[aH aA aB (some ⟨b,a,none⟩) xs.length c,eV (i:Int) (j:Int)] w (dL aA aB ((xs.set j x).set i 0) true w):=by
 have a1:=aYp i;have a2:=aYp j;have a3:(i:Int)<(xs.length:Int):=by omega
 have a4:(j:Int)<(xs.length:Int):=by omega
 go_enter func75,ntmps75;go_wp2_with fail;refine Ω (HV _ (Mem.b3t w).ext) fun w1 t=>?_
 have M1:=((Mem.b3t w).adv t)
 clear t;have h_:=(M1.bk 2).tri;go_wp2_with fail;clear h_;refine(HK _ M1.ext).mono ?_;rintro e w2 ⟨q,c2,rfl,p,u⟩;have M2:=(M1.call u p)
 clear M1 u p;have m:=M2.hi 2;have n:=M2.hi 3;obtain⟨g,rfl,ag,ah⟩:=M2.so 0;have h_:=(M2.bk 3).tri;have s0:=(M2.bk 2).cl 0;have s1:=(M2.bk 2).cl 1;go_wp2_with fail;clear h_ s0 s1;refine Ω (HM _ (M2.c0 TH3 #[aA,aB,.slice (some ⟨g,0,none⟩) xs c2]).ext) fun w3 y=>?_
 have M3:=((M2.c0 TH3 #[aA,aB,.slice (some ⟨g,0,none⟩) xs c2]).adv y)
 clear M2 m n y;have v_:=(M3.bk 0).tri;have h_:=(M3.bk 4).tri;have s0:=(M3.bk 3).cl 0;have s1:=(M3.bk 3).cl 1;have cx:w3.cell? ⟨b,a+i,none⟩=some (I x):=(M3.ext.cells.1 _ _ hb).trans z.out;have gj:w3.cell? ⟨g,j,none⟩=some (I yj):=by have:=(M3.ow 1).cellAt j (by omega);rw[this];simpa[ivs]using HY.out
 have gi:w3.cell? ⟨g,i,none⟩=some (I x):=by have:=(M3.ow 1).cellAt i (by omega);rw[this];simpa[ivs]using HX.out
 have ab:w3.frozen? ⟨g,j,none⟩=false:=(M3.ow 1).frozenAt j;have aa:w3.frozen? ⟨g,i,none⟩=false:=(M3.ow 1).frozenAt i;obtain⟨f,h⟩:=M3.nq 0 1;have k: ¬(g=w.heap.size):=M3.ne (i:=1) (j:=4) (by omega) rfl rfl rfl rfl;have l: ¬(g=w.heap.size+1):=M3.ne (i:=1) (j:=3) (by omega) rfl rfl rfl rfl;have ae: ¬(g=b):=by have:=M3.ext.sz;omega
 have af: ¬(j=i):=fun e=>ad e.symm
 go_wp2;go_region_held3 (fun w'=>w'.cell? ⟨w2,2,none⟩=some (.slice (some ⟨g,0,none⟩) xs c2)∧w'.cell? ⟨w,2,none⟩=some (.slice (some ⟨b,a,none⟩) xs c)∧w'.cell? ⟨w.heap.size+1,0,none⟩=some (I i)∧w'.cell? ⟨w.heap.size+1,1,none⟩=some (I j)∧w'.cell? ⟨b,a+i,none⟩=some (I x)) (first|(refine⟨?_,?_,?_,?_,?_⟩<;>assumption)|go_keep) (first|fail);clear v_ h_ s0 s1 f h k l cx gj gi ab aa ae af;have MX:=(show Mem w ((w3.setCell ⟨g,j,none⟩ (I x)).setCell ⟨g,i,none⟩ (I 0)) [aI w w2 TH3 #[aA,aB,.slice (some ⟨g,0,none⟩) xs c2],aJ w TI 1 (some ⟨g,0,none⟩) (xs.length) (c2) (ivs ((xs.set j x).set i 0)),aI w (w.heap.size+2) TH3 #[(),(),((),())],aI w (w.heap.size+1) TSL #[i,j],aI w w TH3 #[aA,aB,.slice (some ⟨b,a,none⟩) xs c]]from by rw[←eW,←eW];exact(M3.ostore (i:=1) rfl j (I x)).ostore (i:=1) rfl i (I 0))
 have MY:=(MX.adv (Ext.drew (Ext.refl _)))
 generalize r:World.drew _=w4;rw[r]at MY;clear r MX M3;have v_:=(MY.bk 0).tri;have z_:=(MY.bk 2).trif;go_wp2;have M9:=((MY.st 2 0 (I aA)).st 2 1 (I aB))
 have o:=(M9.st 2 2 (.slice (some ⟨g,0,none⟩) xs c2))
 have d:=(show Mem w (((w4.setCell ⟨w.heap.size+2,0,none⟩ (I aA)).setCell ⟨w.heap.size+2,1,none⟩ (I aB)).setCell ⟨w.heap.size+2,2,none⟩ (.slice (some ⟨g,0,none⟩) xs c2)) [aI w w2 TH3 #[aA,aB,.slice (some ⟨g,0,none⟩) xs c2],aJ w TI 1 (some ⟨g,0,none⟩) (xs.length) (c2) (ivs ((xs.set j x).set i 0)),aI w (w.heap.size+2) TH3 #[aA,aB,.slice (some ⟨g,0,none⟩) xs c2],aI w (w.heap.size+1) TSL #[i,j],aI w w TH3 #[aA,aB,.slice (some ⟨b,a,none⟩) xs c]]from o)
 generalize s:World.setCell _ _ _=wz;rw[s]at d;clear s MY M9 o v_ z_;have y_:=(d.bk 2).tri;exact aYw (v:= .tuple #[.agg #[aA,aB,.slice (some ⟨g,0,none⟩) xs c2],.bool true]) (fL (by simp) (by exact(d.ow 1)) d.ext)
theorem aEn (f t:Int)(p:OA)(n a:Nat)(xs:List Int)(w:World)(hS:Sl w p n a 1 (ivs xs))(c:aO aA aB xs=true):
  U 75 #[aH aA aB p n a,eV f t] w (dL aA aB (bQ aA aB xs f t) (bM aA aB xs f t) w):=by
 have hl:=hS.ilen;subst hl;obtain⟨g1,g2,g3,g4,g5,g6,g7,g8,g9⟩:=bS c;have HV:=fun(w':World) (hx:Ext w w')=>iK aA aB p xs.length a xs w' (hS.ext hx)
 rw[c]at HV;have HK:=fun(w':World) (hx:Ext w w')=>oI aA aB p xs.length a xs w' (by omega) (hS.ext hx)
 have HM:=fun(w':World) (hx:Ext w w')=>aV1 aA aB f t p xs.length a xs w' (hS.ext hx) c
 unfold bQ;cases h:bM aA aB xs f t with
 |false=>rw[h]at HM;exact aOv aA aB p a f t xs w g5 g6 HV HK HM
 |true=>
  rw[h]at HM;obtain⟨k1,k2,k3,k4,k5,k6,k7,k8,k9⟩:=oD h;obtain⟨i,rfl⟩: ∃i:Nat,f=(i:Int):=⟨f.toNat,by omega⟩
  obtain⟨j,rfl⟩: ∃j:Nat,t=(j:Int):=⟨t.toNat,by omega⟩
  obtain⟨b,e,rfl,hb,g⟩:=hS.rd (by omega);have d:xs[i]? =some (xs.getD i 0):=by rw[aW7,aW0 (by omega)];rfl
  have k:xs[j]? =some (xs.getD j 0):=by rw[aW7,aW0 (by omega)];rfl
  rw[if_pos rfl,aXo,aXo];exact aLh aA aB a i j b e _ _ xs w g5 g6 (by omega) (by omega) (by omega) d k hb (xQ (show w.cell? ⟨b,e+i,none⟩=some (I (xs.getD i 0)) by rw[g i (by omega)];simp only[ivs,aWp,d,aX2])) HV HK HM
theorem aRz (b d m c2 u:Nat)(s ws:List Nat)(w:World)(c9:4≤n)(hn:n≤12)(c8:0<m)(hm:m≤12)(bx:Hid (ws=u::s))(aj:Hid (ws.length=m))(hb:b<w.heap.size)(co:pb<w.heap.size)(cn:Hid (aO aA aB xs=true))(an:Hid (xs.length=n))(hu:u<n)(cq:Hid (xs.getD u 0=0))(cp:Hid (qO aA n u s))(HS:Hid (∀(k x:Nat),ws[k]? =some x→w.cell? ⟨b,d+k,none⟩=some (I x)))(be:w.cell? ⟨b,d,none⟩=some (I u))(b6:w.cell? ⟨pb,po+u,none⟩=some (I 0))(HV:xB 34 #[aH aA aB (some ⟨pb,po,none⟩) n c] w true)(HH:Hid (∀w',U 157 #[aH aA aB (some ⟨pb,po,none⟩) n c,u] w' (Z (.bool true) w')))(bw:Hid (∀(k x y:Nat),1≤k→ws[k-1]? =some x→ws[k]? =some y→ ∀w',Ext w w'→U 209 #[aH aA aB (some ⟨pb,po,none⟩) n c,x,y] w' (Z (I 1) w')))(HK:Hid (∀w',Ext w w'→U 70 #[aH aA aB (some ⟨pb,po,none⟩) n c] w' (eA aA aB xs w'))):
  U 185 #[aH aA aB (some ⟨pb,po,none⟩) n c,.slice (some ⟨b,d,none⟩) m c2] w (iO (cT xs u s).2 w):=by
 have j1:=aYp u;have j2:=aYq u n;have j4:((m:Int)==0)=false:=by first|(simp;done)|(simp;omega)
 go_enter func185,ntmps185;have ME:=((Mem.start w).c0 TH3 #[aA,aB,.slice (some ⟨pb,po,none⟩) n c])
 go_wp2;refine rL (gl [gEq (.agg #[aA,aB,.slice (some ⟨pb,po,none⟩) n c]),gEq (.bool true),gEq (.bool false),gEq (.bool false),gEq (.slice (some ⟨b,d,none⟩) m c2),gEq (m:Int),gEq (.bool false),gEq (.bool false),gEq (.bool false),gEq (.agg #[aA,aB,.slice (some ⟨pb,po,none⟩) n c]),gEq (.slice (some ⟨b,d,none⟩) m c2),gEq (.pointer (some ⟨b,d,none⟩)),gEq (u:Int),gEq (.bool true),gEq (.bool false),gEq (.bool false),gEq (.bool false),gEq (.pointer (some ⟨w,2,none⟩)),gEq (.slice (some ⟨pb,po,none⟩) n c),gEq (.slice (some ⟨b,d,none⟩) m c2),gEq (.pointer (some ⟨b,d,none⟩)),gEq (u:Int),gEq (.pointer (some ⟨pb,po+u,none⟩)),gEq (I 0),gEq (.bool false),gEq (.bool false)]) 26 26 [(0,some 9),(1,some 10),(2,some 11),(3,some 12),(4,some 13),(5,some 14),(6,some 15),(7,some 16),(8,some 17),(9,some 18),(10,some 19),(11,some 20),(12,some 21),(13,some 22),(14,some 23),(15,some 24),(16,some 25),(17,some 26),(18,some 27),(19,some 28),(20,some 29),(21,some 30),(22,some 31),(23,some 32),(24,some 33),(25,some 34)] ?steps ?fin
 case steps=>
  refine sC [] rfl (fun wi hx=> ?_) ?_
  ·intro K hK;have hX:Ext (w.alloc (.cells #[aA,aB,.slice (some ⟨pb,po,none⟩) n c] TH3)) wi:=xE;obtain⟨f,bc,bd⟩:=((ME.bk 0).ext hX).tri;go_simp;exact hK _ _ ⟨.agg #[aA,aB,.slice (some ⟨pb,po,none⟩) n c],rfl,rfl,Ext.refl _⟩
  refine sC [(0,some 9)] rfl (fun wi hx=> ?_) ?_
  ·intro v0 h0 K hK;obtain rfl:=h0;have hX:Ext w wi:=xE;go_wp2_with fail;refine Ω (HV _ hX) fun w5 ag=>?_
   go_simp;exact hK _ _ ⟨.bool true,rfl,rfl,ag⟩
  refine sS1 [(1,some 10)] (sS1 [(2,some 11)] (sS1 [(3,some 12)] (sS2 [(3,some 12),(4,some 13)] (sS2 [(3,some 12),(5,some 14)] (sS2 [(3,some 12),(6,some 15)] (sS1 [(7,some 16)] ?_))))));refine sC [(8,some 17)] rfl (fun wi hx=> ?_) ?_
  ·intro v8 h8 K hK;obtain rfl:=h8;have hX:Ext (w.alloc (.cells #[aA,aB,.slice (some ⟨pb,po,none⟩) n c] TH3)) wi:=xE;obtain⟨f,bc,bd⟩:=((ME.bk 0).ext hX).tri;go_simp;exact hK _ _ ⟨.agg #[aA,aB,.slice (some ⟨pb,po,none⟩) n c],rfl,rfl,Ext.refl _⟩
  refine sS1 [(8,some 17)] (sS2 [(8,some 17),(10,some 19)] ?_);refine sC [(8,some 17),(11,some 20)] rfl (fun wi hx=> ?_) ?_
  ·intro v8 h8 bu aa K hK;obtain rfl:=h8;obtain rfl:=aa;have hX:Ext (w.alloc (.cells #[aA,aB,.slice (some ⟨pb,po,none⟩) n c] TH3)) wi:=xE;have f:wi.cell? ⟨b,d,none⟩=some (I u):=(ME.ext.trans hX).cells.1 _ _ hb |>.trans be;go_simp;exact hK _ _ ⟨I u,rfl,rfl,Ext.refl _⟩
  refine sC [(8,some 17),(9,some 18),(12,some 21)] rfl (fun wi hx=> ?_) ?_
  ·intro v8 h8 v9 h9 cz ax K hK;subst h8 h9;obtain rfl:=ax;have hX:Ext w wi:=xE;go_wp2_with fail;refine Ω (HH _) fun w5 ag=>?_
   go_simp;exact hK _ _ ⟨.bool true,rfl,rfl,ag⟩
  refine sS2 [(8,some 17),(13,some 22)] (sS2 [(8,some 17),(14,some 23)] (sS1 [(15,some 24)] (sS1 [(16,some 25)] ?_)));refine sC [(16,some 25),(17,some 26)] rfl (fun wi hx=> ?_) ?_
  ·intro a7 p c1 ay K hK;obtain rfl:=p;obtain rfl:=ay;have hX:Ext (w.alloc (.cells #[aA,aB,.slice (some ⟨pb,po,none⟩) n c] TH3)) wi:=xE;have f:=((ME.bk 0).ext hX).cl 2;go_simp;exact hK _ _ ⟨.slice (some ⟨pb,po,none⟩) n c,rfl,rfl,Ext.refl _⟩
  refine sS1 [(16,some 25)] (sS2 [(16,some 25),(19,some 28)] ?_);refine sC [(16,some 25),(20,some 29)] rfl (fun wi hx=> ?_) ?_
  ·intro a7 p c3 az K hK;obtain rfl:=p;obtain rfl:=az;have hX:Ext (w.alloc (.cells #[aA,aB,.slice (some ⟨pb,po,none⟩) n c] TH3)) wi:=xE;have f:wi.cell? ⟨b,d,none⟩=some (I u):=(ME.ext.trans hX).cells.1 _ _ hb |>.trans be;go_simp;exact hK _ _ ⟨I u,rfl,rfl,Ext.refl _⟩
  refine sS3 [(16,some 25),(18,some 27),(21,some 30)] ?_;refine sC [(16,some 25),(22,some 31)] rfl (fun wi hx=> ?_) ?_
  ·intro a7 p c4 a0 K hK;obtain rfl:=p;obtain rfl:=a0;have hX:Ext (w.alloc (.cells #[aA,aB,.slice (some ⟨pb,po,none⟩) n c] TH3)) wi:=xE;have f:wi.cell? ⟨pb,po+u,none⟩=some (I 0):=(ME.ext.trans hX).cells.1 _ _ co |>.trans b6;go_simp;exact hK _ _ ⟨I 0,rfl,rfl,Ext.refl _⟩
  exact sS2 [(16,some 25),(23,some 32)] (sS2 [(16,some 25),(24,some 33)] StepsL.nil)
 case fin=>
  intro wi hx v0 h0 v1 h1 v2 h2 v3 h3 v4 h4 v5 h5 v6 h6 v7 h7 v8 h8 v9 h9 cw aw bu aa cz ax dc b7 dd b8 de b9 a7 p c1 ay df cc dg cd c3 az dh ce c4 a0 di cf dj cg dk ch;subst h0 h1 h2 h3 h4 h5 h6 h7 h8 h9;obtain rfl:=aw;obtain rfl:=aa;obtain rfl:=ax;obtain rfl:=b7;obtain rfl:=b8;obtain rfl:=b9;obtain rfl:=p;obtain rfl:=ay;obtain rfl:=cc;obtain rfl:=cd;obtain rfl:=az;obtain rfl:=ce;obtain rfl:=a0;obtain rfl:=cf;obtain rfl:=cg;obtain rfl:=ch;have hX:Ext (w.alloc (.cells #[aA,aB,.slice (some ⟨pb,po,none⟩) n c] TH3)) wi:=hx.of_drew;have M1:=(ME.adv hX)
  clear ME hX hx;refine wpAny_done (by kernel_rfl) ?_ _;try go_frame
  go_wp2;go_loopw [5] (fun i wr=> ∃(k:Nat),1≤k∧k≤m∧i=I k∧Mem w wr [aI w w TH3 #[aA,aB,.slice (some ⟨pb,po,none⟩) n c]]) (fun i _=>m-(intOf i).toNat)
  case atStart=>exact⟨1,aVz _,by omega,rfl,M1⟩
  case round=>
   clear M1;obtain⟨k,bj,hk,rfl,hM⟩:=hrel;have HM:=hM;clear hM;by_cases hlt:k<m
   ·obtain⟨x,hx⟩: ∃x,ws[k-1]? =some x:=⟨_,aW0 (by rw[aj.out];omega)⟩
    obtain⟨y,hy⟩: ∃y,ws[k]? =some y:=⟨_,aW0 (by rw[aj.out];omega)⟩
    have ca:wr.cell? ⟨b,d+(k-1),none⟩=some (I x):=(HM.ext.cells.1 _ _ hb).trans (HS (k-1) x hx);have cb:wr.cell? ⟨b,d+k,none⟩=some (I y):=(HM.ext.cells.1 _ _ hb).trans (HS k y hy);have ab:b<wr:=aVy hb HM.ext.sz;have a8:=xQ (bw k x y bj hx hy);clear hx hy;have i1:=aYp k;have i2:=aYq k m;have i3:(k:Int)-1<(m:Int):=by omega
    have i4:((k:Int)-1).toNat=k-1:=by omega
    have i5:(1:Int)≤(k:Int):=by omega
    go_wp2;refine rL (gl [gEq (.agg #[aA,aB,.slice (some ⟨pb,po,none⟩) n c]),gEq (.slice (some ⟨b,d,none⟩) m c2),gEq (k:Int),gEq ((k:Int)-1:Int),gEq (.pointer (some ⟨b,d+(k-1),none⟩)),gEq (x:Int),gEq (.slice (some ⟨b,d,none⟩) m c2),gEq (k:Int),gEq (.pointer (some ⟨b,d+k,none⟩)),gEq (y:Int),gEq (I 1),gEq (.bool false)]) 12 12 [(0,some 41),(1,some 42),(2,some 43),(3,some 44),(4,some 45),(5,some 46),(6,some 47),(7,some 48),(8,some 49),(9,some 50),(10,some 51),(11,some 52)] ?steps ?fin
    case steps=>
     refine sC [] rfl (fun wi hx=> ?_) ?_
     ·intro K hK;have hX:Ext wr wi:=xE;obtain⟨f,bc,bd⟩:=((HM.bk 0).ext hX).tri;go_simp;exact hK _ _ ⟨.agg #[aA,aB,.slice (some ⟨pb,po,none⟩) n c],rfl,rfl,Ext.refl _⟩
     refine sS0 [] (sS0 [] ?_);refine sC [(2,some 43)] rfl (fun wi hx=> ?_) ?_
     ·intro v2 h2 K hK;obtain rfl:=h2;have da:=aYs ((k:Int)-1);go_simp;exact hK _ _ ⟨I ((k:Int)-1),rfl,rfl,Ext.refl _⟩
     refine sS2 [(1,some 42),(3,some 44)] ?_;refine sC [(4,some 45)] rfl (fun wi hx=> ?_) ?_
     ·intro v4 h4 K hK;obtain rfl:=h4;have hX:Ext wr wi:=xE;have f:wi.cell? ⟨b,d+(k-1),none⟩=some (I x):=(hX.cells.1 _ _ ab).trans ca;go_simp;exact hK _ _ ⟨I x,rfl,rfl,Ext.refl _⟩
     refine sS0 [] (sS0 [] (sS2 [(6,some 47),(7,some 48)] ?_));refine sC [(8,some 49)] rfl (fun wi hx=> ?_) ?_
     ·intro v8 h8 K hK;obtain rfl:=h8;have hX:Ext wr wi:=xE;have f:wi.cell? ⟨b,d+k,none⟩=some (I y):=(hX.cells.1 _ _ ab).trans cb;go_simp;exact hK _ _ ⟨I y,rfl,rfl,Ext.refl _⟩
     refine sC [(0,some 41),(5,some 46),(9,some 50)] rfl (fun wi hx=> ?_) ?_
     ·intro v0 h0 v5 h5 v9 h9 K hK;subst h0 h5 h9;have hX:Ext wr wi:=xE;go_wp2_with fail;refine Ω (a8 _ (HM.ext.trans hX)) fun w5 ag=>?_
      go_simp;exact hK _ _ ⟨I 1,rfl,rfl,ag⟩
     exact sS1 [(10,some 51)] StepsL.nil
    case fin=>
     intro wi hx v0 h0 v1 h1 v2 h2 v3 h3 v4 h4 v5 h5 v6 h6 v7 h7 v8 h8 v9 h9 cw aw bu aa;subst h0 h1 h2 h3 h4 h5 h6 h7 h8 h9;obtain rfl:=aw;obtain rfl:=aa;have hX:Ext wr wi:=hx.of_drew;have M2:=(HM.adv hX)
     clear HM hX hx ca cb a8;refine wpAny_done (by kernel_rfl) ?_ _;try go_frame
     go_wp2;go_roundw
     case rel=>exact⟨k+1,by omega,by omega,by go_num,M2⟩
     case measure=>simp[intOf];omega
   obtain rfl:m=k:=by omega
   have b0:=(HM.bk 0).tri;obtain⟨h0,h1,h2⟩:=b0;go_wp2_with fail;clear h0 h1 h2;refine(HK _ HM.ext).mono ?_;rintro e w2 ⟨q0,c0,rfl,o2,bq⟩;rw[an.out]at o2⊢;have M2:=(HM.call bq o2)
   clear o2 bq HM;obtain⟨g,rfl,ci,cj⟩:=M2.so 0;clear ci cj;have M3:=(M2.c0 TH3 #[aA,aB,.slice (some ⟨g,0,none⟩) n c0])
   have M4:=(show Mem w _ [aJ w TI 1 (some ⟨g,0,none⟩) (n) (c0) (ivs (xs)),aJ w TSL 2 (none) (0) (0) (([]).flatMap aK),aI w w2 TH3 #[aA,aB,.slice (some ⟨g,0,none⟩) n c0],aI w w TH3 #[aA,aB,.slice (some ⟨pb,po,none⟩) n c]]from(M3.ownNew (Ext.refl _) (aW9 _ _ TSL 2) (aVz _)).pick [2,0,1,3] (by decide) rfl)
   clear M2 M3;obtain⟨gV,a1⟩: ∃gV,gV=w2.heap.size:=⟨_,rfl⟩
   rw[←a1]at M4;go_wp2;rw[←a1];clear a1;go_loopw [6,8] (fun v i wr=> ∃(k x:Nat) (rest:List Nat) (ys:List Int) (q5:OA) (l lc:Nat) (sl:List Sl2),1≤k∧k≤m∧i=I k∧v= .slice q5 l lc∧l=sl.length∧l≤k∧ws.drop (k-1)=x::rest∧aO aA aB ys=true∧ys.length=n∧x<n∧ys.getD x 0=0∧qO aA n x rest∧sl++(cT ys x rest).2=(cT xs u s).2∧Mem w wr [aJ w TI 1 (some ⟨g,0,none⟩) (n) (c0) (ivs (ys)),aJ w TSL 2 (q5) (l) (lc) (sl.flatMap aK),aI w (gV) TH3 #[aA,aB,.slice (some ⟨g,0,none⟩) n c0],aI w w TH3 #[aA,aB,.slice (some ⟨pb,po,none⟩) n c]]) (fun _ i _=>m-(intOf i).toNat)
   case atStart=>exact⟨1,u,s,xs,none,0,0,[],aVz _,by omega,rfl,rfl,rfl,by omega,by rw[bx.out];rfl,cn.out,an.out,hu,cq.out,cp.out,rfl,M4⟩
   case round=>
    clear M4;obtain⟨k,x,rest,ys,q5,l,lc,sl,bj,hk,rfl,rfl,hl,c6,bh,ap,bm,br,bp,ar,aq,hM⟩:=hrel;have ah:=xQ bh;have al:=xQ ap;have o:=xQ bm;have ba:=xQ bp;have am:=xQ ar;have t:=xQ aq;have av:=xQ hl;have HM:=hM;clear bh ap bm bp ar aq hM hl;by_cases hlt:k<m
    ·obtain⟨y,rest',q⟩: ∃y rest',rest=y::rest':=by
      have h1:=congrArg List.length ah.out;rw[aWt,aj.out]at h1;cases rest with
      |nil=>simp at h1;omega
      |cons y r=>exact⟨y,r,rfl⟩
     subst q;have a4:ws[k-1]? =some x:=by have:=congrArg (fun z=>z[0]?) ah.out;simpa using this
     have ad:ws.drop k=y::rest':=by have:=congrArg List.tail ah.out;rw[List.tail_drop,show k-1+1=k by omega]at this;exact this
     have a5:ws[k]? =some y:=by have:=congrArg (fun z=>z[0]?) ad;simpa using this
     have a9:=xQ ad;have ai:y∈aU aA n x:=am.out.1;have a3:y<n:=(cH.1 ai).1;have bg:bE aA (x:Int) (y:Int)=1:=(cH.1 ai).2;have bs: ¬(x=y):=by
      intro e;subst e;have:bE aA (x:Int) (x:Int)=0:=by unfold bE uT;simp
      omega
     have bv:=xQ ai;have ca:wr.cell? ⟨b,d+(k-1),none⟩=some (I x):=(HM.ext.cells.1 _ _ hb).trans (HS (k-1) x a4);have cb:wr.cell? ⟨b,d+k,none⟩=some (I y):=(HM.ext.cells.1 _ _ hb).trans (HS k y a5);have ab:b<wr:=aVy hb HM.ext.sz;have bz:=xQ a4;have b1:=xQ a5;clear ad ai a4 a5 bg;obtain⟨z,hz⟩: ∃z,z=ys.getD y 0:=⟨_,rfl⟩
     have HZ:=xQ hz;have cy:wr.cell? ⟨g,y,none⟩=some (I z):=by have h1:=(eE (D:=ys) (v:=y) (by rw[o.out];exact a3)).1;rw[←hz]at h1;have:=(HM.ow 0).cellAt y (by omega);rw[this];simp only[ivs,aWp,h1,aX2]
     clear hz;have v2:=(HM.bk 2).cl 2;have i1:=aYp k;have i2:=aYq k m;have i3:(k:Int)-1<(m:Int):=by omega
     have i4:((k:Int)-1).toNat=k-1:=by omega
     have i5:(1:Int)≤(k:Int):=by omega
     have i6:=aYp y;have i7:=aYq y n;have i8:=aYp x;have i9:=aYq x n;have db:=aYs ((k:Int)-1);go_upto_block 3 with fail;go_cut [6,8]from 61 to 105 (fun s6 s8 wx=> ∃(ys':List Int) (q':OA) (l' lc':Nat) (sl':List Sl2),s6= .slice q' l' lc'∧s8=I k∧l'=sl'.length∧l'≤k+1∧aO aA aB ys'=true∧ys'.length=n∧ys'.getD y 0=0∧sl'++(cT ys' y rest').2=(cT xs u s).2∧Mem w wx [aJ w TI 1 (some ⟨g,0,none⟩) (n) (c0) (ivs (ys')),aJ w TSL 2 (q') (l') (lc') (sl'.flatMap aK),aI w (gV) TH3 #[aA,aB,.slice (some ⟨g,0,none⟩) n c0],aI w w TH3 #[aA,aB,.slice (some ⟨pb,po,none⟩) n c]])
     case first=>
      go_wp2;go_quiet (fail);generalize ak:World.drewN _ _=wq;have MQ:=(show Mem w wq [aJ w TI 1 (some ⟨g,0,none⟩) (n) (c0) (ivs (ys)),aJ w TSL 2 (q5) (l) (lc) (sl.flatMap aK),aI w (gV) TH3 #[aA,aB,.slice (some ⟨g,0,none⟩) n c0],aI w w TH3 #[aA,aB,.slice (some ⟨pb,po,none⟩) n c]]from by rw[←ak];exact HM.adv xE)
      have b3:wq.cell? ⟨b,d+(k-1),none⟩=some (I x):=by rw[←ak];simpa using ca
      have b5:wq.cell? ⟨b,d+k,none⟩=some (I y):=by rw[←ak];simpa using cb
      clear ak HM ca cb cy v2 ab;by_cases hz0:z=0
      ·have t0:(z !=0)=false:=by simp[hz0]
       have bb:=xQ (show ys.getD y 0=0 by rw[←HZ.out];exact hz0);have hr:=xQ (vW (a:=x) (l:=rest') bb.out);clear hz0;go_wp2_with fail;go_meet
       case rel=>exact⟨ys,q5,l,lc,sl,rfl,rfl,av.out,by omega,al.out,o.out,bb.out,by rw[←t.out,hr.out],MQ⟩
      have t0:(z !=0)=true:=by simp[hz0]
      have a6: ¬ys.getD y 0=0:=by rw[←HZ.out];exact hz0
      obtain⟨n1,n2,n3⟩:=zC al (by rw[o.out];exact br) ba (by rw[o.out];exact bv.out) a6;have a2:=sX (a:=x) (l:=rest') a6;rw[←HZ.out]at n1 n2 n3 a2;have hr:=xQ a2;have N1:=xQ n1;have N2:=xQ n2;have N3:=xQ n3;clear n1 n2 n3 hz0 a6 a2;go_wp2_with fail
      go_region_held3 (fun w'=>w'.cell? ⟨b,d+k,none⟩=some (I y)∧w'.cell? ⟨b,d+(k-1),none⟩=some (I x)) (first|(refine⟨?_,?_⟩<;>assumption)|go_keep) (first
       |(refine jX uG (by rfl) _ _ (by rfl) (MQ.adv (by first|exact(Ext.refl _).alloc _|exact Ext.drew ((Ext.refl _).alloc _)|exact xE)) 1 (by rfl) (by rfl) (aK ((y:Int),(x:Int))) (by rfl) (by first|exact fC _ _ _ 1 2 _ (by simp) (by simp) (by simp[maxLen])|exact(fC wq #[y,x] TSL 1 2 _ (by simp) (by simp) (by simp[maxLen])).ext (Ext.drew (Ext.refl _))) (qR _ _) (by omega) ?_
         intro q7 c7 w6 M6;have M7:=(show Mem w w6 [aJ w TI 1 (some ⟨g,0,none⟩) (n) (c0) (ivs (ys)),aJ w TSL 2 (q7) (l+1) (c7) ((sl++ [((y:Int),(x:Int))]).flatMap aK),aI w (gV) TH3 #[aA,aB,.slice (some ⟨g,0,none⟩) n c0],aI w w TH3 #[aA,aB,.slice (some ⟨pb,po,none⟩) n c]]from by have h:=M6;simpa only[aWe,aWf,aX4,aXb,List.flatMap_nil,aWr]using h)
         clear M6;have b4:w6.cell? ⟨b,d+k,none⟩=some (I y):=(M7.ext.cells.1 _ _ hb).trans (HS k y b1.out)
         have b2:w6.cell? ⟨b,d+(k-1),none⟩=some (I x):=(M7.ext.cells.1 _ _ hb).trans (HS (k-1) x bz.out)))
      clear MQ b3 b5;have v2:=(M7.bk 2).cl 2;have cy:w6.cell? ⟨g,y,none⟩=some (I z):=by have h1:=(eE (D:=ys) (v:=y) (by rw[o.out];exact a3)).1;rw[←HZ.out]at h1;have:=(M7.ow 0).cellAt y (by omega);rw[this];simp only[ivs,aWp,h1,aX2]
      have cx:w6.cell? ⟨g,x,none⟩=some (I 0):=by have h1:=(eE (D:=ys) (v:=x) (by rw[o.out];exact br)).1;rw[ba.out]at h1;have:=(M7.ow 0).cellAt x (by omega);rw[this];simp only[ivs,aWp,h1,aX2]
      have fy:w6.frozen? ⟨g,y,none⟩=false:=(M7.ow 0).frozenAt y;have fx:w6.frozen? ⟨g,x,none⟩=false:=(M7.ow 0).frozenAt x;have bt: ¬(g=gV):=M7.ne (i:=0) (j:=2) (by omega) rfl rfl rfl rfl;have cr: ¬(gV=g):=fun e=>bt e.symm
      have ck:w.heap.size≤g:=(M7.lt (i:=0) rfl rfl).1;have cs: ¬(g=b):=by omega
      have ct: ¬(b=g):=by omega
      have cu: ¬(x=y):=bs;have cv: ¬(y=x):=fun e=>bs e.symm
      go_upto_region 15 with fail;go_region;clear v2 cy cx fy fx bt cr ck cs ct cu cv b2 b4;have MX:=(show Mem w ((w6.setCell ⟨g,x,none⟩ (I z)).setCell ⟨g,y,none⟩ (I 0)) [aJ w TI 1 (some ⟨g,0,none⟩) (n) (c0) (ivs ((ys.set x z).set y 0)),aJ w TSL 2 (q7) (l+1) (c7) ((sl++ [((y:Int),(x:Int))]).flatMap aK),aI w (gV) TH3 #[aA,aB,.slice (some ⟨g,0,none⟩) n c0],aI w w TH3 #[aA,aB,.slice (some ⟨pb,po,none⟩) n c]]from by rw[←eW,←eW];exact(M7.ostore (i:=0) rfl x (I z)).ostore (i:=0) rfl y (I 0))
      have MY:=(MX.adv (Ext.drew (Ext.refl _)))
      generalize bo:World.drew _=w8;rw[bo]at MY;clear bo MX M7;go_wp2_with fail;go_meet
      case rel=>exact⟨(ys.set x z).set y 0,q7,l+1,c7,sl++ [((y:Int),(x:Int))],rfl,rfl,by rw[aW5,←av.out];rfl,by omega,N1.out,by rw[N2.out,o.out],N3.out,by rw[←t.out,hr.out];simp,MY⟩
     case rest=>
      obtain⟨ys',q',l',lc',sl',rfl,rfl,bl,c5,ao,ae,au,af,bf⟩:=hcut;have h1:=xQ bl;have h2:=xQ ao;have h3:=xQ ae;have h4:=xQ au;have h5:=xQ af;have h6:=xQ bf;clear bl ao ae au af bf HM ca cb cy v2 ab;go_wp2;go_roundw
      case rel=>exact⟨k+1,y,rest',ys',q',l',lc',sl',by omega,by omega,by go_num,rfl,h1.out,by omega,by rw[aY7];exact a9.out,h2.out,h3.out,a3,h4.out,am.out.2,h5.out,h6.out⟩
      case measure=>simp[intOf];omega
    obtain rfl:m=k:=by omega
    have q:rest= []:=by
     have h1:=congrArg List.length ah.out;rw[aWt,aj.out]at h1;cases rest with
     |nil=>rfl
     |cons y r=>simp at h1;omega
    subst q;have bi:Hid (sl=(cT xs u s).2):=by show _=_;rw[←t.out];simp[cT]
    go_wp2;go_ret;have cm:=av.out;subst cm;rw[←bi.out];exact⟨q5,lc,rfl,HM.ow 1,HM.ext⟩
theorem aV3 (u:Nat)(w:World)(hS:Sl w p n a 1 (ivs xs))(f:aO aA aB xs=true)(hu:u<n)(g:xs.getD u 0=0)(hL:Sl w lq m lc 1 (ivs (bO (dS aA n 12 u)))):
  U 185 #[aH aA aB p n a,.slice lq m lc] w (iO (cT xs u (dS aA n 12 u).tail).2 w):=by
 have hl:=hS.ilen;subst hl;have hg:=mJ f;obtain⟨g1,g2,g3,g4,g5,g6,g7⟩:=cQ (dH f);obtain⟨k1,k2,k3⟩:=mS hg hu;have hm:=hL.ilen;rw[aWj]at hm;obtain⟨pb,po,rfl,l,o⟩:=hS.rd (by omega);obtain⟨b,h,rfl,hb,hc⟩:=hL.rd (by omega);have c: ∀(k x:Nat),(dS aA xs.length 12 u)[k]? =some x→w.cell? ⟨b,h+k,none⟩=some (I x):=by intro k x hx;have hk:=(aW3.1 hx).1;rw[hc k (by omega)];simp[ivs,bO,hx]
 have d:=aAw aA xs.length 12 u;have q:w.cell? ⟨b,h,none⟩=some (I u):=c 0 u (by rw[d];rfl);have i:w.cell? ⟨pb,po+u,none⟩=some (I 0):=by rw[o u (by omega)];rw[aW7,aW0 hu]at g;simp only[Option.getD_some]at g;simp[ivs,hu,g]
 have HV: ∀w',Ext w w'→U 34 #[aH aA aB (some ⟨pb,po,none⟩) xs.length a] w' (Z (.bool true) w'):=fun w' hy=>by have:=iK aA aB _ xs.length a xs w' (hS.ext hy);rwa[f]at this
 have HH: ∀w',U 157 #[aH aA aB (some ⟨pb,po,none⟩) xs.length a,u] w' (Z (.bool true) w'):=fun w'=>by have:=lC aA aB (u:Int) (some ⟨pb,po,none⟩) xs.length a w' (by omega);rwa[decide_eq_true (⟨by omega,by omega⟩:0≤(u:Int)∧(u:Int)<xs.length)]at this
 refine aRz aA aB pb po xs.length a xs b h m lc u (dS aA xs.length 12 u).tail (dS aA xs.length 12 u) w g5 g6 (by omega) (by omega) d hm hb l f rfl hu g (yE hg 12 u hu) c q i HV HH ?_
  (fun w' hy=>oI aA aB _ xs.length a xs w' (by omega) (hS.ext hy))
 intro k x y hk hx hy w' hw;obtain⟨k,rfl⟩: ∃j,k=j+1:=⟨k-1,by omega⟩
 rw[aY7]at hx;have h2:=zO hg 12 u k x y hu hx hy;have r:=aMi hg 12 u x hu (aW1 hx);have h3:=cH.1 h2.2;have:=aV9 aA aB x y _ xs.length a xs w' (hS.ext hw) f r h3.1;rwa[h3.2]at this
def fR (aA aB:Int)(xs:List Int)(l:List Sl2):List Int:=l.foldl (fun ys s=>bQ aA aB ys s.1 s.2) xs
theorem aJi (s:Sl2):fR aA aB xs (l++ [s])=bQ aA aB (fR aA aB xs l) s.1 s.2:=by simp[fR]
theorem aEx {aA aB:Int}: ∀(l:List Sl2) (xs:List Int),aO aA aB xs=true→aO aA aB (fR aA aB xs l)=true∧(fR aA aB xs l).length=xs.length:=by
 intro l;induction l with
 |nil=>intro xs h;exact⟨h,rfl⟩
 |cons s l ih=>intro xs h;have:=ih (bQ aA aB xs s.1 s.2) (kS _ _ h);exact⟨this.1,by rw[show fR aA aB xs (s::l)=fR aA aB (bQ aA aB xs s.1 s.2) l from rfl,this.2,dO]⟩
theorem aJ1 (ad:Hid (l.length=m))(h:Hid (xs.length=n))(x:Hid (aO aA aB xs=true))(o:Hid (Sl w lq m lc 2 (l.flatMap aK)))(HK:xC 70 #[aH aA aB p n a] w fun w' e w''=> ∃q c,e= .returned (aH aA aB q n c)∧w''.ownsRow w' TI 1 (.slice q n c) n (ivs xs)∧Ext w' w''):
  U 148 #[aH aA aB p n a,.slice lq m lc] w (eA aA aB (fR aA aB xs l) w):=by
 have aj:=o.out.bd;go_enter func148,ntmps148;go_wp2_with fail;refine(HK _ (Mem.b2 w).ext).mono ?_;rintro e w1 ⟨q0,c0,rfl,s,y⟩;have M1:=((Mem.b2 w).call y s)
 clear y s;have M2:=(show Mem w _ [aJ w TI 1 (q0) (n) (c0) (ivs (xs)),aI w w1 TH3 #[aA,aB,.slice q0 n c0],aI w (w.heap.size+1) TH3 #[(),(),((),())],aI w w TH3 #[aA,aB,.slice p n a]]from(M1.c0 TH3 #[aA,aB,.slice q0 n c0]).pick [1,0,2,3] (by decide) rfl)
 clear M1;obtain⟨gV,j⟩: ∃gV,gV=w1.heap.size:=⟨_,rfl⟩
 rw[←j]at M2;go_wp2;rw[←j];clear j;go_loopw [12] (fun i wr=> ∃(k:Nat) (q:OA) (c:Nat),k≤m∧i=I k∧Mem w wr [aJ w TI 1 (q) (n) (c) (ivs (fR aA aB xs (l.take k))),aI w (gV) TH3 #[aA,aB,.slice q n c],aI w (w.heap.size+1) TH3 #[(),(),((),())],aI w w TH3 #[aA,aB,.slice p n a]]) (fun i _=>m-(intOf i).toNat)
 case atStart=>exact⟨0,q0,c0,aW6 _,rfl,M2⟩
 case round=>
  clear M2;obtain⟨k,q,c,hk,rfl,hM⟩:=hrel;have HM:=hM;clear hM;by_cases hlt:k<m
  ·obtain⟨b,ak,f,t,ae,hx,hb,aa,ab⟩:=aHx (o.out.ext HM.ext) hlt;subst ae;have i1:=aYp k;have i2:=aYq k m;have af:Hid (fR aA aB xs (l.take (k+1))=bQ aA aB (fR aA aB xs (l.take k)) f t):=by show _=_;rw[aX hx,aJi]
   clear hx;obtain⟨d1,d2⟩:=aEx (l.take k) xs x.out;have HD:xC 75 #[aH aA aB q n c,eV f t] wr fun w' e w''=> ∃q' c',e= .returned (.tuple #[aH aA aB q' n c',.bool (bM aA aB (fR aA aB xs (l.take k)) f t)])∧w''.ownsRow w' TI 1 (.slice q' n c') n (ivs (fR aA aB xs (l.take (k+1))))∧Ext w' w'':=fun w' hx=>by
    refine(aEn aA aB f t q n c _ w' ((HM.sq 0).ext hx) d1).mono ?_;rintro e w'' ⟨q',c',h1,h2,h3⟩;have hl:(bQ aA aB (fR aA aB xs (l.take k)) f t).length=n:=by rw[dO,d2,h.out]
    rw[hl]at h1 h2;exact⟨q',c',h1,by rw[af.out];exact h2,h3⟩
   clear d1 d2;have g:gV<wr:=(HM.hi 1)
   obtain⟨v0,v1,v2⟩:=(HM.bk 1).tri;go_wp2_with fail;clear v0 v1 v2 aa ab;refine(HD _ ((Ext.refl _).alloc _)).mono ?_;rintro e w6 ⟨q6,c6,rfl,u,z⟩;have M6:=((HM.c0 TSL #[f,t]).call z u)
   clear HM g z u;obtain⟨v0,ag,v1,ah,v2,ai⟩:=(M6.bk 3).trif;go_wp2;have M7:=((M6.st 3 0 (I aA)).st 3 1 (I aB))
   have M8:=(M7.st 3 2 (.slice q6 n c6))
   have M9:=(show Mem w (((w6.setCell ⟨gV,0,none⟩ (I aA)).setCell ⟨gV,1,none⟩ (I aB)).setCell ⟨gV,2,none⟩ (.slice q6 n c6)) [aJ w TI 1 (q6) (n) (c6) (ivs (fR aA aB xs (l.take (k+1)))),aI w wr TSL #[f,t],aJ w TI 1 (q) (n) (c) (ivs (fR aA aB xs (l.take k))),aI w (gV) TH3 #[aA,aB,.slice q6 n c6],aI w (w.heap.size+1) TH3 #[(),(),((),())],aI w w TH3 #[aA,aB,.slice p n a]]from M8)
   generalize d:World.setCell _ _ _=wz;rw[d]at M9;clear d M6 M7 M8 v0 ag v1 ah v2 ai;go_roundw
   case rel=>exact⟨k+1,q6,c6,by omega,by go_num,(M9.pick [0,3,4,5] (by decide) rfl)⟩
   case measure=>simp[intOf];omega
  obtain rfl:m=k:=by omega
  have r:Hid (fR aA aB xs (l.take m)=fR aA aB xs l):=by show _=_;rw[←ad.out,aXt]
  rw[r.out]at HM;have g:gV<wr:=(HM.hi 1)
  obtain⟨v0,v1,v2⟩:=(HM.bk 1).tri;have z_:=(HM.bk 2).trif;go_wp2;have M6:=((HM.st 2 0 (I aA)).st 2 1 (I aB))
  have M7:=(M6.st 2 2 (.slice q n c))
  have M8:=(show Mem w (((wr.setCell ⟨w.heap.size+1,0,none⟩ (I aA)).setCell ⟨w.heap.size+1,1,none⟩ (I aB)).setCell ⟨w.heap.size+1,2,none⟩ (.slice q n c)) [aJ w TI 1 (q) (n) (c) (ivs (fR aA aB xs l)),aI w (gV) TH3 #[aA,aB,.slice q n c],aI w (w.heap.size+1) TH3 #[aA,aB,.slice q n c],aI w w TH3 #[aA,aB,.slice p n a]]from M7)
  generalize d:World.setCell _ _ _=wz;rw[d]at M8;clear d HM M6 M7 v0 v1 v2 z_;have y_:=(M8.bk 2).tri;exact aYw (v:=aH aA aB q n c) (wV (by exact(aEx l xs x.out).2.trans h.out) (M8.ow 0) M8.ext)
theorem aEp (c:l.length=m)(hS:Sl w p n a 1 (ivs xs))(b:aO aA aB xs=true)(hL:Sl w lq m lc 2 (l.flatMap aK)):
  U 148 #[aH aA aB p n a,.slice lq m lc] w (eA aA aB (fR aA aB xs l) w):=by
 have hl:=hS.ilen;subst hl;obtain⟨g1,g2,g3,g4,g5,g6,g7,g8,g9⟩:=bS b;exact aJ1 aA aB p xs.length a xs lq m lc l w c rfl b hL (fun w' hx=>oI aA aB p xs.length a xs w' (by omega) (hS.ext hx))
theorem aS2 (d F:Nat)(fr:List Nat)(xs:List Int)(w:World)(hg:Hid ((aA,n)∈lD))(hF:Hid (fr.length=F))(ah:F≤12)(m:Hid (∀x∈fr,x<n))(HF:xC 183 #[aH aA aB p n d] w fun w' e w''=> ∃q c,e= .returned (.slice q F c)∧w''.ownsRow w' TI 1 (.slice q F c) F (ivs (bO fr))∧Ext w' w'')(o:Hid (∀(u:Nat),u<n→ ∀w',Ext w w'→U 184 #[aH aA aB p n d,u,(),(-1:Int)] w' (cC (bO (dS aA n 12 u)) w')))(ad:Hid (∀(u:Nat),dY aA fr=some u→ ∀w' q W c,Ext w w'→Sl w' q W c 1 (ivs (bO (dS aA n 12 u)))→U 185 #[aH aA aB p n d,.slice q W c] w' (iO (cT xs u (dS aA n 12 u).tail).2 w'))):
  U 146 #[aH aA aB p n d] w (tM ((dY aA fr).map fun u=>cT xs u (dS aA n 12 u).tail) w):=by
 have ak: ∀(w:World) (a:OA) (n c n' c':Nat),(binOp .eql 25 (.slice a n c) (.slice none n' c')).run prog w= .ok (.bool a.isNone) w:=fun w a n c n' c'=>Lib.run_eql_slice_nil w _ _ a n c n' c' underlying25
 go_enter func146,ntmps146;go_wp2_with fail;refine(HF _ (Mem.b1 w).ext).mono ?_;rintro e w1 ⟨q1,c1,rfl,y,aa⟩;have M1:=((Mem.b1 w).call aa y)
 clear aa y;have M2:=(show Mem w w1 [aJ w TI 1 (none) (0) (0) (ivs (bO (nZ aA n (dY aA (fr.take 0))))),aJ w TI 1 (q1) (F) (c1) (ivs (bO fr)),aI w w TH3 #[aA,aB,.slice p n d]]from(M1.ownNew (Ext.refl _) (aW9 _ _ TI 1) (aVz _)))
 clear M1;go_wp2;go_loopw [4,11] (fun v i wr=> ∃(k:Nat) (qb:OA) (l lb:Nat),k≤F∧i=I k∧v= .slice qb l lb∧l=(nZ aA n (dY aA (fr.take k))).length∧qb.isNone=decide (l=0)∧Mem w wr [aJ w TI 1 (qb) (l) (lb) (ivs (bO (nZ aA n (dY aA (fr.take k))))),aJ w TI 1 (q1) (F) (c1) (ivs (bO fr)),aI w w TH3 #[aA,aB,.slice p n d]]) (fun _ i _=>F-(intOf i).toNat)
 case atStart=>exact⟨0,none,0,0,aW6 _,rfl,rfl,rfl,rfl,M2⟩
 case round=>
  clear M2;obtain⟨k,qb,l,lb,hk,rfl,rfl,hl,z,hM⟩:=hrel;have HM:=hM;have b:=xQ hl;have HQ:=xQ z;clear hM hl z;by_cases hlt:k<F
  ·obtain⟨u,hu⟩: ∃u,fr[k]? =some u:=⟨_,aW0 (by rw[hF.out];exact hlt)⟩
   have f:u<n:=m.out u (aW1 hu);obtain⟨gf,rfl,ai,aj⟩:=HM.so 1;have cu:wr.cell? ⟨gf,k,none⟩=some (I u):=by have:=(HM.ow 1).cellAt k (by omega);rw[this];simp[ivs,bO,hu]
   obtain⟨g,h⟩:=aEe hg.out (l:=fr.take k) (fun x hx=>m.out x (aXq hx)) f;rw[←aX hu,←b.out]at g h;obtain⟨k1,k2,k3⟩:=mS hg.out f;obtain⟨W,hW⟩: ∃W,W=(dS aA n 12 u).length:=⟨_,rfl⟩
   rw[←hW]at k1 k2 g h;have r:=xQ g;have ae:=xQ h;have j:=xQ hW;have HC:=xQ (fun w' (hx:Ext w w')=>o u f w' hx);clear hu g h hW k3;have i1:=aYp k;have i2:=aYq k F;have b_:=(HM.bk 2).tri;go_wp2_with fail;clear b_ cu;refine(HC _ HM.ext).mono ?_;rintro e w5 ⟨q7,c7,rfl,o7,ab⟩;have af:(bO (dS aA n 12 u)).length=W:=by rw[j.out];simp[bO]
   rw[af]at o7⊢;have M5:=(HM.call ab o7)
   clear o7 ab HM HC;obtain⟨g7,rfl,s,t⟩:=M5.some (i:=0) rfl k1;clear s t;by_cases h0:l=0
   ·have hn:=xQ (r (.inl h0));have hq:qb.isNone=true:=by rw[HQ.out,h0];rfl
    clear h0;go_wp2;go_roundw
    case rel=>exact⟨k+1,some ⟨g7,0,none⟩,W,c7,by omega,by go_num,rfl,by rw[hn.out];exact j.out,by simp;omega,by rw[hn.out];exact M5.pick [0,2,3] (by decide) rfl⟩
    case measure=>simp[intOf];omega
   have hq:qb.isNone=false:=by rw[HQ.out];simp[h0]
   by_cases h1:W<l
   ·have hn:=xQ (r (.inr h1));have t2:=aYq W l;clear h0;go_wp2;go_roundw
    case rel=>exact⟨k+1,some ⟨g7,0,none⟩,W,c7,by omega,by go_num,rfl,by rw[hn.out];exact j.out,by simp;omega,by rw[hn.out];exact M5.pick [0,2,3] (by decide) rfl⟩
    case measure=>simp[intOf];omega
   have hn:=xQ (ae (by omega));have t2: ¬((W:Int)<(l:Int)):=by omega
   clear h0;go_wp2;go_roundw
   case rel=>exact⟨k+1,qb,l,lb,by omega,by go_num,rfl,by rw[hn.out];exact b.out,HQ.out,by rw[hn.out];exact M5.pick [1,2,3] (by decide) rfl⟩
   case measure=>simp[intOf];omega
  obtain rfl:F=k:=by omega
  rw[show fr.take F=fr by rw[←hF.out];exact aXt]at HM b;have b_:=(HM.bk 2).tri;cases hne:dY aA fr with
  |none=>
   have hq:qb.isNone=true:=by rw[HQ.out,b.out,hne];rfl
   have hE:=xQ HM.ext;clear HM b;go_wp2;exact aYw (v:= .tuple #[((),()),.bool false]) (by rw[hne];exact⟨_,rfl,by have:=hE.out;exact xE⟩)
  |some u=>
   have f:u<n:=m.out u ((mX aA fr).2 u hne);obtain⟨k1,k2,k3⟩:=mS hg.out f;rw[hne]at HM b;have hq:qb.isNone=false:=by rw[HQ.out,b.out];exact decide_eq_false (by show¬(dS aA n 12 u).length=0;omega)
   have HH:=xQ (ad u hne);clear k1 k2 k3;go_wp2_with fail;clear b_;refine(HH _ qb l lb HM.ext (HM.sq 0)).mono ?_;rintro e w9 ⟨q9,c9,rfl,o9,ag⟩;have HX:=xQ HM.ext;clear HM;go_wp2;exact aYw (v:= .tuple #[.slice q9 (cT xs u (dS aA n 12 u).tail).2.length c9,.bool true]) (by rw[hne];exact⟨q9,c9,rfl,bF o9 HX.out.sz,HX.out.trans ag⟩)
theorem aV8 (hS:Sl w p n a 1 (ivs xs))(b:aO aA aB xs=true):
  U 146 #[aH aA aB p n a] w (tM (kI aA xs) w):=by
 have hl:=hS.ilen;subst hl;have hg:=mJ b;obtain⟨g1,g2,g3,g4,g5,g6,g7,g8,g9⟩:=bS b;have f:(bX xs).length≤xs.length:=by unfold bX;exact aW8 (aXc _ _) (by simp)
 refine aS2 aA aB p xs.length a (bX xs).length (bX xs) xs w hg rfl (by omega) (fun x hx=>(mL hx).1) (fun w' hx=> ?_) (fun u hu w' hx=>aUz aA aB p xs.length a u xs w' (hS.ext hx) b hu) (fun u hne w' q W c hx hL=> ?_)
 ·have:=aV5 aA aB p xs.length a xs w' (hS.ext hx);rw[if_pos b,aCc]at this;refine this.mono fun e w'' h1=> ?_
  obtain⟨q,c,h2,h3,h4⟩:=h1;rw[aWj]at h2 h3;exact⟨q,c,h2,h3,h4⟩
 obtain⟨hu,d⟩:=mL ((mX aA _).2 u hne);exact aV3 aA aB p xs.length a xs q W c u w' (hS.ext hx) b hu d hL
end Go.Proofs.YthfmmibomhhmpabGreatDoor
