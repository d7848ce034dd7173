/-
  Texts of this proof, packed (@packed).
-/
import Derived.Deep.OwnRows
import Derived.Test.YtgnkoffndhmhpaaGreatDoorP5
import Derived.Test.YtgnkoffndhmhpaaGreatDoorP9
import Derived.Test.YtgnkoffndhmhpaaGreatDoorP17
import Derived.Test.YtgnkoffndhmhpaaGreatDoorP29
import Derived.Test.YtgnkoffndhmhpaaGreatDoorP30
import Derived.Test.YtgnkoffndhmhpaaGreatDoorP32
namespace Go.Proofs.YtgnkoffndhmhpaaGreatDoor
open Go.RowKit
set_option linter.unusedVariables false
set_option linter.unusedSimpArgs false
set_option maxHeartbeats 8000000
set_option maxRecDepth 100000
abbrev rW:TypeId:=21
theorem aJ0 (x:Int)(h: -2147483648≤x∧x≤2147483647):IntKind.i32.wrap x=x:=by
 simp[IntKind.wrap,IntKind.signed,IntKind.bits];omega
theorem aIy (aA aB:Int)(pb po:Nat)(n cap N P2 c C0 st:Nat)(xs:List Int)(pf:Nat→Bool)(adj:Nat→List Nat)(w:World)(hn0:4≤n)(hn:n≤12)(hlen:Hid (xs.length=n))(hpb:pb<w.heap.size)(hE:Hid (BitTab w))(hN49:N≤49152)(hnN:n≤N)(hC0b:C0≤12*4096)
  (hP2:Hid (P2=2 ^ n))(hNN:Hid (N=n*2 ^ n))(hC0:Hid (C0=c*2 ^ n))(hst0:Hid (st=C0+iO pf n))(hstN:st<N)
  (hshn:(2:Int) ^ n=(P2:Int))(hcq:IntKind.i64.wrap ((c:Int)*(P2:Int))=(C0:Int))(hnq:IntKind.i64.wrap ((n:Int)*(P2:Int))=(N:Int))
  (hpf:Hid (∀k x,xs[k]? =some x→pf k=decide (x=0))) (hadj:Hid (adj=fun u=>mV aA n P2 u))
  (HXS:Hid (∀k x,xs[k]? =some x→w.cell? ⟨pb,po+k,none⟩=some (.int .i64 x)))
  (HC:Hid (∀(k:Nat),k<n→ ∀w',Ext w w'→Calls Tryz.prog 195 #[aH aA aB (some ⟨pb,po,none⟩) n cap,(k:Int)] w' (aX (bE (aT aA n k)) w')))
  (HADJ:Hid (∀u v,u<N→v∈mV aA n P2 u→v<N))
  (HSOK:Hid (∀k B Q,SRun adj (fun v=>v/P2=0) N st k B Q→SOk N B Q))
  (HG:Hid (∀k u B Q,SRun adj (fun v=>v/P2=0) N st k B Q→Q[k]? =some u→u/P2=0→ ∃(d:Nat) (code:Nat→Nat) (e:Nat→Nat×Nat),d≤60∧Trail n N d B code e∧code 0=st∧code d=u∧dI aA xs c=some ((List.range d).map (fun i=>iN (e i)))))
  (HEND:Hid (∀k B Q,SRun adj (fun v=>v/P2=0) N st k B Q→Q.length≤k→dI aA xs c=none)):
  Calls Tryz.prog 179 #[aH aA aB (some ⟨pb,po,none⟩) n cap,(c:Int)] w (iZ (dI aA xs c) w):=by
 obtain⟨AR,a4⟩: ∃AR:Array Value,AR=madeCells #[((),())] n:=⟨_,rfl⟩
 have cz: ∀w:World,(Instr.makeSlice 189 (.int .i64 (n:Int)) (.int .i64 (n:Int))).run Tryz.prog w= .ok (.slice (some ⟨w.heap.size,0,none⟩) n n) (w.alloc (.cells AR TSS)):=fun w=>by
  rw[a4]
  exact run_make_row' _ _ (.slice none 0 0) 24 Tryz.underlying189 (by kernel_rfl) rfl .i64 .i64 n (by omega) (by omega) w
 have b7:Hid (AR.toList=gU n []):=by
  show _=_
  rw[a4,(lW _ n).1];simp[gU]
 have b1:Hid (AR.size=n):=by show _=_;rw[a4];exact(lW _ n).2
 obtain⟨AB,av⟩: ∃AB:Array Value,AB=madeCells #[.int .i32 0] N:=⟨_,rfl⟩
 have bt: ∀w:World,(Instr.makeSlice 202 (.int .i64 (N:Int)) (.int .i64 (N:Int))).run Tryz.prog w= .ok (.slice (some ⟨w.heap.size,0,none⟩) N N) (w.alloc (.cells AB rW)):=fun w=>by
  rw[av]
  exact run_make_row' _ _ (.int .i32 0) 4 Tryz.underlying202 (by kernel_rfl) rfl .i64 .i64 N (by omega) (by omega) w
 have bx:Hid (AB.toList=mS (List.replicate N 0)):=by
  show _=_
  rw[av,(lW _ N).1];simp[mS]
 have bv:Hid (AB.size=N):=by show _=_;rw[av];exact(lW _ N).2
 clear a4 av
 go_enter Tryz.func179,Tryz.ntmps179
 go_upto_region 4 with fail
 have ME:=(show Mem w ((w.alloc (.cells #[aA,aB,.slice (some ⟨pb,po,none⟩) n cap] TH3)).alloc (.cells AR TSS)) [gQ w.heap.size TI 1 [],aJ w.heap.size TSS 1 (some ⟨w.heap.size+1,0,none⟩) n n (gU n []),aI w.heap.size (w.heap.size) TH3 #[aA,aB,.slice (some ⟨pb,po,none⟩) n cap]]from by
  have h1:=((Mem.start w).bn TH3 #[aA,aB,.slice (some ⟨pb,po,none⟩) n cap] w.heap.size).lit TSS 1 n (w.heap.size+1) AR (by simp) (by rw[b1.out];omega) (by simp[maxLen];omega)
  rw[b7.out]at h1
  exact h1.rows0 rfl)
 clear b7 b1 cz
 have e0:=(ME.bk 2).tri
 obtain⟨h0,h1,h2⟩:=e0
 go_wp2
 clear h0 h1 h2
 go_loopw [8,32] (fun s i wr=> ∃(k S:Nat) (rows:List RowD),k≤n∧i= .int .i64 (k:Int)∧s= .int .i64 (S:Int)∧S=C0+iO pf k∧oU aA n k rows∧Mem w wr [gQ w.heap.size TI 1 rows,aJ w.heap.size TSS 1 (some ⟨w.heap.size+1,0,none⟩) n n (gU n rows),aI w.heap.size (w.heap.size) TH3 #[aA,aB,.slice (some ⟨pb,po,none⟩) n cap]]) (fun _ i _=>n-(intOf i).toNat)
 case atStart=>exact⟨0,C0,[],Nat.zero_le _,rfl,rfl,rfl,⟨rfl,fun j r h=>by simp at h⟩,ME⟩
 case round=>
  clear ME
  obtain⟨k,S,rows,hk,rfl,rfl,hS,ah,hM⟩:=hrel
  have HM:=hM
  have HR:=xQ ah
  have HS:=xQ hS
  have cv:S<12*4096+4096:=by
   have h1:=oD pf k
   have h2:2 ^ k≤2 ^ 12:=Nat.pow_le_pow_right (n:=2) (by omega) (by omega)
   omega
  clear hM ah hS
  have cd:=(HM.hi 2)
  by_cases hlt:k<n
  ·obtain⟨x,hx⟩: ∃x,xs[k]? =some x:=⟨_,List.getElem?_eq_getElem (by rw[hlen.out];exact hlt)⟩
   have i1:(0:Int)≤(k:Int):=by omega
   have i2:(k:Int)<(n:Int):=by omega
   have cx:wr.cell? ⟨pb,po+k,none⟩=some (.int .i64 x):=(HM.ext.cells.1 _ _ hpb).trans (HXS k x hx)
   obtain⟨h0,h1,h2⟩:=(HM.bk 2).tri
   have az:=xQ (hpf.out k x hx)
   clear hx
   have b0:=HR.out.1
   obtain⟨nb,o⟩: ∃nb,nb=aT aA n k:=⟨_,rfl⟩
   have au:=xQ o
   have b6:Hid (∀w',Ext w w'→Calls Tryz.prog 195 #[aH aA aB (some ⟨pb,po,none⟩) n cap,(k:Int)] w' (aX (bE nb) w')):=by rw[o];exact HC k hlt
   have bu:(bE nb).length=nb.length:=by simp[bE]
   clear o
   go_wp2_with fail
   clear h0 h1 h2 cx cd
   refine(b6 _ HM.ext).mono ?_
   rintro e w5 ⟨q5,c5,rfl,o5,ai⟩
   rw[bu]at o5⊢
   have M5:=((HM.call ai o5).rowsAdd rfl)
   clear o5 ai HM b6
   have co:w5.cell? ⟨w.heap.size+1,k,none⟩=some (.slice none 0 0):=by
    have h7:=(M5.ow 1).cellAt k (by omega)
    rw[h7]
    have h8:=aJ2 (n:=n) (rows:=rows) (by omega)
    rw[b0]at h8;exact h8
   have cs:w5.frozen? ⟨w.heap.size+1,k,none⟩=false:=(M5.ow 1).frozenAt k
   have ck:=xQ (show oU aA n (k+1) (rows++ [⟨q5,nb.length,c5,ivs (bE nb)⟩])from by
    have h7:=sU (q:=q5) (c:=c5) HR.out
    rw[←au.out]at h7
    exact h7)
   have M6:=(show Mem w (w5.setCell ⟨w.heap.size+1,k,none⟩ (.slice q5 nb.length c5)) [gQ w.heap.size TI 1 (rows++ [⟨q5,nb.length,c5,ivs (bE nb)⟩]),aJ w.heap.size TSS 1 (some ⟨w.heap.size+1,0,none⟩) n n (gU n (rows++ [⟨q5,nb.length,c5,ivs (bE nb)⟩])),aI w.heap.size (w.heap.size) TH3 #[aA,aB,.slice (some ⟨pb,po,none⟩) n cap]]from by
    have h7:=aGm (n:=n) (rows:=rows) (by omega) ⟨q5,nb.length,c5,ivs (bE nb)⟩
    rw[←h7,b0]
    exact M5.ostore (i:=1) rfl k (.slice q5 nb.length c5))
   clear M5 HR au
   go_upto_region 8 with fail
   clear co cs
   generalize b3:World.setCell _ _ _=w6
   rw[b3]at M6
   clear b3
   by_cases hx0:x=0
   ·have t0:(x==0)=true:=by simp[hx0]
    have ab:=az.out
    rw[decide_eq_true hx0]at ab
    obtain⟨PK,a2⟩: ∃PK:Nat,PK=2 ^ k:=⟨_,rfl⟩
    have dn:(2:Int) ^ k=(PK:Int):=by rw[a2];simp
    have dp:PK≤2048:=by rw[a2];exact Nat.le_trans (Nat.pow_le_pow_right (by omega) (show k≤11 by omega)) (by decide)
    have bf:IntKind.i64.wrap (PK:Int)=(PK:Int):=IntWalk.i64_in _ (by omega)
    obtain⟨S2,bg⟩: ∃S2,S2=C0+iO pf (k+1):=⟨_,rfl⟩
    have dl:bits .or .i64 (S:Int) (PK:Int)=(S2:Int):=by
     rw[aDz S PK (by omega) (by omega),a2,HS.out,hC0.out,aHu hlt ab,bg,hC0.out]
    have bj:=xQ bg
    clear ab a2 hx0 bg
    go_wp2
    go_roundw
    case rel=>exact⟨k+1,S2,_,by omega,by go_num,rfl,bj.out,ck.out,M6⟩
    case measure=>simp[intOf];omega
   ·have t0:(x==0)=false:=by simp[hx0]
    have ab:=az.out
    rw[decide_eq_false hx0]at ab
    have bj:=xQ (show S=C0+iO pf (k+1) by rw[aHv ab];exact HS.out)
    clear ab hx0
    go_wp2
    go_roundw
    case rel=>exact⟨k+1,S,_,by omega,by go_num,rfl,bj.out,ck.out,M6⟩
    case measure=>simp[intOf];omega
  ·obtain rfl:n=k:=by omega
   obtain rfl:S=st:=by rw[HS.out,hst0.out]
   have a8:=xQ HR.out
   clear HS HR cv
   obtain⟨gB,bs⟩: ∃gB,gB=wr.heap.size:=⟨_,rfl⟩
   have M2:=(show Mem w (wr.alloc (.cells AB rW)) [aJ w.heap.size rW 1 (some ⟨gB,0,none⟩) N N (mS (List.replicate N 0)),gQ w.heap.size TI 1 rows,aJ w.heap.size TSS 1 (some ⟨w.heap.size+1,0,none⟩) n n (gU n rows),aI w.heap.size (w.heap.size) TH3 #[aA,aB,.slice (some ⟨pb,po,none⟩) n cap]]from by
    have h1:=HM.lit rW 1 N gB AB bs.symm (by rw[bv.out];omega) (by simp[maxLen];omega)
    rw[bx.out]at h1
    exact h1)
   go_upto_region 12 with fail
   rw[←bs]
   clear bx bv bt HM bs
   generalize cb:World.alloc _ _=w2
   rw[cb]at M2
   clear cb cd
   go_wp2
   go_loopw [56] (fun i wr=> ∃(k:Nat),k≤N∧i= .int .i64 (k:Int)∧Mem w wr [aJ w.heap.size rW 1 (some ⟨gB,0,none⟩) N N (mS (List.replicate k (-1)++List.replicate (N-k) 0)),gQ w.heap.size TI 1 rows,aJ w.heap.size TSS 1 (some ⟨w.heap.size+1,0,none⟩) n n (gU n rows),aI w.heap.size (w.heap.size) TH3 #[aA,aB,.slice (some ⟨pb,po,none⟩) n cap]]) (fun i _=>N-(intOf i).toNat)
   case atStart=>exact⟨0,Nat.zero_le _,rfl,by simpa using M2⟩
   case round=>
    clear M2
    obtain⟨k,hk,rfl,hM⟩:=hrel
    have HM:=hM
    clear hM
    by_cases hlt:k<N
    ·have i1:(0:Int)≤(k:Int):=by omega
     have i2:(k:Int)<(N:Int):=by omega
     have hl:(List.replicate k (-1:Int)++List.replicate (N-k) 0)[k]? =some 0:=by
      rw[List.getElem?_append_right (by simp)]
      simp[List.getElem?_replicate];omega
     have ce:wr.cell? ⟨gB,k,none⟩=some (.int .i32 0):=by
      have:=(HM.ow 0).cellAt k (by omega);rw[this];exact yR hl
     have b5:wr.frozen? ⟨gB,k,none⟩=false:=(HM.ow 0).frozenAt k
     clear hl
     have M2:=(HM.ostore (i:=0) rfl k (.int .i32 (-1)))
     go_wp2
     go_roundw
     case rel=>exact⟨k+1,by omega,by go_num,by have:=M2;rw[qH,aEh hlt]at this;exact this⟩
     case measure=>simp[intOf];omega
    ·obtain rfl:N=k:=by omega
     rw[Nat.sub_self,show List.replicate N (-1:Int)++List.replicate 0 0=List.replicate N (-1) by simp]at HM
     have i1:(0:Int)≤(S:Int):=by omega
     have i2:(S:Int)<(N:Int):=by omega
     have i3:IntKind.i32.wrap (S:Int)=(S:Int):=aJ0 _ (by omega)
     have ce:wr.cell? ⟨gB,S,none⟩=some (.int .i32 (-1)):=by
      have:=(HM.ow 0).cellAt S (by omega);rw[this];exact yR (by rw[List.getElem?_replicate,if_pos hstN])
     have b5:wr.frozen? ⟨gB,S,none⟩=false:=(HM.ow 0).frozenAt S
     have M2:=(show Mem w (wr.setCell ⟨gB,S,none⟩ (.int .i32 (S:Int))) [aJ w.heap.size rW 1 (some ⟨gB,0,none⟩) N N (mS ((List.replicate N (-1)).set S (S:Int))),gQ w.heap.size TI 1 rows,aJ w.heap.size TSS 1 (some ⟨w.heap.size+1,0,none⟩) n n (gU n rows),aI w.heap.size (w.heap.size) TH3 #[aA,aB,.slice (some ⟨pb,po,none⟩) n cap]]from by rw[←qH];exact HM.ostore (i:=0) rfl S (.int .i32 (S:Int)))
     go_upto_region 18 with fail
     clear ce b5 HM
     generalize bf:World.setCell _ _ _=w1
     rw[bf]at M2
     clear bf
     have M3:=(M2.lit TI 1 1 w1.heap.size #[(S:Int)] rfl rfl (by simp[maxLen]))
     have I1:=xQ (show SRun adj (fun v=>v/P2=0) N S 0 ((List.replicate N (-1)).set S (S:Int)) [S]from .init)
     clear M2
     go_wp2
     go_loopw [13,14] (fun v i wr=> ∃(k:Nat) (q:OA) (l lc:Nat) (B:List Int) (Q:List Nat),k≤l∧i= .int .i64 (k:Int)∧v= .slice q l lc∧l=Q.length∧l≤N∧SRun adj (fun v=>v/P2=0) N S k B Q∧Mem w wr [aJ w.heap.size TI 1 (q) (l) lc (ivs (bE (Q))),aJ w.heap.size rW 1 (some ⟨gB,0,none⟩) N N (mS (B)),gQ w.heap.size TI 1 rows,aJ w.heap.size TSS 1 (some ⟨w.heap.size+1,0,none⟩) n n (gU n rows),aI w.heap.size (w.heap.size) TH3 #[aA,aB,.slice (some ⟨pb,po,none⟩) n cap]]) (fun _ i _=>N-(intOf i).toNat)
     case atStart=>exact⟨0,some ⟨w1.heap.size,0,none⟩,1,1,_,[S],Nat.zero_le _,rfl,rfl,rfl,by omega,I1.out,M3⟩
     case round=>
      clear M3 I1
      obtain⟨k,q,l,lc,B,Q,hk,rfl,rfl,b8,dq,ar,hM⟩:=hrel
      have HM:=hM
      have aq:=xQ ar
      have a1:=xQ b8
      have bh:=xQ (HSOK k B Q ar)
      clear hM ar b8
      by_cases hlt2:k<l
      ·obtain⟨u,hu⟩: ∃u,Q[k]? =some u:=⟨_,List.getElem?_eq_getElem (by rw[←a1.out];exact hlt2)⟩
       have aj:u<N:=bh.out.bd u (List.mem_of_getElem? hu)
       have HU:=xQ hu
       clear hu
       obtain⟨gL,rfl,cp,c3⟩:=HM.so 0
       clear cp c3
       have i3:(0:Int)≤(k:Int):=by omega
       have i4:(k:Int)<(l:Int):=by omega
       have cu:wr.cell? ⟨gL,k,none⟩=some (.int .i64 (u:Int)):=by
        have:=(HM.ow 0).cellAt k (by omega);rw[this];simp[ivs,bE,HU.out]
       obtain⟨cr,a3⟩: ∃cr,cr=u/P2:=⟨_,rfl⟩
       have dh:(u:Int)/(P2:Int)=(cr:Int):=by rw[a3];simp
       have ay:=xQ a3
       have db:cr≤u:=by rw[a3];exact Nat.div_le_self _ _
       clear a3
       by_cases hc0:cr=0
       ·have t0:((cr:Int)==0)=true:=by simp[hc0]
        obtain⟨d,code,ed,c4,b4,a5,ci,bw⟩:=HG k u B Q aq HU.out (by rw[←ay.out];exact hc0)
        have bz:=xQ (fun(w':World) (hx:Ext wr w')=>aIi n N d N gB B code ed w' hn hN49 c4 b4 ((HM.sq 1).ext hx) (hE.out.ext (HM.ext.trans hx)) (Nat.lt_of_lt_of_le (HM.hi 1) hx.sz))
        rw[a5,ci]at bz
        have c0:=xQ bw
        clear b4 a5 ci bw hc0
        go_wp2_with fail
        clear cu
        refine(bz _ (Ext.refl _)).mono ?_
        rintro e w5 ⟨q5,c5,rfl,o5,ai⟩
        have M5:=(HM.call ai o5)
        clear o5 ai HM
        go_wp2
        exact bodyPost_ret (v:= .tuple #[.slice q5 ((List.range d).map (fun i=>iN (ed i))).length c5,.bool true]) (by simp[results,Tryz.results179,go_sem]) rfl (by rw[c0.out];exact⟨q5,c5,rfl,M5.ow 0,M5.ext⟩)
       ·have t0:((cr:Int)==0)=false:=by simp;omega
        have c1:Hid (¬u/P2=0):=by show¬_;rw[←ay.out];exact hc0
        clear hc0
        go_wp2
        clear cu
        go_loopw [13,91] (fun v i wr=> ∃(f:Nat) (q:OA) (l2 lc:Nat) (B2:List Int) (Q2:List Nat),f≤n∧i= .int .i64 (f:Int)∧v= .slice q l2 lc∧l2=Q2.length∧(B2,Q2)=bJ (u:Int) (B,Q) (gS aA n P2 u f)∧Mem w wr [aJ w.heap.size TI 1 (q) (l2) lc (ivs (bE (Q2))),aJ w.heap.size rW 1 (some ⟨gB,0,none⟩) N N (mS (B2)),gQ w.heap.size TI 1 rows,aJ w.heap.size TSS 1 (some ⟨w.heap.size+1,0,none⟩) n n (gU n rows),aI w.heap.size (w.heap.size) TH3 #[aA,aB,.slice (some ⟨pb,po,none⟩) n cap]]) (fun _ i _=>n-(intOf i).toNat)
        case atStart=>exact⟨0,some ⟨gL,0,none⟩,l,lc,B,Q,Nat.zero_le _,rfl,rfl,a1.out,rfl,HM⟩
        case round=>
         clear HM
         obtain⟨f,q,l2,lc,B2,Q2,hf,rfl,rfl,a7,bc,hM⟩:=hrel
         have a6:SOk N B2 Q2:=by
          have:=SOk.expand (u:=(u:Int)) (by omega) (gS aA n P2 u f) bh (fun v hv=>HADJ u v aj (rF hf v hv))
          rw[←bc]at this;exact this
         have HM:=hM
         have ax:=xQ bc
         have y:=xQ a7
         have cc:=xQ a6
         clear hM bc a7 a6
         by_cases hlt3:f<n
         ·obtain⟨PF,z⟩: ∃PF:Nat,PF=2 ^ f:=⟨_,rfl⟩
          have de:(2:Int) ^ f=(PF:Int):=by rw[z];simp
          have df:PF≤2048:=by rw[z];exact Nat.le_trans (Nat.pow_le_pow_right (by omega) (show f≤11 by omega)) (by decide)
          have dm:IntKind.i64.wrap (PF:Int)=(PF:Int):=IntWalk.i64_in _ (by omega)
          have az:=xQ z
          have j1:(0:Int)≤(f:Int):=by omega
          have j2:(f:Int)<(n:Int):=by omega
          by_cases hbf:u.testBit f=true
          ·have b2:bits .and .i64 (u:Int) (PF:Int)=(PF:Int):=by rw[z];exact aEy (by omega) (by omega) hbf
           have dg:0<PF:=by rw[z];exact Nat.two_pow_pos f
           have t1:((PF:Int)!=0)=true:=by simp;omega
           have bm:Hid (gS aA n P2 u (f+1)=gS aA n P2 u f):=by
            show _=_
            rw[pI,aM6 (by rw[hP2.out,oJ u hlt3];exact hbf),List.append_nil]
           clear hbf z
           go_wp2
           go_roundw
           case rel=>exact⟨f+1,q,l2,lc,B2,Q2,by omega,by go_num,rfl,y.out,by rw[bm.out];exact ax.out,HM⟩
           case measure=>simp[intOf];omega
          ·have hbf:u.testBit f=false:=by simpa using hbf
           have b2:bits .and .i64 (u:Int) (PF:Int)=0:=by rw[z];exact aJs (by omega) (by omega) hbf
           have an:(u%P2).testBit f=false:=by rw[hP2.out,oJ u hlt3];exact hbf
           have cq:=xQ hbf
           have ba:=xQ an
           obtain⟨⟨rq,rn,rc,dr⟩,ad⟩: ∃r,rows[f]? =some r:=⟨_,List.getElem?_eq_getElem (by rw[a8.out.1];exact hlt3)⟩
           obtain⟨bq,br⟩:=a8.out.2 f _ ad
           dsimp only at bq br
           have be:=xQ ad
           obtain⟨nb,o⟩: ∃nb,nb=aT aA n f:=⟨_,rfl⟩
           rw[←o]at bq br
           have cy:nb.length≤n:=by rw[o];exact Nat.le_trans (List.length_filter_le _ _) (by simp)
           have au:=xQ o
           subst bq br
           have c8:wr.cell? ⟨w.heap.size+1,f,none⟩=some (.slice rq nb.length rc):=by
            have h7:=(HM.ow 3).cellAt f (by omega)
            rw[h7];exact aGn ad
           have bm:Hid (gS aA n P2 u (f+1)=gS aA n P2 u f++iF aA n P2 u f nb.length):=by
            show _=_
            rw[pI,aJd an,o]
           clear hbf an z ad o
           go_wp2
           clear c8
           go_loopw [13,104] (fun v i wr=> ∃(j:Nat) (q:OA) (l3 lc:Nat) (B3:List Int) (Q3:List Nat),j≤nb.length∧i= .int .i64 (j:Int)∧v= .slice q l3 lc∧l3=Q3.length∧(B3,Q3)=bJ (u:Int) (B,Q) (gS aA n P2 u f++iF aA n P2 u f j)∧Mem w wr [aJ w.heap.size TI 1 (q) (l3) lc (ivs (bE (Q3))),aJ w.heap.size rW 1 (some ⟨gB,0,none⟩) N N (mS (B3)),gQ w.heap.size TI 1 rows,aJ w.heap.size TSS 1 (some ⟨w.heap.size+1,0,none⟩) n n (gU n rows),aI w.heap.size (w.heap.size) TH3 #[aA,aB,.slice (some ⟨pb,po,none⟩) n cap]]) (fun _ i _=>nb.length-(intOf i).toNat)
           case atStart=>exact⟨0,q,l2,lc,B2,Q2,Nat.zero_le _,rfl,rfl,y.out,by rw[aD0,List.append_nil];exact ax.out,HM⟩
           case round=>
            clear HM
            obtain⟨j,q,l3,lc,B3,Q3,hj,rfl,rfl,af,ak,hM⟩:=hrel
            have ap:SOk N B3 Q3:=by
             have:=SOk.expand (u:=(u:Int)) (by omega) (gS aA n P2 u f++iF aA n P2 u f j) bh (fun v hv=>by
              rcases List.mem_append.1 hv with hv|hv
              ·exact HADJ u v aj (rF hf v hv)
              ·exact HADJ u v aj (wL hlt3 ba v hv))
             rw[←ak]at this;exact this
            have HM:=hM
            have a:=xQ ak
            have m:=xQ af
            have cl:=xQ ap
            have dk:l3≤N:=by rw[af];exact ap.qlen
            clear hM ak af ap
            by_cases hlt4:j<nb.length
            ·obtain⟨t,a0⟩: ∃t,nb[j]? =some t:=⟨_,List.getElem?_eq_getElem hlt4⟩
             have bl:t<n:=(bR.1 (by rw[←au.out];exact List.mem_of_getElem? a0:t∈aT aA n f)).1
             have bb:(aT aA n f)[j]? =some t:=by rw[←au.out];exact a0
             have ao:wr.ownsRow w.heap.size TI 1 (.slice rq nb.length rc) nb.length (ivs (bE nb)):=HM.ok (gQ w.heap.size TI 1 rows) (by simp) _ (List.mem_of_getElem? be.out)
             obtain⟨gR,c9⟩: ∃gR,rq=some ⟨gR,0,none⟩:=by
              rcases ao.2 with⟨_,h3⟩|⟨g,_,_,h3,_⟩
              ·omega
              ·injection h3 with h3;exact⟨g,h3⟩
             subst c9
             have ct:wr.cell? ⟨gR,j,none⟩=some (.int .i64 (t:Int)):=by
              have:=ao.cellAt j (by omega);rw[this];simp[ivs,bE,a0]
             have b9:=xQ bb
             clear a0 bb ao
             obtain⟨PT,aa⟩: ∃PT:Nat,PT=2 ^ t:=⟨_,rfl⟩
             have di:(2:Int) ^ t=(PT:Int):=by rw[aa];simp
             have da:PT≤2048:=by rw[aa];exact Nat.le_trans (Nat.pow_le_pow_right (by omega) (show t≤11 by omega)) (by decide)
             have dj:IntKind.i64.wrap (PT:Int)=(PT:Int):=IntWalk.i64_in _ (by omega)
             have m1:(0:Int)≤(j:Int):=by omega
             have m2:(j:Int)<(nb.length:Int):=by omega
             have m3:(0:Int)≤(t:Int):=by omega
             have m4:(t:Int)<(n:Int):=by omega
             by_cases hbt:u.testBit t=true
             ·have a9:(u%P2).testBit t=true:=by rw[hP2.out,oJ u bl];exact hbt
              have bp:bits .and .i64 (u:Int) (PT:Int)=(PT:Int):=by rw[aa];exact aEy (by omega) (by omega) hbt
              have c2:0<PT:=by rw[aa];exact Nat.two_pow_pos t
              have t2:((PT:Int)==0)=false:=by simp;omega
              have p:=aFu b9 a9
              have hnN:fS P2 (u/P2) (u%P2) f t<N:=HADJ u _ aj (wL (j:=j+1) hlt3 ba _ (by rw[p];simp))
              have cm:=aKj (u:=u) (f:=f) (t:=t) hn (by rw[←hNN.out];exact aj) hlt3 bl cq hbt (by rw[←hNN.out,←hP2.out];exact hnN)
              rw[←hP2.out,←az.out,←aa]at cm
              generalize fS P2 (u/P2) (u%P2) f t=nx at*
              have ag:gS aA n P2 u f++iF aA n P2 u f (j+1)=(gS aA n P2 u f++iF aA n P2 u f j)++ [nx]:=by rw[p,List.append_assoc]
              have ae:=xQ ag
              clear p ag hbt a9 aa
              generalize u ^^^ 2 ^ f=X1 at*
              generalize cX u f t=mv at*
              generalize ((t:Int)-(f:Int))*(P2:Int)=D at*
              obtain⟨x1,x2,x3,x4,x5⟩:=cm
              have cw:=xQ x3
              have cj:=xQ x4
              have dc:IntKind.i64.wrap ((t:Int)-(f:Int))=(t:Int)-(f:Int):=IntWalk.i64_in _ (by omega)
              clear x3 x4
              obtain⟨bn,bi⟩: ∃bn,bn=B3.getD nx 0:=⟨_,rfl⟩
              have al:=dE (D:=B3) (v:=nx) (by rw[cl.out.len];exact hnN)
              rw[←bi]at al
              have cn:wr.cell? ⟨gB,nx,none⟩=some (.int .i32 bn):=by
               have:=(HM.ow 1).cellAt nx (by omega);rw[this];exact yR al.1
              have ca:wr.frozen? ⟨gB,nx,none⟩=false:=(HM.ow 1).frozenAt nx
              have aw:=xQ bi
              clear bi al
              have m5:(0:Int)≤(nx:Int):=by omega
              have m6:(nx:Int)<(N:Int):=by omega
              have dd:IntKind.i32.wrap (u:Int)=(u:Int):=aJ0 _ (by omega)
              by_cases hfc:f=cr
              ·have t3:((f:Int)==(cr:Int))=true:=by simp[hfc]
               have x4:IntKind.i64.wrap ((mv:Int)+D)=(nx:Int):=cj (hfc.trans ay.out)
               clear hfc
               by_cases hneg:bn<0
               ·have t4:decide (bn<0)=true:=by simp[hneg]
                have b:Hid ((B3.set nx (u:Int),Q3++ [nx])=bJ (u:Int) (B,Q) (gS aA n P2 u f++iF aA n P2 u f (j+1))):=by
                 show _=_
                 rw[ae.out,dP,←a.out,kI (by rw[←aw.out];exact hneg)]
                have M6:=(show Mem w (wr.setCell ⟨gB,nx,none⟩ (.int .i32 (u:Int))).drew [aJ w.heap.size TI 1 (q) (l3) lc (ivs (bE (Q3))),aJ w.heap.size rW 1 (some ⟨gB,0,none⟩) N N (mS (B3.set nx (u:Int))),gQ w.heap.size TI 1 rows,aJ w.heap.size TSS 1 (some ⟨w.heap.size+1,0,none⟩) n n (gU n rows),aI w.heap.size (w.heap.size) TH3 #[aA,aB,.slice (some ⟨pb,po,none⟩) n cap]]from by rw[←qH];exact(HM.ostore (i:=1) rfl nx (.int .i32 (u:Int))).adv (Ext.drew (Ext.refl _)))
                clear hneg a HM
                go_upto_region 34 with fail
                go_region
                go_upto_region 39 with fail
                clear ct cn ca
                generalize am:World.setCell _ _ _=w4
                rw[am]at M6
                clear am
                go_wp2_with (at_builtin;go_loud (refine cJ eS rfl _ _ rfl (M6.adv ((Ext.refl _).alloc (.cells #[(nx:Int)] TI))) 0 rfl rfl (ivs [(nx:Int)]) rfl ((dY w4 #[(nx:Int)] TI 1 1 _ rfl rfl (by simp[maxLen])).ext (Ext.drew (Ext.refl _))) (fun u hu=>by obtain rfl:=List.mem_singleton.1 hu;rfl) (by omega) ?_;intro q7 c7 w6 M7))
                have M8:=(show Mem w w6 [aJ w.heap.size TI 1 (q7) (l3+1) c7 (ivs (bE (Q3++ [nx]))),aJ w.heap.size rW 1 (some ⟨gB,0,none⟩) N N (mS (B3.set nx (u:Int))),gQ w.heap.size TI 1 rows,aJ w.heap.size TSS 1 (some ⟨w.heap.size+1,0,none⟩) n n (gU n rows),aI w.heap.size (w.heap.size) TH3 #[aA,aB,.slice (some ⟨pb,po,none⟩) n cap]]from by rw[show ivs (bE (Q3++ [nx]))=ivs (bE Q3)++ivs [(nx:Int)] by simp[ivs,bE]];exact M7)
                clear M7 M6
                go_wp2
                go_roundw
                case rel=>exact⟨j+1,q7,l3+1,c7,B3.set nx (u:Int),Q3++ [nx],by omega,by go_num,rfl,by simp[m.out],b.out,M8⟩
                case measure=>simp[intOf];omega
               ·have t4:decide (bn<0)=false:=by simp;omega
                have b:Hid ((B3,Q3)=bJ (u:Int) (B,Q) (gS aA n P2 u f++iF aA n P2 u f (j+1))):=by
                 show _=_
                 rw[ae.out,dP,←a.out,lU (by rw[←aw.out];exact hneg)]
                clear hneg a
                go_upto_region 34 with fail
                go_region
                go_wp2
                go_roundw
                case rel=>exact⟨j+1,q,l3,lc,B3,Q3,by omega,by go_num,rfl,m.out,b.out,HM.adv xE⟩
                case measure=>simp[intOf];omega
              ·have t3:((f:Int)==(cr:Int))=false:=by simp;omega
               have c6:nx=mv:=(cw (fun e=>hfc (e.trans ay.out.symm))).symm
               subst c6
               clear hfc
               by_cases hneg:bn<0
               ·have t4:decide (bn<0)=true:=by simp[hneg]
                have b:Hid ((B3.set nx (u:Int),Q3++ [nx])=bJ (u:Int) (B,Q) (gS aA n P2 u f++iF aA n P2 u f (j+1))):=by
                 show _=_
                 rw[ae.out,dP,←a.out,kI (by rw[←aw.out];exact hneg)]
                have M6:=(show Mem w (wr.setCell ⟨gB,nx,none⟩ (.int .i32 (u:Int))).drew [aJ w.heap.size TI 1 (q) (l3) lc (ivs (bE (Q3))),aJ w.heap.size rW 1 (some ⟨gB,0,none⟩) N N (mS (B3.set nx (u:Int))),gQ w.heap.size TI 1 rows,aJ w.heap.size TSS 1 (some ⟨w.heap.size+1,0,none⟩) n n (gU n rows),aI w.heap.size (w.heap.size) TH3 #[aA,aB,.slice (some ⟨pb,po,none⟩) n cap]]from by rw[←qH];exact(HM.ostore (i:=1) rfl nx (.int .i32 (u:Int))).adv (Ext.drew (Ext.refl _)))
                clear hneg a HM
                go_upto_region 34 with fail
                go_region
                go_upto_region 39 with fail
                clear ct cn ca
                generalize am:World.setCell _ _ _=w4
                rw[am]at M6
                clear am
                go_wp2_with (at_builtin;go_loud (refine cJ eS rfl _ _ rfl (M6.adv ((Ext.refl _).alloc (.cells #[(nx:Int)] TI))) 0 rfl rfl (ivs [(nx:Int)]) rfl ((dY w4 #[(nx:Int)] TI 1 1 _ rfl rfl (by simp[maxLen])).ext (Ext.drew (Ext.refl _))) (fun u hu=>by obtain rfl:=List.mem_singleton.1 hu;rfl) (by omega) ?_;intro q7 c7 w6 M7))
                have M8:=(show Mem w w6 [aJ w.heap.size TI 1 (q7) (l3+1) c7 (ivs (bE (Q3++ [nx]))),aJ w.heap.size rW 1 (some ⟨gB,0,none⟩) N N (mS (B3.set nx (u:Int))),gQ w.heap.size TI 1 rows,aJ w.heap.size TSS 1 (some ⟨w.heap.size+1,0,none⟩) n n (gU n rows),aI w.heap.size (w.heap.size) TH3 #[aA,aB,.slice (some ⟨pb,po,none⟩) n cap]]from by rw[show ivs (bE (Q3++ [nx]))=ivs (bE Q3)++ivs [(nx:Int)] by simp[ivs,bE]];exact M7)
                clear M7 M6
                go_wp2
                go_roundw
                case rel=>exact⟨j+1,q7,l3+1,c7,B3.set nx (u:Int),Q3++ [nx],by omega,by go_num,rfl,by simp[m.out],b.out,M8⟩
                case measure=>simp[intOf];omega
               ·have t4:decide (bn<0)=false:=by simp;omega
                have b:Hid ((B3,Q3)=bJ (u:Int) (B,Q) (gS aA n P2 u f++iF aA n P2 u f (j+1))):=by
                 show _=_
                 rw[ae.out,dP,←a.out,lU (by rw[←aw.out];exact hneg)]
                clear hneg a
                go_upto_region 34 with fail
                go_region
                go_wp2
                go_roundw
                case rel=>exact⟨j+1,q,l3,lc,B3,Q3,by omega,by go_num,rfl,m.out,b.out,HM.adv xE⟩
                case measure=>simp[intOf];omega
             ·have hbt:u.testBit t=false:=by simpa using hbt
              have bp:bits .and .i64 (u:Int) (PT:Int)=0:=by rw[aa];exact aJs (by omega) (by omega) hbt
              have p:=xQ (aI6 b9 (show(u%P2).testBit t=false by rw[hP2.out,oJ u bl];exact hbt))
              clear hbt aa
              go_wp2
              go_roundw
              case rel=>exact⟨j+1,q,l3,lc,B3,Q3,by omega,by go_num,rfl,m.out,by rw[p.out];exact a.out,HM⟩
              case measure=>simp[intOf];omega
            ·obtain rfl:nb.length=j:=by omega
             go_wp2
             go_roundw
             case rel=>exact⟨f+1,q,l3,lc,B3,Q3,by omega,by go_num,rfl,m.out,by rw[bm.out];exact a.out,HM⟩
             case measure=>simp[intOf];omega
         ·obtain rfl:n=f:=by omega
          have bo:Hid (SRun adj (fun v=>v/P2=0) N S (k+1) B2 Q2):=by
           show SRun _ _ _ _ _ _ _
           have h7:=SRun.step aq HU.out c1.out
           have h8:=ax.out
           rw[wM,←(show adj u=mV aA n P2 u by rw[hadj.out])]at h8
           rw[←h8]at h7
           exact h7
          have cg:l2≤N:=by rw[y.out];exact cc.out.qlen
          have cf:k+1≤l2:=by
           have h8:=ax.out
           obtain⟨r,h9,_⟩:=nT (u:Int) (gS aA n P2 u n) B Q
           rw[←h8]at h9
           dsimp only at h9
           rw[y.out,h9,List.length_append]
           have:=a1.out
           omega
          go_wp2
          go_roundw
          case rel=>exact⟨k+1,q,l2,lc,B2,Q2,cf,by go_num,rfl,y.out,cg,bo.out,HM⟩
          case measure=>simp[intOf];omega
      ·have ch:=xQ (HEND k B Q aq (by rw[←a1.out];omega))
       have hX:=xQ HM.ext
       clear HM
       go_wp2
       exact bodyPost_ret (v:= .tuple #[((),()),.bool false]) (by simp[results,Tryz.results179,go_sem]) rfl (by rw[ch.out];exact⟨_,rfl,hX.out⟩)
theorem aG9 (aA aB:Int)(p:OA)(cap:Nat)(f t:Int)(xs:List Int)(w:World)(hn0:4≤xs.length)(hn:xs.length≤12)
  (HV:xB 80 #[aH aA aB p xs.length cap] w true)
  (HK:Hid (∀w',Ext w w'→Calls Tryz.prog 105 #[aH aA aB p xs.length cap] w' (cZ aA aB xs w')))
  (HM:xB 118 #[aH aA aB p xs.length cap,dS f t] w false):
  Calls Tryz.prog 70 #[aH aA aB p xs.length cap,dS f t] w (cQ aA aB xs false w):=by
 go_enter Tryz.func70,Tryz.ntmps70
 go_wp2_with fail
 refine(HV _ ((((Mem.start w).bn TH3 #[aA,aB,.slice p xs.length cap] (w.heap.size)).bn TSL #[f,t] (w.heap.size+1)).bn TH3 #[(),(),((),())] (w.heap.size+2)).ext).mono ?_
 rintro e w1 ⟨rfl,r⟩
 have M1:=(((((Mem.start w).bn TH3 #[aA,aB,.slice p xs.length cap] (w.heap.size)).bn TSL #[f,t] (w.heap.size+1)).bn TH3 #[(),(),((),())] (w.heap.size+2)).adv r)
 have c:=M1.hi 0
 have h:=M1.hi 1
 have i:=M1.hi 2
 clear r
 obtain⟨h0,h1,h2⟩:=(M1.bk 2).tri
 go_wp2_with fail
 clear h0 h1 h2
 refine(HK _ M1.ext).mono ?_
 rintro e w2 ⟨q,c2,rfl,m,l⟩
 have M2:=(M1.call l m)
 clear M1 c h i l m
 have d:=M2.hi 1
 have k:=M2.hi 2
 have j:=M2.hi 3
 obtain⟨g,rfl,ad,ae⟩:=M2.so 0
 obtain⟨h0,h1,h2⟩:=(M2.bk 3).tri
 have s0:=(M2.bk 2).cl 0
 have s1:=(M2.bk 2).cl 1
 go_wp2_with fail
 clear h0 h1 h2 s0 s1
 refine(HM _ (M2.bn TH3 #[aA,aB,.slice (some ⟨g,0,none⟩) xs.length c2] (w2.heap.size)).ext).mono ?_
 rintro e w3 ⟨rfl,n⟩
 have M3:=((M2.bn TH3 #[aA,aB,.slice (some ⟨g,0,none⟩) xs.length c2] (w2.heap.size)).adv n)
 clear M2 d k j n
 have z:=M3.hi 0
 have y:=M3.hi 2
 have x:=M3.hi 3
 have s:=M3.hi 4
 obtain⟨v0,v1,v2⟩:=(M3.bk 0).tri
 obtain⟨z0,aa,z1,u,z2,ab⟩:=(M3.bk 2).trif
 obtain⟨a,b⟩:=M3.nq 0 2
 go_wp2
 have M4:=((M3.st 2 0 (.int .i64 aA)).st 2 1 (.int .i64 aB))
 have M5:=(M4.st 2 2 (.slice (some ⟨g,0,none⟩) xs.length c2))
 have M6:=(show Mem w (((w3.setCell ⟨w.heap.size+2,0,none⟩ (.int .i64 aA)).setCell ⟨w.heap.size+2,1,none⟩ (.int .i64 aB)).setCell ⟨w.heap.size+2,2,none⟩ (.slice (some ⟨g,0,none⟩) xs.length c2)) [aI w.heap.size (w2.heap.size) TH3 #[aA,aB,.slice (some ⟨g,0,none⟩) xs.length c2],aJ w.heap.size TI 1 (some ⟨g,0,none⟩) (xs.length) (c2) (ivs xs),aI w.heap.size (w.heap.size+2) TH3 #[aA,aB,.slice (some ⟨g,0,none⟩) xs.length c2],aI w.heap.size (w.heap.size+1) TSL #[f,t],aI w.heap.size (w.heap.size) TH3 #[aA,aB,.slice p xs.length cap]]from M5)
 generalize o:World.setCell _ _ _=wz
 rw[o]at M6
 clear o M3 M4 M5 v0 v1 v2 z0 aa z1 u z2 ab a b
 obtain⟨y0,y1,y2⟩:=(M6.bk 2).tri
 exact bodyPost_ret (v:= .tuple #[.agg #[aA,aB,.slice (some ⟨g,0,none⟩) xs.length c2],.bool false]) (by simp[results,Tryz.results70,go_sem, *]) rfl (eB (by simp) (by exact(M6.ow 1)) M6.ext)
theorem aDg (aA aB:Int)(cap i j b off:Nat)(x yj:Int)(xs:List Int)(w:World)(hn0:4≤xs.length)(hn:xs.length≤12)(hi:i<xs.length)(hj:j<xs.length)(hij:i≠j)(HX:Hid (xs[i]? =some x)) (HY:Hid (xs[j]? =some yj))
  (hb:b<w.heap.size) (HCX:Hid (w.cell? ⟨b,off+i,none⟩=some (.int .i64 x)))
  (HV:xB 80 #[aH aA aB (some ⟨b,off,none⟩) xs.length cap] w true)
  (HK:Hid (∀w',Ext w w'→Calls Tryz.prog 105 #[aH aA aB (some ⟨b,off,none⟩) xs.length cap] w' (cZ aA aB xs w')))
  (HM:xB 118 #[aH aA aB (some ⟨b,off,none⟩) xs.length cap,dS (i:Int) (j:Int)] w true):
  Calls Tryz.prog 70 #[aH aA aB (some ⟨b,off,none⟩) xs.length cap,dS (i:Int) (j:Int)] w (cQ aA aB ((xs.set j x).set i 0) true w):=by
 have a1:(0:Int)≤(i:Int):=by omega
 have a2:(0:Int)≤(j:Int):=by omega
 have a3:(i:Int)<(xs.length:Int):=by omega
 have a4:(j:Int)<(xs.length:Int):=by omega
 go_enter Tryz.func70,Tryz.ntmps70
 go_wp2_with fail
 refine(HV _ ((((Mem.start w).bn TH3 #[aA,aB,.slice (some ⟨b,off,none⟩) xs.length cap] (w.heap.size)).bn TSL #[(i:Int),(j:Int)] (w.heap.size+1)).bn TH3 #[(),(),((),())] (w.heap.size+2)).ext).mono ?_
 rintro e w1 ⟨rfl,ak⟩
 have M1:=(((((Mem.start w).bn TH3 #[aA,aB,.slice (some ⟨b,off,none⟩) xs.length cap] (w.heap.size)).bn TSL #[(i:Int),(j:Int)] (w.heap.size+1)).bn TH3 #[(),(),((),())] (w.heap.size+2)).adv ak)
 have o:=M1.hi 0
 have u:=M1.hi 1
 have aa:=M1.hi 2
 clear ak
 obtain⟨h0,h1,h2⟩:=(M1.bk 2).tri
 go_wp2_with fail
 clear h0 h1 h2
 refine(HK _ M1.ext).mono ?_
 rintro e w2 ⟨q,c2,rfl,ai,ad⟩
 have M2:=(M1.call ad ai)
 clear M1 o u aa ad ai
 have y:=M2.hi 1
 have t:=M2.hi 2
 have ab:=M2.hi 3
 obtain⟨g,rfl,az,a0⟩:=M2.so 0
 obtain⟨h0,h1,h2⟩:=(M2.bk 3).tri
 have s0:=(M2.bk 2).cl 0
 have s1:=(M2.bk 2).cl 1
 go_wp2_with fail
 clear h0 h1 h2 s0 s1
 refine(HM _ (M2.bn TH3 #[aA,aB,.slice (some ⟨g,0,none⟩) xs.length c2] (w2.heap.size)).ext).mono ?_
 rintro e w3 ⟨rfl,aj⟩
 have M3:=((M2.bn TH3 #[aA,aB,.slice (some ⟨g,0,none⟩) xs.length c2] (w2.heap.size)).adv aj)
 clear M2 y t ab aj
 have s:=M3.hi 0
 have z:=M3.hi 2
 have r:=M3.hi 3
 have p:=M3.hi 4
 obtain⟨v0,v1,v2⟩:=(M3.bk 0).tri
 obtain⟨h0,h1,h2⟩:=(M3.bk 4).tri
 have s0:=(M3.bk 3).cl 0
 have s1:=(M3.bk 3).cl 1
 have cx:w3.cell? ⟨b,off+i,none⟩=some (.int .i64 x):=(M3.ext.cells.1 _ _ hb).trans HCX.out
 have gj:w3.cell? ⟨g,j,none⟩=some (.int .i64 yj):=by have:=(M3.ow 1).cellAt j (by omega);rw[this];simpa[ivs]using HY.out
 have gi:w3.cell? ⟨g,i,none⟩=some (.int .i64 x):=by have:=(M3.ow 1).cellAt i (by omega);rw[this];simpa[ivs]using HX.out
 have an:w3.frozen? ⟨g,j,none⟩=false:=(M3.ow 1).frozenAt j
 have au:w3.frozen? ⟨g,i,none⟩=false:=(M3.ow 1).frozenAt i
 obtain⟨c,f⟩:=M3.nq 0 1
 obtain⟨n,a⟩:=M3.nq 1 4
 obtain⟨d,h⟩:=M3.nq 1 3
 have ae: ¬(g=b):=by have:=M3.ext.sz;omega
 have aw: ¬(b=g):=fun e=>ae e.symm
 have ap: ¬(i=j):=hij
 have ao: ¬(j=i):=fun e=>hij e.symm
 go_wp2
 go_region_held3 (fun w'=>w'.cell? ⟨w2.heap.size,2,none⟩=some (.slice (some ⟨g,0,none⟩) xs.length c2)∧w'.cell? ⟨w.heap.size,2,none⟩=some (.slice (some ⟨b,off,none⟩) xs.length cap)∧w'.cell? ⟨w.heap.size+1,0,none⟩=some (.int .i64 (i:Int))∧w'.cell? ⟨w.heap.size+1,1,none⟩=some (.int .i64 (j:Int))∧w'.cell? ⟨b,off+i,none⟩=some (.int .i64 x)) (first|(refine⟨?_,?_,?_,?_,?_⟩<;>assumption)|go_keep) (first|fail)
 clear v0 v1 v2 h0 h1 h2 s0 s1 c f n a d h cx gj gi an au ae aw ap ao
 have MX:=(show Mem w ((w3.setCell ⟨g,j,none⟩ (.int .i64 x)).setCell ⟨g,i,none⟩ (.int .i64 0)) [aI w.heap.size (w2.heap.size) TH3 #[aA,aB,.slice (some ⟨g,0,none⟩) xs.length c2],aJ w.heap.size TI 1 (some ⟨g,0,none⟩) (xs.length) (c2) (ivs ((xs.set j x).set i 0)),aI w.heap.size (w.heap.size+2) TH3 #[(),(),((),())],aI w.heap.size (w.heap.size+1) TSL #[(i:Int),(j:Int)],aI w.heap.size (w.heap.size) TH3 #[aA,aB,.slice (some ⟨b,off,none⟩) xs.length cap]]from by rw[←dV,←dV];exact(M3.ostore (i:=1) rfl j (.int .i64 x)).ostore (i:=1) rfl i (.int .i64 0))
 have MY:=(MX.adv (Ext.drew (Ext.refl _)))
 generalize af:World.drew _=w4
 rw[af]at MY
 clear af MX M3 s z r p
 have aq:w2.heap.size<w4.heap.size:=(MY.hi 0)
 have am:w.heap.size+2<w4.heap.size:=(MY.hi 2)
 have ax:w.heap.size+1<w4.heap.size:=(MY.hi 3)
 have al:w.heap.size<w4.heap.size:=(MY.hi 4)
 obtain⟨v0,v1,v2⟩:=(MY.bk 0).tri
 obtain⟨z0,ay,z1,av,z2,ar⟩:=(MY.bk 2).trif
 obtain⟨m,k⟩:=MY.nq 0 2
 go_wp2
 have M9:=((MY.st 2 0 (.int .i64 aA)).st 2 1 (.int .i64 aB))
 have ah:=(M9.st 2 2 (.slice (some ⟨g,0,none⟩) xs.length c2))
 have l:=(show Mem w (((w4.setCell ⟨w.heap.size+2,0,none⟩ (.int .i64 aA)).setCell ⟨w.heap.size+2,1,none⟩ (.int .i64 aB)).setCell ⟨w.heap.size+2,2,none⟩ (.slice (some ⟨g,0,none⟩) xs.length c2)) [aI w.heap.size (w2.heap.size) TH3 #[aA,aB,.slice (some ⟨g,0,none⟩) xs.length c2],aJ w.heap.size TI 1 (some ⟨g,0,none⟩) (xs.length) (c2) (ivs ((xs.set j x).set i 0)),aI w.heap.size (w.heap.size+2) TH3 #[aA,aB,.slice (some ⟨g,0,none⟩) xs.length c2],aI w.heap.size (w.heap.size+1) TSL #[(i:Int),(j:Int)],aI w.heap.size (w.heap.size) TH3 #[aA,aB,.slice (some ⟨b,off,none⟩) xs.length cap]]from ah)
 generalize ag:World.setCell _ _ _=wz
 rw[ag]at l
 clear ag MY M9 ah v0 v1 v2 z0 ay z1 av z2 ar m k
 obtain⟨y0,y1,y2⟩:=(l.bk 2).tri
 exact bodyPost_ret (v:= .tuple #[.agg #[aA,aB,.slice (some ⟨g,0,none⟩) xs.length c2],.bool true]) (by simp[results,Tryz.results70,go_sem, *]) rfl (eB (by simp) (by exact(l.ow 1)) l.ext)
theorem wS (aA aB f t:Int)(p:OA)(n cap:Nat)(xs:List Int)(w:World)(hS:Sl w p n cap 1 (ivs xs))(hok:aN aA aB xs=true):
  Calls Tryz.prog 70 #[aH aA aB p n cap,dS f t] w (cQ aA aB (bG aA aB xs f t) (bA aA aB xs f t) w):=by
 have hl:=hS.ilen
 subst hl
 obtain⟨g1,g2,g3,g4,g5,g6,g7,g8,g9⟩:=bM hok
 have HV:=fun(w':World) (hx:Ext w w')=>fI aA aB p xs.length cap xs w' (hS.ext hx)
 rw[hok]at HV
 have HK:=fun(w':World) (hx:Ext w w')=>kR aA aB p xs.length cap xs w' (by omega) (hS.ext hx)
 have HM:=fun(w':World) (hx:Ext w w')=>aLp aA aB f t p xs.length cap xs w' (hS.ext hx) hok
 unfold bG
 cases h:bA aA aB xs f t with
 |false=>rw[h]at HM;exact aG9 aA aB p cap f t xs w g5 g6 HV HK HM
 |true=>
  rw[h]at HM
  obtain⟨k1,k2,k3,k4,k5,k6,k7,k8,k9⟩:=iU h
  obtain⟨i,rfl⟩: ∃i:Nat,f=(i:Int):=⟨f.toNat,by omega⟩
  obtain⟨j,rfl⟩: ∃j:Nat,t=(j:Int):=⟨t.toNat,by omega⟩
  obtain⟨b,a,rfl,hb,e⟩:=hS.rd (by omega)
  have c:xs[i]? =some (xs.getD i 0):=by rw[List.getD_eq_getElem?_getD,List.getElem?_eq_getElem (by omega)];rfl
  have d:xs[j]? =some (xs.getD j 0):=by rw[List.getD_eq_getElem?_getD,List.getElem?_eq_getElem (by omega)];rfl
  rw[if_pos rfl,Int.toNat_natCast,Int.toNat_natCast]
  exact aDg aA aB cap i j b a _ _ xs w g5 g6 (by omega) (by omega) (by omega) c d hb (xQ (show w.cell? ⟨b,a+i,none⟩=some (.int .i64 (xs.getD i 0)) by rw[e i (by omega)];simp only[ivs,List.getElem?_map,c,Option.map_some])) HV HK HM
end Go.Proofs.YtgnkoffndhmhpaaGreatDoor
