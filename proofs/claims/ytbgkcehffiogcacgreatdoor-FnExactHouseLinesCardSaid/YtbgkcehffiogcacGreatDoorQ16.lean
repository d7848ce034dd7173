/-
  Texts of this proof, packed (@packed).
-/
import Derived.Deep.OwnRows
import Derived.Test.YtbgkcehffiogcacGreatDoorQ15
namespace Go.Proofs.YtbgkcehffiogcacGreatDoor
open Go.RowKit
set_option linter.unusedSimpArgs false
set_option linter.unusedVariables false
set_option maxHeartbeats 16000000
set_option maxRecDepth 100000
section
open Go.Proofs.Tryz
theorem oB (n:Nat):(madeCells #[I 0] n).toList=ivs (List.replicate n 0)∧(madeCells #[I 0] n).size=n:=by
 constructor
 ·apply List.ext_getElem<;>simp[madeCells,Nat.mod_one]
 simp[madeCells]
theorem aOz (N:Nat)(src:List Nat): ∀x∈jB N src,-1≤x∧x≤((0:Nat):Int):=by
 unfold jB
 suffices h: ∀(l:List Nat) (A:List Int),(∀x∈A,-1≤x∧x≤((0:Nat):Int))→ ∀x∈l.foldl (fun A v=>A.set v 0) A,-1≤x∧x≤((0:Nat):Int)from h src _ (fun x hx=>by rw[List.mem_replicate]at hx;omega)
 intro l;induction l with
 |nil=>intro A h;exact h
 |cons v l ih=>
  intro A h
  exact ih (A.set v 0) (fun x hx=>by
   rcases aT1 hx with h1|h1
   ·exact h x h1
   ·omega)
theorem aFt (aA aB:Int)(p:OA)(n cap F P:Nat)(w:World)(dl:4≤n)(hn:n≤12)(hP:Hid (P=2 ^ n))(cv:P≤4096)(de:P%2=0)
  (HF:xC 144 #[aH aA aB p n cap] w fun w' e w''=> ∃q c,e= .returned (.slice q F c)∧Ext w' w'')
  (b7:Hid (∀(m:Nat) w',m≤4096→U 171 #[m] w' fun e w''=>e= .returned (I (gZ m))∧w'=w''))
  (HN:Hid (∀w',Ext w w'→U 172 #[aH aA aB p n cap] w' (aCv aA n w'))):
  U 140 #[aH aA aB p n cap] w fun e w'=> ∃D,fA aA n F D∧bA D w e w':=by
 obtain⟨AR,aq⟩: ∃AR:Array Value,AR=madeCells #[()] 49152:=⟨_,rfl⟩
 have cn: ∀w:World,(Instr.makeSlice 22 (I 49152) (I 49152)).run prog w= .ok (.slice (some ⟨w,0,none⟩) 49152 49152) (w.alloc (.cells AR TI)):=fun w=>by rw[aq];exact run_make_row' _ _ (I 0) 8 underlying22 (by kernel_rfl) rfl .i64 .i64 49152 (by omega) (by omega) w
 have bm:Hid (AR.toList=ivs (lD 0)):=by show _=_;rw[aq,(oB 49152).1];rfl
 have bo:Hid (AR.size=49152):=by show _=_;rw[aq];exact(oB 49152).2
 clear aq;go_enter func140,ntmps140;go_wp2;have ME:=(show Mem w ((w.alloc (.cells #[aA,aB,.slice p n cap] TH3)).alloc (.cells AR TI)) [aI w TI 1 (some ⟨w.heap.size+1,0,none⟩) (49152) (49152) (ivs (lD 0)),aJ w w TH3 #[aA,aB,.slice p n cap]]from by rw[←bm.out];exact((Mem.start w).c0 TH3 #[aA,aB,.slice p n cap]).lit TI 1 49152 _ AR (by simp) (by rw[bo.out]) (by simp[maxLen]))
 clear bm bo cn;go_loopw [4] (fun i wr=> ∃(k:Nat),k≤49152∧i=I k∧Mem w wr [aI w TI 1 (some ⟨w.heap.size+1,0,none⟩) (49152) (49152) (ivs (lD k)),aJ w w TH3 #[aA,aB,.slice p n cap]]) (fun i _=>49152-(intOf i).toNat)
 case atStart=>exact⟨0,aRv _,rfl,ME⟩
 case round=>
  clear ME;obtain⟨k,hk,rfl,hM⟩:=hrel;have HM:=hM;clear hM;by_cases hlt:k<49152
  ·have i1:(0:Int)≤(k:Int):=by omega
   have i2:(k:Int)<49152:=by omega
   have cl:wr.cell? ⟨w.heap.size+1,k,none⟩=some (I 0):=by have:=(HM.ow 0).cellAt k (by omega);rw[this];simp[ivs,aGx hlt]
   have cf:wr.frozen? ⟨w.heap.size+1,k,none⟩=false:=(HM.ow 0).frozenAt k;have M2:=(show Mem w (wr.setCell ⟨w.heap.size+1,k,none⟩ (I (-1))) [aI w TI 1 (some ⟨w.heap.size+1,0,none⟩) (49152) (49152) (ivs (lD (k+1))),aJ w w TH3 #[aA,aB,.slice p n cap]]from by rw[←aGw hlt,←eF];exact HM.ostore (i:=0) rfl k (I (-1)))
   clear HM;go_wp2;go_roundw
   case rel=>exact⟨k+1,by omega,by go_num,M2⟩
   case measure=>simp[intOf];omega
  obtain rfl:k=49152:=by omega
  have M1:=(show Mem w wr [aI w TI 1 (some ⟨w.heap.size+1,0,none⟩) (49152) (49152) (ivs (jB NN (fE F 0))),aJ w w TH3 #[aA,aB,.slice p n cap]]from by have:=HM;rwa[show lD 49152=jB NN (fE F 0)from aGy F]at this)
  clear HM hlt hk;have M2:=(M1.made0 TI 1 wr rfl)
  clear M1;have c0:(wr.alloc (.cells #[] TI)).cell? ⟨w,0,none⟩=some (I aA):=(M2.bk 2).cell 0;have c1:(wr.alloc (.cells #[] TI)).cell? ⟨w,1,none⟩=some (I aB):=(M2.bk 2).cell 1;have c2:(wr.alloc (.cells #[] TI)).cell? ⟨w,2,none⟩=some (.slice p n cap):=(M2.bk 2).cell 2;go_wp2_with fail;clear c0 c1 c2;refine(HF _ M2.ext).mono ?_;rintro e w3 ⟨q3,c3,rfl,b4⟩;have M3:=(M2.adv b4)
  clear M2 b4;have dm:(2:Int) ^ n=(P:Int):=by rw[hP.out];simp
  have dq:IntKind.i64.wrap (P:Int)=(P:Int):=aRr _ (by omega);go_wp2;go_loopw [5,7] (fun v i wx=> ∃(m:Nat) (q:OA) (l lc:Nat),m≤P∧m%2=0∧i=I m∧v= .slice q l lc∧l=(fE F m).length∧Mem w wx [aI w TI 1 (q) (l) (lc) (ivs (bG (fE F m))),aI w TI 1 (some ⟨w.heap.size+1,0,none⟩) (49152) (49152) (ivs (jB NN (fE F m))),aJ w w TH3 #[aA,aB,.slice p n cap]]) (fun _ i _=>P-(intOf i).toNat)
  case atStart=>exact⟨0,some ⟨wr,0,none⟩,0,0,aRv _,rfl,rfl,rfl,rfl,M3⟩
  case round=>
   clear M3;obtain⟨m,q,l,lc,hm,am,rfl,rfl,hl,hM⟩:=hrel;have HM:=hM;have HL:=xQ hl;have dk:l≤4096:=by have:=aD6 F m;omega
   clear hM hl;obtain⟨c0,c1,c2⟩:=(HM.bk 2).tri;by_cases hlt:m<P
   ·go_wp2_with fail;refine(b7 m _ (by omega)).mono ?_;rintro e wx ⟨rfl,rfl⟩;have h2:=aD5 (many:=F) am;by_cases hp:gZ m=F
    ·have t1:((gZ m:Int)==(F:Int))=true:=by simp[hp]
     rw[if_pos hp]at h2;have H2:=xQ h2;have g:=xQ (show l+1=(fE F (m+2)).length by rw[h2,aRx,←HL.out];rfl);clear h2 hp;have cm:m<49152:=by omega
     have i1:(0:Int)≤(m:Int):=by omega
     have i2:(m:Int)<49152:=by omega
     obtain⟨x0,b3⟩: ∃x0,(jB NN (fE F m))[m]? =some x0:=⟨_,aRq (by rw[zZ];exact cm)⟩
     have cl:wr.cell? ⟨w.heap.size+1,m,none⟩=some (I x0):=by have:=(HM.ow 1).cellAt m (by omega);rw[this];simp[ivs,b3]
     have cf:wr.frozen? ⟨w.heap.size+1,m,none⟩=false:=(HM.ow 1).frozenAt m;clear b3;go_wp2_with (at_builtin;refine cG fQ rfl _ _ rfl ((HM.ostore (i:=1) rfl m (I 0)).adv ((Ext.refl _).alloc (.cells #[m] TI))) 0 rfl rfl [I m] rfl (eJ _ _ _ 1 1 _ (by first|rfl|simp) (by first|rfl|simp) (by simp[maxLen])) (fun u hu=>by obtain rfl:=aSc.1 hu;rfl) (by omega) ?_;intro q7 c7 w6 M6);have M7:=(show Mem w w6 [aI w TI 1 (q7) (l+1) (c7) (ivs (bG (fE F (m+2)))),aI w TI 1 (some ⟨w.heap.size+1,0,none⟩) (49152) (49152) (ivs (jB NN (fE F (m+2)))),aJ w w TH3 #[aA,aB,.slice p n cap]]from by rw[H2.out,aGb,←eF,bG,aSq,ivs,aSq];exact M6)
     clear M6 HM cl cf c0 c1 c2;go_wp2;go_roundw
     case rel=>exact⟨m+2,q7,l+1,c7,by omega,by omega,by go_num,rfl,g.out,M7⟩
     case measure=>simp[intOf];omega
    have t1:((gZ m:Int)==(F:Int))=false:=by simp;omega
    rw[if_neg hp,aSe]at h2;have H2:=xQ h2;clear h2;go_wp2;go_roundw
    case rel=>exact⟨m+2,q,l,lc,by omega,by omega,by go_num,rfl,by rw[H2.out];exact HL.out,by rw[H2.out];exact HM⟩
    case measure=>simp[intOf];omega
   obtain rfl:m=P:=by omega
   have a0:fE F m=wM n F:=by rw[hP.out];rfl
   rw[a0]at HL HM;have cp:n≤12:=hn;have hI:=Inv.begin (adj:=yQ aA n MM) (src:=wM n F) (N:=NN) (aI6 cp) wL;have bg:=xQ hI;clear hI a0 hlt;go_wp2_with fail;clear c0 c1 c2;refine(HN _ HM.ext).mono ?_;rintro e w4 ⟨qB,cB,o,rfl,ad,ab,b5⟩;obtain⟨gB,rfl,c5,c6⟩:=eX ab.1 (by rw[ad.1];omega);have M4:=(HM.nestNew b5 ab (aRp _))
   have HR:=xQ ad;clear ab b5 ad HM;go_wp2;go_loopw [5,9] (fun v i wx=> ∃(k:Nat) (q:OA) (l lc:Nat) (D:List Int) (Q:List Nat),k≤l∧i=I k∧v= .slice q l lc∧l=Q.length∧(∀x∈D,-1≤x∧x≤(k:Int))∧Inv (yQ aA n MM) (wM n F) NN k (D,Q)∧Mem w wx [aI w TI 1 (q) (l) (lc) (ivs (bG Q)),aI w TI 1 (some ⟨w.heap.size+1,0,none⟩) (49152) (49152) (ivs D),qW w TSS TI 1 (some ⟨gB,0,none⟩) cB o,aJ w w TH3 #[aA,aB,.slice p n cap]]) (fun _ i _=>49152-(intOf i).toNat)
   case atStart=>exact⟨0,q,l,lc,_,wM n F,aRv _,rfl,rfl,HL.out,aOz _ _,bg.out,M4.pick [1,2,0,3] (by decide) rfl⟩
   case round=>
    clear M4 bg HL;obtain⟨k,q,l,lc,D,Q,hk,rfl,rfl,hl,br,ak,hM⟩:=hrel;have HM:=hM;have HL:=xQ hl;have bb:=xQ br;have HI:=xQ ak;have dj:l≤49152:=by have:=ak.qlen;rw[hl];exact this
    clear hM hl br ak;by_cases hlt:k<l
    ·obtain⟨gL,rfl,dh,di⟩:=HM.so 0;obtain⟨u,hu⟩: ∃u,Q[k]? =some u:=⟨_,aRq (by rw[←HL.out];exact hlt)⟩
     have an:u<49152:=HI.out.bd u (aRs hu);obtain⟨C,hC⟩: ∃C,C=u/4096:=⟨_,rfl⟩
     obtain⟨S,hS⟩: ∃S,S=u%4096:=⟨_,rfl⟩
     have ct:C<12:=by omega
     have cy:S<4096:=by omega
     have HU:=xQ hu;have HC:=xQ hC;have HS:=xQ hS;have i1:(0:Int)≤(k:Int):=by omega
     have i2:(k:Int)<(l:Int):=by omega
     have d1:(u:Int)/4096=(C:Int):=by omega
     have d2:(u:Int)%4096=(S:Int):=by omega
     have cu:wr.cell? ⟨gL,k,none⟩=some (I u):=by have:=(HM.ow 0).cellAt k (by omega);rw[this];simp[ivs,bG,hu]
     clear hu hC hS;go_wp2;rw[d2];clear cu d1 d2;go_loopw [5,12] (fun v i wx=> ∃(h:Nat) (q:OA) (l2 lc:Nat) (D2:List Int) (Q2:List Nat),h≤n∧i=I h∧v= .slice q l2 lc∧l2=Q2.length∧(D2,Q2)=bQ (D.getD u 0+1) (D,Q) (jD aA n MM u h)∧(∀x∈D2,-1≤x∧x≤(k:Int)+1)∧Mem w wx [aI w TI 1 (q) (l2) (lc) (ivs (bG Q2)),aI w TI 1 (some ⟨w.heap.size+1,0,none⟩) (49152) (49152) (ivs D2),qW w TSS TI 1 (some ⟨gB,0,none⟩) cB o,aJ w w TH3 #[aA,aB,.slice p n cap]]) (fun _ i _=>n-(intOf i).toNat)
     case atStart=>exact⟨0,_,l,lc,D,Q,aRv _,rfl,rfl,HL.out,rfl,fun x hx=>by have:=bb x hx;omega,HM⟩
     case round=>
      clear HM;obtain⟨h,q,l2,lc,D2,Q2,hh,rfl,rfl,al,af,t,hM⟩:=hrel;have HM:=hM;have g:=xQ al;have s:=xQ af;have a:=xQ t;clear hM al af t;obtain⟨c0,c1,c2⟩:=(HM.bk 3).tri;by_cases hlth:h<n
      ·obtain⟨Ph,ah⟩: ∃Ph:Nat,Ph=2 ^ h:=⟨_,rfl⟩
       have cx:Ph≤2048:=by rw[ah];exact aRz (aS0 (by omega) (show h≤11 by omega)) (by decide)
       have dp:(2:Int) ^ h=(Ph:Int):=by rw[ah];simp
       have ds:IntKind.i64.wrap (Ph:Int)=(Ph:Int):=aRr _ (by omega);obtain⟨A,hA⟩: ∃A:Nat,A=S/Ph:=⟨_,rfl⟩
       have dd:(S:Int)/(Ph:Int)=(A:Int):=by rw[hA];simp
       have ax:S.testBit h=decide (A%2=1):=by rw[hA,ah];exact aIt S h
       have bh:=xQ ah;have av:=xQ ax;obtain⟨cs,a9⟩: ∃r,o[h]? =some r:=⟨_,aRq (by rw[HR.out.1];exact hlth)⟩
       obtain⟨qi,ni,ci,xi⟩:=cs;obtain⟨bz,b6⟩:=HR.out.2 h _ a9;dsimp only at bz b6;subst bz b6;have a4:=xQ a9;have rl:=HR.out.1;have RL:=xQ rl;clear ah ax hA a9;obtain⟨nb,au⟩: ∃nb,nb=aS aA n h:=⟨_,rfl⟩
       rw[←au]at a4;have a3:=xQ au;have co:nb.length≤12:=by rw[au];exact aRz (aSt _ _) (by simp;omega)
       clear au rl;have k1:(0:Int)≤(h:Int):=by omega
       have k2:(h:Int)<(n:Int):=by omega
       go_wp2;clear c0 c1 c2;cases hb:S.testBit h with
       |false=>
        have t1:(A:Int)%2=0:=by have:=av.out;rw[hb]at this;simp at this;omega
        have b:=xQ (show jD aA n MM u (h+1)=jD aA n MM u h by rw[xA,aRi (by rw[←show S=u%MM from HS.out];exact hb),aSe]);clear hb;go_loopw [5,13] (fun v i wx=>i=I 0∧v= .slice q l2 lc∧wr=wx) (fun _ _ _=>0)
        case atStart=>exact⟨rfl,rfl,rfl⟩
        case round=>
         obtain⟨rfl,rfl,rfl⟩:=hrel;go_wp2;go_roundw
         case rel=>exact⟨h+1,q,l2,lc,D2,Q2,by omega,by go_num,rfl,g.out,by rw[b.out];exact s.out,a.out,HM⟩
         case measure=>simp[intOf];omega
       |true=>
        have t1:(A:Int)%2=1:=by have:=av.out;rw[hb]at this;simp at this;omega
        have ar:=xQ (show(u%MM).testBit h=true by rw[←show S=u%MM from HS.out];exact hb);clear hb;go_loopw [5,13] (fun v i wx=> ∃(j:Nat) (q:OA) (l2 lc:Nat) (D2:List Int) (Q2:List Nat),j≤nb.length∧i=I j∧v= .slice q l2 lc∧l2=Q2.length∧(D2,Q2)=bQ (D.getD u 0+1) (D,Q) (jD aA n MM u h++kA aA n MM u h j)∧(∀x∈D2,-1≤x∧x≤(k:Int)+1)∧Mem w wx [aI w TI 1 (q) (l2) (lc) (ivs (bG Q2)),aI w TI 1 (some ⟨w.heap.size+1,0,none⟩) (49152) (49152) (ivs D2),qW w TSS TI 1 (some ⟨gB,0,none⟩) cB o,aJ w w TH3 #[aA,aB,.slice p n cap]]) (fun _ i _=>nb.length-(intOf i).toNat)
        case atStart=>exact⟨0,q,l2,lc,D2,Q2,aRv _,rfl,rfl,g.out,by rw[aGm,aSe];exact s.out,a.out,HM⟩
        case round=>
         clear HM g s a;obtain⟨j,q,l2,lc,D2,Q2,hj,rfl,rfl,al,af,t,hM⟩:=hrel;have HM:=hM;have b0: ∀v∈jD aA n MM u h++kA aA n MM u h j,v∈yQ aA n MM u:=aGn hlth ar.out;have y:=aDy HI HU.out (fun v hv=>tE hn u v an hv) b0 af;have bp:D2.length=49152:=y.len;have df:Q2.length≤49152:=pB y.nodup y.bd;have cq:u∈Q:=aRs HU.out;have ba:D2.getD u 0=D.getD u 0:=y.same u cq;obtain⟨r,hr⟩:=y.pre;dsimp only at hr;have ch:k<Q2.length:=by rw[hr,aRx];have:=HL.out;omega
         have bq:Q2[k]? =some u:=by have:=HL.out;rw[hr,aS8 (by omega)];exact HU.out
         have z:=dL (D:=D2) (v:=u) (by omega);have cz: -1≤D2.getD u 0:=(t _ z.2).1;have c4:D2.getD u 0≤(k:Int):=by rw[ba];exact(bb _ (dL (D:=D) (v:=u) (by have:=HI.out.len;dsimp only at this;rw[this];exact an)).2).2
         have s:=xQ af;have a:=xQ t;have g:=xQ al;have bi:=xQ bq;have be:=xQ z.1;have bj:=xQ ba;have b8:=xQ bp;have db:l2≤49152:=by omega
         have da:k<l2:=by omega
         have cb:wr.cell? ⟨gB,h,none⟩=some (.slice qi nb ci):=by have:=(HM.nest (i:=2) rfl).1.cellAt h (by rw[RL.out];omega);rw[this,aS9,a4.out];rfl
         have az:=(HM.nest (i:=2) rfl).2 _ (aRs a4.out);have aw:=xQ (show wr.ownsRow w TI 1 (.slice qi nb ci) nb.length (ivs (bG nb))from az);clear hM b0 y hr af t al bq z ba az bp ch;by_cases hltj:j<nb.length
         ·obtain⟨gi,rfl,c8,c9⟩:=eX aw (by omega);obtain⟨f,hf⟩: ∃f,nb[j]? =some f:=⟨_,aRq hltj⟩
          have cg:f<n:=(bU.1 (by rw[←a3.out];exact aRs hf:f∈aS aA n h)).1;have bu:(aS aA n h)[j]? =some f:=by rw[←a3.out];exact hf
          have a2:=xQ bu;have cj:wr.cell? ⟨gi,j,none⟩=some (I f):=by have:=aw.out.cellAt j (by omega);rw[this];simp[ivs,bG,hf]
          clear hf bu;have m1:(0:Int)≤(j:Int):=by omega
          have m2:(j:Int)<(nb.length:Int):=by omega
          obtain⟨Pf,ag⟩: ∃Pf:Nat,Pf=2 ^ f:=⟨_,rfl⟩
          have cw:Pf≤2048:=by rw[ag];exact aRz (aS0 (by omega) (show f≤11 by omega)) (by decide)
          have dn:(2:Int) ^ f=(Pf:Int):=by rw[ag];simp
          have dr:IntKind.i64.wrap (Pf:Int)=(Pf:Int):=aRr _ (by omega);obtain⟨B,hB⟩: ∃B:Nat,B=S/Pf:=⟨_,rfl⟩
          have dc:(S:Int)/(Pf:Int)=(B:Int):=by rw[hB];simp
          have bs:S.testBit f=decide (B%2=1):=by rw[hB,ag];exact aIt S f
          have bc:=xQ bs;have ca:=xQ ag;clear ag hB bs;cases hb:S.testBit f with
          |true=>
           have t2:(B:Int)%2=1:=by have:=bc.out;rw[hb]at this;simp at this;omega
           have b:=xQ (aMt a2 (show(u%MM).testBit f=true by rw[←show S=u%MM from HS.out];exact hb));clear hb;go_wp2;go_roundw
           case rel=>exact⟨j+1,q,l2,lc,D2,Q2,by omega,by go_num,rfl,g.out,by rw[b.out];exact s.out,a.out,HM⟩
           case measure=>simp[intOf];omega
          |false=>
           have t2:(B:Int)%2=0:=by have:=bc.out;rw[hb]at this;simp at this;omega
           have ai:(u%MM).testBit f=false:=by rw[←show S=u%MM from HS.out];exact hb
           have b:=xQ (aK2 a2 ai);have a1:=(wE ar.out).1;have dg:Ph≤S:=by rw[bh.out,show S=u%MM from HS.out];exact a1
           obtain⟨v,hv⟩: ∃v,v=gM MM (u/MM) (u%MM) f h:=⟨_,rfl⟩
           have cr:v<49152:=tE hn u v an (nM.2 ⟨f,h,cg,hlth,gE hlth (by exact aRs a2.out),ai,ar.out,hv⟩);have b1:v=dS C f h*4096+(S-Ph+Pf):=by rw[hv,bh.out,ca.out,show C=u/MM from HC.out,show S=u%MM from HS.out];rfl
           rw[←hv]at b;have bl:=xQ b1;clear hb ai a1 hv b1;have s1:(0:Int)≤(v:Int):=by omega
           have s2:(v:Int)<49152:=by omega
           obtain⟨dv,bt,ay⟩: ∃dv,D2[v]? =some dv∧D2.getD v 0=dv:=⟨_,(dL (D:=D2) (v:=v) (by rw[b8.out];exact cr)).1,rfl⟩
           have bf:=xQ bt;have ae:=xQ ay;clear bt ay;by_cases hcar:f=C
           ·have t3:((f:Int)==(C:Int))=true:=by simp[hcar]
            have ao:(h:Int)*4096+(S:Int)-(Ph:Int)+(Pf:Int)=(v:Int):=by have:=bl.out;unfold dS at this;rw[if_pos hcar]at this;omega
            have a5:=xQ ao;clear ao hcar;go_wp2;have a6:IntKind.i64.wrap ((h:Int)*4096)=(h:Int)*4096:=aRr _ (by omega);have am:IntKind.i64.wrap ((h:Int)*4096+(S:Int))=(h:Int)*4096+(S:Int):=aRr _ (by omega);have a7:IntKind.i64.wrap ((h:Int)*4096+(S:Int)-(Ph:Int))=(h:Int)*4096+(S:Int)-(Ph:Int):=aRr _ (by omega);have a8:IntKind.i64.wrap ((h:Int)*4096+(S:Int)-(Ph:Int)+(Pf:Int))=(v:Int):=(aRr _ (by omega)).trans a5.out;go_quiet (fail);generalize ap:World.drewN wr _=wi;have hX:Ext wr wi:=by rw[←ap];exact Ext.drewN (Ext.refl _) _
            clear ap a6 am a7 a8;have MI:=(HM.adv hX)
            have HE:=xQ (show Mem w wi [aI w TI 1 (q) (l2) (lc) (ivs (bG Q2)),aI w TI 1 (some ⟨w.heap.size+1,0,none⟩) (49152) (49152) (ivs D2),qW w TSS TI 1 (some ⟨gB,0,none⟩) cB o,aJ w w TH3 #[aA,aB,.slice p n cap]]from MI);clear hX HM MI cb cj;have cl:wi.cell? ⟨w.heap.size+1,v,none⟩=some (I dv):=by have:=(HE.out.ow 1).cellAt v (by omega);rw[this];simp[ivs,bf.out]
            by_cases hd0:dv<0
            ·have t4:decide (dv<0)=true:=by simp[hd0]
             have d:Hid ((D2.set v (D.getD u 0+1),Q2++ [v])=bQ (D.getD u 0+1) (D,Q) (jD aA n MM u h++kA aA n MM u h (j+1))):=by show _=_;rw[b.out,←aSh,eD,←s.out,lK (by rw[ae.out];exact hd0)]
             obtain⟨du,z⟩: ∃du,du=D2.getD u 0:=⟨_,rfl⟩
             have aa:=xQ z;have cc: -1≤du:=by omega
             have ce:du≤(k:Int):=by omega
             have b2:IntKind.i64.wrap (du+1)=du+1:=aRr _ (by omega);obtain⟨gl,rfl,bv,bw⟩:=HE.out.so 0;have n0:(0:Int)≤(u:Int):=by omega
             have n1:(u:Int)<49152:=by omega
             have n2:(k:Int)<(l2:Int):=by omega
             have ck:wi.cell? ⟨gl,k,none⟩=some (I u):=by have:=(HE.out.ow 0).cellAt k (by omega);rw[this];simp[ivs,bG,bi.out]
             have cd:wi.cell? ⟨w.heap.size+1,u,none⟩=some (I du):=by have:=(HE.out.ow 1).cellAt u (by omega);rw[this,aa.out];simp only[ivs,aS9,be.out,aSm]
             have cf:wi.frozen? ⟨w.heap.size+1,v,none⟩=false:=(HE.out.ow 1).frozenAt v;clear z hd0;go_wp2_with (at_builtin;refine cG fQ rfl _ _ rfl ((HE.out.ostore (i:=1) rfl v (I (du+1))).adv ((Ext.refl _).alloc (.cells #[v] TI))) 0 rfl rfl [I v] rfl (eJ _ _ _ 1 1 _ (by first|rfl|simp) (by first|rfl|simp) (by simp[maxLen])) (fun u hu=>by obtain rfl:=aSc.1 hu;rfl) (by omega) ?_;intro q7 c7 w6 M6);have M7:=(show Mem w w6 [aI w TI 1 (q7) (l2+1) (c7) (ivs (bG (Q2++ [v]))),aI w TI 1 (some ⟨w.heap.size+1,0,none⟩) (49152) (49152) (ivs (D2.set v (du+1))),qW w TSS TI 1 (some ⟨gB,0,none⟩) cB o,aJ w w TH3 #[aA,aB,.slice p n cap]]from by rw[←eF,bG,aSq,ivs,aSq];exact M6)
             clear M6 HE cl ck cd cf;go_wp2;go_roundw
             case rel=>exact⟨j+1,q7,l2+1,c7,D2.set v (du+1),Q2++ [v],by omega,by go_num,rfl,by rw[aRx,←g.out];rfl,by rw[←d.out,←bj.out,←aa.out],fun x hx=>by
              rcases aT1 hx with h|h
              ·exact a x h
              ·omega,M7⟩
             case measure=>simp[intOf];omega
            have t4:decide (dv<0)=false:=by simp[hd0]
            have d:Hid ((D2,Q2)=bQ (D.getD u 0+1) (D,Q) (jD aA n MM u h++kA aA n MM u h (j+1))):=by show _=_;rw[b.out,←aSh,eD,←s.out,nG (by rw[ae.out];exact hd0)]
            clear hd0;go_wp2;go_roundw
            case rel=>exact⟨j+1,q,l2,lc,D2,Q2,by omega,by go_num,rfl,g.out,d.out,a.out,HE.out⟩
            case measure=>simp[intOf];omega
           have t3:((f:Int)==(C:Int))=false:=by simp;omega
           have ao:(C:Int)*4096+(S:Int)-(Ph:Int)+(Pf:Int)=(v:Int):=by have:=bl.out;unfold dS at this;rw[if_neg hcar]at this;omega
           have a5:=xQ ao;clear ao hcar;go_wp2;have a6:IntKind.i64.wrap ((C:Int)*4096)=(C:Int)*4096:=aRr _ (by omega);have am:IntKind.i64.wrap ((C:Int)*4096+(S:Int))=(C:Int)*4096+(S:Int):=aRr _ (by omega);have a7:IntKind.i64.wrap ((C:Int)*4096+(S:Int)-(Ph:Int))=(C:Int)*4096+(S:Int)-(Ph:Int):=aRr _ (by omega);have a8:IntKind.i64.wrap ((C:Int)*4096+(S:Int)-(Ph:Int)+(Pf:Int))=(v:Int):=(aRr _ (by omega)).trans a5.out;go_quiet (fail);generalize ap:World.drewN wr _=wi;have hX:Ext wr wi:=by rw[←ap];exact Ext.drewN (Ext.refl _) _
           clear ap a6 am a7 a8;have MI:=(HM.adv hX)
           have HE:=xQ (show Mem w wi [aI w TI 1 (q) (l2) (lc) (ivs (bG Q2)),aI w TI 1 (some ⟨w.heap.size+1,0,none⟩) (49152) (49152) (ivs D2),qW w TSS TI 1 (some ⟨gB,0,none⟩) cB o,aJ w w TH3 #[aA,aB,.slice p n cap]]from MI);clear hX HM MI cb cj;have cl:wi.cell? ⟨w.heap.size+1,v,none⟩=some (I dv):=by have:=(HE.out.ow 1).cellAt v (by omega);rw[this];simp[ivs,bf.out]
           by_cases hd0:dv<0
           ·have t4:decide (dv<0)=true:=by simp[hd0]
            have d:Hid ((D2.set v (D.getD u 0+1),Q2++ [v])=bQ (D.getD u 0+1) (D,Q) (jD aA n MM u h++kA aA n MM u h (j+1))):=by show _=_;rw[b.out,←aSh,eD,←s.out,lK (by rw[ae.out];exact hd0)]
            obtain⟨du,z⟩: ∃du,du=D2.getD u 0:=⟨_,rfl⟩
            have aa:=xQ z;have cc: -1≤du:=by omega
            have ce:du≤(k:Int):=by omega
            have b2:IntKind.i64.wrap (du+1)=du+1:=aRr _ (by omega);obtain⟨gl,rfl,bv,bw⟩:=HE.out.so 0;have n0:(0:Int)≤(u:Int):=by omega
            have n1:(u:Int)<49152:=by omega
            have n2:(k:Int)<(l2:Int):=by omega
            have ck:wi.cell? ⟨gl,k,none⟩=some (I u):=by have:=(HE.out.ow 0).cellAt k (by omega);rw[this];simp[ivs,bG,bi.out]
            have cd:wi.cell? ⟨w.heap.size+1,u,none⟩=some (I du):=by have:=(HE.out.ow 1).cellAt u (by omega);rw[this,aa.out];simp only[ivs,aS9,be.out,aSm]
            have cf:wi.frozen? ⟨w.heap.size+1,v,none⟩=false:=(HE.out.ow 1).frozenAt v;clear z hd0;go_wp2_with (at_builtin;refine cG fQ rfl _ _ rfl ((HE.out.ostore (i:=1) rfl v (I (du+1))).adv ((Ext.refl _).alloc (.cells #[v] TI))) 0 rfl rfl [I v] rfl (eJ _ _ _ 1 1 _ (by first|rfl|simp) (by first|rfl|simp) (by simp[maxLen])) (fun u hu=>by obtain rfl:=aSc.1 hu;rfl) (by omega) ?_;intro q7 c7 w6 M6);have M7:=(show Mem w w6 [aI w TI 1 (q7) (l2+1) (c7) (ivs (bG (Q2++ [v]))),aI w TI 1 (some ⟨w.heap.size+1,0,none⟩) (49152) (49152) (ivs (D2.set v (du+1))),qW w TSS TI 1 (some ⟨gB,0,none⟩) cB o,aJ w w TH3 #[aA,aB,.slice p n cap]]from by rw[←eF,bG,aSq,ivs,aSq];exact M6)
            clear M6 HE cl ck cd cf;go_wp2;go_roundw
            case rel=>exact⟨j+1,q7,l2+1,c7,D2.set v (du+1),Q2++ [v],by omega,by go_num,rfl,by rw[aRx,←g.out];rfl,by rw[←d.out,←bj.out,←aa.out],fun x hx=>by
             rcases aT1 hx with h|h
             ·exact a x h
             ·omega,M7⟩
            case measure=>simp[intOf];omega
           have t4:decide (dv<0)=false:=by simp[hd0]
           have d:Hid ((D2,Q2)=bQ (D.getD u 0+1) (D,Q) (jD aA n MM u h++kA aA n MM u h (j+1))):=by show _=_;rw[b.out,←aSh,eD,←s.out,nG (by rw[ae.out];exact hd0)]
           clear hd0;go_wp2;go_roundw
           case rel=>exact⟨j+1,q,l2,lc,D2,Q2,by omega,by go_num,rfl,g.out,d.out,a.out,HE.out⟩
           case measure=>simp[intOf];omega
         have b:Hid (jD aA n MM u h++kA aA n MM u h j=jD aA n MM u (h+1)):=by show _=_;rw[xA,aO3 ar.out,←a3.out,show j=nb.length by omega]
         rw[b.out]at s;obtain rfl:nb.length=j:=by omega
         go_wp2;go_roundw
         case rel=>exact⟨h+1,q,l2,lc,D2,Q2,by omega,by go_num,rfl,g.out,s.out,a.out,HM⟩
         case measure=>simp[intOf];omega
      obtain rfl:n=h:=by omega
      have hI:=HI.out.step HU (fun v hv=>tE hn u v an hv);have he:=s.out;obtain⟨r,hr⟩:=(aDy HI HU.out (fun v hv=>tE hn u v an hv) (aK3 (aRp _)) he).pre;dsimp only at hr;have bx:k+1≤l2:=by rw[g.out,hr,aRx];have:=HL.out;omega
      clear hr;rw[tW]at he;rw[←he]at hI;have b9:=xQ hI;clear hI he;go_wp2;go_roundw
      case rel=>exact⟨k+1,q,l2,lc,D2,Q2,bx,by go_num,rfl,g.out,fun x hx=>by have:=a x hx;omega,b9.out,HM⟩
      case measure=>simp[intOf];omega
    have aj:=xQ (HI.out.dist (by have:=HL.out;dsimp only;omega));go_wp2;go_ret;refine⟨D,aj.out,dG aj.out.len (HM.ow 1) HM.ext⟩
end
theorem aGz (aA aB:Int)(p:OA)(n cap:Nat)(xs:List Int)(w:World)(hS:Sl w p n cap 1 (ivs xs))(a:aO aA aB xs=true):
  U 140 #[aH aA aB p n cap] w fun e w'=> ∃D,fA aA n (bP xs).length D∧bA D w e w':=by
 have hl:=hS.ilen;obtain⟨g1,g2,g3,g4,g5,g6,g7⟩:=cE (cQ a);have hp:(2:Nat) ^ n≤2 ^ 12:=aS0 (by omega) (by omega);have b:(2:Nat) ^ n%2=0:=by obtain⟨m,hm⟩: ∃m,n=m+1:=⟨n-1,by omega⟩;rw[hm,Nat.pow_succ];omega
 refine aFt aA aB p n cap (bP xs).length (2 ^ n) w (by omega) (by omega) rfl (by omega) b (fun w' hx=> ?_) (fun m w' hm=>aH0 m w' (by omega)) (fun w' hx=>aBw aA aB p n cap xs w' (hS.ext hx) a);exact(sV aA aB p n cap xs w' (hS.ext hx) a).mono fun e w'' ⟨q,c,h1,_,h3⟩=>⟨q,c,h1,h3⟩
structure aAx (aA aB:Int) (xs:List Int) (D:List Int) (c:Nat) (id:Int) (j:Nat) (ys:List Int):Prop where
 ok:aO aA aB ys=true
 len:ys.length=xs.length
 free:aN ys=(gP aA xs.length (aV D) (c,aN xs) j).2
 at_:ys[(gP aA xs.length (aV D) (c,aN xs) j).1]? =some id
theorem aAl {aA aB:Int}{ys:List Int}{c:Nat}{id:Int}(a:aO aA aB ys=true)(hi:1≤id)(hc:ys[c]? =some id):iT aA aB ys id=(c:Int):=by
 unfold iT;rw[if_pos ⟨a,hi⟩];refine sR hc (fun hm=> ?_);unfold aO at a;rw[aRy]at a;obtain⟨h1,h2,h3⟩:=(fK _ _).1 a.2;obtain⟨d,b⟩:=aRt.1 hc;have e1:ys=ys.take c++ys.drop c:=(List.take_append_drop c ys).symm;have hd:id∈ys.drop c:=by rw[qP hc];simp
 rw[e1,aSl,List.nodup_append]at h3;exact h3.2.2 id (aSi.2 ⟨hm,by simp;omega⟩) id (aSi.2 ⟨hd,by simp;omega⟩) rfl
theorem aLj {aA aB:Int}{xs:List Int}{D:List Int}{c:Nat}{id:Int}(h:aO aA aB xs=true)(hc:xs[c]? =some id) (h0:id≠0) (hD:fA aA xs.length (bP xs).length D) {d:Nat} (hd:aV D c (aN xs)=d) {j:Nat} (hj:j<d) {ys:List Int} (hw:aAx aA aB xs D c id j ys):
  ∃(J:Nat) (es:List (Nat×Nat)),es=eO aA xs.length (aN ys)∧lJ aA aB ys=es.map jL∧J<es.length∧es[J]? =some (gO aA xs.length (aV D) (c,aN xs) j)∧
   (∀i e,i≤J→es[i]? =some e→e∈eO aA xs.length (aN ys)∧(aV D (dS (gP aA xs.length (aV D) (c,aN xs) j).1 e.1 e.2) (dC (aN ys) e.1 e.2)=(d:Int)-j-1↔i=J))∧
   ∀e,es[J]? =some e→aAx aA aB xs D c id (j+1) (bI aA aB ys (e.1:Int) (e.2:Int)):=by
 obtain⟨b1,b2,b3,b4,b5,b6,b7⟩:=cE (cQ h);have hp:=lG hc h0;obtain⟨e1,e2,e3⟩:=kW b5 b6 hD hp hd hj;obtain⟨g1,g2⟩:=jU b5 b6 hD hp hd j (by omega);have l:=aBl hw.ok;rw[hw.len]at l;have b:gO aA xs.length (aV D) (c,aN xs) j∈eO aA xs.length (aN ys):=by rw[hw.free];exact e2
 have k:(eO aA xs.length (aN ys)).find? (fun e=>decide (aV D (dS (gP aA xs.length (aV D) (c,aN xs) j).1 e.1 e.2) (dC (aN ys) e.1 e.2)=(d:Int)-j-1))=some (gO aA xs.length (aV D) (c,aN xs) j):=by have:=e1;unfold mM at this;rw[←hw.free,←g2]at*;rw[hw.free]at*;exact this
 have w:=List.find?_some k;obtain⟨J,m,a,g,n⟩:=aIk (p:=fun e:Nat×Nat=>decide (aV D (dS (gP aA xs.length (aV D) (c,aN xs) j).1 e.1 e.2) (dC (aN ys) e.1 e.2)=(d:Int)-j-1)) (d:=(0,0)) b w;rw[k]at a g;simp only[Option.getD_some]at a g;refine⟨J,_,rfl,l,m,a,fun i e hi he=>⟨aRs he,?_⟩,fun e he=> ?_⟩
 ·constructor
  ·intro hh;rcases Nat.lt_or_ge i J with u|r
   ·have:=n i e u he;simp only[decide_eq_false_iff_not]at this;exact absurd hh this
   exact Nat.le_antisymm hi r
  intro s;have o:some (gO aA xs.length (aV D) (c,aN xs) j)=some e:=by rw[←a,←s];exact he
  have q:=Option.some.inj o;rw[←q];exact of_decide_eq_true g
 rw[a]at he;injection he with he;subst he;have v:gO aA xs.length (aV D) (c,aN xs) j∈eO aA ys.length (aN ys):=by rw[hw.len];exact b
 obtain⟨m1,m2,m3,m4⟩:=uG hw.ok (f:=(gO aA xs.length (aV D) (c,aN xs) j).1) (t:=(gO aA xs.length (aV D) (c,aN xs) j).2) v;refine⟨iW _ _ hw.ok,by rw[dB,hw.len],?_,?_⟩
 ·rw[m3,e3,hw.free];rfl
 rw[e3];exact m4 _ _ hw.at_ h0
end Go.Proofs.YtbgkcehffiogcacGreatDoor
