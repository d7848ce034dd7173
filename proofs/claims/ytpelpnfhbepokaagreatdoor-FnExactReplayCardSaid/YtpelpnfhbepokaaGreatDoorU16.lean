/-
  Texts of this proof, packed (@packed).
-/
import Derived.Deep.OwnRows
import Derived.Test.YtpelpnfhbepokaaGreatDoorU10
import Derived.Test.YtpelpnfhbepokaaGreatDoorU15
namespace Go.Proofs.YtpelpnfhbepokaaGreatDoor
open Go.RowKit
set_option linter.unusedVariables false
set_option linter.unusedSimpArgs false
set_option maxHeartbeats 16000000
set_option maxRecDepth 100000
theorem mP (n:Nat):(madeCells #[Value.int .i64 0] n).toList=ivs (List.replicate n 0)∧(madeCells #[Value.int .i64 0] n).size=n:=by
 constructor
 ·apply List.ext_getElem<;>simp[madeCells,Nat.mod_one]
 simp[madeCells]
theorem aLc (N:Nat)(src:List Nat): ∀x∈iL N src,-1≤x∧x≤((0:Nat):Int):=by
 unfold iL
 suffices h: ∀(l:List Nat) (A:List Int),(∀x∈A,-1≤x∧x≤((0:Nat):Int))→ ∀x∈l.foldl (fun A v=>A.set v 0) A,-1≤x∧x≤((0:Nat):Int)from h src _ (fun x hx=>by rw[List.mem_replicate]at hx;omega)
 intro l;induction l with
 |nil=>intro A h;exact h
 |cons v l ih=>
  intro A h
  exact ih (A.set v 0) (fun x hx=>by
   rcases List.mem_or_eq_of_mem_set hx with h1|h1
   ·exact h x h1
   ·omega)
theorem aDo (aA aB:Int)(p:OA)(n cap F P:Nat)(w:World)(dn:4≤n)(hn:n≤12)(hP:Hid (P=2 ^ n))(cx:P≤4096)(dg:P%2=0)
  (HF:xC 151 #[aH aA aB p n cap] w fun w' e w''=> ∃q c,e= .returned (.slice q F c)∧Ext w' w'')
  (b8:Hid (∀(m:Nat) w',m≤4096→Calls Tryz.prog 206 #[(m:Int)] w' fun e w''=>e= .returned (.int .i64 (fV m:Int))∧w'=w''))
  (HN:Hid (∀w',Ext w w'→Calls Tryz.prog 207 #[aH aA aB p n cap] w' (aB1 aA n w'))):
  Calls Tryz.prog 181 #[aH aA aB p n cap] w fun e w'=> ∃D,eK aA n F D∧bH D w e w':=by
 obtain⟨AR,ar⟩: ∃AR:Array Value,AR=madeCells #[()] 49152:=⟨_,rfl⟩
 have co: ∀w:World,(Instr.makeSlice 23 (.int .i64 49152) (.int .i64 49152)).run Tryz.prog w= .ok (.slice (some ⟨w.heap.size,0,none⟩) 49152 49152) (w.alloc (.cells AR TI)):=fun w=>by rw[ar];exact run_make_row' _ _ (.int .i64 0) 8 Tryz.underlying23 (by kernel_rfl) rfl .i64 .i64 49152 (by omega) (by omega) w
 have bo:Hid (AR.toList=ivs (kD 0)):=by show _=_;rw[ar,(mP 49152).1];rfl
 have bp:Hid (AR.size=49152):=by show _=_;rw[ar];exact(mP 49152).2
 clear ar;go_enter Tryz.func181,Tryz.ntmps181;go_wp2;have ME:=(show Mem w ((w.alloc (.cells #[aA,aB,.slice p n cap] TH3)).alloc (.cells AR TI)) [aI w.heap.size TI 1 (some ⟨w.heap.size+1,0,none⟩) (49152) (49152) (ivs (kD 0)),aJ w.heap.size (w.heap.size) TH3 #[aA,aB,.slice p n cap]]from by rw[←bo.out];exact((Mem.start w).c0 TH3 #[aA,aB,.slice p n cap]).lit TI 1 49152 _ AR (by simp) (by rw[bp.out]) (by simp[maxLen]))
 clear bo bp co;go_loopw [4] (fun i wr=> ∃(k:Nat),k≤49152∧i= .int .i64 (k:Int)∧Mem w wr [aI w.heap.size TI 1 (some ⟨w.heap.size+1,0,none⟩) (49152) (49152) (ivs (kD k)),aJ w.heap.size (w.heap.size) TH3 #[aA,aB,.slice p n cap]]) (fun i _=>49152-(intOf i).toNat)
 case atStart=>exact⟨0,Nat.zero_le _,rfl,ME⟩
 case round=>
  clear ME;obtain⟨k,hk,rfl,hM⟩:=hrel;have HM:=hM;clear hM;have ag:=(HM.hi 1)
  by_cases hlt:k<49152
  ·have i1:(0:Int)≤(k:Int):=by omega
   have i2:(k:Int)<49152:=by omega
   have cl:wr.cell? ⟨w.heap.size+1,k,none⟩=some (.int .i64 0):=by have:=(HM.ow 0).cellAt k (by omega);rw[this];simp[ivs,aEj hlt]
   have cf:wr.frozen? ⟨w.heap.size+1,k,none⟩=false:=(HM.ow 0).frozenAt k;have M2:=(show Mem w (wr.setCell ⟨w.heap.size+1,k,none⟩ (.int .i64 (-1))) [aI w.heap.size TI 1 (some ⟨w.heap.size+1,0,none⟩) (49152) (49152) (ivs (kD (k+1))),aJ w.heap.size (w.heap.size) TH3 #[aA,aB,.slice p n cap]]from by rw[←aEi hlt,←dN];exact HM.ostore (i:=0) rfl k (.int .i64 (-1)))
   clear HM;go_wp2;go_roundw
   case rel=>exact⟨k+1,by omega,by go_num,M2⟩
   case measure=>simp[intOf];omega
  obtain rfl:k=49152:=by omega
  have M1:=(show Mem w wr [aI w.heap.size TI 1 (some ⟨w.heap.size+1,0,none⟩) (49152) (49152) (ivs (iL NN (eO F 0))),aJ w.heap.size (w.heap.size) TH3 #[aA,aB,.slice p n cap]]from by have:=HM;rwa[show kD 49152=iL NN (eO F 0)from aEk F]at this)
  clear HM hlt hk;have M2:=(M1.made0 TI 1 wr.heap.size rfl)
  clear M1;have c0:(wr.alloc (.cells #[] TI)).cell? ⟨w.heap.size,0,none⟩=some (.int .i64 aA):=(M2.bk 2).cell 0;have c1:(wr.alloc (.cells #[] TI)).cell? ⟨w.heap.size,1,none⟩=some (.int .i64 aB):=(M2.bk 2).cell 1;have c2:(wr.alloc (.cells #[] TI)).cell? ⟨w.heap.size,2,none⟩=some (.slice p n cap):=(M2.bk 2).cell 2;go_wp2_with fail;clear c0 c1 c2;refine(HF _ M2.ext).mono ?_;rintro e w3 ⟨q3,c3,rfl,b5⟩;have M3:=(M2.adv b5)
  clear M2 b5 ag;have dp:(2:Int) ^ n=(P:Int):=by rw[hP.out];simp
  have ds:IntKind.i64.wrap (P:Int)=(P:Int):=IntWalk.i64_in _ (by omega);have ct:=(M3.hi 2)
  go_wp2;go_loopw [5,7] (fun v i wx=> ∃(m:Nat) (q:OA) (l lc:Nat),m≤P∧m%2=0∧i= .int .i64 (m:Int)∧v= .slice q l lc∧l=(eO F m).length∧Mem w wx [aI w.heap.size TI 1 (q) (l) (lc) (ivs (bA (eO F m))),aI w.heap.size TI 1 (some ⟨w.heap.size+1,0,none⟩) (49152) (49152) (ivs (iL NN (eO F m))),aJ w.heap.size (w.heap.size) TH3 #[aA,aB,.slice p n cap]]) (fun _ i _=>P-(intOf i).toNat)
  case atStart=>exact⟨0,some ⟨wr.heap.size,0,none⟩,0,0,Nat.zero_le _,rfl,rfl,rfl,rfl,M3⟩
  case round=>
   clear M3 ct;obtain⟨m,q,l,lc,hm,an,rfl,rfl,hl,hM⟩:=hrel;have HM:=hM;have HL:=xQ hl;have dm:l≤4096:=by have:=aB9 F m;omega
   clear hM hl;obtain⟨c0,c1,c2⟩:=(HM.bk 2).tri;have ag:=(HM.hi 2)
   by_cases hlt:m<P
   ·have t0:decide ((m:Int)<(P:Int))=true:=by simp[hlt]
    go_wp2_with fail;refine(b8 m _ (by omega)).mono ?_;rintro e wx ⟨rfl,rfl⟩;have h2:=aB8 (many:=F) an;by_cases hp:fV m=F
    ·have t1:((fV m:Int)==(F:Int))=true:=by simp[hp]
     rw[if_pos hp]at h2;have H2:=xQ h2;have g:=xQ (show l+1=(eO F (m+2)).length by rw[h2,List.length_append,←HL.out];rfl);clear h2 hp;have cn:m<49152:=by omega
     have i1:(0:Int)≤(m:Int):=by omega
     have i2:(m:Int)<49152:=by omega
     obtain⟨x0,b4⟩: ∃x0,(iL NN (eO F m))[m]? =some x0:=⟨_,List.getElem?_eq_getElem (by rw[xO];exact cn)⟩
     have cl:wr.cell? ⟨w.heap.size+1,m,none⟩=some (.int .i64 x0):=by have:=(HM.ow 1).cellAt m (by omega);rw[this];simp[ivs,b4]
     have cf:wr.frozen? ⟨w.heap.size+1,m,none⟩=false:=(HM.ow 1).frozenAt m;clear b4;go_wp2_with (at_builtin;refine cR fX rfl _ _ rfl ((HM.ostore (i:=1) rfl m (.int .i64 0)).adv ((Ext.refl _).alloc (.cells #[(m:Int)] TI))) 0 rfl rfl [.int .i64 (m:Int)] rfl (eU _ _ _ 1 1 _ (by first|rfl|simp) (by first|rfl|simp) (by simp[maxLen])) (fun u hu=>by obtain rfl:=List.mem_singleton.1 hu;rfl) (by omega) ?_;intro q7 c7 w6 M6);have M7:=(show Mem w w6 [aI w.heap.size TI 1 (q7) (l+1) (c7) (ivs (bA (eO F (m+2)))),aI w.heap.size TI 1 (some ⟨w.heap.size+1,0,none⟩) (49152) (49152) (ivs (iL NN (eO F (m+2)))),aJ w.heap.size (w.heap.size) TH3 #[aA,aB,.slice p n cap]]from by rw[H2.out,aE3,←dN,bA,List.map_append,ivs,List.map_append];exact M6)
     clear M6 HM cl cf c0 c1 c2;go_wp2;go_roundw
     case rel=>exact⟨m+2,q7,l+1,c7,by omega,by omega,by go_num,rfl,g.out,M7⟩
     case measure=>simp[intOf];omega
    have t1:((fV m:Int)==(F:Int))=false:=by simp;omega
    rw[if_neg hp,List.append_nil]at h2;have H2:=xQ h2;clear h2;go_wp2;go_roundw
    case rel=>exact⟨m+2,q,l,lc,by omega,by omega,by go_num,rfl,by rw[H2.out];exact HL.out,by rw[H2.out];exact HM⟩
    case measure=>simp[intOf];omega
   obtain rfl:m=P:=by omega
   have a1:eO F m=uF n F:=by rw[hP.out];rfl
   rw[a1]at HL HM;have cq:n≤12:=hn;have hI:=Inv.begin (adj:=wB aA n MM) (src:=uF n F) (N:=NN) (aFr cq) uE;have bh:=xQ hI;clear hI a1 hlt;go_wp2_with fail;clear c0 c1 c2;refine(HN _ HM.ext).mono ?_;rintro e w4 ⟨qB,cB,o,rfl,ad,ab,b6⟩;obtain⟨gB,rfl,c8,c9⟩:=eG ab.1 (by rw[ad.1];omega);have M4:=(HM.nestNew b6 ab (Nat.le_refl _))
   have HR:=xQ ad;clear ab b6 ad HM;go_wp2;go_loopw [5,9] (fun v i wx=> ∃(k:Nat) (q:OA) (l lc:Nat) (D:List Int) (Q:List Nat),k≤l∧i= .int .i64 (k:Int)∧v= .slice q l lc∧l=Q.length∧(∀x∈D,-1≤x∧x≤(k:Int))∧Inv (wB aA n MM) (uF n F) NN k (D,Q)∧Mem w wx [aI w.heap.size TI 1 (q) (l) (lc) (ivs (bA Q)),aI w.heap.size TI 1 (some ⟨w.heap.size+1,0,none⟩) (49152) (49152) (ivs D),pA w.heap.size TSS TI 1 (some ⟨gB,0,none⟩) cB o,aJ w.heap.size (w.heap.size) TH3 #[aA,aB,.slice p n cap]]) (fun _ i _=>49152-(intOf i).toNat)
   case atStart=>exact⟨0,q,l,lc,_,uF n F,Nat.zero_le _,rfl,rfl,HL.out,aLc _ _,bh.out,M4.pick [1,2,0,3] (by decide) rfl⟩
   case round=>
    clear M4 bh HL;obtain⟨k,q,l,lc,D,Q,hk,rfl,rfl,hl,bs,al,hM⟩:=hrel;have HM:=hM;have HL:=xQ hl;have bc:=xQ bs;have HI:=xQ al;have dl:l≤49152:=by have:=al.qlen;rw[hl];exact this
    clear hM hl bs al;by_cases hlt:k<l
    ·obtain⟨gL,rfl,dj,dk⟩:=HM.so 0;obtain⟨u,hu⟩: ∃u,Q[k]? =some u:=⟨_,List.getElem?_eq_getElem (by rw[←HL.out];exact hlt)⟩
     have ao:u<49152:=HI.out.bd u (List.mem_of_getElem? hu);obtain⟨C,hC⟩: ∃C,C=u/4096:=⟨_,rfl⟩
     obtain⟨S,hS⟩: ∃S,S=u%4096:=⟨_,rfl⟩
     have cw:C<12:=by omega
     have c4:S<4096:=by omega
     have HU:=xQ hu;have HC:=xQ hC;have HS:=xQ hS;have i1:(0:Int)≤(k:Int):=by omega
     have i2:(k:Int)<(l:Int):=by omega
     have d1:(u:Int)/4096=(C:Int):=by omega
     have d2:(u:Int)%4096=(S:Int):=by omega
     have cu:wr.cell? ⟨gL,k,none⟩=some (.int .i64 (u:Int)):=by have:=(HM.ow 0).cellAt k (by omega);rw[this];simp[ivs,bA,hu]
     have ag:=(HM.hi 3)
     clear hu hC hS;go_wp2;rw[d2];clear cu d1 d2;go_loopw [5,12] (fun v i wx=> ∃(h:Nat) (q:OA) (l2 lc:Nat) (D2:List Int) (Q2:List Nat),h≤n∧i= .int .i64 (h:Int)∧v= .slice q l2 lc∧l2=Q2.length∧(D2,Q2)=bF (D.getD u 0+1) (D,Q) (iN aA n MM u h)∧(∀x∈D2,-1≤x∧x≤(k:Int)+1)∧Mem w wx [aI w.heap.size TI 1 (q) (l2) (lc) (ivs (bA Q2)),aI w.heap.size TI 1 (some ⟨w.heap.size+1,0,none⟩) (49152) (49152) (ivs D2),pA w.heap.size TSS TI 1 (some ⟨gB,0,none⟩) cB o,aJ w.heap.size (w.heap.size) TH3 #[aA,aB,.slice p n cap]]) (fun _ i _=>n-(intOf i).toNat)
     case atStart=>exact⟨0,_,l,lc,D,Q,Nat.zero_le _,rfl,rfl,HL.out,rfl,fun x hx=>by have:=bc x hx;omega,HM⟩
     case round=>
      clear HM ag;obtain⟨h,q,l2,lc,D2,Q2,hh,rfl,rfl,am,af,t,hM⟩:=hrel;have HM:=hM;have g:=xQ am;have s:=xQ af;have a:=xQ t;clear hM am af t;obtain⟨c0,c1,c2⟩:=(HM.bk 3).tri;have ag:=(HM.hi 3)
      by_cases hlth:h<n
      ·have t0:decide ((h:Int)<(n:Int))=true:=by simp[hlth]
       obtain⟨Ph,ai⟩: ∃Ph:Nat,Ph=2 ^ h:=⟨_,rfl⟩
       have cz:Ph≤2048:=by rw[ai];exact Nat.le_trans (Nat.pow_le_pow_right (by omega) (show h≤11 by omega)) (by decide)
       have dr:(2:Int) ^ h=(Ph:Int):=by rw[ai];simp
       have dw:IntKind.i64.wrap (Ph:Int)=(Ph:Int):=IntWalk.i64_in _ (by omega);obtain⟨A,hA⟩: ∃A:Nat,A=S/Ph:=⟨_,rfl⟩
       have df:(S:Int)/(Ph:Int)=(A:Int):=by rw[hA];simp
       have ay:S.testBit h=decide (A%2=1):=by rw[hA,ai];exact aGa S h
       have bi:=xQ ai;have aw:=xQ ay;obtain⟨cv,ba⟩: ∃r,o[h]? =some r:=⟨_,List.getElem?_eq_getElem (by rw[HR.out.1];exact hlth)⟩
       obtain⟨qi,ni,ci,xi⟩:=cv;obtain⟨b0,b7⟩:=HR.out.2 h _ ba;dsimp only at b0 b7;subst b0 b7;have a5:=xQ ba;have rl:=HR.out.1;have RL:=xQ rl;clear ai ay hA ba;obtain⟨nb,av⟩: ∃nb,nb=aP aA n h:=⟨_,rfl⟩
       rw[←av]at a5;have a4:=xQ av;have cp:nb.length≤12:=by rw[av];exact Nat.le_trans (List.length_filter_le _ _) (by simp;omega)
       clear av rl;have k1:(0:Int)≤(h:Int):=by omega
       have k2:(h:Int)<(n:Int):=by omega
       go_wp2;clear c0 c1 c2;cases hb:S.testBit h with
       |false=>
        have t1:(A:Int)%2=0:=by have:=aw.out;rw[hb]at this;simp at this;omega
        have b:=xQ (show iN aA n MM u (h+1)=iN aA n MM u h by rw[uU,aNe (by rw[←show S=u%MM from HS.out];exact hb),List.append_nil]);clear hb;go_loopw [5,13] (fun v i wx=>i= .int .i64 0∧v= .slice q l2 lc∧wr=wx) (fun _ _ _=>0)
        case atStart=>exact⟨rfl,rfl,rfl⟩
        case round=>
         obtain⟨rfl,rfl,rfl⟩:=hrel;go_wp2;go_roundw
         case rel=>exact⟨h+1,q,l2,lc,D2,Q2,by omega,by go_num,rfl,g.out,by rw[b.out];exact s.out,a.out,HM⟩
         case measure=>simp[intOf];omega
       |true=>
        have t1:(A:Int)%2=1:=by have:=aw.out;rw[hb]at this;simp at this;omega
        have au:=xQ (show(u%MM).testBit h=true by rw[←show S=u%MM from HS.out];exact hb);clear hb;go_loopw [5,13] (fun v i wx=> ∃(j:Nat) (q:OA) (l2 lc:Nat) (D2:List Int) (Q2:List Nat),j≤nb.length∧i= .int .i64 (j:Int)∧v= .slice q l2 lc∧l2=Q2.length∧(D2,Q2)=bF (D.getD u 0+1) (D,Q) (iN aA n MM u h++jH aA n MM u h j)∧(∀x∈D2,-1≤x∧x≤(k:Int)+1)∧Mem w wx [aI w.heap.size TI 1 (q) (l2) (lc) (ivs (bA Q2)),aI w.heap.size TI 1 (some ⟨w.heap.size+1,0,none⟩) (49152) (49152) (ivs D2),pA w.heap.size TSS TI 1 (some ⟨gB,0,none⟩) cB o,aJ w.heap.size (w.heap.size) TH3 #[aA,aB,.slice p n cap]]) (fun _ i _=>nb.length-(intOf i).toNat)
        case atStart=>exact⟨0,q,l2,lc,D2,Q2,Nat.zero_le _,rfl,rfl,g.out,by rw[aEb,List.append_nil];exact s.out,a.out,HM⟩
        case round=>
         clear HM g s a ag;obtain⟨j,q,l2,lc,D2,Q2,hj,rfl,rfl,am,af,t,hM⟩:=hrel;have HM:=hM;have b1: ∀v∈iN aA n MM u h++jH aA n MM u h j,v∈wB aA n MM u:=aEc hlth au.out;have y:=aBx HI HU.out (fun v hv=>rF hn u v ao hv) b1 af;have bq:D2.length=49152:=y.len;have dh:Q2.length≤49152:=nR y.nodup y.bd;have cr:u∈Q:=List.mem_of_getElem? HU.out;have bb:D2.getD u 0=D.getD u 0:=y.same u cr;obtain⟨r,hr⟩:=y.pre;dsimp only at hr;have cm:k<Q2.length:=by rw[hr,List.length_append];have:=HL.out;omega
         have br:Q2[k]? =some u:=by have:=HL.out;rw[hr,List.getElem?_append_left (by omega)];exact HU.out
         have z:=dB (D:=D2) (v:=u) (by omega);have c5: -1≤D2.getD u 0:=(t _ z.2).1;have c6:D2.getD u 0≤(k:Int):=by rw[bb];exact(bc _ (dB (D:=D) (v:=u) (by have:=HI.out.len;dsimp only at this;rw[this];exact ao)).2).2
         have s:=xQ af;have a:=xQ t;have g:=xQ am;have bj:=xQ br;have bf:=xQ z.1;have bl:=xQ bb;have b9:=xQ bq;have dd:l2≤49152:=by omega
         have dc:k<l2:=by omega
         have cb:wr.cell? ⟨gB,h,none⟩=some (.slice qi nb.length ci):=by have:=(HM.nest (i:=2) rfl).1.cellAt h (by rw[RL.out];omega);rw[this,List.getElem?_map,a5.out];rfl
         have a0:=(HM.nest (i:=2) rfl).2 _ (List.mem_of_getElem? a5.out);have ax:=xQ (show wr.ownsRow w.heap.size TI 1 (.slice qi nb.length ci) nb.length (ivs (bA nb))from a0);clear hM b1 y hr af t am br z bb a0 bq cm;by_cases hltj:j<nb.length
         ·obtain⟨gi,rfl,da,db⟩:=eG ax (by omega);obtain⟨f,hf⟩: ∃f,nb[j]? =some f:=⟨_,List.getElem?_eq_getElem hltj⟩
          have ch:f<n:=(bM.1 (by rw[←a4.out];exact List.mem_of_getElem? hf:f∈aP aA n h)).1;have bv:(aP aA n h)[j]? =some f:=by rw[←a4.out];exact hf
          have a3:=xQ bv;have cj:wr.cell? ⟨gi,j,none⟩=some (.int .i64 (f:Int)):=by have:=ax.out.cellAt j (by omega);rw[this];simp[ivs,bA,hf]
          clear hf bv;have m1:(0:Int)≤(j:Int):=by omega
          have m2:(j:Int)<(nb.length:Int):=by omega
          obtain⟨Pf,ah⟩: ∃Pf:Nat,Pf=2 ^ f:=⟨_,rfl⟩
          have cy:Pf≤2048:=by rw[ah];exact Nat.le_trans (Nat.pow_le_pow_right (by omega) (show f≤11 by omega)) (by decide)
          have dq:(2:Int) ^ f=(Pf:Int):=by rw[ah];simp
          have dt:IntKind.i64.wrap (Pf:Int)=(Pf:Int):=IntWalk.i64_in _ (by omega);obtain⟨B,hB⟩: ∃B:Nat,B=S/Pf:=⟨_,rfl⟩
          have de:(S:Int)/(Pf:Int)=(B:Int):=by rw[hB];simp
          have bt:S.testBit f=decide (B%2=1):=by rw[hB,ah];exact aGa S f
          have be:=xQ bt;have cc:=xQ ah;clear ah hB bt;cases hb:S.testBit f with
          |true=>
           have t2:(B:Int)%2=1:=by have:=be.out;rw[hb]at this;simp at this;omega
           have b:=xQ (aJm a3 (show(u%MM).testBit f=true by rw[←show S=u%MM from HS.out];exact hb));clear hb;go_wp2;go_roundw
           case rel=>exact⟨j+1,q,l2,lc,D2,Q2,by omega,by go_num,rfl,g.out,by rw[b.out];exact s.out,a.out,HM⟩
           case measure=>simp[intOf];omega
          |false=>
           have t2:(B:Int)%2=0:=by have:=be.out;rw[hb]at this;simp at this;omega
           have aj:(u%MM).testBit f=false:=by rw[←show S=u%MM from HS.out];exact hb
           have b:=xQ (aH6 a3 aj);have a2:=(tV au.out).1;have di:Ph≤S:=by rw[bi.out,show S=u%MM from HS.out];exact a2
           obtain⟨v,hv⟩: ∃v,v=fO MM (u/MM) (u%MM) f h:=⟨_,rfl⟩
           have cs:v<49152:=rF hn u v ao (mF.2 ⟨f,h,ch,hlth,fL hlth (by exact List.mem_of_getElem? a3.out),aj,au.out,hv⟩);have b2:v=dF C f h*4096+(S-Ph+Pf):=by rw[hv,bi.out,cc.out,show C=u/MM from HC.out,show S=u%MM from HS.out];rfl
           rw[←hv]at b;have bm:=xQ b2;clear hb aj a2 hv b2;have s1:(0:Int)≤(v:Int):=by omega
           have s2:(v:Int)<49152:=by omega
           obtain⟨dv,bu,az⟩: ∃dv,D2[v]? =some dv∧D2.getD v 0=dv:=⟨_,(dB (D:=D2) (v:=v) (by rw[b9.out];exact cs)).1,rfl⟩
           have bg:=xQ bu;have ae:=xQ az;clear bu az;by_cases hcar:f=C
           ·have t3:((f:Int)==(C:Int))=true:=by simp[hcar]
            have ap:(h:Int)*4096+(S:Int)-(Ph:Int)+(Pf:Int)=(v:Int):=by have:=bm.out;unfold dF at this;rw[if_pos hcar]at this;omega
            have a6:=xQ ap;clear ap hcar;go_wp2;have a7:IntKind.i64.wrap ((h:Int)*4096)=(h:Int)*4096:=IntWalk.i64_in _ (by omega);have an:IntKind.i64.wrap ((h:Int)*4096+(S:Int))=(h:Int)*4096+(S:Int):=IntWalk.i64_in _ (by omega);have a8:IntKind.i64.wrap ((h:Int)*4096+(S:Int)-(Ph:Int))=(h:Int)*4096+(S:Int)-(Ph:Int):=IntWalk.i64_in _ (by omega);have a9:IntKind.i64.wrap ((h:Int)*4096+(S:Int)-(Ph:Int)+(Pf:Int))=(v:Int):=(IntWalk.i64_in _ (by omega)).trans a6.out;go_quiet (fail);generalize aq:World.drewN wr _=wi;have hX:Ext wr wi:=by rw[←aq];exact Ext.drewN (Ext.refl _) _
            clear aq a7 an a8 a9;have MI:=(HM.adv hX)
            have HE:=xQ (show Mem w wi [aI w.heap.size TI 1 (q) (l2) (lc) (ivs (bA Q2)),aI w.heap.size TI 1 (some ⟨w.heap.size+1,0,none⟩) (49152) (49152) (ivs D2),pA w.heap.size TSS TI 1 (some ⟨gB,0,none⟩) cB o,aJ w.heap.size (w.heap.size) TH3 #[aA,aB,.slice p n cap]]from MI);clear hX HM MI cb cj;have cl:wi.cell? ⟨w.heap.size+1,v,none⟩=some (.int .i64 dv):=by have:=(HE.out.ow 1).cellAt v (by omega);rw[this];simp[ivs,bg.out]
            by_cases hd0:dv<0
            ·have t4:decide (dv<0)=true:=by simp[hd0]
             have d:Hid ((D2.set v (D.getD u 0+1),Q2++ [v])=bF (D.getD u 0+1) (D,Q) (iN aA n MM u h++jH aA n MM u h (j+1))):=by show _=_;rw[b.out,←List.append_assoc,dL,←s.out,kN (by rw[ae.out];exact hd0)]
             obtain⟨du,z⟩: ∃du,du=D2.getD u 0:=⟨_,rfl⟩
             have aa:=xQ z;have ce: -1≤du:=by omega
             have cg:du≤(k:Int):=by omega
             have b3:IntKind.i64.wrap (du+1)=du+1:=IntWalk.i64_in _ (by omega);obtain⟨gl,rfl,bw,bx⟩:=HE.out.so 0;have n0:(0:Int)≤(u:Int):=by omega
             have n1:(u:Int)<49152:=by omega
             have n2:(k:Int)<(l2:Int):=by omega
             have ck:wi.cell? ⟨gl,k,none⟩=some (.int .i64 (u:Int)):=by have:=(HE.out.ow 0).cellAt k (by omega);rw[this];simp[ivs,bA,bj.out]
             have cd:wi.cell? ⟨w.heap.size+1,u,none⟩=some (.int .i64 du):=by have:=(HE.out.ow 1).cellAt u (by omega);rw[this,aa.out];simp only[ivs,List.getElem?_map,bf.out,Option.map_some]
             have cf:wi.frozen? ⟨w.heap.size+1,v,none⟩=false:=(HE.out.ow 1).frozenAt v;clear z hd0;go_wp2_with (at_builtin;refine cR fX rfl _ _ rfl ((HE.out.ostore (i:=1) rfl v (.int .i64 (du+1))).adv ((Ext.refl _).alloc (.cells #[(v:Int)] TI))) 0 rfl rfl [.int .i64 (v:Int)] rfl (eU _ _ _ 1 1 _ (by first|rfl|simp) (by first|rfl|simp) (by simp[maxLen])) (fun u hu=>by obtain rfl:=List.mem_singleton.1 hu;rfl) (by omega) ?_;intro q7 c7 w6 M6);have M7:=(show Mem w w6 [aI w.heap.size TI 1 (q7) (l2+1) (c7) (ivs (bA (Q2++ [v]))),aI w.heap.size TI 1 (some ⟨w.heap.size+1,0,none⟩) (49152) (49152) (ivs (D2.set v (du+1))),pA w.heap.size TSS TI 1 (some ⟨gB,0,none⟩) cB o,aJ w.heap.size (w.heap.size) TH3 #[aA,aB,.slice p n cap]]from by rw[←dN,bA,List.map_append,ivs,List.map_append];exact M6)
             clear M6 HE cl ck cd cf;go_wp2;go_roundw
             case rel=>exact⟨j+1,q7,l2+1,c7,D2.set v (du+1),Q2++ [v],by omega,by go_num,rfl,by rw[List.length_append,←g.out];rfl,by rw[←d.out,←bl.out,←aa.out],fun x hx=>by
              rcases List.mem_or_eq_of_mem_set hx with h|h
              ·exact a x h
              ·omega,M7⟩
             case measure=>simp[intOf];omega
            have t4:decide (dv<0)=false:=by simp[hd0]
            have d:Hid ((D2,Q2)=bF (D.getD u 0+1) (D,Q) (iN aA n MM u h++jH aA n MM u h (j+1))):=by show _=_;rw[b.out,←List.append_assoc,dL,←s.out,lZ (by rw[ae.out];exact hd0)]
            clear hd0;go_wp2;go_roundw
            case rel=>exact⟨j+1,q,l2,lc,D2,Q2,by omega,by go_num,rfl,g.out,d.out,a.out,HE.out⟩
            case measure=>simp[intOf];omega
           have t3:((f:Int)==(C:Int))=false:=by simp;omega
           have ap:(C:Int)*4096+(S:Int)-(Ph:Int)+(Pf:Int)=(v:Int):=by have:=bm.out;unfold dF at this;rw[if_neg hcar]at this;omega
           have a6:=xQ ap;clear ap hcar;go_wp2;have a7:IntKind.i64.wrap ((C:Int)*4096)=(C:Int)*4096:=IntWalk.i64_in _ (by omega);have an:IntKind.i64.wrap ((C:Int)*4096+(S:Int))=(C:Int)*4096+(S:Int):=IntWalk.i64_in _ (by omega);have a8:IntKind.i64.wrap ((C:Int)*4096+(S:Int)-(Ph:Int))=(C:Int)*4096+(S:Int)-(Ph:Int):=IntWalk.i64_in _ (by omega);have a9:IntKind.i64.wrap ((C:Int)*4096+(S:Int)-(Ph:Int)+(Pf:Int))=(v:Int):=(IntWalk.i64_in _ (by omega)).trans a6.out;go_quiet (fail);generalize aq:World.drewN wr _=wi;have hX:Ext wr wi:=by rw[←aq];exact Ext.drewN (Ext.refl _) _
           clear aq a7 an a8 a9;have MI:=(HM.adv hX)
           have HE:=xQ (show Mem w wi [aI w.heap.size TI 1 (q) (l2) (lc) (ivs (bA Q2)),aI w.heap.size TI 1 (some ⟨w.heap.size+1,0,none⟩) (49152) (49152) (ivs D2),pA w.heap.size TSS TI 1 (some ⟨gB,0,none⟩) cB o,aJ w.heap.size (w.heap.size) TH3 #[aA,aB,.slice p n cap]]from MI);clear hX HM MI cb cj;have cl:wi.cell? ⟨w.heap.size+1,v,none⟩=some (.int .i64 dv):=by have:=(HE.out.ow 1).cellAt v (by omega);rw[this];simp[ivs,bg.out]
           by_cases hd0:dv<0
           ·have t4:decide (dv<0)=true:=by simp[hd0]
            have d:Hid ((D2.set v (D.getD u 0+1),Q2++ [v])=bF (D.getD u 0+1) (D,Q) (iN aA n MM u h++jH aA n MM u h (j+1))):=by show _=_;rw[b.out,←List.append_assoc,dL,←s.out,kN (by rw[ae.out];exact hd0)]
            obtain⟨du,z⟩: ∃du,du=D2.getD u 0:=⟨_,rfl⟩
            have aa:=xQ z;have ce: -1≤du:=by omega
            have cg:du≤(k:Int):=by omega
            have b3:IntKind.i64.wrap (du+1)=du+1:=IntWalk.i64_in _ (by omega);obtain⟨gl,rfl,bw,bx⟩:=HE.out.so 0;have n0:(0:Int)≤(u:Int):=by omega
            have n1:(u:Int)<49152:=by omega
            have n2:(k:Int)<(l2:Int):=by omega
            have ck:wi.cell? ⟨gl,k,none⟩=some (.int .i64 (u:Int)):=by have:=(HE.out.ow 0).cellAt k (by omega);rw[this];simp[ivs,bA,bj.out]
            have cd:wi.cell? ⟨w.heap.size+1,u,none⟩=some (.int .i64 du):=by have:=(HE.out.ow 1).cellAt u (by omega);rw[this,aa.out];simp only[ivs,List.getElem?_map,bf.out,Option.map_some]
            have cf:wi.frozen? ⟨w.heap.size+1,v,none⟩=false:=(HE.out.ow 1).frozenAt v;clear z hd0;go_wp2_with (at_builtin;refine cR fX rfl _ _ rfl ((HE.out.ostore (i:=1) rfl v (.int .i64 (du+1))).adv ((Ext.refl _).alloc (.cells #[(v:Int)] TI))) 0 rfl rfl [.int .i64 (v:Int)] rfl (eU _ _ _ 1 1 _ (by first|rfl|simp) (by first|rfl|simp) (by simp[maxLen])) (fun u hu=>by obtain rfl:=List.mem_singleton.1 hu;rfl) (by omega) ?_;intro q7 c7 w6 M6);have M7:=(show Mem w w6 [aI w.heap.size TI 1 (q7) (l2+1) (c7) (ivs (bA (Q2++ [v]))),aI w.heap.size TI 1 (some ⟨w.heap.size+1,0,none⟩) (49152) (49152) (ivs (D2.set v (du+1))),pA w.heap.size TSS TI 1 (some ⟨gB,0,none⟩) cB o,aJ w.heap.size (w.heap.size) TH3 #[aA,aB,.slice p n cap]]from by rw[←dN,bA,List.map_append,ivs,List.map_append];exact M6)
            clear M6 HE cl ck cd cf;go_wp2;go_roundw
            case rel=>exact⟨j+1,q7,l2+1,c7,D2.set v (du+1),Q2++ [v],by omega,by go_num,rfl,by rw[List.length_append,←g.out];rfl,by rw[←d.out,←bl.out,←aa.out],fun x hx=>by
             rcases List.mem_or_eq_of_mem_set hx with h|h
             ·exact a x h
             ·omega,M7⟩
            case measure=>simp[intOf];omega
           have t4:decide (dv<0)=false:=by simp[hd0]
           have d:Hid ((D2,Q2)=bF (D.getD u 0+1) (D,Q) (iN aA n MM u h++jH aA n MM u h (j+1))):=by show _=_;rw[b.out,←List.append_assoc,dL,←s.out,lZ (by rw[ae.out];exact hd0)]
           clear hd0;go_wp2;go_roundw
           case rel=>exact⟨j+1,q,l2,lc,D2,Q2,by omega,by go_num,rfl,g.out,d.out,a.out,HE.out⟩
           case measure=>simp[intOf];omega
         have b:Hid (iN aA n MM u h++jH aA n MM u h j=iN aA n MM u (h+1)):=by show _=_;rw[uU,aKp au.out,←a4.out,show j=nb.length by omega]
         rw[b.out]at s;obtain rfl:nb.length=j:=by omega
         go_wp2;go_roundw
         case rel=>exact⟨h+1,q,l2,lc,D2,Q2,by omega,by go_num,rfl,g.out,s.out,a.out,HM⟩
         case measure=>simp[intOf];omega
      obtain rfl:n=h:=by omega
      have hI:=HI.out.step HU (fun v hv=>rF hn u v ao hv);have he:=s.out;obtain⟨r,hr⟩:=(aBx HI HU.out (fun v hv=>rF hn u v ao hv) (aH7 (Nat.le_refl _)) he).pre;dsimp only at hr;have bz:k+1≤l2:=by rw[g.out,hr,List.length_append];have:=HL.out;omega
      clear hr;rw[rX]at he;rw[←he]at hI;have ca:=xQ hI;clear hI he;go_wp2;go_roundw
      case rel=>exact⟨k+1,q,l2,lc,D2,Q2,bz,by go_num,rfl,g.out,fun x hx=>by have:=a x hx;omega,ca.out,HM⟩
      case measure=>simp[intOf];omega
    have ak:=xQ (HI.out.dist (by have:=HL.out;dsimp only;omega));go_wp2;go_ret;refine⟨D,ak.out,dP ak.out.len (HM.ow 1) HM.ext⟩
end Go.Proofs.YtpelpnfhbepokaaGreatDoor
namespace Go.Proofs.YtpelpnfhbepokaaGreatDoor
open Go.RowKit
set_option linter.unusedVariables false
set_option linter.unusedSimpArgs false
theorem aEl (aA aB:Int)(p:OA)(n cap:Nat)(xs:List Int)(w:World)(hS:Sl w p n cap 1 (ivs xs))(a:aN aA aB xs=true):
  Calls Tryz.prog 181 #[aH aA aB p n cap] w fun e w'=> ∃D,eK aA n (bE xs).length D∧bH D w e w':=by
 have hl:=hS.ilen;obtain⟨g1,g2,g3,g4,g5,g6,g7⟩:=cG (cK a);have hp:(2:Nat) ^ n≤2 ^ 12:=Nat.pow_le_pow_right (by omega) (by omega);have d:(2:Nat) ^ 12=4096:=by decide
 have b:(2:Nat) ^ n%2=0:=by obtain⟨m,hm⟩: ∃m,n=m+1:=⟨n-1,by omega⟩;rw[hm,Nat.pow_succ];omega
 refine aDo aA aB p n cap (bE xs).length (2 ^ n) w (by omega) (by omega) rfl (by omega) b (fun w' hx=> ?_) (fun m w' hm=>aEm m w' (by omega)) (fun w' hx=>aA4 aA aB p n cap xs w' (hS.ext hx) a);exact(qU aA aB p n cap xs w' (hS.ext hx) a).mono fun e w'' ⟨q,c,h1,_,h3⟩=>⟨q,c,h1,h3⟩
structure yV (aA aB:Int) (xs:List Int) (D:List Int) (c:Nat) (id:Int) (j:Nat) (ys:List Int):Prop where
 ok:aN aA aB ys=true
 len:ys.length=xs.length
 free:aM ys=(gP aA xs.length (aT D) (c,aM xs) j).2
 at_:ys[(gP aA xs.length (aT D) (c,aM xs) j).1]? =some id
theorem yM {aA aB:Int}{ys:List Int}{c:Nat}{id:Int}(a:aN aA aB ys=true)(hi:1≤id)(hc:ys[c]? =some id):iC aA aB ys id=(c:Int):=by
 unfold iC;rw[if_pos ⟨a,hi⟩];refine qS hc (fun hm=> ?_);unfold aN at a;rw[Bool.and_eq_true]at a;obtain⟨h1,h2,h3⟩:=(gC _ _).1 a.2;obtain⟨d,b⟩:=List.getElem?_eq_some_iff.1 hc;have e1:ys=ys.take c++ys.drop c:=(List.take_append_drop c ys).symm;have hd:id∈ys.drop c:=by rw[oR hc];simp
 rw[e1,List.filter_append,List.nodup_append]at h3;exact h3.2.2 id (List.mem_filter.2 ⟨hm,by simp;omega⟩) id (List.mem_filter.2 ⟨hd,by simp;omega⟩) rfl
theorem aIg {aA aB:Int}{xs:List Int}{D:List Int}{c:Nat}{id:Int}(h:aN aA aB xs=true)(hc:xs[c]? =some id) (h0:id≠0) (hD:eK aA xs.length (bE xs).length D) {d:Nat} (hd:aT D c (aM xs)=d) {j:Nat} (hj:j<d) {ys:List Int} (hw:yV aA aB xs D c id j ys):
  ∃(J:Nat) (es:List (Nat×Nat)),es=dS aA xs.length (aM ys)∧kM aA aB ys=es.map iR∧J<es.length∧es[J]? =some (fP aA xs.length (aT D) (c,aM xs) j)∧
   (∀i e,i≤J→es[i]? =some e→e∈dS aA xs.length (aM ys)∧(aT D (dF (gP aA xs.length (aT D) (c,aM xs) j).1 e.1 e.2) (cT (aM ys) e.1 e.2)=(d:Int)-j-1↔i=J))∧
   ∀e,es[J]? =some e→yV aA aB xs D c id (j+1) (bC aA aB ys (e.1:Int) (e.2:Int)):=by
 obtain⟨b1,b2,b3,b4,b5,b6,b7⟩:=cG (cK h);have hp:=kJ hc h0;obtain⟨e1,e2,e3⟩:=jW b5 b6 hD hp hd hj;obtain⟨g1,g2⟩:=jB b5 b6 hD hp hd j (by omega);have l:=zX hw.ok;rw[hw.len]at l;have b:fP aA xs.length (aT D) (c,aM xs) j∈dS aA xs.length (aM ys):=by rw[hw.free];exact e2
 have k:(dS aA xs.length (aM ys)).find? (fun e=>decide (aT D (dF (gP aA xs.length (aT D) (c,aM xs) j).1 e.1 e.2) (cT (aM ys) e.1 e.2)=(d:Int)-j-1))=some (fP aA xs.length (aT D) (c,aM xs) j):=by have:=e1;unfold lH at this;rw[←hw.free,←g2]at*;rw[hw.free]at*;exact this
 have w:=List.find?_some k;obtain⟨J,m,a,g,n⟩:=aG2 (p:=fun e:Nat×Nat=>decide (aT D (dF (gP aA xs.length (aT D) (c,aM xs) j).1 e.1 e.2) (cT (aM ys) e.1 e.2)=(d:Int)-j-1)) (d:=(0,0)) b w;rw[k]at a g;simp only[Option.getD_some]at a g;refine⟨J,_,rfl,l,m,a,fun i e hi he=>⟨List.mem_of_getElem? he,?_⟩,fun e he=> ?_⟩
 ·constructor
  ·intro hh;rcases Nat.lt_or_ge i J with u|r
   ·have:=n i e u he;simp only[decide_eq_false_iff_not]at this;exact absurd hh this
   exact Nat.le_antisymm hi r
  intro s;have o:some (fP aA xs.length (aT D) (c,aM xs) j)=some e:=by rw[←a,←s];exact he
  have q:=Option.some.inj o;rw[←q];exact of_decide_eq_true g
 rw[a]at he;injection he with he;subst he;have v:fP aA xs.length (aT D) (c,aM xs) j∈dS aA ys.length (aM ys):=by rw[hw.len];exact b
 obtain⟨m1,m2,m3,m4⟩:=sJ hw.ok (f:=(fP aA xs.length (aT D) (c,aM xs) j).1) (t:=(fP aA xs.length (aT D) (c,aM xs) j).2) v;refine⟨iH _ _ hw.ok,by rw[cS,hw.len],?_,?_⟩
 ·rw[m3,e3,hw.free];rfl
 rw[e3];exact m4 _ _ hw.at_ h0
end Go.Proofs.YtpelpnfhbepokaaGreatDoor
