/-
  Texts of this proof, packed (@packed).
-/
import Derived.Deep.OwnRows
import Derived.Test.YthfmmibomhhmpaaGreatDoorY14
namespace Go.Proofs.YthfmmibomhhmpaaGreatDoor
open Go.RowKit
set_option linter.unusedSimpArgs false
set_option linter.unusedVariables false
set_option maxHeartbeats 16000000
set_option maxRecDepth 100000
theorem aK6 (S h:Nat):S.testBit h=decide (S/2 ^ h%2=1):=by exact Nat.testBit_eq_decide_div_mod_eq
def lZ (k:Nat):List Int:=List.replicate k (-1)++List.replicate (NN-k) 0
theorem aIa {k:Nat}(h:k<NN):(lZ k).set k (-1)=lZ (k+1):=by
 unfold lZ;obtain⟨m,hm⟩: ∃m,NN-k=m+1:=⟨NN-k-1,by omega⟩
 rw[hm,show NN-(k+1)=m by omega,aV9];rw[aVj _ _ (by rw[List.length_replicate];exact aT5 _),List.length_replicate,aV0,aTk,List.replicate_succ',aTx];rfl
theorem aIb {k:Nat}(h:k<NN):(lZ k)[k]? =some 0:=by unfold lZ;rw[aTy (by rw[List.length_replicate];exact aT5 _),List.length_replicate,aV0];rw[aV1,if_pos (by omega)]
def fQ (many m:Nat):List Nat:=(List.range m).filter (fun s=> !s.testBit 0&&decide (iN s=many))
theorem aIc (many:Nat):lZ NN=jP NN (fQ many 0):=by unfold lZ jP fQ;rw[aV0,List.replicate_zero,aTv];rfl
theorem aEb {many m:Nat}(hm:m%2=0):fQ many (m+2)=fQ many m++(if iN m=many then [m]else []):=by
 unfold fQ;rw[aUt,aUt,aU2,aU2,aTx];have h0:m.testBit 0=false:=by rw[aV3];simp;omega
 have h1:(m+1).testBit 0=true:=by rw[aV3];simp;omega
 congr 1;by_cases hp:iN m=many
 ·simp only[List.filter_cons,List.filter_nil,h0,h1];simp[hp]
 simp only[List.filter_cons,List.filter_nil,h0,h1];simp[hp]
theorem aEc (many m:Nat):(fQ many m).length≤m:=by unfold fQ;exact aTg (aUb _ _) (by simp)
def fB (aA:Int)(n M s h:Nat):List Nat:=if(s%M).testBit h then((aU aA n h).filter (fun f=> !(s%M).testBit f)).map (fun f=>iE M (s/M) (s%M) f h)else []
def jR (aA:Int)(n M s h:Nat):List Nat:=(List.range h).flatMap (fB aA n M s)
def kP (aA:Int)(n M s h j:Nat):List Nat:=(((aU aA n h).take j).filter (fun f=> !(s%M).testBit f)).map (fun f=>iE M (s/M) (s%M) f h)
theorem vG (aA:Int)(n M s:Nat):jR aA n M s n=aA3 aA n M s:=rfl
theorem yT (aA:Int)(n M s h:Nat):jR aA n M s (h+1)=jR aA n M s h++fB aA n M s h:=by unfold jR;rw[aUt,aTz];simp
theorem aSx {aA:Int}{n M s h:Nat}(hb:(s%M).testBit h=false):fB aA n M s h= []:=by unfold fB;rw[hb];rfl
theorem aPm {aA:Int}{n M s h:Nat}(hb:(s%M).testBit h=true):fB aA n M s h=kP aA n M s h (aU aA n h).length:=by unfold fB kP;rw[if_pos hb,aUv]
theorem aI1 (aA:Int)(n M s h:Nat):kP aA n M s h 0= []:=rfl
theorem aO8 {aA:Int}{n M s h j f:Nat}(hj:(aU aA n h)[j]? =some f) (hb:(s%M).testBit f=true):kP aA n M s h (j+1)=kP aA n M s h j:=by unfold kP;rw[bA hj,aU2];simp[hb]
theorem aLi {aA:Int}{n M s h j f:Nat}(hj:(aU aA n h)[j]? =some f) (hb:(s%M).testBit f=false):kP aA n M s h (j+1)=kP aA n M s h j++ [iE M (s/M) (s%M) f h]:=by unfold kP;rw[bA hj,aU2];simp[hb]
theorem aI2 {aA:Int}{n M s h j:Nat}(hh:h<n)(hb:(s%M).testBit h=true): ∀v∈jR aA n M s h++kP aA n M s h j,v∈aA3 aA n M s:=by
 intro v hv;rw[←vG];unfold jR;rw[List.mem_flatMap];rcases aTn.1 hv with hv|hv
 ·unfold jR at hv;obtain⟨a,ha,hm⟩:=List.mem_flatMap.1 hv;exact⟨a,aTq.2 (by have:=aTq.1 ha;omega),hm⟩
 refine⟨h,aTq.2 hh,?_⟩;rw[aPm hb];unfold kP at hv⊢;obtain⟨f,hf,rfl⟩:=List.mem_map.1 hv;obtain⟨h1,h2⟩:=aTs.1 hf;exact List.mem_map.2 ⟨f,aTs.2 ⟨by rw[aUv];exact aUl h1,h2⟩,rfl⟩
theorem aLj {aA:Int}{n M s h:Nat}(hh:h≤n): ∀v∈jR aA n M s h,v∈aA3 aA n M s:=by intro v hv;rw[←vG];unfold jR at hv⊢;obtain⟨a,ha,hm⟩:=List.mem_flatMap.1 hv;exact List.mem_flatMap.2 ⟨a,aTq.2 (by have:=aTq.1 ha;omega),hm⟩
theorem aF5 {adj:Nat→List Nat}{src:List Nat}{N k u:Nat}{D:List Int}{Q:List Nat}(h:Inv adj src N k (D,Q))(hu:Q[k]? =some u) (ha: ∀v∈adj u,v<N) {vs:List Nat} (hv: ∀v∈vs,v∈adj u) {D2:List Int} {Q2:List Nat} (he:(D2,Q2)=bS (D.getD u 0+1) (D,Q) vs):
  Mid adj src N k u vs (D,Q) (D2,Q2):=by
 rw[he];have:=Mid.many (aT7 hu) vs [] (D,Q) (h.mid hu) (fun v hv'=>⟨hv v hv',ha v (hv v hv')⟩);simpa using this
section
open Go.Proofs.Tryz
theorem pC (n:Nat):(madeCells #[I 0] n).toList=ivs (List.replicate n 0)∧(madeCells #[I 0] n).size=n:=by
 constructor
 ·apply List.ext_getElem<;>simp[madeCells,Nat.mod_one]
 simp[madeCells]
theorem aQi (N:Nat)(src:List Nat): ∀x∈jP N src,-1≤x∧x≤((0:Nat):Int):=by
 unfold jP
 suffices h: ∀(l:List Nat) (A:List Int),(∀x∈A,-1≤x∧x≤((0:Nat):Int))→ ∀x∈l.foldl (fun A v=>A.set v 0) A,-1≤x∧x≤((0:Nat):Int)from h src _ (fun x hx=>by rw[List.mem_replicate]at hx;omega)
 intro l;induction l with
 |nil=>intro A h;exact h
 |cons v l ih=>
  intro A h
  exact ih (A.set v 0) (fun x hx=>by
   rcases aU9 hx with h1|h1
   ·exact h x h1
   ·omega)
theorem aH2 (aA aB:Int)(p:OA)(n a F P:Nat)(w:World)(dm:4≤n)(hn:n≤12)(hP:Hid (P=2 ^ n))(cw:P≤4096)(df:P%2=0)
  (HF:xC 163 #[aH aA aB p n a] w fun w' e w''=> ∃q c,e= .returned (.slice q F c)∧Ext w' w'')
  (b8:Hid (∀(m:Nat) w',m≤4096→U 185 #[m] w' fun e w''=>e= .returned (I (iN m))∧w'=w''))
  (HN:Hid (∀w',Ext w w'→U 186 #[aH aA aB p n a] w' (aE4 aA n w'))):
  U 149 #[aH aA aB p n a] w fun e w'=> ∃D,fO aA n F D∧bC D w e w':=by
 obtain⟨AR,ar⟩: ∃AR:Array Value,AR=madeCells #[()] 49152:=⟨_,rfl⟩
 have co: ∀w:World,(Instr.makeSlice 23 (I 49152) (I 49152)).run prog w= .ok (.slice (some ⟨w,0,none⟩) 49152 49152) (w.alloc (.cells AR TI)):=fun w=>by rw[ar];exact run_make_row' _ _ (I 0) 8 underlying23 (by kernel_rfl) rfl .i64 .i64 49152 (by omega) (by omega) w
 have bo:Hid (AR.toList=ivs (lZ 0)):=by show _=_;rw[ar,(pC 49152).1];rfl
 have bp:Hid (AR.size=49152):=by show _=_;rw[ar];exact(pC 49152).2
 clear ar;go_enter func149,ntmps149;go_wp2;have ME:=(show Mem w ((w.alloc (.cells #[aA,aB,.slice p n a] TH3)).alloc (.cells AR TI)) [aJ w TI 1 (some ⟨w.heap.size+1,0,none⟩) (49152) (49152) (ivs (lZ 0)),aI w w TH3 #[aA,aB,.slice p n a]]from by rw[←bo.out];exact((Mem.start w).c0 TH3 #[aA,aB,.slice p n a]).lit TI 1 49152 _ AR (by simp) (by rw[bp.out]) (by simp[maxLen]))
 clear bo bp co;go_loopw [4] (fun i wr=> ∃(k:Nat),k≤49152∧i=I k∧Mem w wr [aJ w TI 1 (some ⟨w.heap.size+1,0,none⟩) (49152) (49152) (ivs (lZ k)),aI w w TH3 #[aA,aB,.slice p n a]]) (fun i _=>49152-(intOf i).toNat)
 case atStart=>exact⟨0,aTd _,rfl,ME⟩
 case round=>
  clear ME;obtain⟨k,hk,rfl,hM⟩:=hrel;have HM:=hM;clear hM;by_cases hlt:k<49152
  ·have i1:=aVt k;have i2:(k:Int)<49152:=by omega
   have cl:wr.cell? ⟨w.heap.size+1,k,none⟩=some (I 0):=by have:=(HM.ow 0).cellAt k (by omega);rw[this];simp[ivs,aIb hlt]
   have cf:wr.frozen? ⟨w.heap.size+1,k,none⟩=false:=(HM.ow 0).frozenAt k;have M2:=(show Mem w (wr.setCell ⟨w.heap.size+1,k,none⟩ (I (-1))) [aJ w TI 1 (some ⟨w.heap.size+1,0,none⟩) (49152) (49152) (ivs (lZ (k+1))),aI w w TH3 #[aA,aB,.slice p n a]]from by rw[←aIa hlt,←eL];exact HM.ostore (i:=0) rfl k (I (-1)))
   clear HM;go_wp2;go_roundw
   case rel=>exact⟨k+1,by omega,by go_num,M2⟩
   case measure=>simp[intOf];omega
  obtain rfl:k=49152:=by omega
  have M1:=(show Mem w wr [aJ w TI 1 (some ⟨w.heap.size+1,0,none⟩) (49152) (49152) (ivs (jP NN (fQ F 0))),aI w w TH3 #[aA,aB,.slice p n a]]from by have:=HM;rwa[show lZ 49152=jP NN (fQ F 0)from aIc F]at this)
  clear HM hlt hk;have M2:=(M1.made0 TI 1 wr rfl)
  clear M1;have c0:(wr.alloc (.cells #[] TI)).cell? ⟨w,0,none⟩=some (I aA):=(M2.bk 2).cell 0;have c1:(wr.alloc (.cells #[] TI)).cell? ⟨w,1,none⟩=some (I aB):=(M2.bk 2).cell 1;have c2:(wr.alloc (.cells #[] TI)).cell? ⟨w,2,none⟩=some (.slice p n a):=(M2.bk 2).cell 2;go_wp2_with fail;clear c0 c1 c2;refine(HF _ M2.ext).mono ?_;rintro e w3 ⟨q3,c3,rfl,b5⟩;have M3:=(M2.adv b5)
  clear M2 b5;have dn:(2:Int) ^ n=(P:Int):=by rw[hP.out];simp
  have dr:IntKind.i64.wrap (P:Int)=(P:Int):=aT8 _ (by omega);go_wp2;go_loopw [5,7] (fun v i wx=> ∃(m:Nat) (q:OA) (l lc:Nat),m≤P∧m%2=0∧i=I m∧v= .slice q l lc∧l=(fQ F m).length∧Mem w wx [aJ w TI 1 (q) (l) (lc) (ivs (bK (fQ F m))),aJ w TI 1 (some ⟨w.heap.size+1,0,none⟩) (49152) (49152) (ivs (jP NN (fQ F m))),aI w w TH3 #[aA,aB,.slice p n a]]) (fun _ i _=>P-(intOf i).toNat)
  case atStart=>exact⟨0,some ⟨wr,0,none⟩,0,0,aTd _,rfl,rfl,rfl,rfl,M3⟩
  case round=>
   clear M3;obtain⟨m,q,l,lc,hm,an,rfl,rfl,hl,hM⟩:=hrel;have HM:=hM;have HL:=xQ hl;have dl:l≤4096:=by have:=aEc F m;omega
   clear hM hl;obtain⟨c0,c1,c2⟩:=(HM.bk 2).tri;by_cases hlt:m<P
   ·go_wp2_with fail;refine(b8 m _ (by omega)).mono ?_;rintro e wx ⟨rfl,rfl⟩;have h2:=aEb (many:=F) an;by_cases hp:iN m=F
    ·have t1:((iN m:Int)==(F:Int))=true:=by simp[hp]
     rw[if_pos hp]at h2;have H2:=xQ h2;have o:=xQ (show l+1=(fQ F (m+2)).length by rw[h2,aTc,←HL.out];rfl);clear h2 hp;have cn:m<49152:=by omega
     have i1:=aVt m;have i2:(m:Int)<49152:=by omega
     obtain⟨x0,b4⟩: ∃x0,(jP NN (fQ F m))[m]? =some x0:=⟨_,aT6 (by rw[aB6];exact cn)⟩
     have cl:wr.cell? ⟨w.heap.size+1,m,none⟩=some (I x0):=by have:=(HM.ow 1).cellAt m (by omega);rw[this];simp[ivs,b4]
     have cf:wr.frozen? ⟨w.heap.size+1,m,none⟩=false:=(HM.ow 1).frozenAt m;clear b4;go_wp2_with (at_builtin;refine cJ fY rfl _ _ rfl ((HM.ostore (i:=1) rfl m (I 0)).adv ((Ext.refl _).alloc (.cells #[m] TI))) 0 rfl rfl [I m] rfl (eD _ _ _ 1 1 _ (by first|rfl|simp) (by first|rfl|simp) (by simp[maxLen])) (fun u hu=>by obtain rfl:=aTp.1 hu;rfl) (by omega) ?_;intro q7 c7 w6 M6);have M7:=(show Mem w w6 [aJ w TI 1 (q7) (l+1) (c7) (ivs (bK (fQ F (m+2)))),aJ w TI 1 (some ⟨w.heap.size+1,0,none⟩) (49152) (49152) (ivs (jP NN (fQ F (m+2)))),aI w w TH3 #[aA,aB,.slice p n a]]from by rw[H2.out,aHq,←eL,bK,aUj,ivs,aUj];exact M6)
     clear M6 HM cl cf c0 c1 c2;go_wp2;go_roundw
     case rel=>exact⟨m+2,q7,l+1,c7,by omega,by omega,by go_num,rfl,o.out,M7⟩
     case measure=>simp[intOf];omega
    have t1:((iN m:Int)==(F:Int))=false:=by simp;omega
    rw[if_neg hp,aTv]at h2;have H2:=xQ h2;clear h2;go_wp2;go_roundw
    case rel=>exact⟨m+2,q,l,lc,by omega,by omega,by go_num,rfl,by rw[H2.out];exact HL.out,by rw[H2.out];exact HM⟩
    case measure=>simp[intOf];omega
   obtain rfl:m=P:=by omega
   have a1:fQ F m=yD n F:=by rw[hP.out];rfl
   rw[a1]at HL HM;have cq:n≤12:=hn;have hI:=Inv.begin (adj:=aA3 aA n MM) (src:=yD n F) (N:=NN) (aJi cq) yC;have bh:=xQ hI;clear hI a1 hlt;go_wp2_with fail;clear c0 c1 c2;refine(HN _ HM.ext).mono ?_;rintro e w4 ⟨qB,cB,s,rfl,ae,ad,b6⟩;obtain⟨gB,rfl,c6,c8⟩:=fK ad.1 (by rw[ae.1];omega);have M4:=(HM.nestNew b6 ad (aT5 _))
   have HR:=xQ ae;clear ad b6 ae HM;go_wp2;go_loopw [5,9] (fun v i wx=> ∃(k:Nat) (q:OA) (l lc:Nat) (D:List Int) (Q:List Nat),k≤l∧i=I k∧v= .slice q l lc∧l=Q.length∧(∀x∈D,-1≤x∧x≤(k:Int))∧Inv (aA3 aA n MM) (yD n F) NN k (D,Q)∧Mem w wx [aJ w TI 1 (q) (l) (lc) (ivs (bK Q)),aJ w TI 1 (some ⟨w.heap.size+1,0,none⟩) (49152) (49152) (ivs D),pP w TSS TI 1 (some ⟨gB,0,none⟩) cB s,aI w w TH3 #[aA,aB,.slice p n a]]) (fun _ i _=>49152-(intOf i).toNat)
   case atStart=>exact⟨0,q,l,lc,_,yD n F,aTd _,rfl,rfl,HL.out,aQi _ _,bh.out,M4.pick [1,2,0,3] (by decide) rfl⟩
   case round=>
    clear M4 bh HL;obtain⟨k,q,l,lc,D,Q,hk,rfl,rfl,hl,bs,al,hM⟩:=hrel;have HM:=hM;have HL:=xQ hl;have bc:=xQ bs;have HI:=xQ al;have dk:l≤49152:=by have:=al.qlen;rw[hl];exact this
    clear hM hl bs al;by_cases hlt:k<l
    ·obtain⟨gL,rfl,di,dj⟩:=HM.so 0;obtain⟨u,hu⟩: ∃u,Q[k]? =some u:=⟨_,aT6 (by rw[←HL.out];exact hlt)⟩
     have ao:u<49152:=HI.out.bd u (aT7 hu);obtain⟨C,hC⟩: ∃C,C=u/4096:=⟨_,rfl⟩
     obtain⟨S,hS⟩: ∃S,S=u%4096:=⟨_,rfl⟩
     have cv:C<12:=by omega
     have cz:S<4096:=by omega
     have HU:=xQ hu;have HC:=xQ hC;have HS:=xQ hS;have i1:=aVt k;have i2:=aVu k l;have d1:(u:Int)/4096=(C:Int):=by omega
     have d2:(u:Int)%4096=(S:Int):=by omega
     have cu:wr.cell? ⟨gL,k,none⟩=some (I u):=by have:=(HM.ow 0).cellAt k (by omega);rw[this];simp[ivs,bK,hu]
     clear hu hC hS;go_wp2;rw[d2];clear cu d1 d2;go_loopw [5,12] (fun v i wx=> ∃(h:Nat) (q:OA) (l2 lc:Nat) (D2:List Int) (Q2:List Nat),h≤n∧i=I h∧v= .slice q l2 lc∧l2=Q2.length∧(D2,Q2)=bS (D.getD u 0+1) (D,Q) (jR aA n MM u h)∧(∀x∈D2,-1≤x∧x≤(k:Int)+1)∧Mem w wx [aJ w TI 1 (q) (l2) (lc) (ivs (bK Q2)),aJ w TI 1 (some ⟨w.heap.size+1,0,none⟩) (49152) (49152) (ivs D2),pP w TSS TI 1 (some ⟨gB,0,none⟩) cB s,aI w w TH3 #[aA,aB,.slice p n a]]) (fun _ i _=>n-(intOf i).toNat)
     case atStart=>exact⟨0,_,l,lc,D,Q,aTd _,rfl,rfl,HL.out,rfl,fun x hx=>by have:=bc x hx;omega,HM⟩
     case round=>
      clear HM;obtain⟨h,q,l2,lc,D2,Q2,hh,rfl,rfl,am,ag,y,hM⟩:=hrel;have HM:=hM;have o:=xQ am;have t:=xQ ag;have b:=xQ y;clear hM am ag y;obtain⟨c0,c1,c2⟩:=(HM.bk 3).tri;by_cases hlth:h<n
      ·obtain⟨Ph,ai⟩: ∃Ph:Nat,Ph=2 ^ h:=⟨_,rfl⟩
       have cy:Ph≤2048:=by rw[ai];exact aTg (aTl (by omega) (show h≤11 by omega)) (by decide)
       have dq:(2:Int) ^ h=(Ph:Int):=by rw[ai];simp
       have dt:IntKind.i64.wrap (Ph:Int)=(Ph:Int):=aT8 _ (by omega);obtain⟨A,hA⟩: ∃A:Nat,A=S/Ph:=⟨_,rfl⟩
       have de:(S:Int)/(Ph:Int)=(A:Int):=by rw[hA];simp
       have ay:S.testBit h=decide (A%2=1):=by rw[hA,ai];exact aK6 S h
       have bi:=xQ ai;have aw:=xQ ay;obtain⟨ct,ba⟩: ∃r,s[h]? =some r:=⟨_,aT6 (by rw[HR.out.1];exact hlth)⟩
       obtain⟨qi,ni,ci,xi⟩:=ct;obtain⟨b0,b7⟩:=HR.out.2 h _ ba;dsimp only at b0 b7;subst b0 b7;have a5:=xQ ba;have rl:=HR.out.1;have RL:=xQ rl;clear ai ay hA ba;obtain⟨nb,av⟩: ∃nb,nb=aU aA n h:=⟨_,rfl⟩
       rw[←av]at a5;have a4:=xQ av;have cp:nb.length≤12:=by rw[av];exact aTg (aUb _ _) (by simp;omega)
       clear av rl;have k1:=aVt h;have k2:=aVu h n;go_wp2;clear c0 c1 c2;cases hb:S.testBit h with
       |false=>
        have t1:(A:Int)%2=0:=by have:=aw.out;rw[hb]at this;simp at this;omega
        have d:=xQ (show jR aA n MM u (h+1)=jR aA n MM u h by rw[yT,aSx (by rw[←show S=u%MM from HS.out];exact hb),aTv]);clear hb;go_loopw [5,13] (fun v i wx=>i=I 0∧v= .slice q l2 lc∧wr=wx) (fun _ _ _=>0)
        case atStart=>exact⟨rfl,rfl,rfl⟩
        case round=>
         obtain⟨rfl,rfl,rfl⟩:=hrel;go_wp2;go_roundw
         case rel=>exact⟨h+1,q,l2,lc,D2,Q2,by omega,by go_num,rfl,o.out,by rw[d.out];exact t.out,b.out,HM⟩
         case measure=>simp[intOf];omega
       |true=>
        have t1:(A:Int)%2=1:=by have:=aw.out;rw[hb]at this;simp at this;omega
        have au:=xQ (show(u%MM).testBit h=true by rw[←show S=u%MM from HS.out];exact hb);clear hb;go_loopw [5,13] (fun v i wx=> ∃(j:Nat) (q:OA) (l2 lc:Nat) (D2:List Int) (Q2:List Nat),j≤nb.length∧i=I j∧v= .slice q l2 lc∧l2=Q2.length∧(D2,Q2)=bS (D.getD u 0+1) (D,Q) (jR aA n MM u h++kP aA n MM u h j)∧(∀x∈D2,-1≤x∧x≤(k:Int)+1)∧Mem w wx [aJ w TI 1 (q) (l2) (lc) (ivs (bK Q2)),aJ w TI 1 (some ⟨w.heap.size+1,0,none⟩) (49152) (49152) (ivs D2),pP w TSS TI 1 (some ⟨gB,0,none⟩) cB s,aI w w TH3 #[aA,aB,.slice p n a]]) (fun _ i _=>nb.length-(intOf i).toNat)
        case atStart=>exact⟨0,q,l2,lc,D2,Q2,aTd _,rfl,rfl,o.out,by rw[aI1,aTv];exact t.out,b.out,HM⟩
        case round=>
         clear HM o t b;obtain⟨j,q,l2,lc,D2,Q2,hj,rfl,rfl,am,ag,y,hM⟩:=hrel;have HM:=hM;have b1: ∀v∈jR aA n MM u h++kP aA n MM u h j,v∈aA3 aA n MM u:=aI2 hlth au.out;have z:=aF5 HI HU.out (fun v hv=>uO hn u v ao hv) b1 ag;have bq:D2.length=49152:=z.len;have dg:Q2.length≤49152:=qJ z.nodup z.bd;have cr:u∈Q:=aT7 HU.out;have bb:D2.getD u 0=D.getD u 0:=z.same u cr;obtain⟨r,hr⟩:=z.pre;dsimp only at hr;have cm:k<Q2.length:=by rw[hr,aTc];have:=HL.out;omega
         have br:Q2[k]? =some u:=by have:=HL.out;rw[hr,aTr (by omega)];exact HU.out
         have aa:=dR (D:=D2) (v:=u) (by omega);have c4: -1≤D2.getD u 0:=(y _ aa.2).1;have c5:D2.getD u 0≤(k:Int):=by rw[bb];exact(bc _ (dR (D:=D) (v:=u) (by have:=HI.out.len;dsimp only at this;rw[this];exact ao)).2).2
         have t:=xQ ag;have b:=xQ y;have o:=xQ am;have bj:=xQ br;have bf:=xQ aa.1;have bl:=xQ bb;have b9:=xQ bq;have dc:l2≤49152:=by omega
         have db:k<l2:=by omega
         have cb:wr.cell? ⟨gB,h,none⟩=some (.slice qi nb ci):=by have:=(HM.nest (i:=2) rfl).1.cellAt h (by rw[RL.out];omega);rw[this,aTo,a5.out];rfl
         have a0:=(HM.nest (i:=2) rfl).2 _ (aT7 a5.out);have ax:=xQ (show wr.ownsRow w TI 1 (.slice qi nb ci) nb.length (ivs (bK nb))from a0);clear hM b1 z hr ag y am br aa bb a0 bq cm;by_cases hltj:j<nb.length
         ·obtain⟨gi,rfl,c9,da⟩:=fK ax (by omega);obtain⟨f,hf⟩: ∃f,nb[j]? =some f:=⟨_,aT6 hltj⟩
          have ch:f<n:=(bZ.1 (by rw[←a4.out];exact aT7 hf:f∈aU aA n h)).1;have bv:(aU aA n h)[j]? =some f:=by rw[←a4.out];exact hf
          have a3:=xQ bv;have cj:wr.cell? ⟨gi,j,none⟩=some (I f):=by have:=ax.out.cellAt j (by omega);rw[this];simp[ivs,bK,hf]
          clear hf bv;have m1:=aVt j;have m2:(j:Int)<(nb.length:Int):=by omega
          obtain⟨Pf,ah⟩: ∃Pf:Nat,Pf=2 ^ f:=⟨_,rfl⟩
          have cx:Pf≤2048:=by rw[ah];exact aTg (aTl (by omega) (show f≤11 by omega)) (by decide)
          have dp:(2:Int) ^ f=(Pf:Int):=by rw[ah];simp
          have ds:IntKind.i64.wrap (Pf:Int)=(Pf:Int):=aT8 _ (by omega);obtain⟨B,hB⟩: ∃B:Nat,B=S/Pf:=⟨_,rfl⟩
          have dd:(S:Int)/(Pf:Int)=(B:Int):=by rw[hB];simp
          have bt:S.testBit f=decide (B%2=1):=by rw[hB,ah];exact aK6 S f
          have be:=xQ bt;have cc:=xQ ah;clear ah hB bt;cases hb:S.testBit f with
          |true=>
           have t2:(B:Int)%2=1:=by have:=be.out;rw[hb]at this;simp at this;omega
           have d:=xQ (aO8 a3 (show(u%MM).testBit f=true by rw[←show S=u%MM from HS.out];exact hb));clear hb;go_wp2;go_roundw
           case rel=>exact⟨j+1,q,l2,lc,D2,Q2,by omega,by go_num,rfl,o.out,by rw[d.out];exact t.out,b.out,HM⟩
           case measure=>simp[intOf];omega
          |false=>
           have t2:(B:Int)%2=0:=by have:=be.out;rw[hb]at this;simp at this;omega
           have aj:(u%MM).testBit f=false:=by rw[←show S=u%MM from HS.out];exact hb
           have d:=xQ (aLi a3 aj);have a2:=(xT au.out).1;have dh:Ph≤S:=by rw[bi.out,show S=u%MM from HS.out];exact a2
           obtain⟨v,hv⟩: ∃v,v=iE MM (u/MM) (u%MM) f h:=⟨_,rfl⟩
           have cs:v<49152:=uO hn u v ao (oL.2 ⟨f,h,ch,hlth,gZ hlth (by exact aT7 a3.out),aj,au.out,hv⟩);have b2:v=eB C f h*4096+(S-Ph+Pf):=by rw[hv,bi.out,cc.out,show C=u/MM from HC.out,show S=u%MM from HS.out];rfl
           rw[←hv]at d;have bm:=xQ b2;clear hb aj a2 hv b2;have s1:=aVt v;have s2:(v:Int)<49152:=by omega
           obtain⟨dv,bu,az⟩: ∃dv,D2[v]? =some dv∧D2.getD v 0=dv:=⟨_,(dR (D:=D2) (v:=v) (by rw[b9.out];exact cs)).1,rfl⟩
           have bg:=xQ bu;have af:=xQ az;clear bu az;by_cases hcar:f=C
           ·have t3:((f:Int)==(C:Int))=true:=by simp[hcar]
            have ap:(h:Int)*4096+(S:Int)-(Ph:Int)+(Pf:Int)=(v:Int):=by have:=bm.out;unfold eB at this;rw[if_pos hcar]at this;omega
            have a6:=xQ ap;clear ap hcar;go_wp2;have a7:=aVw ((h:Int)*4096);have an:=aVw ((h:Int)*4096+(S:Int));have a8:=aVw ((h:Int)*4096+(S:Int)-(Ph:Int));have a9:IntKind.i64.wrap ((h:Int)*4096+(S:Int)-(Ph:Int)+(Pf:Int))=(v:Int):=(aT8 _ (by omega)).trans a6.out;go_quiet (fail);generalize aq:World.drewN wr _=wi;have hX:Ext wr wi:=by rw[←aq];exact Ext.drewN (Ext.refl _) _
            clear aq a7 an a8 a9;have MI:=(HM.adv hX)
            have HE:=xQ (show Mem w wi [aJ w TI 1 (q) (l2) (lc) (ivs (bK Q2)),aJ w TI 1 (some ⟨w.heap.size+1,0,none⟩) (49152) (49152) (ivs D2),pP w TSS TI 1 (some ⟨gB,0,none⟩) cB s,aI w w TH3 #[aA,aB,.slice p n a]]from MI);clear hX HM MI cb cj;have cl:wi.cell? ⟨w.heap.size+1,v,none⟩=some (I dv):=by have:=(HE.out.ow 1).cellAt v (by omega);rw[this];simp[ivs,bg.out]
            by_cases hd0:dv<0
            ·have t4:decide (dv<0)=true:=by simp[hd0]
             have g:Hid ((D2.set v (D.getD u 0+1),Q2++ [v])=bS (D.getD u 0+1) (D,Q) (jR aA n MM u h++kP aA n MM u h (j+1))):=by show _=_;rw[d.out,←aTx,eG,←t.out,mH (by rw[af.out];exact hd0)]
             obtain⟨du,aa⟩: ∃du,du=D2.getD u 0:=⟨_,rfl⟩
             have ab:=xQ aa;have ce: -1≤du:=by omega
             have cg:du≤(k:Int):=by omega
             have b3:=aVw (du+1);obtain⟨gl,rfl,bw,bx⟩:=HE.out.so 0;have n0:=aVt u;have n1:(u:Int)<49152:=by omega
             have n2:=aVu k l2;have ck:wi.cell? ⟨gl,k,none⟩=some (I u):=by have:=(HE.out.ow 0).cellAt k (by omega);rw[this];simp[ivs,bK,bj.out]
             have cd:wi.cell? ⟨w.heap.size+1,u,none⟩=some (I du):=by have:=(HE.out.ow 1).cellAt u (by omega);rw[this,ab.out];simp only[ivs,aTo,bf.out,aU4]
             have cf:wi.frozen? ⟨w.heap.size+1,v,none⟩=false:=(HE.out.ow 1).frozenAt v;clear aa hd0;go_wp2_with (at_builtin;refine cJ fY rfl _ _ rfl ((HE.out.ostore (i:=1) rfl v (I (du+1))).adv ((Ext.refl _).alloc (.cells #[v] TI))) 0 rfl rfl [I v] rfl (eD _ _ _ 1 1 _ (by first|rfl|simp) (by first|rfl|simp) (by simp[maxLen])) (fun u hu=>by obtain rfl:=aTp.1 hu;rfl) (by omega) ?_;intro q7 c7 w6 M6);have M7:=(show Mem w w6 [aJ w TI 1 (q7) (l2+1) (c7) (ivs (bK (Q2++ [v]))),aJ w TI 1 (some ⟨w.heap.size+1,0,none⟩) (49152) (49152) (ivs (D2.set v (du+1))),pP w TSS TI 1 (some ⟨gB,0,none⟩) cB s,aI w w TH3 #[aA,aB,.slice p n a]]from by rw[←eL,bK,aUj,ivs,aUj];exact M6)
             clear M6 HE cl ck cd cf;go_wp2;go_roundw
             case rel=>exact⟨j+1,q7,l2+1,c7,D2.set v (du+1),Q2++ [v],by omega,by go_num,rfl,by rw[aTc,←o.out];rfl,by rw[←g.out,←bl.out,←ab.out],fun x hx=>by
              rcases aU9 hx with h|h
              ·exact b x h
              ·omega,M7⟩
             case measure=>simp[intOf];omega
            have t4:decide (dv<0)=false:=by simp[hd0]
            have g:Hid ((D2,Q2)=bS (D.getD u 0+1) (D,Q) (jR aA n MM u h++kP aA n MM u h (j+1))):=by show _=_;rw[d.out,←aTx,eG,←t.out,oB (by rw[af.out];exact hd0)]
            clear hd0;go_wp2;go_roundw
            case rel=>exact⟨j+1,q,l2,lc,D2,Q2,by omega,by go_num,rfl,o.out,g.out,b.out,HE.out⟩
            case measure=>simp[intOf];omega
           have t3:((f:Int)==(C:Int))=false:=by simp;omega
           have ap:(C:Int)*4096+(S:Int)-(Ph:Int)+(Pf:Int)=(v:Int):=by have:=bm.out;unfold eB at this;rw[if_neg hcar]at this;omega
           have a6:=xQ ap;clear ap hcar;go_wp2;have a7:=aVw ((C:Int)*4096);have an:=aVw ((C:Int)*4096+(S:Int));have a8:=aVw ((C:Int)*4096+(S:Int)-(Ph:Int));have a9:IntKind.i64.wrap ((C:Int)*4096+(S:Int)-(Ph:Int)+(Pf:Int))=(v:Int):=(aT8 _ (by omega)).trans a6.out;go_quiet (fail);generalize aq:World.drewN wr _=wi;have hX:Ext wr wi:=by rw[←aq];exact Ext.drewN (Ext.refl _) _
           clear aq a7 an a8 a9;have MI:=(HM.adv hX)
           have HE:=xQ (show Mem w wi [aJ w TI 1 (q) (l2) (lc) (ivs (bK Q2)),aJ w TI 1 (some ⟨w.heap.size+1,0,none⟩) (49152) (49152) (ivs D2),pP w TSS TI 1 (some ⟨gB,0,none⟩) cB s,aI w w TH3 #[aA,aB,.slice p n a]]from MI);clear hX HM MI cb cj;have cl:wi.cell? ⟨w.heap.size+1,v,none⟩=some (I dv):=by have:=(HE.out.ow 1).cellAt v (by omega);rw[this];simp[ivs,bg.out]
           by_cases hd0:dv<0
           ·have t4:decide (dv<0)=true:=by simp[hd0]
            have g:Hid ((D2.set v (D.getD u 0+1),Q2++ [v])=bS (D.getD u 0+1) (D,Q) (jR aA n MM u h++kP aA n MM u h (j+1))):=by show _=_;rw[d.out,←aTx,eG,←t.out,mH (by rw[af.out];exact hd0)]
            obtain⟨du,aa⟩: ∃du,du=D2.getD u 0:=⟨_,rfl⟩
            have ab:=xQ aa;have ce: -1≤du:=by omega
            have cg:du≤(k:Int):=by omega
            have b3:=aVw (du+1);obtain⟨gl,rfl,bw,bx⟩:=HE.out.so 0;have n0:=aVt u;have n1:(u:Int)<49152:=by omega
            have n2:=aVu k l2;have ck:wi.cell? ⟨gl,k,none⟩=some (I u):=by have:=(HE.out.ow 0).cellAt k (by omega);rw[this];simp[ivs,bK,bj.out]
            have cd:wi.cell? ⟨w.heap.size+1,u,none⟩=some (I du):=by have:=(HE.out.ow 1).cellAt u (by omega);rw[this,ab.out];simp only[ivs,aTo,bf.out,aU4]
            have cf:wi.frozen? ⟨w.heap.size+1,v,none⟩=false:=(HE.out.ow 1).frozenAt v;clear aa hd0;go_wp2_with (at_builtin;refine cJ fY rfl _ _ rfl ((HE.out.ostore (i:=1) rfl v (I (du+1))).adv ((Ext.refl _).alloc (.cells #[v] TI))) 0 rfl rfl [I v] rfl (eD _ _ _ 1 1 _ (by first|rfl|simp) (by first|rfl|simp) (by simp[maxLen])) (fun u hu=>by obtain rfl:=aTp.1 hu;rfl) (by omega) ?_;intro q7 c7 w6 M6);have M7:=(show Mem w w6 [aJ w TI 1 (q7) (l2+1) (c7) (ivs (bK (Q2++ [v]))),aJ w TI 1 (some ⟨w.heap.size+1,0,none⟩) (49152) (49152) (ivs (D2.set v (du+1))),pP w TSS TI 1 (some ⟨gB,0,none⟩) cB s,aI w w TH3 #[aA,aB,.slice p n a]]from by rw[←eL,bK,aUj,ivs,aUj];exact M6)
            clear M6 HE cl ck cd cf;go_wp2;go_roundw
            case rel=>exact⟨j+1,q7,l2+1,c7,D2.set v (du+1),Q2++ [v],by omega,by go_num,rfl,by rw[aTc,←o.out];rfl,by rw[←g.out,←bl.out,←ab.out],fun x hx=>by
             rcases aU9 hx with h|h
             ·exact b x h
             ·omega,M7⟩
            case measure=>simp[intOf];omega
           have t4:decide (dv<0)=false:=by simp[hd0]
           have g:Hid ((D2,Q2)=bS (D.getD u 0+1) (D,Q) (jR aA n MM u h++kP aA n MM u h (j+1))):=by show _=_;rw[d.out,←aTx,eG,←t.out,oB (by rw[af.out];exact hd0)]
           clear hd0;go_wp2;go_roundw
           case rel=>exact⟨j+1,q,l2,lc,D2,Q2,by omega,by go_num,rfl,o.out,g.out,b.out,HE.out⟩
           case measure=>simp[intOf];omega
         have d:Hid (jR aA n MM u h++kP aA n MM u h j=jR aA n MM u (h+1)):=by show _=_;rw[yT,aPm au.out,←a4.out,show j=nb.length by omega]
         rw[d.out]at t;obtain rfl:nb.length=j:=by omega
         go_wp2;go_roundw
         case rel=>exact⟨h+1,q,l2,lc,D2,Q2,by omega,by go_num,rfl,o.out,t.out,b.out,HM⟩
         case measure=>simp[intOf];omega
      obtain rfl:n=h:=by omega
      have hI:=HI.out.step HU (fun v hv=>uO hn u v ao hv);have he:=t.out;obtain⟨r,hr⟩:=(aF5 HI HU.out (fun v hv=>uO hn u v ao hv) (aLj (aT5 _)) he).pre;dsimp only at hr;have bz:k+1≤l2:=by rw[o.out,hr,aTc];have:=HL.out;omega
      clear hr;rw[vG]at he;rw[←he]at hI;have ca:=xQ hI;clear hI he;go_wp2;go_roundw
      case rel=>exact⟨k+1,q,l2,lc,D2,Q2,bz,by go_num,rfl,o.out,fun x hx=>by have:=b x hx;omega,ca.out,HM⟩
      case measure=>simp[intOf];omega
    have ak:=xQ (HI.out.dist (by have:=HL.out;dsimp only;omega));go_wp2;go_ret;refine⟨D,ak.out,dO ak.out.len (HM.ow 1) HM.ext⟩
end
theorem aId (aA aB:Int)(p:OA)(n a:Nat)(xs:List Int)(w:World)(hS:Sl w p n a 1 (ivs xs))(b:aN aA aB xs=true):
  U 149 #[aH aA aB p n a] w fun e w'=> ∃D,fO aA n (bP xs).length D∧bC D w e w':=by
 have hl:=hS.ilen;obtain⟨g1,g2,g3,g4,g5,g6,g7⟩:=cG (cY b);have hp:(2:Nat) ^ n≤2 ^ 12:=aTl (by omega) (by omega);have d:(2:Nat) ^ n%2=0:=by obtain⟨m,hm⟩: ∃m,n=m+1:=⟨n-1,by omega⟩;rw[hm,Nat.pow_succ];omega
 refine aH2 aA aB p n a (bP xs).length (2 ^ n) w (by omega) (by omega) rfl (by omega) d (fun w' hx=> ?_) (fun m w' hm=>aIe m w' (by omega)) (fun w' hx=>aD1 aA aB p n a xs w' (hS.ext hx) b);exact(uE aA aB p n a xs w' (hS.ext hx) b).mono fun e w'' ⟨q,c,h1,_,h3⟩=>⟨q,c,h1,h3⟩
structure aC5 (aA aB:Int) (xs:List Int) (D:List Int) (c:Nat) (id:Int) (j:Nat) (ys:List Int):Prop where
 ok:aN aA aB ys=true
 len:ys.length=xs.length
 free:aO ys=(gP aA xs.length (aY D) (c,aO xs) j).2
 at_:ys[(gP aA xs.length (aY D) (c,aO xs) j).1]? =some id
theorem aBr {aA aB:Int}{ys:List Int}{c:Nat}{id:Int}(a:aN aA aB ys=true)(hi:1≤id)(hc:ys[c]? =some id):jH aA aB ys id=(c:Int):=by
 unfold jH;rw[if_pos ⟨a,hi⟩];refine uB hc (fun hm=> ?_);unfold aN at a;rw[aTf]at a;obtain⟨h1,h2,h3⟩:=(eI _ _).1 a.2;obtain⟨d,b⟩:=aT9.1 hc;have e1:ys=ys.take c++ys.drop c:=(List.take_append_drop c ys).symm;have hd:id∈ys.drop c:=by rw[rU hc];simp
 rw[e1,aU2,List.nodup_append]at h3;exact h3.2.2 id (aTs.2 ⟨hm,by simp;omega⟩) id (aTs.2 ⟨hd,by simp;omega⟩) rfl
theorem aMy {aA aB:Int}{xs:List Int}{D:List Int}{c:Nat}{id:Int}(h:aN aA aB xs=true)(hc:xs[c]? =some id) (h0:id≠0) (hD:fO aA xs.length (bP xs).length D) {d:Nat} (hd:aY D c (aO xs)=d) {j:Nat} (hj:j<d) {ys:List Int} (hw:aC5 aA aB xs D c id j ys):
  ∃(J:Nat) (es:List (Nat×Nat)),es=eV aA xs.length (aO ys)∧iV aA aB ys=es.map jZ∧J<es.length∧es[J]? =some (iH aA xs.length (aY D) (c,aO xs) j)∧
   (∀i e,i≤J→es[i]? =some e→e∈eV aA xs.length (aO ys)∧(aY D (eB (gP aA xs.length (aY D) (c,aO xs) j).1 e.1 e.2) (dH (aO ys) e.1 e.2)=(d:Int)-j-1↔i=J))∧
   ∀e,es[J]? =some e→aC5 aA aB xs D c id (j+1) (bL aA aB ys (e.1:Int) (e.2:Int)):=by
 obtain⟨b1,b2,b3,b4,b5,b6,b7⟩:=cG (cY h);have hp:=mD hc h0;obtain⟨e1,e2,e3⟩:=lQ b5 b6 hD hp hd hj;obtain⟨g1,g2⟩:=kL b5 b6 hD hp hd j (by omega);have l:=aCq hw.ok;rw[hw.len]at l;have b:iH aA xs.length (aY D) (c,aO xs) j∈eV aA xs.length (aO ys):=by rw[hw.free];exact e2
 have k:(eV aA xs.length (aO ys)).find? (fun e=>decide (aY D (eB (gP aA xs.length (aY D) (c,aO xs) j).1 e.1 e.2) (dH (aO ys) e.1 e.2)=(d:Int)-j-1))=some (iH aA xs.length (aY D) (c,aO xs) j):=by have:=e1;unfold nD at this;rw[←hw.free,←g2]at*;rw[hw.free]at*;exact this
 have w:=List.find?_some k;obtain⟨J,m,a,g,n⟩:=aJx (p:=fun e:Nat×Nat=>decide (aY D (eB (gP aA xs.length (aY D) (c,aO xs) j).1 e.1 e.2) (dH (aO ys) e.1 e.2)=(d:Int)-j-1)) (d:=(0,0)) b w;rw[k]at a g;simp only[Option.getD_some]at a g;refine⟨J,_,rfl,l,m,a,fun i e hi he=>⟨aT7 he,?_⟩,fun e he=> ?_⟩
 ·constructor
  ·intro hh;rcases Nat.lt_or_ge i J with u|r
   ·have:=n i e u he;simp only[decide_eq_false_iff_not]at this;exact absurd hh this
   exact Nat.le_antisymm hi r
  intro s;have o:some (iH aA xs.length (aY D) (c,aO xs) j)=some e:=by rw[←a,←s];exact he
  have q:=Option.some.inj o;rw[←q];exact of_decide_eq_true g
 rw[a]at he;injection he with he;subst he;have v:iH aA xs.length (aY D) (c,aO xs) j∈eV aA ys.length (aO ys):=by rw[hw.len];exact b
 obtain⟨m1,m2,m3,m4⟩:=vV hw.ok (f:=(iH aA xs.length (aY D) (c,aO xs) j).1) (t:=(iH aA xs.length (aY D) (c,aO xs) j).2) v;refine⟨jK _ _ hw.ok,by rw[dG,hw.len],?_,?_⟩
 ·rw[m3,e3,hw.free];rfl
 rw[e3];exact m4 _ _ hw.at_ h0
end Go.Proofs.YthfmmibomhhmpaaGreatDoor
