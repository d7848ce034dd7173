/-
  Texts of this proof, packed (@packed).
-/
import Derived.Deep.OwnRows
import Derived.Test.YtomgkjinhnkpnaaGreatDoorX14
namespace Go.Proofs.YtomgkjinhnkpnaaGreatDoor
open Go.RowKit
set_option linter.unusedSimpArgs false
set_option linter.unusedVariables false
set_option maxHeartbeats 16000000
set_option maxRecDepth 100000
section
open Go.Proofs.Tryz
abbrev TSS:TypeId:=23
theorem aRd:ElT prog 185 TSS 1:=
 ⟨underlying185,by
  obtain⟨i,hi,h0,h1,h2⟩:=info_parts (show(prog.info? TSS).map (fun i=>(i.zero,i.size,i.bytes))=some (some (.slice none 0 0),1,24) by kernel_rfl)
  exact⟨i,_,hi,h0,h1,by omega,rfl⟩,by omega⟩
def rG (aA:Int)(n k:Nat)(rows:List RowD):Prop:=rows.length=k∧ ∀(j:Nat) (r:RowD),rows[j]? =some r→r.n=(aT aA n j).length∧r.xs=ivs (bF (aT aA n j))
def aD5 (aA:Int)(n:Nat)(w:World)(e:Ending)(w':World):Prop:=
 ∃q c rows,e= .returned (.slice q n c)∧rG aA n n rows∧uZ w.heap.size TSS TI 1 q c rows w'∧Ext w w'
theorem vY {aA:Int}{n k:Nat}{rows:List RowD}{q:OA}{c:Nat}(h:rG aA n k rows):rG aA n (k+1) (rows++ [⟨q,(aT aA n k).length,c,ivs (bF (aT aA n k))⟩]):=by
 refine⟨by rw[aRm,h.1];rfl,fun j r hj=> ?_⟩;by_cases hk:j<k
 ·rw[aS1 (by rw[h.1];exact hk)]at hj;exact h.2 j r hj
 have hl:=(aRk.1 hj).1;rw[aRm,h.1]at hl;simp at hl;obtain rfl:j=k:=by omega
 rw[aSb (by rw[h.1];exact aRg _),h.1,aTi]at hj;simp at hj;subst hj;exact⟨rfl,by simp[ivs,bF]⟩
theorem aK1 (aA aB:Int)(p:OA)(n a:Nat)(w:World)(hn:n≤12)
  (HC:Hid (∀(k:Nat),k<n→ ∀w',Ext w w'→U 205 #[aH aA aB p n a,k] w' (aZ (bF (aT aA n k)) w'))):
  U 183 #[aH aA aB p n a] w (aD5 aA n w):=by
 go_enter func183,ntmps183;have ME:=(((Mem.start w).c0 TH3 #[aA,aB,.slice p n a]).made0 TSS 1 (w.heap.size+1) (by simp))
 go_wp2;go_loopw [3,4] (fun v i wr=> ∃(k:Nat) (q:OA) (c:Nat) (rows:List RowD),k≤n∧i=I k∧v= .slice q k c∧rG aA n k rows∧Mem w wr [gE w TI 1 rows,aJ w TSS 1 (q) (k) (c) (rows.map RowD.v),aI w w TH3 #[aA,aB,.slice p n a]]) (fun _ i _=>n-(intOf i).toNat)
 case atStart=>exact⟨0,some ⟨w.heap.size+1,0,none⟩,0,[],aRo _,rfl,rfl,⟨rfl,fun j r h=>by simp at h⟩,ME.rows0 rfl⟩
 case round=>
  clear ME;obtain⟨k,q,c,rows,hk,rfl,rfl,b,hM⟩:=hrel;have HM:=hM;have HR:=xQ b;clear hM b;obtain⟨c0,c1,c2⟩:=(HM.bk 2).tri;by_cases hlt:k<n
  ·go_wp2_with fail;clear c0 c1 c2;refine(HC k hlt _ HM.ext).mono ?_;rintro e w2 ⟨q2,c2,rfl,o2,d⟩;rw[aSc]at o2⊢;have M2:=(HM.call d o2)
   have M3:=(M2.rowsAdd rfl)
   have f:=xQ (vY (q:=q2) (c:=c2) HR.out);clear o2 d M2 HM HR;go_wp2_with (at_builtin;go_loud (refine cK aRd rfl _ _ rfl (M3.adv ((Ext.refl _).alloc (.cells #[.slice q2 (aT aA n k).length c2] TSS))) 1 rfl rfl [.slice q2 (aT aA n k).length c2] rfl (eG _ _ _ 1 1 _ (by first|rfl|simp) (by first|rfl|simp) (by simp[maxLen])) (fun u hu=>by obtain rfl:=aS2.1 hu;rfl) (by omega) ?_;intro q7 c7 w6 M6));have M7:=(show Mem w w6 [gE w TI 1 (rows++ [⟨q2,(aT aA n k).length,c2,ivs (bF (aT aA n k))⟩]),aJ w TSS 1 q7 (k+1) c7 ((rows++ [⟨q2,(aT aA n k).length,c2,ivs (bF (aT aA n k))⟩]:List RowD).map RowD.v),aI w w TH3 #[aA,aB,.slice p n a]]from by rw[aSt];exact M6)
   clear M6 M3;go_wp2;go_roundw
   case rel=>exact⟨k+1,q7,c7,_,by omega,by go_num,rfl,f.out,M7⟩
   case measure=>simp[intOf];omega
  obtain rfl:n=k:=by omega
  go_wp2;go_ret;have hl:=HR.out.1;have h1:=HM.ow 1;refine⟨q,c,rows,rfl,HR.out,⟨?_,fun r hr=>HM.ok (gE w TI 1 rows) (by simp) r hr⟩,HM.ext⟩;rw[hl];exact h1
theorem aC5 (aA aB:Int)(p:OA)(n a:Nat)(xs:List Int)(w:World)(hS:Sl w p n a 1 (ivs xs))(b:aN aA aB xs=true):
  U 183 #[aH aA aB p n a] w (aD5 aA n w):=by
 have hl:=hS.ilen;obtain⟨g1,g2,g3,g4,g5,g6,g7⟩:=cE (cS b)
 exact aK1 aA aB p n a w (by omega) (fun k hk w' hx=>by
  have:=aGk aA aB k p n a xs w' (hS.ext hx) b (by omega) (by omega)
  rwa[lU]at this)
end
theorem aJ5 (S h:Nat):S.testBit h=decide (S/2 ^ h%2=1):=by exact Nat.testBit_eq_decide_div_mod_eq
def lI (k:Nat):List Int:=List.replicate k (-1)++List.replicate (NN-k) 0
theorem aH8 {k:Nat}(h:k<NN):(lI k).set k (-1)=lI (k+1):=by
 unfold lI;obtain⟨m,hm⟩: ∃m,NN-k=m+1:=⟨NN-k-1,by omega⟩
 rw[hm,show NN-(k+1)=m by omega,aTm];rw[aTu _ _ (by rw[List.length_replicate];exact aRg _),List.length_replicate,aTi,aRu,List.replicate_succ',aS5];rfl
theorem aH9 {k:Nat}(h:k<NN):(lI k)[k]? =some 0:=by unfold lI;rw[aSb (by rw[List.length_replicate];exact aRg _),List.length_replicate,aTi];rw[aTh,if_pos (by omega)]
def fK (many m:Nat):List Nat:=(List.range m).filter (fun s=> !s.testBit 0&&decide (iD s=many))
theorem aHa (many:Nat):lI NN=jH NN (fK many 0):=by unfold lI jH fK;rw[aTi,List.replicate_zero,aS6];rfl
theorem aDc {many m:Nat}(hm:m%2=0):fK many (m+2)=fK many m++(if iD m=many then [m]else []):=by
 unfold fK;rw[aT2,aT2,aSd,aSd,aS5];have h0:m.testBit 0=false:=by rw[aTb];simp;omega
 have h1:(m+1).testBit 0=true:=by rw[aTb];simp;omega
 congr 1;by_cases hp:iD m=many
 ·simp only[List.filter_cons,List.filter_nil,h0,h1];simp[hp]
 simp only[List.filter_cons,List.filter_nil,h0,h1];simp[hp]
theorem aDd (many m:Nat):(fK many m).length≤m:=by unfold fK;exact aRp (aSl _ _) (by simp)
def fB (aA:Int)(n M s h:Nat):List Nat:=if(s%M).testBit h then((aT aA n h).filter (fun f=> !(s%M).testBit f)).map (fun f=>gY M (s/M) (s%M) f h)else []
def jJ (aA:Int)(n M s h:Nat):List Nat:=(List.range h).flatMap (fB aA n M s)
def kF (aA:Int)(n M s h j:Nat):List Nat:=(((aT aA n h).take j).filter (fun f=> !(s%M).testBit f)).map (fun f=>gY M (s/M) (s%M) f h)
theorem uI (aA:Int)(n M s:Nat):jJ aA n M s n=zD aA n M s:=rfl
theorem xV (aA:Int)(n M s h:Nat):jJ aA n M s (h+1)=jJ aA n M s h++fB aA n M s h:=by unfold jJ;rw[aT2,aS8];simp
theorem aR7 {aA:Int}{n M s h:Nat}(hb:(s%M).testBit h=false):fB aA n M s h= []:=by unfold fB;rw[hb];rfl
theorem aOb {aA:Int}{n M s h:Nat}(hb:(s%M).testBit h=true):fB aA n M s h=kF aA n M s h (aT aA n h).length:=by unfold fB kF;rw[if_pos hb,aT3]
theorem aGy (aA:Int)(n M s h:Nat):kF aA n M s h 0= []:=rfl
theorem aN1 {aA:Int}{n M s h j f:Nat}(hj:(aT aA n h)[j]? =some f) (hb:(s%M).testBit f=true):kF aA n M s h (j+1)=kF aA n M s h j:=by unfold kF;rw[aX hj,aSd];simp[hb]
theorem aKd {aA:Int}{n M s h j f:Nat}(hj:(aT aA n h)[j]? =some f) (hb:(s%M).testBit f=false):kF aA n M s h (j+1)=kF aA n M s h j++ [gY M (s/M) (s%M) f h]:=by unfold kF;rw[aX hj,aSd];simp[hb]
theorem aGz {aA:Int}{n M s h j:Nat}(hh:h<n)(hb:(s%M).testBit h=true): ∀v∈jJ aA n M s h++kF aA n M s h j,v∈zD aA n M s:=by
 intro v hv;rw[←uI];unfold jJ;rw[List.mem_flatMap];rcases aS0.1 hv with hv|hv
 ·unfold jJ at hv;obtain⟨a,ha,hm⟩:=List.mem_flatMap.1 hv;exact⟨a,aRz.2 (by have:=aRz.1 ha;omega),hm⟩
 refine⟨h,aRz.2 hh,?_⟩;rw[aOb hb];unfold kF at hv⊢;obtain⟨f,hf,rfl⟩:=List.mem_map.1 hv;obtain⟨h1,h2⟩:=aS4.1 hf;exact List.mem_map.2 ⟨f,aS4.2 ⟨by rw[aT3];exact aSz h1,h2⟩,rfl⟩
theorem aKe {aA:Int}{n M s h:Nat}(hh:h≤n): ∀v∈jJ aA n M s h,v∈zD aA n M s:=by intro v hv;rw[←uI];unfold jJ at hv⊢;obtain⟨a,ha,hm⟩:=List.mem_flatMap.1 hv;exact List.mem_flatMap.2 ⟨a,aRz.2 (by have:=aRz.1 ha;omega),hm⟩
theorem aE6 {adj:Nat→List Nat}{src:List Nat}{N k u:Nat}{D:List Int}{Q:List Nat}(h:Inv adj src N k (D,Q))(hu:Q[k]? =some u) (ha: ∀v∈adj u,v<N) {vs:List Nat} (hv: ∀v∈vs,v∈adj u) {D2:List Int} {Q2:List Nat} (he:(D2,Q2)=bQ (D.getD u 0+1) (D,Q) vs):
  Mid adj src N k u vs (D,Q) (D2,Q2):=by
 rw[he];have:=Mid.many (aRi hu) vs [] (D,Q) (h.mid hu) (fun v hv'=>⟨hv v hv',ha v (hv v hv')⟩);simpa using this
section
open Go.Proofs.Tryz
theorem oL (n:Nat):(madeCells #[I 0] n).toList=ivs (List.replicate n 0)∧(madeCells #[I 0] n).size=n:=by
 constructor
 ·apply List.ext_getElem<;>simp[madeCells,Nat.mod_one]
 simp[madeCells]
theorem aP2 (N:Nat)(src:List Nat): ∀x∈jH N src,-1≤x∧x≤((0:Nat):Int):=by
 unfold jH
 suffices h: ∀(l:List Nat) (A:List Int),(∀x∈A,-1≤x∧x≤((0:Nat):Int))→ ∀x∈l.foldl (fun A v=>A.set v 0) A,-1≤x∧x≤((0:Nat):Int)from h src _ (fun x hx=>by rw[List.mem_replicate]at hx;omega)
 intro l;induction l with
 |nil=>intro A h;exact h
 |cons v l ih=>
  intro A h
  exact ih (A.set v 0) (fun x hx=>by
   rcases aSk hx with h1|h1
   ·exact h x h1
   ·omega)
theorem aG1 (aA aB:Int)(p:OA)(n a F P:Nat)(w:World)(dm:4≤n)(hn:n≤12)(hP:Hid (P=2 ^ n))(cw:P≤4096)(df:P%2=0)
  (HF:xC 147 #[aH aA aB p n a] w fun w' e w''=> ∃q c,e= .returned (.slice q F c)∧Ext w' w'')
  (b8:Hid (∀(m:Nat) w',m≤4096→U 182 #[m] w' fun e w''=>e= .returned (I (iD m))∧w'=w''))
  (HN:Hid (∀w',Ext w w'→U 183 #[aH aA aB p n a] w' (aD5 aA n w'))):
  U 144 #[aH aA aB p n a] w fun e w'=> ∃D,fI aA n F D∧aZ D w e w':=by
 obtain⟨AR,ar⟩: ∃AR:Array Value,AR=madeCells #[()] 49152:=⟨_,rfl⟩
 have co: ∀w:World,(Instr.makeSlice 23 (I 49152) (I 49152)).run prog w= .ok (.slice (some ⟨w,0,none⟩) 49152 49152) (w.alloc (.cells AR TI)):=fun w=>by rw[ar];exact run_make_row' _ _ (I 0) 8 underlying23 (by kernel_rfl) rfl .i64 .i64 49152 (by omega) (by omega) w
 have bo:Hid (AR.toList=ivs (lI 0)):=by show _=_;rw[ar,(oL 49152).1];rfl
 have bp:Hid (AR.size=49152):=by show _=_;rw[ar];exact(oL 49152).2
 clear ar;go_enter func144,ntmps144;go_wp2;have ME:=(show Mem w ((w.alloc (.cells #[aA,aB,.slice p n a] TH3)).alloc (.cells AR TI)) [aJ w TI 1 (some ⟨w.heap.size+1,0,none⟩) (49152) (49152) (ivs (lI 0)),aI w w TH3 #[aA,aB,.slice p n a]]from by rw[←bo.out];exact((Mem.start w).c0 TH3 #[aA,aB,.slice p n a]).lit TI 1 49152 _ AR (by simp) (by rw[bp.out]) (by simp[maxLen]))
 clear bo bp co;go_loopw [4] (fun i wr=> ∃(k:Nat),k≤49152∧i=I k∧Mem w wr [aJ w TI 1 (some ⟨w.heap.size+1,0,none⟩) (49152) (49152) (ivs (lI k)),aI w w TH3 #[aA,aB,.slice p n a]]) (fun i _=>49152-(intOf i).toNat)
 case atStart=>exact⟨0,aRo _,rfl,ME⟩
 case round=>
  clear ME;obtain⟨k,hk,rfl,hM⟩:=hrel;have HM:=hM;clear hM;by_cases hlt:k<49152
  ·have i1:(0:Int)≤(k:Int):=by omega
   have i2:(k:Int)<49152:=by omega
   have cl:wr.cell? ⟨w.heap.size+1,k,none⟩=some (I 0):=by have:=(HM.ow 0).cellAt k (by omega);rw[this];simp[ivs,aH9 hlt]
   have cf:wr.frozen? ⟨w.heap.size+1,k,none⟩=false:=(HM.ow 0).frozenAt k;have M2:=(show Mem w (wr.setCell ⟨w.heap.size+1,k,none⟩ (I (-1))) [aJ w TI 1 (some ⟨w.heap.size+1,0,none⟩) (49152) (49152) (ivs (lI (k+1))),aI w w TH3 #[aA,aB,.slice p n a]]from by rw[←aH8 hlt,←eE];exact HM.ostore (i:=0) rfl k (I (-1)))
   clear HM;go_wp2;go_roundw
   case rel=>exact⟨k+1,by omega,by go_num,M2⟩
   case measure=>simp[intOf];omega
  obtain rfl:k=49152:=by omega
  have M1:=(show Mem w wr [aJ w TI 1 (some ⟨w.heap.size+1,0,none⟩) (49152) (49152) (ivs (jH NN (fK F 0))),aI w w TH3 #[aA,aB,.slice p n a]]from by have:=HM;rwa[show lI 49152=jH NN (fK F 0)from aHa F]at this)
  clear HM hlt hk;have M2:=(M1.made0 TI 1 wr rfl)
  clear M1;have c0:(wr.alloc (.cells #[] TI)).cell? ⟨w,0,none⟩=some (I aA):=(M2.bk 2).cell 0;have c1:(wr.alloc (.cells #[] TI)).cell? ⟨w,1,none⟩=some (I aB):=(M2.bk 2).cell 1;have c2:(wr.alloc (.cells #[] TI)).cell? ⟨w,2,none⟩=some (.slice p n a):=(M2.bk 2).cell 2;go_wp2_with fail;clear c0 c1 c2;refine(HF _ M2.ext).mono ?_;rintro e w3 ⟨q3,c3,rfl,b5⟩;have M3:=(M2.adv b5)
  clear M2 b5;have dn:(2:Int) ^ n=(P:Int):=by rw[hP.out];simp
  have dr:IntKind.i64.wrap (P:Int)=(P:Int):=aRj _ (by omega);go_wp2;go_loopw [5,7] (fun v i wx=> ∃(m:Nat) (q:OA) (l lc:Nat),m≤P∧m%2=0∧i=I m∧v= .slice q l lc∧l=(fK F m).length∧Mem w wx [aJ w TI 1 (q) (l) (lc) (ivs (bF (fK F m))),aJ w TI 1 (some ⟨w.heap.size+1,0,none⟩) (49152) (49152) (ivs (jH NN (fK F m))),aI w w TH3 #[aA,aB,.slice p n a]]) (fun _ i _=>P-(intOf i).toNat)
  case atStart=>exact⟨0,some ⟨wr,0,none⟩,0,0,aRo _,rfl,rfl,rfl,rfl,M3⟩
  case round=>
   clear M3;obtain⟨m,q,l,lc,hm,an,rfl,rfl,hl,hM⟩:=hrel;have HM:=hM;have HL:=xQ hl;have dl:l≤4096:=by have:=aDd F m;omega
   clear hM hl;obtain⟨c0,c1,c2⟩:=(HM.bk 2).tri;by_cases hlt:m<P
   ·go_wp2_with fail;refine(b8 m _ (by omega)).mono ?_;rintro e wx ⟨rfl,rfl⟩;have h2:=aDc (many:=F) an;by_cases hp:iD m=F
    ·have t1:((iD m:Int)==(F:Int))=true:=by simp[hp]
     rw[if_pos hp]at h2;have H2:=xQ h2;have o:=xQ (show l+1=(fK F (m+2)).length by rw[h2,aRm,←HL.out];rfl);clear h2 hp;have cn:m<49152:=by omega
     have i1:(0:Int)≤(m:Int):=by omega
     have i2:(m:Int)<49152:=by omega
     obtain⟨x0,b4⟩: ∃x0,(jH NN (fK F m))[m]? =some x0:=⟨_,aRh (by rw[aAi];exact cn)⟩
     have cl:wr.cell? ⟨w.heap.size+1,m,none⟩=some (I x0):=by have:=(HM.ow 1).cellAt m (by omega);rw[this];simp[ivs,b4]
     have cf:wr.frozen? ⟨w.heap.size+1,m,none⟩=false:=(HM.ow 1).frozenAt m;clear b4;go_wp2_with (at_builtin;refine cK fU rfl _ _ rfl ((HM.ostore (i:=1) rfl m (I 0)).adv ((Ext.refl _).alloc (.cells #[m] TI))) 0 rfl rfl [I m] rfl (eG _ _ _ 1 1 _ (by first|rfl|simp) (by first|rfl|simp) (by simp[maxLen])) (fun u hu=>by obtain rfl:=aS2.1 hu;rfl) (by omega) ?_;intro q7 c7 w6 M6);have M7:=(show Mem w w6 [aJ w TI 1 (q7) (l+1) (c7) (ivs (bF (fK F (m+2)))),aJ w TI 1 (some ⟨w.heap.size+1,0,none⟩) (49152) (49152) (ivs (jH NN (fK F (m+2)))),aI w w TH3 #[aA,aB,.slice p n a]]from by rw[H2.out,aGn,←eE,bF,aSt,ivs,aSt];exact M6)
     clear M6 HM cl cf c0 c1 c2;go_wp2;go_roundw
     case rel=>exact⟨m+2,q7,l+1,c7,by omega,by omega,by go_num,rfl,o.out,M7⟩
     case measure=>simp[intOf];omega
    have t1:((iD m:Int)==(F:Int))=false:=by simp;omega
    rw[if_neg hp,aS6]at h2;have H2:=xQ h2;clear h2;go_wp2;go_roundw
    case rel=>exact⟨m+2,q,l,lc,by omega,by omega,by go_num,rfl,by rw[H2.out];exact HL.out,by rw[H2.out];exact HM⟩
    case measure=>simp[intOf];omega
   obtain rfl:m=P:=by omega
   have a1:fK F m=xA n F:=by rw[hP.out];rfl
   rw[a1]at HL HM;have cq:n≤12:=hn;have hI:=Inv.begin (adj:=zD aA n MM) (src:=xA n F) (N:=NN) (aIf cq) wZ;have bh:=xQ hI;clear hI a1 hlt;go_wp2_with fail;clear c0 c1 c2;refine(HN _ HM.ext).mono ?_;rintro e w4 ⟨qB,cB,s,rfl,ae,ad,b6⟩;obtain⟨gB,rfl,c6,c8⟩:=fA ad.1 (by rw[ae.1];omega);have M4:=(HM.nestNew b6 ad (aRg _))
   have HR:=xQ ae;clear ad b6 ae HM;go_wp2;go_loopw [5,9] (fun v i wx=> ∃(k:Nat) (q:OA) (l lc:Nat) (D:List Int) (Q:List Nat),k≤l∧i=I k∧v= .slice q l lc∧l=Q.length∧(∀x∈D,-1≤x∧x≤(k:Int))∧Inv (zD aA n MM) (xA n F) NN k (D,Q)∧Mem w wx [aJ w TI 1 (q) (l) (lc) (ivs (bF Q)),aJ w TI 1 (some ⟨w.heap.size+1,0,none⟩) (49152) (49152) (ivs D),oY w TSS TI 1 (some ⟨gB,0,none⟩) cB s,aI w w TH3 #[aA,aB,.slice p n a]]) (fun _ i _=>49152-(intOf i).toNat)
   case atStart=>exact⟨0,q,l,lc,_,xA n F,aRo _,rfl,rfl,HL.out,aP2 _ _,bh.out,M4.pick [1,2,0,3] (by decide) rfl⟩
   case round=>
    clear M4 bh HL;obtain⟨k,q,l,lc,D,Q,hk,rfl,rfl,hl,bs,al,hM⟩:=hrel;have HM:=hM;have HL:=xQ hl;have bc:=xQ bs;have HI:=xQ al;have dk:l≤49152:=by have:=al.qlen;rw[hl];exact this
    clear hM hl bs al;by_cases hlt:k<l
    ·obtain⟨gL,rfl,di,dj⟩:=HM.so 0;obtain⟨u,hu⟩: ∃u,Q[k]? =some u:=⟨_,aRh (by rw[←HL.out];exact hlt)⟩
     have ao:u<49152:=HI.out.bd u (aRi hu);obtain⟨C,hC⟩: ∃C,C=u/4096:=⟨_,rfl⟩
     obtain⟨S,hS⟩: ∃S,S=u%4096:=⟨_,rfl⟩
     have cv:C<12:=by omega
     have cz:S<4096:=by omega
     have HU:=xQ hu;have HC:=xQ hC;have HS:=xQ hS;have i1:(0:Int)≤(k:Int):=by omega
     have i2:(k:Int)<(l:Int):=by omega
     have d1:(u:Int)/4096=(C:Int):=by omega
     have d2:(u:Int)%4096=(S:Int):=by omega
     have cu:wr.cell? ⟨gL,k,none⟩=some (I u):=by have:=(HM.ow 0).cellAt k (by omega);rw[this];simp[ivs,bF,hu]
     clear hu hC hS;go_wp2;rw[d2];clear cu d1 d2;go_loopw [5,12] (fun v i wx=> ∃(h:Nat) (q:OA) (l2 lc:Nat) (D2:List Int) (Q2:List Nat),h≤n∧i=I h∧v= .slice q l2 lc∧l2=Q2.length∧(D2,Q2)=bQ (D.getD u 0+1) (D,Q) (jJ aA n MM u h)∧(∀x∈D2,-1≤x∧x≤(k:Int)+1)∧Mem w wx [aJ w TI 1 (q) (l2) (lc) (ivs (bF Q2)),aJ w TI 1 (some ⟨w.heap.size+1,0,none⟩) (49152) (49152) (ivs D2),oY w TSS TI 1 (some ⟨gB,0,none⟩) cB s,aI w w TH3 #[aA,aB,.slice p n a]]) (fun _ i _=>n-(intOf i).toNat)
     case atStart=>exact⟨0,_,l,lc,D,Q,aRo _,rfl,rfl,HL.out,rfl,fun x hx=>by have:=bc x hx;omega,HM⟩
     case round=>
      clear HM;obtain⟨h,q,l2,lc,D2,Q2,hh,rfl,rfl,am,ag,y,hM⟩:=hrel;have HM:=hM;have o:=xQ am;have t:=xQ ag;have b:=xQ y;clear hM am ag y;obtain⟨c0,c1,c2⟩:=(HM.bk 3).tri;by_cases hlth:h<n
      ·obtain⟨Ph,ai⟩: ∃Ph:Nat,Ph=2 ^ h:=⟨_,rfl⟩
       have cy:Ph≤2048:=by rw[ai];exact aRp (aRs (by omega) (show h≤11 by omega)) (by decide)
       have dq:(2:Int) ^ h=(Ph:Int):=by rw[ai];simp
       have dt:IntKind.i64.wrap (Ph:Int)=(Ph:Int):=aRj _ (by omega);obtain⟨A,hA⟩: ∃A:Nat,A=S/Ph:=⟨_,rfl⟩
       have de:(S:Int)/(Ph:Int)=(A:Int):=by rw[hA];simp
       have ay:S.testBit h=decide (A%2=1):=by rw[hA,ai];exact aJ5 S h
       have bi:=xQ ai;have aw:=xQ ay;obtain⟨ct,ba⟩: ∃r,s[h]? =some r:=⟨_,aRh (by rw[HR.out.1];exact hlth)⟩
       obtain⟨qi,ni,ci,xi⟩:=ct;obtain⟨b0,b7⟩:=HR.out.2 h _ ba;dsimp only at b0 b7;subst b0 b7;have a5:=xQ ba;have rl:=HR.out.1;have RL:=xQ rl;clear ai ay hA ba;obtain⟨nb,av⟩: ∃nb,nb=aT aA n h:=⟨_,rfl⟩
       rw[←av]at a5;have a4:=xQ av;have cp:nb.length≤12:=by rw[av];exact aRp (aSl _ _) (by simp;omega)
       clear av rl;have k1:(0:Int)≤(h:Int):=by omega
       have k2:(h:Int)<(n:Int):=by omega
       go_wp2;clear c0 c1 c2;cases hb:S.testBit h with
       |false=>
        have t1:(A:Int)%2=0:=by have:=aw.out;rw[hb]at this;simp at this;omega
        have d:=xQ (show jJ aA n MM u (h+1)=jJ aA n MM u h by rw[xV,aR7 (by rw[←show S=u%MM from HS.out];exact hb),aS6]);clear hb;go_loopw [5,13] (fun v i wx=>i=I 0∧v= .slice q l2 lc∧wr=wx) (fun _ _ _=>0)
        case atStart=>exact⟨rfl,rfl,rfl⟩
        case round=>
         obtain⟨rfl,rfl,rfl⟩:=hrel;go_wp2;go_roundw
         case rel=>exact⟨h+1,q,l2,lc,D2,Q2,by omega,by go_num,rfl,o.out,by rw[d.out];exact t.out,b.out,HM⟩
         case measure=>simp[intOf];omega
       |true=>
        have t1:(A:Int)%2=1:=by have:=aw.out;rw[hb]at this;simp at this;omega
        have au:=xQ (show(u%MM).testBit h=true by rw[←show S=u%MM from HS.out];exact hb);clear hb;go_loopw [5,13] (fun v i wx=> ∃(j:Nat) (q:OA) (l2 lc:Nat) (D2:List Int) (Q2:List Nat),j≤nb.length∧i=I j∧v= .slice q l2 lc∧l2=Q2.length∧(D2,Q2)=bQ (D.getD u 0+1) (D,Q) (jJ aA n MM u h++kF aA n MM u h j)∧(∀x∈D2,-1≤x∧x≤(k:Int)+1)∧Mem w wx [aJ w TI 1 (q) (l2) (lc) (ivs (bF Q2)),aJ w TI 1 (some ⟨w.heap.size+1,0,none⟩) (49152) (49152) (ivs D2),oY w TSS TI 1 (some ⟨gB,0,none⟩) cB s,aI w w TH3 #[aA,aB,.slice p n a]]) (fun _ i _=>nb.length-(intOf i).toNat)
        case atStart=>exact⟨0,q,l2,lc,D2,Q2,aRo _,rfl,rfl,o.out,by rw[aGy,aS6];exact t.out,b.out,HM⟩
        case round=>
         clear HM o t b;obtain⟨j,q,l2,lc,D2,Q2,hj,rfl,rfl,am,ag,y,hM⟩:=hrel;have HM:=hM;have b1: ∀v∈jJ aA n MM u h++kF aA n MM u h j,v∈zD aA n MM u:=aGz hlth au.out;have z:=aE6 HI HU.out (fun v hv=>tS hn u v ao hv) b1 ag;have bq:D2.length=49152:=z.len;have dg:Q2.length≤49152:=pO z.nodup z.bd;have cr:u∈Q:=aRi HU.out;have bb:D2.getD u 0=D.getD u 0:=z.same u cr;obtain⟨r,hr⟩:=z.pre;dsimp only at hr;have cm:k<Q2.length:=by rw[hr,aRm];have:=HL.out;omega
         have br:Q2[k]? =some u:=by have:=HL.out;rw[hr,aS1 (by omega)];exact HU.out
         have aa:=dM (D:=D2) (v:=u) (by omega);have c4: -1≤D2.getD u 0:=(y _ aa.2).1;have c5:D2.getD u 0≤(k:Int):=by rw[bb];exact(bc _ (dM (D:=D) (v:=u) (by have:=HI.out.len;dsimp only at this;rw[this];exact ao)).2).2
         have t:=xQ ag;have b:=xQ y;have o:=xQ am;have bj:=xQ br;have bf:=xQ aa.1;have bl:=xQ bb;have b9:=xQ bq;have dc:l2≤49152:=by omega
         have db:k<l2:=by omega
         have cb:wr.cell? ⟨gB,h,none⟩=some (.slice qi nb ci):=by have:=(HM.nest (i:=2) rfl).1.cellAt h (by rw[RL.out];omega);rw[this,aRy,a5.out];rfl
         have a0:=(HM.nest (i:=2) rfl).2 _ (aRi a5.out);have ax:=xQ (show wr.ownsRow w TI 1 (.slice qi nb ci) nb.length (ivs (bF nb))from a0);clear hM b1 z hr ag y am br aa bb a0 bq cm;by_cases hltj:j<nb.length
         ·obtain⟨gi,rfl,c9,da⟩:=fA ax (by omega);obtain⟨f,hf⟩: ∃f,nb[j]? =some f:=⟨_,aRh hltj⟩
          have ch:f<n:=(bV.1 (by rw[←a4.out];exact aRi hf:f∈aT aA n h)).1;have bv:(aT aA n h)[j]? =some f:=by rw[←a4.out];exact hf
          have a3:=xQ bv;have cj:wr.cell? ⟨gi,j,none⟩=some (I f):=by have:=ax.out.cellAt j (by omega);rw[this];simp[ivs,bF,hf]
          clear hf bv;have m1:(0:Int)≤(j:Int):=by omega
          have m2:(j:Int)<(nb.length:Int):=by omega
          obtain⟨Pf,ah⟩: ∃Pf:Nat,Pf=2 ^ f:=⟨_,rfl⟩
          have cx:Pf≤2048:=by rw[ah];exact aRp (aRs (by omega) (show f≤11 by omega)) (by decide)
          have dp:(2:Int) ^ f=(Pf:Int):=by rw[ah];simp
          have ds:IntKind.i64.wrap (Pf:Int)=(Pf:Int):=aRj _ (by omega);obtain⟨B,hB⟩: ∃B:Nat,B=S/Pf:=⟨_,rfl⟩
          have dd:(S:Int)/(Pf:Int)=(B:Int):=by rw[hB];simp
          have bt:S.testBit f=decide (B%2=1):=by rw[hB,ah];exact aJ5 S f
          have be:=xQ bt;have cc:=xQ ah;clear ah hB bt;cases hb:S.testBit f with
          |true=>
           have t2:(B:Int)%2=1:=by have:=be.out;rw[hb]at this;simp at this;omega
           have d:=xQ (aN1 a3 (show(u%MM).testBit f=true by rw[←show S=u%MM from HS.out];exact hb));clear hb;go_wp2;go_roundw
           case rel=>exact⟨j+1,q,l2,lc,D2,Q2,by omega,by go_num,rfl,o.out,by rw[d.out];exact t.out,b.out,HM⟩
           case measure=>simp[intOf];omega
          |false=>
           have t2:(B:Int)%2=0:=by have:=be.out;rw[hb]at this;simp at this;omega
           have aj:(u%MM).testBit f=false:=by rw[←show S=u%MM from HS.out];exact hb
           have d:=xQ (aKd a3 aj);have a2:=(wS au.out).1;have dh:Ph≤S:=by rw[bi.out,show S=u%MM from HS.out];exact a2
           obtain⟨v,hv⟩: ∃v,v=gY MM (u/MM) (u%MM) f h:=⟨_,rfl⟩
           have cs:v<49152:=tS hn u v ao (nT.2 ⟨f,h,ch,hlth,gS hlth (by exact aRi a3.out),aj,au.out,hv⟩);have b2:v=dS C f h*4096+(S-Ph+Pf):=by rw[hv,bi.out,cc.out,show C=u/MM from HC.out,show S=u%MM from HS.out];rfl
           rw[←hv]at d;have bm:=xQ b2;clear hb aj a2 hv b2;have s1:(0:Int)≤(v:Int):=by omega
           have s2:(v:Int)<49152:=by omega
           obtain⟨dv,bu,az⟩: ∃dv,D2[v]? =some dv∧D2.getD v 0=dv:=⟨_,(dM (D:=D2) (v:=v) (by rw[b9.out];exact cs)).1,rfl⟩
           have bg:=xQ bu;have af:=xQ az;clear bu az;by_cases hcar:f=C
           ·have t3:((f:Int)==(C:Int))=true:=by simp[hcar]
            have ap:(h:Int)*4096+(S:Int)-(Ph:Int)+(Pf:Int)=(v:Int):=by have:=bm.out;unfold dS at this;rw[if_pos hcar]at this;omega
            have a6:=xQ ap;clear ap hcar;go_wp2;have a7:IntKind.i64.wrap ((h:Int)*4096)=(h:Int)*4096:=aRj _ (by omega);have an:IntKind.i64.wrap ((h:Int)*4096+(S:Int))=(h:Int)*4096+(S:Int):=aRj _ (by omega);have a8:IntKind.i64.wrap ((h:Int)*4096+(S:Int)-(Ph:Int))=(h:Int)*4096+(S:Int)-(Ph:Int):=aRj _ (by omega);have a9:IntKind.i64.wrap ((h:Int)*4096+(S:Int)-(Ph:Int)+(Pf:Int))=(v:Int):=(aRj _ (by omega)).trans a6.out;go_quiet (fail);generalize aq:World.drewN wr _=wi;have hX:Ext wr wi:=by rw[←aq];exact Ext.drewN (Ext.refl _) _
            clear aq a7 an a8 a9;have MI:=(HM.adv hX)
            have HE:=xQ (show Mem w wi [aJ w TI 1 (q) (l2) (lc) (ivs (bF Q2)),aJ w TI 1 (some ⟨w.heap.size+1,0,none⟩) (49152) (49152) (ivs D2),oY w TSS TI 1 (some ⟨gB,0,none⟩) cB s,aI w w TH3 #[aA,aB,.slice p n a]]from MI);clear hX HM MI cb cj;have cl:wi.cell? ⟨w.heap.size+1,v,none⟩=some (I dv):=by have:=(HE.out.ow 1).cellAt v (by omega);rw[this];simp[ivs,bg.out]
            by_cases hd0:dv<0
            ·have t4:decide (dv<0)=true:=by simp[hd0]
             have g:Hid ((D2.set v (D.getD u 0+1),Q2++ [v])=bQ (D.getD u 0+1) (D,Q) (jJ aA n MM u h++kF aA n MM u h (j+1))):=by show _=_;rw[d.out,←aS5,eB,←t.out,lP (by rw[af.out];exact hd0)]
             obtain⟨du,aa⟩: ∃du,du=D2.getD u 0:=⟨_,rfl⟩
             have ab:=xQ aa;have ce: -1≤du:=by omega
             have cg:du≤(k:Int):=by omega
             have b3:IntKind.i64.wrap (du+1)=du+1:=aRj _ (by omega);obtain⟨gl,rfl,bw,bx⟩:=HE.out.so 0;have n0:(0:Int)≤(u:Int):=by omega
             have n1:(u:Int)<49152:=by omega
             have n2:(k:Int)<(l2:Int):=by omega
             have ck:wi.cell? ⟨gl,k,none⟩=some (I u):=by have:=(HE.out.ow 0).cellAt k (by omega);rw[this];simp[ivs,bF,bj.out]
             have cd:wi.cell? ⟨w.heap.size+1,u,none⟩=some (I du):=by have:=(HE.out.ow 1).cellAt u (by omega);rw[this,ab.out];simp only[ivs,aRy,bf.out,aSh]
             have cf:wi.frozen? ⟨w.heap.size+1,v,none⟩=false:=(HE.out.ow 1).frozenAt v;clear aa hd0;go_wp2_with (at_builtin;refine cK fU rfl _ _ rfl ((HE.out.ostore (i:=1) rfl v (I (du+1))).adv ((Ext.refl _).alloc (.cells #[v] TI))) 0 rfl rfl [I v] rfl (eG _ _ _ 1 1 _ (by first|rfl|simp) (by first|rfl|simp) (by simp[maxLen])) (fun u hu=>by obtain rfl:=aS2.1 hu;rfl) (by omega) ?_;intro q7 c7 w6 M6);have M7:=(show Mem w w6 [aJ w TI 1 (q7) (l2+1) (c7) (ivs (bF (Q2++ [v]))),aJ w TI 1 (some ⟨w.heap.size+1,0,none⟩) (49152) (49152) (ivs (D2.set v (du+1))),oY w TSS TI 1 (some ⟨gB,0,none⟩) cB s,aI w w TH3 #[aA,aB,.slice p n a]]from by rw[←eE,bF,aSt,ivs,aSt];exact M6)
             clear M6 HE cl ck cd cf;go_wp2;go_roundw
             case rel=>exact⟨j+1,q7,l2+1,c7,D2.set v (du+1),Q2++ [v],by omega,by go_num,rfl,by rw[aRm,←o.out];rfl,by rw[←g.out,←bl.out,←ab.out],fun x hx=>by
              rcases aSk hx with h|h
              ·exact b x h
              ·omega,M7⟩
             case measure=>simp[intOf];omega
            have t4:decide (dv<0)=false:=by simp[hd0]
            have g:Hid ((D2,Q2)=bQ (D.getD u 0+1) (D,Q) (jJ aA n MM u h++kF aA n MM u h (j+1))):=by show _=_;rw[d.out,←aS5,eB,←t.out,nJ (by rw[af.out];exact hd0)]
            clear hd0;go_wp2;go_roundw
            case rel=>exact⟨j+1,q,l2,lc,D2,Q2,by omega,by go_num,rfl,o.out,g.out,b.out,HE.out⟩
            case measure=>simp[intOf];omega
           have t3:((f:Int)==(C:Int))=false:=by simp;omega
           have ap:(C:Int)*4096+(S:Int)-(Ph:Int)+(Pf:Int)=(v:Int):=by have:=bm.out;unfold dS at this;rw[if_neg hcar]at this;omega
           have a6:=xQ ap;clear ap hcar;go_wp2;have a7:IntKind.i64.wrap ((C:Int)*4096)=(C:Int)*4096:=aRj _ (by omega);have an:IntKind.i64.wrap ((C:Int)*4096+(S:Int))=(C:Int)*4096+(S:Int):=aRj _ (by omega);have a8:IntKind.i64.wrap ((C:Int)*4096+(S:Int)-(Ph:Int))=(C:Int)*4096+(S:Int)-(Ph:Int):=aRj _ (by omega);have a9:IntKind.i64.wrap ((C:Int)*4096+(S:Int)-(Ph:Int)+(Pf:Int))=(v:Int):=(aRj _ (by omega)).trans a6.out;go_quiet (fail);generalize aq:World.drewN wr _=wi;have hX:Ext wr wi:=by rw[←aq];exact Ext.drewN (Ext.refl _) _
           clear aq a7 an a8 a9;have MI:=(HM.adv hX)
           have HE:=xQ (show Mem w wi [aJ w TI 1 (q) (l2) (lc) (ivs (bF Q2)),aJ w TI 1 (some ⟨w.heap.size+1,0,none⟩) (49152) (49152) (ivs D2),oY w TSS TI 1 (some ⟨gB,0,none⟩) cB s,aI w w TH3 #[aA,aB,.slice p n a]]from MI);clear hX HM MI cb cj;have cl:wi.cell? ⟨w.heap.size+1,v,none⟩=some (I dv):=by have:=(HE.out.ow 1).cellAt v (by omega);rw[this];simp[ivs,bg.out]
           by_cases hd0:dv<0
           ·have t4:decide (dv<0)=true:=by simp[hd0]
            have g:Hid ((D2.set v (D.getD u 0+1),Q2++ [v])=bQ (D.getD u 0+1) (D,Q) (jJ aA n MM u h++kF aA n MM u h (j+1))):=by show _=_;rw[d.out,←aS5,eB,←t.out,lP (by rw[af.out];exact hd0)]
            obtain⟨du,aa⟩: ∃du,du=D2.getD u 0:=⟨_,rfl⟩
            have ab:=xQ aa;have ce: -1≤du:=by omega
            have cg:du≤(k:Int):=by omega
            have b3:IntKind.i64.wrap (du+1)=du+1:=aRj _ (by omega);obtain⟨gl,rfl,bw,bx⟩:=HE.out.so 0;have n0:(0:Int)≤(u:Int):=by omega
            have n1:(u:Int)<49152:=by omega
            have n2:(k:Int)<(l2:Int):=by omega
            have ck:wi.cell? ⟨gl,k,none⟩=some (I u):=by have:=(HE.out.ow 0).cellAt k (by omega);rw[this];simp[ivs,bF,bj.out]
            have cd:wi.cell? ⟨w.heap.size+1,u,none⟩=some (I du):=by have:=(HE.out.ow 1).cellAt u (by omega);rw[this,ab.out];simp only[ivs,aRy,bf.out,aSh]
            have cf:wi.frozen? ⟨w.heap.size+1,v,none⟩=false:=(HE.out.ow 1).frozenAt v;clear aa hd0;go_wp2_with (at_builtin;refine cK fU rfl _ _ rfl ((HE.out.ostore (i:=1) rfl v (I (du+1))).adv ((Ext.refl _).alloc (.cells #[v] TI))) 0 rfl rfl [I v] rfl (eG _ _ _ 1 1 _ (by first|rfl|simp) (by first|rfl|simp) (by simp[maxLen])) (fun u hu=>by obtain rfl:=aS2.1 hu;rfl) (by omega) ?_;intro q7 c7 w6 M6);have M7:=(show Mem w w6 [aJ w TI 1 (q7) (l2+1) (c7) (ivs (bF (Q2++ [v]))),aJ w TI 1 (some ⟨w.heap.size+1,0,none⟩) (49152) (49152) (ivs (D2.set v (du+1))),oY w TSS TI 1 (some ⟨gB,0,none⟩) cB s,aI w w TH3 #[aA,aB,.slice p n a]]from by rw[←eE,bF,aSt,ivs,aSt];exact M6)
            clear M6 HE cl ck cd cf;go_wp2;go_roundw
            case rel=>exact⟨j+1,q7,l2+1,c7,D2.set v (du+1),Q2++ [v],by omega,by go_num,rfl,by rw[aRm,←o.out];rfl,by rw[←g.out,←bl.out,←ab.out],fun x hx=>by
             rcases aSk hx with h|h
             ·exact b x h
             ·omega,M7⟩
            case measure=>simp[intOf];omega
           have t4:decide (dv<0)=false:=by simp[hd0]
           have g:Hid ((D2,Q2)=bQ (D.getD u 0+1) (D,Q) (jJ aA n MM u h++kF aA n MM u h (j+1))):=by show _=_;rw[d.out,←aS5,eB,←t.out,nJ (by rw[af.out];exact hd0)]
           clear hd0;go_wp2;go_roundw
           case rel=>exact⟨j+1,q,l2,lc,D2,Q2,by omega,by go_num,rfl,o.out,g.out,b.out,HE.out⟩
           case measure=>simp[intOf];omega
         have d:Hid (jJ aA n MM u h++kF aA n MM u h j=jJ aA n MM u (h+1)):=by show _=_;rw[xV,aOb au.out,←a4.out,show j=nb.length by omega]
         rw[d.out]at t;obtain rfl:nb.length=j:=by omega
         go_wp2;go_roundw
         case rel=>exact⟨h+1,q,l2,lc,D2,Q2,by omega,by go_num,rfl,o.out,t.out,b.out,HM⟩
         case measure=>simp[intOf];omega
      obtain rfl:n=h:=by omega
      have hI:=HI.out.step HU (fun v hv=>tS hn u v ao hv);have he:=t.out;obtain⟨r,hr⟩:=(aE6 HI HU.out (fun v hv=>tS hn u v ao hv) (aKe (aRg _)) he).pre;dsimp only at hr;have bz:k+1≤l2:=by rw[o.out,hr,aRm];have:=HL.out;omega
      clear hr;rw[uI]at he;rw[←he]at hI;have ca:=xQ hI;clear hI he;go_wp2;go_roundw
      case rel=>exact⟨k+1,q,l2,lc,D2,Q2,bz,by go_num,rfl,o.out,fun x hx=>by have:=b x hx;omega,ca.out,HM⟩
      case measure=>simp[intOf];omega
    have ak:=xQ (HI.out.dist (by have:=HL.out;dsimp only;omega));go_wp2;go_ret;refine⟨D,ak.out,dI ak.out.len (HM.ow 1) HM.ext⟩
end
theorem aHb (aA aB:Int)(p:OA)(n a:Nat)(xs:List Int)(w:World)(hS:Sl w p n a 1 (ivs xs))(b:aN aA aB xs=true):
  U 144 #[aH aA aB p n a] w fun e w'=> ∃D,fI aA n (bP xs).length D∧aZ D w e w':=by
 have hl:=hS.ilen;obtain⟨g1,g2,g3,g4,g5,g6,g7⟩:=cE (cS b);have hp:(2:Nat) ^ n≤2 ^ 12:=aRs (by omega) (by omega);have d:(2:Nat) ^ n%2=0:=by obtain⟨m,hm⟩: ∃m,n=m+1:=⟨n-1,by omega⟩;rw[hm,Nat.pow_succ];omega
 refine aG1 aA aB p n a (bP xs).length (2 ^ n) w (by omega) (by omega) rfl (by omega) d (fun w' hx=> ?_) (fun m w' hm=>aHc m w' (by omega)) (fun w' hx=>aC5 aA aB p n a xs w' (hS.ext hx) b);exact(tI aA aB p n a xs w' (hS.ext hx) b).mono fun e w'' ⟨q,c,h1,_,h3⟩=>⟨q,c,h1,h3⟩
structure aBd (aA aB:Int) (xs:List Int) (D:List Int) (c:Nat) (id:Int) (j:Nat) (ys:List Int):Prop where
 ok:aN aA aB ys=true
 len:ys.length=xs.length
 free:aO ys=(gP aA xs.length (aV D) (c,aO xs) j).2
 at_:ys[(gP aA xs.length (aV D) (c,aO xs) j).1]? =some id
theorem aB4 {aA aB:Int}{ys:List Int}{c:Nat}{id:Int}(a:aN aA aB ys=true)(hi:1≤id)(hc:ys[c]? =some id):iX aA aB ys id=(c:Int):=by
 unfold iX;rw[if_pos ⟨a,hi⟩];refine tE hc (fun hm=> ?_);unfold aN at a;rw[aRr]at a;obtain⟨h1,h2,h3⟩:=(eW _ _).1 a.2;obtain⟨d,b⟩:=aRk.1 hc;have e1:ys=ys.take c++ys.drop c:=(List.take_append_drop c ys).symm;have hd:id∈ys.drop c:=by rw[rC hc];simp
 rw[e1,aSd,List.nodup_append]at h3;exact h3.2.2 id (aS4.2 ⟨hm,by simp;omega⟩) id (aS4.2 ⟨hd,by simp;omega⟩) rfl
theorem aLr {aA aB:Int}{xs:List Int}{D:List Int}{c:Nat}{id:Int}(h:aN aA aB xs=true)(hc:xs[c]? =some id) (h0:id≠0) (hD:fI aA xs.length (bP xs).length D) {d:Nat} (hd:aV D c (aO xs)=d) {j:Nat} (hj:j<d) {ys:List Int} (hw:aBd aA aB xs D c id j ys):
  ∃(J:Nat) (es:List (Nat×Nat)),es=eR aA xs.length (aO ys)∧iM aA aB ys=es.map jQ∧J<es.length∧es[J]? =some (gZ aA xs.length (aV D) (c,aO xs) j)∧
   (∀i e,i≤J→es[i]? =some e→e∈eR aA xs.length (aO ys)∧(aV D (dS (gP aA xs.length (aV D) (c,aO xs) j).1 e.1 e.2) (dB (aO ys) e.1 e.2)=(d:Int)-j-1↔i=J))∧
   ∀e,es[J]? =some e→aBd aA aB xs D c id (j+1) (bH aA aB ys (e.1:Int) (e.2:Int)):=by
 obtain⟨b1,b2,b3,b4,b5,b6,b7⟩:=cE (cS h);have hp:=lL hc h0;obtain⟨e1,e2,e3⟩:=kZ b5 b6 hD hp hd hj;obtain⟨g1,g2⟩:=jZ b5 b6 hD hp hd j (by omega);have l:=aBx hw.ok;rw[hw.len]at l;have b:gZ aA xs.length (aV D) (c,aO xs) j∈eR aA xs.length (aO ys):=by rw[hw.free];exact e2
 have k:(eR aA xs.length (aO ys)).find? (fun e=>decide (aV D (dS (gP aA xs.length (aV D) (c,aO xs) j).1 e.1 e.2) (dB (aO ys) e.1 e.2)=(d:Int)-j-1))=some (gZ aA xs.length (aV D) (c,aO xs) j):=by have:=e1;unfold mO at this;rw[←hw.free,←g2]at*;rw[hw.free]at*;exact this
 have w:=List.find?_some k;obtain⟨J,m,a,g,n⟩:=aIw (p:=fun e:Nat×Nat=>decide (aV D (dS (gP aA xs.length (aV D) (c,aO xs) j).1 e.1 e.2) (dB (aO ys) e.1 e.2)=(d:Int)-j-1)) (d:=(0,0)) b w;rw[k]at a g;simp only[Option.getD_some]at a g;refine⟨J,_,rfl,l,m,a,fun i e hi he=>⟨aRi he,?_⟩,fun e he=> ?_⟩
 ·constructor
  ·intro hh;rcases Nat.lt_or_ge i J with u|r
   ·have:=n i e u he;simp only[decide_eq_false_iff_not]at this;exact absurd hh this
   exact Nat.le_antisymm hi r
  intro s;have o:some (gZ aA xs.length (aV D) (c,aO xs) j)=some e:=by rw[←a,←s];exact he
  have q:=Option.some.inj o;rw[←q];exact of_decide_eq_true g
 rw[a]at he;injection he with he;subst he;have v:gZ aA xs.length (aV D) (c,aO xs) j∈eR aA ys.length (aO ys):=by rw[hw.len];exact b
 obtain⟨m1,m2,m3,m4⟩:=uT hw.ok (f:=(gZ aA xs.length (aV D) (c,aO xs) j).1) (t:=(gZ aA xs.length (aV D) (c,aO xs) j).2) v;refine⟨jA _ _ hw.ok,by rw[dA,hw.len],?_,?_⟩
 ·rw[m3,e3,hw.free];rfl
 rw[e3];exact m4 _ _ hw.at_ h0
end Go.Proofs.YtomgkjinhnkpnaaGreatDoor
