/-
  Texts of this proof, packed (@packed).
-/
import Derived.Deep.OwnRows
import Derived.Test.YtpelpnfhbepokaaGreatDoorV14
namespace Go.Proofs.YtpelpnfhbepokaaGreatDoor
open Go.RowKit
set_option linter.unusedVariables false
set_option linter.unusedSimpArgs false
set_option maxHeartbeats 8000000
set_option maxRecDepth 100000
abbrev TSS:TypeId:=23
theorem aLs:ElT Tryz.prog 213 TSS 1:=
 ⟨Tryz.underlying213,by
  obtain⟨i,hi,h0,h1,h2⟩:=info_parts (show(Tryz.prog.info? TSS).map (fun i=>(i.zero,i.size,i.bytes))=some (some (.slice none 0 0),1,24) by kernel_rfl)
  exact⟨i,_,hi,h0,h1,by omega,rfl⟩,by omega⟩
def oI (aA:Int)(n k:Nat)(rows:List RowD):Prop:=rows.length=k∧ ∀(j:Nat) (r:RowD),rows[j]? =some r→r.n=(aS aA n j).length∧r.xs=ivs (bF (aS aA n j))
def zD (aA:Int)(n:Nat)(w:World)(e:Ending)(w':World):Prop:=
 ∃q c rows,e= .returned (.slice q n c)∧oI aA n n rows∧zF w.heap.size TSS TI 1 q c rows w'∧Ext w w'
theorem sW {aA:Int}{n k:Nat}{rows:List RowD}{q:OA}{c:Nat}(h:oI aA n k rows):oI aA n (k+1) (rows++ [⟨q,(aS aA n k).length,c,ivs (bF (aS aA n k))⟩]):=by
 refine⟨by rw[List.length_append,h.1];rfl,fun j r hj=> ?_⟩;by_cases hk:j<k
 ·rw[List.getElem?_append_left (by rw[h.1];exact hk)]at hj;exact h.2 j r hj
 have hl:=(List.getElem?_eq_some_iff.1 hj).1;rw[List.length_append,h.1]at hl;simp at hl;obtain rfl:j=k:=by omega
 rw[List.getElem?_append_right (by rw[h.1];exact Nat.le_refl _),h.1,Nat.sub_self]at hj;simp at hj;subst hj;exact⟨rfl,by simp[ivs,bF]⟩
theorem aFb (aA aB:Int)(p:OA)(n a:Nat)(w:World)(hn:n≤12)
  (HC:Hid (∀(k:Nat),k<n→ ∀w',Ext w w'→Calls Tryz.prog 228 #[aH aA aB p n a,(k:Int)] w' (aX (bF (aS aA n k)) w'))):
  Calls Tryz.prog 207 #[aH aA aB p n a] w (zD aA n w):=by
 go_enter Tryz.func207,Tryz.ntmps207;have ME:=(((Mem.start w).c0 TH3 #[aA,aB,.slice p n a]).made0 TSS 1 (w.heap.size+1) (by simp))
 go_wp2;go_loopw [3,4] (fun v i wr=> ∃(k:Nat) (q:OA) (c:Nat) (rows:List RowD),k≤n∧i= .int .i64 (k:Int)∧v= .slice q k c∧oI aA n k rows∧Mem w wr [gK w.heap.size TI 1 rows,aJ w.heap.size TSS 1 (q) (k) (c) (rows.map RowD.v),aI w.heap.size (w.heap.size) TH3 #[aA,aB,.slice p n a]]) (fun _ i _=>n-(intOf i).toNat)
 case atStart=>exact⟨0,some ⟨w.heap.size+1,0,none⟩,0,[],Nat.zero_le _,rfl,rfl,⟨rfl,fun j r h=>by simp at h⟩,ME.rows0 rfl⟩
 case round=>
  clear ME;obtain⟨k,q,c,rows,hk,rfl,rfl,b,hM⟩:=hrel;have HM:=hM;have HR:=xQ b;clear hM b;have g:=(HM.hi 2)
  obtain⟨c0,c1,c2⟩:=(HM.bk 2).tri;by_cases hlt:k<n
  ·go_wp2_with fail;clear c0 c1 c2;refine(HC k hlt _ HM.ext).mono ?_;rintro e w2 ⟨q2,c2,rfl,o2,d⟩;rw[List.length_map]at o2⊢;have M2:=(HM.call d o2)
   have M3:=(M2.rowsAdd rfl)
   have f:=xQ (sW (q:=q2) (c:=c2) HR.out);clear o2 d M2 HM HR;go_wp2_with (at_builtin;go_loud (refine cE aLs rfl _ _ rfl (M3.adv ((Ext.refl _).alloc (.cells #[.slice q2 (aS aA n k).length c2] TSS))) 1 rfl rfl [.slice q2 (aS aA n k).length c2] rfl (dJ _ _ _ 1 1 _ (by first|rfl|simp) (by first|rfl|simp) (by simp[maxLen])) (fun u hu=>by obtain rfl:=List.mem_singleton.1 hu;rfl) (by omega) ?_;intro q7 c7 w6 M6));have M7:=(show Mem w w6 [gK w.heap.size TI 1 (rows++ [⟨q2,(aS aA n k).length,c2,ivs (bF (aS aA n k))⟩]),aJ w.heap.size TSS 1 q7 (k+1) c7 ((rows++ [⟨q2,(aS aA n k).length,c2,ivs (bF (aS aA n k))⟩]:List RowD).map RowD.v),aI w.heap.size (w.heap.size) TH3 #[aA,aB,.slice p n a]]from by rw[List.map_append];exact M6)
   clear M6 M3;go_wp2;go_roundw
   case rel=>exact⟨k+1,q7,c7,_,by omega,by go_num,rfl,f.out,M7⟩
   case measure=>simp[intOf];omega
  obtain rfl:n=k:=by omega
  go_wp2;go_ret;have hl:=HR.out.1;have h1:=HM.ow 1;refine⟨q,c,rows,rfl,HR.out,⟨?_,fun r hr=>HM.ok (gK w.heap.size TI 1 rows) (by simp) r hr⟩,HM.ext⟩;rw[hl];exact h1
theorem yE (aA aB:Int)(p:OA)(n a:Nat)(xs:List Int)(w:World)(hS:Sl w p n a 1 (ivs xs))(b:aM aA aB xs=true):
  Calls Tryz.prog 207 #[aH aA aB p n a] w (zD aA n w):=by
 have hl:=hS.ilen;obtain⟨g1,g2,g3,g4,g5,g6,g7⟩:=bZ (cM b)
 exact aFb aA aB p n a w (by omega) (fun k hk w' hx=>by
  have:=aCa aA aB k p n a xs w' (hS.ext hx) b (by omega) (by omega)
  rwa[kH]at this)
end Go.Proofs.YtpelpnfhbepokaaGreatDoor
namespace Go.Proofs.YtpelpnfhbepokaaGreatDoor
open Go.RowKit
theorem aEo (S h:Nat):S.testBit h=decide (S/2 ^ h%2=1):=by exact Nat.testBit_eq_decide_div_mod_eq
def jT (k:Nat):List Int:=List.replicate k (-1)++List.replicate (NN-k) 0
theorem aCu {k:Nat}(h:k<NN):(jT k).set k (-1)=jT (k+1):=by
 unfold jT;obtain⟨m,hm⟩: ∃m,NN-k=m+1:=⟨NN-k-1,by omega⟩
 rw[hm,show NN-(k+1)=m by omega,List.replicate_succ];rw[List.set_append_right _ _ (by rw[List.length_replicate];exact Nat.le_refl _),List.length_replicate,Nat.sub_self,List.set_cons_zero,List.replicate_succ',List.append_assoc];rfl
theorem aCv {k:Nat}(h:k<NN):(jT k)[k]? =some 0:=by unfold jT;rw[List.getElem?_append_right (by rw[List.length_replicate];exact Nat.le_refl _),List.length_replicate,Nat.sub_self];rw[List.getElem?_replicate,if_pos (by omega)]
def eP (many m:Nat):List Nat:=(List.range m).filter (fun s=> !s.testBit 0&&decide (fY s=many))
theorem aCw (many:Nat):jT NN=iD NN (eP many 0):=by unfold jT iD eP;rw[Nat.sub_self,List.replicate_zero,List.append_nil];rfl
theorem zL {many m:Nat}(hm:m%2=0):eP many (m+2)=eP many m++(if fY m=many then [m]else []):=by
 unfold eP;rw[List.range_succ,List.range_succ,List.filter_append,List.filter_append,List.append_assoc];have h0:m.testBit 0=false:=by rw[Nat.testBit_zero];simp;omega
 have h1:(m+1).testBit 0=true:=by rw[Nat.testBit_zero];simp;omega
 congr 1;by_cases hp:fY m=many
 ·simp only[List.filter_cons,List.filter_nil,h0,h1];simp[hp]
 simp only[List.filter_cons,List.filter_nil,h0,h1];simp[hp]
theorem zM (many m:Nat):(eP many m).length≤m:=by unfold eP;exact Nat.le_trans (List.length_filter_le _ _) (by simp)
def fB (aA:Int)(n M s h:Nat):List Nat:=if(s%M).testBit h then((aS aA n h).filter (fun f=> !(s%M).testBit f)).map (fun f=>fP M (s/M) (s%M) f h)else []
def iF (aA:Int)(n M s h:Nat):List Nat:=(List.range h).flatMap (fB aA n M s)
def iX (aA:Int)(n M s h j:Nat):List Nat:=(((aS aA n h).take j).filter (fun f=> !(s%M).testBit f)).map (fun f=>fP M (s/M) (s%M) f h)
theorem rE (aA:Int)(n M s:Nat):iF aA n M s n=vB aA n M s:=rfl
theorem uE (aA:Int)(n M s h:Nat):iF aA n M s (h+1)=iF aA n M s h++fB aA n M s h:=by unfold iF;rw[List.range_succ,List.flatMap_append];simp
theorem aLp {aA:Int}{n M s h:Nat}(hb:(s%M).testBit h=false):fB aA n M s h= []:=by unfold fB;rw[hb];rfl
theorem aJ5 {aA:Int}{n M s h:Nat}(hb:(s%M).testBit h=true):fB aA n M s h=iX aA n M s h (aS aA n h).length:=by unfold fB iX;rw[if_pos hb,List.take_length]
theorem aCl (aA:Int)(n M s h:Nat):iX aA n M s h 0= []:=rfl
theorem aHy {aA:Int}{n M s h j f:Nat}(hj:(aS aA n h)[j]? =some f) (hb:(s%M).testBit f=true):iX aA n M s h (j+1)=iX aA n M s h j:=by unfold iX;rw[bA hj,List.filter_append];simp[hb]
theorem aFj {aA:Int}{n M s h j f:Nat}(hj:(aS aA n h)[j]? =some f) (hb:(s%M).testBit f=false):iX aA n M s h (j+1)=iX aA n M s h j++ [fP M (s/M) (s%M) f h]:=by unfold iX;rw[bA hj,List.filter_append];simp[hb]
theorem aCm {aA:Int}{n M s h j:Nat}(hh:h<n)(hb:(s%M).testBit h=true): ∀v∈iF aA n M s h++iX aA n M s h j,v∈vB aA n M s:=by
 intro v hv;rw[←rE];unfold iF;rw[List.mem_flatMap];rcases List.mem_append.1 hv with hv|hv
 ·unfold iF at hv;obtain⟨a,ha,hm⟩:=List.mem_flatMap.1 hv;exact⟨a,List.mem_range.2 (by have:=List.mem_range.1 ha;omega),hm⟩
 refine⟨h,List.mem_range.2 hh,?_⟩;rw[aJ5 hb];unfold iX at hv⊢;obtain⟨f,hf,rfl⟩:=List.mem_map.1 hv;obtain⟨h1,h2⟩:=List.mem_filter.1 hf;exact List.mem_map.2 ⟨f,List.mem_filter.2 ⟨by rw[List.take_length];exact List.mem_of_mem_take h1,h2⟩,rfl⟩
theorem aFk {aA:Int}{n M s h:Nat}(hh:h≤n): ∀v∈iF aA n M s h,v∈vB aA n M s:=by intro v hv;rw[←rE];unfold iF at hv⊢;obtain⟨a,ha,hm⟩:=List.mem_flatMap.1 hv;exact List.mem_flatMap.2 ⟨a,List.mem_range.2 (by have:=List.mem_range.1 ha;omega),hm⟩
theorem aAc {adj:Nat→List Nat}{src:List Nat}{N k u:Nat}{D:List Int}{Q:List Nat}(h:Inv adj src N k (D,Q))(hu:Q[k]? =some u) (ha: ∀v∈adj u,v<N) {vs:List Nat} (hv: ∀v∈vs,v∈adj u) {D2:List Int} {Q2:List Nat} (he:(D2,Q2)=bL (D.getD u 0+1) (D,Q) vs):
  Mid adj src N k u vs (D,Q) (D2,Q2):=by
 rw[he];have:=Mid.many (List.mem_of_getElem? hu) vs [] (D,Q) (h.mid hu) (fun v hv'=>⟨hv v hv',ha v (hv v hv')⟩);simpa using this
set_option linter.unusedVariables false
set_option linter.unusedSimpArgs false
set_option maxHeartbeats 16000000
set_option maxRecDepth 100000
theorem mL (n:Nat):(madeCells #[Value.int .i64 0] n).toList=ivs (List.replicate n 0)∧(madeCells #[Value.int .i64 0] n).size=n:=by
 constructor
 ·apply List.ext_getElem<;>simp[madeCells,Nat.mod_one]
 simp[madeCells]
theorem aJq (N:Nat)(src:List Nat): ∀x∈iD N src,-1≤x∧x≤((0:Nat):Int):=by
 unfold iD
 suffices h: ∀(l:List Nat) (A:List Int),(∀x∈A,-1≤x∧x≤((0:Nat):Int))→ ∀x∈l.foldl (fun A v=>A.set v 0) A,-1≤x∧x≤((0:Nat):Int)from h src _ (fun x hx=>by rw[List.mem_replicate]at hx;omega)
 intro l;induction l with
 |nil=>intro A h;exact h
 |cons v l ih=>
  intro A h
  exact ih (A.set v 0) (fun x hx=>by
   rcases List.mem_or_eq_of_mem_set hx with h1|h1
   ·exact h x h1
   ·omega)
theorem aBs (aA aB:Int)(p:OA)(n a F P:Nat)(w:World)(dp:4≤n)(hn:n≤12)(hP:Hid (P=2 ^ n))(cy:P≤4096)(dh:P%2=0)
  (HF:xC 151 #[aH aA aB p n a] w fun w' e w''=> ∃q c,e= .returned (.slice q F c)∧Ext w' w'')
  (b9:Hid (∀(m:Nat) w',m≤4096→Calls Tryz.prog 206 #[(m:Int)] w' fun e w''=>e= .returned (.int .i64 (fY m:Int))∧w'=w''))
  (HN:Hid (∀w',Ext w w'→Calls Tryz.prog 207 #[aH aA aB p n a] w' (zD aA n w'))):
  Calls Tryz.prog 181 #[aH aA aB p n a] w fun e w'=> ∃D,eO aA n F D∧aX D w e w':=by
 obtain⟨AR,au⟩: ∃AR:Array Value,AR=madeCells #[()] 49152:=⟨_,rfl⟩
 have cp: ∀w:World,(Instr.makeSlice 23 (.int .i64 49152) (.int .i64 49152)).run Tryz.prog w= .ok (.slice (some ⟨w.heap.size,0,none⟩) 49152 49152) (w.alloc (.cells AR TI)):=fun w=>by rw[au];exact run_make_row' _ _ (.int .i64 0) 8 Tryz.underlying23 (by kernel_rfl) rfl .i64 .i64 49152 (by omega) (by omega) w
 have bp:Hid (AR.toList=ivs (jT 0)):=by show _=_;rw[au,(mL 49152).1];rfl
 have bq:Hid (AR.size=49152):=by show _=_;rw[au];exact(mL 49152).2
 clear au;go_enter Tryz.func181,Tryz.ntmps181;go_wp2;have ME:=(show Mem w ((w.alloc (.cells #[aA,aB,.slice p n a] TH3)).alloc (.cells AR TI)) [aJ w.heap.size TI 1 (some ⟨w.heap.size+1,0,none⟩) (49152) (49152) (ivs (jT 0)),aI w.heap.size (w.heap.size) TH3 #[aA,aB,.slice p n a]]from by rw[←bp.out];exact((Mem.start w).c0 TH3 #[aA,aB,.slice p n a]).lit TI 1 49152 _ AR (by simp) (by rw[bq.out]) (by simp[maxLen]))
 clear bp bq cp;go_loopw [4] (fun i wr=> ∃(k:Nat),k≤49152∧i= .int .i64 (k:Int)∧Mem w wr [aJ w.heap.size TI 1 (some ⟨w.heap.size+1,0,none⟩) (49152) (49152) (ivs (jT k)),aI w.heap.size (w.heap.size) TH3 #[aA,aB,.slice p n a]]) (fun i _=>49152-(intOf i).toNat)
 case atStart=>exact⟨0,Nat.zero_le _,rfl,ME⟩
 case round=>
  clear ME;obtain⟨k,hk,rfl,hM⟩:=hrel;have HM:=hM;clear hM;have ah:=(HM.hi 1)
  by_cases hlt:k<49152
  ·have i1:(0:Int)≤(k:Int):=by omega
   have i2:(k:Int)<49152:=by omega
   have cl:wr.cell? ⟨w.heap.size+1,k,none⟩=some (.int .i64 0):=by have:=(HM.ow 0).cellAt k (by omega);rw[this];simp[ivs,aCv hlt]
   have cf:wr.frozen? ⟨w.heap.size+1,k,none⟩=false:=(HM.ow 0).frozenAt k;have M2:=(show Mem w (wr.setCell ⟨w.heap.size+1,k,none⟩ (.int .i64 (-1))) [aJ w.heap.size TI 1 (some ⟨w.heap.size+1,0,none⟩) (49152) (49152) (ivs (jT (k+1))),aI w.heap.size (w.heap.size) TH3 #[aA,aB,.slice p n a]]from by rw[←aCu hlt,←dR];exact HM.ostore (i:=0) rfl k (.int .i64 (-1)))
   clear HM;go_wp2;go_roundw
   case rel=>exact⟨k+1,by omega,by go_num,M2⟩
   case measure=>simp[intOf];omega
  obtain rfl:k=49152:=by omega
  have M1:=(show Mem w wr [aJ w.heap.size TI 1 (some ⟨w.heap.size+1,0,none⟩) (49152) (49152) (ivs (iD NN (eP F 0))),aI w.heap.size (w.heap.size) TH3 #[aA,aB,.slice p n a]]from by have:=HM;rwa[show jT 49152=iD NN (eP F 0)from aCw F]at this)
  clear HM hlt hk;have M2:=(M1.made0 TI 1 wr.heap.size rfl)
  clear M1;have c0:(wr.alloc (.cells #[] TI)).cell? ⟨w.heap.size,0,none⟩=some (.int .i64 aA):=(M2.bk 2).cell 0;have c1:(wr.alloc (.cells #[] TI)).cell? ⟨w.heap.size,1,none⟩=some (.int .i64 aB):=(M2.bk 2).cell 1;have c2:(wr.alloc (.cells #[] TI)).cell? ⟨w.heap.size,2,none⟩=some (.slice p n a):=(M2.bk 2).cell 2;go_wp2_with fail;clear c0 c1 c2;refine(HF _ M2.ext).mono ?_;rintro e w3 ⟨q3,c3,rfl,b6⟩;have M3:=(M2.adv b6)
  clear M2 b6 ah;have dq:(2:Int) ^ n=(P:Int):=by rw[hP.out];simp
  have dt:IntKind.i64.wrap (P:Int)=(P:Int):=IntWalk.i64_in _ (by omega);have cv:=(M3.hi 2)
  go_wp2;go_loopw [5,7] (fun v i wx=> ∃(m:Nat) (q:OA) (l lc:Nat),m≤P∧m%2=0∧i= .int .i64 (m:Int)∧v= .slice q l lc∧l=(eP F m).length∧Mem w wx [aJ w.heap.size TI 1 (q) (l) (lc) (ivs (bF (eP F m))),aJ w.heap.size TI 1 (some ⟨w.heap.size+1,0,none⟩) (49152) (49152) (ivs (iD NN (eP F m))),aI w.heap.size (w.heap.size) TH3 #[aA,aB,.slice p n a]]) (fun _ i _=>P-(intOf i).toNat)
  case atStart=>exact⟨0,some ⟨wr.heap.size,0,none⟩,0,0,Nat.zero_le _,rfl,rfl,rfl,rfl,M3⟩
  case round=>
   clear M3 cv;obtain⟨m,q,l,lc,hm,ao,rfl,rfl,hl,hM⟩:=hrel;have HM:=hM;have HL:=xQ hl;have dn:l≤4096:=by have:=zM F m;omega
   clear hM hl;obtain⟨c0,c1,c2⟩:=(HM.bk 2).tri;have ah:=(HM.hi 2)
   by_cases hlt:m<P
   ·have t0:decide ((m:Int)<(P:Int))=true:=by simp[hlt]
    go_wp2_with fail;refine(b9 m _ (by omega)).mono ?_;rintro e wx ⟨rfl,rfl⟩;have h2:=zL (many:=F) ao;by_cases hp:fY m=F
    ·have t1:((fY m:Int)==(F:Int))=true:=by simp[hp]
     rw[if_pos hp]at h2;have H2:=xQ h2;have o:=xQ (show l+1=(eP F (m+2)).length by rw[h2,List.length_append,←HL.out];rfl);clear h2 hp;have co:m<49152:=by omega
     have i1:(0:Int)≤(m:Int):=by omega
     have i2:(m:Int)<49152:=by omega
     obtain⟨x0,b5⟩: ∃x0,(iD NN (eP F m))[m]? =some x0:=⟨_,List.getElem?_eq_getElem (by rw[wC];exact co)⟩
     have cl:wr.cell? ⟨w.heap.size+1,m,none⟩=some (.int .i64 x0):=by have:=(HM.ow 1).cellAt m (by omega);rw[this];simp[ivs,b5]
     have cf:wr.frozen? ⟨w.heap.size+1,m,none⟩=false:=(HM.ow 1).frozenAt m;clear b5;go_wp2_with (at_builtin;refine cE eV rfl _ _ rfl ((HM.ostore (i:=1) rfl m (.int .i64 0)).adv ((Ext.refl _).alloc (.cells #[(m:Int)] TI))) 0 rfl rfl [.int .i64 (m:Int)] rfl (dJ _ _ _ 1 1 _ (by first|rfl|simp) (by first|rfl|simp) (by simp[maxLen])) (fun u hu=>by obtain rfl:=List.mem_singleton.1 hu;rfl) (by omega) ?_;intro q7 c7 w6 M6);have M7:=(show Mem w w6 [aJ w.heap.size TI 1 (q7) (l+1) (c7) (ivs (bF (eP F (m+2)))),aJ w.heap.size TI 1 (some ⟨w.heap.size+1,0,none⟩) (49152) (49152) (ivs (iD NN (eP F (m+2)))),aI w.heap.size (w.heap.size) TH3 #[aA,aB,.slice p n a]]from by rw[H2.out,aCd,←dR,bF,List.map_append,ivs,List.map_append];exact M6)
     clear M6 HM cl cf c0 c1 c2;go_wp2;go_roundw
     case rel=>exact⟨m+2,q7,l+1,c7,by omega,by omega,by go_num,rfl,o.out,M7⟩
     case measure=>simp[intOf];omega
    have t1:((fY m:Int)==(F:Int))=false:=by simp;omega
    rw[if_neg hp,List.append_nil]at h2;have H2:=xQ h2;clear h2;go_wp2;go_roundw
    case rel=>exact⟨m+2,q,l,lc,by omega,by omega,by go_num,rfl,by rw[H2.out];exact HL.out,by rw[H2.out];exact HM⟩
    case measure=>simp[intOf];omega
   obtain rfl:m=P:=by omega
   have a2:eP F m=tR n F:=by rw[hP.out];rfl
   rw[a2]at HL HM;have cr:n≤12:=hn;have hI:=Inv.begin (adj:=vB aA n MM) (src:=tR n F) (N:=NN) (aE3 cr) tQ;have bi:=xQ hI;clear hI a2 hlt;go_wp2_with fail;clear c0 c1 c2;refine(HN _ HM.ext).mono ?_;rintro e w4 ⟨qB,cB,s,rfl,ae,ad,b7⟩;obtain⟨gB,rfl,c9,da⟩:=eM ad.1 (by rw[ae.1];omega);have M4:=(HM.nestNew b7 ad (Nat.le_refl _))
   have HR:=xQ ae;clear ad b7 ae HM;go_wp2;go_loopw [5,9] (fun v i wx=> ∃(k:Nat) (q:OA) (l lc:Nat) (D:List Int) (Q:List Nat),k≤l∧i= .int .i64 (k:Int)∧v= .slice q l lc∧l=Q.length∧(∀x∈D,-1≤x∧x≤(k:Int))∧Inv (vB aA n MM) (tR n F) NN k (D,Q)∧Mem w wx [aJ w.heap.size TI 1 (q) (l) (lc) (ivs (bF Q)),aJ w.heap.size TI 1 (some ⟨w.heap.size+1,0,none⟩) (49152) (49152) (ivs D),oO w.heap.size TSS TI 1 (some ⟨gB,0,none⟩) cB s,aI w.heap.size (w.heap.size) TH3 #[aA,aB,.slice p n a]]) (fun _ i _=>49152-(intOf i).toNat)
   case atStart=>exact⟨0,q,l,lc,_,tR n F,Nat.zero_le _,rfl,rfl,HL.out,aJq _ _,bi.out,M4.pick [1,2,0,3] (by decide) rfl⟩
   case round=>
    clear M4 bi HL;obtain⟨k,q,l,lc,D,Q,hk,rfl,rfl,hl,bt,am,hM⟩:=hrel;have HM:=hM;have HL:=xQ hl;have be:=xQ bt;have HI:=xQ am;have dm:l≤49152:=by have:=am.qlen;rw[hl];exact this
    clear hM hl bt am;by_cases hlt:k<l
    ·obtain⟨gL,rfl,dk,dl⟩:=HM.so 0;obtain⟨u,hu⟩: ∃u,Q[k]? =some u:=⟨_,List.getElem?_eq_getElem (by rw[←HL.out];exact hlt)⟩
     have ap:u<49152:=HI.out.bd u (List.mem_of_getElem? hu);obtain⟨C,hC⟩: ∃C,C=u/4096:=⟨_,rfl⟩
     obtain⟨S,hS⟩: ∃S,S=u%4096:=⟨_,rfl⟩
     have cx:C<12:=by omega
     have c5:S<4096:=by omega
     have HU:=xQ hu;have HC:=xQ hC;have HS:=xQ hS;have i1:(0:Int)≤(k:Int):=by omega
     have i2:(k:Int)<(l:Int):=by omega
     have d1:(u:Int)/4096=(C:Int):=by omega
     have d2:(u:Int)%4096=(S:Int):=by omega
     have cu:wr.cell? ⟨gL,k,none⟩=some (.int .i64 (u:Int)):=by have:=(HM.ow 0).cellAt k (by omega);rw[this];simp[ivs,bF,hu]
     have ah:=(HM.hi 3)
     clear hu hC hS;go_wp2;rw[d2];clear cu d1 d2;go_loopw [5,12] (fun v i wx=> ∃(h:Nat) (q:OA) (l2 lc:Nat) (D2:List Int) (Q2:List Nat),h≤n∧i= .int .i64 (h:Int)∧v= .slice q l2 lc∧l2=Q2.length∧(D2,Q2)=bL (D.getD u 0+1) (D,Q) (iF aA n MM u h)∧(∀x∈D2,-1≤x∧x≤(k:Int)+1)∧Mem w wx [aJ w.heap.size TI 1 (q) (l2) (lc) (ivs (bF Q2)),aJ w.heap.size TI 1 (some ⟨w.heap.size+1,0,none⟩) (49152) (49152) (ivs D2),oO w.heap.size TSS TI 1 (some ⟨gB,0,none⟩) cB s,aI w.heap.size (w.heap.size) TH3 #[aA,aB,.slice p n a]]) (fun _ i _=>n-(intOf i).toNat)
     case atStart=>exact⟨0,_,l,lc,D,Q,Nat.zero_le _,rfl,rfl,HL.out,rfl,fun x hx=>by have:=be x hx;omega,HM⟩
     case round=>
      clear HM ah;obtain⟨h,q,l2,lc,D2,Q2,hh,rfl,rfl,an,ag,y,hM⟩:=hrel;have HM:=hM;have o:=xQ an;have t:=xQ ag;have b:=xQ y;clear hM an ag y;obtain⟨c0,c1,c2⟩:=(HM.bk 3).tri;have ah:=(HM.hi 3)
      by_cases hlth:h<n
      ·have t0:decide ((h:Int)<(n:Int))=true:=by simp[hlth]
       obtain⟨Ph,aj⟩: ∃Ph:Nat,Ph=2 ^ h:=⟨_,rfl⟩
       have c4:Ph≤2048:=by rw[aj];exact Nat.le_trans (Nat.pow_le_pow_right (by omega) (show h≤11 by omega)) (by decide)
       have ds:(2:Int) ^ h=(Ph:Int):=by rw[aj];simp
       have dx:IntKind.i64.wrap (Ph:Int)=(Ph:Int):=IntWalk.i64_in _ (by omega);obtain⟨A,hA⟩: ∃A:Nat,A=S/Ph:=⟨_,rfl⟩
       have dg:(S:Int)/(Ph:Int)=(A:Int):=by rw[hA];simp
       have az:S.testBit h=decide (A%2=1):=by rw[hA,aj];exact aEo S h
       have bj:=xQ aj;have ax:=xQ az;obtain⟨cw,bb⟩: ∃r,s[h]? =some r:=⟨_,List.getElem?_eq_getElem (by rw[HR.out.1];exact hlth)⟩
       obtain⟨qi,ni,ci,xi⟩:=cw;obtain⟨b1,b8⟩:=HR.out.2 h _ bb;dsimp only at b1 b8;subst b1 b8;have a6:=xQ bb;have rl:=HR.out.1;have RL:=xQ rl;clear aj az hA bb;obtain⟨nb,aw⟩: ∃nb,nb=aS aA n h:=⟨_,rfl⟩
       rw[←aw]at a6;have a5:=xQ aw;have cq:nb.length≤12:=by rw[aw];exact Nat.le_trans (List.length_filter_le _ _) (by simp;omega)
       clear aw rl;have k1:(0:Int)≤(h:Int):=by omega
       have k2:(h:Int)<(n:Int):=by omega
       go_wp2;clear c0 c1 c2;cases hb:S.testBit h with
       |false=>
        have t1:(A:Int)%2=0:=by have:=ax.out;rw[hb]at this;simp at this;omega
        have d:=xQ (show iF aA n MM u (h+1)=iF aA n MM u h by rw[uE,aLp (by rw[←show S=u%MM from HS.out];exact hb),List.append_nil]);clear hb;go_loopw [5,13] (fun v i wx=>i= .int .i64 0∧v= .slice q l2 lc∧wr=wx) (fun _ _ _=>0)
        case atStart=>exact⟨rfl,rfl,rfl⟩
        case round=>
         obtain⟨rfl,rfl,rfl⟩:=hrel;go_wp2;go_roundw
         case rel=>exact⟨h+1,q,l2,lc,D2,Q2,by omega,by go_num,rfl,o.out,by rw[d.out];exact t.out,b.out,HM⟩
         case measure=>simp[intOf];omega
       |true=>
        have t1:(A:Int)%2=1:=by have:=ax.out;rw[hb]at this;simp at this;omega
        have av:=xQ (show(u%MM).testBit h=true by rw[←show S=u%MM from HS.out];exact hb);clear hb;go_loopw [5,13] (fun v i wx=> ∃(j:Nat) (q:OA) (l2 lc:Nat) (D2:List Int) (Q2:List Nat),j≤nb.length∧i= .int .i64 (j:Int)∧v= .slice q l2 lc∧l2=Q2.length∧(D2,Q2)=bL (D.getD u 0+1) (D,Q) (iF aA n MM u h++iX aA n MM u h j)∧(∀x∈D2,-1≤x∧x≤(k:Int)+1)∧Mem w wx [aJ w.heap.size TI 1 (q) (l2) (lc) (ivs (bF Q2)),aJ w.heap.size TI 1 (some ⟨w.heap.size+1,0,none⟩) (49152) (49152) (ivs D2),oO w.heap.size TSS TI 1 (some ⟨gB,0,none⟩) cB s,aI w.heap.size (w.heap.size) TH3 #[aA,aB,.slice p n a]]) (fun _ i _=>nb.length-(intOf i).toNat)
        case atStart=>exact⟨0,q,l2,lc,D2,Q2,Nat.zero_le _,rfl,rfl,o.out,by rw[aCl,List.append_nil];exact t.out,b.out,HM⟩
        case round=>
         clear HM o t b ah;obtain⟨j,q,l2,lc,D2,Q2,hj,rfl,rfl,an,ag,y,hM⟩:=hrel;have HM:=hM;have b2: ∀v∈iF aA n MM u h++iX aA n MM u h j,v∈vB aA n MM u:=aCm hlth av.out;have z:=aAc HI HU.out (fun v hv=>qQ hn u v ap hv) b2 ag;have br:D2.length=49152:=z.len;have di:Q2.length≤49152:=nF z.nodup z.bd;have cs:u∈Q:=List.mem_of_getElem? HU.out;have bc:D2.getD u 0=D.getD u 0:=z.same u cs;obtain⟨r,hr⟩:=z.pre;dsimp only at hr;have cn:k<Q2.length:=by rw[hr,List.length_append];have:=HL.out;omega
         have bs:Q2[k]? =some u:=by have:=HL.out;rw[hr,List.getElem?_append_left (by omega)];exact HU.out
         have aa:=dD (D:=D2) (v:=u) (by omega);have c6: -1≤D2.getD u 0:=(y _ aa.2).1;have c8:D2.getD u 0≤(k:Int):=by rw[bc];exact(be _ (dD (D:=D) (v:=u) (by have:=HI.out.len;dsimp only at this;rw[this];exact ap)).2).2
         have t:=xQ ag;have b:=xQ y;have o:=xQ an;have bl:=xQ bs;have bg:=xQ aa.1;have bm:=xQ bc;have ca:=xQ br;have de:l2≤49152:=by omega
         have dd:k<l2:=by omega
         have cb:wr.cell? ⟨gB,h,none⟩=some (.slice qi nb.length ci):=by have:=(HM.nest (i:=2) rfl).1.cellAt h (by rw[RL.out];omega);rw[this,List.getElem?_map,a6.out];rfl
         have a1:=(HM.nest (i:=2) rfl).2 _ (List.mem_of_getElem? a6.out);have ay:=xQ (show wr.ownsRow w.heap.size TI 1 (.slice qi nb.length ci) nb.length (ivs (bF nb))from a1);clear hM b2 z hr ag y an bs aa bc a1 br cn;by_cases hltj:j<nb.length
         ·obtain⟨gi,rfl,db,dc⟩:=eM ay (by omega);obtain⟨f,hf⟩: ∃f,nb[j]? =some f:=⟨_,List.getElem?_eq_getElem hltj⟩
          have cm:f<n:=(bQ.1 (by rw[←a5.out];exact List.mem_of_getElem? hf:f∈aS aA n h)).1;have bw:(aS aA n h)[j]? =some f:=by rw[←a5.out];exact hf
          have a4:=xQ bw;have cj:wr.cell? ⟨gi,j,none⟩=some (.int .i64 (f:Int)):=by have:=ay.out.cellAt j (by omega);rw[this];simp[ivs,bF,hf]
          clear hf bw;have m1:(0:Int)≤(j:Int):=by omega
          have m2:(j:Int)<(nb.length:Int):=by omega
          obtain⟨Pf,ai⟩: ∃Pf:Nat,Pf=2 ^ f:=⟨_,rfl⟩
          have cz:Pf≤2048:=by rw[ai];exact Nat.le_trans (Nat.pow_le_pow_right (by omega) (show f≤11 by omega)) (by decide)
          have dr:(2:Int) ^ f=(Pf:Int):=by rw[ai];simp
          have dw:IntKind.i64.wrap (Pf:Int)=(Pf:Int):=IntWalk.i64_in _ (by omega);obtain⟨B,hB⟩: ∃B:Nat,B=S/Pf:=⟨_,rfl⟩
          have df:(S:Int)/(Pf:Int)=(B:Int):=by rw[hB];simp
          have bu:S.testBit f=decide (B%2=1):=by rw[hB,ai];exact aEo S f
          have bf:=xQ bu;have ce:=xQ ai;clear ai hB bu;cases hb:S.testBit f with
          |true=>
           have t2:(B:Int)%2=1:=by have:=bf.out;rw[hb]at this;simp at this;omega
           have d:=xQ (aHy a4 (show(u%MM).testBit f=true by rw[←show S=u%MM from HS.out];exact hb));clear hb;go_wp2;go_roundw
           case rel=>exact⟨j+1,q,l2,lc,D2,Q2,by omega,by go_num,rfl,o.out,by rw[d.out];exact t.out,b.out,HM⟩
           case measure=>simp[intOf];omega
          |false=>
           have t2:(B:Int)%2=0:=by have:=bf.out;rw[hb]at this;simp at this;omega
           have ak:(u%MM).testBit f=false:=by rw[←show S=u%MM from HS.out];exact hb
           have d:=xQ (aFj a4 ak);have a3:=(tI av.out).1;have dj:Ph≤S:=by rw[bj.out,show S=u%MM from HS.out];exact a3
           obtain⟨v,hv⟩: ∃v,v=fP MM (u/MM) (u%MM) f h:=⟨_,rfl⟩
           have ct:v<49152:=qQ hn u v ap (mB.2 ⟨f,h,cm,hlth,fK hlth (by exact List.mem_of_getElem? a4.out),ak,av.out,hv⟩);have b3:v=dI C f h*4096+(S-Ph+Pf):=by rw[hv,bj.out,ce.out,show C=u/MM from HC.out,show S=u%MM from HS.out];rfl
           rw[←hv]at d;have bo:=xQ b3;clear hb ak a3 hv b3;have s1:(0:Int)≤(v:Int):=by omega
           have s2:(v:Int)<49152:=by omega
           obtain⟨dv,bv,a0⟩: ∃dv,D2[v]? =some dv∧D2.getD v 0=dv:=⟨_,(dD (D:=D2) (v:=v) (by rw[ca.out];exact ct)).1,rfl⟩
           have bh:=xQ bv;have af:=xQ a0;clear bv a0;by_cases hcar:f=C
           ·have t3:((f:Int)==(C:Int))=true:=by simp[hcar]
            have aq:(h:Int)*4096+(S:Int)-(Ph:Int)+(Pf:Int)=(v:Int):=by have:=bo.out;unfold dI at this;rw[if_pos hcar]at this;omega
            have a7:=xQ aq;clear aq hcar;go_wp2;have a8:IntKind.i64.wrap ((h:Int)*4096)=(h:Int)*4096:=IntWalk.i64_in _ (by omega);have ao:IntKind.i64.wrap ((h:Int)*4096+(S:Int))=(h:Int)*4096+(S:Int):=IntWalk.i64_in _ (by omega);have a9:IntKind.i64.wrap ((h:Int)*4096+(S:Int)-(Ph:Int))=(h:Int)*4096+(S:Int)-(Ph:Int):=IntWalk.i64_in _ (by omega);have ba:IntKind.i64.wrap ((h:Int)*4096+(S:Int)-(Ph:Int)+(Pf:Int))=(v:Int):=(IntWalk.i64_in _ (by omega)).trans a7.out;go_quiet (fail);generalize ar:World.drewN wr _=wi;have hX:Ext wr wi:=by rw[←ar];exact Ext.drewN (Ext.refl _) _
            clear ar a8 ao a9 ba;have MI:=(HM.adv hX)
            have HE:=xQ (show Mem w wi [aJ w.heap.size TI 1 (q) (l2) (lc) (ivs (bF Q2)),aJ w.heap.size TI 1 (some ⟨w.heap.size+1,0,none⟩) (49152) (49152) (ivs D2),oO w.heap.size TSS TI 1 (some ⟨gB,0,none⟩) cB s,aI w.heap.size (w.heap.size) TH3 #[aA,aB,.slice p n a]]from MI);clear hX HM MI cb cj;have cl:wi.cell? ⟨w.heap.size+1,v,none⟩=some (.int .i64 dv):=by have:=(HE.out.ow 1).cellAt v (by omega);rw[this];simp[ivs,bh.out]
            by_cases hd0:dv<0
            ·have t4:decide (dv<0)=true:=by simp[hd0]
             have g:Hid ((D2.set v (D.getD u 0+1),Q2++ [v])=bL (D.getD u 0+1) (D,Q) (iF aA n MM u h++iX aA n MM u h (j+1))):=by show _=_;rw[d.out,←List.append_assoc,dM,←t.out,kD (by rw[af.out];exact hd0)]
             obtain⟨du,aa⟩: ∃du,du=D2.getD u 0:=⟨_,rfl⟩
             have ab:=xQ aa;have cg: -1≤du:=by omega
             have ch:du≤(k:Int):=by omega
             have b4:IntKind.i64.wrap (du+1)=du+1:=IntWalk.i64_in _ (by omega);obtain⟨gl,rfl,bx,bz⟩:=HE.out.so 0;have n0:(0:Int)≤(u:Int):=by omega
             have n1:(u:Int)<49152:=by omega
             have n2:(k:Int)<(l2:Int):=by omega
             have ck:wi.cell? ⟨gl,k,none⟩=some (.int .i64 (u:Int)):=by have:=(HE.out.ow 0).cellAt k (by omega);rw[this];simp[ivs,bF,bl.out]
             have cd:wi.cell? ⟨w.heap.size+1,u,none⟩=some (.int .i64 du):=by have:=(HE.out.ow 1).cellAt u (by omega);rw[this,ab.out];simp only[ivs,List.getElem?_map,bg.out,Option.map_some]
             have cf:wi.frozen? ⟨w.heap.size+1,v,none⟩=false:=(HE.out.ow 1).frozenAt v;clear aa hd0;go_wp2_with (at_builtin;refine cE eV rfl _ _ rfl ((HE.out.ostore (i:=1) rfl v (.int .i64 (du+1))).adv ((Ext.refl _).alloc (.cells #[(v:Int)] TI))) 0 rfl rfl [.int .i64 (v:Int)] rfl (dJ _ _ _ 1 1 _ (by first|rfl|simp) (by first|rfl|simp) (by simp[maxLen])) (fun u hu=>by obtain rfl:=List.mem_singleton.1 hu;rfl) (by omega) ?_;intro q7 c7 w6 M6);have M7:=(show Mem w w6 [aJ w.heap.size TI 1 (q7) (l2+1) (c7) (ivs (bF (Q2++ [v]))),aJ w.heap.size TI 1 (some ⟨w.heap.size+1,0,none⟩) (49152) (49152) (ivs (D2.set v (du+1))),oO w.heap.size TSS TI 1 (some ⟨gB,0,none⟩) cB s,aI w.heap.size (w.heap.size) TH3 #[aA,aB,.slice p n a]]from by rw[←dR,bF,List.map_append,ivs,List.map_append];exact M6)
             clear M6 HE cl ck cd cf;go_wp2;go_roundw
             case rel=>exact⟨j+1,q7,l2+1,c7,D2.set v (du+1),Q2++ [v],by omega,by go_num,rfl,by rw[List.length_append,←o.out];rfl,by rw[←g.out,←bm.out,←ab.out],fun x hx=>by
              rcases List.mem_or_eq_of_mem_set hx with h|h
              ·exact b x h
              ·omega,M7⟩
             case measure=>simp[intOf];omega
            have t4:decide (dv<0)=false:=by simp[hd0]
            have g:Hid ((D2,Q2)=bL (D.getD u 0+1) (D,Q) (iF aA n MM u h++iX aA n MM u h (j+1))):=by show _=_;rw[d.out,←List.append_assoc,dM,←t.out,lR (by rw[af.out];exact hd0)]
            clear hd0;go_wp2;go_roundw
            case rel=>exact⟨j+1,q,l2,lc,D2,Q2,by omega,by go_num,rfl,o.out,g.out,b.out,HE.out⟩
            case measure=>simp[intOf];omega
           have t3:((f:Int)==(C:Int))=false:=by simp;omega
           have aq:(C:Int)*4096+(S:Int)-(Ph:Int)+(Pf:Int)=(v:Int):=by have:=bo.out;unfold dI at this;rw[if_neg hcar]at this;omega
           have a7:=xQ aq;clear aq hcar;go_wp2;have a8:IntKind.i64.wrap ((C:Int)*4096)=(C:Int)*4096:=IntWalk.i64_in _ (by omega);have ao:IntKind.i64.wrap ((C:Int)*4096+(S:Int))=(C:Int)*4096+(S:Int):=IntWalk.i64_in _ (by omega);have a9:IntKind.i64.wrap ((C:Int)*4096+(S:Int)-(Ph:Int))=(C:Int)*4096+(S:Int)-(Ph:Int):=IntWalk.i64_in _ (by omega);have ba:IntKind.i64.wrap ((C:Int)*4096+(S:Int)-(Ph:Int)+(Pf:Int))=(v:Int):=(IntWalk.i64_in _ (by omega)).trans a7.out;go_quiet (fail);generalize ar:World.drewN wr _=wi;have hX:Ext wr wi:=by rw[←ar];exact Ext.drewN (Ext.refl _) _
           clear ar a8 ao a9 ba;have MI:=(HM.adv hX)
           have HE:=xQ (show Mem w wi [aJ w.heap.size TI 1 (q) (l2) (lc) (ivs (bF Q2)),aJ w.heap.size TI 1 (some ⟨w.heap.size+1,0,none⟩) (49152) (49152) (ivs D2),oO w.heap.size TSS TI 1 (some ⟨gB,0,none⟩) cB s,aI w.heap.size (w.heap.size) TH3 #[aA,aB,.slice p n a]]from MI);clear hX HM MI cb cj;have cl:wi.cell? ⟨w.heap.size+1,v,none⟩=some (.int .i64 dv):=by have:=(HE.out.ow 1).cellAt v (by omega);rw[this];simp[ivs,bh.out]
           by_cases hd0:dv<0
           ·have t4:decide (dv<0)=true:=by simp[hd0]
            have g:Hid ((D2.set v (D.getD u 0+1),Q2++ [v])=bL (D.getD u 0+1) (D,Q) (iF aA n MM u h++iX aA n MM u h (j+1))):=by show _=_;rw[d.out,←List.append_assoc,dM,←t.out,kD (by rw[af.out];exact hd0)]
            obtain⟨du,aa⟩: ∃du,du=D2.getD u 0:=⟨_,rfl⟩
            have ab:=xQ aa;have cg: -1≤du:=by omega
            have ch:du≤(k:Int):=by omega
            have b4:IntKind.i64.wrap (du+1)=du+1:=IntWalk.i64_in _ (by omega);obtain⟨gl,rfl,bx,bz⟩:=HE.out.so 0;have n0:(0:Int)≤(u:Int):=by omega
            have n1:(u:Int)<49152:=by omega
            have n2:(k:Int)<(l2:Int):=by omega
            have ck:wi.cell? ⟨gl,k,none⟩=some (.int .i64 (u:Int)):=by have:=(HE.out.ow 0).cellAt k (by omega);rw[this];simp[ivs,bF,bl.out]
            have cd:wi.cell? ⟨w.heap.size+1,u,none⟩=some (.int .i64 du):=by have:=(HE.out.ow 1).cellAt u (by omega);rw[this,ab.out];simp only[ivs,List.getElem?_map,bg.out,Option.map_some]
            have cf:wi.frozen? ⟨w.heap.size+1,v,none⟩=false:=(HE.out.ow 1).frozenAt v;clear aa hd0;go_wp2_with (at_builtin;refine cE eV rfl _ _ rfl ((HE.out.ostore (i:=1) rfl v (.int .i64 (du+1))).adv ((Ext.refl _).alloc (.cells #[(v:Int)] TI))) 0 rfl rfl [.int .i64 (v:Int)] rfl (dJ _ _ _ 1 1 _ (by first|rfl|simp) (by first|rfl|simp) (by simp[maxLen])) (fun u hu=>by obtain rfl:=List.mem_singleton.1 hu;rfl) (by omega) ?_;intro q7 c7 w6 M6);have M7:=(show Mem w w6 [aJ w.heap.size TI 1 (q7) (l2+1) (c7) (ivs (bF (Q2++ [v]))),aJ w.heap.size TI 1 (some ⟨w.heap.size+1,0,none⟩) (49152) (49152) (ivs (D2.set v (du+1))),oO w.heap.size TSS TI 1 (some ⟨gB,0,none⟩) cB s,aI w.heap.size (w.heap.size) TH3 #[aA,aB,.slice p n a]]from by rw[←dR,bF,List.map_append,ivs,List.map_append];exact M6)
            clear M6 HE cl ck cd cf;go_wp2;go_roundw
            case rel=>exact⟨j+1,q7,l2+1,c7,D2.set v (du+1),Q2++ [v],by omega,by go_num,rfl,by rw[List.length_append,←o.out];rfl,by rw[←g.out,←bm.out,←ab.out],fun x hx=>by
             rcases List.mem_or_eq_of_mem_set hx with h|h
             ·exact b x h
             ·omega,M7⟩
            case measure=>simp[intOf];omega
           have t4:decide (dv<0)=false:=by simp[hd0]
           have g:Hid ((D2,Q2)=bL (D.getD u 0+1) (D,Q) (iF aA n MM u h++iX aA n MM u h (j+1))):=by show _=_;rw[d.out,←List.append_assoc,dM,←t.out,lR (by rw[af.out];exact hd0)]
           clear hd0;go_wp2;go_roundw
           case rel=>exact⟨j+1,q,l2,lc,D2,Q2,by omega,by go_num,rfl,o.out,g.out,b.out,HE.out⟩
           case measure=>simp[intOf];omega
         have d:Hid (iF aA n MM u h++iX aA n MM u h j=iF aA n MM u (h+1)):=by show _=_;rw[uE,aJ5 av.out,←a5.out,show j=nb.length by omega]
         rw[d.out]at t;obtain rfl:nb.length=j:=by omega
         go_wp2;go_roundw
         case rel=>exact⟨h+1,q,l2,lc,D2,Q2,by omega,by go_num,rfl,o.out,t.out,b.out,HM⟩
         case measure=>simp[intOf];omega
      obtain rfl:n=h:=by omega
      have hI:=HI.out.step HU (fun v hv=>qQ hn u v ap hv);have he:=t.out;obtain⟨r,hr⟩:=(aAc HI HU.out (fun v hv=>qQ hn u v ap hv) (aFk (Nat.le_refl _)) he).pre;dsimp only at hr;have b0:k+1≤l2:=by rw[o.out,hr,List.length_append];have:=HL.out;omega
      clear hr;rw[rE]at he;rw[←he]at hI;have cc:=xQ hI;clear hI he;go_wp2;go_roundw
      case rel=>exact⟨k+1,q,l2,lc,D2,Q2,b0,by go_num,rfl,o.out,fun x hx=>by have:=b x hx;omega,cc.out,HM⟩
      case measure=>simp[intOf];omega
    have al:=xQ (HI.out.dist (by have:=HL.out;dsimp only;omega));go_wp2;go_ret;refine⟨D,al.out,cZ al.out.len (HM.ow 1) HM.ext⟩
end Go.Proofs.YtpelpnfhbepokaaGreatDoor
namespace Go.Proofs.YtpelpnfhbepokaaGreatDoor
open Go.RowKit
set_option linter.unusedVariables false
set_option linter.unusedSimpArgs false
theorem aCx (aA aB:Int)(p:OA)(n a:Nat)(xs:List Int)(w:World)(hS:Sl w p n a 1 (ivs xs))(b:aM aA aB xs=true):
  Calls Tryz.prog 181 #[aH aA aB p n a] w fun e w'=> ∃D,eO aA n (bJ xs).length D∧aX D w e w':=by
 have hl:=hS.ilen;obtain⟨g1,g2,g3,g4,g5,g6,g7⟩:=bZ (cM b);have hp:(2:Nat) ^ n≤2 ^ 12:=Nat.pow_le_pow_right (by omega) (by omega);have f:(2:Nat) ^ 12=4096:=by decide
 have d:(2:Nat) ^ n%2=0:=by obtain⟨m,hm⟩: ∃m,n=m+1:=⟨n-1,by omega⟩;rw[hm,Nat.pow_succ];omega
 refine aBs aA aB p n a (bJ xs).length (2 ^ n) w (by omega) (by omega) rfl (by omega) d (fun w' hx=> ?_) (fun m w' hm=>aCy m w' (by omega)) (fun w' hx=>yE aA aB p n a xs w' (hS.ext hx) b);exact(qI aA aB p n a xs w' (hS.ext hx) b).mono fun e w'' ⟨q,c,h1,_,h3⟩=>⟨q,c,h1,h3⟩
structure xD (aA aB:Int) (xs:List Int) (D:List Int) (c:Nat) (id:Int) (j:Nat) (ys:List Int):Prop where
 ok:aM aA aB ys=true
 len:ys.length=xs.length
 free:aN ys=(gP aA xs.length (aV D) (c,aN xs) j).2
 at_:ys[(gP aA xs.length (aV D) (c,aN xs) j).1]? =some id
theorem wR {aA aB:Int}{ys:List Int}{c:Nat}{id:Int}(a:aM aA aB ys=true)(hi:1≤id)(hc:ys[c]? =some id):gS aA aB ys id=(c:Int):=by
 unfold gS;rw[if_pos ⟨a,hi⟩];refine qF hc (fun hm=> ?_);unfold aM at a;rw[Bool.and_eq_true]at a;obtain⟨h1,h2,h3⟩:=(dO _ _).1 a.2;obtain⟨d,b⟩:=List.getElem?_eq_some_iff.1 hc;have e1:ys=ys.take c++ys.drop c:=(List.take_append_drop c ys).symm;have hd:id∈ys.drop c:=by rw[oF hc];simp
 rw[e1,List.filter_append,List.nodup_append]at h3;exact h3.2.2 id (List.mem_filter.2 ⟨hm,by simp;omega⟩) id (List.mem_filter.2 ⟨hd,by simp;omega⟩) rfl
theorem aGu {aA aB:Int}{xs:List Int}{D:List Int}{c:Nat}{id:Int}(h:aM aA aB xs=true)(hc:xs[c]? =some id) (h0:id≠0) (hD:eO aA xs.length (bJ xs).length D) {d:Nat} (hd:aV D c (aN xs)=d) {j:Nat} (hj:j<d) {ys:List Int} (hw:xD aA aB xs D c id j ys):
  ∃(J:Nat) (es:List (Nat×Nat)),es=eA aA xs.length (aN ys)∧gC aA aB ys=es.map iK∧J<es.length∧es[J]? =some (fQ aA xs.length (aV D) (c,aN xs) j)∧
   (∀i e,i≤J→es[i]? =some e→e∈eA aA xs.length (aN ys)∧(aV D (dI (gP aA xs.length (aV D) (c,aN xs) j).1 e.1 e.2) (cV (aN ys) e.1 e.2)=(d:Int)-j-1↔i=J))∧
   ∀e,es[J]? =some e→xD aA aB xs D c id (j+1) (bH aA aB ys (e.1:Int) (e.2:Int)):=by
 obtain⟨b1,b2,b3,b4,b5,b6,b7⟩:=bZ (cM h);have hp:=jZ hc h0;obtain⟨e1,e2,e3⟩:=jN b5 b6 hD hp hd hj;obtain⟨g1,g2⟩:=iS b5 b6 hD hp hd j (by omega);have l:=xY hw.ok;rw[hw.len]at l;have b:fQ aA xs.length (aV D) (c,aN xs) j∈eA aA xs.length (aN ys):=by rw[hw.free];exact e2
 have k:(eA aA xs.length (aN ys)).find? (fun e=>decide (aV D (dI (gP aA xs.length (aV D) (c,aN xs) j).1 e.1 e.2) (cV (aN ys) e.1 e.2)=(d:Int)-j-1))=some (fQ aA xs.length (aV D) (c,aN xs) j):=by have:=e1;unfold kZ at this;rw[←hw.free,←g2]at*;rw[hw.free]at*;exact this
 have w:=List.find?_some k;obtain⟨J,m,a,g,n⟩:=aEh (p:=fun e:Nat×Nat=>decide (aV D (dI (gP aA xs.length (aV D) (c,aN xs) j).1 e.1 e.2) (cV (aN ys) e.1 e.2)=(d:Int)-j-1)) (d:=(0,0)) b w;rw[k]at a g;simp only[Option.getD_some]at a g;refine⟨J,_,rfl,l,m,a,fun i e hi he=>⟨List.mem_of_getElem? he,?_⟩,fun e he=> ?_⟩
 ·constructor
  ·intro hh;rcases Nat.lt_or_ge i J with u|r
   ·have:=n i e u he;simp only[decide_eq_false_iff_not]at this;exact absurd hh this
   exact Nat.le_antisymm hi r
  intro s;have o:some (fQ aA xs.length (aV D) (c,aN xs) j)=some e:=by rw[←a,←s];exact he
  have q:=Option.some.inj o;rw[←q];exact of_decide_eq_true g
 rw[a]at he;injection he with he;subst he;have v:fQ aA xs.length (aV D) (c,aN xs) j∈eA aA ys.length (aN ys):=by rw[hw.len];exact b
 obtain⟨m1,m2,m3,m4⟩:=rR hw.ok (f:=(fQ aA xs.length (aV D) (c,aN xs) j).1) (t:=(fQ aA xs.length (aV D) (c,aN xs) j).2) v;refine⟨gZ _ _ hw.ok,by rw[cT,hw.len],?_,?_⟩
 ·rw[m3,e3,hw.free];rfl
 rw[e3];exact m4 _ _ hw.at_ h0
end Go.Proofs.YtpelpnfhbepokaaGreatDoor
