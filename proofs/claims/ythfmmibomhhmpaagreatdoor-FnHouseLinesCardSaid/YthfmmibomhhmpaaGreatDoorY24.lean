/-
  Texts of this proof, packed (@packed).
-/
import Derived.Test.YthfmmibomhhmpaaGreatDoorY23
namespace Go.Proofs.YthfmmibomhhmpaaGreatDoor
open Go.RowKit
set_option linter.unusedSimpArgs false
set_option linter.unusedVariables false
set_option maxHeartbeats 8000000
set_option maxRecDepth 100000
section
open Go.Proofs.Tryz
theorem aG9 {aA aB:Int}{xs:List Int}(h:aN aA aB xs=true):(cS xs).length<xs.length↔(0:Int)∈xs:=by
 unfold aN at h;rw[aTf]at h;have hc:=((eI _ _).1 h.2).1;rw[jM];clear h;induction xs with
 |nil=>simp[dL]
 |cons x xs ih=>
  have hx:=hc x (by simp);have:=ih (fun y hy=>hc y (by simp[hy]));have a:=kT xs;unfold dL at this a⊢;by_cases h0:0<x
  ·rw[aV6 (by simpa using h0)];simp only[aUh,aTi];constructor
   ·intro h;exact .inr (this.1 (by omega))
   rintro(h|h)
   ·omega
   have:=this.2 h;omega
  rw[aV7 (by simpa using h0)];simp only[aUh,aTi];constructor
  ·intro _;exact .inl (by omega)
  intro _;omega
theorem aLk (w:World)(x:Int):(w.alloc (.cells #[x] TI)).ownsRow w TI 1 (.slice (some ⟨w,0,none⟩) 1 1) 1 (ivs [x]):=
 ⟨rfl,.inr ⟨w.heap.size,1,_,rfl,aT5 _,heap_alloc_new w _,aT5 _,by simp[maxLen],rfl,rfl⟩⟩
def cX (base:List Int)(C:List Int):List Int:=base++C.filter (fun x=> !base.contains x)
theorem sL {base C:List Int}{k:Nat}{x:Int}(hx:C[k]? =some x) (h:base.contains x=false):cX base (C.take (k+1))=cX base (C.take k)++ [x]:=by unfold cX;rw[bA hx,aU2];simp[h]at*;simp[h]
theorem vD {base C:List Int}{k:Nat}{x:Int}(hx:C[k]? =some x) (h:base.contains x=true):cX base (C.take (k+1))=cX base (C.take k):=by unfold cX;rw[bA hx,aU2];simp[h]at*;simp[h]
theorem aLd (base C:List Int):(cX base C).length≤base.length+C.length:=by unfold cX;rw[aTc];have:=aUb (fun x=> !base.contains x) C;omega
theorem yN {base C:List Int}{k:Nat}{x:Int}(hn:C.Nodup)(hx:C[k]? =some x):(cX base (C.take k)).contains x=base.contains x:=by
 unfold cX;obtain⟨hk,rfl⟩:=aT9.1 hx;have a:C[k]∉C.take k:=by intro hm;obtain⟨j,hj,e⟩:=aUe hm;rw[List.getElem_take]at e;rw[aTt]at hj;exact(List.pairwise_iff_getElem.1 hn j k (by omega) hk (by omega)) e
 simp only[List.contains_eq_mem,aTn,aTs];simp[a]
theorem nU {h:aL}(a:aP h=true):cC h=cX (if(0:Int)∈h.cells then []else [h.cells.headD 0]) (cS h.cells):=by
 unfold cC cX;rw[if_pos a];by_cases h0:(0:Int)∈h.cells
 ·rw[if_pos h0,if_pos h0];exact(List.filter_eq_self.2 (by simp)).symm
 rw[if_neg h0,if_neg h0];simp only[aUu,aUx];congr 1;apply List.filter_congr;intro x _;by_cases hx:x=h.cells.headD 0<;>simp[bne,hx,List.contains_eq_mem];rfl
theorem nL {h:aL}(a:aP h=true):h.vs.map (·.1)=cS h.cells∧(cS h.cells).Nodup:=by have hn:=(eC a).1;unfold aP at a;simp only[aTf]at a;have:=(kD a.2).1;exact⟨this,by rw[←this];exact hn⟩
theorem kX {h:aL}(a:aP h=true):aN h.aA h.aB h.cells=true:=by unfold aP at a;simp only[aTf]at a;exact a.1.1.1
theorem aIt (aA aB a b aD aF aC aG:Int)(p:OA)(n c:Nat)(q:OA)(m c2:Nat)(w:World)(HV:xB 19 #[.agg #[aA,aB,.slice p n c,a,b,aD,aF,aC,aG,.slice q m c2]] w false):
  U 104 #[.agg #[aA,aB,.slice p n c,a,b,aD,aF,aC,aG,.slice q m c2]] w (bC [] w):=by
 go_enter func104,ntmps104;go_wp2_with fail;refine Z (HV _ (by exact .alloc (.refl _) _)) fun w1 d=>?_
 go_wp2;go_ret;exact dO (xs:= []) rfl (aTe _ _ _ _) (by exact .trans (.alloc (.refl _) _) d)
theorem aHi (aA aB a b aD aF aC aG:Int)(p:OA)(n c:Nat)(q:OA)(m c2:Nat)(w:World)(HV:xB 9 #[.agg #[aA,aB,.slice p n c,a,b,aD,aF,aC,aG,.slice q m c2]] w false):
  U 122 #[.agg #[aA,aB,.slice p n c,a,b,aD,aF,aC,aG,.slice q m c2]] w (bC [] w):=by
 go_enter func122,ntmps122;go_wp2_with fail;refine Z (HV _ (by exact .alloc (.alloc (.refl _) _) _)) fun w1 d=>?_
 have ho:((w.alloc (.cells #[aA,aB,.slice p n c,a,b,aD,aF,aC,aG,.slice q m c2] 30)).alloc (.cells #[] TI)).ownsRow w TI 1 (.slice (some ⟨(w.alloc (.cells #[aA,aB,.slice p n c,a,b,aD,aF,aC,aG,.slice q m c2] 30)).heap.size,0,none⟩) 0 0) 0 []:=aU5 _ #[] 0 (by simp) (by simp[maxLen]) rfl;have f:=xQ (aW ho d);clear ho;go_wp2;go_ret;exact dO (xs:= []) rfl (by simpa using f.out) (by exact .trans (.alloc (.alloc (.refl _) _) _) d)
theorem aFx (aA aB a b aD aF aC aG:Int)(p:OA)(n c:Nat)(q:OA)(m c2:Nat)(C:List Int)(w:World)(hn:n≤12)(hl:C.length<n)(HV:xB 19 #[.agg #[aA,aB,.slice p n c,a,b,aD,aF,aC,aG,.slice q m c2]] w true)
  (HC:Hid (∀w',Ext w w'→U 44 #[aH aA aB p n c] w' (bC C w'))):
  U 104 #[.agg #[aA,aB,.slice p n c,a,b,aD,aF,aC,aG,.slice q m c2]] w (bC C w):=by
 go_enter func104,ntmps104;go_wp2_with fail;refine Z (HV _ (by exact .alloc (.refl _) _)) fun w1 d=>?_
 have BA:Blk w1 w 30 #[aA,aB,.slice p n c,a,b,aD,aF,aC,aG,.slice q m c2]:=(Blk.new w _ _).ext d;have g:=xQ BA;have X1:Ext w w1:=by exact .trans (.alloc (.refl _) _) d
 clear d;have a_:=BA.ten;clear BA;go_wp2_with fail;clear a_;refine(HC _ X1).mono ?_;rintro e w2 ⟨pc,cc,rfl,h,f⟩;have i:=xQ (g.out.ext f);have X2:Ext w w2:=X1.trans f;have HO:=xQ h;clear h f g;have b2:=i.out.cl 2;go_wp2;go_ret;exact dO rfl (bM HO X1.sz) X2
theorem aFw (aA aB h l aD aF aC aG:Int)(p:OA)(n g:Nat)(q:OA)(m c2:Nat)(C:List Int)(x0:Int)(b0 d:Nat)(w:World)(hn:n≤12)(hp:p=some ⟨b0,d,none⟩)(hl:C.length=n)(am:0<n)(ab:b0<w.heap.size)(r:w.cell? ⟨b0,d,none⟩=some (I x0))(HV:xB 19 #[.agg #[aA,aB,.slice p n g,h,l,aD,aF,aC,aG,.slice q m c2]] w true)
  (HC:Hid (∀w',Ext w w'→U 44 #[aH aA aB p n g] w' (bC C w'))):
  U 104 #[.agg #[aA,aB,.slice p n g,h,l,aD,aF,aC,aG,.slice q m c2]] w (bC (cX [x0] C) w):=by
 subst hp;have ak: ¬C.length<n:=by omega
 have aj:C.length≤12:=by omega
 clear hl;go_enter func104,ntmps104;go_wp2_with fail;refine Z (HV _ (by exact .alloc (.refl _) _)) fun w1 s=>?_
 have BA:Blk w1 w 30 #[aA,aB,.slice (some ⟨b0,d,none⟩) n g,h,l,aD,aF,aC,aG,.slice q m c2]:=(Blk.new w _ _).ext s;have y:=xQ BA;have X1:Ext w w1:=by exact .trans (.alloc (.refl _) _) s
 clear s;have a_:=BA.ten;clear BA;go_wp2_with fail;clear a_;refine(HC _ X1).mono ?_;rintro e w2 ⟨pc,cc,rfl,ae,t⟩;have u:=xQ (y.out.ext t);have X2:Ext w w2:=X1.trans t;have HO:=xQ ae;have z2:(w:Nat)<w2:=u.out.lt;clear ae t y;have b2:=u.out.cl 2;have h0:w2.cell? ⟨b0,d,none⟩=some (I x0):=by rw[X2.cells.1 _ _ ab];exact r
 have af:=xQ r;clear r;go_wp2;go_loopw [4,29] (fun v i wr=> ∃(k:Nat) (q:OA) (m c:Nat),k≤C.length∧i=I k∧v= .slice q m c∧m≤k+1∧wr.ownsRow w2 TI 1 (.slice q m c) m (ivs (cX [x0] (C.take k)))∧Ext w2 wr) (fun _ i _=>C.length-(intOf i).toNat)
 case atStart=>exact⟨0,_,1,_,aTd _,rfl,rfl,by omega,by simpa[cX]using aLk w2 x0,by exact .alloc (.refl _) _⟩
 case round=>
  obtain⟨k,q,m1,c,hk,rfl,rfl,al,o,hE⟩:=hrel;have f:=xQ o;have aa:=X2.trans hE;have an:=hE.sz;have ec:wr.cell? ⟨w,2,none⟩=some (.slice (some ⟨b0,d,none⟩) n g):=(hE.cells.1 _ _ z2).trans b2;have hg:wr.cell? ⟨b0,d,none⟩=some (I x0):=by rw[aa.cells.1 _ _ ab];exact af.out
  clear o;by_cases hlt:k<C.length
  ·obtain⟨b,ao,x,rfl,hx,hb,ai⟩:=((Sl.own HO.out).ext hE).int_at hlt;have HX:=xQ hx;clear hx;by_cases hx0:x=x0
   ·have t0:(x !=x0)=false:=by simp[hx0]
    have a:Hid (cX [x0] (C.take (k+1))=cX [x0] (C.take k)):=vD HX (by simp[hx0]);clear hx0;go_wp2;go_roundw
    case rel=>exact⟨k+1,q,m1,c,by omega,by go_num,rfl,by omega,by rw[a.out];exact f.out,hE⟩
    case measure=>simp[intOf];omega
   have t0:(x !=x0)=true:=by simp[hx0]
   have a:Hid (cX [x0] (C.take (k+1))=cX [x0] (C.take k)++ [x]):=sL HX (by simp[hx0]);clear hx0;go_wp2_with (at_builtin;refine cW fY rfl _ _ rfl w2 _ _ _ rfl (f.out.alloc _) _ _ x _ rfl (by simp) (by omega) (by simp;omega) ?_;intro p' z w3 j ad;have ag:=xQ j;have ah:Ext w2 w3:=Ext.own (hE.alloc _) (f.out.alloc _) ad (aT5 _);clear j ad);go_roundw
   case rel=>exact⟨k+1,p',m1+1,z,by omega,by go_num,rfl,by omega,by rw[a.out];exact ag.out,ah⟩
   case measure=>simp[intOf];omega
  have a:Hid (cX [x0] (C.take k)=cX [x0] C):=by show _=_;rw[aTa (by omega)]
  go_wp2;go_ret;exact dO (by rw[←a.out];have:=f.out.1;simpa using this) (by rw[←a.out];exact bM f X2.sz) aa
theorem aEn (aA aB d f aD aF aC aG:Int)(p:OA)(n h:Nat)(q:OA)(m c2:Nat)(w:World)(vs:List aR)(F:List Int)(HN:Hid (vs.map (·.1)).Nodup)(hm:m≤12)(HS:Hid (Sl w q m c2 4 (vs.flatMap aE)))(hl:Hid (vs.length=m))(hF:F.length≠0)(HV:xB 9 #[.agg #[aA,aB,.slice p n h,d,f,aD,aF,aC,aG,.slice q m c2]] w true)
  (HF:Hid (∀w',Ext w w'→U 163 #[aH aA aB p n h] w' (bC F w'))):
  U 122 #[.agg #[aA,aB,.slice p n h,d,f,aD,aF,aC,aG,.slice q m c2]] w (bC (cX [] (vs.map (·.1))) w):=by
 go_enter func122,ntmps122;go_wp2_with fail;refine Z (HV _ (by exact .alloc (.alloc (.refl _) _) _)) fun w1 o=>?_
 have ho:((w.alloc (.cells #[aA,aB,.slice p n h,d,f,aD,aF,aC,aG,.slice q m c2] 30)).alloc (.cells #[] TI)).ownsRow (w.heap.size+1) TI 1 (.slice (some ⟨w.heap.size+1,0,none⟩) 0 0) 0 []:=by simpa using aU5 (w.alloc (.cells #[aA,aB,.slice p n h,d,f,aD,aF,aC,aG,.slice q m c2] 30)) (e:=TI) (base:=w.heap.size+1) #[] 0 (by simp) (by simp[maxLen]) rfl
 have y:=xQ (aW ho o);clear ho;have BA:Blk w1 w 30 #[aA,aB,.slice p n h,d,f,aD,aF,aC,aG,.slice q m c2]:=((Blk.new w _ _).alloc _).ext o;have x:=xQ BA;have X1:Ext w w1:=by exact .trans (.alloc (.alloc (.refl _) _) _) o
 clear o;obtain⟨a0,a1,a2,a3,a4,a5,a6,a7,a8,a9⟩:=BA.ten;clear BA;go_wp2_with fail;clear a0 a1 a2 a3 a4 a5 a6 a7 a8 a9;refine(HF _ X1).mono ?_;rintro e w2 ⟨pf,cf,rfl,_,r⟩;have u:=xQ (x.out.ext r);have af:=xQ (aW y r);have X2:Ext w w2:=X1.trans r;have z2:(w:Nat)<w2:=u.out.lt;clear r x y;have tF:((F.length:Int)==0)=false:=by simp[hF]
 have aa:=u.out.cl 9;have ai:=z2;clear hF;go_wp2;go_loopw [3,4] (fun v i wr=> ∃(k:Nat) (qq:OA) (m1 c:Nat),k≤m∧i=I k∧v= .slice qq m1 c∧m1≤k+1∧wr.ownsRow (w.heap.size+1) TI 1 (.slice qq m1 c) m1 (ivs (cX [] ((vs.map (·.1)).take k)))∧Ext w wr∧wr.cell? ⟨w,9,none⟩=some (.slice q m c2)∧w.heap.size<wr.heap.size) (fun _ i _=>m-(intOf i).toNat)
 case atStart=>exact⟨0,_,_,_,aTd _,rfl,rfl,by omega,by simpa[cX]using af.out,X2,aa,ai⟩
 case round=>
  obtain⟨k,qq,m1,c,hk,rfl,rfl,aj,s,hE,ab,t⟩:=hrel;have g:=xQ s;clear s aa;by_cases hlt:k<m
  ·obtain⟨b,ak,a0,a1,a2,a3,rfl,hv,hb,g0,g1,g2,g3⟩:=eN (HS.out.ext hE) hlt;have hx:Hid ((vs.map (·.1))[k]? =some a0):=by show _=_;rw[aTo,hv];rfl
   have i1:=aVt k;have i2:=aVu k m;clear hv;have HH:xC 54 #[.slice qq m1 c,a0] wr fun w' e w''=>e= .returned (.bool (([]:List Int).contains a0))∧w'=w'':=fun w' hx'=>by have:=rM qq m1 c _ a0 w' ((Sl.own g.out).ext hx');rwa[yN HN hx.out]at this
   cases hs:([]:List Int).contains a0 with
   |true=>
    rw[hs]at HH;have a:Hid (cX [] ((vs.map (·.1)).take (k+1))=cX [] ((vs.map (·.1)).take k)):=vD hx.out hs;clear hs;go_wp2_with fail;refine(HH _ (by exact .refl _)).mono ?_;rintro e w4 ⟨rfl,rfl⟩;go_wp2;go_roundw
    case rel=>exact⟨k+1,qq,m1,c,by omega,by go_num,rfl,by omega,by rw[a.out];exact g.out,hE,ab,t⟩
    case measure=>simp[intOf];omega
   |false=>
    rw[hs]at HH;have a:Hid (cX [] ((vs.map (·.1)).take (k+1))=cX [] ((vs.map (·.1)).take k)++ [a0]):=sL hx.out hs;clear hs;go_wp2_with fail;refine(HH _ (by exact .refl _)).mono ?_;rintro e w4 ⟨rfl,rfl⟩;go_wp2_with (at_builtin;refine cW fY rfl _ _ rfl (w.heap.size+1) _ _ _ rfl (g.out.alloc _) _ _ a0 _ rfl (by simp) (by omega) (by simp;omega) ?_;intro p' z w5 j l;have ae:=xQ j;have ah:Ext w w5:=Ext.own (hE.alloc _) (g.out.alloc _) l (by omega);have ag:=tP g l t ab;have ad:(w:Nat)<w5:=aT4 t (by have:=l.size;simp at this;omega);clear j l);go_roundw
    case rel=>exact⟨k+1,p',m1+1,z,by omega,by go_num,rfl,by omega,by rw[a.out];exact ae.out,ah,ag,ad⟩
    case measure=>simp[intOf];omega
  have a:Hid (cX [] ((vs.map (·.1)).take k)=cX [] (vs.map (·.1))):=by show _=_;rw[aTa (by rw[aU1,hl.out];omega)]
  go_wp2;go_ret;exact dO (by rw[←a.out];have:=g.out.1;simpa using this) (by rw[←a.out];exact bM g (Nat.le_succ _)) hE
theorem aEm (aA aB h j aD aF aC aG:Int)(p:OA)(n o:Nat)(q:OA)(m c2:Nat)(w:World)(vs:List aR)(F:List Int)(HN:Hid (vs.map (·.1)).Nodup)(hm:m≤12)(HS:Hid (Sl w q m c2 4 (vs.flatMap aE)))(hl:Hid (vs.length=m))(hF:F.length=0)(x0:Int)(b0 f:Nat)(hp:p=some ⟨b0,f,none⟩)(aq:0<n)(am:b0<w.heap.size)(af:w.cell? ⟨b0,f,none⟩=some (I x0))(HV:xB 9 #[.agg #[aA,aB,.slice p n o,h,j,aD,aF,aC,aG,.slice q m c2]] w true)
  (HF:Hid (∀w',Ext w w'→U 163 #[aH aA aB p n o] w' (bC F w'))):
  U 122 #[.agg #[aA,aB,.slice p n o,h,j,aD,aF,aC,aG,.slice q m c2]] w (bC (cX [x0] (vs.map (·.1))) w):=by
 subst hp;go_enter func122,ntmps122;go_wp2_with fail;refine Z (HV _ (by exact .alloc (.alloc (.refl _) _) _)) fun w1 r=>?_
 have ho:((w.alloc (.cells #[aA,aB,.slice (some ⟨b0,f,none⟩) n o,h,j,aD,aF,aC,aG,.slice q m c2] 30)).alloc (.cells #[] TI)).ownsRow (w.heap.size+1) TI 1 (.slice (some ⟨w.heap.size+1,0,none⟩) 0 0) 0 []:=by simpa using aU5 (w.alloc (.cells #[aA,aB,.slice (some ⟨b0,f,none⟩) n o,h,j,aD,aF,aC,aG,.slice q m c2] 30)) (e:=TI) (base:=w.heap.size+1) #[] 0 (by simp) (by simp[maxLen]) rfl
 have aa:=xQ (aW ho r);clear ho;have BA:Blk w1 w 30 #[aA,aB,.slice (some ⟨b0,f,none⟩) n o,h,j,aD,aF,aC,aG,.slice q m c2]:=((Blk.new w _ _).alloc _).ext r;have z:=xQ BA;have X1:Ext w w1:=by exact .trans (.alloc (.alloc (.refl _) _) _) r
 clear r;obtain⟨a0,a1,a2,a3,a4,a5,a6,a7,a8,a9⟩:=BA.ten;clear BA;go_wp2_with fail;clear a0 a1 a2 a3 a4 a5 a6 a7 a8 a9;refine(HF _ X1).mono ?_;rintro e w2 ⟨pf,cf,rfl,_,s⟩;have u:=xQ (z.out.ext s);have x:=xQ (aW aa s);have X2:Ext w w2:=X1.trans s;have z2:(w:Nat)<w2:=u.out.lt;clear s z aa;have h0:w2.cell? ⟨b0,f,none⟩=some (I x0):=by rw[X2.cells.1 _ _ am];exact af
 have tF:((F.length:Int)==0)=true:=by simp[hF]
 have c9:Hid (w2.cell? ⟨w,9,none⟩=some (.slice q m c2)):=u.out.cell 9;clear af hF;have b2:=u.out.cl 2;go_wp2_with (at_builtin;refine cW fY rfl _ _ rfl (w.heap.size+1) _ 0 [] rfl (x.out.alloc _) _ _ x0 _ rfl (by simp) (by omega) (by simp;omega) ?_;intro p3 ao w3 a g;have ai:=xQ a;have ak:Ext w w3:=Ext.own (X2.alloc _) (x.out.alloc _) g (by omega);have ad:=tP x g z2 c9.out;have an:(w:Nat)<w3:=aT4 z2 (by have:=g.size;simp at this;omega);clear a g);go_loopw [3,4] (fun v i wr=> ∃(k:Nat) (qq:OA) (m1 c:Nat),k≤m∧i=I k∧v= .slice qq m1 c∧m1≤k+1∧wr.ownsRow (w.heap.size+1) TI 1 (.slice qq m1 c) m1 (ivs (cX [x0] ((vs.map (·.1)).take k)))∧Ext w wr∧wr.cell? ⟨w,9,none⟩=some (.slice q m c2)∧w.heap.size<wr.heap.size) (fun _ i _=>m-(intOf i).toNat)
 case atStart=>exact⟨0,_,_,_,aTd _,rfl,rfl,by omega,by simpa[cX]using ai.out,ak,ad,an⟩
 case round=>
  obtain⟨k,qq,m1,c,hk,rfl,rfl,ap,t,hE,ae,y⟩:=hrel;have l:=xQ t;clear t ad;by_cases hlt:k<m
  ·obtain⟨b,ar,a0,a1,a2,a3,rfl,hv,hb,g0,g1,g2,g3⟩:=eN (HS.out.ext hE) hlt;have hx:Hid ((vs.map (·.1))[k]? =some a0):=by show _=_;rw[aTo,hv];rfl
   have i1:=aVt k;have i2:=aVu k m;clear hv;have HH:xC 54 #[.slice qq m1 c,a0] wr fun w' e w''=>e= .returned (.bool (([x0]:List Int).contains a0))∧w'=w'':=fun w' hx'=>by have:=rM qq m1 c _ a0 w' ((Sl.own l.out).ext hx');rwa[yN HN hx.out]at this
   cases hs:([x0]:List Int).contains a0 with
   |true=>
    rw[hs]at HH;have d:Hid (cX [x0] ((vs.map (·.1)).take (k+1))=cX [x0] ((vs.map (·.1)).take k)):=vD hx.out hs;clear hs;go_wp2_with fail;refine(HH _ (by exact .refl _)).mono ?_;rintro e w4 ⟨rfl,rfl⟩;go_wp2;go_roundw
    case rel=>exact⟨k+1,qq,m1,c,by omega,by go_num,rfl,by omega,by rw[d.out];exact l.out,hE,ae,y⟩
    case measure=>simp[intOf];omega
   |false=>
    rw[hs]at HH;have d:Hid (cX [x0] ((vs.map (·.1)).take (k+1))=cX [x0] ((vs.map (·.1)).take k)++ [a0]):=sL hx.out hs;clear hs;go_wp2_with fail;refine(HH _ (by exact .refl _)).mono ?_;rintro e w4 ⟨rfl,rfl⟩;go_wp2_with (at_builtin;refine cW fY rfl _ _ rfl (w.heap.size+1) _ _ _ rfl (l.out.alloc _) _ _ a0 _ rfl (by simp) (by omega) (by simp;omega) ?_;intro p' ab w5 a g;have ah:=xQ a;have al:Ext w w5:=Ext.own (hE.alloc _) (l.out.alloc _) g (by omega);have aj:=tP l g y ae;have ag:(w:Nat)<w5:=aT4 y (by have:=g.size;simp at this;omega);clear a g);go_roundw
    case rel=>exact⟨k+1,p',m1+1,ab,by omega,by go_num,rfl,by omega,by rw[d.out];exact ah.out,al,aj,ag⟩
    case measure=>simp[intOf];omega
  have d:Hid (cX [x0] ((vs.map (·.1)).take k)=cX [x0] (vs.map (·.1))):=by show _=_;rw[aTa (by rw[aU1,hl.out];omega)]
  go_wp2;go_ret;exact dO (by rw[←d.out];have:=l.out.1;simpa using this) (by rw[←d.out];exact bM l (Nat.le_succ _)) hE
theorem aDh (h:aL)(p:OA)(n c:Nat)(q:OA)(m c2:Nat)(w:World)(hi:IsHouse w h p n c q m c2):
  U 104 #[bG h p n c q m c2] w (bC (cC h) w):=by
 have HV:=fun(w':World) (hx:Ext w w')=>iW h p n c q m c2 w' (hi.ext hx)
 have o:=hi.clen;cases hok:aP h with
 |false=>
  rw[hok]at HV;have e:cC h= []:=by unfold cC;rw[hok];rfl
  rw[e];exact aIt h.aA h.aB h.free h.step h.aD h.aF h.aC h.aG p n c q m c2 w HV
 |true=>
  rw[hok]at HV;have hh:=kX hok;have d:n≤12∧4≤n:=by have h1:=hh;unfold aN at h1;rw[aTf]at h1;have:=cG h1.1;omega
  obtain⟨d,s⟩:=d;have HC:=fun(w':World) (hx:Ext w w')=>by have:=aOz h.aA h.aB p n c h.cells w' (hi.cells.ext hx);rw[hh,if_pos rfl]at this;exact this
  rw[nU hok];by_cases h0:(0:Int)∈h.cells
  ·rw[if_pos h0];have g:=(aG9 (kX hok)).2 h0;have e:cX [] (cS h.cells)=cS h.cells:=by simp[cX]
   rw[e];rw[o]at g;exact aFx h.aA h.aB h.free h.step h.aD h.aF h.aC h.aG p n c q m c2 (cS h.cells) w d g HV HC
  rw[if_neg h0];obtain⟨b0,i,x0,hp,f,j,l⟩:=hi.cells.int_at (k:=0) (by omega)
  have r:h.cells.headD 0=x0:=by cases hc:h.cells with
   |nil=>rw[hc]at f;simp at f
   |cons a b=>rw[hc]at f;simpa using f
  rw[r];exact aFw h.aA h.aB h.free h.step h.aD h.aF h.aC h.aG p n c q m c2 (cS h.cells) x0 b0 i w d hp (by have:=mt (aG9 (kX hok)).1 h0;have h2:=kT h.cells;rw[jM]at this⊢;omega) (by omega) j l HV HC
theorem aCj (h:aL)(p:OA)(n c:Nat)(q:OA)(m c2:Nat)(w:World)(hi:IsHouse w h p n c q m c2):
  U 122 #[bG h p n c q m c2] w (bC (cC h) w):=by
 have HV:=fun(w':World) (hx:Ext w w')=>iA h p n c q m c2 w' (hi.ext hx)
 have d:=hi.vlen;have r:=hi.clen;cases hok:aP h with
 |false=>
  rw[hok]at HV;have e:cC h= []:=by unfold cC;rw[hok];rfl
  rw[e];exact aHi h.aA h.aB h.free h.step h.aD h.aF h.aC h.aG p n c q m c2 w HV
 |true=>
  rw[hok]at HV;have hh:=kX hok;have g:n≤12∧4≤n:=by have h1:=hh;unfold aN at h1;rw[aTf]at h1;have:=cG h1.1;omega
  obtain⟨g,s⟩:=g;have HF:=fun(w':World) (hx:Ext w w')=>by have:=aHd h.aA h.aB p n c h.cells w' (hi.cells.ext hx);rw[hh,if_pos rfl]at this;exact this
  rw[nU hok];by_cases h0:(0:Int)∈h.cells
  ·rw[if_pos h0];have hf:(nJ h.cells).length≠0:=fun e=>(vQ _).1 (aU7 e) h0
   rw[←(nL hok).1];exact aEn h.aA h.aB h.free h.step h.aD h.aF h.aC h.aG p n c q m c2 w h.vs (nJ h.cells) (eC hok).1 (by rw[←d];exact(eC hok).2.1) hi.vs d hf HV HF
  rw[if_neg h0];obtain⟨b0,i,x0,hp,f,j,l⟩:=hi.cells.int_at (k:=0) (by omega)
  have o:h.cells.headD 0=x0:=by cases hc:h.cells with
   |nil=>rw[hc]at f;simp at f
   |cons a b=>rw[hc]at f;simpa using f
  rw[o];rw[←(nL hok).1];exact aEm h.aA h.aB h.free h.step h.aD h.aF h.aC h.aG p n c q m c2 w h.vs (nJ h.cells) (eC hok).1 (by rw[←d];exact(eC hok).2.1) hi.vs d (by rw[(vQ _).2 h0];rfl) x0 b0 i hp (by omega) j l HV HF
end
abbrev TDd:TypeId:=62
abbrev Dd3:=Int×Int×Int
def cI (d:Dd3):List Value:= [.int .i64 d.1,.int .i64 d.2.1,.int .i64 d.2.2]
def dP (a:Int):Nat:=((a+299)/300).toNat
def mB (id a:Int)(i:Nat):Dd3:=(1,id,min (a-300*(i:Int)) 300)
def iD (id a:Int)(k:Nat):List Dd3:=(List.range k).map (mB id a)
def bE (due:Int→Int)(ids:List Int):List Dd3:=ids.flatMap (fun id=>iD id (due id) (dP (due id))++ [(2,id,0)])
theorem kU (a:Int)(k:Nat):k<dP a↔0<a-300*(k:Int):=by unfold dP;omega
theorem sN (id a:Int)(k:Nat):iD id a (k+1)=iD id a k++ [mB id a k]:=by unfold iD;rw[aUt,aUj];rfl
theorem aHz (id a:Int):iD id a 0= []:=rfl
theorem mI (id a:Int)(k:Nat):(iD id a k).length=k:=by unfold iD;simp
theorem sH (a:Int→Int){b:List Int}{k:Nat}{x:Int}(hx:b[k]? =some x):bE a (b.take (k+1))=bE a (b.take k)++iD x (a x) (dP (a x))++ [(2,x,0)]:=by unfold bE;rw[bA hx,aTz];simp
theorem aDu (a:Int→Int)(ids:List Int)(M:Nat)(h: ∀x∈ids,dP (a x)≤M):(bE a ids).length≤ids.length*(M+1):=by
 unfold bE;induction ids with
 |nil=>simp
 |cons x xs ih=>have h1:=h x (by simp);have h2:=ih (fun y hy=>h y (by simp[hy]));rw[aUc,aTc,aTc,mI];simp only[aUh,List.length_nil];rw[Nat.add_mul xs.length 1,Nat.one_mul];omega
theorem aK3 {w:World}{q:OA}{m c2:Nat}{ds:List Dd3}(h:Sl w q m c2 3 (ds.flatMap cI)){k:Nat}(hk:k<m):
  ∃b off a0 a1 a2,q=some ⟨b,off,none⟩∧ds[k]? =some (a0,a1,a2)∧b<w.heap.size∧w.cell? ⟨b,off+k*3,none⟩=some (I a0)∧w.cell? ⟨b,off+k*3+1,none⟩=some (I a1)∧w.cell? ⟨b,off+k*3+2,none⟩=some (I a2):=by
 obtain⟨b,off,x,hp,hx,hb,hc⟩:=Sl.at_ (sz:=3) (f:=cI) (fun _=>rfl) h hk (by omega);obtain⟨a0,a1,a2⟩:=x;exact⟨b,off,a0,a1,a2,hp,hx,hb,hc 0 (by omega),hc 1 (by omega),hc 2 (by omega)⟩
def mX (ds:List Dd3)(w:World)(e:Ending)(w':World):Prop:=
 ∃p cap,e= .returned (.slice p ds.length cap)∧w'.ownsRow w.heap.size TDd 3 (.slice p ds.length cap) ds.length (ds.flatMap cI)∧Ext w w'
section
open Go.Proofs.Tryz
theorem aPs:ElT prog 103 TDd 3:=
 ⟨underlying103,by
  obtain⟨i,hi,h0,h1,h2⟩:=info_parts (show(prog.info? TDd).map (fun i=>(i.zero,i.size,i.bytes))=some (some (.agg #[(),(),()]),3,24) by kernel_rfl)
  exact⟨i,_,hi,h0,h1,by omega,rfl⟩,by omega⟩
theorem uL (ds:List Dd3): ∀u∈ds.flatMap cI,u.oneCell'=true:=by intro u hu;obtain⟨v,_,hv⟩:=List.mem_flatMap.1 hu;simp[cI]at hv;rcases hv with rfl|rfl|rfl<;>rfl
theorem aH0 (id a:Int)(w:World)(ha:a≤10000)(l: -10000≤a):U 123 #[id,a] w (mX (iD id a (dP a)) w):=by
 have ME:=((Mem.start w).made0 TDd 3 w (by simp))
 have m:dP a≤40:=by unfold dP;omega
 go_enter func123,ntmps123;go_wp2;go_loopw [1,5] (fun x v wr=> ∃(k:Nat) (q:OA) (c:Nat) (X:Int),k≤dP a∧x=I X∧v= .slice q k c∧(k<dP a→X=a-300*(k:Int))∧(dP a≤k→X≤0)∧Mem w wr [aJ w TDd 3 (q) (k) (c) ((iD id a k).flatMap cI)]) (fun x _ _=>(intOf x).toNat)
 case atStart=>exact⟨0,some ⟨w,0,none⟩,0,a,aTd _,rfl,rfl,fun _=>by simp,fun h=>by have:=kU a 0;omega,ME⟩
 case round=>
  clear ME;obtain⟨k,q,c,X,hk,rfl,rfl,hX,d,hM⟩:=hrel;have HM:=hM;clear hM;by_cases hlt:k<dP a
  ·have b:=hX hlt;have e:=(kU a k).1 hlt;clear hX d;have hp:0<X:=by omega
   have j:X≤10000:=by omega
   have g:k+1<dP a→X-min X 300=a-300*((k+1:Nat):Int):=fun h=>by have:=(kU a (k+1)).1 h;omega
   have f:dP a≤k+1→X-min X 300≤0:=fun h=>by have:=kU a (k+1);omega
   have i:Hid (mB id a k=(1,id,min X 300)):=by show _=_;unfold mB;rw[b]
   have t0:decide (0<X)=true:=by simp[hp]
   have n:=aVw (X-min X 300);clear b e;go_wp2_with (at_builtin;go_loud (refine cJ aPs rfl _ _ rfl (HM.adv ((Ext.refl _).alloc (.cells #[I 1,id,(min X 300:Int)] TDd))) 0 rfl rfl (cI (1,id,min X 300)) rfl (eD _ _ _ 1 3 _ (by simp[cI]) (by simp[cI]) (by simp[maxLen])) (fun u hu=>uL [(1,id,min X 300)] u (by simpa using hu)) (by omega) ?_;intro q7 c7 w6 M6));have M7:=(show Mem w w6 [aJ w TDd 3 (q7) (k+1) (c7) ((iD id a (k+1)).flatMap cI)]from by rw[sN,aTz,i.out];simpa using M6)
   clear M6 HM;go_wp2;go_roundw
   case rel=>exact⟨k+1,q7,c7,X-min X 300,by omega,by go_num,rfl,g,f,M7⟩
   case measure=>simp[intOf];omega
  have b:=d (by omega);obtain rfl:k=dP a:=by omega
  have t0:decide (0<X)=false:=by simp;omega
  go_wp2;go_ret;have h1:=HM.ow 0;exact⟨q,c,by rw[mI];rfl,by rw[mI];exact h1,HM.ext⟩
theorem aP1 (aA aB c f aD aF aC aG:Int)(p:OA)(n g:Nat)(q:OA)(m c2:Nat)(ids:List Int)(a:Int→Int)(w:World)(hl:ids.length≤1000)
  (HO:Hid (∀w',Ext w w'→U 104 #[.agg #[aA,aB,.slice p n g,c,f,aD,aF,aC,aG,.slice q m c2]] w' (bC ids w')))
  (HD:Hid (∀x,x∈ids→ ∀w',Ext w w'→U 70 #[.agg #[aA,aB,.slice p n g,c,f,aD,aF,aC,aG,.slice q m c2],x] w' (O (I (a x)) w')))
  (hb:Hid (∀x∈ids,a x≤10000∧ -10000≤a x))(ak:Hid (∀k,(bE a (ids.take k)).length≤k*41)):
  U 67 #[.agg #[aA,aB,.slice p n g,c,f,aD,aF,aC,aG,.slice q m c2]] w (mX (bE a ids) w):=by
 go_enter func67,ntmps67;have MB:=((Mem.start w).c0 30 #[aA,aB,.slice p n g,c,f,aD,aF,aC,aG,.slice q m c2])
 go_wp2_with fail;refine(HO _ MB.ext).mono ?_;rintro e w1 ⟨q1,c1,rfl,o1,ae⟩;have M1:=((MB.call ae o1).call (Ext.refl _) (aTe _ _ TDd 3))
 clear MB ae o1;go_wp2;go_loopw [3,10] (fun v i wr=> ∃(k:Nat) (q4:OA) (l c4:Nat),k≤ids.length∧i=I k∧v= .slice q4 l c4∧l=(bE a (ids.take k)).length∧Mem w wr [aJ w TDd 3 (q4) (l) (c4) ((bE a (ids.take k)).flatMap cI),aJ w TI 1 (q1) (ids.length) (c1) (ivs ids),aI w w 30 #[aA,aB,.slice p n g,c,f,aD,aF,aC,aG,.slice q m c2]]) (fun _ i _=>ids.length-(intOf i).toNat)
 case atStart=>exact⟨0,none,0,0,aTd _,rfl,rfl,rfl,M1⟩
 case round=>
  clear M1;obtain⟨k,q4,l,c4,hk,rfl,rfl,s,hM⟩:=hrel;have HM:=hM;have y:=xQ s;clear hM;have av:l≤k*41:=by rw[s];exact ak.out k
  clear s;by_cases hlt:k<ids.length
  ·obtain⟨b,t,x,rfl,hx,aj,hc⟩:=Sl.int_at (HM.sq 1) hlt;have HX:=xQ hx;have r:=xQ (aT7 hx);have ar:=hb.out x r.out;clear hx;have i1:=aVt k;have i2:(k:Int)<(ids.length:Int):=by omega
   have ai:=(HM.bk 2).ten;go_wp2_with fail;clear ai hc aj;refine Z (HD x r.out _ HM.ext) fun w3 af=>?_
   have M3:=(HM.adv af)
   clear HM af;generalize aa:a x=D at*;have ag:=xQ aa;clear aa;have au:dP D≤40:=by unfold dP;omega
   go_wp2;go_loopw [3,6] (fun v d wr=> ∃(j:Nat) (q5:OA) (l5 c5:Nat) (X:Int),j≤dP D∧d=I X∧v= .slice q5 l5 c5∧l5=l+j∧X=D-300*(j:Int)∧Mem w wr [aJ w TDd 3 (q5) (l5) (c5) ((bE a (ids.take k)).flatMap cI++(iD x D j).flatMap cI),aJ w TI 1 (some ⟨b,t,none⟩) (ids.length) (c1) (ivs ids),aI w w 30 #[aA,aB,.slice p n g,c,f,aD,aF,aC,aG,.slice q m c2]]) (fun _ d _=>(intOf d).toNat)
   case atStart=>exact⟨0,q4,l,c4,D,aTd _,rfl,rfl,rfl,by simp,by simpa[aHz]using M3⟩
   case round=>
    clear M3;obtain⟨j,q5,l5,c5,X,hj,rfl,rfl,ab,hX,hM⟩:=hrel;have M4:=hM;have ah:=xQ hX;have o:=kU D j;have ap:X≤10000:=by omega
    have aq: -30000≤X:=by omega
    have z:=xQ ab;have ao:l5≤l+40:=by omega
    clear hM ab;by_cases hjt:j<dP D
    ·have hp:0<X:=by have:=o.1 hjt;omega
     have am:X-300=D-300*((j+1:Nat):Int):=by omega
     have an:Hid (mB x D j=(1,x,min X 300)):=by show _=_;unfold mB;rw[←ah.out]
     have t0:decide (0<X)=true:=by simp[hp]
     have aw:=aVw (X-300);clear hX o;go_wp2_with (at_builtin;go_loud (refine cJ aPs rfl _ _ rfl (M4.adv ((Ext.refl _).alloc (.cells #[I 1,x,(min X 300:Int)] TDd))) 0 rfl rfl (cI (1,x,(min X 300))) rfl (eD _ _ _ 1 3 _ (by simp[cI]) (by simp[cI]) (by simp[maxLen])) (fun u hu=>uL [(1,x,(min X 300))] u (by simpa using hu)) (by omega) ?_;intro q7 c7 w6 M6));have M7:=(show Mem w w6 [aJ w TDd 3 (q7) (l5+1) (c7) ((bE a (ids.take k)).flatMap cI++(iD x D (j+1)).flatMap cI),aJ w TI 1 (some ⟨b,t,none⟩) (ids.length) (c1) (ivs ids),aI w w 30 #[aA,aB,.slice p n g,c,f,aD,aF,aC,aG,.slice q m c2]]from by rw[sN,aTz,an.out];simpa[aTx]using M6)
     clear M6 M4;go_wp2;go_roundw
     case rel=>exact⟨j+1,q7,l5+1,c7,X-300,by omega,by go_num,rfl,by have:=z.out;omega,am,M7⟩
     case measure=>simp[intOf];omega
    obtain rfl:j=dP D:=by omega
    have t0:decide (0<X)=false:=by have: ¬0<X:=fun h=>hjt (o.2 (by omega));simp;omega
    clear hX o hjt;go_wp2_with (at_builtin;go_loud (refine cJ aPs rfl _ _ rfl (M4.adv ((Ext.refl _).alloc (.cells #[I 2,x,()] TDd))) 0 rfl rfl (cI (2,x,0)) rfl (eD _ _ _ 1 3 _ (by simp[cI]) (by simp[cI]) (by simp[maxLen])) (fun u hu=>uL [(2,x,0)] u (by simpa using hu)) (by omega) ?_;intro q7 c7 w6 M6));have ad:Hid (bE a (ids.take (k+1))=bE a (ids.take k)++iD x D (dP D)++ [(2,x,0)]):=by show _=_;rw[sH a HX.out,ag.out]
    have M7:=(show Mem w w6 [aJ w TDd 3 (q7) (l5+1) (c7) ((bE a (ids.take (k+1))).flatMap cI),aJ w TI 1 (some ⟨b,t,none⟩) (ids.length) (c1) (ivs ids),aI w w 30 #[aA,aB,.slice p n g,c,f,aD,aF,aC,aG,.slice q m c2]]from by rw[ad.out];simpa[aTz,aTx]using M6)
    have al:Hid (l5+1=(bE a (ids.take (k+1))).length):=by show _=_;rw[ad.out,aTc,aTc,mI,←y.out,z.out];rfl
    clear M6 M4;go_wp2;go_roundw
    case rel=>exact⟨k+1,q7,l5+1,c7,by omega,by go_num,rfl,al.out,M7⟩
    case measure=>simp[intOf];omega
  obtain rfl:k=ids.length:=by omega
  go_wp2;go_ret;have h1:=HM.ow 0;have h2:=y.out;rw[aUv]at h1 h2;subst h2;exact⟨q4,c4,rfl,h1,HM.ext⟩
theorem aNm (aA aB d f aD aF aC aG:Int)(p:OA)(n g:Nat)(q:OA)(m c2:Nat)(ids:List Int)(a:Int→Int)(w:World)(hl:ids.length≤1000)
  (HO:Hid (∀w',Ext w w'→U 122 #[.agg #[aA,aB,.slice p n g,d,f,aD,aF,aC,aG,.slice q m c2]] w' (bC ids w')))
  (HD:Hid (∀x,x∈ids→ ∀w',Ext w w'→U 93 #[.agg #[aA,aB,.slice p n g,d,f,aD,aF,aC,aG,.slice q m c2],x] w' (O (I (a x)) w')))
  (aj:Hid (∀x,x∈ids→ ∀w',U 123 #[x,(a x:Int)] w' fun e w''=> ∃q c,e= .returned (.slice q (dP (a x)) c)∧w''.ownsRow w' TDd 3 (.slice q (dP (a x)) c) (dP (a x)) ((iD x (a x) (dP (a x))).flatMap cI)∧Ext w' w''))
  (hb:Hid (∀x∈ids,a x≤10000∧ -10000≤a x))(ao:Hid (∀k,(bE a (ids.take k)).length≤k*41)):
  U 89 #[.agg #[aA,aB,.slice p n g,d,f,aD,aF,aC,aG,.slice q m c2]] w (mX (bE a ids) w):=by
 go_enter func89,ntmps89;have MB:=(((Mem.start w).c0 30 #[aA,aB,.slice p n g,d,f,aD,aF,aC,aG,.slice q m c2]).made0 TDd 3 (w.heap.size+1) (by simp))
 go_wp2_with fail;refine(HO _ MB.ext).mono ?_;rintro e w1 ⟨q1,c1,rfl,o1,ae⟩;have M0:=(MB.call ae o1)
 have M1:=(show Mem w w1 [aJ w TDd 3 (some ⟨w.heap.size+1,0,none⟩) (0) (0) ([]),aJ w TI 1 (q1) (ids.length) (c1) (ivs ids),aI w w 30 #[aA,aB,.slice p n g,d,f,aD,aF,aC,aG,.slice q m c2]]from(M0.pick [1,0,2] (by decide) rfl))
 clear MB M0 ae o1;go_wp2;go_loopw [3,5] (fun v i wr=> ∃(k:Nat) (q4:OA) (l c4:Nat),k≤ids.length∧i=I k∧v= .slice q4 l c4∧l=(bE a (ids.take k)).length∧Mem w wr [aJ w TDd 3 (q4) (l) (c4) ((bE a (ids.take k)).flatMap cI),aJ w TI 1 (q1) (ids.length) (c1) (ivs ids),aI w w 30 #[aA,aB,.slice p n g,d,f,aD,aF,aC,aG,.slice q m c2]]) (fun _ i _=>ids.length-(intOf i).toNat)
 case atStart=>exact⟨0,some ⟨w.heap.size+1,0,none⟩,0,0,aTd _,rfl,rfl,rfl,M1⟩
 case round=>
  clear M1;obtain⟨k,q4,l,c4,hk,rfl,rfl,r,hM⟩:=hrel;have HM:=hM;have t:=xQ r;clear hM;have aw:l≤k*41:=by rw[r];exact ao.out k
  clear r;by_cases hlt:k<ids.length
  ·obtain⟨b,af,x,rfl,hx,o,hc⟩:=Sl.int_at (HM.sq 1) hlt;have HX:=xQ hx;have h:=xQ (aT7 hx);have au:=hb.out x h.out;clear hx;have i1:=aVt k;have i2:(k:Int)<(ids.length:Int):=by omega
   have ar:=(HM.bk 2).ten;have ag:=xQ (HD x h.out);have ai:=xQ (aj x h.out);generalize z:a x=D at*;have ah:=xQ z;clear z;have av:dP D≤40:=by unfold dP;omega
   generalize aa:dP D=C at*;have ak:=xQ aa;clear aa;go_wp2
   go_region_law ((first
    |(go_simp;go_at_call 93
      refine Z (ag _ (HM.ext.trans xE)) fun w3 j=>?_
      (try replace j:=j.of_drew);have M3:=(HM.adv j)
      have am:=(j.cells.1 _ _ o).trans hc
      have y:b<w3:=aT4 o j.sz)
    |(go_simp;go_at_call 123
      refine(ai _).mono ?_;rintro e w4 ⟨q5,c5,rfl,o5,s⟩;(try replace s:=s.of_drew)
      have M4:=(M3.call s o5))
    |(refine hU aPs (by rfl) _ _ (by rfl) (M4.adv xE) 1 (by rfl) (by rfl) ((iD x D C).flatMap cI) (by rfl) ((M4.sq 0).ext xE) (uL _) (by omega) ?_
      intro q7 c7 w6 M6)))
   all_goals (
    have ab:Hid (bE a (ids.take (k+1))=bE a (ids.take k)++iD x D C++ [(2,x,0)]):=by show _=_;rw[sH a HX.out,ah.out,ak.out]
    have MA:=(show Mem w w6 [aJ w TDd 3 (q7) (l+C) (c7) ((bE a (ids.take k)).flatMap cI++(iD x D C).flatMap cI),aJ w TI 1 (some ⟨b,af,none⟩) (ids.length) (c1) (ivs ids),aI w w 30 #[aA,aB,.slice p n g,d,f,aD,aF,aC,aG,.slice q m c2]]from(M6.pick [1,2,3] (by decide) rfl))
    obtain⟨b',aq,x',e1,ad,al,an⟩:=Sl.int_at (MA.sq 1) hlt;cases e1
    obtain rfl:x=x':=by have:=HX.out;rw[ad]at this;exact(Option.some.inj this).symm
    clear M6 M4 M3 HM ad hc o;(try clear am y);go_wp2_with (at_builtin;go_loud (refine cJ aPs rfl _ _ rfl (MA.adv ((Ext.refl _).alloc (.cells #[I 2,x,()] TDd))) 0 rfl rfl (cI (2,x,0)) rfl (eD _ _ _ 1 3 _ (by simp[cI]) (by simp[cI]) (by simp[maxLen])) (fun u hu=>uL [(2,x,0)] u (by simpa using hu)) (by omega) ?_;intro q8 c8 w8 M8));have ap:Hid (l+C+1=(bE a (ids.take (k+1))).length):=by show _=_;rw[ab.out,aTc,aTc,mI,←t.out];rfl
    have M9:=(show Mem w w8 [aJ w TDd 3 (q8) (l+C+1) (c8) ((bE a (ids.take (k+1))).flatMap cI),aJ w TI 1 (some ⟨b,af,none⟩) (ids.length) (c1) (ivs ids),aI w w 30 #[aA,aB,.slice p n g,d,f,aD,aF,aC,aG,.slice q m c2]]from by rw[ab.out];simpa[aTz,aTx]using M8)
    clear M8 MA an al;go_wp2;go_roundw
    case rel=>exact⟨k+1,q8,l+C+1,c8,by omega,by go_num,rfl,ap.out,M9⟩
    case measure=>simp[intOf];omega)
  obtain rfl:k=ids.length:=by omega
  go_wp2;go_ret;have h1:=HM.ow 0;have h2:=t.out;rw[aUv]at h1 h2;subst h2;exact⟨q4,c4,rfl,h1,HM.ext⟩
end
section
structure XS (R g:Nat) (t:TypeId) (cs:Array Value) (w w':World):Prop where
 os:w'.os=w.os
 tape:w'.tape=w.tape
 output:w'.output=w.output
 size:w.heap.size≤w'.heap.size
 block: ∀i,i<w.heap.size→i≠R→i≠g→w'.heap[i]? =w.heap[i]?
 put:g<w.heap.size→w'.heap[g]? =w.heap[g]? ∨Blk w' g t cs
theorem XS.refl (R g:Nat)(t:TypeId)(cs:Array Value)(w:World):XS R g t cs w w:=⟨rfl,rfl,rfl,aT5 _,fun i _ _ _=>rfl,fun _=> .inl rfl⟩
theorem XS.blk {R g:Nat}{t:TypeId}{cs:Array Value}{w w':World}(h:XS R g t cs w w')(hb:Blk w g t cs):Blk w' g t cs:=by
 rcases h.put hb.lt with h1|h1
 ·unfold Blk at*;rw[h1];exact hb
 exact h1
theorem XS.trans {R g:Nat}{t:TypeId}{cs:Array Value}{a b c:World}(h:XS R g t cs a b)(k:XS R g t cs b c):XS R g t cs a c:=
 ⟨k.os.trans h.os,k.tape.trans h.tape,k.output.trans h.output,aTg h.size k.size,fun i hi h1 h2=>(k.block i (aT4 hi h.size) h1 h2).trans (h.block i hi h1 h2),fun hg=>by
  rcases h.put hg with h1|h1
  ·rcases k.put (aT4 hg h.size)with k1|k1
   ·exact .inl (k1.trans h1)
   exact .inr k1
  ·exact .inr (k.blk h1)⟩
theorem XS.ofR {R g:Nat}{t:TypeId}{cs:Array Value}{w w':World}(a:g≠R)(h:ExtR R w w'):XS R g t cs w w':=
 ⟨h.os,h.tape,h.output,h.size,fun i hi h1 _=>h.block i hi (fun e=>h1 (by injection e)),fun hg=> .inl (h.block g hg (fun e=>a (by injection e)))⟩
theorem XS.ofE {R g:Nat}{t:TypeId}{cs:Array Value}{w w':World}(h:Ext w w'):XS R g t cs w w':=
 ⟨h.os,h.tape,h.output,h.size,fun i hi _ _=>h.block i hi,fun hg=> .inl (h.block g hg)⟩
theorem XS.other {R g a:Nat}{t t':TypeId}{cs b:Array Value}{w w':World}(h:XS R g t cs w.drew w')(hb:Blk w a t' b)(h1:a≠R)(h2:a≠g):Blk w' a t' b:=by have:=h.block a hb.lt h1 h2;unfold Blk at*;rw[this];exact hb
section
variable {R:Nat} {w0 w w':World} {L:List Item}
end
end
theorem aBe {R B n sz:Nat}{e:TypeId}{w w':World}{v:Value}{xs:List Value}(ho:w.ownsRow B e sz v n xs)(hx:ExtR R w w')(hB:R<B):w'.ownsRow B e sz v n xs:=
 lL ho (fun g hg=>hx.block g (aU0 ho g hg).2 (fun e=>by injection e with e;have:=(aU0 ho g hg).1;omega))
theorem aF8 (l:List UInt8):(⟨l.toArray⟩:ByteArray).size=l.length:=by simp[ByteArray.size]
end Go.Proofs.YthfmmibomhhmpaaGreatDoor
