/-
  Texts of this proof, packed (@packed).
-/
import Derived.Deep.CutBlock
import Derived.Test.YtbgkcehffiogcacGreatDoorQ21
namespace Go.Proofs.YtbgkcehffiogcacGreatDoor
open Go.RowKit
set_option linter.unusedSimpArgs false
set_option linter.unusedVariables false
set_option maxHeartbeats 8000000
set_option maxRecDepth 100000
section
open Go.Proofs.Tryz
theorem aEy {aA aB:Int}{xs:List Int}(h:aO aA aB xs=true):(dY xs).length<xs.length↔(0:Int)∈xs:=by
 unfold aO at h;rw[aRy]at h;have hc:=((fK _ _).1 h.2).1;rw[iX];clear h;induction xs with
 |nil=>simp[dP]
 |cons x xs ih=>
  have hx:=hc x (by simp);have:=ih (fun y hy=>hc y (by simp[hy]));have a:=kG xs;unfold dP at this a⊢;by_cases h0:0<x
  ·rw[aTu (by simpa using h0)];simp only[aSo,aS6];constructor
   ·intro h;exact .inr (this.1 (by omega))
   rintro(h|h)
   ·omega
   have:=this.2 h;omega
  rw[aTv (by simpa using h0)];simp only[aSo,aS6];constructor
  ·intro _;exact .inl (by omega)
  intro _;omega
theorem aK4 (w:World)(x:Int):(w.alloc (.cells #[x] TI)).ownsRow w TI 1 (.slice (some ⟨w,0,none⟩) 1 1) 1 (ivs [x]):=
 ⟨rfl,.inr ⟨w.heap.size,1,_,rfl,aRp _,heap_alloc_new w _,aRp _,by simp[maxLen],rfl,rfl⟩⟩
def cP (base:List Int)(C:List Int):List Int:=base++C.filter (fun x=> !base.contains x)
theorem rC {base C:List Int}{k:Nat}{x:Int}(hx:C[k]? =some x) (h:base.contains x=false):cP base (C.take (k+1))=cP base (C.take k)++ [x]:=by unfold cP;rw[aY hx,aSl];simp[h]at*;simp[h]
theorem tT {base C:List Int}{k:Nat}{x:Int}(hx:C[k]? =some x) (h:base.contains x=true):cP base (C.take (k+1))=cP base (C.take k):=by unfold cP;rw[aY hx,aSl];simp[h]at*;simp[h]
theorem aJy (base C:List Int):(cP base C).length≤base.length+C.length:=by unfold cP;rw[aRx];have:=aSt (fun x=> !base.contains x) C;omega
theorem wU {base C:List Int}{k:Nat}{x:Int}(hn:C.Nodup)(hx:C[k]? =some x):(cP base (C.take k)).contains x=base.contains x:=by
 unfold cP;obtain⟨hk,rfl⟩:=aRt.1 hx;have a:C[k]∉C.take k:=by intro hm;obtain⟨j,hj,e⟩:=aT5 hm;rw[List.getElem_take]at e;rw[aSd]at hj;exact(List.pairwise_iff_getElem.1 hn j k (by omega) hk (by omega)) e
 simp only[List.contains_eq_mem,aSa,aSi];simp[a]
theorem nC {h:aL}(a:aR h=true):dK h=cP (if(0:Int)∈h.cells then []else [h.cells.headD 0]) (dY h.cells):=by
 unfold dK cP;rw[if_pos a];by_cases h0:(0:Int)∈h.cells
 ·rw[if_pos h0,if_pos h0];exact(List.filter_eq_self.2 (by simp)).symm
 rw[if_neg h0,if_neg h0];simp only[aTd,aTa];congr 1;apply List.filter_congr;intro x _;by_cases hx:x=h.cells.headD 0<;>simp[bne,hx,List.contains_eq_mem];rfl
theorem vJ {h:aL}(a:aR h=true):h.vs.map (·.1)=dY h.cells∧(dY h.cells).Nodup:=by have hn:=(dZ a).1;unfold aR at a;simp only[aRy]at a;have:=(jN a.2).1;exact⟨this,by rw[←this];exact hn⟩
theorem mD {h:aL}(a:aR h=true):aO h.aA h.aB h.cells=true:=by unfold aR at a;simp only[aRy]at a;exact a.1.1.1
theorem aHf (aA aB a b aD aF aC aG:Int)(p:OA)(n cap:Nat)(q:OA)(m c2:Nat)(w:World)(HV:xB 31 #[.agg #[aA,aB,.slice p n cap,a,b,aD,aF,aC,aG,.slice q m c2]] w false):
  U 125 #[.agg #[aA,aB,.slice p n cap,a,b,aD,aF,aC,aG,.slice q m c2]] w (bA [] w):=by
 go_enter func125,ntmps125;go_wp2_with fail;refine Z (HV _ (by exact .alloc (.refl _) _)) fun w1 c=>?_
 go_wp2;go_ret;exact dG (xs:= []) rfl (aS4 _ _ _ _) (by exact .trans (.alloc (.refl _) _) c)
theorem aG5 (aA aB a b aD aF aC aG:Int)(p:OA)(n cap:Nat)(q:OA)(m c2:Nat)(w:World)(HV:xB 21 #[.agg #[aA,aB,.slice p n cap,a,b,aD,aF,aC,aG,.slice q m c2]] w false):
  U 110 #[.agg #[aA,aB,.slice p n cap,a,b,aD,aF,aC,aG,.slice q m c2]] w (bA [] w):=by
 go_enter func110,ntmps110;go_wp2_with fail;refine Z (HV _ (by exact .alloc (.alloc (.refl _) _) _)) fun w1 c=>?_
 have ho:((w.alloc (.cells #[aA,aB,.slice p n cap,a,b,aD,aF,aC,aG,.slice q m c2] 35)).alloc (.cells #[] TI)).ownsRow w TI 1 (.slice (some ⟨(w.alloc (.cells #[aA,aB,.slice p n cap,a,b,aD,aF,aC,aG,.slice q m c2] 35)).heap.size,0,none⟩) 0 0) 0 []:=aSw _ #[] 0 (by simp) (by simp[maxLen]) rfl;have d:=xQ (aZ ho c);clear ho;go_wp2;go_ret;exact dG (xs:= []) rfl (by simpa using d.out) (by exact .trans (.alloc (.alloc (.refl _) _) _) c)
theorem aEq (aA aB a b aD aF aC aG:Int)(p:OA)(n cap:Nat)(q:OA)(m c2:Nat)(C:List Int)(w:World)(hn:n≤12)(hl:C.length<n)(HV:xB 31 #[.agg #[aA,aB,.slice p n cap,a,b,aD,aF,aC,aG,.slice q m c2]] w true)
  (HC:Hid (∀w',Ext w w'→U 74 #[aH aA aB p n cap] w' (bA C w'))):
  U 125 #[.agg #[aA,aB,.slice p n cap,a,b,aD,aF,aC,aG,.slice q m c2]] w (bA C w):=by
 go_enter func125,ntmps125;go_wp2_with fail;refine Z (HV _ (by exact .alloc (.refl _) _)) fun w1 c=>?_
 have BA:Blk w1 w 35 #[aA,aB,.slice p n cap,a,b,aD,aF,aC,aG,.slice q m c2]:=(Blk.new w _ _).ext c;have f:=xQ BA;have X1:Ext w w1:=by exact .trans (.alloc (.refl _) _) c
 clear c;obtain⟨a0,a1,a2,a3,a4,a5,a6,a7,a8,a9⟩:=BA.ten;clear BA;go_wp2_with fail;clear a0 a1 a2 a3 a4 a5 a6 a7 a8 a9;refine(HC _ X1).mono ?_;rintro e w2 ⟨pc,cc,rfl,g,d⟩;have h:=xQ (f.out.ext d);have X2:Ext w w2:=X1.trans d;have HO:=xQ g;clear g d f;have b2:=h.out.cl 2;go_wp2;go_ret;exact dG rfl (bJ HO X1.sz) X2
theorem aEp (aA aB g j aD aF aC aG:Int)(p:OA)(n cap:Nat)(q:OA)(m c2:Nat)(C:List Int)(x0:Int)(b0 d:Nat)(w:World)(hn:n≤12)(hp:p=some ⟨b0,d,none⟩)(hl:C.length=n)(al:0<n)(aa:b0<w.heap.size)(o:w.cell? ⟨b0,d,none⟩=some (I x0))(HV:xB 31 #[.agg #[aA,aB,.slice p n cap,g,j,aD,aF,aC,aG,.slice q m c2]] w true)
  (HC:Hid (∀w',Ext w w'→U 74 #[aH aA aB p n cap] w' (bA C w'))):
  U 125 #[.agg #[aA,aB,.slice p n cap,g,j,aD,aF,aC,aG,.slice q m c2]] w (bA (cP [x0] C) w):=by
 subst hp;have aj: ¬C.length<n:=by omega
 have ai:C.length≤12:=by omega
 clear hl;go_enter func125,ntmps125;go_wp2_with fail;refine Z (HV _ (by exact .alloc (.refl _) _)) fun w1 r=>?_
 have BA:Blk w1 w 35 #[aA,aB,.slice (some ⟨b0,d,none⟩) n cap,g,j,aD,aF,aC,aG,.slice q m c2]:=(Blk.new w _ _).ext r;have u:=xQ BA;have X1:Ext w w1:=by exact .trans (.alloc (.refl _) _) r
 clear r;obtain⟨a0,a1,a2,a3,a4,a5,a6,a7,a8,a9⟩:=BA.ten;clear BA;go_wp2_with fail;clear a0 a1 a2 a3 a4 a5 a6 a7 a8 a9;refine(HC _ X1).mono ?_;rintro e w2 ⟨pc,cc,rfl,ad,s⟩;have t:=xQ (u.out.ext s);have X2:Ext w w2:=X1.trans s;have HO:=xQ ad;have z2:(w:Nat)<w2:=t.out.lt;clear ad s u;have b2:=t.out.cl 2;have h0:w2.cell? ⟨b0,d,none⟩=some (I x0):=by rw[X2.cells.1 _ _ aa];exact o
 have ae:=xQ o;clear o;go_wp2;go_loopw [4,29] (fun v i wr=> ∃(k:Nat) (q:OA) (m c:Nat),k≤C.length∧i=I k∧v= .slice q m c∧m≤k+1∧wr.ownsRow w2 TI 1 (.slice q m c) m (ivs (cP [x0] (C.take k)))∧Ext w2 wr) (fun _ i _=>C.length-(intOf i).toNat)
 case atStart=>exact⟨0,_,1,_,aRv _,rfl,rfl,by omega,by simpa[cP]using aK4 w2 x0,by exact .alloc (.refl _) _⟩
 case round=>
  obtain⟨k,q,m1,c,hk,rfl,rfl,ak,l,hE⟩:=hrel;have f:=xQ l;have z:=X2.trans hE;have am:=hE.sz;have ec:wr.cell? ⟨w,2,none⟩=some (.slice (some ⟨b0,d,none⟩) n cap):=(hE.cells.1 _ _ z2).trans b2;have hg:wr.cell? ⟨b0,d,none⟩=some (I x0):=by rw[z.cells.1 _ _ aa];exact ae.out
  clear l;by_cases hlt:k<C.length
  ·obtain⟨b,an,x,rfl,hx,hb,ah⟩:=((Sl.own HO.out).ext hE).int_at hlt;have HX:=xQ hx;clear hx;by_cases hx0:x=x0
   ·have t0:(x !=x0)=false:=by simp[hx0]
    have a:Hid (cP [x0] (C.take (k+1))=cP [x0] (C.take k)):=tT HX (by simp[hx0]);clear hx0;go_wp2;go_roundw
    case rel=>exact⟨k+1,q,m1,c,by omega,by go_num,rfl,by omega,by rw[a.out];exact f.out,hE⟩
    case measure=>simp[intOf];omega
   have t0:(x !=x0)=true:=by simp[hx0]
   have a:Hid (cP [x0] (C.take (k+1))=cP [x0] (C.take k)++ [x]):=rC HX (by simp[hx0]);clear hx0;go_wp2_with (at_builtin;refine cM fQ rfl _ _ rfl w2 _ _ _ rfl (f.out.alloc _) _ _ x _ rfl (by simp) (by omega) (by simp;omega) ?_;intro p' y w3 h ab;have af:=xQ h;have ag:Ext w2 w3:=Ext.own (hE.alloc _) (f.out.alloc _) ab (aRp _);clear h ab);go_roundw
   case rel=>exact⟨k+1,p',m1+1,y,by omega,by go_num,rfl,by omega,by rw[a.out];exact af.out,ag⟩
   case measure=>simp[intOf];omega
  have a:Hid (cP [x0] (C.take k)=cP [x0] C):=by show _=_;rw[aRu (by omega)]
  go_wp2;go_ret;exact dG (by rw[←a.out];have:=f.out.1;simpa using this) (by rw[←a.out];exact bJ f X2.sz) z
theorem aDh (aA aB d f aD aF aC aG:Int)(p:OA)(n cap:Nat)(q:OA)(m c2:Nat)(w:World)(vs:List aP)(F:List Int)(HN:Hid (vs.map (·.1)).Nodup)(hm:m≤12)(HS:Hid (Sl w q m c2 4 (vs.flatMap aE)))(hl:Hid (vs.length=m))(hF:F.length≠0)(HV:xB 21 #[.agg #[aA,aB,.slice p n cap,d,f,aD,aF,aC,aG,.slice q m c2]] w true)
  (HF:Hid (∀w',Ext w w'→U 144 #[aH aA aB p n cap] w' (bA F w'))):
  U 110 #[.agg #[aA,aB,.slice p n cap,d,f,aD,aF,aC,aG,.slice q m c2]] w (bA (cP [] (vs.map (·.1))) w):=by
 go_enter func110,ntmps110;go_wp2_with fail;refine Z (HV _ (by exact .alloc (.alloc (.refl _) _) _)) fun w1 l=>?_
 have ho:((w.alloc (.cells #[aA,aB,.slice p n cap,d,f,aD,aF,aC,aG,.slice q m c2] 35)).alloc (.cells #[] TI)).ownsRow (w.heap.size+1) TI 1 (.slice (some ⟨w.heap.size+1,0,none⟩) 0 0) 0 []:=by simpa using aSw (w.alloc (.cells #[aA,aB,.slice p n cap,d,f,aD,aF,aC,aG,.slice q m c2] 35)) (e:=TI) (base:=w.heap.size+1) #[] 0 (by simp) (by simp[maxLen]) rfl
 have x:=xQ (aZ ho l);clear ho;have BA:Blk w1 w 35 #[aA,aB,.slice p n cap,d,f,aD,aF,aC,aG,.slice q m c2]:=((Blk.new w _ _).alloc _).ext l;have u:=xQ BA;have X1:Ext w w1:=by exact .trans (.alloc (.alloc (.refl _) _) _) l
 clear l;obtain⟨a0,a1,a2,a3,a4,a5,a6,a7,a8,a9⟩:=BA.ten;clear BA;go_wp2_with fail;clear a0 a1 a2 a3 a4 a5 a6 a7 a8 a9;refine(HF _ X1).mono ?_;rintro e w2 ⟨pf,cf,rfl,_,o⟩;have t:=xQ (u.out.ext o);have ae:=xQ (aZ x o);have X2:Ext w w2:=X1.trans o;have z2:(w:Nat)<w2:=t.out.lt;clear o u x;have tF:((F.length:Int)==0)=false:=by simp[hF]
 have z:=t.out.cl 9;have ah:=z2;clear hF;go_wp2;go_loopw [3,4] (fun v i wr=> ∃(k:Nat) (qq:OA) (m1 c:Nat),k≤m∧i=I k∧v= .slice qq m1 c∧m1≤k+1∧wr.ownsRow (w.heap.size+1) TI 1 (.slice qq m1 c) m1 (ivs (cP [] ((vs.map (·.1)).take k)))∧Ext w wr∧wr.cell? ⟨w,9,none⟩=some (.slice q m c2)∧w.heap.size<wr.heap.size) (fun _ i _=>m-(intOf i).toNat)
 case atStart=>exact⟨0,_,_,_,aRv _,rfl,rfl,by omega,by simpa[cP]using ae.out,X2,z,ah⟩
 case round=>
  obtain⟨k,qq,m1,c,hk,rfl,rfl,ai,r,hE,aa,s⟩:=hrel;have g:=xQ r;clear r z;by_cases hlt:k<m
  ·obtain⟨b,aj,a0,a1,a2,a3,rfl,hv,hb,g0,g1,g2,g3⟩:=eH (HS.out.ext hE) hlt;have hx:Hid ((vs.map (·.1))[k]? =some a0):=by show _=_;rw[aS9,hv];rfl
   have i1:(0:Int)≤(k:Int):=by omega
   have i2:(k:Int)<(m:Int):=by omega
   clear hv;have HH:xC 99 #[.slice qq m1 c,a0] wr fun w' e w''=>e= .returned (.bool (([]:List Int).contains a0))∧w'=w'':=fun w' hx'=>by have:=qL qq m1 c _ a0 w' ((Sl.own g.out).ext hx');rwa[wU HN hx.out]at this
   cases hs:([]:List Int).contains a0 with
   |true=>
    rw[hs]at HH;have a:Hid (cP [] ((vs.map (·.1)).take (k+1))=cP [] ((vs.map (·.1)).take k)):=tT hx.out hs;clear hs;go_wp2_with fail;refine(HH _ (by exact .refl _)).mono ?_;rintro e w4 ⟨rfl,rfl⟩;go_wp2;go_roundw
    case rel=>exact⟨k+1,qq,m1,c,by omega,by go_num,rfl,by omega,by rw[a.out];exact g.out,hE,aa,s⟩
    case measure=>simp[intOf];omega
   |false=>
    rw[hs]at HH;have a:Hid (cP [] ((vs.map (·.1)).take (k+1))=cP [] ((vs.map (·.1)).take k)++ [a0]):=rC hx.out hs;clear hs;go_wp2_with fail;refine(HH _ (by exact .refl _)).mono ?_;rintro e w4 ⟨rfl,rfl⟩;go_wp2_with (at_builtin;refine cM fQ rfl _ _ rfl (w.heap.size+1) _ _ _ rfl (g.out.alloc _) _ _ a0 _ rfl (by simp) (by omega) (by simp;omega) ?_;intro p' y w5 h j;have ad:=xQ h;have ag:Ext w w5:=Ext.own (hE.alloc _) (g.out.alloc _) j (by omega);have af:=sH g j s aa;have ab:(w:Nat)<w5:=aRo s (by have:=j.size;simp at this;omega);clear h j);go_roundw
    case rel=>exact⟨k+1,p',m1+1,y,by omega,by go_num,rfl,by omega,by rw[a.out];exact ad.out,ag,af,ab⟩
    case measure=>simp[intOf];omega
  have a:Hid (cP [] ((vs.map (·.1)).take k)=cP [] (vs.map (·.1))):=by show _=_;rw[aRu (by rw[aSg,hl.out];omega)]
  go_wp2;go_ret;exact dG (by rw[←a.out];have:=g.out.1;simpa using this) (by rw[←a.out];exact bJ g (Nat.le_succ _)) hE
theorem aDg (aA aB h j aD aF aC aG:Int)(p:OA)(n cap:Nat)(q:OA)(m c2:Nat)(w:World)(vs:List aP)(F:List Int)(HN:Hid (vs.map (·.1)).Nodup)(hm:m≤12)(HS:Hid (Sl w q m c2 4 (vs.flatMap aE)))(hl:Hid (vs.length=m))(hF:F.length=0)(x0:Int)(b0 f:Nat)(hp:p=some ⟨b0,f,none⟩)(ap:0<n)(al:b0<w.heap.size)(ae:w.cell? ⟨b0,f,none⟩=some (I x0))(HV:xB 21 #[.agg #[aA,aB,.slice p n cap,h,j,aD,aF,aC,aG,.slice q m c2]] w true)
  (HF:Hid (∀w',Ext w w'→U 144 #[aH aA aB p n cap] w' (bA F w'))):
  U 110 #[.agg #[aA,aB,.slice p n cap,h,j,aD,aF,aC,aG,.slice q m c2]] w (bA (cP [x0] (vs.map (·.1))) w):=by
 subst hp;go_enter func110,ntmps110;go_wp2_with fail;refine Z (HV _ (by exact .alloc (.alloc (.refl _) _) _)) fun w1 o=>?_
 have ho:((w.alloc (.cells #[aA,aB,.slice (some ⟨b0,f,none⟩) n cap,h,j,aD,aF,aC,aG,.slice q m c2] 35)).alloc (.cells #[] TI)).ownsRow (w.heap.size+1) TI 1 (.slice (some ⟨w.heap.size+1,0,none⟩) 0 0) 0 []:=by simpa using aSw (w.alloc (.cells #[aA,aB,.slice (some ⟨b0,f,none⟩) n cap,h,j,aD,aF,aC,aG,.slice q m c2] 35)) (e:=TI) (base:=w.heap.size+1) #[] 0 (by simp) (by simp[maxLen]) rfl
 have z:=xQ (aZ ho o);clear ho;have BA:Blk w1 w 35 #[aA,aB,.slice (some ⟨b0,f,none⟩) n cap,h,j,aD,aF,aC,aG,.slice q m c2]:=((Blk.new w _ _).alloc _).ext o;have y:=xQ BA;have X1:Ext w w1:=by exact .trans (.alloc (.alloc (.refl _) _) _) o
 clear o;obtain⟨a0,a1,a2,a3,a4,a5,a6,a7,a8,a9⟩:=BA.ten;clear BA;go_wp2_with fail;clear a0 a1 a2 a3 a4 a5 a6 a7 a8 a9;refine(HF _ X1).mono ?_;rintro e w2 ⟨pf,cf,rfl,_,r⟩;have t:=xQ (y.out.ext r);have u:=xQ (aZ z r);have X2:Ext w w2:=X1.trans r;have z2:(w:Nat)<w2:=t.out.lt;clear r y z;have h0:w2.cell? ⟨b0,f,none⟩=some (I x0):=by rw[X2.cells.1 _ _ al];exact ae
 have tF:((F.length:Int)==0)=true:=by simp[hF]
 have c9:Hid (w2.cell? ⟨w,9,none⟩=some (.slice q m c2)):=t.out.cell 9;clear ae hF;have b2:=t.out.cl 2;go_wp2_with (at_builtin;refine cM fQ rfl _ _ rfl (w.heap.size+1) _ 0 [] rfl (u.out.alloc _) _ _ x0 _ rfl (by simp) (by omega) (by simp;omega) ?_;intro p3 an w3 a g;have ah:=xQ a;have aj:Ext w w3:=Ext.own (X2.alloc _) (u.out.alloc _) g (by omega);have ab:=sH u g z2 c9.out;have am:(w:Nat)<w3:=aRo z2 (by have:=g.size;simp at this;omega);clear a g);go_loopw [3,4] (fun v i wr=> ∃(k:Nat) (qq:OA) (m1 c:Nat),k≤m∧i=I k∧v= .slice qq m1 c∧m1≤k+1∧wr.ownsRow (w.heap.size+1) TI 1 (.slice qq m1 c) m1 (ivs (cP [x0] ((vs.map (·.1)).take k)))∧Ext w wr∧wr.cell? ⟨w,9,none⟩=some (.slice q m c2)∧w.heap.size<wr.heap.size) (fun _ i _=>m-(intOf i).toNat)
 case atStart=>exact⟨0,_,_,_,aRv _,rfl,rfl,by omega,by simpa[cP]using ah.out,aj,ab,am⟩
 case round=>
  obtain⟨k,qq,m1,c,hk,rfl,rfl,ao,s,hE,ad,x⟩:=hrel;have l:=xQ s;clear s ab;by_cases hlt:k<m
  ·obtain⟨b,aq,a0,a1,a2,a3,rfl,hv,hb,g0,g1,g2,g3⟩:=eH (HS.out.ext hE) hlt;have hx:Hid ((vs.map (·.1))[k]? =some a0):=by show _=_;rw[aS9,hv];rfl
   have i1:(0:Int)≤(k:Int):=by omega
   have i2:(k:Int)<(m:Int):=by omega
   clear hv;have HH:xC 99 #[.slice qq m1 c,a0] wr fun w' e w''=>e= .returned (.bool (([x0]:List Int).contains a0))∧w'=w'':=fun w' hx'=>by have:=qL qq m1 c _ a0 w' ((Sl.own l.out).ext hx');rwa[wU HN hx.out]at this
   cases hs:([x0]:List Int).contains a0 with
   |true=>
    rw[hs]at HH;have d:Hid (cP [x0] ((vs.map (·.1)).take (k+1))=cP [x0] ((vs.map (·.1)).take k)):=tT hx.out hs;clear hs;go_wp2_with fail;refine(HH _ (by exact .refl _)).mono ?_;rintro e w4 ⟨rfl,rfl⟩;go_wp2;go_roundw
    case rel=>exact⟨k+1,qq,m1,c,by omega,by go_num,rfl,by omega,by rw[d.out];exact l.out,hE,ad,x⟩
    case measure=>simp[intOf];omega
   |false=>
    rw[hs]at HH;have d:Hid (cP [x0] ((vs.map (·.1)).take (k+1))=cP [x0] ((vs.map (·.1)).take k)++ [a0]):=rC hx.out hs;clear hs;go_wp2_with fail;refine(HH _ (by exact .refl _)).mono ?_;rintro e w4 ⟨rfl,rfl⟩;go_wp2_with (at_builtin;refine cM fQ rfl _ _ rfl (w.heap.size+1) _ _ _ rfl (l.out.alloc _) _ _ a0 _ rfl (by simp) (by omega) (by simp;omega) ?_;intro p' aa w5 a g;have ag:=xQ a;have ak:Ext w w5:=Ext.own (hE.alloc _) (l.out.alloc _) g (by omega);have ai:=sH l g x ad;have af:(w:Nat)<w5:=aRo x (by have:=g.size;simp at this;omega);clear a g);go_roundw
    case rel=>exact⟨k+1,p',m1+1,aa,by omega,by go_num,rfl,by omega,by rw[d.out];exact ag.out,ak,ai,af⟩
    case measure=>simp[intOf];omega
  have d:Hid (cP [x0] ((vs.map (·.1)).take k)=cP [x0] (vs.map (·.1))):=by show _=_;rw[aRu (by rw[aSg,hl.out];omega)]
  go_wp2;go_ret;exact dG (by rw[←d.out];have:=l.out.1;simpa using this) (by rw[←d.out];exact bJ l (Nat.le_succ _)) hE
theorem aCb (h:aL)(p:OA)(n cap:Nat)(q:OA)(m c2:Nat)(w:World)(hi:IsHouse w h p n cap q m c2):
  U 125 #[bM h p n cap q m c2] w (bA (dK h) w):=by
 have HV:=fun(w':World) (hx:Ext w w')=>iF h p n cap q m c2 w' (hi.ext hx)
 have l:=hi.clen;cases hok:aR h with
 |false=>
  rw[hok]at HV;have e:dK h= []:=by unfold dK;rw[hok];rfl
  rw[e];exact aHf h.aA h.aB h.free h.step h.aD h.aF h.aC h.aG p n cap q m c2 w HV
 |true=>
  rw[hok]at HV;have hh:=mD hok;have c:n≤12∧4≤n:=by have h1:=hh;unfold aO at h1;rw[aRy]at h1;have:=cE h1.1;omega
  obtain⟨c,r⟩:=c;have HC:=fun(w':World) (hx:Ext w w')=>by have:=aNg h.aA h.aB p n cap h.cells w' (hi.cells.ext hx);rw[hh,if_pos rfl]at this;exact this
  rw[nC hok];by_cases h0:(0:Int)∈h.cells
  ·rw[if_pos h0];have f:=(aEy (mD hok)).2 h0;have e:cP [] (dY h.cells)=dY h.cells:=by simp[cP]
   rw[e];rw[l]at f;exact aEq h.aA h.aB h.free h.step h.aD h.aF h.aC h.aG p n cap q m c2 (dY h.cells) w c f HV HC
  rw[if_neg h0];obtain⟨b0,g,x0,hp,d,i,j⟩:=hi.cells.int_at (k:=0) (by omega)
  have o:h.cells.headD 0=x0:=by cases hc:h.cells with
   |nil=>rw[hc]at d;simp at d
   |cons a b=>rw[hc]at d;simpa using d
  rw[o];exact aEp h.aA h.aB h.free h.step h.aD h.aF h.aC h.aG p n cap q m c2 (dY h.cells) x0 b0 g w c hp (by have:=mt (aEy (mD hok)).1 h0;have h2:=kG h.cells;rw[iX]at this⊢;omega) (by omega) i j HV HC
theorem aBe (h:aL)(p:OA)(n cap:Nat)(q:OA)(m c2:Nat)(w:World)(hi:IsHouse w h p n cap q m c2):
  U 110 #[bM h p n cap q m c2] w (bA (dK h) w):=by
 have HV:=fun(w':World) (hx:Ext w w')=>iE h p n cap q m c2 w' (hi.ext hx)
 have c:=hi.vlen;have o:=hi.clen;cases hok:aR h with
 |false=>
  rw[hok]at HV;have e:dK h= []:=by unfold dK;rw[hok];rfl
  rw[e];exact aG5 h.aA h.aB h.free h.step h.aD h.aF h.aC h.aG p n cap q m c2 w HV
 |true=>
  rw[hok]at HV;have hh:=mD hok;have f:n≤12∧4≤n:=by have h1:=hh;unfold aO at h1;rw[aRy]at h1;have:=cE h1.1;omega
  obtain⟨f,r⟩:=f;have HF:=fun(w':World) (hx:Ext w w')=>by have:=aG1 h.aA h.aB p n cap h.cells w' (hi.cells.ext hx);rw[hh,if_pos rfl]at this;exact this
  rw[nC hok];by_cases h0:(0:Int)∈h.cells
  ·rw[if_pos h0];have hf:(mS h.cells).length≠0:=fun e=>(aAk _).1 (aSb e) h0
   rw[←(vJ hok).1];exact aDh h.aA h.aB h.free h.step h.aD h.aF h.aC h.aG p n cap q m c2 w h.vs (mS h.cells) (dZ hok).1 (by rw[←c];exact(dZ hok).2.1) hi.vs c hf HV HF
  rw[if_neg h0];obtain⟨b0,g,x0,hp,d,i,j⟩:=hi.cells.int_at (k:=0) (by omega)
  have l:h.cells.headD 0=x0:=by cases hc:h.cells with
   |nil=>rw[hc]at d;simp at d
   |cons a b=>rw[hc]at d;simpa using d
  rw[l];rw[←(vJ hok).1];exact aDg h.aA h.aB h.free h.step h.aD h.aF h.aC h.aG p n cap q m c2 w h.vs (mS h.cells) (dZ hok).1 (by rw[←c];exact(dZ hok).2.1) hi.vs c (by rw[(aAk _).2 h0];rfl) x0 b0 g hp (by omega) i j HV HF
end
abbrev TDd:TypeId:=53
abbrev Dd3:=Int×Int×Int
def cF (d:Dd3):List Value:= [.int .i64 d.1,.int .i64 d.2.1,.int .i64 d.2.2]
def eB (a:Int):Nat:=((a+299)/300).toNat
def qH (id a:Int)(i:Nat):Dd3:=(1,id,min (a-300*(i:Int)) 300)
def jZ (id a:Int)(k:Nat):List Dd3:=(List.range k).map (qH id a)
def bZ (due:Int→Int)(ids:List Int):List Dd3:=ids.flatMap (fun id=>jZ id (due id) (eB (due id))++ [(2,id,0)])
theorem lW (a:Int)(k:Nat):k<eB a↔0<a-300*(k:Int):=by unfold eB;omega
theorem wZ (id a:Int)(k:Nat):jZ id a (k+1)=jZ id a k++ [qH id a k]:=by unfold jZ;rw[aTc,aSq];rfl
theorem aGk (id a:Int):jZ id a 0= []:=rfl
theorem lL (id a:Int)(k:Nat):(jZ id a k).length=k:=by unfold jZ;simp
theorem qY (a:Int→Int){b:List Int}{k:Nat}{x:Int}(hx:b[k]? =some x):bZ a (b.take (k+1))=bZ a (b.take k)++jZ x (a x) (eB (a x))++ [(2,x,0)]:=by unfold bZ;rw[aY hx,aSk];simp
theorem aCo (a:Int→Int)(ids:List Int)(M:Nat)(h: ∀x∈ids,eB (a x)≤M):(bZ a ids).length≤ids.length*(M+1):=by
 unfold bZ;induction ids with
 |nil=>simp
 |cons x xs ih=>have h1:=h x (by simp);have h2:=ih (fun y hy=>h y (by simp[hy]));rw[aSn,aRx,aRx,lL];simp only[aSo,List.length_nil];rw[Nat.add_mul xs.length 1,Nat.one_mul];omega
theorem aIq {w:World}{q:OA}{m c2:Nat}{ds:List Dd3}(h:Sl w q m c2 3 (ds.flatMap cF)){k:Nat}(hk:k<m):
  ∃b off a0 a1 a2,q=some ⟨b,off,none⟩∧ds[k]? =some (a0,a1,a2)∧b<w.heap.size∧w.cell? ⟨b,off+k*3,none⟩=some (I a0)∧w.cell? ⟨b,off+k*3+1,none⟩=some (I a1)∧w.cell? ⟨b,off+k*3+2,none⟩=some (I a2):=by
 obtain⟨b,off,x,hp,hx,hb,hc⟩:=Sl.at_ (sz:=3) (f:=cF) (fun _=>rfl) h hk (by omega);obtain⟨a0,a1,a2⟩:=x;exact⟨b,off,a0,a1,a2,hp,hx,hb,hc 0 (by omega),hc 1 (by omega),hc 2 (by omega)⟩
def mI (ds:List Dd3)(w:World)(e:Ending)(w':World):Prop:=
 ∃p cap,e= .returned (.slice p ds.length cap)∧w'.ownsRow w.heap.size TDd 3 (.slice p ds.length cap) ds.length (ds.flatMap cF)∧Ext w w'
section
open Go.Proofs.Tryz
theorem Mem.own2blk {w0 w w':World}{L:List Item}{e1 e2 t:TypeId}{s1 s2 n1 n2 c1 c2 g:Nat}{q1 q2:OA}{d a:List Value}{cs:Array Value}(h:Mem w0 w L)(hx:Ext w w')(hb:Blk w' g t cs)(hg:w.heap.size≤g)(h1:w'.ownsRow w e1 s1 (.slice q1 n1 c1) n1 d)(h2:w'.ownsRow w e2 s2 (.slice q2 n2 c2) n2 a)(ht:e1≠e2)(t1:e1≠t)(t2:e2≠t):
  Mem w0 w' (aI w0 e1 s1 q1 n1 c1 d::aI w0 e2 s2 q2 n2 c2 a::aJ w0 g t cs::L):=by
 have b: ∀ {e:TypeId} {s n c:Nat} {q:OA} {xs:List Value},w'.ownsRow w e s (.slice q n c) n xs→e≠t→(Value.slice q n c).ownBlock≠Option.some g:=by
  intro e s n c q xs ho f he;rcases ho.2 with⟨b1,_⟩|⟨g1,cap1,cur1,b1,_,b3,_⟩
  ·rw[b1]at he;cases he
  rw[b1]at he;injection he with he;have x1:g1=g:=he;subst x1;unfold Blk at hb;rw[hb]at b3;injection b3 with b3;injection b3 with _ b3;exact f b3.symm
 have H:=h.own2 hx h1 h2 (aRp _) ht;have p1:=List.pairwise_cons.1 H.apart;have p2:=List.pairwise_cons.1 p1.2;have HB:=h.blkOf hx hb hg
 have H2:Mem w0 w' (aI w0 e2 s2 q2 n2 c2 a::aJ w0 g t cs::L):=HB.cons (jE _ _ _ _ _ _ _) (dW h2 h.ext.sz) (fun g' hg' j hj e=>by
  rcases aS6.1 hj with rfl|hj
  ·obtain rfl:g=g':=e;exact b h2 t2 hg'
  ·exact p2.1 j hj g' hg' e)
 exact H2.cons (jE _ _ _ _ _ _ _) (dW h1 h.ext.sz) (fun g' hg' j hj e=>by
  rcases aS6.1 hj with rfl|hj
  ·exact p1.1 _ (by simp) g' hg' e
  ·rcases aS6.1 hj with rfl|hj
   ·obtain rfl:g=g':=e;exact b h1 t1 hg'
   ·exact p1.1 j (by simp[hj]) g' hg' e)
def hZ:aL:=⟨0,0,[],0,0,0,0,0,0,[]⟩
def doR (h:aL)(k a b:Int):aL×Int×Bool:=
 if aR h=true then(match cO h k a b with
  |none=>(h,-1,false)
  |some (h',n)=>(h',n,true))else(hZ,-1,false)
theorem aQ2 (h:aL)(k a b:Int):(doR h k a b).1.cells.length≤1000∧(doR h k a b).1.vs.length≤1000:=by
 unfold doR;by_cases hok:aR h=true
 ·rw[if_pos hok];cases hd:cO h k a b with
  |none=>have:=dE hok;dsimp only;omega
  |some r=>obtain⟨h',n⟩:=r;have:=dE (rH hok hd).1;dsimp only;omega
 rw[if_neg hok];simp[hZ]
def aLf (B:Nat)(r:aL×Int×Bool)(w':World)(e:Ending)(w'':World):Prop:=
 ∃pa ca qa da,e= .returned (.tuple #[bM r.1 pa r.1.cells.length ca qa r.1.vs.length da,r.2.1,.bool r.2.2])∧w''.ownsRow B TI 1 (.slice pa r.1.cells.length ca) r.1.cells.length (ivs r.1.cells)∧w''.ownsRow B TV 4 (.slice qa r.1.vs.length da) r.1.vs.length (r.1.vs.flatMap aE)∧Ext w' w''
theorem vY {h:aL}{k a b:Int}{w w':World}{e:Ending}{B:Nat}(hB:B≤w.heap.size)(c:aR h=true)(hr:aIy h (cO h k a b) w e w'):aLf B (doR h k a b) w e w':=by
 unfold doR;rw[if_pos c];unfold aIy at hr;cases hd:cO h k a b with
 |none=>rw[hd]at hr;obtain⟨pa,ca,qa,da,rfl,o1,o2,hx⟩:=hr;exact⟨pa,ca,qa,da,rfl,dW o1 hB,dW o2 hB,hx⟩
 |some r=>obtain⟨h',n⟩:=r;rw[hd]at hr;obtain⟨pa,ca,qa,da,rfl,o1,o2,hx⟩:=hr;exact⟨pa,ca,qa,da,rfl,dW o1 hB,dW o2 hB,hx⟩
theorem aIu {h:aL}{k a b:Int}{w w':World}{e:Ending}{B:Nat}(c: ¬aR h=true)(hr:e= .returned (.tuple #[.agg #[(),(),((),()),(),(),(),(),(),(),((),())],(-1:Int),.bool false])∧Ext w w'):aLf B (doR h k a b) w e w':=by unfold doR;rw[if_neg c];obtain⟨rfl,hx⟩:=hr;exact⟨none,0,none,0,rfl,aS4 _ _ _ _,aS4 _ _ _ _,hx⟩
abbrev TB:TypeId:=4
def bcs (bs:List Bool):List Value:=bs.map .bool
theorem aQ6 (bs:List Bool):(bcs bs).length=bs.length:=by simp[bcs]
theorem aFd (bs:List Bool)(b:Bool):bcs (bs++ [b])=bcs bs++ [.bool b]:=by simp[bcs]
theorem elB:ElT prog 92 TB 1:=
 ⟨underlying92,by
  obtain⟨i,hi,h0,h1,h2⟩:=info_parts (show(prog.info? TB).map (fun i=>(i.zero,i.size,i.bytes))=some (some (.bool false),1,1) by kernel_rfl)
  exact⟨i,_,hi,h0,h1,by omega,rfl⟩,by omega⟩
def xG (h:aL)(d:Dd3):aL:=(doR h d.1 d.2.1 d.2.2).1
def rZ (h:aL)(ds:List Dd3):aL:=ds.foldl xG h
def fO:aL→List Dd3→List Bool
 |_,[]=> []
 |h,d::ds=>(doR h d.1 d.2.1 d.2.2).2.2::fO (xG h d) ds
theorem aA1 (h:aL)(l:List Dd3)(d:Dd3):rZ h (l++ [d])=(doR (rZ h l) d.1 d.2.1 d.2.2).1:=by simp[rZ,xG]
theorem yG: ∀(l:List Dd3) (h:aL) (d:Dd3),fO h (l++ [d])=fO h l++ [(doR (rZ h l) d.1 d.2.1 d.2.2).2.2]:=by
 intro l;induction l with
 |nil=>intro h d;rfl
 |cons x l ih=>intro h d;show _::fO (xG h x) (l++ [d])=_;rw[ih];rfl
theorem uH: ∀(l:List Dd3) (h:aL),(fO h l).length=l.length:=by
 intro l;induction l with
 |nil=>intro h;rfl
 |cons x l ih=>intro h;show(fO (xG h x) l).length+1=_;rw[ih];rfl
theorem aMv {h:aL}(a:aR h=true)(d:Dd3):aR (xG h d)=true:=by
 unfold xG doR;rw[if_pos a];cases hd:cO h d.1 d.2.1 d.2.2 with
 |none=>exact a
 |some r=>obtain⟨h',n⟩:=r;exact(rH a hd).1
theorem aBo: ∀(l:List Dd3) {h:aL},aR h=true→aR (rZ h l)=true:=by
 intro l;induction l with
 |nil=>intro h a;exact a
 |cons x l ih=>intro h a;exact ih (aMv a x)
def tS (h:aL)(ds:List Dd3):aL×List Bool:=if aR h=true then(rZ h ds,fO h ds)else(hZ,[])
def oL (B:Nat)(r:aL×List Bool)(w':World)(e:Ending)(w'':World):Prop:=
 ∃pa ca qa da ps cs,e= .returned (.tuple #[bM r.1 pa r.1.cells.length ca qa r.1.vs.length da,.slice ps r.2.length cs])∧w''.ownsRow B TI 1 (.slice pa r.1.cells.length ca) r.1.cells.length (ivs r.1.cells)∧w''.ownsRow B TV 4 (.slice qa r.1.vs.length da) r.1.vs.length (r.1.vs.flatMap aE)∧w''.ownsRow B TB 1 (.slice ps r.2.length cs) r.2.length (bcs r.2)∧Ext w' w''
theorem aMl (h:aL)(ds:List Dd3):(tS h ds).1.cells.length≤1000∧(tS h ds).1.vs.length≤1000∧(tS h ds).2.length≤ds.length:=by
 unfold tS;by_cases hok:aR h=true
 ·rw[if_pos hok];have:=dE (aBo ds hok);dsimp only;rw[uH];omega
 rw[if_neg hok];simp[hZ]
theorem aI8 {B:Nat}{h g:aL}{ds:List Dd3}{lm:Nat}{pa qa ps:OA}{ca da cs:Nat}{w' a:World}(hg:g=rZ h ds)(hl:ds.length=lm)(o1:a.ownsRow B TI 1 (.slice pa g.cells ca) g.cells.length (ivs g.cells))(o2:a.ownsRow B TV 4 (.slice qa g.vs da) g.vs.length (g.vs.flatMap aE))(o3:a.ownsRow B TB 1 (.slice ps lm cs) lm (bcs (fO h ds)))(hx:Ext w' a):
  oL B (rZ h ds,fO h ds) w' (.returned (.tuple #[bM g pa g.cells.length ca qa g.vs.length da,.slice ps lm cs])) a:=by
 subst hg;have hd:(fO h ds).length=lm:=by rw[uH,hl]
 subst hd;exact⟨pa,ca,qa,da,ps,cs,rfl,o1,o2,o3,hx⟩
theorem aQ1 {l:List Value}{k n:Nat}(hl:l.length=k)(hk:k<n):(l++List.replicate (n-k) (Value.bool false))[k]? =some (Value.bool false):=by rw[aS3 (by omega),hl,aT0];simp[aTe];omega
theorem aOa {l:List Value}{k n:Nat}{b:Value}(hl:l.length=k)(hk:k<n):(l++List.replicate (n-k) (Value.bool false)).set k b=(l++ [b])++List.replicate (n-(k+1)) (Value.bool false):=by
 obtain⟨j,rfl⟩: ∃j,n=k+1+j:=⟨n-(k+1),by omega⟩
 rw[show k+1+j-k=j+1 by omega,show k+1+j-(k+1)=j by omega,List.set_append,if_neg (by omega),hl,aT0,aT9];simp
theorem aP4 (h:aL)(p:OA)(cap:Nat)(q:OA)(c2:Nat)(lq:OA)(lm lc:Nat)(ds:List Dd3)(w:World)
  (a:xC 21 #[.agg #[h.aA,h.aB,.slice p h.cells cap,h.free,h.step,h.aD,h.aF,h.aC,h.aG,.slice q h.vs c2]] w fun w' e w''=>e= .returned (Value.bool false)∧Ext w' w''):
  U 63 #[.agg #[h.aA,h.aB,.slice p h.cells cap,h.free,h.step,h.aD,h.aF,h.aC,h.aG,.slice q h.vs c2],.slice lq lm lc] w (oL w (hZ,[]) w):=by
 go_enter func63,ntmps63;go_wp2_with fail;refine Z (a _ ((((Mem.start w).c0 aK #[h.aA,h.aB,.slice p h.cells cap,h.free,h.step,h.aD,h.aF,h.aC,h.aG,.slice q h.vs c2]).c1 aK zT).made0 TB 1 (w.heap.size+1+1) (by simp)).ext) fun w1 c=>?_
 have M1:=(((((Mem.start w).c0 aK #[h.aA,h.aB,.slice p h.cells cap,h.free,h.step,h.aD,h.aF,h.aC,h.aG,.slice q h.vs c2]).c1 aK zT).made0 TB 1 (w.heap.size+1+1) (by simp)).adv c)
 clear c a;obtain⟨f0,d,f1,f,f2,g,f3,j,f4,k,f5,l,f6,m,f7,n,f8,o,f9,r⟩:=(M1.bk 1).tenf;go_wp2;clear f0 d f1 f f2 g f3 j f4 k f5 l f6 m f7 n f8 o f9 r;have M2:=(M1.put10 (i:=1) rfl (I 0) (I 0) (.slice none 0 0) (I 0) (I 0) (I 0) (I 0) (I 0) (I 0) (.slice none 0 0))
 generalize b:World.setCell _ _ _=wz;rw[b]at M2;clear b M1;obtain⟨y0,y1,y2,y3,y4,y5,y6,y7,y8,y9⟩:=(M2.bk 1).ten;exact bodyPost_ret (v:= .tuple #[.agg #[(),(),((),()),(),(),(),(),(),(),((),())],.slice (some ⟨w.heap.size+1+1,0,none⟩) 0 0]) (by simp[results,results63,go_sem, *]) rfl (show oL w (hZ,[]) w _ _ from⟨none,0,none,0,_,0,rfl,aS4 _ _ _ _,aS4 _ _ _ _,(M2.ow 0),M2.ext⟩)
theorem aR7 (h:aL)(p:OA)(cap:Nat)(q:OA)(c2:Nat)(lq:OA)(lm lc:Nat)(ds:List Dd3)(w:World)(hb:lm≤1048576)(t:Hid (ds.length=lm))(a9:Hid (aR h=true))(HS:Hid (Sl w lq lm lc 3 (ds.flatMap cF)))
  (aa:xB 21 #[.agg #[h.aA,h.aB,.slice p h.cells cap,h.free,h.step,h.aD,h.aF,h.aC,h.aG,.slice q h.vs c2]] w true)
  (HL:xC 26 #[.agg #[h.aA,h.aB,.slice p h.cells cap,h.free,h.step,h.aD,h.aF,h.aC,h.aG,.slice q h.vs c2]] w fun w' e w''=> ∃p' cap' q' c2',e= .returned (.agg #[h.aA,h.aB,.slice p' h.cells cap',h.free,h.step,h.aD,h.aF,h.aC,h.aG,.slice q' h.vs c2'])∧w''.ownsRow w' TI 1 (.slice p' h.cells cap') h.cells.length (ivs h.cells)∧w''.ownsRow w' TV 4 (.slice q' h.vs c2') h.vs.length (h.vs.flatMap aE)∧Ext w' w''):
  U 63 #[.agg #[h.aA,h.aB,.slice p h.cells cap,h.free,h.step,h.aD,h.aF,h.aC,h.aG,.slice q h.vs c2],.slice lq lm lc] w (oL w (rZ h ds,fO h ds) w):=by
 go_enter func63,ntmps63;go_wp2_with fail;refine Z (aa _ ((((Mem.start w).c0 aK #[h.aA,h.aB,.slice p h.cells cap,h.free,h.step,h.aD,h.aF,h.aC,h.aG,.slice q h.vs c2]).c1 aK zT).made0 TB 1 (w.heap.size+1+1) (by simp)).ext) fun w1 af=>?_
 have M1:=(((((Mem.start w).c0 aK #[h.aA,h.aB,.slice p h.cells cap,h.free,h.step,h.aD,h.aF,h.aC,h.aG,.slice q h.vs c2]).c1 aK zT).made0 TB 1 (w.heap.size+1+1) (by simp)).adv af)
 clear af aa;obtain⟨aj,ak,al,am,an,ao,ap,aq,ar,au⟩:=(M1.bk 2).ten;go_wp2_with fail;clear aj ak al am an ao ap aq ar au;refine(HL _ M1.ext).mono ?_;rintro e w2 ⟨p1,m,q1,n,rfl,ho,hq,hx⟩;have M2:=(M1.own2 hx ho hq (aRp _) (by decide))
 clear M1 hx ho hq HL;go_upto_region 5 with fail;obtain⟨gV,s⟩: ∃gV,gV=w2.heap.size:=⟨_,rfl⟩
 rw[←s];have M3:=(M2.blkNew aK #[h.aA,h.aB,.slice p1 h.cells m,h.free,h.step,h.aD,h.aF,h.aC,h.aG,.slice q1 h.vs n] gV s.symm)
 generalize World.alloc _ _=w3 at M3⊢;clear M2 s;go_wp2;go_loopw [6,8] (fun dn i wr=> ∃(k:Nat) (g:aL) (p3:OA) (c3:Nat) (q3:OA) (d3:Nat) (ps:OA) (cs:Nat),k≤lm∧i=I k∧dn= .slice ps k cs∧g=rZ h (ds.take k)∧Mem w wr [aI w TB 1 (ps) (k) (cs) (bcs (fO h (ds.take k))),aUc w p3 g.cells c3,aUd w q3 g.vs d3,aJ w (gV) aK (aUe g p3 c3 q3 d3),aJ w (w.heap.size+1) aK #[(),(),((),()),(),(),(),(),(),(),((),())],aJ w w aK (aUe h p cap q c2)]) (fun _ i _=>lm-(intOf i).toNat)
 case atStart=>exact⟨0,h,p1,m,q1,n,_,_,aRv _,rfl,rfl,rfl,(show Mem w w3 [aI w TB 1 (some ⟨w.heap.size+1+1,0,none⟩) (0) (0) ([]),aUc w p1 h.cells m,aUd w q1 h.vs n,aJ w (gV) aK (aUe h p1 m q1 n),aJ w (w.heap.size+1) aK #[(),(),((),()),(),(),(),(),(),(),((),())],aJ w w aK (aUe h p cap q c2)]from M3.pick [3,1,2,0,4,5] (by decide) rfl)⟩
 case round=>
  clear M3;obtain⟨k,g,p3,c3,q3,d3,ps,cs,hk,rfl,rfl,hg,hM⟩:=hrel;have HM:=hM;have HG:=xQ hg;have y:Hid (aR g=true):=by show _=_;rw[hg];exact aBo _ a9.out
  clear hM hg;by_cases hlt:k<lm
  ·obtain⟨b,j,a0,a1,a2,a8,hx,o,e0,e1,e2⟩:=aIq (HS.out.ext HM.ext) hlt;subst a8;have HX:=xQ hx;clear hx;have i1:(0:Int)≤(k:Int):=by omega
   have i2:(k:Int)<(lm:Int):=by omega
   obtain⟨r,num,ok,hr⟩: ∃r num ok,(r,num,ok)=doR g a0 a1 a2:=⟨_,_,_,rfl⟩
   have HR:=xQ hr;clear hr;have ae:Hid (rZ h (ds.take (k+1))=r∧fO h (ds.take (k+1))=fO h (ds.take k)++ [ok]):=by show _∧_;rw[aY HX.out,aA1,yG,←HG.out,←HR.out];exact⟨rfl,rfl⟩
   have HD:Hid (∀B p c q d w',B≤w'.heap.size→Ext wr w'→IsHouse w' g p g.cells.length c q g.vs.length d→U 23 #[.agg #[g.aA,g.aB,.slice p g.cells c,g.free,g.step,g.aD,g.aF,g.aC,g.aG,.slice q g.vs d],.agg #[a0,a1,a2]] w' fun e w''=> ∃pa ca qa da,e= .returned (.tuple #[.agg #[r.aA,r.aB,.slice pa r.cells ca,r.free,r.step,r.aD,r.aF,r.aC,r.aG,.slice qa r.vs da],num,.bool ok])∧w''.ownsRow B TI 1 (.slice pa r.cells ca) r.cells.length (ivs r.cells)∧w''.ownsRow B TV 4 (.slice qa r.vs da) r.vs.length (r.vs.flatMap aE)∧Ext w' w''):=fun B p c q d w' hB hx hi=>by refine(uS g a0 a1 a2 p _ c q _ d w' hi y.out).mono (fun e w'' hr=> ?_);have hq:=vY hB y hr;rw[←HR.out]at hq;exact hq
   have IX:=xQ (show IsHouse wr g p3 g.cells.length c3 q3 g.vs.length d3 from⟨(HM.sq 1),(HM.sq 2)⟩);have f:gV<wr:=(HM.hi 3)
   obtain⟨ba,bb,bc,bd,be,bf,bg,bh,bi,bj⟩:=(HM.bk 3).ten;have ah: ¬(wr.heap.size=gV):=by omega
   have ai: ¬(wr.heap.size=b):=by omega
   go_upto_region 8 with fail;go_cut [9,10,11] (fun s1 s2 s3 wx=> ∃(g5:Nat) (p5:OA) (c5:Nat) (q5:OA) (d5:Nat),s1= .pointer (some ⟨g5,0,none⟩)∧s2=I num∧s3= .bool ok∧Mem w wx [aJ w (g5) aK (aUe r p5 c5 q5 d5),aUc w p5 r.cells c5,aUd w q5 r.vs d5,aI w TB 1 (ps) (k) (cs) (bcs (fO h (ds.take k))),aUc w p3 g.cells c3,aUd w q3 g.vs d3,aJ w (gV) aK (aUe g p3 c3 q3 d3),aJ w (w.heap.size+1) aK #[(),(),((),()),(),(),(),(),(),(),((),())],aJ w w aK (aUe h p cap q c2)])
   case first=>
    go_region_held3 (fun w'=>w'.cell? ⟨gV,0,none⟩=some (I g.aA)∧w'.cell? ⟨gV,1,none⟩=some (I g.aB)∧w'.cell? ⟨gV,2,none⟩=some (.slice p3 g.cells c3)∧w'.cell? ⟨gV,3,none⟩=some (I g.free)∧w'.cell? ⟨gV,4,none⟩=some (I g.step)∧w'.cell? ⟨gV,5,none⟩=some (I g.aD)∧w'.cell? ⟨gV,6,none⟩=some (I g.aF)∧w'.cell? ⟨gV,7,none⟩=some (I g.aC)∧w'.cell? ⟨gV,8,none⟩=some (I g.aG)∧w'.cell? ⟨gV,9,none⟩=some (.slice q3 g.vs d3)∧w'.cell? ⟨b,j+k*3,none⟩=some (I a0)∧w'.cell? ⟨b,j+k*3+1,none⟩=some (I a1)∧w'.cell? ⟨b,j+k*3+2,none⟩=some (I a2))
     (first|(refine⟨?_,?_,?_,?_,?_,?_,?_,?_,?_,?_,?_,?_,?_⟩<;>with_reducible assumption)|go_keep)
     (first
      |(go_at_call 23
        refine(HD wr _ _ _ _ _ (Ext.sz (show Ext wr _ from xE)) xE (IX.out.ext xE)).mono ?_;rintro e ws ⟨p5,c5,q5,d5,rfl,os,x,ag⟩;have a:Ext wr ws:=xE;obtain⟨ci,cj,ck,cl,cm,cn,co,cp,cq,cr⟩:=((HM.bk 3).ext a).ten;have ct:ws.cell? ⟨b,j+k*3,none⟩=some (I a0):=(a.cells.1 _ _ o).trans e0;have cu:ws.cell? ⟨b,j+k*3+1,none⟩=some (I a1):=(a.cells.1 _ _ o).trans e1;have cv:ws.cell? ⟨b,j+k*3+2,none⟩=some (I a2):=(a.cells.1 _ _ o).trans e2
        first
         |(with_reducible have hz:Ext (wr.alloc (.cells #[(),(),((),()),(),(),(),(),(),(),((),())] aK)) ws:=ag;have MB:=(Mem.own2blk HM a ((Blk.new wr aK #[(),(),((),()),(),(),(),(),(),(),((),())]).ext hz) (aRp _) os x (by decide) (by decide) (by decide));obtain⟨bw,b7,bx,b8,bz,b9,b0,cb,b1,cc,b2,cd,b3,ce,b4,cf,b5,cg,b6,ch⟩:=(MB.blk (i:=2) rfl).tenf)
         |(with_reducible have hz:Ext (wr.alloc (.cells #[(),(),((),()),(),(),(),(),(),(),((),())] aK)) ws:=ag.of_drew;have MB:=(Mem.own2blk HM a ((Blk.new wr aK #[(),(),((),()),(),(),(),(),(),(),((),())]).ext hz) (aRp _) os x (by decide) (by decide) (by decide));obtain⟨bw,b7,bx,b8,bz,b9,b0,cb,b1,cc,b2,cd,b3,ce,b4,cf,b5,cg,b6,ch⟩:=(MB.blk (i:=2) rfl).tenf)
         |(have MA:=(Mem.own2 HM a os x (aRp _) (by decide)))))
    all_goals (
     go_wp2_with fail;go_meet
     first
      |exact⟨_,p5,c5,q5,d5,rfl,rfl,rfl,(MB.put10 (i:=2) rfl (I r.aA) (I r.aB) (.slice p5 r.cells c5) (I r.free) (I r.step) (I r.aD) (I r.aF) (I r.aC) (I r.aG) (.slice q5 r.vs d5)).pick [2,0,1,3,4,5,6,7,8] (by decide) rfl⟩
      |exact⟨_,p5,c5,q5,d5,rfl,rfl,rfl,MA.bn aK (aUe r p5 c5 q5 d5) _⟩)
   case rest=>
    clear ba bb bc bd be bf bg bh bi bj ah ai e0 e1 e2 HD IX;obtain⟨g5,p5,c5,q5,d5,rfl,rfl,rfl,ad⟩:=hcut;obtain⟨v5,rfl⟩: ∃z,z=wc:=⟨_,rfl⟩
    have MC:=ad;clear ad HM f;obtain⟨x0,x1,x2,x3,x4,x5,x6,x7,x8,x9⟩:=(MC.bk 0).ten;obtain⟨v0,bl,v1,bm,v2,bo,v3,bp,v4,bq,v5,br,v6,bs,v7,bt,v8,bu,v9,bv⟩:=(MC.bk 6).tenf;go_upto_region 10 with fail;clear x0 x1 x2 x3 x4 x5 x6 x7 x8 x9 v0 bl v1 bm v2 bo v3 bp v4 bq v5 br v6 bs v7 bt v8 bu v9 bv;have ab:=(MC.put10 (i:=6) rfl (I r.aA) (I r.aB) (.slice p5 r.cells c5) (I r.free) (I r.step) (I r.aD) (I r.aF) (I r.aC) (I r.aG) (.slice q5 r.vs d5))
    generalize l:World.setCell _ _ _=wz;rw[l]at ab;clear l MC;go_wp2_with (at_builtin;go_loud (refine cG elB rfl _ _ rfl (ab.adv ((Ext.refl _).alloc (.cells #[.bool ok] TB))) 3 rfl rfl [.bool ok] rfl (eJ _ _ _ 1 1 _ (by first|rfl|simp) (by first|rfl|simp) (by simp[maxLen])) (fun u hu=>by obtain rfl:=aSc.1 hu;rfl) (by omega) ?_;intro q7 c7 w6 M6));go_roundw
    case rel=>
     have hd:bcs (fO h (ds.take (k+1)))=bcs (fO h (ds.take k))++ [.bool ok]:=by rw[ae.out.2,aFd]
     exact⟨k+1,r,p5,c5,q5,d5,q7,c7,by omega,by go_num,rfl,ae.out.1.symm,by rw[hd];exact(show Mem w w6 [aI w TB 1 (q7) (k+1) (c7) (bcs (fO h (ds.take k))++ [.bool ok]),aUc w p5 r.cells c5,aUd w q5 r.vs d5,aJ w (gV) aK (aUe r p5 c5 q5 d5),aJ w (w.heap.size+1) aK #[(),(),((),()),(),(),(),(),(),(),((),())],aJ w w aK (aUe h p cap q c2)]from(show Mem w w6 [aJ w (g5) aK (aUe r p5 c5 q5 d5),aUc w p5 r.cells c5,aUd w q5 r.vs d5,aI w TB 1 (q7) (k+1) (c7) (bcs (fO h (ds.take k))++ [.bool ok]),aUc w p3 g.cells c3,aUd w q3 g.vs d3,aJ w (gV) aK (aUe r p5 c5 q5 d5),aJ w (w.heap.size+1) aK #[(),(),((),()),(),(),(),(),(),(),((),())],aJ w w aK (aUe h p cap q c2)]from M6).pick [3,1,2,6,7,8] (by decide) rfl)⟩
    case measure=>simp[intOf];omega
  obtain rfl:lm=k:=by omega
  have f:gV<wr:=(HM.hi 3)
  obtain⟨v0,v1,v2,v3,v4,v5,v6,v7,v8,v9⟩:=(HM.bk 3).ten;obtain⟨f0,av,f1,aw,f2,ax,f3,ay,f4,az,f5,a3,f6,a4,f7,a5,f8,a6,f9,a7⟩:=(HM.bk 4).tenf;go_wp2;clear v0 v1 v2 v3 v4 v5 v6 v7 v8 v9 f0 av f1 aw f2 ax f3 ay f4 az f5 a3 f6 a4 f7 a5 f8 a6 f9 a7 f;have M6:=xQ (HM.put10 (i:=4) rfl (I g.aA) (I g.aB) (.slice p3 g.cells c3) (I g.free) (I g.step) (I g.aD) (I g.aF) (I g.aC) (I g.aG) (.slice q3 g.vs d3));generalize l:World.setCell _ _ _=wz;rw[l]at M6;clear l HM;obtain⟨y0,y1,y2,y3,y4,y5,y6,y7,y8,y9⟩:=(M6.out.bk 4).ten;exact bodyPost_ret (v:= .tuple #[.agg #[g.aA,g.aB,.slice p3 g.cells c3,g.free,g.step,g.aD,g.aF,g.aC,g.aG,.slice q3 g.vs d3],.slice ps lm cs]) (by simp[results,results63,go_sem, *]) rfl (aI8 (by have h1:=HG.out;rw[aRu (by rw[t.out];exact aRp _)]at h1;exact h1) t.out (M6.out.ow 1) (M6.out.ow 2) (by have h1:=(M6.out.ow 0);rw[aRu (by rw[t.out];exact aRp _)]at h1;exact h1) M6.out.ext)
theorem aBb (h:aL)(p:OA)(n cap:Nat)(q:OA)(m c2:Nat)(lq:OA)(lm lc:Nat)(ds:List Dd3)(w:World)(hi:IsHouse w h p n cap q m c2)(hS:Sl w lq lm lc 3 (ds.flatMap cF))(hb:lm≤1048576):
  U 63 #[bM h p n cap q m c2,.slice lq lm lc] w (oL w (tS h ds) w):=by
 have hl:=hi.clen;have b:=hi.vlen;have a:ds.length=lm:=by have:=hS.len;rw[cR cF 3 (fun _=>rfl)]at this;omega
 subst hl b;have HV:=xQ fun(w':World) (hx:Ext w w')=>iE h p _ cap q _ c2 w' (hi.ext hx)
 by_cases hok:aR h=true
 ·have c:=dE hok;unfold tS;rw[if_pos hok];rw[hok]at HV;have HL:=xQ fun(w':World) (hx:Ext w w')=>lZ h p _ cap q _ c2 w' (by omega) (by omega) (hi.ext hx)
  unfold RetHouse at HL;exact aR7 h p cap q c2 lq lm lc ds w hb a hok hS HV HL
 unfold tS;rw[if_neg hok];rw[show aR h=false by simpa using hok]at HV;exact aP4 h p cap q c2 lq lm lc ds w HV
theorem jH (aA aB c:Int)(p:OA)(n cap:Nat)(w:World)(hn:n≤12):U 159 #[aH aA aB p n cap,c] w (O (.bool (decide (0≤c∧c<n))) w):=by
 by_cases h0:0≤c
 ·have d0:decide (0≤c)=true:=by simp[h0]
  by_cases h1:c<n
  ·have d1:decide (c<(n:Int))=true:=by simp[h1]
   go_enter func159,ntmps159;go_wp2;go_ret;exact⟨aQ (by simp[h0,h1]),xE⟩
  have d1:decide (c<(n:Int))=false:=by simp;omega
  go_enter func159,ntmps159;go_wp2;go_ret;exact⟨aQ (by simp[h0,h1]),xE⟩
 have d0:decide (0≤c)=false:=by simp;omega
 go_enter func159,ntmps159;go_wp2;go_ret;exact⟨aQ (by simp[h0]),xE⟩
theorem nA (aA a b:Int)(w:World)(h0:0≤a)(h1:a≤100)(h2:0≤b)(h3:b≤100)(h4:2≤aA)(h5:aA≤4):U 160 #[aA,a,b] w (O (I (aX aA a b)) w):=by
 have q0: ¬(aA=0):=by omega
 have r1:a.tmod aA=a%aA:=IntWalk.rem_in _ _ h0;have r2:b.tmod aA=b%aA:=IntWalk.rem_in _ _ h2;have d1:IntKind.i64.wrap (a.tdiv aA)=a/aA:=aU2 _ _ (by omega);have d2:IntKind.i64.wrap (b.tdiv aA)=b/aA:=aU2 _ _ (by omega);have e1:=Int.emod_nonneg a q0;have e2:=Int.emod_nonneg b q0;have e3:=Int.emod_lt_of_pos a (show 0<aA by omega);have e4:=Int.emod_lt_of_pos b (show 0<aA by omega);have e5:=Int.ediv_nonneg h0 (show 0≤aA by omega);have e6:=Int.ediv_nonneg h2 (show 0≤aA by omega);have e7:=Int.ediv_le_self aA h0;have e8:=Int.ediv_le_self aA h2;have s1:IntKind.i64.wrap (max (a%aA-b%aA) (-(a%aA-b%aA))+max (a/aA-b/aA) (-(a/aA-b/aA)))=aX aA a b:=by rw[aRr _ (by omega)];unfold aX qT;omega
 have s2:IntKind.i64.wrap (a%aA-b%aA)=a%aA-b%aA:=aRr _ (by omega);have s3:IntKind.i64.wrap (a/aA-b/aA)=a/aA-b/aA:=aRr _ (by omega);have s4:IntKind.i64.wrap (-(a%aA-b%aA))= -(a%aA-b%aA):=aRr _ (by omega);have s5:IntKind.i64.wrap (-(a/aA-b/aA))= -(a/aA-b/aA):=aRr _ (by omega);go_enter func160,ntmps160;go_wp2;go_quiet (fail);go_wp2;go_quiet (fail);go_wp2;go_ret;exact⟨dV rfl,xE⟩
end
end Go.Proofs.YtbgkcehffiogcacGreatDoor
