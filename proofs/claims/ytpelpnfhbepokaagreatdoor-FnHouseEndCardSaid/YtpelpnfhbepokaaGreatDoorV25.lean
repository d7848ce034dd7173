/-
  Texts of this proof, packed (@packed).
-/
import Derived.Test.YtpelpnfhbepokaaGreatDoorV24
namespace Go.Proofs.YtpelpnfhbepokaaGreatDoor
open Go.RowKit
set_option linter.unusedVariables false
set_option linter.unusedSimpArgs false
set_option maxHeartbeats 8000000
set_option maxRecDepth 100000
theorem aB3 {aA aB:Int}{xs:List Int}(h:aM aA aB xs=true):(cJ xs).length<xs.length↔(0:Int)∈xs:=by
 unfold aM at h;rw[Bool.and_eq_true]at h;have hc:=((dO _ _).1 h.2).1;rw[hU];clear h;induction xs with
 |nil=>simp[dA]
 |cons x xs ih=>
  have hx:=hc x (by simp);have:=ih (fun y hy=>hc y (by simp[hy]));have a:=jA xs;unfold dA at this a⊢;by_cases h0:0<x
  ·rw[List.filter_cons_of_pos (by simpa using h0)];simp only[List.length_cons,List.mem_cons];constructor
   ·intro h;exact .inr (this.1 (by omega))
   rintro(h|h)
   ·omega
   have:=this.2 h;omega
  rw[List.filter_cons_of_neg (by simpa using h0)];simp only[List.length_cons,List.mem_cons];constructor
  ·intro _;exact .inl (by omega)
  intro _;omega
theorem aFl (w:World)(x:Int):(w.alloc (.cells #[x] TI)).ownsRow w.heap.size TI 1 (.slice (some ⟨w.heap.size,0,none⟩) 1 1) 1 (ivs [x]):=
 ⟨rfl,.inr ⟨w.heap.size,1,_,rfl,Nat.le_refl _,heap_alloc_new w _,Nat.le_refl _,by simp[maxLen],rfl,rfl⟩⟩
def cK (base:List Int)(C:List Int):List Int:=base++C.filter (fun x=> !base.contains x)
theorem oW {base C:List Int}{k:Nat}{x:Int}(hx:C[k]? =some x) (h:base.contains x=false):cK base (C.take (k+1))=cK base (C.take k)++ [x]:=by unfold cK;rw[bA hx,List.filter_append];simp[h]at*;simp[h]
theorem rC {base C:List Int}{k:Nat}{x:Int}(hx:C[k]? =some x) (h:base.contains x=true):cK base (C.take (k+1))=cK base (C.take k):=by unfold cK;rw[bA hx,List.filter_append];simp[h]at*;simp[h]
theorem aFf (base C:List Int):(cK base C).length≤base.length+C.length:=by unfold cK;rw[List.length_append];have:=List.length_filter_le (fun x=> !base.contains x) C;omega
theorem tZ {base C:List Int}{k:Nat}{x:Int}(hn:C.Nodup)(hx:C[k]? =some x):(cK base (C.take k)).contains x=base.contains x:=by
 unfold cK;obtain⟨hk,rfl⟩:=List.getElem?_eq_some_iff.1 hx;have a:C[k]∉C.take k:=by intro hm;obtain⟨j,hj,e⟩:=List.getElem_of_mem hm;rw[List.getElem_take]at e;rw[List.length_take]at hj;exact(List.pairwise_iff_getElem.1 hn j k (by omega) hk (by omega)) e
 simp only[List.contains_eq_mem,List.mem_append,List.mem_filter];simp[a]
theorem lJ {h:aO}(a:aT h=true):bV h=cK (if(0:Int)∈h.cells then []else [h.cells.headD 0]) (cJ h.cells):=by
 unfold bV cK;rw[if_pos a];by_cases h0:(0:Int)∈h.cells
 ·rw[if_pos h0,if_pos h0];exact(List.filter_eq_self.2 (by simp)).symm
 rw[if_neg h0,if_neg h0];simp only[List.cons_append,List.nil_append];congr 1;apply List.filter_congr;intro x _;by_cases hx:x=h.cells.headD 0<;>simp[bne,hx,List.contains_eq_mem];rfl
theorem lE {h:aO}(a:aT h=true):h.vs.map (·.1)=cJ h.cells∧(cJ h.cells).Nodup:=by have hn:=(eC a).1;unfold aT at a;simp only[Bool.and_eq_true]at a;have:=(jU a.2).1;exact⟨this,by rw[←this];exact hn⟩
theorem jD {h:aO}(a:aT h=true):aM h.aA h.aB h.cells=true:=by unfold aT at a;simp only[Bool.and_eq_true]at a;exact a.1.1.1
theorem aDd (aA aB a b aE aF aC aG:Int)(p:OA)(n c:Nat)(q:OA)(m c2:Nat)(w:World)(HV:xB 18 #[.agg #[aA,aB,.slice p n c,a,b,aE,aF,aC,aG,.slice q m c2]] w false):
  Calls Tryz.prog 105 #[.agg #[aA,aB,.slice p n c,a,b,aE,aF,aC,aG,.slice q m c2]] w (aX [] w):=by
 go_enter Tryz.func105,Tryz.ntmps105;go_wp2_with fail;refine(HV _ (by exact .alloc (.refl _) _)).mono ?_;rintro e w1 ⟨rfl,d⟩;go_wp2;go_ret;exact cZ (xs:= []) rfl (World.ownsRow_nil _ _ _ _) (by exact .trans (.alloc (.refl _) _) d)
theorem aC7 (aA aB a b aE aF aC aG:Int)(p:OA)(n c:Nat)(q:OA)(m c2:Nat)(w:World)(HV:xB 12 #[.agg #[aA,aB,.slice p n c,a,b,aE,aF,aC,aG,.slice q m c2]] w false):
  Calls Tryz.prog 107 #[.agg #[aA,aB,.slice p n c,a,b,aE,aF,aC,aG,.slice q m c2]] w (aX [] w):=by
 go_enter Tryz.func107,Tryz.ntmps107;go_wp2_with fail;refine(HV _ (by exact .alloc (.alloc (.refl _) _) _)).mono ?_;rintro e w1 ⟨rfl,d⟩;have ho:((w.alloc (.cells #[aA,aB,.slice p n c,a,b,aE,aF,aC,aG,.slice q m c2] 30)).alloc (.cells #[] TI)).ownsRow w.heap.size TI 1 (.slice (some ⟨(w.alloc (.cells #[aA,aB,.slice p n c,a,b,aE,aF,aC,aG,.slice q m c2] 30)).heap.size,0,none⟩) 0 0) 0 []:=World.ownsRow_made _ #[] 0 (by simp) (by simp[maxLen]) rfl;have f:=xQ (bG ho d);clear ho;go_wp2;go_ret;exact cZ (xs:= []) rfl (by simpa using f.out) (by exact .trans (.alloc (.alloc (.refl _) _) _) d)
theorem aAt (aA aB a b aE aF aC aG:Int)(p:OA)(n c:Nat)(q:OA)(m c2:Nat)(C:List Int)(w:World)(hn:n≤12)(hl:C.length<n)(HV:xB 18 #[.agg #[aA,aB,.slice p n c,a,b,aE,aF,aC,aG,.slice q m c2]] w true)
  (HC:Hid (∀w',Ext w w'→Calls Tryz.prog 23 #[aH aA aB p n c] w' (aX C w'))):
  Calls Tryz.prog 105 #[.agg #[aA,aB,.slice p n c,a,b,aE,aF,aC,aG,.slice q m c2]] w (aX C w):=by
 go_enter Tryz.func105,Tryz.ntmps105;go_wp2_with fail;refine(HV _ (by exact .alloc (.refl _) _)).mono ?_;rintro e w1 ⟨rfl,f⟩;have BA:Blk w1 w.heap.size 30 #[aA,aB,.slice p n c,a,b,aE,aF,aC,aG,.slice q m c2]:=(Blk.new w _ _).ext f;have h:=xQ BA;have X1:Ext w w1:=by exact .trans (.alloc (.refl _) _) f
 have z1:w.heap.size<w1.heap.size:=BA.lt;clear f;obtain⟨a0,a1,a2,a3,a4,a5,a6,a7,a8,a9⟩:=BA.ten;clear BA;go_wp2_with fail;clear a0 a1 a2 a3 a4 a5 a6 a7 a8 a9;refine(HC _ X1).mono ?_;rintro e w2 ⟨pc,cc,rfl,i,d⟩;have g:=xQ (h.out.ext d);have X2:Ext w w2:=X1.trans d;have HO:=xQ i;have z2:w.heap.size<w2.heap.size:=g.out.lt;have j:=d.sz;clear i d h;have b2:=g.out.cl 2;go_wp2;go_ret;exact cZ rfl (bE HO X1.sz) X2
theorem aAs (aA aB h l aE aF aC aG:Int)(p:OA)(n g:Nat)(q:OA)(m c2:Nat)(C:List Int)(x0:Int)(b0 d:Nat)(w:World)(hn:n≤12)(hp:p=some ⟨b0,d,none⟩)(hl:C.length=n)(an:0<n)(ab:b0<w.heap.size)(s:w.cell? ⟨b0,d,none⟩=some (.int .i64 x0))(HV:xB 18 #[.agg #[aA,aB,.slice p n g,h,l,aE,aF,aC,aG,.slice q m c2]] w true)
  (HC:Hid (∀w',Ext w w'→Calls Tryz.prog 23 #[aH aA aB p n g] w' (aX C w'))):
  Calls Tryz.prog 105 #[.agg #[aA,aB,.slice p n g,h,l,aE,aF,aC,aG,.slice q m c2]] w (aX (cK [x0] C) w):=by
 subst hp;have ak: ¬C.length<n:=by omega
 have al:=xQ hl;have aj:C.length≤12:=by omega
 clear hl;go_enter Tryz.func105,Tryz.ntmps105;go_wp2_with fail;refine(HV _ (by exact .alloc (.refl _) _)).mono ?_;rintro e w1 ⟨rfl,t⟩;have BA:Blk w1 w.heap.size 30 #[aA,aB,.slice (some ⟨b0,d,none⟩) n g,h,l,aE,aF,aC,aG,.slice q m c2]:=(Blk.new w _ _).ext t;have y:=xQ BA;have X1:Ext w w1:=by exact .trans (.alloc (.refl _) _) t
 have z1:w.heap.size<w1.heap.size:=BA.lt;clear t;obtain⟨a0,a1,a2,a3,a4,a5,a6,a7,a8,a9⟩:=BA.ten;clear BA;go_wp2_with fail;clear a0 a1 a2 a3 a4 a5 a6 a7 a8 a9;refine(HC _ X1).mono ?_;rintro e w2 ⟨pc,cc,rfl,ae,o⟩;have u:=xQ (y.out.ext o);have X2:Ext w w2:=X1.trans o;have HO:=xQ ae;have z2:w.heap.size<w2.heap.size:=u.out.lt;have aq:=o.sz;clear ae o y;have b2:=u.out.cl 2;have h0:w2.cell? ⟨b0,d,none⟩=some (.int .i64 x0):=by rw[X2.cells.1 _ _ ab];exact s
 have af:=xQ s;clear s;go_wp2;go_loopw [4,29] (fun v i wr=> ∃(k:Nat) (q:OA) (m c:Nat),k≤C.length∧i= .int .i64 k∧v= .slice q m c∧m≤k+1∧wr.ownsRow w2.heap.size TI 1 (.slice q m c) m (ivs (cK [x0] (C.take k)))∧Ext w2 wr) (fun _ i _=>C.length-(intOf i).toNat)
 case atStart=>exact⟨0,_,1,_,Nat.zero_le _,rfl,rfl,by omega,by simpa[cK]using aFl w2 x0,by exact .alloc (.refl _) _⟩
 case round=>
  obtain⟨k,q,m1,c,hk,rfl,rfl,am,r,hE⟩:=hrel;have f:=xQ r;have aa:=X2.trans hE;have ao:=hE.sz;have ec:wr.cell? ⟨w.heap.size,2,none⟩=some (.slice (some ⟨b0,d,none⟩) n g):=(hE.cells.1 _ _ z2).trans b2;have hg:wr.cell? ⟨b0,d,none⟩=some (.int .i64 x0):=by rw[aa.cells.1 _ _ ab];exact af.out
  clear r;by_cases hlt:k<C.length
  ·obtain⟨b,ap,x,rfl,hx,hb,ai⟩:=((Sl.own HO.out).ext hE).int_at hlt;have HX:=xQ hx;clear hx;by_cases hx0:x=x0
   ·have t0:(x !=x0)=false:=by simp[hx0]
    have a:Hid (cK [x0] (C.take (k+1))=cK [x0] (C.take k)):=rC HX (by simp[hx0]);clear hx0;go_wp2;go_roundw
    case rel=>exact⟨k+1,q,m1,c,by omega,by go_num,rfl,by omega,by rw[a.out];exact f.out,hE⟩
    case measure=>simp[intOf];omega
   have t0:(x !=x0)=true:=by simp[hx0]
   have a:Hid (cK [x0] (C.take (k+1))=cK [x0] (C.take k)++ [x]):=oW HX (by simp[hx0]);clear hx0;go_wp2_with (at_builtin;refine cI eV rfl _ _ rfl w2.heap.size _ _ _ rfl (f.out.alloc _) _ _ x _ rfl (by simp) (by omega) (by simp;omega) ?_;intro p' z w3 j ad;have ag:=xQ j;have ah:Ext w2 w3:=Ext.own (hE.alloc _) (f.out.alloc _) ad (Nat.le_refl _);clear j ad);go_roundw
   case rel=>exact⟨k+1,p',m1+1,z,by omega,by go_num,rfl,by omega,by rw[a.out];exact ag.out,ah⟩
   case measure=>simp[intOf];omega
  have a:Hid (cK [x0] (C.take k)=cK [x0] C):=by show _=_;rw[List.take_of_length_le (by omega)]
  go_wp2;go_ret;exact cZ (by rw[←a.out];have:=f.out.1;simpa using this) (by rw[←a.out];exact bE f X2.sz) aa
theorem zW (aA aB d f aE aF aC aG:Int)(p:OA)(n h:Nat)(q:OA)(m c2:Nat)(w:World)(vs:List aP)(F:List Int)(HN:Hid (vs.map (·.1)).Nodup)(hm:m≤12)(HS:Hid (Sl w q m c2 4 (vs.flatMap aD)))(hl:Hid (vs.length=m))(hF:F.length≠0)(HV:xB 12 #[.agg #[aA,aB,.slice p n h,d,f,aE,aF,aC,aG,.slice q m c2]] w true)
  (HF:Hid (∀w',Ext w w'→Calls Tryz.prog 151 #[aH aA aB p n h] w' (aX F w'))):
  Calls Tryz.prog 107 #[.agg #[aA,aB,.slice p n h,d,f,aE,aF,aC,aG,.slice q m c2]] w (aX (cK [] (vs.map (·.1))) w):=by
 go_enter Tryz.func107,Tryz.ntmps107;go_wp2_with fail;refine(HV _ (by exact .alloc (.alloc (.refl _) _) _)).mono ?_;rintro e w1 ⟨rfl,o⟩;have ho:((w.alloc (.cells #[aA,aB,.slice p n h,d,f,aE,aF,aC,aG,.slice q m c2] 30)).alloc (.cells #[] TI)).ownsRow (w.heap.size+1) TI 1 (.slice (some ⟨w.heap.size+1,0,none⟩) 0 0) 0 []:=by simpa using World.ownsRow_made (w.alloc (.cells #[aA,aB,.slice p n h,d,f,aE,aF,aC,aG,.slice q m c2] 30)) (e:=TI) (base:=w.heap.size+1) #[] 0 (by simp) (by simp[maxLen]) rfl
 have y:=xQ (bG ho o);clear ho;have BA:Blk w1 w.heap.size 30 #[aA,aB,.slice p n h,d,f,aE,aF,aC,aG,.slice q m c2]:=((Blk.new w _ _).alloc _).ext o;have x:=xQ BA;have X1:Ext w w1:=by exact .trans (.alloc (.alloc (.refl _) _) _) o
 clear o;obtain⟨a0,a1,a2,a3,a4,a5,a6,a7,a8,a9⟩:=BA.ten;clear BA;go_wp2_with fail;clear a0 a1 a2 a3 a4 a5 a6 a7 a8 a9;refine(HF _ X1).mono ?_;rintro e w2 ⟨pf,cf,rfl,_,r⟩;have t:=xQ (x.out.ext r);have af:=xQ (bG y r);have X2:Ext w w2:=X1.trans r;have z2:w.heap.size<w2.heap.size:=t.out.lt;clear r x y;have tF:((F.length:Int)==0)=false:=by simp[hF]
 have aa:=t.out.cl 9;have ai:=z2;clear hF;have b2:=t.out.cl 2;go_wp2;go_loopw [3,4] (fun v i wr=> ∃(k:Nat) (qq:OA) (m1 c:Nat),k≤m∧i= .int .i64 k∧v= .slice qq m1 c∧m1≤k+1∧wr.ownsRow (w.heap.size+1) TI 1 (.slice qq m1 c) m1 (ivs (cK [] ((vs.map (·.1)).take k)))∧Ext w wr∧wr.cell? ⟨w.heap.size,9,none⟩=some (.slice q m c2)∧w.heap.size<wr.heap.size) (fun _ i _=>m-(intOf i).toNat)
 case atStart=>exact⟨0,_,_,_,Nat.zero_le _,rfl,rfl,by omega,by simpa[cK]using af.out,X2,aa,ai⟩
 case round=>
  obtain⟨k,qq,m1,c,hk,rfl,rfl,aj,s,hE,ab,u⟩:=hrel;have g:=xQ s;clear s aa;by_cases hlt:k<m
  ·obtain⟨b,ak,a0,a1,a2,a3,rfl,hv,hb,g0,g1,g2,g3⟩:=eB (HS.out.ext hE) hlt;have hx:Hid ((vs.map (·.1))[k]? =some a0):=by show _=_;rw[List.getElem?_map,hv];rfl
   have i1:(0:Int)≤(k:Int):=by omega
   have i2:(k:Int)<(m:Int):=by omega
   clear hv;have HH:xC 91 #[.slice qq m1 c,a0] wr fun w' e w''=>e= .returned (.bool (([]:List Int).contains a0))∧w'=w'':=fun w' hx'=>by have:=oA qq m1 c _ a0 w' ((Sl.own g.out).ext hx');rwa[tZ HN hx.out]at this
   cases hs:([]:List Int).contains a0 with
   |true=>
    rw[hs]at HH;have a:Hid (cK [] ((vs.map (·.1)).take (k+1))=cK [] ((vs.map (·.1)).take k)):=rC hx.out hs;clear hs;go_wp2_with fail;refine(HH _ (by exact .refl _)).mono ?_;rintro e w4 ⟨rfl,rfl⟩;go_wp2;go_roundw
    case rel=>exact⟨k+1,qq,m1,c,by omega,by go_num,rfl,by omega,by rw[a.out];exact g.out,hE,ab,u⟩
    case measure=>simp[intOf];omega
   |false=>
    rw[hs]at HH;have a:Hid (cK [] ((vs.map (·.1)).take (k+1))=cK [] ((vs.map (·.1)).take k)++ [a0]):=oW hx.out hs;clear hs;go_wp2_with fail;refine(HH _ (by exact .refl _)).mono ?_;rintro e w4 ⟨rfl,rfl⟩;go_wp2_with (at_builtin;refine cI eV rfl _ _ rfl (w.heap.size+1) _ _ _ rfl (g.out.alloc _) _ _ a0 _ rfl (by simp) (by omega) (by simp;omega) ?_;intro p' z w5 j l;have ae:=xQ j;have ah:Ext w w5:=Ext.own (hE.alloc _) (g.out.alloc _) l (by omega);have ag:=pU g l u ab;have ad:w.heap.size<w5.heap.size:=Nat.lt_of_lt_of_le u (by have:=l.size;simp at this;omega);clear j l);go_roundw
    case rel=>exact⟨k+1,p',m1+1,z,by omega,by go_num,rfl,by omega,by rw[a.out];exact ae.out,ah,ag,ad⟩
    case measure=>simp[intOf];omega
  have a:Hid (cK [] ((vs.map (·.1)).take k)=cK [] (vs.map (·.1))):=by show _=_;rw[List.take_of_length_le (by rw[List.length_map,hl.out];omega)]
  go_wp2;go_ret;exact cZ (by rw[←a.out];have:=g.out.1;simpa using this) (by rw[←a.out];exact bE g (Nat.le_succ _)) hE
theorem zV (aA aB h j aE aF aC aG:Int)(p:OA)(n o:Nat)(q:OA)(m c2:Nat)(w:World)(vs:List aP)(F:List Int)(HN:Hid (vs.map (·.1)).Nodup)(hm:m≤12)(HS:Hid (Sl w q m c2 4 (vs.flatMap aD)))(hl:Hid (vs.length=m))(hF:F.length=0)(x0:Int)(b0 f:Nat)(hp:p=some ⟨b0,f,none⟩)(ar:0<n)(am:b0<w.heap.size)(y:w.cell? ⟨b0,f,none⟩=some (.int .i64 x0))(HV:xB 12 #[.agg #[aA,aB,.slice p n o,h,j,aE,aF,aC,aG,.slice q m c2]] w true)
  (HF:Hid (∀w',Ext w w'→Calls Tryz.prog 151 #[aH aA aB p n o] w' (aX F w'))):
  Calls Tryz.prog 107 #[.agg #[aA,aB,.slice p n o,h,j,aE,aF,aC,aG,.slice q m c2]] w (aX (cK [x0] (vs.map (·.1))) w):=by
 subst hp;go_enter Tryz.func107,Tryz.ntmps107;go_wp2_with fail;refine(HV _ (by exact .alloc (.alloc (.refl _) _) _)).mono ?_;rintro e w1 ⟨rfl,r⟩;have ho:((w.alloc (.cells #[aA,aB,.slice (some ⟨b0,f,none⟩) n o,h,j,aE,aF,aC,aG,.slice q m c2] 30)).alloc (.cells #[] TI)).ownsRow (w.heap.size+1) TI 1 (.slice (some ⟨w.heap.size+1,0,none⟩) 0 0) 0 []:=by simpa using World.ownsRow_made (w.alloc (.cells #[aA,aB,.slice (some ⟨b0,f,none⟩) n o,h,j,aE,aF,aC,aG,.slice q m c2] 30)) (e:=TI) (base:=w.heap.size+1) #[] 0 (by simp) (by simp[maxLen]) rfl
 have ab:=xQ (bG ho r);clear ho;have BA:Blk w1 w.heap.size 30 #[aA,aB,.slice (some ⟨b0,f,none⟩) n o,h,j,aE,aF,aC,aG,.slice q m c2]:=((Blk.new w _ _).alloc _).ext r;have aa:=xQ BA;have X1:Ext w w1:=by exact .trans (.alloc (.alloc (.refl _) _) _) r
 clear r;obtain⟨a0,a1,a2,a3,a4,a5,a6,a7,a8,a9⟩:=BA.ten;clear BA;go_wp2_with fail;clear a0 a1 a2 a3 a4 a5 a6 a7 a8 a9;refine(HF _ X1).mono ?_;rintro e w2 ⟨pf,cf,rfl,_,s⟩;have u:=xQ (aa.out.ext s);have x:=xQ (bG ab s);have X2:Ext w w2:=X1.trans s;have z2:w.heap.size<w2.heap.size:=u.out.lt;clear s aa ab;have h0:w2.cell? ⟨b0,f,none⟩=some (.int .i64 x0):=by rw[X2.cells.1 _ _ am];exact y
 have ap:=xQ y;have tF:((F.length:Int)==0)=true:=by simp[hF]
 have c9:Hid (w2.cell? ⟨w.heap.size,9,none⟩=some (.slice q m c2)):=u.out.cell 9;clear y hF;have b2:=u.out.cl 2;go_wp2_with (at_builtin;refine cI eV rfl _ _ rfl (w.heap.size+1) _ 0 [] rfl (x.out.alloc _) _ _ x0 _ rfl (by simp) (by omega) (by simp;omega) ?_;intro p3 ao w3 a g;have ai:=xQ a;have ak:Ext w w3:=Ext.own (X2.alloc _) (x.out.alloc _) g (by omega);have ae:=pU x g z2 c9.out;have an:w.heap.size<w3.heap.size:=Nat.lt_of_lt_of_le z2 (by have:=g.size;simp at this;omega);clear a g);go_loopw [3,4] (fun v i wr=> ∃(k:Nat) (qq:OA) (m1 c:Nat),k≤m∧i= .int .i64 k∧v= .slice qq m1 c∧m1≤k+1∧wr.ownsRow (w.heap.size+1) TI 1 (.slice qq m1 c) m1 (ivs (cK [x0] ((vs.map (·.1)).take k)))∧Ext w wr∧wr.cell? ⟨w.heap.size,9,none⟩=some (.slice q m c2)∧w.heap.size<wr.heap.size) (fun _ i _=>m-(intOf i).toNat)
 case atStart=>exact⟨0,_,_,_,Nat.zero_le _,rfl,rfl,by omega,by simpa[cK]using ai.out,ak,ae,an⟩
 case round=>
  obtain⟨k,qq,m1,c,hk,rfl,rfl,aq,t,hE,af,z⟩:=hrel;have l:=xQ t;clear t ae;by_cases hlt:k<m
  ·obtain⟨b,au,a0,a1,a2,a3,rfl,hv,hb,g0,g1,g2,g3⟩:=eB (HS.out.ext hE) hlt;have hx:Hid ((vs.map (·.1))[k]? =some a0):=by show _=_;rw[List.getElem?_map,hv];rfl
   have i1:(0:Int)≤(k:Int):=by omega
   have i2:(k:Int)<(m:Int):=by omega
   clear hv;have HH:xC 91 #[.slice qq m1 c,a0] wr fun w' e w''=>e= .returned (.bool (([x0]:List Int).contains a0))∧w'=w'':=fun w' hx'=>by have:=oA qq m1 c _ a0 w' ((Sl.own l.out).ext hx');rwa[tZ HN hx.out]at this
   cases hs:([x0]:List Int).contains a0 with
   |true=>
    rw[hs]at HH;have d:Hid (cK [x0] ((vs.map (·.1)).take (k+1))=cK [x0] ((vs.map (·.1)).take k)):=rC hx.out hs;clear hs;go_wp2_with fail;refine(HH _ (by exact .refl _)).mono ?_;rintro e w4 ⟨rfl,rfl⟩;go_wp2;go_roundw
    case rel=>exact⟨k+1,qq,m1,c,by omega,by go_num,rfl,by omega,by rw[d.out];exact l.out,hE,af,z⟩
    case measure=>simp[intOf];omega
   |false=>
    rw[hs]at HH;have d:Hid (cK [x0] ((vs.map (·.1)).take (k+1))=cK [x0] ((vs.map (·.1)).take k)++ [a0]):=oW hx.out hs;clear hs;go_wp2_with fail;refine(HH _ (by exact .refl _)).mono ?_;rintro e w4 ⟨rfl,rfl⟩;go_wp2_with (at_builtin;refine cI eV rfl _ _ rfl (w.heap.size+1) _ _ _ rfl (l.out.alloc _) _ _ a0 _ rfl (by simp) (by omega) (by simp;omega) ?_;intro p' ad w5 a g;have ah:=xQ a;have al:Ext w w5:=Ext.own (hE.alloc _) (l.out.alloc _) g (by omega);have aj:=pU l g z af;have ag:w.heap.size<w5.heap.size:=Nat.lt_of_lt_of_le z (by have:=g.size;simp at this;omega);clear a g);go_roundw
    case rel=>exact⟨k+1,p',m1+1,ad,by omega,by go_num,rfl,by omega,by rw[d.out];exact ah.out,al,aj,ag⟩
    case measure=>simp[intOf];omega
  have d:Hid (cK [x0] ((vs.map (·.1)).take k)=cK [x0] (vs.map (·.1))):=by show _=_;rw[List.take_of_length_le (by rw[List.length_map,hl.out];omega)]
  go_wp2;go_ret;exact cZ (by rw[←d.out];have:=l.out.1;simpa using this) (by rw[←d.out];exact bE l (Nat.le_succ _)) hE
theorem yL (h:aO)(p:OA)(n c:Nat)(q:OA)(m c2:Nat)(w:World)(hi:IsHouse w h p n c q m c2):
  Calls Tryz.prog 105 #[bK h p n c q m c2] w (aX (bV h) w):=by
 have HV:=fun(w':World) (hx:Ext w w')=>kF h p n c q m c2 w' (hi.ext hx)
 have t:=hi.vlen;have o:=hi.clen;cases hok:aT h with
 |false=>
  rw[hok]at HV;have e:bV h= []:=by unfold bV;rw[hok];rfl
  rw[e];exact aDd h.aA h.aB h.free h.step h.aE h.aF h.aC h.aG p n c q m c2 w HV
 |true=>
  rw[hok]at HV;have hh:=jD hok;have d:n≤12∧4≤n:=by have h1:=hh;unfold aM at h1;rw[Bool.and_eq_true]at h1;have:=bZ h1.1;omega
  obtain⟨d,s⟩:=d;have HC:=fun(w':World) (hx:Ext w w')=>by have:=aDc h.aA h.aB p n c h.cells w' (hi.cells.ext hx);rw[hh,if_pos rfl]at this;exact this
  rw[lJ hok];by_cases h0:(0:Int)∈h.cells
  ·rw[if_pos h0];have g:=(aB3 (jD hok)).2 h0;have e:cK [] (cJ h.cells)=cJ h.cells:=by simp[cK]
   rw[e];rw[o]at g;exact aAt h.aA h.aB h.free h.step h.aE h.aF h.aC h.aG p n c q m c2 (cJ h.cells) w d g HV HC
  rw[if_neg h0];obtain⟨b0,i,x0,hp,f,j,l⟩:=hi.cells.int_at (k:=0) (by omega)
  have r:h.cells.headD 0=x0:=by cases hc:h.cells with
   |nil=>rw[hc]at f;simp at f
   |cons a b=>rw[hc]at f;simpa using f
  rw[r];exact aAs h.aA h.aB h.free h.step h.aE h.aF h.aC h.aG p n c q m c2 (cJ h.cells) x0 b0 i w d hp (by have:=mt (aB3 (jD hok)).1 h0;have h2:=jA h.cells;rw[hU]at this⊢;omega) (by omega) j l HV HC
theorem xU (h:aO)(p:OA)(n c:Nat)(q:OA)(m c2:Nat)(w:World)(hi:IsHouse w h p n c q m c2):
  Calls Tryz.prog 107 #[bK h p n c q m c2] w (aX (bV h) w):=by
 have HV:=fun(w':World) (hx:Ext w w')=>kC h p n c q m c2 w' (hi.ext hx)
 have d:=hi.vlen;have r:=hi.clen;cases hok:aT h with
 |false=>
  rw[hok]at HV;have e:bV h= []:=by unfold bV;rw[hok];rfl
  rw[e];exact aC7 h.aA h.aB h.free h.step h.aE h.aF h.aC h.aG p n c q m c2 w HV
 |true=>
  rw[hok]at HV;have hh:=jD hok;have g:n≤12∧4≤n:=by have h1:=hh;unfold aM at h1;rw[Bool.and_eq_true]at h1;have:=bZ h1.1;omega
  obtain⟨g,s⟩:=g;have HF:=fun(w':World) (hx:Ext w w')=>by have:=aC2 h.aA h.aB p n c h.cells w' (hi.cells.ext hx);rw[hh,if_pos rfl]at this;exact this
  rw[lJ hok];by_cases h0:(0:Int)∈h.cells
  ·rw[if_pos h0];have hf:(lC h.cells).length≠0:=fun e=>(rN _).1 (List.eq_nil_of_length_eq_zero e) h0
   rw[←(lE hok).1];exact zW h.aA h.aB h.free h.step h.aE h.aF h.aC h.aG p n c q m c2 w h.vs (lC h.cells) (eC hok).1 (by rw[←d];exact(eC hok).2.1) hi.vs d hf HV HF
  rw[if_neg h0];obtain⟨b0,i,x0,hp,f,j,l⟩:=hi.cells.int_at (k:=0) (by omega)
  have o:h.cells.headD 0=x0:=by cases hc:h.cells with
   |nil=>rw[hc]at f;simp at f
   |cons a b=>rw[hc]at f;simpa using f
  rw[o];rw[←(lE hok).1];exact zV h.aA h.aB h.free h.step h.aE h.aF h.aC h.aG p n c q m c2 w h.vs (lC h.cells) (eC hok).1 (by rw[←d];exact(eC hok).2.1) hi.vs d (by rw[(rN _).2 h0];rfl) x0 b0 i hp (by omega) j l HV HF
end Go.Proofs.YtpelpnfhbepokaaGreatDoor
namespace Go.Proofs.YtpelpnfhbepokaaGreatDoor
open Go.RowKit
set_option linter.unusedVariables false
set_option linter.unusedSimpArgs false
abbrev TDd:TypeId:=44
abbrev Dd3:=Int×Int×Int
def bI (d:Dd3):List Value:= [.int .i64 d.1,.int .i64 d.2.1,.int .i64 d.2.2]
def dB (a:Int):Nat:=((a+299)/300).toNat
def jX (id a:Int)(i:Nat):Dd3:=(1,id,min (a-300*(i:Int)) 300)
def fO (id a:Int)(k:Nat):List Dd3:=(List.range k).map (jX id a)
def aZ (due:Int→Int)(ids:List Int):List Dd3:=ids.flatMap (fun id=>fO id (due id) (dB (due id))++ [(2,id,0)])
theorem jB (a:Int)(k:Nat):k<dB a↔0<a-300*(k:Int):=by unfold dB;omega
theorem oX (id a:Int)(k:Nat):fO id a (k+1)=fO id a k++ [jX id a k]:=by unfold fO;rw[List.range_succ,List.map_append];rfl
theorem aCj (id a:Int):fO id a 0= []:=rfl
theorem kE (id a:Int)(k:Nat):(fO id a k).length=k:=by unfold fO;simp
theorem oQ (a:Int→Int){b:List Int}{k:Nat}{x:Int}(hx:b[k]? =some x):aZ a (b.take (k+1))=aZ a (b.take k)++fO x (a x) (dB (a x))++ [(2,x,0)]:=by unfold aZ;rw[bA hx,List.flatMap_append];simp
theorem yV (a:Int→Int)(ids:List Int)(M:Nat)(h: ∀x∈ids,dB (a x)≤M):(aZ a ids).length≤ids.length*(M+1):=by
 unfold aZ;induction ids with
 |nil=>simp
 |cons x xs ih=>have h1:=h x (by simp);have h2:=ih (fun y hy=>h y (by simp[hy]));rw[List.flatMap_cons,List.length_append,List.length_append,kE];simp only[List.length_cons,List.length_nil];rw[Nat.add_mul xs.length 1,Nat.one_mul];omega
theorem aEl {w:World}{q:OA}{m c2:Nat}{ds:List Dd3}(h:Sl w q m c2 3 (ds.flatMap bI)){k:Nat}(hk:k<m):
  ∃b off a0 a1 a2,q=some ⟨b,off,none⟩∧ds[k]? =some (a0,a1,a2)∧b<w.heap.size∧w.cell? ⟨b,off+k*3,none⟩=some (.int .i64 a0)∧w.cell? ⟨b,off+k*3+1,none⟩=some (.int .i64 a1)∧w.cell? ⟨b,off+k*3+2,none⟩=some (.int .i64 a2):=by
 obtain⟨b,off,x,hp,hx,hb,hc⟩:=Sl.at_ (sz:=3) (f:=bI) (fun _=>rfl) h hk (by omega);obtain⟨a0,a1,a2⟩:=x;exact⟨b,off,a0,a1,a2,hp,hx,hb,hc 0 (by omega),hc 1 (by omega),hc 2 (by omega)⟩
def kU (ds:List Dd3)(w:World)(e:Ending)(w':World):Prop:=
 ∃p cap,e= .returned (.slice p ds.length cap)∧w'.ownsRow w.heap.size TDd 3 (.slice p ds.length cap) ds.length (ds.flatMap bI)∧Ext w w'
set_option maxHeartbeats 8000000
set_option maxRecDepth 100000
theorem aDo:ElT Tryz.prog 31 TDd 3:=
 ⟨Tryz.underlying31,by
  obtain⟨i,hi,h0,h1,h2⟩:=info_parts (show(Tryz.prog.info? TDd).map (fun i=>(i.zero,i.size,i.bytes))=some (some (.agg #[(),(),()]),3,24) by kernel_rfl)
  exact⟨i,_,hi,h0,h1,by omega,rfl⟩,by omega⟩
theorem mQ (ds:List Dd3): ∀u∈ds.flatMap bI,u.oneCell'=true:=by intro u hu;obtain⟨v,_,hv⟩:=List.mem_flatMap.1 hu;simp[bI]at hv;rcases hv with rfl|rfl|rfl<;>rfl
theorem aBq (id a:Int)(w:World)(ha:a≤10000)(l: -10000≤a):Calls Tryz.prog 108 #[id,a] w (kU (fO id a (dB a)) w):=by
 have ME:=((Mem.start w).made0 TDd 3 (w.heap.size) (by simp))
 have m:dB a≤40:=by unfold dB;omega
 go_enter Tryz.func108,Tryz.ntmps108;go_wp2;go_loopw [1,5] (fun x v wr=> ∃(k:Nat) (q:OA) (c:Nat) (X:Int),k≤dB a∧x= .int .i64 X∧v= .slice q k c∧(k<dB a→X=a-300*(k:Int))∧(dB a≤k→X≤0)∧Mem w wr [aJ w.heap.size TDd 3 (q) (k) (c) ((fO id a k).flatMap bI)]) (fun x _ _=>(intOf x).toNat)
 case atStart=>exact⟨0,some ⟨w.heap.size,0,none⟩,0,a,Nat.zero_le _,rfl,rfl,fun _=>by simp,fun h=>by have:=jB a 0;omega,ME⟩
 case round=>
  clear ME;obtain⟨k,q,c,X,hk,rfl,rfl,hX,d,hM⟩:=hrel;have HM:=hM;clear hM;by_cases hlt:k<dB a
  ·have b:=hX hlt;have e:=(jB a k).1 hlt;clear hX d;have hp:0<X:=by omega
   have j:X≤10000:=by omega
   have g:k+1<dB a→X-min X 300=a-300*((k+1:Nat):Int):=fun h=>by have:=(jB a (k+1)).1 h;omega
   have f:dB a≤k+1→X-min X 300≤0:=fun h=>by have:=jB a (k+1);omega
   have i:Hid (jX id a k=(1,id,min X 300)):=by show _=_;unfold jX;rw[b]
   have t0:decide (0<X)=true:=by simp[hp]
   have n:IntKind.i64.wrap (X-min X 300)=X-min X 300:=IntWalk.i64_in _ (by omega);clear b e;go_wp2_with (at_builtin;go_loud (refine cE aDo rfl _ _ rfl (HM.adv ((Ext.refl _).alloc (.cells #[.int .i64 1,id,(min X 300:Int)] TDd))) 0 rfl rfl (bI (1,id,min X 300)) rfl (dJ _ _ _ 1 3 _ (by simp[bI]) (by simp[bI]) (by simp[maxLen])) (fun u hu=>mQ [(1,id,min X 300)] u (by simpa using hu)) (by omega) ?_;intro q7 c7 w6 M6));have M7:=(show Mem w w6 [aJ w.heap.size TDd 3 (q7) (k+1) (c7) ((fO id a (k+1)).flatMap bI)]from by rw[oX,List.flatMap_append,i.out];simpa using M6)
   clear M6 HM;go_wp2;go_roundw
   case rel=>exact⟨k+1,q7,c7,X-min X 300,by omega,by go_num,rfl,g,f,M7⟩
   case measure=>simp[intOf];omega
  have b:=d (by omega);obtain rfl:k=dB a:=by omega
  have t0:decide (0<X)=false:=by simp;omega
  go_wp2;go_ret;have h1:=HM.ow 0;exact⟨q,c,by rw[kE];rfl,by rw[kE];exact h1,HM.ext⟩
theorem aIm (aA aB c f aE aF aC aG:Int)(p:OA)(n g:Nat)(q:OA)(m c2:Nat)(ids:List Int)(a:Int→Int)(w:World)(hl:ids.length≤1000)
  (HO:Hid (∀w',Ext w w'→Calls Tryz.prog 105 #[.agg #[aA,aB,.slice p n g,c,f,aE,aF,aC,aG,.slice q m c2]] w' (aX ids w')))
  (HD:Hid (∀x,x∈ids→ ∀w',Ext w w'→Calls Tryz.prog 106 #[.agg #[aA,aB,.slice p n g,c,f,aE,aF,aC,aG,.slice q m c2],x] w' fun e w''=>e= .returned (.int .i64 (a x))∧Ext w' w''))
  (hb:Hid (∀x∈ids,a x≤10000∧ -10000≤a x))(av:Hid (∀k,(aZ a (ids.take k)).length≤k*41)):
  Calls Tryz.prog 55 #[.agg #[aA,aB,.slice p n g,c,f,aE,aF,aC,aG,.slice q m c2]] w (kU (aZ a ids) w):=by
 go_enter Tryz.func55,Tryz.ntmps55;have MB:=((Mem.start w).c0 30 #[aA,aB,.slice p n g,c,f,aE,aF,aC,aG,.slice q m c2])
 go_wp2_with fail;refine(HO _ MB.ext).mono ?_;rintro e w1 ⟨q1,c1,rfl,o1,ae⟩;have M1:=((MB.call ae o1).call (Ext.refl _) (World.ownsRow_nil _ _ TDd 3))
 clear MB ae o1;go_wp2;go_loopw [3,10] (fun v i wr=> ∃(k:Nat) (q4:OA) (l c4:Nat),k≤ids.length∧i= .int .i64 (k:Int)∧v= .slice q4 l c4∧l=(aZ a (ids.take k)).length∧Mem w wr [aJ w.heap.size TDd 3 (q4) (l) (c4) ((aZ a (ids.take k)).flatMap bI),aJ w.heap.size TI 1 (q1) (ids.length) (c1) (ivs ids),aI w.heap.size (w.heap.size) 30 #[aA,aB,.slice p n g,c,f,aE,aF,aC,aG,.slice q m c2]]) (fun _ i _=>ids.length-(intOf i).toNat)
 case atStart=>exact⟨0,none,0,0,Nat.zero_le _,rfl,rfl,rfl,M1⟩
 case round=>
  clear M1;obtain⟨k,q4,l,c4,hk,rfl,rfl,s,hM⟩:=hrel;have HM:=hM;have y:=xQ s;clear hM;have a4:l≤k*41:=by rw[s];exact av.out k
  clear s;by_cases hlt:k<ids.length
  ·obtain⟨b,t,x,rfl,hx,au,hc⟩:=Sl.int_at (HM.sq 1) hlt;have HX:=xQ hx;have r:=xQ (List.mem_of_getElem? hx);have a2:=hb.out x r.out;clear hx;have i1:(0:Int)≤(k:Int):=by omega
   have i2:(k:Int)<(ids.length:Int):=by omega
   obtain⟨ai,aj,ak,al,am,an,ao,ap,aq,ar⟩:=(HM.bk 2).ten;go_wp2_with fail;clear ai aj ak al am an ao ap aq ar hc au;refine(HD x r.out _ HM.ext).mono ?_;rintro e w3 ⟨rfl,af⟩;have M3:=(HM.adv af)
   clear HM af;generalize aa:a x=D at*;have ag:=xQ aa;clear aa;have a3:dB D≤40:=by unfold dB;omega
   go_wp2;go_loopw [3,6] (fun v d wr=> ∃(j:Nat) (q5:OA) (l5 c5:Nat) (X:Int),j≤dB D∧d= .int .i64 X∧v= .slice q5 l5 c5∧l5=l+j∧X=D-300*(j:Int)∧Mem w wr [aJ w.heap.size TDd 3 (q5) (l5) (c5) ((aZ a (ids.take k)).flatMap bI++(fO x D j).flatMap bI),aJ w.heap.size TI 1 (some ⟨b,t,none⟩) (ids.length) (c1) (ivs ids),aI w.heap.size (w.heap.size) 30 #[aA,aB,.slice p n g,c,f,aE,aF,aC,aG,.slice q m c2]]) (fun _ d _=>(intOf d).toNat)
   case atStart=>exact⟨0,q4,l,c4,D,Nat.zero_le _,rfl,rfl,rfl,by simp,by simpa[aCj]using M3⟩
   case round=>
    clear M3;obtain⟨j,q5,l5,c5,X,hj,rfl,rfl,ab,hX,hM⟩:=hrel;have M4:=hM;have ah:=xQ hX;have o:=jB D j;have a0:X≤10000:=by omega
    have a1: -30000≤X:=by omega
    have z:=xQ ab;have az:l5≤l+40:=by omega
    clear hM ab;by_cases hjt:j<dB D
    ·have hp:0<X:=by have:=o.1 hjt;omega
     have ax:X-300=D-300*((j+1:Nat):Int):=by omega
     have ay:Hid (jX x D j=(1,x,min X 300)):=by show _=_;unfold jX;rw[←ah.out]
     have t0:decide (0<X)=true:=by simp[hp]
     have a5:IntKind.i64.wrap (X-300)=X-300:=IntWalk.i64_in _ (by omega);clear hX o;go_wp2_with (at_builtin;go_loud (refine cE aDo rfl _ _ rfl (M4.adv ((Ext.refl _).alloc (.cells #[.int .i64 1,x,(min X 300:Int)] TDd))) 0 rfl rfl (bI (1,x,(min X 300))) rfl (dJ _ _ _ 1 3 _ (by simp[bI]) (by simp[bI]) (by simp[maxLen])) (fun u hu=>mQ [(1,x,(min X 300))] u (by simpa using hu)) (by omega) ?_;intro q7 c7 w6 M6));have M7:=(show Mem w w6 [aJ w.heap.size TDd 3 (q7) (l5+1) (c7) ((aZ a (ids.take k)).flatMap bI++(fO x D (j+1)).flatMap bI),aJ w.heap.size TI 1 (some ⟨b,t,none⟩) (ids.length) (c1) (ivs ids),aI w.heap.size (w.heap.size) 30 #[aA,aB,.slice p n g,c,f,aE,aF,aC,aG,.slice q m c2]]from by rw[oX,List.flatMap_append,ay.out];simpa[List.append_assoc]using M6)
     clear M6 M4;go_wp2;go_roundw
     case rel=>exact⟨j+1,q7,l5+1,c7,X-300,by omega,by go_num,rfl,by have:=z.out;omega,ax,M7⟩
     case measure=>simp[intOf];omega
    obtain rfl:j=dB D:=by omega
    have t0:decide (0<X)=false:=by have: ¬0<X:=fun h=>hjt (o.2 (by omega));simp;omega
    clear hX o hjt;go_wp2_with (at_builtin;go_loud (refine cE aDo rfl _ _ rfl (M4.adv ((Ext.refl _).alloc (.cells #[.int .i64 2,x,()] TDd))) 0 rfl rfl (bI (2,x,0)) rfl (dJ _ _ _ 1 3 _ (by simp[bI]) (by simp[bI]) (by simp[maxLen])) (fun u hu=>mQ [(2,x,0)] u (by simpa using hu)) (by omega) ?_;intro q7 c7 w6 M6));have ad:Hid (aZ a (ids.take (k+1))=aZ a (ids.take k)++fO x D (dB D)++ [(2,x,0)]):=by show _=_;rw[oQ a HX.out,ag.out]
    have M7:=(show Mem w w6 [aJ w.heap.size TDd 3 (q7) (l5+1) (c7) ((aZ a (ids.take (k+1))).flatMap bI),aJ w.heap.size TI 1 (some ⟨b,t,none⟩) (ids.length) (c1) (ivs ids),aI w.heap.size (w.heap.size) 30 #[aA,aB,.slice p n g,c,f,aE,aF,aC,aG,.slice q m c2]]from by rw[ad.out];simpa[List.flatMap_append,List.append_assoc]using M6)
    have aw:Hid (l5+1=(aZ a (ids.take (k+1))).length):=by show _=_;rw[ad.out,List.length_append,List.length_append,kE,←y.out,z.out];rfl
    clear M6 M4;go_wp2;go_roundw
    case rel=>exact⟨k+1,q7,l5+1,c7,by omega,by go_num,rfl,aw.out,M7⟩
    case measure=>simp[intOf];omega
  obtain rfl:k=ids.length:=by omega
  go_wp2;go_ret;have h1:=HM.ow 0;have h2:=y.out;rw[List.take_length]at h1 h2;subst h2;exact⟨q4,c4,rfl,h1,HM.ext⟩
theorem aHe (aA aB d f aE aF aC aG:Int)(p:OA)(n g:Nat)(q:OA)(m c2:Nat)(ids:List Int)(a:Int→Int)(w:World)(hl:ids.length≤1000)
  (HO:Hid (∀w',Ext w w'→Calls Tryz.prog 107 #[.agg #[aA,aB,.slice p n g,d,f,aE,aF,aC,aG,.slice q m c2]] w' (aX ids w')))
  (HD:Hid (∀x,x∈ids→ ∀w',Ext w w'→Calls Tryz.prog 109 #[.agg #[aA,aB,.slice p n g,d,f,aE,aF,aC,aG,.slice q m c2],x] w' fun e w''=>e= .returned (.int .i64 (a x))∧Ext w' w''))
  (aj:Hid (∀x,x∈ids→ ∀w',Calls Tryz.prog 108 #[x,(a x:Int)] w' fun e w''=> ∃q c,e= .returned (.slice q (dB (a x)) c)∧w''.ownsRow w'.heap.size TDd 3 (.slice q (dB (a x)) c) (dB (a x)) ((fO x (a x) (dB (a x))).flatMap bI)∧Ext w' w''))
  (hb:Hid (∀x∈ids,a x≤10000∧ -10000≤a x))(ao:Hid (∀k,(aZ a (ids.take k)).length≤k*41)):
  Calls Tryz.prog 56 #[.agg #[aA,aB,.slice p n g,d,f,aE,aF,aC,aG,.slice q m c2]] w (kU (aZ a ids) w):=by
 go_enter Tryz.func56,Tryz.ntmps56;have MB:=(((Mem.start w).c0 30 #[aA,aB,.slice p n g,d,f,aE,aF,aC,aG,.slice q m c2]).made0 TDd 3 (w.heap.size+1) (by simp))
 go_wp2_with fail;refine(HO _ MB.ext).mono ?_;rintro e w1 ⟨q1,c1,rfl,o1,ae⟩;have M0:=(MB.call ae o1)
 have M1:=(show Mem w w1 [aJ w.heap.size TDd 3 (some ⟨w.heap.size+1,0,none⟩) (0) (0) ([]),aJ w.heap.size TI 1 (q1) (ids.length) (c1) (ivs ids),aI w.heap.size (w.heap.size) 30 #[aA,aB,.slice p n g,d,f,aE,aF,aC,aG,.slice q m c2]]from(M0.pick [1,0,2] (by decide) rfl))
 clear MB M0 ae o1;go_wp2;go_loopw [3,5] (fun v i wr=> ∃(k:Nat) (q4:OA) (l c4:Nat),k≤ids.length∧i= .int .i64 (k:Int)∧v= .slice q4 l c4∧l=(aZ a (ids.take k)).length∧Mem w wr [aJ w.heap.size TDd 3 (q4) (l) (c4) ((aZ a (ids.take k)).flatMap bI),aJ w.heap.size TI 1 (q1) (ids.length) (c1) (ivs ids),aI w.heap.size (w.heap.size) 30 #[aA,aB,.slice p n g,d,f,aE,aF,aC,aG,.slice q m c2]]) (fun _ i _=>ids.length-(intOf i).toNat)
 case atStart=>exact⟨0,some ⟨w.heap.size+1,0,none⟩,0,0,Nat.zero_le _,rfl,rfl,rfl,M1⟩
 case round=>
  clear M1;obtain⟨k,q4,l,c4,hk,rfl,rfl,r,hM⟩:=hrel;have HM:=hM;have t:=xQ r;clear hM;have a5:l≤k*41:=by rw[r];exact ao.out k
  clear r;by_cases hlt:k<ids.length
  ·obtain⟨b,af,x,rfl,hx,o,hc⟩:=Sl.int_at (HM.sq 1) hlt;have HX:=xQ hx;have h:=xQ (List.mem_of_getElem? hx);have a3:=hb.out x h.out;clear hx;have i1:(0:Int)≤(k:Int):=by omega
   have i2:(k:Int)<(ids.length:Int):=by omega
   obtain⟨ar,au,av,aw,ax,ay,az,a0,a1,a2⟩:=(HM.bk 2).ten;have ag:=xQ (HD x h.out);have ai:=xQ (aj x h.out);generalize z:a x=D at*;have ah:=xQ z;clear z;have a4:dB D≤40:=by unfold dB;omega
   generalize aa:dB D=C at*;have ak:=xQ aa;clear aa;go_wp2
   go_region_law ((first
    |(go_simp;go_at_call 109
      refine(ag _ (HM.ext.trans xE)).mono ?_;rintro e w3 ⟨rfl,j⟩;(try replace j:=j.of_drew);have M3:=(HM.adv j)
      have am:=(j.cells.1 _ _ o).trans hc
      have y:b<w3.heap.size:=Nat.lt_of_lt_of_le o j.sz)
    |(go_simp;go_at_call 108
      refine(ai _).mono ?_;rintro e w4 ⟨q5,c5,rfl,o5,s⟩;(try replace s:=s.of_drew)
      have M4:=(M3.call s o5))
    |(refine fL aDo (by rfl) _ _ (by rfl) (M4.adv xE) 1 (by rfl) (by rfl) ((fO x D C).flatMap bI) (by rfl) ((M4.sq 0).ext xE) (mQ _) (by omega) ?_
      intro q7 c7 w6 M6)))
   all_goals (
    have ab:Hid (aZ a (ids.take (k+1))=aZ a (ids.take k)++fO x D C++ [(2,x,0)]):=by show _=_;rw[oQ a HX.out,ah.out,ak.out]
    have MA:=(show Mem w w6 [aJ w.heap.size TDd 3 (q7) (l+C) (c7) ((aZ a (ids.take k)).flatMap bI++(fO x D C).flatMap bI),aJ w.heap.size TI 1 (some ⟨b,af,none⟩) (ids.length) (c1) (ivs ids),aI w.heap.size (w.heap.size) 30 #[aA,aB,.slice p n g,d,f,aE,aF,aC,aG,.slice q m c2]]from(M6.pick [1,2,3] (by decide) rfl))
    obtain⟨b',aq,x',e1,ad,al,an⟩:=Sl.int_at (MA.sq 1) hlt;cases e1
    obtain rfl:x=x':=by have:=HX.out;rw[ad]at this;exact(Option.some.inj this).symm
    clear M6 M4 M3 HM ad hc o;(try clear am y);go_wp2_with (at_builtin;go_loud (refine cE aDo rfl _ _ rfl (MA.adv ((Ext.refl _).alloc (.cells #[.int .i64 2,x,()] TDd))) 0 rfl rfl (bI (2,x,0)) rfl (dJ _ _ _ 1 3 _ (by simp[bI]) (by simp[bI]) (by simp[maxLen])) (fun u hu=>mQ [(2,x,0)] u (by simpa using hu)) (by omega) ?_;intro q8 c8 w8 M8));have ap:Hid (l+C+1=(aZ a (ids.take (k+1))).length):=by show _=_;rw[ab.out,List.length_append,List.length_append,kE,←t.out];rfl
    have M9:=(show Mem w w8 [aJ w.heap.size TDd 3 (q8) (l+C+1) (c8) ((aZ a (ids.take (k+1))).flatMap bI),aJ w.heap.size TI 1 (some ⟨b,af,none⟩) (ids.length) (c1) (ivs ids),aI w.heap.size (w.heap.size) 30 #[aA,aB,.slice p n g,d,f,aE,aF,aC,aG,.slice q m c2]]from by rw[ab.out];simpa[List.flatMap_append,List.append_assoc]using M8)
    clear M8 MA an al;go_wp2;go_roundw
    case rel=>exact⟨k+1,q8,l+C+1,c8,by omega,by go_num,rfl,ap.out,M9⟩
    case measure=>simp[intOf];omega)
  obtain rfl:k=ids.length:=by omega
  go_wp2;go_ret;have h1:=HM.ow 0;have h2:=t.out;rw[List.take_length]at h1 h2;subst h2;exact⟨q4,c4,rfl,h1,HM.ext⟩
end Go.Proofs.YtpelpnfhbepokaaGreatDoor
namespace Go.Proofs.YtpelpnfhbepokaaGreatDoor
open Go.RowKit
set_option linter.unusedVariables false
set_option linter.unusedSimpArgs false
structure XS (R g:Nat) (t:TypeId) (cs:Array Value) (w w':World):Prop where
 os:w'.os=w.os
 tape:w'.tape=w.tape
 output:w'.output=w.output
 size:w.heap.size≤w'.heap.size
 block: ∀i,i<w.heap.size→i≠R→i≠g→w'.heap[i]? =w.heap[i]?
 put:g<w.heap.size→w'.heap[g]? =w.heap[g]? ∨Blk w' g t cs
theorem XS.blk {R g:Nat}{t:TypeId}{cs:Array Value}{w w':World}(h:XS R g t cs w w')(hb:Blk w g t cs):Blk w' g t cs:=by
 rcases h.put hb.lt with h1|h1
 ·unfold Blk at*;rw[h1];exact hb
 exact h1
theorem XS.trans {R g:Nat}{t:TypeId}{cs:Array Value}{a b c:World}(h:XS R g t cs a b)(k:XS R g t cs b c):XS R g t cs a c:=
 ⟨k.os.trans h.os,k.tape.trans h.tape,k.output.trans h.output,Nat.le_trans h.size k.size,fun i hi h1 h2=>(k.block i (Nat.lt_of_lt_of_le hi h.size) h1 h2).trans (h.block i hi h1 h2),fun hg=>by
  rcases h.put hg with h1|h1
  ·rcases k.put (Nat.lt_of_lt_of_le hg h.size)with k1|k1
   ·exact .inl (k1.trans h1)
   exact .inr k1
  ·exact .inr (k.blk h1)⟩
theorem XS.other {R g a:Nat}{t t':TypeId}{cs b:Array Value}{w w':World}(h:XS R g t cs w.drew w')(hb:Blk w a t' b)(h1:a≠R)(h2:a≠g):Blk w' a t' b:=by have:=h.block a hb.lt h1 h2;unfold Blk at*;rw[this];exact hb
section
variable {R:Nat} {w0 w w':World} {L:List Item}
end
end Go.Proofs.YtpelpnfhbepokaaGreatDoor
namespace Go.Proofs.YtpelpnfhbepokaaGreatDoor
open Go.RowKit
set_option linter.unusedVariables false
set_option linter.unusedSimpArgs false
set_option maxHeartbeats 8000000
set_option maxRecDepth 100000
def rW (w:World)(e:Ending)(w':World):Prop:=
 ∃(h:aO) (p:OA) (cap:Nat) (q:OA) (c2:Nat),e= .returned (bK h p h.cells.length cap q h.vs.length c2)∧h.cells.length≤13∧h.vs.length≤13∧IsHouse w' h p h.cells.length cap q h.vs.length c2∧Ext w w'
theorem yY (v:Value)(w:World)(hc:Code w v):Calls Tryz.prog 19 #[v] w (rW w):=by
 go_enter Tryz.func19,Tryz.ntmps19;go_wp2_with fail;refine(sM v _ (hc.ext xE)).mono ?_;rintro e w1 ⟨R,rfl,hR,r1,x1⟩;have M1:=(((Mem.start w).c0 aL zT).adv x1)
 have g:=M1.hi 0;clear x1;go_wp2_with fail;refine(pX R 0 9 _ r1 (by omega) (by omega) (by omega)).mono ?_;rintro e w2 ⟨h,p,b,q,c2,rfl,d,f,ho,hv,r2,x2⟩;have u:w.heap.size<R:=by have:=hR;simp at this;omega
 have X2:Ext w w2:=ExtR.new M1.ext x2 (by omega);have B2:Blk w2 w.heap.size aL #[(),(),((),()),(),(),(),(),(),(),((),())]:=x2.blk (M1.bk 0) (by omega);have l2:=B2.lt;obtain⟨z0,i,z1,j,z2,k,z3,l,z4,m,z5,n,z6,o,z7,r,z8,s,z9,t⟩:=B2.tenf;go_wp2;generalize c:World.setCell _ _ _=w9;obtain⟨Y9,a⟩:=B2.putr c;have X9:Ext w w9:=ExtR.new X2 a (Nat.le_refl _);have o9:w9.ownsRow w1.heap.size TI 1 (.slice p h.cells.length b) h.cells.length (ivs h.cells):=ho.kept a (.inr (tG ho B2 (by decide)));have v9:w9.ownsRow w1.heap.size TV 4 (.slice q h.vs.length c2) h.vs.length (h.vs.flatMap aD):=hv.kept a (.inr (tG hv B2 (by decide)));clear c a z0 i z1 j z2 k z3 l z4 m z5 n z6 o z7 r z8 s z9 t;obtain⟨y0,y1,y2,y3,y4,y5,y6,y7,y8,y9⟩:=Y9.ten;exact bodyPost_ret (v:= .agg #[h.aA,h.aB,.slice p h.cells.length b,h.free,h.step,h.aE,h.aF,h.aC,h.aG,.slice q h.vs.length c2]) (by simp[results,Tryz.results19,go_sem, *]) rfl ⟨h,p,b,q,c2,rfl,d,f,⟨Sl.own o9,Sl.own v9⟩,X9⟩
end Go.Proofs.YtpelpnfhbepokaaGreatDoor
