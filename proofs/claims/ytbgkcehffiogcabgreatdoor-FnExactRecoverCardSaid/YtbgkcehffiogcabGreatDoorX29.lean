/-
  Texts of this proof, packed (@packed).
-/
import Derived.Test.YtbgkcehffiogcabGreatDoorX28
namespace Go.Proofs.YtbgkcehffiogcabGreatDoor
open Go.RowKit
set_option linter.unusedSimpArgs false
set_option linter.unusedVariables false
set_option maxHeartbeats 8000000
set_option maxRecDepth 100000
section
open Go.Proofs.Tryz
theorem aRb (h:aS)(p:OA)(a:Nat)(q:OA)(c2:Nat)(lq:OA)(lm lc:Nat)(ds:List Dd3)(w:World)
  (b:xC 16 #[.agg #[h.aA,h.aB,.slice p h.cells a,h.free,h.step,h.aE,h.aF,h.aC,h.aG,.slice q h.vs c2]] w fun w' e w''=>e= .returned (Value.bool false)∧Ext w' w''):
  U 19 #[.agg #[h.aA,h.aB,.slice p h.cells a,h.free,h.step,h.aE,h.aF,h.aC,h.aG,.slice q h.vs c2],.slice lq lm lc] w (qD w (hZ,[]) w):=by
 go_enter func19,ntmps19;go_wp2_with fail;refine Ω (b _ (((Mem.start w).c0 aN #[h.aA,h.aB,.slice p h.cells a,h.free,h.step,h.aE,h.aF,h.aC,h.aG,.slice q h.vs c2]).c1 aN zT).ext) fun w1 d=>?_
 have M1:=((((Mem.start w).c0 aN #[h.aA,h.aB,.slice p h.cells a,h.free,h.step,h.aE,h.aF,h.aC,h.aG,.slice q h.vs c2]).c1 aN zT).adv d)
 clear d b;obtain⟨f0,f,f1,g,f2,j,f3,k,f4,l,f5,m,f6,n,f7,o,f8,r,f9,s⟩:=(M1.bk 0).tenf;go_wp2;clear f0 f f1 g f2 j f3 k f4 l f5 m f6 n f7 o f8 r f9 s;have M2:=(M1.put10 (i:=0) rfl (I 0) (I 0) (.slice none 0 0) (I 0) (I 0) (I 0) (I 0) (I 0) (I 0) (.slice none 0 0))
 generalize c:World.setCell _ _ _=wz;rw[c]at M2;clear c M1;obtain⟨y0,y1,y2,y3,y4,y5,y6,y7,y8,y9⟩:=(M2.bk 0).ten;exact bodyPost_ret (v:= .tuple #[.agg #[(),(),((),()),(),(),(),(),(),(),((),())],((),())]) (by simp[results,results19,go_sem, *]) rfl (show qD w (hZ,[]) w _ _ from⟨none,0,none,0,none,0,rfl,aTl _ _ _ _,aTl _ _ _ _,aTl _ _ _ _,M2.ext⟩)
theorem aSr (h:aS)(p:OA)(a:Nat)(q:OA)(c2:Nat)(lq:OA)(lm lc:Nat)(ds:List Dd3)(w:World)(hb:lm≤1048576)(hE:Hid (BitTab w))(s:Hid (ds.length=lm))(a9:Hid (bJ h=true))(HS:Hid (Sl w lq lm lc 3 (ds.flatMap eU)))
  (y:xB 16 #[.agg #[h.aA,h.aB,.slice p h.cells a,h.free,h.step,h.aE,h.aF,h.aC,h.aG,.slice q h.vs c2]] w true)
  (HL:xC 50 #[.agg #[h.aA,h.aB,.slice p h.cells a,h.free,h.step,h.aE,h.aF,h.aC,h.aG,.slice q h.vs c2]] w fun w' e w''=> ∃p' cap' q' c2',e= .returned (.agg #[h.aA,h.aB,.slice p' h.cells cap',h.free,h.step,h.aE,h.aF,h.aC,h.aG,.slice q' h.vs c2'])∧w''.ownsRow w' TI 1 (.slice p' h.cells cap') h.cells.length (ivs h.cells)∧w''.ownsRow w' TV 4 (.slice q' h.vs c2') h.vs.length (h.vs.flatMap aD)∧Ext w' w''):
  U 19 #[.agg #[h.aA,h.aB,.slice p h.cells a,h.free,h.step,h.aE,h.aF,h.aC,h.aG,.slice q h.vs c2],.slice lq lm lc] w (qD w (tV h ds,gK h ds) w):=by
 have a6:=HS.out.bd;obtain⟨AB,o⟩: ∃AB:Array Value,AB=madeCells #[.bool false] lm:=⟨_,rfl⟩
 have a8: ∀w:World,(Instr.makeSlice 47 (I lm) (I lm)).run prog w= .ok (.slice (some ⟨w,0,none⟩) lm lm) (w.alloc (.cells AB TB)):=fun w=>by rw[o];exact run_make_row' _ _ (Value.bool false) 1 underlying47 (by kernel_rfl) rfl .i64 .i64 lm (by omega) (by omega) w
 have z:Hid (AB.toList=bcs []++List.replicate (lm-0) (Value.bool false)):=by show _=_;rw[o,(oS _ lm).1];simp[bcs]
 have aa:Hid (AB.size=lm):=by show _=_;rw[o];exact(oS _ lm).2
 clear o a6;go_enter func19,ntmps19;go_wp2_with fail;refine Ω (y _ (((Mem.start w).c0 aN #[h.aA,h.aB,.slice p h.cells a,h.free,h.step,h.aE,h.aF,h.aC,h.aG,.slice q h.vs c2]).c1 aN zT).ext) fun w1 af=>?_
 have M1:=((((Mem.start w).c0 aN #[h.aA,h.aB,.slice p h.cells a,h.free,h.step,h.aE,h.aF,h.aC,h.aG,.slice q h.vs c2]).c1 aN zT).adv af)
 clear af y;obtain⟨ah,ai,aj,ak,al,am,an,ao,ap,aq⟩:=(M1.bk 1).ten;go_wp2_with fail;clear ah ai aj ak al am an ao ap aq;refine(HL _ M1.ext).mono ?_;rintro e w2 ⟨p1,l,q1,m,rfl,ho,hq,hx⟩;have M2:=(M1.own2 hx ho hq (aT2 _) (by decide))
 clear M1 hx ho hq HL;go_upto_region 4 with fail;obtain⟨gV,u⟩: ∃gV,gV=w2.heap.size:=⟨_,rfl⟩
 rw[←u];have M3:=(M2.blkNew aN #[h.aA,h.aB,.slice p1 h.cells l,h.free,h.step,h.aE,h.aF,h.aC,h.aG,.slice q1 h.vs m] gV u.symm)
 generalize World.alloc _ _=w3 at M3⊢;clear M2 u;go_upto_region 5 with fail;obtain⟨gD,t⟩: ∃gD,gD=w3.heap.size:=⟨_,rfl⟩
 rw[←t]
 have MD:=(show Mem w (w3.alloc (.cells AB TB)) [aJ w TB 1 (some ⟨gD,0,none⟩) (lm) (lm) (bcs ([])++List.replicate (lm-0) (Value.bool false)),aI w (gV) aN (aVr h p1 l q1 m),aVp w p1 h.cells l,aVq w q1 h.vs m,aI w (w.heap.size+1) aN #[(),(),((),()),(),(),(),(),(),(),((),())],aI w w aN (aVr h p a q c2)]from by
  have h1:=M3.lit TB 1 lm gD AB t.symm (by rw[aa.out];omega) (by simp[maxLen];omega);rw[z.out]at h1
  exact h1)
 generalize ae:World.alloc _ _=w4;rw[ae]at MD;clear ae z aa a8 t M3;go_wp2;go_loopw [21] (fun i wr=> ∃(k:Nat) (g:aS) (p3:OA) (c3:Nat) (q3:OA) (d3:Nat),k≤lm∧i=I k∧g=tV h (ds.take k)∧Mem w wr [aJ w TB 1 (some ⟨gD,0,none⟩) (lm) (lm) (bcs (gK h (ds.take k))++List.replicate (lm-k) (Value.bool false)),aVp w p3 g.cells c3,aVq w q3 g.vs d3,aI w (gV) aN (aVr g p3 c3 q3 d3),aI w (w.heap.size+1) aN #[(),(),((),()),(),(),(),(),(),(),((),())],aI w w aN (aVr h p a q c2)]) (fun i _=>lm-(intOf i).toNat)
 case atStart=>exact⟨0,h,p1,l,q1,m,aT8 _,rfl,rfl,(show Mem w w4 [aJ w TB 1 (some ⟨gD,0,none⟩) (lm) (lm) (bcs ([])++List.replicate (lm-0) (Value.bool false)),aVp w p1 h.cells l,aVq w q1 h.vs m,aI w (gV) aN (aVr h p1 l q1 m),aI w (w.heap.size+1) aN #[(),(),((),()),(),(),(),(),(),(),((),())],aI w w aN (aVr h p a q c2)]from MD.pick [0,2,3,1,4,5] (by decide) rfl)⟩
 case round=>
  clear MD;obtain⟨k,g,p3,c3,q3,d3,hk,rfl,hg,hM⟩:=hrel;have HM:=hM;have HG:=xQ hg;have x:Hid (bJ g=true):=by show _=_;rw[hg];exact aE2 _ a9.out
  clear hM hg;by_cases hlt:k<lm
  ·obtain⟨b,bp,a0,a1,a2,a7,hx,bo,e0,e1,e2⟩:=aKq (HS.out.ext HM.ext) hlt;subst a7;have HX:=xQ hx;clear hx;have i1:(0:Int)≤(k:Int):=by omega
   have i2:(k:Int)<(lm:Int):=by omega
   obtain⟨r,num,ok,hr⟩: ∃r num ok,(r,num,ok)=doR g a0 a1 a2:=⟨_,_,_,rfl⟩
   have HR:=xQ hr;clear hr;have ad:Hid (tV h (ds.take (k+1))=r∧gK h (ds.take (k+1))=gK h (ds.take k)++ [ok]):=by show _∧_;rw[aZ HX.out,aCc,aAw,←HG.out,←HR.out];exact⟨rfl,rfl⟩
   have HD:Hid (∀B p c q d w',B≤w'.heap.size→Ext wr w'→IsHouse w' g p g.cells.length c q g.vs.length d→U 51 #[.agg #[g.aA,g.aB,.slice p g.cells c,g.free,g.step,g.aE,g.aF,g.aC,g.aG,.slice q g.vs d],.agg #[a0,a1,a2]] w' fun e w''=> ∃pa ca qa da,e= .returned (.tuple #[.agg #[r.aA,r.aB,.slice pa r.cells ca,r.free,r.step,r.aE,r.aF,r.aC,r.aG,.slice qa r.vs da],num,.bool ok])∧w''.ownsRow B TI 1 (.slice pa r.cells ca) r.cells.length (ivs r.cells)∧w''.ownsRow B TV 4 (.slice qa r.vs da) r.vs.length (r.vs.flatMap aD)∧Ext w' w''):=fun B p c q d w' hB hx hi=>by refine(aH7 g a0 a1 a2 p _ c q _ d w' hi x (hE.out.ext (HM.ext.trans hx))).mono (fun e w'' hr=> ?_);have hq:=aKd hB x hr;rw[←HR.out]at hq;exact hq
   have IX:=xQ (show IsHouse wr g p3 g.cells.length c3 q3 g.vs.length d3 from⟨(HM.sq 1),(HM.sq 2)⟩);have f:gV<wr:=(HM.hi 3)
   obtain⟨v0,v1,v2,v3,v4,v5,v6,v7,v8,v9⟩:=(HM.bk 3).ten;go_wp2_with fail;clear v0 v1 v2 v3 v4 v5 v6 v7 v8 v9 e0 e1 e2;refine(HD _ _ _ _ _ _ (aT2 _) ((Ext.refl _).alloc _) (IX.out.ext ((Ext.refl _).alloc _))).mono ?_;rintro e w6 ⟨p5,c5,q5,d5,rfl,ho,hq,hx⟩;have M6:=((HM.c0 TDd #[a0,a1,a2]).own2 hx ho hq (aT2 _) (by decide))
   clear HM f hx ho hq HD IX;obtain⟨v0,bb,v1,bc,v2,be,v3,bf,v4,bg,v5,bh,v6,bi,v7,bj,v8,bl,v9,bm⟩:=(M6.bk 6).tenf;have ag: ¬(gD=gV):=M6.ne (i:=3) (j:=6) (by omega) rfl rfl rfl rfl;have ba: ¬(gV=gD):=fun h=>ag h.symm
   have fD:w6.frozen? ⟨gD,k,none⟩=false:=(M6.ow 3).frozenAt k;have ab:(bcs (gK h (ds.take k))).length=k:=by rw[aRn,sR,aTq,s.out];omega
   have cD:w6.cell? ⟨gD,k,none⟩=some (Value.bool false):=by have:=(M6.ow 3).cellAt k (by omega);rw[this];exact aRk ab hlt
   go_wp2;clear v0 bb v1 bc v2 be v3 bf v4 bg v5 bh v6 bi v7 bj v8 bl v9 bm ag ba fD cD;have M9:=((M6.put10 (i:=6) rfl (I r.aA) (I r.aB) (.slice p5 r.cells c5) (I r.free) (I r.step) (I r.aE) (I r.aF) (I r.aC) (I r.aG) (.slice q5 r.vs d5)).ostore (i:=3) rfl k (Value.bool ok))
   generalize n:World.setCell _ _ _=wz;rw[n]at M9;clear n M6;go_roundw
   case rel=>
    have hd:(bcs (gK h (ds.take k))++List.replicate (lm-k) (Value.bool false)).set k (Value.bool ok)=bcs (gK h (ds.take (k+1)))++List.replicate (lm-(k+1)) (Value.bool false):=by rw[ad.out.2,aHv];exact aQ5 ab hlt
    exact⟨k+1,r,p5,c5,q5,d5,by omega,by go_num,ad.out.1.symm,by rw[←hd];exact(show Mem w wz [aJ w TB 1 (some ⟨gD,0,none⟩) (lm) (lm) ((bcs (gK h (ds.take k))++List.replicate (lm-k) (Value.bool false)).set k (Value.bool ok)),aVp w p5 r.cells c5,aVq w q5 r.vs d5,aI w (gV) aN (aVr r p5 c5 q5 d5),aI w (w.heap.size+1) aN #[(),(),((),()),(),(),(),(),(),(),((),())],aI w w aN (aVr h p a q c2)]from(show Mem w wz [aVp w p5 r.cells c5,aVq w q5 r.vs d5,aI w wr TDd #[a0,a1,a2],aJ w TB 1 (some ⟨gD,0,none⟩) (lm) (lm) ((bcs (gK h (ds.take k))++List.replicate (lm-k) (Value.bool false)).set k (Value.bool ok)),aVp w p3 g.cells c3,aVq w q3 g.vs d3,aI w (gV) aN (aVr r p5 c5 q5 d5),aI w (w.heap.size+1) aN #[(),(),((),()),(),(),(),(),(),(),((),())],aI w w aN (aVr h p a q c2)]from M9).pick [3,0,1,6,7,8] (by decide) rfl)⟩
   case measure=>simp[intOf];omega
  obtain rfl:lm=k:=by omega
  have f:gV<wr:=(HM.hi 3)
  obtain⟨v0,v1,v2,v3,v4,v5,v6,v7,v8,v9⟩:=(HM.bk 3).ten;obtain⟨f0,ar,f1,au,f2,av,f3,aw,f4,ax,f5,ay,f6,az,f7,a3,f8,a4,f9,a5⟩:=(HM.bk 4).tenf;go_wp2;clear v0 v1 v2 v3 v4 v5 v6 v7 v8 v9 f0 ar f1 au f2 av f3 aw f4 ax f5 ay f6 az f7 a3 f8 a4 f9 a5 f;have M6:=(HM.put10 (i:=4) rfl (I g.aA) (I g.aB) (.slice p3 g.cells c3) (I g.free) (I g.step) (I g.aE) (I g.aF) (I g.aC) (I g.aG) (.slice q3 g.vs d3))
  generalize n:World.setCell _ _ _=wz;rw[n]at M6;clear n HM;obtain⟨y0,y1,y2,y3,y4,y5,y6,y7,y8,y9⟩:=(M6.bk 4).ten;exact bodyPost_ret (v:= .tuple #[.agg #[g.aA,g.aB,.slice p3 g.cells c3,g.free,g.step,g.aE,g.aF,g.aC,g.aG,.slice q3 g.vs d3],.slice (some ⟨gD,0,none⟩) lm lm]) (by simp[results,results19,go_sem, *]) rfl (aKc (by have h1:=HG.out;rw[aT7 (by rw[s.out];exact aT2 _)]at h1;exact h1) s.out (M6.ow 1) (M6.ow 2) (by have h1:=(M6.ow 0);rw[aT7 (by rw[s.out];exact aT2 _),aUr,List.replicate_zero,aTy]at h1;exact h1) M6.ext)
theorem aEt (h:aS)(p:OA)(n a:Nat)(q:OA)(m c2:Nat)(lq:OA)(lm lc:Nat)(ds:List Dd3)(w:World)(hi:IsHouse w h p n a q m c2)(hS:Sl w lq lm lc 3 (ds.flatMap eU))(hb:lm≤1048576)(hE:BitTab w):
  U 19 #[cY h p n a q m c2,.slice lq lm lc] w (qD w (aG8 h ds) w):=by
 have hl:=hi.clen;have c:=hi.vlen;have b:ds.length=lm:=by have:=hS.len;rw[eA eU 3 (fun _=>rfl)]at this;omega
 subst hl c;have HV:=xQ fun(w':World) (hx:Ext w w')=>mZ h p _ a q _ c2 w' (hi.ext hx)
 by_cases hok:bJ h=true
 ·have d:=kL hok;unfold aG8;rw[if_pos hok];rw[hok]at HV;have HL:=xQ fun(w':World) (hx:Ext w w')=>tP h p _ a q _ c2 w' (by omega) (by omega) (hi.ext hx)
  unfold RetHouse at HL;exact aSr h p a q c2 lq lm lc ds w hb hE b hok hS HV HL
 unfold aG8;rw[if_neg hok];rw[show bJ h=false by simpa using hok]at HV;exact aRb h p a q c2 lq lm lc ds w HV
def kY (p:List UInt8):Nat→Int
 |0=> -1
 |k+1=>if p=bX k then k else kY p k
theorem wR (p:List UInt8):kY p 5=(jU p).getD (-1):=by
 cases h:jU p with
 |none=>obtain⟨n1,n2,n3,n4,n5⟩:=rC h;simp only[beq_eq_false_iff_ne,ne_eq]at n1 n2 n3 n4 n5;simp[kY,bX,n1,n2,n3,n4,n5]
 |some k=>rcases fY h with⟨rfl,rfl⟩|⟨rfl,rfl⟩|⟨rfl,rfl⟩|⟨rfl,rfl⟩|⟨rfl,rfl⟩<;>decide
theorem aAc {p:List UInt8}{k:Nat}(h:p=bX k):kY p (k+1)=k:=by simp[kY,h]
theorem aEd {p:List UInt8}{k:Nat}(h:p≠bX k):kY p (k+1)=kY p k:=by simp[kY,h]
theorem uC {W0 wr:World}{B:Nat}(hg:W0.grownBy wr (some B))(o:Nat)(v:Value):W0.grownBy (wr.setCell ⟨B,o,none⟩ v) (some B):=
 ⟨hg.os,hg.tape,hg.output,by simpa using hg.size,fun k hk hne=>by rw[aVh _ _ _ _ (fun e=>hne (by simp[e]))];exact hg.block k hk hne⟩
theorem lT {W0 wr:World}{r:Option Nat}(hg:W0.grownBy wr r):W0.grownBy wr.drew r:=⟨hg.os,hg.tape,hg.output,hg.size,hg.block⟩
theorem pX {w W0 wr:World}{B:Nat}(h:Ext w W0)(hg:W0.grownBy wr (some B))(hB:w.heap.size≤B):Ext w wr:=h.grown hg (fun k hk=>by simp at hk;omega)
theorem h1' {w w1:World}{o o2:Obj}(h:Ext (w.alloc o) w1):Ext w (w1.alloc o2):=(((Ext.refl w).alloc o).trans h).alloc o2
theorem aLb (l:List UInt8)(w:World)(ps:List (List UInt8))(n:Nat)(p t:List UInt8)(hn:n=1)(af:1≤n)(ag:n≤1099511627777)
  (u:ps[0]? =some p)
  (HS:Hid (∀w,U 55 #[str l,.int .u8 32] w fun e w'=> ∃v,e= .returned v∧w'.ownsRow w 9 1 v n (eQ ps)∧Ext w w'))
  (HD:Hid (∀w,U 70 #[dL (kY p 5) 0 0] w (Z (str t) w))):
  U 98 #[str l] w (nP (if l≠ []∧t=l then some (kY p 5,0,0)else none) w):=by
  obtain⟨o,ho⟩: ∃o:Option (Int×Int×Int),(if l≠ []∧t=l then some (kY p 5,0,0)else none)=o:=⟨_,rfl⟩
  rw[ho];have HO:=xQ ho;clear ho;go_enter func98,ntmps98;go_wp2_with fail;refine(HS _).mono ?_;rintro e w1 ⟨v,rfl,a,h1⟩;obtain⟨g,ab,rfl⟩:=aTc a (by omega);have e0:=aW a 0 (by omega) _ u;have hg:=(a.lt g rfl).2;have c:(w:Nat)<w1:=aT1 (by simp) h1.sz;have ae:w.heap.size<g:=aT1 (by simp) (a.lt g rfl).1;obtain⟨m,q⟩:=h1.cells;clear a;go_wp2;go_loopw [6] (fun i wr=> ∃k:Nat,k≤5∧i=I k∧wr.heap[w1.heap.size]? =some (.cells #[(kY p k:Int),(),()] 76 (0,0))∧(w1.alloc (.cells #[(-1:Int),(),()] 76)).grownBy wr (some w1)) (fun i _=>5-(intOf i).toNat)
  case atStart=>exact⟨0,by omega,rfl,by rw[heap_alloc_new];rfl,aUh _ _⟩
  case round=>
   obtain⟨k,hk,rfl,hB,b⟩:=hrel;have b0:wr.cell? ⟨w1,0,none⟩=some (I (kY p k)):=aUq hB 0;have b1:wr.cell? ⟨w1,1,none⟩=some (I 0):=aUq hB 1;have b2:wr.cell? ⟨w1,2,none⟩=some (I 0):=aUq hB 2;have u0:=aUj hB 0;have u1:=aUj hB 1;have u2:=aUj hB 2;have HG:=xQ b;have h:=xQ hB;have x:=b.size;simp only[aVk]at x;have g0:wr.cell? ⟨g,0,none⟩=some (str p):=b.cell (by rw[aUg _ _ _ (by simpa using hg)];exact e0) (by simp;omega);have r0: ∀j,j<3→wr.cell? ⟨w,j,none⟩=some (I 0):=fun j hj=>b.cell (by rw[aUg _ _ _ (by simpa using c),m _ _ (by simp)];rcases(show j=0∨j=1∨j=2 by omega)with rfl|rfl|rfl<;>simp) (by simp;omega)
   have r1: ∀j,wr.frozen? ⟨w,j,none⟩=false:=fun j=>by rw[aV5 (w:=w1.alloc (.cells #[(-1:Int),(),()] 76)) (b.block _ (by simp;omega) (by simp;omega)),aV5 (aVo _ _ _ (by simpa using c)),q _ _ (by simp)];simp
   have ah:=r0 0 (by omega);have ai:=r0 1 (by omega);have aj:=r0 2 (by omega);have ak:=r1 0;have al:=r1 1;have am:=r1 2;clear b hB r0 r1 m q e0;by_cases hlt:k<5
   ·by_cases hpk:p=bX k
    ·have hb:(p==bX (k:Int))=true:=by simp[hpk]
     have d:=xQ hpk;clear hpk;go_wp2;go_region_held3 (fun w'=>w'.cell? ⟨g,0,none⟩=some (str p)) (go_keep) ((go_at_call 116;refine(iY k _ (by omega)).mono ?_;rintro e w2 ⟨rfl,rfl⟩));all_goals go_wp2
     all_goals go_roundw
     all_goals first
      |(case rel=>exact⟨k+1,by omega,by go_num,by rw[aAc d.out];exact aVn h.out _,uC (lT HG.out) _ _⟩)
      |(case measure=>simp[intOf];omega)
    have hb:(p==bX (k:Int))=false:=by simp[hpk]
    have d:=xQ hpk;clear hpk;go_wp2;go_region_held3 (fun w'=>w'.cell? ⟨g,0,none⟩=some (str p)) (go_keep) ((go_at_call 116;refine(iY k _ (by omega)).mono ?_;rintro e w2 ⟨rfl,rfl⟩));all_goals go_wp2
    all_goals go_roundw
    all_goals first
     |(case rel=>exact⟨k+1,by omega,by go_num,by rw[aEd d.out];exact h.out,lT HG.out⟩)
     |(case measure=>simp[intOf];omega)
   obtain rfl:k=5:=by omega
   have ad:Ext w wr:=pX (h1' h1) HG (by omega);by_cases h0:l= []
   ·have hl:l.isEmpty=true:=by simp[h0]
    obtain rfl:none=o:=by have e:=HO.out;rwa[if_neg (by simp[h0])]at e
    clear h0;go_wp2;exact bodyPost_ret (v:=rdV none) (by simp[results,results98,go_sem, *];rfl) rfl ⟨rfl,xE⟩
   have hl:l.isEmpty=false:=by simp[h0]
   by_cases hh:t=l
   ·have ht:(t==l)=true:=by simp[hh]
    obtain rfl:some (kY p 5,0,0)=o:=by have e:=HO.out;rwa[if_pos ⟨h0,hh⟩]at e
    clear h0 hh;go_wp2_with fail;refine Ω (HD _) fun w2 h2=>?_
    obtain⟨r,s⟩:=h2.cells;have f:(w1:Nat)<w2:=aT1 (by first|omega|(simp;omega)) h2.sz;have y:(w:Nat)<w2:=aUw c f;have z:(w1:Nat)<wr:=by omega
    have aa:(w:Nat)<wr:=by omega
    go_wp2;exact bodyPost_ret (v:=rdV (some (_,0,0))) (by simp[results,results98,go_sem, *];rfl) rfl ⟨rfl,xE⟩
   have ht:(t==l)=false:=by simp[hh]
   obtain rfl:none=o:=by have e:=HO.out;rwa[if_neg (by simp[hh])]at e
   clear h0 hh;go_wp2_with fail;refine Ω (HD _) fun w2 h2=>?_
   obtain⟨r,s⟩:=h2.cells;have f:(w1:Nat)<w2:=aT1 (by first|omega|(simp;omega)) h2.sz;have y:(w:Nat)<w2:=aUw c f;have z:(w1:Nat)<wr:=by omega
   have aa:(w:Nat)<wr:=by omega
   go_wp2;exact bodyPost_ret (v:=rdV none) (by simp[results,results98,go_sem, *];rfl) rfl ⟨rfl,xE⟩
theorem aLa (l:List UInt8)(w:World)(ps:List (List UInt8))(n:Nat)(p q t:List UInt8)(a:Int)(hn:n=2)(ai:1≤n)(aj:n≤1099511627777)
  (y:ps[0]? =some p) (z:ps[1]? =some q)
  (HS:Hid (∀w,U 55 #[str l,.int .u8 32] w fun e w'=> ∃v,e= .returned v∧w'.ownsRow w 9 1 v n (eQ ps)∧Ext w w'))
  (HR:Hid (∀w,U 57 #[str q] w fun e w'=>e= .returned (I a)∧w=w'))
  (HD:Hid (∀w,U 70 #[dL (kY p 5) a 0] w (Z (str t) w))):
  U 98 #[str l] w (nP (if l≠ []∧t=l then some (kY p 5,a,0)else none) w):=by
  obtain⟨o,ho⟩: ∃o:Option (Int×Int×Int),(if l≠ []∧t=l then some (kY p 5,a,0)else none)=o:=⟨_,rfl⟩
  rw[ho];have HO:=xQ ho;clear ho;go_enter func98,ntmps98;go_wp2_with fail;refine(HS _).mono ?_;rintro e w1 ⟨v,rfl,b,h1⟩;obtain⟨g,af,rfl⟩:=aTc b (by omega);have e0:=aW b 0 (by omega) _ y;have e1:=aW b 1 (by omega) _ z;have hg:=(b.lt g rfl).2;have d:(w:Nat)<w1:=aT1 (by simp) h1.sz;have ah:w.heap.size<g:=aT1 (by simp) (b.lt g rfl).1;obtain⟨r,s⟩:=h1.cells;clear b;go_wp2;go_loopw [6] (fun i wr=> ∃k:Nat,k≤5∧i=I k∧wr.heap[w1.heap.size]? =some (.cells #[(kY p k:Int),(),()] 76 (0,0))∧(w1.alloc (.cells #[(-1:Int),(),()] 76)).grownBy wr (some w1)) (fun i _=>5-(intOf i).toNat)
  case atStart=>exact⟨0,by omega,rfl,by rw[heap_alloc_new];rfl,aUh _ _⟩
  case round=>
   obtain⟨k,hk,rfl,hB,c⟩:=hrel;have b0:wr.cell? ⟨w1,0,none⟩=some (I (kY p k)):=aUq hB 0;have b1:wr.cell? ⟨w1,1,none⟩=some (I 0):=aUq hB 1;have b2:wr.cell? ⟨w1,2,none⟩=some (I 0):=aUq hB 2;have u0:=aUj hB 0;have u1:=aUj hB 1;have u2:=aUj hB 2;have HG:=xQ c;have m:=xQ hB;have aa:=c.size;simp only[aVk]at aa;have g0:wr.cell? ⟨g,0,none⟩=some (str p):=c.cell (by rw[aUg _ _ _ (by simpa using hg)];exact e0) (by simp;omega);have g1:wr.cell? ⟨g,1,none⟩=some (str q):=c.cell (by rw[aUg _ _ _ (by simpa using hg)];exact e1) (by simp;omega);have r0: ∀j,j<3→wr.cell? ⟨w,j,none⟩=some (I 0):=fun j hj=>c.cell (by rw[aUg _ _ _ (by simpa using d),r _ _ (by simp)];rcases(show j=0∨j=1∨j=2 by omega)with rfl|rfl|rfl<;>simp) (by simp;omega)
   have r1: ∀j,wr.frozen? ⟨w,j,none⟩=false:=fun j=>by rw[aV5 (w:=w1.alloc (.cells #[(-1:Int),(),()] 76)) (c.block _ (by simp;omega) (by simp;omega)),aV5 (aVo _ _ _ (by simpa using d)),s _ _ (by simp)];simp
   have ak:=r0 0 (by omega);have al:=r0 1 (by omega);have am:=r0 2 (by omega);have an:=r1 0;have ao:=r1 1;have ap:=r1 2;clear c hB r0 r1 r s e0;by_cases hlt:k<5
   ·by_cases hpk:p=bX k
    ·have hb:(p==bX (k:Int))=true:=by simp[hpk]
     have f:=xQ hpk;clear hpk;go_wp2;go_region_held3 (fun w'=>w'.cell? ⟨g,0,none⟩=some (str p)) (go_keep) ((go_at_call 116;refine(iY k _ (by omega)).mono ?_;rintro e w2 ⟨rfl,rfl⟩));all_goals go_wp2
     all_goals go_roundw
     all_goals first
      |(case rel=>exact⟨k+1,by omega,by go_num,by rw[aAc f.out];exact aVn m.out _,uC (lT HG.out) _ _⟩)
      |(case measure=>simp[intOf];omega)
    have hb:(p==bX (k:Int))=false:=by simp[hpk]
    have f:=xQ hpk;clear hpk;go_wp2;go_region_held3 (fun w'=>w'.cell? ⟨g,0,none⟩=some (str p)) (go_keep) ((go_at_call 116;refine(iY k _ (by omega)).mono ?_;rintro e w2 ⟨rfl,rfl⟩));all_goals go_wp2
    all_goals go_roundw
    all_goals first
     |(case rel=>exact⟨k+1,by omega,by go_num,by rw[aEd f.out];exact m.out,lT HG.out⟩)
     |(case measure=>simp[intOf];omega)
   obtain rfl:k=5:=by omega
   have ag:Ext w wr:=pX (h1' h1) HG (by omega);go_wp2_with fail;refine(HR _).mono ?_;rintro e w2 ⟨rfl,rfl⟩;by_cases h0:l= []
   ·have hl:l.isEmpty=true:=by simp[h0]
    obtain rfl:none=o:=by have e:=HO.out;rwa[if_neg (by simp[h0])]at e
    clear h0;go_wp2;exact bodyPost_ret (v:=rdV none) (by simp[results,results98,go_sem, *];rfl) rfl ⟨rfl,xE⟩
   have hl:l.isEmpty=false:=by simp[h0]
   by_cases hh:t=l
   ·have ht:(t==l)=true:=by simp[hh]
    obtain rfl:some (kY p 5,a,0)=o:=by have e:=HO.out;rwa[if_pos ⟨h0,hh⟩]at e
    clear h0 hh;go_wp2_with fail;refine Ω (HD _) fun w2 h2=>?_
    obtain⟨u,x⟩:=h2.cells;have h:(w1:Nat)<w2:=aT1 (by first|omega|(simp;omega)) h2.sz;have ab:(w:Nat)<w2:=aUw d h;have ad:(w1:Nat)<wr:=by omega
    have ae:(w:Nat)<wr:=by omega
    go_wp2;exact bodyPost_ret (v:=rdV (some (_,a,0))) (by simp[results,results98,go_sem, *];rfl) rfl ⟨rfl,xE⟩
   have ht:(t==l)=false:=by simp[hh]
   obtain rfl:none=o:=by have e:=HO.out;rwa[if_neg (by simp[hh])]at e
   clear h0 hh;go_wp2_with fail;refine Ω (HD _) fun w2 h2=>?_
   obtain⟨u,x⟩:=h2.cells;have h:(w1:Nat)<w2:=aT1 (by first|omega|(simp;omega)) h2.sz;have ab:(w:Nat)<w2:=aUw d h;have ad:(w1:Nat)<wr:=by omega
   have ae:(w:Nat)<wr:=by omega
   go_wp2;exact bodyPost_ret (v:=rdV none) (by simp[results,results98,go_sem, *];rfl) rfl ⟨rfl,xE⟩
theorem aL9 (l:List UInt8)(w:World)(ps:List (List UInt8))(n:Nat)(p q r t:List UInt8)(a b:Int)(hn:3≤n)(am:1≤n)(an:n≤1099511627777)
  (ab:ps[0]? =some p) (ad:ps[1]? =some q) (ae:ps[2]? =some r)
  (HS:Hid (∀w,U 55 #[str l,.int .u8 32] w fun e w'=> ∃v,e= .returned v∧w'.ownsRow w 9 1 v n (eQ ps)∧Ext w w'))
  (HR:Hid (∀w,U 57 #[str q] w fun e w'=>e= .returned (I a)∧w=w'))
  (y:Hid (∀w,U 57 #[str r] w fun e w'=>e= .returned (I b)∧w=w'))
  (HD:Hid (∀w,U 70 #[dL (kY p 5) a b] w (Z (str t) w))):
  U 98 #[str l] w (nP (if l≠ []∧t=l then some (kY p 5,a,b)else none) w):=by
  obtain⟨o,ho⟩: ∃o:Option (Int×Int×Int),(if l≠ []∧t=l then some (kY p 5,a,b)else none)=o:=⟨_,rfl⟩
  rw[ho];have HO:=xQ ho;clear ho;go_enter func98,ntmps98;go_wp2_with fail;refine(HS _).mono ?_;rintro e w1 ⟨v,rfl,c,h1⟩;obtain⟨g,aj,rfl⟩:=aTc c (by omega);have ao:(0:Int)<(n:Int):=by omega
  have ap:0<n:=by omega
  have e0:=aW c 0 (by omega) _ ab;have e1:=aW c 1 (by omega) _ ad;have e2:=aW c 2 (by omega) _ ae;have hg:=(c.lt g rfl).2;have f:(w:Nat)<w1:=aT1 (by simp) h1.sz;have al:w.heap.size<g:=aT1 (by simp) (c.lt g rfl).1;obtain⟨u,x⟩:=h1.cells;clear c;go_wp2;go_loopw [6] (fun i wr=> ∃k:Nat,k≤5∧i=I k∧wr.heap[w1.heap.size]? =some (.cells #[(kY p k:Int),(),()] 76 (0,0))∧(w1.alloc (.cells #[(-1:Int),(),()] 76)).grownBy wr (some w1)) (fun i _=>5-(intOf i).toNat)
  case atStart=>exact⟨0,by omega,rfl,by rw[heap_alloc_new];rfl,aUh _ _⟩
  case round=>
   obtain⟨k,hk,rfl,hB,d⟩:=hrel;have b0:wr.cell? ⟨w1,0,none⟩=some (I (kY p k)):=aUq hB 0;have b1:wr.cell? ⟨w1,1,none⟩=some (I 0):=aUq hB 1;have b2:wr.cell? ⟨w1,2,none⟩=some (I 0):=aUq hB 2;have u0:=aUj hB 0;have u1:=aUj hB 1;have u2:=aUj hB 2;have HG:=xQ d;have s:=xQ hB;have af:=d.size;simp only[aVk]at af;have g0:wr.cell? ⟨g,0,none⟩=some (str p):=d.cell (by rw[aUg _ _ _ (by simpa using hg)];exact e0) (by simp;omega);have g1:wr.cell? ⟨g,1,none⟩=some (str q):=d.cell (by rw[aUg _ _ _ (by simpa using hg)];exact e1) (by simp;omega);have g2:wr.cell? ⟨g,2,none⟩=some (str r):=d.cell (by rw[aUg _ _ _ (by simpa using hg)];exact e2) (by simp;omega);have r0: ∀j,j<3→wr.cell? ⟨w,j,none⟩=some (I 0):=fun j hj=>d.cell (by rw[aUg _ _ _ (by simpa using f),u _ _ (by simp)];rcases(show j=0∨j=1∨j=2 by omega)with rfl|rfl|rfl<;>simp) (by simp;omega)
   have r1: ∀j,wr.frozen? ⟨w,j,none⟩=false:=fun j=>by rw[aV5 (w:=w1.alloc (.cells #[(-1:Int),(),()] 76)) (d.block _ (by simp;omega) (by simp;omega)),aV5 (aVo _ _ _ (by simpa using f)),x _ _ (by simp)];simp
   have aq:=r0 0 (by omega);have ar:=r0 1 (by omega);have au:=r0 2 (by omega);have av:=r1 0;have aw:=r1 1;have ax:=r1 2;clear d hB r0 r1 u x e0;by_cases hlt:k<5
   ·by_cases hpk:p=bX k
    ·have hb:(p==bX (k:Int))=true:=by simp[hpk]
     have h:=xQ hpk;clear hpk;go_wp2;go_region_held3 (fun w'=>w'.cell? ⟨g,0,none⟩=some (str p)) (go_keep) ((go_at_call 116;refine(iY k _ (by omega)).mono ?_;rintro e w2 ⟨rfl,rfl⟩));all_goals go_wp2
     all_goals go_roundw
     all_goals first
      |(case rel=>exact⟨k+1,by omega,by go_num,by rw[aAc h.out];exact aVn s.out _,uC (lT HG.out) _ _⟩)
      |(case measure=>simp[intOf];omega)
    have hb:(p==bX (k:Int))=false:=by simp[hpk]
    have h:=xQ hpk;clear hpk;go_wp2;go_region_held3 (fun w'=>w'.cell? ⟨g,0,none⟩=some (str p)) (go_keep) ((go_at_call 116;refine(iY k _ (by omega)).mono ?_;rintro e w2 ⟨rfl,rfl⟩));all_goals go_wp2
    all_goals go_roundw
    all_goals first
     |(case rel=>exact⟨k+1,by omega,by go_num,by rw[aEd h.out];exact s.out,lT HG.out⟩)
     |(case measure=>simp[intOf];omega)
   obtain rfl:k=5:=by omega
   have ak:Ext w wr:=pX (h1' h1) HG (by omega);go_wp2_with fail;refine(HR _).mono ?_;rintro e w2 ⟨rfl,rfl⟩;go_wp2_with fail;refine(y _).mono ?_;rintro e w2 ⟨rfl,rfl⟩;by_cases h0:l= []
   ·have hl:l.isEmpty=true:=by simp[h0]
    obtain rfl:none=o:=by have e:=HO.out;rwa[if_neg (by simp[h0])]at e
    clear h0;go_wp2;exact bodyPost_ret (v:=rdV none) (by simp[results,results98,go_sem, *];rfl) rfl ⟨rfl,xE⟩
   have hl:l.isEmpty=false:=by simp[h0]
   by_cases hh:t=l
   ·have ht:(t==l)=true:=by simp[hh]
    obtain rfl:some (kY p 5,a,b)=o:=by have e:=HO.out;rwa[if_pos ⟨h0,hh⟩]at e
    clear h0 hh;go_wp2_with fail;refine Ω (HD _) fun w2 h2=>?_
    obtain⟨z,aa⟩:=h2.cells;have m:(w1:Nat)<w2:=aT1 (by first|omega|(simp;omega)) h2.sz;have ag:(w:Nat)<w2:=aUw f m;have ah:(w1:Nat)<wr:=by omega
    have ai:(w:Nat)<wr:=by omega
    go_wp2;exact bodyPost_ret (v:=rdV (some (_,a,b))) (by simp[results,results98,go_sem, *];rfl) rfl ⟨rfl,xE⟩
   have ht:(t==l)=false:=by simp[hh]
   obtain rfl:none=o:=by have e:=HO.out;rwa[if_neg (by simp[hh])]at e
   clear h0 hh;go_wp2_with fail;refine Ω (HD _) fun w2 h2=>?_
   obtain⟨z,aa⟩:=h2.cells;have m:(w1:Nat)<w2:=aT1 (by first|omega|(simp;omega)) h2.sz;have ag:(w:Nat)<w2:=aUw f m;have ah:(w1:Nat)<wr:=by omega
   have ai:(w:Nat)<wr:=by omega
   go_wp2;exact bodyPost_ret (v:=rdV none) (by simp[results,results98,go_sem, *];rfl) rfl ⟨rfl,xE⟩
end
theorem aA9 (q:List UInt8)(hq:q.length≤maxLen)(w:World):U 57 #[str q] w fun e w'=>e= .returned (I ((bH 4 q).getD (-1)))∧w=w':=
 aAa ⟨q.toArray⟩ w (by simpa[ByteArray.size]using hq)
theorem pE (l:List UInt8)(d:Int×Int×Int)(h:kF (aK 32 l)=d):nG l=if l≠ []∧aY d.1 d.2.1 d.2.2=l then some d else none:=by unfold nG;rw[h]
theorem aDo (l:List UInt8)(w:World)(hs:l.length≤1099511627776):U 98 #[str l] w (nP (cG l) w):=by
 rw[←aFu]
 have hS: ∀w,U 55 #[str l,.int .u8 32] w fun e w'=> ∃v,e= .returned v∧w'.ownsRow w 9 1 v (aK 32 l).length (eQ (aK 32 l))∧Ext w w':=
  fun w=>lQ ⟨l.toArray⟩ 32 32 rfl w (by simpa[ByteArray.size]using hs)
 have f:=eC 32 l;have d:(aK 32 l).length≤1099511627777:=by omega
 have c: ∀q∈aK 32 l,Hid (∀w,U 57 #[str q] w fun e w'=>e= .returned (I ((bH 4 q).getD (-1)))∧w=w'):=
  fun q hq w=>aA9 q (by have:=f.1 q hq;unfold maxLen;omega) w
 have hD: ∀k a b,Hid (∀w,U 70 #[dL k a b] w (Z (str (aY k a b)) w)):=fun k a b w=>zL k a b w
 rcases hc:aK 32 l with _|⟨p,_|⟨q,_|⟨r,g⟩⟩⟩
 ·exact absurd hc (eN 32 l)
 ·rw[pE l (kY p 5,0,0) (by rw[hc,wR];rfl)];rw[hc]at hS c;exact aLb l w [p] 1 p _ rfl (by omega) (by omega) rfl hS (hD _ _ _)
 ·rw[pE l (kY p 5,(bH 4 q).getD (-1),0) (by rw[hc,wR];rfl)];rw[hc]at hS c;exact aLa l w [p,q] 2 p q _ _ rfl (by omega) (by omega) rfl rfl hS (c q (by simp)) (hD _ _ _)
 rw[pE l (kY p 5,(bH 4 q).getD (-1),(bH 4 r).getD (-1)) (by rw[hc,wR];rfl)];rw[hc]at hS c d;exact aL9 l w (p::q::r::g) _ p q r _ _ _ (by simp) (by simp) d rfl rfl rfl hS (c q (by simp)) (c r (by simp)) (hD _ _ _)
section
open Go.Proofs.Tryz
theorem mU (x:UInt8)(c:UInt8):((x.toNat:Int)==(c.toNat:Int))=decide (x=c):=by
 by_cases h:x=c
 ·simp[h]
 simp only[h,decide_false,beq_eq_false_iff_ne,ne_eq];intro q;exact h (UInt8.toNat_inj.1 (by omega))
theorem iI (s:ByteArray)(k:Nat)(h:k<s.size):s.data.toList[k]? =some s[k]:=by rw[aT3 (by simpa using h)];rfl
theorem sJ {c:UInt8}{l:List UInt8}{e k:Nat}(h:jP c l=some e)(hk:k<e):l[k]? ≠some c:=by intro q;have:=(fX h).2.2;exact this (by rw[List.mem_take_iff_getElem];obtain⟨h1,h2⟩:=aT6.1 q;exact⟨k,by omega,h2⟩)
theorem aLy {c:UInt8}{l:List UInt8}{k:Nat}(h:jP c l=none):l[k]? ≠some c:=by intro q;have hm:=aT4 q;unfold jP at h;rw[if_pos hm]at h;simp at h
theorem aIh (s:ByteArray)(w:World)(hs:s.size≤4294967280)(hp:jP 59 s.data.toList=none):
  U 58 #[.string s] w (mN none w):=by
 have a:Hid (∀k (h:k<s.size),((s[k].toNat:Int)!=59)=true):=by intro k h;have:=aLy (k:=k) hp;rw[iI s k h]at this;rw[bne,show(59:Int)=((59:UInt8).toNat:Int)from rfl,mU];simpa using this
 go_enter func58,ntmps58;go_wp2;go_loop [5] (fun i=> ∃k:Nat,k≤s.size∧i=I k) (fun i=>s.size-(intOf i).toNat)
 case atStart=>exact⟨0,aT8 _,rfl⟩
 case round=>
  obtain⟨k,hk,rfl⟩:=hrel;by_cases hlt:k<s.size
  ·have hb:=a k hlt;go_wp2;go_round
   case rel=>exact⟨k+1,by omega,by go_num⟩
   case measure=>simp[intOf];omega
  obtain rfl:k=s.size:=by omega
  go_wp2;exact bodyPost_ret (v:=reV none) (by simp[results,results58,go_sem];rfl) rfl ⟨rfl,xE⟩
theorem aLk (s:ByteArray)(e n1 n2:Nat)(ps qs:List (List UInt8))(b:List UInt8)(w:World)(hs:s.size≤4294967280)(hp:jP 59 s.data.toList=some e)
  (h1:1≤n1)(hb:ps[0]? =some b) (h2:1≤n2) (o:((n2:Int)!=2)=true) (t:n2≤4294967281)
  (HC:Hid (∀w,U 55 #[.string (s.extract 0 e),.int .u8 35] w fun q w'=> ∃v,q= .returned v∧w'.ownsRow w 9 1 v n1 (eQ ps)∧Ext w w'))
  (d:Hid (∀w,U 55 #[str b,.int .u8 58] w fun q w'=> ∃v,q= .returned v∧w'.ownsRow w 9 1 v n2 (eQ qs)∧Ext w w')):
  U 58 #[.string s] w (mN none w):=by
 have j:e<s.size:=by have:=(fX hp).1;rwa[cH]at this
 have c:Hid (∀k (h:k<e) (h2:k<s.size),((s[k].toNat:Int)!=59)=true):=by intro k h h2;have:=sJ hp h;rw[iI s k h2]at this;rw[bne,show(59:Int)=((59:UInt8).toNat:Int)from rfl,mU];simpa using this
 have f:((s[e].toNat:Int)!=59)=false:=by have:=(fX hp).2.1;rw[iI s e j]at this;rw[bne,show(59:Int)=((59:UInt8).toNat:Int)from rfl,mU];simpa using this
 go_enter func58,ntmps58;go_wp2;go_loop [5] (fun i=> ∃k:Nat,k≤e∧i=I k) (fun i=>e-(intOf i).toNat)
 case atStart=>exact⟨0,aT8 _,rfl⟩
 case round=>
  obtain⟨k,hk,rfl⟩:=hrel;by_cases hlt:k<e
  ·have l:k<s.size:=by omega
   have hb:=c k hlt l;clear f;go_wp2;go_round
   case rel=>exact⟨k+1,by omega,by go_num⟩
   case measure=>simp[intOf];omega
  obtain rfl:k=e:=by omega
  have x:((k:Int)==(s.size:Int))=false:=by simp;omega
  go_wp2_with fail;refine(HC _).mono ?_;rintro q w1 ⟨v,rfl,a,h1⟩;obtain⟨g,n,rfl⟩:=aTc a (by omega);have e0:=aW a 0 (by omega) _ hb;clear a;have u:0<n1:=by omega
  go_wp2_with fail;refine(d _).mono ?_;rintro q w2 ⟨v,rfl,a,h2⟩;obtain⟨g2,m,rfl⟩:=aTc a (by omega);clear a;replace h2:=h1.trans h2;clear h1 e0;obtain⟨p,r⟩:=h2.cells;go_wp2;exact bodyPost_ret (v:=reV none) (by simp[results,results58,go_sem, *];rfl) rfl ⟨rfl,xE⟩
theorem aIi (s:ByteArray)(e n1:Nat)(ps:List (List UInt8))(b:List UInt8)(w:World)(hs:s.size≤4294967280)(hp:jP 59 s.data.toList=some e)
  (h1:1≤n1)(hb:ps[0]? =some b) (f r:List UInt8) (n:Int)
  (HC:Hid (∀w,U 55 #[.string (s.extract 0 e),.int .u8 35] w fun q w'=> ∃v,q= .returned v∧w'.ownsRow w 9 1 v n1 (eQ ps)∧Ext w w'))
  (d:Hid (∀w,U 55 #[str b,.int .u8 58] w fun q w'=> ∃v,q= .returned v∧w'.ownsRow w 9 1 v 2 (eQ [f,r])∧Ext w w'))
  (HR:Hid (∀w,U 57 #[str f] w fun q w'=>q= .returned (I n)∧w=w'))
  (HD:Hid (∀w,U 98 #[str r] w (Z (.tuple #[dL 0 0 0,.bool false]) w))):
  U 58 #[.string s] w (mN (none) w):=by
 have l:e<s.size:=by have:=(fX hp).1;rwa[cH]at this
 have c:Hid (∀k (h:k<e) (h2:k<s.size),((s[k].toNat:Int)!=59)=true):=by intro k h h2;have:=sJ hp h;rw[iI s k h2]at this;rw[bne,show(59:Int)=((59:UInt8).toNat:Int)from rfl,mU];simpa using this
 have j:((s[e].toNat:Int)!=59)=false:=by have:=(fX hp).2.1;rw[iI s e l]at this;rw[bne,show(59:Int)=((59:UInt8).toNat:Int)from rfl,mU];simpa using this
 go_enter func58,ntmps58;go_wp2;go_loop [5] (fun i=> ∃k:Nat,k≤e∧i=I k) (fun i=>e-(intOf i).toNat)
 case atStart=>exact⟨0,aT8 _,rfl⟩
 case round=>
  obtain⟨k,hk,rfl⟩:=hrel;by_cases hlt:k<e
  ·have m:k<s.size:=by omega
   have hb:=c k hlt m;clear j;go_wp2;go_round
   case rel=>exact⟨k+1,by omega,by go_num⟩
   case measure=>simp[intOf];omega
  obtain rfl:k=e:=by omega
  have y:((k:Int)==(s.size:Int))=false:=by simp;omega
  go_wp2_with fail;refine(HC _).mono ?_;rintro q w1 ⟨v,rfl,a,h1⟩;obtain⟨g,p,rfl⟩:=aTc a (by omega);have e0:=aW a 0 (by omega) _ hb;clear a;have x:0<n1:=by omega
  go_wp2_with fail;refine(d _).mono ?_;rintro q w2 ⟨v,rfl,a,h2⟩;obtain⟨g2,o,rfl⟩:=aTc a (by omega);have e1:=aW a 0 (by omega) _ rfl;have e2:=aW a 1 (by omega) _ rfl;clear a;replace h2:=h1.trans h2;clear h1 e0;go_wp2_with fail;refine(HR _).mono ?_;rintro q w3 ⟨rfl,rfl⟩;go_wp2_with fail;refine Ω (HD _) fun w3 h3=>?_
  clear e1 e2;replace h3:=h2.trans h3;clear h2;obtain⟨t,u⟩:=h3.cells;have z:(w:Nat)<w3:=aT1 (by simp) h3.sz;go_wp2;go_quiet (fail);go_wp2;exact bodyPost_ret (v:=reV none) (by simp[results,results58,go_sem, *];rfl) rfl ⟨rfl,xE⟩
theorem aO2 (s:ByteArray)(e n1:Nat)(ps:List (List UInt8))(b:List UInt8)(w:World)(hs:s.size≤4294967280)(hp:jP 59 s.data.toList=some e)
  (h1:1≤n1)(hb:ps[0]? =some b) (f r t:List UInt8) (n k2 a b0:Int)
  (HC:Hid (∀w,U 55 #[.string (s.extract 0 e),.int .u8 35] w fun q w'=> ∃v,q= .returned v∧w'.ownsRow w 9 1 v n1 (eQ ps)∧Ext w w'))
  (j:Hid (∀w,U 55 #[str b,.int .u8 58] w fun q w'=> ∃v,q= .returned v∧w'.ownsRow w 9 1 v 2 (eQ [f,r])∧Ext w w'))
  (HR:Hid (∀w,U 57 #[str f] w fun q w'=>q= .returned (I n)∧w=w'))
  (HD:Hid (∀w,U 98 #[str r] w (Z (.tuple #[dL k2 a b0,.bool true]) w)))
  (HT:Hid (∀w,U 99 #[n,dL k2 a b0] w (Z (str t) w))) (ag:t.length≤200) (u:(t==(s.extract 0 (e+1)).toList)=false):
  U 58 #[.string s] w (mN (none) w):=by
 have m:e<s.size:=by have:=(fX hp).1;rwa[cH]at this
 have d:Hid (∀k (h:k<e) (h2:k<s.size),((s[k].toNat:Int)!=59)=true):=by intro k h h2;have:=sJ hp h;rw[iI s k h2]at this;rw[bne,show(59:Int)=((59:UInt8).toNat:Int)from rfl,mU];simpa using this
 have l:((s[e].toNat:Int)!=59)=false:=by have:=(fX hp).2.1;rw[iI s e m]at this;rw[bne,show(59:Int)=((59:UInt8).toNat:Int)from rfl,mU];simpa using this
 go_enter func58,ntmps58;go_wp2;go_loop [5] (fun i=> ∃k:Nat,k≤e∧i=I k) (fun i=>e-(intOf i).toNat)
 case atStart=>exact⟨0,aT8 _,rfl⟩
 case round=>
  obtain⟨k,hk,rfl⟩:=hrel;by_cases hlt:k<e
  ·have o:k<s.size:=by omega
   have hb:=d k hlt o;clear l;go_wp2;go_round
   case rel=>exact⟨k+1,by omega,by go_num⟩
   case measure=>simp[intOf];omega
  obtain rfl:k=e:=by omega
  have af:((k:Int)==(s.size:Int))=false:=by simp;omega
  go_wp2_with fail;refine(HC _).mono ?_;rintro q w1 ⟨v,rfl,c,h1⟩;obtain⟨g,x,rfl⟩:=aTc c (by omega);have e0:=aW c 0 (by omega) _ hb;clear c;have ae:0<n1:=by omega
  go_wp2_with fail;refine(j _).mono ?_;rintro q w2 ⟨v,rfl,c,h2⟩;obtain⟨g2,p,rfl⟩:=aTc c (by omega);have e1:=aW c 0 (by omega) _ rfl;have e2:=aW c 1 (by omega) _ rfl;clear c;replace h2:=h1.trans h2;clear h1 e0;go_wp2_with fail;refine(HR _).mono ?_;rintro q w3 ⟨rfl,rfl⟩;go_wp2_with fail;refine Ω (HD _) fun w3 h3=>?_
  clear e1 e2;replace h3:=h2.trans h3;clear h2;obtain⟨y,ab⟩:=h3.cells;have ah:(w:Nat)<w3:=aT1 (by simp) h3.sz;go_wp2;have q1:IntKind.i64.wrap ((k:Int)+1)=(k:Int)+1:=aT5 _ (by omega);have q2:0≤(k:Int)+1:=by omega
  have q3:((k:Int)+1).toNat=k+1:=by omega
  have q4:(k:Int)+1≤(s.size:Int):=by omega
  go_region_held3 (fun w'=>w'.cell? ⟨w3,0,none⟩=some (I k2)∧w'.cell? ⟨w3,1,none⟩=some (I a)∧w'.cell? ⟨w3,2,none⟩=some (I b0)) (go_keep)
   ((go_at_call 99;refine Ω (HT _) fun w4 h4=>?_;(try replace h4:=h4.of_drew);have aa:=h4.cells.1))
  clear q1 q2 q3 q4;replace h4:=(h3.alloc (.cells #[k2,a,b0] 76)).trans h4;obtain⟨z,ad⟩:=h4.cells;go_wp2;exact bodyPost_ret (v:=reV none) (by simp[results,results58,go_sem, *];rfl) rfl ⟨rfl,xE⟩
theorem aO1 (s:ByteArray)(e n1:Nat)(ps:List (List UInt8))(b:List UInt8)(w:World)(hs:s.size≤4294967280)(hp:jP 59 s.data.toList=some e)
  (h1:1≤n1)(hb:ps[0]? =some b) (f r t:List UInt8) (n k2 a b0:Int)
  (HC:Hid (∀w,U 55 #[.string (s.extract 0 e),.int .u8 35] w fun q w'=> ∃v,q= .returned v∧w'.ownsRow w 9 1 v n1 (eQ ps)∧Ext w w'))
  (j:Hid (∀w,U 55 #[str b,.int .u8 58] w fun q w'=> ∃v,q= .returned v∧w'.ownsRow w 9 1 v 2 (eQ [f,r])∧Ext w w'))
  (HR:Hid (∀w,U 57 #[str f] w fun q w'=>q= .returned (I n)∧w=w'))
  (HD:Hid (∀w,U 98 #[str r] w (Z (.tuple #[dL k2 a b0,.bool true]) w)))
  (HT:Hid (∀w,U 99 #[n,dL k2 a b0] w (Z (str t) w))) (ag:t.length≤200) (u:(t==(s.extract 0 (e+1)).toList)=true):
  U 58 #[.string s] w (mN (some (n,(k2,a,b0),e+1)) w):=by
 have m:e<s.size:=by have:=(fX hp).1;rwa[cH]at this
 have d:Hid (∀k (h:k<e) (h2:k<s.size),((s[k].toNat:Int)!=59)=true):=by intro k h h2;have:=sJ hp h;rw[iI s k h2]at this;rw[bne,show(59:Int)=((59:UInt8).toNat:Int)from rfl,mU];simpa using this
 have l:((s[e].toNat:Int)!=59)=false:=by have:=(fX hp).2.1;rw[iI s e m]at this;rw[bne,show(59:Int)=((59:UInt8).toNat:Int)from rfl,mU];simpa using this
 go_enter func58,ntmps58;go_wp2;go_loop [5] (fun i=> ∃k:Nat,k≤e∧i=I k) (fun i=>e-(intOf i).toNat)
 case atStart=>exact⟨0,aT8 _,rfl⟩
 case round=>
  obtain⟨k,hk,rfl⟩:=hrel;by_cases hlt:k<e
  ·have o:k<s.size:=by omega
   have hb:=d k hlt o;clear l;go_wp2;go_round
   case rel=>exact⟨k+1,by omega,by go_num⟩
   case measure=>simp[intOf];omega
  obtain rfl:k=e:=by omega
  have af:((k:Int)==(s.size:Int))=false:=by simp;omega
  go_wp2_with fail;refine(HC _).mono ?_;rintro q w1 ⟨v,rfl,c,h1⟩;obtain⟨g,x,rfl⟩:=aTc c (by omega);have e0:=aW c 0 (by omega) _ hb;clear c;have ae:0<n1:=by omega
  go_wp2_with fail;refine(j _).mono ?_;rintro q w2 ⟨v,rfl,c,h2⟩;obtain⟨g2,p,rfl⟩:=aTc c (by omega);have e1:=aW c 0 (by omega) _ rfl;have e2:=aW c 1 (by omega) _ rfl;clear c;replace h2:=h1.trans h2;clear h1 e0;go_wp2_with fail;refine(HR _).mono ?_;rintro q w3 ⟨rfl,rfl⟩;go_wp2_with fail;refine Ω (HD _) fun w3 h3=>?_
  clear e1 e2;replace h3:=h2.trans h3;clear h2;obtain⟨y,ab⟩:=h3.cells;have ah:(w:Nat)<w3:=aT1 (by simp) h3.sz;go_wp2;have q1:IntKind.i64.wrap ((k:Int)+1)=(k:Int)+1:=aT5 _ (by omega);have q2:0≤(k:Int)+1:=by omega
  have q3:((k:Int)+1).toNat=k+1:=by omega
  have q4:(k:Int)+1≤(s.size:Int):=by omega
  go_region_held3 (fun w'=>w'.cell? ⟨w3,0,none⟩=some (I k2)∧w'.cell? ⟨w3,1,none⟩=some (I a)∧w'.cell? ⟨w3,2,none⟩=some (I b0)) (go_keep)
   ((go_at_call 99;refine Ω (HT _) fun w4 h4=>?_;(try replace h4:=h4.of_drew);have aa:=h4.cells.1))
  clear q1 q2 q3 q4;replace h4:=(h3.alloc (.cells #[k2,a,b0] 76)).trans h4;obtain⟨z,ad⟩:=h4.cells;go_wp2;go_region;all_goals go_wp2
  all_goals exact bodyPost_ret (v:=reV (some (n,(k2,a,b0),k+1))) (by simp[results,results58,go_sem, *];rfl) rfl ⟨rfl,xE⟩
theorem oK (s:ByteArray)(n:Nat):(s.extract 0 n).toList=s.data.toList.take n:=by rw[Lib.toList_data,Lib.extract_data];simp
theorem aF7 (s:ByteArray)(n:Nat):Value.string (s.extract 0 n)=str (s.data.toList.take n):=by rw[zB,←Lib.toList_data,oK]
theorem zH (s:ByteArray)(w:World)(hs:s.size≤4294967280):U 58 #[.string s] w (mN (cQ s.data.toList) w):=by
 rw[←wF];unfold gE;cases hp:jP 59 s.data.toList with
 |none=>exact aIh s w hs hp
 |some e=>
  simp only;have u:e<s.size:=by have:=(fX hp).1;rwa[cH]at this
  have y:(s.data.toList.take e).length≤s.size:=by simp;omega
  have hC: ∀w,U 55 #[.string (s.extract 0 e),.int .u8 35] w fun q w'=> ∃v,q= .returned v∧w'.ownsRow w 9 1 v (aK 35 (s.data.toList.take e)).length (eQ (aK 35 (s.data.toList.take e)))∧Ext w w':=by intro w;rw[aF7];exact lQ ⟨(s.data.toList.take e).toArray⟩ 35 35 rfl w (by simp only[ByteArray.size,List.size_toArray];omega)
  have j:=aD6 35 (s.data.toList.take e);have t:=(pY 35 (s.data.toList.take e)).1;have g: ∀w,U 55 #[str (cX 35 (s.data.toList.take e)),.int .u8 58] w fun q w'=> ∃v,q= .returned v∧w'.ownsRow w 9 1 v (aK 58 (cX 35 (s.data.toList.take e))).length (eQ (aK 58 (cX 35 (s.data.toList.take e))))∧Ext w w':=by intro w;exact lQ ⟨(cX 35 (s.data.toList.take e)).toArray⟩ 58 58 rfl w (by simp only[ByteArray.size,List.size_toArray];omega)
  have l:1≤(aK 35 (s.data.toList.take e)).length:=by
   cases hq:aK 35 (s.data.toList.take e)with
   |nil=>exact absurd hq (eN _ _)
   |cons a b=>simp
  generalize hb:cX 35 (s.data.toList.take e)=b at*;have m:=eC 58 b;have i:(aK 58 b).length≠2→U 58 #[.string s] w (mN none w):=by
   intro h;have n:1≤(aK 58 b).length:=by
    cases hq:aK 58 b with
    |nil=>exact absurd hq (eN _ _)
    |cons a c=>simp
   exact aLk s e _ _ _ (aK 58 b) b w hs hp l j n (by simp;omega) (by omega) hC g
  rcases hc:aK 58 b with _|⟨f,_|⟨r,_|⟨x,p⟩⟩⟩
  ·exact i (by simp[hc])
  ·exact i (by simp[hc])
  ·simp only;rw[hc]at g;have hf:=m.1 f (by simp[hc]);have hr:=m.1 r (by simp[hc]);have hR: ∀w,U 57 #[str f] w fun q w'=>q= .returned (I ((bH 4 f).getD (-1)))∧w=w':=fun w=>aA9 f (by unfold maxLen;omega) w
   have hD: ∀o,cG r=o→ ∀w,U 98 #[str r] w (Z (rdV o) w):=by intro o ho w;subst ho;exact aDo r w (by omega)
   cases hd:cG r with
   |none=>exact aIi s e _ _ b w hs hp l j f r _ hC g hR (hD _ hd)
   |some d=>
    obtain⟨k,a,b0⟩:=d;have hT: ∀w,U 99 #[((bH 4 f).getD (-1):Int),dL k a b0] w (Z (str (bU ((bH 4 f).getD (-1)) k a b0)) w):=fun w=>aLj _ k a b0 w
    by_cases ht:bU ((bH 4 f).getD (-1)) k a b0=s.data.toList.take (e+1)
    ·simp only[ht,if_true];exact aO1 s e _ _ b w hs hp l j f r _ _ k a b0 hC g hR (hD _ hd) hT (lX _ k a b0) (by rw[oK,ht];simp)
    simp only[ht,if_false];exact aO2 s e _ _ b w hs hp l j f r _ _ k a b0 hC g hR (hD _ hd) hT (lX _ k a b0) (by rw[oK];simpa using ht)
  exact i (by simp[hc])
theorem aBb (l:List UInt8)(w:World)(hs:l.length≤4294967280):U 58 #[str l] w (mN (cQ l) w):=
 zH ⟨l.toArray⟩ w (by simpa[ByteArray.size]using hs)
theorem aP2:(prog.info? 76).map (fun i=>(i.zero,i.size,i.bytes))=some (some (.agg #[(),(),()]),3,24):=by kernel_rfl
end
end Go.Proofs.YtbgkcehffiogcabGreatDoor
