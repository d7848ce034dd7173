/-
  Texts of this proof, packed (@packed).
-/
import Derived.Test.YtpelpnfhbepokaaGreatDoorV34
namespace Go.Proofs.YtpelpnfhbepokaaGreatDoor
open Go.RowKit
set_option linter.unusedVariables false
set_option linter.unusedSimpArgs false
set_option maxHeartbeats 8000000
set_option maxRecDepth 100000
theorem aK5 (h:aO)(p:OA)(a:Nat)(q:OA)(c2:Nat)(lq:OA)(lm lc:Nat)(ds:List Dd3)(w:World)
  (d:xC 18 #[.agg #[h.aA,h.aB,.slice p h.cells.length a,h.free,h.step,h.aE,h.aF,h.aC,h.aG,.slice q h.vs.length c2]] w fun w' e w''=>e= .returned (Value.bool false)∧Ext w' w''):
  Calls Tryz.prog 8 #[.agg #[h.aA,h.aB,.slice p h.cells.length a,h.free,h.step,h.aE,h.aF,h.aC,h.aG,.slice q h.vs.length c2],.slice lq lm lc] w (lL w.heap.size (hZ,[]) w):=by
 go_enter Tryz.func8,Tryz.ntmps8;go_wp2_with fail;refine(d _ (((Mem.start w).c0 aL #[h.aA,h.aB,.slice p h.cells.length a,h.free,h.step,h.aE,h.aF,h.aC,h.aG,.slice q h.vs.length c2]).c1 aL zT).ext).mono ?_;rintro e w1 ⟨rfl,g⟩;have M1:=((((Mem.start w).c0 aL #[h.aA,h.aB,.slice p h.cells.length a,h.free,h.step,h.aE,h.aF,h.aC,h.aG,.slice q h.vs.length c2]).c1 aL zT).adv g)
 have b:=M1.hi 0;have c:=M1.hi 1;clear g d;obtain⟨f0,j,f1,k,f2,l,f3,m,f4,n,f5,o,f6,r,f7,s,f8,t,f9,u⟩:=(M1.bk 0).tenf;go_wp2;clear f0 j f1 k f2 l f3 m f4 n f5 o f6 r f7 s f8 t f9 u b c;have M2:=(M1.put10 (i:=0) rfl (.int .i64 0) (.int .i64 0) (.slice none 0 0) (.int .i64 0) (.int .i64 0) (.int .i64 0) (.int .i64 0) (.int .i64 0) (.int .i64 0) (.slice none 0 0))
 generalize f:World.setCell _ _ _=wz;rw[f]at M2;clear f M1;obtain⟨y0,y1,y2,y3,y4,y5,y6,y7,y8,y9⟩:=(M2.bk 0).ten;exact bodyPost_ret (v:= .tuple #[.agg #[(),(),((),()),(),(),(),(),(),(),((),())],((),())]) (by simp[results,Tryz.results8,go_sem, *]) rfl (show lL w.heap.size (hZ,[]) w _ _ from⟨none,0,none,0,none,0,rfl,World.ownsRow_nil _ _ _ _,World.ownsRow_nil _ _ _ _,World.ownsRow_nil _ _ _ _,M2.ext⟩)
theorem aLl (h:aO)(p:OA)(a:Nat)(q:OA)(c2:Nat)(lq:OA)(lm lc:Nat)(ds:List Dd3)(w:World)(hb:lm≤1048576)(hE:Hid (BitTab w))(u:Hid (ds.length=lm))(br:Hid (aT h=true))(HS:Hid (Sl w lq lm lc 3 (ds.flatMap bI)))
  (ao:xB 18 #[.agg #[h.aA,h.aB,.slice p h.cells.length a,h.free,h.step,h.aE,h.aF,h.aC,h.aG,.slice q h.vs.length c2]] w true)
  (HL:xC 36 #[.agg #[h.aA,h.aB,.slice p h.cells.length a,h.free,h.step,h.aE,h.aF,h.aC,h.aG,.slice q h.vs.length c2]] w fun w' e w''=> ∃p' cap' q' c2',e= .returned (.agg #[h.aA,h.aB,.slice p' h.cells.length cap',h.free,h.step,h.aE,h.aF,h.aC,h.aG,.slice q' h.vs.length c2'])∧w''.ownsRow w'.heap.size TI 1 (.slice p' h.cells.length cap') h.cells.length (ivs h.cells)∧w''.ownsRow w'.heap.size TV 4 (.slice q' h.vs.length c2') h.vs.length (h.vs.flatMap aD)∧Ext w' w''):
  Calls Tryz.prog 8 #[.agg #[h.aA,h.aB,.slice p h.cells.length a,h.free,h.step,h.aE,h.aF,h.aC,h.aG,.slice q h.vs.length c2],.slice lq lm lc] w (lL w.heap.size (gE h ds,dN h ds) w):=by
 have bo:=HS.out.bd;obtain⟨AB,t⟩: ∃AB:Array Value,AB=madeCells #[.bool false] lm:=⟨_,rfl⟩
 have bq: ∀w:World,(Instr.makeSlice 34 (.int .i64 (lm:Int)) (.int .i64 (lm:Int))).run Tryz.prog w= .ok (.slice (some ⟨w.heap.size,0,none⟩) lm lm) (w.alloc (.cells AB TB)):=fun w=>by rw[t];exact run_make_row' _ _ (Value.bool false) 1 Tryz.underlying34 (by kernel_rfl) rfl .i64 .i64 lm (by omega) (by omega) w
 have ap:Hid (AB.toList=bcs []++List.replicate (lm-0) (Value.bool false)):=by show _=_;rw[t,(lU _ lm).1];simp[bcs]
 have aq:Hid (AB.size=lm):=by show _=_;rw[t];exact(lU _ lm).2
 clear t bo;go_enter Tryz.func8,Tryz.ntmps8;go_wp2_with fail;refine(ao _ (((Mem.start w).c0 aL #[h.aA,h.aB,.slice p h.cells.length a,h.free,h.step,h.aE,h.aF,h.aC,h.aG,.slice q h.vs.length c2]).c1 aL zT).ext).mono ?_;rintro e w1 ⟨rfl,aw⟩;have M1:=((((Mem.start w).c0 aL #[h.aA,h.aB,.slice p h.cells.length a,h.free,h.step,h.aE,h.aF,h.aC,h.aG,.slice q h.vs.length c2]).c1 aL zT).adv aw)
 have ab:=M1.hi 0;have ad:=M1.hi 1;clear aw ao;obtain⟨ay,az,a3,a4,a5,a6,a7,a8,a9,ba⟩:=(M1.bk 1).ten;go_wp2_with fail;clear ay az a3 a4 a5 a6 a7 a8 a9 ba;refine(HL _ M1.ext).mono ?_;rintro e w2 ⟨p1,n,q1,o,rfl,ho,hq,hx⟩;have M2:=(M1.own2 hx ho hq (Nat.le_refl _) (by decide))
 clear M1 ab ad hx ho hq HL;have ae:=M2.hi 2;have af:=M2.hi 3;go_upto_region 4 with fail;obtain⟨gV,aa⟩: ∃gV,gV=w2.heap.size:=⟨_,rfl⟩
 rw[←aa];have M3:=(M2.blkNew aL #[h.aA,h.aB,.slice p1 h.cells.length n,h.free,h.step,h.aE,h.aF,h.aC,h.aG,.slice q1 h.vs.length o] gV aa.symm)
 generalize World.alloc _ _=w3 at M3⊢;clear M2 ae af aa;have ag:=M3.hi 0;have ah:=M3.hi 3;have ai:=M3.hi 4;go_upto_region 5 with fail;obtain⟨gD,z⟩: ∃gD,gD=w3.heap.size:=⟨_,rfl⟩
 rw[←z]
 have MD:=(show Mem w (w3.alloc (.cells AB TB)) [aJ w.heap.size TB 1 (some ⟨gD,0,none⟩) (lm) (lm) (bcs ([])++List.replicate (lm-0) (Value.bool false)),aI w.heap.size (gV) aL #[h.aA,h.aB,.slice p1 h.cells.length n,h.free,h.step,h.aE,h.aF,h.aC,h.aG,.slice q1 h.vs.length o],aJ w.heap.size TI 1 (p1) (h.cells.length) (n) (ivs h.cells),aJ w.heap.size TV 4 (q1) (h.vs.length) (o) (h.vs.flatMap aD),aI w.heap.size (w.heap.size+1) aL #[(),(),((),()),(),(),(),(),(),(),((),())],aI w.heap.size (w.heap.size) aL #[h.aA,h.aB,.slice p h.cells.length a,h.free,h.step,h.aE,h.aF,h.aC,h.aG,.slice q h.vs.length c2]]from by
  have h1:=M3.lit TB 1 lm gD AB z.symm (by rw[aq.out];omega) (by simp[maxLen];omega);rw[ap.out]at h1
  exact h1)
 generalize av:World.alloc _ _=w4;rw[av]at MD;clear av ap aq bq z M3 ag ah ai;go_wp2;go_loopw [21] (fun i wr=> ∃(k:Nat) (g:aO) (p3:OA) (c3:Nat) (q3:OA) (d3:Nat),k≤lm∧i= .int .i64 (k:Int)∧g=gE h (ds.take k)∧Mem w wr [aJ w.heap.size TB 1 (some ⟨gD,0,none⟩) (lm) (lm) (bcs (dN h (ds.take k))++List.replicate (lm-k) (Value.bool false)),aJ w.heap.size TI 1 (p3) (g.cells.length) (c3) (ivs g.cells),aJ w.heap.size TV 4 (q3) (g.vs.length) (d3) (g.vs.flatMap aD),aI w.heap.size (gV) aL #[g.aA,g.aB,.slice p3 g.cells.length c3,g.free,g.step,g.aE,g.aF,g.aC,g.aG,.slice q3 g.vs.length d3],aI w.heap.size (w.heap.size+1) aL #[(),(),((),()),(),(),(),(),(),(),((),())],aI w.heap.size (w.heap.size) aL #[h.aA,h.aB,.slice p h.cells.length a,h.free,h.step,h.aE,h.aF,h.aC,h.aG,.slice q h.vs.length c2]]) (fun i _=>lm-(intOf i).toNat)
 case atStart=>exact⟨0,h,p1,n,q1,o,Nat.zero_le _,rfl,rfl,(show Mem w w4 [aJ w.heap.size TB 1 (some ⟨gD,0,none⟩) (lm) (lm) (bcs ([])++List.replicate (lm-0) (Value.bool false)),aJ w.heap.size TI 1 (p1) (h.cells.length) (n) (ivs h.cells),aJ w.heap.size TV 4 (q1) (h.vs.length) (o) (h.vs.flatMap aD),aI w.heap.size (gV) aL #[h.aA,h.aB,.slice p1 h.cells.length n,h.free,h.step,h.aE,h.aF,h.aC,h.aG,.slice q1 h.vs.length o],aI w.heap.size (w.heap.size+1) aL #[(),(),((),()),(),(),(),(),(),(),((),())],aI w.heap.size (w.heap.size) aL #[h.aA,h.aB,.slice p h.cells.length a,h.free,h.step,h.aE,h.aF,h.aC,h.aG,.slice q h.vs.length c2]]from MD.pick [0,2,3,1,4,5] (by decide) rfl)⟩
 case round=>
  clear MD;obtain⟨k,g,p3,c3,q3,d3,hk,rfl,hg,hM⟩:=hrel;have HM:=hM;have HG:=xQ hg;have an:Hid (aT g=true):=by show _=_;rw[hg];exact tE _ br.out
  clear hM hg;by_cases hlt:k<lm
  ·obtain⟨b,b6,a0,a1,a2,bp,hx,b5,e0,e1,e2⟩:=aEl (HS.out.ext HM.ext) hlt;subst bp;have HX:=xQ hx;clear hx;have i1:(0:Int)≤(k:Int):=by omega
   have i2:(k:Int)<(lm:Int):=by omega
   obtain⟨r,num,ok,hr⟩: ∃r num ok,(r,num,ok)=doR g a0 a1 a2:=⟨_,_,_,rfl⟩
   have HR:=xQ hr;clear hr;have au:Hid (gE h (ds.take (k+1))=r∧dN h (ds.take (k+1))=dN h (ds.take k)++ [ok]):=by show _∧_;rw[bA HX.out,rB,pH,←HG.out,←HR.out];exact⟨rfl,rfl⟩
   have HD:Hid (∀B p c q d w',B≤w'.heap.size→Ext wr w'→IsHouse w' g p g.cells.length c q g.vs.length d→Calls Tryz.prog 15 #[.agg #[g.aA,g.aB,.slice p g.cells.length c,g.free,g.step,g.aE,g.aF,g.aC,g.aG,.slice q g.vs.length d],.agg #[a0,a1,a2]] w' fun e w''=> ∃pa ca qa da,e= .returned (.tuple #[.agg #[r.aA,r.aB,.slice pa r.cells.length ca,r.free,r.step,r.aE,r.aF,r.aC,r.aG,.slice qa r.vs.length da],num,.bool ok])∧w''.ownsRow B TI 1 (.slice pa r.cells.length ca) r.cells.length (ivs r.cells)∧w''.ownsRow B TV 4 (.slice qa r.vs.length da) r.vs.length (r.vs.flatMap aD)∧Ext w' w''):=fun B p c q d w' hB hx hi=>by refine(aAq g a0 a1 a2 p _ c q _ d w' hi an (hE.out.ext (HM.ext.trans hx))).mono (fun e w'' hr=> ?_);have hq:=aE6 hB an hr;rw[←HR.out]at hq;exact hq
   have IX:=xQ (show IsHouse wr g p3 g.cells.length c3 q3 g.vs.length d3 from⟨(HM.sq 1),(HM.sq 2)⟩);have f:gV<wr.heap.size:=(HM.hi 3)
   have l:w.heap.size+1<wr.heap.size:=(HM.hi 4)
   have m:w.heap.size<wr.heap.size:=(HM.hi 5)
   obtain⟨v0,v1,v2,v3,v4,v5,v6,v7,v8,v9⟩:=(HM.bk 3).ten;go_wp2_with fail;clear v0 v1 v2 v3 v4 v5 v6 v7 v8 v9 e0 e1 e2;refine(HD _ _ _ _ _ _ (Nat.le_refl _) ((Ext.refl _).alloc _) (IX.out.ext ((Ext.refl _).alloc _))).mono ?_;rintro e w6 ⟨p5,c5,q5,d5,rfl,ho,hq,hx⟩;have M6:=((HM.c0 TDd #[a0,a1,a2]).own2 hx ho hq (Nat.le_refl _) (by decide))
   clear HM f l m hx ho hq HD IX;have aj:=M6.hi 2;have ak:=M6.hi 6;have al:=M6.hi 7;have am:=M6.hi 8;obtain⟨v0,bu,v1,bv,v2,bw,v3,bx,v4,bz,v5,b0,v6,b1,v7,b2,v8,b3,v9,b4⟩:=(M6.bk 6).tenf;have bs:gD<w6.heap.size:=(M6.hi 3)
   have ax: ¬(gD=gV):=M6.ne (i:=3) (j:=6) (by omega) rfl rfl rfl rfl;have bt: ¬(gV=gD):=fun h=>ax h.symm
   have fD:w6.frozen? ⟨gD,k,none⟩=false:=(M6.ow 3).frozenAt k;have ar:(bcs (dN h (ds.take k))).length=k:=by rw[aKk,rS,List.length_take,u.out];omega
   have cD:w6.cell? ⟨gD,k,none⟩=some (Value.bool false):=by have:=(M6.ow 3).cellAt k (by omega);rw[this];exact aKh ar hlt
   go_wp2;clear v0 bu v1 bv v2 bw v3 bx v4 bz v5 b0 v6 b1 v7 b2 v8 b3 v9 b4 bs ax bt fD cD;have M9:=((M6.put10 (i:=6) rfl (.int .i64 r.aA) (.int .i64 r.aB) (.slice p5 r.cells.length c5) (.int .i64 r.free) (.int .i64 r.step) (.int .i64 r.aE) (.int .i64 r.aF) (.int .i64 r.aC) (.int .i64 r.aG) (.slice q5 r.vs.length d5)).ostore (i:=3) rfl k (Value.bool ok))
   generalize s:World.setCell _ _ _=wz;rw[s]at M9;clear s M6 aj ak al am;go_roundw
   case rel=>
    have hd:(bcs (dN h (ds.take k))++List.replicate (lm-k) (Value.bool false)).set k (Value.bool ok)=bcs (dN h (ds.take (k+1)))++List.replicate (lm-(k+1)) (Value.bool false):=by rw[au.out.2,aBf];exact aJ9 ar hlt
    exact⟨k+1,r,p5,c5,q5,d5,by omega,by go_num,au.out.1.symm,by rw[←hd];exact(show Mem w wz [aJ w.heap.size TB 1 (some ⟨gD,0,none⟩) (lm) (lm) ((bcs (dN h (ds.take k))++List.replicate (lm-k) (Value.bool false)).set k (Value.bool ok)),aJ w.heap.size TI 1 (p5) (r.cells.length) (c5) (ivs r.cells),aJ w.heap.size TV 4 (q5) (r.vs.length) (d5) (r.vs.flatMap aD),aI w.heap.size (gV) aL #[r.aA,r.aB,.slice p5 r.cells.length c5,r.free,r.step,r.aE,r.aF,r.aC,r.aG,.slice q5 r.vs.length d5],aI w.heap.size (w.heap.size+1) aL #[(),(),((),()),(),(),(),(),(),(),((),())],aI w.heap.size (w.heap.size) aL #[h.aA,h.aB,.slice p h.cells.length a,h.free,h.step,h.aE,h.aF,h.aC,h.aG,.slice q h.vs.length c2]]from(show Mem w wz [aJ w.heap.size TI 1 (p5) (r.cells.length) (c5) (ivs r.cells),aJ w.heap.size TV 4 (q5) (r.vs.length) (d5) (r.vs.flatMap aD),aI w.heap.size (wr.heap.size) TDd #[a0,a1,a2],aJ w.heap.size TB 1 (some ⟨gD,0,none⟩) (lm) (lm) ((bcs (dN h (ds.take k))++List.replicate (lm-k) (Value.bool false)).set k (Value.bool ok)),aJ w.heap.size TI 1 (p3) (g.cells.length) (c3) (ivs g.cells),aJ w.heap.size TV 4 (q3) (g.vs.length) (d3) (g.vs.flatMap aD),aI w.heap.size (gV) aL #[r.aA,r.aB,.slice p5 r.cells.length c5,r.free,r.step,r.aE,r.aF,r.aC,r.aG,.slice q5 r.vs.length d5],aI w.heap.size (w.heap.size+1) aL #[(),(),((),()),(),(),(),(),(),(),((),())],aI w.heap.size (w.heap.size) aL #[h.aA,h.aB,.slice p h.cells.length a,h.free,h.step,h.aE,h.aF,h.aC,h.aG,.slice q h.vs.length c2]]from M9).pick [3,0,1,6,7,8] (by decide) rfl)⟩
   case measure=>simp[intOf];omega
  obtain rfl:lm=k:=by omega
  have f:gV<wr.heap.size:=(HM.hi 3)
  have l:w.heap.size+1<wr.heap.size:=(HM.hi 4)
  have m:w.heap.size<wr.heap.size:=(HM.hi 5)
  obtain⟨v0,v1,v2,v3,v4,v5,v6,v7,v8,v9⟩:=(HM.bk 3).ten;obtain⟨f0,bb,f1,bc,f2,be,f3,bf,f4,bg,f5,bh,f6,bi,f7,bj,f8,bl,f9,bm⟩:=(HM.bk 4).tenf;obtain⟨x,y⟩:=HM.nq 3 4;go_wp2;clear v0 v1 v2 v3 v4 v5 v6 v7 v8 v9 f0 bb f1 bc f2 be f3 bf f4 bg f5 bh f6 bi f7 bj f8 bl f9 bm x y f l m;have M6:=(HM.put10 (i:=4) rfl (.int .i64 g.aA) (.int .i64 g.aB) (.slice p3 g.cells.length c3) (.int .i64 g.free) (.int .i64 g.step) (.int .i64 g.aE) (.int .i64 g.aF) (.int .i64 g.aC) (.int .i64 g.aG) (.slice q3 g.vs.length d3))
  generalize s:World.setCell _ _ _=wz;rw[s]at M6;clear s HM;obtain⟨y0,y1,y2,y3,y4,y5,y6,y7,y8,y9⟩:=(M6.bk 4).ten;exact bodyPost_ret (v:= .tuple #[.agg #[g.aA,g.aB,.slice p3 g.cells.length c3,g.free,g.step,g.aE,g.aF,g.aC,g.aG,.slice q3 g.vs.length d3],.slice (some ⟨gD,0,none⟩) lm lm]) (by simp[results,Tryz.results8,go_sem, *]) rfl (aE5 (by have h1:=HG.out;rw[List.take_of_length_le (by rw[u.out];exact Nat.le_refl _)]at h1;exact h1) u.out (M6.ow 1) (M6.ow 2) (by have h1:=(M6.ow 0);rw[List.take_of_length_le (by rw[u.out];exact Nat.le_refl _),Nat.sub_self,List.replicate_zero,List.append_nil]at h1;exact h1) M6.ext)
theorem qA (h:aO)(p:OA)(n a:Nat)(q:OA)(m c2:Nat)(lq:OA)(lm lc:Nat)(ds:List Dd3)(w:World)(hi:IsHouse w h p n a q m c2)(hS:Sl w lq lm lc 3 (ds.flatMap bI))(hb:lm≤1048576)(hE:BitTab w):
  Calls Tryz.prog 8 #[bK h p n a q m c2,.slice lq lm lc] w (lL w.heap.size (mI h ds) w):=by
 have hl:=hi.clen;have c:=hi.vlen;have b:ds.length=lm:=by have:=hS.len;rw[dC bI 3 (fun _=>rfl)]at this;omega
 subst hl c;have HV:=xQ fun(w':World) (hx:Ext w w')=>kF h p _ a q _ c2 w' (hi.ext hx)
 by_cases hok:aT h=true
 ·have d:=iH hok;unfold mI;rw[if_pos hok];rw[hok]at HV;have HL:=xQ fun(w':World) (hx:Ext w w')=>oS h p _ a q _ c2 w' (by omega) (by omega) (hi.ext hx)
  unfold dG at HL;exact aLl h p a q c2 lq lm lc ds w hb hE b hok hS HV HL
 unfold mI;rw[if_neg hok];rw[show aT h=false by simpa using hok]at HV;exact aK5 h p a q c2 lq lm lc ds w HV
end Go.Proofs.YtpelpnfhbepokaaGreatDoor
namespace Go.Proofs.YtpelpnfhbepokaaGreatDoor
open Go.RowKit
set_option linter.unusedVariables false
set_option linter.unusedSimpArgs false
theorem mP {h:aO}(hn:h.cells.length≤1048576):(bV h).length≤1000:=by
 cases hok:aT h with
 |false=>unfold bV;rw[hok];simp
 |true=>
  rw[lJ hok];have h1:=jD hok;unfold aM at h1;rw[Bool.and_eq_true]at h1;have hb:=bZ h1.1;have h2:=aFf (if(0:Int)∈h.cells then []else [h.cells.headD 0]) (cJ h.cells);have h3:=jA h.cells;rw[hU]at h2;have h4:(if(0:Int)∈h.cells then([]:List Int)else [h.cells.headD 0]).length≤1:=by split<;>simp
  omega
theorem lA (h:aO)(id:Int):aU h id≤10000∧ -10000≤aU h id:=by
 cases hok:aT h with
 |false=>simp[aU,cS,hok]
 |true=>
  cases hv:bY id h.vs with
  |none=>simp[aU,cS,hok,hv]
  |some v=>
   have hm:v∈h.vs:=List.mem_of_find?_eq_some hv;have hb:=qN hok hm;have e:aU h id=oR h v:=by unfold aU cS oR;rw[if_pos hok,hv];rfl
   rw[e];omega
theorem uU (h:aO)(k:Nat):(aZ (aU h) ((bV h).take k)).length≤k*41:=by refine Nat.le_trans (yV _ _ 40 (fun x _=> ?_)) (Nat.mul_le_mul_right 41 (List.length_take_le _ _));have:=lA h x;unfold dB;omega
theorem wZ {h:aO}(hn:h.cells.length≤1048576):(aZ (aU h) (bV h)).length≤100000:=by have h1:=uU h (bV h).length;rw[List.take_length]at h1;have:=mP hn;omega
theorem yM (h:aO)(p:OA)(n a:Nat)(q:OA)(m c2:Nat)(w:World)(hn:h.cells.length≤1048576)(hi:IsHouse w h p n a q m c2):
  Calls Tryz.prog 55 #[bK h p n a q m c2] w (kU (aZ (aU h) (bV h)) w):=
 aIm h.aA h.aB h.free h.step h.aE h.aF h.aC h.aG p n a q m c2 (bV h) (aU h) w (mP hn)
  (fun w' hx=>yL h p n a q m c2 w' (hi.ext hx)) (fun x _ w' hx=>yJ h x p n a q m c2 w' (hi.ext hx)) (fun x _=>lA h x) (fun k=>uU h k)
theorem xV (h:aO)(p:OA)(n a:Nat)(q:OA)(m c2:Nat)(w:World)(hn:h.cells.length≤1048576)(hi:IsHouse w h p n a q m c2):
  Calls Tryz.prog 56 #[bK h p n a q m c2] w (kU (aZ (aU h) (bV h)) w):=
 aHe h.aA h.aB h.free h.step h.aE h.aF h.aC h.aG p n a q m c2 (bV h) (aU h) w (mP hn)
  (fun w' hx=>xU h p n a q m c2 w' (hi.ext hx)) (fun x _ w' hx=>xS h x p n a q m c2 w' (hi.ext hx))
  (fun x _ w'=>by
   have hb:=lA h x;refine(aBq x (aU h x) w' hb.1 hb.2).mono ?_;rintro e b ⟨q,c,rfl,ho,hx⟩;rw[kE]at ho⊢
   exact⟨q,c,rfl,ho,hx⟩)
  (fun x _=>lA h x) (fun k=>uU h k)
set_option maxHeartbeats 8000000
set_option maxRecDepth 100000
def oL (h:aO):aO:=(mI h (aZ (aU h) (bV h))).1
theorem aLg (h r:aO)(p:OA)(a:Nat)(q:OA)(c2:Nat)(ds:List Dd3)(nb:Nat)(w:World)
  (HI:Hid (IsHouse w h p h.cells.length a q h.vs.length c2))
  (HE:Hid (∀w',Ext w w'→Calls Tryz.prog 56 #[.agg #[h.aA,h.aB,.slice p h.cells.length a,h.free,h.step,h.aE,h.aF,h.aC,h.aG,.slice q h.vs.length c2]] w' (kU ds w')))
  (HR:Hid (∀B pe ce w',B≤w'.heap.size→Ext w w'→Sl w' pe ds.length ce 3 (ds.flatMap bI)→Calls Tryz.prog 9 #[.agg #[h.aA,h.aB,.slice p h.cells.length a,h.free,h.step,h.aE,h.aF,h.aC,h.aG,.slice q h.vs.length c2],.slice pe ds.length ce] w' fun e w''=> ∃pa ca qa da ps cs,e= .returned (.tuple #[.agg #[r.aA,r.aB,.slice pa r.cells.length ca,r.free,r.step,r.aE,r.aF,r.aC,r.aG,.slice qa r.vs.length da],.slice ps nb cs])∧w''.ownsRow B TI 1 (.slice pa r.cells.length ca) r.cells.length (ivs r.cells)∧w''.ownsRow B TV 4 (.slice qa r.vs.length da) r.vs.length (r.vs.flatMap aD)∧Ext w' w'')):
  Calls Tryz.prog 21 #[.agg #[h.aA,h.aB,.slice p h.cells.length a,h.free,h.step,h.aE,h.aF,h.aC,h.aG,.slice q h.vs.length c2]] w (dG r w):=by
 go_enter Tryz.func21,Tryz.ntmps21;go_upto_region 1 with fail;have M1:=(((Mem.start w).c0 aL #[h.aA,h.aB,.slice p h.cells.length a,h.free,h.step,h.aE,h.aF,h.aC,h.aG,.slice q h.vs.length c2]).c1 aL zT)
 generalize World.alloc _ _=v0 at M1⊢;have o:=M1.hi 0;have s:=M1.hi 1;have xm:=M1.ext;have IX:=xQ (HI.out.ext xm);obtain⟨a8,a9,ba,bb,bc,bd,be,bf,bg,bh⟩:=(M1.bk 1).ten;have y: ¬(w.heap.size=v0.heap.size):=by omega
 have aa: ¬(v0.heap.size=w.heap.size):=by omega
 go_cut [3,4] (fun s1 _ wx=> ∃(g5:Nat) (p5:OA) (c5:Nat) (q5:OA) (d5:Nat),s1= .pointer (some ⟨g5,0,none⟩)∧Mem w wx [aI w.heap.size (g5) aL #[r.aA,r.aB,.slice p5 r.cells.length c5,r.free,r.step,r.aE,r.aF,r.aC,r.aG,.slice q5 r.vs.length d5],aJ w.heap.size TI 1 (p5) (r.cells.length) (c5) (ivs r.cells),aJ w.heap.size TV 4 (q5) (r.vs.length) (d5) (r.vs.flatMap aD),aI w.heap.size (w.heap.size+1) aL #[(),(),((),()),(),(),(),(),(),(),((),())],aI w.heap.size (w.heap.size) aL #[h.aA,h.aB,.slice p h.cells.length a,h.free,h.step,h.aE,h.aF,h.aC,h.aG,.slice q h.vs.length c2]])
 case first=>
  go_region_held3 (fun w'=>w'.cell? ⟨w.heap.size,0,none⟩=some (.int .i64 h.aA)∧w'.cell? ⟨w.heap.size,1,none⟩=some (.int .i64 h.aB)∧w'.cell? ⟨w.heap.size,2,none⟩=some (.slice p h.cells.length a)∧w'.cell? ⟨w.heap.size,3,none⟩=some (.int .i64 h.free)∧w'.cell? ⟨w.heap.size,4,none⟩=some (.int .i64 h.step)∧w'.cell? ⟨w.heap.size,5,none⟩=some (.int .i64 h.aE)∧w'.cell? ⟨w.heap.size,6,none⟩=some (.int .i64 h.aF)∧w'.cell? ⟨w.heap.size,7,none⟩=some (.int .i64 h.aC)∧w'.cell? ⟨w.heap.size,8,none⟩=some (.int .i64 h.aG)∧w'.cell? ⟨w.heap.size,9,none⟩=some (.slice q h.vs.length c2))
   (first|(refine⟨?_,?_,?_,?_,?_,?_,?_,?_,?_,?_⟩<;>with_reducible assumption)|go_keep)
   (first
    |(go_at_call 56
      refine(HE _ xE).mono ?_;rintro e we ⟨pe,ce,rfl,oe,x⟩;have d:Ext v0 we:=xE;have Ie:=xQ (Sl.own oe);clear oe;obtain⟨bp,bq,br,bs,bt,bu,bv,bw,bx,bz⟩:=((M1.bk 1).ext d).ten;have bi: ¬(w.heap.size=we.heap.size):=by have:=d.sz;omega
      have bj: ¬(we.heap.size=w.heap.size):=by have:=d.sz;omega)
    |(go_at_call 9
      refine(HR v0.heap.size _ _ _ (Ext.sz (show Ext v0 _ from xE)) xE (by first|with_reducible exact Ie.out|with_reducible exact Ie.out.ext ((Ext.refl _).alloc _))).mono ?_;rintro e ws ⟨p5,c5,q5,d5,b0,bo,rfl,os,m,n⟩;have b:Ext v0 ws:=xE;obtain⟨b1,b2,b3,b4,b5,b6,b7,b8,b9,cb⟩:=((M1.bk 1).ext b).ten;have bl: ¬(w.heap.size=ws.heap.size):=by have:=b.sz;omega
      have bm: ¬(ws.heap.size=w.heap.size):=by have:=b.sz;omega
      first
       |(with_reducible have hz:Ext (v0.alloc (.cells #[(),(),((),()),(),(),(),(),(),(),((),())] aL)) ws:=x.trans n;have MB:=(Mem.own2blk M1 b ((Blk.new v0 aL #[(),(),((),()),(),(),(),(),(),(),((),())]).ext hz) (Nat.le_refl _) os m (by decide) (by decide) (by decide));obtain⟨ab,am,ad,an,ae,ao,af,ap,ag,aq,ah,ar,ai,au,aj,av,ak,aw,al,ax⟩:=(MB.blk (i:=2) rfl).tenf)
       |(with_reducible have hz:Ext (v0.alloc (.cells #[(),(),((),()),(),(),(),(),(),(),((),())] aL)) ws:=x.of_drew.trans n;have MB:=(Mem.own2blk M1 b ((Blk.new v0 aL #[(),(),((),()),(),(),(),(),(),(),((),())]).ext hz) (Nat.le_refl _) os m (by decide) (by decide) (by decide));obtain⟨ab,am,ad,an,ae,ao,af,ap,ag,aq,ah,ar,ai,au,aj,av,ak,aw,al,ax⟩:=(MB.blk (i:=2) rfl).tenf)
       |(with_reducible have hz:Ext (we.alloc (.cells #[(),(),((),()),(),(),(),(),(),(),((),())] aL)) ws:=n;have MB:=(Mem.own2blk M1 b ((Blk.new we aL #[(),(),((),()),(),(),(),(),(),(),((),())]).ext hz) d.sz os m (by decide) (by decide) (by decide));obtain⟨ab,am,ad,an,ae,ao,af,ap,ag,aq,ah,ar,ai,au,aj,av,ak,aw,al,ax⟩:=(MB.blk (i:=2) rfl).tenf)
       |(have MA:=(Mem.own2 M1 b os m (Nat.le_refl _) (by decide)))))
  all_goals (
   go_wp2_with fail;go_meet
   first
    |exact⟨_,p5,c5,q5,d5,rfl,(MB.put10 (i:=2) rfl (.int .i64 r.aA) (.int .i64 r.aB) (.slice p5 r.cells.length c5) (.int .i64 r.free) (.int .i64 r.step) (.int .i64 r.aE) (.int .i64 r.aF) (.int .i64 r.aC) (.int .i64 r.aG) (.slice q5 r.vs.length d5)).pick [2,0,1,3,4] (by decide) rfl⟩
    |exact⟨_,p5,c5,q5,d5,rfl,MA.bn aL #[r.aA,r.aB,.slice p5 r.cells.length c5,r.free,r.step,r.aE,r.aF,r.aC,r.aG,.slice q5 r.vs.length d5] _⟩)
 case rest=>
  clear a8 a9 ba bb bc bd be bf bg bh y aa xm HE HR IX HI;obtain⟨g5,p5,c5,q5,d5,rfl,t⟩:=hcut;obtain⟨v5,rfl⟩: ∃z,z=wc:=⟨_,rfl⟩
  have MC:=t;clear t M1 o s;have f:g5<v5.heap.size:=(MC.hi 0)
  have g:w.heap.size+1<v5.heap.size:=(MC.hi 3)
  have j:w.heap.size<v5.heap.size:=(MC.hi 4)
  obtain⟨v0,v1,v2,v3,v4,v5,v6,v7,v8,v9⟩:=(MC.bk 0).ten;obtain⟨f0,ay,f1,az,f2,a0,f3,a1,f4,a2,f5,a3,f6,a4,f7,a5,f8,a6,f9,a7⟩:=(MC.bk 3).tenf;obtain⟨k,l⟩:=MC.nq 0 3;go_wp2;clear v0 v1 v2 v3 v4 v5 v6 v7 v8 v9 f0 ay f1 az f2 a0 f3 a1 f4 a2 f5 a3 f6 a4 f7 a5 f8 a6 f9 a7 k l f g j;have c:=(MC.put10 (i:=3) rfl (.int .i64 r.aA) (.int .i64 r.aB) (.slice p5 r.cells.length c5) (.int .i64 r.free) (.int .i64 r.step) (.int .i64 r.aE) (.int .i64 r.aF) (.int .i64 r.aC) (.int .i64 r.aG) (.slice q5 r.vs.length d5))
  generalize u:World.setCell _ _ _=wz;rw[u]at c;clear u MC;obtain⟨y0,y1,y2,y3,y4,y5,y6,y7,y8,y9⟩:=(c.bk 3).ten;exact bodyPost_ret (v:= .agg #[r.aA,r.aB,.slice p5 r.cells.length c5,r.free,r.step,r.aE,r.aF,r.aC,r.aG,.slice q5 r.vs.length d5]) (by simp[results,Tryz.results21,go_sem, *]) rfl (show dG r w _ _ from⟨p5,c5,q5,d5,rfl,(c.ow 1),(c.ow 2),c.ext⟩)
theorem xP (h:aO)(p:OA)(n a:Nat)(q:OA)(m c2:Nat)(w:World)(hn:h.cells.length≤1048576)(hi:IsHouse w h p n a q m c2):
  Calls Tryz.prog 21 #[bK h p n a q m c2] w (dG (oL h) w):=by
 have hl:=hi.clen;have b:=hi.vlen;subst hl b
 exact aLg h (oL h) p a q c2 (aZ (aU h) (bV h)) (mI h (aZ (aU h) (bV h))).2.length w hi
  (fun w' hx=>xV h p _ a q _ c2 w' hn (hi.ext hx))
  (fun B pe ce w' hB hx hS=>(xM h p _ a q _ c2 pe _ ce _ w' (hi.ext hx) hS (Nat.le_trans (wZ hn) (by omega))).mono (by
   rintro e d ⟨pa,ca,qa,da,ps,cs,rfl,o1,o2,_,c⟩
   exact⟨pa,ca,qa,da,ps,cs,rfl,dX o1 hB,dX o2 hB,c⟩))
theorem aLm (h r:aO)(p:OA)(a:Nat)(q:OA)(c2:Nat)(ds:List Dd3)(nb:Nat)(w:World)
  (HI:Hid (IsHouse w h p h.cells.length a q h.vs.length c2))
  (HE:Hid (∀w',Ext w w'→Calls Tryz.prog 55 #[.agg #[h.aA,h.aB,.slice p h.cells.length a,h.free,h.step,h.aE,h.aF,h.aC,h.aG,.slice q h.vs.length c2]] w' (kU ds w')))
  (HR:Hid (∀B pe ce w',B≤w'.heap.size→Ext w w'→Sl w' pe ds.length ce 3 (ds.flatMap bI)→Calls Tryz.prog 8 #[.agg #[h.aA,h.aB,.slice p h.cells.length a,h.free,h.step,h.aE,h.aF,h.aC,h.aG,.slice q h.vs.length c2],.slice pe ds.length ce] w' fun e w''=> ∃pa ca qa da ps cs,e= .returned (.tuple #[.agg #[r.aA,r.aB,.slice pa r.cells.length ca,r.free,r.step,r.aE,r.aF,r.aC,r.aG,.slice qa r.vs.length da],.slice ps nb cs])∧w''.ownsRow B TI 1 (.slice pa r.cells.length ca) r.cells.length (ivs r.cells)∧w''.ownsRow B TV 4 (.slice qa r.vs.length da) r.vs.length (r.vs.flatMap aD)∧Ext w' w'')):
  Calls Tryz.prog 20 #[.agg #[h.aA,h.aB,.slice p h.cells.length a,h.free,h.step,h.aE,h.aF,h.aC,h.aG,.slice q h.vs.length c2]] w (dG r w):=by
 go_enter Tryz.func20,Tryz.ntmps20;go_upto_region 1 with fail;have M1:=(((Mem.start w).c0 aL #[h.aA,h.aB,.slice p h.cells.length a,h.free,h.step,h.aE,h.aF,h.aC,h.aG,.slice q h.vs.length c2]).c1 aL zT)
 generalize World.alloc _ _=v0 at M1⊢;have o:=M1.hi 0;have s:=M1.hi 1;have xm:=M1.ext;have IX:=xQ (HI.out.ext xm);obtain⟨a8,a9,ba,bb,bc,bd,be,bf,bg,bh⟩:=(M1.bk 1).ten;have y: ¬(w.heap.size=v0.heap.size):=by omega
 have aa: ¬(v0.heap.size=w.heap.size):=by omega
 go_cut [3,4] (fun s1 _ wx=> ∃(g5:Nat) (p5:OA) (c5:Nat) (q5:OA) (d5:Nat),s1= .pointer (some ⟨g5,0,none⟩)∧Mem w wx [aI w.heap.size (g5) aL #[r.aA,r.aB,.slice p5 r.cells.length c5,r.free,r.step,r.aE,r.aF,r.aC,r.aG,.slice q5 r.vs.length d5],aJ w.heap.size TI 1 (p5) (r.cells.length) (c5) (ivs r.cells),aJ w.heap.size TV 4 (q5) (r.vs.length) (d5) (r.vs.flatMap aD),aI w.heap.size (w.heap.size+1) aL #[(),(),((),()),(),(),(),(),(),(),((),())],aI w.heap.size (w.heap.size) aL #[h.aA,h.aB,.slice p h.cells.length a,h.free,h.step,h.aE,h.aF,h.aC,h.aG,.slice q h.vs.length c2]])
 case first=>
  go_region_held3 (fun w'=>w'.cell? ⟨w.heap.size,0,none⟩=some (.int .i64 h.aA)∧w'.cell? ⟨w.heap.size,1,none⟩=some (.int .i64 h.aB)∧w'.cell? ⟨w.heap.size,2,none⟩=some (.slice p h.cells.length a)∧w'.cell? ⟨w.heap.size,3,none⟩=some (.int .i64 h.free)∧w'.cell? ⟨w.heap.size,4,none⟩=some (.int .i64 h.step)∧w'.cell? ⟨w.heap.size,5,none⟩=some (.int .i64 h.aE)∧w'.cell? ⟨w.heap.size,6,none⟩=some (.int .i64 h.aF)∧w'.cell? ⟨w.heap.size,7,none⟩=some (.int .i64 h.aC)∧w'.cell? ⟨w.heap.size,8,none⟩=some (.int .i64 h.aG)∧w'.cell? ⟨w.heap.size,9,none⟩=some (.slice q h.vs.length c2))
   (first|(refine⟨?_,?_,?_,?_,?_,?_,?_,?_,?_,?_⟩<;>with_reducible assumption)|go_keep)
   (first
    |(go_at_call 55
      refine(HE _ xE).mono ?_;rintro e we ⟨pe,ce,rfl,oe,x⟩;have d:Ext v0 we:=xE;have Ie:=xQ (Sl.own oe);clear oe;obtain⟨bp,bq,br,bs,bt,bu,bv,bw,bx,bz⟩:=((M1.bk 1).ext d).ten;have bi: ¬(w.heap.size=we.heap.size):=by have:=d.sz;omega
      have bj: ¬(we.heap.size=w.heap.size):=by have:=d.sz;omega)
    |(go_at_call 8
      refine(HR v0.heap.size _ _ _ (Ext.sz (show Ext v0 _ from xE)) xE (by first|with_reducible exact Ie.out|with_reducible exact Ie.out.ext ((Ext.refl _).alloc _))).mono ?_;rintro e ws ⟨p5,c5,q5,d5,b0,bo,rfl,os,m,n⟩;have b:Ext v0 ws:=xE;obtain⟨b1,b2,b3,b4,b5,b6,b7,b8,b9,cb⟩:=((M1.bk 1).ext b).ten;have bl: ¬(w.heap.size=ws.heap.size):=by have:=b.sz;omega
      have bm: ¬(ws.heap.size=w.heap.size):=by have:=b.sz;omega
      first
       |(with_reducible have hz:Ext (v0.alloc (.cells #[(),(),((),()),(),(),(),(),(),(),((),())] aL)) ws:=x.trans n;have MB:=(Mem.own2blk M1 b ((Blk.new v0 aL #[(),(),((),()),(),(),(),(),(),(),((),())]).ext hz) (Nat.le_refl _) os m (by decide) (by decide) (by decide));obtain⟨ab,am,ad,an,ae,ao,af,ap,ag,aq,ah,ar,ai,au,aj,av,ak,aw,al,ax⟩:=(MB.blk (i:=2) rfl).tenf)
       |(with_reducible have hz:Ext (v0.alloc (.cells #[(),(),((),()),(),(),(),(),(),(),((),())] aL)) ws:=x.of_drew.trans n;have MB:=(Mem.own2blk M1 b ((Blk.new v0 aL #[(),(),((),()),(),(),(),(),(),(),((),())]).ext hz) (Nat.le_refl _) os m (by decide) (by decide) (by decide));obtain⟨ab,am,ad,an,ae,ao,af,ap,ag,aq,ah,ar,ai,au,aj,av,ak,aw,al,ax⟩:=(MB.blk (i:=2) rfl).tenf)
       |(with_reducible have hz:Ext (we.alloc (.cells #[(),(),((),()),(),(),(),(),(),(),((),())] aL)) ws:=n;have MB:=(Mem.own2blk M1 b ((Blk.new we aL #[(),(),((),()),(),(),(),(),(),(),((),())]).ext hz) d.sz os m (by decide) (by decide) (by decide));obtain⟨ab,am,ad,an,ae,ao,af,ap,ag,aq,ah,ar,ai,au,aj,av,ak,aw,al,ax⟩:=(MB.blk (i:=2) rfl).tenf)
       |(have MA:=(Mem.own2 M1 b os m (Nat.le_refl _) (by decide)))))
  all_goals (
   go_wp2_with fail;go_meet
   first
    |exact⟨_,p5,c5,q5,d5,rfl,(MB.put10 (i:=2) rfl (.int .i64 r.aA) (.int .i64 r.aB) (.slice p5 r.cells.length c5) (.int .i64 r.free) (.int .i64 r.step) (.int .i64 r.aE) (.int .i64 r.aF) (.int .i64 r.aC) (.int .i64 r.aG) (.slice q5 r.vs.length d5)).pick [2,0,1,3,4] (by decide) rfl⟩
    |exact⟨_,p5,c5,q5,d5,rfl,MA.bn aL #[r.aA,r.aB,.slice p5 r.cells.length c5,r.free,r.step,r.aE,r.aF,r.aC,r.aG,.slice q5 r.vs.length d5] _⟩)
 case rest=>
  clear a8 a9 ba bb bc bd be bf bg bh y aa xm HE HR IX HI;obtain⟨g5,p5,c5,q5,d5,rfl,t⟩:=hcut;obtain⟨v5,rfl⟩: ∃z,z=wc:=⟨_,rfl⟩
  have MC:=t;clear t M1 o s;have f:g5<v5.heap.size:=(MC.hi 0)
  have g:w.heap.size+1<v5.heap.size:=(MC.hi 3)
  have j:w.heap.size<v5.heap.size:=(MC.hi 4)
  obtain⟨v0,v1,v2,v3,v4,v5,v6,v7,v8,v9⟩:=(MC.bk 0).ten;obtain⟨f0,ay,f1,az,f2,a0,f3,a1,f4,a2,f5,a3,f6,a4,f7,a5,f8,a6,f9,a7⟩:=(MC.bk 3).tenf;obtain⟨k,l⟩:=MC.nq 0 3;go_wp2;clear v0 v1 v2 v3 v4 v5 v6 v7 v8 v9 f0 ay f1 az f2 a0 f3 a1 f4 a2 f5 a3 f6 a4 f7 a5 f8 a6 f9 a7 k l f g j;have c:=(MC.put10 (i:=3) rfl (.int .i64 r.aA) (.int .i64 r.aB) (.slice p5 r.cells.length c5) (.int .i64 r.free) (.int .i64 r.step) (.int .i64 r.aE) (.int .i64 r.aF) (.int .i64 r.aC) (.int .i64 r.aG) (.slice q5 r.vs.length d5))
  generalize u:World.setCell _ _ _=wz;rw[u]at c;clear u MC;obtain⟨y0,y1,y2,y3,y4,y5,y6,y7,y8,y9⟩:=(c.bk 3).ten;exact bodyPost_ret (v:= .agg #[r.aA,r.aB,.slice p5 r.cells.length c5,r.free,r.step,r.aE,r.aF,r.aC,r.aG,.slice q5 r.vs.length d5]) (by simp[results,Tryz.results20,go_sem, *]) rfl (show dG r w _ _ from⟨p5,c5,q5,d5,rfl,(c.ow 1),(c.ow 2),c.ext⟩)
theorem qC (h:aO)(p:OA)(n a:Nat)(q:OA)(m c2:Nat)(w:World)(hn:h.cells.length≤1048576)(hi:IsHouse w h p n a q m c2)(hE:BitTab w):
  Calls Tryz.prog 20 #[bK h p n a q m c2] w (dG (oL h) w):=by
 have hl:=hi.clen;have b:=hi.vlen;subst hl b
 exact aLm h (oL h) p a q c2 (aZ (aU h) (bV h)) (mI h (aZ (aU h) (bV h))).2.length w hi
  (fun w' hx=>yM h p _ a q _ c2 w' hn (hi.ext hx))
  (fun B pe ce w' hB hx hS=>(qA h p _ a q _ c2 pe _ ce _ w' (hi.ext hx) hS (Nat.le_trans (wZ hn) (by omega)) (hE.ext hx)).mono (by
   rintro e d ⟨pa,ca,qa,da,ps,cs,rfl,o1,o2,_,c⟩
   exact⟨pa,ca,qa,da,ps,cs,rfl,dX o1 hB,dX o2 hB,c⟩))
theorem xZ (p q:OA)(n m c1 c2:Nat)(xs ys:List Int)(w:World)(h1:Sl w p n c1 1 (ivs xs))(h2:Sl w q m c2 1 (ivs ys)):
  Calls Tryz.prog 89 #[.slice p n c1,.slice q m c2] w fun e w'=> ∃b:Bool,e= .returned (.bool b)∧(b=true↔xs=ys)∧Ext w w':=by
 have hn:=h1.bd;have hm:=h2.bd;have l1:=xQ h1.ilen;have l2:=xQ h2.ilen;have H1:=xQ h1;have H2:=xQ h2;clear h1 h2;by_cases hnm:n=m
 ·subst hnm;go_enter Tryz.func89,Tryz.ntmps89;go_wp2;go_loopw [5] (fun i wr=> ∃k:Nat,k≤n∧i= .int .i64 k∧xs.take k=ys.take k∧Ext w wr) (fun i _=>n-(intOf i).toNat)
  case atStart=>exact⟨0,Nat.zero_le _,rfl,rfl,Ext.refl _⟩
  case round=>
   obtain⟨k,hk,rfl,ht,hE⟩:=hrel;have HT:=xQ ht;clear ht;by_cases hlt:k<n
   ·obtain⟨b,j,x,rfl,hx,hb,d⟩:=(H1.out.ext hE).int_at hlt;obtain⟨b2,g,y,rfl,hy,h,c⟩:=(H2.out.ext hE).int_at hlt;have HX:=xQ hx;have HY:=xQ hy;clear hx hy;have i1:(0:Int)≤(k:Int):=by omega
    have i2:(k:Int)<(n:Int):=by omega
    by_cases hxy:x=y
    ·have f:Hid (xs.take (k+1)=ys.take (k+1)):=by
      show _=_;rw[bA HX.out,bA HY.out,HT.out,hxy]
     subst hxy;go_wp2;go_quiet (fail);go_wp2;go_roundw
     case rel=>exact⟨k+1,by omega,by go_num,f.out,xE⟩
     case measure=>simp[intOf];omega
    have e1:(x==y)=false:=by simpa using hxy
    have a:Hid (xs≠ys):=by rintro rfl;have:=HX.out.symm.trans HY.out;injection this with this;exact hxy this
    clear hxy;go_wp2;go_quiet (fail);go_wp2;go_ret;exact⟨false,rfl,iff_of_false Bool.false_ne_true a.out,xE⟩
   have a:Hid (xs=ys):=by have:=HT.out;rw[List.take_of_length_le (by rw[l1.out];omega),List.take_of_length_le (by rw[l2.out];omega)]at this;exact this
   go_wp2;go_ret;exact⟨true,rfl,iff_of_true rfl a.out,hE⟩
 have e1:((n:Int)==(m:Int))=false:=by simp;omega
 have e2: ¬(n:Int)=(m:Int):=by omega
 have a:Hid (xs≠ys):=by rintro rfl;exact hnm (l1.out.symm.trans l2.out)
 go_enter Tryz.func89,Tryz.ntmps89;go_wp2;go_ret;exact⟨false,rfl,iff_of_false Bool.false_ne_true a.out,xE⟩
theorem yA (aA aB c a:Int)(p q:OA)(n m c1 c2:Nat)(xs ys:List Int)(w:World)(h1:Sl w p n c1 1 (ivs xs))(h2:Sl w q m c2 1 (ivs ys)):
  Calls Tryz.prog 39 #[aH aA aB p n c1,aH c a q m c2] w fun e w'=> ∃b:Bool,e= .returned (.bool b)∧(b=true↔aA=c∧aB=a∧xs=ys)∧Ext w w':=by
 have H1:=xQ h1;have H2:=xQ h2;clear h1 h2;by_cases hw:aA=c
 ·subst hw;by_cases hd:aB=a
  ·subst hd;go_enter Tryz.func39,Tryz.ntmps39;go_wp2_with fail;refine(xZ p q n m c1 c2 xs ys _ (H1.out.ext xE) (H2.out.ext xE)).mono ?_;rintro e w1 ⟨b,rfl,hb,hx⟩;have HB:=xQ hb;clear hb;go_wp2;go_ret;exact⟨b,rfl,by rw[HB.out];simp,xE⟩
  have e1:(aB==a)=false:=by simpa using hd
  have HN:=xQ hd;clear hd;go_enter Tryz.func39,Tryz.ntmps39;go_wp2;go_ret;exact⟨false,rfl,iff_of_false Bool.false_ne_true (fun e=>HN e.2.1),xE⟩
 have e1:(aA==c)=false:=by simpa using hw
 have HN:=xQ hw;clear hw;go_enter Tryz.func39,Tryz.ntmps39;go_wp2;go_ret;exact⟨false,rfl,iff_of_false Bool.false_ne_true (fun e=>HN e.1),xE⟩
theorem fM (a b:Int):(a==b)=false∧ ¬a=b∨a=b:=by
 by_cases h:a=b
 ·exact .inr h
 exact .inl ⟨by simpa using h,h⟩
theorem vH (h g:aO)(p1:OA)(n1 c1:Nat)(q1:OA)(m1 d1:Nat)(p2:OA)(n2 c2:Nat)(q2:OA)(m2 d2:Nat)(w:World)(t:IsHouse w h p1 n1 c1 q1 m1 d1)(u:IsHouse w g p2 n2 c2 q2 m2 d2):
  Calls Tryz.prog 10 #[bK h p1 n1 c1 q1 m1 d1,bK g p2 n2 c2 q2 m2 d2] w fun e w'=> ∃b:Bool,e= .returned (.bool b)∧(b=true↔h=g)∧Ext w w':=by
 have hm:=t.vs.bd;have af:=u.vs.bd;have v:=xQ t.vlen;have x:=xQ u.vlen;have H1:=xQ t.cells;have H2:=xQ u.cells;have V1:=xQ t.vs;have V2:=xQ u.vs;clear t u;obtain⟨aA,aB,s,q,r,aE,aF,aC,aG,vs⟩:=h;obtain⟨f,d,p,m,n,c,l,a,j,o⟩:=g;dsimp only at v x H1 H2 V1 V2;go_enter Tryz.func10,Tryz.ntmps10;go_wp2_with fail;refine(yA aA aB f d p1 p2 n1 n2 c1 c2 s p _ (H1.out.ext (((Mem.start w).c0 aL #[aA,aB,.slice p1 n1 c1,q,r,aE,aF,aC,aG,.slice q1 m1 d1]).c1 aL #[f,d,.slice p2 n2 c2,m,n,c,l,a,j,.slice q2 m2 d2]).ext) (H2.out.ext (((Mem.start w).c0 aL #[aA,aB,.slice p1 n1 c1,q,r,aE,aF,aC,aG,.slice q1 m1 d1]).c1 aL #[f,d,.slice p2 n2 c2,m,n,c,l,a,j,.slice q2 m2 d2]).ext)).mono ?_;rintro e w1 ⟨b,rfl,hb,hx⟩;have HB:=xQ hb;clear hb;have M1:=((((Mem.start w).c0 aL #[aA,aB,.slice p1 n1 c1,q,r,aE,aF,aC,aG,.slice q1 m1 d1]).c1 aL #[f,d,.slice p2 n2 c2,m,n,c,l,a,j,.slice q2 m2 d2]).adv hx)
 have aa:=M1.hi 0;have ab:=M1.hi 1;clear hx;obtain⟨a0,a1,a2,a3,a4,a5,a6,a7,a8,a9⟩:=(M1.bk 1).ten;obtain⟨b0,b1,b2,b3,b4,b5,b6,b7,b8,b9⟩:=(M1.bk 0).ten;cases b with
 |false=>
  have HN:Hid (¬(aA=f∧aB=d∧s=p)):=fun e=>absurd (HB.out.2 e) Bool.false_ne_true
  go_wp2;go_ret;exact⟨false,rfl,iff_of_false Bool.false_ne_true (fun e=>HN (by injection e;exact⟨‹_›,‹_›,‹_›⟩)),M1.ext⟩
 |true=>
  obtain⟨rfl,rfl,rfl⟩:=HB.out.1 rfl;clear HB;rcases fM q m with⟨x1,hn⟩|rfl
  ·have HN:=xQ hn;clear hn;go_wp2;go_ret;exact⟨false,rfl,iff_of_false Bool.false_ne_true (fun e=>HN (by injection e)),M1.ext⟩
  rcases fM r n with⟨x1,hn⟩|rfl
  ·have HN:=xQ hn;clear hn;go_wp2;go_ret;exact⟨false,rfl,iff_of_false Bool.false_ne_true (fun e=>HN (by injection e)),M1.ext⟩
  rcases fM aE c with⟨x1,hn⟩|rfl
  ·have HN:=xQ hn;clear hn;go_wp2;go_ret;exact⟨false,rfl,iff_of_false Bool.false_ne_true (fun e=>HN (by injection e)),M1.ext⟩
  rcases fM aF l with⟨x1,hn⟩|rfl
  ·have HN:=xQ hn;clear hn;go_wp2;go_ret;exact⟨false,rfl,iff_of_false Bool.false_ne_true (fun e=>HN (by injection e)),M1.ext⟩
  rcases fM aC a with⟨x1,hn⟩|rfl
  ·have HN:=xQ hn;clear hn;go_wp2;go_ret;exact⟨false,rfl,iff_of_false Bool.false_ne_true (fun e=>HN (by injection e)),M1.ext⟩
  rcases fM aG j with⟨x1,hn⟩|rfl
  ·have HN:=xQ hn;clear hn;go_wp2;go_ret;exact⟨false,rfl,iff_of_false Bool.false_ne_true (fun e=>HN (by injection e)),M1.ext⟩
  by_cases hm:m1=m2
  ·subst hm;go_wp2;go_loopw [5] (fun i wr=> ∃k:Nat,k≤m1∧i= .int .i64 k∧vs.take k=o.take k∧Ext w1 wr) (fun i _=>m1-(intOf i).toNat)
   case atStart=>exact⟨0,Nat.zero_le _,rfl,rfl,Ext.refl _⟩
   case round=>
    clear a0 a1 a2 a3 a4 a5 a6 a7 a8 a9 b0 b1 b2 b3 b4 b5 b6 b7 b8 b9;obtain⟨k,hk,rfl,ht,hE⟩:=hrel;have HT:=xQ ht;have M2:=(M1.adv hE)
    clear ht;have ag:=hE.sz;have a9:=(M2.bk 1).cl 9;have b9:=(M2.bk 0).cl 9;by_cases hlt:k<m1
    ·obtain⟨b,ah,x0,x1,x2,x3,rfl,hx,hb,g0,g1,g2,g3⟩:=eB (V1.out.ext M2.ext) hlt;obtain⟨b',ad,y0,y1,y2,y3,rfl,hy,ae,k0,k1,k2,k3⟩:=eB (V2.out.ext M2.ext) hlt;have HX:=xQ hx;have HY:=xQ hy;clear hx hy;have i1:(0:Int)≤(k:Int):=by omega
     have i2:(k:Int)<(m1:Int):=by omega
     have HV:Hid (vs=o→(x0,x1,x2,x3)=(y0,y1,y2,y3)):=fun e=>by have:=HX.out;rw[e,HY.out]at this;injection this with this;exact this.symm
     rcases fM x0 y0 with⟨z1,hn⟩|rfl
     ·have HN:Hid (¬vs=o):=fun e=>hn (by have:=HV e;simp only[Prod.mk.injEq]at this;exact this.1)
      clear hn HV;go_wp2;go_quiet (fail);go_wp2;go_ret;exact⟨false,rfl,iff_of_false Bool.false_ne_true (fun e=>HN (by injection e)),Ext.drewN M2.ext _⟩
     rcases fM x1 y1 with⟨z1,hn⟩|rfl
     ·have HN:Hid (¬vs=o):=fun e=>hn (by have:=HV e;simp only[Prod.mk.injEq]at this;exact this.2.1)
      clear hn HV;go_wp2;go_quiet (fail);go_wp2;go_ret;exact⟨false,rfl,iff_of_false Bool.false_ne_true (fun e=>HN (by injection e)),Ext.drewN M2.ext _⟩
     rcases fM x2 y2 with⟨z1,hn⟩|rfl
     ·have HN:Hid (¬vs=o):=fun e=>hn (by have:=HV e;simp only[Prod.mk.injEq]at this;exact this.2.2.1)
      clear hn HV;go_wp2;go_quiet (fail);go_wp2;go_ret;exact⟨false,rfl,iff_of_false Bool.false_ne_true (fun e=>HN (by injection e)),Ext.drewN M2.ext _⟩
     rcases fM x3 y3 with⟨z1,hn⟩|rfl
     ·have HN:Hid (¬vs=o):=fun e=>hn (by have:=HV e;simp only[Prod.mk.injEq]at this;exact this.2.2.2)
      clear hn HV;go_wp2;go_quiet (fail);go_wp2;go_ret;exact⟨false,rfl,iff_of_false Bool.false_ne_true (fun e=>HN (by injection e)),Ext.drewN M2.ext _⟩
     have z:Hid (vs.take (k+1)=o.take (k+1)):=by show _=_;rw[bA HX.out,bA HY.out,HT.out]
     clear HV;go_wp2;go_quiet (fail);go_wp2;go_roundw
     case rel=>exact⟨k+1,by omega,by go_num,z.out,xE⟩
     case measure=>simp[intOf];omega
    have y:Hid (vs=o):=by have:=HT.out;rw[List.take_of_length_le (by rw[v.out];omega),List.take_of_length_le (by rw[x.out];omega)]at this;exact this
    go_wp2;go_ret;exact⟨true,rfl,iff_of_true rfl (by rw[y.out]),M2.ext⟩
  have e1:((m1:Int)==(m2:Int))=false:=by simp;omega
  have e2: ¬(m1:Int)=(m2:Int):=by omega
  have HN:Hid (¬vs=o):=fun e=>hm (by rw[←v.out,←x.out,e])
  go_wp2;go_ret;exact⟨false,rfl,iff_of_false Bool.false_ne_true (fun e=>HN (by injection e)),M1.ext⟩
theorem pO (h:aO)(p1:OA)(n1 c1:Nat)(q1:OA)(m1 d1:Nat)(p2:OA)(n2 c2:Nat)(q2:OA)(m2 d2:Nat)(w:World)(a:IsHouse w h p1 n1 c1 q1 m1 d1)(c:IsHouse w h p2 n2 c2 q2 m2 d2):
  Calls Tryz.prog 10 #[bK h p1 n1 c1 q1 m1 d1,bK h p2 n2 c2 q2 m2 d2] w fun e w'=>e= .returned (.bool true)∧Ext w w':=by
 refine(vH h h p1 n1 c1 q1 m1 d1 p2 n2 c2 q2 m2 d2 w a c).mono ?_;rintro e w' ⟨b,rfl,hb,hx⟩;rw[hb.2 rfl];exact⟨rfl,hx⟩
theorem aCq (p:OA)(c:Nat)(q:OA)(d:Nat)(w:World)(hi:IsHouse w hZ p 0 c q 0 d):
  Calls Tryz.prog 13 #[bK hZ p 0 c q 0 d] w fun e w'=>e= .returned (.bool true)∧Ext w w':=by
 have H:=xQ (fun w' (hx:Ext w w')=>pO hZ p 0 c q 0 d none 0 0 none 0 0 w' (hi.ext hx) ⟨Sl.nil w' 1,Sl.nil w' 4⟩);clear hi;unfold hZ at*;go_enter Tryz.func13,Tryz.ntmps13;go_wp2_with fail;refine(H _ xE).mono ?_;rintro e w1 ⟨rfl,a⟩;go_wp2;go_ret;exact⟨rfl,xE⟩
end Go.Proofs.YtpelpnfhbepokaaGreatDoor
namespace Go.Proofs.YtpelpnfhbepokaaGreatDoor
open Go.RowKit
set_option linter.unusedVariables false
set_option linter.unusedSimpArgs false
theorem aDq {h:aO}(a:aT h=true){id:Int}{v:aP}(hv:bY id h.vs=some v):aU h id=bX h.free h.step h.aE h.aF v.2.1 v.2.2.1 v.2.2.2 h.aC:=by unfold aU cS;rw[if_pos a,hv];rfl
theorem aJm {D E:aP→Int}: ∀(vs:List aP) (a:Int),(∀v∈vs,D v=E v)→vs.foldl (fun a v=>a+D v) a=vs.foldl (fun a v=>a+E v) a:=by
 intro vs;induction vs with
 |nil=>intro a _;rfl
 |cons v vs ih=>intro a h;simp only[List.foldl_cons];rw[h v (by simp)];exact ih _ (fun x hx=>h x (by simp[hx]))
theorem aHz {h:aO}(a:aT h=true):pL (fun v=>aU h v.1) h.vs=eK h:=by unfold eK pV pL;rw[if_pos a];exact aJm _ _ (fun v hv=>sS a hv)
end Go.Proofs.YtpelpnfhbepokaaGreatDoor
