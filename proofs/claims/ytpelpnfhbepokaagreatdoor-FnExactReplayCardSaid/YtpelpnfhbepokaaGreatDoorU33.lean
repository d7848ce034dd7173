/-
  Texts of this proof, packed (@packed).
-/
import Derived.Test.YtpelpnfhbepokaaGreatDoorU12
import Derived.Test.YtpelpnfhbepokaaGreatDoorU24
import Derived.Test.YtpelpnfhbepokaaGreatDoorU32
namespace Go.Proofs.YtpelpnfhbepokaaGreatDoor
open Go.RowKit
set_option linter.unusedVariables false
set_option linter.unusedSimpArgs false
set_option maxHeartbeats 8000000
set_option maxRecDepth 100000
theorem aLt (h:aW)(p:OA)(cap:Nat)(q:OA)(c2:Nat)(lq:OA)(lm lc:Nat)(ds:List Dd3)(w:World)
  (c:xC 18 #[.agg #[h.aA,h.aB,.slice p h.cells.length cap,h.free,h.step,h.aE,h.aG,h.aD,h.aF,.slice q h.vs.length c2]] w fun w' e w''=>e= .returned (Value.bool false)∧Ext w' w''):
  Calls Tryz.prog 8 #[.agg #[h.aA,h.aB,.slice p h.cells.length cap,h.free,h.step,h.aE,h.aG,h.aD,h.aF,.slice q h.vs.length c2],.slice lq lm lc] w (nA w.heap.size (hZ,[]) w):=by
 go_enter Tryz.func8,Tryz.ntmps8;go_wp2_with fail;refine(c _ (((Mem.start w).c0 aL #[h.aA,h.aB,.slice p h.cells.length cap,h.free,h.step,h.aE,h.aG,h.aD,h.aF,.slice q h.vs.length c2]).c1 aL zT).ext).mono ?_;rintro e w1 ⟨rfl,f⟩;have M1:=((((Mem.start w).c0 aL #[h.aA,h.aB,.slice p h.cells.length cap,h.free,h.step,h.aE,h.aG,h.aD,h.aF,.slice q h.vs.length c2]).c1 aL zT).adv f)
 have a:=M1.hi 0;have b:=M1.hi 1;clear f c;obtain⟨f0,g,f1,j,f2,k,f3,l,f4,m,f5,n,f6,o,f7,r,f8,s,f9,t⟩:=(M1.bk 0).tenf;go_wp2;clear f0 g f1 j f2 k f3 l f4 m f5 n f6 o f7 r f8 s f9 t a b;have M2:=(M1.put10 (i:=0) rfl (.int .i64 0) (.int .i64 0) (.slice none 0 0) (.int .i64 0) (.int .i64 0) (.int .i64 0) (.int .i64 0) (.int .i64 0) (.int .i64 0) (.slice none 0 0))
 generalize d:World.setCell _ _ _=wz;rw[d]at M2;clear d M1;obtain⟨y0,y1,y2,y3,y4,y5,y6,y7,y8,y9⟩:=(M2.bk 0).ten;exact bodyPost_ret (v:= .tuple #[.agg #[(),(),((),()),(),(),(),(),(),(),((),())],((),())]) (by simp[results,Tryz.results8,go_sem, *]) rfl (show nA w.heap.size (hZ,[]) w _ _ from⟨none,0,none,0,none,0,rfl,World.ownsRow_nil _ _ _ _,World.ownsRow_nil _ _ _ _,World.ownsRow_nil _ _ _ _,M2.ext⟩)
theorem aN8 (h:aW)(p:OA)(cap:Nat)(q:OA)(c2:Nat)(lq:OA)(lm lc:Nat)(ds:List Dd3)(w:World)(hb:lm≤1048576)(hE:Hid (BitTab w))(t:Hid (ds.length=lm))(bq:Hid (bU h=true))(HS:Hid (Sl w lq lm lc 3 (ds.flatMap iF)))
  (an:xB 18 #[.agg #[h.aA,h.aB,.slice p h.cells.length cap,h.free,h.step,h.aE,h.aG,h.aD,h.aF,.slice q h.vs.length c2]] w true)
  (HL:xC 36 #[.agg #[h.aA,h.aB,.slice p h.cells.length cap,h.free,h.step,h.aE,h.aG,h.aD,h.aF,.slice q h.vs.length c2]] w fun w' e w''=> ∃p' cap' q' c2',e= .returned (.agg #[h.aA,h.aB,.slice p' h.cells.length cap',h.free,h.step,h.aE,h.aG,h.aD,h.aF,.slice q' h.vs.length c2'])∧w''.ownsRow w'.heap.size TI 1 (.slice p' h.cells.length cap') h.cells.length (ivs h.cells)∧w''.ownsRow w'.heap.size TV 4 (.slice q' h.vs.length c2') h.vs.length (h.vs.flatMap aC)∧Ext w' w''):
  Calls Tryz.prog 8 #[.agg #[h.aA,h.aB,.slice p h.cells.length cap,h.free,h.step,h.aE,h.aG,h.aD,h.aF,.slice q h.vs.length c2],.slice lq lm lc] w (nA w.heap.size (nK h ds,eJ h ds) w):=by
 have bm:=HS.out.bd;obtain⟨AB,s⟩: ∃AB:Array Value,AB=madeCells #[.bool false] lm:=⟨_,rfl⟩
 have bp: ∀w:World,(Instr.makeSlice 34 (.int .i64 (lm:Int)) (.int .i64 (lm:Int))).run Tryz.prog w= .ok (.slice (some ⟨w.heap.size,0,none⟩) lm lm) (w.alloc (.cells AB TB)):=fun w=>by rw[s];exact run_make_row' _ _ (Value.bool false) 1 Tryz.underlying34 (by kernel_rfl) rfl .i64 .i64 lm (by omega) (by omega) w
 have ao:Hid (AB.toList=bcs []++List.replicate (lm-0) (Value.bool false)):=by show _=_;rw[s,(mA _ lm).1];simp[bcs]
 have ap:Hid (AB.size=lm):=by show _=_;rw[s];exact(mA _ lm).2
 clear s bm;go_enter Tryz.func8,Tryz.ntmps8;go_wp2_with fail;refine(an _ (((Mem.start w).c0 aL #[h.aA,h.aB,.slice p h.cells.length cap,h.free,h.step,h.aE,h.aG,h.aD,h.aF,.slice q h.vs.length c2]).c1 aL zT).ext).mono ?_;rintro e w1 ⟨rfl,av⟩;have M1:=((((Mem.start w).c0 aL #[h.aA,h.aB,.slice p h.cells.length cap,h.free,h.step,h.aE,h.aG,h.aD,h.aF,.slice q h.vs.length c2]).c1 aL zT).adv av)
 have aa:=M1.hi 0;have ab:=M1.hi 1;clear av an;obtain⟨ax,ay,az,a3,a4,a5,a6,a7,a8,a9⟩:=(M1.bk 1).ten;go_wp2_with fail;clear ax ay az a3 a4 a5 a6 a7 a8 a9;refine(HL _ M1.ext).mono ?_;rintro e w2 ⟨p1,m,q1,n,rfl,ho,hq,hx⟩;have M2:=(M1.own2 hx ho hq (Nat.le_refl _) (by decide))
 clear M1 aa ab hx ho hq HL;have ad:=M2.hi 2;have ae:=M2.hi 3;go_upto_region 4 with fail;obtain⟨gV,z⟩: ∃gV,gV=w2.heap.size:=⟨_,rfl⟩
 rw[←z];have M3:=(M2.blkNew aL #[h.aA,h.aB,.slice p1 h.cells.length m,h.free,h.step,h.aE,h.aG,h.aD,h.aF,.slice q1 h.vs.length n] gV z.symm)
 generalize World.alloc _ _=w3 at M3⊢;clear M2 ad ae z;have af:=M3.hi 0;have ag:=M3.hi 3;have ah:=M3.hi 4;go_upto_region 5 with fail;obtain⟨gD,y⟩: ∃gD,gD=w3.heap.size:=⟨_,rfl⟩
 rw[←y]
 have MD:=(show Mem w (w3.alloc (.cells AB TB)) [aI w.heap.size TB 1 (some ⟨gD,0,none⟩) (lm) (lm) (bcs ([])++List.replicate (lm-0) (Value.bool false)),aJ w.heap.size (gV) aL #[h.aA,h.aB,.slice p1 h.cells.length m,h.free,h.step,h.aE,h.aG,h.aD,h.aF,.slice q1 h.vs.length n],aI w.heap.size TI 1 (p1) (h.cells.length) (m) (ivs h.cells),aI w.heap.size TV 4 (q1) (h.vs.length) (n) (h.vs.flatMap aC),aJ w.heap.size (w.heap.size+1) aL #[(),(),((),()),(),(),(),(),(),(),((),())],aJ w.heap.size (w.heap.size) aL #[h.aA,h.aB,.slice p h.cells.length cap,h.free,h.step,h.aE,h.aG,h.aD,h.aF,.slice q h.vs.length c2]]from by
  have h1:=M3.lit TB 1 lm gD AB y.symm (by rw[ap.out];omega) (by simp[maxLen];omega);rw[ao.out]at h1
  exact h1)
 generalize au:World.alloc _ _=w4;rw[au]at MD;clear au ao ap bp y M3 af ag ah;go_wp2;go_loopw [21] (fun i wr=> ∃(k:Nat) (g:aW) (p3:OA) (c3:Nat) (q3:OA) (d3:Nat),k≤lm∧i= .int .i64 (k:Int)∧g=nK h (ds.take k)∧Mem w wr [aI w.heap.size TB 1 (some ⟨gD,0,none⟩) (lm) (lm) (bcs (eJ h (ds.take k))++List.replicate (lm-k) (Value.bool false)),aI w.heap.size TI 1 (p3) (g.cells.length) (c3) (ivs g.cells),aI w.heap.size TV 4 (q3) (g.vs.length) (d3) (g.vs.flatMap aC),aJ w.heap.size (gV) aL #[g.aA,g.aB,.slice p3 g.cells.length c3,g.free,g.step,g.aE,g.aG,g.aD,g.aF,.slice q3 g.vs.length d3],aJ w.heap.size (w.heap.size+1) aL #[(),(),((),()),(),(),(),(),(),(),((),())],aJ w.heap.size (w.heap.size) aL #[h.aA,h.aB,.slice p h.cells.length cap,h.free,h.step,h.aE,h.aG,h.aD,h.aF,.slice q h.vs.length c2]]) (fun i _=>lm-(intOf i).toNat)
 case atStart=>exact⟨0,h,p1,m,q1,n,Nat.zero_le _,rfl,rfl,(show Mem w w4 [aI w.heap.size TB 1 (some ⟨gD,0,none⟩) (lm) (lm) (bcs ([])++List.replicate (lm-0) (Value.bool false)),aI w.heap.size TI 1 (p1) (h.cells.length) (m) (ivs h.cells),aI w.heap.size TV 4 (q1) (h.vs.length) (n) (h.vs.flatMap aC),aJ w.heap.size (gV) aL #[h.aA,h.aB,.slice p1 h.cells.length m,h.free,h.step,h.aE,h.aG,h.aD,h.aF,.slice q1 h.vs.length n],aJ w.heap.size (w.heap.size+1) aL #[(),(),((),()),(),(),(),(),(),(),((),())],aJ w.heap.size (w.heap.size) aL #[h.aA,h.aB,.slice p h.cells.length cap,h.free,h.step,h.aE,h.aG,h.aD,h.aF,.slice q h.vs.length c2]]from MD.pick [0,2,3,1,4,5] (by decide) rfl)⟩
 case round=>
  clear MD;obtain⟨k,g,p3,c3,q3,d3,hk,rfl,hg,hM⟩:=hrel;have HM:=hM;have HG:=xQ hg;have am:Hid (bU g=true):=by show _=_;rw[hg];exact zY _ bq.out
  clear hM hg;by_cases hlt:k<lm
  ·obtain⟨b,b5,a0,a1,a2,bo,hx,b4,e0,e1,e2⟩:=aG7 (HS.out.ext HM.ext) hlt;subst bo;have HX:=xQ hx;clear hx;have i1:(0:Int)≤(k:Int):=by omega
   have i2:(k:Int)<(lm:Int):=by omega
   obtain⟨r,num,ok,hr⟩: ∃r num ok,(r,num,ok)=doR g a0 a1 a2:=⟨_,_,_,rfl⟩
   have HR:=xQ hr;clear hr;have ar:Hid (nK h (ds.take (k+1))=r∧eJ h (ds.take (k+1))=eJ h (ds.take k)++ [ok]):=by show _∧_;rw[bI HX.out,xS,vQ,←HG.out,←HR.out];exact⟨rfl,rfl⟩
   have HD:Hid (∀B p c q d w',B≤w'.heap.size→Ext wr w'→IsHouse w' g p g.cells.length c q g.vs.length d→Calls Tryz.prog 15 #[.agg #[g.aA,g.aB,.slice p g.cells.length c,g.free,g.step,g.aE,g.aG,g.aD,g.aF,.slice q g.vs.length d],.agg #[a0,a1,a2]] w' fun e w''=> ∃pa ca qa da,e= .returned (.tuple #[.agg #[r.aA,r.aB,.slice pa r.cells.length ca,r.free,r.step,r.aE,r.aG,r.aD,r.aF,.slice qa r.vs.length da],num,.bool ok])∧w''.ownsRow B TI 1 (.slice pa r.cells.length ca) r.cells.length (ivs r.cells)∧w''.ownsRow B TV 4 (.slice qa r.vs.length da) r.vs.length (r.vs.flatMap aC)∧Ext w' w''):=fun B p c q d w' hB hx hi=>by refine(aCn g a0 a1 a2 p _ c q _ d w' hi am (hE.out.ext (HM.ext.trans hx))).mono (fun e w'' hr=> ?_);have hq:=aFu hB am hr;rw[←HR.out]at hq;exact hq
   have IX:=xQ (show IsHouse wr g p3 g.cells.length c3 q3 g.vs.length d3 from⟨(HM.sq 1),(HM.sq 2)⟩);have a:gV<wr.heap.size:=(HM.hi 3)
   have f:w.heap.size+1<wr.heap.size:=(HM.hi 4)
   have l:w.heap.size<wr.heap.size:=(HM.hi 5)
   obtain⟨v0,v1,v2,v3,v4,v5,v6,v7,v8,v9⟩:=(HM.bk 3).ten;go_wp2_with fail;clear v0 v1 v2 v3 v4 v5 v6 v7 v8 v9 e0 e1 e2;refine(HD _ _ _ _ _ _ (Nat.le_refl _) ((Ext.refl _).alloc _) (IX.out.ext ((Ext.refl _).alloc _))).mono ?_;rintro e w6 ⟨p5,c5,q5,d5,rfl,ho,hq,hx⟩;have M6:=((HM.c0 TDd #[a0,a1,a2]).own2 hx ho hq (Nat.le_refl _) (by decide))
   clear HM a f l hx ho hq HD IX;have ai:=M6.hi 2;have aj:=M6.hi 6;have ak:=M6.hi 7;have al:=M6.hi 8;obtain⟨v0,bt,v1,bu,v2,bv,v3,bw,v4,bx,v5,bz,v6,b0,v7,b1,v8,b2,v9,b3⟩:=(M6.bk 6).tenf;have br:gD<w6.heap.size:=(M6.hi 3)
   have aw: ¬(gD=gV):=M6.ne (i:=3) (j:=6) (by omega) rfl rfl rfl rfl;have bs: ¬(gV=gD):=fun h=>aw h.symm
   have fD:w6.frozen? ⟨gD,k,none⟩=false:=(M6.ow 3).frozenAt k;have aq:(bcs (eJ h (ds.take k))).length=k:=by rw[aM3,oS,List.length_take,t.out];omega
   have cD:w6.cell? ⟨gD,k,none⟩=some (Value.bool false):=by have:=(M6.ow 3).cellAt k (by omega);rw[this];exact aM0 aq hlt
   go_wp2;clear v0 bt v1 bu v2 bv v3 bw v4 bx v5 bz v6 b0 v7 b1 v8 b2 v9 b3 br aw bs fD cD;have M9:=((M6.put10 (i:=6) rfl (.int .i64 r.aA) (.int .i64 r.aB) (.slice p5 r.cells.length c5) (.int .i64 r.free) (.int .i64 r.step) (.int .i64 r.aE) (.int .i64 r.aG) (.int .i64 r.aD) (.int .i64 r.aF) (.slice q5 r.vs.length d5)).ostore (i:=3) rfl k (Value.bool ok))
   generalize o:World.setCell _ _ _=wz;rw[o]at M9;clear o M6 ai aj ak al;go_roundw
   case rel=>
    have hd:(bcs (eJ h (ds.take k))++List.replicate (lm-k) (Value.bool false)).set k (Value.bool ok)=bcs (eJ h (ds.take (k+1)))++List.replicate (lm-(k+1)) (Value.bool false):=by rw[ar.out.2,aD8];exact aKs aq hlt
    exact⟨k+1,r,p5,c5,q5,d5,by omega,by go_num,ar.out.1.symm,by rw[←hd];exact(show Mem w wz [aI w.heap.size TB 1 (some ⟨gD,0,none⟩) (lm) (lm) ((bcs (eJ h (ds.take k))++List.replicate (lm-k) (Value.bool false)).set k (Value.bool ok)),aI w.heap.size TI 1 (p5) (r.cells.length) (c5) (ivs r.cells),aI w.heap.size TV 4 (q5) (r.vs.length) (d5) (r.vs.flatMap aC),aJ w.heap.size (gV) aL #[r.aA,r.aB,.slice p5 r.cells.length c5,r.free,r.step,r.aE,r.aG,r.aD,r.aF,.slice q5 r.vs.length d5],aJ w.heap.size (w.heap.size+1) aL #[(),(),((),()),(),(),(),(),(),(),((),())],aJ w.heap.size (w.heap.size) aL #[h.aA,h.aB,.slice p h.cells.length cap,h.free,h.step,h.aE,h.aG,h.aD,h.aF,.slice q h.vs.length c2]]from(show Mem w wz [aI w.heap.size TI 1 (p5) (r.cells.length) (c5) (ivs r.cells),aI w.heap.size TV 4 (q5) (r.vs.length) (d5) (r.vs.flatMap aC),aJ w.heap.size (wr.heap.size) TDd #[a0,a1,a2],aI w.heap.size TB 1 (some ⟨gD,0,none⟩) (lm) (lm) ((bcs (eJ h (ds.take k))++List.replicate (lm-k) (Value.bool false)).set k (Value.bool ok)),aI w.heap.size TI 1 (p3) (g.cells.length) (c3) (ivs g.cells),aI w.heap.size TV 4 (q3) (g.vs.length) (d3) (g.vs.flatMap aC),aJ w.heap.size (gV) aL #[r.aA,r.aB,.slice p5 r.cells.length c5,r.free,r.step,r.aE,r.aG,r.aD,r.aF,.slice q5 r.vs.length d5],aJ w.heap.size (w.heap.size+1) aL #[(),(),((),()),(),(),(),(),(),(),((),())],aJ w.heap.size (w.heap.size) aL #[h.aA,h.aB,.slice p h.cells.length cap,h.free,h.step,h.aE,h.aG,h.aD,h.aF,.slice q h.vs.length c2]]from M9).pick [3,0,1,6,7,8] (by decide) rfl)⟩
   case measure=>simp[intOf];omega
  obtain rfl:lm=k:=by omega
  have a:gV<wr.heap.size:=(HM.hi 3)
  have f:w.heap.size+1<wr.heap.size:=(HM.hi 4)
  have l:w.heap.size<wr.heap.size:=(HM.hi 5)
  obtain⟨v0,v1,v2,v3,v4,v5,v6,v7,v8,v9⟩:=(HM.bk 3).ten;obtain⟨f0,ba,f1,bb,f2,bc,f3,be,f4,bf,f5,bg,f6,bh,f7,bi,f8,bj,f9,bl⟩:=(HM.bk 4).tenf;obtain⟨u,x⟩:=HM.nq 3 4;go_wp2;clear v0 v1 v2 v3 v4 v5 v6 v7 v8 v9 f0 ba f1 bb f2 bc f3 be f4 bf f5 bg f6 bh f7 bi f8 bj f9 bl u x a f l;have M6:=(HM.put10 (i:=4) rfl (.int .i64 g.aA) (.int .i64 g.aB) (.slice p3 g.cells.length c3) (.int .i64 g.free) (.int .i64 g.step) (.int .i64 g.aE) (.int .i64 g.aG) (.int .i64 g.aD) (.int .i64 g.aF) (.slice q3 g.vs.length d3))
  generalize o:World.setCell _ _ _=wz;rw[o]at M6;clear o HM;obtain⟨y0,y1,y2,y3,y4,y5,y6,y7,y8,y9⟩:=(M6.bk 4).ten;exact bodyPost_ret (v:= .tuple #[.agg #[g.aA,g.aB,.slice p3 g.cells.length c3,g.free,g.step,g.aE,g.aG,g.aD,g.aF,.slice q3 g.vs.length d3],.slice (some ⟨gD,0,none⟩) lm lm]) (by simp[results,Tryz.results8,go_sem, *]) rfl (aFt (by have h1:=HG.out;rw[List.take_of_length_le (by rw[t.out];exact Nat.le_refl _)]at h1;exact h1) t.out (M6.ow 1) (M6.ow 2) (by have h1:=(M6.ow 0);rw[List.take_of_length_le (by rw[t.out];exact Nat.le_refl _),Nat.sub_self,List.replicate_zero,List.append_nil]at h1;exact h1) M6.ext)
theorem aAg (h:aW)(p:OA)(n cap:Nat)(q:OA)(m c2:Nat)(lq:OA)(lm lc:Nat)(ds:List Dd3)(w:World)(hi:IsHouse w h p n cap q m c2)(hS:Sl w lq lm lc 3 (ds.flatMap iF))(hb:lm≤1048576)(hE:BitTab w):
  Calls Tryz.prog 8 #[cA h p n cap q m c2,.slice lq lm lc] w (nA w.heap.size (wP h ds) w):=by
 have hl:=hi.clen;have b:=hi.vlen;have a:ds.length=lm:=by have:=hS.len;rw[cX iF 3 (fun _=>rfl)]at this;omega
 subst hl b;have HV:=xQ fun(w':World) (hx:Ext w w')=>oP h p _ cap q _ c2 w' (hi.ext hx)
 by_cases hok:bU h=true
 ·have c:=jV hok;unfold wP;rw[if_pos hok];rw[hok]at HV;have HL:=xQ fun(w':World) (hx:Ext w w')=>pG h p _ cap q _ c2 w' (by omega) (by omega) (hi.ext hx)
  unfold RetHouse at HL;exact aN8 h p cap q c2 lq lm lc ds w hb hE a hok hS HV HL
 unfold wP;rw[if_neg hok];rw[show bU h=false by simpa using hok]at HV;exact aLt h p cap q c2 lq lm lc ds w HV
end Go.Proofs.YtpelpnfhbepokaaGreatDoor
