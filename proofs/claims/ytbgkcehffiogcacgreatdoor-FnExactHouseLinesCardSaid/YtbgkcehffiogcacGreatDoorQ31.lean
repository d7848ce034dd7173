/-
  Texts of this proof, packed (@packed).
-/
import Derived.Test.YtbgkcehffiogcacGreatDoorQ30
namespace Go.Proofs.YtbgkcehffiogcacGreatDoor
open Go.RowKit
set_option linter.unusedSimpArgs false
set_option linter.unusedVariables false
set_option maxHeartbeats 8000000
set_option maxRecDepth 100000
section
open Go.Proofs.Tryz
theorem aPr (h:aL)(p:OA)(cap:Nat)(q:OA)(c2:Nat)(lq:OA)(lm lc:Nat)(ds:List Dd3)(w:World)
  (a:xC 31 #[.agg #[h.aA,h.aB,.slice p h.cells cap,h.free,h.step,h.aD,h.aF,h.aC,h.aG,.slice q h.vs c2]] w fun w' e w''=>e= .returned (Value.bool false)∧Ext w' w''):
  U 84 #[.agg #[h.aA,h.aB,.slice p h.cells cap,h.free,h.step,h.aD,h.aF,h.aC,h.aG,.slice q h.vs c2],.slice lq lm lc] w (oL w (hZ,[]) w):=by
 go_enter func84,ntmps84;go_wp2_with fail;refine Z (a _ (((Mem.start w).c0 aK #[h.aA,h.aB,.slice p h.cells cap,h.free,h.step,h.aD,h.aF,h.aC,h.aG,.slice q h.vs c2]).c1 aK zT).ext) fun w1 c=>?_
 have M1:=((((Mem.start w).c0 aK #[h.aA,h.aB,.slice p h.cells cap,h.free,h.step,h.aD,h.aF,h.aC,h.aG,.slice q h.vs c2]).c1 aK zT).adv c)
 clear c a;obtain⟨f0,d,f1,f,f2,g,f3,j,f4,k,f5,l,f6,m,f7,n,f8,o,f9,r⟩:=(M1.bk 0).tenf;go_wp2;clear f0 d f1 f f2 g f3 j f4 k f5 l f6 m f7 n f8 o f9 r;have M2:=(M1.put10 (i:=0) rfl (I 0) (I 0) (.slice none 0 0) (I 0) (I 0) (I 0) (I 0) (I 0) (I 0) (.slice none 0 0))
 generalize b:World.setCell _ _ _=wz;rw[b]at M2;clear b M1;obtain⟨y0,y1,y2,y3,y4,y5,y6,y7,y8,y9⟩:=(M2.bk 0).ten;exact bodyPost_ret (v:= .tuple #[.agg #[(),(),((),()),(),(),(),(),(),(),((),())],((),())]) (by simp[results,results84,go_sem, *]) rfl (show oL w (hZ,[]) w _ _ from⟨none,0,none,0,none,0,rfl,aS4 _ _ _ _,aS4 _ _ _ _,aS4 _ _ _ _,M2.ext⟩)
theorem aRd (h:aL)(p:OA)(cap:Nat)(q:OA)(c2:Nat)(lq:OA)(lm lc:Nat)(ds:List Dd3)(w:World)(hb:lm≤1048576)(hE:Hid (BitTab w))(o:Hid (ds.length=lm))(a8:Hid (aR h=true))(HS:Hid (Sl w lq lm lc 3 (ds.flatMap cF)))
  (x:xB 31 #[.agg #[h.aA,h.aB,.slice p h.cells cap,h.free,h.step,h.aD,h.aF,h.aC,h.aG,.slice q h.vs c2]] w true)
  (HL:xC 36 #[.agg #[h.aA,h.aB,.slice p h.cells cap,h.free,h.step,h.aD,h.aF,h.aC,h.aG,.slice q h.vs c2]] w fun w' e w''=> ∃p' cap' q' c2',e= .returned (.agg #[h.aA,h.aB,.slice p' h.cells cap',h.free,h.step,h.aD,h.aF,h.aC,h.aG,.slice q' h.vs c2'])∧w''.ownsRow w' TI 1 (.slice p' h.cells cap') h.cells.length (ivs h.cells)∧w''.ownsRow w' TV 4 (.slice q' h.vs c2') h.vs.length (h.vs.flatMap aE)∧Ext w' w''):
  U 84 #[.agg #[h.aA,h.aB,.slice p h.cells cap,h.free,h.step,h.aD,h.aF,h.aC,h.aG,.slice q h.vs c2],.slice lq lm lc] w (oL w (rZ h ds,fO h ds) w):=by
 have a5:=HS.out.bd;obtain⟨AB,n⟩: ∃AB:Array Value,AB=madeCells #[.bool false] lm:=⟨_,rfl⟩
 have a7: ∀w:World,(Instr.makeSlice 92 (I lm) (I lm)).run prog w= .ok (.slice (some ⟨w,0,none⟩) lm lm) (w.alloc (.cells AB TB)):=fun w=>by rw[n];exact run_make_row' _ _ (Value.bool false) 1 underlying92 (by kernel_rfl) rfl .i64 .i64 lm (by omega) (by omega) w
 have y:Hid (AB.toList=bcs []++List.replicate (lm-0) (Value.bool false)):=by show _=_;rw[n,(iS _ lm).1];simp[bcs]
 have z:Hid (AB.size=lm):=by show _=_;rw[n];exact(iS _ lm).2
 clear n a5;go_enter func84,ntmps84;go_wp2_with fail;refine Z (x _ (((Mem.start w).c0 aK #[h.aA,h.aB,.slice p h.cells cap,h.free,h.step,h.aD,h.aF,h.aC,h.aG,.slice q h.vs c2]).c1 aK zT).ext) fun w1 ae=>?_
 have M1:=((((Mem.start w).c0 aK #[h.aA,h.aB,.slice p h.cells cap,h.free,h.step,h.aD,h.aF,h.aC,h.aG,.slice q h.vs c2]).c1 aK zT).adv ae)
 clear ae x;obtain⟨ag,ah,ai,aj,ak,al,am,an,ao,ap⟩:=(M1.bk 1).ten;go_wp2_with fail;clear ag ah ai aj ak al am an ao ap;refine(HL _ M1.ext).mono ?_;rintro e w2 ⟨p1,f,q1,l,rfl,ho,hq,hx⟩;have M2:=(M1.own2 hx ho hq (aRp _) (by decide))
 clear M1 hx ho hq HL;go_upto_region 4 with fail;obtain⟨gV,t⟩: ∃gV,gV=w2.heap.size:=⟨_,rfl⟩
 rw[←t];have M3:=(M2.blkNew aK #[h.aA,h.aB,.slice p1 h.cells f,h.free,h.step,h.aD,h.aF,h.aC,h.aG,.slice q1 h.vs l] gV t.symm)
 generalize World.alloc _ _=w3 at M3⊢;clear M2 t;go_upto_region 5 with fail;obtain⟨gD,s⟩: ∃gD,gD=w3.heap.size:=⟨_,rfl⟩
 rw[←s]
 have MD:=(show Mem w (w3.alloc (.cells AB TB)) [aI w TB 1 (some ⟨gD,0,none⟩) (lm) (lm) (bcs ([])++List.replicate (lm-0) (Value.bool false)),aJ w (gV) aK (aUe h p1 f q1 l),aUc w p1 h.cells f,aUd w q1 h.vs l,aJ w (w.heap.size+1) aK #[(),(),((),()),(),(),(),(),(),(),((),())],aJ w w aK (aUe h p cap q c2)]from by
  have h1:=M3.lit TB 1 lm gD AB s.symm (by rw[z.out];omega) (by simp[maxLen];omega);rw[y.out]at h1
  exact h1)
 generalize ad:World.alloc _ _=w4;rw[ad]at MD;clear ad y z a7 s M3;go_wp2;go_loopw [21] (fun i wr=> ∃(k:Nat) (g:aL) (p3:OA) (c3:Nat) (q3:OA) (d3:Nat),k≤lm∧i=I k∧g=rZ h (ds.take k)∧Mem w wr [aI w TB 1 (some ⟨gD,0,none⟩) (lm) (lm) (bcs (fO h (ds.take k))++List.replicate (lm-k) (Value.bool false)),aUc w p3 g.cells c3,aUd w q3 g.vs d3,aJ w (gV) aK (aUe g p3 c3 q3 d3),aJ w (w.heap.size+1) aK #[(),(),((),()),(),(),(),(),(),(),((),())],aJ w w aK (aUe h p cap q c2)]) (fun i _=>lm-(intOf i).toNat)
 case atStart=>exact⟨0,h,p1,f,q1,l,aRv _,rfl,rfl,(show Mem w w4 [aI w TB 1 (some ⟨gD,0,none⟩) (lm) (lm) (bcs ([])++List.replicate (lm-0) (Value.bool false)),aUc w p1 h.cells f,aUd w q1 h.vs l,aJ w (gV) aK (aUe h p1 f q1 l),aJ w (w.heap.size+1) aK #[(),(),((),()),(),(),(),(),(),(),((),())],aJ w w aK (aUe h p cap q c2)]from MD.pick [0,2,3,1,4,5] (by decide) rfl)⟩
 case round=>
  clear MD;obtain⟨k,g,p3,c3,q3,d3,hk,rfl,hg,hM⟩:=hrel;have HM:=hM;have HG:=xQ hg;have u:Hid (aR g=true):=by show _=_;rw[hg];exact aBo _ a8.out
  clear hM hg;by_cases hlt:k<lm
  ·obtain⟨b,bo,a0,a1,a2,a6,hx,bm,e0,e1,e2⟩:=aIq (HS.out.ext HM.ext) hlt;subst a6;have HX:=xQ hx;clear hx;have i1:(0:Int)≤(k:Int):=by omega
   have i2:(k:Int)<(lm:Int):=by omega
   obtain⟨r,num,ok,hr⟩: ∃r num ok,(r,num,ok)=doR g a0 a1 a2:=⟨_,_,_,rfl⟩
   have HR:=xQ hr;clear hr;have ab:Hid (rZ h (ds.take (k+1))=r∧fO h (ds.take (k+1))=fO h (ds.take k)++ [ok]):=by show _∧_;rw[aY HX.out,aA1,yG,←HG.out,←HR.out];exact⟨rfl,rfl⟩
   have HD:Hid (∀B p c q d w',B≤w'.heap.size→Ext wr w'→IsHouse w' g p g.cells.length c q g.vs.length d→U 33 #[.agg #[g.aA,g.aB,.slice p g.cells c,g.free,g.step,g.aD,g.aF,g.aC,g.aG,.slice q g.vs d],.agg #[a0,a1,a2]] w' fun e w''=> ∃pa ca qa da,e= .returned (.tuple #[.agg #[r.aA,r.aB,.slice pa r.cells ca,r.free,r.step,r.aD,r.aF,r.aC,r.aG,.slice qa r.vs da],num,.bool ok])∧w''.ownsRow B TI 1 (.slice pa r.cells ca) r.cells.length (ivs r.cells)∧w''.ownsRow B TV 4 (.slice qa r.vs da) r.vs.length (r.vs.flatMap aE)∧Ext w' w''):=fun B p c q d w' hB hx hi=>by refine(uZ g a0 a1 a2 p _ c q _ d w' hi u (hE.out.ext (HM.ext.trans hx))).mono (fun e w'' hr=> ?_);have hq:=vY hB u hr;rw[←HR.out]at hq;exact hq
   have IX:=xQ (show IsHouse wr g p3 g.cells.length c3 q3 g.vs.length d3 from⟨(HM.sq 1),(HM.sq 2)⟩);have a:gV<wr:=(HM.hi 3)
   obtain⟨v0,v1,v2,v3,v4,v5,v6,v7,v8,v9⟩:=(HM.bk 3).ten;go_wp2_with fail;clear v0 v1 v2 v3 v4 v5 v6 v7 v8 v9 e0 e1 e2;refine(HD _ _ _ _ _ _ (aRp _) ((Ext.refl _).alloc _) (IX.out.ext ((Ext.refl _).alloc _))).mono ?_;rintro e w6 ⟨p5,c5,q5,d5,rfl,ho,hq,hx⟩;have M6:=((HM.c0 TDd #[a0,a1,a2]).own2 hx ho hq (aRp _) (by decide))
   clear HM a hx ho hq HD IX;obtain⟨v0,ba,v1,bb,v2,bc,v3,be,v4,bf,v5,bg,v6,bh,v7,bi,v8,bj,v9,bl⟩:=(M6.bk 6).tenf;have af: ¬(gD=gV):=M6.ne (i:=3) (j:=6) (by omega) rfl rfl rfl rfl;have a9: ¬(gV=gD):=fun h=>af h.symm
   have fD:w6.frozen? ⟨gD,k,none⟩=false:=(M6.ow 3).frozenAt k;have aa:(bcs (fO h (ds.take k))).length=k:=by rw[aQ6,uH,aSd,o.out];omega
   have cD:w6.cell? ⟨gD,k,none⟩=some (Value.bool false):=by have:=(M6.ow 3).cellAt k (by omega);rw[this];exact aQ1 aa hlt
   go_wp2;clear v0 ba v1 bb v2 bc v3 be v4 bf v5 bg v6 bh v7 bi v8 bj v9 bl af a9 fD cD;have M9:=((M6.put10 (i:=6) rfl (I r.aA) (I r.aB) (.slice p5 r.cells c5) (I r.free) (I r.step) (I r.aD) (I r.aF) (I r.aC) (I r.aG) (.slice q5 r.vs d5)).ostore (i:=3) rfl k (Value.bool ok))
   generalize m:World.setCell _ _ _=wz;rw[m]at M9;clear m M6;go_roundw
   case rel=>
    have hd:(bcs (fO h (ds.take k))++List.replicate (lm-k) (Value.bool false)).set k (Value.bool ok)=bcs (fO h (ds.take (k+1)))++List.replicate (lm-(k+1)) (Value.bool false):=by rw[ab.out.2,aFd];exact aOa aa hlt
    exact⟨k+1,r,p5,c5,q5,d5,by omega,by go_num,ab.out.1.symm,by rw[←hd];exact(show Mem w wz [aI w TB 1 (some ⟨gD,0,none⟩) (lm) (lm) ((bcs (fO h (ds.take k))++List.replicate (lm-k) (Value.bool false)).set k (Value.bool ok)),aUc w p5 r.cells c5,aUd w q5 r.vs d5,aJ w (gV) aK (aUe r p5 c5 q5 d5),aJ w (w.heap.size+1) aK #[(),(),((),()),(),(),(),(),(),(),((),())],aJ w w aK (aUe h p cap q c2)]from(show Mem w wz [aUc w p5 r.cells c5,aUd w q5 r.vs d5,aJ w wr TDd #[a0,a1,a2],aI w TB 1 (some ⟨gD,0,none⟩) (lm) (lm) ((bcs (fO h (ds.take k))++List.replicate (lm-k) (Value.bool false)).set k (Value.bool ok)),aUc w p3 g.cells c3,aUd w q3 g.vs d3,aJ w (gV) aK (aUe r p5 c5 q5 d5),aJ w (w.heap.size+1) aK #[(),(),((),()),(),(),(),(),(),(),((),())],aJ w w aK (aUe h p cap q c2)]from M9).pick [3,0,1,6,7,8] (by decide) rfl)⟩
   case measure=>simp[intOf];omega
  obtain rfl:lm=k:=by omega
  have a:gV<wr:=(HM.hi 3)
  obtain⟨v0,v1,v2,v3,v4,v5,v6,v7,v8,v9⟩:=(HM.bk 3).ten;obtain⟨f0,aq,f1,ar,f2,au,f3,av,f4,aw,f5,ax,f6,ay,f7,az,f8,a3,f9,a4⟩:=(HM.bk 4).tenf;go_wp2;clear v0 v1 v2 v3 v4 v5 v6 v7 v8 v9 f0 aq f1 ar f2 au f3 av f4 aw f5 ax f6 ay f7 az f8 a3 f9 a4 a;have M6:=(HM.put10 (i:=4) rfl (I g.aA) (I g.aB) (.slice p3 g.cells c3) (I g.free) (I g.step) (I g.aD) (I g.aF) (I g.aC) (I g.aG) (.slice q3 g.vs d3))
  generalize m:World.setCell _ _ _=wz;rw[m]at M6;clear m HM;obtain⟨y0,y1,y2,y3,y4,y5,y6,y7,y8,y9⟩:=(M6.bk 4).ten;exact bodyPost_ret (v:= .tuple #[.agg #[g.aA,g.aB,.slice p3 g.cells c3,g.free,g.step,g.aD,g.aF,g.aC,g.aG,.slice q3 g.vs d3],.slice (some ⟨gD,0,none⟩) lm lm]) (by simp[results,results84,go_sem, *]) rfl (aI8 (by have h1:=HG.out;rw[aRu (by rw[o.out];exact aRp _)]at h1;exact h1) o.out (M6.ow 1) (M6.ow 2) (by have h1:=(M6.ow 0);rw[aRu (by rw[o.out];exact aRp _),aT0,List.replicate_zero,aSe]at h1;exact h1) M6.ext)
theorem aC8 (h:aL)(p:OA)(n cap:Nat)(q:OA)(m c2:Nat)(lq:OA)(lm lc:Nat)(ds:List Dd3)(w:World)(hi:IsHouse w h p n cap q m c2)(hS:Sl w lq lm lc 3 (ds.flatMap cF))(hb:lm≤1048576)(hE:BitTab w):
  U 84 #[bM h p n cap q m c2,.slice lq lm lc] w (oL w (tS h ds) w):=by
 have hl:=hi.clen;have b:=hi.vlen;have a:ds.length=lm:=by have:=hS.len;rw[cR cF 3 (fun _=>rfl)]at this;omega
 subst hl b;have HV:=xQ fun(w':World) (hx:Ext w w')=>iF h p _ cap q _ c2 w' (hi.ext hx)
 by_cases hok:aR h=true
 ·have c:=dE hok;unfold tS;rw[if_pos hok];rw[hok]at HV;have HL:=xQ fun(w':World) (hx:Ext w w')=>kP h p _ cap q _ c2 w' (by omega) (by omega) (hi.ext hx)
  unfold RetHouse at HL;exact aRd h p cap q c2 lq lm lc ds w hb hE a hok hS HV HL
 unfold tS;rw[if_neg hok];rw[show aR h=false by simpa using hok]at HV;exact aPr h p cap q c2 lq lm lc ds w HV
end
section
open Go.ChangeShapes Go.WideShapes Go.ChangeAt Go.Deep Go.Proofs.Tryz
section
variable {H:Type} {enc:TypeId×Value→H} {w:World} {base:Nat} {spare:Nat→Bool} {held:Bool} {b0:Nat} {r:Reach} {v:Value} {d:DataW H} {p:List MemPlace}
def uE (v:aP):Prop:=B64 v.1∧B64 v.2.1∧B64 v.2.2.1∧B64 v.2.2.2
theorem aOj:prog.cellsOf 3=1:=by kernel_rfl
theorem aFl {n:Nat}{cs:List Value}{y:DataW H×List MemPlace}(hy:DataW.trod enc prog w base spare held n 105 cs=some y): ∃a,cs=aE a∧uE a:=by
 obtain⟨y0,y1,m,_,hl,h0,h1⟩:=trod_struct2 underlying105 hy;have f:cs.length=4:=hl.trans (by kernel_rfl)
 match cs,f with
 | [c0,c1,c2,c3],_=>
   have d:prog.cellsOf 103=3:=by kernel_rfl
   simp only[aOj,d,List.drop_zero,aTy,aTx,List.take_zero]at h0 h1;obtain⟨z0,z1,z2,m',_,_,g0,g1,g2⟩:=trod_struct3 underlying103 h1;simp only[aOj,List.drop_zero,aTy,aTx,List.take_zero]at g0 g1 g2;obtain⟨a,rfl,ga⟩:=gG h0;obtain⟨b,rfl,gb⟩:=gG g0;obtain⟨c,rfl,gc⟩:=gG g1;obtain⟨e,rfl,ge⟩:=gG g2;exact⟨(a,b,c,e),rfl,ga,gb,gc,ge⟩
def aAh (h:aL):Prop:=B64 h.aA∧B64 h.aB∧B64 h.free∧B64 h.step∧B64 h.aD∧B64 h.aF∧B64 h.aC∧B64 h.aG∧(∀x∈h.cells,B64 x)∧ ∀v∈h.vs,uE v
theorem aQl {cs:List Value}(h:cs.length=10): ∃a b c d e f g i j k,cs= [a,b,c,d,e,f,g,i,j,k]:=by
 match cs,h with
 | [a,b,c,d,e,f,g,i,j,k],_=>exact⟨a,b,c,d,e,f,g,i,j,k,rfl⟩
theorem aGp (hv:Value.okWide prog w r b0 29 v)(h:DataW.Trod enc prog w base spare held 29 v d p):
  ∃y:aL×(OA×Nat)×(OA×Nat),v=bM y.1 y.2.1.1 y.1.cells.length y.2.1.2 y.2.2.1 y.1.vs.length y.2.2.2∧IsHouse w y.1 y.2.1.1 y.1.cells.length y.2.1.2 y.2.2.1 y.1.vs.length y.2.2.2∧aAh y.1:=by
 obtain⟨cs,rfl,s⟩:=okWide_struct underlying29 hv;obtain⟨l⟩:=cs;have hl:l.length=10:=by have:=s.trans (show prog.cellsOf 29=10 by kernel_rfl);simpa using this
 obtain⟨x0,x1,x2,x3,x4,x5,x6,x7,x8,x9,rfl⟩:=aQl hl;obtain⟨t,hf⟩:=h;obtain⟨xs,n,_,hx,_,f,hg⟩:=DataW.trod_struct underlying29 hf;have hh:prog.cellsOf 24=3:=by kernel_rfl
 have ht:prog.cellsOf 26=4:=by kernel_rfl
 have o:prog.cellsOf 27=1:=by kernel_rfl
 have q:prog.cellsOf 22=1:=by kernel_rfl
 have k: ∀l:List Value,(Value.agg l.toArray).cells.toList=l:=fun l=>by simp[Value.cells]
 match xs,f with
 | [y0,y1,y2,y3,y4],_=>
   have g0:=hg 0 _ rfl;have g1:=hg 1 _ rfl;have g2:=hg 2 _ rfl;have g3:=hg 3 _ rfl;have g4:=hg 4 _ rfl;simp only[k,aOj,hh,ht,o,List.drop_zero,aTy,aTx,List.take_zero,aU0,aTl]at g0 g1 g2 g3 g4;obtain⟨z0,z1,z2,m,_,_,k0,k1,k2⟩:=trod_struct3 underlying24 g0;simp only[aOj,q,List.drop_zero,aTy,aTx,List.take_zero]at k0 k1 k2;obtain⟨aA,rfl,gw⟩:=gG k0;obtain⟨aB,rfl,gd⟩:=gG k1;obtain⟨b,cp,cc,rfl,hS,i⟩:=aDv k2;obtain⟨ys,m2,_,_,_,c,a⟩:=DataW.trod_struct underlying26 g1
   match ys,c with
   | [t0,t1,t2,t3],_=>have j0:=a 0 _ rfl;have j1:=a 1 _ rfl;have j2:=a 2 _ rfl;have j3:=a 3 _ rfl;simp only[aOj,List.drop_zero,aTy,aTx,List.take_zero,aU0,aTl]at j0 j1 j2 j3;obtain⟨e,rfl,gf⟩:=gG j0;obtain⟨g,rfl,gs⟩:=gG j1;obtain⟨aD,rfl,gp⟩:=gG j2;obtain⟨aF,rfl,gc⟩:=gG j3;obtain⟨aC,rfl,gk⟩:=gG g2;obtain⟨aG,rfl,gb⟩:=gG g3;obtain⟨vs,vp,vc,rfl,hV,j⟩:=xD (α:=aP) aE uE 4 underlying27 (by kernel_rfl) (by omega) (fun _=>rfl) (fun n cs y hy=>aFl hy) g4;exact⟨(⟨aA,aB,b,e,g,aD,aF,aC,aG,vs⟩,(cp,cc),(vp,vc)),rfl,⟨hS,hV⟩,gw,gd,gf,gs,gp,gc,gk,gb,i,j⟩
end
end
section
open Go.Proofs.Tryz
theorem aO9:ElT prog 95 TDd 3:=
 ⟨underlying95,by
  obtain⟨i,hi,h0,h1,h2⟩:=info_parts (show(prog.info? TDd).map (fun i=>(i.zero,i.size,i.bytes))=some (some (.agg #[(),(),()]),3,24) by kernel_rfl)
  exact⟨i,_,hi,h0,h1,by omega,rfl⟩,by omega⟩
theorem tA (ds:List Dd3): ∀u∈ds.flatMap cF,u.oneCell'=true:=by intro u hu;obtain⟨v,_,hv⟩:=List.mem_flatMap.1 hu;simp[cF]at hv;rcases hv with rfl|rfl|rfl<;>rfl
theorem aFr (id a:Int)(w:World)(ha:a≤10000)(l: -10000≤a):U 111 #[id,a] w (mI (jZ id a (eB a)) w):=by
 have ME:=((Mem.start w).made0 TDd 3 w (by simp))
 have m:eB a≤40:=by unfold eB;omega
 go_enter func111,ntmps111;go_wp2;go_loopw [1,5] (fun x v wr=> ∃(k:Nat) (q:OA) (c:Nat) (X:Int),k≤eB a∧x=I X∧v= .slice q k c∧(k<eB a→X=a-300*(k:Int))∧(eB a≤k→X≤0)∧Mem w wr [aI w TDd 3 (q) (k) (c) ((jZ id a k).flatMap cF)]) (fun x _ _=>(intOf x).toNat)
 case atStart=>exact⟨0,some ⟨w,0,none⟩,0,a,aRv _,rfl,rfl,fun _=>by simp,fun h=>by have:=lW a 0;omega,ME⟩
 case round=>
  clear ME;obtain⟨k,q,c,X,hk,rfl,rfl,hX,d,hM⟩:=hrel;have HM:=hM;clear hM;by_cases hlt:k<eB a
  ·have b:=hX hlt;have e:=(lW a k).1 hlt;clear hX d;have hp:0<X:=by omega
   have j:X≤10000:=by omega
   have g:k+1<eB a→X-min X 300=a-300*((k+1:Nat):Int):=fun h=>by have:=(lW a (k+1)).1 h;omega
   have f:eB a≤k+1→X-min X 300≤0:=fun h=>by have:=lW a (k+1);omega
   have i:Hid (qH id a k=(1,id,min X 300)):=by show _=_;unfold qH;rw[b]
   have t0:decide (0<X)=true:=by simp[hp]
   have n:IntKind.i64.wrap (X-min X 300)=X-min X 300:=aRr _ (by omega);clear b e;go_wp2_with (at_builtin;go_loud (refine cG aO9 rfl _ _ rfl (HM.adv ((Ext.refl _).alloc (.cells #[I 1,id,(min X 300:Int)] TDd))) 0 rfl rfl (cF (1,id,min X 300)) rfl (eJ _ _ _ 1 3 _ (by simp[cF]) (by simp[cF]) (by simp[maxLen])) (fun u hu=>tA [(1,id,min X 300)] u (by simpa using hu)) (by omega) ?_;intro q7 c7 w6 M6));have M7:=(show Mem w w6 [aI w TDd 3 (q7) (k+1) (c7) ((jZ id a (k+1)).flatMap cF)]from by rw[wZ,aSk,i.out];simpa using M6)
   clear M6 HM;go_wp2;go_roundw
   case rel=>exact⟨k+1,q7,c7,X-min X 300,by omega,by go_num,rfl,g,f,M7⟩
   case measure=>simp[intOf];omega
  have b:=d (by omega);obtain rfl:k=eB a:=by omega
  have t0:decide (0<X)=false:=by simp;omega
  go_wp2;go_ret;have h1:=HM.ow 0;exact⟨q,c,by rw[lL];rfl,by rw[lL];exact h1,HM.ext⟩
theorem aNi (aA aB c f aD aF aC aG:Int)(p:OA)(n cap:Nat)(q:OA)(m c2:Nat)(ids:List Int)(a:Int→Int)(w:World)(hl:ids.length≤1000)
  (HO:Hid (∀w',Ext w w'→U 125 #[.agg #[aA,aB,.slice p n cap,c,f,aD,aF,aC,aG,.slice q m c2]] w' (bA ids w')))
  (HD:Hid (∀x,x∈ids→ ∀w',Ext w w'→U 92 #[.agg #[aA,aB,.slice p n cap,c,f,aD,aF,aC,aG,.slice q m c2],x] w' (O (I (a x)) w')))
  (hb:Hid (∀x∈ids,a x≤10000∧ -10000≤a x))(au:Hid (∀k,(bZ a (ids.take k)).length≤k*41)):
  U 85 #[.agg #[aA,aB,.slice p n cap,c,f,aD,aF,aC,aG,.slice q m c2]] w (mI (bZ a ids) w):=by
 go_enter func85,ntmps85;have MB:=((Mem.start w).c0 35 #[aA,aB,.slice p n cap,c,f,aD,aF,aC,aG,.slice q m c2])
 go_wp2_with fail;refine(HO _ MB.ext).mono ?_;rintro e w1 ⟨q1,c1,rfl,o1,ad⟩;have M1:=((MB.call ad o1).call (Ext.refl _) (aS4 _ _ TDd 3))
 clear MB ad o1;go_wp2;go_loopw [3,10] (fun v i wr=> ∃(k:Nat) (q4:OA) (l c4:Nat),k≤ids.length∧i=I k∧v= .slice q4 l c4∧l=(bZ a (ids.take k)).length∧Mem w wr [aI w TDd 3 (q4) (l) (c4) ((bZ a (ids.take k)).flatMap cF),aUc w q1 ids c1,aJ w w 35 #[aA,aB,.slice p n cap,c,f,aD,aF,aC,aG,.slice q m c2]]) (fun _ i _=>ids.length-(intOf i).toNat)
 case atStart=>exact⟨0,none,0,0,aRv _,rfl,rfl,rfl,M1⟩
 case round=>
  clear M1;obtain⟨k,q4,l,c4,hk,rfl,rfl,r,hM⟩:=hrel;have HM:=hM;have t:=xQ r;clear hM;have a3:l≤k*41:=by rw[r];exact au.out k
  clear r;by_cases hlt:k<ids.length
  ·obtain⟨b,s,x,rfl,hx,ar,hc⟩:=Sl.int_at (HM.sq 1) hlt;have HX:=xQ hx;have o:=xQ (aRs hx);have a1:=hb.out x o.out;clear hx;have i1:(0:Int)≤(k:Int):=by omega
   have i2:(k:Int)<(ids.length:Int):=by omega
   obtain⟨ah,ai,aj,ak,al,am,an,ao,ap,aq⟩:=(HM.bk 2).ten;go_wp2_with fail;clear ah ai aj ak al am an ao ap aq hc ar;refine Z (HD x o.out _ HM.ext) fun w3 ae=>?_
   have M3:=(HM.adv ae)
   clear HM ae;generalize z:a x=D at*;have af:=xQ z;clear z;have a2:eB D≤40:=by unfold eB;omega
   go_wp2;go_loopw [3,6] (fun v d wr=> ∃(j:Nat) (q5:OA) (l5 c5:Nat) (X:Int),j≤eB D∧d=I X∧v= .slice q5 l5 c5∧l5=l+j∧X=D-300*(j:Int)∧Mem w wr [aI w TDd 3 (q5) (l5) (c5) ((bZ a (ids.take k)).flatMap cF++(jZ x D j).flatMap cF),aUc w (some ⟨b,s,none⟩) ids c1,aJ w w 35 #[aA,aB,.slice p n cap,c,f,aD,aF,aC,aG,.slice q m c2]]) (fun _ d _=>(intOf d).toNat)
   case atStart=>exact⟨0,q4,l,c4,D,aRv _,rfl,rfl,rfl,by simp,by simpa[aGk]using M3⟩
   case round=>
    clear M3;obtain⟨j,q5,l5,c5,X,hj,rfl,rfl,aa,hX,hM⟩:=hrel;have M4:=hM;have ag:=xQ hX;have g:=lW D j;have az:X≤10000:=by omega
    have a0: -30000≤X:=by omega
    have y:=xQ aa;have ay:l5≤l+40:=by omega
    clear hM aa;by_cases hjt:j<eB D
    ·have hp:0<X:=by have:=g.1 hjt;omega
     have aw:X-300=D-300*((j+1:Nat):Int):=by omega
     have ax:Hid (qH x D j=(1,x,min X 300)):=by show _=_;unfold qH;rw[←ag.out]
     have t0:decide (0<X)=true:=by simp[hp]
     have a4:IntKind.i64.wrap (X-300)=X-300:=aRr _ (by omega);clear hX g;go_wp2_with (at_builtin;go_loud (refine cG aO9 rfl _ _ rfl (M4.adv ((Ext.refl _).alloc (.cells #[I 1,x,(min X 300:Int)] TDd))) 0 rfl rfl (cF (1,x,(min X 300))) rfl (eJ _ _ _ 1 3 _ (by simp[cF]) (by simp[cF]) (by simp[maxLen])) (fun u hu=>tA [(1,x,(min X 300))] u (by simpa using hu)) (by omega) ?_;intro q7 c7 w6 M6));have M7:=(show Mem w w6 [aI w TDd 3 (q7) (l5+1) (c7) ((bZ a (ids.take k)).flatMap cF++(jZ x D (j+1)).flatMap cF),aUc w (some ⟨b,s,none⟩) ids c1,aJ w w 35 #[aA,aB,.slice p n cap,c,f,aD,aF,aC,aG,.slice q m c2]]from by rw[wZ,aSk,ax.out];simpa[aSh]using M6)
     clear M6 M4;go_wp2;go_roundw
     case rel=>exact⟨j+1,q7,l5+1,c7,X-300,by omega,by go_num,rfl,by have:=y.out;omega,aw,M7⟩
     case measure=>simp[intOf];omega
    obtain rfl:j=eB D:=by omega
    have t0:decide (0<X)=false:=by have: ¬0<X:=fun h=>hjt (g.2 (by omega));simp;omega
    clear hX g hjt;go_wp2_with (at_builtin;go_loud (refine cG aO9 rfl _ _ rfl (M4.adv ((Ext.refl _).alloc (.cells #[I 2,x,()] TDd))) 0 rfl rfl (cF (2,x,0)) rfl (eJ _ _ _ 1 3 _ (by simp[cF]) (by simp[cF]) (by simp[maxLen])) (fun u hu=>tA [(2,x,0)] u (by simpa using hu)) (by omega) ?_;intro q7 c7 w6 M6));have ab:Hid (bZ a (ids.take (k+1))=bZ a (ids.take k)++jZ x D (eB D)++ [(2,x,0)]):=by show _=_;rw[qY a HX.out,af.out]
    have M7:=(show Mem w w6 [aI w TDd 3 (q7) (l5+1) (c7) ((bZ a (ids.take (k+1))).flatMap cF),aUc w (some ⟨b,s,none⟩) ids c1,aJ w w 35 #[aA,aB,.slice p n cap,c,f,aD,aF,aC,aG,.slice q m c2]]from by rw[ab.out];simpa[aSk,aSh]using M6)
    have av:Hid (l5+1=(bZ a (ids.take (k+1))).length):=by show _=_;rw[ab.out,aRx,aRx,lL,←t.out,y.out];rfl
    clear M6 M4;go_wp2;go_roundw
    case rel=>exact⟨k+1,q7,l5+1,c7,by omega,by go_num,rfl,av.out,M7⟩
    case measure=>simp[intOf];omega
  obtain rfl:k=ids.length:=by omega
  go_wp2;go_ret;have h1:=HM.ow 0;have h2:=t.out;rw[aTf]at h1 h2;subst h2;exact⟨q4,c4,rfl,h1,HM.ext⟩
theorem aM6 (aA aB d f aD aF aC aG:Int)(p:OA)(n cap:Nat)(q:OA)(m c2:Nat)(ids:List Int)(a:Int→Int)(w:World)(hl:ids.length≤1000)
  (HO:Hid (∀w',Ext w w'→U 110 #[.agg #[aA,aB,.slice p n cap,d,f,aD,aF,aC,aG,.slice q m c2]] w' (bA ids w')))
  (HD:Hid (∀x,x∈ids→ ∀w',Ext w w'→U 69 #[.agg #[aA,aB,.slice p n cap,d,f,aD,aF,aC,aG,.slice q m c2],x] w' (O (I (a x)) w')))
  (ai:Hid (∀x,x∈ids→ ∀w',U 111 #[x,(a x:Int)] w' fun e w''=> ∃q c,e= .returned (.slice q (eB (a x)) c)∧w''.ownsRow w' TDd 3 (.slice q (eB (a x)) c) (eB (a x)) ((jZ x (a x) (eB (a x))).flatMap cF)∧Ext w' w''))
  (hb:Hid (∀x∈ids,a x≤10000∧ -10000≤a x))(an:Hid (∀k,(bZ a (ids.take k)).length≤k*41)):
  U 64 #[.agg #[aA,aB,.slice p n cap,d,f,aD,aF,aC,aG,.slice q m c2]] w (mI (bZ a ids) w):=by
 go_enter func64,ntmps64;have MB:=(((Mem.start w).c0 35 #[aA,aB,.slice p n cap,d,f,aD,aF,aC,aG,.slice q m c2]).made0 TDd 3 (w.heap.size+1) (by simp))
 go_wp2_with fail;refine(HO _ MB.ext).mono ?_;rintro e w1 ⟨q1,c1,rfl,o1,ad⟩;have M0:=(MB.call ad o1)
 have M1:=(show Mem w w1 [aI w TDd 3 (some ⟨w.heap.size+1,0,none⟩) (0) (0) ([]),aUc w q1 ids c1,aJ w w 35 #[aA,aB,.slice p n cap,d,f,aD,aF,aC,aG,.slice q m c2]]from(M0.pick [1,0,2] (by decide) rfl))
 clear MB M0 ad o1;go_wp2;go_loopw [3,5] (fun v i wr=> ∃(k:Nat) (q4:OA) (l c4:Nat),k≤ids.length∧i=I k∧v= .slice q4 l c4∧l=(bZ a (ids.take k)).length∧Mem w wr [aI w TDd 3 (q4) (l) (c4) ((bZ a (ids.take k)).flatMap cF),aUc w q1 ids c1,aJ w w 35 #[aA,aB,.slice p n cap,d,f,aD,aF,aC,aG,.slice q m c2]]) (fun _ i _=>ids.length-(intOf i).toNat)
 case atStart=>exact⟨0,some ⟨w.heap.size+1,0,none⟩,0,0,aRv _,rfl,rfl,rfl,M1⟩
 case round=>
  clear M1;obtain⟨k,q4,l,c4,hk,rfl,rfl,o,hM⟩:=hrel;have HM:=hM;have s:=xQ o;clear hM;have a4:l≤k*41:=by rw[o];exact an.out k
  clear o;by_cases hlt:k<ids.length
  ·obtain⟨b,ae,x,rfl,hx,j,hc⟩:=Sl.int_at (HM.sq 1) hlt;have HX:=xQ hx;have g:=xQ (aRs hx);have a2:=hb.out x g.out;clear hx;have i1:(0:Int)≤(k:Int):=by omega
   have i2:(k:Int)<(ids.length:Int):=by omega
   obtain⟨aq,ar,au,av,aw,ax,ay,az,a0,a1⟩:=(HM.bk 2).ten;have af:=xQ (HD x g.out);have ah:=xQ (ai x g.out);generalize y:a x=D at*;have ag:=xQ y;clear y;have a3:eB D≤40:=by unfold eB;omega
   generalize z:eB D=C at*;have aj:=xQ z;clear z;go_wp2
   go_region_law ((first
    |(go_simp;go_at_call 69
      refine Z (af _ (HM.ext.trans xE)) fun w3 h=>?_
      (try replace h:=h.of_drew);have M3:=(HM.adv h)
      have al:=(h.cells.1 _ _ j).trans hc
      have t:b<w3:=aRo j h.sz)
    |(go_simp;go_at_call 111
      refine(ah _).mono ?_;rintro e w4 ⟨q5,c5,rfl,o5,r⟩;(try replace r:=r.of_drew)
      have M4:=(M3.call r o5))
    |(refine gH aO9 (by rfl) _ _ (by rfl) (M4.adv xE) 1 (by rfl) (by rfl) ((jZ x D C).flatMap cF) (by rfl) ((M4.sq 0).ext xE) (tA _) (by omega) ?_
      intro q7 c7 w6 M6)))
   all_goals (
    have aa:Hid (bZ a (ids.take (k+1))=bZ a (ids.take k)++jZ x D C++ [(2,x,0)]):=by show _=_;rw[qY a HX.out,ag.out,aj.out]
    have MA:=(show Mem w w6 [aI w TDd 3 (q7) (l+C) (c7) ((bZ a (ids.take k)).flatMap cF++(jZ x D C).flatMap cF),aUc w (some ⟨b,ae,none⟩) ids c1,aJ w w 35 #[aA,aB,.slice p n cap,d,f,aD,aF,aC,aG,.slice q m c2]]from(M6.pick [1,2,3] (by decide) rfl))
    obtain⟨b',ap,x',e1,ab,ak,am⟩:=Sl.int_at (MA.sq 1) hlt;cases e1
    obtain rfl:x=x':=by have:=HX.out;rw[ab]at this;exact(Option.some.inj this).symm
    clear M6 M4 M3 HM ab hc j;(try clear al t);go_wp2_with (at_builtin;go_loud (refine cG aO9 rfl _ _ rfl (MA.adv ((Ext.refl _).alloc (.cells #[I 2,x,()] TDd))) 0 rfl rfl (cF (2,x,0)) rfl (eJ _ _ _ 1 3 _ (by simp[cF]) (by simp[cF]) (by simp[maxLen])) (fun u hu=>tA [(2,x,0)] u (by simpa using hu)) (by omega) ?_;intro q8 c8 w8 M8));have ao:Hid (l+C+1=(bZ a (ids.take (k+1))).length):=by show _=_;rw[aa.out,aRx,aRx,lL,←s.out];rfl
    have M9:=(show Mem w w8 [aI w TDd 3 (q8) (l+C+1) (c8) ((bZ a (ids.take (k+1))).flatMap cF),aUc w (some ⟨b,ae,none⟩) ids c1,aJ w w 35 #[aA,aB,.slice p n cap,d,f,aD,aF,aC,aG,.slice q m c2]]from by rw[aa.out];simpa[aSk,aSh]using M8)
    clear M8 MA am ak;go_wp2;go_roundw
    case rel=>exact⟨k+1,q8,l+C+1,c8,by omega,by go_num,rfl,ao.out,M9⟩
    case measure=>simp[intOf];omega)
  obtain rfl:k=ids.length:=by omega
  go_wp2;go_ret;have h1:=HM.ow 0;have h2:=s.out;rw[aTf]at h1 h2;subst h2;exact⟨q4,c4,rfl,h1,HM.ext⟩
end
theorem oJ {h:aL}(hn:h.cells.length≤1048576):(dK h).length≤1000:=by
 cases hok:aR h with
 |false=>unfold dK;rw[hok];simp
 |true=>
  rw[nC hok];have h1:=mD hok;unfold aO at h1;rw[aRy]at h1;have hb:=cE h1.1;have h2:=aJy (if(0:Int)∈h.cells then []else [h.cells.headD 0]) (dY h.cells);have h3:=kG h.cells;rw[iX]at h2;have h4:(if(0:Int)∈h.cells then([]:List Int)else [h.cells.headD 0]).length≤1:=by split<;>simp
  omega
theorem mQ (h:aL)(id:Int):bB h id≤10000∧ -10000≤bB h id:=by
 cases hok:aR h with
 |false=>simp[bB,cV,hok]
 |true=>
  cases hv:eA id h.vs with
  |none=>simp[bB,cV,hok,hv]
  |some v=>
   have hm:v∈h.vs:=aT6 hv;have hb:=pN hok hm;have e:bB h id=pO h v:=by unfold bB cV pO;rw[if_pos hok,hv];rfl
   rw[e];omega
theorem yI (h:aL)(k:Nat):(bZ (bB h) ((dK h).take k)).length≤k*41:=by refine aRz (aCo _ _ 40 (fun x _=> ?_)) (aSj 41 (List.length_take_le _ _));have:=mQ h x;unfold eB;omega
theorem aAu {h:aL}(hn:h.cells.length≤1048576):(bZ (bB h) (dK h)).length≤100000:=by have h1:=yI h (dK h).length;rw[aTf]at h1;have:=oJ hn;omega
theorem aCc (h:aL)(p:OA)(n cap:Nat)(q:OA)(m c2:Nat)(w:World)(hn:h.cells.length≤1048576)(hi:IsHouse w h p n cap q m c2):
  U 85 #[bM h p n cap q m c2] w (mI (bZ (bB h) (dK h)) w):=
 aNi h.aA h.aB h.free h.step h.aD h.aF h.aC h.aG p n cap q m c2 (dK h) (bB h) w (oJ hn)
  (fun w' hx=>aCb h p n cap q m c2 w' (hi.ext hx)) (fun x _ w' hx=>sO h x p n cap q m c2 w' (hi.ext hx)) (fun x _=>mQ h x) (fun k=>yI h k)
theorem aBf (h:aL)(p:OA)(n cap:Nat)(q:OA)(m c2:Nat)(w:World)(hn:h.cells.length≤1048576)(hi:IsHouse w h p n cap q m c2):
  U 64 #[bM h p n cap q m c2] w (mI (bZ (bB h) (dK h)) w):=
 aM6 h.aA h.aB h.free h.step h.aD h.aF h.aC h.aG p n cap q m c2 (dK h) (bB h) w (oJ hn)
  (fun w' hx=>aBe h p n cap q m c2 w' (hi.ext hx)) (fun x _ w' hx=>nS h x p n cap q m c2 w' (hi.ext hx))
  (fun x _ w'=>by
   have hb:=mQ h x;refine(aFr x (bB h x) w' hb.1 hb.2).mono ?_;rintro e a ⟨q,c,rfl,ho,hx⟩;rw[lL]at ho⊢
   exact⟨q,c,rfl,ho,hx⟩)
  (fun x _=>mQ h x) (fun k=>yI h k)
section
open Go.Proofs.Tryz
def aHu (h:aL):aL:=(tS h (bZ (bB h) (dK h))).1
theorem aR9 (h r:aL)(p:OA)(cap:Nat)(q:OA)(c2:Nat)(ds:List Dd3)(nb:Nat)(w:World)
  (HI:Hid (IsHouse w h p h.cells.length cap q h.vs.length c2))
  (HE:Hid (∀w',Ext w w'→U 64 #[.agg #[h.aA,h.aB,.slice p h.cells cap,h.free,h.step,h.aD,h.aF,h.aC,h.aG,.slice q h.vs c2]] w' (mI ds w')))
  (HR:Hid (∀B pe ce w',B≤w'.heap.size→Ext w w'→Sl w' pe ds.length ce 3 (ds.flatMap cF)→U 63 #[.agg #[h.aA,h.aB,.slice p h.cells cap,h.free,h.step,h.aD,h.aF,h.aC,h.aG,.slice q h.vs c2],.slice pe ds ce] w' fun e w''=> ∃pa ca qa da ps cs,e= .returned (.tuple #[.agg #[r.aA,r.aB,.slice pa r.cells ca,r.free,r.step,r.aD,r.aF,r.aC,r.aG,.slice qa r.vs da],.slice ps nb cs])∧w''.ownsRow B TI 1 (.slice pa r.cells ca) r.cells.length (ivs r.cells)∧w''.ownsRow B TV 4 (.slice qa r.vs da) r.vs.length (r.vs.flatMap aE)∧Ext w' w'')):
  U 25 #[.agg #[h.aA,h.aB,.slice p h.cells cap,h.free,h.step,h.aD,h.aF,h.aC,h.aG,.slice q h.vs c2]] w (RetHouse r w):=by
 go_enter func25,ntmps25;go_upto_region 1 with fail;have M1:=(((Mem.start w).c0 aK #[h.aA,h.aB,.slice p h.cells cap,h.free,h.step,h.aD,h.aF,h.aC,h.aG,.slice q h.vs c2]).c1 aK zT)
 generalize World.alloc _ _=v0 at M1⊢;have g:=M1.hi 0;have xm:=M1.ext;obtain⟨a0,a1,a2,a3,a4,a5,a6,a7,a8,a9⟩:=(M1.bk 1).ten;have m: ¬(v0.heap.size=w.heap.size):=by omega
 go_cut [3,4] (fun s1 _ wx=> ∃(g5:Nat) (p5:OA) (c5:Nat) (q5:OA) (d5:Nat),s1= .pointer (some ⟨g5,0,none⟩)∧Mem w wx [aJ w (g5) aK (aUe r p5 c5 q5 d5),aUc w p5 r.cells c5,aUd w q5 r.vs d5,aJ w (w.heap.size+1) aK #[(),(),((),()),(),(),(),(),(),(),((),())],aJ w w aK (aUe h p cap q c2)])
 case first=>
  go_region_held3 (fun w'=>w'.cell? ⟨w,0,none⟩=some (I h.aA)∧w'.cell? ⟨w,1,none⟩=some (I h.aB)∧w'.cell? ⟨w,2,none⟩=some (.slice p h.cells cap)∧w'.cell? ⟨w,3,none⟩=some (I h.free)∧w'.cell? ⟨w,4,none⟩=some (I h.step)∧w'.cell? ⟨w,5,none⟩=some (I h.aD)∧w'.cell? ⟨w,6,none⟩=some (I h.aF)∧w'.cell? ⟨w,7,none⟩=some (I h.aC)∧w'.cell? ⟨w,8,none⟩=some (I h.aG)∧w'.cell? ⟨w,9,none⟩=some (.slice q h.vs c2))
   (first|(refine⟨?_,?_,?_,?_,?_,?_,?_,?_,?_,?_⟩<;>with_reducible assumption)|go_keep)
   (first
    |(go_at_call 64
      refine(HE _ xE).mono ?_;rintro e we ⟨pe,ce,rfl,oe,l⟩;have f:Ext v0 we:=xE;have Ie:=xQ (Sl.own oe);clear oe;obtain⟨bc,bd,be,bf,bg,bh,bi,bj,bl,bm⟩:=((M1.bk 1).ext f).ten
      have ba: ¬(we.heap.size=w.heap.size):=by have:=f.sz;omega)
    |(go_at_call 63
      refine(HR v0 _ _ _ (Ext.sz (show Ext v0 _ from xE)) xE (by first|with_reducible exact Ie.out|with_reducible exact Ie.out.ext ((Ext.refl _).alloc _))).mono ?_;rintro e ws ⟨p5,c5,q5,d5,bo,bb,rfl,os,c,d⟩;have b:Ext v0 ws:=xE;obtain⟨bp,bq,br,bs,bt,bu,bv,bw,bx,bz⟩:=((M1.bk 1).ext b).ten
      first
       |(with_reducible have hz:Ext (v0.alloc (.cells #[(),(),((),()),(),(),(),(),(),(),((),())] aK)) ws:=l.trans d;have MB:=(Mem.own2blk M1 b ((Blk.new v0 aK #[(),(),((),()),(),(),(),(),(),(),((),())]).ext hz) (aRp _) os c (by decide) (by decide) (by decide));obtain⟨n,ae,o,af,s,ag,t,ah,u,ai,x,aj,y,ak,aa,al,ab,am,ad,an⟩:=(MB.blk (i:=2) rfl).tenf)
       |(with_reducible have hz:Ext (v0.alloc (.cells #[(),(),((),()),(),(),(),(),(),(),((),())] aK)) ws:=l.of_drew.trans d;have MB:=(Mem.own2blk M1 b ((Blk.new v0 aK #[(),(),((),()),(),(),(),(),(),(),((),())]).ext hz) (aRp _) os c (by decide) (by decide) (by decide));obtain⟨n,ae,o,af,s,ag,t,ah,u,ai,x,aj,y,ak,aa,al,ab,am,ad,an⟩:=(MB.blk (i:=2) rfl).tenf)
       |(with_reducible have hz:Ext (we.alloc (.cells #[(),(),((),()),(),(),(),(),(),(),((),())] aK)) ws:=d;have MB:=(Mem.own2blk M1 b ((Blk.new we aK #[(),(),((),()),(),(),(),(),(),(),((),())]).ext hz) f.sz os c (by decide) (by decide) (by decide));obtain⟨n,ae,o,af,s,ag,t,ah,u,ai,x,aj,y,ak,aa,al,ab,am,ad,an⟩:=(MB.blk (i:=2) rfl).tenf)
       |(have MA:=(Mem.own2 M1 b os c (aRp _) (by decide)))))
  all_goals (
   go_wp2_with fail;go_meet
   first
    |exact⟨_,p5,c5,q5,d5,rfl,(MB.put10 (i:=2) rfl (I r.aA) (I r.aB) (.slice p5 r.cells c5) (I r.free) (I r.step) (I r.aD) (I r.aF) (I r.aC) (I r.aG) (.slice q5 r.vs d5)).pick [2,0,1,3,4] (by decide) rfl⟩
    |exact⟨_,p5,c5,q5,d5,rfl,MA.bn aK (aUe r p5 c5 q5 d5) _⟩)
 case rest=>
  clear a0 a1 a2 a3 a4 a5 a6 a7 a8 a9 m xm HE HR HI;obtain⟨g5,p5,c5,q5,d5,rfl,j⟩:=hcut;obtain⟨v5,rfl⟩: ∃z,z=wc:=⟨_,rfl⟩
  have MC:=j;clear j M1 g;obtain⟨v0,v1,v2,v3,v4,v5,v6,v7,v8,v9⟩:=(MC.bk 0).ten;obtain⟨f0,ao,f1,ap,f2,aq,f3,ar,f4,au,f5,av,f6,aw,f7,ax,f8,ay,f9,az⟩:=(MC.bk 3).tenf;go_wp2;clear v0 v1 v2 v3 v4 v5 v6 v7 v8 v9 f0 ao f1 ap f2 aq f3 ar f4 au f5 av f6 aw f7 ax f8 ay f9 az;have a:=(MC.put10 (i:=3) rfl (I r.aA) (I r.aB) (.slice p5 r.cells c5) (I r.free) (I r.step) (I r.aD) (I r.aF) (I r.aC) (I r.aG) (.slice q5 r.vs d5))
  generalize k:World.setCell _ _ _=wz;rw[k]at a;clear k MC;obtain⟨y0,y1,y2,y3,y4,y5,y6,y7,y8,y9⟩:=(a.bk 3).ten;exact bodyPost_ret (v:= .agg #[r.aA,r.aB,.slice p5 r.cells c5,r.free,r.step,r.aD,r.aF,r.aC,r.aG,.slice q5 r.vs d5]) (by simp[results,results25,go_sem, *]) rfl (show RetHouse r w _ _ from⟨p5,c5,q5,d5,rfl,(a.ow 1),(a.ow 2),a.ext⟩)
theorem aBc (h:aL)(p:OA)(n cap:Nat)(q:OA)(m c2:Nat)(w:World)(hn:h.cells.length≤1048576)(hi:IsHouse w h p n cap q m c2):
  U 25 #[bM h p n cap q m c2] w (RetHouse (aHu h) w):=by
 have hl:=hi.clen;have a:=hi.vlen;subst hl a
 exact aR9 h (aHu h) p cap q c2 (bZ (bB h) (dK h)) (tS h (bZ (bB h) (dK h))).2.length w hi
  (fun w' hx=>aBf h p _ cap q _ c2 w' hn (hi.ext hx))
  (fun B pe ce w' hB hx hS=>(aBb h p _ cap q _ c2 pe _ ce _ w' (hi.ext hx) hS (aRz (aAu hn) (by omega))).mono (by
   rintro e c ⟨pa,ca,qa,da,ps,cs,rfl,o1,o2,_,b⟩
   exact⟨pa,ca,qa,da,ps,cs,rfl,dW o1 hB,dW o2 hB,b⟩))
theorem aRf (h r:aL)(p:OA)(cap:Nat)(q:OA)(c2:Nat)(ds:List Dd3)(nb:Nat)(w:World)
  (HI:Hid (IsHouse w h p h.cells.length cap q h.vs.length c2))
  (HE:Hid (∀w',Ext w w'→U 85 #[.agg #[h.aA,h.aB,.slice p h.cells cap,h.free,h.step,h.aD,h.aF,h.aC,h.aG,.slice q h.vs c2]] w' (mI ds w')))
  (HR:Hid (∀B pe ce w',B≤w'.heap.size→Ext w w'→Sl w' pe ds.length ce 3 (ds.flatMap cF)→U 84 #[.agg #[h.aA,h.aB,.slice p h.cells cap,h.free,h.step,h.aD,h.aF,h.aC,h.aG,.slice q h.vs c2],.slice pe ds ce] w' fun e w''=> ∃pa ca qa da ps cs,e= .returned (.tuple #[.agg #[r.aA,r.aB,.slice pa r.cells ca,r.free,r.step,r.aD,r.aF,r.aC,r.aG,.slice qa r.vs da],.slice ps nb cs])∧w''.ownsRow B TI 1 (.slice pa r.cells ca) r.cells.length (ivs r.cells)∧w''.ownsRow B TV 4 (.slice qa r.vs da) r.vs.length (r.vs.flatMap aE)∧Ext w' w'')):
  U 35 #[.agg #[h.aA,h.aB,.slice p h.cells cap,h.free,h.step,h.aD,h.aF,h.aC,h.aG,.slice q h.vs c2]] w (RetHouse r w):=by
 go_enter func35,ntmps35;go_upto_region 1 with fail;have M1:=(((Mem.start w).c0 aK #[h.aA,h.aB,.slice p h.cells cap,h.free,h.step,h.aD,h.aF,h.aC,h.aG,.slice q h.vs c2]).c1 aK zT)
 generalize World.alloc _ _=v0 at M1⊢;have g:=M1.hi 0;have xm:=M1.ext;obtain⟨a0,a1,a2,a3,a4,a5,a6,a7,a8,a9⟩:=(M1.bk 1).ten;have m: ¬(v0.heap.size=w.heap.size):=by omega
 go_cut [3,4] (fun s1 _ wx=> ∃(g5:Nat) (p5:OA) (c5:Nat) (q5:OA) (d5:Nat),s1= .pointer (some ⟨g5,0,none⟩)∧Mem w wx [aJ w (g5) aK (aUe r p5 c5 q5 d5),aUc w p5 r.cells c5,aUd w q5 r.vs d5,aJ w (w.heap.size+1) aK #[(),(),((),()),(),(),(),(),(),(),((),())],aJ w w aK (aUe h p cap q c2)])
 case first=>
  go_region_held3 (fun w'=>w'.cell? ⟨w,0,none⟩=some (I h.aA)∧w'.cell? ⟨w,1,none⟩=some (I h.aB)∧w'.cell? ⟨w,2,none⟩=some (.slice p h.cells cap)∧w'.cell? ⟨w,3,none⟩=some (I h.free)∧w'.cell? ⟨w,4,none⟩=some (I h.step)∧w'.cell? ⟨w,5,none⟩=some (I h.aD)∧w'.cell? ⟨w,6,none⟩=some (I h.aF)∧w'.cell? ⟨w,7,none⟩=some (I h.aC)∧w'.cell? ⟨w,8,none⟩=some (I h.aG)∧w'.cell? ⟨w,9,none⟩=some (.slice q h.vs c2))
   (first|(refine⟨?_,?_,?_,?_,?_,?_,?_,?_,?_,?_⟩<;>with_reducible assumption)|go_keep)
   (first
    |(go_at_call 85
      refine(HE _ xE).mono ?_;rintro e we ⟨pe,ce,rfl,oe,l⟩;have f:Ext v0 we:=xE;have Ie:=xQ (Sl.own oe);clear oe;obtain⟨bc,bd,be,bf,bg,bh,bi,bj,bl,bm⟩:=((M1.bk 1).ext f).ten
      have ba: ¬(we.heap.size=w.heap.size):=by have:=f.sz;omega)
    |(go_at_call 84
      refine(HR v0 _ _ _ (Ext.sz (show Ext v0 _ from xE)) xE (by first|with_reducible exact Ie.out|with_reducible exact Ie.out.ext ((Ext.refl _).alloc _))).mono ?_;rintro e ws ⟨p5,c5,q5,d5,bo,bb,rfl,os,c,d⟩;have b:Ext v0 ws:=xE;obtain⟨bp,bq,br,bs,bt,bu,bv,bw,bx,bz⟩:=((M1.bk 1).ext b).ten
      first
       |(with_reducible have hz:Ext (v0.alloc (.cells #[(),(),((),()),(),(),(),(),(),(),((),())] aK)) ws:=l.trans d;have MB:=(Mem.own2blk M1 b ((Blk.new v0 aK #[(),(),((),()),(),(),(),(),(),(),((),())]).ext hz) (aRp _) os c (by decide) (by decide) (by decide));obtain⟨n,ae,o,af,s,ag,t,ah,u,ai,x,aj,y,ak,aa,al,ab,am,ad,an⟩:=(MB.blk (i:=2) rfl).tenf)
       |(with_reducible have hz:Ext (v0.alloc (.cells #[(),(),((),()),(),(),(),(),(),(),((),())] aK)) ws:=l.of_drew.trans d;have MB:=(Mem.own2blk M1 b ((Blk.new v0 aK #[(),(),((),()),(),(),(),(),(),(),((),())]).ext hz) (aRp _) os c (by decide) (by decide) (by decide));obtain⟨n,ae,o,af,s,ag,t,ah,u,ai,x,aj,y,ak,aa,al,ab,am,ad,an⟩:=(MB.blk (i:=2) rfl).tenf)
       |(with_reducible have hz:Ext (we.alloc (.cells #[(),(),((),()),(),(),(),(),(),(),((),())] aK)) ws:=d;have MB:=(Mem.own2blk M1 b ((Blk.new we aK #[(),(),((),()),(),(),(),(),(),(),((),())]).ext hz) f.sz os c (by decide) (by decide) (by decide));obtain⟨n,ae,o,af,s,ag,t,ah,u,ai,x,aj,y,ak,aa,al,ab,am,ad,an⟩:=(MB.blk (i:=2) rfl).tenf)
       |(have MA:=(Mem.own2 M1 b os c (aRp _) (by decide)))))
  all_goals (
   go_wp2_with fail;go_meet
   first
    |exact⟨_,p5,c5,q5,d5,rfl,(MB.put10 (i:=2) rfl (I r.aA) (I r.aB) (.slice p5 r.cells c5) (I r.free) (I r.step) (I r.aD) (I r.aF) (I r.aC) (I r.aG) (.slice q5 r.vs d5)).pick [2,0,1,3,4] (by decide) rfl⟩
    |exact⟨_,p5,c5,q5,d5,rfl,MA.bn aK (aUe r p5 c5 q5 d5) _⟩)
 case rest=>
  clear a0 a1 a2 a3 a4 a5 a6 a7 a8 a9 m xm HE HR HI;obtain⟨g5,p5,c5,q5,d5,rfl,j⟩:=hcut;obtain⟨v5,rfl⟩: ∃z,z=wc:=⟨_,rfl⟩
  have MC:=j;clear j M1 g;obtain⟨v0,v1,v2,v3,v4,v5,v6,v7,v8,v9⟩:=(MC.bk 0).ten;obtain⟨f0,ao,f1,ap,f2,aq,f3,ar,f4,au,f5,av,f6,aw,f7,ax,f8,ay,f9,az⟩:=(MC.bk 3).tenf;go_wp2;clear v0 v1 v2 v3 v4 v5 v6 v7 v8 v9 f0 ao f1 ap f2 aq f3 ar f4 au f5 av f6 aw f7 ax f8 ay f9 az;have a:=(MC.put10 (i:=3) rfl (I r.aA) (I r.aB) (.slice p5 r.cells c5) (I r.free) (I r.step) (I r.aD) (I r.aF) (I r.aC) (I r.aG) (.slice q5 r.vs d5))
  generalize k:World.setCell _ _ _=wz;rw[k]at a;clear k MC;obtain⟨y0,y1,y2,y3,y4,y5,y6,y7,y8,y9⟩:=(a.bk 3).ten;exact bodyPost_ret (v:= .agg #[r.aA,r.aB,.slice p5 r.cells c5,r.free,r.step,r.aD,r.aF,r.aC,r.aG,.slice q5 r.vs d5]) (by simp[results,results35,go_sem, *]) rfl (show RetHouse r w _ _ from⟨p5,c5,q5,d5,rfl,(a.ow 1),(a.ow 2),a.ext⟩)
theorem aC9 (h:aL)(p:OA)(n cap:Nat)(q:OA)(m c2:Nat)(w:World)(hn:h.cells.length≤1048576)(hi:IsHouse w h p n cap q m c2)(hE:BitTab w):
  U 35 #[bM h p n cap q m c2] w (RetHouse (aHu h) w):=by
 have hl:=hi.clen;have a:=hi.vlen;subst hl a
 exact aRf h (aHu h) p cap q c2 (bZ (bB h) (dK h)) (tS h (bZ (bB h) (dK h))).2.length w hi
  (fun w' hx=>aCc h p _ cap q _ c2 w' hn (hi.ext hx))
  (fun B pe ce w' hB hx hS=>(aC8 h p _ cap q _ c2 pe _ ce _ w' (hi.ext hx) hS (aRz (aAu hn) (by omega)) (hE.ext hx)).mono (by
   rintro e c ⟨pa,ca,qa,da,ps,cs,rfl,o1,o2,_,b⟩
   exact⟨pa,ca,qa,da,ps,cs,rfl,dW o1 hB,dW o2 hB,b⟩))
end
end Go.Proofs.YtbgkcehffiogcacGreatDoor
