/-
  A law's walk or frame (@packed).
-/
import Derived.Test.YtbgkcehffiogcacGreatDoorQ38
namespace Go.Proofs.YtbgkcehffiogcacGreatDoor
open Go.RowKit Go.Proofs.Tryz
set_option linter.unusedVariables false
set_option linter.unusedSimpArgs false
set_option maxHeartbeats 8000000
set_option maxRecDepth 100000
theorem Mem.own3 {w0 w w':World}{L:List Item}{e1 e2 e3:TypeId}{s1 s2 s3 n1 n2 n3 c1 c2 c3 b:Nat}{q1 q2 q3:OA}{a c d:List Value}(h:Mem w0 w L)(hx:Ext w w')(h1:w'.ownsRow b e1 s1 (.slice q1 n1 c1) n1 a)(h2:w'.ownsRow b e2 s2 (.slice q2 n2 c2) n2 c)(h3:w'.ownsRow b e3 s3 (.slice q3 n3 c3) n3 d)(hb:w.heap.size≤b)(i:e1≠e2)(k:e1≠e3)(l:e2≠e3):
  Mem w0 w' (aI w0 e1 s1 q1 n1 c1 a::aI w0 e2 s2 q2 n2 c2 c::aI w0 e3 s3 q3 n3 c3 d::L):=by
 have f:=List.pairwise_cons.1 (h.own2 hx h1 h2 hb i).apart;have g:=List.pairwise_cons.1 (h.own2 hx h1 h3 hb k).apart;refine(h.own2 hx h2 h3 hb l).cons (jE _ _ _ _ _ _ _) (dW h1 (aRz h.ext.sz hb)) (fun g' hg' j hj e=> ?_);rcases aS6.1 hj with rfl|hj
 ·exact f.1 _ (by simp) g' hg' e
 exact g.1 j (by rcases aS6.1 hj with rfl|hj<;>simp_all) g' hg' e
theorem aIb (p:OA)(n c:Nat)(K:Int)(K0:Nat)(xs:List Value)(w0 w:World)(L:List Item)(h:Mem w0 w (aI w0 cY 1 p n c xs::L))(hn:n≤1099511627776)(h0:1≤K0)(h1:K0≤4611686018427387904)(hK:K=(K0:Int)):
  U 17 #[.slice p n c,K] w fun e w'=>e= .returned (I (K+(n:Nat)))∧Mem w0 w' (aI w0 cY 1 p n c (bX (mTs K0 n))::L):=by subst hK;exact aPe p n c K0 xs w0 w L h hn h0 h1
theorem aIe (p:OA)(n c:Nat)(K:Int)(K0:Nat)(w:World)(hn:n≤1099511627776)(h0:1≤K0)(h1:K0≤4611686018427387904)(hK:K=(K0:Int))(HO:Sl w p n c 1 (bX (mTs K0 n))):
  U 18 #[.slice p n c,K] w (O (I (K+(n:Nat))) w):=by subst hK;exact aPt 0 p n c K0 w h0 h1 hn HO
theorem aR1 (aA aB a b aD aF aC aG:Int)(v:List Int)(vs:List aP)(p:OA)(n cp:Nat)(q:OA)(m cq:Nat)(lq:OA)(lm lc:Nat)(ds:List (List UInt8))(r:aL)(bs:List (List UInt8))(nb:Nat)(GP:Prop)(w:World)(h9:n+m≤1048576)(h6:r.cells.length≤1000)(h7:r.vs.length≤1000)(h8:nb≤1048576)
  (HZ:Hid (∀w,U 5 #[.agg #[aA,aB,.slice p n cp,a,b,aD,aF,aC,aG,.slice q m cq],I 1048576] w (O (I (1048576-n-m)) w)))
  (gn:xC 12 #[.slice lq lm lc,(1048576-n-m:Int)] w fun w' e w''=> ∃z:Int,e= .returned (I z)∧ -1≤z∧z≤1048576∧(0≤z→GP)∧Ext w' w'')
  (d8:GP→lm≤1048576)
  (HT:xC 7 #[.agg #[aA,aB,.slice p n cp,a,b,aD,aF,aC,aG,.slice q m cq]] w fun w' e w''=> ∃pa ca qa da,e= .returned (.agg #[aA,aB,.slice pa n ca,a,b,aD,aF,aC,aG,.slice qa m da])∧w''.ownsRow w' TI 1 (.slice pa n ca) n (ivs v)∧w''.ownsRow w' TV 4 (.slice qa m da) m (vs.flatMap aE)∧Ext w' w'')
  (an:Hid (GP→ ∀w',Ext w w'→U 14 #[.slice lq lm lc] w' fun e w''=> ∃qa ca,e= .returned (.slice qa lm ca)∧w''.ownsRow w' cY 1 (.slice qa lm ca) lm (bX ds)∧Ext w' w''))
  (fa:Hid (GP→ ∀p c q d lp l w',Ext w w'→IsHouse w' ⟨aA,aB,v,a,b,aD,aF,aC,aG,vs⟩ p n c q m d→Sl w' lp lm l 1 (bX ds)→U 13 #[.agg #[aA,aB,.slice p n c,a,b,aD,aF,aC,aG,.slice q m d],.slice lp lm l] w' fun e w''=> ∃pa ca qa da ps cs,e= .returned (.tuple #[.agg #[r.aA,r.aB,.slice pa r.cells ca,r.free,r.step,r.aD,r.aF,r.aC,r.aG,.slice qa r.vs da],.slice ps nb cs])∧w''.ownsRow w' TI 1 (.slice pa r.cells ca) r.cells.length (ivs r.cells)∧w''.ownsRow w' TV 4 (.slice qa r.vs da) r.vs.length (r.vs.flatMap aE)∧w''.ownsRow w' cY 1 (.slice ps nb cs) nb (bX bs)∧Ext w' w''))
  (b1:Hid (GP→ ∀p c q d lp l w',Ext w w'→IsHouse w' ⟨aA,aB,v,a,b,aD,aF,aC,aG,vs⟩ p n c q m d→Sl w' lp lm l 1 (bX ds)→U 15 #[.agg #[aA,aB,.slice p n c,a,b,aD,aF,aC,aG,.slice q m d],.slice lp lm l] w' fun e w''=> ∃pa ca qa da ps cs,e= .returned (.tuple #[.agg #[r.aA,r.aB,.slice pa r.cells ca,r.free,r.step,r.aD,r.aF,r.aC,r.aG,.slice qa r.vs da],.slice ps nb cs])∧w''.ownsRow w' TI 1 (.slice pa r.cells ca) r.cells.length (ivs r.cells)∧w''.ownsRow w' TV 4 (.slice qa r.vs da) r.vs.length (r.vs.flatMap aE)∧w''.ownsRow w' cY 1 (.slice ps nb cs) nb (bX bs)∧Ext w' w'')):
  U 4 #[.agg #[aA,aB,.slice p n cp,a,b,aD,aF,aC,aG,.slice q m cq],.slice lq lm lc] w (O (.bool true) w):=by
 go_enter func4,ntmps4;go_wp2_with fail;refine Z (HZ _) fun w1 f8=>?_
 have M1:=(((Mem.start w).c0 29 #[aA,aB,.slice p n cp,a,b,aD,aF,aC,aG,.slice q m cq]).adv f8)
 have ff:=M1.hi 0;clear f8;go_wp2_with fail;refine(gn _ M1.ext).mono ?_;rintro e w2 ⟨z,rfl,gp,gq,gh,f9⟩;have M2:=(M1.adv f9)
 clear M1 ff f9;have fg:=M2.hi 0;by_cases hzz:z<0
 ·have t0:decide (z<0)=true:=by simp[hzz]
  go_wp2;go_ret;exact⟨rfl,M2.ext⟩
 have t0:decide (z<0)=false:=by simp;omega
 have hG:=gh (by omega);have h5:=d8 hG;replace an:=xQ (an hG);replace fa:=xQ (fa hG);replace b1:=xQ (b1 hG);clear gp gq gh hzz d8;obtain⟨f,g,h,i,j,k,o,s,t,u⟩:=(M2.bk 0).ten;go_wp2_with fail;clear f g h i j k o s t u;refine(HT _ M2.ext).mono ?_;rintro e w3 ⟨p1,c1,q1,d1,rfl,fx,f3,ga⟩;have M3:=(M2.own2 ga fx f3 (aRp _) (by decide))
 clear M2 fg ga fx f3;have fh:=M3.hi 2;go_wp2_with fail;refine(an _ M3.ext).mono ?_;rintro e w4 ⟨l1,e1,rfl,fy,gb⟩;have M4:=(M3.call gb fy)
 clear M3 fh gb fy;have fi:=M4.hi 3;go_wp2_with fail;refine(fa _ _ _ _ _ _ _ M4.ext ⟨(M4.sq 1),(M4.sq 2)⟩ (M4.sq 0)).mono ?_;rintro e w5 ⟨p2,c2,q2,d2,b2,f2,rfl,fz,f5,fw,gc⟩;have M5:=(M4.own3 gc fz f5 fw (aRp _) (by decide) (by decide) (by decide))
 clear M4 fi gc fz f5 fw;have fj:=M5.hi 6;go_upto_region 9 with fail;obtain⟨g2,fb⟩: ∃g2,g2=w5.heap.size:=⟨_,rfl⟩
 rw[←fb];have M6:=(M5.blkNew aK #[r.aA,r.aB,.slice p2 r.cells c2,r.free,r.step,r.aD,r.aF,r.aC,r.aG,.slice q2 r.vs d2] g2 fb.symm)
 generalize World.alloc _ _=v2 at M6⊢;clear M5 fj fb;have fk:=M6.hi 0;have fl:=M6.hi 7;obtain⟨f,g,h,i,j,k,o,s,t,u⟩:=(M6.bk 7).ten;go_wp2_with fail;clear f g h i j k o s t u;refine(HT _ (show Mem w v2 [aJ w (g2) aK (aUe r p2 c2 q2 d2),aUc w p2 r.cells c2,aUd w q2 r.vs d2,aI w cY 1 (b2) (nb) (f2) (bX bs),aJ w w 29 #[aA,aB,.slice p n cp,a,b,aD,aF,aC,aG,.slice q m cq]]from M6.pick [0,1,2,3,7] (by decide) rfl).ext).mono ?_;rintro e w7 ⟨p3,c3,q3,d3,rfl,f0,f7,gd⟩;have M7:=(show Mem w w7 [aI w TI 1 (p3) (n) (c3) (ivs v),aI w TV 4 (q3) (m) (d3) (vs.flatMap aE),aJ w (g2) aK (aUe r p2 c2 q2 d2),aUc w p2 r.cells c2,aUd w q2 r.vs d2,aI w cY 1 (b2) (nb) (f2) (bX bs),aJ w w 29 #[aA,aB,.slice p n cp,a,b,aD,aF,aC,aG,.slice q m cq]]from(show Mem w v2 [aJ w (g2) aK (aUe r p2 c2 q2 d2),aUc w p2 r.cells c2,aUd w q2 r.vs d2,aI w cY 1 (b2) (nb) (f2) (bX bs),aJ w w 29 #[aA,aB,.slice p n cp,a,b,aD,aF,aC,aG,.slice q m cq]]from M6.pick [0,1,2,3,7] (by decide) rfl).own2 gd f0 f7 (aRp _) (by decide))
 clear M6 fk fl gd f0 f7;have fm:=M7.hi 2;have fn:=M7.hi 6;go_upto_region 10 with fail;obtain⟨gX,fe⟩: ∃gX,gX=w7.heap.size:=⟨_,rfl⟩
 rw[←fe];have M8:=(M7.blkNew aK #[aA,aB,.slice p3 n c3,a,b,aD,aF,aC,aG,.slice q3 m d3] gX fe.symm)
 generalize World.alloc _ _=v3 at M8⊢;clear M7 fm fn fe;have fo:=M8.hi 0;have fp:=M8.hi 3;have fq:=M8.hi 7;go_wp2_with fail;refine(an _ M8.ext).mono ?_;rintro e w9 ⟨l3,e3,rfl,f1,ge⟩;have M9:=(M8.call ge f1)
 clear M8 fo fp fq ge f1;have fr:=M9.hi 1;have fs:=M9.hi 4;have ft:=M9.hi 8;obtain⟨f,g,h,i,j,k,o,s,t,u⟩:=(M9.bk 1).ten;go_wp2_with fail;clear f g h i j k o s t u;refine(b1 _ _ _ _ _ _ _ M9.ext ⟨(M9.sq 2),(M9.sq 3)⟩ (M9.sq 0)).mono ?_;rintro e he ⟨p4,c4,q4,d4,b4,f4,rfl,eg,el,ea,eo⟩;have au:=(M9.own3 eo eg el ea (aRp _) (by decide) (by decide) (by decide))
 clear M9 fr fs ft eo eg el ea;have b3:=au.hi 4;have b5:=au.hi 7;have a8:=au.hi 11;go_upto_region 12 with fail;obtain⟨g4,fc⟩: ∃g4,g4=he.heap.size:=⟨_,rfl⟩
 rw[←fc];have y:=(au.blkNew aK #[r.aA,r.aB,.slice p4 r.cells c4,r.free,r.step,r.aD,r.aF,r.aC,r.aG,.slice q4 r.vs d4] g4 fc.symm)
 generalize World.alloc _ _=v4 at y⊢;clear au b3 b5 a8 fc;have b7:=y.hi 0;have b8:=y.hi 5;have b9:=y.hi 8;have a9:=y.hi 12;obtain⟨f,g,h,i,j,k,o,s,t,u⟩:=(y.bk 0).ten;obtain⟨ay,az,a0,a1,a2,a3,a4,a5,a6,a7⟩:=(y.bk 8).ten;go_wp2_with fail;clear f g h i j k o s t u ay az a0 a1 a2 a3 a4 a5 a6 a7;refine Z (mV r _ _ _ _ _ _ _ _ _ _ _ ⟨(y.sq 1),(y.sq 2)⟩ ⟨(y.sq 9),(y.sq 10)⟩) fun i0 ep=>?_
 have af:=(y.adv ep)
 clear y b7 b8 b9 a9 ep;have cb:=af.hi 0;have cc:=af.hi 5;have cd:=af.hi 8;have ba:=af.hi 12;go_wp2_with fail;refine Z (wD _ _ _ _ _ bs _ (af.sq 3) (af.sq 11)) fun fu er=>?_
 have x:=(af.adv er)
 clear af cb cc cd ba er;have ce:=x.hi 0;have cf:=x.hi 5;have cg:=x.hi 8;have bb:=x.hi 12;have xm:=x.ext;have fv:=xQ (show IsHouse fu ⟨aA,aB,v,a,b,aD,aF,aC,aG,vs⟩ p3 n c3 q3 m d3 from⟨(x.sq 6),(x.sq 7)⟩);obtain⟨gr,gs,gt,gu,gv,gw,gx,gy,gz,g0⟩:=(x.bk 5).ten;obtain⟨g1,g3,g5,g7,g8,g9,ha,hb,hc,hd⟩:=(x.bk 12).ten;go_upto_region 14 with fail;go_cut [59] (fun s1 wx=>s1= .bool false∧Mem w wx [aJ w (g4) aK (aUe r p4 c4 q4 d4),aUc w p4 r.cells c4,aUd w q4 r.vs d4,aI w cY 1 (b4) (nb) (f4) (bX bs),aI w cY 1 (l3) (lm) (e3) (bX ds),aJ w (gX) aK #[aA,aB,.slice p3 n c3,a,b,aD,aF,aC,aG,.slice q3 m d3],aI w TI 1 (p3) (n) (c3) (ivs v),aI w TV 4 (q3) (m) (d3) (vs.flatMap aE),aJ w (g2) aK (aUe r p2 c2 q2 d2),aUc w p2 r.cells c2,aUd w q2 r.vs d2,aI w cY 1 (b2) (nb) (f2) (bX bs),aJ w w 29 #[aA,aB,.slice p n cp,a,b,aD,aF,aC,aG,.slice q m cq]])
 case first=>
  go_region_held3 (fun w'=>w'.cell? ⟨gX,0,none⟩=some (I aA)∧w'.cell? ⟨gX,1,none⟩=some (I aB)∧w'.cell? ⟨gX,2,none⟩=some (.slice p3 n c3)∧w'.cell? ⟨gX,3,none⟩=some (I a)∧w'.cell? ⟨gX,4,none⟩=some (I b)∧w'.cell? ⟨gX,5,none⟩=some (I aD)∧w'.cell? ⟨gX,6,none⟩=some (I aF)∧w'.cell? ⟨gX,7,none⟩=some (I aC)∧w'.cell? ⟨gX,8,none⟩=some (I aG)∧w'.cell? ⟨gX,9,none⟩=some (.slice q3 m d3)∧w'.cell? ⟨w,0,none⟩=some (I aA)∧w'.cell? ⟨w,1,none⟩=some (I aB)∧w'.cell? ⟨w,2,none⟩=some (.slice p n cp)∧w'.cell? ⟨w,3,none⟩=some (I a)∧w'.cell? ⟨w,4,none⟩=some (I b)∧w'.cell? ⟨w,5,none⟩=some (I aD)∧w'.cell? ⟨w,6,none⟩=some (I aF)∧w'.cell? ⟨w,7,none⟩=some (I aC)∧w'.cell? ⟨w,8,none⟩=some (I aG)∧w'.cell? ⟨w,9,none⟩=some (.slice q m cq))
   (first|(refine⟨?_,?_,?_,?_,?_,?_,?_,?_,?_,?_,?_,?_,?_,?_,?_,?_,?_,?_,?_,?_⟩<;>with_reducible assumption)|go_keep)
   (first
    |(go_at_call 7
      refine(HT _ xE).mono ?_;rintro e wt ⟨pt,ct,qt,dt,rfl,ot,vt,ib⟩;have gg:Ext fu wt:=xE;have It:=xQ (show IsHouse wt ⟨aA,aB,v,a,b,aD,aF,aC,aG,vs⟩ pt n ct qt m dt from⟨Sl.own ot,Sl.own vt⟩);clear ot vt;obtain⟨ic,ie,ig,ih,ii,ij,ik,il,im,io⟩:=((x.bk 5).ext gg).ten
      obtain⟨ip,iq,ir,it,iu,iv,iw,ix,iy,iz⟩:=((x.bk 12).ext gg).ten)
    |(go_at_call 9
      refine Z (mV ⟨aA,aB,v,a,b,aD,aF,aC,aG,vs⟩ _ _ _ _ _ _ _ _ _ _ _ (fv.out.ext xE) It.out) fun we ia=>?_
      have gf:Ext fu we:=xE;obtain⟨hl,hm,hn,ho,hp,hq,hr,hs,ht,hu⟩:=((x.bk 5).ext gf).ten
      obtain⟨hv,hw,hx,hy,hz,h0,h1,h2,h3,h4⟩:=((x.bk 12).ext gf).ten))
  all_goals (
   go_wp2_with fail;go_meet
   exact⟨rfl,x.adv xE⟩)
 case rest=>
  clear gr gs gt gu gv gw gx gy gz g0 g1 g3 g5 g7 g8 g9 ha hb hc hd xm fv;obtain⟨rfl,d9⟩:=hcut;obtain⟨d7,rfl⟩: ∃z,z=wc:=⟨_,rfl⟩
  have MC:=d9;clear d9 x ce cf cg bb;have ch:g4<d7:=(MC.hi 0)
  have ci:gX<d7:=(MC.hi 5)
  have cj:g2<d7:=(MC.hi 8)
  have bc:(w:Nat)<d7:=(MC.hi 12)
  go_wp2_with fail;refine(an _ MC.ext).mono ?_;rintro e i1 ⟨l5,e5,rfl,eh,es⟩;have ag:=(MC.call es eh)
  clear MC ch ci cj bc es eh;have ck:=ag.hi 1;have cl:=ag.hi 6;have cm:=ag.hi 9;have bd:=ag.hi 13;go_wp2_with fail;refine Z (wD _ _ _ _ _ ds _ (ag.sq 5) (ag.sq 0)) fun hf et=>?_
  have aj:=(ag.adv et)
  clear ag ck cl cm bd et;have cn:=aj.hi 1;have co:=aj.hi 6;have cr:=aj.hi 9;have be:=aj.hi 13;obtain⟨f,g,h,i,j,k,o,s,t,u⟩:=(aj.bk 6).ten;go_wp2_with fail;clear f g h i j k o s t u;refine Z (uV _ _ _ _ _ _ _ _ p3 _ _ q3 _ _ 1 _ _ _ _ _ (show Mem w hf [aI w TI 1 (p3) (n) (c3) (ivs v),aI w TV 4 (q3) (m) (d3) (vs.flatMap aE),aJ w (gX) aK #[aA,aB,.slice p3 n c3,a,b,aD,aF,aC,aG,.slice q3 m d3],aI w cY 1 (l3) (lm) (e3) (bX ds),aI w cY 1 (b4) (nb) (f4) (bX bs),aUc w p4 r.cells c4,aUd w q4 r.vs d4,aJ w (g4) aK (aUe r p4 c4 q4 d4),aI w cY 1 (b2) (nb) (f2) (bX bs),aJ w (g2) aK (aUe r p2 c2 q2 d2),aUc w p2 r.cells c2,aUd w q2 r.vs d2,aJ w w 29 #[aA,aB,.slice p n cp,a,b,aD,aF,aC,aG,.slice q m cq]]from aj.pick [7,8,6,5,4,2,3,1,12,9,10,11,13] (by decide) rfl) (by omega) (by omega) (by omega) (by omega)) fun gl ec=>?_
  have ao:=(ec)
  clear aj cn co cr be ec;have cu:=ao.hi 2;have cv:=ao.hi 7;have cw:=ao.hi 9;have bf:=ao.hi 12;go_wp2_with fail;refine Z (aIb l3 lm e3 (1+(n:Nat)+(m*4:Nat)) (1+n+m*4) _ _ _ _ (show Mem w gl [aI w cY 1 (l3) (lm) (e3) (bX ds),aI w cY 1 (b4) (nb) (f4) (bX bs),aUc w p4 r.cells c4,aUd w q4 r.vs d4,aJ w (g4) aK (aUe r p4 c4 q4 d4),aI w cY 1 (b2) (nb) (f2) (bX bs),aJ w (g2) aK (aUe r p2 c2 q2 d2),aUc w p2 r.cells c2,aUd w q2 r.vs d2,aJ w w 29 #[aA,aB,.slice p n cp,a,b,aD,aF,aC,aG,.slice q m cq]]from(show Mem w gl [aI w cY 1 (l3) (lm) (e3) (bX ds),aI w cY 1 (b4) (nb) (f4) (bX bs),aUc w p4 r.cells c4,aUd w q4 r.vs d4,aJ w (g4) aK (aUe r p4 c4 q4 d4),aI w cY 1 (b2) (nb) (f2) (bX bs),aJ w (g2) aK (aUe r p2 c2 q2 d2),aUc w p2 r.cells c2,aUd w q2 r.vs d2,aJ w w 29 #[aA,aB,.slice p n cp,a,b,aD,aF,aC,aG,.slice q m cq]]from ao.pick [3,4,5,6,7,8,9,10,11,12] (by decide) rfl).pick [0,1,2,3,4,5,6,7,8,9] (by decide) rfl) (by omega) (by omega) (by omega) (by omega)) fun b0 ed=>?_
  have ab:=(ed)
  clear ao cu cv cw bf ed;have cx:=ab.hi 4;have cy:=ab.hi 6;have cz:=ab.hi 9;have k1:(0:Int)≤1+(n:Nat)+(m*4:Nat)+(lm:Nat):=by omega
  have k2:decide ((1:Int)+(n:Nat)+(m*4:Nat)+(lm:Nat)<0)=false:=by simp;omega
  obtain⟨f,g,h,i,j,k,o,s,t,u⟩:=(ab.bk 4).ten;obtain⟨ay,az,a0,a1,a2,a3,a4,a5,a6,a7⟩:=(ab.bk 6).ten;go_wp2_with fail;clear f g h i j k o s t u ay az a0 a1 a2 a3 a4 a5 a6 a7;refine Z (mV r _ _ _ _ _ _ _ _ _ _ _ ⟨((show Mem w b0 [aI w cY 1 (b4) (nb) (f4) (bX bs),aUc w p4 r.cells c4,aUd w q4 r.vs d4,aJ w (g4) aK (aUe r p4 c4 q4 d4),aI w cY 1 (b2) (nb) (f2) (bX bs),aJ w (g2) aK (aUe r p2 c2 q2 d2),aUc w p2 r.cells c2,aUd w q2 r.vs d2,aJ w w 29 #[aA,aB,.slice p n cp,a,b,aD,aF,aC,aG,.slice q m cq]]from ab.pick [1,2,3,4,5,6,7,8,9] (by decide) rfl).sq 1),((show Mem w b0 [aI w cY 1 (b4) (nb) (f4) (bX bs),aUc w p4 r.cells c4,aUd w q4 r.vs d4,aJ w (g4) aK (aUe r p4 c4 q4 d4),aI w cY 1 (b2) (nb) (f2) (bX bs),aJ w (g2) aK (aUe r p2 c2 q2 d2),aUc w p2 r.cells c2,aUd w q2 r.vs d2,aJ w w 29 #[aA,aB,.slice p n cp,a,b,aD,aF,aC,aG,.slice q m cq]]from ab.pick [1,2,3,4,5,6,7,8,9] (by decide) rfl).sq 2)⟩ ⟨((show Mem w b0 [aI w cY 1 (b4) (nb) (f4) (bX bs),aUc w p4 r.cells c4,aUd w q4 r.vs d4,aJ w (g4) aK (aUe r p4 c4 q4 d4),aI w cY 1 (b2) (nb) (f2) (bX bs),aJ w (g2) aK (aUe r p2 c2 q2 d2),aUc w p2 r.cells c2,aUd w q2 r.vs d2,aJ w w 29 #[aA,aB,.slice p n cp,a,b,aD,aF,aC,aG,.slice q m cq]]from ab.pick [1,2,3,4,5,6,7,8,9] (by decide) rfl).sq 6),((show Mem w b0 [aI w cY 1 (b4) (nb) (f4) (bX bs),aUc w p4 r.cells c4,aUd w q4 r.vs d4,aJ w (g4) aK (aUe r p4 c4 q4 d4),aI w cY 1 (b2) (nb) (f2) (bX bs),aJ w (g2) aK (aUe r p2 c2 q2 d2),aUc w p2 r.cells c2,aUd w q2 r.vs d2,aJ w w 29 #[aA,aB,.slice p n cp,a,b,aD,aF,aC,aG,.slice q m cq]]from ab.pick [1,2,3,4,5,6,7,8,9] (by decide) rfl).sq 7)⟩) fun hg eu=>?_
  have ak:=(show Mem w hg [aI w cY 1 (b4) (nb) (f4) (bX bs),aUc w p4 r.cells c4,aUd w q4 r.vs d4,aJ w (g4) aK (aUe r p4 c4 q4 d4),aI w cY 1 (b2) (nb) (f2) (bX bs),aJ w (g2) aK (aUe r p2 c2 q2 d2),aUc w p2 r.cells c2,aUd w q2 r.vs d2,aJ w w 29 #[aA,aB,.slice p n cp,a,b,aD,aF,aC,aG,.slice q m cq]]from(show Mem w b0 [aI w cY 1 (b4) (nb) (f4) (bX bs),aUc w p4 r.cells c4,aUd w q4 r.vs d4,aJ w (g4) aK (aUe r p4 c4 q4 d4),aI w cY 1 (b2) (nb) (f2) (bX bs),aJ w (g2) aK (aUe r p2 c2 q2 d2),aUc w p2 r.cells c2,aUd w q2 r.vs d2,aJ w w 29 #[aA,aB,.slice p n cp,a,b,aD,aF,aC,aG,.slice q m cq]]from ab.pick [1,2,3,4,5,6,7,8,9] (by decide) rfl).adv eu)
  clear ab cx cy cz eu;have c0:=ak.hi 3;have c7:=ak.hi 5;have c8:=ak.hi 8;go_wp2_with fail;refine Z (wD _ _ _ _ _ bs _ (ak.sq 0) (ak.sq 4)) fun hh ev=>?_
  have ap:=(ak.adv ev)
  clear ak c0 c7 c8 ev;have c9:=ap.hi 3;have db:=ap.hi 5;have dc:=ap.hi 8;obtain⟨f,g,h,i,j,k,o,s,t,u⟩:=(ap.bk 3).ten;go_wp2_with fail;clear f g h i j k o s t u;refine Z (uV _ _ _ _ _ _ _ _ p4 _ _ q4 _ _ 1 _ _ _ _ _ (show Mem w hh [aUc w p4 r.cells c4,aUd w q4 r.vs d4,aJ w (g4) aK (aUe r p4 c4 q4 d4),aI w cY 1 (b4) (nb) (f4) (bX bs),aI w cY 1 (b2) (nb) (f2) (bX bs),aJ w (g2) aK (aUe r p2 c2 q2 d2),aUc w p2 r.cells c2,aUd w q2 r.vs d2,aJ w w 29 #[aA,aB,.slice p n cp,a,b,aD,aF,aC,aG,.slice q m cq]]from ap.pick [1,2,3,0,4,5,6,7,8] (by decide) rfl) (by omega) (by omega) (by omega) (by omega)) fun hj ee=>?_
  have av:=(ee)
  clear ap c9 db dc ee;have dd:=av.hi 2;have de:=av.hi 5;have df:=av.hi 8;go_wp2_with fail;refine Z (aIb b4 nb f4 (1+(r.cells.length:Nat)+(r.vs.length*4:Nat)) (1+r.cells.length+r.vs.length*4) _ _ _ _ (show Mem w hj [aI w cY 1 (b4) (nb) (f4) (bX bs),aI w TI 1 (p4) (r.cells.length) (c4) (bE 1 r.cells.length),aI w TV 4 (q4) (r.vs.length) (d4) (bE (1+(r.cells.length:Nat)) (r.vs.length*4)),aJ w (g4) aK (aUe r p4 c4 q4 d4),aI w cY 1 (b2) (nb) (f2) (bX bs),aJ w (g2) aK (aUe r p2 c2 q2 d2),aUc w p2 r.cells c2,aUd w q2 r.vs d2,aJ w w 29 #[aA,aB,.slice p n cp,a,b,aD,aF,aC,aG,.slice q m cq]]from av.pick [3,0,1,2,4,5,6,7,8] (by decide) rfl) (by omega) (by omega) (by omega) (by omega)) fun i2 ef=>?_
  have ah:=(ef)
  clear av dd de df ef;have dg:=ah.hi 3;have dh:=ah.hi 5;have di:=ah.hi 8;have k3:(0:Int)≤1+(r.cells.length:Nat)+(r.vs.length*4:Nat):=by omega
  have k4:decide ((1:Int)+(r.cells.length:Nat)+(r.vs.length*4:Nat)<0)=false:=by simp;omega
  have k5:(0:Int)≤1+(r.cells.length:Nat)+(r.vs.length*4:Nat)+(nb:Nat):=by omega
  have k6:decide ((1:Int)+(r.cells.length:Nat)+(r.vs.length*4:Nat)+(nb:Nat)<0)=false:=by simp;omega
  obtain⟨f,g,h,i,j,k,o,s,t,u⟩:=(ah.bk 3).ten;go_wp2_with fail;clear f g h i j k o s t u;refine Z (vB _ _ _ _ _ _ _ _ p4 r.cells.length _ q4 r.vs.length _ 1 _ _ (ah.ow 1) (ah.ow 2) (by omega) (by omega) (by omega) (by omega)) fun i3 ew=>?_
  have aq:=(ah.adv ew)
  clear ah dg dh di ew;have dj:=aq.hi 3;have dk:=aq.hi 5;have dl:=aq.hi 8;go_wp2_with fail;refine Z (aIe b4 nb f4 (1+(r.cells.length:Nat)+(r.vs.length*4:Nat)) (1+r.cells.length+r.vs.length*4) _ (by omega) (by omega) (by omega) (by omega) (aq.sq 0)) fun i4 ey=>?_
  have al:=(aq.adv ey)
  clear aq dj dk dl ey;have dm:=al.hi 3;have dn:=al.hi 5;have dp:=al.hi 8;obtain⟨f,g,h,i,j,k,o,s,t,u⟩:=(al.bk 8).ten;go_wp2_with fail;clear f g h i j k o s t u;refine(HT _ al.ext).mono ?_;rintro e i5 ⟨p5,c5,q5,d5,rfl,ei,em,ez⟩;have ar:=(al.own2 ez ei em (aRp _) (by decide))
  clear al dm dn dp ez ei em;have dq:=ar.hi 5;have dr:=ar.hi 7;have bg:=ar.hi 10;go_wp2_with fail;refine(an _ ar.ext).mono ?_;rintro e i6 ⟨l6,e6,rfl,ej,e0⟩;have ad:=(ar.call e0 ej)
  clear ar dq dr bg e0 ej;have du:=ad.hi 6;have dv:=ad.hi 8;have bh:=ad.hi 11;go_wp2_with fail;refine(b1 _ _ _ _ _ _ _ ad.ext ⟨(ad.sq 1),(ad.sq 2)⟩ (ad.sq 0)).mono ?_;rintro e hk ⟨p6,c6,q6,d6,b6,f6,rfl,ek,en,eb,e2⟩;have aw:=(ad.own3 e2 ek en eb (aRp _) (by decide) (by decide) (by decide))
  clear ad du dv bh e2 ek en eb;have dw:=aw.hi 9;have bi:=aw.hi 11;have bj:=aw.hi 14;go_upto_region 36 with fail;obtain⟨g6,fd⟩: ∃g6,g6=hk.heap.size:=⟨_,rfl⟩
  rw[←fd];have aa:=(aw.blkNew aK #[r.aA,r.aB,.slice p6 r.cells c6,r.free,r.step,r.aD,r.aF,r.aC,r.aG,.slice q6 r.vs d6] g6 fd.symm)
  generalize World.alloc _ _=v6 at aa⊢;clear aw dw bi bj fd;have dx:=aa.hi 0;have bl:=aa.hi 10;have bm:=aa.hi 12;have bo:=aa.hi 15;obtain⟨f,g,h,i,j,k,o,s,t,u⟩:=(aa.bk 0).ten;obtain⟨ay,az,a0,a1,a2,a3,a4,a5,a6,a7⟩:=(aa.bk 12).ten;go_wp2_with fail;clear f g h i j k o s t u ay az a0 a1 a2 a3 a4 a5 a6 a7;refine Z (mV r _ _ _ _ _ _ _ _ _ _ _ ⟨(aa.sq 1),(aa.sq 2)⟩ ⟨(aa.sq 13),(aa.sq 14)⟩) fun i7 e4=>?_
  have ai:=(aa.adv e4)
  clear aa dx bl bm bo e4;have dy:=ai.hi 0;have bp:=ai.hi 10;have bq:=ai.hi 12;have br:=ai.hi 15;go_wp2_with fail;refine Z (wD _ _ _ _ _ bs _ (ai.sq 3) (ai.sq 11)) fun i8 e7=>?_
  have ae:=(ai.adv e7)
  clear ai dy bp bq br e7;have dz:=ae.hi 0;have bt:=ae.hi 10;have bu:=ae.hi 12;have bv:=ae.hi 15;obtain⟨f,g,h,i,j,k,o,s,t,u⟩:=(ae.bk 10).ten;go_wp2_with fail;clear f g h i j k o s t u;refine Z (vB _ _ _ _ _ _ _ _ p4 r.cells.length _ q4 r.vs.length _ 1 _ _ (ae.ow 8) (ae.ow 9) (by omega) (by omega) (by omega) (by omega)) fun i9 e8=>?_
  have am:=(ae.adv e8)
  clear ae dz bt bu bv e8;have d0:=am.hi 0;have bw:=am.hi 10;have bx:=am.hi 12;have bz:=am.hi 15;go_wp2_with fail;refine Z (aIe b4 nb f4 (1+(r.cells.length:Nat)+(r.vs.length*4:Nat)) (1+r.cells.length+r.vs.length*4) _ (by omega) (by omega) (by omega) (by omega) (am.sq 7)) fun ja e9=>?_
  have ax:=(am.adv e9)
  clear am d0 bw bx bz e9;have gm:=ax.hi 0;have gi:=ax.hi 10;have gj:=ax.hi 12;have gk:=ax.hi 15;go_wp2;go_ret;exact⟨rfl,ax.ext⟩
theorem aO8 (aA aB a b aD aF aC aG:Int)(c:List Int)(vs:List aP)(p:OA)(n cp:Nat)(q:OA)(m cq:Nat)(lq:OA)(lm lc:Nat)(ds:List (List UInt8))(r:aL)(bs:List (List UInt8))(nb:Nat)(GP:Prop)(w:World)(HZ:Hid (∀w,U 5 #[.agg #[aA,aB,.slice p n cp,a,b,aD,aF,aC,aG,.slice q m cq],I 1048576] w (O (I (-1)) w))):
  U 4 #[.agg #[aA,aB,.slice p n cp,a,b,aD,aF,aC,aG,.slice q m cq],.slice lq lm lc] w (O (.bool true) w):=by
 go_enter func4,ntmps4;go_wp2_with fail;refine Z (HZ _) fun w1 h1=>?_
 go_wp2;go_ret;exact⟨rfl,xE⟩
theorem aGv (h:aL)(l:List UInt8):(jF h l).1.cells.length≤1000∧(jF h l).1.vs.length≤1000:=by
 unfold jF;by_cases hok:aR h=true
 ·rw[if_pos hok];cases hd:bY l with
  |some d=>obtain⟨k,a,b⟩:=d;exact aQ2 h k a b
  |none=>
   dsimp only;by_cases he:l= [101,110,100]
   ·rw[if_pos he];have:=aMl h (bZ (bB h) (dK h));exact⟨this.1,this.2.1⟩
   rw[if_neg he];have:=dE hok;dsimp only;omega
 rw[if_neg hok];simp[hZ]
theorem aIf (h:aL)(ls:List (List UInt8))(hh:h.cells.length≤12∧h.vs.length≤12):(hAt h ls).cells.length≤1000∧(hAt h ls).vs.length≤1000:=by
 rcases List.eq_nil_or_concat ls with rfl|⟨x,l,rfl⟩
 ·simp only[hAt,List.foldl_nil];omega
 rw[List.concat_eq_append,yC];exact aGv _ _
theorem aGu (h:aL)(ls:List (List UInt8)):(lY h ls).1.cells.length≤1000∧(lY h ls).1.vs.length≤1000∧(lY h ls).2.length≤40:=by
 unfold lY;by_cases hb:aR h=true∧ls.length≤40
 ·rw[if_pos hb];refine⟨?_,?_,by rw[yO];exact hb.2⟩
  ·have:=aIf h ls ⟨(dE hb.1).1,(dE hb.1).2.1⟩;exact this.1
  have:=aIf h ls ⟨(dE hb.1).1,(dE hb.1).2.1⟩;exact this.2
 rw[if_neg hb];simp[hZ]
theorem walk_FnExactHouseLines (W:World)(v:Value)(y:aL×(OA×Nat)×(OA×Nat))(f:v=bM y.1 y.2.1.1 y.1.cells.length y.2.1.2 y.2.2.1 y.1.vs.length y.2.2.2∧IsHouse W y.1 y.2.1.1 y.1.cells.length y.2.1.2 y.2.2.1 y.1.vs.length y.2.2.2∧aAh y.1)
  (v1:Value)(y1:List (List UInt8)×(OA×Nat))(f1:v1= .slice y1.2.1 y1.1.length y1.2.2∧Sl W y1.2.1 y1.1.length y1.2.2 1 (bX y1.1)∧ ∀a∈y1.1,a.length≤maxLen)(g:Env W)(hE:BitTab W):
  U 4 #[v,v1] W (O (.bool true) W):=by
 obtain⟨rfl,hi,_⟩:=f;obtain⟨rfl,hS,b⟩:=f1;obtain⟨h,⟨p,cp⟩,⟨q,cq⟩⟩:=y;obtain⟨ds,⟨lq,lc⟩⟩:=y1;dsimp only at hi hS b⊢;by_cases hs:h.cells.length+h.vs.length≤1048576
 ·have hl:=aGu h ds
  refine aR1 h.aA h.aB h.free h.step h.aD h.aF h.aC h.aG h.cells h.vs p h.cells.length cp q h.vs.length cq lq ds.length lc ds (lY h ds).1 (lY h ds).2 (lY h ds).2.length (ds.length≤1048576∧ ∀l∈ds,l.length≤1048576) W hs hl.1 hl.2.1 (by omega) (fun w=>aJ6 h p h.cells.length cp q h.vs.length cq w hs)
   (fun w' hx=> ?_) (fun hg=>hg.1)
   (fun w hx=>aCz h p h.cells.length cp q h.vs.length cq w (by omega) (by omega) (hi.ext hx)) (fun hg w hx=>aOr lq _ lc ds w (hS.ext hx) hg.1)
   (fun hg p c q d lp l w' hx hi' hS'=>aJi h p _ c q _ d lp _ l ds w' hi' hS' hg.2) (fun hg p c q d lp l w' hx hi' hS'=>aKl h p _ c q _ d lp _ l ds w' hi' hS' hg.2 (g.ext hx) (hE.ext hx))
  refine(aOt lq ds.length lc ds (1048576-h.cells.length-h.vs.length) w' (hS.ext hx) (by omega) (by omega) b).mono ?_;rintro e j ⟨z,rfl,h1,h2,h3,i⟩;exact⟨z,rfl,h1,by omega,h3,i⟩
 exact aO8 h.aA h.aB h.free h.step h.aD h.aF h.aC h.aG h.cells h.vs p h.cells.length cp q h.vs.length cq lq ds.length lc ds h [] 0 True W (fun w=>aOs h p h.cells.length cp q h.vs.length cq w hi.cells.bd hi.vs.bd (by omega))
end Go.Proofs.YtbgkcehffiogcacGreatDoor
