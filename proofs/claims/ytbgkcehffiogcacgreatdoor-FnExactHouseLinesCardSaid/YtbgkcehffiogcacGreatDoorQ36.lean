/-
  Texts of this proof, packed (@packed).
-/
import Derived.Test.YtbgkcehffiogcacGreatDoorQ34
import Derived.Test.YtbgkcehffiogcacGreatDoorQ35
namespace Go.Proofs.YtbgkcehffiogcacGreatDoor
open Go.RowKit Go.Proofs.Tryz
set_option linter.unusedSimpArgs false
set_option linter.unusedVariables false
set_option maxHeartbeats 8000000
set_option maxRecDepth 100000
theorem aIn {h:aL}(c:aR h=true)(k a b:Int):(doR h k a b).2.2=true→0≤(doR h k a b).2.1∧(doR h k a b).2.1≤10000:=by
 unfold doR;rw[if_pos c];cases hd:cO h k a b with
 |none=>intro h;simp at h
 |some x=>
  obtain⟨g,n⟩:=x;intro _;dsimp only;obtain⟨q1,q2,q3,q4,q5⟩:=(eL h).1 c;unfold cO at hd;split at hd
  ·split at hd
   ·rename_i h0;obtain⟨_,_,_,_,_,_,h5⟩:=nP q1 h0;injection hd with hd;simp only[aSy]at hd;omega
   cases hd
  split at hd
  ·obtain⟨v,_,h1,h2,h3,h4,_⟩:=aP8 c hd;omega
  split at hd
  ·split at hd
   ·rename_i h0;obtain⟨_,_,_,_,_,h5⟩:=mE q1 h0.2;injection hd with hd;simp only[aSy]at hd;omega
   cases hd
  split at hd
  ·split at hd
   ·injection hd with hd;simp only[aSy]at hd;omega
   cases hd
  split at hd
  ·split at hd
   ·injection hd with hd;simp only[aSy]at hd;omega
   cases hd
  cases hd
def dO (r:aL)(t:List UInt8)(w:World)(e:Ending)(w':World):Prop:=
 ∃p c q d,e= .returned (.tuple #[bM r p r.cells.length c q r.vs.length d,str t])∧w'.ownsRow w.heap.size TI 1 (.slice p r.cells.length c) r.cells.length (ivs r.cells)∧w'.ownsRow w.heap.size TV 4 (.slice q r.vs.length d) r.vs.length (r.vs.flatMap aE)∧Ext w w'
theorem aP2 (h r:aL)(p:OA)(cap:Nat)(q:OA)(c2:Nat)(l t:List UInt8)(a0 a1 a2 y:Int)(w:World)
  (HV:xB 21 #[.agg #[h.aA,h.aB,.slice p h.cells cap,h.free,h.step,h.aD,h.aF,h.aC,h.aG,.slice q h.vs c2]] w false):
  U 6 #[.agg #[h.aA,h.aB,.slice p h.cells cap,h.free,h.step,h.aD,h.aF,h.aC,h.aG,.slice q h.vs c2],str l] w (dO hZ [] w):=by
 go_enter func6,ntmps6;go_wp2_with fail;refine Z (HV _ (((Mem.start w).c0 aK #[h.aA,h.aB,.slice p h.cells cap,h.free,h.step,h.aD,h.aF,h.aC,h.aG,.slice q h.vs c2]).c1 aK zT).ext) fun w1 d=>?_
 have M1:=((((Mem.start w).c0 aK #[h.aA,h.aB,.slice p h.cells cap,h.free,h.step,h.aD,h.aF,h.aC,h.aG,.slice q h.vs c2]).c1 aK zT).adv d)
 have a:=M1.hi 0;have b:=M1.hi 1;clear d HV;obtain⟨f0,f,f1,g,f2,j,f3,k,f4,m,f5,n,f6,o,f7,s,f8,u,f9,x⟩:=(M1.bk 0).tenf;go_wp2;clear f0 f f1 g f2 j f3 k f4 m f5 n f6 o f7 s f8 u f9 x a b;have M2:=(M1.put10 (i:=0) rfl (I 0) (I 0) (.slice none 0 0) (I 0) (I 0) (I 0) (I 0) (I 0) (I 0) (.slice none 0 0))
 generalize c:World.setCell _ _ _=wz;rw[c]at M2;clear c M1;obtain⟨y0,y1,y2,y3,y4,y5,y6,y7,y8,y9⟩:=(M2.bk 0).ten;exact bodyPost_ret (v:= .tuple #[.agg #[(),(),((),()),(),(),(),(),(),(),((),())],str []]) (by simp[results,results6,go_sem, *]) rfl (show dO hZ [] w _ _ from⟨none,0,none,0,rfl,aS4 _ _ _ _,aS4 _ _ _ _,M2.ext⟩)
theorem aQf (h r:aL)(p:OA)(cap:Nat)(q:OA)(c2:Nat)(l t:List UInt8)(a0 a1 a2 ba:Int)(w:World)
  (HV:xB 21 #[.agg #[h.aA,h.aB,.slice p h.cells cap,h.free,h.step,h.aD,h.aF,h.aC,h.aG,.slice q h.vs c2]] w true)
  (HD:xC 22 #[str l] w fun w' e w''=>e= .returned (.tuple #[.agg #[a0,a1,a2],.bool true])∧Ext w' w'')
  (ae:xC 23 #[.agg #[h.aA,h.aB,.slice p h.cells cap,h.free,h.step,h.aD,h.aF,h.aC,h.aG,.slice q h.vs c2],.agg #[a0,a1,a2]] w fun w' e w''=> ∃pa ca qa da,e= .returned (.tuple #[.agg #[r.aA,r.aB,.slice pa r.cells ca,r.free,r.step,r.aD,r.aF,r.aC,r.aG,.slice qa r.vs da],ba,.bool false])∧w''.ownsRow w' TI 1 (.slice pa r.cells ca) r.cells.length (ivs r.cells)∧w''.ownsRow w' TV 4 (.slice qa r.vs da) r.vs.length (r.vs.flatMap aE)∧Ext w' w''):
  U 6 #[.agg #[h.aA,h.aB,.slice p h.cells cap,h.free,h.step,h.aD,h.aF,h.aC,h.aG,.slice q h.vs c2],str l] w (dO r [110,111] w):=by
 go_enter func6,ntmps6;go_wp2_with fail;refine Z (HV _ (((Mem.start w).c0 aK #[h.aA,h.aB,.slice p h.cells cap,h.free,h.step,h.aD,h.aF,h.aC,h.aG,.slice q h.vs c2]).c1 aK zT).ext) fun w1 ag=>?_
 have M1:=((((Mem.start w).c0 aK #[h.aA,h.aB,.slice p h.cells cap,h.free,h.step,h.aD,h.aF,h.aC,h.aG,.slice q h.vs c2]).c1 aK zT).adv ag)
 have g:=M1.hi 0;have j:=M1.hi 1;clear ag HV;go_wp2_with fail;refine Z (HD _ M1.ext) fun w2 ah=>?_
 have M2:=(M1.adv ah)
 clear M1 g j ah HD;have k:=M2.hi 0;have m:=M2.hi 1;go_upto_region 4 with fail;obtain⟨XD,d⟩: ∃a,a=w2.heap.size:=⟨_,rfl⟩
 rw[←d];have M3:=(M2.blkNew TDd #[a0,a1,a2] XD d.symm)
 generalize World.alloc _ _=v1 at M3⊢;clear M2 k m d;have n:=M3.hi 0;have o:=M3.hi 1;have s:=M3.hi 2;obtain⟨au,av,aw,ax,ay,az,a3,a4,a5,a6⟩:=(M3.bk 2).ten;obtain⟨a7,a8,a9⟩:=(M3.bk 0).tri;go_wp2_with fail;clear au av aw ax ay az a3 a4 a5 a6 a7 a8 a9;refine(ae _ M3.ext).mono ?_;rintro e w5 ⟨p5,c5,q5,d5,rfl,ho,hq,hx⟩;have M4:=(M3.own2 hx ho hq (aRp _) (by decide))
 clear M3 n o s hx ho hq ae;have u:=M4.hi 2;have x:=M4.hi 3;have y:=M4.hi 4;go_upto_region 6 with fail;obtain⟨XR,f⟩: ∃a,a=w5.heap.size:=⟨_,rfl⟩
 rw[←f];have M5:=(M4.blkNew aK #[r.aA,r.aB,.slice p5 r.cells c5,r.free,r.step,r.aD,r.aF,r.aC,r.aG,.slice q5 r.vs d5] XR f.symm)
 generalize World.alloc _ _=v5 at M5⊢;clear M4 u x y f;have z:=M5.hi 0;have aa:=M5.hi 3;have ab:=M5.hi 4;have ad:=M5.hi 5;obtain⟨v0,v1,v2,v3,v4,v5,v6,v7,v8,v9⟩:=(M5.bk 0).ten;obtain⟨f0,ai,f1,aj,f2,ak,f3,al,f4,am,f5,an,f6,ao,f7,ap,f8,aq,f9,ar⟩:=(M5.bk 4).tenf;obtain⟨b,c⟩:=M5.nq 0 4;go_wp2;clear v0 v1 v2 v3 v4 v5 v6 v7 v8 v9 f0 ai f1 aj f2 ak f3 al f4 am f5 an f6 ao f7 ap f8 aq f9 ar b c z aa ab ad;have M6:=(M5.put10 (i:=4) rfl (I r.aA) (I r.aB) (.slice p5 r.cells c5) (I r.free) (I r.step) (I r.aD) (I r.aF) (I r.aC) (I r.aG) (.slice q5 r.vs d5))
 generalize af:World.setCell _ _ _=wz;rw[af]at M6;clear af M5;obtain⟨y0,y1,y2,y3,y4,y5,y6,y7,y8,y9⟩:=(M6.bk 4).ten;exact bodyPost_ret (v:= .tuple #[.agg #[r.aA,r.aB,.slice p5 r.cells c5,r.free,r.step,r.aD,r.aF,r.aC,r.aG,.slice q5 r.vs d5],str [110,111]]) (by simp[results,results6,go_sem, *]) rfl (show dO r [110,111] w _ _ from⟨_,_,_,_,rfl,(M6.ow 1),(M6.ow 2),M6.ext⟩)
theorem aP0 (h r:aL)(p:OA)(cap:Nat)(q:OA)(c2:Nat)(l t:List UInt8)(a0 a1 a2 ah:Int)(w:World)
  (HV:xB 21 #[.agg #[h.aA,h.aB,.slice p h.cells cap,h.free,h.step,h.aD,h.aF,h.aC,h.aG,.slice q h.vs c2]] w true)
  (HD:xC 22 #[str l] w fun w' e w''=>e= .returned (.tuple #[.agg #[a0,a1,a2],.bool true])∧Ext w' w'')
  (ai:xC 23 #[.agg #[h.aA,h.aB,.slice p h.cells cap,h.free,h.step,h.aD,h.aF,h.aC,h.aG,.slice q h.vs c2],.agg #[a0,a1,a2]] w fun w' e w''=> ∃pa ca qa da,e= .returned (.tuple #[.agg #[r.aA,r.aB,.slice pa r.cells ca,r.free,r.step,r.aD,r.aF,r.aC,r.aG,.slice qa r.vs da],ah,.bool true])∧w''.ownsRow w' TI 1 (.slice pa r.cells ca) r.cells.length (ivs r.cells)∧w''.ownsRow w' TV 4 (.slice qa r.vs da) r.vs.length (r.vs.flatMap aE)∧Ext w' w'')
  (HN:xC 24 #[ah] w fun w' e w''=>e= .returned (str t)∧Ext w' w''):
  U 6 #[.agg #[h.aA,h.aB,.slice p h.cells cap,h.free,h.step,h.aD,h.aF,h.aC,h.aG,.slice q h.vs c2],str l] w (dO r t w):=by
 go_enter func6,ntmps6;go_wp2_with fail;refine Z (HV _ (((Mem.start w).c0 aK #[h.aA,h.aB,.slice p h.cells cap,h.free,h.step,h.aD,h.aF,h.aC,h.aG,.slice q h.vs c2]).c1 aK zT).ext) fun w1 al=>?_
 have M1:=((((Mem.start w).c0 aK #[h.aA,h.aB,.slice p h.cells cap,h.free,h.step,h.aD,h.aF,h.aC,h.aG,.slice q h.vs c2]).c1 aK zT).adv al)
 have d:=M1.hi 0;have f:=M1.hi 1;clear al HV;go_wp2_with fail;refine Z (HD _ M1.ext) fun w2 am=>?_
 have M2:=(M1.adv am)
 clear M1 d f am HD;have g:=M2.hi 0;have j:=M2.hi 1;go_upto_region 4 with fail;obtain⟨XD,b⟩: ∃a,a=w2.heap.size:=⟨_,rfl⟩
 rw[←b];have M3:=(M2.blkNew TDd #[a0,a1,a2] XD b.symm)
 generalize World.alloc _ _=v1 at M3⊢;clear M2 g j b;have k:=M3.hi 0;have m:=M3.hi 1;have n:=M3.hi 2;obtain⟨a3,a4,a5,a6,a7,a8,a9,ba,bb,bc⟩:=(M3.bk 2).ten;obtain⟨bd,be,bf⟩:=(M3.bk 0).tri;go_wp2_with fail;clear a3 a4 a5 a6 a7 a8 a9 ba bb bc bd be bf;refine(ai _ M3.ext).mono ?_;rintro e w5 ⟨p5,c5,q5,d5,rfl,ho,hq,hx⟩;have M4:=(M3.own2 hx ho hq (aRp _) (by decide))
 clear M3 k m n hx ho hq ai;have o:=M4.hi 2;have s:=M4.hi 3;have u:=M4.hi 4;go_upto_region 6 with fail;obtain⟨XR,c⟩: ∃a,a=w5.heap.size:=⟨_,rfl⟩
 rw[←c];have M5:=(M4.blkNew aK #[r.aA,r.aB,.slice p5 r.cells c5,r.free,r.step,r.aD,r.aF,r.aC,r.aG,.slice q5 r.vs d5] XR c.symm)
 generalize World.alloc _ _=v5 at M5⊢;clear M4 o s u c;have x:=M5.hi 0;have y:=M5.hi 3;have aa:=M5.hi 4;have ab:=M5.hi 5;go_upto_region 8 with fail;refine rL (gl [gEq (.agg #[(r.aA:Int),(r.aB:Int),.slice p5 r.cells c5,(r.free:Int),(r.step:Int),(r.aD:Int),(r.aF:Int),(r.aC:Int),(r.aG:Int),.slice q5 r.vs d5]),gEq ah,gEq (str t)]) 3 5 [(0,some 32),(1,some 33),(2,some 34)] ?steps ?fin
 case steps=>
  refine sC [] rfl (fun wi hx=> ?_) ?_
  ·intro K hK;have hX:Ext v5 wi:=xE;obtain⟨bl,bm,bo,bp,bq,br,bs,bt,bu,bv⟩:=((M5.bk 0).ext hX).ten;go_simp;exact hK _ _ ⟨.agg #[(r.aA:Int),(r.aB:Int),.slice p5 r.cells c5,(r.free:Int),(r.step:Int),(r.aD:Int),(r.aF:Int),(r.aC:Int),(r.aG:Int),.slice q5 r.vs d5],rfl,rfl,Ext.refl _⟩
  refine sS0 [] ?_;refine sC [(1,some 33)] rfl (fun wi hx=> ?_) StepsL.nil
  ·intro v1 h1 K hK;obtain rfl:=h1;go_simp;refine Z (HN _ (M5.ext.trans hx.of_drew)) fun w5 az=>?_
   go_simp;exact hK _ _ ⟨str t,rfl,rfl,az⟩
 case fin=>
  intro wi hx v0 h0 v1 h1 v2 h2;subst h0 h1 h2;have ak:=hx.of_drew;obtain⟨w8,rfl⟩: ∃z,z=wi:=⟨_,rfl⟩
  have M6:=(M5.adv ak)
  clear hx ak M5 x y aa ab;have ad:=M6.hi 0;have ae:=M6.hi 3;have af:=M6.hi 4;have ag:=M6.hi 5;obtain⟨f0,an,f1,ao,f2,ap,f3,aq,f4,ar,f5,au,f6,av,f7,aw,f8,ax,f9,ay⟩:=(M6.bk 4).tenf;try go_frame
  refine wpAny_ready (rs:= [3]) (by kernel_rfl) (by simp) ?_;refine AllReady.cons rfl (fun K hK=> ?_) AllReady.nil;go_simp;refine hK _ _ ?_;clear hK K f0 an f1 ao f2 ap f3 aq f4 ar f5 au f6 av f7 aw f8 ax f9 ay ad ae af ag;have M7:=(M6.put10 (i:=4) rfl (I r.aA) (I r.aB) (.slice p5 r.cells c5) (I r.free) (I r.step) (I r.aD) (I r.aF) (I r.aC) (I r.aG) (.slice q5 r.vs d5))
  generalize aj:World.setCell _ _ _=v8;rw[aj]at M7;clear aj M6;refine wpAny_ready (rs:= [4]) (by kernel_rfl) (by simp) ?_;refine AllReady.cons rfl (fun K hK=> ?_) AllReady.nil;go_simp;refine hK _ _ ?_;clear hK K;refine wpAny_done (by kernel_rfl) ?_ _;try go_frame
  have bg:=M7.hi 0;have bh:=M7.hi 3;have bi:=M7.hi 4;have bj:=M7.hi 5;obtain⟨y0,y1,y2,y3,y4,y5,y6,y7,y8,y9⟩:=(M7.bk 4).ten;go_wp2;exact bodyPost_ret (v:= .tuple #[.agg #[r.aA,r.aB,.slice p5 r.cells c5,r.free,r.step,r.aD,r.aF,r.aC,r.aG,.slice q5 r.vs d5],str t]) (by simp[results,results6,go_sem, *]) rfl (show dO r t w _ _ from⟨_,_,_,_,rfl,(M7.ow 1),(M7.ow 2),M7.ext⟩)
theorem aP1 (h r:aL)(p:OA)(cap:Nat)(q:OA)(c2:Nat)(l t:List UInt8)(a0 a1 a2 aw:Int)(w:World)(b1:(l== [101,110,100])=true)
  (HV:xB 21 #[.agg #[h.aA,h.aB,.slice p h.cells cap,h.free,h.step,h.aD,h.aF,h.aC,h.aG,.slice q h.vs c2]] w true)
  (HD:xC 22 #[str l] w fun w' e w''=>e= .returned (.tuple #[.agg #[(),(),()],.bool false])∧Ext w' w'')
  (HE:xC 25 #[.agg #[h.aA,h.aB,.slice p h.cells cap,h.free,h.step,h.aD,h.aF,h.aC,h.aG,.slice q h.vs c2]] w fun w' e w''=> ∃pa ca qa da,e= .returned (.agg #[r.aA,r.aB,.slice pa r.cells ca,r.free,r.step,r.aD,r.aF,r.aC,r.aG,.slice qa r.vs da])∧w''.ownsRow w' TI 1 (.slice pa r.cells ca) r.cells.length (ivs r.cells)∧w''.ownsRow w' TV 4 (.slice qa r.vs da) r.vs.length (r.vs.flatMap aE)∧Ext w' w''):
  U 6 #[.agg #[h.aA,h.aB,.slice p h.cells cap,h.free,h.step,h.aD,h.aF,h.aC,h.aG,.slice q h.vs c2],str l] w (dO r [111,107] w):=by
 go_enter func6,ntmps6;go_wp2_with fail;refine Z (HV _ (((Mem.start w).c0 aK #[h.aA,h.aB,.slice p h.cells cap,h.free,h.step,h.aD,h.aF,h.aC,h.aG,.slice q h.vs c2]).c1 aK zT).ext) fun w1 x=>?_
 have M1:=((((Mem.start w).c0 aK #[h.aA,h.aB,.slice p h.cells cap,h.free,h.step,h.aD,h.aF,h.aC,h.aG,.slice q h.vs c2]).c1 aK zT).adv x)
 have c:=M1.hi 0;have d:=M1.hi 1;clear x HV;go_wp2_with fail;refine Z (HD _ M1.ext) fun w2 y=>?_
 have M2:=(M1.adv y)
 clear M1 c d y HD;have f:=M2.hi 0;have g:=M2.hi 1;go_upto_region 4 with fail;obtain⟨XD,b⟩: ∃a,a=w2.heap.size:=⟨_,rfl⟩
 rw[←b];have M3:=(M2.blkNew TDd #[(),(),()] XD b.symm)
 generalize World.alloc _ _=v1 at M3⊢;clear M2 f g b;have j:=M3.hi 0;have k:=M3.hi 1;have m:=M3.hi 2;obtain⟨ak,al,am,an,ao,ap,aq,ar,au,av⟩:=(M3.bk 2).ten;go_wp2_with fail;clear ak al am an ao ap aq ar au av;refine(HE _ M3.ext).mono ?_;rintro e w5 ⟨p5,c5,q5,d5,rfl,ho,hq,hx⟩;have M4:=(M3.own2 hx ho hq (aRp _) (by decide))
 clear M3 j k m hx ho hq HE;have n:=M4.hi 2;have o:=M4.hi 3;have s:=M4.hi 4;obtain⟨f0,z,f1,aa,f2,ab,f3,ad,f4,ae,f5,af,f6,ag,f7,ah,f8,ai,f9,aj⟩:=(M4.bk 3).tenf;go_wp2;clear f0 z f1 aa f2 ab f3 ad f4 ae f5 af f6 ag f7 ah f8 ai f9 aj n o s;have M5:=(M4.put10 (i:=3) rfl (I r.aA) (I r.aB) (.slice p5 r.cells c5) (I r.free) (I r.step) (I r.aD) (I r.aF) (I r.aC) (I r.aG) (.slice q5 r.vs d5))
 generalize u:World.setCell _ _ _=wz;rw[u]at M5;clear u M4;obtain⟨y0,y1,y2,y3,y4,y5,y6,y7,y8,y9⟩:=(M5.bk 3).ten;exact bodyPost_ret (v:= .tuple #[.agg #[r.aA,r.aB,.slice p5 r.cells c5,r.free,r.step,r.aD,r.aF,r.aC,r.aG,.slice q5 r.vs d5],str [111,107]]) (by simp[results,results6,go_sem, *]) rfl (show dO r [111,107] w _ _ from⟨_,_,_,_,rfl,(M5.ow 0),(M5.ow 1),M5.ext⟩)
theorem aP3 (h r:aL)(p:OA)(cap:Nat)(q:OA)(c2:Nat)(l t:List UInt8)(a0 a1 a2 bl:Int)(w:World)(b1:(l== [101,110,100])=false)
  (HV:xB 21 #[.agg #[h.aA,h.aB,.slice p h.cells cap,h.free,h.step,h.aD,h.aF,h.aC,h.aG,.slice q h.vs c2]] w true)
  (HD:xC 22 #[str l] w fun w' e w''=>e= .returned (.tuple #[.agg #[(),(),()],.bool false])∧Ext w' w'')
  (aq:Hid (∀B w',B≤w'.heap.size→Ext w w'→U 26 #[.agg #[h.aA,h.aB,.slice p h.cells cap,h.free,h.step,h.aD,h.aF,h.aC,h.aG,.slice q h.vs c2]] w' fun e w''=> ∃pa ca qa da,e= .returned (.agg #[r.aA,r.aB,.slice pa r.cells ca,r.free,r.step,r.aD,r.aF,r.aC,r.aG,.slice qa r.vs da])∧w''.ownsRow B TI 1 (.slice pa r.cells ca) r.cells.length (ivs r.cells)∧w''.ownsRow B TV 4 (.slice qa r.vs da) r.vs.length (r.vs.flatMap aE)∧Ext w' w''))
  (HA:xC 27 #[.agg #[h.aA,h.aB,.slice p h.cells cap,h.free,h.step,h.aD,h.aF,h.aC,h.aG,.slice q h.vs c2],str l] w fun w' e w''=>e= .returned (str t)∧Ext w' w''):
  U 6 #[.agg #[h.aA,h.aB,.slice p h.cells cap,h.free,h.step,h.aD,h.aF,h.aC,h.aG,.slice q h.vs c2],str l] w (dO r t w):=by
 go_enter func6,ntmps6;go_wp2_with fail;refine Z (HV _ (((Mem.start w).c0 aK #[h.aA,h.aB,.slice p h.cells cap,h.free,h.step,h.aD,h.aF,h.aC,h.aG,.slice q h.vs c2]).c1 aK zT).ext) fun w1 aj=>?_
 have M1:=((((Mem.start w).c0 aK #[h.aA,h.aB,.slice p h.cells cap,h.free,h.step,h.aD,h.aF,h.aC,h.aG,.slice q h.vs c2]).c1 aK zT).adv aj)
 have o:=M1.hi 0;have s:=M1.hi 1;clear aj HV;go_wp2_with fail;refine Z (HD _ M1.ext) fun w2 ak=>?_
 have M2:=(M1.adv ak)
 clear M1 o s ak HD;have u:=M2.hi 0;have x:=M2.hi 1;go_upto_region 4 with fail;obtain⟨XD,m⟩: ∃a,a=w2.heap.size:=⟨_,rfl⟩
 rw[←m];have M3:=(M2.blkNew TDd #[(),(),()] XD m.symm)
 generalize World.alloc _ _=v1 at M3⊢;clear M2 u x m;have y:=M3.hi 0;have aa:=M3.hi 1;have ab:=M3.hi 2;go_upto_region 11 with fail;refine rL (gl [gEq (.agg #[(h.aA:Int),(h.aB:Int),.slice p h.cells cap,(h.free:Int),(h.step:Int),(h.aD:Int),(h.aF:Int),(h.aC:Int),(h.aG:Int),.slice q h.vs c2]),(fun v w'=> ∃p c q d,v= .agg #[r.aA,r.aB,.slice p r.cells c,r.free,r.step,r.aD,r.aF,r.aC,r.aG,.slice q r.vs d]∧w'.ownsRow v1 TI 1 (.slice p r.cells c) r.cells.length (ivs r.cells)∧w'.ownsRow v1 TV 4 (.slice q r.vs d) r.vs.length (r.vs.flatMap aE)),gEq (.agg #[(h.aA:Int),(h.aB:Int),.slice p h.cells cap,(h.free:Int),(h.step:Int),(h.aD:Int),(h.aF:Int),(h.aC:Int),(h.aG:Int),.slice q h.vs c2]),gEq (str l),gEq (str t)]) 5 7 [(0,some 40),(1,some 41),(2,some 42),(3,some 43),(4,some 44)] ?steps ?fin (hG:=(lH (bC (bH _) (bC (fun v w w' ⟨p,c,q,d,e,o1,o2⟩ hx=>⟨p,c,q,d,e,aZ o1 hx,aZ o2 hx⟩) (bC (bH _) (bC (bH _) (bC (bH _) (oG))))))))
 case steps=>
  refine sC [] rfl (fun wi hx=> ?_) ?_
  ·intro K hK;have hX:Ext v1 wi:=xE;obtain⟨au,av,aw,ax,ay,az,a3,a4,a5,a6⟩:=((M3.bk 2).ext hX).ten;go_simp;exact hK _ _ ⟨.agg #[(h.aA:Int),(h.aB:Int),.slice p h.cells cap,(h.free:Int),(h.step:Int),(h.aD:Int),(h.aF:Int),(h.aC:Int),(h.aG:Int),.slice q h.vs c2],rfl,rfl,Ext.refl _⟩
  refine sC [(0,some 40)] rfl (fun wi hx=> ?_) ?_
  ·intro v0 h0 K hK;obtain rfl:=h0;go_simp;refine(aq v1 _ hx.sz (M3.ext.trans hx.of_drew)).mono ?_;rintro e w5 ⟨bi,ar,bj,a7,rfl,o5,v5,n⟩;go_simp;exact hK _ _ ⟨_,rfl,⟨bi,ar,bj,a7,rfl,o5,v5⟩,n⟩
  refine sC [] rfl (fun wi hx=> ?_) ?_
  ·intro K hK;have hX:Ext v1 wi:=xE;obtain⟨au,av,aw,ax,ay,az,a3,a4,a5,a6⟩:=((M3.bk 2).ext hX).ten;go_simp;exact hK _ _ ⟨.agg #[(h.aA:Int),(h.aB:Int),.slice p h.cells cap,(h.free:Int),(h.step:Int),(h.aD:Int),(h.aF:Int),(h.aC:Int),(h.aG:Int),.slice q h.vs c2],rfl,rfl,Ext.refl _⟩
  refine sS0 [] ?_;refine sC [(2,some 42),(3,some 43)] rfl (fun wi hx=> ?_) StepsL.nil
  ·intro v2 h2 v3 h3 K hK;subst h2 h3;go_simp;refine Z (HA _ (M3.ext.trans hx.of_drew)) fun w5 n=>?_
   go_simp;exact hK _ _ ⟨str t,rfl,rfl,n⟩
 case fin=>
  intro wi hx v0 h0 v1 h1 v2 h2 v3 h3 v4 h4;obtain rfl:=h0;obtain⟨al,ad,am,ae,rfl,af,ag⟩:=h1;subst h2 h3 h4;have ai:=hx.of_drew;obtain⟨w8,rfl⟩: ∃z,z=wi:=⟨_,rfl⟩
  have f:=(M3.own2 ai af ag (aRp _) (by decide))
  clear hx ai af ag M3 y aa ab;have g:=f.hi 2;have j:=f.hi 3;have k:=f.hi 4;obtain⟨f0,a8,f1,a9,f2,ba,f3,bb,f4,bc,f5,bd,f6,be,f7,bf,f8,bg,f9,bh⟩:=(f.bk 3).tenf;try go_frame
  refine wpAny_ready (rs:= [5]) (by kernel_rfl) (by simp) ?_;refine AllReady.cons rfl (fun K hK=> ?_) AllReady.nil;go_simp;refine hK _ _ ?_;clear hK K f0 a8 f1 a9 f2 ba f3 bb f4 bc f5 bd f6 be f7 bf f8 bg f9 bh g j k;have b:=(f.put10 (i:=3) rfl (I r.aA) (I r.aB) (.slice al r.cells ad) (I r.free) (I r.step) (I r.aD) (I r.aF) (I r.aC) (I r.aG) (.slice am r.vs ae))
  generalize ah:World.setCell _ _ _=v8;rw[ah]at b;clear ah f;refine wpAny_ready (rs:= [6]) (by kernel_rfl) (by simp) ?_;refine AllReady.cons rfl (fun K hK=> ?_) AllReady.nil;go_simp;refine hK _ _ ?_;clear hK K;refine wpAny_done (by kernel_rfl) ?_ _;try go_frame
  have an:=b.hi 2;have ao:=b.hi 3;have ap:=b.hi 4;obtain⟨y0,y1,y2,y3,y4,y5,y6,y7,y8,y9⟩:=(b.bk 3).ten;go_wp2;exact bodyPost_ret (v:= .tuple #[.agg #[r.aA,r.aB,.slice al r.cells ad,r.free,r.step,r.aD,r.aF,r.aC,r.aG,.slice am r.vs ae],str t]) (by simp[results,results6,go_sem, *]) rfl (show dO r t w _ _ from⟨_,_,_,_,rfl,(b.ow 0),(b.ow 1),b.ext⟩)
theorem aM1 (h:aL)(p:OA)(n cap:Nat)(q:OA)(m c2:Nat)(l:List UInt8)(w:World)(hi:IsHouse w h p n cap q m c2)(hl:l.length≤1048576):
  U 6 #[bM h p n cap q m c2,str l] w (dO (jF h l).1 (jF h l).2 w):=by
 have g:=hi.clen;have i:=hi.vlen;subst g i;have HV:=xQ fun(w':World) (hx:Ext w w')=>iE h p _ cap q _ c2 w' (hi.ext hx)
 unfold jF;by_cases hok:aR h=true
 ·rw[if_pos hok];rw[hok]at HV;have hs:=dE hok;have HD:=xQ fun(w':World) (hx:Ext w w')=>aB8 l w' (by omega)
  unfold lA at HD;cases hd:bY l with
  |some d=>
   obtain⟨k,a,b⟩:=d;rw[hd]at HD;dsimp only;have HO:=xQ fun(w':World) (hx:Ext w w')=>aOu h k a b p _ cap q _ c2 w' (hi.ext hx)
   unfold aLf at HO;have c:=aIn hok k a b;generalize doR h k a b=x at HO c⊢;obtain⟨r,f,ok⟩:=x;dsimp only at HO c⊢;cases ok with
   |false=>exact aQf h r p cap q c2 l [] k a b f w HV HD HO
   |true=>have c:=c rfl;exact aP0 h r p cap q c2 l _ k a b f w HV HD HO (fun w' hx=>jS _ w' c.1 (by omega))
  |none=>
   rw[hd]at HD;dsimp only;by_cases he:l= [101,110,100]
   ·rw[if_pos he];have HE:=xQ fun(w':World) (hx:Ext w w')=>aBc h p _ cap q _ c2 w' (by omega) (hi.ext hx)
    unfold RetHouse at HE;exact aP1 h (aHu h) p cap q c2 l [] 0 0 0 0 w (by simp[he]) HV HD HE
   rw[if_neg he];refine aP3 h h p cap q c2 l (aFe h l) 0 0 0 0 w (by simp[he]) HV HD (fun B w' hB hx=> ?_) (fun w' hx=>aOv h hok p _ cap q _ c2 l w' (hi.ext hx) hl);have:=lZ h p _ cap q _ c2 w' (by omega) (by omega) (hi.ext hx);unfold RetHouse at this;refine this.mono ?_;rintro e o ⟨pa,ca,qa,da,rfl,o1,o2,j⟩;exact⟨pa,ca,qa,da,rfl,dW o1 hB,dW o2 hB,j⟩
 rw[if_neg hok];rw[show aR h=false by simpa using hok]at HV;exact aP2 h h p cap q c2 l [] 0 0 0 0 w HV
theorem aPp (h r:aL)(p:OA)(cap:Nat)(q:OA)(c2:Nat)(l t:List UInt8)(a0 a1 a2 y:Int)(w:World)
  (HV:xB 31 #[.agg #[h.aA,h.aB,.slice p h.cells cap,h.free,h.step,h.aD,h.aF,h.aC,h.aG,.slice q h.vs c2]] w false):
  U 8 #[.agg #[h.aA,h.aB,.slice p h.cells cap,h.free,h.step,h.aD,h.aF,h.aC,h.aG,.slice q h.vs c2],str l] w (dO hZ [] w):=by
 go_enter func8,ntmps8;go_wp2_with fail;refine Z (HV _ (((Mem.start w).c0 aK #[h.aA,h.aB,.slice p h.cells cap,h.free,h.step,h.aD,h.aF,h.aC,h.aG,.slice q h.vs c2]).c1 aK zT).ext) fun w1 d=>?_
 have M1:=((((Mem.start w).c0 aK #[h.aA,h.aB,.slice p h.cells cap,h.free,h.step,h.aD,h.aF,h.aC,h.aG,.slice q h.vs c2]).c1 aK zT).adv d)
 have a:=M1.hi 0;have b:=M1.hi 1;clear d HV;obtain⟨f0,f,f1,g,f2,j,f3,k,f4,m,f5,n,f6,o,f7,s,f8,u,f9,x⟩:=(M1.bk 0).tenf;go_wp2;clear f0 f f1 g f2 j f3 k f4 m f5 n f6 o f7 s f8 u f9 x a b;have M2:=(M1.put10 (i:=0) rfl (I 0) (I 0) (.slice none 0 0) (I 0) (I 0) (I 0) (I 0) (I 0) (I 0) (.slice none 0 0))
 generalize c:World.setCell _ _ _=wz;rw[c]at M2;clear c M1;obtain⟨y0,y1,y2,y3,y4,y5,y6,y7,y8,y9⟩:=(M2.bk 0).ten;exact bodyPost_ret (v:= .tuple #[.agg #[(),(),((),()),(),(),(),(),(),(),((),())],str []]) (by simp[results,results8,go_sem, *]) rfl (show dO hZ [] w _ _ from⟨none,0,none,0,rfl,aS4 _ _ _ _,aS4 _ _ _ _,M2.ext⟩)
theorem aQy (h r:aL)(p:OA)(cap:Nat)(q:OA)(c2:Nat)(l t:List UInt8)(a0 a1 a2 ba:Int)(w:World)
  (HV:xB 31 #[.agg #[h.aA,h.aB,.slice p h.cells cap,h.free,h.step,h.aD,h.aF,h.aC,h.aG,.slice q h.vs c2]] w true)
  (HD:xC 32 #[str l] w fun w' e w''=>e= .returned (.tuple #[.agg #[a0,a1,a2],.bool true])∧Ext w' w'')
  (ae:xC 33 #[.agg #[h.aA,h.aB,.slice p h.cells cap,h.free,h.step,h.aD,h.aF,h.aC,h.aG,.slice q h.vs c2],.agg #[a0,a1,a2]] w fun w' e w''=> ∃pa ca qa da,e= .returned (.tuple #[.agg #[r.aA,r.aB,.slice pa r.cells ca,r.free,r.step,r.aD,r.aF,r.aC,r.aG,.slice qa r.vs da],ba,.bool false])∧w''.ownsRow w' TI 1 (.slice pa r.cells ca) r.cells.length (ivs r.cells)∧w''.ownsRow w' TV 4 (.slice qa r.vs da) r.vs.length (r.vs.flatMap aE)∧Ext w' w''):
  U 8 #[.agg #[h.aA,h.aB,.slice p h.cells cap,h.free,h.step,h.aD,h.aF,h.aC,h.aG,.slice q h.vs c2],str l] w (dO r [110,111] w):=by
 go_enter func8,ntmps8;go_wp2_with fail;refine Z (HV _ (((Mem.start w).c0 aK #[h.aA,h.aB,.slice p h.cells cap,h.free,h.step,h.aD,h.aF,h.aC,h.aG,.slice q h.vs c2]).c1 aK zT).ext) fun w1 ag=>?_
 have M1:=((((Mem.start w).c0 aK #[h.aA,h.aB,.slice p h.cells cap,h.free,h.step,h.aD,h.aF,h.aC,h.aG,.slice q h.vs c2]).c1 aK zT).adv ag)
 have g:=M1.hi 0;have j:=M1.hi 1;clear ag HV;go_wp2_with fail;refine Z (HD _ M1.ext) fun w2 ah=>?_
 have M2:=(M1.adv ah)
 clear M1 g j ah HD;have k:=M2.hi 0;have m:=M2.hi 1;go_upto_region 4 with fail;obtain⟨XD,d⟩: ∃a,a=w2.heap.size:=⟨_,rfl⟩
 rw[←d];have M3:=(M2.blkNew TDd #[a0,a1,a2] XD d.symm)
 generalize World.alloc _ _=v1 at M3⊢;clear M2 k m d;have n:=M3.hi 0;have o:=M3.hi 1;have s:=M3.hi 2;obtain⟨au,av,aw,ax,ay,az,a3,a4,a5,a6⟩:=(M3.bk 2).ten;obtain⟨a7,a8,a9⟩:=(M3.bk 0).tri;go_wp2_with fail;clear au av aw ax ay az a3 a4 a5 a6 a7 a8 a9;refine(ae _ M3.ext).mono ?_;rintro e w5 ⟨p5,c5,q5,d5,rfl,ho,hq,hx⟩;have M4:=(M3.own2 hx ho hq (aRp _) (by decide))
 clear M3 n o s hx ho hq ae;have u:=M4.hi 2;have x:=M4.hi 3;have y:=M4.hi 4;go_upto_region 6 with fail;obtain⟨XR,f⟩: ∃a,a=w5.heap.size:=⟨_,rfl⟩
 rw[←f];have M5:=(M4.blkNew aK #[r.aA,r.aB,.slice p5 r.cells c5,r.free,r.step,r.aD,r.aF,r.aC,r.aG,.slice q5 r.vs d5] XR f.symm)
 generalize World.alloc _ _=v5 at M5⊢;clear M4 u x y f;have z:=M5.hi 0;have aa:=M5.hi 3;have ab:=M5.hi 4;have ad:=M5.hi 5;obtain⟨v0,v1,v2,v3,v4,v5,v6,v7,v8,v9⟩:=(M5.bk 0).ten;obtain⟨f0,ai,f1,aj,f2,ak,f3,al,f4,am,f5,an,f6,ao,f7,ap,f8,aq,f9,ar⟩:=(M5.bk 4).tenf;obtain⟨b,c⟩:=M5.nq 0 4;go_wp2;clear v0 v1 v2 v3 v4 v5 v6 v7 v8 v9 f0 ai f1 aj f2 ak f3 al f4 am f5 an f6 ao f7 ap f8 aq f9 ar b c z aa ab ad;have M6:=(M5.put10 (i:=4) rfl (I r.aA) (I r.aB) (.slice p5 r.cells c5) (I r.free) (I r.step) (I r.aD) (I r.aF) (I r.aC) (I r.aG) (.slice q5 r.vs d5))
 generalize af:World.setCell _ _ _=wz;rw[af]at M6;clear af M5;obtain⟨y0,y1,y2,y3,y4,y5,y6,y7,y8,y9⟩:=(M6.bk 4).ten;exact bodyPost_ret (v:= .tuple #[.agg #[r.aA,r.aB,.slice p5 r.cells c5,r.free,r.step,r.aD,r.aF,r.aC,r.aG,.slice q5 r.vs d5],str [110,111]]) (by simp[results,results8,go_sem, *]) rfl (show dO r [110,111] w _ _ from⟨_,_,_,_,rfl,(M6.ow 1),(M6.ow 2),M6.ext⟩)
theorem aPn (h r:aL)(p:OA)(cap:Nat)(q:OA)(c2:Nat)(l t:List UInt8)(a0 a1 a2 ah:Int)(w:World)
  (HV:xB 31 #[.agg #[h.aA,h.aB,.slice p h.cells cap,h.free,h.step,h.aD,h.aF,h.aC,h.aG,.slice q h.vs c2]] w true)
  (HD:xC 32 #[str l] w fun w' e w''=>e= .returned (.tuple #[.agg #[a0,a1,a2],.bool true])∧Ext w' w'')
  (ai:xC 33 #[.agg #[h.aA,h.aB,.slice p h.cells cap,h.free,h.step,h.aD,h.aF,h.aC,h.aG,.slice q h.vs c2],.agg #[a0,a1,a2]] w fun w' e w''=> ∃pa ca qa da,e= .returned (.tuple #[.agg #[r.aA,r.aB,.slice pa r.cells ca,r.free,r.step,r.aD,r.aF,r.aC,r.aG,.slice qa r.vs da],ah,.bool true])∧w''.ownsRow w' TI 1 (.slice pa r.cells ca) r.cells.length (ivs r.cells)∧w''.ownsRow w' TV 4 (.slice qa r.vs da) r.vs.length (r.vs.flatMap aE)∧Ext w' w'')
  (HN:xC 34 #[ah] w fun w' e w''=>e= .returned (str t)∧Ext w' w''):
  U 8 #[.agg #[h.aA,h.aB,.slice p h.cells cap,h.free,h.step,h.aD,h.aF,h.aC,h.aG,.slice q h.vs c2],str l] w (dO r t w):=by
 go_enter func8,ntmps8;go_wp2_with fail;refine Z (HV _ (((Mem.start w).c0 aK #[h.aA,h.aB,.slice p h.cells cap,h.free,h.step,h.aD,h.aF,h.aC,h.aG,.slice q h.vs c2]).c1 aK zT).ext) fun w1 al=>?_
 have M1:=((((Mem.start w).c0 aK #[h.aA,h.aB,.slice p h.cells cap,h.free,h.step,h.aD,h.aF,h.aC,h.aG,.slice q h.vs c2]).c1 aK zT).adv al)
 have d:=M1.hi 0;have f:=M1.hi 1;clear al HV;go_wp2_with fail;refine Z (HD _ M1.ext) fun w2 am=>?_
 have M2:=(M1.adv am)
 clear M1 d f am HD;have g:=M2.hi 0;have j:=M2.hi 1;go_upto_region 4 with fail;obtain⟨XD,b⟩: ∃a,a=w2.heap.size:=⟨_,rfl⟩
 rw[←b];have M3:=(M2.blkNew TDd #[a0,a1,a2] XD b.symm)
 generalize World.alloc _ _=v1 at M3⊢;clear M2 g j b;have k:=M3.hi 0;have m:=M3.hi 1;have n:=M3.hi 2;obtain⟨a3,a4,a5,a6,a7,a8,a9,ba,bb,bc⟩:=(M3.bk 2).ten;obtain⟨bd,be,bf⟩:=(M3.bk 0).tri;go_wp2_with fail;clear a3 a4 a5 a6 a7 a8 a9 ba bb bc bd be bf;refine(ai _ M3.ext).mono ?_;rintro e w5 ⟨p5,c5,q5,d5,rfl,ho,hq,hx⟩;have M4:=(M3.own2 hx ho hq (aRp _) (by decide))
 clear M3 k m n hx ho hq ai;have o:=M4.hi 2;have s:=M4.hi 3;have u:=M4.hi 4;go_upto_region 6 with fail;obtain⟨XR,c⟩: ∃a,a=w5.heap.size:=⟨_,rfl⟩
 rw[←c];have M5:=(M4.blkNew aK #[r.aA,r.aB,.slice p5 r.cells c5,r.free,r.step,r.aD,r.aF,r.aC,r.aG,.slice q5 r.vs d5] XR c.symm)
 generalize World.alloc _ _=v5 at M5⊢;clear M4 o s u c;have x:=M5.hi 0;have y:=M5.hi 3;have aa:=M5.hi 4;have ab:=M5.hi 5;go_upto_region 8 with fail;refine rL (gl [gEq (.agg #[(r.aA:Int),(r.aB:Int),.slice p5 r.cells c5,(r.free:Int),(r.step:Int),(r.aD:Int),(r.aF:Int),(r.aC:Int),(r.aG:Int),.slice q5 r.vs d5]),gEq ah,gEq (str t)]) 3 5 [(0,some 31),(1,some 32),(2,some 33)] ?steps ?fin
 case steps=>
  refine sC [] rfl (fun wi hx=> ?_) ?_
  ·intro K hK;have hX:Ext v5 wi:=xE;obtain⟨bl,bm,bo,bp,bq,br,bs,bt,bu,bv⟩:=((M5.bk 0).ext hX).ten;go_simp;exact hK _ _ ⟨.agg #[(r.aA:Int),(r.aB:Int),.slice p5 r.cells c5,(r.free:Int),(r.step:Int),(r.aD:Int),(r.aF:Int),(r.aC:Int),(r.aG:Int),.slice q5 r.vs d5],rfl,rfl,Ext.refl _⟩
  refine sS0 [] ?_;refine sC [(1,some 32)] rfl (fun wi hx=> ?_) StepsL.nil
  ·intro v1 h1 K hK;obtain rfl:=h1;go_simp;refine Z (HN _ (M5.ext.trans hx.of_drew)) fun w5 az=>?_
   go_simp;exact hK _ _ ⟨str t,rfl,rfl,az⟩
 case fin=>
  intro wi hx v0 h0 v1 h1 v2 h2;subst h0 h1 h2;have ak:=hx.of_drew;obtain⟨w8,rfl⟩: ∃z,z=wi:=⟨_,rfl⟩
  have M6:=(M5.adv ak)
  clear hx ak M5 x y aa ab;have ad:=M6.hi 0;have ae:=M6.hi 3;have af:=M6.hi 4;have ag:=M6.hi 5;obtain⟨f0,an,f1,ao,f2,ap,f3,aq,f4,ar,f5,au,f6,av,f7,aw,f8,ax,f9,ay⟩:=(M6.bk 4).tenf;try go_frame
  refine wpAny_ready (rs:= [3]) (by kernel_rfl) (by simp) ?_;refine AllReady.cons rfl (fun K hK=> ?_) AllReady.nil;go_simp;refine hK _ _ ?_;clear hK K f0 an f1 ao f2 ap f3 aq f4 ar f5 au f6 av f7 aw f8 ax f9 ay ad ae af ag;have M7:=(M6.put10 (i:=4) rfl (I r.aA) (I r.aB) (.slice p5 r.cells c5) (I r.free) (I r.step) (I r.aD) (I r.aF) (I r.aC) (I r.aG) (.slice q5 r.vs d5))
  generalize aj:World.setCell _ _ _=v8;rw[aj]at M7;clear aj M6;refine wpAny_ready (rs:= [4]) (by kernel_rfl) (by simp) ?_;refine AllReady.cons rfl (fun K hK=> ?_) AllReady.nil;go_simp;refine hK _ _ ?_;clear hK K;refine wpAny_done (by kernel_rfl) ?_ _;try go_frame
  have bg:=M7.hi 0;have bh:=M7.hi 3;have bi:=M7.hi 4;have bj:=M7.hi 5;obtain⟨y0,y1,y2,y3,y4,y5,y6,y7,y8,y9⟩:=(M7.bk 4).ten;go_wp2;exact bodyPost_ret (v:= .tuple #[.agg #[r.aA,r.aB,.slice p5 r.cells c5,r.free,r.step,r.aD,r.aF,r.aC,r.aG,.slice q5 r.vs d5],str t]) (by simp[results,results8,go_sem, *]) rfl (show dO r t w _ _ from⟨_,_,_,_,rfl,(M7.ow 1),(M7.ow 2),M7.ext⟩)
theorem aPo (h r:aL)(p:OA)(cap:Nat)(q:OA)(c2:Nat)(l t:List UInt8)(a0 a1 a2 aw:Int)(w:World)(b1:(l== [101,110,100])=true)
  (HV:xB 31 #[.agg #[h.aA,h.aB,.slice p h.cells cap,h.free,h.step,h.aD,h.aF,h.aC,h.aG,.slice q h.vs c2]] w true)
  (HD:xC 32 #[str l] w fun w' e w''=>e= .returned (.tuple #[.agg #[(),(),()],.bool false])∧Ext w' w'')
  (HE:xC 35 #[.agg #[h.aA,h.aB,.slice p h.cells cap,h.free,h.step,h.aD,h.aF,h.aC,h.aG,.slice q h.vs c2]] w fun w' e w''=> ∃pa ca qa da,e= .returned (.agg #[r.aA,r.aB,.slice pa r.cells ca,r.free,r.step,r.aD,r.aF,r.aC,r.aG,.slice qa r.vs da])∧w''.ownsRow w' TI 1 (.slice pa r.cells ca) r.cells.length (ivs r.cells)∧w''.ownsRow w' TV 4 (.slice qa r.vs da) r.vs.length (r.vs.flatMap aE)∧Ext w' w''):
  U 8 #[.agg #[h.aA,h.aB,.slice p h.cells cap,h.free,h.step,h.aD,h.aF,h.aC,h.aG,.slice q h.vs c2],str l] w (dO r [111,107] w):=by
 go_enter func8,ntmps8;go_wp2_with fail;refine Z (HV _ (((Mem.start w).c0 aK #[h.aA,h.aB,.slice p h.cells cap,h.free,h.step,h.aD,h.aF,h.aC,h.aG,.slice q h.vs c2]).c1 aK zT).ext) fun w1 x=>?_
 have M1:=((((Mem.start w).c0 aK #[h.aA,h.aB,.slice p h.cells cap,h.free,h.step,h.aD,h.aF,h.aC,h.aG,.slice q h.vs c2]).c1 aK zT).adv x)
 have c:=M1.hi 0;have d:=M1.hi 1;clear x HV;go_wp2_with fail;refine Z (HD _ M1.ext) fun w2 y=>?_
 have M2:=(M1.adv y)
 clear M1 c d y HD;have f:=M2.hi 0;have g:=M2.hi 1;go_upto_region 4 with fail;obtain⟨XD,b⟩: ∃a,a=w2.heap.size:=⟨_,rfl⟩
 rw[←b];have M3:=(M2.blkNew TDd #[(),(),()] XD b.symm)
 generalize World.alloc _ _=v1 at M3⊢;clear M2 f g b;have j:=M3.hi 0;have k:=M3.hi 1;have m:=M3.hi 2;obtain⟨ak,al,am,an,ao,ap,aq,ar,au,av⟩:=(M3.bk 2).ten;go_wp2_with fail;clear ak al am an ao ap aq ar au av;refine(HE _ M3.ext).mono ?_;rintro e w5 ⟨p5,c5,q5,d5,rfl,ho,hq,hx⟩;have M4:=(M3.own2 hx ho hq (aRp _) (by decide))
 clear M3 j k m hx ho hq HE;have n:=M4.hi 2;have o:=M4.hi 3;have s:=M4.hi 4;obtain⟨f0,z,f1,aa,f2,ab,f3,ad,f4,ae,f5,af,f6,ag,f7,ah,f8,ai,f9,aj⟩:=(M4.bk 3).tenf;go_wp2;clear f0 z f1 aa f2 ab f3 ad f4 ae f5 af f6 ag f7 ah f8 ai f9 aj n o s;have M5:=(M4.put10 (i:=3) rfl (I r.aA) (I r.aB) (.slice p5 r.cells c5) (I r.free) (I r.step) (I r.aD) (I r.aF) (I r.aC) (I r.aG) (.slice q5 r.vs d5))
 generalize u:World.setCell _ _ _=wz;rw[u]at M5;clear u M4;obtain⟨y0,y1,y2,y3,y4,y5,y6,y7,y8,y9⟩:=(M5.bk 3).ten;exact bodyPost_ret (v:= .tuple #[.agg #[r.aA,r.aB,.slice p5 r.cells c5,r.free,r.step,r.aD,r.aF,r.aC,r.aG,.slice q5 r.vs d5],str [111,107]]) (by simp[results,results8,go_sem, *]) rfl (show dO r [111,107] w _ _ from⟨_,_,_,_,rfl,(M5.ow 0),(M5.ow 1),M5.ext⟩)
theorem aPq (h r:aL)(p:OA)(cap:Nat)(q:OA)(c2:Nat)(l t:List UInt8)(a0 a1 a2 bl:Int)(w:World)(b1:(l== [101,110,100])=false)
  (HV:xB 31 #[.agg #[h.aA,h.aB,.slice p h.cells cap,h.free,h.step,h.aD,h.aF,h.aC,h.aG,.slice q h.vs c2]] w true)
  (HD:xC 32 #[str l] w fun w' e w''=>e= .returned (.tuple #[.agg #[(),(),()],.bool false])∧Ext w' w'')
  (aq:Hid (∀B w',B≤w'.heap.size→Ext w w'→U 36 #[.agg #[h.aA,h.aB,.slice p h.cells cap,h.free,h.step,h.aD,h.aF,h.aC,h.aG,.slice q h.vs c2]] w' fun e w''=> ∃pa ca qa da,e= .returned (.agg #[r.aA,r.aB,.slice pa r.cells ca,r.free,r.step,r.aD,r.aF,r.aC,r.aG,.slice qa r.vs da])∧w''.ownsRow B TI 1 (.slice pa r.cells ca) r.cells.length (ivs r.cells)∧w''.ownsRow B TV 4 (.slice qa r.vs da) r.vs.length (r.vs.flatMap aE)∧Ext w' w''))
  (HA:xC 37 #[.agg #[h.aA,h.aB,.slice p h.cells cap,h.free,h.step,h.aD,h.aF,h.aC,h.aG,.slice q h.vs c2],str l] w fun w' e w''=>e= .returned (str t)∧Ext w' w''):
  U 8 #[.agg #[h.aA,h.aB,.slice p h.cells cap,h.free,h.step,h.aD,h.aF,h.aC,h.aG,.slice q h.vs c2],str l] w (dO r t w):=by
 go_enter func8,ntmps8;go_wp2_with fail;refine Z (HV _ (((Mem.start w).c0 aK #[h.aA,h.aB,.slice p h.cells cap,h.free,h.step,h.aD,h.aF,h.aC,h.aG,.slice q h.vs c2]).c1 aK zT).ext) fun w1 aj=>?_
 have M1:=((((Mem.start w).c0 aK #[h.aA,h.aB,.slice p h.cells cap,h.free,h.step,h.aD,h.aF,h.aC,h.aG,.slice q h.vs c2]).c1 aK zT).adv aj)
 have o:=M1.hi 0;have s:=M1.hi 1;clear aj HV;go_wp2_with fail;refine Z (HD _ M1.ext) fun w2 ak=>?_
 have M2:=(M1.adv ak)
 clear M1 o s ak HD;have u:=M2.hi 0;have x:=M2.hi 1;go_upto_region 4 with fail;obtain⟨XD,m⟩: ∃a,a=w2.heap.size:=⟨_,rfl⟩
 rw[←m];have M3:=(M2.blkNew TDd #[(),(),()] XD m.symm)
 generalize World.alloc _ _=v1 at M3⊢;clear M2 u x m;have y:=M3.hi 0;have aa:=M3.hi 1;have ab:=M3.hi 2;go_upto_region 11 with fail;refine rL (gl [gEq (.agg #[(h.aA:Int),(h.aB:Int),.slice p h.cells cap,(h.free:Int),(h.step:Int),(h.aD:Int),(h.aF:Int),(h.aC:Int),(h.aG:Int),.slice q h.vs c2]),(fun v w'=> ∃p c q d,v= .agg #[r.aA,r.aB,.slice p r.cells c,r.free,r.step,r.aD,r.aF,r.aC,r.aG,.slice q r.vs d]∧w'.ownsRow v1 TI 1 (.slice p r.cells c) r.cells.length (ivs r.cells)∧w'.ownsRow v1 TV 4 (.slice q r.vs d) r.vs.length (r.vs.flatMap aE)),gEq (.agg #[(h.aA:Int),(h.aB:Int),.slice p h.cells cap,(h.free:Int),(h.step:Int),(h.aD:Int),(h.aF:Int),(h.aC:Int),(h.aG:Int),.slice q h.vs c2]),gEq (str l),gEq (str t)]) 5 7 [(0,some 38),(1,some 39),(2,some 40),(3,some 41),(4,some 42)] ?steps ?fin (hG:=(lH (bC (bH _) (bC (fun v w w' ⟨p,c,q,d,e,o1,o2⟩ hx=>⟨p,c,q,d,e,aZ o1 hx,aZ o2 hx⟩) (bC (bH _) (bC (bH _) (bC (bH _) (oG))))))))
 case steps=>
  refine sC [] rfl (fun wi hx=> ?_) ?_
  ·intro K hK;have hX:Ext v1 wi:=xE;obtain⟨au,av,aw,ax,ay,az,a3,a4,a5,a6⟩:=((M3.bk 2).ext hX).ten;go_simp;exact hK _ _ ⟨.agg #[(h.aA:Int),(h.aB:Int),.slice p h.cells cap,(h.free:Int),(h.step:Int),(h.aD:Int),(h.aF:Int),(h.aC:Int),(h.aG:Int),.slice q h.vs c2],rfl,rfl,Ext.refl _⟩
  refine sC [(0,some 38)] rfl (fun wi hx=> ?_) ?_
  ·intro v0 h0 K hK;obtain rfl:=h0;go_simp;refine(aq v1 _ hx.sz (M3.ext.trans hx.of_drew)).mono ?_;rintro e w5 ⟨bi,ar,bj,a7,rfl,o5,v5,n⟩;go_simp;exact hK _ _ ⟨_,rfl,⟨bi,ar,bj,a7,rfl,o5,v5⟩,n⟩
  refine sC [] rfl (fun wi hx=> ?_) ?_
  ·intro K hK;have hX:Ext v1 wi:=xE;obtain⟨au,av,aw,ax,ay,az,a3,a4,a5,a6⟩:=((M3.bk 2).ext hX).ten;go_simp;exact hK _ _ ⟨.agg #[(h.aA:Int),(h.aB:Int),.slice p h.cells cap,(h.free:Int),(h.step:Int),(h.aD:Int),(h.aF:Int),(h.aC:Int),(h.aG:Int),.slice q h.vs c2],rfl,rfl,Ext.refl _⟩
  refine sS0 [] ?_;refine sC [(2,some 40),(3,some 41)] rfl (fun wi hx=> ?_) StepsL.nil
  ·intro v2 h2 v3 h3 K hK;subst h2 h3;go_simp;refine Z (HA _ (M3.ext.trans hx.of_drew)) fun w5 n=>?_
   go_simp;exact hK _ _ ⟨str t,rfl,rfl,n⟩
 case fin=>
  intro wi hx v0 h0 v1 h1 v2 h2 v3 h3 v4 h4;obtain rfl:=h0;obtain⟨al,ad,am,ae,rfl,af,ag⟩:=h1;subst h2 h3 h4;have ai:=hx.of_drew;obtain⟨w8,rfl⟩: ∃z,z=wi:=⟨_,rfl⟩
  have f:=(M3.own2 ai af ag (aRp _) (by decide))
  clear hx ai af ag M3 y aa ab;have g:=f.hi 2;have j:=f.hi 3;have k:=f.hi 4;obtain⟨f0,a8,f1,a9,f2,ba,f3,bb,f4,bc,f5,bd,f6,be,f7,bf,f8,bg,f9,bh⟩:=(f.bk 3).tenf;try go_frame
  refine wpAny_ready (rs:= [5]) (by kernel_rfl) (by simp) ?_;refine AllReady.cons rfl (fun K hK=> ?_) AllReady.nil;go_simp;refine hK _ _ ?_;clear hK K f0 a8 f1 a9 f2 ba f3 bb f4 bc f5 bd f6 be f7 bf f8 bg f9 bh g j k;have b:=(f.put10 (i:=3) rfl (I r.aA) (I r.aB) (.slice al r.cells ad) (I r.free) (I r.step) (I r.aD) (I r.aF) (I r.aC) (I r.aG) (.slice am r.vs ae))
  generalize ah:World.setCell _ _ _=v8;rw[ah]at b;clear ah f;refine wpAny_ready (rs:= [6]) (by kernel_rfl) (by simp) ?_;refine AllReady.cons rfl (fun K hK=> ?_) AllReady.nil;go_simp;refine hK _ _ ?_;clear hK K;refine wpAny_done (by kernel_rfl) ?_ _;try go_frame
  have an:=b.hi 2;have ao:=b.hi 3;have ap:=b.hi 4;obtain⟨y0,y1,y2,y3,y4,y5,y6,y7,y8,y9⟩:=(b.bk 3).ten;go_wp2;exact bodyPost_ret (v:= .tuple #[.agg #[r.aA,r.aB,.slice al r.cells ad,r.free,r.step,r.aD,r.aF,r.aC,r.aG,.slice am r.vs ae],str t]) (by simp[results,results8,go_sem, *]) rfl (show dO r t w _ _ from⟨_,_,_,_,rfl,(b.ow 0),(b.ow 1),b.ext⟩)
theorem aNd (h:aL)(p:OA)(n cap:Nat)(q:OA)(m c2:Nat)(l:List UInt8)(w:World)(hi:IsHouse w h p n cap q m c2)(hl:l.length≤1048576)(c:Env w)(hE:BitTab w):
  U 8 #[bM h p n cap q m c2,str l] w (dO (jF h l).1 (jF h l).2 w):=by
 have i:=hi.clen;have j:=hi.vlen;subst i j;have HV:=xQ fun(w':World) (hx:Ext w w')=>iF h p _ cap q _ c2 w' (hi.ext hx)
 unfold jF;by_cases hok:aR h=true
 ·rw[if_pos hok];rw[hok]at HV;have hs:=dE hok;have HD:=xQ fun(w':World) (hx:Ext w w')=>aC6 l w' (by omega) (c.ext hx)
  unfold lA at HD;cases hd:bY l with
  |some d=>
   obtain⟨k,a,b⟩:=d;rw[hd]at HD;dsimp only;have HO:=xQ fun(w':World) (hx:Ext w w')=>aPl h k a b p _ cap q _ c2 w' (hi.ext hx) (hE.ext hx)
   unfold aLf at HO;have f:=aIn hok k a b;generalize doR h k a b=x at HO f⊢;obtain⟨r,g,ok⟩:=x;dsimp only at HO f⊢;cases ok with
   |false=>exact aQy h r p cap q c2 l [] k a b g w HV HD HO
   |true=>have f:=f rfl;exact aPn h r p cap q c2 l _ k a b g w HV HD HO (fun w' hx=>oO _ w' f.1 (by omega) (c.ext hx))
  |none=>
   rw[hd]at HD;dsimp only;by_cases he:l= [101,110,100]
   ·rw[if_pos he];have HE:=xQ fun(w':World) (hx:Ext w w')=>aC9 h p _ cap q _ c2 w' (by omega) (hi.ext hx) (hE.ext hx)
    unfold RetHouse at HE;exact aPo h (aHu h) p cap q c2 l [] 0 0 0 0 w (by simp[he]) HV HD HE
   rw[if_neg he];refine aPq h h p cap q c2 l (aFe h l) 0 0 0 0 w (by simp[he]) HV HD (fun B w' hB hx=> ?_) (fun w' hx=>aPm h hok p _ cap q _ c2 l w' (hi.ext hx) (c.ext hx) hl);have:=kP h p _ cap q _ c2 w' (by omega) (by omega) (hi.ext hx);unfold RetHouse at this;refine this.mono ?_;rintro e s ⟨pa,ca,qa,da,rfl,o1,o2,o⟩;exact⟨pa,ca,qa,da,rfl,dW o1 hB,dW o2 hB,o⟩
 rw[if_neg hok];rw[show aR h=false by simpa using hok]at HV;exact aPp h h p cap q c2 l [] 0 0 0 0 w HV
end Go.Proofs.YtbgkcehffiogcacGreatDoor
