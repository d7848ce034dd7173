/-
  Texts of this proof, packed (@packed).
-/
import Derived.Test.YthfmmibomhhmpaaGreatDoorY37
namespace Go.Proofs.YthfmmibomhhmpaaGreatDoor
open Go.RowKit Go.Proofs.Tryz
set_option linter.unusedSimpArgs false
set_option linter.unusedVariables false
set_option maxHeartbeats 8000000
set_option maxRecDepth 100000
theorem aK0 {h:aL}(c:aP h=true)(k a b:Int):(doR h k a b).2.2=true→0≤(doR h k a b).2.1∧(doR h k a b).2.1≤10000:=by
 unfold doR;rw[if_pos c];cases hd:bY h k a b with
 |none=>intro h;simp at h
 |some x=>
  obtain⟨g,n⟩:=x;intro _;dsimp only;obtain⟨q1,q2,q3,q4,q5⟩:=(dF h).1 c;unfold bY at hd;split at hd
  ·split at hd
   ·rename_i h0;obtain⟨_,_,_,_,_,_,h5⟩:=oN q1 h0;injection hd with hd;simp only[aTu]at hd;omega
   cases hd
  split at hd
  ·obtain⟨v,_,h1,h2,h3,h4,_⟩:=aJm c hd;omega
  split at hd
  ·split at hd
   ·rename_i h0;obtain⟨_,_,_,_,_,h5⟩:=lD q1 h0.2;injection hd with hd;simp only[aTu]at hd;omega
   cases hd
  split at hd
  ·split at hd
   ·injection hd with hd;simp only[aTu]at hd;omega
   cases hd
  split at hd
  ·split at hd
   ·injection hd with hd;simp only[aTu]at hd;omega
   cases hd
  cases hd
def eM (r:aL)(t:List UInt8)(w:World)(e:Ending)(w':World):Prop:=
 ∃p c q d,e= .returned (.tuple #[bG r p r.cells.length c q r.vs.length d,str t])∧w'.ownsRow w.heap.size TI 1 (.slice p r.cells.length c) r.cells.length (ivs r.cells)∧w'.ownsRow w.heap.size TV 4 (.slice q r.vs.length d) r.vs.length (r.vs.flatMap aE)∧Ext w w'
theorem aQj (h r:aL)(p:OA)(a:Nat)(q:OA)(c2:Nat)(l t:List UInt8)(a0 a1 a2 g:Int)(w:World)
  (HV:xB 9 #[.agg (aVs h p a q c2)] w false):
  U 22 #[.agg #[h.aA,h.aB,.slice p h.cells a,h.free,h.step,h.aD,h.aF,h.aC,h.aG,.slice q h.vs c2],str l] w (eM hZ [] w):=by
 go_enter func22,ntmps22;go_wp2_with fail;refine Z (HV _ (((Mem.start w).c0 aK (aVs h p a q c2)).c1 aK zT).ext) fun w1 f=>?_
 have M1:=((((Mem.start w).c0 aK (aVs h p a q c2)).c1 aK zT).adv f)
 have b:=M1.hi 0;have c:=M1.hi 1;clear f HV;have f_:=(M1.bk 0).tenf;go_wp2;clear f_ b c;have M2:=(M1.put10 (i:=0) rfl (I 0) (I 0) (.slice none 0 0) (I 0) (I 0) (I 0) (I 0) (I 0) (I 0) (.slice none 0 0))
 generalize d:World.setCell _ _ _=wz;rw[d]at M2;clear d M1;have y_:=(M2.bk 0).ten;exact bodyPost_ret (v:= .tuple #[.agg #[(),(),((),()),(),(),(),(),(),(),((),())],str []]) (by simp[results,results22,go_sem, *]) rfl (show eM hZ [] w _ _ from⟨none,0,none,0,rfl,aTe _ _ _ _,aTe _ _ _ _,M2.ext⟩)
theorem aNy (h r:aL)(p:OA)(b:Nat)(q:OA)(c2:Nat)(l t:List UInt8)(a0 a1 a2 al:Int)(w:World)(ok:Bool)(aq:ok=false→ [110,111]=t)
  (HV:xB 9 #[.agg (aVs h p b q c2)] w true)
  (HD:xC 49 #[str l] w fun w' e w''=>e= .returned (.tuple #[.agg #[a0,a1,a2],.bool true])∧Ext w' w'')
  (am:xC 38 #[.agg (aVs h p b q c2),.agg #[a0,a1,a2]] w fun w' e w''=> ∃pa ca qa da,e= .returned (.tuple #[.agg #[r.aA,r.aB,.slice pa r.cells ca,r.free,r.step,r.aD,r.aF,r.aC,r.aG,.slice qa r.vs da],al,.bool ok])∧w''.ownsRow w' TI 1 (.slice pa r.cells ca) r.cells.length (ivs r.cells)∧w''.ownsRow w' TV 4 (.slice qa r.vs da) r.vs.length (r.vs.flatMap aE)∧Ext w' w'')
  (HN:Hid (ok=true→ ∀w',Ext w w'→U 40 #[al] w' (O (str t) w'))):
  U 22 #[.agg #[h.aA,h.aB,.slice p h.cells b,h.free,h.step,h.aD,h.aF,h.aC,h.aG,.slice q h.vs c2],str l] w (eM r t w):=by
 go_enter func22,ntmps22;go_wp2_with fail;refine Z (HV _ (((Mem.start w).c0 aK (aVs h p b q c2)).c1 aK zT).ext) fun w1 ao=>?_
 have M1:=((((Mem.start w).c0 aK (aVs h p b q c2)).c1 aK zT).adv ao)
 have s:=M1.hi 0;have u:=M1.hi 1;clear ao HV;go_wp2_with fail;refine Z (HD _ M1.ext) fun w2 ap=>?_
 have M2:=(M1.adv ap)
 clear M1 s u ap HD;have x:=M2.hi 0;have y:=M2.hi 1;go_upto_region 4 with fail;obtain⟨XD,n⟩: ∃a,a=w2.heap.size:=⟨_,rfl⟩
 rw[←n];have M3:=(M2.blkNew TDd #[a0,a1,a2] XD n.symm)
 generalize World.alloc _ _=v1 at M3⊢;clear M2 x y n;have aa:=M3.hi 0;have ab:=M3.hi 1;have ad:=M3.hi 2;have au:=(M3.bk 2).ten;have av:=(M3.bk 0).tri;go_wp2_with fail;clear au av;refine(am _ M3.ext).mono ?_;rintro e w5 ⟨p5,c5,q5,d5,rfl,ho,hq,hx⟩;have M4:=(M3.own2 hx ho hq (aT5 _) (by decide))
 clear M3 aa ab ad hx ho hq am;have ae:=M4.hi 2;have af:=M4.hi 3;have ag:=M4.hi 4;go_upto_region 6 with fail;obtain⟨XR,o⟩: ∃a,a=w5.heap.size:=⟨_,rfl⟩
 rw[←o];have M5:=(M4.blkNew aK (aVs r p5 c5 q5 d5) XR o.symm)
 generalize World.alloc _ _=v5 at M5⊢;clear M4 ae af ag o;have d:=M5.hi 0;have f:=M5.hi 3;have g:=M5.hi 4;have j:=M5.hi 5;cases ok with
 |false=>
  obtain⟨v0,v1,v2,v3,v4,v5,v6,v7,v8,v9⟩:=(M5.bk 0).ten;have f_:=(M5.bk 4).tenf;obtain⟨k,m⟩:=M5.nq 0 4;obtain rfl:=aq rfl;go_wp2;clear v0 v1 v2 v3 v4 v5 v6 v7 v8 v9 f_ k m d f g j;have M6:=(M5.put10 (i:=4) rfl (I r.aA) (I r.aB) (.slice p5 r.cells c5) (I r.free) (I r.step) (I r.aD) (I r.aF) (I r.aC) (I r.aG) (.slice q5 r.vs d5))
  generalize c:World.setCell _ _ _=wz;rw[c]at M6;clear c M5;have y_:=(M6.bk 4).ten;exact bodyPost_ret (v:= .tuple #[.agg #[r.aA,r.aB,.slice p5 r.cells c5,r.free,r.step,r.aD,r.aF,r.aC,r.aG,.slice q5 r.vs d5],str [110,111]]) (by simp[results,results22,go_sem, *]) rfl (show eM r [110,111] w _ _ from⟨_,_,_,_,rfl,(M6.ow 1),(M6.ow 2),M6.ext⟩)
 |true=>
  replace HN:=xQ (HN.out rfl);go_upto_region 8 with fail;refine rL (gl [gEq (.agg #[(r.aA:Int),(r.aB:Int),.slice p5 r.cells c5,(r.free:Int),(r.step:Int),(r.aD:Int),(r.aF:Int),(r.aC:Int),(r.aG:Int),.slice q5 r.vs d5]),gEq al,gEq (str t)]) 3 5 [(0,some 32),(1,some 33),(2,some 34)] ?steps ?fin
  case steps=>
   refine sC [] rfl (fun wi hx=> ?_) ?_
   ·intro K hK;have hX:Ext v5 wi:=xE;have a3:=((M5.bk 0).ext hX).ten;go_simp;exact hK _ _ ⟨.agg #[(r.aA:Int),(r.aB:Int),.slice p5 r.cells c5,(r.free:Int),(r.step:Int),(r.aD:Int),(r.aF:Int),(r.aC:Int),(r.aG:Int),.slice q5 r.vs d5],rfl,rfl,Ext.refl _⟩
   refine sS0 [] ?_;refine sC [(1,some 33)] rfl (fun wi hx=> ?_) StepsL.nil
   ·intro v1 h1 K hK;obtain rfl:=h1;go_simp;refine Z (HN _ (M5.ext.trans hx.of_drew)) fun w5 ar=>?_
    go_simp;exact hK _ _ ⟨str t,rfl,rfl,ar⟩
  case fin=>
   intro wi hx v0 h0 v1 h1 v2 h2;subst h0 h1 h2;have an:=hx.of_drew;obtain⟨w8,rfl⟩: ∃z,z=wi:=⟨_,rfl⟩
   have M6:=(M5.adv an)
   clear hx an M5 d f g j;have ah:=M6.hi 0;have ai:=M6.hi 3;have aj:=M6.hi 4;have ak:=M6.hi 5;have f_:=(M6.bk 4).tenf;try go_frame
   refine wpAny_ready (rs:= [3]) (by kernel_rfl) (by simp) ?_;refine AllReady.cons rfl (fun K hK=> ?_) AllReady.nil;go_simp;refine hK _ _ ?_;clear hK K f_ ah ai aj ak;have M7:=(M6.put10 (i:=4) rfl (I r.aA) (I r.aB) (.slice p5 r.cells c5) (I r.free) (I r.step) (I r.aD) (I r.aF) (I r.aC) (I r.aG) (.slice q5 r.vs d5))
   generalize c:World.setCell _ _ _=v8;rw[c]at M7;clear c M6;refine wpAny_ready (rs:= [4]) (by kernel_rfl) (by simp) ?_;refine AllReady.cons rfl (fun K hK=> ?_) AllReady.nil;go_simp;refine hK _ _ ?_;clear hK K;refine wpAny_done (by kernel_rfl) ?_ _;try go_frame
   have aw:=M7.hi 0;have ax:=M7.hi 3;have ay:=M7.hi 4;have az:=M7.hi 5;have y_:=(M7.bk 4).ten;go_wp2;exact bodyPost_ret (v:= .tuple #[.agg #[r.aA,r.aB,.slice p5 r.cells c5,r.free,r.step,r.aD,r.aF,r.aC,r.aG,.slice q5 r.vs d5],str t]) (by simp[results,results22,go_sem, *]) rfl (show eM r t w _ _ from⟨_,_,_,_,rfl,(M7.ow 1),(M7.ow 2),M7.ext⟩)
theorem aB8 (h r:aL)(p:OA)(b:Nat)(q:OA)(c2:Nat)(l t:List UInt8)(a0 a1 a2 a7:Int)(w:World)(en:Bool)(b1:(l== [101,110,100])=en)(a3:en=true→ [111,107]=t)
  (HV:xB 9 #[.agg (aVs h p b q c2)] w true)
  (HD:xC 49 #[str l] w fun w' e w''=>e= .returned (.tuple #[.agg #[(),(),()],.bool false])∧Ext w' w'')
  (HE:Hid (en=true→ ∀w',Ext w w'→U 50 #[.agg (aVs h p b q c2)] w' fun e w''=> ∃pa ca qa da,e= .returned (.agg #[r.aA,r.aB,.slice pa r.cells ca,r.free,r.step,r.aD,r.aF,r.aC,r.aG,.slice qa r.vs da])∧w''.ownsRow w' TI 1 (.slice pa r.cells ca) r.cells.length (ivs r.cells)∧w''.ownsRow w' TV 4 (.slice qa r.vs da) r.vs.length (r.vs.flatMap aE)∧Ext w' w''))
  (x:Hid (en=false→ ∀B w',B≤w'.heap.size→Ext w w'→U 21 #[.agg (aVs h p b q c2)] w' fun e w''=> ∃pa ca qa da,e= .returned (.agg #[r.aA,r.aB,.slice pa r.cells ca,r.free,r.step,r.aD,r.aF,r.aC,r.aG,.slice qa r.vs da])∧w''.ownsRow B TI 1 (.slice pa r.cells ca) r.cells.length (ivs r.cells)∧w''.ownsRow B TV 4 (.slice qa r.vs da) r.vs.length (r.vs.flatMap aE)∧Ext w' w''))
  (HA:Hid (en=false→ ∀w',Ext w w'→U 51 #[.agg (aVs h p b q c2),str l] w' (O (str t) w'))):
  U 22 #[.agg #[h.aA,h.aB,.slice p h.cells b,h.free,h.step,h.aD,h.aF,h.aC,h.aG,.slice q h.vs c2],str l] w (eM r t w):=by
 go_enter func22,ntmps22;go_wp2_with fail;refine Z (HV _ (((Mem.start w).c0 aK (aVs h p b q c2)).c1 aK zT).ext) fun w1 ao=>?_
 have M1:=((((Mem.start w).c0 aK (aVs h p b q c2)).c1 aK zT).adv ao)
 have ab:=M1.hi 0;have ad:=M1.hi 1;clear ao HV;go_wp2_with fail;refine Z (HD _ M1.ext) fun w2 ap=>?_
 have M2:=(M1.adv ap)
 clear M1 ab ad ap HD;have ae:=M2.hi 0;have af:=M2.hi 1;go_upto_region 4 with fail;obtain⟨XD,y⟩: ∃a,a=w2.heap.size:=⟨_,rfl⟩
 rw[←y];have M3:=(M2.blkNew TDd #[(),(),()] XD y.symm)
 generalize World.alloc _ _=v1 at M3⊢;clear M2 ae af y;have k:=M3.hi 0;have m:=M3.hi 1;have n:=M3.hi 2;cases en with
 |true=>
  obtain rfl:=a3 rfl;replace HE:=xQ (HE.out rfl);have a4:=(M3.bk 2).ten;go_wp2_with fail;clear a4;refine(HE _ M3.ext).mono ?_;rintro e w5 ⟨p5,c5,q5,d5,rfl,ho,hq,hx⟩;have M4:=(M3.own2 hx ho hq (aT5 _) (by decide))
  clear M3 k m n hx ho hq HE;have ag:=M4.hi 2;have ah:=M4.hi 3;have ai:=M4.hi 4;have f_:=(M4.bk 3).tenf;go_wp2;clear f_ ag ah ai;have M5:=(M4.put10 (i:=3) rfl (I r.aA) (I r.aB) (.slice p5 r.cells c5) (I r.free) (I r.step) (I r.aD) (I r.aF) (I r.aC) (I r.aG) (.slice q5 r.vs d5))
  generalize j:World.setCell _ _ _=wz;rw[j]at M5;clear j M4;have y_:=(M5.bk 3).ten;exact bodyPost_ret (v:= .tuple #[.agg #[r.aA,r.aB,.slice p5 r.cells c5,r.free,r.step,r.aD,r.aF,r.aC,r.aG,.slice q5 r.vs d5],str [111,107]]) (by simp[results,results22,go_sem, *]) rfl (show eM r [111,107] w _ _ from⟨_,_,_,_,rfl,(M5.ow 0),(M5.ow 1),M5.ext⟩)
 |false=>
  replace x:=xQ (x.out rfl);replace HA:=xQ (HA.out rfl);go_upto_region 11 with fail;refine rL (gl [gEq (.agg #[(h.aA:Int),(h.aB:Int),.slice p h.cells b,(h.free:Int),(h.step:Int),(h.aD:Int),(h.aF:Int),(h.aC:Int),(h.aG:Int),.slice q h.vs c2]),(fun v w'=> ∃p c q d,v= .agg #[r.aA,r.aB,.slice p r.cells c,r.free,r.step,r.aD,r.aF,r.aC,r.aG,.slice q r.vs d]∧w'.ownsRow v1 TI 1 (.slice p r.cells c) r.cells.length (ivs r.cells)∧w'.ownsRow v1 TV 4 (.slice q r.vs d) r.vs.length (r.vs.flatMap aE)),gEq (.agg #[(h.aA:Int),(h.aB:Int),.slice p h.cells b,(h.free:Int),(h.step:Int),(h.aD:Int),(h.aF:Int),(h.aC:Int),(h.aG:Int),.slice q h.vs c2]),gEq (str l),gEq (str t)]) 5 7 [(0,some 40),(1,some 41),(2,some 42),(3,some 43),(4,some 44)] ?steps ?fin (hG:=(kK (aX (bB _) (aX (fun v w w' ⟨p,c,q,d,e,o1,o2⟩ hx=>⟨p,c,q,d,e,aW o1 hx,aW o2 hx⟩) (aX (bB _) (aX (bB _) (aX (bB _) (mU))))))))
  case steps=>
   refine sC [] rfl (fun wi hx=> ?_) ?_
   ·intro K hK;have hX:Ext v1 wi:=xE;have ay:=((M3.bk 2).ext hX).ten;go_simp;exact hK _ _ ⟨.agg #[(h.aA:Int),(h.aB:Int),.slice p h.cells b,(h.free:Int),(h.step:Int),(h.aD:Int),(h.aF:Int),(h.aC:Int),(h.aG:Int),.slice q h.vs c2],rfl,rfl,Ext.refl _⟩
   refine sC [(0,some 40)] rfl (fun wi hx=> ?_) ?_
   ·intro v0 h0 K hK;obtain rfl:=h0;go_simp;refine(x v1 _ hx.sz (M3.ext.trans hx.of_drew)).mono ?_;rintro e w5 ⟨a5,ax,a6,az,rfl,o5,v5,aa⟩;go_simp;exact hK _ _ ⟨_,rfl,⟨a5,ax,a6,az,rfl,o5,v5⟩,aa⟩
   refine sC [] rfl (fun wi hx=> ?_) ?_
   ·intro K hK;have hX:Ext v1 wi:=xE;have ay:=((M3.bk 2).ext hX).ten;go_simp;exact hK _ _ ⟨.agg #[(h.aA:Int),(h.aB:Int),.slice p h.cells b,(h.free:Int),(h.step:Int),(h.aD:Int),(h.aF:Int),(h.aC:Int),(h.aG:Int),.slice q h.vs c2],rfl,rfl,Ext.refl _⟩
   refine sS0 [] ?_;refine sC [(2,some 42),(3,some 43)] rfl (fun wi hx=> ?_) StepsL.nil
   ·intro v2 h2 v3 h3 K hK;subst h2 h3;go_simp;refine Z (HA _ (M3.ext.trans hx.of_drew)) fun w5 aa=>?_
    go_simp;exact hK _ _ ⟨str t,rfl,rfl,aa⟩
  case fin=>
   intro wi hx v0 h0 v1 h1 v2 h2 v3 h3 v4 h4;obtain rfl:=h0;obtain⟨aq,aj,ar,ak,rfl,al,am⟩:=h1;subst h2 h3 h4;have an:=hx.of_drew;obtain⟨w8,rfl⟩: ∃z,z=wi:=⟨_,rfl⟩
   have g:=(M3.own2 an al am (aT5 _) (by decide))
   clear hx an al am M3 k m n;have o:=g.hi 2;have s:=g.hi 3;have u:=g.hi 4;have f_:=(g.bk 3).tenf;try go_frame
   refine wpAny_ready (rs:= [5]) (by kernel_rfl) (by simp) ?_;refine AllReady.cons rfl (fun K hK=> ?_) AllReady.nil;go_simp;refine hK _ _ ?_;clear hK K f_ o s u;have f:=(g.put10 (i:=3) rfl (I r.aA) (I r.aB) (.slice aq r.cells aj) (I r.free) (I r.step) (I r.aD) (I r.aF) (I r.aC) (I r.aG) (.slice ar r.vs ak))
   generalize j:World.setCell _ _ _=v8;rw[j]at f;clear j g;refine wpAny_ready (rs:= [6]) (by kernel_rfl) (by simp) ?_;refine AllReady.cons rfl (fun K hK=> ?_) AllReady.nil;go_simp;refine hK _ _ ?_;clear hK K;refine wpAny_done (by kernel_rfl) ?_ _;try go_frame
   have au:=f.hi 2;have av:=f.hi 3;have aw:=f.hi 4;have y_:=(f.bk 3).ten;go_wp2;exact bodyPost_ret (v:= .tuple #[.agg #[r.aA,r.aB,.slice aq r.cells aj,r.free,r.step,r.aD,r.aF,r.aC,r.aG,.slice ar r.vs ak],str t]) (by simp[results,results22,go_sem, *]) rfl (show eM r t w _ _ from⟨_,_,_,_,rfl,(f.ow 0),(f.ow 1),f.ext⟩)
theorem aNh (h:aL)(p:OA)(n c:Nat)(q:OA)(m c2:Nat)(l:List UInt8)(w:World)(hi:IsHouse w h p n c q m c2)(hl:l.length≤1048576):
  U 22 #[bG h p n c q m c2,str l] w (eM (iF h l).1 (iF h l).2 w):=by
 have g:=hi.clen;have i:=hi.vlen;subst g i;have HV:=xQ fun(w':World) (hx:Ext w w')=>iA h p _ c q _ c2 w' (hi.ext hx)
 unfold iF;by_cases hok:aP h=true
 ·rw[if_pos hok];rw[hok]at HV;have hs:=fA hok;have HD:=xQ fun(w':World) (hx:Ext w w')=>aCd l w' (by omega)
  unfold lV at HD;cases hd:bQ l with
  |some d=>
   obtain⟨k,a,b⟩:=d;rw[hd]at HD;dsimp only;have HO:=xQ fun(w':World) (hx:Ext w w')=>aQd h k a b p _ c q _ c2 w' (hi.ext hx)
   unfold aMt at HO;have f:=aK0 hok k a b;generalize doR h k a b=x at HO f⊢;obtain⟨r,o,ok⟩:=x;dsimp only at HO f⊢;refine aNy h r p c q c2 l _ k a b o w ok ?_ HV HD HO ?_
   ·rintro rfl;rfl
   rintro rfl;have f:=f rfl;exact fun w' hx=>jS _ w' f.1 (by omega)
  |none=>
   rw[hd]at HD;dsimp only;by_cases he:l= [101,110,100]
   ·rw[if_pos he];refine aB8 h (uH h) p c q c2 l [111,107] 0 0 0 0 w true (by simp[he]) (fun _=>rfl) HV HD (fun _ w' hx=> ?_) (fun h0=>by cases h0) (fun h0=>by cases h0);have:=aCh h p _ c q _ c2 w' (by omega) (hi.ext hx);unfold RetHouse at this;exact this
   rw[if_neg he];refine aB8 h h p c q c2 l (aA0 h l) 0 0 0 0 w false (by simp[he]) (fun h0=>by cases h0) HV HD (fun h0=>by cases h0) (fun _ B w' hB hx=> ?_) (fun _ w' hx=>aQe h hok p _ c q _ c2 l w' (hi.ext hx) hl);have:=mQ h p _ c q _ c2 w' (by omega) (by omega) (hi.ext hx);unfold RetHouse at this;refine this.mono ?_;rintro e s ⟨pa,ca,qa,da,rfl,o1,o2,j⟩;exact⟨pa,ca,qa,da,rfl,cH o1 hB,cH o2 hB,j⟩
 rw[if_neg hok];rw[show aP h=false by simpa using hok]at HV;exact aQj h h p c q c2 l [] 0 0 0 0 w HV
theorem aR3 (h r:aL)(p:OA)(a:Nat)(q:OA)(c2:Nat)(l t:List UInt8)(a0 a1 a2 g:Int)(w:World)
  (HV:xB 19 #[.agg (aVs h p a q c2)] w false):
  U 12 #[.agg #[h.aA,h.aB,.slice p h.cells a,h.free,h.step,h.aD,h.aF,h.aC,h.aG,.slice q h.vs c2],str l] w (eM hZ [] w):=by
 go_enter func12,ntmps12;go_wp2_with fail;refine Z (HV _ (((Mem.start w).c0 aK (aVs h p a q c2)).c1 aK zT).ext) fun w1 f=>?_
 have M1:=((((Mem.start w).c0 aK (aVs h p a q c2)).c1 aK zT).adv f)
 have b:=M1.hi 0;have c:=M1.hi 1;clear f HV;have f_:=(M1.bk 0).tenf;go_wp2;clear f_ b c;have M2:=(M1.put10 (i:=0) rfl (I 0) (I 0) (.slice none 0 0) (I 0) (I 0) (I 0) (I 0) (I 0) (I 0) (.slice none 0 0))
 generalize d:World.setCell _ _ _=wz;rw[d]at M2;clear d M1;have y_:=(M2.bk 0).ten;exact bodyPost_ret (v:= .tuple #[.agg #[(),(),((),()),(),(),(),(),(),(),((),())],str []]) (by simp[results,results12,go_sem, *]) rfl (show eM hZ [] w _ _ from⟨none,0,none,0,rfl,aTe _ _ _ _,aTe _ _ _ _,M2.ext⟩)
theorem aP7 (h r:aL)(p:OA)(b:Nat)(q:OA)(c2:Nat)(l t:List UInt8)(a0 a1 a2 al:Int)(w:World)(ok:Bool)(aq:ok=false→ [110,111]=t)
  (HV:xB 19 #[.agg (aVs h p b q c2)] w true)
  (HD:xC 30 #[str l] w fun w' e w''=>e= .returned (.tuple #[.agg #[a0,a1,a2],.bool true])∧Ext w' w'')
  (am:xC 31 #[.agg (aVs h p b q c2),.agg #[a0,a1,a2]] w fun w' e w''=> ∃pa ca qa da,e= .returned (.tuple #[.agg #[r.aA,r.aB,.slice pa r.cells ca,r.free,r.step,r.aD,r.aF,r.aC,r.aG,.slice qa r.vs da],al,.bool ok])∧w''.ownsRow w' TI 1 (.slice pa r.cells ca) r.cells.length (ivs r.cells)∧w''.ownsRow w' TV 4 (.slice qa r.vs da) r.vs.length (r.vs.flatMap aE)∧Ext w' w'')
  (HN:Hid (ok=true→ ∀w',Ext w w'→U 32 #[al] w' (O (str t) w'))):
  U 12 #[.agg #[h.aA,h.aB,.slice p h.cells b,h.free,h.step,h.aD,h.aF,h.aC,h.aG,.slice q h.vs c2],str l] w (eM r t w):=by
 go_enter func12,ntmps12;go_wp2_with fail;refine Z (HV _ (((Mem.start w).c0 aK (aVs h p b q c2)).c1 aK zT).ext) fun w1 ao=>?_
 have M1:=((((Mem.start w).c0 aK (aVs h p b q c2)).c1 aK zT).adv ao)
 have s:=M1.hi 0;have u:=M1.hi 1;clear ao HV;go_wp2_with fail;refine Z (HD _ M1.ext) fun w2 ap=>?_
 have M2:=(M1.adv ap)
 clear M1 s u ap HD;have x:=M2.hi 0;have y:=M2.hi 1;go_upto_region 4 with fail;obtain⟨XD,n⟩: ∃a,a=w2.heap.size:=⟨_,rfl⟩
 rw[←n];have M3:=(M2.blkNew TDd #[a0,a1,a2] XD n.symm)
 generalize World.alloc _ _=v1 at M3⊢;clear M2 x y n;have aa:=M3.hi 0;have ab:=M3.hi 1;have ad:=M3.hi 2;have au:=(M3.bk 2).ten;have av:=(M3.bk 0).tri;go_wp2_with fail;clear au av;refine(am _ M3.ext).mono ?_;rintro e w5 ⟨p5,c5,q5,d5,rfl,ho,hq,hx⟩;have M4:=(M3.own2 hx ho hq (aT5 _) (by decide))
 clear M3 aa ab ad hx ho hq am;have ae:=M4.hi 2;have af:=M4.hi 3;have ag:=M4.hi 4;go_upto_region 6 with fail;obtain⟨XR,o⟩: ∃a,a=w5.heap.size:=⟨_,rfl⟩
 rw[←o];have M5:=(M4.blkNew aK (aVs r p5 c5 q5 d5) XR o.symm)
 generalize World.alloc _ _=v5 at M5⊢;clear M4 ae af ag o;have d:=M5.hi 0;have f:=M5.hi 3;have g:=M5.hi 4;have j:=M5.hi 5;cases ok with
 |false=>
  obtain⟨v0,v1,v2,v3,v4,v5,v6,v7,v8,v9⟩:=(M5.bk 0).ten;have f_:=(M5.bk 4).tenf;obtain⟨k,m⟩:=M5.nq 0 4;obtain rfl:=aq rfl;go_wp2;clear v0 v1 v2 v3 v4 v5 v6 v7 v8 v9 f_ k m d f g j;have M6:=(M5.put10 (i:=4) rfl (I r.aA) (I r.aB) (.slice p5 r.cells c5) (I r.free) (I r.step) (I r.aD) (I r.aF) (I r.aC) (I r.aG) (.slice q5 r.vs d5))
  generalize c:World.setCell _ _ _=wz;rw[c]at M6;clear c M5;have y_:=(M6.bk 4).ten;exact bodyPost_ret (v:= .tuple #[.agg #[r.aA,r.aB,.slice p5 r.cells c5,r.free,r.step,r.aD,r.aF,r.aC,r.aG,.slice q5 r.vs d5],str [110,111]]) (by simp[results,results12,go_sem, *]) rfl (show eM r [110,111] w _ _ from⟨_,_,_,_,rfl,(M6.ow 1),(M6.ow 2),M6.ext⟩)
 |true=>
  replace HN:=xQ (HN.out rfl);go_upto_region 8 with fail;refine rL (gl [gEq (.agg #[(r.aA:Int),(r.aB:Int),.slice p5 r.cells c5,(r.free:Int),(r.step:Int),(r.aD:Int),(r.aF:Int),(r.aC:Int),(r.aG:Int),.slice q5 r.vs d5]),gEq al,gEq (str t)]) 3 5 [(0,some 31),(1,some 32),(2,some 33)] ?steps ?fin
  case steps=>
   refine sC [] rfl (fun wi hx=> ?_) ?_
   ·intro K hK;have hX:Ext v5 wi:=xE;have a3:=((M5.bk 0).ext hX).ten;go_simp;exact hK _ _ ⟨.agg #[(r.aA:Int),(r.aB:Int),.slice p5 r.cells c5,(r.free:Int),(r.step:Int),(r.aD:Int),(r.aF:Int),(r.aC:Int),(r.aG:Int),.slice q5 r.vs d5],rfl,rfl,Ext.refl _⟩
   refine sS0 [] ?_;refine sC [(1,some 32)] rfl (fun wi hx=> ?_) StepsL.nil
   ·intro v1 h1 K hK;obtain rfl:=h1;go_simp;refine Z (HN _ (M5.ext.trans hx.of_drew)) fun w5 ar=>?_
    go_simp;exact hK _ _ ⟨str t,rfl,rfl,ar⟩
  case fin=>
   intro wi hx v0 h0 v1 h1 v2 h2;subst h0 h1 h2;have an:=hx.of_drew;obtain⟨w8,rfl⟩: ∃z,z=wi:=⟨_,rfl⟩
   have M6:=(M5.adv an)
   clear hx an M5 d f g j;have ah:=M6.hi 0;have ai:=M6.hi 3;have aj:=M6.hi 4;have ak:=M6.hi 5;have f_:=(M6.bk 4).tenf;try go_frame
   refine wpAny_ready (rs:= [3]) (by kernel_rfl) (by simp) ?_;refine AllReady.cons rfl (fun K hK=> ?_) AllReady.nil;go_simp;refine hK _ _ ?_;clear hK K f_ ah ai aj ak;have M7:=(M6.put10 (i:=4) rfl (I r.aA) (I r.aB) (.slice p5 r.cells c5) (I r.free) (I r.step) (I r.aD) (I r.aF) (I r.aC) (I r.aG) (.slice q5 r.vs d5))
   generalize c:World.setCell _ _ _=v8;rw[c]at M7;clear c M6;refine wpAny_ready (rs:= [4]) (by kernel_rfl) (by simp) ?_;refine AllReady.cons rfl (fun K hK=> ?_) AllReady.nil;go_simp;refine hK _ _ ?_;clear hK K;refine wpAny_done (by kernel_rfl) ?_ _;try go_frame
   have aw:=M7.hi 0;have ax:=M7.hi 3;have ay:=M7.hi 4;have az:=M7.hi 5;have y_:=(M7.bk 4).ten;go_wp2;exact bodyPost_ret (v:= .tuple #[.agg #[r.aA,r.aB,.slice p5 r.cells c5,r.free,r.step,r.aD,r.aF,r.aC,r.aG,.slice q5 r.vs d5],str t]) (by simp[results,results12,go_sem, *]) rfl (show eM r t w _ _ from⟨_,_,_,_,rfl,(M7.ow 1),(M7.ow 2),M7.ext⟩)
theorem aBp (h r:aL)(p:OA)(b:Nat)(q:OA)(c2:Nat)(l t:List UInt8)(a0 a1 a2 a7:Int)(w:World)(en:Bool)(b1:(l== [101,110,100])=en)(a3:en=true→ [111,107]=t)
  (HV:xB 19 #[.agg (aVs h p b q c2)] w true)
  (HD:xC 30 #[str l] w fun w' e w''=>e= .returned (.tuple #[.agg #[(),(),()],.bool false])∧Ext w' w'')
  (HE:Hid (en=true→ ∀w',Ext w w'→U 33 #[.agg (aVs h p b q c2)] w' fun e w''=> ∃pa ca qa da,e= .returned (.agg #[r.aA,r.aB,.slice pa r.cells ca,r.free,r.step,r.aD,r.aF,r.aC,r.aG,.slice qa r.vs da])∧w''.ownsRow w' TI 1 (.slice pa r.cells ca) r.cells.length (ivs r.cells)∧w''.ownsRow w' TV 4 (.slice qa r.vs da) r.vs.length (r.vs.flatMap aE)∧Ext w' w''))
  (x:Hid (en=false→ ∀B w',B≤w'.heap.size→Ext w w'→U 20 #[.agg (aVs h p b q c2)] w' fun e w''=> ∃pa ca qa da,e= .returned (.agg #[r.aA,r.aB,.slice pa r.cells ca,r.free,r.step,r.aD,r.aF,r.aC,r.aG,.slice qa r.vs da])∧w''.ownsRow B TI 1 (.slice pa r.cells ca) r.cells.length (ivs r.cells)∧w''.ownsRow B TV 4 (.slice qa r.vs da) r.vs.length (r.vs.flatMap aE)∧Ext w' w''))
  (HA:Hid (en=false→ ∀w',Ext w w'→U 34 #[.agg (aVs h p b q c2),str l] w' (O (str t) w'))):
  U 12 #[.agg #[h.aA,h.aB,.slice p h.cells b,h.free,h.step,h.aD,h.aF,h.aC,h.aG,.slice q h.vs c2],str l] w (eM r t w):=by
 go_enter func12,ntmps12;go_wp2_with fail;refine Z (HV _ (((Mem.start w).c0 aK (aVs h p b q c2)).c1 aK zT).ext) fun w1 ao=>?_
 have M1:=((((Mem.start w).c0 aK (aVs h p b q c2)).c1 aK zT).adv ao)
 have ab:=M1.hi 0;have ad:=M1.hi 1;clear ao HV;go_wp2_with fail;refine Z (HD _ M1.ext) fun w2 ap=>?_
 have M2:=(M1.adv ap)
 clear M1 ab ad ap HD;have ae:=M2.hi 0;have af:=M2.hi 1;go_upto_region 4 with fail;obtain⟨XD,y⟩: ∃a,a=w2.heap.size:=⟨_,rfl⟩
 rw[←y];have M3:=(M2.blkNew TDd #[(),(),()] XD y.symm)
 generalize World.alloc _ _=v1 at M3⊢;clear M2 ae af y;have k:=M3.hi 0;have m:=M3.hi 1;have n:=M3.hi 2;cases en with
 |true=>
  obtain rfl:=a3 rfl;replace HE:=xQ (HE.out rfl);have a4:=(M3.bk 2).ten;go_wp2_with fail;clear a4;refine(HE _ M3.ext).mono ?_;rintro e w5 ⟨p5,c5,q5,d5,rfl,ho,hq,hx⟩;have M4:=(M3.own2 hx ho hq (aT5 _) (by decide))
  clear M3 k m n hx ho hq HE;have ag:=M4.hi 2;have ah:=M4.hi 3;have ai:=M4.hi 4;have f_:=(M4.bk 3).tenf;go_wp2;clear f_ ag ah ai;have M5:=(M4.put10 (i:=3) rfl (I r.aA) (I r.aB) (.slice p5 r.cells c5) (I r.free) (I r.step) (I r.aD) (I r.aF) (I r.aC) (I r.aG) (.slice q5 r.vs d5))
  generalize j:World.setCell _ _ _=wz;rw[j]at M5;clear j M4;have y_:=(M5.bk 3).ten;exact bodyPost_ret (v:= .tuple #[.agg #[r.aA,r.aB,.slice p5 r.cells c5,r.free,r.step,r.aD,r.aF,r.aC,r.aG,.slice q5 r.vs d5],str [111,107]]) (by simp[results,results12,go_sem, *]) rfl (show eM r [111,107] w _ _ from⟨_,_,_,_,rfl,(M5.ow 0),(M5.ow 1),M5.ext⟩)
 |false=>
  replace x:=xQ (x.out rfl);replace HA:=xQ (HA.out rfl);go_upto_region 11 with fail;refine rL (gl [gEq (.agg #[(h.aA:Int),(h.aB:Int),.slice p h.cells b,(h.free:Int),(h.step:Int),(h.aD:Int),(h.aF:Int),(h.aC:Int),(h.aG:Int),.slice q h.vs c2]),(fun v w'=> ∃p c q d,v= .agg #[r.aA,r.aB,.slice p r.cells c,r.free,r.step,r.aD,r.aF,r.aC,r.aG,.slice q r.vs d]∧w'.ownsRow v1 TI 1 (.slice p r.cells c) r.cells.length (ivs r.cells)∧w'.ownsRow v1 TV 4 (.slice q r.vs d) r.vs.length (r.vs.flatMap aE)),gEq (.agg #[(h.aA:Int),(h.aB:Int),.slice p h.cells b,(h.free:Int),(h.step:Int),(h.aD:Int),(h.aF:Int),(h.aC:Int),(h.aG:Int),.slice q h.vs c2]),gEq (str l),gEq (str t)]) 5 7 [(0,some 38),(1,some 39),(2,some 40),(3,some 41),(4,some 42)] ?steps ?fin (hG:=(kK (aX (bB _) (aX (fun v w w' ⟨p,c,q,d,e,o1,o2⟩ hx=>⟨p,c,q,d,e,aW o1 hx,aW o2 hx⟩) (aX (bB _) (aX (bB _) (aX (bB _) (mU))))))))
  case steps=>
   refine sC [] rfl (fun wi hx=> ?_) ?_
   ·intro K hK;have hX:Ext v1 wi:=xE;have ay:=((M3.bk 2).ext hX).ten;go_simp;exact hK _ _ ⟨.agg #[(h.aA:Int),(h.aB:Int),.slice p h.cells b,(h.free:Int),(h.step:Int),(h.aD:Int),(h.aF:Int),(h.aC:Int),(h.aG:Int),.slice q h.vs c2],rfl,rfl,Ext.refl _⟩
   refine sC [(0,some 38)] rfl (fun wi hx=> ?_) ?_
   ·intro v0 h0 K hK;obtain rfl:=h0;go_simp;refine(x v1 _ hx.sz (M3.ext.trans hx.of_drew)).mono ?_;rintro e w5 ⟨a5,ax,a6,az,rfl,o5,v5,aa⟩;go_simp;exact hK _ _ ⟨_,rfl,⟨a5,ax,a6,az,rfl,o5,v5⟩,aa⟩
   refine sC [] rfl (fun wi hx=> ?_) ?_
   ·intro K hK;have hX:Ext v1 wi:=xE;have ay:=((M3.bk 2).ext hX).ten;go_simp;exact hK _ _ ⟨.agg #[(h.aA:Int),(h.aB:Int),.slice p h.cells b,(h.free:Int),(h.step:Int),(h.aD:Int),(h.aF:Int),(h.aC:Int),(h.aG:Int),.slice q h.vs c2],rfl,rfl,Ext.refl _⟩
   refine sS0 [] ?_;refine sC [(2,some 40),(3,some 41)] rfl (fun wi hx=> ?_) StepsL.nil
   ·intro v2 h2 v3 h3 K hK;subst h2 h3;go_simp;refine Z (HA _ (M3.ext.trans hx.of_drew)) fun w5 aa=>?_
    go_simp;exact hK _ _ ⟨str t,rfl,rfl,aa⟩
  case fin=>
   intro wi hx v0 h0 v1 h1 v2 h2 v3 h3 v4 h4;obtain rfl:=h0;obtain⟨aq,aj,ar,ak,rfl,al,am⟩:=h1;subst h2 h3 h4;have an:=hx.of_drew;obtain⟨w8,rfl⟩: ∃z,z=wi:=⟨_,rfl⟩
   have g:=(M3.own2 an al am (aT5 _) (by decide))
   clear hx an al am M3 k m n;have o:=g.hi 2;have s:=g.hi 3;have u:=g.hi 4;have f_:=(g.bk 3).tenf;try go_frame
   refine wpAny_ready (rs:= [5]) (by kernel_rfl) (by simp) ?_;refine AllReady.cons rfl (fun K hK=> ?_) AllReady.nil;go_simp;refine hK _ _ ?_;clear hK K f_ o s u;have f:=(g.put10 (i:=3) rfl (I r.aA) (I r.aB) (.slice aq r.cells aj) (I r.free) (I r.step) (I r.aD) (I r.aF) (I r.aC) (I r.aG) (.slice ar r.vs ak))
   generalize j:World.setCell _ _ _=v8;rw[j]at f;clear j g;refine wpAny_ready (rs:= [6]) (by kernel_rfl) (by simp) ?_;refine AllReady.cons rfl (fun K hK=> ?_) AllReady.nil;go_simp;refine hK _ _ ?_;clear hK K;refine wpAny_done (by kernel_rfl) ?_ _;try go_frame
   have au:=f.hi 2;have av:=f.hi 3;have aw:=f.hi 4;have y_:=(f.bk 3).ten;go_wp2;exact bodyPost_ret (v:= .tuple #[.agg #[r.aA,r.aB,.slice aq r.cells aj,r.free,r.step,r.aD,r.aF,r.aC,r.aG,.slice ar r.vs ak],str t]) (by simp[results,results12,go_sem, *]) rfl (show eM r t w _ _ from⟨_,_,_,_,rfl,(f.ow 0),(f.ow 1),f.ext⟩)
theorem aFp (h:aL)(p:OA)(n c:Nat)(q:OA)(m c2:Nat)(l:List UInt8)(w:World)(hi:IsHouse w h p n c q m c2)(hl:l.length≤1048576)(f:Env w)(hE:BitTab w):
  U 12 #[bG h p n c q m c2,str l] w (eM (iF h l).1 (iF h l).2 w):=by
 have i:=hi.clen;have j:=hi.vlen;subst i j;have HV:=xQ fun(w':World) (hx:Ext w w')=>iW h p _ c q _ c2 w' (hi.ext hx)
 unfold iF;by_cases hok:aP h=true
 ·rw[if_pos hok];rw[hok]at HV;have hs:=fA hok;have HD:=xQ fun(w':World) (hx:Ext w w')=>aDc l w' (by omega) (f.ext hx)
  unfold lV at HD;cases hd:bQ l with
  |some d=>
   obtain⟨k,a,b⟩:=d;rw[hd]at HD;dsimp only;have HO:=xQ fun(w':World) (hx:Ext w w')=>aR1 h k a b p _ c q _ c2 w' (hi.ext hx) (hE.ext hx)
   unfold aMt at HO;have g:=aK0 hok k a b;generalize doR h k a b=x at HO g⊢;obtain⟨r,s,ok⟩:=x;dsimp only at HO g⊢;refine aP7 h r p c q c2 l _ k a b s w ok ?_ HV HD HO ?_
   ·rintro rfl;rfl
   rintro rfl;have g:=g rfl;exact fun w' hx=>pQ _ w' g.1 (by omega) (f.ext hx)
  |none=>
   rw[hd]at HD;dsimp only;by_cases he:l= [101,110,100]
   ·rw[if_pos he];refine aBp h (uH h) p c q c2 l [111,107] 0 0 0 0 w true (by simp[he]) (fun _=>rfl) HV HD (fun _ w' hx=> ?_) (fun h0=>by cases h0) (fun h0=>by cases h0);have:=aDf h p _ c q _ c2 w' (by omega) (hi.ext hx) (hE.ext hx);unfold RetHouse at this;exact this
   rw[if_neg he];refine aBp h h p c q c2 l (aA0 h l) 0 0 0 0 w false (by simp[he]) (fun h0=>by cases h0) HV HD (fun h0=>by cases h0) (fun _ B w' hB hx=> ?_) (fun _ w' hx=>aR2 h hok p _ c q _ c2 l w' (hi.ext hx) (f.ext hx) hl);have:=lG h p _ c q _ c2 w' (by omega) (by omega) (hi.ext hx);unfold RetHouse at this;refine this.mono ?_;rintro e t ⟨pa,ca,qa,da,rfl,o1,o2,o⟩;exact⟨pa,ca,qa,da,rfl,cH o1 hB,cH o2 hB,o⟩
 rw[if_neg hok];rw[show aP h=false by simpa using hok]at HV;exact aR3 h h p c q c2 l [] 0 0 0 0 w HV
end Go.Proofs.YthfmmibomhhmpaaGreatDoor
