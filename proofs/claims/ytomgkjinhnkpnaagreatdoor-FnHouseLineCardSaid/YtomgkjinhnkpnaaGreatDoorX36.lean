/-
  Texts of this proof, packed (@packed).
-/
import Derived.Test.YtomgkjinhnkpnaaGreatDoorX35
namespace Go.Proofs.YtomgkjinhnkpnaaGreatDoor
open Go.RowKit
set_option linter.unusedSimpArgs false
set_option linter.unusedVariables false
set_option maxHeartbeats 8000000
set_option maxRecDepth 100000
theorem aQr {h:aM}(a:aS h=true){id:Int}{v:aQ}(hv:dP id h.vs=some v):aY h id=cA h.free h.step h.aD h.aF v.2.1 v.2.2.1 v.2.2.2 h.aC:=by unfold aY cR;rw[if_pos a,hv];rfl
theorem aIj {h:aM}(a:aS h=true){id amt:Int}{g:aM}{n:Int}(hd:pE h id amt=some (g,n)):
  ∃v,dP id h.vs=some v∧1≤amt∧amt≤300∧1≤aY h id∧n=amt-min (aY h id) amt∧h.aG+min (aY h id) amt≤99999∧
   g={h with aG:=h.aG+min (aY h id) amt,vs:=h.vs.set (vix id h.vs).toNat (id,v.2.1,v.2.2.1+min (aY h id) amt,h.aC)}:=by
 obtain⟨q1,q2,q3,q4,q5⟩:=(eI h).1 a;unfold pE at hd;split at hd
 ·cases hd
 rename_i v hv;obtain⟨v1,v2,v3,v4,v5,v6⟩:=jE hv;obtain⟨s1,s2⟩:=(jD _ _).1 (q5 v (aRi v3));obtain⟨b1,b2⟩:=kJ q2 s1 s2 q3.2.1;have hD:=aQr a hv;rw[←hD]at b1 b2;by_cases ha:1≤amt∧amt≤300
 ·by_cases hn:aY h id=0
  ·have hp:(fZ h.free h.step h.aD h.aF v.2.1 v.2.2.1 v.2.2.2 h.aC amt).2.2=false:=by unfold fZ;rw[if_pos ha,←hD,if_pos hn]
   rw[if_neg (by rw[hp];simp)]at hd;cases hd
  have hp:fZ h.free h.step h.aD h.aF v.2.1 v.2.2.1 v.2.2.2 h.aC amt=((v.2.1,v.2.2.1+min (aY h id) amt,h.aC),amt-min (aY h id) amt,true):=by unfold fZ;rw[if_pos ha,←hD,if_neg hn]
  rw[hp]at hd;dsimp only at hd;by_cases hb:h.aG+amt-(amt-min (aY h id) amt)≤99999
  ·rw[if_pos ⟨rfl,hb⟩]at hd;injection hd with hd;simp only[aS3]at hd;obtain⟨rfl,rfl⟩:=hd;refine⟨v,hv,ha.1,ha.2,by omega,rfl,by omega,?_⟩;rw[show h.aG+amt-(amt-min (aY h id) amt)=h.aG+min (aY h id) amt by omega]
  rw[if_neg (fun hh=>hb hh.2)]at hd;cases hd
 have hp:(fZ h.free h.step h.aD h.aF v.2.1 v.2.2.1 v.2.2.2 h.aC amt).2.2=false:=by unfold fZ;rw[if_neg ha]
 rw[if_neg (by rw[hp];simp)]at hd;cases hd
theorem aOi {h:aM}{k a b:Int}{g:aM}{n:Int}(hd:cC h k a b=some (g,n)):
  (k=0∧0≤(cH h.aA h.aB h.cells a).2∧g={h with cells:=(cH h.aA h.aB h.cells a).1,vs:=lF (a,h.aC,0,h.aC) h.vs})∨
  (k=1∧pE h a b=some (g,n))∨
  (k=2∧dD h a=true∧0≤(bX h.aA h.aB h.cells a).2∧g={h with cells:=(bX h.aA h.aB h.cells a).1,vs:=h.vs.eraseIdx (vix a h.vs).toNat})∨
  (k=3∧1≤a∧a≤9999-h.aC∧g={h with aC:=h.aC+a})∨
  (k=4∧bC h.aA h.aB h.cells a b=true∧g={h with cells:=bH h.aA h.aB h.cells a b}):=by
 unfold cC at hd;split at hd
 ·rename_i k0;split at hd
  ·rename_i h0;injection hd with hd;simp only[aS3]at hd;exact .inl ⟨k0,h0,hd.1.symm⟩
  cases hd
 split at hd
 ·rename_i k1;exact .inr (.inl ⟨k1,hd⟩)
 split at hd
 ·rename_i k2;split at hd
  ·rename_i hm;injection hd with hd;simp only[aS3]at hd;exact .inr (.inr (.inl ⟨k2,hm.1,hm.2,hd.1.symm⟩))
  cases hd
 split at hd
 ·rename_i k3;split at hd
  ·rename_i hm;injection hd with hd;simp only[aS3]at hd;exact .inr (.inr (.inr (.inl ⟨k3,hm.1,hm.2,hd.1.symm⟩)))
  cases hd
 split at hd
 ·rename_i k4;split at hd
  ·rename_i hm;injection hd with hd;simp only[aS3]at hd;exact .inr (.inr (.inr (.inr ⟨k4,hm,hd.1.symm⟩)))
  cases hd
 cases hd
theorem aKh {h:aM}{id:Int}(hm:dD h id=true): ∃v,dP id h.vs=some v:=by
 unfold dD cR at hm;split at hm
 ·cases hv:dP id h.vs with
  |none=>rename_i s hs;split at hs
         ·rw[hv]at hs;cases hs
         cases hs
  |some v=>exact⟨v,rfl⟩
 cases hm
theorem aQs {h:aM}(c:aS h=true){k a b:Int}{g:aM}{n:Int}(hd:cC h k a b=some (g,n)):
  aS g=true∧0≤n∧h.aG≤g.aG∧g.aG-h.aG≤max (aY h a) 0∧g≠h:=by
 obtain⟨o1,o2,_⟩:=mF c hd;refine⟨o1,o2.1,?_⟩;rcases aOi hd with⟨_,_,rfl⟩|⟨_,hp⟩|⟨_,hm,_,rfl⟩|⟨_,h1,_,rfl⟩|⟨_,hm,rfl⟩
 ·refine⟨Int.le_refl _,by dsimp only;omega,fun e=> ?_⟩;have:=congrArg (fun x=>x.vs.length) e;simp only[pM]at this;omega
 ·obtain⟨v,hv,a1,a2,a3,a4,a5,rfl⟩:=aIj c hp;refine⟨by dsimp only;omega,by dsimp only;omega,fun e=> ?_⟩;have:=congrArg aM.aG e;dsimp only at this;omega
 ·obtain⟨v,hv⟩:=aKh hm;obtain⟨v1,v2,v3,v4,v5,v6⟩:=jE hv;refine⟨Int.le_refl _,by dsimp only;omega,fun e=> ?_⟩;have:=congrArg (fun x=>x.vs.length) e;simp only[List.length_eraseIdx,if_pos v4]at this;omega
 ·refine⟨Int.le_refl _,by dsimp only;omega,fun e=> ?_⟩;have:=congrArg aM.aC e;dsimp only at this;omega
 obtain⟨s1,s2,s3,s4,s5,s6,s7,s8,s9⟩:=jW hm;refine⟨Int.le_refl _,by dsimp only;omega,fun e=> ?_⟩;have:=congrArg (fun x=>x.cells.getD a.toNat 0) e;unfold bH at this;rw[if_pos hm]at this;rw[show(((h.cells.set b.toNat (h.cells.getD a.toNat 0)).set a.toNat 0).getD a.toNat 0)=0 by rw[aRl,aRq (by rw[aSs];omega)];rfl]at this;omega
section
open Go.Proofs.Tryz
theorem aIz {h:aM}(c:aS h=true)(k a b:Int):(doR h k a b).2.2=true→0≤(doR h k a b).2.1∧(doR h k a b).2.1≤10000:=by
 unfold doR;rw[if_pos c];cases hd:cC h k a b with
 |none=>intro h;simp at h
 |some x=>
  obtain⟨g,n⟩:=x;intro _;dsimp only;obtain⟨q1,q2,q3,q4,q5⟩:=(eI h).1 c;unfold cC at hd;split at hd
  ·split at hd
   ·rename_i h0;obtain⟨_,_,_,_,_,_,h5⟩:=nY q1 h0;injection hd with hd;simp only[aS3]at hd;omega
   cases hd
  split at hd
  ·obtain⟨v,_,h1,h2,h3,h4,_⟩:=aIj c hd;omega
  split at hd
  ·split at hd
   ·rename_i h0;obtain⟨_,_,_,_,_,h5⟩:=mG q1 h0.2;injection hd with hd;simp only[aS3]at hd;omega
   cases hd
  split at hd
  ·split at hd
   ·injection hd with hd;simp only[aS3]at hd;omega
   cases hd
  split at hd
  ·split at hd
   ·injection hd with hd;simp only[aS3]at hd;omega
   cases hd
  cases hd
def fH (r:aM)(t:List UInt8)(w:World)(e:Ending)(w':World):Prop:=
 ∃p c q d,e= .returned (.tuple #[bG r p r.cells.length c q r.vs.length d,str t])∧w'.ownsRow w.heap.size TI 1 (.slice p r.cells.length c) r.cells.length (ivs r.cells)∧w'.ownsRow w.heap.size TV 4 (.slice q r.vs.length d) r.vs.length (r.vs.flatMap aE)∧Ext w w'
theorem aP3 (h r:aM)(p:OA)(a:Nat)(q:OA)(c2:Nat)(l t:List UInt8)(a0 a1 a2 g:Int)(w:World)
  (HV:xB 8 #[.agg (aU3 h p a q c2)] w false):
  U 6 #[.agg #[h.aA,h.aB,.slice p h.cells a,h.free,h.step,h.aD,h.aF,h.aC,h.aG,.slice q h.vs c2],str l] w (fH hZ [] w):=by
 go_enter func6,ntmps6;go_wp2_with fail;refine Z (HV _ (((Mem.start w).c0 aK (aU3 h p a q c2)).c1 aK zT).ext) fun w1 f=>?_
 have M1:=((((Mem.start w).c0 aK (aU3 h p a q c2)).c1 aK zT).adv f)
 have b:=M1.hi 0;have c:=M1.hi 1;clear f HV;have f_:=(M1.bk 0).tenf;go_wp2;clear f_ b c;have M2:=(M1.put10 (i:=0) rfl (I 0) (I 0) (.slice none 0 0) (I 0) (I 0) (I 0) (I 0) (I 0) (I 0) (.slice none 0 0))
 generalize d:World.setCell _ _ _=wz;rw[d]at M2;clear d M1;have y_:=(M2.bk 0).ten;exact bodyPost_ret (v:= .tuple #[.agg #[(),(),((),()),(),(),(),(),(),(),((),())],str []]) (by simp[results,results6,go_sem, *]) rfl (show fH hZ [] w _ _ from⟨none,0,none,0,rfl,aRw _ _ _ _,aRw _ _ _ _,M2.ext⟩)
theorem aMr (h r:aM)(p:OA)(b:Nat)(q:OA)(c2:Nat)(l t:List UInt8)(a0 a1 a2 al:Int)(w:World)(ok:Bool)(aq:ok=false→ [110,111]=t)
  (HV:xB 8 #[.agg (aU3 h p b q c2)] w true)
  (HD:xC 21 #[str l] w fun w' e w''=>e= .returned (.tuple #[.agg #[a0,a1,a2],.bool true])∧Ext w' w'')
  (am:xC 22 #[.agg (aU3 h p b q c2),.agg #[a0,a1,a2]] w fun w' e w''=> ∃pa ca qa da,e= .returned (.tuple #[.agg #[r.aA,r.aB,.slice pa r.cells ca,r.free,r.step,r.aD,r.aF,r.aC,r.aG,.slice qa r.vs da],al,.bool ok])∧w''.ownsRow w' TI 1 (.slice pa r.cells ca) r.cells.length (ivs r.cells)∧w''.ownsRow w' TV 4 (.slice qa r.vs da) r.vs.length (r.vs.flatMap aE)∧Ext w' w'')
  (HN:Hid (ok=true→ ∀w',Ext w w'→U 23 #[al] w' (O (str t) w'))):
  U 6 #[.agg #[h.aA,h.aB,.slice p h.cells b,h.free,h.step,h.aD,h.aF,h.aC,h.aG,.slice q h.vs c2],str l] w (fH r t w):=by
 go_enter func6,ntmps6;go_wp2_with fail;refine Z (HV _ (((Mem.start w).c0 aK (aU3 h p b q c2)).c1 aK zT).ext) fun w1 ao=>?_
 have M1:=((((Mem.start w).c0 aK (aU3 h p b q c2)).c1 aK zT).adv ao)
 have s:=M1.hi 0;have u:=M1.hi 1;clear ao HV;go_wp2_with fail;refine Z (HD _ M1.ext) fun w2 ap=>?_
 have M2:=(M1.adv ap)
 clear M1 s u ap HD;have x:=M2.hi 0;have y:=M2.hi 1;go_upto_region 4 with fail;obtain⟨XD,n⟩: ∃a,a=w2.heap.size:=⟨_,rfl⟩
 rw[←n];have M3:=(M2.blkNew TDd #[a0,a1,a2] XD n.symm)
 generalize World.alloc _ _=v1 at M3⊢;clear M2 x y n;have aa:=M3.hi 0;have ab:=M3.hi 1;have ad:=M3.hi 2;have au:=(M3.bk 2).ten;have av:=(M3.bk 0).tri;go_wp2_with fail;clear au av;refine(am _ M3.ext).mono ?_;rintro e w5 ⟨p5,c5,q5,d5,rfl,ho,hq,hx⟩;have M4:=(M3.own2 hx ho hq (aRg _) (by decide))
 clear M3 aa ab ad hx ho hq am;have ae:=M4.hi 2;have af:=M4.hi 3;have ag:=M4.hi 4;go_upto_region 6 with fail;obtain⟨XR,o⟩: ∃a,a=w5.heap.size:=⟨_,rfl⟩
 rw[←o];have M5:=(M4.blkNew aK (aU3 r p5 c5 q5 d5) XR o.symm)
 generalize World.alloc _ _=v5 at M5⊢;clear M4 ae af ag o;have d:=M5.hi 0;have f:=M5.hi 3;have g:=M5.hi 4;have j:=M5.hi 5;cases ok with
 |false=>
  obtain⟨v0,v1,v2,v3,v4,v5,v6,v7,v8,v9⟩:=(M5.bk 0).ten;have f_:=(M5.bk 4).tenf;obtain⟨k,m⟩:=M5.nq 0 4;obtain rfl:=aq rfl;go_wp2;clear v0 v1 v2 v3 v4 v5 v6 v7 v8 v9 f_ k m d f g j;have M6:=(M5.put10 (i:=4) rfl (I r.aA) (I r.aB) (.slice p5 r.cells c5) (I r.free) (I r.step) (I r.aD) (I r.aF) (I r.aC) (I r.aG) (.slice q5 r.vs d5))
  generalize c:World.setCell _ _ _=wz;rw[c]at M6;clear c M5;have y_:=(M6.bk 4).ten;exact bodyPost_ret (v:= .tuple #[.agg #[r.aA,r.aB,.slice p5 r.cells c5,r.free,r.step,r.aD,r.aF,r.aC,r.aG,.slice q5 r.vs d5],str [110,111]]) (by simp[results,results6,go_sem, *]) rfl (show fH r [110,111] w _ _ from⟨_,_,_,_,rfl,(M6.ow 1),(M6.ow 2),M6.ext⟩)
 |true=>
  replace HN:=xQ (HN.out rfl);go_upto_region 8 with fail;refine rL (gl [gEq (.agg #[(r.aA:Int),(r.aB:Int),.slice p5 r.cells c5,(r.free:Int),(r.step:Int),(r.aD:Int),(r.aF:Int),(r.aC:Int),(r.aG:Int),.slice q5 r.vs d5]),gEq al,gEq (str t)]) 3 5 [(0,some 32),(1,some 33),(2,some 34)] ?steps ?fin
  case steps=>
   refine sC [] rfl (fun wi hx=> ?_) ?_
   ·intro K hK;have hX:Ext v5 wi:=xE;have a3:=((M5.bk 0).ext hX).ten;go_simp;exact hK _ _ ⟨.agg #[(r.aA:Int),(r.aB:Int),.slice p5 r.cells c5,(r.free:Int),(r.step:Int),(r.aD:Int),(r.aF:Int),(r.aC:Int),(r.aG:Int),.slice q5 r.vs d5],rfl,rfl,Ext.refl _⟩
   refine sS0 [] ?_;refine sC [(1,some 33)] rfl (fun wi hx=> ?_) StepsL.nil
   ·intro v1 h1 K hK;obtain rfl:=h1;go_simp;refine Z (HN _ (M5.ext.trans hx.of_drew)) fun w5 ar=>?_
    go_simp;exact hK _ _ ⟨str t,rfl,rfl,ar⟩
  case fin=>
   intro wi hx v0 h0 v1 h1 v2 h2;subst h0 h1 h2;have an:=hx.of_drew;obtain⟨w8,rfl⟩: ∃z,z=wi:=⟨_,rfl⟩
   have M6:=(M5.adv an)
   clear hx an M5 d f g j;have ah:=M6.hi 0;have ai:=M6.hi 3;have aj:=M6.hi 4;have ak:=M6.hi 5;have f_:=(M6.bk 4).tenf;try go_frame
   refine wpAny_ready (rs:= [3]) (by kernel_rfl) (by simp) ?_;refine AllReady.cons rfl (fun K hK=> ?_) AllReady.nil;go_simp;refine hK _ _ ?_;clear hK K f_ ah ai aj ak;have M7:=(M6.put10 (i:=4) rfl (I r.aA) (I r.aB) (.slice p5 r.cells c5) (I r.free) (I r.step) (I r.aD) (I r.aF) (I r.aC) (I r.aG) (.slice q5 r.vs d5))
   generalize c:World.setCell _ _ _=v8;rw[c]at M7;clear c M6;refine wpAny_ready (rs:= [4]) (by kernel_rfl) (by simp) ?_;refine AllReady.cons rfl (fun K hK=> ?_) AllReady.nil;go_simp;refine hK _ _ ?_;clear hK K;refine wpAny_done (by kernel_rfl) ?_ _;try go_frame
   have aw:=M7.hi 0;have ax:=M7.hi 3;have ay:=M7.hi 4;have az:=M7.hi 5;have y_:=(M7.bk 4).ten;go_wp2;exact bodyPost_ret (v:= .tuple #[.agg #[r.aA,r.aB,.slice p5 r.cells c5,r.free,r.step,r.aD,r.aF,r.aC,r.aG,.slice q5 r.vs d5],str t]) (by simp[results,results6,go_sem, *]) rfl (show fH r t w _ _ from⟨_,_,_,_,rfl,(M7.ow 1),(M7.ow 2),M7.ext⟩)
theorem aAk (h r:aM)(p:OA)(b:Nat)(q:OA)(c2:Nat)(l t:List UInt8)(a0 a1 a2 a7:Int)(w:World)(en:Bool)(b1:(l== [101,110,100])=en)(a3:en=true→ [111,107]=t)
  (HV:xB 8 #[.agg (aU3 h p b q c2)] w true)
  (HD:xC 21 #[str l] w fun w' e w''=>e= .returned (.tuple #[.agg #[(),(),()],.bool false])∧Ext w' w'')
  (HE:Hid (en=true→ ∀w',Ext w w'→U 24 #[.agg (aU3 h p b q c2)] w' fun e w''=> ∃pa ca qa da,e= .returned (.agg #[r.aA,r.aB,.slice pa r.cells ca,r.free,r.step,r.aD,r.aF,r.aC,r.aG,.slice qa r.vs da])∧w''.ownsRow w' TI 1 (.slice pa r.cells ca) r.cells.length (ivs r.cells)∧w''.ownsRow w' TV 4 (.slice qa r.vs da) r.vs.length (r.vs.flatMap aE)∧Ext w' w''))
  (x:Hid (en=false→ ∀B w',B≤w'.heap.size→Ext w w'→U 25 #[.agg (aU3 h p b q c2)] w' fun e w''=> ∃pa ca qa da,e= .returned (.agg #[r.aA,r.aB,.slice pa r.cells ca,r.free,r.step,r.aD,r.aF,r.aC,r.aG,.slice qa r.vs da])∧w''.ownsRow B TI 1 (.slice pa r.cells ca) r.cells.length (ivs r.cells)∧w''.ownsRow B TV 4 (.slice qa r.vs da) r.vs.length (r.vs.flatMap aE)∧Ext w' w''))
  (HA:Hid (en=false→ ∀w',Ext w w'→U 26 #[.agg (aU3 h p b q c2),str l] w' (O (str t) w'))):
  U 6 #[.agg #[h.aA,h.aB,.slice p h.cells b,h.free,h.step,h.aD,h.aF,h.aC,h.aG,.slice q h.vs c2],str l] w (fH r t w):=by
 go_enter func6,ntmps6;go_wp2_with fail;refine Z (HV _ (((Mem.start w).c0 aK (aU3 h p b q c2)).c1 aK zT).ext) fun w1 ao=>?_
 have M1:=((((Mem.start w).c0 aK (aU3 h p b q c2)).c1 aK zT).adv ao)
 have ab:=M1.hi 0;have ad:=M1.hi 1;clear ao HV;go_wp2_with fail;refine Z (HD _ M1.ext) fun w2 ap=>?_
 have M2:=(M1.adv ap)
 clear M1 ab ad ap HD;have ae:=M2.hi 0;have af:=M2.hi 1;go_upto_region 4 with fail;obtain⟨XD,y⟩: ∃a,a=w2.heap.size:=⟨_,rfl⟩
 rw[←y];have M3:=(M2.blkNew TDd #[(),(),()] XD y.symm)
 generalize World.alloc _ _=v1 at M3⊢;clear M2 ae af y;have k:=M3.hi 0;have m:=M3.hi 1;have n:=M3.hi 2;cases en with
 |true=>
  obtain rfl:=a3 rfl;replace HE:=xQ (HE.out rfl);have a4:=(M3.bk 2).ten;go_wp2_with fail;clear a4;refine(HE _ M3.ext).mono ?_;rintro e w5 ⟨p5,c5,q5,d5,rfl,ho,hq,hx⟩;have M4:=(M3.own2 hx ho hq (aRg _) (by decide))
  clear M3 k m n hx ho hq HE;have ag:=M4.hi 2;have ah:=M4.hi 3;have ai:=M4.hi 4;have f_:=(M4.bk 3).tenf;go_wp2;clear f_ ag ah ai;have M5:=(M4.put10 (i:=3) rfl (I r.aA) (I r.aB) (.slice p5 r.cells c5) (I r.free) (I r.step) (I r.aD) (I r.aF) (I r.aC) (I r.aG) (.slice q5 r.vs d5))
  generalize j:World.setCell _ _ _=wz;rw[j]at M5;clear j M4;have y_:=(M5.bk 3).ten;exact bodyPost_ret (v:= .tuple #[.agg #[r.aA,r.aB,.slice p5 r.cells c5,r.free,r.step,r.aD,r.aF,r.aC,r.aG,.slice q5 r.vs d5],str [111,107]]) (by simp[results,results6,go_sem, *]) rfl (show fH r [111,107] w _ _ from⟨_,_,_,_,rfl,(M5.ow 0),(M5.ow 1),M5.ext⟩)
 |false=>
  replace x:=xQ (x.out rfl);replace HA:=xQ (HA.out rfl);go_upto_region 11 with fail;refine rL (gl [gEq (.agg #[(h.aA:Int),(h.aB:Int),.slice p h.cells b,(h.free:Int),(h.step:Int),(h.aD:Int),(h.aF:Int),(h.aC:Int),(h.aG:Int),.slice q h.vs c2]),(fun v w'=> ∃p c q d,v= .agg #[r.aA,r.aB,.slice p r.cells c,r.free,r.step,r.aD,r.aF,r.aC,r.aG,.slice q r.vs d]∧w'.ownsRow v1 TI 1 (.slice p r.cells c) r.cells.length (ivs r.cells)∧w'.ownsRow v1 TV 4 (.slice q r.vs d) r.vs.length (r.vs.flatMap aE)),gEq (.agg #[(h.aA:Int),(h.aB:Int),.slice p h.cells b,(h.free:Int),(h.step:Int),(h.aD:Int),(h.aF:Int),(h.aC:Int),(h.aG:Int),.slice q h.vs c2]),gEq (str l),gEq (str t)]) 5 7 [(0,some 40),(1,some 41),(2,some 42),(3,some 43),(4,some 44)] ?steps ?fin (hG:=(mU (bM (bR _) (bM (fun v w w' ⟨p,c,q,d,e,o1,o2⟩ hx=>⟨p,c,q,d,e,bI o1 hx,bI o2 hx⟩) (bM (bR _) (bM (bR _) (bM (bR _) (pX))))))))
  case steps=>
   refine sC [] rfl (fun wi hx=> ?_) ?_
   ·intro K hK;have hX:Ext v1 wi:=xE;have ay:=((M3.bk 2).ext hX).ten;go_simp;exact hK _ _ ⟨.agg #[(h.aA:Int),(h.aB:Int),.slice p h.cells b,(h.free:Int),(h.step:Int),(h.aD:Int),(h.aF:Int),(h.aC:Int),(h.aG:Int),.slice q h.vs c2],rfl,rfl,Ext.refl _⟩
   refine sC [(0,some 40)] rfl (fun wi hx=> ?_) ?_
   ·intro v0 h0 K hK;obtain rfl:=h0;go_simp;refine(x v1 _ hx.sz (M3.ext.trans hx.of_drew)).mono ?_;rintro e w5 ⟨a5,ax,a6,az,rfl,o5,v5,aa⟩;go_simp;exact hK _ _ ⟨_,rfl,⟨a5,ax,a6,az,rfl,o5,v5⟩,aa⟩
   refine sC [] rfl (fun wi hx=> ?_) ?_
   ·intro K hK;have hX:Ext v1 wi:=xE;have ay:=((M3.bk 2).ext hX).ten;go_simp;exact hK _ _ ⟨.agg #[(h.aA:Int),(h.aB:Int),.slice p h.cells b,(h.free:Int),(h.step:Int),(h.aD:Int),(h.aF:Int),(h.aC:Int),(h.aG:Int),.slice q h.vs c2],rfl,rfl,Ext.refl _⟩
   refine sS0 [] ?_;refine sC [(2,some 42),(3,some 43)] rfl (fun wi hx=> ?_) StepsL.nil
   ·intro v2 h2 v3 h3 K hK;subst h2 h3;go_simp;refine Z (HA _ (M3.ext.trans hx.of_drew)) fun w5 aa=>?_
    go_simp;exact hK _ _ ⟨str t,rfl,rfl,aa⟩
  case fin=>
   intro wi hx v0 h0 v1 h1 v2 h2 v3 h3 v4 h4;obtain rfl:=h0;obtain⟨aq,aj,ar,ak,rfl,al,am⟩:=h1;subst h2 h3 h4;have an:=hx.of_drew;obtain⟨w8,rfl⟩: ∃z,z=wi:=⟨_,rfl⟩
   have g:=(M3.own2 an al am (aRg _) (by decide))
   clear hx an al am M3 k m n;have o:=g.hi 2;have s:=g.hi 3;have u:=g.hi 4;have f_:=(g.bk 3).tenf;try go_frame
   refine wpAny_ready (rs:= [5]) (by kernel_rfl) (by simp) ?_;refine AllReady.cons rfl (fun K hK=> ?_) AllReady.nil;go_simp;refine hK _ _ ?_;clear hK K f_ o s u;have f:=(g.put10 (i:=3) rfl (I r.aA) (I r.aB) (.slice aq r.cells aj) (I r.free) (I r.step) (I r.aD) (I r.aF) (I r.aC) (I r.aG) (.slice ar r.vs ak))
   generalize j:World.setCell _ _ _=v8;rw[j]at f;clear j g;refine wpAny_ready (rs:= [6]) (by kernel_rfl) (by simp) ?_;refine AllReady.cons rfl (fun K hK=> ?_) AllReady.nil;go_simp;refine hK _ _ ?_;clear hK K;refine wpAny_done (by kernel_rfl) ?_ _;try go_frame
   have au:=f.hi 2;have av:=f.hi 3;have aw:=f.hi 4;have y_:=(f.bk 3).ten;go_wp2;exact bodyPost_ret (v:= .tuple #[.agg #[r.aA,r.aB,.slice aq r.cells aj,r.free,r.step,r.aD,r.aF,r.aC,r.aG,.slice ar r.vs ak],str t]) (by simp[results,results6,go_sem, *]) rfl (show fH r t w _ _ from⟨_,_,_,_,rfl,(f.ow 0),(f.ow 1),f.ext⟩)
theorem aM9 (h:aM)(p:OA)(n c:Nat)(q:OA)(m c2:Nat)(l:List UInt8)(w:World)(hi:IsHouse w h p n c q m c2)(hl:l.length≤1048576):
  U 6 #[bG h p n c q m c2,str l] w (fH (mA h l).1 (mA h l).2 w):=by
 have g:=hi.clen;have i:=hi.vlen;subst g i;have HV:=xQ fun(w':World) (hx:Ext w w')=>iL h p _ c q _ c2 w' (hi.ext hx)
 unfold mA;by_cases hok:aS h=true
 ·rw[if_pos hok];rw[hok]at HV;have hs:=eL hok;have HD:=xQ fun(w':World) (hx:Ext w w')=>aBk l w' (by omega)
  unfold kI at HD;cases hd:bN l with
  |some d=>
   obtain⟨k,a,b⟩:=d;rw[hd]at HD;dsimp only;have HO:=xQ fun(w':World) (hx:Ext w w')=>aOx h k a b p _ c q _ c2 w' (hi.ext hx)
   unfold aLm at HO;have f:=aIz hok k a b;generalize doR h k a b=x at HO f⊢;obtain⟨r,o,ok⟩:=x;dsimp only at HO f⊢;refine aMr h r p c q c2 l _ k a b o w ok ?_ HV HD HO ?_
   ·rintro rfl;rfl
   rintro rfl;have f:=f rfl;exact fun w' hx=>jK _ w' f.1 (by omega)
  |none=>
   rw[hd]at HD;dsimp only;by_cases he:l= [101,110,100]
   ·rw[if_pos he];refine aAk h (aFc h) p c q c2 l [111,107] 0 0 0 0 w true (by simp[he]) (fun _=>rfl) HV HD (fun _ w' hx=> ?_) (fun h0=>by cases h0) (fun h0=>by cases h0);have:=aBo h p _ c q _ c2 w' (by omega) (hi.ext hx);unfold RetHouse at this;exact this
   rw[if_neg he];refine aAk h h p c q c2 l (aD2 h l) 0 0 0 0 w false (by simp[he]) (fun h0=>by cases h0) HV HD (fun h0=>by cases h0) (fun _ B w' hB hx=> ?_) (fun _ w' hx=>aOy h hok p _ c q _ c2 l w' (hi.ext hx) hl);have:=oM h p _ c q _ c2 w' (by omega) (by omega) (hi.ext hx);unfold RetHouse at this;refine this.mono ?_;rintro e s ⟨pa,ca,qa,da,rfl,o1,o2,j⟩;exact⟨pa,ca,qa,da,rfl,dL o1 hB,dL o2 hB,j⟩
 rw[if_neg hok];rw[show aS h=false by simpa using hok]at HV;exact aP3 h h p c q c2 l [] 0 0 0 0 w HV
theorem aPi (h r:aM)(p:OA)(a:Nat)(q:OA)(c2:Nat)(l t:List UInt8)(a0 a1 a2 g:Int)(w:World)
  (HV:xB 12 #[.agg (aU3 h p a q c2)] w false):
  U 5 #[.agg #[h.aA,h.aB,.slice p h.cells a,h.free,h.step,h.aD,h.aF,h.aC,h.aG,.slice q h.vs c2],str l] w (fH hZ [] w):=by
 go_enter func5,ntmps5;go_wp2_with fail;refine Z (HV _ (((Mem.start w).c0 aK (aU3 h p a q c2)).c1 aK zT).ext) fun w1 f=>?_
 have M1:=((((Mem.start w).c0 aK (aU3 h p a q c2)).c1 aK zT).adv f)
 have b:=M1.hi 0;have c:=M1.hi 1;clear f HV;have f_:=(M1.bk 0).tenf;go_wp2;clear f_ b c;have M2:=(M1.put10 (i:=0) rfl (I 0) (I 0) (.slice none 0 0) (I 0) (I 0) (I 0) (I 0) (I 0) (I 0) (.slice none 0 0))
 generalize d:World.setCell _ _ _=wz;rw[d]at M2;clear d M1;have y_:=(M2.bk 0).ten;exact bodyPost_ret (v:= .tuple #[.agg #[(),(),((),()),(),(),(),(),(),(),((),())],str []]) (by simp[results,results5,go_sem, *]) rfl (show fH hZ [] w _ _ from⟨none,0,none,0,rfl,aRw _ _ _ _,aRw _ _ _ _,M2.ext⟩)
theorem aNy (h r:aM)(p:OA)(b:Nat)(q:OA)(c2:Nat)(l t:List UInt8)(a0 a1 a2 al:Int)(w:World)(ok:Bool)(aq:ok=false→ [110,111]=t)
  (HV:xB 12 #[.agg (aU3 h p b q c2)] w true)
  (HD:xC 11 #[str l] w fun w' e w''=>e= .returned (.tuple #[.agg #[a0,a1,a2],.bool true])∧Ext w' w'')
  (am:xC 16 #[.agg (aU3 h p b q c2),.agg #[a0,a1,a2]] w fun w' e w''=> ∃pa ca qa da,e= .returned (.tuple #[.agg #[r.aA,r.aB,.slice pa r.cells ca,r.free,r.step,r.aD,r.aF,r.aC,r.aG,.slice qa r.vs da],al,.bool ok])∧w''.ownsRow w' TI 1 (.slice pa r.cells ca) r.cells.length (ivs r.cells)∧w''.ownsRow w' TV 4 (.slice qa r.vs da) r.vs.length (r.vs.flatMap aE)∧Ext w' w'')
  (HN:Hid (ok=true→ ∀w',Ext w w'→U 17 #[al] w' (O (str t) w'))):
  U 5 #[.agg #[h.aA,h.aB,.slice p h.cells b,h.free,h.step,h.aD,h.aF,h.aC,h.aG,.slice q h.vs c2],str l] w (fH r t w):=by
 go_enter func5,ntmps5;go_wp2_with fail;refine Z (HV _ (((Mem.start w).c0 aK (aU3 h p b q c2)).c1 aK zT).ext) fun w1 ao=>?_
 have M1:=((((Mem.start w).c0 aK (aU3 h p b q c2)).c1 aK zT).adv ao)
 have s:=M1.hi 0;have u:=M1.hi 1;clear ao HV;go_wp2_with fail;refine Z (HD _ M1.ext) fun w2 ap=>?_
 have M2:=(M1.adv ap)
 clear M1 s u ap HD;have x:=M2.hi 0;have y:=M2.hi 1;go_upto_region 4 with fail;obtain⟨XD,n⟩: ∃a,a=w2.heap.size:=⟨_,rfl⟩
 rw[←n];have M3:=(M2.blkNew TDd #[a0,a1,a2] XD n.symm)
 generalize World.alloc _ _=v1 at M3⊢;clear M2 x y n;have aa:=M3.hi 0;have ab:=M3.hi 1;have ad:=M3.hi 2;have au:=(M3.bk 2).ten;have av:=(M3.bk 0).tri;go_wp2_with fail;clear au av;refine(am _ M3.ext).mono ?_;rintro e w5 ⟨p5,c5,q5,d5,rfl,ho,hq,hx⟩;have M4:=(M3.own2 hx ho hq (aRg _) (by decide))
 clear M3 aa ab ad hx ho hq am;have ae:=M4.hi 2;have af:=M4.hi 3;have ag:=M4.hi 4;go_upto_region 6 with fail;obtain⟨XR,o⟩: ∃a,a=w5.heap.size:=⟨_,rfl⟩
 rw[←o];have M5:=(M4.blkNew aK (aU3 r p5 c5 q5 d5) XR o.symm)
 generalize World.alloc _ _=v5 at M5⊢;clear M4 ae af ag o;have d:=M5.hi 0;have f:=M5.hi 3;have g:=M5.hi 4;have j:=M5.hi 5;cases ok with
 |false=>
  obtain⟨v0,v1,v2,v3,v4,v5,v6,v7,v8,v9⟩:=(M5.bk 0).ten;have f_:=(M5.bk 4).tenf;obtain⟨k,m⟩:=M5.nq 0 4;obtain rfl:=aq rfl;go_wp2;clear v0 v1 v2 v3 v4 v5 v6 v7 v8 v9 f_ k m d f g j;have M6:=(M5.put10 (i:=4) rfl (I r.aA) (I r.aB) (.slice p5 r.cells c5) (I r.free) (I r.step) (I r.aD) (I r.aF) (I r.aC) (I r.aG) (.slice q5 r.vs d5))
  generalize c:World.setCell _ _ _=wz;rw[c]at M6;clear c M5;have y_:=(M6.bk 4).ten;exact bodyPost_ret (v:= .tuple #[.agg #[r.aA,r.aB,.slice p5 r.cells c5,r.free,r.step,r.aD,r.aF,r.aC,r.aG,.slice q5 r.vs d5],str [110,111]]) (by simp[results,results5,go_sem, *]) rfl (show fH r [110,111] w _ _ from⟨_,_,_,_,rfl,(M6.ow 1),(M6.ow 2),M6.ext⟩)
 |true=>
  replace HN:=xQ (HN.out rfl);go_upto_region 8 with fail;refine rL (gl [gEq (.agg #[(r.aA:Int),(r.aB:Int),.slice p5 r.cells c5,(r.free:Int),(r.step:Int),(r.aD:Int),(r.aF:Int),(r.aC:Int),(r.aG:Int),.slice q5 r.vs d5]),gEq al,gEq (str t)]) 3 5 [(0,some 31),(1,some 32),(2,some 33)] ?steps ?fin
  case steps=>
   refine sC [] rfl (fun wi hx=> ?_) ?_
   ·intro K hK;have hX:Ext v5 wi:=xE;have a3:=((M5.bk 0).ext hX).ten;go_simp;exact hK _ _ ⟨.agg #[(r.aA:Int),(r.aB:Int),.slice p5 r.cells c5,(r.free:Int),(r.step:Int),(r.aD:Int),(r.aF:Int),(r.aC:Int),(r.aG:Int),.slice q5 r.vs d5],rfl,rfl,Ext.refl _⟩
   refine sS0 [] ?_;refine sC [(1,some 32)] rfl (fun wi hx=> ?_) StepsL.nil
   ·intro v1 h1 K hK;obtain rfl:=h1;go_simp;refine Z (HN _ (M5.ext.trans hx.of_drew)) fun w5 ar=>?_
    go_simp;exact hK _ _ ⟨str t,rfl,rfl,ar⟩
  case fin=>
   intro wi hx v0 h0 v1 h1 v2 h2;subst h0 h1 h2;have an:=hx.of_drew;obtain⟨w8,rfl⟩: ∃z,z=wi:=⟨_,rfl⟩
   have M6:=(M5.adv an)
   clear hx an M5 d f g j;have ah:=M6.hi 0;have ai:=M6.hi 3;have aj:=M6.hi 4;have ak:=M6.hi 5;have f_:=(M6.bk 4).tenf;try go_frame
   refine wpAny_ready (rs:= [3]) (by kernel_rfl) (by simp) ?_;refine AllReady.cons rfl (fun K hK=> ?_) AllReady.nil;go_simp;refine hK _ _ ?_;clear hK K f_ ah ai aj ak;have M7:=(M6.put10 (i:=4) rfl (I r.aA) (I r.aB) (.slice p5 r.cells c5) (I r.free) (I r.step) (I r.aD) (I r.aF) (I r.aC) (I r.aG) (.slice q5 r.vs d5))
   generalize c:World.setCell _ _ _=v8;rw[c]at M7;clear c M6;refine wpAny_ready (rs:= [4]) (by kernel_rfl) (by simp) ?_;refine AllReady.cons rfl (fun K hK=> ?_) AllReady.nil;go_simp;refine hK _ _ ?_;clear hK K;refine wpAny_done (by kernel_rfl) ?_ _;try go_frame
   have aw:=M7.hi 0;have ax:=M7.hi 3;have ay:=M7.hi 4;have az:=M7.hi 5;have y_:=(M7.bk 4).ten;go_wp2;exact bodyPost_ret (v:= .tuple #[.agg #[r.aA,r.aB,.slice p5 r.cells c5,r.free,r.step,r.aD,r.aF,r.aC,r.aG,.slice q5 r.vs d5],str t]) (by simp[results,results5,go_sem, *]) rfl (show fH r t w _ _ from⟨_,_,_,_,rfl,(M7.ow 1),(M7.ow 2),M7.ext⟩)
theorem aB1 (h r:aM)(p:OA)(b:Nat)(q:OA)(c2:Nat)(l t:List UInt8)(a0 a1 a2 a7:Int)(w:World)(en:Bool)(b1:(l== [101,110,100])=en)(a3:en=true→ [111,107]=t)
  (HV:xB 12 #[.agg (aU3 h p b q c2)] w true)
  (HD:xC 11 #[str l] w fun w' e w''=>e= .returned (.tuple #[.agg #[(),(),()],.bool false])∧Ext w' w'')
  (HE:Hid (en=true→ ∀w',Ext w w'→U 18 #[.agg (aU3 h p b q c2)] w' fun e w''=> ∃pa ca qa da,e= .returned (.agg #[r.aA,r.aB,.slice pa r.cells ca,r.free,r.step,r.aD,r.aF,r.aC,r.aG,.slice qa r.vs da])∧w''.ownsRow w' TI 1 (.slice pa r.cells ca) r.cells.length (ivs r.cells)∧w''.ownsRow w' TV 4 (.slice qa r.vs da) r.vs.length (r.vs.flatMap aE)∧Ext w' w''))
  (x:Hid (en=false→ ∀B w',B≤w'.heap.size→Ext w w'→U 19 #[.agg (aU3 h p b q c2)] w' fun e w''=> ∃pa ca qa da,e= .returned (.agg #[r.aA,r.aB,.slice pa r.cells ca,r.free,r.step,r.aD,r.aF,r.aC,r.aG,.slice qa r.vs da])∧w''.ownsRow B TI 1 (.slice pa r.cells ca) r.cells.length (ivs r.cells)∧w''.ownsRow B TV 4 (.slice qa r.vs da) r.vs.length (r.vs.flatMap aE)∧Ext w' w''))
  (HA:Hid (en=false→ ∀w',Ext w w'→U 20 #[.agg (aU3 h p b q c2),str l] w' (O (str t) w'))):
  U 5 #[.agg #[h.aA,h.aB,.slice p h.cells b,h.free,h.step,h.aD,h.aF,h.aC,h.aG,.slice q h.vs c2],str l] w (fH r t w):=by
 go_enter func5,ntmps5;go_wp2_with fail;refine Z (HV _ (((Mem.start w).c0 aK (aU3 h p b q c2)).c1 aK zT).ext) fun w1 ao=>?_
 have M1:=((((Mem.start w).c0 aK (aU3 h p b q c2)).c1 aK zT).adv ao)
 have ab:=M1.hi 0;have ad:=M1.hi 1;clear ao HV;go_wp2_with fail;refine Z (HD _ M1.ext) fun w2 ap=>?_
 have M2:=(M1.adv ap)
 clear M1 ab ad ap HD;have ae:=M2.hi 0;have af:=M2.hi 1;go_upto_region 4 with fail;obtain⟨XD,y⟩: ∃a,a=w2.heap.size:=⟨_,rfl⟩
 rw[←y];have M3:=(M2.blkNew TDd #[(),(),()] XD y.symm)
 generalize World.alloc _ _=v1 at M3⊢;clear M2 ae af y;have k:=M3.hi 0;have m:=M3.hi 1;have n:=M3.hi 2;cases en with
 |true=>
  obtain rfl:=a3 rfl;replace HE:=xQ (HE.out rfl);have a4:=(M3.bk 2).ten;go_wp2_with fail;clear a4;refine(HE _ M3.ext).mono ?_;rintro e w5 ⟨p5,c5,q5,d5,rfl,ho,hq,hx⟩;have M4:=(M3.own2 hx ho hq (aRg _) (by decide))
  clear M3 k m n hx ho hq HE;have ag:=M4.hi 2;have ah:=M4.hi 3;have ai:=M4.hi 4;have f_:=(M4.bk 3).tenf;go_wp2;clear f_ ag ah ai;have M5:=(M4.put10 (i:=3) rfl (I r.aA) (I r.aB) (.slice p5 r.cells c5) (I r.free) (I r.step) (I r.aD) (I r.aF) (I r.aC) (I r.aG) (.slice q5 r.vs d5))
  generalize j:World.setCell _ _ _=wz;rw[j]at M5;clear j M4;have y_:=(M5.bk 3).ten;exact bodyPost_ret (v:= .tuple #[.agg #[r.aA,r.aB,.slice p5 r.cells c5,r.free,r.step,r.aD,r.aF,r.aC,r.aG,.slice q5 r.vs d5],str [111,107]]) (by simp[results,results5,go_sem, *]) rfl (show fH r [111,107] w _ _ from⟨_,_,_,_,rfl,(M5.ow 0),(M5.ow 1),M5.ext⟩)
 |false=>
  replace x:=xQ (x.out rfl);replace HA:=xQ (HA.out rfl);go_upto_region 11 with fail;refine rL (gl [gEq (.agg #[(h.aA:Int),(h.aB:Int),.slice p h.cells b,(h.free:Int),(h.step:Int),(h.aD:Int),(h.aF:Int),(h.aC:Int),(h.aG:Int),.slice q h.vs c2]),(fun v w'=> ∃p c q d,v= .agg #[r.aA,r.aB,.slice p r.cells c,r.free,r.step,r.aD,r.aF,r.aC,r.aG,.slice q r.vs d]∧w'.ownsRow v1 TI 1 (.slice p r.cells c) r.cells.length (ivs r.cells)∧w'.ownsRow v1 TV 4 (.slice q r.vs d) r.vs.length (r.vs.flatMap aE)),gEq (.agg #[(h.aA:Int),(h.aB:Int),.slice p h.cells b,(h.free:Int),(h.step:Int),(h.aD:Int),(h.aF:Int),(h.aC:Int),(h.aG:Int),.slice q h.vs c2]),gEq (str l),gEq (str t)]) 5 7 [(0,some 38),(1,some 39),(2,some 40),(3,some 41),(4,some 42)] ?steps ?fin (hG:=(mU (bM (bR _) (bM (fun v w w' ⟨p,c,q,d,e,o1,o2⟩ hx=>⟨p,c,q,d,e,bI o1 hx,bI o2 hx⟩) (bM (bR _) (bM (bR _) (bM (bR _) (pX))))))))
  case steps=>
   refine sC [] rfl (fun wi hx=> ?_) ?_
   ·intro K hK;have hX:Ext v1 wi:=xE;have ay:=((M3.bk 2).ext hX).ten;go_simp;exact hK _ _ ⟨.agg #[(h.aA:Int),(h.aB:Int),.slice p h.cells b,(h.free:Int),(h.step:Int),(h.aD:Int),(h.aF:Int),(h.aC:Int),(h.aG:Int),.slice q h.vs c2],rfl,rfl,Ext.refl _⟩
   refine sC [(0,some 38)] rfl (fun wi hx=> ?_) ?_
   ·intro v0 h0 K hK;obtain rfl:=h0;go_simp;refine(x v1 _ hx.sz (M3.ext.trans hx.of_drew)).mono ?_;rintro e w5 ⟨a5,ax,a6,az,rfl,o5,v5,aa⟩;go_simp;exact hK _ _ ⟨_,rfl,⟨a5,ax,a6,az,rfl,o5,v5⟩,aa⟩
   refine sC [] rfl (fun wi hx=> ?_) ?_
   ·intro K hK;have hX:Ext v1 wi:=xE;have ay:=((M3.bk 2).ext hX).ten;go_simp;exact hK _ _ ⟨.agg #[(h.aA:Int),(h.aB:Int),.slice p h.cells b,(h.free:Int),(h.step:Int),(h.aD:Int),(h.aF:Int),(h.aC:Int),(h.aG:Int),.slice q h.vs c2],rfl,rfl,Ext.refl _⟩
   refine sS0 [] ?_;refine sC [(2,some 40),(3,some 41)] rfl (fun wi hx=> ?_) StepsL.nil
   ·intro v2 h2 v3 h3 K hK;subst h2 h3;go_simp;refine Z (HA _ (M3.ext.trans hx.of_drew)) fun w5 aa=>?_
    go_simp;exact hK _ _ ⟨str t,rfl,rfl,aa⟩
  case fin=>
   intro wi hx v0 h0 v1 h1 v2 h2 v3 h3 v4 h4;obtain rfl:=h0;obtain⟨aq,aj,ar,ak,rfl,al,am⟩:=h1;subst h2 h3 h4;have an:=hx.of_drew;obtain⟨w8,rfl⟩: ∃z,z=wi:=⟨_,rfl⟩
   have g:=(M3.own2 an al am (aRg _) (by decide))
   clear hx an al am M3 k m n;have o:=g.hi 2;have s:=g.hi 3;have u:=g.hi 4;have f_:=(g.bk 3).tenf;try go_frame
   refine wpAny_ready (rs:= [5]) (by kernel_rfl) (by simp) ?_;refine AllReady.cons rfl (fun K hK=> ?_) AllReady.nil;go_simp;refine hK _ _ ?_;clear hK K f_ o s u;have f:=(g.put10 (i:=3) rfl (I r.aA) (I r.aB) (.slice aq r.cells aj) (I r.free) (I r.step) (I r.aD) (I r.aF) (I r.aC) (I r.aG) (.slice ar r.vs ak))
   generalize j:World.setCell _ _ _=v8;rw[j]at f;clear j g;refine wpAny_ready (rs:= [6]) (by kernel_rfl) (by simp) ?_;refine AllReady.cons rfl (fun K hK=> ?_) AllReady.nil;go_simp;refine hK _ _ ?_;clear hK K;refine wpAny_done (by kernel_rfl) ?_ _;try go_frame
   have au:=f.hi 2;have av:=f.hi 3;have aw:=f.hi 4;have y_:=(f.bk 3).ten;go_wp2;exact bodyPost_ret (v:= .tuple #[.agg #[r.aA,r.aB,.slice aq r.cells aj,r.free,r.step,r.aD,r.aF,r.aC,r.aG,.slice ar r.vs ak],str t]) (by simp[results,results5,go_sem, *]) rfl (show fH r t w _ _ from⟨_,_,_,_,rfl,(f.ow 0),(f.ow 1),f.ext⟩)
theorem aEq (h:aM)(p:OA)(n c:Nat)(q:OA)(m c2:Nat)(l:List UInt8)(w:World)(hi:IsHouse w h p n c q m c2)(hl:l.length≤1048576)(f:Env w)(hE:BitTab w):
  U 5 #[bG h p n c q m c2,str l] w (fH (mA h l).1 (mA h l).2 w):=by
 have i:=hi.clen;have j:=hi.vlen;subst i j;have HV:=xQ fun(w':World) (hx:Ext w w')=>iN h p _ c q _ c2 w' (hi.ext hx)
 unfold mA;by_cases hok:aS h=true
 ·rw[if_pos hok];rw[hok]at HV;have hs:=eL hok;have HD:=xQ fun(w':World) (hx:Ext w w')=>tA l w' (by omega) (f.ext hx)
  unfold kI at HD;cases hd:bN l with
  |some d=>
   obtain⟨k,a,b⟩:=d;rw[hd]at HD;dsimp only;have HO:=xQ fun(w':World) (hx:Ext w w')=>aPg h k a b p _ c q _ c2 w' (hi.ext hx) (hE.ext hx)
   unfold aLm at HO;have g:=aIz hok k a b;generalize doR h k a b=x at HO g⊢;obtain⟨r,s,ok⟩:=x;dsimp only at HO g⊢;refine aNy h r p c q c2 l _ k a b s w ok ?_ HV HD HO ?_
   ·rintro rfl;rfl
   rintro rfl;have g:=g rfl;exact fun w' hx=>pA _ w' g.1 (by omega) (f.ext hx)
  |none=>
   rw[hd]at HD;dsimp only;by_cases he:l= [101,110,100]
   ·rw[if_pos he];refine aB1 h (aFc h) p c q c2 l [111,107] 0 0 0 0 w true (by simp[he]) (fun _=>rfl) HV HD (fun _ w' hx=> ?_) (fun h0=>by cases h0) (fun h0=>by cases h0);have:=aCi h p _ c q _ c2 w' (by omega) (hi.ext hx) (hE.ext hx);unfold RetHouse at this;exact this
   rw[if_neg he];refine aB1 h h p c q c2 l (aD2 h l) 0 0 0 0 w false (by simp[he]) (fun h0=>by cases h0) HV HD (fun h0=>by cases h0) (fun _ B w' hB hx=> ?_) (fun _ w' hx=>aPh h hok p _ c q _ c2 l w' (hi.ext hx) (f.ext hx) hl);have:=nD h p _ c q _ c2 w' (by omega) (by omega) (hi.ext hx);unfold RetHouse at this;refine this.mono ?_;rintro e t ⟨pa,ca,qa,da,rfl,o1,o2,o⟩;exact⟨pa,ca,qa,da,rfl,dL o1 hB,dL o2 hB,o⟩
 rw[if_neg hok];rw[show aS h=false by simpa using hok]at HV;exact aPi h h p c q c2 l [] 0 0 0 0 w HV
theorem aBy (p q:OA)(n m c1 c2:Nat)(xs ys:List Int)(w:World)(h1:Sl w p n c1 1 (ivs xs))(h2:Sl w q m c2 1 (ivs ys)):
  U 78 #[.slice p n c1,.slice q m c2] w fun e w'=> ∃b:Bool,e= .returned (.bool b)∧(b=true↔xs=ys)∧Ext w w':=by
 have hn:=h1.bd;have hm:=h2.bd;have l1:=xQ h1.ilen;have l2:=xQ h2.ilen;have H1:=xQ h1;have H2:=xQ h2;clear h1 h2;by_cases hnm:n=m
 ·subst hnm;go_enter func78,ntmps78;go_wp2;go_loopw [5] (fun i wr=> ∃k:Nat,k≤n∧i=I k∧xs.take k=ys.take k∧Ext w wr) (fun i _=>n-(intOf i).toNat)
  case atStart=>exact⟨0,aRo _,rfl,rfl,Ext.refl _⟩
  case round=>
   obtain⟨k,hk,rfl,ht,hE⟩:=hrel;have HT:=xQ ht;clear ht;by_cases hlt:k<n
   ·obtain⟨b,j,x,rfl,hx,hb,d⟩:=(H1.out.ext hE).int_at hlt;obtain⟨b2,g,y,rfl,hy,h,c⟩:=(H2.out.ext hE).int_at hlt;have HX:=xQ hx;have HY:=xQ hy;clear hx hy;have i1:(0:Int)≤(k:Int):=by omega
    have i2:(k:Int)<(n:Int):=by omega
    by_cases hxy:x=y
    ·have f:Hid (xs.take (k+1)=ys.take (k+1)):=by
      show _=_;rw[aX HX.out,aX HY.out,HT.out,hxy]
     subst hxy;go_wp2;go_quiet (fail);go_wp2;go_roundw
     case rel=>exact⟨k+1,by omega,by go_num,f.out,xE⟩
     case measure=>simp[intOf];omega
    have e1:(x==y)=false:=by simpa using hxy
    have a:Hid (xs≠ys):=by rintro rfl;have:=HX.out.symm.trans HY.out;injection this with this;exact hxy this
    clear hxy;go_wp2;go_quiet (fail);go_wp2;go_ret;exact⟨false,rfl,iff_of_false Bool.false_ne_true a.out,xE⟩
   have a:Hid (xs=ys):=by have:=HT.out;rw[aRn (by rw[l1.out];omega),aRn (by rw[l2.out];omega)]at this;exact this
   go_wp2;go_ret;exact⟨true,rfl,iff_of_true rfl a.out,hE⟩
 have e1:((n:Int)==(m:Int))=false:=by simp;omega
 have a:Hid (xs≠ys):=by rintro rfl;exact hnm (l1.out.symm.trans l2.out)
 go_enter func78,ntmps78;go_wp2;go_ret;exact⟨false,rfl,iff_of_false Bool.false_ne_true a.out,xE⟩
theorem aBz (aA aB c a:Int)(p q:OA)(n m c1 c2:Nat)(xs ys:List Int)(w:World)(h1:Sl w p n c1 1 (ivs xs))(h2:Sl w q m c2 1 (ivs ys)):
  U 27 #[aH aA aB p n c1,aH c a q m c2] w fun e w'=> ∃b:Bool,e= .returned (.bool b)∧(b=true↔aA=c∧aB=a∧xs=ys)∧Ext w w':=by
 have H1:=xQ h1;have H2:=xQ h2;clear h1 h2;by_cases hw:aA=c
 ·subst hw;by_cases hd:aB=a
  ·subst hd;go_enter func27,ntmps27;go_wp2_with fail;refine(aBy p q n m c1 c2 xs ys _ (H1.out.ext xE) (H2.out.ext xE)).mono ?_;rintro e w1 ⟨b,rfl,hb,hx⟩;have HB:=xQ hb;clear hb;go_wp2;go_ret;exact⟨b,rfl,by rw[HB.out];simp,xE⟩
  have e1:(aB==a)=false:=by simpa using hd
  have HN:=xQ hd;clear hd;go_enter func27,ntmps27;go_wp2;go_ret;exact⟨false,rfl,iff_of_false Bool.false_ne_true (fun e=>HN e.2.1),xE⟩
 have e1:(aA==c)=false:=by simpa using hw
 have HN:=xQ hw;clear hw;go_enter func27,ntmps27;go_wp2;go_ret;exact⟨false,rfl,iff_of_false Bool.false_ne_true (fun e=>HN e.1),xE⟩
theorem gW (a b:Int):(a==b)=false∧ ¬a=b∨a=b:=by
 by_cases h:a=b
 ·exact .inr h
 exact .inl ⟨by simpa using h,h⟩
theorem zQ (h g:aM)(p1:OA)(n1 c1:Nat)(q1:OA)(m1 d1:Nat)(p2:OA)(n2 c2:Nat)(q2:OA)(m2 d2:Nat)(w:World)(t:IsHouse w h p1 n1 c1 q1 m1 d1)(u:IsHouse w g p2 n2 c2 q2 m2 d2):
  U 7 #[bG h p1 n1 c1 q1 m1 d1,bG g p2 n2 c2 q2 m2 d2] w fun e w'=> ∃b:Bool,e= .returned (.bool b)∧(b=true↔h=g)∧Ext w w':=by
 have hm:=t.vs.bd;have ad:=u.vs.bd;have v:=xQ t.vlen;have x:=xQ u.vlen;have H1:=xQ t.cells;have H2:=xQ u.cells;have V1:=xQ t.vs;have V2:=xQ u.vs;clear t u;obtain⟨aA,aB,s,q,r,aD,aF,aC,aG,vs⟩:=h;obtain⟨f,d,p,m,n,c,l,a,j,o⟩:=g;dsimp only at v x H1 H2 V1 V2;go_enter func7,ntmps7;go_wp2_with fail;refine(aBz aA aB f d p1 p2 n1 n2 c1 c2 s p _ (H1.out.ext (((Mem.start w).c0 aK #[aA,aB,.slice p1 n1 c1,q,r,aD,aF,aC,aG,.slice q1 m1 d1]).c1 aK #[f,d,.slice p2 n2 c2,m,n,c,l,a,j,.slice q2 m2 d2]).ext) (H2.out.ext (((Mem.start w).c0 aK #[aA,aB,.slice p1 n1 c1,q,r,aD,aF,aC,aG,.slice q1 m1 d1]).c1 aK #[f,d,.slice p2 n2 c2,m,n,c,l,a,j,.slice q2 m2 d2]).ext)).mono ?_;rintro e w1 ⟨b,rfl,hb,hx⟩;have HB:=xQ hb;clear hb;have M1:=((((Mem.start w).c0 aK #[aA,aB,.slice p1 n1 c1,q,r,aD,aF,aC,aG,.slice q1 m1 d1]).c1 aK #[f,d,.slice p2 n2 c2,m,n,c,l,a,j,.slice q2 m2 d2]).adv hx)
 clear hx;obtain⟨a0,a1,a2,a3,a4,a5,a6,a7,a8,a9⟩:=(M1.bk 1).ten;obtain⟨b0,b1,b2,b3,b4,b5,b6,b7,b8,b9⟩:=(M1.bk 0).ten;cases b with
 |false=>
  have HN:Hid (¬(aA=f∧aB=d∧s=p)):=fun e=>absurd (HB.out.2 e) Bool.false_ne_true
  go_wp2;go_ret;exact⟨false,rfl,iff_of_false Bool.false_ne_true (fun e=>HN (by injection e;exact⟨‹_›,‹_›,‹_›⟩)),M1.ext⟩
 |true=>
  obtain⟨rfl,rfl,rfl⟩:=HB.out.1 rfl;clear HB;rcases gW q m with⟨x1,hn⟩|rfl
  ·have HN:=xQ hn;clear hn;go_wp2;go_ret;exact⟨false,rfl,iff_of_false Bool.false_ne_true (fun e=>HN (by injection e)),M1.ext⟩
  rcases gW r n with⟨x1,hn⟩|rfl
  ·have HN:=xQ hn;clear hn;go_wp2;go_ret;exact⟨false,rfl,iff_of_false Bool.false_ne_true (fun e=>HN (by injection e)),M1.ext⟩
  rcases gW aD c with⟨x1,hn⟩|rfl
  ·have HN:=xQ hn;clear hn;go_wp2;go_ret;exact⟨false,rfl,iff_of_false Bool.false_ne_true (fun e=>HN (by injection e)),M1.ext⟩
  rcases gW aF l with⟨x1,hn⟩|rfl
  ·have HN:=xQ hn;clear hn;go_wp2;go_ret;exact⟨false,rfl,iff_of_false Bool.false_ne_true (fun e=>HN (by injection e)),M1.ext⟩
  rcases gW aC a with⟨x1,hn⟩|rfl
  ·have HN:=xQ hn;clear hn;go_wp2;go_ret;exact⟨false,rfl,iff_of_false Bool.false_ne_true (fun e=>HN (by injection e)),M1.ext⟩
  rcases gW aG j with⟨x1,hn⟩|rfl
  ·have HN:=xQ hn;clear hn;go_wp2;go_ret;exact⟨false,rfl,iff_of_false Bool.false_ne_true (fun e=>HN (by injection e)),M1.ext⟩
  by_cases hm:m1=m2
  ·subst hm;go_wp2;go_loopw [5] (fun i wr=> ∃k:Nat,k≤m1∧i=I k∧vs.take k=o.take k∧Ext w1 wr) (fun i _=>m1-(intOf i).toNat)
   case atStart=>exact⟨0,aRo _,rfl,rfl,Ext.refl _⟩
   case round=>
    clear a0 a1 a2 a3 a4 a5 a6 a7 a8 a9 b0 b1 b2 b3 b4 b5 b6 b7 b8 b9;obtain⟨k,hk,rfl,ht,hE⟩:=hrel;have HT:=xQ ht;have M2:=(M1.adv hE)
    clear ht;have a9:=(M2.bk 1).cl 9;have b9:=(M2.bk 0).cl 9;by_cases hlt:k<m1
    ·obtain⟨b,ae,x0,x1,x2,x3,rfl,hx,hb,g0,g1,g2,g3⟩:=eJ (V1.out.ext M2.ext) hlt;obtain⟨b',aa,y0,y1,y2,y3,rfl,hy,ab,k0,k1,k2,k3⟩:=eJ (V2.out.ext M2.ext) hlt;have HX:=xQ hx;have HY:=xQ hy;clear hx hy;have i1:(0:Int)≤(k:Int):=by omega
     have i2:(k:Int)<(m1:Int):=by omega
     have HV:Hid (vs=o→(x0,x1,x2,x3)=(y0,y1,y2,y3)):=fun e=>by have:=HX.out;rw[e,HY.out]at this;injection this with this;exact this.symm
     rcases gW x0 y0 with⟨z1,hn⟩|rfl
     ·have HN:Hid (¬vs=o):=fun e=>hn (by have:=HV e;simp only[aS3]at this;exact this.1)
      clear hn HV;go_wp2;go_quiet (fail);go_wp2;go_ret;exact⟨false,rfl,iff_of_false Bool.false_ne_true (fun e=>HN (by injection e)),Ext.drewN M2.ext _⟩
     rcases gW x1 y1 with⟨z1,hn⟩|rfl
     ·have HN:Hid (¬vs=o):=fun e=>hn (by have:=HV e;simp only[aS3]at this;exact this.2.1)
      clear hn HV;go_wp2;go_quiet (fail);go_wp2;go_ret;exact⟨false,rfl,iff_of_false Bool.false_ne_true (fun e=>HN (by injection e)),Ext.drewN M2.ext _⟩
     rcases gW x2 y2 with⟨z1,hn⟩|rfl
     ·have HN:Hid (¬vs=o):=fun e=>hn (by have:=HV e;simp only[aS3]at this;exact this.2.2.1)
      clear hn HV;go_wp2;go_quiet (fail);go_wp2;go_ret;exact⟨false,rfl,iff_of_false Bool.false_ne_true (fun e=>HN (by injection e)),Ext.drewN M2.ext _⟩
     rcases gW x3 y3 with⟨z1,hn⟩|rfl
     ·have HN:Hid (¬vs=o):=fun e=>hn (by have:=HV e;simp only[aS3]at this;exact this.2.2.2)
      clear hn HV;go_wp2;go_quiet (fail);go_wp2;go_ret;exact⟨false,rfl,iff_of_false Bool.false_ne_true (fun e=>HN (by injection e)),Ext.drewN M2.ext _⟩
     have z:Hid (vs.take (k+1)=o.take (k+1)):=by show _=_;rw[aX HX.out,aX HY.out,HT.out]
     clear HV;go_wp2;go_quiet (fail);go_wp2;go_roundw
     case rel=>exact⟨k+1,by omega,by go_num,z.out,xE⟩
     case measure=>simp[intOf];omega
    have y:Hid (vs=o):=by have:=HT.out;rw[aRn (by rw[v.out];omega),aRn (by rw[x.out];omega)]at this;exact this
    go_wp2;go_ret;exact⟨true,rfl,iff_of_true rfl (by rw[y.out]),M2.ext⟩
  have e1:((m1:Int)==(m2:Int))=false:=by simp;omega
  have HN:Hid (¬vs=o):=fun e=>hm (by rw[←v.out,←x.out,e])
  go_wp2;go_ret;exact⟨false,rfl,iff_of_false Bool.false_ne_true (fun e=>HN (by injection e)),M1.ext⟩
theorem fL (h:aM)(p1:OA)(n1 c1:Nat)(q1:OA)(m1 d1:Nat)(p2:OA)(n2 c2:Nat)(q2:OA)(m2 d2:Nat)(w:World)(a:IsHouse w h p1 n1 c1 q1 m1 d1)(c:IsHouse w h p2 n2 c2 q2 m2 d2):
  U 7 #[bG h p1 n1 c1 q1 m1 d1,bG h p2 n2 c2 q2 m2 d2] w (O (.bool true) w):=by
 refine(zQ h h p1 n1 c1 q1 m1 d1 p2 n2 c2 q2 m2 d2 w a c).mono ?_;rintro e w' ⟨b,rfl,hb,hx⟩;rw[hb.2 rfl];exact⟨rfl,hx⟩
theorem aH2 (p:OA)(c:Nat)(q:OA)(d:Nat)(w:World)(hi:IsHouse w hZ p 0 c q 0 d):
  U 9 #[bG hZ p 0 c q 0 d] w (O (.bool true) w):=by
 have H:=xQ (fun w' (hx:Ext w w')=>fL hZ p 0 c q 0 d none 0 0 none 0 0 w' (hi.ext hx) ⟨Sl.nil w' 1,Sl.nil w' 4⟩);clear hi;unfold hZ at*;go_enter func9,ntmps9;go_wp2_with fail;refine Z (H _ xE) fun w1 a=>?_
 go_wp2;go_ret;exact⟨rfl,xE⟩
end
theorem aLb (n:Nat)(c:UInt8)(h:c∈Lib.decDigits n):48≤c.toNat∧c.toNat≤57:=by have:=(aI4 n n (aRg _)).1;rw[aSg]at this;have:=this c h;simp[eK]at this;omega
end Go.Proofs.YtomgkjinhnkpnaaGreatDoor
