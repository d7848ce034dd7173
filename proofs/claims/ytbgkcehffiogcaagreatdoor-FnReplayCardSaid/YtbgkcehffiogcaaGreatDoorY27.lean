/-
  Texts of this proof, packed (@packed).
-/
import Derived.Test.YtbgkcehffiogcaaGreatDoorY26
namespace Go.Proofs.YtbgkcehffiogcaaGreatDoor
open Go.RowKit Go.Proofs.Tryz
set_option linter.unusedSimpArgs false
set_option linter.unusedVariables false
set_option maxHeartbeats 8000000
set_option maxRecDepth 100000
theorem aM1 (aA aB:Int)(p:OA)(n a u:Nat)(w:World)(hg:Hid ((aA,n)∈jE))(bh:4≤n)(hn:n≤12)(hu:u<n)
  (HV:xB 41 #[aH aA aB p n a] w true)
  (HH:Hid (∀(k:Nat),k<n→ ∀w',U 110 #[aH aA aB p n a,k] w' (O (.bool true) w')))
  (HF:xC 168 #[aH aA aB p n a,(),(-1:Int)] w fun w' e w''=> ∃D,(D.length=n∧ ∀v,v<n→D.getD v 0=aV aA v 0)∧bN D w' e w'')
  (HC:Hid (∀(k:Nat),k<n→ ∀w',Ext w w'→U 169 #[aH aA aB p n a,k] w' (bN (bC (aQ aA n k)) w'))):
  U 136 #[aH aA aB p n a,u,(),(-1:Int)] w (bN (bC (cX aA n 12 u)) w):=by
 have a1:(0:Int)≤(u:Int):=by omega
 have a2:(u:Int)<(n:Int):=by omega
 have a3:((-1:Int)==(u:Int))=false:=by first|(simp;done)|(simp;omega)
 have a4:decide ((n:Int)≤ -1)=false:=by first|(simp;done)|(simp;omega)
 have a0:Hid (∀w',U 110 #[aH aA aB p n a,()] w' (O (.bool true) w')):=HH.out 0 (by omega);have aa:=xQ (bU hg.out hu);go_enter func136,ntmps136;go_wp2_with fail;have M0:=((Mem.start w).c0 TH3 #[aA,aB,.slice p n a])
 refine Z (HV _ M0.ext) fun w1 av=>?_
 have M1:=(M0.adv av)
 obtain⟨b0,b1,b2⟩:=(M1.bk 0).cells3;clear av M0;go_wp2_with fail;refine Z (HH u hu _) fun w2 aw=>?_
 have M2:=(M1.adv aw)
 clear b0 b1 b2 aw M1;obtain⟨b0,b1,b2⟩:=(M2.bk 0).cells3;go_wp2_with fail;refine Z (a0 _) fun w3 ax=>?_
 have M3:=(M2.adv ax)
 clear b0 b1 b2 ax M2;obtain⟨b0,b1,b2⟩:=(M3.bk 0).cells3;go_wp2_with fail;refine(HF _ M3.ext).mono ?_;rintro e w4 ⟨D,⟨ag,am⟩,q2,c2,rfl,o4,ay⟩;rw[ag]at o4⊢;have HD:=xQ ag;have ad:=xQ am;have M4:=(M3.call ay o4)
 clear b0 b1 b2 ay o4 M3 ag am;obtain⟨gF,rfl,a7,a8⟩:=M4.so 0;have cU:w4.cell? ⟨gF,u,none⟩=some (I (aV aA u 0)):=by have h1:=(dD (D:=D) (v:=u) (by rw[HD.out];exact hu)).1;rw[ad u hu]at h1;have:=(M4.ow 0).cellAt u (by omega);rw[this];simp only[ivs,aQg,h1,aQs]
 have a5:decide (aV aA (u:Int) 0<0)=false:=by have:=aa.out.1;first|(simp;done)|(simp;omega)
 have M5:=(M4.lit TI 1 1 w4 #[u] rfl rfl (by simp[maxLen]))
 go_wp2;clear cU M4 a7 a8;go_loopw [10,11] (fun o v wr=> ∃(x f:Nat) (pre:List Nat) (q:OA) (l lc:Nat),o= .slice q l lc∧v=I x∧x<n∧aV aA x 0≤f∧pre++cX aA n f x=cX aA n 12 u∧l=pre.length+1∧Mem w wr [aJ w TI 1 (q) (l) (lc) (ivs (bC (pre++ [x]))),aJ w TI 1 (some ⟨gF,0,none⟩) (n) (c2) (ivs (D)),aI w w TH3 #[aA,aB,.slice p n a]]) (fun _ v _=>(aV aA (intOf v) 0).toNat)
 case atStart=>exact⟨u,12,[],some ⟨w4,0,none⟩,1,1,rfl,rfl,hu,by have:=aa.out.2.1;omega,rfl,rfl,M5⟩
 case round=>
  clear M5;obtain⟨x,f,pre,q,l,lc,rfl,rfl,hx,hf,s,hl,hM⟩:=hrel;have HM:=hM;have HW:=xQ s;have ae:=xQ (bU hg.out hx);have ak:=xQ hf;have bf:l≤12:=by have h1:=congrArg List.length s;have h2:=mY hg.out f x hx hf;have h3:=mY hg.out 12 u hu (by have:=aa.out.2.1;omega);have h4:=aa.out.2.1;have h5:=ae.out.1;rw[aQ3]at h1;omega
  have al:=xQ hl;clear hM s hf hl;by_cases h0:x=0
  ·have t0:((x:Int)!=0)=false:=by simp[h0]
   have ab:Hid (pre++ [x]=cX aA n 12 u):=by show _=_;rw[←HW.out];subst h0;cases f<;>simp[cX]
   clear h0;go_wp2;go_ret;exact dX (by rw[←ab.out];have:=al.out;simp[bC];omega) (by rw[←ab.out];exact HM.ow 0) HM.ext
  have t0:((x:Int)!=0)=true:=by simp[h0]
  obtain⟨J,a9,z,ah⟩:=aHm hg.out hx h0;obtain⟨e1,e2,e3⟩:=ae.out.2.2.2.1 h0;have be:=xQ h0;obtain⟨y,hy⟩: ∃y,y=lL aA n x:=⟨_,rfl⟩
  rw[←hy]at z e1 e2 e3;have HY:=xQ hy;clear hy h0;obtain⟨nb,m⟩: ∃nb,nb=aQ aA n x:=⟨_,rfl⟩
  rw[←m]at a9 z ah;have aj:Hid (∀w',Ext w w'→U 169 #[aH aA aB p n a,x] w' (bN (bC nb) w')):=by rw[m];exact HC x hx
  have a6:=xQ m;have bc:nb.length≤12:=by rw[m];exact aQ4 (aR4 _ _) (by simp;omega)
  have an:=xQ z;have ao:=xQ ah;have t:=xQ e3;clear m z ah e2 e3;have aq:(bC nb).length=nb.length:=by simp[bC]
  obtain⟨b0,b1,b2⟩:=(HM.bk 2).cells3;go_wp2_with fail;clear b0 b1 b2;refine(aj _ HM.ext).mono ?_;rintro e w5 ⟨q5,c5,rfl,o5,az⟩;rw[aq]at o5⊢;have M6:=(HM.call az o5)
  clear o5 az aj HM;obtain⟨gN,rfl,ba,bb⟩:=M6.so 0;clear ba bb;go_wp2;go_loopw [11,69] (fun cc i wz=> ∃j:Nat,j≤J∧cc=I x∧i=I j∧Mem w wz [aJ w TI 1 (some ⟨gN,0,none⟩) (nb.length) (c5) (ivs (bC nb)),aJ w TI 1 (q) (l) (lc) (ivs (bC (pre++ [x]))),aJ w TI 1 (some ⟨gF,0,none⟩) (n) (c2) (ivs (D)),aI w w TH3 #[aA,aB,.slice p n a]]) (fun _ i _=>J-(intOf i).toNat)
  case atStart=>exact⟨0,aQ1 _,rfl,rfl,M6⟩
  case round=>
   clear M6;obtain⟨j,hj,rfl,rfl,hM⟩:=hrel;have HM:=hM;clear hM;obtain⟨v,hv⟩: ∃v,nb[j]? =some v:=⟨_,aPw (by omega)⟩
   have r:v<n:=(bR.1 (by rw[←a6.out];exact aPz hv:v∈aQ aA n x)).1;have af:=xQ hv;have g:=(dD (D:=D) (v:=v) (by rw[HD.out];exact r)).1;have h:=(dD (D:=D) (v:=x) (by rw[HD.out];exact hx)).1;rw[ad v r]at g;rw[ad x hx]at h;obtain⟨dv,b⟩: ∃d,d=aV aA v 0:=⟨_,rfl⟩
   obtain⟨dx,c⟩: ∃d,d=aV aA x 0:=⟨_,rfl⟩
   have gv:=bU hg.out r;have gx:=ae.out;rw[←b]at g gv;rw[←c]at h gx;have m1:(0:Int)≤(j:Int):=by omega
   have m2:(j:Int)<(nb.length:Int):=by omega
   have m3:(0:Int)≤(v:Int):=by omega
   have m4:(v:Int)<(n:Int):=by omega
   have m5:(0:Int)≤(x:Int):=by omega
   have m6:(x:Int)<(n:Int):=by omega
   have w7:IntKind.i64.wrap (dx-1)=dx-1:=aPx _ (by omega);have cn:wr.cell? ⟨gN,j,none⟩=some (I v):=by have:=(HM.ow 0).cellAt j (by omega);rw[this];simp[ivs,bC,af.out]
   have cf:wr.cell? ⟨gF,v,none⟩=some (I dv):=by have:=(HM.ow 2).cellAt v (by omega);rw[this];simp only[ivs,aQg,g,aQs]
   have cx:wr.cell? ⟨gF,x,none⟩=some (I dx):=by have:=(HM.ow 2).cellAt x (by omega);rw[this];simp only[ivs,aQg,h,aQs]
   by_cases hjJ:j<J
   ·have ar:(dv==dx-1)=false:=by
     have:=ao.out j v hjJ af.out;rw[←b,←c]at this;exact beq_eq_false_iff_ne.2 this
    clear g h b c gv gx;go_wp2;go_quiet (fail);go_wp2;go_roundw
    case rel=>exact⟨j+1,by omega,rfl,by go_num,HM.adv xE⟩
    case measure=>simp[intOf];omega
   obtain rfl:j=J:=by omega
   have bd:v=y:=by have h1:=af.out;rw[an.out]at h1;injection h1 with h1;exact h1.symm
   subst bd;have ar:(dv==dx-1)=true:=by have:=t.out;rw[←b,←c]at this;simp[this]
   have ap:=xQ (show 1≤aV aA (x:Int) 0 by have h1:=(bU hg.out r).1;have h2:=t.out;omega);clear g h b gv;go_wp2;go_quiet (fail);generalize au:World.drewN _ _=wq;have M7:=(show Mem w wq [aJ w TI 1 (q) (l) (lc) (ivs (bC (pre++ [x]))),aJ w TI 1 (some ⟨gF,0,none⟩) (n) (c2) (ivs (D)),aI w w TH3 #[aA,aB,.slice p n a]]from by rw[←au];exact(HM.adv xE).pick [1,2,3] (by decide) rfl)
   clear au cn cf cx HM;go_wp2_with (at_builtin;go_loud (refine cS gH rfl _ _ rfl (M7.adv ((Ext.refl _).alloc (.cells #[v] TI))) 0 rfl rfl (ivs [(v:Int)]) rfl (dW _ _ _ 1 1 _ (by first|rfl|simp) (by first|rfl|simp) (by simp[maxLen])) (fun u hu=>by obtain rfl:=aQh.1 hu;rfl) (by omega) ?_;intro q7 c7 w6 M8));have M9:=(show Mem w w6 [aJ w TI 1 (q7) (l+1) (c7) (ivs (bC (pre++ [x]++ [v]))),aJ w TI 1 (some ⟨gF,0,none⟩) (n) (c2) (ivs (D)),aI w w TH3 #[aA,aB,.slice p n a]]from by rw[show ivs (bC (pre++ [x]++ [v]))=ivs (bC (pre++ [x]))++ivs [(v:Int)] by simp[ivs,bC]];exact M8)
   clear M8 M7;have bg:0<f:=by have:=ak.out;have:=ap.out;omega
   obtain⟨f',rfl⟩: ∃f',f=f'+1:=⟨f-1,by omega⟩
   have ai:Hid ((pre++ [x])++cX aA n f' v=cX aA n 12 u):=by
    show _=_;rw[←HW.out]
    conv=>rhs;rw[cX,if_neg be.out,←HY.out]
    simp
   go_wp2;go_roundw
   case rel=>exact⟨v,f',pre++ [x],q7,l+1,c7,rfl,by go_num,r,by have:=t.out;have:=ak.out;omega,ai.out,by have:=al.out;simp;omega,M9⟩
   case measure=>simp[intOf];have:=t.out;have:=ap.out;omega
theorem aP1 (aA aB:Int)(p:OA)(n a u:Nat)(xs:List Int)(w:World)(hS:Sl w p n a 1 (ivs xs))(b:aN aA aB xs=true)(hu:u<n):
  U 136 #[aH aA aB p n a,u,(),(-1:Int)] w (bN (bC (cX aA n 12 u)) w):=by
 have hl:=hS.ilen;obtain⟨g1,g2,g3,g4,g5,g6,g7,g8,g9⟩:=bQ b;have hg:=rK (n:=n) g1 g2 g3 g4 (by omega);refine aM1 aA aB p n a u w hg (by omega) (by omega) hu (fun w' hx=>by have:=fS aA aB p n a xs w' (hS.ext hx);rwa[b]at this) (fun k hk w'=> ?_) (fun w' hx=> ?_) (fun k hk w' hx=> ?_)
 ·have:=jD aA aB k p n a w' (by omega);rwa[decide_eq_true (⟨by omega,by omega⟩:0≤(k:Int)∧(k:Int)<n)]at this
 ·refine(aP2 aA aB p n a 0 (-1) xs w' (hS.ext hx) b (by omega)).mono ?_;rintro e w2 ⟨D,hD,hr⟩;exact⟨D,⟨hD.len,fun v hv=>aAs hg (aEv aA n) hD hv⟩,hr⟩
 have:=aGx aA aB k p n a xs w' (hS.ext hx) b (by omega) (by omega);rwa[lI]at this
theorem aMh (aA aB c d A:Int)(p:OA)(n a:Nat)(w:World)(HV:xB 41 #[aH aA aB p n a] w true)(HF:Hid (∀w',U 110 #[aH aA aB p n a,c] w' (O (.bool true) w')))(HT:Hid (∀w',U 110 #[aH aA aB p n a,d] w' (O (.bool true) w')))
  (HA:Hid (∀w',U 111 #[aA,c,d] w' (O (I A) w'))):
  U 170 #[aH aA aB p n a,c,d] w (O (I A) w):=by
 go_enter func170,ntmps170;go_wp2_with fail;refine Z (HV _ ((Mem.start w).c0 TH3 #[aA,aB,.slice p n a]).ext) fun w1 b=>?_
 have M1:=(((Mem.start w).c0 TH3 #[aA,aB,.slice p n a]).adv b)
 clear b;obtain⟨h0,h1,h2⟩:=(M1.bk 0).tri;go_wp2_with fail;clear h0 h1 h2;refine Z (HF _) fun w2 f=>?_
 have M2:=(M1.adv f)
 clear M1 f;obtain⟨h0,h1,h2⟩:=(M2.bk 0).tri;go_wp2_with fail;clear h0 h1 h2;refine Z (HT _) fun w3 g=>?_
 have M3:=(M2.adv g)
 clear M2 g;obtain⟨h0,h1,h2⟩:=(M3.bk 0).tri;go_wp2_with fail;clear h0 h1 h2;refine Z (HA _) fun w4 h=>?_
 have M4:=(M3.adv h)
 clear M3 h;go_wp2;go_ret;exact⟨rfl,M4.ext⟩
theorem aJm (aA aB f t:Int)(p:OA)(n a:Nat)(w:World)(HV:xB 41 #[aH aA aB p n a] w true)(HF:Hid (∀w',U 110 #[aH aA aB p n a,f] w' (O (.bool false) w'))):
  U 75 #[aH aA aB p n a,dR f t] w (O (.bool false) w):=by
 go_enter func75,ntmps75;go_wp2_with fail;refine Z (HV _ (((Mem.start w).c0 TH3 #[aA,aB,.slice p n a]).c1 TSL #[f,t]).ext) fun w1 b=>?_
 have M1:=((((Mem.start w).c0 TH3 #[aA,aB,.slice p n a]).c1 TSL #[f,t]).adv b)
 clear b;obtain⟨h0,h1,h2⟩:=(M1.bk 1).tri;have s0:=(M1.bk 0).cl 0;have s1:=(M1.bk 0).cl 1;go_wp2_with fail;clear h0 h1 h2 s0 s1;refine Z (HF _) fun w2 c=>?_
 have M2:=(M1.adv c)
 clear M1 c;obtain⟨h0,h1,h2⟩:=(M2.bk 1).tri;have s0:=(M2.bk 0).cl 0;have s1:=(M2.bk 0).cl 1;go_wp2;go_ret;exact⟨rfl,M2.ext⟩
theorem aJl (aA aB f t:Int)(p:OA)(n a:Nat)(w:World)(HV:xB 41 #[aH aA aB p n a] w true)(HF:Hid (∀w',U 110 #[aH aA aB p n a,f] w' (O (.bool true) w')))(HT:Hid (∀w',U 110 #[aH aA aB p n a,t] w' (O (.bool false) w'))):
  U 75 #[aH aA aB p n a,dR f t] w (O (.bool false) w):=by
 go_enter func75,ntmps75;go_wp2_with fail;refine Z (HV _ (((Mem.start w).c0 TH3 #[aA,aB,.slice p n a]).c1 TSL #[f,t]).ext) fun w1 b=>?_
 have M1:=((((Mem.start w).c0 TH3 #[aA,aB,.slice p n a]).c1 TSL #[f,t]).adv b)
 clear b;obtain⟨h0,h1,h2⟩:=(M1.bk 1).tri;have s0:=(M1.bk 0).cl 0;have s1:=(M1.bk 0).cl 1;go_wp2_with fail;clear h0 h1 h2 s0 s1;refine Z (HF _) fun w2 c=>?_
 have M2:=(M1.adv c)
 clear M1 c;obtain⟨h0,h1,h2⟩:=(M2.bk 1).tri;have s0:=(M2.bk 0).cl 0;have s1:=(M2.bk 0).cl 1;go_wp2_with fail;clear h0 h1 h2 s0 s1;refine Z (HT _) fun w3 d=>?_
 have M3:=(M2.adv d)
 clear M2 d;obtain⟨h0,h1,h2⟩:=(M3.bk 1).tri;have s0:=(M3.bk 0).cl 0;have s1:=(M3.bk 0).cl 1;go_wp2;go_ret;exact⟨rfl,M3.ext⟩
theorem aJk (aA aB:Int)(b a n c i j:Nat)(x y:Int)(w:World)(hi:i<n)(hj:j<n)(hb:b<w.heap.size)(h:Hid (w.cell? ⟨b,a+i,none⟩=some (I x)))(k:Hid (w.cell? ⟨b,a+j,none⟩=some (I y)))(d1:(x !=0)=false)(HV:xB 41 #[aH aA aB (some ⟨b,a,none⟩) n c] w true)(HF:Hid (∀w',U 110 #[aH aA aB (some ⟨b,a,none⟩) n c,i] w' (O (.bool true) w')))(HT:Hid (∀w',U 110 #[aH aA aB (some ⟨b,a,none⟩) n c,j] w' (O (.bool true) w'))):
  U 75 #[aH aA aB (some ⟨b,a,none⟩) n c,dR (i:Int) (j:Int)] w (O (.bool false) w):=by
 have a1:(0:Int)≤(i:Int):=by omega
 have a3:(i:Int)<(n:Int):=by omega
 go_enter func75,ntmps75;go_wp2_with fail;refine Z (HV _ (((Mem.start w).c0 TH3 #[aA,aB,.slice (some ⟨b,a,none⟩) n c]).c1 TSL #[i,j]).ext) fun w1 d=>?_
 have M1:=((((Mem.start w).c0 TH3 #[aA,aB,.slice (some ⟨b,a,none⟩) n c]).c1 TSL #[i,j]).adv d)
 clear d;obtain⟨h0,h1,h2⟩:=(M1.bk 1).tri;have s0:=(M1.bk 0).cl 0;have s1:=(M1.bk 0).cl 1;go_wp2_with fail;clear h0 h1 h2 s0 s1;refine Z (HF _) fun w2 f=>?_
 have M2:=(M1.adv f)
 clear M1 f;obtain⟨h0,h1,h2⟩:=(M2.bk 1).tri;have s0:=(M2.bk 0).cl 0;have s1:=(M2.bk 0).cl 1;go_wp2_with fail;clear h0 h1 h2 s0 s1;refine Z (HT _) fun w3 g=>?_
 have M3:=(M2.adv g)
 clear M2 g;obtain⟨h0,h1,h2⟩:=(M3.bk 1).tri;have s0:=(M3.bk 0).cl 0;have s1:=(M3.bk 0).cl 1;have g1:w3.cell? ⟨b,a+i,none⟩=some (I x):=(M3.ext.cells.1 _ _ hb).trans h.out;go_wp2;go_ret;exact⟨rfl,M3.ext⟩
theorem aJj (aA aB:Int)(b a n c i j:Nat)(x y:Int)(w:World)(hi:i<n)(hj:j<n)(hb:b<w.heap.size)(h:Hid (w.cell? ⟨b,a+i,none⟩=some (I x)))(k:Hid (w.cell? ⟨b,a+j,none⟩=some (I y)))(d1:(x !=0)=true)(d2:(y==0)=false)(HV:xB 41 #[aH aA aB (some ⟨b,a,none⟩) n c] w true)(HF:Hid (∀w',U 110 #[aH aA aB (some ⟨b,a,none⟩) n c,i] w' (O (.bool true) w')))(HT:Hid (∀w',U 110 #[aH aA aB (some ⟨b,a,none⟩) n c,j] w' (O (.bool true) w'))):
  U 75 #[aH aA aB (some ⟨b,a,none⟩) n c,dR (i:Int) (j:Int)] w (O (.bool false) w):=by
 have a1:(0:Int)≤(i:Int):=by omega
 have a2:(0:Int)≤(j:Int):=by omega
 have a3:(i:Int)<(n:Int):=by omega
 have a4:(j:Int)<(n:Int):=by omega
 go_enter func75,ntmps75;go_wp2_with fail;refine Z (HV _ (((Mem.start w).c0 TH3 #[aA,aB,.slice (some ⟨b,a,none⟩) n c]).c1 TSL #[i,j]).ext) fun w1 d=>?_
 have M1:=((((Mem.start w).c0 TH3 #[aA,aB,.slice (some ⟨b,a,none⟩) n c]).c1 TSL #[i,j]).adv d)
 clear d;obtain⟨h0,h1,h2⟩:=(M1.bk 1).tri;have s0:=(M1.bk 0).cl 0;have s1:=(M1.bk 0).cl 1;go_wp2_with fail;clear h0 h1 h2 s0 s1;refine Z (HF _) fun w2 f=>?_
 have M2:=(M1.adv f)
 clear M1 f;obtain⟨h0,h1,h2⟩:=(M2.bk 1).tri;have s0:=(M2.bk 0).cl 0;have s1:=(M2.bk 0).cl 1;go_wp2_with fail;clear h0 h1 h2 s0 s1;refine Z (HT _) fun w3 g=>?_
 have M3:=(M2.adv g)
 clear M2 g;obtain⟨h0,h1,h2⟩:=(M3.bk 1).tri;have s0:=(M3.bk 0).cl 0;have s1:=(M3.bk 0).cl 1;have g1:w3.cell? ⟨b,a+i,none⟩=some (I x):=(M3.ext.cells.1 _ _ hb).trans h.out;have g2:w3.cell? ⟨b,a+j,none⟩=some (I y):=(M3.ext.cells.1 _ _ hb).trans k.out;go_wp2;go_ret;exact⟨rfl,M3.ext⟩
theorem aM5 (aA aB:Int)(b a n c i j:Nat)(x y A:Int)(w:World)(hi:i<n)(hj:j<n)(hb:b<w.heap.size)(k:Hid (w.cell? ⟨b,a+i,none⟩=some (I x)))(l:Hid (w.cell? ⟨b,a+j,none⟩=some (I y)))(d1:(x !=0)=true)(d2:(y==0)=true)(HV:xB 41 #[aH aA aB (some ⟨b,a,none⟩) n c] w true)(HF:Hid (∀w',U 110 #[aH aA aB (some ⟨b,a,none⟩) n c,i] w' (O (.bool true) w')))(HT:Hid (∀w',U 110 #[aH aA aB (some ⟨b,a,none⟩) n c,j] w' (O (.bool true) w')))(HA:Hid (∀w',U 111 #[aA,i,j] w' (O (I A) w'))):
  U 75 #[aH aA aB (some ⟨b,a,none⟩) n c,dR (i:Int) (j:Int)] w (O (.bool (A==1)) w):=by
 have a1:(0:Int)≤(i:Int):=by omega
 have a2:(0:Int)≤(j:Int):=by omega
 have a3:(i:Int)<(n:Int):=by omega
 have a4:(j:Int)<(n:Int):=by omega
 go_enter func75,ntmps75;go_wp2_with fail;refine Z (HV _ (((Mem.start w).c0 TH3 #[aA,aB,.slice (some ⟨b,a,none⟩) n c]).c1 TSL #[i,j]).ext) fun w1 d=>?_
 have M1:=((((Mem.start w).c0 TH3 #[aA,aB,.slice (some ⟨b,a,none⟩) n c]).c1 TSL #[i,j]).adv d)
 clear d;obtain⟨h0,h1,h2⟩:=(M1.bk 1).tri;have s0:=(M1.bk 0).cl 0;have s1:=(M1.bk 0).cl 1;go_wp2_with fail;clear h0 h1 h2 s0 s1;refine Z (HF _) fun w2 f=>?_
 have M2:=(M1.adv f)
 clear M1 f;obtain⟨h0,h1,h2⟩:=(M2.bk 1).tri;have s0:=(M2.bk 0).cl 0;have s1:=(M2.bk 0).cl 1;go_wp2_with fail;clear h0 h1 h2 s0 s1;refine Z (HT _) fun w3 g=>?_
 have M3:=(M2.adv g)
 clear M2 g;obtain⟨h0,h1,h2⟩:=(M3.bk 1).tri;have s0:=(M3.bk 0).cl 0;have s1:=(M3.bk 0).cl 1;have g1:w3.cell? ⟨b,a+i,none⟩=some (I x):=(M3.ext.cells.1 _ _ hb).trans k.out;have g2:w3.cell? ⟨b,a+j,none⟩=some (I y):=(M3.ext.cells.1 _ _ hb).trans l.out;go_wp2_with fail;clear h0 h1 h2 s0 s1 g1 g2;refine Z (HA _) fun w4 h=>?_
 have M4:=(M3.adv h)
 clear M3 h;go_wp2;go_ret;exact⟨rfl,M4.ext⟩
theorem aPb (aA aB:Int)(c d:Nat)(p:OA)(n a:Nat)(xs:List Int)(w:World)(hS:Sl w p n a 1 (ivs xs))(b:aN aA aB xs=true)(hc:c<n)(hd:d<n):
  U 170 #[aH aA aB p n a,c,d] w (O (I (aV aA c d)) w):=by
 have hl:=hS.ilen;obtain⟨g1,g2,g3,g4,g5,g6,g7,g8,g9⟩:=bQ b;have HH: ∀(k:Nat),k<n→ ∀w',U 110 #[aH aA aB p n a,k] w' (O (.bool true) w'):=fun k hk w'=>by have:=jD aA aB k p n a w' (by omega);rwa[decide_eq_true (⟨by omega,by omega⟩:0≤(k:Int)∧(k:Int)<n)]at this
 exact aMh aA aB c d _ p n a w (fun w' hx=>by have:=fS aA aB p n a xs w' (hS.ext hx);rwa[b]at this) (HH c hc) (HH d hd) (fun w'=>mS aA c d w' (by omega) (by omega) (by omega) (by omega) (by omega) (by omega))
theorem aP3 (aA aB f t:Int)(p:OA)(n a:Nat)(xs:List Int)(w:World)(hS:Sl w p n a 1 (ivs xs))(g:aN aA aB xs=true):
  U 75 #[aH aA aB p n a,dR f t] w (O (.bool (bA aA aB xs f t)) w):=by
 have hl:=hS.ilen;obtain⟨g1,g2,g3,g4,g5,g6,g7,g8,g9⟩:=bQ g;have HV: ∀w',Ext w w'→U 41 #[aH aA aB p n a] w' (O (.bool true) w'):=fun w' hx=>by have:=fS aA aB p n a xs w' (hS.ext hx);rwa[g]at this
 have HH: ∀(c:Int) w',U 110 #[aH aA aB p n a,c] w' (O (.bool (decide (0≤c∧c<n))) w'):=fun c w'=>jD aA aB c p n a w' (by omega)
 by_cases hf:0≤f∧f<n
 ·have HF:=HH f;rw[decide_eq_true hf]at HF;by_cases ht:0≤t∧t<n
  ·have HT:=HH t;rw[decide_eq_true ht]at HT;obtain⟨i,rfl⟩: ∃i:Nat,f=(i:Int):=⟨f.toNat,by omega⟩
   obtain⟨j,rfl⟩: ∃j:Nat,t=(j:Int):=⟨t.toNat,by omega⟩
   have hi:i<n:=by omega
   have hj:j<n:=by omega
   obtain⟨b,d,rfl,hb,m⟩:=hS.rd (by omega);have o:xs[i]? =some (xs.getD i 0):=by rw[aQ0,aPw (by omega)];rfl
   have q:xs[j]? =some (xs.getD j 0):=by rw[aQ0,aPw (by omega)];rfl
   have k:w.cell? ⟨b,d+i,none⟩=some (I (xs.getD i 0)):=by rw[m i (by omega)];simp only[ivs,aQg,o,aQs]
   have l:w.cell? ⟨b,d+j,none⟩=some (I (xs.getD j 0)):=by rw[m j (by omega)];simp only[ivs,aQg,q,aQs]
   have s:0≤xs.getD i 0:=pG g i;have r:dF aA aB xs (i:Int) (j:Int)=aV aA i j:=by unfold dF;rw[if_pos ⟨g,⟨by omega,by omega⟩,by omega,by omega⟩]
   unfold bA;rw[r,aRp,aRp];clear o q;generalize xs.getD i 0=x at*;generalize xs.getD j 0=y at*;by_cases hx0:x=0
   ·subst hx0;rw[show(decide (aV aA (i:Int) j=1)&&decide (0<(0:Int))&&decide (y=0))=false by simp];exact aJk aA aB b d n a i j _ _ w hi hj hb k l (by simp) HV HF HT
   have d1:(x !=0)=true:=by simp[hx0]
   by_cases hy0:y=0
   ·subst hy0;rw[show(decide (aV aA (i:Int) j=1)&&decide (0<x)&&decide ((0:Int)=0))=(aV aA (i:Int) j==1) by rw[decide_eq_true (show 0<x by omega)];by_cases ha:aV aA (i:Int) j=1<;>simp[ha]];exact aM5 aA aB b d n a i j _ _ _ w hi hj hb k l d1 (by simp) HV HF HT (fun w'=>mS aA i j w' (by omega) (by omega) (by omega) (by omega) (by omega) (by omega))
   rw[show(decide (aV aA (i:Int) j=1)&&decide (0<x)&&decide (y=0))=false by simp[hy0]];exact aJj aA aB b d n a i j _ _ w hi hj hb k l d1 (by simp[hy0]) HV HF HT
  have HT:=HH t;rw[decide_eq_false ht]at HT
  rw[show bA aA aB xs f t=false by
   cases h:bA aA aB xs f t with
   |false=>rfl
   |true=>
    unfold bA at h;simp only[aQa,decide_eq_true_eq]at h
    have:=jR h.1.1;omega]
  exact aJl aA aB f t p n a w HV HF HT
 have HF:=HH f;rw[decide_eq_false hf]at HF
 rw[show bA aA aB xs f t=false by
  cases h:bA aA aB xs f t with
  |false=>rfl
  |true=>
   unfold bA at h;simp only[aQa,decide_eq_true_eq]at h
   have:=jR h.1.1;omega]
 exact aJm aA aB f t p n a w HV HF
theorem aHb (q:OA)(m c2:Nat)(xs:List Int)(w:World)(hm:m≤1000)(hS:Sl w q m c2 1 (ivs xs)):
  U 90 #[.slice q m c2] w fun e w'=> ∃q' c',e= .returned (.slice q' m c')∧w'.ownsRow w TI 1 (.slice q' m c') m (ivs xs)∧Ext w w':=by
 cases q with
 |none=>
  have h0:m=0:=by
   by_cases h:0<m
   ·obtain⟨b,g,e,_⟩:=hS.rd h;cases e
   omega
  subst h0;have d:ivs xs= []:=aQj (by have:=hS.len;simpa using this);have f: ∀(w:World) (a:OA) (n c n' c':Nat),(binOp .eql 23 (.slice a n c) (.slice none n' c')).run prog w= .ok (.bool a.isNone) w:=fun w a n c n' c'=>Lib.run_eql_slice_nil w _ _ a n c n' c' underlying23
  clear hS;go_enter func90,ntmps90;go_wp2;go_ret;exact⟨none,0,rfl,by rw[d];exact aQ8 _ _ _ _,Ext.refl _⟩
 |some a=>
  have HS:=xQ hS;have MS:=((Mem.start w).made0 TI 1 w (by simp))
  have f: ∀(w:World) (a:OA) (n c n' c':Nat),(binOp .eql 23 (.slice a n c) (.slice none n' c')).run prog w= .ok (.bool a.isNone) w:=fun w a n c n' c'=>Lib.run_eql_slice_nil w _ _ a n c n' c' underlying23
  clear hS;go_enter func90,ntmps90;go_wp2_with (at_builtin;go_loud (refine cS gH rfl _ _ rfl MS 0 rfl rfl (ivs xs) rfl (HS.out.ext ((Ext.refl _).alloc _)) (qE xs) (by omega) ?_;intro q7 c7 w6 M6));have M7:=(show Mem w w6 [aJ w TI 1 q7 m c7 (ivs xs)]from by simpa using M6)
  clear M6;go_wp2;go_ret;exact⟨q7,c7,rfl,M7.ow 0,M7.ext⟩
theorem lW (aA aB:Int)(p:OA)(n a:Nat)(xs:List Int)(w:World)(hn:n≤1000)(hS:Sl w p n a 1 (ivs xs)):
  U 52 #[aH aA aB p n a] w (dA aA aB xs w):=by
 have hl:=xQ hS.ilen;have HS:=xQ hS;clear hS;have HK:xC 90 #[.slice p n a] w fun w' e w''=> ∃q' c',e= .returned (.slice q' n c')∧w''.ownsRow w' TI 1 (.slice q' n c') n (ivs xs)∧Ext w' w'':=fun w' hx=>aHb p n a xs w' hn (HS.out.ext hx)
 go_enter func52,ntmps52;go_wp2;have ME:=(((Mem.start w).c0 TH3 #[aA,aB,.slice p n a]).c1 TH3 #[(),(),((),())])
 refine rL (gl [gEq (.pointer (some ⟨w,0,none⟩)),gEq aA,gEq (.pointer (some ⟨w,1,none⟩)),gEq aB,gEq (.pointer (some ⟨w,2,none⟩)),gEq (.slice p n a),(fun v w'=> ∃q c,v= .slice q n c∧w'.ownsRow (w.heap.size+2) TI 1 (.slice q n c) n (ivs xs)),(fun v w'=> ∃q c,v=aH aA aB q n c∧w'.ownsRow (w.heap.size+2) TI 1 (.slice q n c) n (ivs xs))]) 8 9 [(0,some 3),(1,some 4),(2,some 5),(3,some 6),(4,some 7),(5,some 8),(6,some 9),(7,some 10)] ?steps ?fin (hG:=(mM (aX (bH _) (aX (bH _) (aX (bH _) (aX (bH _) (aX (bH _) (aX (bH _) (aX (fun v w w' ⟨q,c,he,ho⟩ hx=>⟨q,c,he,aZ ho hx⟩) (aX (fun v w w' ⟨q,c,he,ho⟩ hx=>⟨q,c,he,aZ ho hx⟩) (pH)))))))))))
 case steps=>
  refine sS0 [] ?_;refine sC [(0,some 3)] rfl (fun wi hx=> ?_) ?_
  ·intro v0 h0 K hK;obtain rfl:=h0;have hX:Ext ((w.alloc (.cells #[aA,aB,.slice p n a] TH3)).alloc (.cells #[(),(),((),())] TH3)) wi:=xE;have d:=((ME.bk 1).ext hX).cl 0;go_simp;exact hK _ _ ⟨I aA,rfl,rfl,Ext.refl _⟩
  refine sS0 [] ?_;refine sC [(2,some 5)] rfl (fun wi hx=> ?_) ?_
  ·intro v2 h2 K hK;obtain rfl:=h2;have hX:Ext ((w.alloc (.cells #[aA,aB,.slice p n a] TH3)).alloc (.cells #[(),(),((),())] TH3)) wi:=xE;have d:=((ME.bk 1).ext hX).cl 1;go_simp;exact hK _ _ ⟨I aB,rfl,rfl,Ext.refl _⟩
  refine sS0 [] ?_;refine sC [(4,some 7)] rfl (fun wi hx=> ?_) ?_
  ·intro v4 h4 K hK;obtain rfl:=h4;have hX:Ext ((w.alloc (.cells #[aA,aB,.slice p n a] TH3)).alloc (.cells #[(),(),((),())] TH3)) wi:=xE;have d:=((ME.bk 1).ext hX).cl 2;go_simp;exact hK _ _ ⟨.slice p n a,rfl,rfl,Ext.refl _⟩
  refine sC [(5,some 8)] rfl (fun wi hx=> ?_) ?_
  ·intro v5 h5 K hK;obtain rfl:=h5;go_wp2_with fail;refine(HK _ (ME.ext.trans hx.of_drew)).mono ?_;rintro e w5 ⟨q5,c5,rfl,o5,h⟩;go_simp;exact hK _ _ ⟨.slice q5 n c5,rfl,⟨q5,c5,rfl,bG o5 (by have:=hx.sz;simp at this;omega)⟩,h⟩
  refine sC [(1,some 4),(3,some 6),(6,some 9)] rfl (fun wi hx=> ?_) StepsL.nil
  ·intro v1 h1 v3 h3 v6 h6 K hK;subst h1 h3;obtain⟨q6,c6,rfl,b⟩:=h6;go_simp;exact hK _ _ ⟨aH aA aB q6 n c6,rfl,⟨q6,c6,rfl,b⟩,Ext.refl _⟩
 case fin=>
  intro wi hx v0 h0 v1 h1 v2 h2 v3 h3 v4 h4 v5 h5 v6 h6 v7 h7;subst h0 h1 h2 h3 h4 h5;obtain⟨q6,c6,rfl,b⟩:=h6;obtain⟨q7,c7,rfl,f⟩:=h7;have hX:Ext ((w.alloc (.cells #[aA,aB,.slice p n a] TH3)).alloc (.cells #[(),(),((),())] TH3)) wi:=hx.of_drew;have M2:=(show Mem w wi [aJ w TI 1 (q7) (n) (c7) (ivs xs),aI w (w.heap.size+1) TH3 #[(),(),((),())],aI w w TH3 #[aA,aB,.slice p n a]]from ME.ownNew hX f (by simp))
  clear ME hx hX b f HK HS;try go_frame
  obtain⟨z0,i,z1,j,z2,k⟩:=(M2.bk 1).trif;refine wpAny_ready (rs:= [8]) (by kernel_rfl) (by simp) ?_;refine AllReady.cons rfl (fun K hK=> ?_) AllReady.nil;go_simp;refine hK _ _ ?_;clear hK K;refine wpAny_done (by kernel_rfl) ?_ _;try go_frame
  have M3:=((M2.st 1 0 (I aA)).st 1 1 (I aB))
  have M4:=(M3.st 1 2 (.slice q7 n c7))
  go_wp2;have M5:=(show Mem w (((wi.setCell ⟨w.heap.size+1,0,none⟩ (I aA)).setCell ⟨w.heap.size+1,1,none⟩ (I aB)).setCell ⟨w.heap.size+1,2,none⟩ (.slice q7 n c7)) [aJ w TI 1 (q7) (n) (c7) (ivs xs),aI w (w.heap.size+1) TH3 #[aA,aB,.slice q7 n c7],aI w w TH3 #[aA,aB,.slice p n a]]from M4)
  generalize g:World.setCell _ _ _=wz;rw[g]at M5;clear g M2 M3 M4 z0 i z1 j z2 k;obtain⟨y0,y1,y2⟩:=(M5.bk 1).tri;exact bodyPost_ret (v:=aH aA aB q7 n c7) (by simp[results,results52,go_sem, *]) rfl (sE hl.out (M5.ow 0) M5.ext)
theorem aHa (q:OA)(m c2:Nat)(xs:List Value)(w:World)(hm:m≤1000)(hS:Sl w q m c2 4 xs)(h1: ∀u∈xs,u.oneCell'=true):
  U 53 #[.slice q m c2] w fun e w'=> ∃q' c',e= .returned (.slice q' m c')∧w'.ownsRow w TV 4 (.slice q' m c') m xs∧Ext w w':=by
 cases q with
 |none=>
  have h0:m=0:=by
   by_cases h:0<m
   ·obtain⟨b,f,e,_⟩:=hS.rd h;cases e
   omega
  subst h0;obtain rfl:xs= []:=aQj (by have:=hS.len;simpa using this);have d: ∀(w:World) (a:OA) (n c n' c':Nat),(binOp .eql 28 (.slice a n c) (.slice none n' c')).run prog w= .ok (.bool a.isNone) w:=fun w a n c n' c'=>Lib.run_eql_slice_nil w _ _ a n c n' c' underlying28
  clear hS;go_enter func53,ntmps53;go_wp2;go_ret;exact⟨none,0,rfl,aQ8 _ _ _ _,Ext.refl _⟩
 |some a=>
  have HS:=xQ hS;have HO:=xQ h1;have MS:=((Mem.start w).made0 TV 4 w (by simp))
  have d: ∀(w:World) (a:OA) (n c n' c':Nat),(binOp .eql 28 (.slice a n c) (.slice none n' c')).run prog w= .ok (.bool a.isNone) w:=fun w a n c n' c'=>Lib.run_eql_slice_nil w _ _ a n c n' c' underlying28
  clear hS h1;go_enter func53,ntmps53;go_wp2_with (at_builtin;go_loud (refine cS uH rfl _ _ rfl MS 0 rfl rfl xs rfl (HS.out.ext ((Ext.refl _).alloc _)) HO (by omega) ?_;intro q7 c7 w6 M6));have M7:=(show Mem w w6 [aJ w TV 4 q7 m c7 xs]from by simpa using M6)
  clear M6;go_wp2;go_ret;exact⟨q7,c7,rfl,M7.ow 0,M7.ext⟩
theorem aJw (aA aB a b aE aF aC aG:Int)(p:OA)(n d:Nat)(q:OA)(m c2:Nat)(xs:List Int)(vs:List aS)(w:World)
  (HL:xC 52 #[aH aA aB p n d] w fun w' e w''=> ∃q c,e= .returned (aH aA aB q n c)∧w''.ownsRow w' TI 1 (.slice q n c) n (ivs xs)∧Ext w' w'')
  (o:xC 53 #[.slice q m c2] w fun w' e w''=> ∃q' c',e= .returned (.slice q' m c')∧w''.ownsRow w' TV 4 (.slice q' m c') m (vs.flatMap aD)∧Ext w' w''):
  U 24 #[.agg #[aA,aB,.slice p n d,a,b,aE,aF,aC,aG,.slice q m c2]] w fun e w'=> ∃p' cap' q' c2',e= .returned (.agg #[aA,aB,.slice p' n cap',a,b,aE,aF,aC,aG,.slice q' m c2'])∧w'.ownsRow w TI 1 (.slice p' n cap') n (ivs xs)∧w'.ownsRow w TV 4 (.slice q' m c2') m (vs.flatMap aD)∧Ext w w':=by
 go_enter func24,ntmps24;go_wp2_with fail;refine(HL _ ((((Mem.start w).c0 aK #[aA,aB,.slice p n d,a,b,aE,aF,aC,aG,.slice q m c2]).c1 aK zT).c2 aK #[aA,aB,.slice p n d,a,b,aE,aF,aC,aG,.slice q m c2]).ext).mono ?_;rintro e w1 ⟨q0,c0,rfl,f,j⟩;have M1:=(((((Mem.start w).c0 aK #[aA,aB,.slice p n d,a,b,aE,aF,aC,aG,.slice q m c2]).c1 aK zT).c2 aK #[aA,aB,.slice p n d,a,b,aE,aF,aC,aG,.slice q m c2]).call j f)
 clear j f;have c9:=(M1.bk 3).cl 9;have d0:=(M1.bk 1).cl 0;have r:=(M1.bk 1).frozen 0;have d1:=(M1.bk 1).cl 1;have s:=(M1.bk 1).frozen 1;have d2:=(M1.bk 1).cl 2;have t:=(M1.bk 1).frozen 2;go_wp2_with fail;clear c9 d0 r d1 s d2 t;refine(o _ (((M1.store (i:=1) rfl 0 (I aA)).store (i:=1) rfl 1 (I aB)).store (i:=1) rfl 2 (.slice q0 n c0)).ext).mono ?_;rintro e w2 ⟨q7,c7,rfl,g,k⟩;have M2:=((((M1.st 1 0 (I aA)).st 1 1 (I aB)).st 1 2 (.slice q0 n c0)).call k g)
 clear M1 k g;obtain⟨x0,x1,x2,x3,x4,x5,x6,x7,x8,x9⟩:=(M2.bk 2).ten;have u:=(M2.bk 2).cl 9;have l:=(M2.bk 2).frozen 9;obtain⟨y0,x,y1,y,y2,z,y3,aa,y4,ab,y5,ad,y6,ae,y7,af,y8,ag,y9,ah⟩:=(M2.bk 3).tenf;go_wp2;clear x0 x1 x2 x3 x4 x5 x6 x7 x8 x9 u l y0 x y1 y y2 z y3 aa y4 ab y5 ad y6 ae y7 af y8 ag y9 ah;have M3:=(show Mem w (((((((((((w2.setCell ⟨w.heap.size+1+1,9,none⟩ (.slice q7 m c7)).setCell ⟨w.heap.size+1,0,none⟩ (I aA)).setCell ⟨w.heap.size+1,1,none⟩ (I aB)).setCell ⟨w.heap.size+1,2,none⟩ (.slice q0 n c0)).setCell ⟨w.heap.size+1,3,none⟩ (I a)).setCell ⟨w.heap.size+1,4,none⟩ (I b)).setCell ⟨w.heap.size+1,5,none⟩ (I aE)).setCell ⟨w.heap.size+1,6,none⟩ (I aF)).setCell ⟨w.heap.size+1,7,none⟩ (I aC)).setCell ⟨w.heap.size+1,8,none⟩ (I aG)).setCell ⟨w.heap.size+1,9,none⟩ (.slice q7 m c7)) [aJ w TV 4 (q7) (m) (c7) (vs.flatMap aD),aJ w TI 1 (q0) (n) (c0) (ivs xs),aI w (w.heap.size+1+1) aK #[aA,aB,.slice q0 n c0,a,b,aE,aF,aC,aG,.slice q7 m c7],aI w (w.heap.size+1) aK #[aA,aB,.slice q0 n c0,a,b,aE,aF,aC,aG,.slice q7 m c7],aI w w aK #[aA,aB,.slice p n d,a,b,aE,aF,aC,aG,.slice q m c2]]from((M2.store (i:=2) rfl 9 (.slice q7 m c7)).put10 (i:=3) rfl (I aA) (I aB) (.slice q0 n c0) (I a) (I b) (I aE) (I aF) (I aC) (I aG) (.slice q7 m c7)))
 generalize h:World.setCell _ _ _=wz;rw[h]at M3;clear h M2;obtain⟨y0,y1,y2,y3,y4,y5,y6,y7,y8,y9⟩:=(M3.bk 3).ten;exact bodyPost_ret (v:= .agg #[aA,aB,.slice q0 n c0,a,b,aE,aF,aC,aG,.slice q7 m c7]) (by simp[results,results24,go_sem, *]) rfl ⟨q0,c0,q7,c7,rfl,(M3.ow 1),(M3.ow 0),M3.ext⟩
theorem qX (h:aR)(p:OA)(n a:Nat)(q:OA)(m c2:Nat)(w:World)(hn:n≤1000)(hm:m≤1000)(hi:IsHouse w h p n a q m c2):
  U 24 #[bO h p n a q m c2] w (RetHouse h w):=by
 have hl:=hi.clen;have f:=hi.vlen;refine(aJw h.aA h.aB h.free h.step h.aE h.aF h.aC h.aG p n a q m c2 h.cells h.vs w (xQ fun w' hx=> ?_) (xQ fun w' hx=>aHa q m c2 _ w' hm (hi.vs.ext hx) (eN _))).mono ?_
 ·refine(lW h.aA h.aB p n a h.cells w' hn (hi.cells.ext hx)).mono ?_;rintro e i ⟨q,c,rfl,ho,g⟩;rw[hl]at ho⊢;exact⟨q,c,rfl,ho,g⟩
 rintro e w' ⟨p',b,q',d,rfl,h1,h2,h3⟩;subst hl f;exact⟨p',b,q',d,rfl,h1,h2,h3⟩
theorem oS: ∀(k:Nat) (vs:List aS),(vs.flatMap aD).take (k*4)=(vs.take k).flatMap aD
 |0,vs=>by simp
 |k+1,[]=>by simp
 |k+1,v::vs=>by rw[aR7,show(k+1)*4=(aD v).length+k*4 by simp[aD];omega,List.take_length_add_append,oS k vs];rfl
theorem aO6 {W0 wr:World}{B:Nat}(hg:W0.grownBy wr (some B))(o:Nat)(v:Value):W0.grownBy (wr.setCell ⟨B,o,none⟩ v) (some B):=
 ⟨hg.os,hg.tape,hg.output,by simpa using hg.size,fun k hk hne=>by rw[aSa _ _ _ _ (fun e=>hne (by simp[e]))];exact hg.block k hk hne⟩
theorem uS {α:Type}: ∀(xs:List α) (k:Nat) (v:α),k<xs.length→(xs.set k v).take (k+1)=xs.take k++ [v]
 | [],_,_,h=>by simp at h
 |x::xs,0,v,_=>by simp
 |x::xs,k+1,v,h=>by simp only[aQ7,aSd,uS xs k v (by simpa using h)];rfl
theorem vE {α:Type}: ∀(xs:List α) (k j:Nat) (v:α),k<j→(xs.set k v).drop j=xs.drop j
 | [],_,_,_,_=>by simp
 |x::xs,0,j+1,v,_=>by simp
 |x::xs,k+1,j+1,v,h=>by simp only[aQ7,List.drop_succ_cons];exact vE xs k j v (by omega)
theorem fP {B n c sz g:Nat}{e:TypeId}: ∀(vs:List Value) (k:Nat) (xs:List Value) (w:World),w.ownsRow B e sz (.slice (some ⟨g,0,none⟩) n c) n xs→k+vs.length≤xs.length→
  (w.setCells g k vs).ownsRow B e sz (.slice (some ⟨g,0,none⟩) n c) n (xs.take k++vs++xs.drop (k+vs.length))∧w.grownBy (w.setCells g k vs) (some g)
 | [],k,xs,w,h,_=>by refine⟨?_,aRd _ _⟩;simpa[World.setCells]using h
 |v::vs,k,xs,w,h,hl=>by simp only[aRf]at hl;obtain⟨h1,h2⟩:=fP vs (k+1) (xs.set k v) _ (h.stored k v).1 (by simp;omega);rw[uS xs k v (by omega),vE xs k _ v (by omega)]at h1;refine⟨?_,(aO6 (aRd _ _) k v).trans h2⟩;rw[aRf,show k+(vs.length+1)=k+1+vs.length by omega];simpa[World.setCells]using h1
theorem aNs {w:World}{B n c sz k:Nat}{e:TypeId}{q:OA}{xs:List Value}(h:w.ownsRow B e sz (.slice q n c) n xs)(hk:k≤n)(h0:0<n):w.ownsRow B e sz (.slice q k c) k (xs.take (k*sz)):=by
 have hm:=aRi sz hk;refine⟨by rw[aQl,h.1];omega,?_⟩;rcases h.2 with⟨_,h3⟩|⟨g,cap',cur,e1,hb,hg,hn,hmx,hs,ht⟩
 ·omega
 injection e1 with e1 e2 e3;subst e1 e3;refine .inr ⟨g,c,cur,rfl,hb,hg,by omega,hmx,hs,?_⟩;rw[←ht,List.take_take,Nat.min_eq_left hm]
theorem aEy (w:World):(zeroValue TV).run prog w= .ok (.agg #[(),(),(),()]) w:=by simp[Tryz.zeroValue64]
theorem aEp (w:World)(ty:TypeId)(b o c:Nat)(hc: ∀j,j<4→(w.cell? ⟨b,o+j,none⟩).isSome=true)(hf: ∀j,j<4→w.frozen? ⟨b,o+j,none⟩=false):
  (Builtin.clear_ #[28] ty #[.slice (some ⟨b,o,none⟩) 1 c]).run prog w= .ok (.tuple #[]) (w.setCells b o [I 0,I 0,I 0,I 0]):=by
 have d:(Builtin.zeroCells (Value.agg #[(),(),(),()]).cells 1).toList= [I 0,I 0,I 0,I 0]:=by kernel_rfl
 have a:=run_storeCells_cells (P:=prog) b o [I 0,I 0,I 0,I 0] 0 w (by simpa using hc) (by simpa using hf) (by intro v hv;simp at hv;subst hv;rfl);simp only[Nat.add_zero]at a;simp[Builtin.clear_,run_underlying underlying28,aEy,d,a]
theorem aEj (bs:List aS)(i n:Nat)(hn:bs.length=n)(hi:i<n):
  ((bs.flatMap aD).take (i*4)++(bs.drop (i+1)).flatMap aD++(bs.flatMap aD).drop (i*4+((bs.drop (i+1)).flatMap aD).length)).take ((n-1)*4)=(bs.eraseIdx i).flatMap aD:=by
 have h1:((bs.take i).flatMap aD).length=i*4:=by rw[dE aD 4 (fun _=>rfl),aQl];congr 1;omega
 have h2:((bs.drop (i+1)).flatMap aD).length=(n-1-i)*4:=by rw[dE aD 4 (fun _=>rfl),aQw];congr 1;omega
 rw[oS,aRq (by rw[aQ3,h1,h2,←Nat.add_mul];exact aRi 4 (by omega)),aQ2 (by rw[aQ3,h1,h2,←Nat.add_mul];exact aRi 4 (by omega)),←aR1,List.eraseIdx_eq_take_drop_succ]
theorem aN2 (g n c B i j:Nat)(bs:List aS)(w:World)(hn:n≤1000)(hi:i<n)(hj:Hid (j=i+1))(hO:w.ownsRow B TV 4 (.slice (some ⟨g,0,none⟩) n c) n (bs.flatMap aD)):
  U 74 #[.slice (some ⟨g,0,none⟩) n c,i,j] w fun e w'=>e= .returned (.slice (some ⟨g,0,none⟩) (n-1) c)∧w'.ownsRow B TV 4 (.slice (some ⟨g,0,none⟩) (n-1) c) (n-1) ((bs.eraseIdx i).flatMap aD)∧w.grownBy w' (some g):=by
 obtain⟨i0,y,al,z,am⟩:=info_parts (show(prog.info? TV).map (fun i=>(i.zero,i.size,i.bytes))=some (some (.agg #[(),(),(),()]),4,32) by kernel_rfl);have d:w.drew.ownsRow B TV 4 (.slice (some ⟨g,0,none⟩) n c) n (bs.flatMap aD):=aZ hO (Ext.drew (Ext.refl _));have l:bs.length=n:=by have:=hO.1;rw[dE aD 4 (fun _=>rfl)]at this;omega
 have aa:n≤c:=by
  rcases hO.2 with⟨_,h3⟩|⟨g',cap',cur,e1,hb,hg,hn',_⟩
  ·omega
  injection e1 with e1 e2 e3;omega
 have m:j=i+1:=hj.out;obtain⟨news,a⟩: ∃news,news=(bs.drop (i+1)).flatMap aD:=⟨_,rfl⟩
 have b:news.length=(n-j)*4:=by rw[a,dE aD 4 (fun _=>rfl),aQw,l,m]
 obtain⟨A,hA,s⟩: ∃A:Addr,(if c=j then some (⟨g,0,none⟩:Addr)else some ⟨g,j*4,none⟩)=some A∧Hid (∀t u,news[t]? =some u→w.drew.cell? (A.add t)=some u):=by
  by_cases h:c=j
  ·refine⟨⟨g,0,none⟩,by simp[h],fun t u hu=> ?_⟩;rw[aQj (by rw[b];omega:news.length=0)]at hu;simp at hu
  refine⟨⟨g,j*4,none⟩,by simp[h],fun t u hu=> ?_⟩;have ht:t<(n-j)*4:=by have:=(aPy.1 hu).1;rwa[b]at this
  rw[Addr.add_lit,d.cellAt _ (by omega)];rw[a,←kQ,List.getElem?_drop]at hu;rw[m];exact hu
 have s1:Hid (news.length=(n-j)*4):=b;have s2:Hid (∀u∈news,u.oneCell'=true):=by show∀u∈news,_;rw[a];exact eN _
 have o:(bs.flatMap aD).length=n*4:=by rw[dE aD 4 (fun _=>rfl),l]
 have s3:Hid (∀t,t<news.length→(w.drew.cell? ⟨g,0+i*4+t,none⟩).isSome=true∧w.drew.frozen? ⟨g,0+i*4+t,none⟩=false):=by intro t ht;rw[b]at ht;refine⟨?_,d.frozenAt _⟩;rw[d.cellAt _ (by omega),aPw (by rw[o];omega)];rfl
 obtain⟨W1,f⟩: ∃W1,W1=w.drew.setCells g (0+i*4) news:=⟨_,rfl⟩
 obtain⟨h1,g1⟩:=fP news (i*4) _ _ d (by rw[b,o];omega);have hW:Hid (W1=w.drew.setCells g (0+i*4) news):=f;rw[aR2]at f;rw[←f]at h1 g1;obtain⟨ys,p⟩: ∃ys,ys=(bs.flatMap aD).take (i*4)++news++(bs.flatMap aD).drop (i*4+news.length):=⟨_,rfl⟩
 rw[←p]at h1;have ad:=fun ty=>aEp W1 ty g ((n-1)*4) (c-(n-1)) (fun t ht=>by rw[h1.cellAt _ (by omega),aPw (by rw[h1.1];omega)];rfl) (fun t _=>h1.frozenAt _)
 obtain⟨h2,g2⟩:=fP [I 0,I 0,I 0,I 0] ((n-1)*4) _ _ h1 (by rw[h1.1];simp;omega);have q:Hid ((W1.setCells g ((n-1)*4) [I 0,I 0,I 0,I 0]).ownsRow B TV 4 (.slice (some ⟨g,0,none⟩) (n-1) c) (n-1) ((bs.eraseIdx i).flatMap aD)):=by have h3:=aNs h2 (k:=n-1) (by omega) (by omega);rw[aQp,aRq (by rw[aQl,h1.1];omega),List.take_take,Nat.min_self,p,a,aEj bs i n l hi]at h3;exact h3
 have x:Hid (w.grownBy (W1.setCells g ((n-1)*4) [I 0,I 0,I 0,I 0]) (some g)):=by exact(show w.grownBy w.drew (some g)from⟨rfl,rfl,rfl,aPv _,fun _ _ _=>rfl⟩).trans (g1.trans g2)
 have ag:i≤j:=by omega
 have ah:j≤n:=by omega
 have af:i≤c:=by omega
 have ak: ¬i=j:=by omega
 have r:i+(n-j)=n-1:=by omega
 have ab:n-(n-1)=1:=by omega
 have ai:n-1≤n:=by omega
 have aj:n-1≤c:=by omega
 have ae: ¬c=n-1:=by omega
 have v:=xQ r;clear f h1 g1 h2 g2 p a b hO d l o m hj r;go_enter func74,ntmps74;go_wp2_with fail;go_region_law (refine step_append_room rfl (.tmp 22) (.tmp 25) 28 rfl TV i0 4 underlying28 y z g 0 i c (by simp[Act.eval,Act.put]) A (n-j) (c-j) news (by simp[Act.eval,Act.put]) s1.out s.out s2.out (by omega) s3.out ?_;rw[←hW.out,v.out])
 go_wp2;go_ret;exact⟨rfl,q.out,x.out⟩
end Go.Proofs.YtbgkcehffiogcaaGreatDoor
