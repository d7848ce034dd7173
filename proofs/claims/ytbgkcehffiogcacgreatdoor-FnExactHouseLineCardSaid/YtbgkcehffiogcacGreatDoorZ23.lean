/-
  Texts of this proof, packed (@packed).
-/
import Derived.Test.YtbgkcehffiogcacGreatDoorZ22
namespace Go.Proofs.YtbgkcehffiogcacGreatDoor
open Go.RowKit Go.Proofs.Tryz
set_option linter.unusedSimpArgs false
set_option linter.unusedVariables false
set_option maxHeartbeats 8000000
set_option maxRecDepth 100000
theorem aMd (aA aB:Int)(p:OA)(n cap u:Nat)(w:World)(hg:Hid ((aA,n)∈jB))(bg:4≤n)(hn:n≤12)(hu:u<n)
  (HV:xB 72 #[aH aA aB p n cap] w true)
  (HH:Hid (∀(k:Nat),k<n→ ∀w',U 159 #[aH aA aB p n cap,k] w' (O (.bool true) w')))
  (HF:xC 216 #[aH aA aB p n cap,(),(-1:Int)] w fun w' e w''=> ∃D,(D.length=n∧ ∀v,v<n→D.getD v 0=aX aA v 0)∧aY D w' e w'')
  (HC:Hid (∀(k:Nat),k<n→ ∀w',Ext w w'→U 217 #[aH aA aB p n cap,k] w' (aY (bF (aR aA n k)) w'))):
  U 190 #[aH aA aB p n cap,u,(),(-1:Int)] w (aY (bF (dD aA n 12 u)) w):=by
 have a1:(0:Int)≤(u:Int):=by omega
 have a2:(u:Int)<(n:Int):=by omega
 have a3:((-1:Int)==(u:Int))=false:=by first|(simp;done)|(simp;omega)
 have a4:decide ((n:Int)≤ -1)=false:=by first|(simp;done)|(simp;omega)
 have az:Hid (∀w',U 159 #[aH aA aB p n cap,()] w' (O (.bool true) w')):=HH.out 0 (by omega);have z:=xQ (bV hg.out hu);go_enter func190,ntmps190;go_wp2_with fail;have M0:=((Mem.start w).c0 TH3 #[aA,aB,.slice p n cap])
 refine Z (HV _ M0.ext) fun w1 au=>?_
 have M1:=(M0.adv au)
 obtain⟨b0,b1,b2⟩:=(M1.bk 0).cells3;clear au M0;go_wp2_with fail;refine Z (HH u hu _) fun w2 av=>?_
 have M2:=(M1.adv av)
 clear b0 b1 b2 av M1;obtain⟨b0,b1,b2⟩:=(M2.bk 0).cells3;go_wp2_with fail;refine Z (az _) fun w3 aw=>?_
 have M3:=(M2.adv aw)
 clear b0 b1 b2 aw M2;obtain⟨b0,b1,b2⟩:=(M3.bk 0).cells3;go_wp2_with fail;refine(HF _ M3.ext).mono ?_;rintro e w4 ⟨D,⟨af,al⟩,q2,c2,rfl,o4,ax⟩;rw[af]at o4⊢;have HD:=xQ af;have ab:=xQ al;have M4:=(M3.call ax o4)
 clear b0 b1 b2 ax o4 M3 af al;obtain⟨gF,rfl,a6,a7⟩:=M4.so 0;have cU:w4.cell? ⟨gF,u,none⟩=some (I (aX aA u 0)):=by have h1:=(dH (D:=D) (v:=u) (by rw[HD.out];exact hu)).1;rw[ab u hu]at h1;have:=(M4.ow 0).cellAt u (by omega);rw[this];simp only[ivs,aR6,h1,aRk]
 have a5:decide (aX aA (u:Int) 0<0)=false:=by have:=z.out.1;first|(simp;done)|(simp;omega)
 have M5:=(M4.lit TI 1 1 w4 #[u] rfl rfl (by simp[maxLen]))
 go_wp2;clear cU M4 a6 a7;go_loopw [10,11] (fun o v wr=> ∃(x f:Nat) (pre:List Nat) (q:OA) (l lc:Nat),o= .slice q l lc∧v=I x∧x<n∧aX aA x 0≤f∧pre++dD aA n f x=dD aA n 12 u∧l=pre.length+1∧Mem w wr [aI w TI 1 (q) (l) (lc) (ivs (bF (pre++ [x]))),aI w TI 1 (some ⟨gF,0,none⟩) (n) (c2) (ivs (D)),aJ w w TH3 #[aA,aB,.slice p n cap]]) (fun _ v _=>(aX aA (intOf v) 0).toNat)
 case atStart=>exact⟨u,12,[],some ⟨w4,0,none⟩,1,1,rfl,rfl,hu,by have:=z.out.2.1;omega,rfl,rfl,M5⟩
 case round=>
  clear M5;obtain⟨x,f,pre,q,l,lc,rfl,rfl,hx,hf,r,hl,hM⟩:=hrel;have HM:=hM;have HW:=xQ r;have ad:=xQ (bV hg.out hx);have aj:=xQ hf;have be:l≤12:=by have h1:=congrArg List.length r;have h2:=mT hg.out f x hx hf;have h3:=mT hg.out 12 u hu (by have:=z.out.2.1;omega);have h4:=z.out.2.1;have h5:=ad.out.1;rw[aQw]at h1;omega
  have ak:=xQ hl;clear hM r hf hl;by_cases h0:x=0
  ·have t0:((x:Int)!=0)=false:=by simp[h0]
   have aa:Hid (pre++ [x]=dD aA n 12 u):=by show _=_;rw[←HW.out];subst h0;cases f<;>simp[dD]
   clear h0;go_wp2;go_ret;exact dC (by rw[←aa.out];have:=ak.out;simp[bF];omega) (by rw[←aa.out];exact HM.ow 0) HM.ext
  have t0:((x:Int)!=0)=true:=by simp[h0]
  obtain⟨J,a8,t,ag⟩:=aHj hg.out hx h0;obtain⟨e1,e2,e3⟩:=ad.out.2.2.2.1 h0;have bd:=xQ h0;obtain⟨y,hy⟩: ∃y,y=lJ aA n x:=⟨_,rfl⟩
  rw[←hy]at t e1 e2 e3;have HY:=xQ hy;clear hy h0;obtain⟨nb,h⟩: ∃nb,nb=aR aA n x:=⟨_,rfl⟩
  rw[←h]at a8 t ag;have ai:Hid (∀w',Ext w w'→U 217 #[aH aA aB p n cap,x] w' (aY (bF nb) w')):=by rw[h];exact HC x hx
  have a0:=xQ h;have bb:nb.length≤12:=by rw[h];exact aQy (aRr _ _) (by simp;omega)
  have am:=xQ t;have an:=xQ ag;have s:=xQ e3;clear h t ag e2 e3;have ap:(bF nb).length=nb.length:=by simp[bF]
  obtain⟨b0,b1,b2⟩:=(HM.bk 2).cells3;go_wp2_with fail;clear b0 b1 b2;refine(ai _ HM.ext).mono ?_;rintro e w5 ⟨q5,c5,rfl,o5,ay⟩;rw[ap]at o5⊢;have M6:=(HM.call ay o5)
  clear o5 ay ai HM;obtain⟨gN,rfl,a9,ba⟩:=M6.so 0;clear a9 ba;go_wp2;go_loopw [11,69] (fun cc i wz=> ∃j:Nat,j≤J∧cc=I x∧i=I j∧Mem w wz [aI w TI 1 (some ⟨gN,0,none⟩) (nb.length) (c5) (ivs (bF nb)),aI w TI 1 (q) (l) (lc) (ivs (bF (pre++ [x]))),aI w TI 1 (some ⟨gF,0,none⟩) (n) (c2) (ivs (D)),aJ w w TH3 #[aA,aB,.slice p n cap]]) (fun _ i _=>J-(intOf i).toNat)
  case atStart=>exact⟨0,aQt _,rfl,rfl,M6⟩
  case round=>
   clear M6;obtain⟨j,hj,rfl,rfl,hM⟩:=hrel;have HM:=hM;clear hM;obtain⟨v,hv⟩: ∃v,nb[j]? =some v:=⟨_,aQo (by omega)⟩
   have m:v<n:=(bU.1 (by rw[←a0.out];exact aQq hv:v∈aR aA n x)).1;have ae:=xQ hv;have c:=(dH (D:=D) (v:=v) (by rw[HD.out];exact m)).1;have g:=(dH (D:=D) (v:=x) (by rw[HD.out];exact hx)).1;rw[ab v m]at c;rw[ab x hx]at g;obtain⟨dv,a⟩: ∃d,d=aX aA v 0:=⟨_,rfl⟩
   obtain⟨dx,b⟩: ∃d,d=aX aA x 0:=⟨_,rfl⟩
   have gv:=bV hg.out m;have gx:=ad.out;rw[←a]at c gv;rw[←b]at g gx;have m1:(0:Int)≤(j:Int):=by omega
   have m2:(j:Int)<(nb.length:Int):=by omega
   have m3:(0:Int)≤(v:Int):=by omega
   have m4:(v:Int)<(n:Int):=by omega
   have m5:(0:Int)≤(x:Int):=by omega
   have m6:(x:Int)<(n:Int):=by omega
   have w7:IntKind.i64.wrap (dx-1)=dx-1:=aQp _ (by omega);have cn:wr.cell? ⟨gN,j,none⟩=some (I v):=by have:=(HM.ow 0).cellAt j (by omega);rw[this];simp[ivs,bF,ae.out]
   have cf:wr.cell? ⟨gF,v,none⟩=some (I dv):=by have:=(HM.ow 2).cellAt v (by omega);rw[this];simp only[ivs,aR6,c,aRk]
   have cx:wr.cell? ⟨gF,x,none⟩=some (I dx):=by have:=(HM.ow 2).cellAt x (by omega);rw[this];simp only[ivs,aR6,g,aRk]
   by_cases hjJ:j<J
   ·have aq:(dv==dx-1)=false:=by
     have:=an.out j v hjJ ae.out;rw[←a,←b]at this;exact beq_eq_false_iff_ne.2 this
    clear c g a b gv gx;go_wp2;go_quiet (fail);go_wp2;go_roundw
    case rel=>exact⟨j+1,by omega,rfl,by go_num,HM.adv xE⟩
    case measure=>simp[intOf];omega
   obtain rfl:j=J:=by omega
   have bc:v=y:=by have h1:=ae.out;rw[am.out]at h1;injection h1 with h1;exact h1.symm
   subst bc;have aq:(dv==dx-1)=true:=by have:=s.out;rw[←a,←b]at this;simp[this]
   have ao:=xQ (show 1≤aX aA (x:Int) 0 by have h1:=(bV hg.out m).1;have h2:=s.out;omega);clear c g a gv;go_wp2;go_quiet (fail);generalize ar:World.drewN _ _=wq;have M7:=(show Mem w wq [aI w TI 1 (q) (l) (lc) (ivs (bF (pre++ [x]))),aI w TI 1 (some ⟨gF,0,none⟩) (n) (c2) (ivs (D)),aJ w w TH3 #[aA,aB,.slice p n cap]]from by rw[←ar];exact(HM.adv xE).pick [1,2,3] (by decide) rfl)
   clear ar cn cf cx HM;go_wp2_with (at_builtin;go_loud (refine cH fM rfl _ _ rfl (M7.adv ((Ext.refl _).alloc (.cells #[v] TI))) 0 rfl rfl (ivs [(v:Int)]) rfl (eH _ _ _ 1 1 _ (by first|rfl|simp) (by first|rfl|simp) (by simp[maxLen])) (fun u hu=>by obtain rfl:=aRd.1 hu;rfl) (by omega) ?_;intro q7 c7 w6 M8));have M9:=(show Mem w w6 [aI w TI 1 (q7) (l+1) (c7) (ivs (bF (pre++ [x]++ [v]))),aI w TI 1 (some ⟨gF,0,none⟩) (n) (c2) (ivs (D)),aJ w w TH3 #[aA,aB,.slice p n cap]]from by rw[show ivs (bF (pre++ [x]++ [v]))=ivs (bF (pre++ [x]))++ivs [(v:Int)] by simp[ivs,bF]];exact M8)
   clear M8 M7;have bf:0<f:=by have:=aj.out;have:=ao.out;omega
   obtain⟨f',rfl⟩: ∃f',f=f'+1:=⟨f-1,by omega⟩
   have ah:Hid ((pre++ [x])++dD aA n f' v=dD aA n 12 u):=by
    show _=_;rw[←HW.out]
    conv=>rhs;rw[dD,if_neg bd.out,←HY.out]
    simp
   go_wp2;go_roundw
   case rel=>exact⟨v,f',pre++ [x],q7,l+1,c7,rfl,by go_num,m,by have:=s.out;have:=aj.out;omega,ah.out,by have:=ak.out;simp;omega,M9⟩
   case measure=>simp[intOf];have:=s.out;have:=ao.out;omega
theorem aPm (aA aB:Int)(p:OA)(n cap u:Nat)(xs:List Int)(w:World)(hS:Sl w p n cap 1 (ivs xs))(a:aO aA aB xs=true)(hu:u<n):
  U 190 #[aH aA aB p n cap,u,(),(-1:Int)] w (aY (bF (dD aA n 12 u)) w):=by
 have hl:=hS.ilen;obtain⟨g1,g2,g3,g4,g5,g6,g7,g8,g9⟩:=bM a;have hg:=qY (n:=n) g1 g2 g3 g4 (by omega);refine aMd aA aB p n cap u w hg (by omega) (by omega) hu (fun w' hx=>by have:=fT aA aB p n cap xs w' (hS.ext hx);rwa[a]at this) (fun k hk w'=> ?_) (fun w' hx=> ?_) (fun k hk w' hx=> ?_)
 ·have:=jA aA aB k p n cap w' (by omega);rwa[decide_eq_true (⟨by omega,by omega⟩:0≤(k:Int)∧(k:Int)<n)]at this
 ·refine(aPn aA aB p n cap 0 (-1) xs w' (hS.ext hx) a (by omega)).mono ?_;rintro e w2 ⟨D,hD,hr⟩;exact⟨D,⟨hD.len,fun v hv=>aAb hg (aEx aA n) hD hv⟩,hr⟩
 have:=aGy aA aB k p n cap xs w' (hS.ext hx) a (by omega) (by omega);rwa[lH]at this
theorem aMv (aA aB c d A:Int)(p:OA)(n cap:Nat)(w:World)(HV:xB 72 #[aH aA aB p n cap] w true)(HF:Hid (∀w',U 159 #[aH aA aB p n cap,c] w' (O (.bool true) w')))(HT:Hid (∀w',U 159 #[aH aA aB p n cap,d] w' (O (.bool true) w')))
  (HA:Hid (∀w',U 160 #[aA,c,d] w' (O (I A) w'))):
  U 218 #[aH aA aB p n cap,c,d] w (O (I A) w):=by
 go_enter func218,ntmps218;go_wp2_with fail;refine Z (HV _ ((Mem.start w).c0 TH3 #[aA,aB,.slice p n cap]).ext) fun w1 a=>?_
 have M1:=(((Mem.start w).c0 TH3 #[aA,aB,.slice p n cap]).adv a)
 clear a;obtain⟨h0,h1,h2⟩:=(M1.bk 0).tri;go_wp2_with fail;clear h0 h1 h2;refine Z (HF _) fun w2 b=>?_
 have M2:=(M1.adv b)
 clear M1 b;obtain⟨h0,h1,h2⟩:=(M2.bk 0).tri;go_wp2_with fail;clear h0 h1 h2;refine Z (HT _) fun w3 f=>?_
 have M3:=(M2.adv f)
 clear M2 f;obtain⟨h0,h1,h2⟩:=(M3.bk 0).tri;go_wp2_with fail;clear h0 h1 h2;refine Z (HA _) fun w4 g=>?_
 have M4:=(M3.adv g)
 clear M3 g;go_wp2;go_ret;exact⟨rfl,M4.ext⟩
theorem aJs (aA aB f t:Int)(p:OA)(n cap:Nat)(w:World)(HV:xB 72 #[aH aA aB p n cap] w true)(HF:Hid (∀w',U 159 #[aH aA aB p n cap,f] w' (O (.bool false) w'))):
  U 123 #[aH aA aB p n cap,eD f t] w (O (.bool false) w):=by
 go_enter func123,ntmps123;go_wp2_with fail;refine Z (HV _ (((Mem.start w).c0 TH3 #[aA,aB,.slice p n cap]).c1 TSL #[f,t]).ext) fun w1 a=>?_
 have M1:=((((Mem.start w).c0 TH3 #[aA,aB,.slice p n cap]).c1 TSL #[f,t]).adv a)
 clear a;obtain⟨h0,h1,h2⟩:=(M1.bk 1).tri;have s0:=(M1.bk 0).cl 0;have s1:=(M1.bk 0).cl 1;go_wp2_with fail;clear h0 h1 h2 s0 s1;refine Z (HF _) fun w2 b=>?_
 have M2:=(M1.adv b)
 clear M1 b;obtain⟨h0,h1,h2⟩:=(M2.bk 1).tri;have s0:=(M2.bk 0).cl 0;have s1:=(M2.bk 0).cl 1;go_wp2;go_ret;exact⟨rfl,M2.ext⟩
theorem aJr (aA aB f t:Int)(p:OA)(n cap:Nat)(w:World)(HV:xB 72 #[aH aA aB p n cap] w true)(HF:Hid (∀w',U 159 #[aH aA aB p n cap,f] w' (O (.bool true) w')))(HT:Hid (∀w',U 159 #[aH aA aB p n cap,t] w' (O (.bool false) w'))):
  U 123 #[aH aA aB p n cap,eD f t] w (O (.bool false) w):=by
 go_enter func123,ntmps123;go_wp2_with fail;refine Z (HV _ (((Mem.start w).c0 TH3 #[aA,aB,.slice p n cap]).c1 TSL #[f,t]).ext) fun w1 a=>?_
 have M1:=((((Mem.start w).c0 TH3 #[aA,aB,.slice p n cap]).c1 TSL #[f,t]).adv a)
 clear a;obtain⟨h0,h1,h2⟩:=(M1.bk 1).tri;have s0:=(M1.bk 0).cl 0;have s1:=(M1.bk 0).cl 1;go_wp2_with fail;clear h0 h1 h2 s0 s1;refine Z (HF _) fun w2 b=>?_
 have M2:=(M1.adv b)
 clear M1 b;obtain⟨h0,h1,h2⟩:=(M2.bk 1).tri;have s0:=(M2.bk 0).cl 0;have s1:=(M2.bk 0).cl 1;go_wp2_with fail;clear h0 h1 h2 s0 s1;refine Z (HT _) fun w3 c=>?_
 have M3:=(M2.adv c)
 clear M2 c;obtain⟨h0,h1,h2⟩:=(M3.bk 1).tri;have s0:=(M3.bk 0).cl 0;have s1:=(M3.bk 0).cl 1;go_wp2;go_ret;exact⟨rfl,M3.ext⟩
theorem aJq (aA aB:Int)(b a n cap i j:Nat)(x y:Int)(w:World)(hi:i<n)(hj:j<n)(hb:b<w.heap.size)(g:Hid (w.cell? ⟨b,a+i,none⟩=some (I x)))(h:Hid (w.cell? ⟨b,a+j,none⟩=some (I y)))(d1:(x !=0)=false)(HV:xB 72 #[aH aA aB (some ⟨b,a,none⟩) n cap] w true)(HF:Hid (∀w',U 159 #[aH aA aB (some ⟨b,a,none⟩) n cap,i] w' (O (.bool true) w')))(HT:Hid (∀w',U 159 #[aH aA aB (some ⟨b,a,none⟩) n cap,j] w' (O (.bool true) w'))):
  U 123 #[aH aA aB (some ⟨b,a,none⟩) n cap,eD (i:Int) (j:Int)] w (O (.bool false) w):=by
 have a1:(0:Int)≤(i:Int):=by omega
 have a3:(i:Int)<(n:Int):=by omega
 go_enter func123,ntmps123;go_wp2_with fail;refine Z (HV _ (((Mem.start w).c0 TH3 #[aA,aB,.slice (some ⟨b,a,none⟩) n cap]).c1 TSL #[i,j]).ext) fun w1 c=>?_
 have M1:=((((Mem.start w).c0 TH3 #[aA,aB,.slice (some ⟨b,a,none⟩) n cap]).c1 TSL #[i,j]).adv c)
 clear c;obtain⟨h0,h1,h2⟩:=(M1.bk 1).tri;have s0:=(M1.bk 0).cl 0;have s1:=(M1.bk 0).cl 1;go_wp2_with fail;clear h0 h1 h2 s0 s1;refine Z (HF _) fun w2 d=>?_
 have M2:=(M1.adv d)
 clear M1 d;obtain⟨h0,h1,h2⟩:=(M2.bk 1).tri;have s0:=(M2.bk 0).cl 0;have s1:=(M2.bk 0).cl 1;go_wp2_with fail;clear h0 h1 h2 s0 s1;refine Z (HT _) fun w3 f=>?_
 have M3:=(M2.adv f)
 clear M2 f;obtain⟨h0,h1,h2⟩:=(M3.bk 1).tri;have s0:=(M3.bk 0).cl 0;have s1:=(M3.bk 0).cl 1;have g1:w3.cell? ⟨b,a+i,none⟩=some (I x):=(M3.ext.cells.1 _ _ hb).trans g.out;go_wp2;go_ret;exact⟨rfl,M3.ext⟩
theorem aJp (aA aB:Int)(b a n cap i j:Nat)(x y:Int)(w:World)(hi:i<n)(hj:j<n)(hb:b<w.heap.size)(g:Hid (w.cell? ⟨b,a+i,none⟩=some (I x)))(h:Hid (w.cell? ⟨b,a+j,none⟩=some (I y)))(d1:(x !=0)=true)(d2:(y==0)=false)(HV:xB 72 #[aH aA aB (some ⟨b,a,none⟩) n cap] w true)(HF:Hid (∀w',U 159 #[aH aA aB (some ⟨b,a,none⟩) n cap,i] w' (O (.bool true) w')))(HT:Hid (∀w',U 159 #[aH aA aB (some ⟨b,a,none⟩) n cap,j] w' (O (.bool true) w'))):
  U 123 #[aH aA aB (some ⟨b,a,none⟩) n cap,eD (i:Int) (j:Int)] w (O (.bool false) w):=by
 have a1:(0:Int)≤(i:Int):=by omega
 have a2:(0:Int)≤(j:Int):=by omega
 have a3:(i:Int)<(n:Int):=by omega
 have a4:(j:Int)<(n:Int):=by omega
 go_enter func123,ntmps123;go_wp2_with fail;refine Z (HV _ (((Mem.start w).c0 TH3 #[aA,aB,.slice (some ⟨b,a,none⟩) n cap]).c1 TSL #[i,j]).ext) fun w1 c=>?_
 have M1:=((((Mem.start w).c0 TH3 #[aA,aB,.slice (some ⟨b,a,none⟩) n cap]).c1 TSL #[i,j]).adv c)
 clear c;obtain⟨h0,h1,h2⟩:=(M1.bk 1).tri;have s0:=(M1.bk 0).cl 0;have s1:=(M1.bk 0).cl 1;go_wp2_with fail;clear h0 h1 h2 s0 s1;refine Z (HF _) fun w2 d=>?_
 have M2:=(M1.adv d)
 clear M1 d;obtain⟨h0,h1,h2⟩:=(M2.bk 1).tri;have s0:=(M2.bk 0).cl 0;have s1:=(M2.bk 0).cl 1;go_wp2_with fail;clear h0 h1 h2 s0 s1;refine Z (HT _) fun w3 f=>?_
 have M3:=(M2.adv f)
 clear M2 f;obtain⟨h0,h1,h2⟩:=(M3.bk 1).tri;have s0:=(M3.bk 0).cl 0;have s1:=(M3.bk 0).cl 1;have g1:w3.cell? ⟨b,a+i,none⟩=some (I x):=(M3.ext.cells.1 _ _ hb).trans g.out;have g2:w3.cell? ⟨b,a+j,none⟩=some (I y):=(M3.ext.cells.1 _ _ hb).trans h.out;go_wp2;go_ret;exact⟨rfl,M3.ext⟩
theorem aMh (aA aB:Int)(b a n cap i j:Nat)(x y A:Int)(w:World)(hi:i<n)(hj:j<n)(hb:b<w.heap.size)(h:Hid (w.cell? ⟨b,a+i,none⟩=some (I x)))(k:Hid (w.cell? ⟨b,a+j,none⟩=some (I y)))(d1:(x !=0)=true)(d2:(y==0)=true)(HV:xB 72 #[aH aA aB (some ⟨b,a,none⟩) n cap] w true)(HF:Hid (∀w',U 159 #[aH aA aB (some ⟨b,a,none⟩) n cap,i] w' (O (.bool true) w')))(HT:Hid (∀w',U 159 #[aH aA aB (some ⟨b,a,none⟩) n cap,j] w' (O (.bool true) w')))(HA:Hid (∀w',U 160 #[aA,i,j] w' (O (I A) w'))):
  U 123 #[aH aA aB (some ⟨b,a,none⟩) n cap,eD (i:Int) (j:Int)] w (O (.bool (A==1)) w):=by
 have a1:(0:Int)≤(i:Int):=by omega
 have a2:(0:Int)≤(j:Int):=by omega
 have a3:(i:Int)<(n:Int):=by omega
 have a4:(j:Int)<(n:Int):=by omega
 go_enter func123,ntmps123;go_wp2_with fail;refine Z (HV _ (((Mem.start w).c0 TH3 #[aA,aB,.slice (some ⟨b,a,none⟩) n cap]).c1 TSL #[i,j]).ext) fun w1 c=>?_
 have M1:=((((Mem.start w).c0 TH3 #[aA,aB,.slice (some ⟨b,a,none⟩) n cap]).c1 TSL #[i,j]).adv c)
 clear c;obtain⟨h0,h1,h2⟩:=(M1.bk 1).tri;have s0:=(M1.bk 0).cl 0;have s1:=(M1.bk 0).cl 1;go_wp2_with fail;clear h0 h1 h2 s0 s1;refine Z (HF _) fun w2 d=>?_
 have M2:=(M1.adv d)
 clear M1 d;obtain⟨h0,h1,h2⟩:=(M2.bk 1).tri;have s0:=(M2.bk 0).cl 0;have s1:=(M2.bk 0).cl 1;go_wp2_with fail;clear h0 h1 h2 s0 s1;refine Z (HT _) fun w3 f=>?_
 have M3:=(M2.adv f)
 clear M2 f;obtain⟨h0,h1,h2⟩:=(M3.bk 1).tri;have s0:=(M3.bk 0).cl 0;have s1:=(M3.bk 0).cl 1;have g1:w3.cell? ⟨b,a+i,none⟩=some (I x):=(M3.ext.cells.1 _ _ hb).trans h.out;have g2:w3.cell? ⟨b,a+j,none⟩=some (I y):=(M3.ext.cells.1 _ _ hb).trans k.out;go_wp2_with fail;clear h0 h1 h2 s0 s1 g1 g2;refine Z (HA _) fun w4 g=>?_
 have M4:=(M3.adv g)
 clear M3 g;go_wp2;go_ret;exact⟨rfl,M4.ext⟩
theorem aPv (aA aB:Int)(c d:Nat)(p:OA)(n cap:Nat)(xs:List Int)(w:World)(hS:Sl w p n cap 1 (ivs xs))(a:aO aA aB xs=true)(hc:c<n)(hd:d<n):
  U 218 #[aH aA aB p n cap,c,d] w (O (I (aX aA c d)) w):=by
 have hl:=hS.ilen;obtain⟨g1,g2,g3,g4,g5,g6,g7,g8,g9⟩:=bM a;have HH: ∀(k:Nat),k<n→ ∀w',U 159 #[aH aA aB p n cap,k] w' (O (.bool true) w'):=fun k hk w'=>by have:=jA aA aB k p n cap w' (by omega);rwa[decide_eq_true (⟨by omega,by omega⟩:0≤(k:Int)∧(k:Int)<n)]at this
 exact aMv aA aB c d _ p n cap w (fun w' hx=>by have:=fT aA aB p n cap xs w' (hS.ext hx);rwa[a]at this) (HH c hc) (HH d hd) (fun w'=>mO aA c d w' (by omega) (by omega) (by omega) (by omega) (by omega) (by omega))
theorem aPo (aA aB f t:Int)(p:OA)(n cap:Nat)(xs:List Int)(w:World)(hS:Sl w p n cap 1 (ivs xs))(d:aO aA aB xs=true):
  U 123 #[aH aA aB p n cap,eD f t] w (O (.bool (bD aA aB xs f t)) w):=by
 have hl:=hS.ilen;obtain⟨g1,g2,g3,g4,g5,g6,g7,g8,g9⟩:=bM d;have HV: ∀w',Ext w w'→U 72 #[aH aA aB p n cap] w' (O (.bool true) w'):=fun w' hx=>by have:=fT aA aB p n cap xs w' (hS.ext hx);rwa[d]at this
 have HH: ∀(c:Int) w',U 159 #[aH aA aB p n cap,c] w' (O (.bool (decide (0≤c∧c<n))) w'):=fun c w'=>jA aA aB c p n cap w' (by omega)
 by_cases hf:0≤f∧f<n
 ·have HF:=HH f;rw[decide_eq_true hf]at HF;by_cases ht:0≤t∧t<n
  ·have HT:=HH t;rw[decide_eq_true ht]at HT;obtain⟨i,rfl⟩: ∃i:Nat,f=(i:Int):=⟨f.toNat,by omega⟩
   obtain⟨j,rfl⟩: ∃j:Nat,t=(j:Int):=⟨t.toNat,by omega⟩
   have hi:i<n:=by omega
   have hj:j<n:=by omega
   obtain⟨b,a,rfl,hb,l⟩:=hS.rd (by omega);have m:xs[i]? =some (xs.getD i 0):=by rw[aQs,aQo (by omega)];rfl
   have o:xs[j]? =some (xs.getD j 0):=by rw[aQs,aQo (by omega)];rfl
   have g:w.cell? ⟨b,a+i,none⟩=some (I (xs.getD i 0)):=by rw[l i (by omega)];simp only[ivs,aR6,m,aRk]
   have k:w.cell? ⟨b,a+j,none⟩=some (I (xs.getD j 0)):=by rw[l j (by omega)];simp only[ivs,aR6,o,aRk]
   have r:0≤xs.getD i 0:=oY d i;have q:dI aA aB xs (i:Int) (j:Int)=aX aA i j:=by unfold dI;rw[if_pos ⟨d,⟨by omega,by omega⟩,by omega,by omega⟩]
   unfold bD;rw[q,aSo,aSo];clear m o;generalize xs.getD i 0=x at*;generalize xs.getD j 0=y at*;by_cases hx0:x=0
   ·subst hx0;rw[show(decide (aX aA (i:Int) j=1)&&decide (0<(0:Int))&&decide (y=0))=false by simp];exact aJq aA aB b a n cap i j _ _ w hi hj hb g k (by simp) HV HF HT
   have d1:(x !=0)=true:=by simp[hx0]
   by_cases hy0:y=0
   ·subst hy0;rw[show(decide (aX aA (i:Int) j=1)&&decide (0<x)&&decide ((0:Int)=0))=(aX aA (i:Int) j==1) by rw[decide_eq_true (show 0<x by omega)];by_cases ha:aX aA (i:Int) j=1<;>simp[ha]];exact aMh aA aB b a n cap i j _ _ _ w hi hj hb g k d1 (by simp) HV HF HT (fun w'=>mO aA i j w' (by omega) (by omega) (by omega) (by omega) (by omega) (by omega))
   rw[show(decide (aX aA (i:Int) j=1)&&decide (0<x)&&decide (y=0))=false by simp[hy0]];exact aJp aA aB b a n cap i j _ _ w hi hj hb g k d1 (by simp[hy0]) HV HF HT
  have HT:=HH t;rw[decide_eq_false ht]at HT
  rw[show bD aA aB xs f t=false by
   cases h:bD aA aB xs f t with
   |false=>rfl
   |true=>
    unfold bD at h;simp only[aQv,decide_eq_true_eq]at h
    have:=jO h.1.1;omega]
  exact aJr aA aB f t p n cap w HV HF HT
 have HF:=HH f;rw[decide_eq_false hf]at HF
 rw[show bD aA aB xs f t=false by
  cases h:bD aA aB xs f t with
  |false=>rfl
  |true=>
   unfold bD at h;simp only[aQv,decide_eq_true_eq]at h
   have:=jO h.1.1;omega]
 exact aJs aA aB f t p n cap w HV HF
theorem aHc (q:OA)(m c2:Nat)(xs:List Int)(w:World)(hm:m≤1000)(hS:Sl w q m c2 1 (ivs xs)):
  U 126 #[.slice q m c2] w fun e w'=> ∃q' c',e= .returned (.slice q' m c')∧w'.ownsRow w TI 1 (.slice q' m c') m (ivs xs)∧Ext w w':=by
 cases q with
 |none=>
  have h0:m=0:=by
   by_cases h:0<m
   ·obtain⟨b,g,e,_⟩:=hS.rd h;cases e
   omega
  subst h0;have d:ivs xs= []:=aR8 (by have:=hS.len;simpa using this);have f: ∀(w:World) (a:OA) (n c n' c':Nat),(binOp .eql 22 (.slice a n c) (.slice none n' c')).run prog w= .ok (.bool a.isNone) w:=fun w a n c n' c'=>Lib.run_eql_slice_nil w _ _ a n c n' c' underlying22
  clear hS;go_enter func126,ntmps126;go_wp2;go_ret;exact⟨none,0,rfl,by rw[d];exact aR9 _ _ _ _,Ext.refl _⟩
 |some a=>
  have HS:=xQ hS;have MS:=((Mem.start w).made0 TI 1 w (by simp))
  have f: ∀(w:World) (a:OA) (n c n' c':Nat),(binOp .eql 22 (.slice a n c) (.slice none n' c')).run prog w= .ok (.bool a.isNone) w:=fun w a n c n' c'=>Lib.run_eql_slice_nil w _ _ a n c n' c' underlying22
  clear hS;go_enter func126,ntmps126;go_wp2_with (at_builtin;go_loud (refine cH fM rfl _ _ rfl MS 0 rfl rfl (ivs xs) rfl (HS.out.ext ((Ext.refl _).alloc _)) (pY xs) (by omega) ?_;intro q7 c7 w6 M6));have M7:=(show Mem w w6 [aI w TI 1 q7 m c7 (ivs xs)]from by simpa using M6)
  clear M6;go_wp2;go_ret;exact⟨q7,c7,rfl,M7.ow 0,M7.ext⟩
theorem lR (aA aB:Int)(p:OA)(n cap:Nat)(xs:List Int)(w:World)(hn:n≤1000)(hS:Sl w p n cap 1 (ivs xs)):
  U 86 #[aH aA aB p n cap] w (dW aA aB xs w):=by
 have hl:=xQ hS.ilen;have HS:=xQ hS;clear hS;have HK:xC 126 #[.slice p n cap] w fun w' e w''=> ∃q' c',e= .returned (.slice q' n c')∧w''.ownsRow w' TI 1 (.slice q' n c') n (ivs xs)∧Ext w' w'':=fun w' hx=>aHc p n cap xs w' hn (HS.out.ext hx)
 go_enter func86,ntmps86;go_wp2;have ME:=(((Mem.start w).c0 TH3 #[aA,aB,.slice p n cap]).c1 TH3 #[(),(),((),())])
 refine rL (gl [gEq (.pointer (some ⟨w,0,none⟩)),gEq aA,gEq (.pointer (some ⟨w,1,none⟩)),gEq aB,gEq (.pointer (some ⟨w,2,none⟩)),gEq (.slice p n cap),(fun v w'=> ∃q c,v= .slice q n c∧w'.ownsRow (w.heap.size+2) TI 1 (.slice q n c) n (ivs xs)),(fun v w'=> ∃q c,v=aH aA aB q n c∧w'.ownsRow (w.heap.size+2) TI 1 (.slice q n c) n (ivs xs))]) 8 9 [(0,some 3),(1,some 4),(2,some 5),(3,some 6),(4,some 7),(5,some 8),(6,some 9),(7,some 10)] ?steps ?fin (hG:=(kY (bE (bK _) (bE (bK _) (bE (bK _) (bE (bK _) (bE (bK _) (bE (bK _) (bE (fun v w w' ⟨q,c,he,ho⟩ hx=>⟨q,c,he,bB ho hx⟩) (bE (fun v w w' ⟨q,c,he,ho⟩ hx=>⟨q,c,he,bB ho hx⟩) (nX)))))))))))
 case steps=>
  refine sS0 [] ?_;refine sC [(0,some 3)] rfl (fun wi hx=> ?_) ?_
  ·intro v0 h0 K hK;obtain rfl:=h0;have hX:Ext ((w.alloc (.cells #[aA,aB,.slice p n cap] TH3)).alloc (.cells #[(),(),((),())] TH3)) wi:=xE;have b:=((ME.bk 1).ext hX).cl 0;go_simp;exact hK _ _ ⟨I aA,rfl,rfl,Ext.refl _⟩
  refine sS0 [] ?_;refine sC [(2,some 5)] rfl (fun wi hx=> ?_) ?_
  ·intro v2 h2 K hK;obtain rfl:=h2;have hX:Ext ((w.alloc (.cells #[aA,aB,.slice p n cap] TH3)).alloc (.cells #[(),(),((),())] TH3)) wi:=xE;have b:=((ME.bk 1).ext hX).cl 1;go_simp;exact hK _ _ ⟨I aB,rfl,rfl,Ext.refl _⟩
  refine sS0 [] ?_;refine sC [(4,some 7)] rfl (fun wi hx=> ?_) ?_
  ·intro v4 h4 K hK;obtain rfl:=h4;have hX:Ext ((w.alloc (.cells #[aA,aB,.slice p n cap] TH3)).alloc (.cells #[(),(),((),())] TH3)) wi:=xE;have b:=((ME.bk 1).ext hX).cl 2;go_simp;exact hK _ _ ⟨.slice p n cap,rfl,rfl,Ext.refl _⟩
  refine sC [(5,some 8)] rfl (fun wi hx=> ?_) ?_
  ·intro v5 h5 K hK;obtain rfl:=h5;go_wp2_with fail;refine(HK _ (ME.ext.trans hx.of_drew)).mono ?_;rintro e w5 ⟨q5,c5,rfl,o5,g⟩;go_simp;exact hK _ _ ⟨.slice q5 n c5,rfl,⟨q5,c5,rfl,bI o5 (by have:=hx.sz;simp at this;omega)⟩,g⟩
  refine sC [(1,some 4),(3,some 6),(6,some 9)] rfl (fun wi hx=> ?_) StepsL.nil
  ·intro v1 h1 v3 h3 v6 h6 K hK;subst h1 h3;obtain⟨q6,c6,rfl,a⟩:=h6;go_simp;exact hK _ _ ⟨aH aA aB q6 n c6,rfl,⟨q6,c6,rfl,a⟩,Ext.refl _⟩
 case fin=>
  intro wi hx v0 h0 v1 h1 v2 h2 v3 h3 v4 h4 v5 h5 v6 h6 v7 h7;subst h0 h1 h2 h3 h4 h5;obtain⟨q6,c6,rfl,a⟩:=h6;obtain⟨q7,c7,rfl,d⟩:=h7;have hX:Ext ((w.alloc (.cells #[aA,aB,.slice p n cap] TH3)).alloc (.cells #[(),(),((),())] TH3)) wi:=hx.of_drew;have M2:=(show Mem w wi [aI w TI 1 (q7) (n) (c7) (ivs xs),aJ w (w.heap.size+1) TH3 #[(),(),((),())],aJ w w TH3 #[aA,aB,.slice p n cap]]from ME.ownNew hX d (by simp))
  clear ME hx hX a d HK HS;try go_frame
  obtain⟨z0,h,z1,i,z2,j⟩:=(M2.bk 1).trif;refine wpAny_ready (rs:= [8]) (by kernel_rfl) (by simp) ?_;refine AllReady.cons rfl (fun K hK=> ?_) AllReady.nil;go_simp;refine hK _ _ ?_;clear hK K;refine wpAny_done (by kernel_rfl) ?_ _;try go_frame
  have M3:=((M2.st 1 0 (I aA)).st 1 1 (I aB))
  have M4:=(M3.st 1 2 (.slice q7 n c7))
  go_wp2;have M5:=(show Mem w (((wi.setCell ⟨w.heap.size+1,0,none⟩ (I aA)).setCell ⟨w.heap.size+1,1,none⟩ (I aB)).setCell ⟨w.heap.size+1,2,none⟩ (.slice q7 n c7)) [aI w TI 1 (q7) (n) (c7) (ivs xs),aJ w (w.heap.size+1) TH3 #[aA,aB,.slice q7 n c7],aJ w w TH3 #[aA,aB,.slice p n cap]]from M4)
  generalize f:World.setCell _ _ _=wz;rw[f]at M5;clear f M2 M3 M4 z0 h z1 i z2 j;obtain⟨y0,y1,y2⟩:=(M5.bk 1).tri;exact bodyPost_ret (v:=aH aA aB q7 n c7) (by simp[results,results86,go_sem, *]) rfl (wG hl.out (M5.ow 0) M5.ext)
theorem aHb (q:OA)(m c2:Nat)(xs:List Value)(w:World)(hm:m≤1000)(hS:Sl w q m c2 4 xs)(h1: ∀u∈xs,u.oneCell'=true):
  U 87 #[.slice q m c2] w fun e w'=> ∃q' c',e= .returned (.slice q' m c')∧w'.ownsRow w TV 4 (.slice q' m c') m xs∧Ext w w':=by
 cases q with
 |none=>
  have h0:m=0:=by
   by_cases h:0<m
   ·obtain⟨b,f,e,_⟩:=hS.rd h;cases e
   omega
  subst h0;obtain rfl:xs= []:=aR8 (by have:=hS.len;simpa using this);have d: ∀(w:World) (a:OA) (n c n' c':Nat),(binOp .eql 33 (.slice a n c) (.slice none n' c')).run prog w= .ok (.bool a.isNone) w:=fun w a n c n' c'=>Lib.run_eql_slice_nil w _ _ a n c n' c' underlying33
  clear hS;go_enter func87,ntmps87;go_wp2;go_ret;exact⟨none,0,rfl,aR9 _ _ _ _,Ext.refl _⟩
 |some a=>
  have HS:=xQ hS;have HO:=xQ h1;have MS:=((Mem.start w).made0 TV 4 w (by simp))
  have d: ∀(w:World) (a:OA) (n c n' c':Nat),(binOp .eql 33 (.slice a n c) (.slice none n' c')).run prog w= .ok (.bool a.isNone) w:=fun w a n c n' c'=>Lib.run_eql_slice_nil w _ _ a n c n' c' underlying33
  clear hS h1;go_enter func87,ntmps87;go_wp2_with (at_builtin;go_loud (refine cH vK rfl _ _ rfl MS 0 rfl rfl xs rfl (HS.out.ext ((Ext.refl _).alloc _)) HO (by omega) ?_;intro q7 c7 w6 M6));have M7:=(show Mem w w6 [aI w TV 4 q7 m c7 xs]from by simpa using M6)
  clear M6;go_wp2;go_ret;exact⟨q7,c7,rfl,M7.ow 0,M7.ext⟩
theorem aK2 (aA aB a b aD aF aC aG:Int)(p:OA)(n cap:Nat)(q:OA)(m c2:Nat)(xs:List Int)(vs:List aP)(w:World)
  (HL:xC 86 #[aH aA aB p n cap] w fun w' e w''=> ∃q c,e= .returned (aH aA aB q n c)∧w''.ownsRow w' TI 1 (.slice q n c) n (ivs xs)∧Ext w' w'')
  (l:xC 87 #[.slice q m c2] w fun w' e w''=> ∃q' c',e= .returned (.slice q' m c')∧w''.ownsRow w' TV 4 (.slice q' m c') m (vs.flatMap aE)∧Ext w' w''):
  U 36 #[.agg #[aA,aB,.slice p n cap,a,b,aD,aF,aC,aG,.slice q m c2]] w fun e w'=> ∃p' cap' q' c2',e= .returned (.agg #[aA,aB,.slice p' n cap',a,b,aD,aF,aC,aG,.slice q' m c2'])∧w'.ownsRow w TI 1 (.slice p' n cap') n (ivs xs)∧w'.ownsRow w TV 4 (.slice q' m c2') m (vs.flatMap aE)∧Ext w w':=by
 go_enter func36,ntmps36;go_wp2_with fail;refine(HL _ ((((Mem.start w).c0 aK #[aA,aB,.slice p n cap,a,b,aD,aF,aC,aG,.slice q m c2]).c1 aK zT).c2 aK #[aA,aB,.slice p n cap,a,b,aD,aF,aC,aG,.slice q m c2]).ext).mono ?_;rintro e w1 ⟨q0,c0,rfl,d,h⟩;have M1:=(((((Mem.start w).c0 aK #[aA,aB,.slice p n cap,a,b,aD,aF,aC,aG,.slice q m c2]).c1 aK zT).c2 aK #[aA,aB,.slice p n cap,a,b,aD,aF,aC,aG,.slice q m c2]).call h d)
 clear h d;have c9:=(M1.bk 3).cl 9;have d0:=(M1.bk 1).cl 0;have o:=(M1.bk 1).frozen 0;have d1:=(M1.bk 1).cl 1;have r:=(M1.bk 1).frozen 1;have d2:=(M1.bk 1).cl 2;have s:=(M1.bk 1).frozen 2;go_wp2_with fail;clear c9 d0 o d1 r d2 s;refine(l _ (((M1.store (i:=1) rfl 0 (I aA)).store (i:=1) rfl 1 (I aB)).store (i:=1) rfl 2 (.slice q0 n c0)).ext).mono ?_;rintro e w2 ⟨q7,c7,rfl,f,j⟩;have M2:=((((M1.st 1 0 (I aA)).st 1 1 (I aB)).st 1 2 (.slice q0 n c0)).call j f)
 clear M1 j f;obtain⟨x0,x1,x2,x3,x4,x5,x6,x7,x8,x9⟩:=(M2.bk 2).ten;have t:=(M2.bk 2).cl 9;have k:=(M2.bk 2).frozen 9;obtain⟨y0,u,y1,x,y2,y,y3,z,y4,aa,y5,ab,y6,ad,y7,ae,y8,af,y9,ag⟩:=(M2.bk 3).tenf;go_wp2;clear x0 x1 x2 x3 x4 x5 x6 x7 x8 x9 t k y0 u y1 x y2 y y3 z y4 aa y5 ab y6 ad y7 ae y8 af y9 ag;have M3:=(show Mem w (((((((((((w2.setCell ⟨w.heap.size+1+1,9,none⟩ (.slice q7 m c7)).setCell ⟨w.heap.size+1,0,none⟩ (I aA)).setCell ⟨w.heap.size+1,1,none⟩ (I aB)).setCell ⟨w.heap.size+1,2,none⟩ (.slice q0 n c0)).setCell ⟨w.heap.size+1,3,none⟩ (I a)).setCell ⟨w.heap.size+1,4,none⟩ (I b)).setCell ⟨w.heap.size+1,5,none⟩ (I aD)).setCell ⟨w.heap.size+1,6,none⟩ (I aF)).setCell ⟨w.heap.size+1,7,none⟩ (I aC)).setCell ⟨w.heap.size+1,8,none⟩ (I aG)).setCell ⟨w.heap.size+1,9,none⟩ (.slice q7 m c7)) [aI w TV 4 (q7) (m) (c7) (vs.flatMap aE),aI w TI 1 (q0) (n) (c0) (ivs xs),aJ w (w.heap.size+1+1) aK #[aA,aB,.slice q0 n c0,a,b,aD,aF,aC,aG,.slice q7 m c7],aJ w (w.heap.size+1) aK #[aA,aB,.slice q0 n c0,a,b,aD,aF,aC,aG,.slice q7 m c7],aJ w w aK #[aA,aB,.slice p n cap,a,b,aD,aF,aC,aG,.slice q m c2]]from((M2.store (i:=2) rfl 9 (.slice q7 m c7)).put10 (i:=3) rfl (I aA) (I aB) (.slice q0 n c0) (I a) (I b) (I aD) (I aF) (I aC) (I aG) (.slice q7 m c7)))
 generalize g:World.setCell _ _ _=wz;rw[g]at M3;clear g M2;obtain⟨y0,y1,y2,y3,y4,y5,y6,y7,y8,y9⟩:=(M3.bk 3).ten;exact bodyPost_ret (v:= .agg #[aA,aB,.slice q0 n c0,a,b,aD,aF,aC,aG,.slice q7 m c7]) (by simp[results,results36,go_sem, *]) rfl ⟨q0,c0,q7,c7,rfl,(M3.ow 1),(M3.ow 0),M3.ext⟩
theorem mR (h:aM)(p:OA)(n cap:Nat)(q:OA)(m c2:Nat)(w:World)(hn:n≤1000)(hm:m≤1000)(hi:IsHouse w h p n cap q m c2):
  U 36 #[bO h p n cap q m c2] w (RetHouse h w):=by
 have hl:=hi.clen;have d:=hi.vlen;refine(aK2 h.aA h.aB h.free h.step h.aD h.aF h.aC h.aG p n cap q m c2 h.cells h.vs w (xQ fun w' hx=> ?_) (xQ fun w' hx=>aHb q m c2 _ w' hm (hi.vs.ext hx) (eT _))).mono ?_
 ·refine(lR h.aA h.aB p n cap h.cells w' hn (hi.cells.ext hx)).mono ?_;rintro e g ⟨q,c,rfl,ho,f⟩;rw[hl]at ho⊢;exact⟨q,c,rfl,ho,f⟩
 rintro e w' ⟨p',a,q',b,rfl,h1,h2,h3⟩;subst hl d;exact⟨p',a,q',b,rfl,h1,h2,h3⟩
theorem oL: ∀(k:Nat) (vs:List aP),(vs.flatMap aE).take (k*4)=(vs.take k).flatMap aE
 |0,vs=>by simp
 |k+1,[]=>by simp
 |k+1,v::vs=>by rw[aRl,show(k+1)*4=(aE v).length+k*4 by simp[aE];omega,List.take_length_add_append,oL k vs];rfl
theorem aOw {W0 wr:World}{B:Nat}(hg:W0.grownBy wr (some B))(o:Nat)(v:Value):W0.grownBy (wr.setCell ⟨B,o,none⟩ v) (some B):=
 ⟨hg.os,hg.tape,hg.output,by simpa using hg.size,fun k hk hne=>by rw[aT0 _ _ _ _ (fun e=>hne (by simp[e]))];exact hg.block k hk hne⟩
theorem uE {α:Type}: ∀(xs:List α) (k:Nat) (v:α),k<xs.length→(xs.set k v).take (k+1)=xs.take k++ [v]
 | [],_,_,h=>by simp at h
 |x::xs,0,v,_=>by simp
 |x::xs,k+1,v,h=>by simp only[aR0,aSv,uE xs k v (by simpa using h)];rfl
theorem uT {α:Type}: ∀(xs:List α) (k j:Nat) (v:α),k<j→(xs.set k v).drop j=xs.drop j
 | [],_,_,_,_=>by simp
 |x::xs,0,j+1,v,_=>by simp
 |x::xs,k+1,j+1,v,h=>by simp only[aR0,aSw];exact uT xs k j v (by omega)
theorem fQ {B n c sz g:Nat}{e:TypeId}: ∀(vs:List Value) (k:Nat) (xs:List Value) (w:World),w.ownsRow B e sz (.slice (some ⟨g,0,none⟩) n c) n xs→k+vs.length≤xs.length→
  (w.setCells g k vs).ownsRow B e sz (.slice (some ⟨g,0,none⟩) n c) n (xs.take k++vs++xs.drop (k+vs.length))∧w.grownBy (w.setCells g k vs) (some g)
 | [],k,xs,w,h,_=>by refine⟨?_,aRt _ _⟩;simpa[World.setCells]using h
 |v::vs,k,xs,w,h,hl=>by simp only[aRm]at hl;obtain⟨h1,h2⟩:=fQ vs (k+1) (xs.set k v) _ (h.stored k v).1 (by simp;omega);rw[uE xs k v (by omega),uT xs k _ v (by omega)]at h1;refine⟨?_,(aOw (aRt _ _) k v).trans h2⟩;rw[aRm,show k+(vs.length+1)=k+1+vs.length by omega];simpa[World.setCells]using h1
theorem aOf {w:World}{B n c sz k:Nat}{e:TypeId}{q:OA}{xs:List Value}(h:w.ownsRow B e sz (.slice q n c) n xs)(hk:k≤n)(h0:0<n):w.ownsRow B e sz (.slice q k c) k (xs.take (k*sz)):=by
 have hm:=aRg sz hk;refine⟨by rw[aRc,h.1];omega,?_⟩;rcases h.2 with⟨_,h3⟩|⟨g,cap',cur,e1,hb,hg,hn,hmx,hs,ht⟩
 ·omega
 injection e1 with e1 e2 e3;subst e1 e3;refine .inr ⟨g,c,cur,rfl,hb,hg,by omega,hmx,hs,?_⟩;rw[←ht,List.take_take,Nat.min_eq_left hm]
theorem aEz (w:World):(zeroValue TV).run prog w= .ok (.agg #[(),(),(),()]) w:=by simp[Tryz.zeroValue77]
theorem aEq (w:World)(ty:TypeId)(b o c:Nat)(hc: ∀j,j<4→(w.cell? ⟨b,o+j,none⟩).isSome=true)(hf: ∀j,j<4→w.frozen? ⟨b,o+j,none⟩=false):
  (Builtin.clear_ #[33] ty #[.slice (some ⟨b,o,none⟩) 1 c]).run prog w= .ok (.tuple #[]) (w.setCells b o [I 0,I 0,I 0,I 0]):=by
 have d:(Builtin.zeroCells (Value.agg #[(),(),(),()]).cells 1).toList= [I 0,I 0,I 0,I 0]:=by kernel_rfl
 have a:=run_storeCells_cells (P:=prog) b o [I 0,I 0,I 0,I 0] 0 w (by simpa using hc) (by simpa using hf) (by intro v hv;simp at hv;subst hv;rfl);simp only[Nat.add_zero]at a;simp[Builtin.clear_,run_underlying underlying33,aEz,d,a]
theorem aEj (bs:List aP)(i n:Nat)(hn:bs.length=n)(hi:i<n):
  ((bs.flatMap aE).take (i*4)++(bs.drop (i+1)).flatMap aE++(bs.flatMap aE).drop (i*4+((bs.drop (i+1)).flatMap aE).length)).take ((n-1)*4)=(bs.eraseIdx i).flatMap aE:=by
 have h1:((bs.take i).flatMap aE).length=i*4:=by rw[cQ aE 4 (fun _=>rfl),aRc];congr 1;omega
 have h2:((bs.drop (i+1)).flatMap aE).length=(n-1-i)*4:=by rw[cQ aE 4 (fun _=>rfl),aSa];congr 1;omega
 rw[oL,aSp (by rw[aQw,h1,h2,←Nat.add_mul];exact aRg 4 (by omega)),aQu (by rw[aQw,h1,h2,←Nat.add_mul];exact aRg 4 (by omega)),←aRh,List.eraseIdx_eq_take_drop_succ]
theorem aNl (g n c B i j:Nat)(bs:List aP)(w:World)(hn:n≤1000)(hi:i<n)(hj:Hid (j=i+1))(hO:w.ownsRow B TV 4 (.slice (some ⟨g,0,none⟩) n c) n (bs.flatMap aE)):
  U 122 #[.slice (some ⟨g,0,none⟩) n c,i,j] w fun e w'=>e= .returned (.slice (some ⟨g,0,none⟩) (n-1) c)∧w'.ownsRow B TV 4 (.slice (some ⟨g,0,none⟩) (n-1) c) (n-1) ((bs.eraseIdx i).flatMap aE)∧w.grownBy w' (some g):=by
 obtain⟨i0,y,al,z,am⟩:=info_parts (show(prog.info? TV).map (fun i=>(i.zero,i.size,i.bytes))=some (some (.agg #[(),(),(),()]),4,32) by kernel_rfl);have d:w.drew.ownsRow B TV 4 (.slice (some ⟨g,0,none⟩) n c) n (bs.flatMap aE):=bB hO (Ext.drew (Ext.refl _));have l:bs.length=n:=by have:=hO.1;rw[cQ aE 4 (fun _=>rfl)]at this;omega
 have aa:n≤c:=by
  rcases hO.2 with⟨_,h3⟩|⟨g',cap',cur,e1,hb,hg,hn',_⟩
  ·omega
  injection e1 with e1 e2 e3;omega
 have m:j=i+1:=hj.out;obtain⟨news,a⟩: ∃news,news=(bs.drop (i+1)).flatMap aE:=⟨_,rfl⟩
 have b:news.length=(n-j)*4:=by rw[a,cQ aE 4 (fun _=>rfl),aSa,l,m]
 obtain⟨A,hA,s⟩: ∃A:Addr,(if c=j then some (⟨g,0,none⟩:Addr)else some ⟨g,j*4,none⟩)=some A∧Hid (∀t u,news[t]? =some u→w.drew.cell? (A.add t)=some u):=by
  by_cases h:c=j
  ·refine⟨⟨g,0,none⟩,by simp[h],fun t u hu=> ?_⟩;rw[aR8 (by rw[b];omega:news.length=0)]at hu;simp at hu
  refine⟨⟨g,j*4,none⟩,by simp[h],fun t u hu=> ?_⟩;have ht:t<(n-j)*4:=by have:=(aQr.1 hu).1;rwa[b]at this
  rw[Addr.add_lit,d.cellAt _ (by omega)];rw[a,←kN,List.getElem?_drop]at hu;rw[m];exact hu
 have s1:Hid (news.length=(n-j)*4):=b;have s2:Hid (∀u∈news,u.oneCell'=true):=by show∀u∈news,_;rw[a];exact eT _
 have o:(bs.flatMap aE).length=n*4:=by rw[cQ aE 4 (fun _=>rfl),l]
 have s3:Hid (∀t,t<news.length→(w.drew.cell? ⟨g,0+i*4+t,none⟩).isSome=true∧w.drew.frozen? ⟨g,0+i*4+t,none⟩=false):=by intro t ht;rw[b]at ht;refine⟨?_,d.frozenAt _⟩;rw[d.cellAt _ (by omega),aQo (by rw[o];omega)];rfl
 obtain⟨W1,f⟩: ∃W1,W1=w.drew.setCells g (0+i*4) news:=⟨_,rfl⟩
 obtain⟨h1,g1⟩:=fQ news (i*4) _ _ d (by rw[b,o];omega);have hW:Hid (W1=w.drew.setCells g (0+i*4) news):=f;rw[aRq]at f;rw[←f]at h1 g1;obtain⟨ys,p⟩: ∃ys,ys=(bs.flatMap aE).take (i*4)++news++(bs.flatMap aE).drop (i*4+news.length):=⟨_,rfl⟩
 rw[←p]at h1;have ad:=fun ty=>aEq W1 ty g ((n-1)*4) (c-(n-1)) (fun t ht=>by rw[h1.cellAt _ (by omega),aQo (by rw[h1.1];omega)];rfl) (fun t _=>h1.frozenAt _)
 obtain⟨h2,g2⟩:=fQ [I 0,I 0,I 0,I 0] ((n-1)*4) _ _ h1 (by rw[h1.1];simp;omega);have q:Hid ((W1.setCells g ((n-1)*4) [I 0,I 0,I 0,I 0]).ownsRow B TV 4 (.slice (some ⟨g,0,none⟩) (n-1) c) (n-1) ((bs.eraseIdx i).flatMap aE)):=by have h3:=aOf h2 (k:=n-1) (by omega) (by omega);rw[aRe,aSp (by rw[aRc,h1.1];omega),List.take_take,Nat.min_self,p,a,aEj bs i n l hi]at h3;exact h3
 have x:Hid (w.grownBy (W1.setCells g ((n-1)*4) [I 0,I 0,I 0,I 0]) (some g)):=by exact(show w.grownBy w.drew (some g)from⟨rfl,rfl,rfl,aQn _,fun _ _ _=>rfl⟩).trans (g1.trans g2)
 have ag:i≤j:=by omega
 have ah:j≤n:=by omega
 have af:i≤c:=by omega
 have ak: ¬i=j:=by omega
 have r:i+(n-j)=n-1:=by omega
 have ab:n-(n-1)=1:=by omega
 have ai:n-1≤n:=by omega
 have aj:n-1≤c:=by omega
 have ae: ¬c=n-1:=by omega
 have v:=xQ r;clear f h1 g1 h2 g2 p a b hO d l o m hj r;go_enter func122,ntmps122;go_wp2_with fail;go_region_law (refine step_append_room rfl (.tmp 22) (.tmp 25) 33 rfl TV i0 4 underlying33 y z g 0 i c (by simp[Act.eval,Act.put]) A (n-j) (c-j) news (by simp[Act.eval,Act.put]) s1.out s.out s2.out (by omega) s3.out ?_;rw[←hW.out,v.out])
 go_wp2;go_ret;exact⟨rfl,q.out,x.out⟩
end Go.Proofs.YtbgkcehffiogcacGreatDoor
