/-
  Texts of this proof, packed (@packed).
-/
import Derived.Test.YtpelpnfhbepokaaGreatDoorU7
import Derived.Test.YtpelpnfhbepokaaGreatDoorU8
import Derived.Test.YtpelpnfhbepokaaGreatDoorU11
import Derived.Test.YtpelpnfhbepokaaGreatDoorU12
import Derived.Test.YtpelpnfhbepokaaGreatDoorU19
import Derived.Test.YtpelpnfhbepokaaGreatDoorU24
namespace Go.Proofs.YtpelpnfhbepokaaGreatDoor
open Go.RowKit
set_option linter.unusedVariables false
set_option linter.unusedSimpArgs false
set_option maxHeartbeats 8000000
set_option maxRecDepth 100000
theorem aJu (aA aB:Int)(p:OA)(n cap u:Nat)(w:World)(hg:Hid ((aA,n)∈iD))(bh:4≤n)(hn:n≤12)(hu:u<n)
  (HV:xB 53 #[aH aA aB p n cap] w true)
  (HH:Hid (∀(k:Nat),k<n→ ∀w',Calls Tryz.prog 149 #[aH aA aB p n cap,(k:Int)] w' fun e w''=>e= .returned (.bool true)∧Ext w' w''))
  (HF:xC 213 #[aH aA aB p n cap,(),(-1:Int)] w fun w' e w''=> ∃D,(D.length=n∧ ∀v,v<n→D.getD v 0=aX aA v 0)∧bH D w' e w'')
  (HC:Hid (∀(k:Nat),k<n→ ∀w',Ext w w'→Calls Tryz.prog 214 #[aH aA aB p n cap,(k:Int)] w' (bH (bA (aP aA n k)) w'))):
  Calls Tryz.prog 187 #[aH aA aB p n cap,(u:Int),(),(-1:Int)] w (bH (bA (cY aA n 12 u)) w):=by
 have a1:(0:Int)≤(u:Int):=by omega
 have a2:(u:Int)<(n:Int):=by omega
 have a3:((-1:Int)==(u:Int))=false:=by first|(simp;done)|(simp;omega)
 have a4:decide ((n:Int)≤ -1)=false:=by first|(simp;done)|(simp;omega)
 have a0:Hid (∀w',Calls Tryz.prog 149 #[aH aA aB p n cap,()] w' fun e w''=>e= .returned (.bool true)∧Ext w' w''):=HH.out 0 (by omega);have aa:=xQ (bR hg.out hu);go_enter Tryz.func187,Tryz.ntmps187;go_wp2_with fail;have M0:=((Mem.start w).c0 TH3 #[aA,aB,.slice p n cap])
 refine(HV _ M0.ext).mono ?_;rintro e w1 ⟨rfl,av⟩;have M1:=(M0.adv av)
 have b:=(M1.hi 0)
 obtain⟨b0,b1,b2⟩:=(M1.bk 0).cells3;clear av M0;go_wp2_with fail;refine(HH u hu _).mono ?_;rintro e w2 ⟨rfl,aw⟩;have M2:=(M1.adv aw)
 clear b0 b1 b2 aw M1 b;have b:=(M2.hi 0)
 obtain⟨b0,b1,b2⟩:=(M2.bk 0).cells3;go_wp2_with fail;refine(a0 _).mono ?_;rintro e w3 ⟨rfl,ax⟩;have M3:=(M2.adv ax)
 clear b0 b1 b2 ax M2 b;have b:=(M3.hi 0)
 obtain⟨b0,b1,b2⟩:=(M3.bk 0).cells3;go_wp2_with fail;refine(HF _ M3.ext).mono ?_;rintro e w4 ⟨D,⟨ag,am⟩,q2,c2,rfl,o4,ay⟩;rw[ag]at o4⊢;have HD:=xQ ag;have ad:=xQ am;have M4:=(M3.call ay o4)
 clear b0 b1 b2 ay o4 M3 b ag am;obtain⟨gF,rfl,a7,a8⟩:=M4.so 0;have cU:w4.cell? ⟨gF,u,none⟩=some (.int .i64 (aX aA u 0)):=by have h1:=(dB (D:=D) (v:=u) (by rw[HD.out];exact hu)).1;rw[ad u hu]at h1;have:=(M4.ow 0).cellAt u (by omega);rw[this];simp only[ivs,List.getElem?_map,h1,Option.map_some]
 have a5:decide (aX aA (u:Int) 0<0)=false:=by have:=aa.out.1;first|(simp;done)|(simp;omega)
 have M5:=(M4.lit TI 1 1 w4.heap.size #[(u:Int)] rfl rfl (by simp[maxLen]))
 go_wp2;clear cU M4 a7 a8;go_loopw [10,11] (fun o v wr=> ∃(x f:Nat) (pre:List Nat) (q:OA) (l lc:Nat),o= .slice q l lc∧v= .int .i64 (x:Int)∧x<n∧aX aA x 0≤f∧pre++cY aA n f x=cY aA n 12 u∧l=pre.length+1∧Mem w wr [aI w.heap.size TI 1 (q) (l) (lc) (ivs (bA (pre++ [x]))),aI w.heap.size TI 1 (some ⟨gF,0,none⟩) (n) (c2) (ivs (D)),aJ w.heap.size (w.heap.size) TH3 #[aA,aB,.slice p n cap]]) (fun _ v _=>(aX aA (intOf v) 0).toNat)
 case atStart=>exact⟨u,12,[],some ⟨w4.heap.size,0,none⟩,1,1,rfl,rfl,hu,by have:=aa.out.2.1;omega,rfl,rfl,M5⟩
 case round=>
  clear M5;obtain⟨x,f,pre,q,l,lc,rfl,rfl,hx,hf,s,hl,hM⟩:=hrel;have HM:=hM;have HW:=xQ s;have ae:=xQ (bR hg.out hx);have ak:=xQ hf;have bf:l≤12:=by have h1:=congrArg List.length s;have h2:=lX hg.out f x hx hf;have h3:=lX hg.out 12 u hu (by have:=aa.out.2.1;omega);have h4:=aa.out.2.1;have h5:=ae.out.1;rw[List.length_append]at h1;omega
  have al:=xQ hl;clear hM s hf hl;by_cases h0:x=0
  ·have t0:((x:Int)!=0)=false:=by simp[h0]
   have ab:Hid (pre++ [x]=cY aA n 12 u):=by show _=_;rw[←HW.out];subst h0;cases f<;>simp[cY]
   clear h0;go_wp2;go_ret;exact dP (by rw[←ab.out];have:=al.out;simp[bA];omega) (by rw[←ab.out];exact HM.ow 0) HM.ext
  have t0:((x:Int)!=0)=true:=by simp[h0]
  obtain⟨J,a9,z,ah⟩:=aFq hg.out hx h0;obtain⟨e1,e2,e3⟩:=ae.out.2.2.2.1 h0;have be:=xQ h0;obtain⟨y,hy⟩: ∃y,y=kS aA n x:=⟨_,rfl⟩
  rw[←hy]at z e1 e2 e3;have HY:=xQ hy;clear hy h0;obtain⟨nb,m⟩: ∃nb,nb=aP aA n x:=⟨_,rfl⟩
  rw[←m]at a9 z ah;have aj:Hid (∀w',Ext w w'→Calls Tryz.prog 214 #[aH aA aB p n cap,(x:Int)] w' (bH (bA nb) w')):=by rw[m];exact HC x hx
  have a6:=xQ m;have bc:nb.length≤12:=by rw[m];exact Nat.le_trans (List.length_filter_le _ _) (by simp;omega)
  have an:=xQ z;have ao:=xQ ah;have t:=xQ e3;clear m z ah e2 e3;have aq:(bA nb).length=nb.length:=by simp[bA]
  have b:=(HM.hi 2)
  obtain⟨b0,b1,b2⟩:=(HM.bk 2).cells3;go_wp2_with fail;clear b0 b1 b2;refine(aj _ HM.ext).mono ?_;rintro e w5 ⟨q5,c5,rfl,o5,az⟩;rw[aq]at o5⊢;have M6:=(HM.call az o5)
  clear o5 az aj HM b;obtain⟨gN,rfl,ba,bb⟩:=M6.so 0;clear ba bb;go_wp2;go_loopw [11,69] (fun cc i wz=> ∃j:Nat,j≤J∧cc= .int .i64 (x:Int)∧i= .int .i64 (j:Int)∧Mem w wz [aI w.heap.size TI 1 (some ⟨gN,0,none⟩) (nb.length) (c5) (ivs (bA nb)),aI w.heap.size TI 1 (q) (l) (lc) (ivs (bA (pre++ [x]))),aI w.heap.size TI 1 (some ⟨gF,0,none⟩) (n) (c2) (ivs (D)),aJ w.heap.size (w.heap.size) TH3 #[aA,aB,.slice p n cap]]) (fun _ i _=>J-(intOf i).toNat)
  case atStart=>exact⟨0,Nat.zero_le _,rfl,rfl,M6⟩
  case round=>
   clear M6;obtain⟨j,hj,rfl,rfl,hM⟩:=hrel;have HM:=hM;clear hM;obtain⟨v,hv⟩: ∃v,nb[j]? =some v:=⟨_,List.getElem?_eq_getElem (by omega)⟩
   have r:v<n:=(bM.1 (by rw[←a6.out];exact List.mem_of_getElem? hv:v∈aP aA n x)).1;have af:=xQ hv;have g:=(dB (D:=D) (v:=v) (by rw[HD.out];exact r)).1;have h:=(dB (D:=D) (v:=x) (by rw[HD.out];exact hx)).1;rw[ad v r]at g;rw[ad x hx]at h;obtain⟨dv,a⟩: ∃d,d=aX aA v 0:=⟨_,rfl⟩
   obtain⟨dx,c⟩: ∃d,d=aX aA x 0:=⟨_,rfl⟩
   have gv:=bR hg.out r;have gx:=ae.out;rw[←a]at g gv;rw[←c]at h gx;have m1:(0:Int)≤(j:Int):=by omega
   have m2:(j:Int)<(nb.length:Int):=by omega
   have m3:(0:Int)≤(v:Int):=by omega
   have m4:(v:Int)<(n:Int):=by omega
   have m5:(0:Int)≤(x:Int):=by omega
   have m6:(x:Int)<(n:Int):=by omega
   have w7:IntKind.i64.wrap (dx-1)=dx-1:=IntWalk.i64_in _ (by omega);have cn:wr.cell? ⟨gN,j,none⟩=some (.int .i64 (v:Int)):=by have:=(HM.ow 0).cellAt j (by omega);rw[this];simp[ivs,bA,af.out]
   have cf:wr.cell? ⟨gF,v,none⟩=some (.int .i64 dv):=by have:=(HM.ow 2).cellAt v (by omega);rw[this];simp only[ivs,List.getElem?_map,g,Option.map_some]
   have cx:wr.cell? ⟨gF,x,none⟩=some (.int .i64 dx):=by have:=(HM.ow 2).cellAt x (by omega);rw[this];simp only[ivs,List.getElem?_map,h,Option.map_some]
   by_cases hjJ:j<J
   ·have ar:(dv==dx-1)=false:=by
     have:=ao.out j v hjJ af.out;rw[←a,←c]at this;exact beq_eq_false_iff_ne.2 this
    clear g h a c gv gx;go_wp2;go_quiet (fail);go_wp2;go_roundw
    case rel=>exact⟨j+1,by omega,rfl,by go_num,HM.adv xE⟩
    case measure=>simp[intOf];omega
   obtain rfl:j=J:=by omega
   have bd:v=y:=by have h1:=af.out;rw[an.out]at h1;injection h1 with h1;exact h1.symm
   subst bd;have ar:(dv==dx-1)=true:=by have:=t.out;rw[←a,←c]at this;simp[this]
   have ap:=xQ (show 1≤aX aA (x:Int) 0 by have h1:=(bR hg.out r).1;have h2:=t.out;omega);clear g h a gv;go_wp2;go_quiet (fail);generalize au:World.drewN _ _=wq;have M7:=(show Mem w wq [aI w.heap.size TI 1 (q) (l) (lc) (ivs (bA (pre++ [x]))),aI w.heap.size TI 1 (some ⟨gF,0,none⟩) (n) (c2) (ivs (D)),aJ w.heap.size (w.heap.size) TH3 #[aA,aB,.slice p n cap]]from by rw[←au];exact(HM.adv xE).pick [1,2,3] (by decide) rfl)
   clear au cn cf cx HM;go_wp2_with (at_builtin;go_loud (refine cR fX rfl _ _ rfl (M7.adv ((Ext.refl _).alloc (.cells #[(v:Int)] TI))) 0 rfl rfl (ivs [(v:Int)]) rfl (eU _ _ _ 1 1 _ (by first|rfl|simp) (by first|rfl|simp) (by simp[maxLen])) (fun u hu=>by obtain rfl:=List.mem_singleton.1 hu;rfl) (by omega) ?_;intro q7 c7 w6 M8));have M9:=(show Mem w w6 [aI w.heap.size TI 1 (q7) (l+1) (c7) (ivs (bA (pre++ [x]++ [v]))),aI w.heap.size TI 1 (some ⟨gF,0,none⟩) (n) (c2) (ivs (D)),aJ w.heap.size (w.heap.size) TH3 #[aA,aB,.slice p n cap]]from by rw[show ivs (bA (pre++ [x]++ [v]))=ivs (bA (pre++ [x]))++ivs [(v:Int)] by simp[ivs,bA]];exact M8)
   clear M8 M7;have bg:0<f:=by have:=ak.out;have:=ap.out;omega
   obtain⟨f',rfl⟩: ∃f',f=f'+1:=⟨f-1,by omega⟩
   have ai:Hid ((pre++ [x])++cY aA n f' v=cY aA n 12 u):=by
    show _=_;rw[←HW.out]
    conv=>rhs;rw[cY,if_neg be.out,←HY.out]
    simp
   go_wp2;go_roundw
   case rel=>exact⟨v,f',pre++ [x],q7,l+1,c7,rfl,by go_num,r,by have:=t.out;have:=ak.out;omega,ai.out,by have:=al.out;simp;omega,M9⟩
   case measure=>simp[intOf];have:=t.out;have:=ap.out;omega
theorem aMl (aA aB:Int)(p:OA)(n cap u:Nat)(xs:List Int)(w:World)(hS:Sl w p n cap 1 (ivs xs))(a:aN aA aB xs=true)(hu:u<n):
  Calls Tryz.prog 187 #[aH aA aB p n cap,(u:Int),(),(-1:Int)] w (bH (bA (cY aA n 12 u)) w):=by
 have hl:=hS.ilen;obtain⟨g1,g2,g3,g4,g5,g6,g7,g8,g9⟩:=bQ a;have hg:=pR (n:=n) g1 g2 g3 g4 (by omega);refine aJu aA aB p n cap u w hg (by omega) (by omega) hu (fun w' hx=>by have:=fW aA aB p n cap xs w' (hS.ext hx);rwa[a]at this) (fun k hk w'=> ?_) (fun w' hx=> ?_) (fun k hk w' hx=> ?_)
 ·have:=iP aA aB k p n cap w' (by omega);rwa[decide_eq_true (⟨by omega,by omega⟩:0≤(k:Int)∧(k:Int)<n)]at this
 ·refine(aMm aA aB p n cap 0 (-1) xs w' (hS.ext hx) a (by omega)).mono ?_;rintro e w2 ⟨D,hD,hr⟩;exact⟨D,⟨hD.len,fun v hv=>yR hg (aDa aA n) hD hv⟩,hr⟩
 have:=aF5 aA aB k p n cap xs w' (hS.ext hx) a (by omega) (by omega);rwa[kQ]at this
theorem aK9 (aA aB c d A:Int)(p:OA)(n cap:Nat)(w:World)(HV:xB 53 #[aH aA aB p n cap] w true)(HF:Hid (∀w',Calls Tryz.prog 149 #[aH aA aB p n cap,c] w' fun e w''=>e= .returned (.bool true)∧Ext w' w''))(HT:Hid (∀w',Calls Tryz.prog 149 #[aH aA aB p n cap,d] w' fun e w''=>e= .returned (.bool true)∧Ext w' w''))
  (HA:Hid (∀w',Calls Tryz.prog 150 #[aA,c,d] w' fun e w''=>e= .returned (.int .i64 A)∧Ext w' w'')):
  Calls Tryz.prog 215 #[aH aA aB p n cap,c,d] w fun e w'=>e= .returned (.int .i64 A)∧Ext w w':=by
 go_enter Tryz.func215,Tryz.ntmps215;go_wp2_with fail;refine(HV _ ((Mem.start w).c0 TH3 #[aA,aB,.slice p n cap]).ext).mono ?_;rintro e w1 ⟨rfl,g⟩;have M1:=(((Mem.start w).c0 TH3 #[aA,aB,.slice p n cap]).adv g)
 have a:=M1.hi 0;clear g;obtain⟨h0,h1,h2⟩:=(M1.bk 0).tri;go_wp2_with fail;clear h0 h1 h2;refine(HF _).mono ?_;rintro e w2 ⟨rfl,h⟩;have M2:=(M1.adv h)
 clear M1 a h;have b:=M2.hi 0;obtain⟨h0,h1,h2⟩:=(M2.bk 0).tri;go_wp2_with fail;clear h0 h1 h2;refine(HT _).mono ?_;rintro e w3 ⟨rfl,i⟩;have M3:=(M2.adv i)
 clear M2 b i;have f:=M3.hi 0;obtain⟨h0,h1,h2⟩:=(M3.bk 0).tri;go_wp2_with fail;clear h0 h1 h2;refine(HA _).mono ?_;rintro e w4 ⟨rfl,j⟩;have M4:=(M3.adv j)
 clear M3 f j;have k:=M4.hi 0;go_wp2;go_ret;exact⟨rfl,M4.ext⟩
theorem aHl (aA aB f t:Int)(p:OA)(n cap:Nat)(w:World)(HV:xB 53 #[aH aA aB p n cap] w true)(HF:Hid (∀w',Calls Tryz.prog 149 #[aH aA aB p n cap,f] w' fun e w''=>e= .returned (.bool false)∧Ext w' w'')):
  Calls Tryz.prog 102 #[aH aA aB p n cap,dQ f t] w fun e w'=>e= .returned (.bool false)∧Ext w w':=by
 go_enter Tryz.func102,Tryz.ntmps102;go_wp2_with fail;refine(HV _ (((Mem.start w).c0 TH3 #[aA,aB,.slice p n cap]).c1 TSL #[f,t]).ext).mono ?_;rintro e w1 ⟨rfl,c⟩;have M1:=((((Mem.start w).c0 TH3 #[aA,aB,.slice p n cap]).c1 TSL #[f,t]).adv c)
 have a:=M1.hi 0;have b:=M1.hi 1;clear c;obtain⟨h0,h1,h2⟩:=(M1.bk 1).tri;have s0:=(M1.bk 0).cl 0;have s1:=(M1.bk 0).cl 1;go_wp2_with fail;clear h0 h1 h2 s0 s1;refine(HF _).mono ?_;rintro e w2 ⟨rfl,d⟩;have M2:=(M1.adv d)
 clear M1 a b d;have g:=M2.hi 0;have h:=M2.hi 1;obtain⟨h0,h1,h2⟩:=(M2.bk 1).tri;have s0:=(M2.bk 0).cl 0;have s1:=(M2.bk 0).cl 1;go_wp2;go_ret;exact⟨rfl,M2.ext⟩
theorem aHk (aA aB f t:Int)(p:OA)(n cap:Nat)(w:World)(HV:xB 53 #[aH aA aB p n cap] w true)(HF:Hid (∀w',Calls Tryz.prog 149 #[aH aA aB p n cap,f] w' fun e w''=>e= .returned (.bool true)∧Ext w' w''))(HT:Hid (∀w',Calls Tryz.prog 149 #[aH aA aB p n cap,t] w' fun e w''=>e= .returned (.bool false)∧Ext w' w'')):
  Calls Tryz.prog 102 #[aH aA aB p n cap,dQ f t] w fun e w'=>e= .returned (.bool false)∧Ext w w':=by
 go_enter Tryz.func102,Tryz.ntmps102;go_wp2_with fail;refine(HV _ (((Mem.start w).c0 TH3 #[aA,aB,.slice p n cap]).c1 TSL #[f,t]).ext).mono ?_;rintro e w1 ⟨rfl,g⟩;have M1:=((((Mem.start w).c0 TH3 #[aA,aB,.slice p n cap]).c1 TSL #[f,t]).adv g)
 have a:=M1.hi 0;have b:=M1.hi 1;clear g;obtain⟨h0,h1,h2⟩:=(M1.bk 1).tri;have s0:=(M1.bk 0).cl 0;have s1:=(M1.bk 0).cl 1;go_wp2_with fail;clear h0 h1 h2 s0 s1;refine(HF _).mono ?_;rintro e w2 ⟨rfl,h⟩;have M2:=(M1.adv h)
 clear M1 a b h;have c:=M2.hi 0;have d:=M2.hi 1;obtain⟨h0,h1,h2⟩:=(M2.bk 1).tri;have s0:=(M2.bk 0).cl 0;have s1:=(M2.bk 0).cl 1;go_wp2_with fail;clear h0 h1 h2 s0 s1;refine(HT _).mono ?_;rintro e w3 ⟨rfl,i⟩;have M3:=(M2.adv i)
 clear M2 c d i;have j:=M3.hi 0;have k:=M3.hi 1;obtain⟨h0,h1,h2⟩:=(M3.bk 1).tri;have s0:=(M3.bk 0).cl 0;have s1:=(M3.bk 0).cl 1;go_wp2;go_ret;exact⟨rfl,M3.ext⟩
theorem aHj (aA aB:Int)(b a n cap i j:Nat)(x y:Int)(w:World)(hi:i<n)(hj:j<n)(hb:b<w.heap.size)(m:Hid (w.cell? ⟨b,a+i,none⟩=some (.int .i64 x)))(o:Hid (w.cell? ⟨b,a+j,none⟩=some (.int .i64 y)))(d1:(x !=0)=false)(HV:xB 53 #[aH aA aB (some ⟨b,a,none⟩) n cap] w true)(HF:Hid (∀w',Calls Tryz.prog 149 #[aH aA aB (some ⟨b,a,none⟩) n cap,(i:Int)] w' fun e w''=>e= .returned (.bool true)∧Ext w' w''))(HT:Hid (∀w',Calls Tryz.prog 149 #[aH aA aB (some ⟨b,a,none⟩) n cap,(j:Int)] w' fun e w''=>e= .returned (.bool true)∧Ext w' w'')):
  Calls Tryz.prog 102 #[aH aA aB (some ⟨b,a,none⟩) n cap,dQ (i:Int) (j:Int)] w fun e w'=>e= .returned (.bool false)∧Ext w w':=by
 have a1:(0:Int)≤(i:Int):=by omega
 have a2:(0:Int)≤(j:Int):=by omega
 have a3:(i:Int)<(n:Int):=by omega
 have a4:(j:Int)<(n:Int):=by omega
 go_enter Tryz.func102,Tryz.ntmps102;go_wp2_with fail;refine(HV _ (((Mem.start w).c0 TH3 #[aA,aB,.slice (some ⟨b,a,none⟩) n cap]).c1 TSL #[(i:Int),(j:Int)]).ext).mono ?_;rintro e w1 ⟨rfl,h⟩;have M1:=((((Mem.start w).c0 TH3 #[aA,aB,.slice (some ⟨b,a,none⟩) n cap]).c1 TSL #[(i:Int),(j:Int)]).adv h)
 have c:=M1.hi 0;have d:=M1.hi 1;clear h;obtain⟨h0,h1,h2⟩:=(M1.bk 1).tri;have s0:=(M1.bk 0).cl 0;have s1:=(M1.bk 0).cl 1;go_wp2_with fail;clear h0 h1 h2 s0 s1;refine(HF _).mono ?_;rintro e w2 ⟨rfl,k⟩;have M2:=(M1.adv k)
 clear M1 c d k;have f:=M2.hi 0;have g:=M2.hi 1;obtain⟨h0,h1,h2⟩:=(M2.bk 1).tri;have s0:=(M2.bk 0).cl 0;have s1:=(M2.bk 0).cl 1;go_wp2_with fail;clear h0 h1 h2 s0 s1;refine(HT _).mono ?_;rintro e w3 ⟨rfl,l⟩;have M3:=(M2.adv l)
 clear M2 f g l;have p:=M3.hi 0;have q:=M3.hi 1;obtain⟨h0,h1,h2⟩:=(M3.bk 1).tri;have s0:=(M3.bk 0).cl 0;have s1:=(M3.bk 0).cl 1;have g1:w3.cell? ⟨b,a+i,none⟩=some (.int .i64 x):=(M3.ext.cells.1 _ _ hb).trans m.out;have g2:w3.cell? ⟨b,a+j,none⟩=some (.int .i64 y):=(M3.ext.cells.1 _ _ hb).trans o.out;go_wp2;go_ret;exact⟨rfl,M3.ext⟩
theorem aHi (aA aB:Int)(b a n cap i j:Nat)(x y:Int)(w:World)(hi:i<n)(hj:j<n)(hb:b<w.heap.size)(m:Hid (w.cell? ⟨b,a+i,none⟩=some (.int .i64 x)))(o:Hid (w.cell? ⟨b,a+j,none⟩=some (.int .i64 y)))(d1:(x !=0)=true)(d2:(y==0)=false)(HV:xB 53 #[aH aA aB (some ⟨b,a,none⟩) n cap] w true)(HF:Hid (∀w',Calls Tryz.prog 149 #[aH aA aB (some ⟨b,a,none⟩) n cap,(i:Int)] w' fun e w''=>e= .returned (.bool true)∧Ext w' w''))(HT:Hid (∀w',Calls Tryz.prog 149 #[aH aA aB (some ⟨b,a,none⟩) n cap,(j:Int)] w' fun e w''=>e= .returned (.bool true)∧Ext w' w'')):
  Calls Tryz.prog 102 #[aH aA aB (some ⟨b,a,none⟩) n cap,dQ (i:Int) (j:Int)] w fun e w'=>e= .returned (.bool false)∧Ext w w':=by
 have a1:(0:Int)≤(i:Int):=by omega
 have a2:(0:Int)≤(j:Int):=by omega
 have a3:(i:Int)<(n:Int):=by omega
 have a4:(j:Int)<(n:Int):=by omega
 go_enter Tryz.func102,Tryz.ntmps102;go_wp2_with fail;refine(HV _ (((Mem.start w).c0 TH3 #[aA,aB,.slice (some ⟨b,a,none⟩) n cap]).c1 TSL #[(i:Int),(j:Int)]).ext).mono ?_;rintro e w1 ⟨rfl,h⟩;have M1:=((((Mem.start w).c0 TH3 #[aA,aB,.slice (some ⟨b,a,none⟩) n cap]).c1 TSL #[(i:Int),(j:Int)]).adv h)
 have c:=M1.hi 0;have d:=M1.hi 1;clear h;obtain⟨h0,h1,h2⟩:=(M1.bk 1).tri;have s0:=(M1.bk 0).cl 0;have s1:=(M1.bk 0).cl 1;go_wp2_with fail;clear h0 h1 h2 s0 s1;refine(HF _).mono ?_;rintro e w2 ⟨rfl,k⟩;have M2:=(M1.adv k)
 clear M1 c d k;have f:=M2.hi 0;have g:=M2.hi 1;obtain⟨h0,h1,h2⟩:=(M2.bk 1).tri;have s0:=(M2.bk 0).cl 0;have s1:=(M2.bk 0).cl 1;go_wp2_with fail;clear h0 h1 h2 s0 s1;refine(HT _).mono ?_;rintro e w3 ⟨rfl,l⟩;have M3:=(M2.adv l)
 clear M2 f g l;have p:=M3.hi 0;have q:=M3.hi 1;obtain⟨h0,h1,h2⟩:=(M3.bk 1).tri;have s0:=(M3.bk 0).cl 0;have s1:=(M3.bk 0).cl 1;have g1:w3.cell? ⟨b,a+i,none⟩=some (.int .i64 x):=(M3.ext.cells.1 _ _ hb).trans m.out;have g2:w3.cell? ⟨b,a+j,none⟩=some (.int .i64 y):=(M3.ext.cells.1 _ _ hb).trans o.out;go_wp2;go_ret;exact⟨rfl,M3.ext⟩
theorem aJy (aA aB:Int)(b a n cap i j:Nat)(x y A:Int)(w:World)(hi:i<n)(hj:j<n)(hb:b<w.heap.size)(q:Hid (w.cell? ⟨b,a+i,none⟩=some (.int .i64 x)))(r:Hid (w.cell? ⟨b,a+j,none⟩=some (.int .i64 y)))(d1:(x !=0)=true)(d2:(y==0)=true)(HV:xB 53 #[aH aA aB (some ⟨b,a,none⟩) n cap] w true)(HF:Hid (∀w',Calls Tryz.prog 149 #[aH aA aB (some ⟨b,a,none⟩) n cap,(i:Int)] w' fun e w''=>e= .returned (.bool true)∧Ext w' w''))(HT:Hid (∀w',Calls Tryz.prog 149 #[aH aA aB (some ⟨b,a,none⟩) n cap,(j:Int)] w' fun e w''=>e= .returned (.bool true)∧Ext w' w''))(HA:Hid (∀w',Calls Tryz.prog 150 #[aA,(i:Int),(j:Int)] w' fun e w''=>e= .returned (.int .i64 A)∧Ext w' w'')):
  Calls Tryz.prog 102 #[aH aA aB (some ⟨b,a,none⟩) n cap,dQ (i:Int) (j:Int)] w fun e w'=>e= .returned (.bool (A==1))∧Ext w w':=by
 have a1:(0:Int)≤(i:Int):=by omega
 have a2:(0:Int)≤(j:Int):=by omega
 have a3:(i:Int)<(n:Int):=by omega
 have a4:(j:Int)<(n:Int):=by omega
 go_enter Tryz.func102,Tryz.ntmps102;go_wp2_with fail;refine(HV _ (((Mem.start w).c0 TH3 #[aA,aB,.slice (some ⟨b,a,none⟩) n cap]).c1 TSL #[(i:Int),(j:Int)]).ext).mono ?_;rintro e w1 ⟨rfl,l⟩;have M1:=((((Mem.start w).c0 TH3 #[aA,aB,.slice (some ⟨b,a,none⟩) n cap]).c1 TSL #[(i:Int),(j:Int)]).adv l)
 have c:=M1.hi 0;have d:=M1.hi 1;clear l;obtain⟨h0,h1,h2⟩:=(M1.bk 1).tri;have s0:=(M1.bk 0).cl 0;have s1:=(M1.bk 0).cl 1;go_wp2_with fail;clear h0 h1 h2 s0 s1;refine(HF _).mono ?_;rintro e w2 ⟨rfl,m⟩;have M2:=(M1.adv m)
 clear M1 c d m;have f:=M2.hi 0;have g:=M2.hi 1;obtain⟨h0,h1,h2⟩:=(M2.bk 1).tri;have s0:=(M2.bk 0).cl 0;have s1:=(M2.bk 0).cl 1;go_wp2_with fail;clear h0 h1 h2 s0 s1;refine(HT _).mono ?_;rintro e w3 ⟨rfl,o⟩;have M3:=(M2.adv o)
 clear M2 f g o;have h:=M3.hi 0;have k:=M3.hi 1;obtain⟨h0,h1,h2⟩:=(M3.bk 1).tri;have s0:=(M3.bk 0).cl 0;have s1:=(M3.bk 0).cl 1;have g1:w3.cell? ⟨b,a+i,none⟩=some (.int .i64 x):=(M3.ext.cells.1 _ _ hb).trans q.out;have g2:w3.cell? ⟨b,a+j,none⟩=some (.int .i64 y):=(M3.ext.cells.1 _ _ hb).trans r.out;go_wp2_with fail;clear h0 h1 h2 s0 s1 g1 g2;refine(HA _).mono ?_;rintro e w4 ⟨rfl,p⟩;have M4:=(M3.adv p)
 clear M3 h k p;have s:=M4.hi 0;have t:=M4.hi 1;go_wp2;go_ret;exact⟨rfl,M4.ext⟩
theorem aMw (aA aB:Int)(c d:Nat)(p:OA)(n cap:Nat)(xs:List Int)(w:World)(hS:Sl w p n cap 1 (ivs xs))(a:aN aA aB xs=true)(hc:c<n)(hd:d<n):
  Calls Tryz.prog 215 #[aH aA aB p n cap,(c:Int),(d:Int)] w fun e w'=>e= .returned (.int .i64 (aX aA c d))∧Ext w w':=by
 have hl:=hS.ilen;obtain⟨g1,g2,g3,g4,g5,g6,g7,g8,g9⟩:=bQ a;have HH: ∀(k:Nat),k<n→ ∀w',Calls Tryz.prog 149 #[aH aA aB p n cap,(k:Int)] w' fun e w''=>e= .returned (.bool true)∧Ext w' w'':=fun k hk w'=>by have:=iP aA aB k p n cap w' (by omega);rwa[decide_eq_true (⟨by omega,by omega⟩:0≤(k:Int)∧(k:Int)<n)]at this
 exact aK9 aA aB c d _ p n cap w (fun w' hx=>by have:=fW aA aB p n cap xs w' (hS.ext hx);rwa[a]at this) (HH c hc) (HH d hd) (fun w'=>lT aA c d w' (by omega) (by omega) (by omega) (by omega) (by omega) (by omega))
theorem aMn (aA aB f t:Int)(p:OA)(n cap:Nat)(xs:List Int)(w:World)(hS:Sl w p n cap 1 (ivs xs))(d:aN aA aB xs=true):
  Calls Tryz.prog 102 #[aH aA aB p n cap,dQ f t] w fun e w'=>e= .returned (.bool (aZ aA aB xs f t))∧Ext w w':=by
 have hl:=hS.ilen;obtain⟨g1,g2,g3,g4,g5,g6,g7,g8,g9⟩:=bQ d;have HV: ∀w',Ext w w'→Calls Tryz.prog 53 #[aH aA aB p n cap] w' fun e w''=>e= .returned (.bool true)∧Ext w' w'':=fun w' hx=>by have:=fW aA aB p n cap xs w' (hS.ext hx);rwa[d]at this
 have HH: ∀(c:Int) w',Calls Tryz.prog 149 #[aH aA aB p n cap,c] w' fun e w''=>e= .returned (.bool (decide (0≤c∧c<n)))∧Ext w' w'':=fun c w'=>iP aA aB c p n cap w' (by omega)
 by_cases hf:0≤f∧f<n
 ·have HF:=HH f;rw[decide_eq_true hf]at HF;by_cases ht:0≤t∧t<n
  ·have HT:=HH t;rw[decide_eq_true ht]at HT;obtain⟨i,rfl⟩: ∃i:Nat,f=(i:Int):=⟨f.toNat,by omega⟩
   obtain⟨j,rfl⟩: ∃j:Nat,t=(j:Int):=⟨t.toNat,by omega⟩
   have hi:i<n:=by omega
   have hj:j<n:=by omega
   obtain⟨b,a,rfl,hb,l⟩:=hS.rd (by omega);have m:xs[i]? =some (xs.getD i 0):=by rw[List.getD_eq_getElem?_getD,List.getElem?_eq_getElem (by omega)];rfl
   have o:xs[j]? =some (xs.getD j 0):=by rw[List.getD_eq_getElem?_getD,List.getElem?_eq_getElem (by omega)];rfl
   have g:w.cell? ⟨b,a+i,none⟩=some (.int .i64 (xs.getD i 0)):=by rw[l i (by omega)];simp only[ivs,List.getElem?_map,m,Option.map_some]
   have k:w.cell? ⟨b,a+j,none⟩=some (.int .i64 (xs.getD j 0)):=by rw[l j (by omega)];simp only[ivs,List.getElem?_map,o,Option.map_some]
   have r:0≤xs.getD i 0:=nW d i;have q:dC aA aB xs (i:Int) (j:Int)=aX aA i j:=by unfold dC;rw[if_pos ⟨d,⟨by omega,by omega⟩,by omega,by omega⟩]
   unfold aZ;rw[q,Int.toNat_natCast,Int.toNat_natCast];clear m o;generalize xs.getD i 0=x at*;generalize xs.getD j 0=y at*;by_cases hx0:x=0
   ·subst hx0;rw[show(decide (aX aA (i:Int) j=1)&&decide (0<(0:Int))&&decide (y=0))=false by simp];exact aHj aA aB b a n cap i j _ _ w hi hj hb g k (by simp) HV HF HT
   have d1:(x !=0)=true:=by simp[hx0]
   by_cases hy0:y=0
   ·subst hy0;rw[show(decide (aX aA (i:Int) j=1)&&decide (0<x)&&decide ((0:Int)=0))=(aX aA (i:Int) j==1) by rw[decide_eq_true (show 0<x by omega)];by_cases ha:aX aA (i:Int) j=1<;>simp[ha]];exact aJy aA aB b a n cap i j _ _ _ w hi hj hb g k d1 (by simp) HV HF HT (fun w'=>lT aA i j w' (by omega) (by omega) (by omega) (by omega) (by omega) (by omega))
   rw[show(decide (aX aA (i:Int) j=1)&&decide (0<x)&&decide (y=0))=false by simp[hy0]];exact aHi aA aB b a n cap i j _ _ w hi hj hb g k d1 (by simp[hy0]) HV HF HT
  have HT:=HH t;rw[decide_eq_false ht]at HT
  rw[show aZ aA aB xs f t=false by
   cases h:aZ aA aB xs f t with
   |false=>rfl
   |true=>
    unfold aZ at h;simp only[Bool.and_eq_true,decide_eq_true_eq]at h
    have:=jE h.1.1;omega]
  exact aHk aA aB f t p n cap w HV HF HT
 have HF:=HH f;rw[decide_eq_false hf]at HF
 rw[show aZ aA aB xs f t=false by
  cases h:aZ aA aB xs f t with
  |false=>rfl
  |true=>
   unfold aZ at h;simp only[Bool.and_eq_true,decide_eq_true_eq]at h
   have:=jE h.1.1;omega]
 exact aHl aA aB f t p n cap w HV HF
theorem aFg (q:OA)(m c2:Nat)(xs:List Int)(w:World)(hm:m≤1000)(hS:Sl w q m c2 1 (ivs xs)):
  Calls Tryz.prog 130 #[.slice q m c2] w fun e w'=> ∃q' c',e= .returned (.slice q' m c')∧w'.ownsRow w.heap.size TI 1 (.slice q' m c') m (ivs xs)∧Ext w w':=by
 cases q with
 |none=>
  have h0:m=0:=by
   by_cases h:0<m
   ·obtain⟨b,g,e,_⟩:=hS.rd h;cases e
   omega
  subst h0;have d:ivs xs= []:=List.eq_nil_of_length_eq_zero (by have:=hS.len;simpa using this);have f: ∀(w:World) (a:OA) (n c n' c':Nat),(binOp .eql 23 (.slice a n c) (.slice none n' c')).run Tryz.prog w= .ok (.bool a.isNone) w:=fun w a n c n' c'=>Lib.run_eql_slice_nil w _ _ a n c n' c' Tryz.underlying23
  clear hS;go_enter Tryz.func130,Tryz.ntmps130;go_wp2;go_ret;exact⟨none,0,rfl,by rw[d];exact World.ownsRow_nil _ _ _ _,Ext.refl _⟩
 |some a=>
  have HS:=xQ hS;have MS:=((Mem.start w).made0 TI 1 (w.heap.size) (by simp))
  have f: ∀(w:World) (a:OA) (n c n' c':Nat),(binOp .eql 23 (.slice a n c) (.slice none n' c')).run Tryz.prog w= .ok (.bool a.isNone) w:=fun w a n c n' c'=>Lib.run_eql_slice_nil w _ _ a n c n' c' Tryz.underlying23
  clear hS;go_enter Tryz.func130,Tryz.ntmps130;go_wp2_with (at_builtin;go_loud (refine cR fX rfl _ _ rfl MS 0 rfl rfl (ivs xs) rfl (HS.out.ext ((Ext.refl _).alloc _)) (oN xs) (by omega) ?_;intro q7 c7 w6 M6));have M7:=(show Mem w w6 [aI w.heap.size TI 1 q7 m c7 (ivs xs)]from by simpa using M6)
  clear M6;go_wp2;go_ret;exact⟨q7,c7,rfl,M7.ow 0,M7.ext⟩
theorem lA (aA aB:Int)(p:OA)(n cap:Nat)(xs:List Int)(w:World)(hn:n≤1000)(hS:Sl w p n cap 1 (ivs xs)):
  Calls Tryz.prog 79 #[aH aA aB p n cap] w (dK aA aB xs w):=by
 have hl:=xQ hS.ilen;have HS:=xQ hS;clear hS;have HK:xC 130 #[.slice p n cap] w fun w' e w''=> ∃q' c',e= .returned (.slice q' n c')∧w''.ownsRow w'.heap.size TI 1 (.slice q' n c') n (ivs xs)∧Ext w' w'':=fun w' hx=>aFg p n cap xs w' hn (HS.out.ext hx)
 go_enter Tryz.func79,Tryz.ntmps79;go_wp2;have ME:=(((Mem.start w).c0 TH3 #[aA,aB,.slice p n cap]).c1 TH3 #[(),(),((),())])
 refine rL (gl [gEq (.pointer (some ⟨w.heap.size,0,none⟩)),gEq aA,gEq (.pointer (some ⟨w.heap.size,1,none⟩)),gEq aB,gEq (.pointer (some ⟨w.heap.size,2,none⟩)),gEq (.slice p n cap),(fun v w'=> ∃q c,v= .slice q n c∧w'.ownsRow (w.heap.size+2) TI 1 (.slice q n c) n (ivs xs)),(fun v w'=> ∃q c,v=aH aA aB q n c∧w'.ownsRow (w.heap.size+2) TI 1 (.slice q n c) n (ivs xs))]) 8 9 [(0,some 3),(1,some 4),(2,some 5),(3,some 6),(4,some 7),(5,some 8),(6,some 9),(7,some 10)] ?steps ?fin (hG:=(mT (bL (bP _) (bL (bP _) (bL (bP _) (bL (bP _) (bL (bP _) (bL (bP _) (bL (fun v w w' ⟨q,c,he,ho⟩ hx=>⟨q,c,he,bD ho hx⟩) (bL (fun v w w' ⟨q,c,he,ho⟩ hx=>⟨q,c,he,bD ho hx⟩) (pS)))))))))))
 case steps=>
  refine sS0 [] ?_;refine sC [(0,some 3)] rfl (fun wi hx=> ?_) ?_
  ·intro v0 h0 K hK;obtain rfl:=h0;have hX:Ext ((w.alloc (.cells #[aA,aB,.slice p n cap] TH3)).alloc (.cells #[(),(),((),())] TH3)) wi:=xE;have b:=((ME.bk 1).ext hX).cl 0;go_simp;exact hK _ _ ⟨.int .i64 aA,rfl,rfl,Ext.refl _⟩
  refine sS0 [] ?_;refine sC [(2,some 5)] rfl (fun wi hx=> ?_) ?_
  ·intro v2 h2 K hK;obtain rfl:=h2;have hX:Ext ((w.alloc (.cells #[aA,aB,.slice p n cap] TH3)).alloc (.cells #[(),(),((),())] TH3)) wi:=xE;have b:=((ME.bk 1).ext hX).cl 1;go_simp;exact hK _ _ ⟨.int .i64 aB,rfl,rfl,Ext.refl _⟩
  refine sS0 [] ?_;refine sC [(4,some 7)] rfl (fun wi hx=> ?_) ?_
  ·intro v4 h4 K hK;obtain rfl:=h4;have hX:Ext ((w.alloc (.cells #[aA,aB,.slice p n cap] TH3)).alloc (.cells #[(),(),((),())] TH3)) wi:=xE;have b:=((ME.bk 1).ext hX).cl 2;go_simp;exact hK _ _ ⟨.slice p n cap,rfl,rfl,Ext.refl _⟩
  refine sC [(5,some 8)] rfl (fun wi hx=> ?_) ?_
  ·intro v5 h5 K hK;obtain rfl:=h5;go_wp2_with fail;refine(HK _ (ME.ext.trans hx.of_drew)).mono ?_;rintro e w5 ⟨q5,c5,rfl,o5,g⟩;go_simp;exact hK _ _ ⟨.slice q5 n c5,rfl,⟨q5,c5,rfl,bK o5 (by have:=hx.sz;simp at this;omega)⟩,g⟩
  refine sC [(1,some 4),(3,some 6),(6,some 9)] rfl (fun wi hx=> ?_) StepsL.nil
  ·intro v1 h1 v3 h3 v6 h6 K hK;obtain rfl:=h1;obtain rfl:=h3;obtain⟨q6,c6,rfl,a⟩:=h6;go_simp;exact hK _ _ ⟨aH aA aB q6 n c6,rfl,⟨q6,c6,rfl,a⟩,Ext.refl _⟩
 case fin=>
  intro wi hx v0 h0 v1 h1 v2 h2 v3 h3 v4 h4 v5 h5 v6 h6 v7 h7;obtain rfl:=h0;obtain rfl:=h1;obtain rfl:=h2;obtain rfl:=h3;obtain rfl:=h4;obtain rfl:=h5;obtain⟨q6,c6,rfl,a⟩:=h6;obtain⟨q7,c7,rfl,d⟩:=h7;have hX:Ext ((w.alloc (.cells #[aA,aB,.slice p n cap] TH3)).alloc (.cells #[(),(),((),())] TH3)) wi:=hx.of_drew;have M2:=(show Mem w wi [aI w.heap.size TI 1 (q7) (n) (c7) (ivs xs),aJ w.heap.size (w.heap.size+1) TH3 #[(),(),((),())],aJ w.heap.size (w.heap.size) TH3 #[aA,aB,.slice p n cap]]from ME.ownNew hX d (by simp))
  clear ME hx hX a d HK HS;have h:=M2.hi 1;have i:=M2.hi 2;try go_frame
  obtain⟨z0,j,z1,k,z2,l⟩:=(M2.bk 1).trif;refine wpAny_ready (rs:= [8]) (by kernel_rfl) (by simp) ?_;refine AllReady.cons rfl (fun K hK=> ?_) AllReady.nil;go_simp;refine hK _ _ ?_;clear hK K;refine wpAny_done (by kernel_rfl) ?_ _;try go_frame
  have M3:=((M2.st 1 0 (.int .i64 aA)).st 1 1 (.int .i64 aB))
  have M4:=(M3.st 1 2 (.slice q7 n c7))
  go_wp2;have M5:=(show Mem w (((wi.setCell ⟨w.heap.size+1,0,none⟩ (.int .i64 aA)).setCell ⟨w.heap.size+1,1,none⟩ (.int .i64 aB)).setCell ⟨w.heap.size+1,2,none⟩ (.slice q7 n c7)) [aI w.heap.size TI 1 (q7) (n) (c7) (ivs xs),aJ w.heap.size (w.heap.size+1) TH3 #[aA,aB,.slice q7 n c7],aJ w.heap.size (w.heap.size) TH3 #[aA,aB,.slice p n cap]]from M4)
  generalize f:World.setCell _ _ _=wz;rw[f]at M5;clear f M2 M3 M4 z0 j z1 k z2 l;obtain⟨y0,y1,y2⟩:=(M5.bk 1).tri;exact bodyPost_ret (v:=aH aA aB q7 n c7) (by simp[results,Tryz.results79,go_sem, *]) rfl (uP hl.out (M5.ow 0) M5.ext)
theorem aFf (q:OA)(m c2:Nat)(xs:List Value)(w:World)(hm:m≤1000)(hS:Sl w q m c2 4 xs)(h1: ∀u∈xs,u.oneCell'=true):
  Calls Tryz.prog 80 #[.slice q m c2] w fun e w'=> ∃q' c',e= .returned (.slice q' m c')∧w'.ownsRow w.heap.size TV 4 (.slice q' m c') m xs∧Ext w w':=by
 cases q with
 |none=>
  have h0:m=0:=by
   by_cases h:0<m
   ·obtain⟨b,f,e,_⟩:=hS.rd h;cases e
   omega
  subst h0;obtain rfl:xs= []:=List.eq_nil_of_length_eq_zero (by have:=hS.len;simpa using this);have d: ∀(w:World) (a:OA) (n c n' c':Nat),(binOp .eql 28 (.slice a n c) (.slice none n' c')).run Tryz.prog w= .ok (.bool a.isNone) w:=fun w a n c n' c'=>Lib.run_eql_slice_nil w _ _ a n c n' c' Tryz.underlying28
  clear hS;go_enter Tryz.func80,Tryz.ntmps80;go_wp2;go_ret;exact⟨none,0,rfl,World.ownsRow_nil _ _ _ _,Ext.refl _⟩
 |some a=>
  have HS:=xQ hS;have HO:=xQ h1;have MS:=((Mem.start w).made0 TV 4 (w.heap.size) (by simp))
  have d: ∀(w:World) (a:OA) (n c n' c':Nat),(binOp .eql 28 (.slice a n c) (.slice none n' c')).run Tryz.prog w= .ok (.bool a.isNone) w:=fun w a n c n' c'=>Lib.run_eql_slice_nil w _ _ a n c n' c' Tryz.underlying28
  clear hS h1;go_enter Tryz.func80,Tryz.ntmps80;go_wp2_with (at_builtin;go_loud (refine cR tO rfl _ _ rfl MS 0 rfl rfl xs rfl (HS.out.ext ((Ext.refl _).alloc _)) HO (by omega) ?_;intro q7 c7 w6 M6));have M7:=(show Mem w w6 [aI w.heap.size TV 4 q7 m c7 xs]from by simpa using M6)
  clear M6;go_wp2;go_ret;exact⟨q7,c7,rfl,M7.ow 0,M7.ext⟩
theorem aHv (aA aB a b aE aG aD aF:Int)(p:OA)(n cap:Nat)(q:OA)(m c2:Nat)(xs:List Int)(vs:List aQ)(w:World)
  (HL:xC 79 #[aH aA aB p n cap] w fun w' e w''=> ∃q c,e= .returned (aH aA aB q n c)∧w''.ownsRow w'.heap.size TI 1 (.slice q n c) n (ivs xs)∧Ext w' w'')
  (s:xC 80 #[.slice q m c2] w fun w' e w''=> ∃q' c',e= .returned (.slice q' m c')∧w''.ownsRow w'.heap.size TV 4 (.slice q' m c') m (vs.flatMap aC)∧Ext w' w''):
  Calls Tryz.prog 36 #[.agg #[aA,aB,.slice p n cap,a,b,aE,aG,aD,aF,.slice q m c2]] w fun e w'=> ∃p' cap' q' c2',e= .returned (.agg #[aA,aB,.slice p' n cap',a,b,aE,aG,aD,aF,.slice q' m c2'])∧w'.ownsRow w.heap.size TI 1 (.slice p' n cap') n (ivs xs)∧w'.ownsRow w.heap.size TV 4 (.slice q' m c2') m (vs.flatMap aC)∧Ext w w':=by
 go_enter Tryz.func36,Tryz.ntmps36;go_wp2_with fail;refine(HL _ ((((Mem.start w).c0 aL #[aA,aB,.slice p n cap,a,b,aE,aG,aD,aF,.slice q m c2]).c1 aL zT).c2 aL #[aA,aB,.slice p n cap,a,b,aE,aG,aD,aF,.slice q m c2]).ext).mono ?_;rintro e w1 ⟨q0,c0,rfl,h,l⟩;have M1:=(((((Mem.start w).c0 aL #[aA,aB,.slice p n cap,a,b,aE,aG,aD,aF,.slice q m c2]).c1 aL zT).c2 aL #[aA,aB,.slice p n cap,a,b,aE,aG,aD,aF,.slice q m c2]).call l h)
 have d:=M1.hi 1;have f:=M1.hi 2;have g:=M1.hi 3;clear l h;have c9:=(M1.bk 3).cl 9;have d0:=(M1.bk 1).cl 0;have t:=(M1.bk 1).frozen 0;have d1:=(M1.bk 1).cl 1;have u:=(M1.bk 1).frozen 1;have d2:=(M1.bk 1).cl 2;have x:=(M1.bk 1).frozen 2;go_wp2_with fail;clear c9 d0 t d1 u d2 x;refine(s _ (((M1.store (i:=1) rfl 0 (.int .i64 aA)).store (i:=1) rfl 1 (.int .i64 aB)).store (i:=1) rfl 2 (.slice q0 n c0)).ext).mono ?_;rintro e w2 ⟨q7,c7,rfl,j,o⟩;have M2:=((((M1.st 1 0 (.int .i64 aA)).st 1 1 (.int .i64 aB)).st 1 2 (.slice q0 n c0)).call o j)
 clear M1 d f g o j;have y:=M2.hi 2;have z:=M2.hi 3;have aa:=M2.hi 4;obtain⟨x0,x1,x2,x3,x4,x5,x6,x7,x8,x9⟩:=(M2.bk 2).ten;have ab:=(M2.bk 2).cl 9;have r:=(M2.bk 2).frozen 9;obtain⟨y0,ad,y1,ae,y2,af,y3,ag,y4,ah,y5,ai,y6,aj,y7,ak,y8,al,y9,am⟩:=(M2.bk 3).tenf;go_wp2;clear x0 x1 x2 x3 x4 x5 x6 x7 x8 x9 ab r y0 ad y1 ae y2 af y3 ag y4 ah y5 ai y6 aj y7 ak y8 al y9 am;have M3:=(show Mem w (((((((((((w2.setCell ⟨w.heap.size+1+1,9,none⟩ (.slice q7 m c7)).setCell ⟨w.heap.size+1,0,none⟩ (.int .i64 aA)).setCell ⟨w.heap.size+1,1,none⟩ (.int .i64 aB)).setCell ⟨w.heap.size+1,2,none⟩ (.slice q0 n c0)).setCell ⟨w.heap.size+1,3,none⟩ (.int .i64 a)).setCell ⟨w.heap.size+1,4,none⟩ (.int .i64 b)).setCell ⟨w.heap.size+1,5,none⟩ (.int .i64 aE)).setCell ⟨w.heap.size+1,6,none⟩ (.int .i64 aG)).setCell ⟨w.heap.size+1,7,none⟩ (.int .i64 aD)).setCell ⟨w.heap.size+1,8,none⟩ (.int .i64 aF)).setCell ⟨w.heap.size+1,9,none⟩ (.slice q7 m c7)) [aI w.heap.size TV 4 (q7) (m) (c7) (vs.flatMap aC),aI w.heap.size TI 1 (q0) (n) (c0) (ivs xs),aJ w.heap.size (w.heap.size+1+1) aL #[aA,aB,.slice q0 n c0,a,b,aE,aG,aD,aF,.slice q7 m c7],aJ w.heap.size (w.heap.size+1) aL #[aA,aB,.slice q0 n c0,a,b,aE,aG,aD,aF,.slice q7 m c7],aJ w.heap.size (w.heap.size) aL #[aA,aB,.slice p n cap,a,b,aE,aG,aD,aF,.slice q m c2]]from((M2.store (i:=2) rfl 9 (.slice q7 m c7)).put10 (i:=3) rfl (.int .i64 aA) (.int .i64 aB) (.slice q0 n c0) (.int .i64 a) (.int .i64 b) (.int .i64 aE) (.int .i64 aG) (.int .i64 aD) (.int .i64 aF) (.slice q7 m c7)))
 generalize k:World.setCell _ _ _=wz;rw[k]at M3;clear k M2;obtain⟨y0,y1,y2,y3,y4,y5,y6,y7,y8,y9⟩:=(M3.bk 3).ten;exact bodyPost_ret (v:= .agg #[aA,aB,.slice q0 n c0,a,b,aE,aG,aD,aF,.slice q7 m c7]) (by simp[results,Tryz.results36,go_sem, *]) rfl ⟨q0,c0,q7,c7,rfl,(M3.ow 1),(M3.ow 0),M3.ext⟩
theorem pG (h:aW)(p:OA)(n cap:Nat)(q:OA)(m c2:Nat)(w:World)(hn:n≤1000)(hm:m≤1000)(hi:IsHouse w h p n cap q m c2):
  Calls Tryz.prog 36 #[cA h p n cap q m c2] w (RetHouse h w):=by
 have hl:=hi.clen;have d:=hi.vlen;refine(aHv h.aA h.aB h.free h.step h.aE h.aG h.aD h.aF p n cap q m c2 h.cells h.vs w (xQ fun w' hx=> ?_) (xQ fun w' hx=>aFf q m c2 _ w' hm (hi.vs.ext hx) (eF _))).mono ?_
 ·refine(lA h.aA h.aB p n cap h.cells w' hn (hi.cells.ext hx)).mono ?_;rintro e g ⟨q,c,rfl,ho,f⟩;rw[hl]at ho⊢;exact⟨q,c,rfl,ho,f⟩
 rintro e w' ⟨p',a,q',b,rfl,h1,h2,h3⟩;subst hl d;exact⟨p',a,q',b,rfl,h1,h2,h3⟩
theorem nI: ∀(k:Nat) (vs:List aQ),(vs.flatMap aC).take (k*4)=(vs.take k).flatMap aC
 |0,vs=>by simp
 |k+1,[]=>by simp
 |k+1,v::vs=>by rw[List.flatMap_cons,show(k+1)*4=(aC v).length+k*4 by simp[aC];omega,List.take_length_add_append,nI k vs];rfl
theorem aLv {W0 wr:World}{B:Nat}(hg:W0.grownBy wr (some B))(o:Nat)(v:Value):W0.grownBy (wr.setCell ⟨B,o,none⟩ v) (some B):=
 ⟨hg.os,hg.tape,hg.output,by simpa using hg.size,fun k hk hne=>by rw[Below.heap_setCell _ _ _ _ (fun e=>hne (by simp[e]))];exact hg.block k hk hne⟩
theorem sS {α:Type}: ∀(xs:List α) (k:Nat) (v:α),k<xs.length→(xs.set k v).take (k+1)=xs.take k++ [v]
 | [],_,_,h=>by simp at h
 |x::xs,0,v,_=>by simp
 |x::xs,k+1,v,h=>by simp only[List.set_cons_succ,List.take_succ_cons,sS xs k v (by simpa using h)];rfl
theorem tC {α:Type}: ∀(xs:List α) (k j:Nat) (v:α),k<j→(xs.set k v).drop j=xs.drop j
 | [],_,_,_,_=>by simp
 |x::xs,0,j+1,v,_=>by simp
 |x::xs,k+1,j+1,v,h=>by simp only[List.set_cons_succ,List.drop_succ_cons];exact tC xs k j v (by omega)
theorem fE {B n c sz g:Nat}{e:TypeId}: ∀(vs:List Value) (k:Nat) (xs:List Value) (w:World),w.ownsRow B e sz (.slice (some ⟨g,0,none⟩) n c) n xs→k+vs.length≤xs.length→
  (w.setCells g k vs).ownsRow B e sz (.slice (some ⟨g,0,none⟩) n c) n (xs.take k++vs++xs.drop (k+vs.length))∧w.grownBy (w.setCells g k vs) (some g)
 | [],k,xs,w,h,_=>by refine⟨?_,World.grownBy.refl _ _⟩;simpa[World.setCells]using h
 |v::vs,k,xs,w,h,hl=>by simp only[List.length_cons]at hl;obtain⟨h1,h2⟩:=fE vs (k+1) (xs.set k v) _ (h.stored k v).1 (by simp;omega);rw[sS xs k v (by omega),tC xs k _ v (by omega)]at h1;refine⟨?_,(aLv (World.grownBy.refl _ _) k v).trans h2⟩;rw[List.length_cons,show k+(vs.length+1)=k+1+vs.length by omega];simpa[World.setCells]using h1
theorem aLk {w:World}{B n c sz k:Nat}{e:TypeId}{q:OA}{xs:List Value}(h:w.ownsRow B e sz (.slice q n c) n xs)(hk:k≤n)(h0:0<n):w.ownsRow B e sz (.slice q k c) k (xs.take (k*sz)):=by
 have hm:=Nat.mul_le_mul_right sz hk;refine⟨by rw[List.length_take,h.1];omega,?_⟩;rcases h.2 with⟨_,h3⟩|⟨g,cap',cur,e1,hb,hg,hn,hmx,hs,ht⟩
 ·omega
 injection e1 with e1 e2 e3;subst e1 e3;refine .inr ⟨g,c,cur,rfl,hb,hg,by omega,hmx,hs,?_⟩;rw[←ht,List.take_take,Nat.min_eq_left hm]
theorem aDc (w:World):(zeroValue TV).run Tryz.prog w= .ok (.agg #[(),(),(),()]) w:=by simp[Tryz.zeroValue76]
theorem aD5 (w:World)(ty:TypeId)(b o c:Nat)(hc: ∀j,j<4→(w.cell? ⟨b,o+j,none⟩).isSome=true)(hf: ∀j,j<4→w.frozen? ⟨b,o+j,none⟩=false):
  (Builtin.clear_ #[28] ty #[.slice (some ⟨b,o,none⟩) 1 c]).run Tryz.prog w= .ok (.tuple #[]) (w.setCells b o [.int .i64 0,.int .i64 0,.int .i64 0,.int .i64 0]):=by
 have d:(Builtin.zeroCells (Value.agg #[(),(),(),()]).cells 1).toList= [.int .i64 0,.int .i64 0,.int .i64 0,.int .i64 0]:=by kernel_rfl
 have a:=run_storeCells_cells (P:=Tryz.prog) b o [.int .i64 0,.int .i64 0,.int .i64 0,.int .i64 0] 0 w (by simpa using hc) (by simpa using hf) (by intro v hv;simp at hv;subst hv;rfl);simp only[Nat.add_zero]at a;simp[Builtin.clear_,run_underlying Tryz.underlying28,aDc,d,a]
theorem aCy (bs:List aQ)(i n:Nat)(hn:bs.length=n)(hi:i<n):
  ((bs.flatMap aC).take (i*4)++(bs.drop (i+1)).flatMap aC++(bs.flatMap aC).drop (i*4+((bs.drop (i+1)).flatMap aC).length)).take ((n-1)*4)=(bs.eraseIdx i).flatMap aC:=by
 have h1:((bs.take i).flatMap aC).length=i*4:=by rw[cX aC 4 (fun _=>rfl),List.length_take];congr 1;omega
 have h2:((bs.drop (i+1)).flatMap aC).length=(n-1-i)*4:=by rw[cX aC 4 (fun _=>rfl),List.length_drop];congr 1;omega
 rw[nI,List.take_append_of_le_length (by rw[List.length_append,h1,h2,←Nat.add_mul];exact Nat.mul_le_mul_right 4 (by omega)),List.take_of_length_le (by rw[List.length_append,h1,h2,←Nat.add_mul];exact Nat.mul_le_mul_right 4 (by omega)),←List.flatMap_append,List.eraseIdx_eq_take_drop_succ]
theorem aKu (g n c B i j:Nat)(bs:List aQ)(w:World)(hn:n≤1000)(hi:i<n)(hj:Hid (j=i+1))(hO:w.ownsRow B TV 4 (.slice (some ⟨g,0,none⟩) n c) n (bs.flatMap aC)):
  Calls Tryz.prog 101 #[.slice (some ⟨g,0,none⟩) n c,(i:Int),(j:Int)] w fun e w'=>e= .returned (.slice (some ⟨g,0,none⟩) (n-1) c)∧w'.ownsRow B TV 4 (.slice (some ⟨g,0,none⟩) (n-1) c) (n-1) ((bs.eraseIdx i).flatMap aC)∧w.grownBy w' (some g):=by
 obtain⟨i0,y,an,z,ao⟩:=info_parts (show(Tryz.prog.info? TV).map (fun i=>(i.zero,i.size,i.bytes))=some (some (.agg #[(),(),(),()]),4,32) by kernel_rfl);have d:w.drew.ownsRow B TV 4 (.slice (some ⟨g,0,none⟩) n c) n (bs.flatMap aC):=bD hO (Ext.drew (Ext.refl _));have l:bs.length=n:=by have:=hO.1;rw[cX aC 4 (fun _=>rfl)]at this;omega
 have aa:n≤c:=by
  rcases hO.2 with⟨_,h3⟩|⟨g',cap',cur,e1,hb,hg,hn',_⟩
  ·omega
  injection e1 with e1 e2 e3;omega
 have aj:c≤9223372036854775807:=by have:=(Sl.own hO).mx;unfold maxLen at this;omega
 have m:j=i+1:=hj.out;obtain⟨news,a⟩: ∃news,news=(bs.drop (i+1)).flatMap aC:=⟨_,rfl⟩
 have b:news.length=(n-j)*4:=by rw[a,cX aC 4 (fun _=>rfl),List.length_drop,l,m]
 obtain⟨A,hA,s⟩: ∃A:Addr,(if c=j then some (⟨g,0,none⟩:Addr)else some ⟨g,j*4,none⟩)=some A∧Hid (∀t u,news[t]? =some u→w.drew.cell? (A.add t)=some u):=by
  by_cases h:c=j
  ·refine⟨⟨g,0,none⟩,by simp[h],fun t u hu=> ?_⟩;rw[List.eq_nil_of_length_eq_zero (by rw[b];omega:news.length=0)]at hu;simp at hu
  refine⟨⟨g,j*4,none⟩,by simp[h],fun t u hu=> ?_⟩;have ht:t<(n-j)*4:=by have:=(List.getElem?_eq_some_iff.1 hu).1;rwa[b]at this
  rw[Addr.add_lit,d.cellAt _ (by omega)];rw[a,←jX,List.getElem?_drop]at hu;rw[m];exact hu
 have s1:Hid (news.length=(n-j)*4):=b;have s2:Hid (∀u∈news,u.oneCell'=true):=by show∀u∈news,_;rw[a];exact eF _
 have o:(bs.flatMap aC).length=n*4:=by rw[cX aC 4 (fun _=>rfl),l]
 have s3:Hid (∀t,t<news.length→(w.drew.cell? ⟨g,0+i*4+t,none⟩).isSome=true∧w.drew.frozen? ⟨g,0+i*4+t,none⟩=false):=by intro t ht;rw[b]at ht;refine⟨?_,d.frozenAt _⟩;rw[d.cellAt _ (by omega),List.getElem?_eq_getElem (by rw[o];omega)];rfl
 obtain⟨W1,f⟩: ∃W1,W1=w.drew.setCells g (0+i*4) news:=⟨_,rfl⟩
 obtain⟨h1,g1⟩:=fE news (i*4) _ _ d (by rw[b,o];omega);have hW:Hid (W1=w.drew.setCells g (0+i*4) news):=f;rw[Nat.zero_add]at f;rw[←f]at h1 g1;obtain⟨ys,p⟩: ∃ys,ys=(bs.flatMap aC).take (i*4)++news++(bs.flatMap aC).drop (i*4+news.length):=⟨_,rfl⟩
 rw[←p]at h1;have ad:=fun ty=>aD5 W1 ty g ((n-1)*4) (c-(n-1)) (fun t ht=>by rw[h1.cellAt _ (by omega),List.getElem?_eq_getElem (by rw[h1.1];omega)];rfl) (fun t _=>h1.frozenAt _)
 obtain⟨h2,g2⟩:=fE [.int .i64 0,.int .i64 0,.int .i64 0,.int .i64 0] ((n-1)*4) _ _ h1 (by rw[h1.1];simp;omega);have q:Hid ((W1.setCells g ((n-1)*4) [.int .i64 0,.int .i64 0,.int .i64 0,.int .i64 0]).ownsRow B TV 4 (.slice (some ⟨g,0,none⟩) (n-1) c) (n-1) ((bs.eraseIdx i).flatMap aC)):=by have h3:=aLk h2 (k:=n-1) (by omega) (by omega);rw[List.append_assoc,List.take_append_of_le_length (by rw[List.length_take,h1.1];omega),List.take_take,Nat.min_self,p,a,aCy bs i n l hi]at h3;exact h3
 have x:Hid (w.grownBy (W1.setCells g ((n-1)*4) [.int .i64 0,.int .i64 0,.int .i64 0,.int .i64 0]) (some g)):=by exact(show w.grownBy w.drew (some g)from⟨rfl,rfl,rfl,Nat.le_refl _,fun _ _ _=>rfl⟩).trans (g1.trans g2)
 have ag:i≤j:=by omega
 have ai:j≤n:=by omega
 have af:i≤c:=by omega
 have ah:j≤c:=by omega
 have am: ¬i=j:=by omega
 have r:i+(n-j)=n-1:=by omega
 have ab:n-(n-1)=1:=by omega
 have ak:n-1≤n:=by omega
 have al:n-1≤c:=by omega
 have ae: ¬c=n-1:=by omega
 have v:=xQ r;clear f h1 g1 h2 g2 p a b hO d l o m hj r;go_enter Tryz.func101,Tryz.ntmps101;go_wp2_with fail;go_region_law (refine step_append_room rfl (.tmp 22) (.tmp 25) 28 rfl TV i0 4 Tryz.underlying28 y z g 0 i c (by simp[Act.eval,Act.put]) A (n-j) (c-j) news (by simp[Act.eval,Act.put]) s1.out s.out s2.out (by omega) s3.out ?_;rw[←hW.out,v.out])
 go_wp2;go_ret;exact⟨rfl,q.out,x.out⟩
end Go.Proofs.YtpelpnfhbepokaaGreatDoor
