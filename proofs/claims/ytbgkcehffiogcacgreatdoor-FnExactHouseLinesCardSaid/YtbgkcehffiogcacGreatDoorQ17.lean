/-
  Texts of this proof, packed (@packed).
-/
import Derived.Test.YtbgkcehffiogcacGreatDoorQ16
namespace Go.Proofs.YtbgkcehffiogcacGreatDoor
open Go.RowKit Go.Proofs.Tryz
set_option linter.unusedSimpArgs false
set_option linter.unusedVariables false
set_option maxHeartbeats 16000000
set_option maxRecDepth 100000
def jY (r:Option (List Sl2))(w:World)(e:Ending)(w':World):Prop:=
 match r with
 |none=> ∃v,e= .returned (.tuple #[v,.bool false])∧Ext w w'
 |some l=> ∃q c,e= .returned (.tuple #[.slice q l.length c,.bool true])∧w'.ownsRow w.heap.size TSL 2 (.slice q l.length c) l.length (l.flatMap aM)∧Ext w w'
def aDk:Value→Nat
 | .slice _ n _=>n
 |_=>0
theorem jA {es:List (Nat×Nat)}{k f t:Nat}(h:es[k]? =some (f,t)):((es.map jL).flatMap aM)[k*2]? =some (I f)∧((es.map jL).flatMap aM)[k*2+1]? =some (I t):=by
 have hx:(es.map jL)[k]? =some ((f:Int),(t:Int)):=by rw[aS9,h];rfl
 have h0:=eP aM 2 (fun _=>rfl) _ _ _ hx 0 (by omega);have h1:=eP aM 2 (fun _=>rfl) _ _ _ hx 1 (by omega);exact⟨by simpa[aM]using h0,by simpa[aM]using h1⟩
theorem aMb (aA aB id:Int)(p:OA)(n cap c:Nat)(xs:List Int)(w:World)(fq:4≤n)(hn:n≤12)(fa:Hid (aO aA aB xs=true))(au:Hid (xs.length=n))(ea:Hid (id≠0))(hc:Hid (xs[c]? =some id)) (e4:Hid (c<n)) (cm:Hid (∀zs:List Int,zs.length=n→aN zs<4096))
  (d4:Hid (∀D,fA aA n (bP xs).length D→dX aA xs c=if aV D c (aN xs)<0 then none else some (oR aA n (aV D) (c,aN xs) (aV D c (aN xs)).toNat)))
  (e3:Hid (∀D,fA aA n (bP xs).length D→aV D c (aN xs)≤60))
  (ds:Hid (∀D,fA aA n (bP xs).length D→ ∀d:Nat,aV D c (aN xs)=d→ ∀j,j≤d→(gP aA n (aV D) (c,aN xs) j).1<n∧aV D (gP aA n (aV D) (c,aN xs) j).1 (gP aA n (aV D) (c,aN xs) j).2=(d:Int)-j∧((gP aA n (aV D) (c,aN xs) j).1=0↔j=d)∧(gP aA n (aV D) (c,aN xs) j).2<4096))
  (cn:Hid (∀D,fA aA n (bP xs).length D→ ∀d:Nat,aV D c (aN xs)=d→ ∀j,j<d→ ∀ys,aAx aA aB xs D c id j ys→ ∃(J:Nat) (es:List (Nat×Nat)),es=eO aA n (aN ys)∧lJ aA aB ys=es.map jL∧J<es.length∧es[J]? =some (gO aA n (aV D) (c,aN xs) j)∧
   (∀i e,i≤J→es[i]? =some e→e∈eO aA n (aN ys)∧(aV D (dS (gP aA n (aV D) (c,aN xs) j).1 e.1 e.2) (dC (aN ys) e.1 e.2)=(d:Int)-j-1↔i=J))∧
   ∀e,es[J]? =some e→aAx aA aB xs D c id (j+1) (bI aA aB ys (e.1:Int) (e.2:Int))))
  (ci:Hid (∀ys,aO aA aB ys=true→ys.length=n→ ∀f t,(f,t)∈eO aA n (aN ys)→aO aA aB (bI aA aB ys (f:Int) (t:Int))=true∧(bI aA aB ys (f:Int) (t:Int)).length=n∧aN (bI aA aB ys (f:Int) (t:Int))=dC (aN ys) f t∧ ∀c id,ys[c]? =some id→id≠0→(bI aA aB ys (f:Int) (t:Int))[dS c f t]? =some id))
  (ef:Hid (∀ys q c9 (f t:Nat) w',Sl w' q n c9 1 (ivs ys)→aO aA aB ys=true→ys.length=n→U 62 #[aH aA aB q n c9,eI (f:Int) (t:Int)] w' fun e w''=> ∃q5 c5,e= .returned (.tuple #[aH aA aB q5 n c5,.bool (bF aA aB ys (f:Int) (t:Int))])∧w''.ownsRow w' TI 1 (.slice q5 n c5) n (ivs (bI aA aB ys (f:Int) (t:Int)))∧Ext w' w''))
  (cp:Hid (∀D,fA aA n (bP xs).length D→ ∀d:Nat,aV D c (aN xs)=d→ ∀j,j<d→True∧gP aA n (aV D) (c,aN xs) (j+1)=kC (gP aA n (aV D) (c,aN xs) j) (gO aA n (aV D) (c,aN xs) j)))
  (et:xC 139 #[aH aA aB p n cap,id] w fun w' e w''=>e= .returned (I c)∧Ext w' w'')
  (b9:xC 141 #[aH aA aB p n cap] w fun w' e w''=>e= .returned (I (aN xs))∧Ext w' w'')
  (ew:xC 140 #[aH aA aB p n cap] w fun w' e w''=> ∃D,fA aA n (bP xs).length D∧ ∃q c,e= .returned (.slice q 49152 c)∧w''.ownsRow w' TI 1 (.slice q 49152 c) 49152 (ivs D)∧Ext w' w'')
  (HL:xC 65 #[aH aA aB p n cap] w fun w' e w''=> ∃q c,e= .returned (aH aA aB q n c)∧w''.ownsRow w' TI 1 (.slice q n c) n (ivs xs)∧Ext w' w'')
  (b7:Hid (∀zs q c9 (C2:Nat) w',Sl w' q n c9 1 (ivs zs)→aO aA aB zs=true→zs[C2]? =some id→U 139 #[aH aA aB q n c9,id] w' (O (I C2) w')))
  (bc:Hid (∀zs q c9 w',Sl w' q n c9 1 (ivs zs)→aO aA aB zs=true→U 141 #[aH aA aB q n c9] w' (O (I (aN zs)) w'))):
  U 105 #[aH aA aB p n cap,id] w (jY (dX aA xs c) w):=by
 go_enter func105,ntmps105;go_wp2_with fail;refine Z (et _ (((Mem.start w).c0 TH3 #[aA,aB,.slice p n cap]).made0 TSL 2 (w.heap.size+1) (by simp)).ext) fun w1 eg=>?_
 have M1:=((((Mem.start w).c0 TH3 #[aA,aB,.slice p n cap]).made0 TSL 2 (w.heap.size+1) (by simp)).adv eg)
 have bb:=M1.hi 1;clear eg;obtain⟨c0,c1,c2⟩:=(M1.bk 1).tri;go_wp2_with fail;clear c0 c1 c2;refine(ew _ M1.ext).mono ?_;rintro e w2 ⟨D,hD,ql,cl,rfl,ed,eh⟩;have M2:=(M1.call eh ed)
 clear M1 bb eh ed;obtain⟨gT,rfl,fj,fk⟩:=M2.so 0;have HD:=xQ hD;have fp:c<n:=e4.out;obtain⟨S,hS⟩: ∃S,S=aN xs:=⟨_,rfl⟩
 have fo:S<4096:=by rw[hS];exact cm.out xs au.out
 obtain⟨V0,dw⟩: ∃V0,V0=c*4096+S:=⟨_,rfl⟩
 have e7:IntKind.i64.wrap ((c:Int)*4096)=(c:Int)*4096:=aRr _ (by omega);have e8:IntKind.i64.wrap ((c:Int)*4096+(S:Int))=(V0:Int):=(aRr _ (by omega)).trans (by omega);have s1:(0:Int)≤(V0:Int):=by omega
 have s2:(V0:Int)<49152:=by omega
 obtain⟨dv,d5,bu⟩: ∃dv,D[V0]? =some dv∧aV D c (aN xs)=dv:=⟨_,(dL (D:=D) (v:=V0) (by rw[hD.len];show _<49152;omega)).1,by rw[dw,hS];rfl⟩
 have ax:=xQ bu;have HS:=xQ hS;clear hD bu hS dw;obtain⟨c0,c1,c2⟩:=(M2.bk 2).tri;go_wp2_with fail;clear c0 c1 c2;have b8:=xQ (b9 _ M2.ext);rw[←HS.out]at b8;refine b8.out.mono ?_;rintro e w3 ⟨rfl,ei⟩;have M3:=(M2.adv ei)
 clear M2 ei b8;have cd:w3.cell? ⟨gT,V0,none⟩=some (I dv):=by have:=(M3.ow 0).cellAt V0 (by omega);rw[this];simp[ivs,d5]
 clear d5;by_cases hneg:dv<0
 ·have t0:decide (dv<0)=true:=by simp[hneg]
  have e9:Hid (dX aA xs c=none):=by show _=_;rw[d4.out D HD.out,ax.out,if_pos hneg]
  have HX:=xQ (M3.ext);go_wp2;rw[e9.out];exact bodyPost_ret (v:= .tuple #[.slice (some ⟨w.heap.size+1,0,none⟩) 0 0,.bool false]) (by simp[results,results105,go_sem, *]) rfl ⟨_,rfl,by have:=HX.out;exact this⟩
 have t0:decide (dv<0)=false:=by simp;omega
 obtain⟨d,rfl⟩:=aTk (show 0≤dv by omega);have fi:d≤60:=by have:=e3.out D HD.out;rw[ax.out]at this;omega
 have el:Hid (dX aA xs c=some (oR aA n (aV D) (c,aN xs) d)):=by show _=_;rw[d4.out D HD.out,ax.out,if_neg hneg];rfl
 clear hneg;have b6:=xQ (show aV D c (aN xs)=(d:Int)from ax.out);clear ax;obtain⟨c0,c1,c2⟩:=(M3.bk 2).tri;go_wp2_with fail;clear c0 c1 c2 cd t0 e7 e8 s1 s2;refine(HL _ M3.ext).mono ?_;rintro e w4 ⟨q0,c0,rfl,ee,ej⟩;have M4:=(M3.call ej ee)
 clear M3 ej ee;obtain⟨a9,cg⟩: ∃a9,a9=w4.heap.size:=⟨_,rfl⟩
 have dr:=(show Mem w (w4.alloc (.cells #[aA,aB,.slice q0 n c0] TH3)) [aJ w (a9) TH3 #[aA,aB,.slice q0 n c0],aI w TI 1 (q0) (n) (c0) (ivs xs),aI w TSL 2 (some ⟨w.heap.size+1,0,none⟩) (0) (0) ([]),aI w TI 1 (some ⟨gT,0,none⟩) (49152) (cl) (ivs D),aJ w w TH3 #[aA,aB,.slice p n cap]]from by rw[cg];exact(M4.c0 TH3 #[aA,aB,.slice q0 n c0]).pick [0,1,3,2,4] (by decide) rfl)
 clear M4;go_wp2;rw[←cg];go_loopw [6,7] (fun v i wr=> ∃(j:Nat) (ys:List Int) (q:OA) (c9:Nat) (q6:OA) (lc:Nat),j≤d∧i=I ((gP aA n (aV D) (c,aN xs) j).1)∧v= .slice q6 j lc∧aAx aA aB xs D c id j ys∧Mem w wr [aJ w (a9) TH3 #[aA,aB,.slice q n c9],aI w TI 1 (q) (n) (c9) (ivs ys),aI w TSL 2 (q6) (j) (lc) ((oR aA n (aV D) (c,aN xs) (j)).flatMap aM),aI w TI 1 (some ⟨gT,0,none⟩) (49152) (cl) (ivs D),aJ w w TH3 #[aA,aB,.slice p n cap]]) (fun v _ _=>d-aDk v)
 case atStart=>exact⟨0,xs,q0,c0,_,0,aRv _,rfl,rfl,⟨fa.out,rfl,rfl,hc.out⟩,dr⟩
 case round=>
  clear dr cg;obtain⟨j,ys,q,c9,q6,lc,hj,rfl,rfl,b0,hM⟩:=hrel;have HM:=hM;have HW:=xQ b0;clear hM b0;obtain⟨a,ha⟩: ∃a,a=(gP aA n (aV D) (c,aN xs) j).1:=⟨_,rfl⟩
  have HA:=xQ ha;have e6:=ds.out D HD d b6 j hj;obtain⟨d8,a4,ar,d9⟩:=e6;rw[←ha]at d8 a4 ar⊢;clear ha;by_cases hlt:j<d
  ·have d3:0<a:=Nat.pos_of_ne_zero (fun e=>by have:=ar.1 e;omega);have t0:decide ((0:Int)<(a:Int))=true:=by simp;omega
   have ba:ys.length=n:=by rw[HW.out.len];exact au.out
   obtain⟨J,es,e5,af,hJ,d6,d7,bw⟩:=cn.out D HD d b6 j hlt ys HW.out;have ep:=xQ d7;have ey:=xQ bw;have er:=xQ d6;have ca:=xQ (fun w' (hx:Ext wr w')=>yZ aA aB q n c9 ys w' ((HM.sq 1).ext hx) HW.out.ok);clear e5 d7 bw d6;obtain⟨KS,hK⟩: ∃KS,KS=es.length:=⟨_,rfl⟩
   have dt:(es.map jL).length=KS:=by rw[aSg,hK]
   have ff:KS≤144:=by rw[hK,←aSg (f:=jL),←af];unfold lJ;rw[ba];exact aRz (aJw _ _ _) (Nat.mul_le_mul hn hn)
   have HK:=xQ hK;have fn:J<KS:=by rw[hK];exact hJ
   rw[af]at ca;clear hK hJ af;obtain⟨S1,bf⟩: ∃S1,S1=aN ys:=⟨_,rfl⟩
   have bd:=xQ bf;have fg:S1<4096:=by rw[bf];exact cm.out ys ba
   have bo:aV D a S1=(d:Int)-j:=by rw[bf,HW.out.free,au.out];exact a4
   have dg:=xQ bo;clear bf bo a4 d9 ar;obtain⟨v0,v1,v2⟩:=(HM.bk 0).tri;go_wp2_with fail;clear v0 v1 v2;refine(ca _ (Ext.refl _)).mono ?_;rintro e w7 ⟨qs,cs,rfl,co,ek⟩;rw[dt]at co⊢;clear ca dt;have M1:=(HM.call ek co)
   clear HM ek co;have bb:=M1.hi 1;obtain⟨gs,rfl,fl,a5⟩:=M1.so 0;obtain⟨f0,aw,bg⟩: ∃f t,es[0]? =some (f,t):=⟨_,_,aRq (by rw[←HK.out];omega)⟩
   have di:=xQ bg;have d0:w7.cell? ⟨gs,0,none⟩=some (I f0):=by have:=(M1.ow 0).cellAt 0 (by omega);rw[this];exact(jA bg).1
   have d1:w7.cell? ⟨gs,1,none⟩=some (I aw):=by have:=(M1.ow 0).cellAt 1 (by omega);rw[this];exact(jA bg).2
   clear bg;have i2:(0:Int)<(KS:Int):=by omega
   have fr:0<KS:=by omega
   have ay:=xQ (fun w' (hx:Ext w7 w')=>ef.out ys q c9 f0 aw w' ((M1.sq 2).ext hx) HW.out.ok ba);obtain⟨v0,v1,v2⟩:=(M1.bk 1).tri;have n1: ¬(a9=w7.heap.size):=by have:=(M1.hi 1);omega
   have n2: ¬(w7.heap.size=a9):=fun h=>n1 h.symm
   have n3: ¬(gs=w7.heap.size):=by omega
   have n4: ¬(w7.heap.size=gs):=fun h=>n3 h.symm
   go_upto_region 12 with fail;go_cut [12,13] (fun s1 s2 wx=> ∃(a:Nat) (q5:OA) (c5:Nat),s1= .pointer (some ⟨a,0,none⟩)∧Ext w7 wx∧w7.heap.size≤a∧Blk wx a TH3 #[aA,aB,.slice q5 n c5]∧wx.ownsRow w7 TI 1 (.slice q5 n c5) n (ivs (bI aA aB ys ((f0:Nat):Int) ((aw:Nat):Int))))
   case first=>
    go_region_held3 (fun w'=>w'.cell? ⟨a9,0,none⟩=some (I aA)∧w'.cell? ⟨a9,1,none⟩=some (I aB)∧w'.cell? ⟨a9,2,none⟩=some (.slice q n c9)∧w'.cell? ⟨gs,0,none⟩=some (I f0)∧w'.cell? ⟨gs,1,none⟩=some (I aw))
     (first|(refine⟨?_,?_,?_,?_,?_⟩<;>assumption)|go_keep)
     ((go_at_call 62
       refine(ay _ xE).mono ?_;rintro e w5 ⟨q5,c5,rfl,o5,l⟩;have m:Ext w7 w5:=xE;have g0:=((M1.bk 1).ext m).cl 0;have g1:=((M1.bk 1).ext m).cl 1;have g2:=((M1.bk 1).ext m).cl 2;have g3:w5.cell? ⟨gs,0,none⟩=some (I f0):=(m.cells.1 _ _ a5).trans d0;have g4:w5.cell? ⟨gs,1,none⟩=some (I aw):=(m.cells.1 _ _ a5).trans d1
       first
        |(have ao:Ext (w7.alloc (.cells #[(),(),((),())] TH3)) w5:=l
          have BB:=(Blk.new w7 TH3 #[(),(),((),())]).ext ao;have c6:=BB.cl 0;have da:=BB.cl 1;have db:=BB.cl 2;have dc:=BB.frozen 0;have de:=BB.frozen 1
          have df:w5.frozen? ⟨w7,2,none⟩=false:=BB.frozen 2)
        |(have ao:Ext (w7.alloc (.cells #[(),(),((),())] TH3)) w5:=l.of_drew
          have BB:=(Blk.new w7 TH3 #[(),(),((),())]).ext ao;have c6:=BB.cl 0;have da:=BB.cl 1;have db:=BB.cl 2;have dc:=BB.frozen 0;have de:=BB.frozen 1
          have df:w5.frozen? ⟨w7,2,none⟩=false:=BB.frozen 2)
        |skip))
    ·go_wp2_with fail;go_meet;exact⟨w5.heap.size,q5,c5,rfl,by exact .alloc m _,by have:=m.sz;omega,Blk.new _ _ _,bJ (by exact o5.alloc _) (by simp)⟩
    have hR:ExtR w7 w5 _:=(((ExtR.refl w7 w5).setCell (p:=⟨w7,0,none⟩) (.inl rfl) (I aA)).setCell (p:=⟨w7,1,none⟩) (.inl rfl) (I aB)).setCell (p:=⟨w7,2,none⟩) (.inl rfl) (.slice q5 n c5);have hY:=((BB.set 0 (I aA)).set 1 (I aB)).set 2 (.slice q5 n c5);simp only[aS5,aS1,aS2]at hY;go_wp2_with fail;go_meet;exact⟨w7.heap.size,q5,c5,rfl,ExtR.new m hR (aRp _),aRp _,hY,bJ (o5.kept hR (.inr (dN o5 BB (by decide)))) (by simp)⟩
   case rest=>
    clear v0 v1 v2 n1 n2 n3 n4 d0 d1;obtain⟨a0,q5,c5,rfl,a2,a3,a1,a6⟩:=hcut;have dp:=(M1.blkOwn a2 a1 a3 a6 (aRp _) (by decide))
    clear a2 a3 a1 a6 ay M1;go_wp2;go_loopw [11] (fun i wx=> ∃(k f t:Nat) (qz:OA) (cz:Nat),k≤J∧i=I k∧es[k]? =some (f,t)∧Mem w wx [aI w TI 1 (qz) (n) (cz) (ivs (bI aA aB ys ((f:Nat):Int) ((t:Nat):Int))),aJ w (a0) TH3 #[aA,aB,.slice qz n cz],aI w TSL 2 (some ⟨gs,0,none⟩) (KS) (cs) ((es.map jL).flatMap aM),aJ w (a9) TH3 #[aA,aB,.slice q n c9],aI w TI 1 (q) (n) (c9) (ivs ys),aI w TSL 2 (q6) (j) (lc) ((oR aA n (aV D) (c,aN xs) (j)).flatMap aM),aI w TI 1 (some ⟨gT,0,none⟩) (49152) (cl) (ivs D),aJ w w TH3 #[aA,aB,.slice p n cap]]) (fun i _=>J-(intOf i).toNat)
    case atStart=>exact⟨0,f0,aw,q5,c5,aRv _,rfl,di.out,dp⟩
    case round=>
     clear dp di;obtain⟨k,f,t,qz,cz,hk,rfl,ck,hM⟩:=hrel;have b:=hM;obtain⟨eb,av⟩:=ep k (f,t) hk ck;have ap:=xQ ck;clear hM ck;obtain⟨z1,z2,z3,z4⟩:=ci.out ys HW.out.ok ba f t eb;have z5:=z4 a id (by have:=HW.out.at_;rw[au.out,←HA.out]at this;exact this) ea.out;rw[←HA.out,←bd.out]at av;rw[←bd.out]at z3;clear z4 eb;generalize em:bI aA aB ys ((f:Nat):Int) ((t:Nat):Int)=zs at*;obtain⟨C2,cf⟩: ∃C2,C2=dS a f t:=⟨_,rfl⟩
     obtain⟨S2,du⟩: ∃S2,S2=dC S1 f t:=⟨_,rfl⟩
     rw[←cf]at z5 av;rw[←du]at z3 av;have fe:C2<n:=by have:=(aRt.1 z5).1;omega
     have fh:S2<4096:=by rw[←z3];exact cm.out zs z2
     obtain⟨V1,dx⟩: ∃V1,V1=C2*4096+S2:=⟨_,rfl⟩
     obtain⟨V2,dz⟩: ∃V2,V2=a*4096+S1:=⟨_,rfl⟩
     have dy:V1<49152:=by omega
     have d2:V2<49152:=by omega
     obtain⟨u,bs,bq⟩: ∃dv,D[V1]? =some dv∧aV D C2 S2=dv:=⟨_,(dL (D:=D) (v:=V1) (by rw[HD.out.len];exact dy)).1,by rw[dx];rfl⟩
     obtain⟨dd,bt,br⟩: ∃dv,D[V2]? =some dv∧aV D a S1=dv:=⟨_,(dL (D:=D) (v:=V2) (by rw[HD.out.len];exact d2)).1,by rw[dz];rfl⟩
     have bp:dd=(d:Int)-j:=by rw[←br];exact dg.out
     have o:0≤dd:=by omega
     have r:dd≤60:=by omega
     rw[bq,←bp]at av;have ez:=xQ em;have en:=xQ cf;have dk:=av;have Z1:=xQ z1;have Z3:=xQ z3;have Z5:=xQ z5;have bh:IntKind.i64.wrap ((C2:Int)*4096+(S2:Int))=(V1:Int):=(aRr _ (by omega)).trans (by omega);have bi:IntKind.i64.wrap ((a:Int)*4096+(S1:Int))=(V2:Int):=(aRr _ (by omega)).trans (by omega);have dm:=xQ bh;have dn:=xQ bi;have ag:gT<wr:=(b.hi 6)
     have x:wr.cell? ⟨gT,V1,none⟩=some (I u):=by have:=(b.ow 6).cellAt V1 (by omega);rw[this];simp[ivs,bs]
     have y:wr.cell? ⟨gT,V2,none⟩=some (I dd):=by have:=(b.ow 6).cellAt V2 (by omega);rw[this];simp[ivs,bt]
     have b1:(0:Int)≤(V1:Int):=by omega
     have b2:(V1:Int)<49152:=by omega
     have b3:(0:Int)≤(V2:Int):=by omega
     have b4:(V2:Int)<49152:=by omega
     clear em cf du av z1 z2 z3 z5 bs bt bq br bp bh bi dx dz;by_cases hkJ:k=J
     ·have aq:u=dd-1:=by have:=dk.2 hkJ;omega
      have dh:=xQ aq;clear aq;subst hkJ;go_wp2;refine rL (gl [gEq (.slice (some ⟨gT,0,none⟩) 49152 cl),gEq (.agg #[aA,aB,.slice qz n cz]),gEq id,gEq (C2:Int),gEq ((C2:Int)*4096:Int),gEq (.agg #[aA,aB,.slice qz n cz]),gEq (S2:Int),gEq (V1:Int),gEq (.pointer (some ⟨gT,V1,none⟩)),gEq u,gEq (.slice (some ⟨gT,0,none⟩) 49152 cl),gEq (a:Int),gEq ((a:Int)*4096:Int),gEq (.agg #[aA,aB,.slice q n c9]),gEq (S1:Int),gEq (V2:Int),gEq (.pointer (some ⟨gT,V2,none⟩)),gEq dd,gEq (dd-1:Int),gEq (.bool false)]) 20 20 [(0,some 50),(1,some 51),(2,some 52),(3,some 53),(4,some 54),(5,some 55),(6,some 56),(7,some 57),(8,some 58),(9,some 59),(10,some 60),(11,some 61),(12,some 62),(13,some 63),(14,some 64),(15,some 65),(16,some 66),(17,some 67),(18,some 68),(19,some 69)] ?steps ?fin
      case steps=>
       refine sS0 [] ?_;refine sC [] rfl (fun wi hx=> ?_) ?_
       ·intro K hK;have hX:=hx.of_drew;have z:=((b.bk 1).ext hX).cl 0;have x:=((b.bk 1).ext hX).cl 1;have y:=((b.bk 1).ext hX).cl 2;go_simp;exact hK _ _ ⟨.agg #[aA,aB,.slice qz n cz],rfl,rfl,Ext.refl _⟩
       refine sS0 [] ?_;refine sC [(1,some 51),(2,some 52)] rfl (fun wi hx=> ?_) ?_
       ·intro v1 h1 v2 h2 K hK;subst h1 h2;have hX:=hx.of_drew;clear b1 b2 b3 b4 o r;have HH:=xQ (b7 zs qz cz C2 wi ((b.adv hX).sq 0) Z1 Z5.out);go_wp2_with fail;refine HH.out.mono ?_;rintro e w5 ⟨rfl,l⟩;go_simp;exact hK _ _ ⟨I C2,rfl,rfl,l⟩
       refine sC [(3,some 53)] rfl (fun wi hx=> ?_) ?_
       ·intro v3 h3 K hK;obtain rfl:=h3;have a7:IntKind.i64.wrap ((C2:Int)*4096)=(C2:Int)*4096:=aRr _ (by omega);go_simp;exact hK _ _ ⟨I ((C2:Int)*4096),rfl,rfl,Ext.refl _⟩
       refine sC [] rfl (fun wi hx=> ?_) ?_
       ·intro K hK;have hX:=hx.of_drew;have z:=((b.bk 1).ext hX).cl 0;have x:=((b.bk 1).ext hX).cl 1;have y:=((b.bk 1).ext hX).cl 2;go_simp;exact hK _ _ ⟨.agg #[aA,aB,.slice qz n cz],rfl,rfl,Ext.refl _⟩
       refine sC [(5,some 55)] rfl (fun wi hx=> ?_) ?_
       ·intro v5 h5 K hK;obtain rfl:=h5;have hX:=hx.of_drew;clear b1 b2 b3 b4 o r;have HH:=xQ (bc zs qz cz wi ((b.adv hX).sq 0) Z1.out);rw[Z3.out]at HH;go_wp2_with fail;refine HH.out.mono ?_;rintro e w5 ⟨rfl,l⟩;go_simp;exact hK _ _ ⟨I S2,rfl,rfl,l⟩
       refine sC [(4,some 54),(6,some 56)] rfl (fun wi hx=> ?_) ?_
       ·intro v4 h4 v6 h6 K hK;subst h4 h6;have bh:=dm.out;go_simp;exact hK _ _ ⟨I V1,rfl,rfl,Ext.refl _⟩
       refine sS2 [(0,some 50),(7,some 57)] ?_;refine sC [(8,some 58)] rfl (fun wi hx=> ?_) ?_
       ·intro v8 h8 K hK;obtain rfl:=h8;have hX:=hx.of_drew;have z:wi.cell? ⟨gT,V1,none⟩=some (I u):=(hX.cells.1 _ _ ag).trans x;go_simp;exact hK _ _ ⟨I u,rfl,rfl,Ext.refl _⟩
       refine sS0 [] (sS0 [] ?_);refine sC [(11,some 61)] rfl (fun wi hx=> ?_) ?_
       ·intro cq ah K hK;obtain rfl:=ah;have a7:IntKind.i64.wrap ((a:Int)*4096)=(a:Int)*4096:=aRr _ (by omega);go_simp;exact hK _ _ ⟨I ((a:Int)*4096),rfl,rfl,Ext.refl _⟩
       refine sC [] rfl (fun wi hx=> ?_) ?_
       ·intro K hK;have hX:=hx.of_drew;have z:=((b.bk 3).ext hX).cl 0;have x:=((b.bk 3).ext hX).cl 1;have y:=((b.bk 3).ext hX).cl 2;go_simp;exact hK _ _ ⟨.agg #[aA,aB,.slice q n c9],rfl,rfl,Ext.refl _⟩
       refine sC [(13,some 63)] rfl (fun wi hx=> ?_) ?_
       ·intro ct aj K hK;obtain rfl:=aj;have hX:=hx.of_drew;clear b1 b2 b3 b4 o r;have HH:=xQ (bc ys q c9 wi ((b.adv hX).sq 4) HW.out.ok);rw[←bd.out]at HH;go_wp2_with fail;refine HH.out.mono ?_;rintro e w5 ⟨rfl,l⟩;go_simp;exact hK _ _ ⟨I S1,rfl,rfl,l⟩
       refine sC [(12,some 62),(14,some 64)] rfl (fun wi hx=> ?_) ?_
       ·intro cr ai cu ak K hK;obtain rfl:=ai;obtain rfl:=ak;have bi:=dn.out;go_simp;exact hK _ _ ⟨I V2,rfl,rfl,Ext.refl _⟩
       refine sS2 [(10,some 60),(15,some 65)] ?_;refine sC [(16,some 66)] rfl (fun wi hx=> ?_) ?_
       ·intro cv al K hK;obtain rfl:=al;have hX:=hx.of_drew;have z:wi.cell? ⟨gT,V2,none⟩=some (I dd):=(hX.cells.1 _ _ ag).trans y;go_simp;exact hK _ _ ⟨I dd,rfl,rfl,Ext.refl _⟩
       refine sC [(17,some 67)] rfl (fun wi hx=> ?_) ?_
       ·intro cw am K hK;obtain rfl:=am;have a7:IntKind.i64.wrap (dd-1)=dd-1:=aRr _ (by omega);go_simp;exact hK _ _ ⟨I (dd-1),rfl,rfl,Ext.refl _⟩
       refine sC [(9,some 59),(18,some 68)] rfl (fun wi hx=> ?_) StepsL.nil
       ·intro v9 h9 cx an K hK;obtain rfl:=h9;obtain rfl:=an;have ch:(u !=(dd-1))=false:=by rw[dh.out];simp
        go_simp;exact hK _ _ ⟨.bool false,rfl,rfl,Ext.refl _⟩
      case fin=>
       intro wi hx v0 h0 v1 h1 v2 h2 v3 h3 v4 h4 v5 h5 v6 h6 v7 h7 v8 h8 v9 h9 fb cb cq ah cr ai ct aj cu ak fc cc cv al cw am cx an fd ce;subst h0 h1 h2 h3 h4 h5 h6 h7 h8 h9;obtain rfl:=cb;obtain rfl:=ah;obtain rfl:=ai;obtain rfl:=aj;obtain rfl:=ak;obtain rfl:=cc;obtain rfl:=al;obtain rfl:=am;obtain rfl:=an;obtain rfl:=ce;refine wpAny_done (by kernel_rfl) ?_ _;try go_frame
       have hX:Ext wr wi:=hx.of_drew;have g:=(b.adv hX)
       clear b hx hX x y b1 b2 b3 b4 o r;have aa:=g.hi 1;have ab:=g.hi 3;have ad:=g.hi 7;have ec:=ey (f,t) ap.out;have cj:=er.out;rw[ap.out]at cj;have bv:gO aA n (aV D) (c,aN xs) j=(f,t):=(Option.some.inj cj).symm;have dj:=xQ bv;have bz:aAx aA aB xs D c id (j+1) zs:=by have:=ez.out;rw[←this];exact ec
       have dl:=xQ bz;clear ec bz cj bv;have i1:(0:Int)≤(k:Int):=by omega
       have i3:(k:Int)<(KS:Int):=by omega
       have e0:wi.cell? ⟨gs,k*2,none⟩=some (I f):=by have:=(g.ow 2).cellAt (k*2) (by omega);rw[this];exact(jA ap.out).1
       have e1:wi.cell? ⟨gs,k*2+1,none⟩=some (I t):=by have:=(g.ow 2).cellAt (k*2+1) (by omega);rw[this];exact(jA ap.out).2
       go_wp2_with (at_builtin;refine cG sX rfl _ _ rfl (g.adv ((Ext.refl _).alloc (.cells #[f,t] TSL))) 5 rfl rfl (aM ((f:Int),(t:Int))) rfl (eJ _ _ _ 1 2 _ (by first|rfl|simp) (by first|rfl|simp) (by simp[maxLen])) (nU _ _) (by omega) ?_;intro q7 c7 w6 M6;(have M7:=xQ (show Mem w w6 [aI w TI 1 (qz) (n) (cz) (ivs (zs)),aJ w (a0) TH3 #[aA,aB,.slice qz n cz],aI w TSL 2 (some ⟨gs,0,none⟩) (KS) (cs) ((es.map jL).flatMap aM),aJ w (a9) TH3 #[aA,aB,.slice q n c9],aI w TI 1 (q) (n) (c9) (ivs ys),aI w TSL 2 (q7) (j+1) (c7) ((oR aA n (aV D) (c,aN xs) (j+1)).flatMap aM),aI w TI 1 (some ⟨gT,0,none⟩) (49152) (cl) (ivs D),aJ w w TH3 #[aA,aB,.slice p n cap]]from by rw[zR,aSk,dj.out];exact M6));clear M6 e0 e1 g aa ab ad;(have bj:a0<w6:=(M7.out.hi 1));(have bl:a9<w6:=(M7.out.hi 3));(have bm:(w:Nat)<w6:=(M7.out.hi 7));(have s: ¬(a0=a9):=M7.out.ne (i:=1) (j:=3) (by omega) rfl rfl rfl rfl);(have ae: ¬(a9=a0):=fun h=>s h.symm);(obtain⟨x0,x1,x2⟩:=(M7.out.bk 1).tri);(obtain⟨v0,cy,v1,c3,v2,c4⟩:=(M7.out.bk 3).trif));have be:=(((M7.out.st 3 0 (I aA)).st 3 1 (I aB)).st 3 2 (.slice qz n cz))
       generalize a8:World.setCell _ _ _=wz;rw[a8]at be;clear a8 s ae x0 x1 x2 v0 cy v1 c3 v2 c4 bj bl bm M7;have eu:=xQ (b7 zs qz cz C2 wz (be.sq 0) Z1 Z5.out);refine eu.out.mono ?_;rintro e fs ⟨rfl,b5⟩;have e2:=(be.adv b5)
       clear be b5;have bx:(gP aA n (aV D) (c,aN xs) (j+1)).1=C2:=by have h1:=(cp.out D HD d b6 j hlt).2;rw[h1,dj.out,en.out,HA.out];rfl
       have ev:=xQ bx;clear bx;go_wp2;go_roundw
       case rel=>exact⟨j+1,zs,qz,cz,q7,c7,by omega,by rw[ev.out],rfl,dl.out,(e2.pick [3,0,5,6,7] (by decide) rfl)⟩
       case measure=>simp[aDk];omega
     have aq: ¬u=dd-1:=fun h=>hkJ (dk.1 (by omega))
     go_wp2;refine rL (gl [gEq (.slice (some ⟨gT,0,none⟩) 49152 cl),gEq (.agg #[aA,aB,.slice qz n cz]),gEq id,gEq (C2:Int),gEq ((C2:Int)*4096:Int),gEq (.agg #[aA,aB,.slice qz n cz]),gEq (S2:Int),gEq (V1:Int),gEq (.pointer (some ⟨gT,V1,none⟩)),gEq u,gEq (.slice (some ⟨gT,0,none⟩) 49152 cl),gEq (a:Int),gEq ((a:Int)*4096:Int),gEq (.agg #[aA,aB,.slice q n c9]),gEq (S1:Int),gEq (V2:Int),gEq (.pointer (some ⟨gT,V2,none⟩)),gEq dd,gEq (dd-1:Int),gEq (.bool true)]) 20 20 [(0,some 50),(1,some 51),(2,some 52),(3,some 53),(4,some 54),(5,some 55),(6,some 56),(7,some 57),(8,some 58),(9,some 59),(10,some 60),(11,some 61),(12,some 62),(13,some 63),(14,some 64),(15,some 65),(16,some 66),(17,some 67),(18,some 68),(19,some 69)] ?steps ?fin
     case steps=>
      refine sS0 [] ?_;refine sC [] rfl (fun wi hx=> ?_) ?_
      ·intro K hK;have hX:=hx.of_drew;have z:=((b.bk 1).ext hX).cl 0;have x:=((b.bk 1).ext hX).cl 1;have y:=((b.bk 1).ext hX).cl 2;go_simp;exact hK _ _ ⟨.agg #[aA,aB,.slice qz n cz],rfl,rfl,Ext.refl _⟩
      refine sS0 [] ?_;refine sC [(1,some 51),(2,some 52)] rfl (fun wi hx=> ?_) ?_
      ·intro v1 h1 v2 h2 K hK;subst h1 h2;have hX:=hx.of_drew;clear b1 b2 b3 b4 o r;have HH:=xQ (b7 zs qz cz C2 wi ((b.adv hX).sq 0) Z1 Z5.out);go_wp2_with fail;refine HH.out.mono ?_;rintro e w5 ⟨rfl,l⟩;go_simp;exact hK _ _ ⟨I C2,rfl,rfl,l⟩
      refine sC [(3,some 53)] rfl (fun wi hx=> ?_) ?_
      ·intro v3 h3 K hK;obtain rfl:=h3;have a7:IntKind.i64.wrap ((C2:Int)*4096)=(C2:Int)*4096:=aRr _ (by omega);go_simp;exact hK _ _ ⟨I ((C2:Int)*4096),rfl,rfl,Ext.refl _⟩
      refine sC [] rfl (fun wi hx=> ?_) ?_
      ·intro K hK;have hX:=hx.of_drew;have z:=((b.bk 1).ext hX).cl 0;have x:=((b.bk 1).ext hX).cl 1;have y:=((b.bk 1).ext hX).cl 2;go_simp;exact hK _ _ ⟨.agg #[aA,aB,.slice qz n cz],rfl,rfl,Ext.refl _⟩
      refine sC [(5,some 55)] rfl (fun wi hx=> ?_) ?_
      ·intro v5 h5 K hK;obtain rfl:=h5;have hX:=hx.of_drew;clear b1 b2 b3 b4 o r;have HH:=xQ (bc zs qz cz wi ((b.adv hX).sq 0) Z1.out);rw[Z3.out]at HH;go_wp2_with fail;refine HH.out.mono ?_;rintro e w5 ⟨rfl,l⟩;go_simp;exact hK _ _ ⟨I S2,rfl,rfl,l⟩
      refine sC [(4,some 54),(6,some 56)] rfl (fun wi hx=> ?_) ?_
      ·intro v4 h4 v6 h6 K hK;subst h4 h6;have bh:=dm.out;go_simp;exact hK _ _ ⟨I V1,rfl,rfl,Ext.refl _⟩
      refine sS2 [(0,some 50),(7,some 57)] ?_;refine sC [(8,some 58)] rfl (fun wi hx=> ?_) ?_
      ·intro v8 h8 K hK;obtain rfl:=h8;have hX:=hx.of_drew;have z:wi.cell? ⟨gT,V1,none⟩=some (I u):=(hX.cells.1 _ _ ag).trans x;go_simp;exact hK _ _ ⟨I u,rfl,rfl,Ext.refl _⟩
      refine sS0 [] (sS0 [] ?_);refine sC [(11,some 61)] rfl (fun wi hx=> ?_) ?_
      ·intro cq ah K hK;obtain rfl:=ah;have a7:IntKind.i64.wrap ((a:Int)*4096)=(a:Int)*4096:=aRr _ (by omega);go_simp;exact hK _ _ ⟨I ((a:Int)*4096),rfl,rfl,Ext.refl _⟩
      refine sC [] rfl (fun wi hx=> ?_) ?_
      ·intro K hK;have hX:=hx.of_drew;have z:=((b.bk 3).ext hX).cl 0;have x:=((b.bk 3).ext hX).cl 1;have y:=((b.bk 3).ext hX).cl 2;go_simp;exact hK _ _ ⟨.agg #[aA,aB,.slice q n c9],rfl,rfl,Ext.refl _⟩
      refine sC [(13,some 63)] rfl (fun wi hx=> ?_) ?_
      ·intro ct aj K hK;obtain rfl:=aj;have hX:=hx.of_drew;clear b1 b2 b3 b4 o r;have HH:=xQ (bc ys q c9 wi ((b.adv hX).sq 4) HW.out.ok);rw[←bd.out]at HH;go_wp2_with fail;refine HH.out.mono ?_;rintro e w5 ⟨rfl,l⟩;go_simp;exact hK _ _ ⟨I S1,rfl,rfl,l⟩
      refine sC [(12,some 62),(14,some 64)] rfl (fun wi hx=> ?_) ?_
      ·intro cr ai cu ak K hK;obtain rfl:=ai;obtain rfl:=ak;have bi:=dn.out;go_simp;exact hK _ _ ⟨I V2,rfl,rfl,Ext.refl _⟩
      refine sS2 [(10,some 60),(15,some 65)] ?_;refine sC [(16,some 66)] rfl (fun wi hx=> ?_) ?_
      ·intro cv al K hK;obtain rfl:=al;have hX:=hx.of_drew;have z:wi.cell? ⟨gT,V2,none⟩=some (I dd):=(hX.cells.1 _ _ ag).trans y;go_simp;exact hK _ _ ⟨I dd,rfl,rfl,Ext.refl _⟩
      refine sC [(17,some 67)] rfl (fun wi hx=> ?_) ?_
      ·intro cw am K hK;obtain rfl:=am;have a7:IntKind.i64.wrap (dd-1)=dd-1:=aRr _ (by omega);go_simp;exact hK _ _ ⟨I (dd-1),rfl,rfl,Ext.refl _⟩
      refine sC [(9,some 59),(18,some 68)] rfl (fun wi hx=> ?_) StepsL.nil
      ·intro v9 h9 cx an K hK;obtain rfl:=h9;obtain rfl:=an;have ch:(u !=(dd-1))=true:=by simp[aq]
       go_simp;exact hK _ _ ⟨.bool true,rfl,rfl,Ext.refl _⟩
     case fin=>
      intro wi hx v0 h0 v1 h1 v2 h2 v3 h3 v4 h4 v5 h5 v6 h6 v7 h7 v8 h8 v9 h9 fb cb cq ah cr ai ct aj cu ak fc cc cv al cw am cx an fd ce;subst h0 h1 h2 h3 h4 h5 h6 h7 h8 h9;obtain rfl:=cb;obtain rfl:=ah;obtain rfl:=ai;obtain rfl:=aj;obtain rfl:=ak;obtain rfl:=cc;obtain rfl:=al;obtain rfl:=am;obtain rfl:=an;obtain rfl:=ce;refine wpAny_done (by kernel_rfl) ?_ _;try go_frame
      have hX:Ext wr wi:=hx.of_drew;have g:=(b.adv hX)
      clear b hx hX x y ag b1 b2 b3 b4 o r;have aa:=g.hi 1;have ab:=g.hi 3;have ad:=g.hi 7;obtain⟨f2,t2,af⟩: ∃f t,es[k+1]? =some (f,t):=⟨_,_,aRq (by rw[←HK.out];omega)⟩
      have eo:=xQ af;have i1:(0:Int)≤(k:Int)+1:=by omega
      have i3:(k:Int)+1<(KS:Int):=by omega
      have i4:((k:Int)+1).toNat=k+1:=by omega
      have d0:wi.cell? ⟨gs,(k+1)*2,none⟩=some (I f2):=by have:=(g.ow 2).cellAt ((k+1)*2) (by omega);rw[this];exact(jA af).1
      have d1:wi.cell? ⟨gs,(k+1)*2+1,none⟩=some (I t2):=by have:=(g.ow 2).cellAt ((k+1)*2+1) (by omega);rw[this];exact(jA af).2
      have a5:gs<wi:=(g.hi 2)
      clear af;have ay:=xQ (fun w' (hx:Ext wi w')=>ef.out ys q c9 f2 t2 w' ((g.sq 4).ext hx) HW.out.ok ba);obtain⟨v0,v1,v2⟩:=(g.bk 3).tri;have n1: ¬(a9=wi.heap.size):=by have:=(g.hi 3);omega
      have n2: ¬(wi.heap.size=a9):=fun h=>n1 h.symm
      have n3: ¬(gs=wi.heap.size):=by omega
      have n4: ¬(wi.heap.size=gs):=fun h=>n3 h.symm
      go_upto_region 15 with fail;go_cut [14,15] (fun s1 s2 wx=> ∃(a:Nat) (q5:OA) (c5:Nat),s1= .pointer (some ⟨a,0,none⟩)∧Ext wi wx∧wi.heap.size≤a∧Blk wx a TH3 #[aA,aB,.slice q5 n c5]∧wx.ownsRow wi TI 1 (.slice q5 n c5) n (ivs (bI aA aB ys ((f2:Nat):Int) ((t2:Nat):Int))))
      case first=>
       go_region_held3 (fun w'=>w'.cell? ⟨a9,0,none⟩=some (I aA)∧w'.cell? ⟨a9,1,none⟩=some (I aB)∧w'.cell? ⟨a9,2,none⟩=some (.slice q n c9)∧w'.cell? ⟨gs,(k+1)*2,none⟩=some (I f2)∧w'.cell? ⟨gs,(k+1)*2+1,none⟩=some (I t2))
        (first|(refine⟨?_,?_,?_,?_,?_⟩<;>assumption)|go_keep)
        ((go_at_call 62
          refine(ay _ xE).mono ?_;rintro e w5 ⟨q5,c5,rfl,o5,l⟩;have m:Ext wi w5:=xE;have g0:=((g.bk 3).ext m).cl 0;have g1:=((g.bk 3).ext m).cl 1;have g2:=((g.bk 3).ext m).cl 2;have g3:w5.cell? ⟨gs,(k+1)*2,none⟩=some (I f2):=(m.cells.1 _ _ a5).trans d0;have g4:w5.cell? ⟨gs,(k+1)*2+1,none⟩=some (I t2):=(m.cells.1 _ _ a5).trans d1
          first
           |(have ao:Ext (wi.alloc (.cells #[(),(),((),())] TH3)) w5:=l
             have BB:=(Blk.new wi TH3 #[(),(),((),())]).ext ao;have c6:=BB.cl 0;have da:=BB.cl 1;have db:=BB.cl 2;have dc:=BB.frozen 0;have de:=BB.frozen 1
             have df:w5.frozen? ⟨wi,2,none⟩=false:=BB.frozen 2)
           |(have ao:Ext (wi.alloc (.cells #[(),(),((),())] TH3)) w5:=l.of_drew
             have BB:=(Blk.new wi TH3 #[(),(),((),())]).ext ao;have c6:=BB.cl 0;have da:=BB.cl 1;have db:=BB.cl 2;have dc:=BB.frozen 0;have de:=BB.frozen 1
             have df:w5.frozen? ⟨wi,2,none⟩=false:=BB.frozen 2)
           |skip))
       ·go_wp2_with fail;go_meet;exact⟨w5.heap.size,q5,c5,rfl,by exact .alloc m _,by have:=m.sz;omega,Blk.new _ _ _,bJ (by exact o5.alloc _) (by simp)⟩
       have hR:ExtR wi w5 _:=(((ExtR.refl wi w5).setCell (p:=⟨wi,0,none⟩) (.inl rfl) (I aA)).setCell (p:=⟨wi,1,none⟩) (.inl rfl) (I aB)).setCell (p:=⟨wi,2,none⟩) (.inl rfl) (.slice q5 n c5);have hY:=((BB.set 0 (I aA)).set 1 (I aB)).set 2 (.slice q5 n c5);simp only[aS5,aS1,aS2]at hY;go_wp2_with fail;go_meet;exact⟨wi.heap.size,q5,c5,rfl,ExtR.new m hR (aRp _),aRp _,hY,bJ (o5.kept hR (.inr (dN o5 BB (by decide)))) (by simp)⟩
      case rest=>
       clear v0 v1 v2 n1 n2 n3 n4 d0 d1;obtain⟨fm,q8,c8,rfl,a2,a3,a1,a6⟩:=hcut;have az:=(g.blkOwn a2 a1 a3 a6 (aRp _) (by decide))
       clear a2 a3 a1 a6 ay g aa ab ad;obtain⟨s,ae⟩:=az.nq 1 3;obtain⟨x0,x1,x2⟩:=(az.bk 1).tri;obtain⟨v0,cy,v1,c3,v2,c4⟩:=(az.bk 3).trif;go_wp2;have dq:=(((az.st 3 0 (I aA)).st 3 1 (I aB)).st 3 2 (.slice q8 n c8))
       generalize a8:World.setCell _ _ _=wz;rw[a8]at dq;clear a8 s ae x0 x1 x2 v0 cy v1 c3 v2 c4 az;go_roundw
       case rel=>exact⟨k+1,f2,t2,q8,c8,by omega,by go_num,eo.out,(dq.pick [0,3,4,5,6,7,8,9] (by decide) rfl)⟩
       case measure=>simp[intOf];omega
  obtain rfl:d=j:=by omega
  have d3:a=0:=ar.2 rfl;have t0:decide ((0:Int)<(a:Int))=false:=by simp;omega
  have hE:=xQ HM.ext;have hO:=xQ (HM.ow 2);subst d3;go_wp2;rw[el.out];exact bodyPost_ret (v:= .tuple #[.slice q6 d lc,.bool true]) (by simp[results,results105,go_sem, *]) rfl ⟨q6,lc,by rw[oT],by rw[oT];exact hO.out,hE.out⟩
theorem zP (aA aB id:Int)(p:OA)(n cap:Nat)(xs:List Int)(w:World)(hS:Sl w p n cap 1 (ivs xs))(g:aO aA aB xs=true){c:Nat}(k:1≤id)(hc:xs[c]? =some id):
  U 105 #[aH aA aB p n cap,id] w (jY (dX aA xs c) w):=by
 have hl:=hS.ilen;subst hl;obtain⟨g1,g2,g3,g4,g5,g6,g7⟩:=cE (cQ g);have h0:id≠0:=by omega
 have i:=lG hc h0;have l:(2:Nat) ^ xs.length≤4096:=aRz (aS0 (by omega) g6) (by decide)
 refine aMb aA aB id p xs.length cap c xs w g5 g6 g rfl h0 hc i.car (fun zs hz=> ?_) (fun D hD=>yM g hc h0 hD) (fun D hD=> ?_) (fun D hD d hd j hj=> ?_) (fun D hD d hd j hj ys hw=>aLj g hc h0 hD hd hj hw) (fun ys hy hyl f t hm=> ?_) (fun ys q c9 f t w' hs hy hyl=> ?_)
  (fun D hD d hd j hj=>⟨trivial,(kW g5 g6 hD i hd hj).2.2⟩) (fun w' hx=> ?_) (fun w' hx=>xK aA aB p xs.length cap xs w' (hS.ext hx) g) (fun w' hx=> ?_) (fun w' hx=>fW aA aB p xs.length cap xs w' (by omega) (hS.ext hx)) (fun zs q c9 C2 w' hs hz hC=> ?_) (fun zs q c9 w' hs hz=>xK aA aB q xs.length c9 zs w' hs hz)
 ·have:=oH zs;rw[hz]at this;omega
 ·obtain⟨n1,n2,n3⟩:=uJ g hc h0 hD;by_cases hf:bP xs= []
  ·by_cases hc0:c=0
   ·rw[n2 hc0];decide
   have:=n3 hf hc0;omega
  exact(n1 hf).2
 ·obtain⟨a,b⟩:=jU g5 g6 hD i hd j hj;exact⟨a.car,b,aNw g5 g6 hD i hd hj,aRo a.set l⟩
 ·rw[←hyl]at hm;obtain⟨m1,m2,m3,m4⟩:=uG hy hm;exact⟨iW _ _ hy,by rw[dB,hyl],m3,m4⟩
 ·have:=mK aA aB (f:Int) (t:Int) q xs.length c9 ys w' hs hy;unfold cW at this;rw[dB,hyl]at this;exact this
 ·have:=tM aA aB id p xs.length cap xs w' (hS.ext hx);rwa[aAl g k hc]at this
 ·refine(aGz aA aB p xs.length cap xs w' (hS.ext hx) g).mono fun e w'' h=> ?_
  obtain⟨D,hD,q,c',h1,h2,h3⟩:=h;have hl:=hD.len;rw[hl]at h1 h2;exact⟨D,hD,q,c',h1,h2,h3⟩
 have:=tM aA aB id q xs.length c9 zs w' hs;rwa[aAl hz k hC]at this
theorem aJr (aA aB id:Int)(p:OA)(n cap:Nat)(w:World)
  (b:xC 139 #[aH aA aB p n cap,id] w fun w' e w''=>e= .returned (I (-1))∧Ext w' w''):
  U 105 #[aH aA aB p n cap,id] w (jY none w):=by
 go_enter func105,ntmps105;go_wp2_with fail;refine Z (b _ (((Mem.start w).c0 TH3 #[aA,aB,.slice p n cap]).made0 TSL 2 (w.heap.size+1) (by simp)).ext) fun w1 a=>?_
 have M1:=((((Mem.start w).c0 TH3 #[aA,aB,.slice p n cap]).made0 TSL 2 (w.heap.size+1) (by simp)).adv a)
 clear a;have HX:=xQ (M1.ext);go_wp2;exact bodyPost_ret (v:= .tuple #[.slice (some ⟨w.heap.size+1,0,none⟩) 0 0,.bool false]) (by simp[results,results105,go_sem, *]) rfl ⟨_,rfl,HX.out⟩
theorem wO (aA aB id:Int)(p:OA)(n cap:Nat)(xs:List Int)(w:World)(a:Hid (xs.length=n))
  (HV:xB 48 #[aH aA aB p n cap] w true)
  (HB:xC 105 #[aH aA aB p n cap,id] w fun w' e w''=> ∃v,e= .returned (.tuple #[v,.bool false])∧Ext w' w'')
  (HL:xC 65 #[aH aA aB p n cap] w fun w' e w''=> ∃q c,e= .returned (aH aA aB q n c)∧w''.ownsRow w' TI 1 (.slice q n c) n (ivs xs)∧Ext w' w''):
  U 59 #[aH aA aB p n cap,id] w (cT aA aB xs (-1) w):=by
 go_enter func59,ntmps59;go_wp2_with fail;refine Z (HV _ (((Mem.start w).c0 TH3 #[aA,aB,.slice p n cap]).c1 TH3 #[(),(),((),())]).ext) fun w1 f=>?_
 have M1:=((((Mem.start w).c0 TH3 #[aA,aB,.slice p n cap]).c1 TH3 #[(),(),((),())]).adv f)
 clear f;obtain⟨c0,c1,c2⟩:=(M1.bk 1).tri;go_wp2_with fail;clear c0 c1 c2;refine(HB _ M1.ext).mono ?_;rintro e w2 ⟨v,rfl,g⟩;have M2:=(M1.adv g)
 clear M1 g;obtain⟨c0,c1,c2⟩:=(M2.bk 1).tri;go_wp2_with fail;clear c0 c1 c2;refine(HL _ M2.ext).mono ?_;rintro e w3 ⟨q0,c0,rfl,b,h⟩;have M3:=(M2.call h b)
 clear M2 h b;obtain⟨z0,i,z1,j,z2,k⟩:=(M3.bk 1).trif;go_wp2;clear z0 i z1 j z2 k;have M4:=(((M3.st 1 0 (I aA)).st 1 1 (I aB)).st 1 2 (.slice q0 n c0))
 generalize d:World.setCell _ _ _=wz;rw[d]at M4;clear d M3;obtain⟨l,m,o⟩:=(M4.bk 1).tri;exact bodyPost_ret (v:= .tuple #[.agg #[aA,aB,.slice q0 n c0],(-1:Int)]) (by simp[results,results59,go_sem, *]) rfl (eU a.out (M4.ow 0) M4.ext)
theorem aDf (aA aB id:Int)(p:OA)(n cap K:Nat)(ys:List Int)(sl:List Sl2)(w:World)(a:Hid (ys.length=n))
  (HV:xB 48 #[aH aA aB p n cap] w true)
  (HB:xC 105 #[aH aA aB p n cap,id] w fun w' e w''=> ∃q c,e= .returned (.tuple #[.slice q K c,.bool true])∧w''.ownsRow w' TSL 2 (.slice q K c) K (sl.flatMap aM)∧Ext w' w'')
  (HR:Hid (∀w' q c,Ext w w'→Sl w' q K c 2 (sl.flatMap aM)→U 102 #[aH aA aB p n cap,.slice q K c] w' fun e w''=> ∃q c,e= .returned (.tuple #[aH aA aB q n c,K])∧w''.ownsRow w' TI 1 (.slice q n c) n (ivs ys)∧Ext w' w''))
  (HT:Hid (∀w' q c,Ext w w'→Sl w' q n c 1 (ivs ys)→U 106 #[aH aA aB q n c,()] w' fun e w''=> ∃q c i,e= .returned (.tuple #[aH aA aB q n c,i])∧w''.ownsRow w' TI 1 (.slice q n c) n (ivs (ys.set 0 0))∧Ext w' w'')):
  U 59 #[aH aA aB p n cap,id] w (cT aA aB (ys.set 0 0) (K:Int) w):=by
 go_enter func59,ntmps59;go_wp2_with fail;refine Z (HV _ (((Mem.start w).c0 TH3 #[aA,aB,.slice p n cap]).c1 TH3 #[(),(),((),())]).ext) fun w1 h=>?_
 have M1:=((((Mem.start w).c0 TH3 #[aA,aB,.slice p n cap]).c1 TH3 #[(),(),((),())]).adv h)
 clear h;obtain⟨c0,c1,c2⟩:=(M1.bk 1).tri;go_wp2_with fail;clear c0 c1 c2;refine(HB _ M1.ext).mono ?_;rintro e w2 ⟨qs,cs,rfl,b,j⟩;have M2:=(M1.call j b)
 clear M1 j b;obtain⟨c0,c1,c2⟩:=(M2.bk 2).tri;go_wp2_with fail;clear c0 c1 c2;refine(HR _ qs cs M2.ext (M2.sq 0)).mono ?_;rintro e w3 ⟨q1,c1,rfl,d,k⟩;have M3:=(M2.call k d)
 clear M2 k d;go_wp2_with fail;refine(HT _ q1 c1 (M3.c0 TH3 #[aA,aB,.slice q1 n c1]).ext ((M3.c0 TH3 #[aA,aB,.slice q1 n c1]).sq 1)).mono ?_;rintro e w4 ⟨q2,c2,i2,rfl,f,l⟩;have M4:=((M3.c0 TH3 #[aA,aB,.slice q1 n c1]).call l f)
 clear M3 l f;have m:=M4.hi 4;obtain⟨z0,o,z1,r,z2,s⟩:=(M4.bk 4).trif;go_wp2;clear z0 o z1 r z2 s;have M5:=((((M4.st 4 0 (I aA)).st 4 1 (I aB)).st 4 2 (.slice q2 n c2)).bn TH3 #[aA,aB,.slice q2 n c2] w4)
 generalize g:World.alloc _ _=wz;rw[g]at M5;clear g M4;obtain⟨t,u,x⟩:=(M5.bk 5).tri;exact bodyPost_ret (v:= .tuple #[.agg #[aA,aB,.slice q2 n c2],K]) (by simp[results,results59,go_sem, *]) rfl (eU (by rw[aTb];exact a.out) (M5.ow 1) M5.ext)
def cA (aA aB:Int)(xs:List Int)(id:Int):List Int×Int:=
 match mU aA aB xs id with
 |none=>(xs,-1)
 |some r=>(r.1,(r.2:Int))
theorem aIj {aA aB:Int}{xs:List Int}{id:Int}(h:id<1∨id∉xs):iT aA aB xs id= -1:=by
 unfold iT;by_cases h1:aO aA aB xs=true∧1≤id
 ·rw[if_pos h1];rcases h with h|h
  ·omega
  exact uC h
 rw[if_neg h1]
theorem xV {xs:List Int}{id:Int}(h:id∈xs): ∃c:Nat,xs[c]? =some id∧qS xs id=(c:Int):=by
 induction xs with
 |nil=>cases h
 |cons x xs ih=>
  by_cases hx:x=id
  ·subst hx;exact⟨0,rfl,sR (k:=0) rfl (by simp)⟩
  have hm:id∈xs:=by
   rcases aS6.1 h with e|e
   ·exact absurd e.symm hx
   exact e
  obtain⟨c,h1,_⟩:=ih hm;obtain⟨k,d,f⟩: ∃k,(x::xs)[k]? =some id∧id∉(x::xs).take k:=by
   clear ih h1
   suffices hs: ∀(l:List Int),id∈l→ ∃k,l[k]? =some id∧id∉l.take k from hs _ h
   intro l;induction l with
   |nil=>intro h;cases h
   |cons y l ihl=>
    intro hy;by_cases e:y=id
    ·exact⟨0,by simp[e],by simp⟩
    ·obtain⟨k,a,b⟩:=ihl (by
      rcases aS6.1 hy with e2|e2
      ·exact absurd e2.symm e
      ·exact e2)
     exact⟨k+1,by simpa using a,by simp[b,Ne.symm e]⟩
  exact⟨k,d,sR d f⟩
theorem aF0 (aA aB id:Int)(p:OA)(n cap:Nat)(xs:List Int)(w:World)(hS:Sl w p n cap 1 (ivs xs))(a:aO aA aB xs=true):
  U 59 #[aH aA aB p n cap,id] w (cT aA aB (cA aA aB xs id).1 (cA aA aB xs id).2 w):=by
 have hl:=hS.ilen;subst hl;obtain⟨g1,g2,g3,g4,g5,g6,g7⟩:=cE (cQ a);have HV: ∀w',Ext w w'→U 48 #[aH aA aB p xs.length cap] w' (O (.bool true) w'):=fun w' hy=>by have:=gJ aA aB p xs.length cap xs w' (hS.ext hy);rwa[a]at this
 have HL:=fun(w':World) (hy:Ext w w')=>fW aA aB p xs.length cap xs w' (by omega) (hS.ext hy)
 by_cases hno:id<1∨id∉xs
 ·have e:cA aA aB xs id=(xs,-1):=by unfold cA mU;rw[if_pos hno]
  rw[e];refine wO aA aB id p xs.length cap xs w rfl HV (fun w' hy=> ?_) HL;refine aJr aA aB id p xs.length cap w' (fun w2 hy2=> ?_);have:=tM aA aB id p xs.length cap xs w2 (hS.ext (hy.trans hy2));rwa[aIj hno]at this
 have d:1≤id:=by omega
 have hm:id∈xs:=by
  by_cases hm:id∈xs
  ·exact hm
  exact absurd (.inr hm) hno
 obtain⟨c,hc,f⟩:=xV hm;have HB:=fun(w':World) (hy:Ext w w')=>zP aA aB id p xs.length cap xs w' (hS.ext hy) a d hc
 have b:(qS xs id).toNat=c:=by rw[f];simp
 cases hb:dX aA xs c with
 |none=>
  have e:cA aA aB xs id=(xs,-1):=by unfold cA mU;rw[if_neg hno,b,hb];rfl
  rw[e];rw[hb]at HB;exact wO aA aB id p xs.length cap xs w rfl HV HB HL
 |some l=>
  obtain⟨b1,ys,b2,b3,b4,b5⟩:=(pU a hc (by omega)).2 l hb;have e:cA aA aB xs id=(ys.set 0 0,(l.length:Int)):=by unfold cA mU;rw[if_neg hno,b,hb];simp[b2]
  rw[e];rw[hb]at HB;refine aDf aA aB id p xs.length cap l.length ys l w b4 HV HB (fun w' q c' hy hL=> ?_) (fun w' q c' hy hL=> ?_)
  ·have:=rY aA aB p xs.length cap xs q l.length c' l w' b1 (hS.ext hy) hL a;rw[b2]at this;unfold cT at this;dsimp only at this;rw[b4]at this;exact this
  have:=aCj aA aB q xs.length c' ys w' hL b3;unfold cT at this;rw[aTb,b4]at this;refine this.mono fun e w'' h=> ?_
  obtain⟨q2,c2,h1,h2,h3⟩:=h;exact⟨q2,c2,_,h1,h2,h3⟩
end Go.Proofs.YtbgkcehffiogcacGreatDoor
