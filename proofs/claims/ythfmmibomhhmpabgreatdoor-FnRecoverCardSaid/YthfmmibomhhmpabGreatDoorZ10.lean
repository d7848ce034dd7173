/- Lemmas (@packed). -/
import Derived.Test.YthfmmibomhhmpabGreatDoorZ9
namespace Go.Proofs.YthfmmibomhhmpabGreatDoor
open Go.RowKit Go.Proofs.Tryz
set_option linter.all false
set_option maxHeartbeats 16000000
set_option maxRecDepth 100000
variable{c k:Nat}{w':World}(h:aQ)(aA aB id t u aE aF aD aG:Int)(p:OA)(n b a:Nat)(xs:List Int)(x:Nat)(q:OA)(m c2:Nat)(Cs:List Int)(vs:List aV)(b1 b2 R:Bool)(w:World)
def lV (r:Option (List Sl2))(w:World)(e:Ending)(w':World):Prop:=
 match r with
 |none=> ∃v,e= .returned (.tuple #[v,.bool false])∧Ext w w'
 |some l=> ∃q c,e= .returned (.tuple #[.slice q l.length c,.bool true])∧w'.ownsRow w.heap.size TSL 2 (.slice q l.length c) l.length (l.flatMap aK)∧Ext w w'
def aHy:Value→Nat
 | .slice _ n _=>n
 |_=>0
theorem kX {es:List (Nat×Nat)}{f t:Nat}(h:es[k]? =some (f,t)):((es.map lH).flatMap aK)[k*2]? =some (I f)∧((es.map lH).flatMap aK)[k*2+1]? =some (I t):=by
 have hx:(es.map lH)[k]? =some ((f:Int),(t:Int)):=by rw[aWp,h];rfl
 have h0:=fG aK 2 (fun _=>rfl) _ _ _ hx 0 (by omega);have h1:=fG aK 2 (fun _=>rfl) _ _ _ hx 1 (by omega);exact⟨by simpa[aK]using h0,by simpa[aK]using h1⟩
theorem aQn (id:Int)(p:OA)(n u c:Nat)(xs:List Int)(w:World)(fr:4≤n)(hn:n≤12)(fb:Hid (aO aA aB xs=true))(av:Hid (xs.length=n))(eb:Hid (id≠0))(hc:Hid (xs[c]? =some id))(e5:Hid (c<n))(cn:Hid (∀zs:List Int,zs.length=n→aP zs<4096))(d5:Hid (∀D,gO aA n (bX xs).length D→eO aA xs c=if bD D c (aP xs)<0 then none else some (sD aA n (bD D) (c,aP xs) (bD D c (aP xs)).toNat)))(e4:Hid (∀D,gO aA n (bX xs).length D→bD D c (aP xs)≤60))(dt:Hid (∀D,gO aA n (bX xs).length D→ ∀d:Nat,bD D c (aP xs)=d→ ∀j,j≤d→(gP aA n (bD D) (c,aP xs) j).1<n∧bD D (gP aA n (bD D) (c,aP xs) j).1 (gP aA n (bD D) (c,aP xs) j).2=(d:Int)-j∧((gP aA n (bD D) (c,aP xs) j).1=0↔j=d)∧(gP aA n (bD D) (c,aP xs) j).2<4096))(co:Hid (∀D,gO aA n (bX xs).length D→ ∀d:Nat,bD D c (aP xs)=d→ ∀j,j<d→ ∀ys,aF3 aA aB xs D c id j ys→ ∃(J:Nat) (es:List (Nat×Nat)),es=fN aA n (aP ys)∧jY aA aB ys=es.map lH∧J<es.length∧es[J]? =some (jK aA n (bD D) (c,aP xs) j)∧
   (∀i e,i≤J→es[i]? =some e→e∈fN aA n (aP ys)∧(bD D (eL (gP aA n (bD D) (c,aP xs) j).1 e.1 e.2) (dP (aP ys) e.1 e.2)=(d:Int)-j-1↔i=J))∧
   ∀e,es[J]? =some e→aF3 aA aB xs D c id (j+1) (bQ aA aB ys (e.1:Int) (e.2:Int))))(cj:Hid (∀ys,aO aA aB ys=true→ys.length=n→ ∀f t,(f,t)∈fN aA n (aP ys)→aO aA aB (bQ aA aB ys (f:Int) (t:Int))=true∧(bQ aA aB ys (f:Int) (t:Int)).length=n∧aP (bQ aA aB ys (f:Int) (t:Int))=dP (aP ys) f t∧ ∀c id,ys[c]? =some id→id≠0→(bQ aA aB ys (f:Int) (t:Int))[eL c f t]? =some id))(eg:Hid (∀ys q c9 (f t:Nat) w',Sl w' q n c9 1 (ivs ys)→aO aA aB ys=true→ys.length=n→U 94 #[aH aA aB q n c9,eV (f:Int) (t:Int)] w' (aYy TI 1 n (ivs (bQ aA aB ys (f:Int) (t:Int))) w' fun q5 c5=> .tuple #[aH aA aB q5 n c5,.bool (bM aA aB ys (f:Int) (t:Int))])))(cq:Hid (∀D,gO aA n (bX xs).length D→ ∀d:Nat,bD D c (aP xs)=d→ ∀j,j<d→True∧gP aA n (bD D) (c,aP xs) (j+1)=lY (gP aA n (bD D) (c,aP xs) j) (jK aA n (bD D) (c,aP xs) j)))(eu:xC 167 #[aH aA aB p n u,id] w fun w' e w''=>e= .returned (I c)∧Ext w' w'')(ca:xC 169 #[aH aA aB p n u] w fun w' e w''=>e= .returned (I (aP xs))∧Ext w' w'')(ey:xC 168 #[aH aA aB p n u] w fun w' e w''=> ∃D,gO aA n (bX xs).length D∧ ∃q c,e= .returned (.slice q 49152 c)∧w''.ownsRow w' TI 1 (.slice q 49152 c) 49152 (ivs D)∧Ext w' w'')(HL:xC 87 #[aH aA aB p n u] w fun w' e w''=> ∃q c,e= .returned (aH aA aB q n c)∧w''.ownsRow w' TI 1 (.slice q n c) n (ivs xs)∧Ext w' w'')(b8:Hid (∀zs q c9 (C2:Nat) w',Sl w' q n c9 1 (ivs zs)→aO aA aB zs=true→zs[C2]? =some id→U 167 #[aH aA aB q n c9,id] w' (Z (I C2) w')))(bd:Hid (∀zs q c9 w',Sl w' q n c9 1 (ivs zs)→aO aA aB zs=true→U 169 #[aH aA aB q n c9] w' (Z (I (aP zs)) w'))):
  U 126 #[aH aA aB p n u,id] w (lV (eO aA xs c) w):=by
 go_enter func126,ntmps126;go_wp2_with fail;refine Ω (eu _ (((Mem.start w).c0 TH3 #[aA,aB,.slice p n u]).made0 TSL 2 (w.heap.size+1) (by simp)).ext) fun w1 eh=>?_
 have M1:=((((Mem.start w).c0 TH3 #[aA,aB,.slice p n u]).made0 TSL 2 (w.heap.size+1) (by simp)).adv eh)
 have bc:=M1.hi 1;clear eh;obtain⟨c0,c1,c2⟩:=(M1.bk 1).tri;go_wp2_with fail;clear c0 c1 c2;refine(ey _ M1.ext).mono ?_;rintro e w2 ⟨D,hD,ql,cl,rfl,ee,ei⟩;have M2:=(M1.call ei ee)
 clear M1 bc ei ee;obtain⟨gT,rfl,fk,fl⟩:=M2.so 0;have HD:=xQ hD;have fq:c<n:=e5.out;obtain⟨S,hS⟩: ∃S,S=aP xs:=⟨_,rfl⟩
 have fp:S<4096:=by rw[hS];exact cn.out xs av.out
 obtain⟨V0,dx⟩: ∃V0,V0=c*4096+S:=⟨_,rfl⟩
 have e8:=aYs ((c:Int)*4096);have e9:IntKind.i64.wrap ((c:Int)*4096+(S:Int))=(V0:Int):=(aW2 _ (by omega)).trans (by omega);have s1:=aYp V0;have s2:(V0:Int)<49152:=by omega
 obtain⟨dv,d6,bv⟩: ∃dv,D[V0]? =some dv∧bD D c (aP xs)=dv:=⟨_,(eE (D:=D) (v:=V0) (by rw[hD.len];show _<49152;omega)).1,by rw[dx,hS];rfl⟩
 have ay:=xQ bv;have HS:=xQ hS;clear hD bv hS dx;obtain⟨c0,c1,c2⟩:=(M2.bk 2).tri;go_wp2_with fail;clear c0 c1 c2;have b9:=xQ (ca _ M2.ext);rw[←HS.out]at b9;refine b9.out.mono ?_;rintro e w3 ⟨rfl,ej⟩;have M3:=(M2.adv ej)
 clear M2 ej b9;have cd:w3.cell? ⟨gT,V0,none⟩=some (I dv):=by have:=(M3.ow 0).cellAt V0 (by omega);rw[this];simp[ivs,d6]
 clear d6;by_cases hneg:dv<0
 ·have t0:decide (dv<0)=true:=by simp[hneg]
  have fa:Hid (eO aA xs c=none):=by show _=_;rw[d5.out D HD.out,ay.out,if_pos hneg]
  have HX:=xQ (M3.ext);go_wp2;rw[fa.out];exact aYw (v:= .tuple #[.slice (some ⟨w.heap.size+1,0,none⟩) 0 0,.bool false]) ⟨_,rfl,by have:=HX.out;exact this⟩
 have t0:=aYu (dv<0);obtain⟨d,rfl⟩:=aWk (show 0≤dv by omega);have fj:d≤60:=by have:=e4.out D HD.out;rw[ay.out]at this;omega
 have em:Hid (eO aA xs c=some (sD aA n (bD D) (c,aP xs) d)):=by show _=_;rw[d5.out D HD.out,ay.out,if_neg hneg];rfl
 clear hneg;have b7:=xQ (show bD D c (aP xs)=(d:Int)from ay.out);clear ay;obtain⟨c0,c1,c2⟩:=(M3.bk 2).tri;go_wp2_with fail;clear c0 c1 c2 cd t0 e8 e9 s1 s2;refine(HL _ M3.ext).mono ?_;rintro e w4 ⟨q0,c0,rfl,ef,ek⟩;have M4:=(M3.call ek ef)
 clear M3 ek ef;obtain⟨a9,ch⟩: ∃a9,a9=w4.heap.size:=⟨_,rfl⟩
 have ds:=(show Mem w (w4.alloc (.cells #[aA,aB,.slice q0 n c0] TH3)) [aI w (a9) TH3 #[aA,aB,.slice q0 n c0],aJ w TI 1 (q0) (n) (c0) (ivs xs),aJ w TSL 2 (some ⟨w.heap.size+1,0,none⟩) (0) (0) ([]),aJ w TI 1 (some ⟨gT,0,none⟩) (49152) (cl) (ivs D),aI w w TH3 #[aA,aB,.slice p n u]]from by rw[ch];exact(M4.c0 TH3 #[aA,aB,.slice q0 n c0]).pick [0,1,3,2,4] (by decide) rfl)
 clear M4;go_wp2;rw[←ch];go_loopw [6,7] (fun v i wr=> ∃(j:Nat) (ys:List Int) (q:OA) (c9:Nat) (q6:OA) (lc:Nat),j≤d∧i=I ((gP aA n (bD D) (c,aP xs) j).1)∧v= .slice q6 j lc∧aF3 aA aB xs D c id j ys∧Mem w wr [aI w (a9) TH3 #[aA,aB,.slice q n c9],aJ w TI 1 (q) (n) (c9) (ivs ys),aJ w TSL 2 (q6) (j) (lc) ((sD aA n (bD D) (c,aP xs) (j)).flatMap aK),aJ w TI 1 (some ⟨gT,0,none⟩) (49152) (cl) (ivs D),aI w w TH3 #[aA,aB,.slice p n u]]) (fun v _ _=>d-aHy v)
 case atStart=>exact⟨0,xs,q0,c0,_,0,aW6 _,rfl,rfl,⟨fb.out,rfl,rfl,hc.out⟩,ds⟩
 case round=>
  clear ds ch;obtain⟨j,ys,q,c9,q6,lc,hj,rfl,rfl,b5,hM⟩:=hrel;have HM:=hM;have HW:=xQ b5;clear hM b5;obtain⟨a,ha⟩: ∃a,a=(gP aA n (bD D) (c,aP xs) j).1:=⟨_,rfl⟩
  have HA:=xQ ha;have e7:=dt.out D HD d b7 j hj;obtain⟨d9,a5,au,ea⟩:=e7;rw[←ha]at d9 a5 au⊢;clear ha;by_cases hlt:j<d
  ·have d4:0<a:=Nat.pos_of_ne_zero (fun e=>by have:=au.1 e;omega);have t0:=aYv ((0:Int)<(a:Int));have bb:ys.length=n:=by rw[HW.out.len];exact av.out
   obtain⟨J,es,e6,ag,hJ,d7,d8,bx⟩:=co.out D HD d b7 j hlt ys HW.out;have er:=xQ d8;have ez:=xQ bx;have et:=xQ d7;have cb:=xQ (fun w' (hx:Ext wr w')=>aD6 aA aB q n c9 ys w' ((HM.sq 1).ext hx) HW.out.ok);clear e6 d8 bx d7;obtain⟨KS,hK⟩: ∃KS,KS=es.length:=⟨_,rfl⟩
   have du:(es.map lH).length=KS:=by rw[aWj,hK]
   have fg:KS≤144:=by rw[hK,←aWj (f:=lH),←ag];unfold jY;rw[bb];exact aW8 (aE6 _ _ _) (Nat.mul_le_mul hn hn)
   have HK:=xQ hK;have fo:J<KS:=by rw[hK];exact hJ
   rw[ag]at cb;clear hK hJ ag;obtain⟨S1,bg⟩: ∃S1,S1=aP ys:=⟨_,rfl⟩
   have be:=xQ bg;have fh:S1<4096:=by rw[bg];exact cn.out ys bb
   have bp:bD D a S1=(d:Int)-j:=by rw[bg,HW.out.free,av.out];exact a5
   have dh:=xQ bp;clear bg bp a5 ea au;obtain⟨v0,v1,v2⟩:=(HM.bk 0).tri;go_wp2_with fail;clear v0 v1 v2;refine(cb _ (Ext.refl _)).mono ?_;rintro e w7 ⟨qs,cs,rfl,cp,el⟩;rw[du]at cp⊢;clear cb du;have M1:=(HM.call el cp)
   clear HM el cp;have bc:=M1.hi 1;obtain⟨gs,rfl,fm,a6⟩:=M1.so 0;obtain⟨f0,ax,bh⟩: ∃f t,es[0]? =some (f,t):=⟨_,_,aW0 (by rw[←HK.out];omega)⟩
   have dj:=xQ bh;have d0:w7.cell? ⟨gs,0,none⟩=some (I f0):=by have:=(M1.ow 0).cellAt 0 (by omega);rw[this];exact(kX bh).1
   have d1:w7.cell? ⟨gs,1,none⟩=some (I ax):=by have:=(M1.ow 0).cellAt 1 (by omega);rw[this];exact(kX bh).2
   clear bh;have i2:(0:Int)<(KS:Int):=by omega
   have fs:0<KS:=by omega
   have az:=xQ (fun w' (hx:Ext w7 w')=>eg.out ys q c9 f0 ax w' ((M1.sq 2).ext hx) HW.out.ok bb);obtain⟨v0,v1,v2⟩:=(M1.bk 1).tri;have n1: ¬(a9=w7.heap.size):=by have:=(M1.hi 1);omega
   have n2: ¬(w7.heap.size=a9):=fun h=>n1 h.symm
   have n3: ¬(gs=w7.heap.size):=by omega
   have n4: ¬(w7.heap.size=gs):=fun h=>n3 h.symm
   go_upto_region 12 with fail;go_cut [12,13] (fun s1 s2 wx=> ∃(a:Nat) (q5:OA) (c5:Nat),s1= .pointer (some ⟨a,0,none⟩)∧Ext w7 wx∧w7.heap.size≤a∧Blk wx a TH3 #[aA,aB,.slice q5 n c5]∧wx.ownsRow w7 TI 1 (.slice q5 n c5) n (ivs (bQ aA aB ys ((f0:Nat):Int) ((ax:Nat):Int))))
   case first=>
    go_region_held3 (fun w'=>w'.cell? ⟨a9,0,none⟩=some (I aA)∧w'.cell? ⟨a9,1,none⟩=some (I aB)∧w'.cell? ⟨a9,2,none⟩=some (.slice q n c9)∧w'.cell? ⟨gs,0,none⟩=some (I f0)∧w'.cell? ⟨gs,1,none⟩=some (I ax))
     (first|(refine⟨?_,?_,?_,?_,?_⟩<;>assumption)|go_keep)
     ((go_at_call 94
       refine(az _ xE).mono ?_;rintro e w5 ⟨q5,c5,rfl,o5,l⟩;have m:Ext w7 w5:=xE;have g0:=((M1.bk 1).ext m).cl 0;have g1:=((M1.bk 1).ext m).cl 1;have g2:=((M1.bk 1).ext m).cl 2;have g3:w5.cell? ⟨gs,0,none⟩=some (I f0):=(m.cells.1 _ _ a6).trans d0;have g4:w5.cell? ⟨gs,1,none⟩=some (I ax):=(m.cells.1 _ _ a6).trans d1
       first
        |(have ap:Ext (w7.alloc (.cells #[(),(),((),())] TH3)) w5:=l
          have BB:=(Blk.new w7 TH3 #[(),(),((),())]).ext ap;have da:=BB.cl 0;have db:=BB.cl 1;have dc:=BB.cl 2;have de:=BB.frozen 0;have df:=BB.frozen 1
          have dg:w5.frozen? ⟨w7,2,none⟩=false:=BB.frozen 2)
        |(have ap:Ext (w7.alloc (.cells #[(),(),((),())] TH3)) w5:=l.of_drew
          have BB:=(Blk.new w7 TH3 #[(),(),((),())]).ext ap;have da:=BB.cl 0;have db:=BB.cl 1;have dc:=BB.cl 2;have de:=BB.frozen 0;have df:=BB.frozen 1
          have dg:w5.frozen? ⟨w7,2,none⟩=false:=BB.frozen 2)
        |skip))
    ·go_wp2_with fail;go_meet;exact⟨w5.heap.size,q5,c5,rfl,by exact .alloc m _,by have:=m.sz;omega,Blk.new _ _ _,bF (by exact o5.alloc _) (by simp)⟩
    have hR:ExtR w7 w5 _:=(((ExtR.refl w7 w5).setCell (p:=⟨w7,0,none⟩) (.inl rfl) (I aA)).setCell (p:=⟨w7,1,none⟩) (.inl rfl) (I aB)).setCell (p:=⟨w7,2,none⟩) (.inl rfl) (.slice q5 n c5);have hY:=((BB.set 0 (I aA)).set 1 (I aB)).set 2 (.slice q5 n c5);simp only[aWg,aWe,aWf]at hY;go_wp2_with fail;go_meet;exact⟨w7.heap.size,q5,c5,rfl,ExtR.new m hR (aVz _),aVz _,hY,bF (o5.kept hR (.inr (eH o5 BB (by decide)))) (by simp)⟩
   case rest=>
    clear v0 v1 v2 n1 n2 n3 n4 d0 d1;obtain⟨a1,q5,c5,rfl,a3,a4,a2,a7⟩:=hcut;have dq:=(M1.blkOwn a3 a2 a4 a7 (aVz _) (by decide))
    clear a3 a4 a2 a7 az M1;go_wp2;go_loopw [11] (fun i wx=> ∃(k f t:Nat) (qz:OA) (cz:Nat),k≤J∧i=I k∧es[k]? =some (f,t)∧Mem w wx [aJ w TI 1 (qz) (n) (cz) (ivs (bQ aA aB ys ((f:Nat):Int) ((t:Nat):Int))),aI w (a1) TH3 #[aA,aB,.slice qz n cz],aJ w TSL 2 (some ⟨gs,0,none⟩) (KS) (cs) ((es.map lH).flatMap aK),aI w (a9) TH3 #[aA,aB,.slice q n c9],aJ w TI 1 (q) (n) (c9) (ivs ys),aJ w TSL 2 (q6) (j) (lc) ((sD aA n (bD D) (c,aP xs) (j)).flatMap aK),aJ w TI 1 (some ⟨gT,0,none⟩) (49152) (cl) (ivs D),aI w w TH3 #[aA,aB,.slice p n u]]) (fun i _=>J-(intOf i).toNat)
    case atStart=>exact⟨0,f0,ax,q5,c5,aW6 _,rfl,dj.out,dq⟩
    case round=>
     clear dq dj;obtain⟨k,f,t,qz,cz,hk,rfl,cm,hM⟩:=hrel;have b:=hM;obtain⟨ec,aw⟩:=er k (f,t) hk cm;have aq:=xQ cm;clear hM cm;obtain⟨z1,z2,z3,z4⟩:=cj.out ys HW.out.ok bb f t ec;have z5:=z4 a id (by have:=HW.out.at_;rw[av.out,←HA.out]at this;exact this) eb.out;rw[←HA.out,←be.out]at aw;rw[←be.out]at z3;clear z4 ec;generalize en:bQ aA aB ys ((f:Nat):Int) ((t:Nat):Int)=zs at*;obtain⟨C2,cg⟩: ∃C2,C2=eL a f t:=⟨_,rfl⟩
     obtain⟨S2,dw⟩: ∃S2,S2=dP S1 f t:=⟨_,rfl⟩
     rw[←cg]at z5 aw;rw[←dw]at z3 aw;have ff:C2<n:=by have:=(aW3.1 z5).1;omega
     have fi:S2<4096:=by rw[←z3];exact cn.out zs z2
     obtain⟨V1,dy⟩: ∃V1,V1=C2*4096+S2:=⟨_,rfl⟩
     obtain⟨V2,d2⟩: ∃V2,V2=a*4096+S1:=⟨_,rfl⟩
     have dz:V1<49152:=by omega
     have d3:V2<49152:=by omega
     obtain⟨x,bt,br⟩: ∃dv,D[V1]? =some dv∧bD D C2 S2=dv:=⟨_,(eE (D:=D) (v:=V1) (by rw[HD.out.len];exact dz)).1,by rw[dy];rfl⟩
     obtain⟨dd,bu,bs⟩: ∃dv,D[V2]? =some dv∧bD D a S1=dv:=⟨_,(eE (D:=D) (v:=V2) (by rw[HD.out.len];exact d3)).1,by rw[d2];rfl⟩
     have bq:dd=(d:Int)-j:=by rw[←bs];exact dh.out
     have o:0≤dd:=by omega
     have r:dd≤60:=by omega
     rw[br,←bq]at aw;have e2:=xQ en;have eo:=xQ cg;have dl:=aw;have Z1:=xQ z1;have Z3:=xQ z3;have Z5:=xQ z5;have bi:IntKind.i64.wrap ((C2:Int)*4096+(S2:Int))=(V1:Int):=(aW2 _ (by omega)).trans (by omega);have bj:IntKind.i64.wrap ((a:Int)*4096+(S1:Int))=(V2:Int):=(aW2 _ (by omega)).trans (by omega);have dn:=xQ bi;have dp:=xQ bj;have ah:gT<wr:=(b.hi 6)
     have y:wr.cell? ⟨gT,V1,none⟩=some (I x):=by have:=(b.ow 6).cellAt V1 (by omega);rw[this];simp[ivs,bt]
     have z:wr.cell? ⟨gT,V2,none⟩=some (I dd):=by have:=(b.ow 6).cellAt V2 (by omega);rw[this];simp[ivs,bu]
     have b1:=aYp V1;have b2:(V1:Int)<49152:=by omega
     have b3:=aYp V2;have b4:(V2:Int)<49152:=by omega
     clear en cg dw aw z1 z2 z3 z5 bt bu br bs bq bi bj dy d2;by_cases hkJ:k=J
     ·have ar:x=dd-1:=by have:=dl.2 hkJ;omega
      have di:=xQ ar;clear ar;subst hkJ;go_wp2;refine rL (gl [gEq (.slice (some ⟨gT,0,none⟩) 49152 cl),gEq (.agg #[aA,aB,.slice qz n cz]),gEq id,gEq (C2:Int),gEq ((C2:Int)*4096:Int),gEq (.agg #[aA,aB,.slice qz n cz]),gEq (S2:Int),gEq (V1:Int),gEq (.pointer (some ⟨gT,V1,none⟩)),gEq x,gEq (.slice (some ⟨gT,0,none⟩) 49152 cl),gEq (a:Int),gEq ((a:Int)*4096:Int),gEq (.agg #[aA,aB,.slice q n c9]),gEq (S1:Int),gEq (V2:Int),gEq (.pointer (some ⟨gT,V2,none⟩)),gEq dd,gEq (dd-1:Int),gEq (.bool false)]) 20 20 [(0,some 50),(1,some 51),(2,some 52),(3,some 53),(4,some 54),(5,some 55),(6,some 56),(7,some 57),(8,some 58),(9,some 59),(10,some 60),(11,some 61),(12,some 62),(13,some 63),(14,some 64),(15,some 65),(16,some 66),(17,some 67),(18,some 68),(19,some 69)] ?steps ?fin
      case steps=>
       refine sS0 [] ?_;refine sC [] rfl (fun wi hx=> ?_) ?_
       ·intro K hK;have hX:=hx.of_drew;have aa:=((b.bk 1).ext hX).cl 0;have y:=((b.bk 1).ext hX).cl 1;have z:=((b.bk 1).ext hX).cl 2;go_simp;exact hK _ _ ⟨.agg #[aA,aB,.slice qz n cz],rfl,rfl,Ext.refl _⟩
       refine sS0 [] ?_;refine sC [(1,some 51),(2,some 52)] rfl (fun wi hx=> ?_) ?_
       ·intro v1 h1 v2 h2 K hK;subst h1 h2;have hX:=hx.of_drew;clear b1 b2 b3 b4 o r;have HH:=xQ (b8 zs qz cz C2 wi ((b.adv hX).sq 0) Z1 Z5.out);go_wp2_with fail;refine HH.out.mono ?_;rintro e w5 ⟨rfl,l⟩;go_simp;exact hK _ _ ⟨I C2,rfl,rfl,l⟩
       refine sC [(3,some 53)] rfl (fun wi hx=> ?_) ?_
       ·intro v3 h3 K hK;obtain rfl:=h3;have a8:=aYs ((C2:Int)*4096);go_simp;exact hK _ _ ⟨I ((C2:Int)*4096),rfl,rfl,Ext.refl _⟩
       refine sC [] rfl (fun wi hx=> ?_) ?_
       ·intro K hK;have hX:=hx.of_drew;have aa:=((b.bk 1).ext hX).cl 0;have y:=((b.bk 1).ext hX).cl 1;have z:=((b.bk 1).ext hX).cl 2;go_simp;exact hK _ _ ⟨.agg #[aA,aB,.slice qz n cz],rfl,rfl,Ext.refl _⟩
       refine sC [(5,some 55)] rfl (fun wi hx=> ?_) ?_
       ·intro v5 h5 K hK;obtain rfl:=h5;have hX:=hx.of_drew;clear b1 b2 b3 b4 o r;have HH:=xQ (bd zs qz cz wi ((b.adv hX).sq 0) Z1.out);rw[Z3.out]at HH;go_wp2_with fail;refine HH.out.mono ?_;rintro e w5 ⟨rfl,l⟩;go_simp;exact hK _ _ ⟨I S2,rfl,rfl,l⟩
       refine sC [(4,some 54),(6,some 56)] rfl (fun wi hx=> ?_) ?_
       ·intro v4 h4 v6 h6 K hK;subst h4 h6;have bi:=dn.out;go_simp;exact hK _ _ ⟨I V1,rfl,rfl,Ext.refl _⟩
       refine sS2 [(0,some 50),(7,some 57)] ?_;refine sC [(8,some 58)] rfl (fun wi hx=> ?_) ?_
       ·intro v8 h8 K hK;obtain rfl:=h8;have hX:=hx.of_drew;have aa:wi.cell? ⟨gT,V1,none⟩=some (I x):=(hX.cells.1 _ _ ah).trans y;go_simp;exact hK _ _ ⟨I x,rfl,rfl,Ext.refl _⟩
       refine sS0 [] (sS0 [] ?_);refine sC [(11,some 61)] rfl (fun wi hx=> ?_) ?_
       ·intro cr ai K hK;obtain rfl:=ai;have a8:=aYs ((a:Int)*4096);go_simp;exact hK _ _ ⟨I ((a:Int)*4096),rfl,rfl,Ext.refl _⟩
       refine sC [] rfl (fun wi hx=> ?_) ?_
       ·intro K hK;have hX:=hx.of_drew;have aa:=((b.bk 3).ext hX).cl 0;have y:=((b.bk 3).ext hX).cl 1;have z:=((b.bk 3).ext hX).cl 2;go_simp;exact hK _ _ ⟨.agg #[aA,aB,.slice q n c9],rfl,rfl,Ext.refl _⟩
       refine sC [(13,some 63)] rfl (fun wi hx=> ?_) ?_
       ·intro cu ak K hK;obtain rfl:=ak;have hX:=hx.of_drew;clear b1 b2 b3 b4 o r;have HH:=xQ (bd ys q c9 wi ((b.adv hX).sq 4) HW.out.ok);rw[←be.out]at HH;go_wp2_with fail;refine HH.out.mono ?_;rintro e w5 ⟨rfl,l⟩;go_simp;exact hK _ _ ⟨I S1,rfl,rfl,l⟩
       refine sC [(12,some 62),(14,some 64)] rfl (fun wi hx=> ?_) ?_
       ·intro ct aj cv al K hK;obtain rfl:=aj;obtain rfl:=al;have bj:=dp.out;go_simp;exact hK _ _ ⟨I V2,rfl,rfl,Ext.refl _⟩
       refine sS2 [(10,some 60),(15,some 65)] ?_;refine sC [(16,some 66)] rfl (fun wi hx=> ?_) ?_
       ·intro cw am K hK;obtain rfl:=am;have hX:=hx.of_drew;have aa:wi.cell? ⟨gT,V2,none⟩=some (I dd):=(hX.cells.1 _ _ ah).trans z;go_simp;exact hK _ _ ⟨I dd,rfl,rfl,Ext.refl _⟩
       refine sC [(17,some 67)] rfl (fun wi hx=> ?_) ?_
       ·intro cx an K hK;obtain rfl:=an;have a8:=aYs (dd-1);go_simp;exact hK _ _ ⟨I (dd-1),rfl,rfl,Ext.refl _⟩
       refine sC [(9,some 59),(18,some 68)] rfl (fun wi hx=> ?_) StepsL.nil
       ·intro v9 h9 cy ao K hK;obtain rfl:=h9;obtain rfl:=ao;have ci:(x !=(dd-1))=false:=by rw[di.out];simp
        go_simp;exact hK _ _ ⟨.bool false,rfl,rfl,Ext.refl _⟩
      case fin=>
       intro wi hx v0 h0 v1 h1 v2 h2 v3 h3 v4 h4 v5 h5 v6 h6 v7 h7 v8 h8 v9 h9 fc cc cr ai ct aj cu ak cv al fd ce cw am cx an cy ao fe cf;subst h0 h1 h2 h3 h4 h5 h6 h7 h8 h9;obtain rfl:=cc;obtain rfl:=ai;obtain rfl:=aj;obtain rfl:=ak;obtain rfl:=al;obtain rfl:=ce;obtain rfl:=am;obtain rfl:=an;obtain rfl:=ao;obtain rfl:=cf;refine wpAny_done (by kernel_rfl) ?_ _;try go_frame
       have hX:Ext wr wi:=hx.of_drew;have g:=(b.adv hX)
       clear b hx hX y z b1 b2 b3 b4 o r;have ab:=g.hi 1;have ad:=g.hi 3;have ae:=g.hi 7;have ed:=ez (f,t) aq.out;have ck:=et.out;rw[aq.out]at ck;have bw:jK aA n (bD D) (c,aP xs) j=(f,t):=(Option.some.inj ck).symm;have dk:=xQ bw;have b0:aF3 aA aB xs D c id (j+1) zs:=by have:=e2.out;rw[←this];exact ed
       have dm:=xQ b0;clear ed b0 ck bw;have i1:=aYp k;have i3:=aYq k KS;have e0:wi.cell? ⟨gs,k*2,none⟩=some (I f):=by have:=(g.ow 2).cellAt (k*2) (by omega);rw[this];exact(kX aq.out).1
       have e1:wi.cell? ⟨gs,k*2+1,none⟩=some (I t):=by have:=(g.ow 2).cellAt (k*2+1) (by omega);rw[this];exact(kX aq.out).2
       go_wp2_with (at_builtin;refine dN uG rfl _ _ rfl (g.adv ((Ext.refl _).alloc (.cells #[f,t] TSL))) 5 rfl rfl (aK ((f:Int),(t:Int))) rfl (fC _ _ _ 1 2 _ (by first|rfl|simp) (by first|rfl|simp) (by simp[maxLen])) (qR _ _) (by omega) ?_;intro q7 c7 w6 M6;(have M7:=xQ (show Mem w w6 [aJ w TI 1 (qz) (n) (cz) (ivs (zs)),aI w (a1) TH3 #[aA,aB,.slice qz n cz],aJ w TSL 2 (some ⟨gs,0,none⟩) (KS) (cs) ((es.map lH).flatMap aK),aI w (a9) TH3 #[aA,aB,.slice q n c9],aJ w TI 1 (q) (n) (c9) (ivs ys),aJ w TSL 2 (q7) (j+1) (c7) ((sD aA n (bD D) (c,aP xs) (j+1)).flatMap aK),aJ w TI 1 (some ⟨gT,0,none⟩) (49152) (cl) (ivs D),aI w w TH3 #[aA,aB,.slice p n u]]from by rw[aDs,aX4,dk.out];exact M6));clear M6 e0 e1 g ab ad ae;(have bl:a1<w6:=(M7.out.hi 1));(have bm:a9<w6:=(M7.out.hi 3));(have bo:(w:Nat)<w6:=(M7.out.hi 7));(have s: ¬(a1=a9):=M7.out.ne (i:=1) (j:=3) (by omega) rfl rfl rfl rfl);(have af: ¬(a9=a1):=fun h=>s h.symm);(obtain⟨x0,x1,x2⟩:=(M7.out.bk 1).tri);(obtain⟨v0,c3,v1,c4,v2,c6⟩:=(M7.out.bk 3).trif));have bf:=(((M7.out.st 3 0 (I aA)).st 3 1 (I aB)).st 3 2 (.slice qz n cz))
       generalize ba:World.setCell _ _ _=wz;rw[ba]at bf;clear ba s af x0 x1 x2 v0 c3 v1 c4 v2 c6 bl bm bo M7;have ev:=xQ (b8 zs qz cz C2 wz (bf.sq 0) Z1 Z5.out);refine ev.out.mono ?_;rintro e ft ⟨rfl,b6⟩;have e3:=(bf.adv b6)
       clear bf b6;have bz:(gP aA n (bD D) (c,aP xs) (j+1)).1=C2:=by have h1:=(cq.out D HD d b7 j hlt).2;rw[h1,dk.out,eo.out,HA.out];rfl
       have ew:=xQ bz;clear bz;go_wp2;go_roundw
       case rel=>exact⟨j+1,zs,qz,cz,q7,c7,by omega,by rw[ew.out],rfl,dm.out,(e3.pick [3,0,5,6,7] (by decide) rfl)⟩
       case measure=>simp[aHy];omega
     have ar: ¬x=dd-1:=fun h=>hkJ (dl.1 (by omega))
     go_wp2;refine rL (gl [gEq (.slice (some ⟨gT,0,none⟩) 49152 cl),gEq (.agg #[aA,aB,.slice qz n cz]),gEq id,gEq (C2:Int),gEq ((C2:Int)*4096:Int),gEq (.agg #[aA,aB,.slice qz n cz]),gEq (S2:Int),gEq (V1:Int),gEq (.pointer (some ⟨gT,V1,none⟩)),gEq x,gEq (.slice (some ⟨gT,0,none⟩) 49152 cl),gEq (a:Int),gEq ((a:Int)*4096:Int),gEq (.agg #[aA,aB,.slice q n c9]),gEq (S1:Int),gEq (V2:Int),gEq (.pointer (some ⟨gT,V2,none⟩)),gEq dd,gEq (dd-1:Int),gEq (.bool true)]) 20 20 [(0,some 50),(1,some 51),(2,some 52),(3,some 53),(4,some 54),(5,some 55),(6,some 56),(7,some 57),(8,some 58),(9,some 59),(10,some 60),(11,some 61),(12,some 62),(13,some 63),(14,some 64),(15,some 65),(16,some 66),(17,some 67),(18,some 68),(19,some 69)] ?steps ?fin
     case steps=>
      refine sS0 [] ?_;refine sC [] rfl (fun wi hx=> ?_) ?_
      ·intro K hK;have hX:=hx.of_drew;have aa:=((b.bk 1).ext hX).cl 0;have y:=((b.bk 1).ext hX).cl 1;have z:=((b.bk 1).ext hX).cl 2;go_simp;exact hK _ _ ⟨.agg #[aA,aB,.slice qz n cz],rfl,rfl,Ext.refl _⟩
      refine sS0 [] ?_;refine sC [(1,some 51),(2,some 52)] rfl (fun wi hx=> ?_) ?_
      ·intro v1 h1 v2 h2 K hK;subst h1 h2;have hX:=hx.of_drew;clear b1 b2 b3 b4 o r;have HH:=xQ (b8 zs qz cz C2 wi ((b.adv hX).sq 0) Z1 Z5.out);go_wp2_with fail;refine HH.out.mono ?_;rintro e w5 ⟨rfl,l⟩;go_simp;exact hK _ _ ⟨I C2,rfl,rfl,l⟩
      refine sC [(3,some 53)] rfl (fun wi hx=> ?_) ?_
      ·intro v3 h3 K hK;obtain rfl:=h3;have a8:=aYs ((C2:Int)*4096);go_simp;exact hK _ _ ⟨I ((C2:Int)*4096),rfl,rfl,Ext.refl _⟩
      refine sC [] rfl (fun wi hx=> ?_) ?_
      ·intro K hK;have hX:=hx.of_drew;have aa:=((b.bk 1).ext hX).cl 0;have y:=((b.bk 1).ext hX).cl 1;have z:=((b.bk 1).ext hX).cl 2;go_simp;exact hK _ _ ⟨.agg #[aA,aB,.slice qz n cz],rfl,rfl,Ext.refl _⟩
      refine sC [(5,some 55)] rfl (fun wi hx=> ?_) ?_
      ·intro v5 h5 K hK;obtain rfl:=h5;have hX:=hx.of_drew;clear b1 b2 b3 b4 o r;have HH:=xQ (bd zs qz cz wi ((b.adv hX).sq 0) Z1.out);rw[Z3.out]at HH;go_wp2_with fail;refine HH.out.mono ?_;rintro e w5 ⟨rfl,l⟩;go_simp;exact hK _ _ ⟨I S2,rfl,rfl,l⟩
      refine sC [(4,some 54),(6,some 56)] rfl (fun wi hx=> ?_) ?_
      ·intro v4 h4 v6 h6 K hK;subst h4 h6;have bi:=dn.out;go_simp;exact hK _ _ ⟨I V1,rfl,rfl,Ext.refl _⟩
      refine sS2 [(0,some 50),(7,some 57)] ?_;refine sC [(8,some 58)] rfl (fun wi hx=> ?_) ?_
      ·intro v8 h8 K hK;obtain rfl:=h8;have hX:=hx.of_drew;have aa:wi.cell? ⟨gT,V1,none⟩=some (I x):=(hX.cells.1 _ _ ah).trans y;go_simp;exact hK _ _ ⟨I x,rfl,rfl,Ext.refl _⟩
      refine sS0 [] (sS0 [] ?_);refine sC [(11,some 61)] rfl (fun wi hx=> ?_) ?_
      ·intro cr ai K hK;obtain rfl:=ai;have a8:=aYs ((a:Int)*4096);go_simp;exact hK _ _ ⟨I ((a:Int)*4096),rfl,rfl,Ext.refl _⟩
      refine sC [] rfl (fun wi hx=> ?_) ?_
      ·intro K hK;have hX:=hx.of_drew;have aa:=((b.bk 3).ext hX).cl 0;have y:=((b.bk 3).ext hX).cl 1;have z:=((b.bk 3).ext hX).cl 2;go_simp;exact hK _ _ ⟨.agg #[aA,aB,.slice q n c9],rfl,rfl,Ext.refl _⟩
      refine sC [(13,some 63)] rfl (fun wi hx=> ?_) ?_
      ·intro cu ak K hK;obtain rfl:=ak;have hX:=hx.of_drew;clear b1 b2 b3 b4 o r;have HH:=xQ (bd ys q c9 wi ((b.adv hX).sq 4) HW.out.ok);rw[←be.out]at HH;go_wp2_with fail;refine HH.out.mono ?_;rintro e w5 ⟨rfl,l⟩;go_simp;exact hK _ _ ⟨I S1,rfl,rfl,l⟩
      refine sC [(12,some 62),(14,some 64)] rfl (fun wi hx=> ?_) ?_
      ·intro ct aj cv al K hK;obtain rfl:=aj;obtain rfl:=al;have bj:=dp.out;go_simp;exact hK _ _ ⟨I V2,rfl,rfl,Ext.refl _⟩
      refine sS2 [(10,some 60),(15,some 65)] ?_;refine sC [(16,some 66)] rfl (fun wi hx=> ?_) ?_
      ·intro cw am K hK;obtain rfl:=am;have hX:=hx.of_drew;have aa:wi.cell? ⟨gT,V2,none⟩=some (I dd):=(hX.cells.1 _ _ ah).trans z;go_simp;exact hK _ _ ⟨I dd,rfl,rfl,Ext.refl _⟩
      refine sC [(17,some 67)] rfl (fun wi hx=> ?_) ?_
      ·intro cx an K hK;obtain rfl:=an;have a8:=aYs (dd-1);go_simp;exact hK _ _ ⟨I (dd-1),rfl,rfl,Ext.refl _⟩
      refine sC [(9,some 59),(18,some 68)] rfl (fun wi hx=> ?_) StepsL.nil
      ·intro v9 h9 cy ao K hK;obtain rfl:=h9;obtain rfl:=ao;have ci:(x !=(dd-1))=true:=by simp[ar]
       go_simp;exact hK _ _ ⟨.bool true,rfl,rfl,Ext.refl _⟩
     case fin=>
      intro wi hx v0 h0 v1 h1 v2 h2 v3 h3 v4 h4 v5 h5 v6 h6 v7 h7 v8 h8 v9 h9 fc cc cr ai ct aj cu ak cv al fd ce cw am cx an cy ao fe cf;subst h0 h1 h2 h3 h4 h5 h6 h7 h8 h9;obtain rfl:=cc;obtain rfl:=ai;obtain rfl:=aj;obtain rfl:=ak;obtain rfl:=al;obtain rfl:=ce;obtain rfl:=am;obtain rfl:=an;obtain rfl:=ao;obtain rfl:=cf;refine wpAny_done (by kernel_rfl) ?_ _;try go_frame
      have hX:Ext wr wi:=hx.of_drew;have g:=(b.adv hX)
      clear b hx hX y z ah b1 b2 b3 b4 o r;have ab:=g.hi 1;have ad:=g.hi 3;have ae:=g.hi 7;obtain⟨f2,t2,ag⟩: ∃f t,es[k+1]? =some (f,t):=⟨_,_,aW0 (by rw[←HK.out];omega)⟩
      have ep:=xQ ag;have i1:(0:Int)≤(k:Int)+1:=by omega
      have i3:(k:Int)+1<(KS:Int):=by omega
      have i4:((k:Int)+1).toNat=k+1:=by omega
      have d0:wi.cell? ⟨gs,(k+1)*2,none⟩=some (I f2):=by have:=(g.ow 2).cellAt ((k+1)*2) (by omega);rw[this];exact(kX ag).1
      have d1:wi.cell? ⟨gs,(k+1)*2+1,none⟩=some (I t2):=by have:=(g.ow 2).cellAt ((k+1)*2+1) (by omega);rw[this];exact(kX ag).2
      have a6:gs<wi:=(g.hi 2)
      clear ag;have az:=xQ (fun w' (hx:Ext wi w')=>eg.out ys q c9 f2 t2 w' ((g.sq 4).ext hx) HW.out.ok bb);obtain⟨v0,v1,v2⟩:=(g.bk 3).tri;have n1: ¬(a9=wi.heap.size):=by have:=(g.hi 3);omega
      have n2: ¬(wi.heap.size=a9):=fun h=>n1 h.symm
      have n3: ¬(gs=wi.heap.size):=by omega
      have n4: ¬(wi.heap.size=gs):=fun h=>n3 h.symm
      go_upto_region 15 with fail;go_cut [14,15] (fun s1 s2 wx=> ∃(a:Nat) (q5:OA) (c5:Nat),s1= .pointer (some ⟨a,0,none⟩)∧Ext wi wx∧wi.heap.size≤a∧Blk wx a TH3 #[aA,aB,.slice q5 n c5]∧wx.ownsRow wi TI 1 (.slice q5 n c5) n (ivs (bQ aA aB ys ((f2:Nat):Int) ((t2:Nat):Int))))
      case first=>
       go_region_held3 (fun w'=>w'.cell? ⟨a9,0,none⟩=some (I aA)∧w'.cell? ⟨a9,1,none⟩=some (I aB)∧w'.cell? ⟨a9,2,none⟩=some (.slice q n c9)∧w'.cell? ⟨gs,(k+1)*2,none⟩=some (I f2)∧w'.cell? ⟨gs,(k+1)*2+1,none⟩=some (I t2))
        (first|(refine⟨?_,?_,?_,?_,?_⟩<;>assumption)|go_keep)
        ((go_at_call 94
          refine(az _ xE).mono ?_;rintro e w5 ⟨q5,c5,rfl,o5,l⟩;have m:Ext wi w5:=xE;have g0:=((g.bk 3).ext m).cl 0;have g1:=((g.bk 3).ext m).cl 1;have g2:=((g.bk 3).ext m).cl 2;have g3:w5.cell? ⟨gs,(k+1)*2,none⟩=some (I f2):=(m.cells.1 _ _ a6).trans d0;have g4:w5.cell? ⟨gs,(k+1)*2+1,none⟩=some (I t2):=(m.cells.1 _ _ a6).trans d1
          first
           |(have ap:Ext (wi.alloc (.cells #[(),(),((),())] TH3)) w5:=l
             have BB:=(Blk.new wi TH3 #[(),(),((),())]).ext ap;have da:=BB.cl 0;have db:=BB.cl 1;have dc:=BB.cl 2;have de:=BB.frozen 0;have df:=BB.frozen 1
             have dg:w5.frozen? ⟨wi,2,none⟩=false:=BB.frozen 2)
           |(have ap:Ext (wi.alloc (.cells #[(),(),((),())] TH3)) w5:=l.of_drew
             have BB:=(Blk.new wi TH3 #[(),(),((),())]).ext ap;have da:=BB.cl 0;have db:=BB.cl 1;have dc:=BB.cl 2;have de:=BB.frozen 0;have df:=BB.frozen 1
             have dg:w5.frozen? ⟨wi,2,none⟩=false:=BB.frozen 2)
           |skip))
       ·go_wp2_with fail;go_meet;exact⟨w5.heap.size,q5,c5,rfl,by exact .alloc m _,by have:=m.sz;omega,Blk.new _ _ _,bF (by exact o5.alloc _) (by simp)⟩
       have hR:ExtR wi w5 _:=(((ExtR.refl wi w5).setCell (p:=⟨wi,0,none⟩) (.inl rfl) (I aA)).setCell (p:=⟨wi,1,none⟩) (.inl rfl) (I aB)).setCell (p:=⟨wi,2,none⟩) (.inl rfl) (.slice q5 n c5);have hY:=((BB.set 0 (I aA)).set 1 (I aB)).set 2 (.slice q5 n c5);simp only[aWg,aWe,aWf]at hY;go_wp2_with fail;go_meet;exact⟨wi.heap.size,q5,c5,rfl,ExtR.new m hR (aVz _),aVz _,hY,bF (o5.kept hR (.inr (eH o5 BB (by decide)))) (by simp)⟩
      case rest=>
       clear v0 v1 v2 n1 n2 n3 n4 d0 d1;obtain⟨fn,q8,c8,rfl,a3,a4,a2,a7⟩:=hcut;have a0:=(g.blkOwn a3 a2 a4 a7 (aVz _) (by decide))
       clear a3 a4 a2 a7 az g ab ad ae;obtain⟨s,af⟩:=a0.nq 1 3;obtain⟨x0,x1,x2⟩:=(a0.bk 1).tri;obtain⟨v0,c3,v1,c4,v2,c6⟩:=(a0.bk 3).trif;go_wp2;have dr:=(((a0.st 3 0 (I aA)).st 3 1 (I aB)).st 3 2 (.slice q8 n c8))
       generalize ba:World.setCell _ _ _=wz;rw[ba]at dr;clear ba s af x0 x1 x2 v0 c3 v1 c4 v2 c6 a0;go_roundw
       case rel=>exact⟨k+1,f2,t2,q8,c8,by omega,by go_num,ep.out,(dr.pick [0,3,4,5,6,7,8,9] (by decide) rfl)⟩
       case measure=>simp[intOf];omega
  obtain rfl:d=j:=by omega
  have d4:a=0:=au.2 rfl;have t0:=aYu ((0:Int)<(a:Int));have hE:=xQ HM.ext;have hO:=xQ (HM.ow 2);subst d4;go_wp2;rw[em.out];exact aYw (v:= .tuple #[.slice q6 d lc,.bool true]) ⟨q6,lc,by rw[sF],by rw[sF];exact hO.out,hE.out⟩
theorem aDq (i:Nat)(xs:List Int)(w:World)(hS:Sl w p n i 1 (ivs xs))(g:aO aA aB xs=true)(l:1≤id)(hc:xs[c]? =some id):
  U 126 #[aH aA aB p n i,id] w (lV (eO aA xs c) w):=by
 have hl:=hS.ilen;subst hl;obtain⟨g1,g2,g3,g4,g5,g6,g7⟩:=cQ (dH g);have h0:id≠0:=by omega
 have k:=nP hc h0;have m:(2:Nat) ^ xs.length≤4096:=aW8 (aWi (by omega) g6) (by decide)
 refine aQn aA aB id p xs.length i c xs w g5 g6 g rfl h0 hc k.car (fun zs hz=> ?_) (fun D hD=>aCq g hc h0 hD) (fun D hD=> ?_) (fun D hD d hd j hj=> ?_) (fun D hD d hd j hj ys hw=>aPs g hc h0 hD hd hj hw) (fun ys hy hyl f t hm=> ?_) (fun ys q c9 f t w' hs hy hyl=> ?_)
  (fun D hD d hd j hj=>⟨trivial,(mZ g5 g6 hD k hd hj).2.2⟩) (fun w' hx=> ?_) (fun w' hx=>aBs aA aB p xs.length i xs w' (hS.ext hx) g) (fun w' hx=> ?_) (fun w' hx=>iY aA aB p xs.length i xs w' (by omega) (hS.ext hx)) (fun zs q c9 C2 w' hs hz hC=> ?_) (fun zs q c9 w' hs hz=>aBs aA aB q xs.length c9 zs w' hs hz)
 ·have:=rJ zs;rw[hz]at this;omega
 ·obtain⟨n1,n2,n3⟩:=zI g hc h0 hD;by_cases hf:bX xs= []
  ·by_cases hc0:c=0
   ·rw[n2 hc0];decide
   have:=n3 hf hc0;omega
  exact(n1 hf).2
 ·obtain⟨a,b⟩:=lP g5 g6 hD k hd j hj;exact⟨a.car,b,aSc g5 g6 hD k hd hj,aVy a.set m⟩
 ·rw[←hyl]at hm;obtain⟨m1,m2,m3,m4⟩:=zG hy hm;exact⟨kS _ _ hy,by rw[dO,hyl],m3,m4⟩
 ·have:=oR aA aB (f:Int) (t:Int) q xs.length c9 ys w' hs hy;unfold dL at this;rw[dO,hyl]at this;exact this
 ·have:=yK aA aB id p xs.length i xs w' (hS.ext hx);rwa[aEu g l hc]at this
 ·refine(aLb aA aB p xs.length i xs w' (hS.ext hx) g).mono fun e w'' h=> ?_
  obtain⟨D,hD,q,c',h1,h2,h3⟩:=h;have hl:=hD.len;rw[hl]at h1 h2;exact⟨D,hD,q,c',h1,h2,h3⟩
 have:=yK aA aB id q xs.length c9 zs w' hs;rwa[aEu hz l hC]at this
theorem aO2 (b:xC 167 #[aH aA aB p n a,id] w fun w' e w''=>e= .returned (I (-1))∧Ext w' w''):
  U 126 #[aH aA aB p n a,id] w (lV none w):=by
 go_enter func126,ntmps126;go_wp2_with fail;refine Ω (b _ (((Mem.start w).c0 TH3 #[aA,aB,.slice p n a]).made0 TSL 2 (w.heap.size+1) (by simp)).ext) fun w1 c=>?_
 have M1:=((((Mem.start w).c0 TH3 #[aA,aB,.slice p n a]).made0 TSL 2 (w.heap.size+1) (by simp)).adv c)
 have HX:=xQ (M1.ext);go_wp2;exact aYw (v:= .tuple #[.slice (some ⟨w.heap.size+1,0,none⟩) 0 0,.bool false]) ⟨_,rfl,HX.out⟩
theorem aB6 (b:Hid (xs.length=n))(HV:xB 30 #[aH aA aB p n a] w true)(HB:xC 126 #[aH aA aB p n a,id] w fun w' e w''=> ∃v,e= .returned (.tuple #[v,.bool false])∧Ext w' w'')(HL:xC 87 #[aH aA aB p n a] w fun w' e w''=> ∃q c,e= .returned (aH aA aB q n c)∧w''.ownsRow w' TI 1 (.slice q n c) n (ivs xs)∧Ext w' w''):
  U 91 #[aH aA aB p n a,id] w (dK aA aB xs (-1) w):=by
 go_enter func91,ntmps91;go_wp2_with fail;refine Ω (HV _ (Mem.b2 w).ext) fun w1 g=>?_
 have M1:=((Mem.b2 w).adv g)
 obtain⟨c0,c1,c2⟩:=(M1.bk 1).tri;go_wp2_with fail;refine(HB _ M1.ext).mono ?_;rintro e w2 ⟨v,rfl,h⟩;have M2:=(M1.adv h)
 obtain⟨c0,c1,c2⟩:=(M2.bk 1).tri;go_wp2_with fail;refine(HL _ M2.ext).mono ?_;rintro e w3 ⟨q0,c0,rfl,d,i⟩;have M3:=(M2.call i d)
 have z_:=(M3.bk 1).trif;go_wp2;have M4:=(((M3.st 1 0 (I aA)).st 1 1 (I aB)).st 1 2 (.slice q0 n c0))
 generalize f:World.setCell _ _ _=wz;rw[f]at M4;have j:=(M4.bk 1).tri;exact aYw (v:= .tuple #[.agg #[aA,aB,.slice q0 n c0],(-1:Int)]) (fY b.out (M4.ow 0) M4.ext)
theorem aHu (K:Nat)(ys:List Int)(sl:List Sl2)(w:World)(b:Hid (ys.length=n))(HV:xB 30 #[aH aA aB p n a] w true)(HB:xC 126 #[aH aA aB p n a,id] w fun w' e w''=> ∃q c,e= .returned (.tuple #[.slice q K c,.bool true])∧w''.ownsRow w' TSL 2 (.slice q K c) K (sl.flatMap aK)∧Ext w' w'')(HR:Hid (∀w' q c,Ext w w'→Sl w' q K c 2 (sl.flatMap aK)→U 123 #[aH aA aB p n a,.slice q K c] w' (aYy TI 1 n (ivs ys) w' fun q c=> .tuple #[aH aA aB q n c,K])))(HT:Hid (∀w' q c,Ext w w'→Sl w' q n c 1 (ivs ys)→U 127 #[aH aA aB q n c,()] w' fun e w''=> ∃q c i,e= .returned (.tuple #[aH aA aB q n c,i])∧w''.ownsRow w' TI 1 (.slice q n c) n (ivs (ys.set 0 0))∧Ext w' w'')):
  U 91 #[aH aA aB p n a,id] w (dK aA aB (ys.set 0 0) (K:Int) w):=by
 go_enter func91,ntmps91;go_wp2_with fail;refine Ω (HV _ (Mem.b2 w).ext) fun w1 j=>?_
 have M1:=((Mem.b2 w).adv j)
 obtain⟨c0,c1,c2⟩:=(M1.bk 1).tri;go_wp2_with fail;refine(HB _ M1.ext).mono ?_;rintro e w2 ⟨qs,cs,rfl,d,k⟩;have M2:=(M1.call k d)
 obtain⟨c0,c1,c2⟩:=(M2.bk 2).tri;go_wp2_with fail;refine(HR _ qs cs M2.ext (M2.sq 0)).mono ?_;rintro e w3 ⟨q1,c1,rfl,f,l⟩;have M3:=(M2.call l f)
 go_wp2_with fail;refine(HT _ q1 c1 (M3.c0 TH3 #[aA,aB,.slice q1 n c1]).ext ((M3.c0 TH3 #[aA,aB,.slice q1 n c1]).sq 1)).mono ?_;rintro e w4 ⟨q2,c2,i2,rfl,g,m⟩;have M4:=((M3.c0 TH3 #[aA,aB,.slice q1 n c1]).call m g)
 have o:=M4.hi 4;have z_:=(M4.bk 4).trif;go_wp2;have M5:=((((M4.st 4 0 (I aA)).st 4 1 (I aB)).st 4 2 (.slice q2 n c2)).bn TH3 #[aA,aB,.slice q2 n c2] w4)
 generalize h:World.alloc _ _=wz;rw[h]at M5;have r:=(M5.bk 5).tri;exact aYw (v:= .tuple #[.agg #[aA,aB,.slice q2 n c2],K]) (fY (by rw[aXf];exact b.out) (M5.ow 1) M5.ext)
def cN (aA aB:Int)(xs:List Int)(id:Int):List Int×Int:=
 match pC aA aB xs id with
 |none=>(xs,-1)
 |some r=>(r.1,(r.2:Int))
theorem aN0 {aA aB:Int}{xs:List Int}{id:Int}(h:id<1∨id∉xs):kP aA aB xs id= -1:=by
 unfold kP;by_cases h1:aO aA aB xs=true∧1≤id
 ·rw[if_pos h1];rcases h with h|h
  ·omega
  exact zA h
 rw[if_neg h1]
theorem aC6 {xs:List Int}{id:Int}(h:id∈xs): ∃c:Nat,xs[c]? =some id∧uS xs id=(c:Int):=by
 induction xs with
 |nil=>cases h
 |cons x xs ih=>
  by_cases hx:x=id
  ·subst hx;exact⟨0,rfl,xL (k:=0) rfl (by simp)⟩
  have hm:id∈xs:=by
   rcases aWd.1 h with e|e
   ·exact absurd e.symm hx
   exact e
  obtain⟨c,h1,_⟩:=ih hm;obtain⟨k,d,f⟩: ∃k,(x::xs)[k]? =some id∧id∉(x::xs).take k:=by
   suffices hs: ∀(l:List Int),id∈l→ ∃k,l[k]? =some id∧id∉l.take k from hs _ h
   intro l;induction l with
   |nil=>intro h;cases h
   |cons y l ihl=>
    intro hy;by_cases e:y=id
    ·exact⟨0,by simp[e],by simp⟩
    ·obtain⟨k,a,b⟩:=ihl (by
      rcases aWd.1 hy with e2|e2
      ·exact absurd e2.symm e
      ·exact e2)
     exact⟨k+1,by simpa using a,by simp[b,Ne.symm e]⟩
  exact⟨k,d,xL d f⟩
theorem aJe (hS:Sl w p n a 1 (ivs xs))(b:aO aA aB xs=true):
  U 91 #[aH aA aB p n a,id] w (dK aA aB (cN aA aB xs id).1 (cN aA aB xs id).2 w):=by
 have hl:=hS.ilen;subst hl;obtain⟨g1,g2,g3,g4,g5,g6,g7⟩:=cQ (dH b);have HV: ∀w',Ext w w'→U 30 #[aH aA aB p xs.length a] w' (Z (.bool true) w'):=fun w' hy=>by have:=iJ aA aB p xs.length a xs w' (hS.ext hy);rwa[b]at this
 have HL:=fun(w':World) (hy:Ext w w')=>iY aA aB p xs.length a xs w' (by omega) (hS.ext hy)
 by_cases hno:id<1∨id∉xs
 ·have e:cN aA aB xs id=(xs,-1):=by unfold cN pC;rw[if_pos hno]
  rw[e];refine aB6 aA aB id p xs.length a xs w rfl HV (fun w' hy=> ?_) HL;refine aO2 aA aB id p xs.length a w' (fun w2 hy2=> ?_);have:=yK aA aB id p xs.length a xs w2 (hS.ext (hy.trans hy2));rwa[aN0 hno]at this
 have f:1≤id:=by omega
 have hm:id∈xs:=by
  by_cases hm:id∈xs
  ·exact hm
  exact absurd (.inr hm) hno
 obtain⟨c,hc,g⟩:=aC6 hm;have HB:=fun(w':World) (hy:Ext w w')=>aDq aA aB id p xs.length a xs w' (hS.ext hy) b f hc
 have d:(uS xs id).toNat=c:=by rw[g];simp
 cases hb:eO aA xs c with
 |none=>
  have e:cN aA aB xs id=(xs,-1):=by unfold cN pC;rw[if_neg hno,d,hb];rfl
  rw[e];rw[hb]at HB;exact aB6 aA aB id p xs.length a xs w rfl HV HB HL
 |some l=>
  obtain⟨b1,ys,b2,b3,b4,b5⟩:=(tJ b hc (by omega)).2 l hb;have e:cN aA aB xs id=(ys.set 0 0,(l.length:Int)):=by unfold cN pC;rw[if_neg hno,d,hb];simp[b2]
  rw[e];rw[hb]at HB;refine aHu aA aB id p xs.length a l.length ys l w b4 HV HB (fun w' q c' hy hL=> ?_) (fun w' q c' hy hL=> ?_)
  ·have:=wQ aA aB p xs.length a xs q l.length c' l w' b1 (hS.ext hy) hL b;rw[b2]at this;unfold dK at this;dsimp only at this;rw[b4]at this;exact this
  have:=aGu aA aB q xs.length c' ys w' hL b3;unfold dK at this;rw[aXf,b4]at this;refine this.mono fun e w'' h=> ?_
  obtain⟨q2,c2,h1,h2,h3⟩:=h;exact⟨q2,c2,_,h1,h2,h3⟩
section
section
variable {P:Program} {l:List Oper} {Q:Exit→Act→World→Prop} {md:Region.Mode} {S:World→Prop}
theorem aUm {i:Nat}{oi:Oper}{v:Value}{d:Nat}{b:Array Bool}{a:Act}{w:World}(hi:l[i]? =some oi)
  (hs:Region.noSelect l.toArray=true) (hf:Region.free md l.toArray b i=true) (hr:(Region.ready md l.toArray b).contains i=true)
  (hQ: ∀c a w,Q (.panic c) (a.put oi.dst v) w→Q (.panic c) a w) (hw:Region.wanted oi (yielded l.toArray a.tmps)=true) (hy: ∀w,S w→(execOp a.eval oi).run P w= .ok (.value v) w) (hS:S w)
  (h:wpAnyH P md l.toArray Q S d (b.setIfInBounds i true) (a.put oi.dst v) w):wpAnyH P md l.toArray Q S (d+1) b a w:=
 wpAnyH_take (by simpa using hi) hs hf hr hQ (.inl ⟨hw,hy⟩) hS h
theorem aUs {i:Nat}{oi:Oper}{d:Nat}{b:Array Bool}{a:Act}{w:World}(hi:l[i]? =some oi)
  (hs:Region.noSelect l.toArray=true) (hf:Region.free md l.toArray b i=true) (hr:(Region.ready md l.toArray b).contains i=true)
  (hQ: ∀c a w,Q (.panic c) (a.put oi.dst undef) w→Q (.panic c) a w) (hw:Region.wanted oi (yielded l.toArray a.tmps)=false) (hS:S w)
  (h:wpAnyH P md l.toArray Q S d (b.setIfInBounds i true) (a.put oi.dst undef) w):wpAnyH P md l.toArray Q S (d+1) b a w:=
 wpAnyH_take (by simpa using hi) hs hf hr hQ (.inr ⟨hw,rfl⟩) hS h
theorem eU (i:Nat){oi:Oper}{v:Value}{d:Nat}{b:Array Bool}{a:Act}{w:World}(hy: ∀w,S w→(execOp a.eval oi).run P w= .ok (.value v) w)
  (h:wpAnyH P md l.toArray Q S d (b.setIfInBounds i true) (a.put oi.dst v) w)(hi:l[i]? =some oi:=by exact rfl) (hs:Region.noSelect l.toArray=true:=by kernel_rfl) (hf:Region.free md l.toArray b i=true:=by kernel_rfl) (hr:(Region.ready md l.toArray b).contains i=true:=by kernel_rfl)
  (hQ: ∀c a w,Q (.panic c) (a.put oi.dst v) w→Q (.panic c) a w:=by exact fun _ _ _ h=>h) (hw:Region.wanted oi (yielded l.toArray a.tmps)=true:=by rfl) (hS:S w:=by assumption):wpAnyH P md l.toArray Q S (d+1) b a w:=aUm hi hs hf hr hQ hw hy hS h
theorem nD (i:Nat){oi:Oper}{d:Nat}{b:Array Bool}{a:Act}{w:World}(h:wpAnyH P md l.toArray Q S d (b.setIfInBounds i true) (a.put oi.dst undef) w)(hi:l[i]? =some oi:=by exact rfl)
  (hs:Region.noSelect l.toArray=true:=by kernel_rfl) (hf:Region.free md l.toArray b i=true:=by kernel_rfl) (hr:(Region.ready md l.toArray b).contains i=true:=by kernel_rfl)
  (hQ: ∀c a w,Q (.panic c) (a.put oi.dst undef) w→Q (.panic c) a w:=by exact fun _ _ _ h=>h) (hw:Region.wanted oi (yielded l.toArray a.tmps)=false:=by rfl) (hS:S w:=by assumption):wpAnyH P md l.toArray Q S (d+1) b a w:=aUs hi hs hf hr hQ hw hS h
theorem aSx {c:Nat}{b:Array Bool}{a:Act}{w:World}{i:Nat}{o:Oper}(ho:l[i]? =some o)
  (h: ∀K':Act→World→Prop,Shut (∀a w,S w→(S w→wpAnyH P md l.toArray Q S c (b.setIfInBounds i true) a w)→K' a w)→if Region.wanted o (yielded l.toArray a.tmps)=true then Oper.wp P o a w K' Q else K' (a.put o.dst undef) w):
  AllReadyH P md l.toArray Q S c b a w [i]:=AllReadyH.cons (by simpa using ho) h AllReadyH.nil
end
end
abbrev bV (h:aQ)(p:OA)(n cap:Nat)(q:OA)(m c2:Nat):Value:=
 .agg #[h.aA,h.aB,.slice p n cap,h.free,h.step,h.aE,h.aF,h.aD,h.aG,.slice q m c2]
structure IsHouse (w:World) (h:aQ) (p:OA) (n cap:Nat) (q:OA) (m c2:Nat):Prop where
 cells:Sl w p n cap 1 (ivs h.cells)
 vs:Sl w q m c2 4 (h.vs.flatMap aC)
theorem IsHouse.ext {w:World}{h:aQ}{p q:OA}{n a m c2:Nat}(i:IsHouse w h p n a q m c2)(hx:Ext w w'):IsHouse w' h p n a q m c2:=⟨i.cells.ext hx,i.vs.ext hx⟩
theorem IsHouse.vlen {w:World}{h:aQ}{p q:OA}{n a m c2:Nat}(i:IsHouse w h p n a q m c2):h.vs.length=m:=by have:=i.vs.len;rw[eC aC 4 (fun _=>rfl)]at this;omega
theorem IsHouse.clen {w:World}{h:aQ}{p q:OA}{n a m c2:Nat}(i:IsHouse w h p n a q m c2):h.cells.length=n:=i.cells.ilen
theorem iI {w:World}{q:OA}{m c2:Nat}{vs:List aV}(h:Sl w q m c2 4 (vs.flatMap aC))(hk:k<m):
  ∃b off a0 a1 a2 a3,q=some ⟨b,off,none⟩∧vs[k]? =some (a0,a1,a2,a3)∧b<w.heap.size∧w.cell? ⟨b,off+k*4,none⟩=some (I a0)∧w.cell? ⟨b,off+k*4+1,none⟩=some (I a1)∧w.cell? ⟨b,off+k*4+2,none⟩=some (I a2)∧w.cell? ⟨b,off+k*4+3,none⟩=some (I a3):=by
 obtain⟨b,off,x,hp,hx,hb,hc⟩:=Sl.at_ (sz:=4) (f:=aC) (fun _=>rfl) h hk (by omega);obtain⟨a0,a1,a2,a3⟩:=x;exact⟨b,off,a0,a1,a2,a3,hp,hx,hb,hc 0 (by omega),hc 1 (by omega),hc 2 (by omega),hc 3 (by omega)⟩
def OwnZ (w:World)(p:OA)(n c:Nat)(xs:List Int):Prop:=Sl w p n c 1 (ivs xs)
theorem OwnZ.ext {w:World}{p:OA}{n:Nat}{xs:List Int}(h:OwnZ w p n c xs)(hx:Ext w w'):Sl w' p n c 1 (ivs xs):=Sl.ext h hx
theorem aUh {w:World}{B n:Nat}{p:OA}{xs:List Int}(h:w.ownsRow B TI 1 (.slice p n c) n (ivs xs)):OwnZ w p n c xs:=Sl.own h
theorem aS0 (hm:m≤9223372036854775807)(HV:xB 34 #[aH aA aB p n x] w b1)(TV:Hid (∀w',U 35 #[aR t u aE aF] w' (Z (.bool b2) w')))(HC:Hid (∀w',Ext w w'→U 36 #[aH aA aB p n x] w' (cC Cs w')))(au:Hid (b1=true→Cs.length≤100))(ae:Hid (Sl w q m c2 4 (vs.flatMap aC)))(HR:Hid (R=(b1&&b2&&decide (0≤aD∧aD≤9999∧0≤aG∧aG≤99999)&&cM aD Cs vs))):
  U 12 #[.agg #[aA,aB,.slice p n x,t,u,aE,aF,aD,aG,.slice q m c2]] w (Z (.bool R) w):=by
 have al:vs.length=m:=by have:=ae.out.len;rw[eC aC 4 (fun _=>rfl)]at this;omega
 have ad:=xQ al;clear al;go_enter func12,ntmps12;go_wp2_with fail;refine Ω (HV _ (Mem.b1 w).ext) fun w1 am=>?_
 have M1:=((Mem.b1 w).adv am)
 clear am;cases b1 with
 |false=>
  have hR:Hid (R=false):=by show _=_;rw[HR.out];rfl
  have e_:=(M1.bk 0).ten;go_wp2;go_ret;exact⟨aT hR.out.symm,M1.ext⟩
 |true=>
  have e_:=(M1.bk 0).ten;go_wp2_with fail;clear e_;refine Ω (TV _) fun w2 an=>?_
  have M2:=(M1.adv an)
  clear M1 an;cases b2 with
  |false=>
   have hR:Hid (R=false):=by show _=_;rw[HR.out];rfl
   have e_:=(M2.bk 0).ten;go_wp2;go_ret;exact⟨aT hR.out.symm,M2.ext⟩
  |true=>
   by_cases h3:0≤aD∧aD≤9999∧0≤aG∧aG≤99999
   ·skip;obtain⟨h0,h1,h2,h3⟩:=h3;have e_:=(M2.bk 0).ten;go_wp2_with fail;clear e_;refine(HC _ M2.ext).mono ?_;rintro e w3 ⟨cp,cc,rfl,ak,ao⟩;have M3:=(M2.call ao ak)
    clear M2 ao ak;by_cases hL2:Cs.length=m
    ·skip;have av:R=cM aD Cs vs:=by rw[HR.out];simp[h0,h1,h2,h3]
     subst av;have hL:((Cs.length:Int)!=(m:Int))=false:=by simp[hL2]
     have bc:m≤100:=by have:=au.out (by trivial);omega
     have z:=xQ hL2;clear hL2;have aw:OwnZ w3 cp Cs.length cc Cs:=aUh (M3.ow 0);have ay:Ext w w3:=M3.ext;have y:(w:Nat)<w3:=(M3.hi 1)
     obtain⟨az,a4,a5,a6,a7,a8,a9,af,ba,ag⟩:=(M3.bk 1).ten;go_wp2;clear hL;go_loopw [48] (fun i wr=> ∃k:Nat,k≤m∧i=I k∧cM aD Cs vs=cM aD (Cs.drop k) (vs.drop k)∧Ext w3 wr) (fun i _=>m-(intOf i).toNat)
     case atStart=>exact⟨0,aW6 _,rfl,rfl,Ext.refl _⟩
     case round=>
      obtain⟨k,hk,rfl,r,hE⟩:=hrel;have aj:wr.cell? ⟨w,7,none⟩=some (I aD):=(hE.cells.1 _ _ y).trans af;have bb:wr.cell? ⟨w,9,none⟩=some (.slice q m c2):=(hE.cells.1 _ _ y).trans ag;have s:(w:Nat)<wr:=aVy y hE.sz;have aa:=z.out;by_cases hlt:k<m
      ·obtain⟨b,bd,a0,a1,a2,a3,rfl,hv,hb,g0,g1,g2,g3⟩:=iI (ae.out.ext (ay.trans hE)) hlt;obtain⟨cb,d,c,rfl,hc,o,gc⟩:=(aw.ext hE).int_at (show k<Cs.length by omega);have f:=xQ (r.trans (zQ hc hv));have i1:=aYp k;have i2:=aYq k m;have i3:(k:Int)<(Cs.length:Int):=by omega
       clear r hc hv aa;have l:Hid (∀w',U 37 #[cK a1 a2 a3] w' (Z (.bool (dV a1 a2 a3)) w')):=fun w'=>aRr a1 a2 a3 w'
       go_wp2_with fail;by_cases t0:a0=c
       ·have q0:(a0 !=c)=false:=by simp[t0]
        have T0:=xQ t0;clear t0;cases hst:dV a1 a2 a3 with
        |true=>
         rw[hst]at l;have ab:=xQ hst;clear hst;by_cases t1:aD<a3
         ·have g:Hid (cM aD Cs vs=false):=by show _=_;rw[f.out];simp[iH,ab.out];omega
          go_region_held3 (fun w'=>w'.cell? ⟨wr,0,none⟩=some (I a0)∧w'.cell? ⟨wr,1,none⟩=some (I a1)∧w'.cell? ⟨wr,2,none⟩=some (I a2)∧w'.cell? ⟨wr,3,none⟩=some (I a3)∧w'.cell? ⟨cb,d+k,none⟩=some (I c)∧w'.cell? ⟨w,7,none⟩=some (I aD)) (go_keep) ((go_at_call 37;refine Ω (l.out _) fun w9 h9=>?_;(try replace h9:=h9.of_drew);have x9:Ext wr w9:=(by first|exact((Ext.refl wr).alloc _).trans h9|exact(((Ext.refl wr).alloc _).drew).trans h9);have ah:=(x9.cells.1 cb (d+k) o).trans gc;have ar:=(x9.cells.1 w 7 s).trans aj;have ai:=h9.cells.1;have j:(wr:Nat)<w9:=aVy (by simp) h9.sz;have ap:(w:Nat)<w9:=aXv s j;have aq:cb<w9:=aXv o j));all_goals go_wp2
          all_goals go_ret
          all_goals exact⟨aT g.out.symm,xE⟩
         have g:Hid (cM aD Cs vs=cM aD (Cs.drop (k+1)) (vs.drop (k+1))):=by show _=_;rw[f.out];simp[iH,ab.out,T0.out];intro h;omega
         go_region_held3 (fun w'=>w'.cell? ⟨wr,0,none⟩=some (I a0)∧w'.cell? ⟨wr,1,none⟩=some (I a1)∧w'.cell? ⟨wr,2,none⟩=some (I a2)∧w'.cell? ⟨wr,3,none⟩=some (I a3)∧w'.cell? ⟨cb,d+k,none⟩=some (I c)∧w'.cell? ⟨w,7,none⟩=some (I aD)) (go_keep) ((go_at_call 37;refine Ω (l.out _) fun w9 h9=>?_;(try replace h9:=h9.of_drew);have x9:Ext wr w9:=(by first|exact((Ext.refl wr).alloc _).trans h9|exact(((Ext.refl wr).alloc _).drew).trans h9);have ah:=(x9.cells.1 cb (d+k) o).trans gc;have ar:=(x9.cells.1 w 7 s).trans aj;have ai:=h9.cells.1;have j:(wr:Nat)<w9:=aVy (by simp) h9.sz;have ap:(w:Nat)<w9:=aXv s j;have aq:cb<w9:=aXv o j));all_goals go_wp2
         all_goals go_roundw
         all_goals first
          |(case rel=>first|exact⟨k+1,by omega,by go_num,g.out,xE⟩|((repeat apply Exists.intro);exact⟨⟨k+1,by omega,by go_num,g.out,xE⟩,rfl⟩))
          |(case measure=>simp[intOf];omega)
        |false=>
         rw[hst]at l;have g:Hid (cM aD Cs vs=false):=by show _=_;rw[f.out];simp[iH,hst]
         clear hst;refine wp_region_held_drew (S:=fun w'=>w'.cell? ⟨wr,0,none⟩=some (I a0)∧w'.cell? ⟨wr,1,none⟩=some (I a1)∧w'.cell? ⟨wr,2,none⟩=some (I a2)∧w'.cell? ⟨wr,3,none⟩=some (I a3)∧w'.cell? ⟨cb,d+k,none⟩=some (I c)) (by kernel_rfl) (by go_keep) (fun hHeld=> ?_);refine eU 0 (v:= ?_) ?_ ?_
         rotate_left
         ·(intro w a;(try dsimp only at a);go_simp;(try with_reducible rfl))
         (try go_frame);refine eU 1 (v:= ?_) ?_ ?_
         rotate_left
         ·(intro w a;(try dsimp only at a);go_simp;(try with_reducible rfl))
         (try go_frame);refine eU 2 (v:= ?_) ?_ ?_
         rotate_left
         ·(intro w a;(try dsimp only at a);go_simp;(try with_reducible rfl))
         (try go_frame);refine eU 3 (v:= ?_) ?_ ?_
         rotate_left
         ·(intro w a;(try dsimp only at a);go_simp;(try with_reducible rfl))
         (try go_frame);refine eU 4 (v:= ?_) ?_ ?_
         rotate_left
         ·(intro w a;(try dsimp only at a);go_simp;(try with_reducible rfl))
         (try go_frame);refine eU 5 (v:= ?_) ?_ ?_
         rotate_left
         ·(intro w a;(try dsimp only at a);go_simp;(try with_reducible rfl))
         (try go_frame);refine eU 6 (v:= ?_) ?_ ?_
         rotate_left
         ·(intro w a;(try dsimp only at a);go_simp;(try with_reducible rfl))
         (try go_frame);refine eU 7 (v:= ?_) ?_ ?_
         rotate_left
         ·(intro w a;(try dsimp only at a);go_simp;(try with_reducible rfl))
         (try go_frame);refine eU 8 (v:= ?_) ?_ ?_
         rotate_left
         ·(intro w a;(try dsimp only at a);go_simp;(try with_reducible rfl))
         (try go_frame);refine eU 9 (v:= ?_) ?_ ?_
         rotate_left
         ·(intro w a;(try dsimp only at a);go_simp;(try with_reducible rfl))
         (try go_frame);refine wpAnyH_ready (rs:= [10]) (by kernel_rfl) (by simp) ?_;refine aSx rfl (fun K hK=> ?_);go_simp;go_at_call 37;refine Ω (l.out _) fun w9 h9=>?_
         (try replace h9:=h9.of_drew);have x9:Ext wr w9:=(by first|exact((Ext.refl wr).alloc _).trans h9|exact(((Ext.refl wr).alloc _).drew).trans h9)
         have ah:=(x9.cells.1 cb (d+k) o).trans gc;have ai:=h9.cells.1;have j:(wr:Nat)<w9:=aVy (by simp) h9.sz;go_wp2_with fail;refine hK.out _ _ (by(try dsimp only);go_keep) (fun hHeld=> ?_);clear hK K;(try go_frame);refine eU 11 (v:= ?_) ?_ ?_
         rotate_left
         ·(intro w a;(try dsimp only at a);go_simp;(try with_reducible rfl))
         (try go_frame);refine eU 12 (v:= ?_) ?_ ?_
         rotate_left
         ·(intro w a;(try dsimp only at a);go_simp;(try with_reducible rfl))
         (try go_frame);refine eU 13 (v:= ?_) ?_ ?_
         rotate_left
         ·(intro w a;(try dsimp only at a);go_simp;(try with_reducible rfl))
         (try go_frame);refine nD 14 ?_;(try go_frame);refine nD 15 ?_;(try go_frame);refine nD 16 ?_;(try go_frame);refine nD 17 ?_;(try go_frame);refine nD 18 ?_;(try go_frame);refine nD 19 ?_;(try go_frame);refine eU 20 (v:= ?_) ?_ ?_
         rotate_left
         ·(intro w a;(try dsimp only at a);go_simp;(try with_reducible rfl))
         (try go_frame);refine wpAnyH_done (by kernel_rfl) ?_ _;all_goals go_wp2
         all_goals go_ret
         all_goals exact⟨aT g.out.symm,xE⟩
       have q0:(a0 !=c)=true:=by simp[t0]
       have g:Hid (cM aD Cs vs=false):=by show _=_;rw[f.out];simp[t0]
       clear t0;go_quiet (fail);all_goals go_wp2
       all_goals go_ret
       all_goals exact⟨aT g.out.symm,xE⟩
      have f:Hid (cM aD Cs vs=true):=by show _=_;rw[r,aXd (by rw[z.out];omega),aXd (by rw[ad.out];omega)];rfl
      clear r;go_wp2;go_ret;exact⟨aT f.out.symm,xE⟩
    skip;have hL:((Cs.length:Int)!=(m:Int))=true:=by simp;omega
    have hR:Hid (R=false):=by show _=_;rw[HR.out,zP (by rw[ad.out];exact hL2)];simp
    have e_:=(M3.bk 1).ten;go_wp2;go_ret;exact⟨aT hR.out.symm,M3.ext⟩
   skip;have hR:Hid (R=false):=by show _=_;rw[HR.out];simp[h3]
   have h:aD<0∨0≤aD∧9999<aD∨0≤aD∧aD≤9999∧aG<0∨0≤aD∧aD≤9999∧0≤aG∧99999<aG:=by omega
   clear h3;have e_:=(M2.bk 0).ten;rcases h with h|⟨h0,h⟩|⟨h0,h1,h⟩|⟨h0,h1,h2,h⟩
   all_goals
    (try (have ax:decide (aD≤9999)=false:=by simp;omega));(try (have ax:decide (aG≤99999)=false:=by simp;omega));go_wp2;go_ret;exact⟨aT hR.out.symm,M2.ext⟩
theorem lB (hi:IsHouse w h p n b q m c2):
  U 12 #[bV h p n b q m c2] w (Z (.bool (bC h)) w):=by
 obtain⟨aA,aB,a,c,d,aE,aF,aD,aG,vs⟩:=h;refine aS0 aA aB c d aE aF aD aG p n b q m c2 (if aO aA aB a then jC a else []) vs _ _ _ w hi.vs.bd (fun w' hx=>iK aA aB p n b a w' (hi.cells.ext hx)) (fun w'=>aG7 c d aE aF w') (fun w' hx=>aV6 aA aB p n b a w' (hi.cells.ext hx)) (xQ fun h1=> ?_) hi.vs (xQ ?_)
 ·rw[if_pos h1];have e1:=rP a;have e2:=tV a;have e3:a.length≤12:=by simp only[aO,aWc]at h1;exact(cQ h1.1).2.2.2.2.2.1
  omega
 show bC _=_;unfold bC yX;dsimp only;cases aO aA aB a<;>simp
theorem aQe (hm:m≤9223372036854775807)(HV:xB 30 #[aH aA aB p n x] w b1)(TV:Hid (∀w',U 31 #[aR t u aE aF] w' (Z (.bool b2) w')))(HC:Hid (∀w',Ext w w'→U 29 #[aH aA aB p n x] w' (cC Cs w')))(au:Hid (b1=true→Cs.length≤100))(ae:Hid (Sl w q m c2 4 (vs.flatMap aC)))(HR:Hid (R=(b1&&b2&&decide (0≤aD∧aD≤9999∧0≤aG∧aG≤99999)&&cM aD Cs vs))):
  U 11 #[.agg #[aA,aB,.slice p n x,t,u,aE,aF,aD,aG,.slice q m c2]] w (Z (.bool R) w):=by
 have al:vs.length=m:=by have:=ae.out.len;rw[eC aC 4 (fun _=>rfl)]at this;omega
 have ad:=xQ al;clear al;go_enter func11,ntmps11;go_wp2_with fail;refine(HC _ (Mem.b1 w).ext).mono ?_;rintro e w1 ⟨cp,cc,rfl,ak,am⟩;have M1:=((Mem.b1 w).call am ak)
 clear am ak;have e_:=(M1.bk 1).ten;go_wp2_with fail;clear e_;refine Ω (HV _ M1.ext) fun w2 an=>?_
 have M2:=(M1.adv an)
 clear M1 an;cases b1 with
 |false=>
  have hR:Hid (R=false):=by show _=_;rw[HR.out];rfl
  have e_:=(M2.bk 1).ten;go_wp2_with go_in;go_ret;exact⟨aT hR.out.symm,M2.ext⟩
 |true=>
  have e_:=(M2.bk 1).ten;go_wp2_with fail;clear e_;refine Ω (TV _) fun w3 ao=>?_
  have M3:=(M2.adv ao)
  clear M2 ao;cases b2 with
  |false=>
   have hR:Hid (R=false):=by show _=_;rw[HR.out];rfl
   have e_:=(M3.bk 1).ten;go_wp2_with go_in;go_ret;exact⟨aT hR.out.symm,M3.ext⟩
  |true=>
   by_cases h3:0≤aD∧aD≤9999∧0≤aG∧aG≤99999
   ·skip;obtain⟨h0,h1,h2,h3⟩:=h3;by_cases hL2:Cs.length=m
    ·skip;have av:R=cM aD Cs vs:=by rw[HR.out];simp[h0,h1,h2,h3]
     subst av;have hL:((Cs.length:Int)!=(m:Int))=false:=by simp[hL2]
     have bc:m≤100:=by have:=au.out (by trivial);omega
     have z:=xQ hL2;clear hL2;have aw:OwnZ w3 cp Cs.length cc Cs:=aUh (M3.ow 0);have ay:Ext w w3:=M3.ext;have y:(w:Nat)<w3:=(M3.hi 1)
     obtain⟨az,a4,a5,a6,a7,a8,a9,af,ba,ag⟩:=(M3.bk 1).ten;go_wp2_with go_in;clear hL;go_loopw [4] (fun i wr=> ∃k:Nat,k≤m∧i=I k∧cM aD Cs vs=cM aD (Cs.drop k) (vs.drop k)∧Ext w3 wr) (fun i _=>m-(intOf i).toNat)
     case atStart=>exact⟨0,aW6 _,rfl,rfl,Ext.refl _⟩
     case round=>
      obtain⟨k,hk,rfl,r,hE⟩:=hrel;have aj:wr.cell? ⟨w,7,none⟩=some (I aD):=(hE.cells.1 _ _ y).trans af;have bb:wr.cell? ⟨w,9,none⟩=some (.slice q m c2):=(hE.cells.1 _ _ y).trans ag;have s:(w:Nat)<wr:=aVy y hE.sz;have aa:=z.out;by_cases hlt:k<m
      ·obtain⟨b,bd,a0,a1,a2,a3,rfl,hv,hb,g0,g1,g2,g3⟩:=iI (ae.out.ext (ay.trans hE)) hlt;obtain⟨cb,d,c,rfl,hc,o,gc⟩:=(aw.ext hE).int_at (show k<Cs.length by omega);have f:=xQ (r.trans (zQ hc hv));have i1:=aYp k;have i2:=aYq k m;have i3:(k:Int)<(Cs.length:Int):=by omega
       clear r hc hv aa;have l:Hid (∀w',U 33 #[cK a1 a2 a3] w' (Z (.bool (dV a1 a2 a3)) w')):=fun w'=>aQ1 a1 a2 a3 w'
       go_wp2_with fail;by_cases t0:a0=c
       ·have q0:(a0 !=c)=false:=by simp[t0]
        have T0:=xQ t0;clear t0;cases hst:dV a1 a2 a3 with
        |true=>
         rw[hst]at l;have ab:=xQ hst;clear hst;by_cases t1:aD<a3
         ·have g:Hid (cM aD Cs vs=false):=by show _=_;rw[f.out];simp[iH,ab.out];omega
          go_region_held3 (fun w'=>w'.cell? ⟨wr,0,none⟩=some (I a0)∧w'.cell? ⟨wr,1,none⟩=some (I a1)∧w'.cell? ⟨wr,2,none⟩=some (I a2)∧w'.cell? ⟨wr,3,none⟩=some (I a3)∧w'.cell? ⟨cb,d+k,none⟩=some (I c)∧w'.cell? ⟨w,7,none⟩=some (I aD)) (go_keep) ((go_at_call 33;refine Ω (l.out _) fun w9 h9=>?_;(try replace h9:=h9.of_drew);have x9:Ext wr w9:=(by first|exact((Ext.refl wr).alloc _).trans h9|exact(((Ext.refl wr).alloc _).drew).trans h9);have ah:=(x9.cells.1 cb (d+k) o).trans gc;have ar:=(x9.cells.1 w 7 s).trans aj;have ai:=h9.cells.1;have j:(wr:Nat)<w9:=aVy (by simp) h9.sz;have ap:(w:Nat)<w9:=aXv s j;have aq:cb<w9:=aXv o j));all_goals go_wp2
          all_goals go_ret
          all_goals exact⟨aT g.out.symm,xE⟩
         have g:Hid (cM aD Cs vs=cM aD (Cs.drop (k+1)) (vs.drop (k+1))):=by show _=_;rw[f.out];simp[iH,ab.out,T0.out];intro h;omega
         go_region_held3 (fun w'=>w'.cell? ⟨wr,0,none⟩=some (I a0)∧w'.cell? ⟨wr,1,none⟩=some (I a1)∧w'.cell? ⟨wr,2,none⟩=some (I a2)∧w'.cell? ⟨wr,3,none⟩=some (I a3)∧w'.cell? ⟨cb,d+k,none⟩=some (I c)∧w'.cell? ⟨w,7,none⟩=some (I aD)) (go_keep) ((go_at_call 33;refine Ω (l.out _) fun w9 h9=>?_;(try replace h9:=h9.of_drew);have x9:Ext wr w9:=(by first|exact((Ext.refl wr).alloc _).trans h9|exact(((Ext.refl wr).alloc _).drew).trans h9);have ah:=(x9.cells.1 cb (d+k) o).trans gc;have ar:=(x9.cells.1 w 7 s).trans aj;have ai:=h9.cells.1;have j:(wr:Nat)<w9:=aVy (by simp) h9.sz;have ap:(w:Nat)<w9:=aXv s j;have aq:cb<w9:=aXv o j));all_goals go_wp2
         all_goals go_roundw
         all_goals first
          |(case rel=>first|exact⟨k+1,by omega,by go_num,g.out,xE⟩|((repeat apply Exists.intro);exact⟨⟨k+1,by omega,by go_num,g.out,xE⟩,rfl⟩))
          |(case measure=>simp[intOf];omega)
        |false=>
         rw[hst]at l;have g:Hid (cM aD Cs vs=false):=by show _=_;rw[f.out];simp[iH,hst]
         clear hst;refine wp_region_held_drew (S:=fun w'=>w'.cell? ⟨wr,0,none⟩=some (I a0)∧w'.cell? ⟨wr,1,none⟩=some (I a1)∧w'.cell? ⟨wr,2,none⟩=some (I a2)∧w'.cell? ⟨wr,3,none⟩=some (I a3)∧w'.cell? ⟨cb,d+k,none⟩=some (I c)) (by kernel_rfl) (by go_keep) (fun hHeld=> ?_);refine eU 0 (v:= ?_) ?_ ?_
         rotate_left
         ·(intro w a;(try dsimp only at a);go_simp;(try with_reducible rfl))
         (try go_frame);refine eU 1 (v:= ?_) ?_ ?_
         rotate_left
         ·(intro w a;(try dsimp only at a);go_simp;(try with_reducible rfl))
         (try go_frame);refine eU 2 (v:= ?_) ?_ ?_
         rotate_left
         ·(intro w a;(try dsimp only at a);go_simp;(try with_reducible rfl))
         (try go_frame);refine eU 3 (v:= ?_) ?_ ?_
         rotate_left
         ·(intro w a;(try dsimp only at a);go_simp;(try with_reducible rfl))
         (try go_frame);refine eU 4 (v:= ?_) ?_ ?_
         rotate_left
         ·(intro w a;(try dsimp only at a);go_simp;(try with_reducible rfl))
         (try go_frame);refine eU 5 (v:= ?_) ?_ ?_
         rotate_left
         ·(intro w a;(try dsimp only at a);go_simp;(try with_reducible rfl))
         (try go_frame);refine eU 6 (v:= ?_) ?_ ?_
         rotate_left
         ·(intro w a;(try dsimp only at a);go_simp;(try with_reducible rfl))
         (try go_frame);refine eU 7 (v:= ?_) ?_ ?_
         rotate_left
         ·(intro w a;(try dsimp only at a);go_simp;(try with_reducible rfl))
         (try go_frame);refine eU 8 (v:= ?_) ?_ ?_
         rotate_left
         ·(intro w a;(try dsimp only at a);go_simp;(try with_reducible rfl))
         (try go_frame);refine eU 9 (v:= ?_) ?_ ?_
         rotate_left
         ·(intro w a;(try dsimp only at a);go_simp;(try with_reducible rfl))
         (try go_frame);refine wpAnyH_ready (rs:= [10]) (by kernel_rfl) (by simp) ?_;refine aSx rfl (fun K hK=> ?_);go_simp;go_at_call 33;refine Ω (l.out _) fun w9 h9=>?_
         (try replace h9:=h9.of_drew);have x9:Ext wr w9:=(by first|exact((Ext.refl wr).alloc _).trans h9|exact(((Ext.refl wr).alloc _).drew).trans h9)
         have ah:=(x9.cells.1 cb (d+k) o).trans gc;have ai:=h9.cells.1;have j:(wr:Nat)<w9:=aVy (by simp) h9.sz;go_wp2_with fail;refine hK.out _ _ (by(try dsimp only);go_keep) (fun hHeld=> ?_);clear hK K;(try go_frame);refine eU 11 (v:= ?_) ?_ ?_
         rotate_left
         ·(intro w a;(try dsimp only at a);go_simp;(try with_reducible rfl))
         (try go_frame);refine eU 12 (v:= ?_) ?_ ?_
         rotate_left
         ·(intro w a;(try dsimp only at a);go_simp;(try with_reducible rfl))
         (try go_frame);refine eU 13 (v:= ?_) ?_ ?_
         rotate_left
         ·(intro w a;(try dsimp only at a);go_simp;(try with_reducible rfl))
         (try go_frame);refine nD 14 ?_;(try go_frame);refine nD 15 ?_;(try go_frame);refine nD 16 ?_;(try go_frame);refine nD 17 ?_;(try go_frame);refine nD 18 ?_;(try go_frame);refine nD 19 ?_;(try go_frame);refine eU 20 (v:= ?_) ?_ ?_
         rotate_left
         ·(intro w a;(try dsimp only at a);go_simp;(try with_reducible rfl))
         (try go_frame);refine wpAnyH_done (by kernel_rfl) ?_ _;all_goals go_wp2
         all_goals go_ret
         all_goals exact⟨aT g.out.symm,xE⟩
       have q0:(a0 !=c)=true:=by simp[t0]
       have g:Hid (cM aD Cs vs=false):=by show _=_;rw[f.out];simp[t0]
       clear t0;go_quiet (fail);all_goals go_wp2
       all_goals go_ret
       all_goals exact⟨aT g.out.symm,xE⟩
      have f:Hid (cM aD Cs vs=true):=by show _=_;rw[r,aXd (by rw[z.out];omega),aXd (by rw[ad.out];omega)];rfl
      clear r;go_wp2;go_ret;exact⟨aT f.out.symm,xE⟩
    skip;have hL:((Cs.length:Int)!=(m:Int))=true:=by simp;omega
    have hR:Hid (R=false):=by show _=_;rw[HR.out,zP (by rw[ad.out];exact hL2)];simp
    have e_:=(M3.bk 1).ten;go_wp2_with go_in;go_ret;exact⟨aT hR.out.symm,M3.ext⟩
   skip;have hR:Hid (R=false):=by show _=_;rw[HR.out];simp[h3]
   have h:aD<0∨0≤aD∧9999<aD∨0≤aD∧aD≤9999∧aG<0∨0≤aD∧aD≤9999∧0≤aG∧99999<aG:=by omega
   clear h3;have e_:=(M3.bk 1).ten;rcases h with h|⟨h0,h⟩|⟨h0,h1,h⟩|⟨h0,h1,h2,h⟩
   all_goals
    (try (have ax:decide (aD≤9999)=false:=by simp;omega));(try (have ax:decide (aG≤99999)=false:=by simp;omega));go_wp2_with go_in;go_ret;exact⟨aT hR.out.symm,M3.ext⟩
theorem mE (hi:IsHouse w h p n b q m c2):
  U 11 #[bV h p n b q m c2] w (Z (.bool (bC h)) w):=by
 obtain⟨aA,aB,a,c,d,aE,aF,aD,aG,vs⟩:=h;refine aQe aA aB c d aE aF aD aG p n b q m c2 (if aO aA aB a then jC a else []) vs _ _ _ w hi.vs.bd (fun w' hx=>iJ aA aB p n b a w' (hi.cells.ext hx)) (fun w'=>aB2 c d aE aF w') (fun w' hx=>aUq aA aB p n b a w' (hi.cells.ext hx)) (xQ fun h1=> ?_) hi.vs (xQ ?_)
 ·rw[if_pos h1];have e1:=rP a;have e2:=tV a;have e3:a.length≤12:=by simp only[aO,aWc]at h1;exact(cQ h1.1).2.2.2.2.2.1
  omega
 show bC _=_;unfold bC yX;dsimp only;cases aO aA aB a<;>simp
abbrev TV:TypeId:=62
abbrev aYn (w:World)(p:Option Addr)(xs:List aV)(c:Nat):Item:=aJ w.heap.size TV 4 p xs.length c (xs.flatMap aC)
abbrev aYz(B n:Nat)(xs:List Value)(m:Nat)(ys:List Value)(w:World)(F:Option Addr→Nat→Option Addr→Nat→Value)(e:Ending)(w1:World):Prop:= ∃p c q d,e= .returned (F p c q d)∧w1.ownsRow B TI 1 (.slice p n c) n xs∧w1.ownsRow B TV 4 (.slice q m d) m ys∧Ext w w1
def RetHouse (h:aQ)(w:World)(e:Ending)(w':World):Prop:=
 ∃p cap q c2,e= .returned (bV h p h.cells.length cap q h.vs.length c2)∧w'.ownsRow w.heap.size TI 1 (.slice p h.cells.length cap) h.cells.length (ivs h.cells)∧w'.ownsRow w.heap.size TV 4 (.slice q h.vs.length c2) h.vs.length (h.vs.flatMap aC)∧Ext w w'
end Go.Proofs.YthfmmibomhhmpabGreatDoor
