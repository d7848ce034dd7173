/-
  Texts of this proof, packed (@packed).
-/
import Derived.Test.YthfmmibomhhmpaaGreatDoorY15
namespace Go.Proofs.YthfmmibomhhmpaaGreatDoor
open Go.RowKit
set_option linter.unusedSimpArgs false
set_option linter.unusedVariables false
set_option maxHeartbeats 16000000
set_option maxRecDepth 100000
section
open Go.Proofs.Tryz
def kO (r:Option (List Sl2))(w:World)(e:Ending)(w':World):Prop:=
 match r with
 |none=> ∃v,e= .returned (.tuple #[v,.bool false])∧Ext w w'
 |some l=> ∃q c,e= .returned (.tuple #[.slice q l.length c,.bool true])∧w'.ownsRow w.heap.size TSL 2 (.slice q l.length c) l.length (l.flatMap aM)∧Ext w w'
def aEs:Value→Nat
 | .slice _ n _=>n
 |_=>0
theorem jO {es:List (Nat×Nat)}{k f t:Nat}(h:es[k]? =some (f,t)):((es.map jZ).flatMap aM)[k*2]? =some (I f)∧((es.map jZ).flatMap aM)[k*2+1]? =some (I t):=by
 have hx:(es.map jZ)[k]? =some ((f:Int),(t:Int)):=by rw[aTo,h];rfl
 have h0:=eP aM 2 (fun _=>rfl) _ _ _ hx 0 (by omega);have h1:=eP aM 2 (fun _=>rfl) _ _ _ hx 1 (by omega);exact⟨by simpa[aM]using h0,by simpa[aM]using h1⟩
theorem aNq (aA aB id:Int)(p:OA)(n u c:Nat)(xs:List Int)(w:World)(fr:4≤n)(hn:n≤12)(fb:Hid (aN aA aB xs=true))(av:Hid (xs.length=n))(eb:Hid (id≠0))(hc:Hid (xs[c]? =some id)) (e5:Hid (c<n)) (cn:Hid (∀zs:List Int,zs.length=n→aO zs<4096))
  (d5:Hid (∀D,fO aA n (bP xs).length D→dX aA xs c=if aY D c (aO xs)<0 then none else some (pU aA n (aY D) (c,aO xs) (aY D c (aO xs)).toNat)))
  (e4:Hid (∀D,fO aA n (bP xs).length D→aY D c (aO xs)≤60))
  (dt:Hid (∀D,fO aA n (bP xs).length D→ ∀d:Nat,aY D c (aO xs)=d→ ∀j,j≤d→(gP aA n (aY D) (c,aO xs) j).1<n∧aY D (gP aA n (aY D) (c,aO xs) j).1 (gP aA n (aY D) (c,aO xs) j).2=(d:Int)-j∧((gP aA n (aY D) (c,aO xs) j).1=0↔j=d)∧(gP aA n (aY D) (c,aO xs) j).2<4096))
  (co:Hid (∀D,fO aA n (bP xs).length D→ ∀d:Nat,aY D c (aO xs)=d→ ∀j,j<d→ ∀ys,aC5 aA aB xs D c id j ys→ ∃(J:Nat) (es:List (Nat×Nat)),es=eV aA n (aO ys)∧iV aA aB ys=es.map jZ∧J<es.length∧es[J]? =some (iH aA n (aY D) (c,aO xs) j)∧
   (∀i e,i≤J→es[i]? =some e→e∈eV aA n (aO ys)∧(aY D (eB (gP aA n (aY D) (c,aO xs) j).1 e.1 e.2) (dH (aO ys) e.1 e.2)=(d:Int)-j-1↔i=J))∧
   ∀e,es[J]? =some e→aC5 aA aB xs D c id (j+1) (bL aA aB ys (e.1:Int) (e.2:Int))))
  (cj:Hid (∀ys,aN aA aB ys=true→ys.length=n→ ∀f t,(f,t)∈eV aA n (aO ys)→aN aA aB (bL aA aB ys (f:Int) (t:Int))=true∧(bL aA aB ys (f:Int) (t:Int)).length=n∧aO (bL aA aB ys (f:Int) (t:Int))=dH (aO ys) f t∧ ∀c id,ys[c]? =some id→id≠0→(bL aA aB ys (f:Int) (t:Int))[eB c f t]? =some id))
  (eg:Hid (∀ys q c9 (f t:Nat) w',Sl w' q n c9 1 (ivs ys)→aN aA aB ys=true→ys.length=n→U 80 #[aH aA aB q n c9,eK (f:Int) (t:Int)] w' fun e w''=> ∃q5 c5,e= .returned (.tuple #[aH aA aB q5 n c5,.bool (bH aA aB ys (f:Int) (t:Int))])∧w''.ownsRow w' TI 1 (.slice q5 n c5) n (ivs (bL aA aB ys (f:Int) (t:Int)))∧Ext w' w''))
  (cq:Hid (∀D,fO aA n (bP xs).length D→ ∀d:Nat,aY D c (aO xs)=d→ ∀j,j<d→True∧gP aA n (aY D) (c,aO xs) (j+1)=kQ (gP aA n (aY D) (c,aO xs) j) (iH aA n (aY D) (c,aO xs) j)))
  (eu:xC 148 #[aH aA aB p n u,id] w fun w' e w''=>e= .returned (I c)∧Ext w' w'')
  (ca:xC 150 #[aH aA aB p n u] w fun w' e w''=>e= .returned (I (aO xs))∧Ext w' w'')
  (ey:xC 149 #[aH aA aB p n u] w fun w' e w''=> ∃D,fO aA n (bP xs).length D∧ ∃q c,e= .returned (.slice q 49152 c)∧w''.ownsRow w' TI 1 (.slice q 49152 c) 49152 (ivs D)∧Ext w' w'')
  (HL:xC 48 #[aH aA aB p n u] w fun w' e w''=> ∃q c,e= .returned (aH aA aB q n c)∧w''.ownsRow w' TI 1 (.slice q n c) n (ivs xs)∧Ext w' w'')
  (b8:Hid (∀zs q c9 (C2:Nat) w',Sl w' q n c9 1 (ivs zs)→aN aA aB zs=true→zs[C2]? =some id→U 148 #[aH aA aB q n c9,id] w' (O (I C2) w')))
  (bd:Hid (∀zs q c9 w',Sl w' q n c9 1 (ivs zs)→aN aA aB zs=true→U 150 #[aH aA aB q n c9] w' (O (I (aO zs)) w'))):
  U 115 #[aH aA aB p n u,id] w (kO (dX aA xs c) w):=by
 go_enter func115,ntmps115;go_wp2_with fail;refine Z (eu _ (((Mem.start w).c0 TH3 #[aA,aB,.slice p n u]).made0 TSL 2 (w.heap.size+1) (by simp)).ext) fun w1 eh=>?_
 have M1:=((((Mem.start w).c0 TH3 #[aA,aB,.slice p n u]).made0 TSL 2 (w.heap.size+1) (by simp)).adv eh)
 have bc:=M1.hi 1;clear eh;obtain⟨c0,c1,c2⟩:=(M1.bk 1).tri;go_wp2_with fail;clear c0 c1 c2;refine(ey _ M1.ext).mono ?_;rintro e w2 ⟨D,hD,ql,cl,rfl,ee,ei⟩;have M2:=(M1.call ei ee)
 clear M1 bc ei ee;obtain⟨gT,rfl,fk,fl⟩:=M2.so 0;have HD:=xQ hD;have fq:c<n:=e5.out;obtain⟨S,hS⟩: ∃S,S=aO xs:=⟨_,rfl⟩
 have fp:S<4096:=by rw[hS];exact cn.out xs av.out
 obtain⟨V0,dx⟩: ∃V0,V0=c*4096+S:=⟨_,rfl⟩
 have e8:=aVw ((c:Int)*4096);have e9:IntKind.i64.wrap ((c:Int)*4096+(S:Int))=(V0:Int):=(aT8 _ (by omega)).trans (by omega);have s1:=aVt V0;have s2:(V0:Int)<49152:=by omega
 obtain⟨dv,d6,bv⟩: ∃dv,D[V0]? =some dv∧aY D c (aO xs)=dv:=⟨_,(dR (D:=D) (v:=V0) (by rw[hD.len];show _<49152;omega)).1,by rw[dx,hS];rfl⟩
 have ay:=xQ bv;have HS:=xQ hS;clear hD bv hS dx;obtain⟨c0,c1,c2⟩:=(M2.bk 2).tri;go_wp2_with fail;clear c0 c1 c2;have b9:=xQ (ca _ M2.ext);rw[←HS.out]at b9;refine b9.out.mono ?_;rintro e w3 ⟨rfl,ej⟩;have M3:=(M2.adv ej)
 clear M2 ej b9;have cd:w3.cell? ⟨gT,V0,none⟩=some (I dv):=by have:=(M3.ow 0).cellAt V0 (by omega);rw[this];simp[ivs,d6]
 clear d6;by_cases hneg:dv<0
 ·have t0:decide (dv<0)=true:=by simp[hneg]
  have fa:Hid (dX aA xs c=none):=by show _=_;rw[d5.out D HD.out,ay.out,if_pos hneg]
  have HX:=xQ (M3.ext);go_wp2;rw[fa.out];exact bodyPost_ret (v:= .tuple #[.slice (some ⟨w.heap.size+1,0,none⟩) 0 0,.bool false]) (by simp[results,results115,go_sem, *]) rfl ⟨_,rfl,by have:=HX.out;exact this⟩
 have t0:decide (dv<0)=false:=by simp;omega
 obtain⟨d,rfl⟩:=aTw (show 0≤dv by omega);have fj:d≤60:=by have:=e4.out D HD.out;rw[ay.out]at this;omega
 have em:Hid (dX aA xs c=some (pU aA n (aY D) (c,aO xs) d)):=by show _=_;rw[d5.out D HD.out,ay.out,if_neg hneg];rfl
 clear hneg;have b7:=xQ (show aY D c (aO xs)=(d:Int)from ay.out);clear ay;obtain⟨c0,c1,c2⟩:=(M3.bk 2).tri;go_wp2_with fail;clear c0 c1 c2 cd t0 e8 e9 s1 s2;refine(HL _ M3.ext).mono ?_;rintro e w4 ⟨q0,c0,rfl,ef,ek⟩;have M4:=(M3.call ek ef)
 clear M3 ek ef;obtain⟨a9,ch⟩: ∃a9,a9=w4.heap.size:=⟨_,rfl⟩
 have ds:=(show Mem w (w4.alloc (.cells #[aA,aB,.slice q0 n c0] TH3)) [aI w (a9) TH3 #[aA,aB,.slice q0 n c0],aJ w TI 1 (q0) (n) (c0) (ivs xs),aJ w TSL 2 (some ⟨w.heap.size+1,0,none⟩) (0) (0) ([]),aJ w TI 1 (some ⟨gT,0,none⟩) (49152) (cl) (ivs D),aI w w TH3 #[aA,aB,.slice p n u]]from by rw[ch];exact(M4.c0 TH3 #[aA,aB,.slice q0 n c0]).pick [0,1,3,2,4] (by decide) rfl)
 clear M4;go_wp2;rw[←ch];go_loopw [6,7] (fun v i wr=> ∃(j:Nat) (ys:List Int) (q:OA) (c9:Nat) (q6:OA) (lc:Nat),j≤d∧i=I ((gP aA n (aY D) (c,aO xs) j).1)∧v= .slice q6 j lc∧aC5 aA aB xs D c id j ys∧Mem w wr [aI w (a9) TH3 #[aA,aB,.slice q n c9],aJ w TI 1 (q) (n) (c9) (ivs ys),aJ w TSL 2 (q6) (j) (lc) ((pU aA n (aY D) (c,aO xs) (j)).flatMap aM),aJ w TI 1 (some ⟨gT,0,none⟩) (49152) (cl) (ivs D),aI w w TH3 #[aA,aB,.slice p n u]]) (fun v _ _=>d-aEs v)
 case atStart=>exact⟨0,xs,q0,c0,_,0,aTd _,rfl,rfl,⟨fb.out,rfl,rfl,hc.out⟩,ds⟩
 case round=>
  clear ds ch;obtain⟨j,ys,q,c9,q6,lc,hj,rfl,rfl,b5,hM⟩:=hrel;have HM:=hM;have HW:=xQ b5;clear hM b5;obtain⟨a,ha⟩: ∃a,a=(gP aA n (aY D) (c,aO xs) j).1:=⟨_,rfl⟩
  have HA:=xQ ha;have e7:=dt.out D HD d b7 j hj;obtain⟨d9,a5,au,ea⟩:=e7;rw[←ha]at d9 a5 au⊢;clear ha;by_cases hlt:j<d
  ·have d4:0<a:=Nat.pos_of_ne_zero (fun e=>by have:=au.1 e;omega);have t0:decide ((0:Int)<(a:Int))=true:=by simp;omega
   have bb:ys.length=n:=by rw[HW.out.len];exact av.out
   obtain⟨J,es,e6,ag,hJ,d7,d8,bx⟩:=co.out D HD d b7 j hlt ys HW.out;have er:=xQ d8;have ez:=xQ bx;have et:=xQ d7;have cb:=xQ (fun w' (hx:Ext wr w')=>aAd aA aB q n c9 ys w' ((HM.sq 1).ext hx) HW.out.ok);clear e6 d8 bx d7;obtain⟨KS,hK⟩: ∃KS,KS=es.length:=⟨_,rfl⟩
   have du:(es.map jZ).length=KS:=by rw[aU1,hK]
   have fg:KS≤144:=by rw[hK,←aU1 (f:=jZ),←ag];unfold iV;rw[bb];exact aTg (aB9 _ _ _) (Nat.mul_le_mul hn hn)
   have HK:=xQ hK;have fo:J<KS:=by rw[hK];exact hJ
   rw[ag]at cb;clear hK hJ ag;obtain⟨S1,bg⟩: ∃S1,S1=aO ys:=⟨_,rfl⟩
   have be:=xQ bg;have fh:S1<4096:=by rw[bg];exact cn.out ys bb
   have bp:aY D a S1=(d:Int)-j:=by rw[bg,HW.out.free,av.out];exact a5
   have dh:=xQ bp;clear bg bp a5 ea au;obtain⟨v0,v1,v2⟩:=(HM.bk 0).tri;go_wp2_with fail;clear v0 v1 v2;refine(cb _ (Ext.refl _)).mono ?_;rintro e w7 ⟨qs,cs,rfl,cp,el⟩;rw[du]at cp⊢;clear cb du;have M1:=(HM.call el cp)
   clear HM el cp;have bc:=M1.hi 1;obtain⟨gs,rfl,fm,a6⟩:=M1.so 0;obtain⟨f0,ax,bh⟩: ∃f t,es[0]? =some (f,t):=⟨_,_,aT6 (by rw[←HK.out];omega)⟩
   have dj:=xQ bh;have d0:w7.cell? ⟨gs,0,none⟩=some (I f0):=by have:=(M1.ow 0).cellAt 0 (by omega);rw[this];exact(jO bh).1
   have d1:w7.cell? ⟨gs,1,none⟩=some (I ax):=by have:=(M1.ow 0).cellAt 1 (by omega);rw[this];exact(jO bh).2
   clear bh;have i2:(0:Int)<(KS:Int):=by omega
   have fs:0<KS:=by omega
   have az:=xQ (fun w' (hx:Ext w7 w')=>eg.out ys q c9 f0 ax w' ((M1.sq 2).ext hx) HW.out.ok bb);obtain⟨v0,v1,v2⟩:=(M1.bk 1).tri;have n1: ¬(a9=w7.heap.size):=by have:=(M1.hi 1);omega
   have n2: ¬(w7.heap.size=a9):=fun h=>n1 h.symm
   have n3: ¬(gs=w7.heap.size):=by omega
   have n4: ¬(w7.heap.size=gs):=fun h=>n3 h.symm
   go_upto_region 12 with fail;go_cut [12,13] (fun s1 s2 wx=> ∃(a:Nat) (q5:OA) (c5:Nat),s1= .pointer (some ⟨a,0,none⟩)∧Ext w7 wx∧w7.heap.size≤a∧Blk wx a TH3 #[aA,aB,.slice q5 n c5]∧wx.ownsRow w7 TI 1 (.slice q5 n c5) n (ivs (bL aA aB ys ((f0:Nat):Int) ((ax:Nat):Int))))
   case first=>
    go_region_held3 (fun w'=>w'.cell? ⟨a9,0,none⟩=some (I aA)∧w'.cell? ⟨a9,1,none⟩=some (I aB)∧w'.cell? ⟨a9,2,none⟩=some (.slice q n c9)∧w'.cell? ⟨gs,0,none⟩=some (I f0)∧w'.cell? ⟨gs,1,none⟩=some (I ax))
     (first|(refine⟨?_,?_,?_,?_,?_⟩<;>assumption)|go_keep)
     ((go_at_call 80
       refine(az _ xE).mono ?_;rintro e w5 ⟨q5,c5,rfl,o5,l⟩;have m:Ext w7 w5:=xE;have g0:=((M1.bk 1).ext m).cl 0;have g1:=((M1.bk 1).ext m).cl 1;have g2:=((M1.bk 1).ext m).cl 2;have g3:w5.cell? ⟨gs,0,none⟩=some (I f0):=(m.cells.1 _ _ a6).trans d0;have g4:w5.cell? ⟨gs,1,none⟩=some (I ax):=(m.cells.1 _ _ a6).trans d1
       first
        |(have ap:Ext (w7.alloc (.cells #[(),(),((),())] TH3)) w5:=l
          have BB:=(Blk.new w7 TH3 #[(),(),((),())]).ext ap;have da:=BB.cl 0;have db:=BB.cl 1;have dc:=BB.cl 2;have de:=BB.frozen 0;have df:=BB.frozen 1
          have dg:w5.frozen? ⟨w7,2,none⟩=false:=BB.frozen 2)
        |(have ap:Ext (w7.alloc (.cells #[(),(),((),())] TH3)) w5:=l.of_drew
          have BB:=(Blk.new w7 TH3 #[(),(),((),())]).ext ap;have da:=BB.cl 0;have db:=BB.cl 1;have dc:=BB.cl 2;have de:=BB.frozen 0;have df:=BB.frozen 1
          have dg:w5.frozen? ⟨w7,2,none⟩=false:=BB.frozen 2)
        |skip))
    ·go_wp2_with fail;go_meet;exact⟨w5.heap.size,q5,c5,rfl,by exact .alloc m _,by have:=m.sz;omega,Blk.new _ _ _,bM (by exact o5.alloc _) (by simp)⟩
    have hR:ExtR w7 w5 _:=(((ExtR.refl w7 w5).setCell (p:=⟨w7,0,none⟩) (.inl rfl) (I aA)).setCell (p:=⟨w7,1,none⟩) (.inl rfl) (I aB)).setCell (p:=⟨w7,2,none⟩) (.inl rfl) (.slice q5 n c5);have hY:=((BB.set 0 (I aA)).set 1 (I aB)).set 2 (.slice q5 n c5);simp only[aTm,aTk,aTj]at hY;go_wp2_with fail;go_meet;exact⟨w7.heap.size,q5,c5,rfl,ExtR.new m hR (aT5 _),aT5 _,hY,bM (o5.kept hR (.inr (dV o5 BB (by decide)))) (by simp)⟩
   case rest=>
    clear v0 v1 v2 n1 n2 n3 n4 d0 d1;obtain⟨a1,q5,c5,rfl,a3,a4,a2,a7⟩:=hcut;have dq:=(M1.blkOwn a3 a2 a4 a7 (aT5 _) (by decide))
    clear a3 a4 a2 a7 az M1;go_wp2;go_loopw [11] (fun i wx=> ∃(k f t:Nat) (qz:OA) (cz:Nat),k≤J∧i=I k∧es[k]? =some (f,t)∧Mem w wx [aJ w TI 1 (qz) (n) (cz) (ivs (bL aA aB ys ((f:Nat):Int) ((t:Nat):Int))),aI w (a1) TH3 #[aA,aB,.slice qz n cz],aJ w TSL 2 (some ⟨gs,0,none⟩) (KS) (cs) ((es.map jZ).flatMap aM),aI w (a9) TH3 #[aA,aB,.slice q n c9],aJ w TI 1 (q) (n) (c9) (ivs ys),aJ w TSL 2 (q6) (j) (lc) ((pU aA n (aY D) (c,aO xs) (j)).flatMap aM),aJ w TI 1 (some ⟨gT,0,none⟩) (49152) (cl) (ivs D),aI w w TH3 #[aA,aB,.slice p n u]]) (fun i _=>J-(intOf i).toNat)
    case atStart=>exact⟨0,f0,ax,q5,c5,aTd _,rfl,dj.out,dq⟩
    case round=>
     clear dq dj;obtain⟨k,f,t,qz,cz,hk,rfl,cm,hM⟩:=hrel;have b:=hM;obtain⟨ec,aw⟩:=er k (f,t) hk cm;have aq:=xQ cm;clear hM cm;obtain⟨z1,z2,z3,z4⟩:=cj.out ys HW.out.ok bb f t ec;have z5:=z4 a id (by have:=HW.out.at_;rw[av.out,←HA.out]at this;exact this) eb.out;rw[←HA.out,←be.out]at aw;rw[←be.out]at z3;clear z4 ec;generalize en:bL aA aB ys ((f:Nat):Int) ((t:Nat):Int)=zs at*;obtain⟨C2,cg⟩: ∃C2,C2=eB a f t:=⟨_,rfl⟩
     obtain⟨S2,dw⟩: ∃S2,S2=dH S1 f t:=⟨_,rfl⟩
     rw[←cg]at z5 aw;rw[←dw]at z3 aw;have ff:C2<n:=by have:=(aT9.1 z5).1;omega
     have fi:S2<4096:=by rw[←z3];exact cn.out zs z2
     obtain⟨V1,dy⟩: ∃V1,V1=C2*4096+S2:=⟨_,rfl⟩
     obtain⟨V2,d2⟩: ∃V2,V2=a*4096+S1:=⟨_,rfl⟩
     have dz:V1<49152:=by omega
     have d3:V2<49152:=by omega
     obtain⟨x,bt,br⟩: ∃dv,D[V1]? =some dv∧aY D C2 S2=dv:=⟨_,(dR (D:=D) (v:=V1) (by rw[HD.out.len];exact dz)).1,by rw[dy];rfl⟩
     obtain⟨dd,bu,bs⟩: ∃dv,D[V2]? =some dv∧aY D a S1=dv:=⟨_,(dR (D:=D) (v:=V2) (by rw[HD.out.len];exact d3)).1,by rw[d2];rfl⟩
     have bq:dd=(d:Int)-j:=by rw[←bs];exact dh.out
     have o:0≤dd:=by omega
     have r:dd≤60:=by omega
     rw[br,←bq]at aw;have e2:=xQ en;have eo:=xQ cg;have dl:=aw;have Z1:=xQ z1;have Z3:=xQ z3;have Z5:=xQ z5;have bi:IntKind.i64.wrap ((C2:Int)*4096+(S2:Int))=(V1:Int):=(aT8 _ (by omega)).trans (by omega);have bj:IntKind.i64.wrap ((a:Int)*4096+(S1:Int))=(V2:Int):=(aT8 _ (by omega)).trans (by omega);have dn:=xQ bi;have dp:=xQ bj;have ah:gT<wr:=(b.hi 6)
     have y:wr.cell? ⟨gT,V1,none⟩=some (I x):=by have:=(b.ow 6).cellAt V1 (by omega);rw[this];simp[ivs,bt]
     have z:wr.cell? ⟨gT,V2,none⟩=some (I dd):=by have:=(b.ow 6).cellAt V2 (by omega);rw[this];simp[ivs,bu]
     have b1:=aVt V1;have b2:(V1:Int)<49152:=by omega
     have b3:=aVt V2;have b4:(V2:Int)<49152:=by omega
     clear en cg dw aw z1 z2 z3 z5 bt bu br bs bq bi bj dy d2;by_cases hkJ:k=J
     ·have ar:x=dd-1:=by have:=dl.2 hkJ;omega
      have di:=xQ ar;clear ar;subst hkJ;go_wp2;refine rL (gl [gEq (.slice (some ⟨gT,0,none⟩) 49152 cl),gEq (.agg #[aA,aB,.slice qz n cz]),gEq id,gEq (C2:Int),gEq ((C2:Int)*4096:Int),gEq (.agg #[aA,aB,.slice qz n cz]),gEq (S2:Int),gEq (V1:Int),gEq (.pointer (some ⟨gT,V1,none⟩)),gEq x,gEq (.slice (some ⟨gT,0,none⟩) 49152 cl),gEq (a:Int),gEq ((a:Int)*4096:Int),gEq (.agg #[aA,aB,.slice q n c9]),gEq (S1:Int),gEq (V2:Int),gEq (.pointer (some ⟨gT,V2,none⟩)),gEq dd,gEq (dd-1:Int),gEq (.bool false)]) 20 20 [(0,some 50),(1,some 51),(2,some 52),(3,some 53),(4,some 54),(5,some 55),(6,some 56),(7,some 57),(8,some 58),(9,some 59),(10,some 60),(11,some 61),(12,some 62),(13,some 63),(14,some 64),(15,some 65),(16,some 66),(17,some 67),(18,some 68),(19,some 69)] ?steps ?fin
      case steps=>
       refine sS0 [] ?_;refine sC [] rfl (fun wi hx=> ?_) ?_
       ·intro K hK;have hX:=hx.of_drew;have aa:=((b.bk 1).ext hX).cl 0;have y:=((b.bk 1).ext hX).cl 1;have z:=((b.bk 1).ext hX).cl 2;go_simp;exact hK _ _ ⟨.agg #[aA,aB,.slice qz n cz],rfl,rfl,Ext.refl _⟩
       refine sS0 [] ?_;refine sC [(1,some 51),(2,some 52)] rfl (fun wi hx=> ?_) ?_
       ·intro v1 h1 v2 h2 K hK;subst h1 h2;have hX:=hx.of_drew;clear b1 b2 b3 b4 o r;have HH:=xQ (b8 zs qz cz C2 wi ((b.adv hX).sq 0) Z1 Z5.out);go_wp2_with fail;refine HH.out.mono ?_;rintro e w5 ⟨rfl,l⟩;go_simp;exact hK _ _ ⟨I C2,rfl,rfl,l⟩
       refine sC [(3,some 53)] rfl (fun wi hx=> ?_) ?_
       ·intro v3 h3 K hK;obtain rfl:=h3;have a8:=aVw ((C2:Int)*4096);go_simp;exact hK _ _ ⟨I ((C2:Int)*4096),rfl,rfl,Ext.refl _⟩
       refine sC [] rfl (fun wi hx=> ?_) ?_
       ·intro K hK;have hX:=hx.of_drew;have aa:=((b.bk 1).ext hX).cl 0;have y:=((b.bk 1).ext hX).cl 1;have z:=((b.bk 1).ext hX).cl 2;go_simp;exact hK _ _ ⟨.agg #[aA,aB,.slice qz n cz],rfl,rfl,Ext.refl _⟩
       refine sC [(5,some 55)] rfl (fun wi hx=> ?_) ?_
       ·intro v5 h5 K hK;obtain rfl:=h5;have hX:=hx.of_drew;clear b1 b2 b3 b4 o r;have HH:=xQ (bd zs qz cz wi ((b.adv hX).sq 0) Z1.out);rw[Z3.out]at HH;go_wp2_with fail;refine HH.out.mono ?_;rintro e w5 ⟨rfl,l⟩;go_simp;exact hK _ _ ⟨I S2,rfl,rfl,l⟩
       refine sC [(4,some 54),(6,some 56)] rfl (fun wi hx=> ?_) ?_
       ·intro v4 h4 v6 h6 K hK;subst h4 h6;have bi:=dn.out;go_simp;exact hK _ _ ⟨I V1,rfl,rfl,Ext.refl _⟩
       refine sS2 [(0,some 50),(7,some 57)] ?_;refine sC [(8,some 58)] rfl (fun wi hx=> ?_) ?_
       ·intro v8 h8 K hK;obtain rfl:=h8;have hX:=hx.of_drew;have aa:wi.cell? ⟨gT,V1,none⟩=some (I x):=(hX.cells.1 _ _ ah).trans y;go_simp;exact hK _ _ ⟨I x,rfl,rfl,Ext.refl _⟩
       refine sS0 [] (sS0 [] ?_);refine sC [(11,some 61)] rfl (fun wi hx=> ?_) ?_
       ·intro cr ai K hK;obtain rfl:=ai;have a8:=aVw ((a:Int)*4096);go_simp;exact hK _ _ ⟨I ((a:Int)*4096),rfl,rfl,Ext.refl _⟩
       refine sC [] rfl (fun wi hx=> ?_) ?_
       ·intro K hK;have hX:=hx.of_drew;have aa:=((b.bk 3).ext hX).cl 0;have y:=((b.bk 3).ext hX).cl 1;have z:=((b.bk 3).ext hX).cl 2;go_simp;exact hK _ _ ⟨.agg #[aA,aB,.slice q n c9],rfl,rfl,Ext.refl _⟩
       refine sC [(13,some 63)] rfl (fun wi hx=> ?_) ?_
       ·intro cu ak K hK;obtain rfl:=ak;have hX:=hx.of_drew;clear b1 b2 b3 b4 o r;have HH:=xQ (bd ys q c9 wi ((b.adv hX).sq 4) HW.out.ok);rw[←be.out]at HH;go_wp2_with fail;refine HH.out.mono ?_;rintro e w5 ⟨rfl,l⟩;go_simp;exact hK _ _ ⟨I S1,rfl,rfl,l⟩
       refine sC [(12,some 62),(14,some 64)] rfl (fun wi hx=> ?_) ?_
       ·intro ct aj cv al K hK;obtain rfl:=aj;obtain rfl:=al;have bj:=dp.out;go_simp;exact hK _ _ ⟨I V2,rfl,rfl,Ext.refl _⟩
       refine sS2 [(10,some 60),(15,some 65)] ?_;refine sC [(16,some 66)] rfl (fun wi hx=> ?_) ?_
       ·intro cw am K hK;obtain rfl:=am;have hX:=hx.of_drew;have aa:wi.cell? ⟨gT,V2,none⟩=some (I dd):=(hX.cells.1 _ _ ah).trans z;go_simp;exact hK _ _ ⟨I dd,rfl,rfl,Ext.refl _⟩
       refine sC [(17,some 67)] rfl (fun wi hx=> ?_) ?_
       ·intro cx an K hK;obtain rfl:=an;have a8:=aVw (dd-1);go_simp;exact hK _ _ ⟨I (dd-1),rfl,rfl,Ext.refl _⟩
       refine sC [(9,some 59),(18,some 68)] rfl (fun wi hx=> ?_) StepsL.nil
       ·intro v9 h9 cy ao K hK;obtain rfl:=h9;obtain rfl:=ao;have ci:(x !=(dd-1))=false:=by rw[di.out];simp
        go_simp;exact hK _ _ ⟨.bool false,rfl,rfl,Ext.refl _⟩
      case fin=>
       intro wi hx v0 h0 v1 h1 v2 h2 v3 h3 v4 h4 v5 h5 v6 h6 v7 h7 v8 h8 v9 h9 fc cc cr ai ct aj cu ak cv al fd ce cw am cx an cy ao fe cf;subst h0 h1 h2 h3 h4 h5 h6 h7 h8 h9;obtain rfl:=cc;obtain rfl:=ai;obtain rfl:=aj;obtain rfl:=ak;obtain rfl:=al;obtain rfl:=ce;obtain rfl:=am;obtain rfl:=an;obtain rfl:=ao;obtain rfl:=cf;refine wpAny_done (by kernel_rfl) ?_ _;try go_frame
       have hX:Ext wr wi:=hx.of_drew;have g:=(b.adv hX)
       clear b hx hX y z b1 b2 b3 b4 o r;have ab:=g.hi 1;have ad:=g.hi 3;have ae:=g.hi 7;have ed:=ez (f,t) aq.out;have ck:=et.out;rw[aq.out]at ck;have bw:iH aA n (aY D) (c,aO xs) j=(f,t):=(Option.some.inj ck).symm;have dk:=xQ bw;have b0:aC5 aA aB xs D c id (j+1) zs:=by have:=e2.out;rw[←this];exact ed
       have dm:=xQ b0;clear ed b0 ck bw;have i1:=aVt k;have i3:=aVu k KS;have e0:wi.cell? ⟨gs,k*2,none⟩=some (I f):=by have:=(g.ow 2).cellAt (k*2) (by omega);rw[this];exact(jO aq.out).1
       have e1:wi.cell? ⟨gs,k*2+1,none⟩=some (I t):=by have:=(g.ow 2).cellAt (k*2+1) (by omega);rw[this];exact(jO aq.out).2
       go_wp2_with (at_builtin;refine cJ rS rfl _ _ rfl (g.adv ((Ext.refl _).alloc (.cells #[f,t] TSL))) 5 rfl rfl (aM ((f:Int),(t:Int))) rfl (eD _ _ _ 1 2 _ (by first|rfl|simp) (by first|rfl|simp) (by simp[maxLen])) (oS _ _) (by omega) ?_;intro q7 c7 w6 M6;(have M7:=xQ (show Mem w w6 [aJ w TI 1 (qz) (n) (cz) (ivs (zs)),aI w (a1) TH3 #[aA,aB,.slice qz n cz],aJ w TSL 2 (some ⟨gs,0,none⟩) (KS) (cs) ((es.map jZ).flatMap aM),aI w (a9) TH3 #[aA,aB,.slice q n c9],aJ w TI 1 (q) (n) (c9) (ivs ys),aJ w TSL 2 (q7) (j+1) (c7) ((pU aA n (aY D) (c,aO xs) (j+1)).flatMap aM),aJ w TI 1 (some ⟨gT,0,none⟩) (49152) (cl) (ivs D),aI w w TH3 #[aA,aB,.slice p n u]]from by rw[aAx,aTz,dk.out];exact M6));clear M6 e0 e1 g ab ad ae;(have bl:a1<w6:=(M7.out.hi 1));(have bm:a9<w6:=(M7.out.hi 3));(have bo:(w:Nat)<w6:=(M7.out.hi 7));(have s: ¬(a1=a9):=M7.out.ne (i:=1) (j:=3) (by omega) rfl rfl rfl rfl);(have af: ¬(a9=a1):=fun h=>s h.symm);(obtain⟨x0,x1,x2⟩:=(M7.out.bk 1).tri);(obtain⟨v0,c3,v1,c4,v2,c6⟩:=(M7.out.bk 3).trif));have bf:=(((M7.out.st 3 0 (I aA)).st 3 1 (I aB)).st 3 2 (.slice qz n cz))
       generalize ba:World.setCell _ _ _=wz;rw[ba]at bf;clear ba s af x0 x1 x2 v0 c3 v1 c4 v2 c6 bl bm bo M7;have ev:=xQ (b8 zs qz cz C2 wz (bf.sq 0) Z1 Z5.out);refine ev.out.mono ?_;rintro e ft ⟨rfl,b6⟩;have e3:=(bf.adv b6)
       clear bf b6;have bz:(gP aA n (aY D) (c,aO xs) (j+1)).1=C2:=by have h1:=(cq.out D HD d b7 j hlt).2;rw[h1,dk.out,eo.out,HA.out];rfl
       have ew:=xQ bz;clear bz;go_wp2;go_roundw
       case rel=>exact⟨j+1,zs,qz,cz,q7,c7,by omega,by rw[ew.out],rfl,dm.out,(e3.pick [3,0,5,6,7] (by decide) rfl)⟩
       case measure=>simp[aEs];omega
     have ar: ¬x=dd-1:=fun h=>hkJ (dl.1 (by omega))
     go_wp2;refine rL (gl [gEq (.slice (some ⟨gT,0,none⟩) 49152 cl),gEq (.agg #[aA,aB,.slice qz n cz]),gEq id,gEq (C2:Int),gEq ((C2:Int)*4096:Int),gEq (.agg #[aA,aB,.slice qz n cz]),gEq (S2:Int),gEq (V1:Int),gEq (.pointer (some ⟨gT,V1,none⟩)),gEq x,gEq (.slice (some ⟨gT,0,none⟩) 49152 cl),gEq (a:Int),gEq ((a:Int)*4096:Int),gEq (.agg #[aA,aB,.slice q n c9]),gEq (S1:Int),gEq (V2:Int),gEq (.pointer (some ⟨gT,V2,none⟩)),gEq dd,gEq (dd-1:Int),gEq (.bool true)]) 20 20 [(0,some 50),(1,some 51),(2,some 52),(3,some 53),(4,some 54),(5,some 55),(6,some 56),(7,some 57),(8,some 58),(9,some 59),(10,some 60),(11,some 61),(12,some 62),(13,some 63),(14,some 64),(15,some 65),(16,some 66),(17,some 67),(18,some 68),(19,some 69)] ?steps ?fin
     case steps=>
      refine sS0 [] ?_;refine sC [] rfl (fun wi hx=> ?_) ?_
      ·intro K hK;have hX:=hx.of_drew;have aa:=((b.bk 1).ext hX).cl 0;have y:=((b.bk 1).ext hX).cl 1;have z:=((b.bk 1).ext hX).cl 2;go_simp;exact hK _ _ ⟨.agg #[aA,aB,.slice qz n cz],rfl,rfl,Ext.refl _⟩
      refine sS0 [] ?_;refine sC [(1,some 51),(2,some 52)] rfl (fun wi hx=> ?_) ?_
      ·intro v1 h1 v2 h2 K hK;subst h1 h2;have hX:=hx.of_drew;clear b1 b2 b3 b4 o r;have HH:=xQ (b8 zs qz cz C2 wi ((b.adv hX).sq 0) Z1 Z5.out);go_wp2_with fail;refine HH.out.mono ?_;rintro e w5 ⟨rfl,l⟩;go_simp;exact hK _ _ ⟨I C2,rfl,rfl,l⟩
      refine sC [(3,some 53)] rfl (fun wi hx=> ?_) ?_
      ·intro v3 h3 K hK;obtain rfl:=h3;have a8:=aVw ((C2:Int)*4096);go_simp;exact hK _ _ ⟨I ((C2:Int)*4096),rfl,rfl,Ext.refl _⟩
      refine sC [] rfl (fun wi hx=> ?_) ?_
      ·intro K hK;have hX:=hx.of_drew;have aa:=((b.bk 1).ext hX).cl 0;have y:=((b.bk 1).ext hX).cl 1;have z:=((b.bk 1).ext hX).cl 2;go_simp;exact hK _ _ ⟨.agg #[aA,aB,.slice qz n cz],rfl,rfl,Ext.refl _⟩
      refine sC [(5,some 55)] rfl (fun wi hx=> ?_) ?_
      ·intro v5 h5 K hK;obtain rfl:=h5;have hX:=hx.of_drew;clear b1 b2 b3 b4 o r;have HH:=xQ (bd zs qz cz wi ((b.adv hX).sq 0) Z1.out);rw[Z3.out]at HH;go_wp2_with fail;refine HH.out.mono ?_;rintro e w5 ⟨rfl,l⟩;go_simp;exact hK _ _ ⟨I S2,rfl,rfl,l⟩
      refine sC [(4,some 54),(6,some 56)] rfl (fun wi hx=> ?_) ?_
      ·intro v4 h4 v6 h6 K hK;subst h4 h6;have bi:=dn.out;go_simp;exact hK _ _ ⟨I V1,rfl,rfl,Ext.refl _⟩
      refine sS2 [(0,some 50),(7,some 57)] ?_;refine sC [(8,some 58)] rfl (fun wi hx=> ?_) ?_
      ·intro v8 h8 K hK;obtain rfl:=h8;have hX:=hx.of_drew;have aa:wi.cell? ⟨gT,V1,none⟩=some (I x):=(hX.cells.1 _ _ ah).trans y;go_simp;exact hK _ _ ⟨I x,rfl,rfl,Ext.refl _⟩
      refine sS0 [] (sS0 [] ?_);refine sC [(11,some 61)] rfl (fun wi hx=> ?_) ?_
      ·intro cr ai K hK;obtain rfl:=ai;have a8:=aVw ((a:Int)*4096);go_simp;exact hK _ _ ⟨I ((a:Int)*4096),rfl,rfl,Ext.refl _⟩
      refine sC [] rfl (fun wi hx=> ?_) ?_
      ·intro K hK;have hX:=hx.of_drew;have aa:=((b.bk 3).ext hX).cl 0;have y:=((b.bk 3).ext hX).cl 1;have z:=((b.bk 3).ext hX).cl 2;go_simp;exact hK _ _ ⟨.agg #[aA,aB,.slice q n c9],rfl,rfl,Ext.refl _⟩
      refine sC [(13,some 63)] rfl (fun wi hx=> ?_) ?_
      ·intro cu ak K hK;obtain rfl:=ak;have hX:=hx.of_drew;clear b1 b2 b3 b4 o r;have HH:=xQ (bd ys q c9 wi ((b.adv hX).sq 4) HW.out.ok);rw[←be.out]at HH;go_wp2_with fail;refine HH.out.mono ?_;rintro e w5 ⟨rfl,l⟩;go_simp;exact hK _ _ ⟨I S1,rfl,rfl,l⟩
      refine sC [(12,some 62),(14,some 64)] rfl (fun wi hx=> ?_) ?_
      ·intro ct aj cv al K hK;obtain rfl:=aj;obtain rfl:=al;have bj:=dp.out;go_simp;exact hK _ _ ⟨I V2,rfl,rfl,Ext.refl _⟩
      refine sS2 [(10,some 60),(15,some 65)] ?_;refine sC [(16,some 66)] rfl (fun wi hx=> ?_) ?_
      ·intro cw am K hK;obtain rfl:=am;have hX:=hx.of_drew;have aa:wi.cell? ⟨gT,V2,none⟩=some (I dd):=(hX.cells.1 _ _ ah).trans z;go_simp;exact hK _ _ ⟨I dd,rfl,rfl,Ext.refl _⟩
      refine sC [(17,some 67)] rfl (fun wi hx=> ?_) ?_
      ·intro cx an K hK;obtain rfl:=an;have a8:=aVw (dd-1);go_simp;exact hK _ _ ⟨I (dd-1),rfl,rfl,Ext.refl _⟩
      refine sC [(9,some 59),(18,some 68)] rfl (fun wi hx=> ?_) StepsL.nil
      ·intro v9 h9 cy ao K hK;obtain rfl:=h9;obtain rfl:=ao;have ci:(x !=(dd-1))=true:=by simp[ar]
       go_simp;exact hK _ _ ⟨.bool true,rfl,rfl,Ext.refl _⟩
     case fin=>
      intro wi hx v0 h0 v1 h1 v2 h2 v3 h3 v4 h4 v5 h5 v6 h6 v7 h7 v8 h8 v9 h9 fc cc cr ai ct aj cu ak cv al fd ce cw am cx an cy ao fe cf;subst h0 h1 h2 h3 h4 h5 h6 h7 h8 h9;obtain rfl:=cc;obtain rfl:=ai;obtain rfl:=aj;obtain rfl:=ak;obtain rfl:=al;obtain rfl:=ce;obtain rfl:=am;obtain rfl:=an;obtain rfl:=ao;obtain rfl:=cf;refine wpAny_done (by kernel_rfl) ?_ _;try go_frame
      have hX:Ext wr wi:=hx.of_drew;have g:=(b.adv hX)
      clear b hx hX y z ah b1 b2 b3 b4 o r;have ab:=g.hi 1;have ad:=g.hi 3;have ae:=g.hi 7;obtain⟨f2,t2,ag⟩: ∃f t,es[k+1]? =some (f,t):=⟨_,_,aT6 (by rw[←HK.out];omega)⟩
      have ep:=xQ ag;have i1:(0:Int)≤(k:Int)+1:=by omega
      have i3:(k:Int)+1<(KS:Int):=by omega
      have i4:((k:Int)+1).toNat=k+1:=by omega
      have d0:wi.cell? ⟨gs,(k+1)*2,none⟩=some (I f2):=by have:=(g.ow 2).cellAt ((k+1)*2) (by omega);rw[this];exact(jO ag).1
      have d1:wi.cell? ⟨gs,(k+1)*2+1,none⟩=some (I t2):=by have:=(g.ow 2).cellAt ((k+1)*2+1) (by omega);rw[this];exact(jO ag).2
      have a6:gs<wi:=(g.hi 2)
      clear ag;have az:=xQ (fun w' (hx:Ext wi w')=>eg.out ys q c9 f2 t2 w' ((g.sq 4).ext hx) HW.out.ok bb);obtain⟨v0,v1,v2⟩:=(g.bk 3).tri;have n1: ¬(a9=wi.heap.size):=by have:=(g.hi 3);omega
      have n2: ¬(wi.heap.size=a9):=fun h=>n1 h.symm
      have n3: ¬(gs=wi.heap.size):=by omega
      have n4: ¬(wi.heap.size=gs):=fun h=>n3 h.symm
      go_upto_region 15 with fail;go_cut [14,15] (fun s1 s2 wx=> ∃(a:Nat) (q5:OA) (c5:Nat),s1= .pointer (some ⟨a,0,none⟩)∧Ext wi wx∧wi.heap.size≤a∧Blk wx a TH3 #[aA,aB,.slice q5 n c5]∧wx.ownsRow wi TI 1 (.slice q5 n c5) n (ivs (bL aA aB ys ((f2:Nat):Int) ((t2:Nat):Int))))
      case first=>
       go_region_held3 (fun w'=>w'.cell? ⟨a9,0,none⟩=some (I aA)∧w'.cell? ⟨a9,1,none⟩=some (I aB)∧w'.cell? ⟨a9,2,none⟩=some (.slice q n c9)∧w'.cell? ⟨gs,(k+1)*2,none⟩=some (I f2)∧w'.cell? ⟨gs,(k+1)*2+1,none⟩=some (I t2))
        (first|(refine⟨?_,?_,?_,?_,?_⟩<;>assumption)|go_keep)
        ((go_at_call 80
          refine(az _ xE).mono ?_;rintro e w5 ⟨q5,c5,rfl,o5,l⟩;have m:Ext wi w5:=xE;have g0:=((g.bk 3).ext m).cl 0;have g1:=((g.bk 3).ext m).cl 1;have g2:=((g.bk 3).ext m).cl 2;have g3:w5.cell? ⟨gs,(k+1)*2,none⟩=some (I f2):=(m.cells.1 _ _ a6).trans d0;have g4:w5.cell? ⟨gs,(k+1)*2+1,none⟩=some (I t2):=(m.cells.1 _ _ a6).trans d1
          first
           |(have ap:Ext (wi.alloc (.cells #[(),(),((),())] TH3)) w5:=l
             have BB:=(Blk.new wi TH3 #[(),(),((),())]).ext ap;have da:=BB.cl 0;have db:=BB.cl 1;have dc:=BB.cl 2;have de:=BB.frozen 0;have df:=BB.frozen 1
             have dg:w5.frozen? ⟨wi,2,none⟩=false:=BB.frozen 2)
           |(have ap:Ext (wi.alloc (.cells #[(),(),((),())] TH3)) w5:=l.of_drew
             have BB:=(Blk.new wi TH3 #[(),(),((),())]).ext ap;have da:=BB.cl 0;have db:=BB.cl 1;have dc:=BB.cl 2;have de:=BB.frozen 0;have df:=BB.frozen 1
             have dg:w5.frozen? ⟨wi,2,none⟩=false:=BB.frozen 2)
           |skip))
       ·go_wp2_with fail;go_meet;exact⟨w5.heap.size,q5,c5,rfl,by exact .alloc m _,by have:=m.sz;omega,Blk.new _ _ _,bM (by exact o5.alloc _) (by simp)⟩
       have hR:ExtR wi w5 _:=(((ExtR.refl wi w5).setCell (p:=⟨wi,0,none⟩) (.inl rfl) (I aA)).setCell (p:=⟨wi,1,none⟩) (.inl rfl) (I aB)).setCell (p:=⟨wi,2,none⟩) (.inl rfl) (.slice q5 n c5);have hY:=((BB.set 0 (I aA)).set 1 (I aB)).set 2 (.slice q5 n c5);simp only[aTm,aTk,aTj]at hY;go_wp2_with fail;go_meet;exact⟨wi.heap.size,q5,c5,rfl,ExtR.new m hR (aT5 _),aT5 _,hY,bM (o5.kept hR (.inr (dV o5 BB (by decide)))) (by simp)⟩
      case rest=>
       clear v0 v1 v2 n1 n2 n3 n4 d0 d1;obtain⟨fn,q8,c8,rfl,a3,a4,a2,a7⟩:=hcut;have a0:=(g.blkOwn a3 a2 a4 a7 (aT5 _) (by decide))
       clear a3 a4 a2 a7 az g ab ad ae;obtain⟨s,af⟩:=a0.nq 1 3;obtain⟨x0,x1,x2⟩:=(a0.bk 1).tri;obtain⟨v0,c3,v1,c4,v2,c6⟩:=(a0.bk 3).trif;go_wp2;have dr:=(((a0.st 3 0 (I aA)).st 3 1 (I aB)).st 3 2 (.slice q8 n c8))
       generalize ba:World.setCell _ _ _=wz;rw[ba]at dr;clear ba s af x0 x1 x2 v0 c3 v1 c4 v2 c6 a0;go_roundw
       case rel=>exact⟨k+1,f2,t2,q8,c8,by omega,by go_num,ep.out,(dr.pick [0,3,4,5,6,7,8,9] (by decide) rfl)⟩
       case measure=>simp[intOf];omega
  obtain rfl:d=j:=by omega
  have d4:a=0:=au.2 rfl;have t0:decide ((0:Int)<(a:Int))=false:=by simp;omega
  have hE:=xQ HM.ext;have hO:=xQ (HM.ow 2);subst d4;go_wp2;rw[em.out];exact bodyPost_ret (v:= .tuple #[.slice q6 d lc,.bool true]) (by simp[results,results115,go_sem, *]) rfl ⟨q6,lc,by rw[pY],by rw[pY];exact hO.out,hE.out⟩
theorem aAv (aA aB id:Int)(p:OA)(n i:Nat)(xs:List Int)(w:World)(hS:Sl w p n i 1 (ivs xs))(g:aN aA aB xs=true){c:Nat}(l:1≤id)(hc:xs[c]? =some id):
  U 115 #[aH aA aB p n i,id] w (kO (dX aA xs c) w):=by
 have hl:=hS.ilen;subst hl;obtain⟨g1,g2,g3,g4,g5,g6,g7⟩:=cG (cY g);have h0:id≠0:=by omega
 have k:=mD hc h0;have m:(2:Nat) ^ xs.length≤4096:=aTg (aTl (by omega) g6) (by decide)
 refine aNq aA aB id p xs.length i c xs w g5 g6 g rfl h0 hc k.car (fun zs hz=> ?_) (fun D hD=>zZ g hc h0 hD) (fun D hD=> ?_) (fun D hD d hd j hj=> ?_) (fun D hD d hd j hj ys hw=>aMy g hc h0 hD hd hj hw) (fun ys hy hyl f t hm=> ?_) (fun ys q c9 f t w' hs hy hyl=> ?_)
  (fun D hD d hd j hj=>⟨trivial,(lQ g5 g6 hD k hd hj).2.2⟩) (fun w' hx=> ?_) (fun w' hx=>yW aA aB p xs.length i xs w' (hS.ext hx) g) (fun w' hx=> ?_) (fun w' hx=>gQ aA aB p xs.length i xs w' (by omega) (hS.ext hx)) (fun zs q c9 C2 w' hs hz hC=> ?_) (fun zs q c9 w' hs hz=>yW aA aB q xs.length c9 zs w' hs hz)
 ·have:=pH zs;rw[hz]at this;omega
 ·obtain⟨n1,n2,n3⟩:=vX g hc h0 hD;by_cases hf:bP xs= []
  ·by_cases hc0:c=0
   ·rw[n2 hc0];decide
   have:=n3 hf hc0;omega
  exact(n1 hf).2
 ·obtain⟨a,b⟩:=kL g5 g6 hD k hd j hj;exact⟨a.car,b,aPd g5 g6 hD k hd hj,aT4 a.set m⟩
 ·rw[←hyl]at hm;obtain⟨m1,m2,m3,m4⟩:=vV hy hm;exact⟨jK _ _ hy,by rw[dG,hyl],m3,m4⟩
 ·have:=nB aA aB (f:Int) (t:Int) q xs.length c9 ys w' hs hy;unfold dB at this;rw[dG,hyl]at this;exact this
 ·have:=uV aA aB id p xs.length i xs w' (hS.ext hx);rwa[aBr g l hc]at this
 ·refine(aId aA aB p xs.length i xs w' (hS.ext hx) g).mono fun e w'' h=> ?_
  obtain⟨D,hD,q,c',h1,h2,h3⟩:=h;have hl:=hD.len;rw[hl]at h1 h2;exact⟨D,hD,q,c',h1,h2,h3⟩
 have:=uV aA aB id q xs.length c9 zs w' hs;rwa[aBr hz l hC]at this
theorem aL7 (aA aB id:Int)(p:OA)(n a:Nat)(w:World)
  (c:xC 148 #[aH aA aB p n a,id] w fun w' e w''=>e= .returned (I (-1))∧Ext w' w''):
  U 115 #[aH aA aB p n a,id] w (kO none w):=by
 go_enter func115,ntmps115;go_wp2_with fail;refine Z (c _ (((Mem.start w).c0 TH3 #[aA,aB,.slice p n a]).made0 TSL 2 (w.heap.size+1) (by simp)).ext) fun w1 b=>?_
 have M1:=((((Mem.start w).c0 TH3 #[aA,aB,.slice p n a]).made0 TSL 2 (w.heap.size+1) (by simp)).adv b)
 clear b;have HX:=xQ (M1.ext);go_wp2;exact bodyPost_ret (v:= .tuple #[.slice (some ⟨w.heap.size+1,0,none⟩) 0 0,.bool false]) (by simp[results,results115,go_sem, *]) rfl ⟨_,rfl,HX.out⟩
theorem yG (aA aB id:Int)(p:OA)(n a:Nat)(xs:List Int)(w:World)(b:Hid (xs.length=n))
  (HV:xB 25 #[aH aA aB p n a] w true)
  (HB:xC 115 #[aH aA aB p n a,id] w fun w' e w''=> ∃v,e= .returned (.tuple #[v,.bool false])∧Ext w' w'')
  (HL:xC 48 #[aH aA aB p n a] w fun w' e w''=> ∃q c,e= .returned (aH aA aB q n c)∧w''.ownsRow w' TI 1 (.slice q n c) n (ivs xs)∧Ext w' w''):
  U 77 #[aH aA aB p n a,id] w (dA aA aB xs (-1) w):=by
 go_enter func77,ntmps77;go_wp2_with fail;refine Z (HV _ (((Mem.start w).c0 TH3 #[aA,aB,.slice p n a]).c1 TH3 #[(),(),((),())]).ext) fun w1 g=>?_
 have M1:=((((Mem.start w).c0 TH3 #[aA,aB,.slice p n a]).c1 TH3 #[(),(),((),())]).adv g)
 clear g;obtain⟨c0,c1,c2⟩:=(M1.bk 1).tri;go_wp2_with fail;clear c0 c1 c2;refine(HB _ M1.ext).mono ?_;rintro e w2 ⟨v,rfl,h⟩;have M2:=(M1.adv h)
 clear M1 h;obtain⟨c0,c1,c2⟩:=(M2.bk 1).tri;go_wp2_with fail;clear c0 c1 c2;refine(HL _ M2.ext).mono ?_;rintro e w3 ⟨q0,c0,rfl,d,i⟩;have M3:=(M2.call i d)
 clear M2 i d;have z_:=(M3.bk 1).trif;go_wp2;clear z_;have M4:=(((M3.st 1 0 (I aA)).st 1 1 (I aB)).st 1 2 (.slice q0 n c0))
 generalize f:World.setCell _ _ _=wz;rw[f]at M4;clear f M3;have j:=(M4.bk 1).tri;exact bodyPost_ret (v:= .tuple #[.agg #[aA,aB,.slice q0 n c0],(-1:Int)]) (by simp[results,results77,go_sem, *]) rfl (fE b.out (M4.ow 0) M4.ext)
theorem aEl (aA aB id:Int)(p:OA)(n a K:Nat)(ys:List Int)(sl:List Sl2)(w:World)(b:Hid (ys.length=n))
  (HV:xB 25 #[aH aA aB p n a] w true)
  (HB:xC 115 #[aH aA aB p n a,id] w fun w' e w''=> ∃q c,e= .returned (.tuple #[.slice q K c,.bool true])∧w''.ownsRow w' TSL 2 (.slice q K c) K (sl.flatMap aM)∧Ext w' w'')
  (HR:Hid (∀w' q c,Ext w w'→Sl w' q K c 2 (sl.flatMap aM)→U 112 #[aH aA aB p n a,.slice q K c] w' fun e w''=> ∃q c,e= .returned (.tuple #[aH aA aB q n c,K])∧w''.ownsRow w' TI 1 (.slice q n c) n (ivs ys)∧Ext w' w''))
  (HT:Hid (∀w' q c,Ext w w'→Sl w' q n c 1 (ivs ys)→U 116 #[aH aA aB q n c,()] w' fun e w''=> ∃q c i,e= .returned (.tuple #[aH aA aB q n c,i])∧w''.ownsRow w' TI 1 (.slice q n c) n (ivs (ys.set 0 0))∧Ext w' w'')):
  U 77 #[aH aA aB p n a,id] w (dA aA aB (ys.set 0 0) (K:Int) w):=by
 go_enter func77,ntmps77;go_wp2_with fail;refine Z (HV _ (((Mem.start w).c0 TH3 #[aA,aB,.slice p n a]).c1 TH3 #[(),(),((),())]).ext) fun w1 j=>?_
 have M1:=((((Mem.start w).c0 TH3 #[aA,aB,.slice p n a]).c1 TH3 #[(),(),((),())]).adv j)
 clear j;obtain⟨c0,c1,c2⟩:=(M1.bk 1).tri;go_wp2_with fail;clear c0 c1 c2;refine(HB _ M1.ext).mono ?_;rintro e w2 ⟨qs,cs,rfl,d,k⟩;have M2:=(M1.call k d)
 clear M1 k d;obtain⟨c0,c1,c2⟩:=(M2.bk 2).tri;go_wp2_with fail;clear c0 c1 c2;refine(HR _ qs cs M2.ext (M2.sq 0)).mono ?_;rintro e w3 ⟨q1,c1,rfl,f,l⟩;have M3:=(M2.call l f)
 clear M2 l f;go_wp2_with fail;refine(HT _ q1 c1 (M3.c0 TH3 #[aA,aB,.slice q1 n c1]).ext ((M3.c0 TH3 #[aA,aB,.slice q1 n c1]).sq 1)).mono ?_;rintro e w4 ⟨q2,c2,i2,rfl,g,m⟩;have M4:=((M3.c0 TH3 #[aA,aB,.slice q1 n c1]).call m g)
 clear M3 m g;have o:=M4.hi 4;have z_:=(M4.bk 4).trif;go_wp2;clear z_;have M5:=((((M4.st 4 0 (I aA)).st 4 1 (I aB)).st 4 2 (.slice q2 n c2)).bn TH3 #[aA,aB,.slice q2 n c2] w4)
 generalize h:World.alloc _ _=wz;rw[h]at M5;clear h M4;have r:=(M5.bk 5).tri;exact bodyPost_ret (v:= .tuple #[.agg #[aA,aB,.slice q2 n c2],K]) (by simp[results,results77,go_sem, *]) rfl (fE (by rw[aUi];exact b.out) (M5.ow 1) M5.ext)
def bW (aA aB:Int)(xs:List Int)(id:Int):List Int×Int:=
 match mE aA aB xs id with
 |none=>(xs,-1)
 |some r=>(r.1,(r.2:Int))
theorem aJw {aA aB:Int}{xs:List Int}{id:Int}(h:id<1∨id∉xs):jH aA aB xs id= -1:=by
 unfold jH;by_cases h1:aN aA aB xs=true∧1≤id
 ·rw[if_pos h1];rcases h with h|h
  ·omega
  exact vN h
 rw[if_neg h1]
theorem uA {xs:List Int}{id:Int}(h:id∈xs): ∃c:Nat,xs[c]? =some id∧pV xs id=(c:Int):=by
 induction xs with
 |nil=>cases h
 |cons x xs ih=>
  by_cases hx:x=id
  ·subst hx;exact⟨0,rfl,uB (k:=0) rfl (by simp)⟩
  have hm:id∈xs:=by
   rcases aTi.1 h with e|e
   ·exact absurd e.symm hx
   exact e
  obtain⟨c,h1,_⟩:=ih hm;obtain⟨k,d,f⟩: ∃k,(x::xs)[k]? =some id∧id∉(x::xs).take k:=by
   clear ih h1
   suffices hs: ∀(l:List Int),id∈l→ ∃k,l[k]? =some id∧id∉l.take k from hs _ h
   intro l;induction l with
   |nil=>intro h;cases h
   |cons y l ihl=>
    intro hy;by_cases e:y=id
    ·exact⟨0,by simp[e],by simp⟩
    ·obtain⟨k,a,b⟩:=ihl (by
      rcases aTi.1 hy with e2|e2
      ·exact absurd e2.symm e
      ·exact e2)
     exact⟨k+1,by simpa using a,by simp[b,Ne.symm e]⟩
  exact⟨k,d,uB d f⟩
theorem aGb (aA aB id:Int)(p:OA)(n a:Nat)(xs:List Int)(w:World)(hS:Sl w p n a 1 (ivs xs))(b:aN aA aB xs=true):
  U 77 #[aH aA aB p n a,id] w (dA aA aB (bW aA aB xs id).1 (bW aA aB xs id).2 w):=by
 have hl:=hS.ilen;subst hl;obtain⟨g1,g2,g3,g4,g5,g6,g7⟩:=cG (cY b);have HV: ∀w',Ext w w'→U 25 #[aH aA aB p xs.length a] w' (O (.bool true) w'):=fun w' hy=>by have:=gM aA aB p xs.length a xs w' (hS.ext hy);rwa[b]at this
 have HL:=fun(w':World) (hy:Ext w w')=>gQ aA aB p xs.length a xs w' (by omega) (hS.ext hy)
 by_cases hno:id<1∨id∉xs
 ·have e:bW aA aB xs id=(xs,-1):=by unfold bW mE;rw[if_pos hno]
  rw[e];refine yG aA aB id p xs.length a xs w rfl HV (fun w' hy=> ?_) HL;refine aL7 aA aB id p xs.length a w' (fun w2 hy2=> ?_);have:=uV aA aB id p xs.length a xs w2 (hS.ext (hy.trans hy2));rwa[aJw hno]at this
 have f:1≤id:=by omega
 have hm:id∈xs:=by
  by_cases hm:id∈xs
  ·exact hm
  exact absurd (.inr hm) hno
 obtain⟨c,hc,g⟩:=uA hm;have HB:=fun(w':World) (hy:Ext w w')=>aAv aA aB id p xs.length a xs w' (hS.ext hy) b f hc
 have d:(pV xs id).toNat=c:=by rw[g];simp
 cases hb:dX aA xs c with
 |none=>
  have e:bW aA aB xs id=(xs,-1):=by unfold bW mE;rw[if_neg hno,d,hb];rfl
  rw[e];rw[hb]at HB;exact yG aA aB id p xs.length a xs w rfl HV HB HL
 |some l=>
  obtain⟨b1,ys,b2,b3,b4,b5⟩:=(nN b hc (by omega)).2 l hb;have e:bW aA aB xs id=(ys.set 0 0,(l.length:Int)):=by unfold bW mE;rw[if_neg hno,d,hb];simp[b2]
  rw[e];rw[hb]at HB;refine aEl aA aB id p xs.length a l.length ys l w b4 HV HB (fun w' q c' hy hL=> ?_) (fun w' q c' hy hL=> ?_)
  ·have:=tK aA aB p xs.length a xs q l.length c' l w' b1 (hS.ext hy) hL b;rw[b2]at this;unfold dA at this;dsimp only at this;rw[b4]at this;exact this
  have:=aDp aA aB q xs.length c' ys w' hL b3;unfold dA at this;rw[aUi,b4]at this;refine this.mono fun e w'' h=> ?_
  obtain⟨q2,c2,h1,h2,h3⟩:=h;exact⟨q2,c2,_,h1,h2,h3⟩
end
section
section
variable {P:Program} {l:List Oper} {Q:Exit→Act→World→Prop} {md:Region.Mode} {S:World→Prop}
theorem aRr {i:Nat}{oi:Oper}{v:Value}{d:Nat}{b:Array Bool}{a:Act}{w:World}(hi:l[i]? =some oi)
  (hs:Region.noSelect l.toArray=true) (hf:Region.free md l.toArray b i=true) (hr:(Region.ready md l.toArray b).contains i=true)
  (hQ: ∀c a w,Q (.panic c) (a.put oi.dst v) w→Q (.panic c) a w) (hw:Region.wanted oi (yielded l.toArray a.tmps)=true) (hy: ∀w,S w→(execOp a.eval oi).run P w= .ok (.value v) w) (hS:S w)
  (h:wpAnyH P md l.toArray Q S d (b.setIfInBounds i true) (a.put oi.dst v) w):wpAnyH P md l.toArray Q S (d+1) b a w:=
 wpAnyH_take (by simpa using hi) hs hf hr hQ (.inl ⟨hw,hy⟩) hS h
theorem aRy {i:Nat}{oi:Oper}{d:Nat}{b:Array Bool}{a:Act}{w:World}(hi:l[i]? =some oi)
  (hs:Region.noSelect l.toArray=true) (hf:Region.free md l.toArray b i=true) (hr:(Region.ready md l.toArray b).contains i=true)
  (hQ: ∀c a w,Q (.panic c) (a.put oi.dst undef) w→Q (.panic c) a w) (hw:Region.wanted oi (yielded l.toArray a.tmps)=false) (hS:S w)
  (h:wpAnyH P md l.toArray Q S d (b.setIfInBounds i true) (a.put oi.dst undef) w):wpAnyH P md l.toArray Q S (d+1) b a w:=
 wpAnyH_take (by simpa using hi) hs hf hr hQ (.inr ⟨hw,rfl⟩) hS h
theorem eJ (i:Nat){oi:Oper}{v:Value}{d:Nat}{b:Array Bool}{a:Act}{w:World}(hy: ∀w,S w→(execOp a.eval oi).run P w= .ok (.value v) w)
  (h:wpAnyH P md l.toArray Q S d (b.setIfInBounds i true) (a.put oi.dst v) w)(hi:l[i]? =some oi:=by exact rfl) (hs:Region.noSelect l.toArray=true:=by kernel_rfl) (hf:Region.free md l.toArray b i=true:=by kernel_rfl) (hr:(Region.ready md l.toArray b).contains i=true:=by kernel_rfl)
  (hQ: ∀c a w,Q (.panic c) (a.put oi.dst v) w→Q (.panic c) a w:=by exact fun _ _ _ h=>h) (hw:Region.wanted oi (yielded l.toArray a.tmps)=true:=by rfl) (hS:S w:=by assumption):wpAnyH P md l.toArray Q S (d+1) b a w:=aRr hi hs hf hr hQ hw hy hS h
theorem lW (i:Nat){oi:Oper}{d:Nat}{b:Array Bool}{a:Act}{w:World}(h:wpAnyH P md l.toArray Q S d (b.setIfInBounds i true) (a.put oi.dst undef) w)(hi:l[i]? =some oi:=by exact rfl)
  (hs:Region.noSelect l.toArray=true:=by kernel_rfl) (hf:Region.free md l.toArray b i=true:=by kernel_rfl) (hr:(Region.ready md l.toArray b).contains i=true:=by kernel_rfl)
  (hQ: ∀c a w,Q (.panic c) (a.put oi.dst undef) w→Q (.panic c) a w:=by exact fun _ _ _ h=>h) (hw:Region.wanted oi (yielded l.toArray a.tmps)=false:=by rfl) (hS:S w:=by assumption):wpAnyH P md l.toArray Q S (d+1) b a w:=aRy hi hs hf hr hQ hw hS h
theorem aQ0 {c:Nat}{b:Array Bool}{a:Act}{w:World}{i:Nat}{o:Oper}(ho:l[i]? =some o)
  (h: ∀K':Act→World→Prop,Shut (∀a w,S w→(S w→wpAnyH P md l.toArray Q S c (b.setIfInBounds i true) a w)→K' a w)→if Region.wanted o (yielded l.toArray a.tmps)=true then Oper.wp P o a w K' Q else K' (a.put o.dst undef) w):
  AllReadyH P md l.toArray Q S c b a w [i]:=AllReadyH.cons (by simpa using ho) h AllReadyH.nil
end
end
end Go.Proofs.YthfmmibomhhmpaaGreatDoor
