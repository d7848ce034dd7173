/-
  Texts of this proof, packed (@packed).
-/
import Derived.Test.YtpelpnfhbepokaaGreatDoorU12
import Derived.Test.YtpelpnfhbepokaaGreatDoorU16
namespace Go.Proofs.YtpelpnfhbepokaaGreatDoor
open Go.RowKit
set_option linter.unusedVariables false
set_option linter.unusedSimpArgs false
set_option maxHeartbeats 16000000
set_option maxRecDepth 100000
def jG (r:Option (List Sl2))(w:World)(e:Ending)(w':World):Prop:=
 match r with
 |none=> ∃v,e= .returned (.tuple #[v,.bool false])∧Ext w w'
 |some l=> ∃q c,e= .returned (.tuple #[.slice q l.length c,.bool true])∧w'.ownsRow w.heap.size TSL 2 (.slice q l.length c) l.length (l.flatMap aK)∧Ext w w'
def aBl:Value→Nat
 | .slice _ n _=>n
 |_=>0
theorem iK {es:List (Nat×Nat)}{k f t:Nat}(h:es[k]? =some (f,t)):((es.map iR).flatMap aK)[k*2]? =some (.int .i64 (f:Int))∧((es.map iR).flatMap aK)[k*2+1]? =some (.int .i64 (t:Int)):=by
 have hx:(es.map iR)[k]? =some ((f:Int),(t:Int)):=by rw[List.getElem?_map,h];rfl
 have h0:=dW aK 2 (fun _=>rfl) _ _ _ hx 0 (by omega);have h1:=dW aK 2 (fun _=>rfl) _ _ _ hx 1 (by omega);exact⟨by simpa[aK]using h0,by simpa[aK]using h1⟩
theorem aJ6 (aA aB id:Int)(p:OA)(n cap c:Nat)(xs:List Int)(w:World)(f7:4≤n)(hn:n≤12)(fk:Hid (aN aA aB xs=true))(av:Hid (xs.length=n))(ej:Hid (id≠0))(hc:Hid (xs[c]? =some id)) (ff:Hid (c<n)) (cu:Hid (∀zs:List Int,zs.length=n→aM zs<4096))
  (ec:Hid (∀D,eK aA n (bE xs).length D→dH aA xs c=if aT D c (aM xs)<0 then none else some (nF aA n (aT D) (c,aM xs) (aT D c (aM xs)).toNat)))
  (fe:Hid (∀D,eK aA n (bE xs).length D→aT D c (aM xs)≤60))
  (d5:Hid (∀D,eK aA n (bE xs).length D→ ∀d:Nat,aT D c (aM xs)=d→ ∀j,j≤d→(gP aA n (aT D) (c,aM xs) j).1<n∧aT D (gP aA n (aT D) (c,aM xs) j).1 (gP aA n (aT D) (c,aM xs) j).2=(d:Int)-j∧((gP aA n (aT D) (c,aM xs) j).1=0↔j=d)∧(gP aA n (aT D) (c,aM xs) j).2<4096))
  (cv:Hid (∀D,eK aA n (bE xs).length D→ ∀d:Nat,aT D c (aM xs)=d→ ∀j,j<d→ ∀ys,yV aA aB xs D c id j ys→ ∃(J:Nat) (es:List (Nat×Nat)),es=dS aA n (aM ys)∧kM aA aB ys=es.map iR∧J<es.length∧es[J]? =some (fP aA n (aT D) (c,aM xs) j)∧
   (∀i e,i≤J→es[i]? =some e→e∈dS aA n (aM ys)∧(aT D (dF (gP aA n (aT D) (c,aM xs) j).1 e.1 e.2) (cT (aM ys) e.1 e.2)=(d:Int)-j-1↔i=J))∧
   ∀e,es[J]? =some e→yV aA aB xs D c id (j+1) (bC aA aB ys (e.1:Int) (e.2:Int))))
  (cq:Hid (∀ys,aN aA aB ys=true→ys.length=n→ ∀f t,(f,t)∈dS aA n (aM ys)→aN aA aB (bC aA aB ys (f:Int) (t:Int))=true∧(bC aA aB ys (f:Int) (t:Int)).length=n∧aM (bC aA aB ys (f:Int) (t:Int))=cT (aM ys) f t∧ ∀c id,ys[c]? =some id→id≠0→(bC aA aB ys (f:Int) (t:Int))[dF c f t]? =some id))
  (eo:Hid (∀ys q c9 (f t:Nat) w',Sl w' q n c9 1 (ivs ys)→aN aA aB ys=true→ys.length=n→Calls Tryz.prog 88 #[aH aA aB q n c9,dQ (f:Int) (t:Int)] w' fun e w''=> ∃q5 c5,e= .returned (.tuple #[aH aA aB q5 n c5,.bool (aZ aA aB ys (f:Int) (t:Int))])∧w''.ownsRow w'.heap.size TI 1 (.slice q5 n c5) n (ivs (bC aA aB ys (f:Int) (t:Int)))∧Ext w' w''))
  (cx:Hid (∀D,eK aA n (bE xs).length D→ ∀d:Nat,aT D c (aM xs)=d→ ∀j,j<d→True∧gP aA n (aT D) (c,aM xs) (j+1)=jI (gP aA n (aT D) (c,aM xs) j) (fP aA n (aT D) (c,aM xs) j)))
  (e8:xC 180 #[aH aA aB p n cap,id] w fun w' e w''=>e= .returned (.int .i64 (c:Int))∧Ext w' w'')
  (cf:xC 182 #[aH aA aB p n cap] w fun w' e w''=>e= .returned (.int .i64 (aM xs:Int))∧Ext w' w'')
  (fb:xC 181 #[aH aA aB p n cap] w fun w' e w''=> ∃D,eK aA n (bE xs).length D∧ ∃q c,e= .returned (.slice q 49152 c)∧w''.ownsRow w'.heap.size TI 1 (.slice q 49152 c) 49152 (ivs D)∧Ext w' w'')
  (HL:xC 81 #[aH aA aB p n cap] w fun w' e w''=> ∃q c,e= .returned (aH aA aB q n c)∧w''.ownsRow w'.heap.size TI 1 (.slice q n c) n (ivs xs)∧Ext w' w'')
  (cc:Hid (∀zs q c9 (C2:Nat) w',Sl w' q n c9 1 (ivs zs)→aN aA aB zs=true→zs[C2]? =some id→Calls Tryz.prog 180 #[aH aA aB q n c9,id] w' fun e w''=>e= .returned (.int .i64 (C2:Int))∧Ext w' w''))
  (bc:Hid (∀zs q c9 w',Sl w' q n c9 1 (ivs zs)→aN aA aB zs=true→Calls Tryz.prog 182 #[aH aA aB q n c9] w' fun e w''=>e= .returned (.int .i64 (aM zs:Int))∧Ext w' w'')):
  Calls Tryz.prog 135 #[aH aA aB p n cap,id] w (jG (dH aA xs c) w):=by
 go_enter Tryz.func135,Tryz.ntmps135;go_wp2_with fail;refine(e8 _ (((Mem.start w).c0 TH3 #[aA,aB,.slice p n cap]).made0 TSL 2 (w.heap.size+1) (by simp)).ext).mono ?_;rintro e w1 ⟨rfl,ep⟩;have M1:=((((Mem.start w).c0 TH3 #[aA,aB,.slice p n cap]).made0 TSL 2 (w.heap.size+1) (by simp)).adv ep)
 have bb:=M1.hi 1;clear ep;obtain⟨c0,c1,c2⟩:=(M1.bk 1).tri;go_wp2_with fail;clear c0 c1 c2;refine(fb _ M1.ext).mono ?_;rintro e w2 ⟨D,hD,ql,cl,rfl,em,er⟩;have M2:=(M1.call er em)
 clear M1 bb er em;have cy:=M2.hi 2;obtain⟨gT,rfl,fv,fw⟩:=M2.so 0;have HD:=xQ hD;have f6:c<n:=ff.out;obtain⟨S,hS⟩: ∃S,S=aM xs:=⟨_,rfl⟩
 have f5:S<4096:=by rw[hS];exact cu.out xs av.out
 obtain⟨V0,cn⟩: ∃V0,V0=c*4096+S:=⟨_,rfl⟩
 have fh:IntKind.i64.wrap ((c:Int)*4096)=(c:Int)*4096:=IntWalk.i64_in _ (by omega);have fi:IntKind.i64.wrap ((c:Int)*4096+(S:Int))=(V0:Int):=(IntWalk.i64_in _ (by omega)).trans (by omega);have s1:(0:Int)≤(V0:Int):=by omega
 have s2:(V0:Int)<49152:=by omega
 obtain⟨dv,ed,b0⟩: ∃dv,D[V0]? =some dv∧aT D c (aM xs)=dv:=⟨_,(dB (D:=D) (v:=V0) (by rw[hD.len];show _<49152;omega)).1,by rw[cn,hS];rfl⟩
 have ay:=xQ b0;have HS:=xQ hS;have f1:=xQ cn;clear hD b0 hS cn;obtain⟨c0,c1,c2⟩:=(M2.bk 2).tri;go_wp2_with fail;clear c0 c1 c2;have ce:=xQ (cf _ M2.ext);rw[←HS.out]at ce;refine ce.out.mono ?_;rintro e w3 ⟨rfl,et⟩;have M3:=(M2.adv et)
 clear M2 cy et ce;have c3:=M3.hi 2;have cd:w3.cell? ⟨gT,V0,none⟩=some (.int .i64 dv):=by have:=(M3.ow 0).cellAt V0 (by omega);rw[this];simp[ivs,ed]
 clear ed;by_cases hneg:dv<0
 ·have t0:decide (dv<0)=true:=by simp[hneg]
  have fj:Hid (dH aA xs c=none):=by show _=_;rw[ec.out D HD.out,ay.out,if_pos hneg]
  have HX:=xQ (M3.ext);go_wp2;rw[fj.out];exact bodyPost_ret (v:= .tuple #[.slice (some ⟨w.heap.size+1,0,none⟩) 0 0,.bool false]) (by simp[results,Tryz.results135,go_sem, *]) rfl ⟨_,rfl,by have:=HX.out;exact this⟩
 have t0:decide (dv<0)=false:=by simp;omega
 obtain⟨d,rfl⟩:=Int.eq_ofNat_of_zero_le (show 0≤dv by omega);have fu:d≤60:=by have:=fe.out D HD.out;rw[ay.out]at this;omega
 have ew:Hid (dH aA xs c=some (nF aA n (aT D) (c,aM xs) d)):=by show _=_;rw[ec.out D HD.out,ay.out,if_neg hneg];rfl
 clear hneg;have cb:=xQ (show aT D c (aM xs)=(d:Int)from ay.out);clear ay;obtain⟨c0,c1,c2⟩:=(M3.bk 2).tri;go_wp2_with fail;clear c0 c1 c2 cd t0 fh fi s1 s2;refine(HL _ M3.ext).mono ?_;rintro e w4 ⟨q0,c0,rfl,en,eu⟩;have M4:=(M3.call eu en)
 clear M3 c3 eu en;have c4:=M4.hi 3;obtain⟨a9,co⟩: ∃a9,a9=w4.heap.size:=⟨_,rfl⟩
 have d4:=(show Mem w (w4.alloc (.cells #[aA,aB,.slice q0 n c0] TH3)) [aJ w.heap.size (a9) TH3 #[aA,aB,.slice q0 n c0],aI w.heap.size TI 1 (q0) (n) (c0) (ivs xs),aI w.heap.size TSL 2 (some ⟨w.heap.size+1,0,none⟩) (0) (0) ([]),aI w.heap.size TI 1 (some ⟨gT,0,none⟩) (49152) (cl) (ivs D),aJ w.heap.size (w.heap.size) TH3 #[aA,aB,.slice p n cap]]from by rw[co];exact(M4.c0 TH3 #[aA,aB,.slice q0 n c0]).pick [0,1,3,2,4] (by decide) rfl)
 clear M4 c4;go_wp2;rw[←co];go_loopw [6,7] (fun v i wr=> ∃(j:Nat) (ys:List Int) (q:OA) (c9:Nat) (q6:OA) (lc:Nat),j≤d∧i= .int .i64 ((gP aA n (aT D) (c,aM xs) j).1:Int)∧v= .slice q6 j lc∧yV aA aB xs D c id j ys∧Mem w wr [aJ w.heap.size (a9) TH3 #[aA,aB,.slice q n c9],aI w.heap.size TI 1 (q) (n) (c9) (ivs ys),aI w.heap.size TSL 2 (q6) (j) (lc) ((nF aA n (aT D) (c,aM xs) (j)).flatMap aK),aI w.heap.size TI 1 (some ⟨gT,0,none⟩) (49152) (cl) (ivs D),aJ w.heap.size (w.heap.size) TH3 #[aA,aB,.slice p n cap]]) (fun v _ _=>d-aBl v)
 case atStart=>exact⟨0,xs,q0,c0,_,0,Nat.zero_le _,rfl,rfl,⟨fk.out,rfl,rfl,hc.out⟩,d4⟩
 case round=>
  clear d4 co;obtain⟨j,ys,q,c9,q6,lc,hj,rfl,rfl,b9,hM⟩:=hrel;have HM:=hM;have HW:=xQ b9;clear hM b9;obtain⟨a,ha⟩: ∃a,a=(gP aA n (aT D) (c,aM xs) j).1:=⟨_,rfl⟩
  have HA:=xQ ha;have fg:=d5.out D HD d cb j hj;obtain⟨eh,a4,au,ei⟩:=fg;rw[←ha]at eh a4 au⊢;clear ha;by_cases hlt:j<d
  ·have eb:0<a:=Nat.pos_of_ne_zero (fun e=>by have:=au.1 e;omega);have t0:decide ((0:Int)<(a:Int))=true:=by simp;omega
   have ba:ys.length=n:=by rw[HW.out.len];exact av.out
   obtain⟨J,es,ee,ag,hJ,ef,eg,b6⟩:=cv.out D HD d cb j hlt ys HW.out;have fy:=xQ ee;have e6:=xQ eg;have fc:=xQ b6;have e7:=xQ ef;have cg:=xQ (fun w' (hx:Ext wr w')=>wM aA aB q n c9 ys w' ((HM.sq 1).ext hx) HW.out.ok);clear ee eg b6 ef;obtain⟨KS,hK⟩: ∃KS,KS=es.length:=⟨_,rfl⟩
   have d6:(es.map iR).length=KS:=by rw[List.length_map,hK]
   have fr:KS≤144:=by rw[hK,←List.length_map (f:=iR),←ag];unfold kM;rw[ba];exact Nat.le_trans (aH1 _ _ _) (Nat.mul_le_mul hn hn)
   have HK:=xQ hK;have f4:J<KS:=by rw[hK];exact hJ
   rw[ag]at cg;clear hK hJ ag;obtain⟨S1,bg⟩: ∃S1,S1=aM ys:=⟨_,rfl⟩
   have bd:=xQ bg;have fs:S1<4096:=by rw[bg];exact cu.out ys ba
   have bt:aT D a S1=(d:Int)-j:=by rw[bg,HW.out.free,av.out];exact a4
   have dr:=xQ bt;clear bg bt a4 ei au;have fm:=(HM.hi 0)
   obtain⟨v0,v1,v2⟩:=(HM.bk 0).tri;go_wp2_with fail;clear v0 v1 v2 fm;refine(cg _ (Ext.refl _)).mono ?_;rintro e w7 ⟨qs,cs,rfl,cw,ev⟩;rw[d6]at cw⊢;clear cg d6;have M1:=(HM.call ev cw)
   clear HM ev cw;have bb:=M1.hi 1;have fl:=M1.hi 5;obtain⟨gs,rfl,fx,a5⟩:=M1.so 0;obtain⟨f0,ax,bh⟩: ∃f t,es[0]? =some (f,t):=⟨_,_,List.getElem?_eq_getElem (by rw[←HK.out];omega)⟩
   have dt:=xQ bh;have d0:w7.cell? ⟨gs,0,none⟩=some (.int .i64 (f0:Int)):=by have:=(M1.ow 0).cellAt 0 (by omega);rw[this];exact(iK bh).1
   have d1:w7.cell? ⟨gs,1,none⟩=some (.int .i64 (ax:Int)):=by have:=(M1.ow 0).cellAt 1 (by omega);rw[this];exact(iK bh).2
   clear bh;have i2:(0:Int)<(KS:Int):=by omega
   have f8:0<KS:=by omega
   have az:=xQ (fun w' (hx:Ext w7 w')=>eo.out ys q c9 f0 ax w' ((M1.sq 2).ext hx) HW.out.ok ba);obtain⟨v0,v1,v2⟩:=(M1.bk 1).tri;have n1: ¬(a9=w7.heap.size):=by have:=(M1.hi 1);omega
   have n2: ¬(w7.heap.size=a9):=fun h=>n1 h.symm
   have n3: ¬(gs=w7.heap.size):=by omega
   have n4: ¬(w7.heap.size=gs):=fun h=>n3 h.symm
   go_upto_region 12 with fail;go_cut [12,13] (fun s1 s2 wx=> ∃(a:Nat) (q5:OA) (c5:Nat),s1= .pointer (some ⟨a,0,none⟩)∧Ext w7 wx∧w7.heap.size≤a∧Blk wx a TH3 #[aA,aB,.slice q5 n c5]∧wx.ownsRow w7.heap.size TI 1 (.slice q5 n c5) n (ivs (bC aA aB ys ((f0:Nat):Int) ((ax:Nat):Int))))
   case first=>
    go_region_held3 (fun w'=>w'.cell? ⟨a9,0,none⟩=some (.int .i64 aA)∧w'.cell? ⟨a9,1,none⟩=some (.int .i64 aB)∧w'.cell? ⟨a9,2,none⟩=some (.slice q n c9)∧w'.cell? ⟨gs,0,none⟩=some (.int .i64 (f0:Int))∧w'.cell? ⟨gs,1,none⟩=some (.int .i64 (ax:Int)))
     (first|(refine⟨?_,?_,?_,?_,?_⟩<;>assumption)|go_keep)
     ((go_at_call 88
       refine(az _ xE).mono ?_;rintro e w5 ⟨q5,c5,rfl,o5,l⟩;have m:Ext w7 w5:=xE;have g0:=((M1.bk 1).ext m).cl 0;have g1:=((M1.bk 1).ext m).cl 1;have g2:=((M1.bk 1).ext m).cl 2;have g3:w5.cell? ⟨gs,0,none⟩=some (.int .i64 (f0:Int)):=(m.cells.1 _ _ a5).trans d0;have g4:w5.cell? ⟨gs,1,none⟩=some (.int .i64 (ax:Int)):=(m.cells.1 _ _ a5).trans d1
       first
        |(have ap:Ext (w7.alloc (.cells #[(),(),((),())] TH3)) w5:=l
          have BB:=(Blk.new w7 TH3 #[(),(),((),())]).ext ap;have dk:=BB.cl 0;have dl:=BB.cl 1;have dm:=BB.cl 2;have dn:=BB.frozen 0;have dp:=BB.frozen 1
          have dq:w5.frozen? ⟨w7.heap.size,2,none⟩=false:=BB.frozen 2)
        |(have ap:Ext (w7.alloc (.cells #[(),(),((),())] TH3)) w5:=l.of_drew
          have BB:=(Blk.new w7 TH3 #[(),(),((),())]).ext ap;have dk:=BB.cl 0;have dl:=BB.cl 1;have dm:=BB.cl 2;have dn:=BB.frozen 0;have dp:=BB.frozen 1
          have dq:w5.frozen? ⟨w7.heap.size,2,none⟩=false:=BB.frozen 2)
        |skip))
    ·go_wp2_with fail;go_meet;exact⟨w5.heap.size,q5,c5,rfl,by exact .alloc m _,by have:=m.sz;omega,Blk.new _ _ _,bK (by exact o5.alloc _) (by simp)⟩
    have hR:ExtR w7.heap.size w5 _:=(((ExtR.refl w7.heap.size w5).setCell (p:=⟨w7.heap.size,0,none⟩) (.inl rfl) (.int .i64 aA)).setCell (p:=⟨w7.heap.size,1,none⟩) (.inl rfl) (.int .i64 aB)).setCell (p:=⟨w7.heap.size,2,none⟩) (.inl rfl) (.slice q5 n c5);have hY:=((BB.set 0 (.int .i64 aA)).set 1 (.int .i64 aB)).set 2 (.slice q5 n c5);simp only[List.setIfInBounds_toArray,List.set_cons_zero,List.set_cons_succ]at hY;go_wp2_with fail;go_meet;exact⟨w7.heap.size,q5,c5,rfl,ExtR.new m hR (Nat.le_refl _),Nat.le_refl _,hY,bK (o5.kept hR (.inr (dD o5 BB (by decide)))) (by simp)⟩
   case rest=>
    clear v0 v1 v2 n1 n2 n3 n4 d0 d1;obtain⟨a0,q5,c5,rfl,a2,a3,a1,a6⟩:=hcut;have d2:=(M1.blkOwn a2 a1 a3 a6 (Nat.le_refl _) (by decide))
    clear a2 a3 a1 a6 az M1;go_wp2;go_loopw [11] (fun i wx=> ∃(k f t:Nat) (qz:OA) (cz:Nat),k≤J∧i= .int .i64 (k:Int)∧es[k]? =some (f,t)∧Mem w wx [aI w.heap.size TI 1 (qz) (n) (cz) (ivs (bC aA aB ys ((f:Nat):Int) ((t:Nat):Int))),aJ w.heap.size (a0) TH3 #[aA,aB,.slice qz n cz],aI w.heap.size TSL 2 (some ⟨gs,0,none⟩) (KS) (cs) ((es.map iR).flatMap aK),aJ w.heap.size (a9) TH3 #[aA,aB,.slice q n c9],aI w.heap.size TI 1 (q) (n) (c9) (ivs ys),aI w.heap.size TSL 2 (q6) (j) (lc) ((nF aA n (aT D) (c,aM xs) (j)).flatMap aK),aI w.heap.size TI 1 (some ⟨gT,0,none⟩) (49152) (cl) (ivs D),aJ w.heap.size (w.heap.size) TH3 #[aA,aB,.slice p n cap]]) (fun i _=>J-(intOf i).toNat)
    case atStart=>exact⟨0,f0,ax,q5,c5,Nat.zero_le _,rfl,dt.out,d2⟩
    case round=>
     clear d2 dt;obtain⟨k,f,t,qz,cz,hk,rfl,ct,hM⟩:=hrel;have b:=hM;obtain⟨ek,aw⟩:=e6 k (f,t) hk ct;have aq:=xQ ct;clear hM ct;obtain⟨z1,z2,z3,z4⟩:=cq.out ys HW.out.ok ba f t ek;have z5:=z4 a id (by have:=HW.out.at_;rw[av.out,←HA.out]at this;exact this) ej.out;rw[←HA.out,←bd.out]at aw;rw[←bd.out]at z3;clear z4 ek;generalize ey:bC aA aB ys ((f:Nat):Int) ((t:Nat):Int)=zs at*;obtain⟨C2,ck⟩: ∃C2,C2=dF a f t:=⟨_,rfl⟩
     obtain⟨S2,cm⟩: ∃S2,S2=cT S1 f t:=⟨_,rfl⟩
     rw[←ck]at z5 aw;rw[←cm]at z3 aw;have fq:C2<n:=by have:=(List.getElem?_eq_some_iff.1 z5).1;omega
     have ft:S2<4096:=by rw[←z3];exact cu.out zs z2
     obtain⟨V1,d7⟩: ∃V1,V1=C2*4096+S2:=⟨_,rfl⟩
     obtain⟨V2,d9⟩: ∃V2,V2=a*4096+S1:=⟨_,rfl⟩
     have d8:V1<49152:=by omega
     have ea:V2<49152:=by omega
     obtain⟨u,bx,bv⟩: ∃dv,D[V1]? =some dv∧aT D C2 S2=dv:=⟨_,(dB (D:=D) (v:=V1) (by rw[HD.out.len];exact d8)).1,by rw[d7];rfl⟩
     obtain⟨dd,bz,bw⟩: ∃dv,D[V2]? =some dv∧aT D a S1=dv:=⟨_,(dB (D:=D) (v:=V2) (by rw[HD.out.len];exact ea)).1,by rw[d9];rfl⟩
     have bu:dd=(d:Int)-j:=by rw[←bw];exact dr.out
     have o:0≤dd:=by omega
     have r:dd≤60:=by omega
     rw[bv,←bu]at aw;have fd:=xQ ey;have e4:=xQ ck;have fz:=xQ cm;have dw:=aw;have Z1:=xQ z1;have Z2:=xQ z2;have Z3:=xQ z3;have Z5:=xQ z5;have bi:IntKind.i64.wrap ((C2:Int)*4096+(S2:Int))=(V1:Int):=(IntWalk.i64_in _ (by omega)).trans (by omega);have bj:IntKind.i64.wrap ((a:Int)*4096+(S1:Int))=(V2:Int):=(IntWalk.i64_in _ (by omega)).trans (by omega);have dy:=xQ bi;have dz:=xQ bj;have ah:gT<wr.heap.size:=(b.hi 6)
     have x:wr.cell? ⟨gT,V1,none⟩=some (.int .i64 u):=by have:=(b.ow 6).cellAt V1 (by omega);rw[this];simp[ivs,bx]
     have y:wr.cell? ⟨gT,V2,none⟩=some (.int .i64 dd):=by have:=(b.ow 6).cellAt V2 (by omega);rw[this];simp[ivs,bz]
     have b1:(0:Int)≤(V1:Int):=by omega
     have b2:(V1:Int)<49152:=by omega
     have b3:(0:Int)≤(V2:Int):=by omega
     have b4:(V2:Int)<49152:=by omega
     clear ey ck cm aw z1 z2 z3 z5 bx bz bv bw bu bi bj d7 d9;by_cases hkJ:k=J
     ·have ar:u=dd-1:=by have:=dw.2 hkJ;omega
      have ds:=xQ ar;clear ar;subst hkJ;go_wp2;refine rL (gl [gEq (.slice (some ⟨gT,0,none⟩) 49152 cl),gEq (.agg #[aA,aB,.slice qz n cz]),gEq id,gEq (C2:Int),gEq ((C2:Int)*4096:Int),gEq (.agg #[aA,aB,.slice qz n cz]),gEq (S2:Int),gEq (V1:Int),gEq (.pointer (some ⟨gT,V1,none⟩)),gEq u,gEq (.slice (some ⟨gT,0,none⟩) 49152 cl),gEq (a:Int),gEq ((a:Int)*4096:Int),gEq (.agg #[aA,aB,.slice q n c9]),gEq (S1:Int),gEq (V2:Int),gEq (.pointer (some ⟨gT,V2,none⟩)),gEq dd,gEq (dd-1:Int),gEq (.bool false)]) 20 20 [(0,some 50),(1,some 51),(2,some 52),(3,some 53),(4,some 54),(5,some 55),(6,some 56),(7,some 57),(8,some 58),(9,some 59),(10,some 60),(11,some 61),(12,some 62),(13,some 63),(14,some 64),(15,some 65),(16,some 66),(17,some 67),(18,some 68),(19,some 69)] ?steps ?fin
      case steps=>
       refine sS0 [] ?_;refine sC [] rfl (fun wi hx=> ?_) ?_
       ·intro K hK;have hX:=hx.of_drew;have aa:=((b.bk 1).ext hX).cl 0;have x:=((b.bk 1).ext hX).cl 1;have y:=((b.bk 1).ext hX).cl 2;go_simp;exact hK _ _ ⟨.agg #[aA,aB,.slice qz n cz],rfl,rfl,Ext.refl _⟩
       refine sS0 [] ?_;refine sC [(1,some 51),(2,some 52)] rfl (fun wi hx=> ?_) ?_
       ·intro v1 h1 v2 h2 K hK;obtain rfl:=h1;obtain rfl:=h2;have hX:=hx.of_drew;clear b1 b2 b3 b4 o r;have HH:=xQ (cc zs qz cz C2 wi ((b.adv hX).sq 0) Z1 Z5.out);go_wp2_with fail;refine HH.out.mono ?_;rintro e w5 ⟨rfl,l⟩;go_simp;exact hK _ _ ⟨.int .i64 (C2:Int),rfl,rfl,l⟩
       refine sC [(3,some 53)] rfl (fun wi hx=> ?_) ?_
       ·intro v3 h3 K hK;obtain rfl:=h3;have a7:IntKind.i64.wrap ((C2:Int)*4096)=(C2:Int)*4096:=IntWalk.i64_in _ (by omega);go_simp;exact hK _ _ ⟨.int .i64 ((C2:Int)*4096),rfl,rfl,Ext.refl _⟩
       refine sC [] rfl (fun wi hx=> ?_) ?_
       ·intro K hK;have hX:=hx.of_drew;have aa:=((b.bk 1).ext hX).cl 0;have x:=((b.bk 1).ext hX).cl 1;have y:=((b.bk 1).ext hX).cl 2;go_simp;exact hK _ _ ⟨.agg #[aA,aB,.slice qz n cz],rfl,rfl,Ext.refl _⟩
       refine sC [(5,some 55)] rfl (fun wi hx=> ?_) ?_
       ·intro v5 h5 K hK;obtain rfl:=h5;have hX:=hx.of_drew;clear b1 b2 b3 b4 o r;have HH:=xQ (bc zs qz cz wi ((b.adv hX).sq 0) Z1.out);rw[Z3.out]at HH;go_wp2_with fail;refine HH.out.mono ?_;rintro e w5 ⟨rfl,l⟩;go_simp;exact hK _ _ ⟨.int .i64 (S2:Int),rfl,rfl,l⟩
       refine sC [(4,some 54),(6,some 56)] rfl (fun wi hx=> ?_) ?_
       ·intro v4 h4 v6 h6 K hK;obtain rfl:=h4;obtain rfl:=h6;have bi:=dy.out;go_simp;exact hK _ _ ⟨.int .i64 (V1:Int),rfl,rfl,Ext.refl _⟩
       refine sS2 [(0,some 50),(7,some 57)] ?_;refine sC [(8,some 58)] rfl (fun wi hx=> ?_) ?_
       ·intro v8 h8 K hK;obtain rfl:=h8;have hX:=hx.of_drew;have aa:wi.cell? ⟨gT,V1,none⟩=some (.int .i64 u):=(hX.cells.1 _ _ ah).trans x;go_simp;exact hK _ _ ⟨.int .i64 u,rfl,rfl,Ext.refl _⟩
       refine sS0 [] (sS0 [] ?_);refine sC [(11,some 61)] rfl (fun wi hx=> ?_) ?_
       ·intro c6 ai K hK;obtain rfl:=ai;have a7:IntKind.i64.wrap ((a:Int)*4096)=(a:Int)*4096:=IntWalk.i64_in _ (by omega);go_simp;exact hK _ _ ⟨.int .i64 ((a:Int)*4096),rfl,rfl,Ext.refl _⟩
       refine sC [] rfl (fun wi hx=> ?_) ?_
       ·intro K hK;have hX:=hx.of_drew;have aa:=((b.bk 3).ext hX).cl 0;have x:=((b.bk 3).ext hX).cl 1;have y:=((b.bk 3).ext hX).cl 2;go_simp;exact hK _ _ ⟨.agg #[aA,aB,.slice q n c9],rfl,rfl,Ext.refl _⟩
       refine sC [(13,some 63)] rfl (fun wi hx=> ?_) ?_
       ·intro db ak K hK;obtain rfl:=ak;have hX:=hx.of_drew;clear b1 b2 b3 b4 o r;have HH:=xQ (bc ys q c9 wi ((b.adv hX).sq 4) HW.out.ok);rw[←bd.out]at HH;go_wp2_with fail;refine HH.out.mono ?_;rintro e w5 ⟨rfl,l⟩;go_simp;exact hK _ _ ⟨.int .i64 (S1:Int),rfl,rfl,l⟩
       refine sC [(12,some 62),(14,some 64)] rfl (fun wi hx=> ?_) ?_
       ·intro da aj dc al K hK;obtain rfl:=aj;obtain rfl:=al;have bj:=dz.out;go_simp;exact hK _ _ ⟨.int .i64 (V2:Int),rfl,rfl,Ext.refl _⟩
       refine sS2 [(10,some 60),(15,some 65)] ?_;refine sC [(16,some 66)] rfl (fun wi hx=> ?_) ?_
       ·intro de am K hK;obtain rfl:=am;have hX:=hx.of_drew;have aa:wi.cell? ⟨gT,V2,none⟩=some (.int .i64 dd):=(hX.cells.1 _ _ ah).trans y;go_simp;exact hK _ _ ⟨.int .i64 dd,rfl,rfl,Ext.refl _⟩
       refine sC [(17,some 67)] rfl (fun wi hx=> ?_) ?_
       ·intro df an K hK;obtain rfl:=an;have a7:IntKind.i64.wrap (dd-1)=dd-1:=IntWalk.i64_in _ (by omega);go_simp;exact hK _ _ ⟨.int .i64 (dd-1),rfl,rfl,Ext.refl _⟩
       refine sC [(9,some 59),(18,some 68)] rfl (fun wi hx=> ?_) StepsL.nil
       ·intro v9 h9 dg ao K hK;obtain rfl:=h9;obtain rfl:=ao;have cp:(u !=(dd-1))=false:=by rw[ds.out];simp
        go_simp;exact hK _ _ ⟨.bool false,rfl,rfl,Ext.refl _⟩
      case fin=>
       intro wi hx v0 h0 v1 h1 v2 h2 v3 h3 v4 h4 v5 h5 v6 h6 v7 h7 v8 h8 v9 h9 fn ch c6 ai da aj db ak dc al fo ci de am df an dg ao fp cj;obtain rfl:=h0;obtain rfl:=h1;obtain rfl:=h2;obtain rfl:=h3;obtain rfl:=h4;obtain rfl:=h5;obtain rfl:=h6;obtain rfl:=h7;obtain rfl:=h8;obtain rfl:=h9;obtain rfl:=ch;obtain rfl:=ai;obtain rfl:=aj;obtain rfl:=ak;obtain rfl:=al;obtain rfl:=ci;obtain rfl:=am;obtain rfl:=an;obtain rfl:=ao;obtain rfl:=cj;refine wpAny_done (by kernel_rfl) ?_ _;try go_frame
       have hX:Ext wr wi:=hx.of_drew;have g:=(b.adv hX)
       clear b hx hX x y b1 b2 b3 b4 o r;have ab:=g.hi 1;have ad:=g.hi 3;have ae:=g.hi 7;have el:=fc (f,t) aq.out;have cr:=e7.out;rw[aq.out]at cr;have b5:fP aA n (aT D) (c,aM xs) j=(f,t):=(Option.some.inj cr).symm;have du:=xQ b5;have b8:yV aA aB xs D c id (j+1) zs:=by have:=fd.out;rw[←this];exact el
       have dx:=xQ b8;clear el b8 cr b5;have i1:(0:Int)≤(k:Int):=by omega
       have i3:(k:Int)<(KS:Int):=by omega
       have e0:wi.cell? ⟨gs,k*2,none⟩=some (.int .i64 (f:Int)):=by have:=(g.ow 2).cellAt (k*2) (by omega);rw[this];exact(iK aq.out).1
       have e1:wi.cell? ⟨gs,k*2+1,none⟩=some (.int .i64 (t:Int)):=by have:=(g.ow 2).cellAt (k*2+1) (by omega);rw[this];exact(iK aq.out).2
       go_wp2_with (at_builtin;refine cR qY rfl _ _ rfl (g.adv ((Ext.refl _).alloc (.cells #[(f:Int),(t:Int)] TSL))) 5 rfl rfl (aK ((f:Int),(t:Int))) rfl (eU _ _ _ 1 2 _ (by first|rfl|simp) (by first|rfl|simp) (by simp[maxLen])) (mL _ _) (by omega) ?_;intro q7 c7 w6 M6;(have M7:=xQ (show Mem w w6 [aI w.heap.size TI 1 (qz) (n) (cz) (ivs (zs)),aJ w.heap.size (a0) TH3 #[aA,aB,.slice qz n cz],aI w.heap.size TSL 2 (some ⟨gs,0,none⟩) (KS) (cs) ((es.map iR).flatMap aK),aJ w.heap.size (a9) TH3 #[aA,aB,.slice q n c9],aI w.heap.size TI 1 (q) (n) (c9) (ivs ys),aI w.heap.size TSL 2 (q7) (j+1) (c7) ((nF aA n (aT D) (c,aM xs) (j+1)).flatMap aK),aI w.heap.size TI 1 (some ⟨gT,0,none⟩) (49152) (cl) (ivs D),aJ w.heap.size (w.heap.size) TH3 #[aA,aB,.slice p n cap]]from by rw[xF,List.flatMap_append,du.out];exact M6));clear M6 e0 e1 g ab ad ae;(have bl:a0<w6.heap.size:=(M7.out.hi 1));(have bm:a9<w6.heap.size:=(M7.out.hi 3));(have bo:w.heap.size<w6.heap.size:=(M7.out.hi 7));(have s: ¬(a0=a9):=M7.out.ne (i:=1) (j:=3) (by omega) rfl rfl rfl rfl);(have af: ¬(a9=a0):=fun h=>s h.symm);(obtain⟨x0,x1,x2⟩:=(M7.out.bk 1).tri);(obtain⟨v0,dh,v1,di,v2,dj⟩:=(M7.out.bk 3).trif));have be:=(((M7.out.st 3 0 (.int .i64 aA)).st 3 1 (.int .i64 aB)).st 3 2 (.slice qz n cz))
       generalize a8:World.setCell _ _ _=wz;rw[a8]at be;clear a8 s af x0 x1 x2 v0 dh v1 di v2 dj bl bm bo M7;have e9:=xQ (cc zs qz cz C2 wz (be.sq 0) Z1 Z5.out);refine e9.out.mono ?_;rintro e f9 ⟨rfl,ca⟩;have bf:=(be.adv ca)
       clear be ca;have ez:=bf.hi 1;have e2:=bf.hi 3;have e3:=bf.hi 7;have b7:(gP aA n (aT D) (c,aM xs) (j+1)).1=C2:=by have h1:=(cx.out D HD d cb j hlt).2;rw[h1,du.out,e4.out,HA.out];rfl
       have fa:=xQ b7;clear b7;go_wp2;go_roundw
       case rel=>exact⟨j+1,zs,qz,cz,q7,c7,by omega,by rw[fa.out],rfl,dx.out,(bf.pick [3,0,5,6,7] (by decide) rfl)⟩
       case measure=>simp[aBl];omega
     have ar: ¬u=dd-1:=fun h=>hkJ (dw.1 (by omega))
     go_wp2;refine rL (gl [gEq (.slice (some ⟨gT,0,none⟩) 49152 cl),gEq (.agg #[aA,aB,.slice qz n cz]),gEq id,gEq (C2:Int),gEq ((C2:Int)*4096:Int),gEq (.agg #[aA,aB,.slice qz n cz]),gEq (S2:Int),gEq (V1:Int),gEq (.pointer (some ⟨gT,V1,none⟩)),gEq u,gEq (.slice (some ⟨gT,0,none⟩) 49152 cl),gEq (a:Int),gEq ((a:Int)*4096:Int),gEq (.agg #[aA,aB,.slice q n c9]),gEq (S1:Int),gEq (V2:Int),gEq (.pointer (some ⟨gT,V2,none⟩)),gEq dd,gEq (dd-1:Int),gEq (.bool true)]) 20 20 [(0,some 50),(1,some 51),(2,some 52),(3,some 53),(4,some 54),(5,some 55),(6,some 56),(7,some 57),(8,some 58),(9,some 59),(10,some 60),(11,some 61),(12,some 62),(13,some 63),(14,some 64),(15,some 65),(16,some 66),(17,some 67),(18,some 68),(19,some 69)] ?steps ?fin
     case steps=>
      refine sS0 [] ?_;refine sC [] rfl (fun wi hx=> ?_) ?_
      ·intro K hK;have hX:=hx.of_drew;have aa:=((b.bk 1).ext hX).cl 0;have x:=((b.bk 1).ext hX).cl 1;have y:=((b.bk 1).ext hX).cl 2;go_simp;exact hK _ _ ⟨.agg #[aA,aB,.slice qz n cz],rfl,rfl,Ext.refl _⟩
      refine sS0 [] ?_;refine sC [(1,some 51),(2,some 52)] rfl (fun wi hx=> ?_) ?_
      ·intro v1 h1 v2 h2 K hK;obtain rfl:=h1;obtain rfl:=h2;have hX:=hx.of_drew;clear b1 b2 b3 b4 o r;have HH:=xQ (cc zs qz cz C2 wi ((b.adv hX).sq 0) Z1 Z5.out);go_wp2_with fail;refine HH.out.mono ?_;rintro e w5 ⟨rfl,l⟩;go_simp;exact hK _ _ ⟨.int .i64 (C2:Int),rfl,rfl,l⟩
      refine sC [(3,some 53)] rfl (fun wi hx=> ?_) ?_
      ·intro v3 h3 K hK;obtain rfl:=h3;have a7:IntKind.i64.wrap ((C2:Int)*4096)=(C2:Int)*4096:=IntWalk.i64_in _ (by omega);go_simp;exact hK _ _ ⟨.int .i64 ((C2:Int)*4096),rfl,rfl,Ext.refl _⟩
      refine sC [] rfl (fun wi hx=> ?_) ?_
      ·intro K hK;have hX:=hx.of_drew;have aa:=((b.bk 1).ext hX).cl 0;have x:=((b.bk 1).ext hX).cl 1;have y:=((b.bk 1).ext hX).cl 2;go_simp;exact hK _ _ ⟨.agg #[aA,aB,.slice qz n cz],rfl,rfl,Ext.refl _⟩
      refine sC [(5,some 55)] rfl (fun wi hx=> ?_) ?_
      ·intro v5 h5 K hK;obtain rfl:=h5;have hX:=hx.of_drew;clear b1 b2 b3 b4 o r;have HH:=xQ (bc zs qz cz wi ((b.adv hX).sq 0) Z1.out);rw[Z3.out]at HH;go_wp2_with fail;refine HH.out.mono ?_;rintro e w5 ⟨rfl,l⟩;go_simp;exact hK _ _ ⟨.int .i64 (S2:Int),rfl,rfl,l⟩
      refine sC [(4,some 54),(6,some 56)] rfl (fun wi hx=> ?_) ?_
      ·intro v4 h4 v6 h6 K hK;obtain rfl:=h4;obtain rfl:=h6;have bi:=dy.out;go_simp;exact hK _ _ ⟨.int .i64 (V1:Int),rfl,rfl,Ext.refl _⟩
      refine sS2 [(0,some 50),(7,some 57)] ?_;refine sC [(8,some 58)] rfl (fun wi hx=> ?_) ?_
      ·intro v8 h8 K hK;obtain rfl:=h8;have hX:=hx.of_drew;have aa:wi.cell? ⟨gT,V1,none⟩=some (.int .i64 u):=(hX.cells.1 _ _ ah).trans x;go_simp;exact hK _ _ ⟨.int .i64 u,rfl,rfl,Ext.refl _⟩
      refine sS0 [] (sS0 [] ?_);refine sC [(11,some 61)] rfl (fun wi hx=> ?_) ?_
      ·intro c6 ai K hK;obtain rfl:=ai;have a7:IntKind.i64.wrap ((a:Int)*4096)=(a:Int)*4096:=IntWalk.i64_in _ (by omega);go_simp;exact hK _ _ ⟨.int .i64 ((a:Int)*4096),rfl,rfl,Ext.refl _⟩
      refine sC [] rfl (fun wi hx=> ?_) ?_
      ·intro K hK;have hX:=hx.of_drew;have aa:=((b.bk 3).ext hX).cl 0;have x:=((b.bk 3).ext hX).cl 1;have y:=((b.bk 3).ext hX).cl 2;go_simp;exact hK _ _ ⟨.agg #[aA,aB,.slice q n c9],rfl,rfl,Ext.refl _⟩
      refine sC [(13,some 63)] rfl (fun wi hx=> ?_) ?_
      ·intro db ak K hK;obtain rfl:=ak;have hX:=hx.of_drew;clear b1 b2 b3 b4 o r;have HH:=xQ (bc ys q c9 wi ((b.adv hX).sq 4) HW.out.ok);rw[←bd.out]at HH;go_wp2_with fail;refine HH.out.mono ?_;rintro e w5 ⟨rfl,l⟩;go_simp;exact hK _ _ ⟨.int .i64 (S1:Int),rfl,rfl,l⟩
      refine sC [(12,some 62),(14,some 64)] rfl (fun wi hx=> ?_) ?_
      ·intro da aj dc al K hK;obtain rfl:=aj;obtain rfl:=al;have bj:=dz.out;go_simp;exact hK _ _ ⟨.int .i64 (V2:Int),rfl,rfl,Ext.refl _⟩
      refine sS2 [(10,some 60),(15,some 65)] ?_;refine sC [(16,some 66)] rfl (fun wi hx=> ?_) ?_
      ·intro de am K hK;obtain rfl:=am;have hX:=hx.of_drew;have aa:wi.cell? ⟨gT,V2,none⟩=some (.int .i64 dd):=(hX.cells.1 _ _ ah).trans y;go_simp;exact hK _ _ ⟨.int .i64 dd,rfl,rfl,Ext.refl _⟩
      refine sC [(17,some 67)] rfl (fun wi hx=> ?_) ?_
      ·intro df an K hK;obtain rfl:=an;have a7:IntKind.i64.wrap (dd-1)=dd-1:=IntWalk.i64_in _ (by omega);go_simp;exact hK _ _ ⟨.int .i64 (dd-1),rfl,rfl,Ext.refl _⟩
      refine sC [(9,some 59),(18,some 68)] rfl (fun wi hx=> ?_) StepsL.nil
      ·intro v9 h9 dg ao K hK;obtain rfl:=h9;obtain rfl:=ao;have cp:(u !=(dd-1))=true:=by simp[ar]
       go_simp;exact hK _ _ ⟨.bool true,rfl,rfl,Ext.refl _⟩
     case fin=>
      intro wi hx v0 h0 v1 h1 v2 h2 v3 h3 v4 h4 v5 h5 v6 h6 v7 h7 v8 h8 v9 h9 fn ch c6 ai da aj db ak dc al fo ci de am df an dg ao fp cj;obtain rfl:=h0;obtain rfl:=h1;obtain rfl:=h2;obtain rfl:=h3;obtain rfl:=h4;obtain rfl:=h5;obtain rfl:=h6;obtain rfl:=h7;obtain rfl:=h8;obtain rfl:=h9;obtain rfl:=ch;obtain rfl:=ai;obtain rfl:=aj;obtain rfl:=ak;obtain rfl:=al;obtain rfl:=ci;obtain rfl:=am;obtain rfl:=an;obtain rfl:=ao;obtain rfl:=cj;refine wpAny_done (by kernel_rfl) ?_ _;try go_frame
      have hX:Ext wr wi:=hx.of_drew;have g:=(b.adv hX)
      clear b hx hX x y ah b1 b2 b3 b4 o r;have ab:=g.hi 1;have ad:=g.hi 3;have ae:=g.hi 7;obtain⟨f2,t2,ag⟩: ∃f t,es[k+1]? =some (f,t):=⟨_,_,List.getElem?_eq_getElem (by rw[←HK.out];omega)⟩
      have e5:=xQ ag;have i1:(0:Int)≤(k:Int)+1:=by omega
      have i3:(k:Int)+1<(KS:Int):=by omega
      have i4:((k:Int)+1).toNat=k+1:=by omega
      have d0:wi.cell? ⟨gs,(k+1)*2,none⟩=some (.int .i64 (f2:Int)):=by have:=(g.ow 2).cellAt ((k+1)*2) (by omega);rw[this];exact(iK ag).1
      have d1:wi.cell? ⟨gs,(k+1)*2+1,none⟩=some (.int .i64 (t2:Int)):=by have:=(g.ow 2).cellAt ((k+1)*2+1) (by omega);rw[this];exact(iK ag).2
      have a5:gs<wi.heap.size:=(g.hi 2)
      clear ag;have az:=xQ (fun w' (hx:Ext wi w')=>eo.out ys q c9 f2 t2 w' ((g.sq 4).ext hx) HW.out.ok ba);obtain⟨v0,v1,v2⟩:=(g.bk 3).tri;have n1: ¬(a9=wi.heap.size):=by have:=(g.hi 3);omega
      have n2: ¬(wi.heap.size=a9):=fun h=>n1 h.symm
      have n3: ¬(gs=wi.heap.size):=by omega
      have n4: ¬(wi.heap.size=gs):=fun h=>n3 h.symm
      go_upto_region 15 with fail;go_cut [14,15] (fun s1 s2 wx=> ∃(a:Nat) (q5:OA) (c5:Nat),s1= .pointer (some ⟨a,0,none⟩)∧Ext wi wx∧wi.heap.size≤a∧Blk wx a TH3 #[aA,aB,.slice q5 n c5]∧wx.ownsRow wi.heap.size TI 1 (.slice q5 n c5) n (ivs (bC aA aB ys ((f2:Nat):Int) ((t2:Nat):Int))))
      case first=>
       go_region_held3 (fun w'=>w'.cell? ⟨a9,0,none⟩=some (.int .i64 aA)∧w'.cell? ⟨a9,1,none⟩=some (.int .i64 aB)∧w'.cell? ⟨a9,2,none⟩=some (.slice q n c9)∧w'.cell? ⟨gs,(k+1)*2,none⟩=some (.int .i64 (f2:Int))∧w'.cell? ⟨gs,(k+1)*2+1,none⟩=some (.int .i64 (t2:Int)))
        (first|(refine⟨?_,?_,?_,?_,?_⟩<;>assumption)|go_keep)
        ((go_at_call 88
          refine(az _ xE).mono ?_;rintro e w5 ⟨q5,c5,rfl,o5,l⟩;have m:Ext wi w5:=xE;have g0:=((g.bk 3).ext m).cl 0;have g1:=((g.bk 3).ext m).cl 1;have g2:=((g.bk 3).ext m).cl 2;have g3:w5.cell? ⟨gs,(k+1)*2,none⟩=some (.int .i64 (f2:Int)):=(m.cells.1 _ _ a5).trans d0;have g4:w5.cell? ⟨gs,(k+1)*2+1,none⟩=some (.int .i64 (t2:Int)):=(m.cells.1 _ _ a5).trans d1
          first
           |(have ap:Ext (wi.alloc (.cells #[(),(),((),())] TH3)) w5:=l
             have BB:=(Blk.new wi TH3 #[(),(),((),())]).ext ap;have dk:=BB.cl 0;have dl:=BB.cl 1;have dm:=BB.cl 2;have dn:=BB.frozen 0;have dp:=BB.frozen 1
             have dq:w5.frozen? ⟨wi.heap.size,2,none⟩=false:=BB.frozen 2)
           |(have ap:Ext (wi.alloc (.cells #[(),(),((),())] TH3)) w5:=l.of_drew
             have BB:=(Blk.new wi TH3 #[(),(),((),())]).ext ap;have dk:=BB.cl 0;have dl:=BB.cl 1;have dm:=BB.cl 2;have dn:=BB.frozen 0;have dp:=BB.frozen 1
             have dq:w5.frozen? ⟨wi.heap.size,2,none⟩=false:=BB.frozen 2)
           |skip))
       ·go_wp2_with fail;go_meet;exact⟨w5.heap.size,q5,c5,rfl,by exact .alloc m _,by have:=m.sz;omega,Blk.new _ _ _,bK (by exact o5.alloc _) (by simp)⟩
       have hR:ExtR wi.heap.size w5 _:=(((ExtR.refl wi.heap.size w5).setCell (p:=⟨wi.heap.size,0,none⟩) (.inl rfl) (.int .i64 aA)).setCell (p:=⟨wi.heap.size,1,none⟩) (.inl rfl) (.int .i64 aB)).setCell (p:=⟨wi.heap.size,2,none⟩) (.inl rfl) (.slice q5 n c5);have hY:=((BB.set 0 (.int .i64 aA)).set 1 (.int .i64 aB)).set 2 (.slice q5 n c5);simp only[List.setIfInBounds_toArray,List.set_cons_zero,List.set_cons_succ]at hY;go_wp2_with fail;go_meet;exact⟨wi.heap.size,q5,c5,rfl,ExtR.new m hR (Nat.le_refl _),Nat.le_refl _,hY,bK (o5.kept hR (.inr (dD o5 BB (by decide)))) (by simp)⟩
      case rest=>
       clear v0 v1 v2 n1 n2 n3 n4 d0 d1;obtain⟨f3,q8,c8,rfl,a2,a3,a1,a6⟩:=hcut;have z:=(g.blkOwn a2 a1 a3 a6 (Nat.le_refl _) (by decide))
       clear a2 a3 a1 a6 az g ab ad ae;have bp:=z.hi 1;have bq:=z.hi 3;have br:=z.hi 5;have bs:=z.hi 9;obtain⟨s,af⟩:=z.nq 1 3;obtain⟨x0,x1,x2⟩:=(z.bk 1).tri;obtain⟨v0,dh,v1,di,v2,dj⟩:=(z.bk 3).trif;go_wp2;have d3:=(((z.st 3 0 (.int .i64 aA)).st 3 1 (.int .i64 aB)).st 3 2 (.slice q8 n c8))
       generalize a8:World.setCell _ _ _=wz;rw[a8]at d3;clear a8 s af x0 x1 x2 v0 dh v1 di v2 dj bp bq br bs z;go_roundw
       case rel=>exact⟨k+1,f2,t2,q8,c8,by omega,by go_num,e5.out,(d3.pick [0,3,4,5,6,7,8,9] (by decide) rfl)⟩
       case measure=>simp[intOf];omega
  obtain rfl:d=j:=by omega
  have eb:a=0:=au.2 rfl;have t0:decide ((0:Int)<(a:Int))=false:=by simp;omega
  have hE:=xQ HM.ext;have hO:=xQ (HM.ow 2);subst eb;go_wp2;rw[ew.out];exact bodyPost_ret (v:= .tuple #[.slice q6 d lc,.bool true]) (by simp[results,Tryz.results135,go_sem, *]) rfl ⟨q6,lc,by rw[nH],by rw[nH];exact hO.out,hE.out⟩
theorem wZ (aA aB id:Int)(p:OA)(n cap:Nat)(xs:List Int)(w:World)(hS:Sl w p n cap 1 (ivs xs))(g:aN aA aB xs=true){c:Nat}(k:1≤id)(hc:xs[c]? =some id):
  Calls Tryz.prog 135 #[aH aA aB p n cap,id] w (jG (dH aA xs c) w):=by
 have hl:=hS.ilen;subst hl;obtain⟨g1,g2,g3,g4,g5,g6,g7⟩:=cG (cK g);have h0:id≠0:=by omega
 have i:=kJ hc h0;have l:(2:Nat) ^ xs.length≤4096:=Nat.le_trans (Nat.pow_le_pow_right (by omega) g6) (by decide)
 refine aJ6 aA aB id p xs.length cap c xs w g5 g6 g rfl h0 hc i.car (fun zs hz=> ?_) (fun D hD=>vX g hc h0 hD) (fun D hD=> ?_) (fun D hD d hd j hj=> ?_) (fun D hD d hd j hj ys hw=>aIg g hc h0 hD hd hj hw) (fun ys hy hyl f t hm=> ?_) (fun ys q c9 f t w' hs hy hyl=> ?_)
  (fun D hD d hd j hj=>⟨trivial,(jW g5 g6 hD i hd hj).2.2⟩) (fun w' hx=> ?_) (fun w' hx=>uZ aA aB p xs.length cap xs w' (hS.ext hx) g) (fun w' hx=> ?_) (fun w' hx=>fG aA aB p xs.length cap xs w' (by omega) (hS.ext hx)) (fun zs q c9 C2 w' hs hz hC=> ?_) (fun zs q c9 w' hs hz=>uZ aA aB q xs.length c9 zs w' hs hz)
 ·have:=mU zs;rw[hz]at this;omega
 ·obtain⟨n1,n2,n3⟩:=sL g hc h0 hD;by_cases hf:bE xs= []
  ·by_cases hc0:c=0
   ·rw[n2 hc0];decide
   have:=n3 hf hc0;omega
  exact(n1 hf).2
 ·obtain⟨a,b⟩:=jB g5 g6 hD i hd j hj;exact⟨a.car,b,aKi g5 g6 hD i hd hj,Nat.lt_of_lt_of_le a.set l⟩
 ·rw[←hyl]at hm;obtain⟨m1,m2,m3,m4⟩:=sJ hy hm;exact⟨iH _ _ hy,by rw[cS,hyl],m3,m4⟩
 ·have:=lF aA aB (f:Int) (t:Int) q xs.length c9 ys w' hs hy;unfold cN at this;rw[cS,hyl]at this;exact this
 ·have:=rN aA aB id p xs.length cap xs w' (hS.ext hx);rwa[yM g k hc]at this
 ·refine(aEl aA aB p xs.length cap xs w' (hS.ext hx) g).mono fun e w'' h=> ?_
  obtain⟨D,hD,q,c',h1,h2,h3⟩:=h;have hl:=hD.len;rw[hl]at h1 h2;exact⟨D,hD,q,c',h1,h2,h3⟩
 have:=rN aA aB id q xs.length c9 zs w' hs;rwa[yM hz k hC]at this
end Go.Proofs.YtpelpnfhbepokaaGreatDoor
namespace Go.Proofs.YtpelpnfhbepokaaGreatDoor
open Go.RowKit
set_option linter.unusedVariables false
set_option linter.unusedSimpArgs false
set_option maxHeartbeats 8000000
set_option maxRecDepth 100000
theorem aGz (aA aB id:Int)(p:OA)(n cap:Nat)(w:World)
  (b:xC 180 #[aH aA aB p n cap,id] w fun w' e w''=>e= .returned (.int .i64 (-1))∧Ext w' w''):
  Calls Tryz.prog 135 #[aH aA aB p n cap,id] w (jG none w):=by
 go_enter Tryz.func135,Tryz.ntmps135;go_wp2_with fail;refine(b _ (((Mem.start w).c0 TH3 #[aA,aB,.slice p n cap]).made0 TSL 2 (w.heap.size+1) (by simp)).ext).mono ?_;rintro e w1 ⟨rfl,a⟩;have M1:=((((Mem.start w).c0 TH3 #[aA,aB,.slice p n cap]).made0 TSL 2 (w.heap.size+1) (by simp)).adv a)
 have c:=M1.hi 1;clear a;have HX:=xQ (M1.ext);go_wp2;exact bodyPost_ret (v:= .tuple #[.slice (some ⟨w.heap.size+1,0,none⟩) 0 0,.bool false]) (by simp[results,Tryz.results135,go_sem, *]) rfl ⟨_,rfl,HX.out⟩
theorem uH (aA aB id:Int)(p:OA)(n cap:Nat)(xs:List Int)(w:World)(g:Hid (xs.length=n))
  (HV:xB 41 #[aH aA aB p n cap] w true)
  (HB:xC 135 #[aH aA aB p n cap,id] w fun w' e w''=> ∃v,e= .returned (.tuple #[v,.bool false])∧Ext w' w'')
  (HL:xC 81 #[aH aA aB p n cap] w fun w' e w''=> ∃q c,e= .returned (aH aA aB q n c)∧w''.ownsRow w'.heap.size TI 1 (.slice q n c) n (ivs xs)∧Ext w' w''):
  Calls Tryz.prog 85 #[aH aA aB p n cap,id] w (cM aA aB xs (-1) w):=by
 go_enter Tryz.func85,Tryz.ntmps85;go_wp2_with fail;refine(HV _ (((Mem.start w).c0 TH3 #[aA,aB,.slice p n cap]).c1 TH3 #[(),(),((),())]).ext).mono ?_;rintro e w1 ⟨rfl,j⟩;have M1:=((((Mem.start w).c0 TH3 #[aA,aB,.slice p n cap]).c1 TH3 #[(),(),((),())]).adv j)
 have a:=M1.hi 0;have b:=M1.hi 1;clear j;obtain⟨c0,c1,c2⟩:=(M1.bk 1).tri;go_wp2_with fail;clear c0 c1 c2;refine(HB _ M1.ext).mono ?_;rintro e w2 ⟨v,rfl,k⟩;have M2:=(M1.adv k)
 clear M1 a b k;have d:=M2.hi 0;have f:=M2.hi 1;obtain⟨c0,c1,c2⟩:=(M2.bk 1).tri;go_wp2_with fail;clear c0 c1 c2;refine(HL _ M2.ext).mono ?_;rintro e w3 ⟨q0,c0,rfl,h,l⟩;have M3:=(M2.call l h)
 clear M2 d f l h;have m:=M3.hi 1;have o:=M3.hi 2;obtain⟨z0,r,z1,s,z2,t⟩:=(M3.bk 1).trif;go_wp2;clear z0 r z1 s z2 t;have M4:=(((M3.st 1 0 (.int .i64 aA)).st 1 1 (.int .i64 aB)).st 1 2 (.slice q0 n c0))
 generalize i:World.setCell _ _ _=wz;rw[i]at M4;clear i M3;obtain⟨u,x,y⟩:=(M4.bk 1).tri;exact bodyPost_ret (v:= .tuple #[.agg #[aA,aB,.slice q0 n c0],(-1:Int)]) (by simp[results,Tryz.results85,go_sem, *]) rfl (eD g.out (M4.ow 0) M4.ext)
theorem aBi (aA aB id:Int)(p:OA)(n cap K:Nat)(ys:List Int)(sl:List Sl2)(w:World)(j:Hid (ys.length=n))
  (HV:xB 41 #[aH aA aB p n cap] w true)
  (HB:xC 135 #[aH aA aB p n cap,id] w fun w' e w''=> ∃q c,e= .returned (.tuple #[.slice q K c,.bool true])∧w''.ownsRow w'.heap.size TSL 2 (.slice q K c) K (sl.flatMap aK)∧Ext w' w'')
  (HR:Hid (∀w' q c,Ext w w'→Sl w' q K c 2 (sl.flatMap aK)→Calls Tryz.prog 132 #[aH aA aB p n cap,.slice q K c] w' fun e w''=> ∃q c,e= .returned (.tuple #[aH aA aB q n c,(K:Int)])∧w''.ownsRow w'.heap.size TI 1 (.slice q n c) n (ivs ys)∧Ext w' w''))
  (HT:Hid (∀w' q c,Ext w w'→Sl w' q n c 1 (ivs ys)→Calls Tryz.prog 136 #[aH aA aB q n c,()] w' fun e w''=> ∃q c i,e= .returned (.tuple #[aH aA aB q n c,i])∧w''.ownsRow w'.heap.size TI 1 (.slice q n c) n (ivs (ys.set 0 0))∧Ext w' w'')):
  Calls Tryz.prog 85 #[aH aA aB p n cap,id] w (cM aA aB (ys.set 0 0) (K:Int) w):=by
 go_enter Tryz.func85,Tryz.ntmps85;go_wp2_with fail;refine(HV _ (((Mem.start w).c0 TH3 #[aA,aB,.slice p n cap]).c1 TH3 #[(),(),((),())]).ext).mono ?_;rintro e w1 ⟨rfl,r⟩;have M1:=((((Mem.start w).c0 TH3 #[aA,aB,.slice p n cap]).c1 TH3 #[(),(),((),())]).adv r)
 have a:=M1.hi 0;have b:=M1.hi 1;clear r;obtain⟨c0,c1,c2⟩:=(M1.bk 1).tri;go_wp2_with fail;clear c0 c1 c2;refine(HB _ M1.ext).mono ?_;rintro e w2 ⟨qs,cs,rfl,k,s⟩;have M2:=(M1.call s k)
 clear M1 a b s k;have d:=M2.hi 1;have f:=M2.hi 2;obtain⟨c0,c1,c2⟩:=(M2.bk 2).tri;go_wp2_with fail;clear c0 c1 c2;refine(HR _ qs cs M2.ext (M2.sq 0)).mono ?_;rintro e w3 ⟨q1,c1,rfl,l,t⟩;have M3:=(M2.call t l)
 clear M2 d f t l;have g:=M3.hi 2;have h:=M3.hi 3;go_wp2_with fail;refine(HT _ q1 c1 (M3.c0 TH3 #[aA,aB,.slice q1 n c1]).ext ((M3.c0 TH3 #[aA,aB,.slice q1 n c1]).sq 1)).mono ?_;rintro e w4 ⟨q2,c2,i2,rfl,m,u⟩;have M4:=((M3.c0 TH3 #[aA,aB,.slice q1 n c1]).call u m)
 clear M3 g h u m;have x:=M4.hi 1;have y:=M4.hi 4;have z:=M4.hi 5;obtain⟨z0,aa,z1,ab,z2,ad⟩:=(M4.bk 4).trif;go_wp2;clear z0 aa z1 ab z2 ad;have M5:=((((M4.st 4 0 (.int .i64 aA)).st 4 1 (.int .i64 aB)).st 4 2 (.slice q2 n c2)).bn TH3 #[aA,aB,.slice q2 n c2] (w4.heap.size))
 generalize o:World.alloc _ _=wz;rw[o]at M5;clear o M4;obtain⟨ae,af,ag⟩:=(M5.bk 5).tri;exact bodyPost_ret (v:= .tuple #[.agg #[aA,aB,.slice q2 n c2],(K:Int)]) (by simp[results,Tryz.results85,go_sem, *]) rfl (eD (by rw[List.length_set];exact j.out) (M5.ow 1) M5.ext)
def bT (aA aB:Int)(xs:List Int)(id:Int):List Int×Int:=
 match lM aA aB xs id with
 |none=>(xs,-1)
 |some r=>(r.1,(r.2:Int))
theorem aG1 {aA aB:Int}{xs:List Int}{id:Int}(h:id<1∨id∉xs):iC aA aB xs id= -1:=by
 unfold iC;by_cases h1:aN aA aB xs=true∧1≤id
 ·rw[if_pos h1];rcases h with h|h
  ·omega
  exact sF h
 rw[if_neg h1]
theorem vI {xs:List Int}{id:Int}(h:id∈xs): ∃c:Nat,xs[c]? =some id∧oW xs id=(c:Int):=by
 induction xs with
 |nil=>cases h
 |cons x xs ih=>
  by_cases hx:x=id
  ·subst hx;exact⟨0,rfl,qS (k:=0) rfl (by simp)⟩
  have hm:id∈xs:=by
   rcases List.mem_cons.1 h with e|e
   ·exact absurd e.symm hx
   exact e
  obtain⟨c,h1,_⟩:=ih hm;obtain⟨k,d,f⟩: ∃k,(x::xs)[k]? =some id∧id∉(x::xs).take k:=by
   clear ih h1
   suffices hs: ∀(l:List Int),id∈l→ ∃k,l[k]? =some id∧id∉l.take k from hs _ h
   intro l;induction l with
   |nil=>intro h;cases h
   |cons y l ihl=>
    intro hy;by_cases e:y=id
    ·exact⟨0,by simp[e],by simp⟩
    ·obtain⟨k,a,b⟩:=ihl (by
      rcases List.mem_cons.1 hy with e2|e2
      ·exact absurd e2.symm e
      ·exact e2)
     exact⟨k+1,by simpa using a,by simp[b,Ne.symm e]⟩
  exact⟨k,d,qS d f⟩
theorem aCx (aA aB id:Int)(p:OA)(n cap:Nat)(xs:List Int)(w:World)(hS:Sl w p n cap 1 (ivs xs))(a:aN aA aB xs=true):
  Calls Tryz.prog 85 #[aH aA aB p n cap,id] w (cM aA aB (bT aA aB xs id).1 (bT aA aB xs id).2 w):=by
 have hl:=hS.ilen;subst hl;obtain⟨g1,g2,g3,g4,g5,g6,g7⟩:=cG (cK a);have HV: ∀w',Ext w w'→Calls Tryz.prog 41 #[aH aA aB p xs.length cap] w' fun e w''=>e= .returned (.bool true)∧Ext w' w'':=fun w' hy=>by have:=gZ aA aB p xs.length cap xs w' (hS.ext hy);rwa[a]at this
 have HL:=fun(w':World) (hy:Ext w w')=>fG aA aB p xs.length cap xs w' (by omega) (hS.ext hy)
 by_cases hno:id<1∨id∉xs
 ·have e:bT aA aB xs id=(xs,-1):=by unfold bT lM;rw[if_pos hno]
  rw[e];refine uH aA aB id p xs.length cap xs w rfl HV (fun w' hy=> ?_) HL;refine aGz aA aB id p xs.length cap w' (fun w2 hy2=> ?_);have:=rN aA aB id p xs.length cap xs w2 (hS.ext (hy.trans hy2));rwa[aG1 hno]at this
 have d:1≤id:=by omega
 have hm:id∈xs:=by
  by_cases hm:id∈xs
  ·exact hm
  exact absurd (.inr hm) hno
 obtain⟨c,hc,f⟩:=vI hm;have HB:=fun(w':World) (hy:Ext w w')=>wZ aA aB id p xs.length cap xs w' (hS.ext hy) a d hc
 have b:(oW xs id).toNat=c:=by rw[f];simp
 cases hb:dH aA xs c with
 |none=>
  have e:bT aA aB xs id=(xs,-1):=by unfold bT lM;rw[if_neg hno,b,hb];rfl
  rw[e];rw[hb]at HB;exact uH aA aB id p xs.length cap xs w rfl HV HB HL
 |some l=>
  obtain⟨b1,ys,b2,b3,b4,b5⟩:=(oC a hc (by omega)).2 l hb;have e:bT aA aB xs id=(ys.set 0 0,(l.length:Int)):=by unfold bT lM;rw[if_neg hno,b,hb];simp[b2]
  rw[e];rw[hb]at HB;refine aBi aA aB id p xs.length cap l.length ys l w b4 HV HB (fun w' q c' hy hL=> ?_) (fun w' q c' hy hL=> ?_)
  ·have:=qF aA aB p xs.length cap xs q l.length c' l w' b1 (hS.ext hy) hL a;rw[b2]at this;unfold cM at this;dsimp only at this;rw[b4]at this;exact this
  have:=aAr aA aB q xs.length c' ys w' hL b3;unfold cM at this;rw[List.length_set,b4]at this;refine this.mono fun e w'' h=> ?_
  obtain⟨q2,c2,h1,h2,h3⟩:=h;exact⟨q2,c2,_,h1,h2,h3⟩
end Go.Proofs.YtpelpnfhbepokaaGreatDoor
