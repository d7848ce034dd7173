/-
  Texts of this proof, packed (@packed).
-/
import Derived.Test.YtpelpnfhbepokaaGreatDoorV15
namespace Go.Proofs.YtpelpnfhbepokaaGreatDoor
open Go.RowKit
set_option linter.unusedVariables false
set_option linter.unusedSimpArgs false
set_option maxHeartbeats 16000000
set_option maxRecDepth 100000
def iW (r:Option (List Sl2))(w:World)(e:Ending)(w':World):Prop:=
 match r with
 |none=> ∃v,e= .returned (.tuple #[v,.bool false])∧Ext w w'
 |some l=> ∃q c,e= .returned (.tuple #[.slice q l.length c,.bool true])∧w'.ownsRow w.heap.size TSL 2 (.slice q l.length c) l.length (l.flatMap aK)∧Ext w w'
def aA0:Value→Nat
 | .slice _ n _=>n
 |_=>0
theorem iC {es:List (Nat×Nat)}{k f t:Nat}(h:es[k]? =some (f,t)):((es.map iK).flatMap aK)[k*2]? =some (.int .i64 (f:Int))∧((es.map iK).flatMap aK)[k*2+1]? =some (.int .i64 (t:Int)):=by
 have hx:(es.map iK)[k]? =some ((f:Int),(t:Int)):=by rw[List.getElem?_map,h];rfl
 have h0:=dW aK 2 (fun _=>rfl) _ _ _ hx 0 (by omega);have h1:=dW aK 2 (fun _=>rfl) _ _ _ hx 1 (by omega);exact⟨by simpa[aK]using h0,by simpa[aK]using h1⟩
theorem aHi (aA aB id:Int)(p:OA)(n u c:Nat)(xs:List Int)(w:World)(f8:4≤n)(hn:n≤12)(fl:Hid (aM aA aB xs=true))(aw:Hid (xs.length=n))(ek:Hid (id≠0))(hc:Hid (xs[c]? =some id)) (fg:Hid (c<n)) (cv:Hid (∀zs:List Int,zs.length=n→aN zs<4096))
  (ed:Hid (∀D,eO aA n (bJ xs).length D→dH aA xs c=if aV D c (aN xs)<0 then none else some (mX aA n (aV D) (c,aN xs) (aV D c (aN xs)).toNat)))
  (ff:Hid (∀D,eO aA n (bJ xs).length D→aV D c (aN xs)≤60))
  (d6:Hid (∀D,eO aA n (bJ xs).length D→ ∀d:Nat,aV D c (aN xs)=d→ ∀j,j≤d→(gP aA n (aV D) (c,aN xs) j).1<n∧aV D (gP aA n (aV D) (c,aN xs) j).1 (gP aA n (aV D) (c,aN xs) j).2=(d:Int)-j∧((gP aA n (aV D) (c,aN xs) j).1=0↔j=d)∧(gP aA n (aV D) (c,aN xs) j).2<4096))
  (cw:Hid (∀D,eO aA n (bJ xs).length D→ ∀d:Nat,aV D c (aN xs)=d→ ∀j,j<d→ ∀ys,xD aA aB xs D c id j ys→ ∃(J:Nat) (es:List (Nat×Nat)),es=eA aA n (aN ys)∧gC aA aB ys=es.map iK∧J<es.length∧es[J]? =some (fQ aA n (aV D) (c,aN xs) j)∧
   (∀i e,i≤J→es[i]? =some e→e∈eA aA n (aN ys)∧(aV D (dI (gP aA n (aV D) (c,aN xs) j).1 e.1 e.2) (cV (aN ys) e.1 e.2)=(d:Int)-j-1↔i=J))∧
   ∀e,es[J]? =some e→xD aA aB xs D c id (j+1) (bH aA aB ys (e.1:Int) (e.2:Int))))
  (cr:Hid (∀ys,aM aA aB ys=true→ys.length=n→ ∀f t,(f,t)∈eA aA n (aN ys)→aM aA aB (bH aA aB ys (f:Int) (t:Int))=true∧(bH aA aB ys (f:Int) (t:Int)).length=n∧aN (bH aA aB ys (f:Int) (t:Int))=cV (aN ys) f t∧ ∀c id,ys[c]? =some id→id≠0→(bH aA aB ys (f:Int) (t:Int))[dI c f t]? =some id))
  (ep:Hid (∀ys q c9 (f t:Nat) w',Sl w' q n c9 1 (ivs ys)→aM aA aB ys=true→ys.length=n→Calls Tryz.prog 88 #[aH aA aB q n c9,dQ (f:Int) (t:Int)] w' fun e w''=> ∃q5 c5,e= .returned (.tuple #[aH aA aB q5 n c5,.bool (bB aA aB ys (f:Int) (t:Int))])∧w''.ownsRow w'.heap.size TI 1 (.slice q5 n c5) n (ivs (bH aA aB ys (f:Int) (t:Int)))∧Ext w' w''))
  (cy:Hid (∀D,eO aA n (bJ xs).length D→ ∀d:Nat,aV D c (aN xs)=d→ ∀j,j<d→True∧gP aA n (aV D) (c,aN xs) (j+1)=iY (gP aA n (aV D) (c,aN xs) j) (fQ aA n (aV D) (c,aN xs) j)))
  (e9:xC 180 #[aH aA aB p n u,id] w fun w' e w''=>e= .returned (.int .i64 (c:Int))∧Ext w' w'')
  (cg:xC 182 #[aH aA aB p n u] w fun w' e w''=>e= .returned (.int .i64 (aN xs:Int))∧Ext w' w'')
  (fc:xC 181 #[aH aA aB p n u] w fun w' e w''=> ∃D,eO aA n (bJ xs).length D∧ ∃q c,e= .returned (.slice q 49152 c)∧w''.ownsRow w'.heap.size TI 1 (.slice q 49152 c) 49152 (ivs D)∧Ext w' w'')
  (HL:xC 81 #[aH aA aB p n u] w fun w' e w''=> ∃q c,e= .returned (aH aA aB q n c)∧w''.ownsRow w'.heap.size TI 1 (.slice q n c) n (ivs xs)∧Ext w' w'')
  (ce:Hid (∀zs q c9 (C2:Nat) w',Sl w' q n c9 1 (ivs zs)→aM aA aB zs=true→zs[C2]? =some id→Calls Tryz.prog 180 #[aH aA aB q n c9,id] w' fun e w''=>e= .returned (.int .i64 (C2:Int))∧Ext w' w''))
  (bd:Hid (∀zs q c9 w',Sl w' q n c9 1 (ivs zs)→aM aA aB zs=true→Calls Tryz.prog 182 #[aH aA aB q n c9] w' fun e w''=>e= .returned (.int .i64 (aN zs:Int))∧Ext w' w'')):
  Calls Tryz.prog 135 #[aH aA aB p n u,id] w (iW (dH aA xs c) w):=by
 go_enter Tryz.func135,Tryz.ntmps135;go_wp2_with fail;refine(e9 _ (((Mem.start w).c0 TH3 #[aA,aB,.slice p n u]).made0 TSL 2 (w.heap.size+1) (by simp)).ext).mono ?_;rintro e w1 ⟨rfl,er⟩;have M1:=((((Mem.start w).c0 TH3 #[aA,aB,.slice p n u]).made0 TSL 2 (w.heap.size+1) (by simp)).adv er)
 have bc:=M1.hi 1;clear er;obtain⟨c0,c1,c2⟩:=(M1.bk 1).tri;go_wp2_with fail;clear c0 c1 c2;refine(fc _ M1.ext).mono ?_;rintro e w2 ⟨D,hD,ql,cl,rfl,en,et⟩;have M2:=(M1.call et en)
 clear M1 bc et en;have c3:=M2.hi 2;obtain⟨gT,rfl,fw,fx⟩:=M2.so 0;have HD:=xQ hD;have f7:c<n:=fg.out;obtain⟨S,hS⟩: ∃S,S=aN xs:=⟨_,rfl⟩
 have f6:S<4096:=by rw[hS];exact cv.out xs aw.out
 obtain⟨V0,co⟩: ∃V0,V0=c*4096+S:=⟨_,rfl⟩
 have fi:IntKind.i64.wrap ((c:Int)*4096)=(c:Int)*4096:=IntWalk.i64_in _ (by omega);have fj:IntKind.i64.wrap ((c:Int)*4096+(S:Int))=(V0:Int):=(IntWalk.i64_in _ (by omega)).trans (by omega);have s1:(0:Int)≤(V0:Int):=by omega
 have s2:(V0:Int)<49152:=by omega
 obtain⟨dv,ee,b5⟩: ∃dv,D[V0]? =some dv∧aV D c (aN xs)=dv:=⟨_,(dD (D:=D) (v:=V0) (by rw[hD.len];show _<49152;omega)).1,by rw[co,hS];rfl⟩
 have az:=xQ b5;have HS:=xQ hS;have f3:=xQ co;clear hD b5 hS co;obtain⟨c0,c1,c2⟩:=(M2.bk 2).tri;go_wp2_with fail;clear c0 c1 c2;have cf:=xQ (cg _ M2.ext);rw[←HS.out]at cf;refine cf.out.mono ?_;rintro e w3 ⟨rfl,eu⟩;have M3:=(M2.adv eu)
 clear M2 c3 eu cf;have c4:=M3.hi 2;have cd:w3.cell? ⟨gT,V0,none⟩=some (.int .i64 dv):=by have:=(M3.ow 0).cellAt V0 (by omega);rw[this];simp[ivs,ee]
 clear ee;by_cases hneg:dv<0
 ·have t0:decide (dv<0)=true:=by simp[hneg]
  have fk:Hid (dH aA xs c=none):=by show _=_;rw[ed.out D HD.out,az.out,if_pos hneg]
  have HX:=xQ (M3.ext);go_wp2;rw[fk.out];exact bodyPost_ret (v:= .tuple #[.slice (some ⟨w.heap.size+1,0,none⟩) 0 0,.bool false]) (by simp[results,Tryz.results135,go_sem, *]) rfl ⟨_,rfl,by have:=HX.out;exact this⟩
 have t0:decide (dv<0)=false:=by simp;omega
 obtain⟨d,rfl⟩:=Int.eq_ofNat_of_zero_le (show 0≤dv by omega);have fv:d≤60:=by have:=ff.out D HD.out;rw[az.out]at this;omega
 have ey:Hid (dH aA xs c=some (mX aA n (aV D) (c,aN xs) d)):=by show _=_;rw[ed.out D HD.out,az.out,if_neg hneg];rfl
 clear hneg;have cc:=xQ (show aV D c (aN xs)=(d:Int)from az.out);clear az;obtain⟨c0,c1,c2⟩:=(M3.bk 2).tri;go_wp2_with fail;clear c0 c1 c2 cd t0 fi fj s1 s2;refine(HL _ M3.ext).mono ?_;rintro e w4 ⟨q0,c0,rfl,eo,ev⟩;have M4:=(M3.call ev eo)
 clear M3 c4 ev eo;have c6:=M4.hi 3;obtain⟨a9,cp⟩: ∃a9,a9=w4.heap.size:=⟨_,rfl⟩
 have d5:=(show Mem w (w4.alloc (.cells #[aA,aB,.slice q0 n c0] TH3)) [aI w.heap.size (a9) TH3 #[aA,aB,.slice q0 n c0],aJ w.heap.size TI 1 (q0) (n) (c0) (ivs xs),aJ w.heap.size TSL 2 (some ⟨w.heap.size+1,0,none⟩) (0) (0) ([]),aJ w.heap.size TI 1 (some ⟨gT,0,none⟩) (49152) (cl) (ivs D),aI w.heap.size (w.heap.size) TH3 #[aA,aB,.slice p n u]]from by rw[cp];exact(M4.c0 TH3 #[aA,aB,.slice q0 n c0]).pick [0,1,3,2,4] (by decide) rfl)
 clear M4 c6;go_wp2;rw[←cp];go_loopw [6,7] (fun v i wr=> ∃(j:Nat) (ys:List Int) (q:OA) (c9:Nat) (q6:OA) (lc:Nat),j≤d∧i= .int .i64 ((gP aA n (aV D) (c,aN xs) j).1:Int)∧v= .slice q6 j lc∧xD aA aB xs D c id j ys∧Mem w wr [aI w.heap.size (a9) TH3 #[aA,aB,.slice q n c9],aJ w.heap.size TI 1 (q) (n) (c9) (ivs ys),aJ w.heap.size TSL 2 (q6) (j) (lc) ((mX aA n (aV D) (c,aN xs) (j)).flatMap aK),aJ w.heap.size TI 1 (some ⟨gT,0,none⟩) (49152) (cl) (ivs D),aI w.heap.size (w.heap.size) TH3 #[aA,aB,.slice p n u]]) (fun v _ _=>d-aA0 v)
 case atStart=>exact⟨0,xs,q0,c0,_,0,Nat.zero_le _,rfl,rfl,⟨fl.out,rfl,rfl,hc.out⟩,d5⟩
 case round=>
  clear d5 cp;obtain⟨j,ys,q,c9,q6,lc,hj,rfl,rfl,ca,hM⟩:=hrel;have HM:=hM;have HW:=xQ ca;clear hM ca;obtain⟨a,ha⟩: ∃a,a=(gP aA n (aV D) (c,aN xs) j).1:=⟨_,rfl⟩
  have HA:=xQ ha;have fh:=d6.out D HD d cc j hj;obtain⟨ei,a5,av,ej⟩:=fh;rw[←ha]at ei a5 av⊢;clear ha;by_cases hlt:j<d
  ·have ec:0<a:=Nat.pos_of_ne_zero (fun e=>by have:=av.1 e;omega);have t0:decide ((0:Int)<(a:Int))=true:=by simp;omega
   have bb:ys.length=n:=by rw[HW.out.len];exact aw.out
   obtain⟨J,es,ef,ah,hJ,eg,eh,b7⟩:=cw.out D HD d cc j hlt ys HW.out;have fz:=xQ ef;have e7:=xQ eh;have fd:=xQ b7;have e8:=xQ eg;have ch:=xQ (fun w' (hx:Ext wr w')=>vF aA aB q n c9 ys w' ((HM.sq 1).ext hx) HW.out.ok);clear ef eh b7 eg;obtain⟨KS,hK⟩: ∃KS,KS=es.length:=⟨_,rfl⟩
   have d7:(es.map iK).length=KS:=by rw[List.length_map,hK]
   have fs:KS≤144:=by rw[hK,←List.length_map (f:=iK),←ah];unfold gC;rw[bb];exact Nat.le_trans (wE _ _ _) (Nat.mul_le_mul hn hn)
   have HK:=xQ hK;have f5:J<KS:=by rw[hK];exact hJ
   rw[ah]at ch;clear hK hJ ah;obtain⟨S1,bh⟩: ∃S1,S1=aN ys:=⟨_,rfl⟩
   have be:=xQ bh;have ft:S1<4096:=by rw[bh];exact cv.out ys bb
   have bu:aV D a S1=(d:Int)-j:=by rw[bh,HW.out.free,aw.out];exact a5
   have ds:=xQ bu;clear bh bu a5 ej av;have fn:=(HM.hi 0)
   obtain⟨v0,v1,v2⟩:=(HM.bk 0).tri;go_wp2_with fail;clear v0 v1 v2 fn;refine(ch _ (Ext.refl _)).mono ?_;rintro e w7 ⟨qs,cs,rfl,cx,ew⟩;rw[d7]at cx⊢;clear ch d7;have M1:=(HM.call ew cx)
   clear HM ew cx;have bc:=M1.hi 1;have fm:=M1.hi 5;obtain⟨gs,rfl,fy,a6⟩:=M1.so 0;obtain⟨f0,ay,bi⟩: ∃f t,es[0]? =some (f,t):=⟨_,_,List.getElem?_eq_getElem (by rw[←HK.out];omega)⟩
   have du:=xQ bi;have d0:w7.cell? ⟨gs,0,none⟩=some (.int .i64 (f0:Int)):=by have:=(M1.ow 0).cellAt 0 (by omega);rw[this];exact(iC bi).1
   have d1:w7.cell? ⟨gs,1,none⟩=some (.int .i64 (ay:Int)):=by have:=(M1.ow 0).cellAt 1 (by omega);rw[this];exact(iC bi).2
   clear bi;have i2:(0:Int)<(KS:Int):=by omega
   have f9:0<KS:=by omega
   have a0:=xQ (fun w' (hx:Ext w7 w')=>ep.out ys q c9 f0 ay w' ((M1.sq 2).ext hx) HW.out.ok bb);obtain⟨v0,v1,v2⟩:=(M1.bk 1).tri;have n1: ¬(a9=w7.heap.size):=by have:=(M1.hi 1);omega
   have n2: ¬(w7.heap.size=a9):=fun h=>n1 h.symm
   have n3: ¬(gs=w7.heap.size):=by omega
   have n4: ¬(w7.heap.size=gs):=fun h=>n3 h.symm
   go_upto_region 12 with fail;go_cut [12,13] (fun s1 s2 wx=> ∃(a:Nat) (q5:OA) (c5:Nat),s1= .pointer (some ⟨a,0,none⟩)∧Ext w7 wx∧w7.heap.size≤a∧Blk wx a TH3 #[aA,aB,.slice q5 n c5]∧wx.ownsRow w7.heap.size TI 1 (.slice q5 n c5) n (ivs (bH aA aB ys ((f0:Nat):Int) ((ay:Nat):Int))))
   case first=>
    go_region_held3 (fun w'=>w'.cell? ⟨a9,0,none⟩=some (.int .i64 aA)∧w'.cell? ⟨a9,1,none⟩=some (.int .i64 aB)∧w'.cell? ⟨a9,2,none⟩=some (.slice q n c9)∧w'.cell? ⟨gs,0,none⟩=some (.int .i64 (f0:Int))∧w'.cell? ⟨gs,1,none⟩=some (.int .i64 (ay:Int)))
     (first|(refine⟨?_,?_,?_,?_,?_⟩<;>assumption)|go_keep)
     ((go_at_call 88
       refine(a0 _ xE).mono ?_;rintro e w5 ⟨q5,c5,rfl,o5,l⟩;have m:Ext w7 w5:=xE;have g0:=((M1.bk 1).ext m).cl 0;have g1:=((M1.bk 1).ext m).cl 1;have g2:=((M1.bk 1).ext m).cl 2;have g3:w5.cell? ⟨gs,0,none⟩=some (.int .i64 (f0:Int)):=(m.cells.1 _ _ a6).trans d0;have g4:w5.cell? ⟨gs,1,none⟩=some (.int .i64 (ay:Int)):=(m.cells.1 _ _ a6).trans d1
       first
        |(have aq:Ext (w7.alloc (.cells #[(),(),((),())] TH3)) w5:=l
          have BB:=(Blk.new w7 TH3 #[(),(),((),())]).ext aq;have dl:=BB.cl 0;have dm:=BB.cl 1;have dn:=BB.cl 2;have dp:=BB.frozen 0;have dq:=BB.frozen 1
          have dr:w5.frozen? ⟨w7.heap.size,2,none⟩=false:=BB.frozen 2)
        |(have aq:Ext (w7.alloc (.cells #[(),(),((),())] TH3)) w5:=l.of_drew
          have BB:=(Blk.new w7 TH3 #[(),(),((),())]).ext aq;have dl:=BB.cl 0;have dm:=BB.cl 1;have dn:=BB.cl 2;have dp:=BB.frozen 0;have dq:=BB.frozen 1
          have dr:w5.frozen? ⟨w7.heap.size,2,none⟩=false:=BB.frozen 2)
        |skip))
    ·go_wp2_with fail;go_meet;exact⟨w5.heap.size,q5,c5,rfl,by exact .alloc m _,by have:=m.sz;omega,Blk.new _ _ _,bE (by exact o5.alloc _) (by simp)⟩
    have hR:ExtR w7.heap.size w5 _:=(((ExtR.refl w7.heap.size w5).setCell (p:=⟨w7.heap.size,0,none⟩) (.inl rfl) (.int .i64 aA)).setCell (p:=⟨w7.heap.size,1,none⟩) (.inl rfl) (.int .i64 aB)).setCell (p:=⟨w7.heap.size,2,none⟩) (.inl rfl) (.slice q5 n c5);have hY:=((BB.set 0 (.int .i64 aA)).set 1 (.int .i64 aB)).set 2 (.slice q5 n c5);simp only[List.setIfInBounds_toArray,List.set_cons_zero,List.set_cons_succ]at hY;go_wp2_with fail;go_meet;exact⟨w7.heap.size,q5,c5,rfl,ExtR.new m hR (Nat.le_refl _),Nat.le_refl _,hY,bE (o5.kept hR (.inr (dF o5 BB (by decide)))) (by simp)⟩
   case rest=>
    clear v0 v1 v2 n1 n2 n3 n4 d0 d1;obtain⟨a1,q5,c5,rfl,a3,a4,a2,a7⟩:=hcut;have d3:=(M1.blkOwn a3 a2 a4 a7 (Nat.le_refl _) (by decide))
    clear a3 a4 a2 a7 a0 M1;go_wp2;go_loopw [11] (fun i wx=> ∃(k f t:Nat) (qz:OA) (cz:Nat),k≤J∧i= .int .i64 (k:Int)∧es[k]? =some (f,t)∧Mem w wx [aJ w.heap.size TI 1 (qz) (n) (cz) (ivs (bH aA aB ys ((f:Nat):Int) ((t:Nat):Int))),aI w.heap.size (a1) TH3 #[aA,aB,.slice qz n cz],aJ w.heap.size TSL 2 (some ⟨gs,0,none⟩) (KS) (cs) ((es.map iK).flatMap aK),aI w.heap.size (a9) TH3 #[aA,aB,.slice q n c9],aJ w.heap.size TI 1 (q) (n) (c9) (ivs ys),aJ w.heap.size TSL 2 (q6) (j) (lc) ((mX aA n (aV D) (c,aN xs) (j)).flatMap aK),aJ w.heap.size TI 1 (some ⟨gT,0,none⟩) (49152) (cl) (ivs D),aI w.heap.size (w.heap.size) TH3 #[aA,aB,.slice p n u]]) (fun i _=>J-(intOf i).toNat)
    case atStart=>exact⟨0,f0,ay,q5,c5,Nat.zero_le _,rfl,du.out,d3⟩
    case round=>
     clear d3 du;obtain⟨k,f,t,qz,cz,hk,rfl,cu,hM⟩:=hrel;have b:=hM;obtain⟨el,ax⟩:=e7 k (f,t) hk cu;have ar:=xQ cu;clear hM cu;obtain⟨z1,z2,z3,z4⟩:=cr.out ys HW.out.ok bb f t el;have z5:=z4 a id (by have:=HW.out.at_;rw[aw.out,←HA.out]at this;exact this) ek.out;rw[←HA.out,←be.out]at ax;rw[←be.out]at z3;clear z4 el;generalize ez:bH aA aB ys ((f:Nat):Int) ((t:Nat):Int)=zs at*;obtain⟨C2,cm⟩: ∃C2,C2=dI a f t:=⟨_,rfl⟩
     obtain⟨S2,cn⟩: ∃S2,S2=cV S1 f t:=⟨_,rfl⟩
     rw[←cm]at z5 ax;rw[←cn]at z3 ax;have fr:C2<n:=by have:=(List.getElem?_eq_some_iff.1 z5).1;omega
     have fu:S2<4096:=by rw[←z3];exact cv.out zs z2
     obtain⟨V1,d8⟩: ∃V1,V1=C2*4096+S2:=⟨_,rfl⟩
     obtain⟨V2,ea⟩: ∃V2,V2=a*4096+S1:=⟨_,rfl⟩
     have d9:V1<49152:=by omega
     have eb:V2<49152:=by omega
     obtain⟨x,bz,bw⟩: ∃dv,D[V1]? =some dv∧aV D C2 S2=dv:=⟨_,(dD (D:=D) (v:=V1) (by rw[HD.out.len];exact d9)).1,by rw[d8];rfl⟩
     obtain⟨dd,b0,bx⟩: ∃dv,D[V2]? =some dv∧aV D a S1=dv:=⟨_,(dD (D:=D) (v:=V2) (by rw[HD.out.len];exact eb)).1,by rw[ea];rfl⟩
     have bv:dd=(d:Int)-j:=by rw[←bx];exact ds.out
     have o:0≤dd:=by omega
     have r:dd≤60:=by omega
     rw[bw,←bv]at ax;have fe:=xQ ez;have e5:=xQ cm;have f1:=xQ cn;have dx:=ax;have Z1:=xQ z1;have Z2:=xQ z2;have Z3:=xQ z3;have Z5:=xQ z5;have bj:IntKind.i64.wrap ((C2:Int)*4096+(S2:Int))=(V1:Int):=(IntWalk.i64_in _ (by omega)).trans (by omega);have bl:IntKind.i64.wrap ((a:Int)*4096+(S1:Int))=(V2:Int):=(IntWalk.i64_in _ (by omega)).trans (by omega);have dz:=xQ bj;have d2:=xQ bl;have ai:gT<wr.heap.size:=(b.hi 6)
     have y:wr.cell? ⟨gT,V1,none⟩=some (.int .i64 x):=by have:=(b.ow 6).cellAt V1 (by omega);rw[this];simp[ivs,bz]
     have z:wr.cell? ⟨gT,V2,none⟩=some (.int .i64 dd):=by have:=(b.ow 6).cellAt V2 (by omega);rw[this];simp[ivs,b0]
     have b1:(0:Int)≤(V1:Int):=by omega
     have b2:(V1:Int)<49152:=by omega
     have b3:(0:Int)≤(V2:Int):=by omega
     have b4:(V2:Int)<49152:=by omega
     clear ez cm cn ax z1 z2 z3 z5 bz b0 bw bx bv bj bl d8 ea;by_cases hkJ:k=J
     ·have au:x=dd-1:=by have:=dx.2 hkJ;omega
      have dt:=xQ au;clear au;subst hkJ;go_wp2;refine rL (gl [gEq (.slice (some ⟨gT,0,none⟩) 49152 cl),gEq (.agg #[aA,aB,.slice qz n cz]),gEq id,gEq (C2:Int),gEq ((C2:Int)*4096:Int),gEq (.agg #[aA,aB,.slice qz n cz]),gEq (S2:Int),gEq (V1:Int),gEq (.pointer (some ⟨gT,V1,none⟩)),gEq x,gEq (.slice (some ⟨gT,0,none⟩) 49152 cl),gEq (a:Int),gEq ((a:Int)*4096:Int),gEq (.agg #[aA,aB,.slice q n c9]),gEq (S1:Int),gEq (V2:Int),gEq (.pointer (some ⟨gT,V2,none⟩)),gEq dd,gEq (dd-1:Int),gEq (.bool false)]) 20 20 [(0,some 50),(1,some 51),(2,some 52),(3,some 53),(4,some 54),(5,some 55),(6,some 56),(7,some 57),(8,some 58),(9,some 59),(10,some 60),(11,some 61),(12,some 62),(13,some 63),(14,some 64),(15,some 65),(16,some 66),(17,some 67),(18,some 68),(19,some 69)] ?steps ?fin
      case steps=>
       refine sS0 [] ?_;refine sC [] rfl (fun wi hx=> ?_) ?_
       ·intro K hK;have hX:=hx.of_drew;have ab:=((b.bk 1).ext hX).cl 0;have y:=((b.bk 1).ext hX).cl 1;have z:=((b.bk 1).ext hX).cl 2;go_simp;exact hK _ _ ⟨.agg #[aA,aB,.slice qz n cz],rfl,rfl,Ext.refl _⟩
       refine sS0 [] ?_;refine sC [(1,some 51),(2,some 52)] rfl (fun wi hx=> ?_) ?_
       ·intro v1 h1 v2 h2 K hK;obtain rfl:=h1;obtain rfl:=h2;have hX:=hx.of_drew;clear b1 b2 b3 b4 o r;have HH:=xQ (ce zs qz cz C2 wi ((b.adv hX).sq 0) Z1 Z5.out);go_wp2_with fail;refine HH.out.mono ?_;rintro e w5 ⟨rfl,l⟩;go_simp;exact hK _ _ ⟨.int .i64 (C2:Int),rfl,rfl,l⟩
       refine sC [(3,some 53)] rfl (fun wi hx=> ?_) ?_
       ·intro v3 h3 K hK;obtain rfl:=h3;have a8:IntKind.i64.wrap ((C2:Int)*4096)=(C2:Int)*4096:=IntWalk.i64_in _ (by omega);go_simp;exact hK _ _ ⟨.int .i64 ((C2:Int)*4096),rfl,rfl,Ext.refl _⟩
       refine sC [] rfl (fun wi hx=> ?_) ?_
       ·intro K hK;have hX:=hx.of_drew;have ab:=((b.bk 1).ext hX).cl 0;have y:=((b.bk 1).ext hX).cl 1;have z:=((b.bk 1).ext hX).cl 2;go_simp;exact hK _ _ ⟨.agg #[aA,aB,.slice qz n cz],rfl,rfl,Ext.refl _⟩
       refine sC [(5,some 55)] rfl (fun wi hx=> ?_) ?_
       ·intro v5 h5 K hK;obtain rfl:=h5;have hX:=hx.of_drew;clear b1 b2 b3 b4 o r;have HH:=xQ (bd zs qz cz wi ((b.adv hX).sq 0) Z1.out);rw[Z3.out]at HH;go_wp2_with fail;refine HH.out.mono ?_;rintro e w5 ⟨rfl,l⟩;go_simp;exact hK _ _ ⟨.int .i64 (S2:Int),rfl,rfl,l⟩
       refine sC [(4,some 54),(6,some 56)] rfl (fun wi hx=> ?_) ?_
       ·intro v4 h4 v6 h6 K hK;obtain rfl:=h4;obtain rfl:=h6;have bj:=dz.out;go_simp;exact hK _ _ ⟨.int .i64 (V1:Int),rfl,rfl,Ext.refl _⟩
       refine sS2 [(0,some 50),(7,some 57)] ?_;refine sC [(8,some 58)] rfl (fun wi hx=> ?_) ?_
       ·intro v8 h8 K hK;obtain rfl:=h8;have hX:=hx.of_drew;have ab:wi.cell? ⟨gT,V1,none⟩=some (.int .i64 x):=(hX.cells.1 _ _ ai).trans y;go_simp;exact hK _ _ ⟨.int .i64 x,rfl,rfl,Ext.refl _⟩
       refine sS0 [] (sS0 [] ?_);refine sC [(11,some 61)] rfl (fun wi hx=> ?_) ?_
       ·intro da aj K hK;obtain rfl:=aj;have a8:IntKind.i64.wrap ((a:Int)*4096)=(a:Int)*4096:=IntWalk.i64_in _ (by omega);go_simp;exact hK _ _ ⟨.int .i64 ((a:Int)*4096),rfl,rfl,Ext.refl _⟩
       refine sC [] rfl (fun wi hx=> ?_) ?_
       ·intro K hK;have hX:=hx.of_drew;have ab:=((b.bk 3).ext hX).cl 0;have y:=((b.bk 3).ext hX).cl 1;have z:=((b.bk 3).ext hX).cl 2;go_simp;exact hK _ _ ⟨.agg #[aA,aB,.slice q n c9],rfl,rfl,Ext.refl _⟩
       refine sC [(13,some 63)] rfl (fun wi hx=> ?_) ?_
       ·intro dc al K hK;obtain rfl:=al;have hX:=hx.of_drew;clear b1 b2 b3 b4 o r;have HH:=xQ (bd ys q c9 wi ((b.adv hX).sq 4) HW.out.ok);rw[←be.out]at HH;go_wp2_with fail;refine HH.out.mono ?_;rintro e w5 ⟨rfl,l⟩;go_simp;exact hK _ _ ⟨.int .i64 (S1:Int),rfl,rfl,l⟩
       refine sC [(12,some 62),(14,some 64)] rfl (fun wi hx=> ?_) ?_
       ·intro db ak de am K hK;obtain rfl:=ak;obtain rfl:=am;have bl:=d2.out;go_simp;exact hK _ _ ⟨.int .i64 (V2:Int),rfl,rfl,Ext.refl _⟩
       refine sS2 [(10,some 60),(15,some 65)] ?_;refine sC [(16,some 66)] rfl (fun wi hx=> ?_) ?_
       ·intro df an K hK;obtain rfl:=an;have hX:=hx.of_drew;have ab:wi.cell? ⟨gT,V2,none⟩=some (.int .i64 dd):=(hX.cells.1 _ _ ai).trans z;go_simp;exact hK _ _ ⟨.int .i64 dd,rfl,rfl,Ext.refl _⟩
       refine sC [(17,some 67)] rfl (fun wi hx=> ?_) ?_
       ·intro dg ao K hK;obtain rfl:=ao;have a8:IntKind.i64.wrap (dd-1)=dd-1:=IntWalk.i64_in _ (by omega);go_simp;exact hK _ _ ⟨.int .i64 (dd-1),rfl,rfl,Ext.refl _⟩
       refine sC [(9,some 59),(18,some 68)] rfl (fun wi hx=> ?_) StepsL.nil
       ·intro v9 h9 dh ap K hK;obtain rfl:=h9;obtain rfl:=ap;have cq:(x !=(dd-1))=false:=by rw[dt.out];simp
        go_simp;exact hK _ _ ⟨.bool false,rfl,rfl,Ext.refl _⟩
      case fin=>
       intro wi hx v0 h0 v1 h1 v2 h2 v3 h3 v4 h4 v5 h5 v6 h6 v7 h7 v8 h8 v9 h9 fo ci da aj db ak dc al de am fp cj df an dg ao dh ap fq ck;obtain rfl:=h0;obtain rfl:=h1;obtain rfl:=h2;obtain rfl:=h3;obtain rfl:=h4;obtain rfl:=h5;obtain rfl:=h6;obtain rfl:=h7;obtain rfl:=h8;obtain rfl:=h9;obtain rfl:=ci;obtain rfl:=aj;obtain rfl:=ak;obtain rfl:=al;obtain rfl:=am;obtain rfl:=cj;obtain rfl:=an;obtain rfl:=ao;obtain rfl:=ap;obtain rfl:=ck;refine wpAny_done (by kernel_rfl) ?_ _;try go_frame
       have hX:Ext wr wi:=hx.of_drew;have g:=(b.adv hX)
       clear b hx hX y z b1 b2 b3 b4 o r;have ad:=g.hi 1;have ae:=g.hi 3;have af:=g.hi 7;have em:=fd (f,t) ar.out;have ct:=e8.out;rw[ar.out]at ct;have b6:fQ aA n (aV D) (c,aN xs) j=(f,t):=(Option.some.inj ct).symm;have dw:=xQ b6;have b9:xD aA aB xs D c id (j+1) zs:=by have:=fe.out;rw[←this];exact em
       have dy:=xQ b9;clear em b9 ct b6;have i1:(0:Int)≤(k:Int):=by omega
       have i3:(k:Int)<(KS:Int):=by omega
       have e0:wi.cell? ⟨gs,k*2,none⟩=some (.int .i64 (f:Int)):=by have:=(g.ow 2).cellAt (k*2) (by omega);rw[this];exact(iC ar.out).1
       have e1:wi.cell? ⟨gs,k*2+1,none⟩=some (.int .i64 (t:Int)):=by have:=(g.ow 2).cellAt (k*2+1) (by omega);rw[this];exact(iC ar.out).2
       go_wp2_with (at_builtin;refine cE oD rfl _ _ rfl (g.adv ((Ext.refl _).alloc (.cells #[(f:Int),(t:Int)] TSL))) 5 rfl rfl (aK ((f:Int),(t:Int))) rfl (dJ _ _ _ 1 2 _ (by first|rfl|simp) (by first|rfl|simp) (by simp[maxLen])) (mG _ _) (by omega) ?_;intro q7 c7 w6 M6;(have M7:=xQ (show Mem w w6 [aJ w.heap.size TI 1 (qz) (n) (cz) (ivs (zs)),aI w.heap.size (a1) TH3 #[aA,aB,.slice qz n cz],aJ w.heap.size TSL 2 (some ⟨gs,0,none⟩) (KS) (cs) ((es.map iK).flatMap aK),aI w.heap.size (a9) TH3 #[aA,aB,.slice q n c9],aJ w.heap.size TI 1 (q) (n) (c9) (ivs ys),aJ w.heap.size TSL 2 (q7) (j+1) (c7) ((mX aA n (aV D) (c,aN xs) (j+1)).flatMap aK),aJ w.heap.size TI 1 (some ⟨gT,0,none⟩) (49152) (cl) (ivs D),aI w.heap.size (w.heap.size) TH3 #[aA,aB,.slice p n u]]from by rw[vV,List.flatMap_append,dw.out];exact M6));clear M6 e0 e1 g ad ae af;(have bm:a1<w6.heap.size:=(M7.out.hi 1));(have bo:a9<w6.heap.size:=(M7.out.hi 3));(have bp:w.heap.size<w6.heap.size:=(M7.out.hi 7));(have s: ¬(a1=a9):=M7.out.ne (i:=1) (j:=3) (by omega) rfl rfl rfl rfl);(have ag: ¬(a9=a1):=fun h=>s h.symm);(obtain⟨x0,x1,x2⟩:=(M7.out.bk 1).tri);(obtain⟨v0,di,v1,dj,v2,dk⟩:=(M7.out.bk 3).trif));have bf:=(((M7.out.st 3 0 (.int .i64 aA)).st 3 1 (.int .i64 aB)).st 3 2 (.slice qz n cz))
       generalize ba:World.setCell _ _ _=wz;rw[ba]at bf;clear ba s ag x0 x1 x2 v0 di v1 dj v2 dk bm bo bp M7;have fa:=xQ (ce zs qz cz C2 wz (bf.sq 0) Z1 Z5.out);refine fa.out.mono ?_;rintro e ga ⟨rfl,cb⟩;have bg:=(bf.adv cb)
       clear bf cb;have e2:=bg.hi 1;have e3:=bg.hi 3;have e4:=bg.hi 7;have b8:(gP aA n (aV D) (c,aN xs) (j+1)).1=C2:=by have h1:=(cy.out D HD d cc j hlt).2;rw[h1,dw.out,e5.out,HA.out];rfl
       have fb:=xQ b8;clear b8;go_wp2;go_roundw
       case rel=>exact⟨j+1,zs,qz,cz,q7,c7,by omega,by rw[fb.out],rfl,dy.out,(bg.pick [3,0,5,6,7] (by decide) rfl)⟩
       case measure=>simp[aA0];omega
     have au: ¬x=dd-1:=fun h=>hkJ (dx.1 (by omega))
     go_wp2;refine rL (gl [gEq (.slice (some ⟨gT,0,none⟩) 49152 cl),gEq (.agg #[aA,aB,.slice qz n cz]),gEq id,gEq (C2:Int),gEq ((C2:Int)*4096:Int),gEq (.agg #[aA,aB,.slice qz n cz]),gEq (S2:Int),gEq (V1:Int),gEq (.pointer (some ⟨gT,V1,none⟩)),gEq x,gEq (.slice (some ⟨gT,0,none⟩) 49152 cl),gEq (a:Int),gEq ((a:Int)*4096:Int),gEq (.agg #[aA,aB,.slice q n c9]),gEq (S1:Int),gEq (V2:Int),gEq (.pointer (some ⟨gT,V2,none⟩)),gEq dd,gEq (dd-1:Int),gEq (.bool true)]) 20 20 [(0,some 50),(1,some 51),(2,some 52),(3,some 53),(4,some 54),(5,some 55),(6,some 56),(7,some 57),(8,some 58),(9,some 59),(10,some 60),(11,some 61),(12,some 62),(13,some 63),(14,some 64),(15,some 65),(16,some 66),(17,some 67),(18,some 68),(19,some 69)] ?steps ?fin
     case steps=>
      refine sS0 [] ?_;refine sC [] rfl (fun wi hx=> ?_) ?_
      ·intro K hK;have hX:=hx.of_drew;have ab:=((b.bk 1).ext hX).cl 0;have y:=((b.bk 1).ext hX).cl 1;have z:=((b.bk 1).ext hX).cl 2;go_simp;exact hK _ _ ⟨.agg #[aA,aB,.slice qz n cz],rfl,rfl,Ext.refl _⟩
      refine sS0 [] ?_;refine sC [(1,some 51),(2,some 52)] rfl (fun wi hx=> ?_) ?_
      ·intro v1 h1 v2 h2 K hK;obtain rfl:=h1;obtain rfl:=h2;have hX:=hx.of_drew;clear b1 b2 b3 b4 o r;have HH:=xQ (ce zs qz cz C2 wi ((b.adv hX).sq 0) Z1 Z5.out);go_wp2_with fail;refine HH.out.mono ?_;rintro e w5 ⟨rfl,l⟩;go_simp;exact hK _ _ ⟨.int .i64 (C2:Int),rfl,rfl,l⟩
      refine sC [(3,some 53)] rfl (fun wi hx=> ?_) ?_
      ·intro v3 h3 K hK;obtain rfl:=h3;have a8:IntKind.i64.wrap ((C2:Int)*4096)=(C2:Int)*4096:=IntWalk.i64_in _ (by omega);go_simp;exact hK _ _ ⟨.int .i64 ((C2:Int)*4096),rfl,rfl,Ext.refl _⟩
      refine sC [] rfl (fun wi hx=> ?_) ?_
      ·intro K hK;have hX:=hx.of_drew;have ab:=((b.bk 1).ext hX).cl 0;have y:=((b.bk 1).ext hX).cl 1;have z:=((b.bk 1).ext hX).cl 2;go_simp;exact hK _ _ ⟨.agg #[aA,aB,.slice qz n cz],rfl,rfl,Ext.refl _⟩
      refine sC [(5,some 55)] rfl (fun wi hx=> ?_) ?_
      ·intro v5 h5 K hK;obtain rfl:=h5;have hX:=hx.of_drew;clear b1 b2 b3 b4 o r;have HH:=xQ (bd zs qz cz wi ((b.adv hX).sq 0) Z1.out);rw[Z3.out]at HH;go_wp2_with fail;refine HH.out.mono ?_;rintro e w5 ⟨rfl,l⟩;go_simp;exact hK _ _ ⟨.int .i64 (S2:Int),rfl,rfl,l⟩
      refine sC [(4,some 54),(6,some 56)] rfl (fun wi hx=> ?_) ?_
      ·intro v4 h4 v6 h6 K hK;obtain rfl:=h4;obtain rfl:=h6;have bj:=dz.out;go_simp;exact hK _ _ ⟨.int .i64 (V1:Int),rfl,rfl,Ext.refl _⟩
      refine sS2 [(0,some 50),(7,some 57)] ?_;refine sC [(8,some 58)] rfl (fun wi hx=> ?_) ?_
      ·intro v8 h8 K hK;obtain rfl:=h8;have hX:=hx.of_drew;have ab:wi.cell? ⟨gT,V1,none⟩=some (.int .i64 x):=(hX.cells.1 _ _ ai).trans y;go_simp;exact hK _ _ ⟨.int .i64 x,rfl,rfl,Ext.refl _⟩
      refine sS0 [] (sS0 [] ?_);refine sC [(11,some 61)] rfl (fun wi hx=> ?_) ?_
      ·intro da aj K hK;obtain rfl:=aj;have a8:IntKind.i64.wrap ((a:Int)*4096)=(a:Int)*4096:=IntWalk.i64_in _ (by omega);go_simp;exact hK _ _ ⟨.int .i64 ((a:Int)*4096),rfl,rfl,Ext.refl _⟩
      refine sC [] rfl (fun wi hx=> ?_) ?_
      ·intro K hK;have hX:=hx.of_drew;have ab:=((b.bk 3).ext hX).cl 0;have y:=((b.bk 3).ext hX).cl 1;have z:=((b.bk 3).ext hX).cl 2;go_simp;exact hK _ _ ⟨.agg #[aA,aB,.slice q n c9],rfl,rfl,Ext.refl _⟩
      refine sC [(13,some 63)] rfl (fun wi hx=> ?_) ?_
      ·intro dc al K hK;obtain rfl:=al;have hX:=hx.of_drew;clear b1 b2 b3 b4 o r;have HH:=xQ (bd ys q c9 wi ((b.adv hX).sq 4) HW.out.ok);rw[←be.out]at HH;go_wp2_with fail;refine HH.out.mono ?_;rintro e w5 ⟨rfl,l⟩;go_simp;exact hK _ _ ⟨.int .i64 (S1:Int),rfl,rfl,l⟩
      refine sC [(12,some 62),(14,some 64)] rfl (fun wi hx=> ?_) ?_
      ·intro db ak de am K hK;obtain rfl:=ak;obtain rfl:=am;have bl:=d2.out;go_simp;exact hK _ _ ⟨.int .i64 (V2:Int),rfl,rfl,Ext.refl _⟩
      refine sS2 [(10,some 60),(15,some 65)] ?_;refine sC [(16,some 66)] rfl (fun wi hx=> ?_) ?_
      ·intro df an K hK;obtain rfl:=an;have hX:=hx.of_drew;have ab:wi.cell? ⟨gT,V2,none⟩=some (.int .i64 dd):=(hX.cells.1 _ _ ai).trans z;go_simp;exact hK _ _ ⟨.int .i64 dd,rfl,rfl,Ext.refl _⟩
      refine sC [(17,some 67)] rfl (fun wi hx=> ?_) ?_
      ·intro dg ao K hK;obtain rfl:=ao;have a8:IntKind.i64.wrap (dd-1)=dd-1:=IntWalk.i64_in _ (by omega);go_simp;exact hK _ _ ⟨.int .i64 (dd-1),rfl,rfl,Ext.refl _⟩
      refine sC [(9,some 59),(18,some 68)] rfl (fun wi hx=> ?_) StepsL.nil
      ·intro v9 h9 dh ap K hK;obtain rfl:=h9;obtain rfl:=ap;have cq:(x !=(dd-1))=true:=by simp[au]
       go_simp;exact hK _ _ ⟨.bool true,rfl,rfl,Ext.refl _⟩
     case fin=>
      intro wi hx v0 h0 v1 h1 v2 h2 v3 h3 v4 h4 v5 h5 v6 h6 v7 h7 v8 h8 v9 h9 fo ci da aj db ak dc al de am fp cj df an dg ao dh ap fq ck;obtain rfl:=h0;obtain rfl:=h1;obtain rfl:=h2;obtain rfl:=h3;obtain rfl:=h4;obtain rfl:=h5;obtain rfl:=h6;obtain rfl:=h7;obtain rfl:=h8;obtain rfl:=h9;obtain rfl:=ci;obtain rfl:=aj;obtain rfl:=ak;obtain rfl:=al;obtain rfl:=am;obtain rfl:=cj;obtain rfl:=an;obtain rfl:=ao;obtain rfl:=ap;obtain rfl:=ck;refine wpAny_done (by kernel_rfl) ?_ _;try go_frame
      have hX:Ext wr wi:=hx.of_drew;have g:=(b.adv hX)
      clear b hx hX y z ai b1 b2 b3 b4 o r;have ad:=g.hi 1;have ae:=g.hi 3;have af:=g.hi 7;obtain⟨f2,t2,ah⟩: ∃f t,es[k+1]? =some (f,t):=⟨_,_,List.getElem?_eq_getElem (by rw[←HK.out];omega)⟩
      have e6:=xQ ah;have i1:(0:Int)≤(k:Int)+1:=by omega
      have i3:(k:Int)+1<(KS:Int):=by omega
      have i4:((k:Int)+1).toNat=k+1:=by omega
      have d0:wi.cell? ⟨gs,(k+1)*2,none⟩=some (.int .i64 (f2:Int)):=by have:=(g.ow 2).cellAt ((k+1)*2) (by omega);rw[this];exact(iC ah).1
      have d1:wi.cell? ⟨gs,(k+1)*2+1,none⟩=some (.int .i64 (t2:Int)):=by have:=(g.ow 2).cellAt ((k+1)*2+1) (by omega);rw[this];exact(iC ah).2
      have a6:gs<wi.heap.size:=(g.hi 2)
      clear ah;have a0:=xQ (fun w' (hx:Ext wi w')=>ep.out ys q c9 f2 t2 w' ((g.sq 4).ext hx) HW.out.ok bb);obtain⟨v0,v1,v2⟩:=(g.bk 3).tri;have n1: ¬(a9=wi.heap.size):=by have:=(g.hi 3);omega
      have n2: ¬(wi.heap.size=a9):=fun h=>n1 h.symm
      have n3: ¬(gs=wi.heap.size):=by omega
      have n4: ¬(wi.heap.size=gs):=fun h=>n3 h.symm
      go_upto_region 15 with fail;go_cut [14,15] (fun s1 s2 wx=> ∃(a:Nat) (q5:OA) (c5:Nat),s1= .pointer (some ⟨a,0,none⟩)∧Ext wi wx∧wi.heap.size≤a∧Blk wx a TH3 #[aA,aB,.slice q5 n c5]∧wx.ownsRow wi.heap.size TI 1 (.slice q5 n c5) n (ivs (bH aA aB ys ((f2:Nat):Int) ((t2:Nat):Int))))
      case first=>
       go_region_held3 (fun w'=>w'.cell? ⟨a9,0,none⟩=some (.int .i64 aA)∧w'.cell? ⟨a9,1,none⟩=some (.int .i64 aB)∧w'.cell? ⟨a9,2,none⟩=some (.slice q n c9)∧w'.cell? ⟨gs,(k+1)*2,none⟩=some (.int .i64 (f2:Int))∧w'.cell? ⟨gs,(k+1)*2+1,none⟩=some (.int .i64 (t2:Int)))
        (first|(refine⟨?_,?_,?_,?_,?_⟩<;>assumption)|go_keep)
        ((go_at_call 88
          refine(a0 _ xE).mono ?_;rintro e w5 ⟨q5,c5,rfl,o5,l⟩;have m:Ext wi w5:=xE;have g0:=((g.bk 3).ext m).cl 0;have g1:=((g.bk 3).ext m).cl 1;have g2:=((g.bk 3).ext m).cl 2;have g3:w5.cell? ⟨gs,(k+1)*2,none⟩=some (.int .i64 (f2:Int)):=(m.cells.1 _ _ a6).trans d0;have g4:w5.cell? ⟨gs,(k+1)*2+1,none⟩=some (.int .i64 (t2:Int)):=(m.cells.1 _ _ a6).trans d1
          first
           |(have aq:Ext (wi.alloc (.cells #[(),(),((),())] TH3)) w5:=l
             have BB:=(Blk.new wi TH3 #[(),(),((),())]).ext aq;have dl:=BB.cl 0;have dm:=BB.cl 1;have dn:=BB.cl 2;have dp:=BB.frozen 0;have dq:=BB.frozen 1
             have dr:w5.frozen? ⟨wi.heap.size,2,none⟩=false:=BB.frozen 2)
           |(have aq:Ext (wi.alloc (.cells #[(),(),((),())] TH3)) w5:=l.of_drew
             have BB:=(Blk.new wi TH3 #[(),(),((),())]).ext aq;have dl:=BB.cl 0;have dm:=BB.cl 1;have dn:=BB.cl 2;have dp:=BB.frozen 0;have dq:=BB.frozen 1
             have dr:w5.frozen? ⟨wi.heap.size,2,none⟩=false:=BB.frozen 2)
           |skip))
       ·go_wp2_with fail;go_meet;exact⟨w5.heap.size,q5,c5,rfl,by exact .alloc m _,by have:=m.sz;omega,Blk.new _ _ _,bE (by exact o5.alloc _) (by simp)⟩
       have hR:ExtR wi.heap.size w5 _:=(((ExtR.refl wi.heap.size w5).setCell (p:=⟨wi.heap.size,0,none⟩) (.inl rfl) (.int .i64 aA)).setCell (p:=⟨wi.heap.size,1,none⟩) (.inl rfl) (.int .i64 aB)).setCell (p:=⟨wi.heap.size,2,none⟩) (.inl rfl) (.slice q5 n c5);have hY:=((BB.set 0 (.int .i64 aA)).set 1 (.int .i64 aB)).set 2 (.slice q5 n c5);simp only[List.setIfInBounds_toArray,List.set_cons_zero,List.set_cons_succ]at hY;go_wp2_with fail;go_meet;exact⟨wi.heap.size,q5,c5,rfl,ExtR.new m hR (Nat.le_refl _),Nat.le_refl _,hY,bE (o5.kept hR (.inr (dF o5 BB (by decide)))) (by simp)⟩
      case rest=>
       clear v0 v1 v2 n1 n2 n3 n4 d0 d1;obtain⟨f4,q8,c8,rfl,a3,a4,a2,a7⟩:=hcut;have aa:=(g.blkOwn a3 a2 a4 a7 (Nat.le_refl _) (by decide))
       clear a3 a4 a2 a7 a0 g ad ae af;have bq:=aa.hi 1;have br:=aa.hi 3;have bs:=aa.hi 5;have bt:=aa.hi 9;obtain⟨s,ag⟩:=aa.nq 1 3;obtain⟨x0,x1,x2⟩:=(aa.bk 1).tri;obtain⟨v0,di,v1,dj,v2,dk⟩:=(aa.bk 3).trif;go_wp2;have d4:=(((aa.st 3 0 (.int .i64 aA)).st 3 1 (.int .i64 aB)).st 3 2 (.slice q8 n c8))
       generalize ba:World.setCell _ _ _=wz;rw[ba]at d4;clear ba s ag x0 x1 x2 v0 di v1 dj v2 dk bq br bs bt aa;go_roundw
       case rel=>exact⟨k+1,f2,t2,q8,c8,by omega,by go_num,e6.out,(d4.pick [0,3,4,5,6,7,8,9] (by decide) rfl)⟩
       case measure=>simp[intOf];omega
  obtain rfl:d=j:=by omega
  have ec:a=0:=av.2 rfl;have t0:decide ((0:Int)<(a:Int))=false:=by simp;omega
  have hE:=xQ HM.ext;have hO:=xQ (HM.ow 2);subst ec;go_wp2;rw[ey.out];exact bodyPost_ret (v:= .tuple #[.slice q6 d lc,.bool true]) (by simp[results,Tryz.results135,go_sem, *]) rfl ⟨q6,lc,by rw[nA],by rw[nA];exact hO.out,hE.out⟩
theorem vS (aA aB id:Int)(p:OA)(n i:Nat)(xs:List Int)(w:World)(hS:Sl w p n i 1 (ivs xs))(g:aM aA aB xs=true){c:Nat}(l:1≤id)(hc:xs[c]? =some id):
  Calls Tryz.prog 135 #[aH aA aB p n i,id] w (iW (dH aA xs c) w):=by
 have hl:=hS.ilen;subst hl;obtain⟨g1,g2,g3,g4,g5,g6,g7⟩:=bZ (cM g);have h0:id≠0:=by omega
 have k:=jZ hc h0;have m:(2:Nat) ^ xs.length≤4096:=Nat.le_trans (Nat.pow_le_pow_right (by omega) g6) (by decide)
 refine aHi aA aB id p xs.length i c xs w g5 g6 g rfl h0 hc k.car (fun zs hz=> ?_) (fun D hD=>uY g hc h0 hD) (fun D hD=> ?_) (fun D hD d hd j hj=> ?_) (fun D hD d hd j hj ys hw=>aGu g hc h0 hD hd hj hw) (fun ys hy hyl f t hm=> ?_) (fun ys q c9 f t w' hs hy hyl=> ?_)
  (fun D hD d hd j hj=>⟨trivial,(jN g5 g6 hD k hd hj).2.2⟩) (fun w' hx=> ?_) (fun w' hx=>uF aA aB p xs.length i xs w' (hS.ext hx) g) (fun w' hx=> ?_) (fun w' hx=>fG aA aB p xs.length i xs w' (by omega) (hS.ext hx)) (fun zs q c9 C2 w' hs hz hC=> ?_) (fun zs q c9 w' hs hz=>uF aA aB q xs.length c9 zs w' hs hz)
 ·have:=mO zs;rw[hz]at this;omega
 ·obtain⟨n1,n2,n3⟩:=rT g hc h0 hD;by_cases hf:bJ xs= []
  ·by_cases hc0:c=0
   ·rw[n2 hc0];decide
   have:=n3 hf hc0;omega
  exact(n1 hf).2
 ·obtain⟨a,b⟩:=iS g5 g6 hD k hd j hj;exact⟨a.car,b,aIw g5 g6 hD k hd hj,Nat.lt_of_lt_of_le a.set m⟩
 ·rw[←hyl]at hm;obtain⟨m1,m2,m3,m4⟩:=rR hy hm;exact⟨gZ _ _ hy,by rw[cT,hyl],m3,m4⟩
 ·have:=kX aA aB (f:Int) (t:Int) q xs.length c9 ys w' hs hy;unfold cO at this;rw[cT,hyl]at this;exact this
 ·have:=qW aA aB id p xs.length i xs w' (hS.ext hx);rwa[wR g l hc]at this
 ·refine(aCx aA aB p xs.length i xs w' (hS.ext hx) g).mono fun e w'' h=> ?_
  obtain⟨D,hD,q,c',h1,h2,h3⟩:=h;have hl:=hD.len;rw[hl]at h1 h2;exact⟨D,hD,q,c',h1,h2,h3⟩
 have:=qW aA aB id q xs.length c9 zs w' hs;rwa[wR hz l hC]at this
end Go.Proofs.YtpelpnfhbepokaaGreatDoor
namespace Go.Proofs.YtpelpnfhbepokaaGreatDoor
open Go.RowKit
set_option linter.unusedVariables false
set_option linter.unusedSimpArgs false
set_option maxHeartbeats 8000000
set_option maxRecDepth 100000
theorem aFc (aA aB id:Int)(p:OA)(n a:Nat)(w:World)
  (c:xC 180 #[aH aA aB p n a,id] w fun w' e w''=>e= .returned (.int .i64 (-1))∧Ext w' w''):
  Calls Tryz.prog 135 #[aH aA aB p n a,id] w (iW none w):=by
 go_enter Tryz.func135,Tryz.ntmps135;go_wp2_with fail;refine(c _ (((Mem.start w).c0 TH3 #[aA,aB,.slice p n a]).made0 TSL 2 (w.heap.size+1) (by simp)).ext).mono ?_;rintro e w1 ⟨rfl,b⟩;have M1:=((((Mem.start w).c0 TH3 #[aA,aB,.slice p n a]).made0 TSL 2 (w.heap.size+1) (by simp)).adv b)
 have d:=M1.hi 1;clear b;have HX:=xQ (M1.ext);go_wp2;exact bodyPost_ret (v:= .tuple #[.slice (some ⟨w.heap.size+1,0,none⟩) 0 0,.bool false]) (by simp[results,Tryz.results135,go_sem, *]) rfl ⟨_,rfl,HX.out⟩
theorem tT (aA aB id:Int)(p:OA)(n a:Nat)(xs:List Int)(w:World)(h:Hid (xs.length=n))
  (HV:xB 41 #[aH aA aB p n a] w true)
  (HB:xC 135 #[aH aA aB p n a,id] w fun w' e w''=> ∃v,e= .returned (.tuple #[v,.bool false])∧Ext w' w'')
  (HL:xC 81 #[aH aA aB p n a] w fun w' e w''=> ∃q c,e= .returned (aH aA aB q n c)∧w''.ownsRow w'.heap.size TI 1 (.slice q n c) n (ivs xs)∧Ext w' w''):
  Calls Tryz.prog 85 #[aH aA aB p n a,id] w (cN aA aB xs (-1) w):=by
 go_enter Tryz.func85,Tryz.ntmps85;go_wp2_with fail;refine(HV _ (((Mem.start w).c0 TH3 #[aA,aB,.slice p n a]).c1 TH3 #[(),(),((),())]).ext).mono ?_;rintro e w1 ⟨rfl,k⟩;have M1:=((((Mem.start w).c0 TH3 #[aA,aB,.slice p n a]).c1 TH3 #[(),(),((),())]).adv k)
 have b:=M1.hi 0;have d:=M1.hi 1;clear k;obtain⟨c0,c1,c2⟩:=(M1.bk 1).tri;go_wp2_with fail;clear c0 c1 c2;refine(HB _ M1.ext).mono ?_;rintro e w2 ⟨v,rfl,l⟩;have M2:=(M1.adv l)
 clear M1 b d l;have f:=M2.hi 0;have g:=M2.hi 1;obtain⟨c0,c1,c2⟩:=(M2.bk 1).tri;go_wp2_with fail;clear c0 c1 c2;refine(HL _ M2.ext).mono ?_;rintro e w3 ⟨q0,c0,rfl,i,m⟩;have M3:=(M2.call m i)
 clear M2 f g m i;have o:=M3.hi 1;have r:=M3.hi 2;obtain⟨z0,s,z1,t,z2,u⟩:=(M3.bk 1).trif;go_wp2;clear z0 s z1 t z2 u;have M4:=(((M3.st 1 0 (.int .i64 aA)).st 1 1 (.int .i64 aB)).st 1 2 (.slice q0 n c0))
 generalize j:World.setCell _ _ _=wz;rw[j]at M4;clear j M3;obtain⟨x,y,z⟩:=(M4.bk 1).tri;exact bodyPost_ret (v:= .tuple #[.agg #[aA,aB,.slice q0 n c0],(-1:Int)]) (by simp[results,Tryz.results85,go_sem, *]) rfl (eH h.out (M4.ow 0) M4.ext)
theorem zU (aA aB id:Int)(p:OA)(n a K:Nat)(ys:List Int)(sl:List Sl2)(w:World)(k:Hid (ys.length=n))
  (HV:xB 41 #[aH aA aB p n a] w true)
  (HB:xC 135 #[aH aA aB p n a,id] w fun w' e w''=> ∃q c,e= .returned (.tuple #[.slice q K c,.bool true])∧w''.ownsRow w'.heap.size TSL 2 (.slice q K c) K (sl.flatMap aK)∧Ext w' w'')
  (HR:Hid (∀w' q c,Ext w w'→Sl w' q K c 2 (sl.flatMap aK)→Calls Tryz.prog 132 #[aH aA aB p n a,.slice q K c] w' fun e w''=> ∃q c,e= .returned (.tuple #[aH aA aB q n c,(K:Int)])∧w''.ownsRow w'.heap.size TI 1 (.slice q n c) n (ivs ys)∧Ext w' w''))
  (HT:Hid (∀w' q c,Ext w w'→Sl w' q n c 1 (ivs ys)→Calls Tryz.prog 136 #[aH aA aB q n c,()] w' fun e w''=> ∃q c i,e= .returned (.tuple #[aH aA aB q n c,i])∧w''.ownsRow w'.heap.size TI 1 (.slice q n c) n (ivs (ys.set 0 0))∧Ext w' w'')):
  Calls Tryz.prog 85 #[aH aA aB p n a,id] w (cN aA aB (ys.set 0 0) (K:Int) w):=by
 go_enter Tryz.func85,Tryz.ntmps85;go_wp2_with fail;refine(HV _ (((Mem.start w).c0 TH3 #[aA,aB,.slice p n a]).c1 TH3 #[(),(),((),())]).ext).mono ?_;rintro e w1 ⟨rfl,s⟩;have M1:=((((Mem.start w).c0 TH3 #[aA,aB,.slice p n a]).c1 TH3 #[(),(),((),())]).adv s)
 have b:=M1.hi 0;have d:=M1.hi 1;clear s;obtain⟨c0,c1,c2⟩:=(M1.bk 1).tri;go_wp2_with fail;clear c0 c1 c2;refine(HB _ M1.ext).mono ?_;rintro e w2 ⟨qs,cs,rfl,l,t⟩;have M2:=(M1.call t l)
 clear M1 b d t l;have f:=M2.hi 1;have g:=M2.hi 2;obtain⟨c0,c1,c2⟩:=(M2.bk 2).tri;go_wp2_with fail;clear c0 c1 c2;refine(HR _ qs cs M2.ext (M2.sq 0)).mono ?_;rintro e w3 ⟨q1,c1,rfl,m,u⟩;have M3:=(M2.call u m)
 clear M2 f g u m;have h:=M3.hi 2;have j:=M3.hi 3;go_wp2_with fail;refine(HT _ q1 c1 (M3.c0 TH3 #[aA,aB,.slice q1 n c1]).ext ((M3.c0 TH3 #[aA,aB,.slice q1 n c1]).sq 1)).mono ?_;rintro e w4 ⟨q2,c2,i2,rfl,o,x⟩;have M4:=((M3.c0 TH3 #[aA,aB,.slice q1 n c1]).call x o)
 clear M3 h j x o;have y:=M4.hi 1;have z:=M4.hi 4;have aa:=M4.hi 5;obtain⟨z0,ab,z1,ad,z2,ae⟩:=(M4.bk 4).trif;go_wp2;clear z0 ab z1 ad z2 ae;have M5:=((((M4.st 4 0 (.int .i64 aA)).st 4 1 (.int .i64 aB)).st 4 2 (.slice q2 n c2)).bn TH3 #[aA,aB,.slice q2 n c2] (w4.heap.size))
 generalize r:World.alloc _ _=wz;rw[r]at M5;clear r M4;obtain⟨af,ag,ah⟩:=(M5.bk 5).tri;exact bodyPost_ret (v:= .tuple #[.agg #[aA,aB,.slice q2 n c2],(K:Int)]) (by simp[results,Tryz.results85,go_sem, *]) rfl (eH (by rw[List.length_set];exact k.out) (M5.ow 1) M5.ext)
def bR (aA aB:Int)(xs:List Int)(id:Int):List Int×Int:=
 match kA aA aB xs id with
 |none=>(xs,-1)
 |some r=>(r.1,(r.2:Int))
theorem aEg {aA aB:Int}{xs:List Int}{id:Int}(h:id<1∨id∉xs):gS aA aB xs id= -1:=by
 unfold gS;by_cases h1:aM aA aB xs=true∧1≤id
 ·rw[if_pos h1];rcases h with h|h
  ·omega
  exact rI h
 rw[if_neg h1]
theorem qE {xs:List Int}{id:Int}(h:id∈xs): ∃c:Nat,xs[c]? =some id∧mY xs id=(c:Int):=by
 induction xs with
 |nil=>cases h
 |cons x xs ih=>
  by_cases hx:x=id
  ·subst hx;exact⟨0,rfl,qF (k:=0) rfl (by simp)⟩
  have hm:id∈xs:=by
   rcases List.mem_cons.1 h with e|e
   ·exact absurd e.symm hx
   exact e
  obtain⟨c,h1,_⟩:=ih hm;obtain⟨k,d,f⟩: ∃k,(x::xs)[k]? =some id∧id∉(x::xs).take k:=by
   clear ih h1
   suffices hs: ∀(l:List Int),id∈l→ ∃k,l[k]? =some id∧id∉l.take k from hs _ h
   intro l;induction l with
   |nil=>intro h;cases h
   |cons y l ihl=>
    intro hy;by_cases e:y=id
    ·exact⟨0,by simp[e],by simp⟩
    ·obtain⟨k,a,b⟩:=ihl (by
      rcases List.mem_cons.1 hy with e2|e2
      ·exact absurd e2.symm e
      ·exact e2)
     exact⟨k+1,by simpa using a,by simp[b,Ne.symm e]⟩
  exact⟨k,d,qF d f⟩
theorem aB5 (aA aB id:Int)(p:OA)(n a:Nat)(xs:List Int)(w:World)(hS:Sl w p n a 1 (ivs xs))(b:aM aA aB xs=true):
  Calls Tryz.prog 85 #[aH aA aB p n a,id] w (cN aA aB (bR aA aB xs id).1 (bR aA aB xs id).2 w):=by
 have hl:=hS.ilen;subst hl;obtain⟨g1,g2,g3,g4,g5,g6,g7⟩:=bZ (cM b);have HV: ∀w',Ext w w'→Calls Tryz.prog 41 #[aH aA aB p xs.length a] w' fun e w''=>e= .returned (.bool true)∧Ext w' w'':=fun w' hy=>by have:=fV aA aB p xs.length a xs w' (hS.ext hy);rwa[b]at this
 have HL:=fun(w':World) (hy:Ext w w')=>fG aA aB p xs.length a xs w' (by omega) (hS.ext hy)
 by_cases hno:id<1∨id∉xs
 ·have e:bR aA aB xs id=(xs,-1):=by unfold bR kA;rw[if_pos hno]
  rw[e];refine tT aA aB id p xs.length a xs w rfl HV (fun w' hy=> ?_) HL;refine aFc aA aB id p xs.length a w' (fun w2 hy2=> ?_);have:=qW aA aB id p xs.length a xs w2 (hS.ext (hy.trans hy2));rwa[aEg hno]at this
 have f:1≤id:=by omega
 have hm:id∈xs:=by
  by_cases hm:id∈xs
  ·exact hm
  exact absurd (.inr hm) hno
 obtain⟨c,hc,g⟩:=qE hm;have HB:=fun(w':World) (hy:Ext w w')=>vS aA aB id p xs.length a xs w' (hS.ext hy) b f hc
 have d:(mY xs id).toNat=c:=by rw[g];simp
 cases hb:dH aA xs c with
 |none=>
  have e:bR aA aB xs id=(xs,-1):=by unfold bR kA;rw[if_neg hno,d,hb];rfl
  rw[e];rw[hb]at HB;exact tT aA aB id p xs.length a xs w rfl HV HB HL
 |some l=>
  obtain⟨b1,ys,b2,b3,b4,b5⟩:=(lG b hc (by omega)).2 l hb;have e:bR aA aB xs id=(ys.set 0 0,(l.length:Int)):=by unfold bR kA;rw[if_neg hno,d,hb];simp[b2]
  rw[e];rw[hb]at HB;refine zU aA aB id p xs.length a l.length ys l w b4 HV HB (fun w' q c' hy hL=> ?_) (fun w' q c' hy hL=> ?_)
  ·have:=pN aA aB p xs.length a xs q l.length c' l w' b1 (hS.ext hy) hL b;rw[b2]at this;unfold cN at this;dsimp only at this;rw[b4]at this;exact this
  have:=yQ aA aB q xs.length c' ys w' hL b3;unfold cN at this;rw[List.length_set,b4]at this;refine this.mono fun e w'' h=> ?_
  obtain⟨q2,c2,h1,h2,h3⟩:=h;exact⟨q2,c2,_,h1,h2,h3⟩
end Go.Proofs.YtpelpnfhbepokaaGreatDoor
