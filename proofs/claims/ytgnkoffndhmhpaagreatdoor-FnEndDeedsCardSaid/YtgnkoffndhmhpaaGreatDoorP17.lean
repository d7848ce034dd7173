/-
  Texts of this proof, packed (@packed).
-/
import Derived.Test.YtgnkoffndhmhpaaGreatDoorP5
import Derived.Test.YtgnkoffndhmhpaaGreatDoorP16
namespace Go.Proofs.YtgnkoffndhmhpaaGreatDoor
open Go.RowKit
set_option linter.unusedVariables false
set_option linter.unusedSimpArgs false
set_option maxHeartbeats 16000000
set_option maxRecDepth 100000
def iZ (r:Option (List Sl2))(w:World)(e:Ending)(w':World):Prop:=
 match r with
 |none=> ∃v,e= .returned (.tuple #[v,.bool false])∧Ext w w'
 |some l=> ∃q c,e= .returned (.tuple #[.slice q l.length c,.bool true])∧w'.ownsRow w.heap.size TSL 2 (.slice q l.length c) l.length (l.flatMap aK)∧Ext w w'
def aAb:Value→Nat
 | .slice _ n _=>n
 |_=>0
theorem iD {es:List (Nat×Nat)}{k f t:Nat}(h:es[k]? =some (f,t)):((es.map iN).flatMap aK)[k*2]? =some (.int .i64 (f:Int))∧((es.map iN).flatMap aK)[k*2+1]? =some (.int .i64 (t:Int)):=by
 have hx:(es.map iN)[k]? =some ((f:Int),(t:Int)):=by rw[List.getElem?_map,h];rfl
 have h0:=dZ aK 2 (fun _=>rfl) _ _ _ hx 0 (by omega)
 have h1:=dZ aK 2 (fun _=>rfl) _ _ _ hx 1 (by omega)
 exact⟨by simpa[aK]using h0,by simpa[aK]using h1⟩
theorem aHr (aA aB id:Int)(p:OA)(n cap c:Nat)(xs:List Int)(w:World)(hn0:4≤n)(hn:n≤12)(hok:Hid (aN aA aB xs=true))(hlen:Hid (xs.length=n))(hid0:Hid (id≠0))(hc:Hid (xs[c]? =some id)) (hcl:Hid (c<n)) (hfs:Hid (∀zs:List Int,zs.length=n→aM zs<4096))
  (hbr:Hid (∀D,eO aA n (bI xs).length D→dI aA xs c=if aV D c (aM xs)<0 then none else some (nB aA n (aV D) (c,aM xs) (aV D c (aM xs)).toNat)))
  (h60:Hid (∀D,eO aA n (bI xs).length D→aV D c (aM xs)≤60))
  (gfac:Hid (∀D,eO aA n (bI xs).length D→ ∀d:Nat,aV D c (aM xs)=d→ ∀j,j≤d→(gP aA n (aV D) (c,aM xs) j).1<n∧aV D (gP aA n (aV D) (c,aM xs) j).1 (gP aA n (aV D) (c,aM xs) j).2=(d:Int)-j∧((gP aA n (aV D) (c,aM xs) j).1=0↔j=d)∧(gP aA n (aV D) (c,aM xs) j).2<4096))
  (hnext:Hid (∀D,eO aA n (bI xs).length D→ ∀d:Nat,aV D c (aM xs)=d→ ∀j,j<d→ ∀ys,xI aA aB xs D c id j ys→ ∃(J:Nat) (es:List (Nat×Nat)),es=eC aA n (aM ys)∧gJ aA aB ys=es.map iN∧J<es.length∧es[J]? =some (fU aA n (aV D) (c,aM xs) j)∧
   (∀i e,i≤J→es[i]? =some e→e∈eC aA n (aM ys)∧(aV D (dK (gP aA n (aV D) (c,aM xs) j).1 e.1 e.2) (cX (aM ys) e.1 e.2)=(d:Int)-j-1↔i=J))∧
   ∀e,es[J]? =some e→xI aA aB xs D c id (j+1) (bG aA aB ys (e.1:Int) (e.2:Int))))
  (hedge:Hid (∀ys,aN aA aB ys=true→ys.length=n→ ∀f t,(f,t)∈eC aA n (aM ys)→aN aA aB (bG aA aB ys (f:Int) (t:Int))=true∧(bG aA aB ys (f:Int) (t:Int)).length=n∧aM (bG aA aB ys (f:Int) (t:Int))=cX (aM ys) f t∧ ∀c id,ys[c]? =some id→id≠0→(bG aA aB ys (f:Int) (t:Int))[dK c f t]? =some id))
  (hsd:Hid (∀ys q c9 (f t:Nat) w',Sl w' q n c9 1 (ivs ys)→aN aA aB ys=true→ys.length=n→Calls Tryz.prog 78 #[aH aA aB q n c9,dS (f:Int) (t:Int)] w' fun e w''=> ∃q5 c5,e= .returned (.tuple #[aH aA aB q5 n c5,.bool (bA aA aB ys (f:Int) (t:Int))])∧w''.ownsRow w'.heap.size TI 1 (.slice q5 n c5) n (ivs (bG aA aB ys (f:Int) (t:Int)))∧Ext w' w''))
  (hpick:Hid (∀D,eO aA n (bI xs).length D→ ∀d:Nat,aV D c (aM xs)=d→ ∀j,j<d→True∧gP aA n (aV D) (c,aM xs) (j+1)=jB (gP aA n (aV D) (c,aM xs) j) (fU aA n (aV D) (c,aM xs) j)))
  (HF0:xC 156 #[aH aA aB p n cap,id] w fun w' e w''=>e= .returned (.int .i64 (c:Int))∧Ext w' w'')
  (HFree:xC 158 #[aH aA aB p n cap] w fun w' e w''=>e= .returned (.int .i64 (aM xs:Int))∧Ext w' w'')
  (HLf:xC 157 #[aH aA aB p n cap] w fun w' e w''=> ∃D,eO aA n (bI xs).length D∧ ∃q c,e= .returned (.slice q 49152 c)∧w''.ownsRow w'.heap.size TI 1 (.slice q 49152 c) 49152 (ivs D)∧Ext w' w'')
  (HL:xC 104 #[aH aA aB p n cap] w fun w' e w''=> ∃q c,e= .returned (aH aA aB q n c)∧w''.ownsRow w'.heap.size TI 1 (.slice q n c) n (ivs xs)∧Ext w' w'')
  (HFi:Hid (∀zs q c9 (C2:Nat) w',Sl w' q n c9 1 (ivs zs)→aN aA aB zs=true→zs[C2]? =some id→Calls Tryz.prog 156 #[aH aA aB q n c9,id] w' fun e w''=>e= .returned (.int .i64 (C2:Int))∧Ext w' w''))
  (HFs:Hid (∀zs q c9 w',Sl w' q n c9 1 (ivs zs)→aN aA aB zs=true→Calls Tryz.prog 158 #[aH aA aB q n c9] w' fun e w''=>e= .returned (.int .i64 (aM zs:Int))∧Ext w' w'')):
  Calls Tryz.prog 123 #[aH aA aB p n cap,id] w (iZ (dI aA xs c) w):=by
 go_enter Tryz.func123,Tryz.ntmps123
 go_wp2_with fail
 refine(HF0 _ (((Mem.start w).bn TH3 #[aA,aB,.slice p n cap] (w.heap.size)).made0 TSL 2 (w.heap.size+1) (by simp)).ext).mono ?_
 rintro e w1 ⟨rfl,ec⟩
 have M1:=((((Mem.start w).bn TH3 #[aA,aB,.slice p n cap] (w.heap.size)).made0 TSL 2 (w.heap.size+1) (by simp)).adv ec)
 have a6:=M1.hi 1
 clear ec
 obtain⟨c0,c1,c2⟩:=(M1.bk 1).tri
 go_wp2_with fail
 clear c0 c1 c2
 refine(HLf _ M1.ext).mono ?_
 rintro e w2 ⟨D,hD,ql,cl,rfl,d9,dq⟩
 have M2:=(M1.call dq d9)
 clear M1 a6 dq d9
 have db:=M2.hi 2
 obtain⟨gT,rfl,fg,fc⟩:=M2.so 0
 have HD:=xQ hD
 have fm:c<n:=hcl.out
 obtain⟨S,hS⟩: ∃S,S=aM xs:=⟨_,rfl⟩
 have fn:S<4096:=by rw[hS];exact hfs.out xs hlen.out
 obtain⟨V0,cf⟩: ∃V0,V0=c*4096+S:=⟨_,rfl⟩
 have ep:IntKind.i64.wrap ((c:Int)*4096)=(c:Int)*4096:=IntWalk.i64_in _ (by omega)
 have et:IntKind.i64.wrap ((c:Int)*4096+(S:Int))=(V0:Int):=(IntWalk.i64_in _ (by omega)).trans (by omega)
 have s1:(0:Int)≤(V0:Int):=by omega
 have s2:(V0:Int)<49152:=by omega
 obtain⟨dv,ef,bt⟩: ∃dv,D[V0]? =some dv∧aV D c (aM xs)=dv:=⟨_,(dE (D:=D) (v:=V0) (by rw[hD.len];show _<49152;omega)).1,by rw[cf,hS];rfl⟩
 have a5:=xQ bt
 have HS:=xQ hS
 have fh:=xQ cf
 clear hD bt hS cf
 obtain⟨c0,c1,c2⟩:=(M2.bk 2).tri
 go_wp2_with fail
 clear c0 c1 c2
 have cg:=xQ (HFree _ M2.ext)
 rw[←HS.out]at cg
 refine cg.out.mono ?_
 rintro e w3 ⟨rfl,ds⟩
 have M3:=(M2.adv ds)
 clear M2 db ds cg
 have co:=M3.hi 2
 have cd:w3.cell? ⟨gT,V0,none⟩=some (.int .i64 dv):=by have:=(M3.ow 0).cellAt V0 (by omega);rw[this];simp[ivs,ef]
 clear ef
 by_cases hneg:dv<0
 ·have t0:decide (dv<0)=true:=by simp[hneg]
  have ez:Hid (dI aA xs c=none):=by show _=_;rw[hbr.out D HD.out,a5.out,if_pos hneg]
  have HX:=xQ (M3.ext)
  go_wp2
  rw[ez.out]
  exact bodyPost_ret (v:= .tuple #[.slice (some ⟨w.heap.size+1,0,none⟩) 0 0,.bool false]) (by simp[results,Tryz.results123,go_sem, *]) rfl ⟨_,rfl,by have:=HX.out;exact this⟩
 ·have t0:decide (dv<0)=false:=by simp;omega
  obtain⟨d,rfl⟩:=Int.eq_ofNat_of_zero_le (show 0≤dv by omega)
  have ff:d≤60:=by have:=h60.out D HD.out;rw[a5.out]at this;omega
  have dt:Hid (dI aA xs c=some (nB aA n (aV D) (c,aM xs) d)):=by show _=_;rw[hbr.out D HD.out,a5.out,if_neg hneg];rfl
  clear hneg
  have ce:=xQ (show aV D c (aM xs)=(d:Int)from a5.out)
  clear a5
  obtain⟨c0,c1,c2⟩:=(M3.bk 2).tri
  go_wp2_with fail
  clear c0 c1 c2 cd t0 ep et s1 s2
  refine(HL _ M3.ext).mono ?_
  rintro e w4 ⟨q0,c0,rfl,ej,eb⟩
  have M4:=(M3.call eb ej)
  clear M3 co eb ej
  have c6:=M4.hi 3
  obtain⟨a9,ci⟩: ∃a9,a9=w4.heap.size:=⟨_,rfl⟩
  have eg:=(show Mem w (w4.alloc (.cells #[aA,aB,.slice q0 n c0] TH3)) [aI w.heap.size (a9) TH3 #[aA,aB,.slice q0 n c0],aJ w.heap.size TI 1 (q0) (n) (c0) (ivs xs),aJ w.heap.size TSL 2 (some ⟨w.heap.size+1,0,none⟩) (0) (0) ([]),aJ w.heap.size TI 1 (some ⟨gT,0,none⟩) (49152) (cl) (ivs D),aI w.heap.size (w.heap.size) TH3 #[aA,aB,.slice p n cap]]from by rw[ci];exact(M4.bn TH3 #[aA,aB,.slice q0 n c0] (w4.heap.size)).pick [0,1,3,2,4] (by decide) rfl)
  clear M4 c6
  go_wp2
  rw[←ci]
  go_loopw [6,7] (fun v i wr=> ∃(j:Nat) (ys:List Int) (q:OA) (c9:Nat) (q6:OA) (lc:Nat),j≤d∧i= .int .i64 ((gP aA n (aV D) (c,aM xs) j).1:Int)∧v= .slice q6 j lc∧xI aA aB xs D c id j ys∧Mem w wr [aI w.heap.size (a9) TH3 #[aA,aB,.slice q n c9],aJ w.heap.size TI 1 (q) (n) (c9) (ivs ys),aJ w.heap.size TSL 2 (q6) (j) (lc) ((nB aA n (aV D) (c,aM xs) (j)).flatMap aK),aJ w.heap.size TI 1 (some ⟨gT,0,none⟩) (49152) (cl) (ivs D),aI w.heap.size (w.heap.size) TH3 #[aA,aB,.slice p n cap]]) (fun v _ _=>d-aAb v)
  case atStart=>exact⟨0,xs,q0,c0,_,0,Nat.zero_le _,rfl,rfl,⟨hok.out,rfl,rfl,hc.out⟩,eg⟩
  case round=>
   clear eg ci
   obtain⟨j,ys,q,c9,q6,lc,hj,rfl,rfl,br,hM⟩:=hrel
   have HM:=hM
   have HW:=xQ br
   clear hM br
   obtain⟨a,ha⟩: ∃a,a=(gP aA n (aV D) (c,aM xs) j).1:=⟨_,rfl⟩
   have HA:=xQ ha
   have e3:=gfac.out D HD d ce j hj
   obtain⟨d3,ax,aq,dw⟩:=e3
   rw[←ha]at d3 ax aq⊢
   clear ha
   by_cases hlt:j<d
   ·have eh:0<a:=Nat.pos_of_ne_zero (fun e=>by have:=aq.1 e;omega)
    have t0:decide ((0:Int)<(a:Int))=true:=by simp;omega
    have ay:ys.length=n:=by rw[HW.out.len];exact hlen.out
    obtain⟨J,es,d4,ag,hJ,di,d7,bw⟩:=hnext.out D HD d ce j hlt ys HW.out
    have fi:=xQ d4
    have e4:=xQ d7
    have e7:=xQ bw
    have en:=xQ di
    have ch:=xQ (fun w' (hx:Ext wr w')=>vH aA aB q n c9 ys w' ((HM.sq 1).ext hx) HW.out.ok)
    clear d4 d7 bw di
    obtain⟨KS,hK⟩: ∃KS,KS=es.length:=⟨_,rfl⟩
    have d6:(es.map iN).length=KS:=by rw[List.length_map,hK]
    have fb:KS≤144:=by
     rw[hK,←List.length_map (f:=iN),←ag]
     unfold gJ
     rw[ay]
     exact Nat.le_trans (wJ _ _ _) (Nat.mul_le_mul hn hn)
    have HK:=xQ hK
    have fk:J<KS:=by rw[hK];exact hJ
    rw[ag]at ch
    clear hK hJ ag
    obtain⟨S1,bg⟩: ∃S1,S1=aM ys:=⟨_,rfl⟩
    have bq:=xQ bg
    have fd:S1<4096:=by rw[bg];exact hfs.out ys ay
    have bv:aV D a S1=(d:Int)-j:=by rw[bg,HW.out.free,hlen.out];exact ax
    have d8:=xQ bv
    clear bg bv ax dw aq
    have ew:=(HM.hi 0)
    obtain⟨v0,v1,v2⟩:=(HM.bk 0).tri
    go_wp2_with fail
    clear v0 v1 v2 ew
    refine(ch _ (Ext.refl _)).mono ?_
    rintro e w7 ⟨qs,cs,rfl,da,dm⟩
    rw[d6]at da⊢
    clear ch d6
    have M1:=(HM.call dm da)
    clear HM dm da
    have a6:=M1.hi 1
    have e6:=M1.hi 5
    obtain⟨gs,rfl,e9,a0⟩:=M1.so 0
    obtain⟨f0,av,bm⟩: ∃f t,es[0]? =some (f,t):=⟨_,_,List.getElem?_eq_getElem (by rw[←HK.out];omega)⟩
    have dx:=xQ bm
    have d0:w7.cell? ⟨gs,0,none⟩=some (.int .i64 (f0:Int)):=by have:=(M1.ow 0).cellAt 0 (by omega);rw[this];exact(iD bm).1
    have d1:w7.cell? ⟨gs,1,none⟩=some (.int .i64 (av:Int)):=by have:=(M1.ow 0).cellAt 1 (by omega);rw[this];exact(iD bm).2
    clear bm
    have i2:(0:Int)<(KS:Int):=by omega
    have fl:0<KS:=by omega
    have ba:=xQ (fun w' (hx:Ext w7 w')=>hsd.out ys q c9 f0 av w' ((M1.sq 2).ext hx) HW.out.ok ay)
    obtain⟨v0,v1,v2⟩:=(M1.bk 1).tri
    have n1: ¬(a9=w7.heap.size):=by have:=(M1.hi 1);omega
    have n2: ¬(w7.heap.size=a9):=fun h=>n1 h.symm
    have n3: ¬(gs=w7.heap.size):=by omega
    have n4: ¬(w7.heap.size=gs):=fun h=>n3 h.symm
    go_upto_region 12 with fail
    go_cut [12,13] (fun s1 s2 wx=> ∃(a:Nat) (q5:OA) (c5:Nat),s1= .pointer (some ⟨a,0,none⟩)∧Ext w7 wx∧w7.heap.size≤a∧Blk wx a TH3 #[aA,aB,.slice q5 n c5]∧wx.ownsRow w7.heap.size TI 1 (.slice q5 n c5) n (ivs (bG aA aB ys ((f0:Nat):Int) ((av:Nat):Int))))
    case first=>
     go_region_held3 (fun w'=>w'.cell? ⟨a9,0,none⟩=some (.int .i64 aA)∧w'.cell? ⟨a9,1,none⟩=some (.int .i64 aB)∧w'.cell? ⟨a9,2,none⟩=some (.slice q n c9)∧w'.cell? ⟨gs,0,none⟩=some (.int .i64 (f0:Int))∧w'.cell? ⟨gs,1,none⟩=some (.int .i64 (av:Int)))
      (first|(refine⟨?_,?_,?_,?_,?_⟩<;>assumption)|go_keep)
      ((go_at_call 78
        refine(ba _ xE).mono ?_
        rintro e w5 ⟨q5,c5,rfl,o5,m⟩
        have l:Ext w7 w5:=xE
        have g0:=((M1.bk 1).ext l).cl 0
        have g1:=((M1.bk 1).ext l).cl 1
        have g2:=((M1.bk 1).ext l).cl 2
        have g3:w5.cell? ⟨gs,0,none⟩=some (.int .i64 (f0:Int)):=(l.cells.1 _ _ a0).trans d0
        have g4:w5.cell? ⟨gs,1,none⟩=some (.int .i64 (av:Int)):=(l.cells.1 _ _ a0).trans d1
        first
         |(have ap:Ext (w7.alloc (.cells #[(),(),((),())] TH3)) w5:=m
           have BB:=(Blk.new w7 TH3 #[(),(),((),())]).ext ap
           have cp:=BB.cl 0
           have cb:=BB.cl 1
           have cy:=BB.cl 2
           have ct:=BB.frozen 0
           have cm:=BB.frozen 1
           have cr:w5.frozen? ⟨w7.heap.size,2,none⟩=false:=BB.frozen 2)
         |(have ap:Ext (w7.alloc (.cells #[(),(),((),())] TH3)) w5:=m.of_drew
           have BB:=(Blk.new w7 TH3 #[(),(),((),())]).ext ap
           have cp:=BB.cl 0
           have cb:=BB.cl 1
           have cy:=BB.cl 2
           have ct:=BB.frozen 0
           have cm:=BB.frozen 1
           have cr:w5.frozen? ⟨w7.heap.size,2,none⟩=false:=BB.frozen 2)
         |skip))
     ·go_wp2_with fail
      go_meet
      exact⟨w5.heap.size,q5,c5,rfl,by exact .alloc l _,by have:=l.sz;omega,Blk.new _ _ _,bH (by exact o5.alloc _) (by simp)⟩
     ·have hR:ExtR w7.heap.size w5 _:=(((ExtR.refl w7.heap.size w5).setCell (p:=⟨w7.heap.size,0,none⟩) (.inl rfl) (.int .i64 aA)).setCell (p:=⟨w7.heap.size,1,none⟩) (.inl rfl) (.int .i64 aB)).setCell (p:=⟨w7.heap.size,2,none⟩) (.inl rfl) (.slice q5 n c5)
      have hY:=((BB.set 0 (.int .i64 aA)).set 1 (.int .i64 aB)).set 2 (.slice q5 n c5)
      simp only[List.setIfInBounds_toArray,List.set_cons_zero,List.set_cons_succ]at hY
      go_wp2_with fail
      go_meet
      exact⟨w7.heap.size,q5,c5,rfl,ExtR.new l hR (Nat.le_refl _),Nat.le_refl _,hY,bH (o5.kept hR (.inr (dG o5 BB (by decide)))) (by simp)⟩
    case rest=>
     clear v0 v1 v2 n1 n2 n3 n4 d0 d1
     obtain⟨a4,q5,c5,rfl,a1,a7,az,a8⟩:=hcut
     have dj:=(M1.blkOwn a1 az a7 a8 (Nat.le_refl _) (by decide))
     clear a1 a7 az a8 ba M1
     go_wp2
     go_loopw [11] (fun i wx=> ∃(k f t:Nat) (qz:OA) (cz:Nat),k≤J∧i= .int .i64 (k:Int)∧es[k]? =some (f,t)∧Mem w wx [aJ w.heap.size TI 1 (qz) (n) (cz) (ivs (bG aA aB ys ((f:Nat):Int) ((t:Nat):Int))),aI w.heap.size (a4) TH3 #[aA,aB,.slice qz n cz],aJ w.heap.size TSL 2 (some ⟨gs,0,none⟩) (KS) (cs) ((es.map iN).flatMap aK),aI w.heap.size (a9) TH3 #[aA,aB,.slice q n c9],aJ w.heap.size TI 1 (q) (n) (c9) (ivs ys),aJ w.heap.size TSL 2 (q6) (j) (lc) ((nB aA n (aV D) (c,aM xs) (j)).flatMap aK),aJ w.heap.size TI 1 (some ⟨gT,0,none⟩) (49152) (cl) (ivs D),aI w.heap.size (w.heap.size) TH3 #[aA,aB,.slice p n cap]]) (fun i _=>J-(intOf i).toNat)
     case atStart=>exact⟨0,f0,av,q5,c5,Nat.zero_le _,rfl,dx.out,dj⟩
     case round=>
      clear dj dx
      obtain⟨k,f,t,qz,cz,hk,rfl,cq,hM⟩:=hrel
      have b:=hM
      obtain⟨dn,aw⟩:=e4 k (f,t) hk cq
      have ar:=xQ cq
      clear hM cq
      obtain⟨z1,z2,z3,z4⟩:=hedge.out ys HW.out.ok ay f t dn
      have z5:=z4 a id (by have:=HW.out.at_;rw[hlen.out,←HA.out]at this;exact this) hid0.out
      rw[←HA.out,←bq.out]at aw
      rw[←bq.out]at z3
      clear z4 dn
      generalize ea:bG aA aB ys ((f:Nat):Int) ((t:Nat):Int)=zs at*
      obtain⟨C2,cv⟩: ∃C2,C2=dK a f t:=⟨_,rfl⟩
      obtain⟨S2,cn⟩: ∃S2,S2=cX S1 f t:=⟨_,rfl⟩
      rw[←cv]at z5 aw
      rw[←cn]at z3 aw
      have fe:C2<n:=by have:=(List.getElem?_eq_some_iff.1 z5).1;omega
      have fa:S2<4096:=by rw[←z3];exact hfs.out zs z2
      obtain⟨V1,d5⟩: ∃V1,V1=C2*4096+S2:=⟨_,rfl⟩
      obtain⟨V2,dz⟩: ∃V2,V2=a*4096+S1:=⟨_,rfl⟩
      have dr:V1<49152:=by omega
      have dl:V2<49152:=by omega
      obtain⟨u,b0,bz⟩: ∃dv,D[V1]? =some dv∧aV D C2 S2=dv:=⟨_,(dE (D:=D) (v:=V1) (by rw[HD.out.len];exact dr)).1,by rw[d5];rfl⟩
      obtain⟨dd,b6,b5⟩: ∃dv,D[V2]? =some dv∧aV D a S1=dv:=⟨_,(dE (D:=D) (v:=V2) (by rw[HD.out.len];exact dl)).1,by rw[dz];rfl⟩
      have bx:dd=(d:Int)-j:=by rw[←b5];exact d8.out
      have r:0≤dd:=by omega
      have o:dd≤60:=by omega
      rw[bz,←bx]at aw
      have e8:=xQ ea
      have er:=xQ cv
      have fp:=xQ cn
      have du:=aw
      have Z1:=xQ z1
      have Z2:=xQ z2
      have Z3:=xQ z3
      have Z5:=xQ z5
      have bb:IntKind.i64.wrap ((C2:Int)*4096+(S2:Int))=(V1:Int):=(IntWalk.i64_in _ (by omega)).trans (by omega)
      have bd:IntKind.i64.wrap ((a:Int)*4096+(S1:Int))=(V2:Int):=(IntWalk.i64_in _ (by omega)).trans (by omega)
      have d2:=xQ bb
      have dp:=xQ bd
      have ah:gT<wr.heap.size:=(b.hi 6)
      have y:wr.cell? ⟨gT,V1,none⟩=some (.int .i64 u):=by have:=(b.ow 6).cellAt V1 (by omega);rw[this];simp[ivs,b0]
      have x:wr.cell? ⟨gT,V2,none⟩=some (.int .i64 dd):=by have:=(b.ow 6).cellAt V2 (by omega);rw[this];simp[ivs,b6]
      have b1:(0:Int)≤(V1:Int):=by omega
      have b2:(V1:Int)<49152:=by omega
      have b3:(0:Int)≤(V2:Int):=by omega
      have b4:(V2:Int)<49152:=by omega
      clear ea cv cn aw z1 z2 z3 z5 b0 b6 bz b5 bx bb bd d5 dz
      by_cases hkJ:k=J
      ·have au:u=dd-1:=by have:=du.2 hkJ;omega
       have dy:=xQ au
       clear au
       subst hkJ
       go_wp2
       refine rL (gl [gEq (.slice (some ⟨gT,0,none⟩) 49152 cl),gEq (.agg #[aA,aB,.slice qz n cz]),gEq id,gEq (C2:Int),gEq ((C2:Int)*4096:Int),gEq (.agg #[aA,aB,.slice qz n cz]),gEq (S2:Int),gEq (V1:Int),gEq (.pointer (some ⟨gT,V1,none⟩)),gEq u,gEq (.slice (some ⟨gT,0,none⟩) 49152 cl),gEq (a:Int),gEq ((a:Int)*4096:Int),gEq (.agg #[aA,aB,.slice q n c9]),gEq (S1:Int),gEq (V2:Int),gEq (.pointer (some ⟨gT,V2,none⟩)),gEq dd,gEq (dd-1:Int),gEq (.bool false)]) 20 20 [(0,some 50),(1,some 51),(2,some 52),(3,some 53),(4,some 54),(5,some 55),(6,some 56),(7,some 57),(8,some 58),(9,some 59),(10,some 60),(11,some 61),(12,some 62),(13,some 63),(14,some 64),(15,some 65),(16,some 66),(17,some 67),(18,some 68),(19,some 69)] ?steps ?fin
       case steps=>
        refine sS0 [] ?_
        refine sC [] rfl (fun wi hx=> ?_) ?_
        ·intro K hK
         have hX:Ext wr wi:=by exact .trans (.drew (.refl _)) hx
         have ad:=((b.bk 1).ext hX).cl 0
         have y:=((b.bk 1).ext hX).cl 1
         have x:=((b.bk 1).ext hX).cl 2
         go_simp
         exact hK _ _ ⟨.agg #[aA,aB,.slice qz n cz],rfl,rfl,Ext.refl _⟩
        refine sS0 [] ?_
        refine sC [(1,some 51),(2,some 52)] rfl (fun wi hx=> ?_) ?_
        ·intro v1 h1 v2 h2 K hK
         obtain rfl:=h1
         obtain rfl:=h2
         have hX:Ext wr wi:=by exact .trans (.drew (.refl _)) hx
         clear b1 b2 b3 b4 r o
         have HH:=xQ (HFi zs qz cz C2 wi ((b.adv hX).sq 0) Z1 Z5.out)
         go_wp2_with fail
         refine HH.out.mono ?_
         rintro e w5 ⟨rfl,m⟩
         go_simp
         exact hK _ _ ⟨.int .i64 (C2:Int),rfl,rfl,m⟩
        refine sC [(3,some 53)] rfl (fun wi hx=> ?_) ?_
        ·intro v3 h3 K hK
         obtain rfl:=h3
         have a3:IntKind.i64.wrap ((C2:Int)*4096)=(C2:Int)*4096:=IntWalk.i64_in _ (by omega)
         go_simp
         exact hK _ _ ⟨.int .i64 ((C2:Int)*4096),rfl,rfl,Ext.refl _⟩
        refine sC [] rfl (fun wi hx=> ?_) ?_
        ·intro K hK
         have hX:Ext wr wi:=by exact .trans (.drew (.refl _)) hx
         have ad:=((b.bk 1).ext hX).cl 0
         have y:=((b.bk 1).ext hX).cl 1
         have x:=((b.bk 1).ext hX).cl 2
         go_simp
         exact hK _ _ ⟨.agg #[aA,aB,.slice qz n cz],rfl,rfl,Ext.refl _⟩
        refine sC [(5,some 55)] rfl (fun wi hx=> ?_) ?_
        ·intro v5 h5 K hK
         obtain rfl:=h5
         have hX:Ext wr wi:=by exact .trans (.drew (.refl _)) hx
         clear b1 b2 b3 b4 r o
         have HH:=xQ (HFs zs qz cz wi ((b.adv hX).sq 0) Z1.out)
         rw[Z3.out]at HH
         go_wp2_with fail
         refine HH.out.mono ?_
         rintro e w5 ⟨rfl,m⟩
         go_simp
         exact hK _ _ ⟨.int .i64 (S2:Int),rfl,rfl,m⟩
        refine sC [(4,some 54),(6,some 56)] rfl (fun wi hx=> ?_) ?_
        ·intro v4 h4 v6 h6 K hK
         obtain rfl:=h4
         obtain rfl:=h6
         have bb:=d2.out
         go_simp
         exact hK _ _ ⟨.int .i64 (V1:Int),rfl,rfl,Ext.refl _⟩
        refine sS2 [(0,some 50),(7,some 57)] ?_
        refine sC [(8,some 58)] rfl (fun wi hx=> ?_) ?_
        ·intro v8 h8 K hK
         obtain rfl:=h8
         have hX:Ext wr wi:=by exact .trans (.drew (.refl _)) hx
         have ad:wi.cell? ⟨gT,V1,none⟩=some (.int .i64 u):=(hX.cells.1 _ _ ah).trans y
         go_simp
         exact hK _ _ ⟨.int .i64 u,rfl,rfl,Ext.refl _⟩
        refine sS0 [] (sS0 [] ?_)
        refine sC [(11,some 61)] rfl (fun wi hx=> ?_) ?_
        ·intro dh ai K hK
         obtain rfl:=ai
         have a3:IntKind.i64.wrap ((a:Int)*4096)=(a:Int)*4096:=IntWalk.i64_in _ (by omega)
         go_simp
         exact hK _ _ ⟨.int .i64 ((a:Int)*4096),rfl,rfl,Ext.refl _⟩
        refine sC [] rfl (fun wi hx=> ?_) ?_
        ·intro K hK
         have hX:Ext wr wi:=by exact .trans (.drew (.refl _)) hx
         have ad:=((b.bk 3).ext hX).cl 0
         have y:=((b.bk 3).ext hX).cl 1
         have x:=((b.bk 3).ext hX).cl 2
         go_simp
         exact hK _ _ ⟨.agg #[aA,aB,.slice q n c9],rfl,rfl,Ext.refl _⟩
        refine sC [(13,some 63)] rfl (fun wi hx=> ?_) ?_
        ·intro c3 ak K hK
         obtain rfl:=ak
         have hX:Ext wr wi:=by exact .trans (.drew (.refl _)) hx
         clear b1 b2 b3 b4 r o
         have HH:=xQ (HFs ys q c9 wi ((b.adv hX).sq 4) HW.out.ok)
         rw[←bq.out]at HH
         go_wp2_with fail
         refine HH.out.mono ?_
         rintro e w5 ⟨rfl,m⟩
         go_simp
         exact hK _ _ ⟨.int .i64 (S1:Int),rfl,rfl,m⟩
        refine sC [(12,some 62),(14,some 64)] rfl (fun wi hx=> ?_) ?_
        ·intro cu ao ck aj K hK
         obtain rfl:=ao
         obtain rfl:=aj
         have bd:=dp.out
         go_simp
         exact hK _ _ ⟨.int .i64 (V2:Int),rfl,rfl,Ext.refl _⟩
        refine sS2 [(10,some 60),(15,some 65)] ?_
        refine sC [(16,some 66)] rfl (fun wi hx=> ?_) ?_
        ·intro cx am K hK
         obtain rfl:=am
         have hX:Ext wr wi:=by exact .trans (.drew (.refl _)) hx
         have ad:wi.cell? ⟨gT,V2,none⟩=some (.int .i64 dd):=(hX.cells.1 _ _ ah).trans x
         go_simp
         exact hK _ _ ⟨.int .i64 dd,rfl,rfl,Ext.refl _⟩
        refine sC [(17,some 67)] rfl (fun wi hx=> ?_) ?_
        ·intro dc al K hK
         obtain rfl:=al
         have a3:IntKind.i64.wrap (dd-1)=dd-1:=IntWalk.i64_in _ (by omega)
         go_simp
         exact hK _ _ ⟨.int .i64 (dd-1),rfl,rfl,Ext.refl _⟩
        refine sC [(9,some 59),(18,some 68)] rfl (fun wi hx=> ?_) StepsL.nil
        ·intro v9 h9 ca an K hK
         obtain rfl:=h9
         obtain rfl:=an
         have c4:(u !=(dd-1))=false:=by rw[dy.out];simp
         go_simp
         exact hK _ _ ⟨.bool false,rfl,rfl,Ext.refl _⟩
       case fin=>
        intro wi hx v0 h0 v1 h1 v2 h2 v3 h3 v4 h4 v5 h5 v6 h6 v7 h7 v8 h8 v9 h9 e5 cw dh ai cu ao c3 ak ck aj e2 b9 cx am dc al ca an ey cj
        obtain rfl:=h0
        obtain rfl:=h1
        obtain rfl:=h2
        obtain rfl:=h3
        obtain rfl:=h4
        obtain rfl:=h5
        obtain rfl:=h6
        obtain rfl:=h7
        obtain rfl:=h8
        obtain rfl:=h9
        obtain rfl:=cw
        obtain rfl:=ai
        obtain rfl:=ao
        obtain rfl:=ak
        obtain rfl:=aj
        obtain rfl:=b9
        obtain rfl:=am
        obtain rfl:=al
        obtain rfl:=an
        obtain rfl:=cj
        refine wpAny_done (by kernel_rfl) ?_ _
        try simp only[Act.put,List.setIfInBounds_toArray,List.set_cons_zero,List.set_cons_succ]
        have hX:Ext wr wi:=hx.of_drew
        have g:=(b.adv hX)
        clear b hx hX y x b1 b2 b3 b4 r o
        have ae:=g.hi 1
        have aa:=g.hi 3
        have ab:=g.hi 7
        have ed:=e7 (f,t) ar.out
        have de:=en.out
        rw[ar.out]at de
        have bs:fU aA n (aV D) (c,aM xs) j=(f,t):=(Option.some.inj de).symm
        have dk:=xQ bs
        have bu:xI aA aB xs D c id (j+1) zs:=by have:=e8.out;rw[←this];exact ed
        have ei:=xQ bu
        clear ed bu de bs
        have i1:(0:Int)≤(k:Int):=by omega
        have i3:(k:Int)<(KS:Int):=by omega
        have e0:wi.cell? ⟨gs,k*2,none⟩=some (.int .i64 (f:Int)):=by have:=(g.ow 2).cellAt (k*2) (by omega);rw[this];exact(iD ar.out).1
        have e1:wi.cell? ⟨gs,k*2+1,none⟩=some (.int .i64 (t:Int)):=by have:=(g.ow 2).cellAt (k*2+1) (by omega);rw[this];exact(iD ar.out).2
        go_wp2_with (at_builtin;refine cJ oO rfl _ _ rfl (g.adv ((Ext.refl _).alloc (.cells #[(f:Int),(t:Int)] TSL))) 5 rfl rfl (aK ((f:Int),(t:Int))) rfl (dY _ _ _ 1 2 _ (by first|rfl|simp) (by first|rfl|simp) (by simp[maxLen])) (mJ _ _) (by omega) ?_;intro q7 c7 w6 M6;(have M7:=xQ (show Mem w w6 [aJ w.heap.size TI 1 (qz) (n) (cz) (ivs (zs)),aI w.heap.size (a4) TH3 #[aA,aB,.slice qz n cz],aJ w.heap.size TSL 2 (some ⟨gs,0,none⟩) (KS) (cs) ((es.map iN).flatMap aK),aI w.heap.size (a9) TH3 #[aA,aB,.slice q n c9],aJ w.heap.size TI 1 (q) (n) (c9) (ivs ys),aJ w.heap.size TSL 2 (q7) (j+1) (c7) ((nB aA n (aV D) (c,aM xs) (j+1)).flatMap aK),aJ w.heap.size TI 1 (some ⟨gT,0,none⟩) (49152) (cl) (ivs D),aI w.heap.size (w.heap.size) TH3 #[aA,aB,.slice p n cap]]from by rw[vZ,List.flatMap_append,dk.out];exact M6));clear M6 e0 e1 g ae aa ab;(have bl:a4<w6.heap.size:=(M7.out.hi 1));(have bf:a9<w6.heap.size:=(M7.out.hi 3));(have bo:w.heap.size<w6.heap.size:=(M7.out.hi 7));(have s: ¬(a4=a9):=M7.out.ne (i:=1) (j:=3) (by omega) rfl rfl rfl rfl);(have z: ¬(a9=a4):=fun h=>s h.symm);(obtain⟨x0,x1,x2⟩:=(M7.out.bk 1).tri);(obtain⟨v0,cc,v1,dg,v2,df⟩:=(M7.out.bk 3).trif))
        have bc:=(((M7.out.st 3 0 (.int .i64 aA)).st 3 1 (.int .i64 aB)).st 3 2 (.slice qz n cz))
        generalize a2:World.setCell _ _ _=wz
        rw[a2]at bc
        clear a2 s z x0 x1 x2 v0 cc v1 dg v2 df bl bf bo M7
        have eu:=xQ (HFi zs qz cz C2 wz (bc.sq 0) Z1 Z5.out)
        refine eu.out.mono ?_
        rintro e fj ⟨rfl,b7⟩
        have bh:=(bc.adv b7)
        clear bc b7
        have el:=bh.hi 1
        have ek:=bh.hi 3
        have em:=bh.hi 7
        have b8:(gP aA n (aV D) (c,aM xs) (j+1)).1=C2:=by
         have h1:=(hpick.out D HD d ce j hlt).2
         rw[h1,dk.out,er.out,HA.out];rfl
        have eo:=xQ b8
        clear b8
        go_wp2
        go_roundw
        case rel=>exact⟨j+1,zs,qz,cz,q7,c7,by omega,by rw[eo.out],rfl,ei.out,(bh.pick [3,0,5,6,7] (by decide) rfl)⟩
        case measure=>simp[aAb];omega
      ·have au: ¬u=dd-1:=fun h=>hkJ (du.1 (by omega))
       go_wp2
       refine rL (gl [gEq (.slice (some ⟨gT,0,none⟩) 49152 cl),gEq (.agg #[aA,aB,.slice qz n cz]),gEq id,gEq (C2:Int),gEq ((C2:Int)*4096:Int),gEq (.agg #[aA,aB,.slice qz n cz]),gEq (S2:Int),gEq (V1:Int),gEq (.pointer (some ⟨gT,V1,none⟩)),gEq u,gEq (.slice (some ⟨gT,0,none⟩) 49152 cl),gEq (a:Int),gEq ((a:Int)*4096:Int),gEq (.agg #[aA,aB,.slice q n c9]),gEq (S1:Int),gEq (V2:Int),gEq (.pointer (some ⟨gT,V2,none⟩)),gEq dd,gEq (dd-1:Int),gEq (.bool true)]) 20 20 [(0,some 50),(1,some 51),(2,some 52),(3,some 53),(4,some 54),(5,some 55),(6,some 56),(7,some 57),(8,some 58),(9,some 59),(10,some 60),(11,some 61),(12,some 62),(13,some 63),(14,some 64),(15,some 65),(16,some 66),(17,some 67),(18,some 68),(19,some 69)] ?steps ?fin
       case steps=>
        refine sS0 [] ?_
        refine sC [] rfl (fun wi hx=> ?_) ?_
        ·intro K hK
         have hX:Ext wr wi:=by exact .trans (.drew (.refl _)) hx
         have ad:=((b.bk 1).ext hX).cl 0
         have y:=((b.bk 1).ext hX).cl 1
         have x:=((b.bk 1).ext hX).cl 2
         go_simp
         exact hK _ _ ⟨.agg #[aA,aB,.slice qz n cz],rfl,rfl,Ext.refl _⟩
        refine sS0 [] ?_
        refine sC [(1,some 51),(2,some 52)] rfl (fun wi hx=> ?_) ?_
        ·intro v1 h1 v2 h2 K hK
         obtain rfl:=h1
         obtain rfl:=h2
         have hX:Ext wr wi:=by exact .trans (.drew (.refl _)) hx
         clear b1 b2 b3 b4 r o
         have HH:=xQ (HFi zs qz cz C2 wi ((b.adv hX).sq 0) Z1 Z5.out)
         go_wp2_with fail
         refine HH.out.mono ?_
         rintro e w5 ⟨rfl,m⟩
         go_simp
         exact hK _ _ ⟨.int .i64 (C2:Int),rfl,rfl,m⟩
        refine sC [(3,some 53)] rfl (fun wi hx=> ?_) ?_
        ·intro v3 h3 K hK
         obtain rfl:=h3
         have a3:IntKind.i64.wrap ((C2:Int)*4096)=(C2:Int)*4096:=IntWalk.i64_in _ (by omega)
         go_simp
         exact hK _ _ ⟨.int .i64 ((C2:Int)*4096),rfl,rfl,Ext.refl _⟩
        refine sC [] rfl (fun wi hx=> ?_) ?_
        ·intro K hK
         have hX:Ext wr wi:=by exact .trans (.drew (.refl _)) hx
         have ad:=((b.bk 1).ext hX).cl 0
         have y:=((b.bk 1).ext hX).cl 1
         have x:=((b.bk 1).ext hX).cl 2
         go_simp
         exact hK _ _ ⟨.agg #[aA,aB,.slice qz n cz],rfl,rfl,Ext.refl _⟩
        refine sC [(5,some 55)] rfl (fun wi hx=> ?_) ?_
        ·intro v5 h5 K hK
         obtain rfl:=h5
         have hX:Ext wr wi:=by exact .trans (.drew (.refl _)) hx
         clear b1 b2 b3 b4 r o
         have HH:=xQ (HFs zs qz cz wi ((b.adv hX).sq 0) Z1.out)
         rw[Z3.out]at HH
         go_wp2_with fail
         refine HH.out.mono ?_
         rintro e w5 ⟨rfl,m⟩
         go_simp
         exact hK _ _ ⟨.int .i64 (S2:Int),rfl,rfl,m⟩
        refine sC [(4,some 54),(6,some 56)] rfl (fun wi hx=> ?_) ?_
        ·intro v4 h4 v6 h6 K hK
         obtain rfl:=h4
         obtain rfl:=h6
         have bb:=d2.out
         go_simp
         exact hK _ _ ⟨.int .i64 (V1:Int),rfl,rfl,Ext.refl _⟩
        refine sS2 [(0,some 50),(7,some 57)] ?_
        refine sC [(8,some 58)] rfl (fun wi hx=> ?_) ?_
        ·intro v8 h8 K hK
         obtain rfl:=h8
         have hX:Ext wr wi:=by exact .trans (.drew (.refl _)) hx
         have ad:wi.cell? ⟨gT,V1,none⟩=some (.int .i64 u):=(hX.cells.1 _ _ ah).trans y
         go_simp
         exact hK _ _ ⟨.int .i64 u,rfl,rfl,Ext.refl _⟩
        refine sS0 [] (sS0 [] ?_)
        refine sC [(11,some 61)] rfl (fun wi hx=> ?_) ?_
        ·intro dh ai K hK
         obtain rfl:=ai
         have a3:IntKind.i64.wrap ((a:Int)*4096)=(a:Int)*4096:=IntWalk.i64_in _ (by omega)
         go_simp
         exact hK _ _ ⟨.int .i64 ((a:Int)*4096),rfl,rfl,Ext.refl _⟩
        refine sC [] rfl (fun wi hx=> ?_) ?_
        ·intro K hK
         have hX:Ext wr wi:=by exact .trans (.drew (.refl _)) hx
         have ad:=((b.bk 3).ext hX).cl 0
         have y:=((b.bk 3).ext hX).cl 1
         have x:=((b.bk 3).ext hX).cl 2
         go_simp
         exact hK _ _ ⟨.agg #[aA,aB,.slice q n c9],rfl,rfl,Ext.refl _⟩
        refine sC [(13,some 63)] rfl (fun wi hx=> ?_) ?_
        ·intro c3 ak K hK
         obtain rfl:=ak
         have hX:Ext wr wi:=by exact .trans (.drew (.refl _)) hx
         clear b1 b2 b3 b4 r o
         have HH:=xQ (HFs ys q c9 wi ((b.adv hX).sq 4) HW.out.ok)
         rw[←bq.out]at HH
         go_wp2_with fail
         refine HH.out.mono ?_
         rintro e w5 ⟨rfl,m⟩
         go_simp
         exact hK _ _ ⟨.int .i64 (S1:Int),rfl,rfl,m⟩
        refine sC [(12,some 62),(14,some 64)] rfl (fun wi hx=> ?_) ?_
        ·intro cu ao ck aj K hK
         obtain rfl:=ao
         obtain rfl:=aj
         have bd:=dp.out
         go_simp
         exact hK _ _ ⟨.int .i64 (V2:Int),rfl,rfl,Ext.refl _⟩
        refine sS2 [(10,some 60),(15,some 65)] ?_
        refine sC [(16,some 66)] rfl (fun wi hx=> ?_) ?_
        ·intro cx am K hK
         obtain rfl:=am
         have hX:Ext wr wi:=by exact .trans (.drew (.refl _)) hx
         have ad:wi.cell? ⟨gT,V2,none⟩=some (.int .i64 dd):=(hX.cells.1 _ _ ah).trans x
         go_simp
         exact hK _ _ ⟨.int .i64 dd,rfl,rfl,Ext.refl _⟩
        refine sC [(17,some 67)] rfl (fun wi hx=> ?_) ?_
        ·intro dc al K hK
         obtain rfl:=al
         have a3:IntKind.i64.wrap (dd-1)=dd-1:=IntWalk.i64_in _ (by omega)
         go_simp
         exact hK _ _ ⟨.int .i64 (dd-1),rfl,rfl,Ext.refl _⟩
        refine sC [(9,some 59),(18,some 68)] rfl (fun wi hx=> ?_) StepsL.nil
        ·intro v9 h9 ca an K hK
         obtain rfl:=h9
         obtain rfl:=an
         have c4:(u !=(dd-1))=true:=by simp[au]
         go_simp
         exact hK _ _ ⟨.bool true,rfl,rfl,Ext.refl _⟩
       case fin=>
        intro wi hx v0 h0 v1 h1 v2 h2 v3 h3 v4 h4 v5 h5 v6 h6 v7 h7 v8 h8 v9 h9 e5 cw dh ai cu ao c3 ak ck aj e2 b9 cx am dc al ca an ey cj
        obtain rfl:=h0
        obtain rfl:=h1
        obtain rfl:=h2
        obtain rfl:=h3
        obtain rfl:=h4
        obtain rfl:=h5
        obtain rfl:=h6
        obtain rfl:=h7
        obtain rfl:=h8
        obtain rfl:=h9
        obtain rfl:=cw
        obtain rfl:=ai
        obtain rfl:=ao
        obtain rfl:=ak
        obtain rfl:=aj
        obtain rfl:=b9
        obtain rfl:=am
        obtain rfl:=al
        obtain rfl:=an
        obtain rfl:=cj
        refine wpAny_done (by kernel_rfl) ?_ _
        try simp only[Act.put,List.setIfInBounds_toArray,List.set_cons_zero,List.set_cons_succ]
        have hX:Ext wr wi:=hx.of_drew
        have g:=(b.adv hX)
        clear b hx hX y x ah b1 b2 b3 b4 r o
        have ae:=g.hi 1
        have aa:=g.hi 3
        have ab:=g.hi 7
        obtain⟨f2,t2,ag⟩: ∃f t,es[k+1]? =some (f,t):=⟨_,_,List.getElem?_eq_getElem (by rw[←HK.out];omega)⟩
        have ev:=xQ ag
        have i1:(0:Int)≤(k:Int)+1:=by omega
        have i3:(k:Int)+1<(KS:Int):=by omega
        have i4:((k:Int)+1).toNat=k+1:=by omega
        have d0:wi.cell? ⟨gs,(k+1)*2,none⟩=some (.int .i64 (f2:Int)):=by have:=(g.ow 2).cellAt ((k+1)*2) (by omega);rw[this];exact(iD ag).1
        have d1:wi.cell? ⟨gs,(k+1)*2+1,none⟩=some (.int .i64 (t2:Int)):=by have:=(g.ow 2).cellAt ((k+1)*2+1) (by omega);rw[this];exact(iD ag).2
        have a0:gs<wi.heap.size:=(g.hi 2)
        clear ag
        have ba:=xQ (fun w' (hx:Ext wi w')=>hsd.out ys q c9 f2 t2 w' ((g.sq 4).ext hx) HW.out.ok ay)
        obtain⟨v0,v1,v2⟩:=(g.bk 3).tri
        have n1: ¬(a9=wi.heap.size):=by have:=(g.hi 3);omega
        have n2: ¬(wi.heap.size=a9):=fun h=>n1 h.symm
        have n3: ¬(gs=wi.heap.size):=by omega
        have n4: ¬(wi.heap.size=gs):=fun h=>n3 h.symm
        go_upto_region 15 with fail
        go_cut [14,15] (fun s1 s2 wx=> ∃(a:Nat) (q5:OA) (c5:Nat),s1= .pointer (some ⟨a,0,none⟩)∧Ext wi wx∧wi.heap.size≤a∧Blk wx a TH3 #[aA,aB,.slice q5 n c5]∧wx.ownsRow wi.heap.size TI 1 (.slice q5 n c5) n (ivs (bG aA aB ys ((f2:Nat):Int) ((t2:Nat):Int))))
        case first=>
         go_region_held3 (fun w'=>w'.cell? ⟨a9,0,none⟩=some (.int .i64 aA)∧w'.cell? ⟨a9,1,none⟩=some (.int .i64 aB)∧w'.cell? ⟨a9,2,none⟩=some (.slice q n c9)∧w'.cell? ⟨gs,(k+1)*2,none⟩=some (.int .i64 (f2:Int))∧w'.cell? ⟨gs,(k+1)*2+1,none⟩=some (.int .i64 (t2:Int)))
          (first|(refine⟨?_,?_,?_,?_,?_⟩<;>assumption)|go_keep)
          ((go_at_call 78
            refine(ba _ xE).mono ?_
            rintro e w5 ⟨q5,c5,rfl,o5,m⟩
            have l:Ext wi w5:=xE
            have g0:=((g.bk 3).ext l).cl 0
            have g1:=((g.bk 3).ext l).cl 1
            have g2:=((g.bk 3).ext l).cl 2
            have g3:w5.cell? ⟨gs,(k+1)*2,none⟩=some (.int .i64 (f2:Int)):=(l.cells.1 _ _ a0).trans d0
            have g4:w5.cell? ⟨gs,(k+1)*2+1,none⟩=some (.int .i64 (t2:Int)):=(l.cells.1 _ _ a0).trans d1
            first
             |(have ap:Ext (wi.alloc (.cells #[(),(),((),())] TH3)) w5:=m
               have BB:=(Blk.new wi TH3 #[(),(),((),())]).ext ap
               have cp:=BB.cl 0
               have cb:=BB.cl 1
               have cy:=BB.cl 2
               have ct:=BB.frozen 0
               have cm:=BB.frozen 1
               have cr:w5.frozen? ⟨wi.heap.size,2,none⟩=false:=BB.frozen 2)
             |(have ap:Ext (wi.alloc (.cells #[(),(),((),())] TH3)) w5:=m.of_drew
               have BB:=(Blk.new wi TH3 #[(),(),((),())]).ext ap
               have cp:=BB.cl 0
               have cb:=BB.cl 1
               have cy:=BB.cl 2
               have ct:=BB.frozen 0
               have cm:=BB.frozen 1
               have cr:w5.frozen? ⟨wi.heap.size,2,none⟩=false:=BB.frozen 2)
             |skip))
         ·go_wp2_with fail
          go_meet
          exact⟨w5.heap.size,q5,c5,rfl,by exact .alloc l _,by have:=l.sz;omega,Blk.new _ _ _,bH (by exact o5.alloc _) (by simp)⟩
         ·have hR:ExtR wi.heap.size w5 _:=(((ExtR.refl wi.heap.size w5).setCell (p:=⟨wi.heap.size,0,none⟩) (.inl rfl) (.int .i64 aA)).setCell (p:=⟨wi.heap.size,1,none⟩) (.inl rfl) (.int .i64 aB)).setCell (p:=⟨wi.heap.size,2,none⟩) (.inl rfl) (.slice q5 n c5)
          have hY:=((BB.set 0 (.int .i64 aA)).set 1 (.int .i64 aB)).set 2 (.slice q5 n c5)
          simp only[List.setIfInBounds_toArray,List.set_cons_zero,List.set_cons_succ]at hY
          go_wp2_with fail
          go_meet
          exact⟨wi.heap.size,q5,c5,rfl,ExtR.new l hR (Nat.le_refl _),Nat.le_refl _,hY,bH (o5.kept hR (.inr (dG o5 BB (by decide)))) (by simp)⟩
        case rest=>
         clear v0 v1 v2 n1 n2 n3 n4 d0 d1
         obtain⟨fo,q8,c8,rfl,a1,a7,az,a8⟩:=hcut
         have af:=(g.blkOwn a1 az a7 a8 (Nat.le_refl _) (by decide))
         clear a1 a7 az a8 ba g ae aa ab
         have bj:=af.hi 1
         have bi:=af.hi 3
         have be:=af.hi 5
         have bp:=af.hi 9
         obtain⟨s,z⟩:=af.nq 1 3
         obtain⟨x0,x1,x2⟩:=(af.bk 1).tri
         obtain⟨v0,cc,v1,dg,v2,df⟩:=(af.bk 3).trif
         go_wp2
         have ee:=(((af.st 3 0 (.int .i64 aA)).st 3 1 (.int .i64 aB)).st 3 2 (.slice q8 n c8))
         generalize a2:World.setCell _ _ _=wz
         rw[a2]at ee
         clear a2 s z x0 x1 x2 v0 cc v1 dg v2 df bj bi be bp af
         go_roundw
         case rel=>exact⟨k+1,f2,t2,q8,c8,by omega,by go_num,ev.out,(ee.pick [0,3,4,5,6,7,8,9] (by decide) rfl)⟩
         case measure=>simp[intOf];omega
   ·obtain rfl:d=j:=by omega
    have eh:a=0:=aq.2 rfl
    have t0:decide ((0:Int)<(a:Int))=false:=by simp;omega
    have hE:=xQ HM.ext
    have hO:=xQ (HM.ow 2)
    subst eh
    go_wp2
    rw[dt.out]
    exact bodyPost_ret (v:= .tuple #[.slice q6 d lc,.bool true]) (by simp[results,Tryz.results123,go_sem, *]) rfl ⟨q6,lc,by rw[nE],by rw[nE];exact hO.out,hE.out⟩
theorem vW (aA aB id:Int)(p:OA)(n cap:Nat)(xs:List Int)(w:World)(hS:Sl w p n cap 1 (ivs xs))(hok:aN aA aB xs=true){c:Nat}(hid0:1≤id)(hc:xs[c]? =some id):
  Calls Tryz.prog 123 #[aH aA aB p n cap,id] w (iZ (dI aA xs c) w):=by
 have hl:=hS.ilen
 subst hl
 obtain⟨g1,g2,g3,g4,g5,g6,g7⟩:=bX (cM hok)
 have h0:id≠0:=by omega
 have g:=kF hc h0
 have i:(2:Nat) ^ xs.length≤4096:=Nat.le_trans (Nat.pow_le_pow_right (by omega) g6) (by decide)
 refine aHr aA aB id p xs.length cap c xs w g5 g6 hok rfl h0 hc g.car (fun zs hz=> ?_) (fun D hD=>uY hok hc h0 hD) (fun D hD=> ?_) (fun D hD d hd j hj=> ?_) (fun D hD d hd j hj ys hw=>aH4 hok hc h0 hD hd hj hw) (fun ys hy hyl f t hm=> ?_) (fun ys q c9 f t w' hs hy hyl=> ?_)
  (fun D hD d hd j hj=>⟨trivial,(jS g5 g6 hD g hd hj).2.2⟩) (fun w' hx=> ?_) (fun w' hx=>uE aA aB p xs.length cap xs w' (hS.ext hx) hok) (fun w' hx=> ?_) (fun w' hx=>fG aA aB p xs.length cap xs w' (by omega) (hS.ext hx)) (fun zs q c9 C2 w' hs hz hC=> ?_) (fun zs q c9 w' hs hz=>uE aA aB q xs.length c9 zs w' hs hz)
 ·have:=mT zs;rw[hz]at this;omega
 ·obtain⟨n1,n2,n3⟩:=rU hok hc h0 hD
  by_cases hf:bI xs= []
  ·by_cases hc0:c=0
   ·rw[n2 hc0];decide
   ·have:=n3 hf hc0;omega
  ·exact(n1 hf).2
 ·obtain⟨a,b⟩:=iV g5 g6 hD g hd j hj
  exact⟨a.car,b,aJ4 g5 g6 hD g hd hj,Nat.lt_of_lt_of_le a.set i⟩
 ·rw[←hyl]at hm
  obtain⟨m1,m2,m3,m4⟩:=rS hy hm
  exact⟨iB _ _ hy,by rw[cW,hyl],m3,m4⟩
 ·have:=kY aA aB (f:Int) (t:Int) q xs.length c9 ys w' hs hy
  unfold cQ at this
  rw[cW,hyl]at this
  exact this
 ·have:=qX aA aB id p xs.length cap xs w' (hS.ext hx)
  rwa[wW hok hid0 hc]at this
 ·refine(aDd aA aB p xs.length cap xs w' (hS.ext hx) hok).mono fun e w'' h=> ?_
  obtain⟨D,hD,q,c',h1,h2,h3⟩:=h
  have hl:=hD.len
  rw[hl]at h1 h2
  exact⟨D,hD,q,c',h1,h2,h3⟩
 ·have:=qX aA aB id q xs.length c9 zs w' hs
  rwa[wW hz hid0 hC]at this
end Go.Proofs.YtgnkoffndhmhpaaGreatDoor
