/-
  Texts of this proof, packed (@packed).
-/
import Derived.Test.YtgnkoffndhmhpaaGreatDoorR10
import Derived.Test.YtgnkoffndhmhpaaGreatDoorR15
namespace Go.Proofs.YtgnkoffndhmhpaaGreatDoor
open Go.RowKit
set_option linter.unusedVariables false
set_option linter.unusedSimpArgs false
set_option maxHeartbeats 16000000
set_option maxRecDepth 100000
def iD (r:Option (List Sl2))(w:World)(e:Ending)(w':World):Prop:=
 match r with
 |none=> ∃v,e= .returned (.tuple #[v,.bool false])∧Ext w w'
 |some l=> ∃q c,e= .returned (.tuple #[.slice q l.length c,.bool true])∧w'.ownsRow w.heap.size TSL 2 (.slice q l.length c) l.length (l.flatMap aM)∧Ext w w'
def xT:Value→Nat
 | .slice _ n _=>n
 |_=>0
theorem gE {es:List (Nat×Nat)}{k f t:Nat}(h:es[k]? =some (f,t)):((es.map gQ).flatMap aM)[k*2]? =some (.int .i64 (f:Int))∧((es.map gQ).flatMap aM)[k*2+1]? =some (.int .i64 (t:Int)):=by
 have hx:(es.map gQ)[k]? =some ((f:Int),(t:Int)):=by rw[List.getElem?_map,h];rfl
 have h0:=dQ aM 2 (fun _=>rfl) _ _ _ hx 0 (by omega)
 have h1:=dQ aM 2 (fun _=>rfl) _ _ _ hx 1 (by omega)
 exact⟨by simpa[aM]using h0,by simpa[aM]using h1⟩
theorem aFm (aA aB id:Int)(p:OA)(n cap c:Nat)(xs:List Int)(w:World)(hn0:4≤n)(hn:n≤12)(hok:Hid (aP aA aB xs=true))(hlen:Hid (xs.length=n))(hid0:Hid (id≠0))(hc:Hid (xs[c]? =some id)) (hcl:Hid (c<n)) (hfs:Hid (∀zs:List Int,zs.length=n→aN zs<4096))
  (hbr:Hid (∀D,eE aA n (bI xs).length D→dD aA xs c=if aW D c (aN xs)<0 then none else some (lK aA n (aW D) (c,aN xs) (aW D c (aN xs)).toNat)))
  (h60:Hid (∀D,eE aA n (bI xs).length D→aW D c (aN xs)≤60))
  (gfac:Hid (∀D,eE aA n (bI xs).length D→ ∀d:Nat,aW D c (aN xs)=d→ ∀j,j≤d→(gP aA n (aW D) (c,aN xs) j).1<n∧aW D (gP aA n (aW D) (c,aN xs) j).1 (gP aA n (aW D) (c,aN xs) j).2=(d:Int)-j∧((gP aA n (aW D) (c,aN xs) j).1=0↔j=d)∧(gP aA n (aW D) (c,aN xs) j).2<4096))
  (hnext:Hid (∀D,eE aA n (bI xs).length D→ ∀d:Nat,aW D c (aN xs)=d→ ∀j,j<d→ ∀ys,uO aA aB xs D c id j ys→ ∃(J:Nat) (es:List (Nat×Nat)),es=dO aA n (aN ys)∧jB aA aB ys=es.map gQ∧J<es.length∧es[J]? =some (fA aA n (aW D) (c,aN xs) j)∧
   (∀i e,i≤J→es[i]? =some e→e∈dO aA n (aN ys)∧(aW D (dC (gP aA n (aW D) (c,aN xs) j).1 e.1 e.2) (cO (aN ys) e.1 e.2)=(d:Int)-j-1↔i=J))∧
   ∀e,es[J]? =some e→uO aA aB xs D c id (j+1) (bE aA aB ys (e.1:Int) (e.2:Int))))
  (hedge:Hid (∀ys,aP aA aB ys=true→ys.length=n→ ∀f t,(f,t)∈dO aA n (aN ys)→aP aA aB (bE aA aB ys (f:Int) (t:Int))=true∧(bE aA aB ys (f:Int) (t:Int)).length=n∧aN (bE aA aB ys (f:Int) (t:Int))=cO (aN ys) f t∧ ∀c id,ys[c]? =some id→id≠0→(bE aA aB ys (f:Int) (t:Int))[dC c f t]? =some id))
  (hsd:Hid (∀ys q c9 (f t:Nat) w',Sl w' q n c9 1 (ivs ys)→aP aA aB ys=true→ys.length=n→Calls Tryz.prog 78 #[aI aA aB q n c9,dK (f:Int) (t:Int)] w' fun e w''=> ∃q5 c5,e= .returned (.tuple #[aI aA aB q5 n c5,.bool (bC aA aB ys (f:Int) (t:Int))])∧w''.ownsRow w'.heap.size TI 1 (.slice q5 n c5) n (ivs (bE aA aB ys (f:Int) (t:Int)))∧Ext w' w''))
  (hpick:Hid (∀D,eE aA n (bI xs).length D→ ∀d:Nat,aW D c (aN xs)=d→ ∀j,j<d→True∧gP aA n (aW D) (c,aN xs) (j+1)=iG (gP aA n (aW D) (c,aN xs) j) (fA aA n (aW D) (c,aN xs) j)))
  (HF0:xC 156 #[aI aA aB p n cap,id] w fun w' e w''=>e= .returned (.int .i64 (c:Int))∧Ext w' w'')
  (HFree:xC 158 #[aI aA aB p n cap] w fun w' e w''=>e= .returned (.int .i64 (aN xs:Int))∧Ext w' w'')
  (HLf:xC 157 #[aI aA aB p n cap] w fun w' e w''=> ∃D,eE aA n (bI xs).length D∧ ∃q c,e= .returned (.slice q 49152 c)∧w''.ownsRow w'.heap.size TI 1 (.slice q 49152 c) 49152 (ivs D)∧Ext w' w'')
  (HL:xC 104 #[aI aA aB p n cap] w fun w' e w''=> ∃q c,e= .returned (aI aA aB q n c)∧w''.ownsRow w'.heap.size TI 1 (.slice q n c) n (ivs xs)∧Ext w' w'')
  (HFi:Hid (∀zs q c9 (C2:Nat) w',Sl w' q n c9 1 (ivs zs)→aP aA aB zs=true→zs[C2]? =some id→Calls Tryz.prog 156 #[aI aA aB q n c9,id] w' fun e w''=>e= .returned (.int .i64 (C2:Int))∧Ext w' w''))
  (HFs:Hid (∀zs q c9 w',Sl w' q n c9 1 (ivs zs)→aP aA aB zs=true→Calls Tryz.prog 158 #[aI aA aB q n c9] w' fun e w''=>e= .returned (.int .i64 (aN zs:Int))∧Ext w' w'')):
  Calls Tryz.prog 123 #[aI aA aB p n cap,id] w (iD (dD aA xs c) w):=by
 go_enter Tryz.func123,Tryz.ntmps123
 go_wp2_with fail
 refine(HF0.out _ (((((Mem.start w).blkNew TH3 #[aA,aB,.slice p n cap] (w.heap.size) (by simp))).made0 TSL 2 (w.heap.size+1) (by simp))).ext).mono ?_
 rintro e w1 ⟨rfl,hx1⟩
 have M1:=xQ ((((((Mem.start w).blkNew TH3 #[aA,aB,.slice p n cap] (w.heap.size) (by simp))).made0 TSL 2 (w.heap.size+1) (by simp))).adv hx1)
 have lt1_1:=M1.out.hi 1
 clear hx1
 obtain⟨c0,c1,c2⟩:=(M1.out.blk (i:=1) rfl).tri
 go_wp2_with fail
 clear c0 c1 c2
 refine(HLf.out _ M1.out.ext).mono ?_
 rintro e w2 ⟨D,hD,ql,cl,rfl,ho2,hx2⟩
 have M2:=xQ ((M1.out).call hx2 ho2)
 clear M1 lt1_1
 have lt2_2:=M2.out.hi 2
 clear hx2 ho2
 obtain⟨gT,rfl,hgl1,hgl2⟩:=M2.out.some (i:=0) rfl (by omega)
 have HD:=xQ hD
 have hcn:c<n:=hcl.out
 obtain⟨S,hS⟩: ∃S,S=aN xs:=⟨_,rfl⟩
 have hSb:S<4096:=by rw[hS];exact hfs.out xs hlen.out
 obtain⟨V0,hV0⟩: ∃V0,V0=c*4096+S:=⟨_,rfl⟩
 have hm1:IntKind.i64.wrap ((c:Int)*4096)=(c:Int)*4096:=IntWalk.i64_in _ (by omega)
 have hm2:IntKind.i64.wrap ((c:Int)*4096+(S:Int))=(V0:Int):=(IntWalk.i64_in _ (by omega)).trans (by omega)
 have s1:(0:Int)≤(V0:Int):=by omega
 have s2:(V0:Int)<49152:=by omega
 obtain⟨dv,hdv,hdvm⟩: ∃dv,D[V0]? =some dv∧aW D c (aN xs)=dv:=⟨_,(cW (D:=D) (v:=V0) (by rw[hD.len];show _<49152;omega)).1,by rw[hV0,hS];rfl⟩
 have HDV:=xQ hdvm
 have HS:=xQ hS
 have HV0:=xQ hV0
 clear hD hdvm hS hV0
 obtain⟨c0,c1,c2⟩:=(M2.out.blk (i:=2) rfl).tri
 go_wp2_with fail
 clear c0 c1 c2
 have HFr:=xQ (HFree.out _ M2.out.ext)
 rw[←HS.out]at HFr
 refine(HFr.out).mono ?_
 rintro e w3 ⟨rfl,hx3⟩
 have M3:=xQ ((M2.out).adv hx3)
 clear M2 lt2_2
 have lt3_2:=M3.out.hi 2
 clear hx3 HFr
 have cd:w3.cell? ⟨gT,V0,none⟩=some (.int .i64 dv):=by have:=(M3.out.own (i:=0) rfl).cellAt V0 (by omega);rw[this];simp[ivs,hdv]
 clear hdv
 by_cases hneg:dv<0
 ·have t0:decide (dv<0)=true:=by simp[hneg]
  have hno:Hid (dD aA xs c=none):=by show _=_;rw[hbr.out D HD.out,HDV.out,if_pos hneg]
  have HX:=xQ (M3.out.ext)
  go_wp2
  rw[hno.out]
  exact bodyPost_ret (v:= .tuple #[.slice (some ⟨w.heap.size+1,0,none⟩) 0 0,.bool false]) (by simp[results,Tryz.results123,go_sem, *]) rfl ⟨_,rfl,by have:=HX.out;exact this⟩
 ·have t0:decide (dv<0)=false:=by simp;omega
  obtain⟨d,rfl⟩:=Int.eq_ofNat_of_zero_le (show 0≤dv by omega)
  have hd60:d≤60:=by have:=h60.out D HD.out;rw[HDV.out]at this;omega
  have hyes:Hid (dD aA xs c=some (lK aA n (aW D) (c,aN xs) d)):=by show _=_;rw[hbr.out D HD.out,HDV.out,if_neg hneg];rfl
  clear hneg
  have HDD:=xQ (show aW D c (aN xs)=(d:Int)from HDV.out)
  clear HDV
  obtain⟨c0,c1,c2⟩:=(M3.out.blk (i:=2) rfl).tri
  go_wp2_with fail
  clear c0 c1 c2 cd t0 hm1 hm2 s1 s2
  refine(HL.out _ M3.out.ext).mono ?_
  rintro e w4 ⟨q0,c0,rfl,ho4,hx4⟩
  have M4:=xQ ((M3.out).call hx4 ho4)
  clear M3 lt3_2
  have lt4_3:=M4.out.hi 3
  clear hx4 ho4
  obtain⟨a9,ha9⟩: ∃a9,a9=w4.heap.size:=⟨_,rfl⟩
  have MS0:=xQ (show Mem w (w4.alloc (.cells #[aA,aB,.slice q0 n c0] TH3)) [aL w.heap.size (a9) TH3 #[aA,aB,.slice q0 n c0],aJ w.heap.size TI 1 (q0) (n) (c0) (ivs xs),aJ w.heap.size TSL 2 (some ⟨w.heap.size+1,0,none⟩) (0) (0) ([]),aJ w.heap.size TI 1 (some ⟨gT,0,none⟩) (49152) (cl) (ivs D),aL w.heap.size (w.heap.size) TH3 #[aA,aB,.slice p n cap]]from by rw[ha9];exact(((M4.out).blkNew TH3 #[aA,aB,.slice q0 n c0] (w4.heap.size) (by simp))).pick [0,1,3,2,4] (by decide) rfl)
  clear M4 lt4_3
  go_wp2
  rw[←ha9]
  go_loopw [6,7] (fun v i wr=> ∃(j:Nat) (ys:List Int) (q:OA) (c9:Nat) (q6:OA) (lc:Nat),j≤d∧i= .int .i64 ((gP aA n (aW D) (c,aN xs) j).1:Int)∧v= .slice q6 j lc∧uO aA aB xs D c id j ys∧Mem w wr [aL w.heap.size (a9) TH3 #[aA,aB,.slice q n c9],aJ w.heap.size TI 1 (q) (n) (c9) (ivs ys),aJ w.heap.size TSL 2 (q6) (j) (lc) ((lK aA n (aW D) (c,aN xs) (j)).flatMap aM),aJ w.heap.size TI 1 (some ⟨gT,0,none⟩) (49152) (cl) (ivs D),aL w.heap.size (w.heap.size) TH3 #[aA,aB,.slice p n cap]]) (fun v _ _=>d-xT v)
  case atStart=>exact⟨0,xs,q0,c0,_,0,Nat.zero_le _,rfl,rfl,⟨hok.out,rfl,rfl,hc.out⟩,MS0.out⟩
  case round=>
   clear MS0 ha9
   obtain⟨j,ys,q,c9,q6,lc,hj,rfl,rfl,hway,hM⟩:=hrel
   have HM:=xQ hM
   have HW:=xQ hway
   clear hM hway
   obtain⟨a,ha⟩: ∃a,a=(gP aA n (aW D) (c,aN xs) j).1:=⟨_,rfl⟩
   have HA:=xQ ha
   have hgf:=gfac.out D HD.out d HDD.out j hj
   obtain⟨hgp1,hgp2,hgp3,hgp4⟩:=hgf
   rw[←ha]at hgp1 hgp2 hgp3⊢
   clear ha
   by_cases hlt:j<d
   ·have ha0:0<a:=Nat.pos_of_ne_zero (fun e=>by have:=hgp3.1 e;omega)
    have t0:decide ((0:Int)<(a:Int))=true:=by simp;omega
    have hyl:ys.length=n:=by rw[HW.out.len];exact hlen.out
    obtain⟨J,es,he1,he2,hJ,heJ,hei,henx⟩:=hnext.out D HD.out d HDD.out j hlt ys HW.out
    have HES:=xQ he1
    have HEI:=xQ hei
    have HNX:=xQ henx
    have HEJ:=xQ heJ
    have HSA:=xQ (fun w' (hx:Ext wr w')=>sX aA aB q n c9 ys w' ((HM.out.sl (i:=1) rfl).ext hx) HW.out.ok)
    clear he1 hei henx heJ
    obtain⟨KS,hK⟩: ∃KS,KS=es.length:=⟨_,rfl⟩
    have hKl:(es.map gQ).length=KS:=by rw[List.length_map,hK]
    have hKSb:KS≤144:=by
     rw[hK,←List.length_map (f:=gQ),←he2]
     unfold jB
     rw[hyl]
     exact Nat.le_trans (aDj _ _ _) (Nat.mul_le_mul hn hn)
    have HK:=xQ hK
    have hJK:J<KS:=by rw[hK];exact hJ
    rw[he2]at HSA
    clear hK hJ he2
    obtain⟨S1,hS1⟩: ∃S1,S1=aN ys:=⟨_,rfl⟩
    have HS1:=xQ hS1
    have hS1b:S1<4096:=by rw[hS1];exact hfs.out ys hyl
    have hdd0:aW D a S1=(d:Int)-j:=by rw[hS1,HW.out.free,hlen.out];exact hgp2
    have HDD0:=xQ hdd0
    clear hS1 hdd0 hgp2 hgp4 hgp3
    have lt9:=(HM.out.lt (i:=0) rfl rfl).2
    obtain⟨v0,v1,v2⟩:=(HM.out.blk (i:=0) rfl).tri
    go_wp2_with fail
    clear v0 v1 v2 lt9
    refine(HSA.out _ (Ext.refl _)).mono ?_
    rintro e w7 ⟨qs,cs,rfl,ho7,hx7⟩
    rw[hKl]at ho7⊢
    clear HSA hKl
    have M1:=xQ ((HM.out).call hx7 ho7)
    clear HM
    have lt1_1:=M1.out.hi 1
    have lt1_5:=M1.out.hi 5
    clear hx7 ho7
    obtain⟨gs,rfl,hgs1,hgs⟩:=M1.out.some (i:=0) rfl (by omega)
    obtain⟨f0,t0',he0⟩: ∃f t,es[0]? =some (f,t):=⟨_,_,List.getElem?_eq_getElem (by rw[←HK.out];omega)⟩
    have HE0:=xQ he0
    have d0:w7.cell? ⟨gs,0,none⟩=some (.int .i64 (f0:Int)):=by have:=(M1.out.own (i:=0) rfl).cellAt 0 (by omega);rw[this];exact(gE he0).1
    have d1:w7.cell? ⟨gs,1,none⟩=some (.int .i64 (t0':Int)):=by have:=(M1.out.own (i:=0) rfl).cellAt 1 (by omega);rw[this];exact(gE he0).2
    clear he0
    have i2:(0:Int)<(KS:Int):=by omega
    have i2n:0<KS:=by omega
    have HSD:=xQ (fun w' (hx:Ext w7 w')=>hsd.out ys q c9 f0 t0' w' ((M1.out.sl (i:=2) rfl).ext hx) HW.out.ok hyl)
    obtain⟨v0,v1,v2⟩:=(M1.out.blk (i:=1) rfl).tri
    have n1: ¬(a9=w7.heap.size):=by have:=(M1.out.lt (i:=1) rfl rfl).2;omega
    have n2: ¬(w7.heap.size=a9):=fun h=>n1 h.symm
    have n3: ¬(gs=w7.heap.size):=by omega
    have n4: ¬(w7.heap.size=gs):=fun h=>n3 h.symm
    go_upto_region 12 with fail
    go_cut [12,13] (fun s1 s2 wx=> ∃(a:Nat) (q5:OA) (c5:Nat),s1= .pointer (some ⟨a,0,none⟩)∧Ext w7 wx∧w7.heap.size≤a∧Blk wx a TH3 #[aA,aB,.slice q5 n c5]∧wx.ownsRow w7.heap.size TI 1 (.slice q5 n c5) n (ivs (bE aA aB ys ((f0:Nat):Int) ((t0':Nat):Int))))
    case first=>
     go_region_held3 (fun w'=>w'.cell? ⟨a9,0,none⟩=some (.int .i64 aA)∧w'.cell? ⟨a9,1,none⟩=some (.int .i64 aB)∧w'.cell? ⟨a9,2,none⟩=some (.slice q n c9)∧w'.cell? ⟨gs,0,none⟩=some (.int .i64 (f0:Int))∧w'.cell? ⟨gs,1,none⟩=some (.int .i64 (t0':Int)))
      (first|(refine⟨?_,?_,?_,?_,?_⟩<;>assumption)|go_keep)
      ((go_at_call 78
        refine(HSD.out _ xE).mono ?_
        rintro e w5 ⟨q5,c5,rfl,o5,hx5⟩
        have hy5:Ext w7 w5:=xE
        have g0:w5.cell? ⟨a9,0,none⟩=some (.int .i64 aA):=((M1.out.blk (i:=1) rfl).ext hy5).cell 0
        have g1:w5.cell? ⟨a9,1,none⟩=some (.int .i64 aB):=((M1.out.blk (i:=1) rfl).ext hy5).cell 1
        have g2:w5.cell? ⟨a9,2,none⟩=some (.slice q n c9):=((M1.out.blk (i:=1) rfl).ext hy5).cell 2
        have g3:w5.cell? ⟨gs,0,none⟩=some (.int .i64 (f0:Int)):=(hy5.cells.1 _ _ hgs).trans d0
        have g4:w5.cell? ⟨gs,1,none⟩=some (.int .i64 (t0':Int)):=(hy5.cells.1 _ _ hgs).trans d1
        first
         |(have hz5:Ext (w7.alloc (.cells #[(),(),((),())] TH3)) w5:=hx5
           have BB:=(Blk.new w7 TH3 #[(),(),((),())]).ext hz5
           have zc0:w5.cell? ⟨w7.heap.size,0,none⟩=some (.int .i64 0):=BB.cell 0
           have zc1:w5.cell? ⟨w7.heap.size,1,none⟩=some (.int .i64 0):=BB.cell 1
           have zc2:w5.cell? ⟨w7.heap.size,2,none⟩=some (.slice none 0 0):=BB.cell 2
           have zf0:w5.frozen? ⟨w7.heap.size,0,none⟩=false:=BB.frozen 0
           have zf1:w5.frozen? ⟨w7.heap.size,1,none⟩=false:=BB.frozen 1
           have zf2:w5.frozen? ⟨w7.heap.size,2,none⟩=false:=BB.frozen 2)
         |(have hz5:Ext (w7.alloc (.cells #[(),(),((),())] TH3)) w5:=hx5.of_drew
           have BB:=(Blk.new w7 TH3 #[(),(),((),())]).ext hz5
           have zc0:w5.cell? ⟨w7.heap.size,0,none⟩=some (.int .i64 0):=BB.cell 0
           have zc1:w5.cell? ⟨w7.heap.size,1,none⟩=some (.int .i64 0):=BB.cell 1
           have zc2:w5.cell? ⟨w7.heap.size,2,none⟩=some (.slice none 0 0):=BB.cell 2
           have zf0:w5.frozen? ⟨w7.heap.size,0,none⟩=false:=BB.frozen 0
           have zf1:w5.frozen? ⟨w7.heap.size,1,none⟩=false:=BB.frozen 1
           have zf2:w5.frozen? ⟨w7.heap.size,2,none⟩=false:=BB.frozen 2)
         |skip))
     ·go_wp2_with fail
      go_meet
      exact⟨w5.heap.size,q5,c5,rfl,by exact .alloc hy5 _,by have:=hy5.sz;omega,Blk.new _ _ _,bG (by exact o5.alloc _) (by simp)⟩
     ·have hR:ExtR w7.heap.size w5 _:=(((ExtR.refl w7.heap.size w5).setCell (p:=⟨w7.heap.size,0,none⟩) (.inl rfl) (.int .i64 aA)).setCell (p:=⟨w7.heap.size,1,none⟩) (.inl rfl) (.int .i64 aB)).setCell (p:=⟨w7.heap.size,2,none⟩) (.inl rfl) (.slice q5 n c5)
      have hY:=((BB.set 0 (.int .i64 aA)).set 1 (.int .i64 aB)).set 2 (.slice q5 n c5)
      simp only[List.setIfInBounds_toArray,List.set_cons_zero,List.set_cons_succ]at hY
      go_wp2_with fail
      go_meet
      exact⟨w7.heap.size,q5,c5,rfl,ExtR.new hy5 hR (Nat.le_refl _),Nat.le_refl _,hY,bG (o5.kept hR (.inr (cY o5 BB (by decide)))) (by simp)⟩
    case rest=>
     clear v0 v1 v2 n1 n2 n3 n4 d0 d1
     obtain⟨a12,q5,c5,rfl,hE5,ha5,hBa,ho5⟩:=hcut
     have M12:=xQ (M1.out.blkOwn hE5 hBa ha5 ho5 (Nat.le_refl _) (by decide))
     clear hE5 ha5 hBa ho5 HSD M1
     go_wp2
     go_loopw [11] (fun i wx=> ∃(k f t:Nat) (qz:OA) (cz:Nat),k≤J∧i= .int .i64 (k:Int)∧es[k]? =some (f,t)∧Mem w wx [aJ w.heap.size TI 1 (qz) (n) (cz) (ivs (bE aA aB ys ((f:Nat):Int) ((t:Nat):Int))),aL w.heap.size (a12) TH3 #[aA,aB,.slice qz n cz],aJ w.heap.size TSL 2 (some ⟨gs,0,none⟩) (KS) (cs) ((es.map gQ).flatMap aM),aL w.heap.size (a9) TH3 #[aA,aB,.slice q n c9],aJ w.heap.size TI 1 (q) (n) (c9) (ivs ys),aJ w.heap.size TSL 2 (q6) (j) (lc) ((lK aA n (aW D) (c,aN xs) (j)).flatMap aM),aJ w.heap.size TI 1 (some ⟨gT,0,none⟩) (49152) (cl) (ivs D),aL w.heap.size (w.heap.size) TH3 #[aA,aB,.slice p n cap]]) (fun i _=>J-(intOf i).toNat)
     case atStart=>exact⟨0,f0,t0',q5,c5,Nat.zero_le _,rfl,HE0.out,M12.out⟩
     case round=>
      clear M12 HE0
      obtain⟨k,f,t,qz,cz,hk,rfl,hes,hM⟩:=hrel
      have HM2:=xQ hM
      obtain⟨hme,hmi⟩:=HEI.out k (f,t) hk hes
      have HES':=xQ hes
      clear hM hes
      obtain⟨z1,z2,z3,z4⟩:=hedge.out ys HW.out.ok hyl f t hme
      have z5:=z4 a id (by have:=HW.out.at_;rw[hlen.out,←HA.out]at this;exact this) hid0.out
      rw[←HA.out,←HS1.out]at hmi
      rw[←HS1.out]at z3
      clear z4 hme
      generalize hzs:bE aA aB ys ((f:Nat):Int) ((t:Nat):Int)=zs at*
      obtain⟨C2,hC2⟩: ∃C2,C2=dC a f t:=⟨_,rfl⟩
      obtain⟨S2,hS2⟩: ∃S2,S2=cO S1 f t:=⟨_,rfl⟩
      rw[←hC2]at z5 hmi
      rw[←hS2]at z3 hmi
      have hC2b:C2<n:=by have:=(List.getElem?_eq_some_iff.1 z5).1;omega
      have hS2b:S2<4096:=by rw[←z3];exact hfs.out zs z2
      obtain⟨V1,hV1⟩: ∃V1,V1=C2*4096+S2:=⟨_,rfl⟩
      obtain⟨V2,hV2⟩: ∃V2,V2=a*4096+S1:=⟨_,rfl⟩
      have hV1b:V1<49152:=by omega
      have hV2b:V2<49152:=by omega
      obtain⟨dv1,hdv1,hdm1⟩: ∃dv,D[V1]? =some dv∧aW D C2 S2=dv:=⟨_,(cW (D:=D) (v:=V1) (by rw[HD.out.len];exact hV1b)).1,by rw[hV1];rfl⟩
      obtain⟨dd,hdv2,hdm2⟩: ∃dv,D[V2]? =some dv∧aW D a S1=dv:=⟨_,(cW (D:=D) (v:=V2) (by rw[HD.out.len];exact hV2b)).1,by rw[hV2];rfl⟩
      have hdd1:dd=(d:Int)-j:=by rw[←hdm2];exact HDD0.out
      have hdb1:0≤dd:=by omega
      have hdb2:dd≤60:=by omega
      rw[hdm1,←hdd1]at hmi
      have HZS:=xQ hzs
      have HC2:=xQ hC2
      have HS2:=xQ hS2
      have HMI:=xQ hmi
      have Z1:=xQ z1
      have Z2:=xQ z2
      have Z3:=xQ z3
      have Z5:=xQ z5
      have hw1:IntKind.i64.wrap ((C2:Int)*4096+(S2:Int))=(V1:Int):=(IntWalk.i64_in _ (by omega)).trans (by omega)
      have hw2:IntKind.i64.wrap ((a:Int)*4096+(S1:Int))=(V2:Int):=(IntWalk.i64_in _ (by omega)).trans (by omega)
      have HW1:=xQ hw1
      have HW2:=xQ hw2
      have hgTw:gT<wr.heap.size:=(HM2.out.lt (i:=6) rfl rfl).2
      have cl1:wr.cell? ⟨gT,V1,none⟩=some (.int .i64 dv1):=by have:=(HM2.out.own (i:=6) rfl).cellAt V1 (by omega);rw[this];simp[ivs,hdv1]
      have cl2:wr.cell? ⟨gT,V2,none⟩=some (.int .i64 dd):=by have:=(HM2.out.own (i:=6) rfl).cellAt V2 (by omega);rw[this];simp[ivs,hdv2]
      have b1:(0:Int)≤(V1:Int):=by omega
      have b2:(V1:Int)<49152:=by omega
      have b3:(0:Int)≤(V2:Int):=by omega
      have b4:(V2:Int)<49152:=by omega
      clear hzs hC2 hS2 hmi z1 z2 z3 z5 hdv1 hdv2 hdm1 hdm2 hdd1 hw1 hw2 hV1 hV2
      by_cases hkJ:k=J
      ·have hdec:dv1=dd-1:=by have:=HMI.out.2 hkJ;omega
       have HDEC:=xQ hdec
       clear hdec
       subst hkJ
       go_wp2
       refine cS (gl [gEq (.slice (some ⟨gT,0,none⟩) 49152 cl),gEq (.agg #[aA,aB,.slice qz n cz]),gEq id,gEq (C2:Int),gEq ((C2:Int)*4096:Int),gEq (.agg #[aA,aB,.slice qz n cz]),gEq (S2:Int),gEq (V1:Int),gEq (.pointer (some ⟨gT,V1,none⟩)),gEq dv1,gEq (.slice (some ⟨gT,0,none⟩) 49152 cl),gEq (a:Int),gEq ((a:Int)*4096:Int),gEq (.agg #[aA,aB,.slice q n c9]),gEq (S1:Int),gEq (V2:Int),gEq (.pointer (some ⟨gT,V2,none⟩)),gEq dd,gEq (dd-1:Int),gEq (.bool false)]) 20 (by kernel_rfl) rfl (by kernel_rfl) (by kernel_rfl) (by kernel_rfl) (eG (aK (aH _) (aK (aH _) (aK (aH _) (aK (aH _) (aK (aH _) (aK (aH _) (aK (aH _) (aK (aH _) (aK (aH _) (aK (aH _) (aK (aH _) (aK (aH _) (aK (aH _) (aK (aH _) (aK (aH _) (aK (aH _) (aK (aH _) (aK (aH _) (aK (aH _) (aK (aH _) (fK)))))))))))))))))))))) (k:=20) (by kernel_rfl) (by decide) (ls:= [(0,some 50),(1,some 51),(2,some 52),(3,some 53),(4,some 54),(5,some 55),(6,some 56),(7,some 57),(8,some 58),(9,some 59),(10,some 60),(11,some 61),(12,some 62),(13,some 63),(14,some 64),(15,some 65),(16,some 66),(17,some 67),(18,some 68),(19,some 69)]) (by kernel_rfl) (ir:= [0,1,2,3,4,5,6,7,8,9,10,11,12,13,14,15,16,17,18,19]) (by kernel_rfl) ?steps (tl:=#[true,true,true,true,true,true,true,true,true,true,true,true,true,true,true,true,true,true,true,true]) (by kernel_rfl) ?fin
       case steps=>
        refine sC [] rfl (fun wi hx=> ?_) ?_
        ·intro K hK
         go_simp
         exact hK _ _ ⟨.slice (some ⟨gT,0,none⟩) 49152 cl,rfl,rfl,Ext.refl _⟩
        refine sC [] rfl (fun wi hx=> ?_) ?_
        ·intro K hK
         have hX:Ext wr wi:=by exact .trans (.drew (.refl _)) hx
         have cl0:wi.cell? ⟨a12,0,none⟩=some (.int .i64 aA):=((HM2.out.blk (i:=1) rfl).ext hX).cell 0
         have cl1:wi.cell? ⟨a12,1,none⟩=some (.int .i64 aB):=((HM2.out.blk (i:=1) rfl).ext hX).cell 1
         have cl2:wi.cell? ⟨a12,2,none⟩=some (.slice qz n cz):=((HM2.out.blk (i:=1) rfl).ext hX).cell 2
         go_simp
         exact hK _ _ ⟨.agg #[aA,aB,.slice qz n cz],rfl,rfl,Ext.refl _⟩
        refine sC [] rfl (fun wi hx=> ?_) ?_
        ·intro K hK
         go_simp
         exact hK _ _ ⟨.int .i64 id,rfl,rfl,Ext.refl _⟩
        refine sC [(1,some 51),(2,some 52)] rfl (fun wi hx=> ?_) ?_
        ·intro v1 h1 v2 h2 K hK
         obtain rfl:=h1
         obtain rfl:=h2
         have hX:Ext wr wi:=by exact .trans (.drew (.refl _)) hx
         clear b1 b2 b3 b4 hdb1 hdb2
         have HH:=xQ (HFi.out zs qz cz C2 wi ((HM2.out.adv hX).sl (i:=0) rfl) Z1.out Z5.out)
         go_wp2_with fail
         refine(HH.out).mono ?_
         rintro e w5 ⟨rfl,hx5⟩
         go_simp
         exact hK _ _ ⟨.int .i64 (C2:Int),rfl,rfl,hx5⟩
        refine sC [(3,some 53)] rfl (fun wi hx=> ?_) ?_
        ·intro v3 h3 K hK
         obtain rfl:=h3
         have hwr:IntKind.i64.wrap ((C2:Int)*4096)=(C2:Int)*4096:=IntWalk.i64_in _ (by omega)
         go_simp
         exact hK _ _ ⟨.int .i64 ((C2:Int)*4096),rfl,rfl,Ext.refl _⟩
        refine sC [] rfl (fun wi hx=> ?_) ?_
        ·intro K hK
         have hX:Ext wr wi:=by exact .trans (.drew (.refl _)) hx
         have cl0:wi.cell? ⟨a12,0,none⟩=some (.int .i64 aA):=((HM2.out.blk (i:=1) rfl).ext hX).cell 0
         have cl1:wi.cell? ⟨a12,1,none⟩=some (.int .i64 aB):=((HM2.out.blk (i:=1) rfl).ext hX).cell 1
         have cl2:wi.cell? ⟨a12,2,none⟩=some (.slice qz n cz):=((HM2.out.blk (i:=1) rfl).ext hX).cell 2
         go_simp
         exact hK _ _ ⟨.agg #[aA,aB,.slice qz n cz],rfl,rfl,Ext.refl _⟩
        refine sC [(5,some 55)] rfl (fun wi hx=> ?_) ?_
        ·intro v5 h5 K hK
         obtain rfl:=h5
         have hX:Ext wr wi:=by exact .trans (.drew (.refl _)) hx
         clear b1 b2 b3 b4 hdb1 hdb2
         have HH:=xQ (HFs.out zs qz cz wi ((HM2.out.adv hX).sl (i:=0) rfl) Z1.out)
         rw[Z3.out]at HH
         go_wp2_with fail
         refine(HH.out).mono ?_
         rintro e w5 ⟨rfl,hx5⟩
         go_simp
         exact hK _ _ ⟨.int .i64 (S2:Int),rfl,rfl,hx5⟩
        refine sC [(4,some 54),(6,some 56)] rfl (fun wi hx=> ?_) ?_
        ·intro v4 h4 v6 h6 K hK
         obtain rfl:=h4
         obtain rfl:=h6
         have hw1:=HW1.out
         go_simp
         exact hK _ _ ⟨.int .i64 (V1:Int),rfl,rfl,Ext.refl _⟩
        refine sC [(0,some 50),(7,some 57)] rfl (fun wi hx=> ?_) ?_
        ·intro v0 h0 v7 h7 K hK
         obtain rfl:=h0
         obtain rfl:=h7
         go_simp
         exact hK _ _ ⟨.pointer (some ⟨gT,V1,none⟩),rfl,rfl,Ext.refl _⟩
        refine sC [(8,some 58)] rfl (fun wi hx=> ?_) ?_
        ·intro v8 h8 K hK
         obtain rfl:=h8
         have hX:Ext wr wi:=by exact .trans (.drew (.refl _)) hx
         have cl0:wi.cell? ⟨gT,V1,none⟩=some (.int .i64 dv1):=(hX.cells.1 _ _ hgTw).trans cl1
         go_simp
         exact hK _ _ ⟨.int .i64 dv1,rfl,rfl,Ext.refl _⟩
        refine sC [] rfl (fun wi hx=> ?_) ?_
        ·intro K hK
         go_simp
         exact hK _ _ ⟨.slice (some ⟨gT,0,none⟩) 49152 cl,rfl,rfl,Ext.refl _⟩
        refine sC [] rfl (fun wi hx=> ?_) ?_
        ·intro K hK
         go_simp
         exact hK _ _ ⟨.int .i64 (a:Int),rfl,rfl,Ext.refl _⟩
        refine sC [(11,some 61)] rfl (fun wi hx=> ?_) ?_
        ·intro v11 h11 K hK
         obtain rfl:=h11
         have hwr:IntKind.i64.wrap ((a:Int)*4096)=(a:Int)*4096:=IntWalk.i64_in _ (by omega)
         go_simp
         exact hK _ _ ⟨.int .i64 ((a:Int)*4096),rfl,rfl,Ext.refl _⟩
        refine sC [] rfl (fun wi hx=> ?_) ?_
        ·intro K hK
         have hX:Ext wr wi:=by exact .trans (.drew (.refl _)) hx
         have cl0:wi.cell? ⟨a9,0,none⟩=some (.int .i64 aA):=((HM2.out.blk (i:=3) rfl).ext hX).cell 0
         have cl1:wi.cell? ⟨a9,1,none⟩=some (.int .i64 aB):=((HM2.out.blk (i:=3) rfl).ext hX).cell 1
         have cl2:wi.cell? ⟨a9,2,none⟩=some (.slice q n c9):=((HM2.out.blk (i:=3) rfl).ext hX).cell 2
         go_simp
         exact hK _ _ ⟨.agg #[aA,aB,.slice q n c9],rfl,rfl,Ext.refl _⟩
        refine sC [(13,some 63)] rfl (fun wi hx=> ?_) ?_
        ·intro v13 h13 K hK
         obtain rfl:=h13
         have hX:Ext wr wi:=by exact .trans (.drew (.refl _)) hx
         clear b1 b2 b3 b4 hdb1 hdb2
         have HH:=xQ (HFs.out ys q c9 wi ((HM2.out.adv hX).sl (i:=4) rfl) HW.out.ok)
         rw[←HS1.out]at HH
         go_wp2_with fail
         refine(HH.out).mono ?_
         rintro e w5 ⟨rfl,hx5⟩
         go_simp
         exact hK _ _ ⟨.int .i64 (S1:Int),rfl,rfl,hx5⟩
        refine sC [(12,some 62),(14,some 64)] rfl (fun wi hx=> ?_) ?_
        ·intro v12 h12 v14 h14 K hK
         obtain rfl:=h12
         obtain rfl:=h14
         have hw2:=HW2.out
         go_simp
         exact hK _ _ ⟨.int .i64 (V2:Int),rfl,rfl,Ext.refl _⟩
        refine sC [(10,some 60),(15,some 65)] rfl (fun wi hx=> ?_) ?_
        ·intro v10 h10 v15 h15 K hK
         obtain rfl:=h10
         obtain rfl:=h15
         go_simp
         exact hK _ _ ⟨.pointer (some ⟨gT,V2,none⟩),rfl,rfl,Ext.refl _⟩
        refine sC [(16,some 66)] rfl (fun wi hx=> ?_) ?_
        ·intro v16 h16 K hK
         obtain rfl:=h16
         have hX:Ext wr wi:=by exact .trans (.drew (.refl _)) hx
         have cl0:wi.cell? ⟨gT,V2,none⟩=some (.int .i64 dd):=(hX.cells.1 _ _ hgTw).trans cl2
         go_simp
         exact hK _ _ ⟨.int .i64 dd,rfl,rfl,Ext.refl _⟩
        refine sC [(17,some 67)] rfl (fun wi hx=> ?_) ?_
        ·intro v17 h17 K hK
         obtain rfl:=h17
         have hwr:IntKind.i64.wrap (dd-1)=dd-1:=IntWalk.i64_in _ (by omega)
         go_simp
         exact hK _ _ ⟨.int .i64 (dd-1),rfl,rfl,Ext.refl _⟩
        refine sC [(9,some 59),(18,some 68)] rfl (fun wi hx=> ?_) StepsL.nil
        ·intro v9 h9 v18 h18 K hK
         obtain rfl:=h9
         obtain rfl:=h18
         have hdec2:(dv1 !=(dd-1))=false:=by rw[HDEC.out];simp
         go_simp
         exact hK _ _ ⟨.bool false,rfl,rfl,Ext.refl _⟩
       case fin=>
        intro wi hx v0 h0 v1 h1 v2 h2 v3 h3 v4 h4 v5 h5 v6 h6 v7 h7 v8 h8 v9 h9 v10 h10 v11 h11 v12 h12 v13 h13 v14 h14 v15 h15 v16 h16 v17 h17 v18 h18 v19 h19
        obtain rfl:=h0
        obtain rfl:=h1
        obtain rfl:=h2
        obtain rfl:=h3
        obtain rfl:=h4
        obtain rfl:=h5
        obtain rfl:=h6
        obtain rfl:=h7
        obtain rfl:=h8
        obtain rfl:=h9
        obtain rfl:=h10
        obtain rfl:=h11
        obtain rfl:=h12
        obtain rfl:=h13
        obtain rfl:=h14
        obtain rfl:=h15
        obtain rfl:=h16
        obtain rfl:=h17
        obtain rfl:=h18
        obtain rfl:=h19
        refine wpAny_done (by kernel_rfl) ?_ _
        try simp only[Act.put,List.setIfInBounds_toArray,List.set_cons_zero,List.set_cons_succ]
        have hX:Ext wr wi:=hx.of_drew
        have M21:=xQ (HM2.out.adv hX)
        clear HM2
        have lt21_1:=M21.out.hi 1
        have lt21_3:=M21.out.hi 3
        have lt21_7:=M21.out.hi 7
        clear hx hX cl1 cl2 b1 b2 b3 b4 hdb1 hdb2
        have hnx:=HNX.out (f,t) HES'.out
        have hej:=HEJ.out
        rw[HES'.out]at hej
        have hej':fA aA n (aW D) (c,aN xs) j=(f,t):=(Option.some.inj hej).symm
        have HEP:=xQ hej'
        have hnx':uO aA aB xs D c id (j+1) zs:=by have:=HZS.out;rw[←this];exact hnx
        have HNX':=xQ hnx'
        clear hnx hnx' hej hej'
        have i1:(0:Int)≤(k:Int):=by omega
        have i3:(k:Int)<(KS:Int):=by omega
        have e0:wi.cell? ⟨gs,k*2,none⟩=some (.int .i64 (f:Int)):=by have:=(M21.out.own (i:=2) rfl).cellAt (k*2) (by omega);rw[this];exact(gE HES'.out).1
        have e1:wi.cell? ⟨gs,k*2+1,none⟩=some (.int .i64 (t:Int)):=by have:=(M21.out.own (i:=2) rfl).cellAt (k*2+1) (by omega);rw[this];exact(gE HES'.out).2
        go_wp2_with (at_builtin;refine bX oN rfl _ _ rfl ((M21.out).adv ((Ext.refl _).alloc (.cells #[(f:Int),(t:Int)] TSL))) 5 rfl rfl (aM ((f:Int),(t:Int))) rfl (dM _ _ _ 1 2 _ (by first|rfl|simp) (by first|rfl|simp) (by simp[maxLen])) (kW _ _) (by omega) ?_;intro q7 c7 w6 M6;(have M7:=xQ (show Mem w w6 [aJ w.heap.size TI 1 (qz) (n) (cz) (ivs (zs)),aL w.heap.size (a12) TH3 #[aA,aB,.slice qz n cz],aJ w.heap.size TSL 2 (some ⟨gs,0,none⟩) (KS) (cs) ((es.map gQ).flatMap aM),aL w.heap.size (a9) TH3 #[aA,aB,.slice q n c9],aJ w.heap.size TI 1 (q) (n) (c9) (ivs ys),aJ w.heap.size TSL 2 (q7) (j+1) (c7) ((lK aA n (aW D) (c,aN xs) (j+1)).flatMap aM),aJ w.heap.size TI 1 (some ⟨gT,0,none⟩) (49152) (cl) (ivs D),aL w.heap.size (w.heap.size) TH3 #[aA,aB,.slice p n cap]]from by rw[tK,List.flatMap_append,HEP.out];exact M6));clear M6 e0 e1 M21 lt21_1 lt21_3 lt21_7;(have lt30_1:a12<w6.heap.size:=(M7.out.lt (i:=1) rfl rfl).2);(have lt30_3:a9<w6.heap.size:=(M7.out.lt (i:=3) rfl rfl).2);(have lt30_7:w.heap.size<w6.heap.size:=(M7.out.lt (i:=7) rfl rfl).2);(have ne0_1a: ¬(a12=a9):=M7.out.ne (i:=1) (j:=3) (by omega) rfl rfl rfl rfl);(have ne0_1b: ¬(a9=a12):=fun h=>ne0_1a h.symm);(obtain⟨x0,x1,x2⟩:=(M7.out.blk (i:=1) rfl).tri);(obtain⟨v0,vf0,v1,vf1,v2,vf2⟩:=(M7.out.blk (i:=3) rfl).trif))
        have M31:=xQ (((((((M7.out).st 3 0 (.int .i64 aA))).st 3 1 (.int .i64 aB))).st 3 2 (.slice qz n cz)))
        generalize hwz:World.setCell _ _ _=wz
        rw[hwz]at M31
        clear hwz ne0_1a ne0_1b x0 x1 x2 v0 vf0 v1 vf1 v2 vf2 lt30_1 lt30_3 lt30_7 M7
        have HFF:=xQ (HFi.out zs qz cz C2 wz (M31.out.sl (i:=0) rfl) Z1.out Z5.out)
        refine(HFF.out).mono ?_
        rintro e w32 ⟨rfl,hx32⟩
        have M32:=xQ ((M31.out).adv hx32)
        clear M31
        have lt32_1:=M32.out.hi 1
        have lt32_3:=M32.out.hi 3
        have lt32_7:=M32.out.hi 7
        clear hx32
        have hgs':(gP aA n (aW D) (c,aN xs) (j+1)).1=C2:=by
         have h1:=(hpick.out D HD.out d HDD.out j hlt).2
         rw[h1,HEP.out,HC2.out,HA.out];rfl
        have HGS:=xQ hgs'
        clear hgs'
        go_wp2
        go_roundw
        case rel=>exact⟨j+1,zs,qz,cz,q7,c7,by omega,by rw[HGS.out],rfl,HNX'.out,((M32.out).pick [3,0,5,6,7] (by decide) rfl)⟩
        case measure=>simp[xT];omega
      ·have hdec: ¬dv1=dd-1:=fun h=>hkJ (HMI.out.1 (by omega))
       go_wp2
       refine cS (gl [gEq (.slice (some ⟨gT,0,none⟩) 49152 cl),gEq (.agg #[aA,aB,.slice qz n cz]),gEq id,gEq (C2:Int),gEq ((C2:Int)*4096:Int),gEq (.agg #[aA,aB,.slice qz n cz]),gEq (S2:Int),gEq (V1:Int),gEq (.pointer (some ⟨gT,V1,none⟩)),gEq dv1,gEq (.slice (some ⟨gT,0,none⟩) 49152 cl),gEq (a:Int),gEq ((a:Int)*4096:Int),gEq (.agg #[aA,aB,.slice q n c9]),gEq (S1:Int),gEq (V2:Int),gEq (.pointer (some ⟨gT,V2,none⟩)),gEq dd,gEq (dd-1:Int),gEq (.bool true)]) 20 (by kernel_rfl) rfl (by kernel_rfl) (by kernel_rfl) (by kernel_rfl) (eG (aK (aH _) (aK (aH _) (aK (aH _) (aK (aH _) (aK (aH _) (aK (aH _) (aK (aH _) (aK (aH _) (aK (aH _) (aK (aH _) (aK (aH _) (aK (aH _) (aK (aH _) (aK (aH _) (aK (aH _) (aK (aH _) (aK (aH _) (aK (aH _) (aK (aH _) (aK (aH _) (fK)))))))))))))))))))))) (k:=20) (by kernel_rfl) (by decide) (ls:= [(0,some 50),(1,some 51),(2,some 52),(3,some 53),(4,some 54),(5,some 55),(6,some 56),(7,some 57),(8,some 58),(9,some 59),(10,some 60),(11,some 61),(12,some 62),(13,some 63),(14,some 64),(15,some 65),(16,some 66),(17,some 67),(18,some 68),(19,some 69)]) (by kernel_rfl) (ir:= [0,1,2,3,4,5,6,7,8,9,10,11,12,13,14,15,16,17,18,19]) (by kernel_rfl) ?steps (tl:=#[true,true,true,true,true,true,true,true,true,true,true,true,true,true,true,true,true,true,true,true]) (by kernel_rfl) ?fin
       case steps=>
        refine sC [] rfl (fun wi hx=> ?_) ?_
        ·intro K hK
         go_simp
         exact hK _ _ ⟨.slice (some ⟨gT,0,none⟩) 49152 cl,rfl,rfl,Ext.refl _⟩
        refine sC [] rfl (fun wi hx=> ?_) ?_
        ·intro K hK
         have hX:Ext wr wi:=by exact .trans (.drew (.refl _)) hx
         have cl0:wi.cell? ⟨a12,0,none⟩=some (.int .i64 aA):=((HM2.out.blk (i:=1) rfl).ext hX).cell 0
         have cl1:wi.cell? ⟨a12,1,none⟩=some (.int .i64 aB):=((HM2.out.blk (i:=1) rfl).ext hX).cell 1
         have cl2:wi.cell? ⟨a12,2,none⟩=some (.slice qz n cz):=((HM2.out.blk (i:=1) rfl).ext hX).cell 2
         go_simp
         exact hK _ _ ⟨.agg #[aA,aB,.slice qz n cz],rfl,rfl,Ext.refl _⟩
        refine sC [] rfl (fun wi hx=> ?_) ?_
        ·intro K hK
         go_simp
         exact hK _ _ ⟨.int .i64 id,rfl,rfl,Ext.refl _⟩
        refine sC [(1,some 51),(2,some 52)] rfl (fun wi hx=> ?_) ?_
        ·intro v1 h1 v2 h2 K hK
         obtain rfl:=h1
         obtain rfl:=h2
         have hX:Ext wr wi:=by exact .trans (.drew (.refl _)) hx
         clear b1 b2 b3 b4 hdb1 hdb2
         have HH:=xQ (HFi.out zs qz cz C2 wi ((HM2.out.adv hX).sl (i:=0) rfl) Z1.out Z5.out)
         go_wp2_with fail
         refine(HH.out).mono ?_
         rintro e w5 ⟨rfl,hx5⟩
         go_simp
         exact hK _ _ ⟨.int .i64 (C2:Int),rfl,rfl,hx5⟩
        refine sC [(3,some 53)] rfl (fun wi hx=> ?_) ?_
        ·intro v3 h3 K hK
         obtain rfl:=h3
         have hwr:IntKind.i64.wrap ((C2:Int)*4096)=(C2:Int)*4096:=IntWalk.i64_in _ (by omega)
         go_simp
         exact hK _ _ ⟨.int .i64 ((C2:Int)*4096),rfl,rfl,Ext.refl _⟩
        refine sC [] rfl (fun wi hx=> ?_) ?_
        ·intro K hK
         have hX:Ext wr wi:=by exact .trans (.drew (.refl _)) hx
         have cl0:wi.cell? ⟨a12,0,none⟩=some (.int .i64 aA):=((HM2.out.blk (i:=1) rfl).ext hX).cell 0
         have cl1:wi.cell? ⟨a12,1,none⟩=some (.int .i64 aB):=((HM2.out.blk (i:=1) rfl).ext hX).cell 1
         have cl2:wi.cell? ⟨a12,2,none⟩=some (.slice qz n cz):=((HM2.out.blk (i:=1) rfl).ext hX).cell 2
         go_simp
         exact hK _ _ ⟨.agg #[aA,aB,.slice qz n cz],rfl,rfl,Ext.refl _⟩
        refine sC [(5,some 55)] rfl (fun wi hx=> ?_) ?_
        ·intro v5 h5 K hK
         obtain rfl:=h5
         have hX:Ext wr wi:=by exact .trans (.drew (.refl _)) hx
         clear b1 b2 b3 b4 hdb1 hdb2
         have HH:=xQ (HFs.out zs qz cz wi ((HM2.out.adv hX).sl (i:=0) rfl) Z1.out)
         rw[Z3.out]at HH
         go_wp2_with fail
         refine(HH.out).mono ?_
         rintro e w5 ⟨rfl,hx5⟩
         go_simp
         exact hK _ _ ⟨.int .i64 (S2:Int),rfl,rfl,hx5⟩
        refine sC [(4,some 54),(6,some 56)] rfl (fun wi hx=> ?_) ?_
        ·intro v4 h4 v6 h6 K hK
         obtain rfl:=h4
         obtain rfl:=h6
         have hw1:=HW1.out
         go_simp
         exact hK _ _ ⟨.int .i64 (V1:Int),rfl,rfl,Ext.refl _⟩
        refine sC [(0,some 50),(7,some 57)] rfl (fun wi hx=> ?_) ?_
        ·intro v0 h0 v7 h7 K hK
         obtain rfl:=h0
         obtain rfl:=h7
         go_simp
         exact hK _ _ ⟨.pointer (some ⟨gT,V1,none⟩),rfl,rfl,Ext.refl _⟩
        refine sC [(8,some 58)] rfl (fun wi hx=> ?_) ?_
        ·intro v8 h8 K hK
         obtain rfl:=h8
         have hX:Ext wr wi:=by exact .trans (.drew (.refl _)) hx
         have cl0:wi.cell? ⟨gT,V1,none⟩=some (.int .i64 dv1):=(hX.cells.1 _ _ hgTw).trans cl1
         go_simp
         exact hK _ _ ⟨.int .i64 dv1,rfl,rfl,Ext.refl _⟩
        refine sC [] rfl (fun wi hx=> ?_) ?_
        ·intro K hK
         go_simp
         exact hK _ _ ⟨.slice (some ⟨gT,0,none⟩) 49152 cl,rfl,rfl,Ext.refl _⟩
        refine sC [] rfl (fun wi hx=> ?_) ?_
        ·intro K hK
         go_simp
         exact hK _ _ ⟨.int .i64 (a:Int),rfl,rfl,Ext.refl _⟩
        refine sC [(11,some 61)] rfl (fun wi hx=> ?_) ?_
        ·intro v11 h11 K hK
         obtain rfl:=h11
         have hwr:IntKind.i64.wrap ((a:Int)*4096)=(a:Int)*4096:=IntWalk.i64_in _ (by omega)
         go_simp
         exact hK _ _ ⟨.int .i64 ((a:Int)*4096),rfl,rfl,Ext.refl _⟩
        refine sC [] rfl (fun wi hx=> ?_) ?_
        ·intro K hK
         have hX:Ext wr wi:=by exact .trans (.drew (.refl _)) hx
         have cl0:wi.cell? ⟨a9,0,none⟩=some (.int .i64 aA):=((HM2.out.blk (i:=3) rfl).ext hX).cell 0
         have cl1:wi.cell? ⟨a9,1,none⟩=some (.int .i64 aB):=((HM2.out.blk (i:=3) rfl).ext hX).cell 1
         have cl2:wi.cell? ⟨a9,2,none⟩=some (.slice q n c9):=((HM2.out.blk (i:=3) rfl).ext hX).cell 2
         go_simp
         exact hK _ _ ⟨.agg #[aA,aB,.slice q n c9],rfl,rfl,Ext.refl _⟩
        refine sC [(13,some 63)] rfl (fun wi hx=> ?_) ?_
        ·intro v13 h13 K hK
         obtain rfl:=h13
         have hX:Ext wr wi:=by exact .trans (.drew (.refl _)) hx
         clear b1 b2 b3 b4 hdb1 hdb2
         have HH:=xQ (HFs.out ys q c9 wi ((HM2.out.adv hX).sl (i:=4) rfl) HW.out.ok)
         rw[←HS1.out]at HH
         go_wp2_with fail
         refine(HH.out).mono ?_
         rintro e w5 ⟨rfl,hx5⟩
         go_simp
         exact hK _ _ ⟨.int .i64 (S1:Int),rfl,rfl,hx5⟩
        refine sC [(12,some 62),(14,some 64)] rfl (fun wi hx=> ?_) ?_
        ·intro v12 h12 v14 h14 K hK
         obtain rfl:=h12
         obtain rfl:=h14
         have hw2:=HW2.out
         go_simp
         exact hK _ _ ⟨.int .i64 (V2:Int),rfl,rfl,Ext.refl _⟩
        refine sC [(10,some 60),(15,some 65)] rfl (fun wi hx=> ?_) ?_
        ·intro v10 h10 v15 h15 K hK
         obtain rfl:=h10
         obtain rfl:=h15
         go_simp
         exact hK _ _ ⟨.pointer (some ⟨gT,V2,none⟩),rfl,rfl,Ext.refl _⟩
        refine sC [(16,some 66)] rfl (fun wi hx=> ?_) ?_
        ·intro v16 h16 K hK
         obtain rfl:=h16
         have hX:Ext wr wi:=by exact .trans (.drew (.refl _)) hx
         have cl0:wi.cell? ⟨gT,V2,none⟩=some (.int .i64 dd):=(hX.cells.1 _ _ hgTw).trans cl2
         go_simp
         exact hK _ _ ⟨.int .i64 dd,rfl,rfl,Ext.refl _⟩
        refine sC [(17,some 67)] rfl (fun wi hx=> ?_) ?_
        ·intro v17 h17 K hK
         obtain rfl:=h17
         have hwr:IntKind.i64.wrap (dd-1)=dd-1:=IntWalk.i64_in _ (by omega)
         go_simp
         exact hK _ _ ⟨.int .i64 (dd-1),rfl,rfl,Ext.refl _⟩
        refine sC [(9,some 59),(18,some 68)] rfl (fun wi hx=> ?_) StepsL.nil
        ·intro v9 h9 v18 h18 K hK
         obtain rfl:=h9
         obtain rfl:=h18
         have hdec2:(dv1 !=(dd-1))=true:=by simp[hdec]
         go_simp
         exact hK _ _ ⟨.bool true,rfl,rfl,Ext.refl _⟩
       case fin=>
        intro wi hx v0 h0 v1 h1 v2 h2 v3 h3 v4 h4 v5 h5 v6 h6 v7 h7 v8 h8 v9 h9 v10 h10 v11 h11 v12 h12 v13 h13 v14 h14 v15 h15 v16 h16 v17 h17 v18 h18 v19 h19
        obtain rfl:=h0
        obtain rfl:=h1
        obtain rfl:=h2
        obtain rfl:=h3
        obtain rfl:=h4
        obtain rfl:=h5
        obtain rfl:=h6
        obtain rfl:=h7
        obtain rfl:=h8
        obtain rfl:=h9
        obtain rfl:=h10
        obtain rfl:=h11
        obtain rfl:=h12
        obtain rfl:=h13
        obtain rfl:=h14
        obtain rfl:=h15
        obtain rfl:=h16
        obtain rfl:=h17
        obtain rfl:=h18
        obtain rfl:=h19
        refine wpAny_done (by kernel_rfl) ?_ _
        try simp only[Act.put,List.setIfInBounds_toArray,List.set_cons_zero,List.set_cons_succ]
        have hX:Ext wr wi:=hx.of_drew
        have M21:=xQ (HM2.out.adv hX)
        clear HM2
        have lt21_1:=M21.out.hi 1
        have lt21_3:=M21.out.hi 3
        have lt21_7:=M21.out.hi 7
        clear hx hX cl1 cl2 hgTw b1 b2 b3 b4 hdb1 hdb2
        obtain⟨f2,t2,he2⟩: ∃f t,es[k+1]? =some (f,t):=⟨_,_,List.getElem?_eq_getElem (by rw[←HK.out];omega)⟩
        have HE2:=xQ he2
        have i1:(0:Int)≤(k:Int)+1:=by omega
        have i3:(k:Int)+1<(KS:Int):=by omega
        have i4:((k:Int)+1).toNat=k+1:=by omega
        have d0:wi.cell? ⟨gs,(k+1)*2,none⟩=some (.int .i64 (f2:Int)):=by have:=(M21.out.own (i:=2) rfl).cellAt ((k+1)*2) (by omega);rw[this];exact(gE he2).1
        have d1:wi.cell? ⟨gs,(k+1)*2+1,none⟩=some (.int .i64 (t2:Int)):=by have:=(M21.out.own (i:=2) rfl).cellAt ((k+1)*2+1) (by omega);rw[this];exact(gE he2).2
        have hgs:gs<wi.heap.size:=(M21.out.lt (i:=2) rfl rfl).2
        clear he2
        have HSD:=xQ (fun w' (hx:Ext wi w')=>hsd.out ys q c9 f2 t2 w' ((M21.out.sl (i:=4) rfl).ext hx) HW.out.ok hyl)
        obtain⟨v0,v1,v2⟩:=(M21.out.blk (i:=3) rfl).tri
        have n1: ¬(a9=wi.heap.size):=by have:=(M21.out.lt (i:=3) rfl rfl).2;omega
        have n2: ¬(wi.heap.size=a9):=fun h=>n1 h.symm
        have n3: ¬(gs=wi.heap.size):=by omega
        have n4: ¬(wi.heap.size=gs):=fun h=>n3 h.symm
        go_upto_region 15 with fail
        go_cut [14,15] (fun s1 s2 wx=> ∃(a:Nat) (q5:OA) (c5:Nat),s1= .pointer (some ⟨a,0,none⟩)∧Ext wi wx∧wi.heap.size≤a∧Blk wx a TH3 #[aA,aB,.slice q5 n c5]∧wx.ownsRow wi.heap.size TI 1 (.slice q5 n c5) n (ivs (bE aA aB ys ((f2:Nat):Int) ((t2:Nat):Int))))
        case first=>
         go_region_held3 (fun w'=>w'.cell? ⟨a9,0,none⟩=some (.int .i64 aA)∧w'.cell? ⟨a9,1,none⟩=some (.int .i64 aB)∧w'.cell? ⟨a9,2,none⟩=some (.slice q n c9)∧w'.cell? ⟨gs,(k+1)*2,none⟩=some (.int .i64 (f2:Int))∧w'.cell? ⟨gs,(k+1)*2+1,none⟩=some (.int .i64 (t2:Int)))
          (first|(refine⟨?_,?_,?_,?_,?_⟩<;>assumption)|go_keep)
          ((go_at_call 78
            refine(HSD.out _ xE).mono ?_
            rintro e w5 ⟨q5,c5,rfl,o5,hx5⟩
            have hy5:Ext wi w5:=xE
            have g0:w5.cell? ⟨a9,0,none⟩=some (.int .i64 aA):=((M21.out.blk (i:=3) rfl).ext hy5).cell 0
            have g1:w5.cell? ⟨a9,1,none⟩=some (.int .i64 aB):=((M21.out.blk (i:=3) rfl).ext hy5).cell 1
            have g2:w5.cell? ⟨a9,2,none⟩=some (.slice q n c9):=((M21.out.blk (i:=3) rfl).ext hy5).cell 2
            have g3:w5.cell? ⟨gs,(k+1)*2,none⟩=some (.int .i64 (f2:Int)):=(hy5.cells.1 _ _ hgs).trans d0
            have g4:w5.cell? ⟨gs,(k+1)*2+1,none⟩=some (.int .i64 (t2:Int)):=(hy5.cells.1 _ _ hgs).trans d1
            first
             |(have hz5:Ext (wi.alloc (.cells #[(),(),((),())] TH3)) w5:=hx5
               have BB:=(Blk.new wi TH3 #[(),(),((),())]).ext hz5
               have zc0:w5.cell? ⟨wi.heap.size,0,none⟩=some (.int .i64 0):=BB.cell 0
               have zc1:w5.cell? ⟨wi.heap.size,1,none⟩=some (.int .i64 0):=BB.cell 1
               have zc2:w5.cell? ⟨wi.heap.size,2,none⟩=some (.slice none 0 0):=BB.cell 2
               have zf0:w5.frozen? ⟨wi.heap.size,0,none⟩=false:=BB.frozen 0
               have zf1:w5.frozen? ⟨wi.heap.size,1,none⟩=false:=BB.frozen 1
               have zf2:w5.frozen? ⟨wi.heap.size,2,none⟩=false:=BB.frozen 2)
             |(have hz5:Ext (wi.alloc (.cells #[(),(),((),())] TH3)) w5:=hx5.of_drew
               have BB:=(Blk.new wi TH3 #[(),(),((),())]).ext hz5
               have zc0:w5.cell? ⟨wi.heap.size,0,none⟩=some (.int .i64 0):=BB.cell 0
               have zc1:w5.cell? ⟨wi.heap.size,1,none⟩=some (.int .i64 0):=BB.cell 1
               have zc2:w5.cell? ⟨wi.heap.size,2,none⟩=some (.slice none 0 0):=BB.cell 2
               have zf0:w5.frozen? ⟨wi.heap.size,0,none⟩=false:=BB.frozen 0
               have zf1:w5.frozen? ⟨wi.heap.size,1,none⟩=false:=BB.frozen 1
               have zf2:w5.frozen? ⟨wi.heap.size,2,none⟩=false:=BB.frozen 2)
             |skip))
         ·go_wp2_with fail
          go_meet
          exact⟨w5.heap.size,q5,c5,rfl,by exact .alloc hy5 _,by have:=hy5.sz;omega,Blk.new _ _ _,bG (by exact o5.alloc _) (by simp)⟩
         ·have hR:ExtR wi.heap.size w5 _:=(((ExtR.refl wi.heap.size w5).setCell (p:=⟨wi.heap.size,0,none⟩) (.inl rfl) (.int .i64 aA)).setCell (p:=⟨wi.heap.size,1,none⟩) (.inl rfl) (.int .i64 aB)).setCell (p:=⟨wi.heap.size,2,none⟩) (.inl rfl) (.slice q5 n c5)
          have hY:=((BB.set 0 (.int .i64 aA)).set 1 (.int .i64 aB)).set 2 (.slice q5 n c5)
          simp only[List.setIfInBounds_toArray,List.set_cons_zero,List.set_cons_succ]at hY
          go_wp2_with fail
          go_meet
          exact⟨wi.heap.size,q5,c5,rfl,ExtR.new hy5 hR (Nat.le_refl _),Nat.le_refl _,hY,bG (o5.kept hR (.inr (cY o5 BB (by decide)))) (by simp)⟩
        case rest=>
         clear v0 v1 v2 n1 n2 n3 n4 d0 d1
         obtain⟨a14,q8,c8,rfl,hE5,ha5,hBa,ho5⟩:=hcut
         have M40:=xQ (M21.out.blkOwn hE5 hBa ha5 ho5 (Nat.le_refl _) (by decide))
         clear hE5 ha5 hBa ho5 HSD M21 lt21_1 lt21_3 lt21_7
         have lt40_1:=M40.out.hi 1
         have lt40_3:=M40.out.hi 3
         have lt40_5:=M40.out.hi 5
         have lt40_9:=M40.out.hi 9
         have ne0_1a: ¬(a14=a12):=M40.out.ne (i:=1) (j:=3) (by omega) rfl rfl rfl rfl
         have ne0_1b: ¬(a12=a14):=fun h=>ne0_1a h.symm
         obtain⟨x0,x1,x2⟩:=(M40.out.blk (i:=1) rfl).tri
         obtain⟨v0,vf0,v1,vf1,v2,vf2⟩:=(M40.out.blk (i:=3) rfl).trif
         go_wp2
         have M41:=xQ (((((((M40.out).st 3 0 (.int .i64 aA))).st 3 1 (.int .i64 aB))).st 3 2 (.slice q8 n c8)))
         generalize hwz:World.setCell _ _ _=wz
         rw[hwz]at M41
         clear hwz ne0_1a ne0_1b x0 x1 x2 v0 vf0 v1 vf1 v2 vf2 lt40_1 lt40_3 lt40_5 lt40_9 M40
         go_roundw
         case rel=>exact⟨k+1,f2,t2,q8,c8,by omega,by go_num,HE2.out,((M41.out).pick [0,3,4,5,6,7,8,9] (by decide) rfl)⟩
         case measure=>simp[intOf];omega
   ·obtain rfl:d=j:=by omega
    have ha0:a=0:=hgp3.2 rfl
    have t0:decide ((0:Int)<(a:Int))=false:=by simp;omega
    have hE:=xQ HM.out.ext
    have hO:=xQ (HM.out.own (i:=2) rfl)
    subst ha0
    go_wp2
    rw[hyes.out]
    exact bodyPost_ret (v:= .tuple #[.slice q6 d lc,.bool true]) (by simp[results,Tryz.results123,go_sem, *]) rfl ⟨q6,lc,by rw[lM],by rw[lM];exact hO.out,hE.out⟩
theorem tH (aA aB id:Int)(p:OA)(n cap:Nat)(xs:List Int)(w:World)(hS:Sl w p n cap 1 (ivs xs))(hok:aP aA aB xs=true){c:Nat}(hid0:1≤id)(hc:xs[c]? =some id):
  Calls Tryz.prog 123 #[aI aA aB p n cap,id] w (iD (dD aA xs c) w):=by
 have hl:=hS.ilen
 subst hl
 obtain⟨g1,g2,g3,g4,g5,g6,g7⟩:=bR (cF hok)
 have h0:id≠0:=by omega
 have hpt:=jA hc h0
 have hpow:(2:Nat) ^ xs.length≤4096:=Nat.le_trans (Nat.pow_le_pow_right (by omega) g6) (by decide)
 refine aFm aA aB id p xs.length cap c xs w g5 g6 hok rfl h0 hc hpt.car (fun zs hz=> ?_) (fun D hD=>sO hok hc h0 hD) (fun D hD=> ?_) (fun D hD d hd j hj=> ?_) (fun D hD d hd j hj ys hw=>aEy hok hc h0 hD hd hj hw) (fun ys hy hyl f t hm=> ?_) (fun ys q c9 f t w' hs hy hyl=> ?_)
  (fun D hD d hd j hj=>⟨trivial,(iR g5 g6 hD hpt hd hj).2.2⟩) (fun w' hx=> ?_) (fun w' hx=>rW aA aB p xs.length cap xs w' (hS.ext hx) hok) (fun w' hx=> ?_) (fun w' hx=>eU aA aB p xs.length cap xs w' (by omega) (hS.ext hx)) (fun zs q c9 C2 w' hs hz hC=> ?_) (fun zs q c9 w' hs hz=>rW aA aB q xs.length c9 zs w' hs hz)
 ·have:=lC zs;rw[hz]at this;omega
 ·obtain⟨n1,n2,n3⟩:=pS hok hc h0 hD
  by_cases hf:bI xs= []
  ·by_cases hc0:c=0
   ·rw[n2 hc0];decide
   ·have:=n3 hf hc0;omega
  ·exact(n1 hf).2
 ·obtain⟨a,b⟩:=iA g5 g6 hD hpt hd j hj
  exact⟨a.car,b,aGx g5 g6 hD hpt hd hj,Nat.lt_of_lt_of_le a.set hpow⟩
 ·rw[←hyl]at hm
  obtain⟨m1,m2,m3,m4⟩:=pQ hy hm
  exact⟨fZ _ _ hy,by rw[cN,hyl],m3,m4⟩
 ·have:=jW aA aB (f:Int) (t:Int) q xs.length c9 ys w' hs hy
  unfold cJ at this
  rw[cN,hyl]at this
  exact this
 ·have:=pB aA aB id p xs.length cap xs w' (hS.ext hx)
  rwa[uF hok hid0 hc]at this
 ·refine(aBb aA aB p xs.length cap xs w' (hS.ext hx) hok).mono fun e w'' h=> ?_
  obtain⟨D,hD,q,c',h1,h2,h3⟩:=h
  have hl:=hD.len
  rw[hl]at h1 h2
  exact⟨D,hD,q,c',h1,h2,h3⟩
 ·have:=pB aA aB id q xs.length c9 zs w' hs
  rwa[uF hz hid0 hC]at this
end Go.Proofs.YtgnkoffndhmhpaaGreatDoor
