/-
  Texts of this proof, packed (@packed).
-/
import Derived.Test.YtgnkoffndhmhpaaGreatDoorP5
import Derived.Test.YtgnkoffndhmhpaaGreatDoorP13
import Derived.Test.YtgnkoffndhmhpaaGreatDoorP18
import Derived.Test.YtgnkoffndhmhpaaGreatDoorP20
namespace Go.Proofs.YtgnkoffndhmhpaaGreatDoor
open Go.RowKit
set_option linter.unusedVariables false
set_option linter.unusedSimpArgs false
set_option maxHeartbeats 8000000
set_option maxRecDepth 100000
section
variable {w0 w w':World} {L:List Item}
theorem Mem.own2 {b n c sz n2 c2 sz2:Nat}{e e2:TypeId}{q q2:OA}{xs xs2:List Value}(h:Mem w0 w L)(hx:Ext w w')(ho1:w'.ownsRow b e sz (.slice q n c) n xs)(ho2:w'.ownsRow b e2 sz2 (.slice q2 n2 c2) n2 xs2)(hb:w.heap.size≤b)(ht:e≠e2):
  Mem w0 w' (aJ w0.heap.size e sz q n c xs::aJ w0.heap.size e2 sz2 q2 n2 c2 xs2::L):=by
 refine(h.ownNew hx ho2 hb).cons (eX _ _ _ _ _ _ _) (fR ho1 (Nat.le_trans h.ext.sz hb)) (fun g' hg' j hj e'=> ?_)
 replace hg':(Value.slice q n c).ownBlock=Option.some g':=hg'
 have h1:=(World.ownsRow.lt ho1 g' hg').1
 rcases List.mem_cons.1 hj with rfl|hj
 ·replace e':(Value.slice q2 n2 c2).ownBlock=Option.some g':=e'
  rcases ho1.2 with⟨h2,_⟩|⟨g2,cap',cur,h2,_,h3,_⟩
  ·rw[h2]at hg';cases hg'
  ·rcases ho2.2 with⟨k2,_⟩|⟨g3,cap3,cur3,k2,_,k3,_⟩
   ·rw[k2]at e';cases e'
   ·rw[h2]at hg';rw[k2]at e'
    injection hg' with hg';injection e' with e'
    have d:g2=g':=hg'
    have a:g3=g':=e'
    subst d;subst a
    rw[h3]at k3
    injection k3 with k3;injection k3 with _ k3
    exact ht k3
 ·have h2:=((h.good j hj).lt w (h.ok j hj) g' e').2
  omega
end
theorem xS (aA aB free step aD aG aC aF id amt:Int)(p:OA)(n cap:Nat)(q:OA)(m c2:Nat)(xs:List Int)(vs:List aP)(w:World)
  (HL:xC 60 #[.agg #[aA,aB,.slice p n cap,free,step,aD,aG,aC,aF,.slice q m c2]] w fun w' e w''=> ∃p' cap' q' c2',e= .returned (.agg #[aA,aB,.slice p' n cap',free,step,aD,aG,aC,aF,.slice q' m c2'])∧w''.ownsRow w'.heap.size TI 1 (.slice p' n cap') n (ivs xs)∧w''.ownsRow w'.heap.size TV 4 (.slice q' m c2') m (vs.flatMap aE)∧Ext w' w'')
  (HF:xC 75 #[.agg #[aA,aB,.slice p n cap,free,step,aD,aG,aC,aF,.slice q m c2],id] w fun w' e w''=>e= .returned (.int .i64 (-1))∧Ext w' w''):
  Calls Tryz.prog 73 #[.agg #[aA,aB,.slice p n cap,free,step,aD,aG,aC,aF,.slice q m c2],id,amt] w fun e w'=> ∃p' cap' q' c2' b,e= .returned (.tuple #[.agg #[aA,aB,.slice p' n cap',free,step,aD,aG,aC,aF,.slice q' m c2'],b,.bool false])∧Ext w w':=by
 go_enter Tryz.func73,Tryz.ntmps73
 go_wp2_with fail
 refine(HL _ (((Mem.start w).bn aL #[aA,aB,.slice p n cap,free,step,aD,aG,aC,aF,.slice q m c2] (w.heap.size)).bn aL #[(),(),((),()),(),(),(),(),(),(),((),())] (w.heap.size+1)).ext).mono ?_
 rintro e w1 ⟨p1,a,q1,c,rfl,s,r,u⟩
 have M1:=((((Mem.start w).bn aL #[aA,aB,.slice p n cap,free,step,aD,aG,aC,aF,.slice q m c2] (w.heap.size)).bn aL #[(),(),((),()),(),(),(),(),(),(),((),())] (w.heap.size+1)).own2 u s r (Nat.le_refl _) (by decide))
 have j:=M1.hi 2
 have h:=M1.hi 3
 clear u s r HL
 obtain⟨an,ap,ai,aa,ah,z,al,ar,ab,ad⟩:=(M1.bk 3).ten
 go_wp2_with fail
 clear an ap ai aa ah z al ar ab ad
 refine(HF _ (M1.bn aL #[aA,aB,.slice p1 n a,free,step,aD,aG,aC,aF,.slice q1 m c] (w1.heap.size)).ext).mono ?_
 rintro e w2 ⟨rfl,o⟩
 have M2:=((M1.bn aL #[aA,aB,.slice p1 n a,free,step,aD,aG,aC,aF,.slice q1 m c] (w1.heap.size)).adv o)
 clear M1 j h o HF
 have g:=M2.hi 0
 have k:=M2.hi 3
 have l:=M2.hi 4
 obtain⟨d0,d1,d2,d3,d4,d5,d6,d7,d8,d9⟩:=(M2.bk 0).ten
 obtain⟨f0,am,f1,ao,f2,x,f3,af,f4,ae,f5,ak,f6,aq,f7,ag,f8,aj,f9,y⟩:=(M2.bk 3).tenf
 obtain⟨d,f⟩:=M2.nq 0 3
 go_wp2
 clear d0 d1 d2 d3 d4 d5 d6 d7 d8 d9 f0 am f1 ao f2 x f3 af f4 ae f5 ak f6 aq f7 ag f8 aj f9 y d f g k l
 have M3:=(M2.put10 (i:=3) rfl (.int .i64 aA) (.int .i64 aB) (.slice p1 n a) (.int .i64 free) (.int .i64 step) (.int .i64 aD) (.int .i64 aG) (.int .i64 aC) (.int .i64 aF) (.slice q1 m c))
 generalize t:World.setCell _ _ _=wz
 rw[t]at M3
 clear t M2
 obtain⟨y0,y1,y2,y3,y4,y5,y6,y7,y8,y9⟩:=(M3.bk 3).ten
 exact bodyPost_ret (v:= .tuple #[.agg #[aA,aB,.slice p1 n a,free,step,aD,aG,aC,aF,.slice q1 m c],amt,.bool false]) (by simp[results,Tryz.results73,go_sem, *]) rfl ⟨p1,a,q1,c,amt,rfl,M3.ext⟩
theorem wF {vs:List aP}{k:Nat}{a0 a1 a2 a3:Int}(h:vs[k]? =some (a0,a1,a2,a3)) (S1 S2 S3:Int):
  (((vs.flatMap aE).set (k*4+1) (.int .i64 S1)).set (k*4+2) (.int .i64 S2)).set (k*4+3) (.int .i64 S3)=(vs.set k (a0,S1,S2,S3)).flatMap aE:=by
 induction vs generalizing k with
 |nil=>simp at h
 |cons v vs ih=>
  cases k with
  |zero=>
   simp at h
   subst h
   simp[aE]
  |succ k=>
   have h':vs[k]? =some (a0,a1,a2,a3):=by simpa using h
   rw[List.set_cons_succ,List.flatMap_cons,List.flatMap_cons,←ih h']
   simp only[aE,List.cons_append,List.nil_append]
   rw[show(k+1)*4+1=(k*4+1)+1+1+1+1 by omega,show(k+1)*4+2=(k*4+2)+1+1+1+1 by omega,show(k+1)*4+3=(k*4+3)+1+1+1+1 by omega]
   simp only[List.set_cons_succ]
theorem aFe (aA aB free step aD aG aC aF id amt:Int)(p:OA)(n cap b off m c2 k:Nat)(xs:List Int)(vs:List aP)(a0 a1 a2 a3 S1 S2 S3 bk:Int)(okb:Bool)(w:World)(hk:k<m)(hm:m≤1000)(hb:b<w.heap.size)(hbn:0≤aF)(hbn2:aF≤99999)(hok:okb=true→0≤bk∧bk≤amt∧amt≤300)(HV0:Hid (vs[k]? =some (a0,a1,a2,a3)))
  (g1:w.cell? ⟨b,off+k*4+1,none⟩=some (.int .i64 a1)) (g2:w.cell? ⟨b,off+k*4+2,none⟩=some (.int .i64 a2)) (g3:w.cell? ⟨b,off+k*4+3,none⟩=some (.int .i64 a3))
  (HL:xC 60 #[.agg #[aA,aB,.slice p n cap,free,step,aD,aG,aC,aF,.slice (some ⟨b,off,none⟩) m c2]] w fun w' e w''=> ∃p' cap' q' c2',e= .returned (.agg #[aA,aB,.slice p' n cap',free,step,aD,aG,aC,aF,.slice q' m c2'])∧w''.ownsRow w'.heap.size TI 1 (.slice p' n cap') n (ivs xs)∧w''.ownsRow w'.heap.size TV 4 (.slice q' m c2') m (vs.flatMap aE)∧Ext w' w'')
  (HF:xC 75 #[.agg #[aA,aB,.slice p n cap,free,step,aD,aG,aC,aF,.slice (some ⟨b,off,none⟩) m c2],id] w fun w' e w''=>e= .returned (.int .i64 (k:Int))∧Ext w' w'')
  (HP:Hid (∀w',Calls Tryz.prog 122 #[aR free step aD aG,bP a1 a2 a3,aC,amt] w' fun e w''=>e= .returned (.tuple #[bP S1 S2 S3,bk,.bool okb])∧Ext w' w'')):
  Calls Tryz.prog 73 #[.agg #[aA,aB,.slice p n cap,free,step,aD,aG,aC,aF,.slice (some ⟨b,off,none⟩) m c2],id,amt] w fun e w'=>(∃p' cap' q' c2' b,e= .returned (.tuple #[.agg #[aA,aB,.slice p' n cap',free,step,aD,aG,aC,aF,.slice q' m c2'],b,.bool false])∧ ¬(okb=true∧aF+amt-bk≤99999)∧Ext w w')∨
   (okb=true∧aF+amt-bk≤99999∧ ∃p' cap' q' c2',e= .returned (.tuple #[.agg #[aA,aB,.slice p' n cap',free,step,aD,aG,aC,(aF+amt-bk:Int),.slice q' m c2'],bk,.bool true])∧w'.ownsRow w.heap.size TI 1 (.slice p' n cap') n (ivs xs)∧w'.ownsRow w.heap.size TV 4 (.slice q' m c2') m ((vs.set k (a0,S1,S2,S3)).flatMap aE)∧Ext w w'):=by
 go_enter Tryz.func73,Tryz.ntmps73
 go_wp2_with fail
 refine(HL _ (((Mem.start w).bn aL #[aA,aB,.slice p n cap,free,step,aD,aG,aC,aF,.slice (some ⟨b,off,none⟩) m c2] (w.heap.size)).bn aL #[(),(),((),()),(),(),(),(),(),(),((),())] (w.heap.size+1)).ext).mono ?_
 rintro e w1 ⟨p1,c,q1,d,rfl,bw,b1,bz⟩
 have M1:=((((Mem.start w).bn aL #[aA,aB,.slice p n cap,free,step,aD,aG,aC,aF,.slice (some ⟨b,off,none⟩) m c2] (w.heap.size)).bn aL #[(),(),((),()),(),(),(),(),(),(),((),())] (w.heap.size+1)).own2 bz bw b1 (Nat.le_refl _) (by decide))
 have bo:=M1.hi 2
 have a8:=M1.hi 3
 clear bz bw b1 HL
 obtain⟨bl,bg,be,a7,bj,bh,ba,bb,bd,bi⟩:=(M1.bk 3).ten
 go_wp2_with fail
 clear bl bg be a7 bj bh ba bb bd bi
 refine(HF _ (M1.bn aL #[aA,aB,.slice p1 n c,free,step,aD,aG,aC,aF,.slice q1 m d] (w1.heap.size)).ext).mono ?_
 rintro e w2 ⟨rfl,br⟩
 have M2:=((M1.bn aL #[aA,aB,.slice p1 n c,free,step,aD,aG,aC,aF,.slice q1 m d] (w1.heap.size)).adv br)
 clear M1 bo a8 br HF
 have bc:=M2.hi 0
 have bf:=M2.hi 3
 have bm:=M2.hi 4
 obtain⟨bl,bg,be,a7,bj,bh,ba,bb,bd,bi⟩:=(M2.bk 4).ten
 have z:=M2.ext
 have b2:w2.cell? ⟨b,off+k*4+1,none⟩=some (.int .i64 a1):=(z.cells.1 _ _ hb).trans g1
 have bu:w2.cell? ⟨b,off+k*4+2,none⟩=some (.int .i64 a2):=(z.cells.1 _ _ hb).trans g2
 have b3:w2.cell? ⟨b,off+k*4+3,none⟩=some (.int .i64 a3):=(z.cells.1 _ _ hb).trans g3
 have a5:b<w2.heap.size:=Nat.lt_of_lt_of_le hb z.sz
 clear z
 have i1:(0:Int)≤(k:Int):=by omega
 have i2:(k:Int)<(m:Int):=by omega
 have n1: ¬(w.heap.size=w2.heap.size):=by omega
 have n2: ¬(w2.heap.size=w.heap.size):=by omega
 have n3: ¬(b=w2.heap.size):=by omega
 have n4: ¬(w2.heap.size=b):=by omega
 go_upto_region 5 with fail
 go_cut [11,12,13] (fun s11 s12 s13 wx=> ∃a:Nat,s11= .pointer (some ⟨a,0,none⟩)∧s12= .int .i64 bk∧s13= .bool okb∧Ext w2 wx∧w2.heap.size≤a∧Blk wx a TS3 #[S1,S2,S3])
 case first=>
  go_region_held3 (fun w'=>w'.cell? ⟨w.heap.size,3,none⟩=some (.int .i64 free)∧w'.cell? ⟨w.heap.size,4,none⟩=some (.int .i64 step)∧w'.cell? ⟨w.heap.size,5,none⟩=some (.int .i64 aD)∧w'.cell? ⟨w.heap.size,6,none⟩=some (.int .i64 aG)∧w'.cell? ⟨w.heap.size,7,none⟩=some (.int .i64 aC)∧w'.cell? ⟨w.heap.size,9,none⟩=some (.slice (some ⟨b,off,none⟩) m c2)∧w'.cell? ⟨b,off+k*4+1,none⟩=some (.int .i64 a1)∧w'.cell? ⟨b,off+k*4+2,none⟩=some (.int .i64 a2)∧w'.cell? ⟨b,off+k*4+3,none⟩=some (.int .i64 a3))
   (first|(refine⟨?_,?_,?_,?_,?_,?_,?_,?_,?_⟩<;>assumption)|go_keep)
   ((go_at_call 122
     refine(HP _).mono ?_
     rintro e w5 ⟨rfl,bt⟩
     have h:Ext w2 w5:=xE
     have cs:=((M2.bk 4).ext h).cl 3
     have cy:=((M2.bk 4).ext h).cl 4
     have cq:=((M2.bk 4).ext h).cl 5
     have cx:=((M2.bk 4).ext h).cl 6
     have cv:=((M2.bk 4).ext h).cl 7
     have cw:=((M2.bk 4).ext h).cl 9
     have cu:w5.cell? ⟨b,off+k*4+1,none⟩=some (.int .i64 a1):=(h.cells.1 _ _ a5).trans b2
     have cz:w5.cell? ⟨b,off+k*4+2,none⟩=some (.int .i64 a2):=(h.cells.1 _ _ a5).trans bu
     have ct:w5.cell? ⟨b,off+k*4+3,none⟩=some (.int .i64 a3):=(h.cells.1 _ _ a5).trans b3
     first
      |(have a9:Ext (w2.alloc (.cells #[(),(),()] TS3)) w5:=bt
        have BB:=(Blk.new w2 TS3 #[(),(),()]).ext a9
        have cd:=BB.cl 0
        have cp:=BB.frozen 0
        have cj:=BB.cl 1
        have ca:=BB.frozen 1
        have cn:=BB.cl 2
        have ci:w5.frozen? ⟨w2.heap.size,2,none⟩=false:=BB.frozen 2)
      |(have a9:Ext (w2.alloc (.cells #[(),(),()] TS3)) w5:=bt.of_drew
        have BB:=(Blk.new w2 TS3 #[(),(),()]).ext a9
        have cd:=BB.cl 0
        have cp:=BB.frozen 0
        have cj:=BB.cl 1
        have ca:=BB.frozen 1
        have cn:=BB.cl 2
        have ci:w5.frozen? ⟨w2.heap.size,2,none⟩=false:=BB.frozen 2)
      |skip))
  ·go_wp2_with fail
   go_meet
   exact⟨w5.heap.size,rfl,rfl,rfl,by exact .alloc h _,by have:=h.sz;omega,Blk.new _ _ _⟩
  ·have hR:ExtR w2.heap.size w5 _:=(((ExtR.refl w2.heap.size w5).setCell (p:=⟨w2.heap.size,0,none⟩) (.inl rfl) (.int .i64 S1)).setCell (p:=⟨w2.heap.size,1,none⟩) (.inl rfl) (.int .i64 S2)).setCell (p:=⟨w2.heap.size,2,none⟩) (.inl rfl) (.int .i64 S3)
   have hY:=((BB.set 0 (.int .i64 S1)).set 1 (.int .i64 S2)).set 2 (.int .i64 S3)
   simp only[List.setIfInBounds_toArray,List.set_cons_zero,List.set_cons_succ]at hY
   go_wp2_with fail
   go_meet
   exact⟨w2.heap.size,rfl,rfl,rfl,ExtR.new h hR (Nat.le_refl _),Nat.le_refl _,hY⟩
 case rest=>
  clear bl bg be a7 bj bh ba bb bd bi b2 bu b3 a5 HP n1 n2 n3 n4
  obtain⟨a,rfl,rfl,rfl,bv,ha,bx⟩:=hcut
  have M3:=(M2.blkOf bv bx ha)
  clear M2 bc bf bm bv ha bx
  have q:=M3.hi 0
  have r:=M3.hi 1
  have s:=M3.hi 4
  have o:=M3.hi 5
  cases okb with
  |false=>
   have ah:Hid (¬(false=true∧aF+amt-bk≤99999)):=by show¬_;simp
   obtain⟨d0,d1,d2,d3,d4,d5,d6,d7,d8,d9⟩:=(M3.bk 1).ten
   obtain⟨f0,ag,f1,ad,f2,af,f3,u,f4,y,f5,x,f6,ae,f7,aa,f8,ab,f9,t⟩:=(M3.bk 4).tenf
   obtain⟨f,g⟩:=M3.nq 1 4
   go_wp2
   clear d0 d1 d2 d3 d4 d5 d6 d7 d8 d9 f0 ag f1 ad f2 af f3 u f4 y f5 x f6 ae f7 aa f8 ab f9 t f g q r s o
   have M4:=(M3.put10 (i:=4) rfl (.int .i64 aA) (.int .i64 aB) (.slice p1 n c) (.int .i64 free) (.int .i64 step) (.int .i64 aD) (.int .i64 aG) (.int .i64 aC) (.int .i64 aF) (.slice q1 m d))
   generalize l:World.setCell _ _ _=wz
   rw[l]at M4
   clear l M3
   obtain⟨y0,y1,y2,y3,y4,y5,y6,y7,y8,y9⟩:=(M4.bk 4).ten
   exact bodyPost_ret (v:= .tuple #[.agg #[aA,aB,.slice p1 n c,free,step,aD,aG,aC,aF,.slice q1 m d],amt,.bool false]) (by simp[results,Tryz.results73,go_sem, *]) rfl (by first|exact .inl ⟨p1,c,q1,d,amt,rfl,ah.out,M4.ext⟩|(have j:=ah.out;simp at j;first|exact .inl ⟨p1,c,q1,d,amt,rfl,j,M4.ext⟩|exact .inl ⟨p1,c,q1,d,amt,rfl,by omega,M4.ext⟩|exact .inl ⟨⟨p1,c,q1,d,amt,rfl⟩,j,M4.ext⟩|exact .inl ⟨⟨p1,c,q1,d,amt,rfl⟩,by omega,M4.ext⟩|exact .inl ⟨⟨p1,c,q1,d,amt,rfl⟩,M4.ext⟩|exact⟨⟨p1,c,q1,d,amt,rfl⟩,M4.ext⟩))
  |true=>
   obtain⟨o1,o2,o3⟩:=hok rfl
   have k1:IntKind.i64.wrap (aF+amt)=aF+amt:=IntWalk.i64_in _ (by omega)
   have k2:IntKind.i64.wrap (aF+amt-bk)=aF+amt-bk:=IntWalk.i64_in _ (by omega)
   have h8:=(M3.bk 5).cl 8
   by_cases hq:aF+amt-bk≤99999
   ·have hd:decide (99999<aF+amt-bk)=false:=by simp;omega
    have bp:=xQ hq
    clear hq
    obtain⟨gq,rfl,bs,b4⟩:=M3.so 3
    obtain⟨b9,o9,x0,x1,x2,x3,e9,bq,_,y0,y1,y2,y3⟩:=dW (M3.sq 3) hk
    injection e9 with e9
    injection e9 with e9 e8
    subst e9 e8
    simp only[Nat.zero_add]at y1 y2 y3
    have cr:=xQ bq
    clear bq y0 bs
    obtain⟨d0,cm,d1,b8,d2,b5,d3,b7,d4,ck,d5,cg,d6,cb,d7,ce,d8,cf,d9,b6⟩:=(M3.bk 1).tenf
    obtain⟨f0,ag,f1,ad,f2,af,f3,u,f4,y,f5,x,f6,ae,f7,aa,f8,ab,f9,t⟩:=(M3.bk 4).tenf
    obtain⟨ch,cc,co⟩:=(M3.bk 0).tri
    have z1:wc.frozen? ⟨gq,k*4+1,none⟩=false:=(M3.ow 3).frozenAt (k*4+1)
    have z2:wc.frozen? ⟨gq,k*4+2,none⟩=false:=(M3.ow 3).frozenAt (k*4+2)
    have z3:wc.frozen? ⟨gq,k*4+3,none⟩=false:=(M3.ow 3).frozenAt (k*4+3)
    obtain⟨f,g⟩:=M3.nq 4 5
    obtain⟨aw,am⟩:=M3.nq 1 5
    obtain⟨aq,an⟩:=M3.nq 0 5
    obtain⟨ar,ap⟩:=M3.nq 3 5
    obtain⟨ak,ay⟩:=M3.nq 1 4
    obtain⟨a6,az⟩:=M3.nq 0 4
    obtain⟨ao,av⟩:=M3.nq 3 4
    obtain⟨aj,au⟩:=M3.nq 0 1
    obtain⟨a4,al⟩:=M3.nq 1 3
    obtain⟨ai,ax⟩:=M3.nq 0 3
    have M4:=(show Mem w (((wc.setCell ⟨gq,k*4+1,none⟩ (.int .i64 S1)).setCell ⟨gq,k*4+2,none⟩ (.int .i64 S2)).setCell ⟨gq,k*4+3,none⟩ (.int .i64 S3)) [aI w.heap.size (a) TS3 #[S1,S2,S3],aI w.heap.size (w1.heap.size) aL #[aA,aB,.slice p1 n c,free,step,aD,aG,aC,aF,.slice (some ⟨gq,0,none⟩) m d],aJ w.heap.size TI 1 (p1) (n) (c) (ivs xs),aJ w.heap.size TV 4 (some ⟨gq,0,none⟩) (m) (d) ((((vs.flatMap aE).set (k*4+1) (.int .i64 S1)).set (k*4+2) (.int .i64 S2)).set (k*4+3) (.int .i64 S3)),aI w.heap.size (w.heap.size+1) aL #[(),(),((),()),(),(),(),(),(),(),((),())],aI w.heap.size (w.heap.size) aL #[aA,aB,.slice p n cap,free,step,aD,aG,aC,aF,.slice (some ⟨b,off,none⟩) m c2]]from(((M3.ostore (i:=3) rfl (k*4+1) (.int .i64 S1)).ostore (i:=3) rfl (k*4+2) (.int .i64 S2)).ostore (i:=3) rfl (k*4+3) (.int .i64 S3)))
    have M5:=(M4.st 1 8 (.int .i64 (aF+amt-bk)))
    have b0:Hid ((((vs.flatMap aE).set (k*4+1) (.int .i64 S1)).set (k*4+2) (.int .i64 S2)).set (k*4+3) (.int .i64 S3)=(vs.set k (a0,S1,S2,S3)).flatMap aE):=wF HV0 S1 S2 S3
    go_wp2
    clear d0 cm d1 b8 d2 b5 d3 b7 d4 ck d5 cg d6 cb d7 ce d8 cf d9 b6 f0 ag f1 ad f2 af f3 u f4 y f5 x f6 ae f7 aa f8 ab f9 t ch cc co z1 z2 z3 f g aw am aq an ar ap ak ay a6 az ao av aj au a4 al ai ax y1 y2 y3 b4 h8 q r s o
    have M6:=(M5.put10 (i:=4) rfl (.int .i64 aA) (.int .i64 aB) (.slice p1 n c) (.int .i64 free) (.int .i64 step) (.int .i64 aD) (.int .i64 aG) (.int .i64 aC) (.int .i64 (aF+amt-bk)) (.slice (some ⟨gq,0,none⟩) m d))
    generalize l:World.setCell _ _ _=wz
    rw[l]at M6
    clear l M3 M4 M5
    obtain⟨y0,y1,y2,y3,y4,y5,y6,y7,y8,y9⟩:=(M6.bk 4).ten
    exact bodyPost_ret (v:= .tuple #[.agg #[aA,aB,.slice p1 n c,free,step,aD,aG,aC,(aF+amt-bk:Int),.slice (some ⟨gq,0,none⟩) m d],bk,.bool true]) (by simp[results,Tryz.results73,go_sem, *]) rfl (by first|exact .inr ⟨rfl,bp.out,p1,c,some ⟨gq,0,none⟩,d,rfl,(M6.ow 2),by rw[←b0.out];exact(M6.ow 3),M6.ext⟩|exact .inr ⟨bp.out,p1,c,some ⟨gq,0,none⟩,d,rfl,(M6.ow 2),by rw[←b0.out];exact(M6.ow 3),M6.ext⟩)
   ·have ah:Hid (¬(true=true∧aF+amt-bk≤99999)):=by show¬_;simp[hq]
    have hd:decide (99999<aF+amt-bk)=true:=by simp;omega
    obtain⟨d0,d1,d2,d3,d4,d5,d6,d7,d8,d9⟩:=(M3.bk 1).ten
    obtain⟨f0,ag,f1,ad,f2,af,f3,u,f4,y,f5,x,f6,ae,f7,aa,f8,ab,f9,t⟩:=(M3.bk 4).tenf
    obtain⟨f,g⟩:=M3.nq 1 4
    go_wp2
    clear d0 d1 d2 d3 d4 d5 d6 d7 d8 d9 f0 ag f1 ad f2 af f3 u f4 y f5 x f6 ae f7 aa f8 ab f9 t f g q r s o
    have M4:=(M3.put10 (i:=4) rfl (.int .i64 aA) (.int .i64 aB) (.slice p1 n c) (.int .i64 free) (.int .i64 step) (.int .i64 aD) (.int .i64 aG) (.int .i64 aC) (.int .i64 aF) (.slice q1 m d))
    generalize l:World.setCell _ _ _=wz
    rw[l]at M4
    clear l M3
    obtain⟨y0,y1,y2,y3,y4,y5,y6,y7,y8,y9⟩:=(M4.bk 4).ten
    exact bodyPost_ret (v:= .tuple #[.agg #[aA,aB,.slice p1 n c,free,step,aD,aG,aC,aF,.slice q1 m d],amt,.bool false]) (by simp[results,Tryz.results73,go_sem, *]) rfl (by first|exact .inl ⟨p1,c,q1,d,amt,rfl,ah.out,M4.ext⟩|(have j:=ah.out;simp at j;first|exact .inl ⟨p1,c,q1,d,amt,rfl,j,M4.ext⟩|exact .inl ⟨p1,c,q1,d,amt,rfl,by omega,M4.ext⟩|exact .inl ⟨⟨p1,c,q1,d,amt,rfl⟩,j,M4.ext⟩|exact .inl ⟨⟨p1,c,q1,d,amt,rfl⟩,by omega,M4.ext⟩|exact .inl ⟨⟨p1,c,q1,d,amt,rfl⟩,M4.ext⟩|exact⟨⟨p1,c,q1,d,amt,rfl⟩,M4.ext⟩))
end Go.Proofs.YtgnkoffndhmhpaaGreatDoor
namespace Go.Proofs.YtgnkoffndhmhpaaGreatDoor
open Go.RowKit
set_option linter.unusedVariables false
set_option linter.unusedSimpArgs false
theorem yG {f s p c i pd a now amt:Int}(hD:0≤bQ f s p c i pd a now)(h:(eU f s p c i pd a now amt).2.2=true):0≤(eU f s p c i pd a now amt).2.1∧(eU f s p c i pd a now amt).2.1≤amt∧amt≤300:=by
 unfold eU at h⊢
 split at h
 ·rename_i h1
  rw[if_pos h1]
  split at h
  ·cases h
  ·rename_i h2
   rw[if_neg h2]
   dsimp only
   omega
 ·cases h
def mM (h:aO)(id amt:Int):Option (aO×Int):=
 match bS id h.vs with
 |none=>none
 |some v=>if(eU h.free h.step h.aD h.aG v.2.1 v.2.2.1 v.2.2.2 h.aC amt).2.2=true∧h.aF+amt-(eU h.free h.step h.aD h.aG v.2.1 v.2.2.1 v.2.2.2 h.aC amt).2.1≤99999 then
   some ({h with aF:=h.aF+amt-(eU h.free h.step h.aD h.aG v.2.1 v.2.2.1 v.2.2.2 h.aC amt).2.1,vs:=h.vs.set (vix id h.vs).toNat (id,(eU h.free h.step h.aD h.aG v.2.1 v.2.2.1 v.2.2.2 h.aC amt).1)},(eU h.free h.step h.aD h.aG v.2.1 v.2.2.1 v.2.2.2 h.aC amt).2.1)
  else none
def aJv (h:aO)(r:Option (aO×Int))(w:World)(e:Ending)(w':World):Prop:=
 match r with
 |none=> ∃p cap q c2 b,e= .returned (.tuple #[bK h p h.cells.length cap q h.vs.length c2,b,.bool false])∧Ext w w'
 |some (h',b)=> ∃p cap q c2,e= .returned (.tuple #[bK h' p h'.cells.length cap q h'.vs.length c2,b,.bool true])∧w'.ownsRow w.heap.size TI 1 (.slice p h'.cells.length cap) h'.cells.length (ivs h'.cells)∧w'.ownsRow w.heap.size TV 4 (.slice q h'.vs.length c2) h'.vs.length (h'.vs.flatMap aE)∧Ext w w'
theorem aG1 (h:aO)(id amt:Int)(p:OA)(n cap:Nat)(q:OA)(m c2:Nat)(w:World)(hn:n≤1000)(hm:m≤1000)(hi:IsHouse w h p n cap q m c2)
  (ht:aY h.free h.step h.aD h.aG=true)(hvs: ∀v∈h.vs,cS v.2.1 v.2.2.1 v.2.2.2=true∧v.2.2.2≤h.aC)(hc:h.aC≤9999)(hb0:0≤h.aF)(hb:h.aF≤99999):
  Calls Tryz.prog 73 #[bK h p n cap q m c2,id,amt] w (aJv h (mM h id amt) w):=by
 have hl:=hi.clen
 have l:=hi.vlen
 have HL:=fun(w':World) (hx:Ext w w')=>uD h p n cap q m c2 w' hn hm (hi.ext hx)
 have HF:=fun(w':World) (hx:Ext w w')=>pJ h.aA h.aB h.free h.step h.aD h.aG h.aC h.aF id p n cap q m c2 h.vs w' (hi.vs.ext hx)
 unfold fM at HL
 subst hl l
 rcases lT id h.vs with⟨h1,h2⟩|⟨k,a1,a2,a3,hk,h1,hx,h2⟩
 ·rw[h1]at HF
  have hr:mM h id amt=none:=by unfold mM;rw[h2]
  rw[hr]
  refine(xS h.aA h.aB h.free h.step h.aD h.aG h.aC h.aF id amt p _ cap q _ c2 h.cells h.vs w HL HF).mono ?_
  rintro e w' ⟨p',a,q',c,b,rfl,hE⟩
  exact⟨p',a,q',c,b,rfl,hE⟩
 ·rw[h1]at HF
  obtain⟨b,g,x0,x1,x2,x3,rfl,d,i,_,g1,g2,g3⟩:=dW hi.vs hk
  rw[hx]at d
  injection d with d
  simp only[Prod.mk.injEq]at d
  obtain⟨_,rfl,rfl,rfl⟩:=d
  obtain⟨s1,s2⟩:=hvs _ (List.mem_of_getElem? hx)
  dsimp only at s1 s2
  have hD:=(jE ht s1 s2 hc).1
  have HP:=fun(w':World)=>aAj h.free h.step h.aD h.aG a1 a2 a3 h.aC amt w' ht s1 s2 hc
  have f:=yG (amt:=amt) hD
  have hr:mM h id amt=if(eU h.free h.step h.aD h.aG a1 a2 a3 h.aC amt).2.2=true∧h.aF+amt-(eU h.free h.step h.aD h.aG a1 a2 a3 h.aC amt).2.1≤99999 then some ({h with aF:=h.aF+amt-(eU h.free h.step h.aD h.aG a1 a2 a3 h.aC amt).2.1,vs:=h.vs.set k (id,(eU h.free h.step h.aD h.aG a1 a2 a3 h.aC amt).1)},(eU h.free h.step h.aD h.aG a1 a2 a3 h.aC amt).2.1)else none:=by
   unfold mM
   rw[h2,h1]
   rfl
  rw[hr]
  generalize eU h.free h.step h.aD h.aG a1 a2 a3 h.aC amt=r at*
  obtain⟨⟨S1,S2,S3⟩,bk,j⟩:=r
  dsimp only at HP f⊢
  refine(aFe h.aA h.aB h.free h.step h.aD h.aG h.aC h.aF id amt p _ cap b g _ c2 k h.cells h.vs id a1 a2 a3 S1 S2 S3 bk j w hk hm i hb0 hb f hx g1 g2 g3 HL HF HP).mono ?_
  rintro e w' (⟨p',a,q',c,b',rfl,hno,hE⟩|⟨rfl,hle,p',a,q',c,rfl,ho1,ho2,hE⟩)
  ·rw[if_neg hno]
   exact⟨p',a,q',c,b',rfl,hE⟩
  ·rw[if_pos ⟨rfl,hle⟩]
   refine⟨p',a,q',c,?_,ho1,?_,hE⟩
   ·simp[bK]
   ·simpa using ho2
theorem lI {xs ys:List Int}(h:List.Perm xs ys):cE xs=cE ys:=
 mI ((fY _).trans (h.filter _)) (kD _)
theorem xL (aC:Int): ∀(cs:List Int) (vs:List aP),bY aC cs vs=true↔vs.map (·.1)=cs∧ ∀v∈vs,eV aC v=true:=by
 intro cs
 induction cs with
 |nil=>intro vs;cases vs<;>simp[bY]
 |cons c cs ih=>
  intro vs
  cases vs with
  |nil=>simp[bY]
  |cons v vs=>
   simp only[bY,Bool.and_eq_true,decide_eq_true_eq,ih,List.map_cons,List.cons.injEq,List.forall_mem_cons]
   constructor
   ·rintro⟨⟨a,b⟩,c,d⟩;exact⟨⟨a,c⟩,b,d⟩
   ·rintro⟨⟨a,c⟩,b,d⟩;exact⟨⟨a,b⟩,c,d⟩
theorem dH (h:aO):aS h=true↔aN h.aA h.aB h.cells=true∧aY h.free h.step h.aD h.aG=true∧(0≤h.aC∧h.aC≤9999∧0≤h.aF∧h.aF≤99999)∧h.vs.map (·.1)=cE h.cells∧ ∀v∈h.vs,eV h.aC v=true:=by
 unfold aS jZ
 simp only[Bool.and_eq_true,decide_eq_true_eq,xL]
 constructor
 ·rintro⟨⟨⟨a,b⟩,c⟩,d,e⟩;exact⟨a,b,c,d,e⟩
 ·rintro⟨a,b,c,d,e⟩;exact⟨⟨⟨a,b⟩,c⟩,d,e⟩
theorem gH (aC:Int)(v:aP):eV aC v=true↔cS v.2.1 v.2.2.1 v.2.2.2=true∧v.2.2.2≤aC:=by
 unfold eV;simp
theorem tZ (v:aP): ∀vs:List aP,(jY v vs).map (·.1)=kP v.1 (vs.map (·.1))
 | []=>rfl
 |u::vs=>by
  by_cases hc:u.1<v.1
  ·have e:jY v (u::vs)=u::jY v vs:=by simp[jY,hc]
   rw[e,List.map_cons,tZ v vs,List.map_cons];simp[kP,hc]
  ·have e:jY v (u::vs)=v::u::vs:=by simp[jY,hc]
   rw[e];simp[kP,hc]
theorem aI5 (v:aP)(vs:List aP): ∀u∈jY v vs,u=v∨u∈vs:=by
 intro u hu
 unfold jY at hu
 rcases List.mem_append.1 hu with h|h
 ·exact .inr ((List.takeWhile_sublist _).subset h)
 ·rcases List.mem_cons.1 h with h|h
  ·exact .inl h
  ·exact .inr ((List.dropWhile_sublist _).subset h)
theorem nJ (v:aP)(vs:List aP):(jY v vs).length=vs.length+1:=by
 have:=congrArg List.length (tZ v vs)
 rw[(mA _ _).length_eq]at this
 simpa using this
theorem aJr {zs:List Int}{id:Int}(h0:zs.getD 0 0=0)(hl:0<zs.length)(hi:1≤id):cE (zs.set 0 id)=kP id (cE zs):=by
 cases zs with
 |nil=>simp at hl
 |cons z t=>
  obtain rfl:z=0:=by simpa using h0
  symm
  refine mI ?_ (sM _ _ (kD _))
  have e:dB ((0::t).set 0 id)=id::dB (0::t):=by
   unfold dB
   rw[List.set_cons_zero,List.filter_cons_of_pos (by simp;omega),List.filter_cons_of_neg (by simp)]
  rw[e]
  exact(mA _ _).trans (List.Perm.cons _ (fY _))
theorem xH {zs:List Int}{id:Int}(h0:zs[0]? =some id) (hi:1≤id):cE (zs.set 0 0)=(cE zs).erase id:=by
 cases zs with
 |nil=>simp at h0
 |cons z t=>
  obtain rfl:z=id:=by simpa using h0
  symm
  refine mI ?_ ((kD _).sublist List.erase_sublist)
  have e:dB (z::t)=z::dB ((z::t).set 0 0):=by
   unfold dB
   rw[List.set_cons_zero,List.filter_cons_of_pos (by simp;omega),List.filter_cons_of_neg (by simp)]
  have hp:=(fY (dB (z::t))).erase z
  rw[e,List.erase_cons_head,←e]at hp
  exact hp
theorem uS (id:Int): ∀vs:List aP,vs.any (fun v=>v.1==id)=true→(vs.eraseIdx (vs.findIdx (fun v=>v.1==id))).map (·.1)=(vs.map (·.1)).erase id
 | [],h=>by simp at h
 |v::vs,h=>by
  by_cases hv:v.1=id
  ·have e:(v::vs).findIdx (fun v=>v.1==id)=0:=by simp[List.findIdx_cons,hv]
   rw[e,List.map_cons,hv,List.erase_cons_head];rfl
  ·have hb:(v.1==id)=false:=by simpa using hv
   have e:(v::vs).findIdx (fun v=>v.1==id)=vs.findIdx (fun v=>v.1==id)+1:=by simp[List.findIdx_cons,hb]
   have h':vs.any (fun v=>v.1==id)=true:=by simpa[hv]using h
   rw[e,List.eraseIdx_cons_succ,List.map_cons,uS id vs h',List.map_cons,List.erase_cons_tail (by simpa using hv)]
theorem eZ {id:Int}{vs:List aP}{v:aP}(h:bS id vs=some v):vs.any (fun v=>v.1==id)=true∧v.1=id∧vs[(vix id vs).toNat]? =some v∧(vix id vs).toNat<vs.length∧vix id vs=((vix id vs).toNat:Int)∧(vix id vs).toNat=vs.findIdx (fun v=>v.1==id):=by
 have ha:vs.any (fun v=>v.1==id)=true:=by
  unfold bS at h
  exact List.any_eq_true.2 ⟨v,List.mem_of_find?_eq_some h,by simpa using List.find?_some h⟩
 rcases lT id vs with⟨h1,h2⟩|⟨k,a1,a2,a3,hk,h1,hx,h2⟩
 ·rw[h2]at h;cases h
 ·rw[h2]at h
  injection h with h
  subst h
  have e:vix id vs=(vs.findIdx (fun v=>v.1==id):Int):=by unfold vix;rw[if_pos ha]
  refine⟨ha,rfl,by rw[h1];simpa using hx,by rw[h1];simpa using hk,by rw[h1];simp,by rw[e];simp⟩
theorem aHw {α:Type}{l:List α}{k:Nat}{a:α}(h:l[k]? =some a):l.set k a=l:=by
 refine List.ext_getElem? (fun i=> ?_)
 rw[List.getElem?_set]
 split
 ·rename_i e
  subst e
  split
  ·exact h.symm
  ·rename_i hl
   rw[List.getElem?_eq_none (by omega)]at h;cases h
 ·rfl
theorem aHy {vs:List aP}{k:Nat}{u:aP}(s:Int×Int×Int)(hk:vs[k]? =some u):(vs.set k (u.1,s)).map (·.1)=vs.map (·.1):=by
 rw[List.map_set]
 exact aHw (by rw[List.getElem?_map,hk];rfl)
def bL (h:aO)(k a b:Int):Option (aO×Int):=
 if k=0 then
  (if 0≤(cC h.aA h.aB h.cells a).2 then some ({h with cells:=(cC h.aA h.aB h.cells a).1,vs:=jY (a,h.aC,0,h.aC) h.vs},(cC h.aA h.aB h.cells a).2)else none)
 else if k=1 then mM h a b
 else if k=2 then
  (if dJ h a=true∧0≤(bO h.aA h.aB h.cells a).2 then some ({h with cells:=(bO h.aA h.aB h.cells a).1,vs:=h.vs.eraseIdx (vix a h.vs).toNat},(bO h.aA h.aB h.cells a).2)else none)
 else if k=3 then(if 1≤a∧a≤9999-h.aC then some ({h with aC:=h.aC+a},h.aC+a)else none)
 else if k=4 then(if bA h.aA h.aB h.cells a b=true then some ({h with cells:=bG h.aA h.aB h.cells a b},0)else none)
 else none
theorem pE {aA aB:Int}{xs:List Int}{id:Int}(hok:aN aA aB xs=true)(h:0≤(cC aA aB xs id).2):
  ∃zs,List.Perm zs xs∧zs.getD 0 0=0∧1≤id∧(cC aA aB xs id).1=zs.set 0 id∧aN aA aB (zs.set 0 id)=true∧(cC aA aB xs id).2≤5:=by
 unfold cC kX at h⊢
 cases hr:gO aA xs with
 |none=>rw[hr]at h;simp at h
 |some r=>
  rw[hr]at h
  obtain⟨f1,f2,f3,f4,f5⟩:=nW hok hr
  have hp:=(nH r.2 xs hok).2.2
  rw[f1]at hp
  unfold cV at h⊢
  by_cases hc:r.1.getD 0 0=0∧1≤id∧aN aA aB (r.1.set 0 id)=true
  ·simp only[hc,and_self,if_true]at h⊢
   exact⟨r.1,hp,hc.1,trivial,rfl,hc.2.2,by omega⟩
  ·simp only[if_neg hc]at h
   simp at h
theorem kU {aA aB:Int}{xs:List Int}{id:Int}(hok:aN aA aB xs=true)(h:0≤(bO aA aB xs id).2):
  ∃ys,List.Perm ys xs∧ys[0]? =some id∧1≤id∧(bO aA aB xs id).1=ys.set 0 0∧(bO aA aB xs id).2≤60:=by
 unfold bO kG at h⊢
 by_cases hc:id<1∨id∉xs
 ·rw[if_pos hc]at h;simp at h
 ·rw[if_neg hc]at h⊢
  have hm:id∈xs:=by
   by_cases hm:id∈xs
   ·exact hm
   ·exact absurd (.inr hm) hc
  have h1: ¬id<1:=fun e=>hc (.inl e)
  obtain⟨c,hx,hi⟩:=qF hm
  rw[hi]at h⊢
  rw[Int.toNat_natCast]at h⊢
  cases hb:dI aA xs c with
  |none=>rw[hb]at h;simp at h
  |some l=>
   rw[hb]at h
   obtain⟨g1,ys,g2,g3,g4,g5⟩:=(lJ hok hx (by omega)).2 l hb
   have hp:=(nH l xs hok).2.2
   rw[g2]at hp
   refine⟨ys,hp,g5,by omega,?_,?_⟩
   ·simp[g2]
   ·simp;omega
theorem aBg {aA aB:Int}{xs:List Int}(h:aN aA aB xs=true):aN aA aB (xs.set 0 0)=true:=by
 unfold aN at*
 rw[Bool.and_eq_true]at*
 refine⟨by rw[List.length_set];exact h.1,?_⟩
 obtain⟨h1,h2,h3⟩:=(dQ _ _).1 h.2
 refine(dQ _ _).2 ⟨fun x hx=> ?_,fun x hx=>by simp,?_⟩
 ·rcases List.mem_or_eq_of_mem_set hx with hx|rfl
  ·exact h1 x hx
  ·omega
 ·cases xs with
  |nil=>simp
  |cons x t=>
   rw[List.set_cons_zero,List.filter_cons_of_neg (by simp)]
   refine h3.sublist ?_
   rw[List.filter_cons]
   split
   ·exact List.sublist_cons_self _ _
   ·exact List.Sublist.refl _
theorem aJc {f s p c i pd a now:Int}(h:aY f s p c=true)(hi:0≤i)(h3:i≤now)(h4:now≤9999):0≤jR f s p c (now-i)∧jR f s p c (now-i)≤693:=by
 have hb:=nS (m:=now-i) h (by omega) (by omega)
 omega
theorem gE {h:aO}(hok:aS h=true){k a b:Int}{h':aO}{n:Int}(hd:bL h k a b=some (h',n)):
  aS h'=true∧(0≤n∧n≤9999)∧h'.cells.length=h.cells.length∧h'.aA=h.aA∧h'.aB=h.aB∧h'.free=h.free∧h'.step=h.step∧h'.aD=h.aD∧h'.aG=h.aG:=by
 obtain⟨q1,q2,q3,q4,q5⟩:=(dH h).1 hok
 have d:0<h.cells.length:=by have:=bX (cM q1);omega
 unfold bL at hd
 split at hd
 ·split at hd
  ·rename_i h0
   obtain⟨zs,s1,s2,s3,s4,s5,s6⟩:=pE q1 h0
   injection hd with hd
   simp only[Prod.mk.injEq]at hd
   obtain⟨rfl,rfl⟩:=hd
   rw[s4]
   refine⟨(dH _).2 ⟨s5,q2,q3,?_,?_⟩,⟨h0,by omega⟩,by rw[List.length_set,s1.length_eq],rfl,rfl,rfl,rfl,rfl,rfl⟩
   ·dsimp only
    rw[tZ,aJr s2 (by rw[s1.length_eq];exact d) s3,q4,lI s1]
   ·intro v hv
    rcases aI5 _ _ v hv with rfl|hv
    ·exact(gH _ _).2 ⟨by simp[cS];omega,Int.le_refl _⟩
    ·exact q5 v hv
  ·cases hd
 ·split at hd
  ·unfold mM at hd
   split at hd
   ·cases hd
   ·rename_i v hv
    obtain⟨v1,v2,v3,v4,v5,v6⟩:=eZ hv
    obtain⟨s1,s2⟩:=(gH _ _).1 (q5 v (List.mem_of_getElem? v3))
    obtain⟨b1,b2⟩:=jE q2 s1 s2 q3.2.1
    obtain⟨t1,t2,t3,t4,t5,t6⟩:=eK s1
    split at hd
    ·rename_i hp
     have e:=yG b1 hp.1
     injection hd with hd
     simp only[Prod.mk.injEq]at hd
     obtain⟨rfl,rfl⟩:=hd
     refine⟨(dH _).2 ⟨q1,q2,⟨q3.1,q3.2.1,?_,hp.2⟩,?_,?_⟩,⟨e.1,by omega⟩,rfl,rfl,rfl,rfl,rfl,rfl,rfl⟩
     ·dsimp only;omega
     ·dsimp only
      rw[←q4,←v2]
      rw[←v2]at v3
      exact aHy _ v3
     ·intro u hu
      rcases List.mem_or_eq_of_mem_set hu with hu|rfl
      ·exact q5 u hu
      ·refine(gH _ _).2 ?_
       have hf:=aJc (pd:=v.2.2.1) (a:=v.2.2.2) (now:=h.aC) q2 t1 (by omega) q3.2.1
       have f:bQ h.free h.step h.aD h.aG v.2.1 v.2.2.1 v.2.2.2 h.aC=max (jR h.free h.step h.aD h.aG (h.aC-v.2.1)-v.2.2.1) 0:=by
        unfold bQ;rw[if_pos (by simp[q2,s1,s2,q3.2.1])]
       have c:=hp.1
       unfold eU at c⊢
       split at c
       ·rename_i ha
        rw[if_pos ha]
        split at c
        ·cases c
        ·rename_i hn
         rw[if_neg hn]
         dsimp only
         refine⟨?_,by omega⟩
         unfold cS
         simp only[decide_eq_true_eq]
         omega
       ·cases c
    ·cases hd
  ·split at hd
   ·split at hd
    ·rename_i hm
     obtain⟨ys,s1,s2,s3,s4,s5⟩:=kU q1 hm.2
     injection hd with hd
     simp only[Prod.mk.injEq]at hd
     obtain⟨rfl,rfl⟩:=hd
     rw[s4]
     refine⟨(dH _).2 ⟨aBg (sP q1 s1),q2,q3,?_,?_⟩,⟨hm.2,by omega⟩,by rw[List.length_set,s1.length_eq],rfl,rfl,rfl,rfl,rfl,rfl⟩
     ·dsimp only
      have hv: ∃v,bS a h.vs=some v:=by
       have:=hm.1
       unfold dJ cP at this
       rw[if_pos hok]at this
       cases hv:bS a h.vs with
       |none=>rw[hv]at this;simp at this
       |some v=>exact⟨v,rfl⟩
      obtain⟨v,hv⟩:=hv
      obtain⟨v1,v2,v3,v4,v5,v6⟩:=eZ hv
      rw[v6,uS a h.vs v1,xH s2 s3,q4,lI s1]
     ·intro v hv
      exact q5 v (List.mem_of_mem_eraseIdx hv)
    ·cases hd
   ·split at hd
    ·split at hd
     ·rename_i hw
      injection hd with hd
      simp only[Prod.mk.injEq]at hd
      obtain⟨rfl,rfl⟩:=hd
      refine⟨(dH _).2 ⟨q1,q2,⟨by dsimp only;omega,by dsimp only;omega,q3.2.2⟩,q4,fun v hv=> ?_⟩,⟨by omega,by omega⟩,rfl,rfl,rfl,rfl,rfl,rfl,rfl⟩
      obtain⟨s1,s2⟩:=(gH _ _).1 (q5 v hv)
      exact(gH _ _).2 ⟨s1,by dsimp only;omega⟩
     ·cases hd
    ·split at hd
     ·split at hd
      ·injection hd with hd
       simp only[Prod.mk.injEq]at hd
       obtain⟨rfl,rfl⟩:=hd
       refine⟨(dH _).2 ⟨iB a b q1,q2,q3,?_,q5⟩,⟨by omega,by omega⟩,cW _ _ _ _ _,rfl,rfl,rfl,rfl,rfl,rfl⟩
       dsimp only
       rw[q4,lI (mK a b)]
      ·cases hd
     ·cases hd
end Go.Proofs.YtgnkoffndhmhpaaGreatDoor
