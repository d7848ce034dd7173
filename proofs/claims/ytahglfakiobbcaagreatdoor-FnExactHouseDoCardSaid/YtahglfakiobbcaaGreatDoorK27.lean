/-
  Texts of this proof, packed (@packed).
-/
import Derived.Test.YtahglfakiobbcaaGreatDoorK6
import Derived.Test.YtahglfakiobbcaaGreatDoorK18
namespace Go.Proofs.YtahglfakiobbcaaGreatDoor
open Go.RowKit
set_option linter.unusedVariables false
set_option linter.unusedSimpArgs false
set_option maxRecDepth 100000 in
set_option maxHeartbeats 4000000 in
theorem aBy (aA aB:Int)(p:Option Addr)(cap:Nat)(f t:Int)(xs:List Int)(w:World)(hn0:4≤xs.length)(hn:xs.length≤12)
  (HV:Hid (∀w',Ext w w'→Calls Tryz.prog 73 #[aK aA aB p xs.length cap] w' fun e w''=>e= .returned (.bool true)∧Ext w' w''))
  (HK:Hid (∀w',Ext w w'→Calls Tryz.prog 77 #[aK aA aB p xs.length cap] w' (cW aA aB xs w')))
  (HM:Hid (∀w',Ext w w'→Calls Tryz.prog 86 #[aK aA aB p xs.length cap,dC f t] w' fun e w''=>e= .returned (.bool false)∧Ext w' w'')):
  Calls Tryz.prog 45 #[aK aA aB p xs.length cap,dC f t] w (bZ aA aB xs false w):=by
 go_enter Tryz.func45,Tryz.ntmps45
 go_wp2_with fail
 refine(HV.out _ (Mem.b3t w).ext).mono ?_
 rintro e w1 ⟨rfl,hx1⟩
 have M1:=xQ (show Mem w w1 [aF w.heap.size (w.heap.size+2) TH3 #[.int .i64 0,.int .i64 0,.slice none 0 0],aF w.heap.size (w.heap.size+1) TSL #[.int .i64 f,.int .i64 t],aF w.heap.size (w.heap.size) TH3 #[.int .i64 aA,.int .i64 aB,.slice p xs.length cap]]from(Mem.b3t w).adv hx1)
 have lt1_0:=M1.out.hi 0
 have lt1_1:=M1.out.hi 1
 have lt1_2:=M1.out.hi 2
 clear hx1
 obtain⟨h0,h1,h2⟩:=((M1.out.blk (i:=2) rfl)).tri
 go_wp2_with fail
 clear h0 h1 h2
 refine(HK.out _ M1.out.ext).mono ?_
 rintro e w2 ⟨q,c2,rfl,ho2,hx2⟩
 have M2:=xQ (show Mem w w2 [aJ w.heap.size TI 1 (q) (xs.length) (c2) (ivs xs),aF w.heap.size (w.heap.size+2) TH3 #[.int .i64 0,.int .i64 0,.slice none 0 0],aF w.heap.size (w.heap.size+1) TSL #[.int .i64 f,.int .i64 t],aF w.heap.size (w.heap.size) TH3 #[.int .i64 aA,.int .i64 aB,.slice p xs.length cap]]from(M1.out).call hx2 ho2)
 clear M1
 clear lt1_0 lt1_1 lt1_2
 have lt2_1:=M2.out.hi 1
 have lt2_2:=M2.out.hi 2
 have lt2_3:=M2.out.hi 3
 clear hx2 ho2
 obtain⟨g,rfl,hg1,hg2⟩:=M2.out.some (i:=0) rfl (by omega)
 obtain⟨h0,h1,h2⟩:=((M2.out.blk (i:=3) rfl)).tri
 have s0:w2.cell? ⟨w.heap.size+1,0,none⟩=some (.int .i64 f):=(M2.out.blk (i:=2) rfl).cell 0
 have s1:w2.cell? ⟨w.heap.size+1,1,none⟩=some (.int .i64 t):=(M2.out.blk (i:=2) rfl).cell 1
 go_wp2_with fail
 clear h0 h1 h2 s0 s1
 refine(HM.out _ (((M2.out).blkNew TH3 #[.int .i64 aA,.int .i64 aB,.slice (some ⟨g,0,none⟩) xs.length c2] (w2.heap.size) (by simp))).ext).mono ?_
 rintro e w3 ⟨rfl,hx3⟩
 have M3:=xQ (show Mem w w3 [aF w.heap.size (w2.heap.size) TH3 #[.int .i64 aA,.int .i64 aB,.slice (some ⟨g,0,none⟩) xs.length c2],aJ w.heap.size TI 1 (some ⟨g,0,none⟩) (xs.length) (c2) (ivs xs),aF w.heap.size (w.heap.size+2) TH3 #[.int .i64 0,.int .i64 0,.slice none 0 0],aF w.heap.size (w.heap.size+1) TSL #[.int .i64 f,.int .i64 t],aF w.heap.size (w.heap.size) TH3 #[.int .i64 aA,.int .i64 aB,.slice p xs.length cap]]from(((M2.out).blkNew TH3 #[.int .i64 aA,.int .i64 aB,.slice (some ⟨g,0,none⟩) xs.length c2] (w2.heap.size) (by simp))).adv hx3)
 clear M2
 clear lt2_1 lt2_2 lt2_3
 have lt3_0:=M3.out.hi 0
 have lt3_2:=M3.out.hi 2
 have lt3_3:=M3.out.hi 3
 have lt3_4:=M3.out.hi 4
 clear hx3
 obtain⟨v0,v1,v2⟩:=((M3.out.blk (i:=0) rfl)).tri
 obtain⟨z0,zf0,z1,zf1,z2,zf2⟩:=((M3.out.blk (i:=2) rfl)).trif
 have ne0_1a: ¬(w2.heap.size=w.heap.size+2):=M3.out.ne (i:=0) (j:=2) (by omega) rfl rfl rfl rfl
 have ne0_1b: ¬(w.heap.size+2=w2.heap.size):=fun h=>ne0_1a h.symm
 go_wp2
 have M4:=xQ (show Mem w ((w3.setCell ⟨w.heap.size+2,0,none⟩ (.int .i64 aA)).setCell ⟨w.heap.size+2,1,none⟩ (.int .i64 aB)) [aF w.heap.size (w2.heap.size) TH3 #[.int .i64 aA,.int .i64 aB,.slice (some ⟨g,0,none⟩) xs.length c2],aJ w.heap.size TI 1 (some ⟨g,0,none⟩) (xs.length) (c2) (ivs xs),aF w.heap.size (w.heap.size+2) TH3 #[.int .i64 aA,.int .i64 aB,.slice none 0 0],aF w.heap.size (w.heap.size+1) TSL #[.int .i64 f,.int .i64 t],aF w.heap.size (w.heap.size) TH3 #[.int .i64 aA,.int .i64 aB,.slice p xs.length cap]]from((((M3.out).store (i:=2) rfl 0 (.int .i64 aA))).store (i:=2) rfl 1 (.int .i64 aB)))
 have M5:=xQ (show Mem w (((w3.setCell ⟨w.heap.size+2,0,none⟩ (.int .i64 aA)).setCell ⟨w.heap.size+2,1,none⟩ (.int .i64 aB)).setCell ⟨w.heap.size+2,2,none⟩ (.slice (some ⟨g,0,none⟩) xs.length c2)) [aF w.heap.size (w2.heap.size) TH3 #[.int .i64 aA,.int .i64 aB,.slice (some ⟨g,0,none⟩) xs.length c2],aJ w.heap.size TI 1 (some ⟨g,0,none⟩) (xs.length) (c2) (ivs xs),aF w.heap.size (w.heap.size+2) TH3 #[.int .i64 aA,.int .i64 aB,.slice (some ⟨g,0,none⟩) xs.length c2],aF w.heap.size (w.heap.size+1) TSL #[.int .i64 f,.int .i64 t],aF w.heap.size (w.heap.size) TH3 #[.int .i64 aA,.int .i64 aB,.slice p xs.length cap]]from((M4.out).store (i:=2) rfl 2 (.slice (some ⟨g,0,none⟩) xs.length c2)))
 have M6:=xQ (show Mem w (((w3.setCell ⟨w.heap.size+2,0,none⟩ (.int .i64 aA)).setCell ⟨w.heap.size+2,1,none⟩ (.int .i64 aB)).setCell ⟨w.heap.size+2,2,none⟩ (.slice (some ⟨g,0,none⟩) xs.length c2)) [aF w.heap.size (w2.heap.size) TH3 #[.int .i64 aA,.int .i64 aB,.slice (some ⟨g,0,none⟩) xs.length c2],aJ w.heap.size TI 1 (some ⟨g,0,none⟩) (xs.length) (c2) (ivs xs),aF w.heap.size (w.heap.size+2) TH3 #[.int .i64 aA,.int .i64 aB,.slice (some ⟨g,0,none⟩) xs.length c2],aF w.heap.size (w.heap.size+1) TSL #[.int .i64 f,.int .i64 t],aF w.heap.size (w.heap.size) TH3 #[.int .i64 aA,.int .i64 aB,.slice p xs.length cap]]from M5.out)
 generalize hwz:World.setCell _ _ _=wz
 rw[hwz]at M6
 clear hwz M3 M4 M5
 clear v0 v1 v2 z0 zf0 z1 zf1 z2 zf2 ne0_1a ne0_1b
 obtain⟨y0,y1,y2⟩:=((M6.out.blk (i:=2) rfl)).tri
 exact bodyPost_ret (v:= .tuple #[.agg #[.int .i64 aA,.int .i64 aB,.slice (some ⟨g,0,none⟩) xs.length c2],.bool false]) (by simp[results,Tryz.results45,go_sem, *]) rfl (dD (by simp) (by exact(M6.out.own (i:=1) rfl)) M6.out.ext)
set_option maxRecDepth 100000 in
set_option maxHeartbeats 4000000 in
theorem zG (aA aB:Int)(cap i j b off:Nat)(x yj:Int)(xs:List Int)(w:World)(hn0:4≤xs.length)(hn:xs.length≤12)(hi:i<xs.length)(hj:j<xs.length)(hij:i≠j)(HX:Hid (xs[i]? =some x)) (HY:Hid (xs[j]? =some yj))
  (hb:b<w.heap.size) (HCX:Hid (w.cell? ⟨b,off+i,none⟩=some (.int .i64 x)))
  (HV:Hid (∀w',Ext w w'→Calls Tryz.prog 73 #[aK aA aB (some ⟨b,off,none⟩) xs.length cap] w' fun e w''=>e= .returned (.bool true)∧Ext w' w''))
  (HK:Hid (∀w',Ext w w'→Calls Tryz.prog 77 #[aK aA aB (some ⟨b,off,none⟩) xs.length cap] w' (cW aA aB xs w')))
  (HM:Hid (∀w',Ext w w'→Calls Tryz.prog 86 #[aK aA aB (some ⟨b,off,none⟩) xs.length cap,dC (i:Int) (j:Int)] w' fun e w''=>e= .returned (.bool true)∧Ext w' w'')):
  Calls Tryz.prog 45 #[aK aA aB (some ⟨b,off,none⟩) xs.length cap,dC (i:Int) (j:Int)] w (bZ aA aB ((xs.set j x).set i 0) true w):=by
 have a1:(0:Int)≤(i:Int):=by omega
 have a2:(0:Int)≤(j:Int):=by omega
 have a3:(i:Int)<(xs.length:Int):=by omega
 have a4:(j:Int)<(xs.length:Int):=by omega
 go_enter Tryz.func45,Tryz.ntmps45
 go_wp2_with fail
 refine(HV.out _ (Mem.b3t w).ext).mono ?_
 rintro e w1 ⟨rfl,hx1⟩
 have M1:=xQ (show Mem w w1 [aF w.heap.size (w.heap.size+2) TH3 #[.int .i64 0,.int .i64 0,.slice none 0 0],aF w.heap.size (w.heap.size+1) TSL #[.int .i64 (i:Int),.int .i64 (j:Int)],aF w.heap.size (w.heap.size) TH3 #[.int .i64 aA,.int .i64 aB,.slice (some ⟨b,off,none⟩) xs.length cap]]from(Mem.b3t w).adv hx1)
 have lt1_0:=M1.out.hi 0
 have lt1_1:=M1.out.hi 1
 have lt1_2:=M1.out.hi 2
 clear hx1
 obtain⟨h0,h1,h2⟩:=((M1.out.blk (i:=2) rfl)).tri
 go_wp2_with fail
 clear h0 h1 h2
 refine(HK.out _ M1.out.ext).mono ?_
 rintro e w2 ⟨q,c2,rfl,ho2,hx2⟩
 have M2:=xQ (show Mem w w2 [aJ w.heap.size TI 1 (q) (xs.length) (c2) (ivs xs),aF w.heap.size (w.heap.size+2) TH3 #[.int .i64 0,.int .i64 0,.slice none 0 0],aF w.heap.size (w.heap.size+1) TSL #[.int .i64 (i:Int),.int .i64 (j:Int)],aF w.heap.size (w.heap.size) TH3 #[.int .i64 aA,.int .i64 aB,.slice (some ⟨b,off,none⟩) xs.length cap]]from(M1.out).call hx2 ho2)
 clear M1
 clear lt1_0 lt1_1 lt1_2
 have lt2_1:=M2.out.hi 1
 have lt2_2:=M2.out.hi 2
 have lt2_3:=M2.out.hi 3
 clear hx2 ho2
 obtain⟨g,rfl,hg1,hg2⟩:=M2.out.some (i:=0) rfl (by omega)
 obtain⟨h0,h1,h2⟩:=((M2.out.blk (i:=3) rfl)).tri
 have s0:w2.cell? ⟨w.heap.size+1,0,none⟩=some (.int .i64 (i:Int)):=(M2.out.blk (i:=2) rfl).cell 0
 have s1:w2.cell? ⟨w.heap.size+1,1,none⟩=some (.int .i64 (j:Int)):=(M2.out.blk (i:=2) rfl).cell 1
 go_wp2_with fail
 clear h0 h1 h2 s0 s1
 refine(HM.out _ (((M2.out).blkNew TH3 #[.int .i64 aA,.int .i64 aB,.slice (some ⟨g,0,none⟩) xs.length c2] (w2.heap.size) (by simp))).ext).mono ?_
 rintro e w3 ⟨rfl,hx3⟩
 have M3:=xQ (show Mem w w3 [aF w.heap.size (w2.heap.size) TH3 #[.int .i64 aA,.int .i64 aB,.slice (some ⟨g,0,none⟩) xs.length c2],aJ w.heap.size TI 1 (some ⟨g,0,none⟩) (xs.length) (c2) (ivs xs),aF w.heap.size (w.heap.size+2) TH3 #[.int .i64 0,.int .i64 0,.slice none 0 0],aF w.heap.size (w.heap.size+1) TSL #[.int .i64 (i:Int),.int .i64 (j:Int)],aF w.heap.size (w.heap.size) TH3 #[.int .i64 aA,.int .i64 aB,.slice (some ⟨b,off,none⟩) xs.length cap]]from(((M2.out).blkNew TH3 #[.int .i64 aA,.int .i64 aB,.slice (some ⟨g,0,none⟩) xs.length c2] (w2.heap.size) (by simp))).adv hx3)
 clear M2
 clear lt2_1 lt2_2 lt2_3
 have lt3_0:=M3.out.hi 0
 have lt3_2:=M3.out.hi 2
 have lt3_3:=M3.out.hi 3
 have lt3_4:=M3.out.hi 4
 clear hx3
 obtain⟨v0,v1,v2⟩:=((M3.out.blk (i:=0) rfl)).tri
 obtain⟨h0,h1,h2⟩:=((M3.out.blk (i:=4) rfl)).tri
 have s0:w3.cell? ⟨w.heap.size+1,0,none⟩=some (.int .i64 (i:Int)):=(M3.out.blk (i:=3) rfl).cell 0
 have s1:w3.cell? ⟨w.heap.size+1,1,none⟩=some (.int .i64 (j:Int)):=(M3.out.blk (i:=3) rfl).cell 1
 have cx:w3.cell? ⟨b,off+i,none⟩=some (.int .i64 x):=(M3.out.ext.cells.1 _ _ hb).trans HCX.out
 have gj:w3.cell? ⟨g,j,none⟩=some (.int .i64 yj):=by have:=(M3.out.own (i:=1) rfl).cellAt j (by omega);rw[this];simpa[ivs]using HY.out
 have gi:w3.cell? ⟨g,i,none⟩=some (.int .i64 x):=by have:=(M3.out.own (i:=1) rfl).cellAt i (by omega);rw[this];simpa[ivs]using HX.out
 have gjf:w3.frozen? ⟨g,j,none⟩=false:=(M3.out.own (i:=1) rfl).frozenAt j
 have gif:w3.frozen? ⟨g,i,none⟩=false:=(M3.out.own (i:=1) rfl).frozenAt i
 have nc0_1a: ¬(w2.heap.size=g):=M3.out.ne (i:=0) (j:=1) (by omega) rfl rfl rfl rfl
 have nc0_1b: ¬(g=w2.heap.size):=fun h=>nc0_1a h.symm
 have nd0_1a: ¬(g=w.heap.size):=M3.out.ne (i:=1) (j:=4) (by omega) rfl rfl rfl rfl
 have nd0_1b: ¬(w.heap.size=g):=fun h=>nd0_1a h.symm
 have nf0_1a: ¬(g=w.heap.size+1):=M3.out.ne (i:=1) (j:=3) (by omega) rfl rfl rfl rfl
 have nf0_1b: ¬(w.heap.size+1=g):=fun h=>nf0_1a h.symm
 have nb1: ¬(g=b):=by have:=M3.out.ext.sz;omega
 have nb2: ¬(b=g):=fun e=>nb1 e.symm
 have nij: ¬(i=j):=hij
 have nji: ¬(j=i):=fun e=>hij e.symm
 go_wp2
 go_region_held3 (fun w'=>w'.cell? ⟨w2.heap.size,2,none⟩=some (.slice (some ⟨g,0,none⟩) xs.length c2)∧w'.cell? ⟨w.heap.size,2,none⟩=some (.slice (some ⟨b,off,none⟩) xs.length cap)∧w'.cell? ⟨w.heap.size+1,0,none⟩=some (.int .i64 (i:Int))∧w'.cell? ⟨w.heap.size+1,1,none⟩=some (.int .i64 (j:Int))∧w'.cell? ⟨b,off+i,none⟩=some (.int .i64 x)) (first|(refine⟨?_,?_,?_,?_,?_⟩<;>assumption)|go_keep) (first|fail)
 clear v0 v1 v2 h0 h1 h2 s0 s1 nc0_1a nc0_1b nd0_1a nd0_1b nf0_1a nf0_1b cx gj gi gjf gif nb1 nb2 nij nji
 have MX:=xQ (show Mem w ((w3.setCell ⟨g,j,none⟩ (.int .i64 x)).setCell ⟨g,i,none⟩ (.int .i64 0)) [aF w.heap.size (w2.heap.size) TH3 #[.int .i64 aA,.int .i64 aB,.slice (some ⟨g,0,none⟩) xs.length c2],aJ w.heap.size TI 1 (some ⟨g,0,none⟩) (xs.length) (c2) (ivs ((xs.set j x).set i 0)),aF w.heap.size (w.heap.size+2) TH3 #[.int .i64 0,.int .i64 0,.slice none 0 0],aF w.heap.size (w.heap.size+1) TSL #[.int .i64 (i:Int),.int .i64 (j:Int)],aF w.heap.size (w.heap.size) TH3 #[.int .i64 aA,.int .i64 aB,.slice (some ⟨b,off,none⟩) xs.length cap]]from by rw[←cZ,←cZ];exact(M3.out.ostore (i:=1) rfl j (.int .i64 x)).ostore (i:=1) rfl i (.int .i64 0))
 have MY:=xQ (MX.out.adv (Ext.drew (Ext.refl _)))
 generalize hw4:World.drew _=w4
 rw[hw4]at MY
 clear hw4 MX M3 lt3_0 lt3_2 lt3_3 lt3_4
 have lt8_0:w2.heap.size<w4.heap.size:=(MY.out.lt (i:=0) rfl rfl).2
 have lt8_2:w.heap.size+2<w4.heap.size:=(MY.out.lt (i:=2) rfl rfl).2
 have lt8_3:w.heap.size+1<w4.heap.size:=(MY.out.lt (i:=3) rfl rfl).2
 have lt8_4:w.heap.size<w4.heap.size:=(MY.out.lt (i:=4) rfl rfl).2
 obtain⟨v0,v1,v2⟩:=((MY.out.blk (i:=0) rfl)).tri
 obtain⟨z0,zf0,z1,zf1,z2,zf2⟩:=((MY.out.blk (i:=2) rfl)).trif
 have ne0_1a: ¬(w2.heap.size=w.heap.size+2):=MY.out.ne (i:=0) (j:=2) (by omega) rfl rfl rfl rfl
 have ne0_1b: ¬(w.heap.size+2=w2.heap.size):=fun h=>ne0_1a h.symm
 go_wp2
 have M9:=xQ (show Mem w ((w4.setCell ⟨w.heap.size+2,0,none⟩ (.int .i64 aA)).setCell ⟨w.heap.size+2,1,none⟩ (.int .i64 aB)) [aF w.heap.size (w2.heap.size) TH3 #[.int .i64 aA,.int .i64 aB,.slice (some ⟨g,0,none⟩) xs.length c2],aJ w.heap.size TI 1 (some ⟨g,0,none⟩) (xs.length) (c2) (ivs ((xs.set j x).set i 0)),aF w.heap.size (w.heap.size+2) TH3 #[.int .i64 aA,.int .i64 aB,.slice none 0 0],aF w.heap.size (w.heap.size+1) TSL #[.int .i64 (i:Int),.int .i64 (j:Int)],aF w.heap.size (w.heap.size) TH3 #[.int .i64 aA,.int .i64 aB,.slice (some ⟨b,off,none⟩) xs.length cap]]from((((MY.out).store (i:=2) rfl 0 (.int .i64 aA))).store (i:=2) rfl 1 (.int .i64 aB)))
 have M10:=xQ (show Mem w (((w4.setCell ⟨w.heap.size+2,0,none⟩ (.int .i64 aA)).setCell ⟨w.heap.size+2,1,none⟩ (.int .i64 aB)).setCell ⟨w.heap.size+2,2,none⟩ (.slice (some ⟨g,0,none⟩) xs.length c2)) [aF w.heap.size (w2.heap.size) TH3 #[.int .i64 aA,.int .i64 aB,.slice (some ⟨g,0,none⟩) xs.length c2],aJ w.heap.size TI 1 (some ⟨g,0,none⟩) (xs.length) (c2) (ivs ((xs.set j x).set i 0)),aF w.heap.size (w.heap.size+2) TH3 #[.int .i64 aA,.int .i64 aB,.slice (some ⟨g,0,none⟩) xs.length c2],aF w.heap.size (w.heap.size+1) TSL #[.int .i64 (i:Int),.int .i64 (j:Int)],aF w.heap.size (w.heap.size) TH3 #[.int .i64 aA,.int .i64 aB,.slice (some ⟨b,off,none⟩) xs.length cap]]from((M9.out).store (i:=2) rfl 2 (.slice (some ⟨g,0,none⟩) xs.length c2)))
 have M11:=xQ (show Mem w (((w4.setCell ⟨w.heap.size+2,0,none⟩ (.int .i64 aA)).setCell ⟨w.heap.size+2,1,none⟩ (.int .i64 aB)).setCell ⟨w.heap.size+2,2,none⟩ (.slice (some ⟨g,0,none⟩) xs.length c2)) [aF w.heap.size (w2.heap.size) TH3 #[.int .i64 aA,.int .i64 aB,.slice (some ⟨g,0,none⟩) xs.length c2],aJ w.heap.size TI 1 (some ⟨g,0,none⟩) (xs.length) (c2) (ivs ((xs.set j x).set i 0)),aF w.heap.size (w.heap.size+2) TH3 #[.int .i64 aA,.int .i64 aB,.slice (some ⟨g,0,none⟩) xs.length c2],aF w.heap.size (w.heap.size+1) TSL #[.int .i64 (i:Int),.int .i64 (j:Int)],aF w.heap.size (w.heap.size) TH3 #[.int .i64 aA,.int .i64 aB,.slice (some ⟨b,off,none⟩) xs.length cap]]from M10.out)
 generalize hwz:World.setCell _ _ _=wz
 rw[hwz]at M11
 clear hwz MY M9 M10
 clear v0 v1 v2 z0 zf0 z1 zf1 z2 zf2 ne0_1a ne0_1b
 obtain⟨y0,y1,y2⟩:=((M11.out.blk (i:=2) rfl)).tri
 exact bodyPost_ret (v:= .tuple #[.agg #[.int .i64 aA,.int .i64 aB,.slice (some ⟨g,0,none⟩) xs.length c2],.bool true]) (by simp[results,Tryz.results45,go_sem, *]) rfl (dD (by simp) (by exact(M11.out.own (i:=1) rfl)) M11.out.ext)
theorem sJ (aA aB f t:Int)(p:Option Addr)(n cap:Nat)(xs:List Int)(w:World)(hS:Sl w p n cap 1 (ivs xs))(hok:aP aA aB xs=true):
  Calls Tryz.prog 45 #[aK aA aB p n cap,dC f t] w (bZ aA aB (bA aA aB xs f t) (aZ aA aB xs f t) w):=by
 have hl:=hS.ilen
 subst hl
 obtain⟨g1,g2,g3,g4,g5,g6,g7,g8,g9⟩:=bL hok
 have HV:=fun(w':World) (hx:Ext w w')=>eR aA aB p xs.length cap xs w' (hS.ext hx)
 rw[hok]at HV
 have HK:=fun(w':World) (hx:Ext w w')=>iS aA aB p xs.length cap xs w' (by omega) (hS.ext hx)
 have HM:=fun(w':World) (hx:Ext w w')=>aG9 aA aB f t p xs.length cap xs w' (hS.ext hx) hok
 unfold bA
 cases h:aZ aA aB xs f t with
 |false=>rw[h]at HM;exact aBy aA aB p cap f t xs w g5 g6 HV HK HM
 |true=>
  rw[h]at HM
  obtain⟨k1,k2,k3,k4,k5,k6,k7,k8,k9⟩:=iO h
  obtain⟨i,rfl⟩: ∃i:Nat,f=(i:Int):=⟨f.toNat,by omega⟩
  obtain⟨j,rfl⟩: ∃j:Nat,t=(j:Int):=⟨t.toNat,by omega⟩
  obtain⟨b,off,rfl,hb,hcc⟩:=hS.rd (by omega)
  have hxi:xs[i]? =some (xs.getD i 0):=by rw[List.getD_eq_getElem?_getD,List.getElem?_eq_getElem (by omega)];rfl
  have hxj:xs[j]? =some (xs.getD j 0):=by rw[List.getD_eq_getElem?_getD,List.getElem?_eq_getElem (by omega)];rfl
  rw[if_pos rfl,Int.toNat_natCast,Int.toNat_natCast]
  exact zG aA aB cap i j b off _ _ xs w g5 g6 (by omega) (by omega) (by omega) hxi hxj hb (xQ (show w.cell? ⟨b,off+i,none⟩=some (.int .i64 (xs.getD i 0)) by rw[hcc i (by omega)];simp only[ivs,List.getElem?_map,hxi,Option.map_some])) HV HK HM
end Go.Proofs.YtahglfakiobbcaaGreatDoor
