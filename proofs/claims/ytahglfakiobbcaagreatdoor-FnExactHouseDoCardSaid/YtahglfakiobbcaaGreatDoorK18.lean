/-
  Texts of this proof, packed (@packed).
-/
import Derived.Test.YtahglfakiobbcaaGreatDoorK5
import Derived.Test.YtahglfakiobbcaaGreatDoorK8
import Derived.Test.YtahglfakiobbcaaGreatDoorK16
import Derived.Test.YtahglfakiobbcaaGreatDoorK17
namespace Go.Proofs.YtahglfakiobbcaaGreatDoor
open Go.RowKit
set_option linter.unusedVariables false
set_option linter.unusedSimpArgs false
set_option maxRecDepth 100000 in
set_option maxHeartbeats 4000000 in
theorem aEb (aA aB c d A:Int)(p:Option Addr)(n cap:Nat)(w:World)(HV:Hid (∀w',Ext w w'→Calls Tryz.prog 73 #[aK aA aB p n cap] w' fun e w''=>e= .returned (.bool true)∧Ext w' w''))(HF:Hid (∀w',Calls Tryz.prog 120 #[aK aA aB p n cap,.int .i64 c] w' fun e w''=>e= .returned (.bool true)∧Ext w' w''))(HT:Hid (∀w',Calls Tryz.prog 120 #[aK aA aB p n cap,.int .i64 d] w' fun e w''=>e= .returned (.bool true)∧Ext w' w''))
  (HA:Hid (∀w',Calls Tryz.prog 121 #[.int .i64 aA,.int .i64 c,.int .i64 d] w' fun e w''=>e= .returned (.int .i64 A)∧Ext w' w'')):
  Calls Tryz.prog 156 #[aK aA aB p n cap,.int .i64 c,.int .i64 d] w fun e w'=>e= .returned (.int .i64 A)∧Ext w w':=by
 go_enter Tryz.func156,Tryz.ntmps156
 go_wp2_with fail
 refine(HV.out _ (Mem.b1 w).ext).mono ?_
 rintro e w1 ⟨rfl,hx1⟩
 have M1:=xQ (show Mem w w1 [aF w.heap.size (w.heap.size) TH3 #[.int .i64 aA,.int .i64 aB,.slice p n cap]]from(Mem.b1 w).adv hx1)
 have lt1_0:=M1.out.hi 0
 clear hx1
 obtain⟨h0,h1,h2⟩:=((M1.out.blk (i:=0) rfl)).tri
 go_wp2_with fail
 clear h0 h1 h2
 refine(HF.out _).mono ?_
 rintro e w2 ⟨rfl,hx2⟩
 have M2:=xQ (show Mem w w2 [aF w.heap.size (w.heap.size) TH3 #[.int .i64 aA,.int .i64 aB,.slice p n cap]]from(M1.out).adv hx2)
 clear M1
 clear lt1_0
 have lt2_0:=M2.out.hi 0
 clear hx2
 obtain⟨h0,h1,h2⟩:=((M2.out.blk (i:=0) rfl)).tri
 go_wp2_with fail
 clear h0 h1 h2
 refine(HT.out _).mono ?_
 rintro e w3 ⟨rfl,hx3⟩
 have M3:=xQ (show Mem w w3 [aF w.heap.size (w.heap.size) TH3 #[.int .i64 aA,.int .i64 aB,.slice p n cap]]from(M2.out).adv hx3)
 clear M2
 clear lt2_0
 have lt3_0:=M3.out.hi 0
 clear hx3
 obtain⟨h0,h1,h2⟩:=((M3.out.blk (i:=0) rfl)).tri
 go_wp2_with fail
 clear h0 h1 h2
 refine(HA.out _).mono ?_
 rintro e w4 ⟨rfl,hx4⟩
 have M4:=xQ (show Mem w w4 [aF w.heap.size (w.heap.size) TH3 #[.int .i64 aA,.int .i64 aB,.slice p n cap]]from(M3.out).adv hx4)
 clear M3
 clear lt3_0
 have lt4_0:=M4.out.hi 0
 clear hx4
 go_wp2
 go_ret
 exact⟨rfl,M4.out.ext⟩
set_option maxRecDepth 100000 in
set_option maxHeartbeats 4000000 in
theorem aBx (aA aB f t:Int)(p:Option Addr)(n cap:Nat)(w:World)(HV:Hid (∀w',Ext w w'→Calls Tryz.prog 73 #[aK aA aB p n cap] w' fun e w''=>e= .returned (.bool true)∧Ext w' w''))(HF:Hid (∀w',Calls Tryz.prog 120 #[aK aA aB p n cap,.int .i64 f] w' fun e w''=>e= .returned (.bool false)∧Ext w' w'')):
  Calls Tryz.prog 86 #[aK aA aB p n cap,dC f t] w fun e w'=>e= .returned (.bool false)∧Ext w w':=by
 go_enter Tryz.func86,Tryz.ntmps86
 go_wp2_with fail
 refine(HV.out _ (Mem.b2 w).ext).mono ?_
 rintro e w1 ⟨rfl,hx1⟩
 have M1:=xQ (show Mem w w1 [aF w.heap.size (w.heap.size+1) TSL #[.int .i64 f,.int .i64 t],aF w.heap.size (w.heap.size) TH3 #[.int .i64 aA,.int .i64 aB,.slice p n cap]]from(Mem.b2 w).adv hx1)
 have lt1_0:=M1.out.hi 0
 have lt1_1:=M1.out.hi 1
 clear hx1
 obtain⟨h0,h1,h2⟩:=((M1.out.blk (i:=1) rfl)).tri
 have s0:w1.cell? ⟨w.heap.size+1,0,none⟩=some (.int .i64 f):=(M1.out.blk (i:=0) rfl).cell 0
 have s1:w1.cell? ⟨w.heap.size+1,1,none⟩=some (.int .i64 t):=(M1.out.blk (i:=0) rfl).cell 1
 go_wp2_with fail
 clear h0 h1 h2 s0 s1
 refine(HF.out _).mono ?_
 rintro e w2 ⟨rfl,hx2⟩
 have M2:=xQ (show Mem w w2 [aF w.heap.size (w.heap.size+1) TSL #[.int .i64 f,.int .i64 t],aF w.heap.size (w.heap.size) TH3 #[.int .i64 aA,.int .i64 aB,.slice p n cap]]from(M1.out).adv hx2)
 clear M1
 clear lt1_0 lt1_1
 have lt2_0:=M2.out.hi 0
 have lt2_1:=M2.out.hi 1
 clear hx2
 obtain⟨h0,h1,h2⟩:=((M2.out.blk (i:=1) rfl)).tri
 have s0:w2.cell? ⟨w.heap.size+1,0,none⟩=some (.int .i64 f):=(M2.out.blk (i:=0) rfl).cell 0
 have s1:w2.cell? ⟨w.heap.size+1,1,none⟩=some (.int .i64 t):=(M2.out.blk (i:=0) rfl).cell 1
 go_wp2
 go_ret
 exact⟨rfl,M2.out.ext⟩
set_option maxRecDepth 100000 in
set_option maxHeartbeats 4000000 in
theorem aBw (aA aB f t:Int)(p:Option Addr)(n cap:Nat)(w:World)(HV:Hid (∀w',Ext w w'→Calls Tryz.prog 73 #[aK aA aB p n cap] w' fun e w''=>e= .returned (.bool true)∧Ext w' w''))(HF:Hid (∀w',Calls Tryz.prog 120 #[aK aA aB p n cap,.int .i64 f] w' fun e w''=>e= .returned (.bool true)∧Ext w' w''))(HT:Hid (∀w',Calls Tryz.prog 120 #[aK aA aB p n cap,.int .i64 t] w' fun e w''=>e= .returned (.bool false)∧Ext w' w'')):
  Calls Tryz.prog 86 #[aK aA aB p n cap,dC f t] w fun e w'=>e= .returned (.bool false)∧Ext w w':=by
 go_enter Tryz.func86,Tryz.ntmps86
 go_wp2_with fail
 refine(HV.out _ (Mem.b2 w).ext).mono ?_
 rintro e w1 ⟨rfl,hx1⟩
 have M1:=xQ (show Mem w w1 [aF w.heap.size (w.heap.size+1) TSL #[.int .i64 f,.int .i64 t],aF w.heap.size (w.heap.size) TH3 #[.int .i64 aA,.int .i64 aB,.slice p n cap]]from(Mem.b2 w).adv hx1)
 have lt1_0:=M1.out.hi 0
 have lt1_1:=M1.out.hi 1
 clear hx1
 obtain⟨h0,h1,h2⟩:=((M1.out.blk (i:=1) rfl)).tri
 have s0:w1.cell? ⟨w.heap.size+1,0,none⟩=some (.int .i64 f):=(M1.out.blk (i:=0) rfl).cell 0
 have s1:w1.cell? ⟨w.heap.size+1,1,none⟩=some (.int .i64 t):=(M1.out.blk (i:=0) rfl).cell 1
 go_wp2_with fail
 clear h0 h1 h2 s0 s1
 refine(HF.out _).mono ?_
 rintro e w2 ⟨rfl,hx2⟩
 have M2:=xQ (show Mem w w2 [aF w.heap.size (w.heap.size+1) TSL #[.int .i64 f,.int .i64 t],aF w.heap.size (w.heap.size) TH3 #[.int .i64 aA,.int .i64 aB,.slice p n cap]]from(M1.out).adv hx2)
 clear M1
 clear lt1_0 lt1_1
 have lt2_0:=M2.out.hi 0
 have lt2_1:=M2.out.hi 1
 clear hx2
 obtain⟨h0,h1,h2⟩:=((M2.out.blk (i:=1) rfl)).tri
 have s0:w2.cell? ⟨w.heap.size+1,0,none⟩=some (.int .i64 f):=(M2.out.blk (i:=0) rfl).cell 0
 have s1:w2.cell? ⟨w.heap.size+1,1,none⟩=some (.int .i64 t):=(M2.out.blk (i:=0) rfl).cell 1
 go_wp2_with fail
 clear h0 h1 h2 s0 s1
 refine(HT.out _).mono ?_
 rintro e w3 ⟨rfl,hx3⟩
 have M3:=xQ (show Mem w w3 [aF w.heap.size (w.heap.size+1) TSL #[.int .i64 f,.int .i64 t],aF w.heap.size (w.heap.size) TH3 #[.int .i64 aA,.int .i64 aB,.slice p n cap]]from(M2.out).adv hx3)
 clear M2
 clear lt2_0 lt2_1
 have lt3_0:=M3.out.hi 0
 have lt3_1:=M3.out.hi 1
 clear hx3
 obtain⟨h0,h1,h2⟩:=((M3.out.blk (i:=1) rfl)).tri
 have s0:w3.cell? ⟨w.heap.size+1,0,none⟩=some (.int .i64 f):=(M3.out.blk (i:=0) rfl).cell 0
 have s1:w3.cell? ⟨w.heap.size+1,1,none⟩=some (.int .i64 t):=(M3.out.blk (i:=0) rfl).cell 1
 go_wp2
 go_ret
 exact⟨rfl,M3.out.ext⟩
set_option maxRecDepth 100000 in
set_option maxHeartbeats 4000000 in
theorem aBv (aA aB:Int)(b off n cap i j:Nat)(x y:Int)(w:World)(hi:i<n)(hj:j<n)(hb:b<w.heap.size)(HCX:Hid (w.cell? ⟨b,off+i,none⟩=some (.int .i64 x)))(HCY:Hid (w.cell? ⟨b,off+j,none⟩=some (.int .i64 y)))(d1:(x !=0)=false)(HV:Hid (∀w',Ext w w'→Calls Tryz.prog 73 #[aK aA aB (some ⟨b,off,none⟩) n cap] w' fun e w''=>e= .returned (.bool true)∧Ext w' w''))(HF:Hid (∀w',Calls Tryz.prog 120 #[aK aA aB (some ⟨b,off,none⟩) n cap,.int .i64 (i:Int)] w' fun e w''=>e= .returned (.bool true)∧Ext w' w''))(HT:Hid (∀w',Calls Tryz.prog 120 #[aK aA aB (some ⟨b,off,none⟩) n cap,.int .i64 (j:Int)] w' fun e w''=>e= .returned (.bool true)∧Ext w' w'')):
  Calls Tryz.prog 86 #[aK aA aB (some ⟨b,off,none⟩) n cap,dC (i:Int) (j:Int)] w fun e w'=>e= .returned (.bool false)∧Ext w w':=by
 have a1:(0:Int)≤(i:Int):=by omega
 have a2:(0:Int)≤(j:Int):=by omega
 have a3:(i:Int)<(n:Int):=by omega
 have a4:(j:Int)<(n:Int):=by omega
 go_enter Tryz.func86,Tryz.ntmps86
 go_wp2_with fail
 refine(HV.out _ (Mem.b2 w).ext).mono ?_
 rintro e w1 ⟨rfl,hx1⟩
 have M1:=xQ (show Mem w w1 [aF w.heap.size (w.heap.size+1) TSL #[.int .i64 (i:Int),.int .i64 (j:Int)],aF w.heap.size (w.heap.size) TH3 #[.int .i64 aA,.int .i64 aB,.slice (some ⟨b,off,none⟩) n cap]]from(Mem.b2 w).adv hx1)
 have lt1_0:=M1.out.hi 0
 have lt1_1:=M1.out.hi 1
 clear hx1
 obtain⟨h0,h1,h2⟩:=((M1.out.blk (i:=1) rfl)).tri
 have s0:w1.cell? ⟨w.heap.size+1,0,none⟩=some (.int .i64 (i:Int)):=(M1.out.blk (i:=0) rfl).cell 0
 have s1:w1.cell? ⟨w.heap.size+1,1,none⟩=some (.int .i64 (j:Int)):=(M1.out.blk (i:=0) rfl).cell 1
 go_wp2_with fail
 clear h0 h1 h2 s0 s1
 refine(HF.out _).mono ?_
 rintro e w2 ⟨rfl,hx2⟩
 have M2:=xQ (show Mem w w2 [aF w.heap.size (w.heap.size+1) TSL #[.int .i64 (i:Int),.int .i64 (j:Int)],aF w.heap.size (w.heap.size) TH3 #[.int .i64 aA,.int .i64 aB,.slice (some ⟨b,off,none⟩) n cap]]from(M1.out).adv hx2)
 clear M1
 clear lt1_0 lt1_1
 have lt2_0:=M2.out.hi 0
 have lt2_1:=M2.out.hi 1
 clear hx2
 obtain⟨h0,h1,h2⟩:=((M2.out.blk (i:=1) rfl)).tri
 have s0:w2.cell? ⟨w.heap.size+1,0,none⟩=some (.int .i64 (i:Int)):=(M2.out.blk (i:=0) rfl).cell 0
 have s1:w2.cell? ⟨w.heap.size+1,1,none⟩=some (.int .i64 (j:Int)):=(M2.out.blk (i:=0) rfl).cell 1
 go_wp2_with fail
 clear h0 h1 h2 s0 s1
 refine(HT.out _).mono ?_
 rintro e w3 ⟨rfl,hx3⟩
 have M3:=xQ (show Mem w w3 [aF w.heap.size (w.heap.size+1) TSL #[.int .i64 (i:Int),.int .i64 (j:Int)],aF w.heap.size (w.heap.size) TH3 #[.int .i64 aA,.int .i64 aB,.slice (some ⟨b,off,none⟩) n cap]]from(M2.out).adv hx3)
 clear M2
 clear lt2_0 lt2_1
 have lt3_0:=M3.out.hi 0
 have lt3_1:=M3.out.hi 1
 clear hx3
 obtain⟨h0,h1,h2⟩:=((M3.out.blk (i:=1) rfl)).tri
 have s0:w3.cell? ⟨w.heap.size+1,0,none⟩=some (.int .i64 (i:Int)):=(M3.out.blk (i:=0) rfl).cell 0
 have s1:w3.cell? ⟨w.heap.size+1,1,none⟩=some (.int .i64 (j:Int)):=(M3.out.blk (i:=0) rfl).cell 1
 have g1:w3.cell? ⟨b,off+i,none⟩=some (.int .i64 x):=(M3.out.ext.cells.1 _ _ hb).trans HCX.out
 have g2:w3.cell? ⟨b,off+j,none⟩=some (.int .i64 y):=(M3.out.ext.cells.1 _ _ hb).trans HCY.out
 go_wp2
 go_ret
 exact⟨rfl,M3.out.ext⟩
set_option maxRecDepth 100000 in
set_option maxHeartbeats 4000000 in
theorem aBu (aA aB:Int)(b off n cap i j:Nat)(x y:Int)(w:World)(hi:i<n)(hj:j<n)(hb:b<w.heap.size)(HCX:Hid (w.cell? ⟨b,off+i,none⟩=some (.int .i64 x)))(HCY:Hid (w.cell? ⟨b,off+j,none⟩=some (.int .i64 y)))(d1:(x !=0)=true)(d2:(y==0)=false)(HV:Hid (∀w',Ext w w'→Calls Tryz.prog 73 #[aK aA aB (some ⟨b,off,none⟩) n cap] w' fun e w''=>e= .returned (.bool true)∧Ext w' w''))(HF:Hid (∀w',Calls Tryz.prog 120 #[aK aA aB (some ⟨b,off,none⟩) n cap,.int .i64 (i:Int)] w' fun e w''=>e= .returned (.bool true)∧Ext w' w''))(HT:Hid (∀w',Calls Tryz.prog 120 #[aK aA aB (some ⟨b,off,none⟩) n cap,.int .i64 (j:Int)] w' fun e w''=>e= .returned (.bool true)∧Ext w' w'')):
  Calls Tryz.prog 86 #[aK aA aB (some ⟨b,off,none⟩) n cap,dC (i:Int) (j:Int)] w fun e w'=>e= .returned (.bool false)∧Ext w w':=by
 have a1:(0:Int)≤(i:Int):=by omega
 have a2:(0:Int)≤(j:Int):=by omega
 have a3:(i:Int)<(n:Int):=by omega
 have a4:(j:Int)<(n:Int):=by omega
 go_enter Tryz.func86,Tryz.ntmps86
 go_wp2_with fail
 refine(HV.out _ (Mem.b2 w).ext).mono ?_
 rintro e w1 ⟨rfl,hx1⟩
 have M1:=xQ (show Mem w w1 [aF w.heap.size (w.heap.size+1) TSL #[.int .i64 (i:Int),.int .i64 (j:Int)],aF w.heap.size (w.heap.size) TH3 #[.int .i64 aA,.int .i64 aB,.slice (some ⟨b,off,none⟩) n cap]]from(Mem.b2 w).adv hx1)
 have lt1_0:=M1.out.hi 0
 have lt1_1:=M1.out.hi 1
 clear hx1
 obtain⟨h0,h1,h2⟩:=((M1.out.blk (i:=1) rfl)).tri
 have s0:w1.cell? ⟨w.heap.size+1,0,none⟩=some (.int .i64 (i:Int)):=(M1.out.blk (i:=0) rfl).cell 0
 have s1:w1.cell? ⟨w.heap.size+1,1,none⟩=some (.int .i64 (j:Int)):=(M1.out.blk (i:=0) rfl).cell 1
 go_wp2_with fail
 clear h0 h1 h2 s0 s1
 refine(HF.out _).mono ?_
 rintro e w2 ⟨rfl,hx2⟩
 have M2:=xQ (show Mem w w2 [aF w.heap.size (w.heap.size+1) TSL #[.int .i64 (i:Int),.int .i64 (j:Int)],aF w.heap.size (w.heap.size) TH3 #[.int .i64 aA,.int .i64 aB,.slice (some ⟨b,off,none⟩) n cap]]from(M1.out).adv hx2)
 clear M1
 clear lt1_0 lt1_1
 have lt2_0:=M2.out.hi 0
 have lt2_1:=M2.out.hi 1
 clear hx2
 obtain⟨h0,h1,h2⟩:=((M2.out.blk (i:=1) rfl)).tri
 have s0:w2.cell? ⟨w.heap.size+1,0,none⟩=some (.int .i64 (i:Int)):=(M2.out.blk (i:=0) rfl).cell 0
 have s1:w2.cell? ⟨w.heap.size+1,1,none⟩=some (.int .i64 (j:Int)):=(M2.out.blk (i:=0) rfl).cell 1
 go_wp2_with fail
 clear h0 h1 h2 s0 s1
 refine(HT.out _).mono ?_
 rintro e w3 ⟨rfl,hx3⟩
 have M3:=xQ (show Mem w w3 [aF w.heap.size (w.heap.size+1) TSL #[.int .i64 (i:Int),.int .i64 (j:Int)],aF w.heap.size (w.heap.size) TH3 #[.int .i64 aA,.int .i64 aB,.slice (some ⟨b,off,none⟩) n cap]]from(M2.out).adv hx3)
 clear M2
 clear lt2_0 lt2_1
 have lt3_0:=M3.out.hi 0
 have lt3_1:=M3.out.hi 1
 clear hx3
 obtain⟨h0,h1,h2⟩:=((M3.out.blk (i:=1) rfl)).tri
 have s0:w3.cell? ⟨w.heap.size+1,0,none⟩=some (.int .i64 (i:Int)):=(M3.out.blk (i:=0) rfl).cell 0
 have s1:w3.cell? ⟨w.heap.size+1,1,none⟩=some (.int .i64 (j:Int)):=(M3.out.blk (i:=0) rfl).cell 1
 have g1:w3.cell? ⟨b,off+i,none⟩=some (.int .i64 x):=(M3.out.ext.cells.1 _ _ hb).trans HCX.out
 have g2:w3.cell? ⟨b,off+j,none⟩=some (.int .i64 y):=(M3.out.ext.cells.1 _ _ hb).trans HCY.out
 go_wp2
 go_ret
 exact⟨rfl,M3.out.ext⟩
set_option maxRecDepth 100000 in
set_option maxHeartbeats 4000000 in
theorem aE1 (aA aB:Int)(b off n cap i j:Nat)(x y A:Int)(w:World)(hi:i<n)(hj:j<n)(hb:b<w.heap.size)(HCX:Hid (w.cell? ⟨b,off+i,none⟩=some (.int .i64 x)))(HCY:Hid (w.cell? ⟨b,off+j,none⟩=some (.int .i64 y)))(d1:(x !=0)=true)(d2:(y==0)=true)(HV:Hid (∀w',Ext w w'→Calls Tryz.prog 73 #[aK aA aB (some ⟨b,off,none⟩) n cap] w' fun e w''=>e= .returned (.bool true)∧Ext w' w''))(HF:Hid (∀w',Calls Tryz.prog 120 #[aK aA aB (some ⟨b,off,none⟩) n cap,.int .i64 (i:Int)] w' fun e w''=>e= .returned (.bool true)∧Ext w' w''))(HT:Hid (∀w',Calls Tryz.prog 120 #[aK aA aB (some ⟨b,off,none⟩) n cap,.int .i64 (j:Int)] w' fun e w''=>e= .returned (.bool true)∧Ext w' w''))(HA:Hid (∀w',Calls Tryz.prog 121 #[.int .i64 aA,.int .i64 (i:Int),.int .i64 (j:Int)] w' fun e w''=>e= .returned (.int .i64 A)∧Ext w' w'')):
  Calls Tryz.prog 86 #[aK aA aB (some ⟨b,off,none⟩) n cap,dC (i:Int) (j:Int)] w fun e w'=>e= .returned (.bool (A==1))∧Ext w w':=by
 have a1:(0:Int)≤(i:Int):=by omega
 have a2:(0:Int)≤(j:Int):=by omega
 have a3:(i:Int)<(n:Int):=by omega
 have a4:(j:Int)<(n:Int):=by omega
 go_enter Tryz.func86,Tryz.ntmps86
 go_wp2_with fail
 refine(HV.out _ (Mem.b2 w).ext).mono ?_
 rintro e w1 ⟨rfl,hx1⟩
 have M1:=xQ (show Mem w w1 [aF w.heap.size (w.heap.size+1) TSL #[.int .i64 (i:Int),.int .i64 (j:Int)],aF w.heap.size (w.heap.size) TH3 #[.int .i64 aA,.int .i64 aB,.slice (some ⟨b,off,none⟩) n cap]]from(Mem.b2 w).adv hx1)
 have lt1_0:=M1.out.hi 0
 have lt1_1:=M1.out.hi 1
 clear hx1
 obtain⟨h0,h1,h2⟩:=((M1.out.blk (i:=1) rfl)).tri
 have s0:w1.cell? ⟨w.heap.size+1,0,none⟩=some (.int .i64 (i:Int)):=(M1.out.blk (i:=0) rfl).cell 0
 have s1:w1.cell? ⟨w.heap.size+1,1,none⟩=some (.int .i64 (j:Int)):=(M1.out.blk (i:=0) rfl).cell 1
 go_wp2_with fail
 clear h0 h1 h2 s0 s1
 refine(HF.out _).mono ?_
 rintro e w2 ⟨rfl,hx2⟩
 have M2:=xQ (show Mem w w2 [aF w.heap.size (w.heap.size+1) TSL #[.int .i64 (i:Int),.int .i64 (j:Int)],aF w.heap.size (w.heap.size) TH3 #[.int .i64 aA,.int .i64 aB,.slice (some ⟨b,off,none⟩) n cap]]from(M1.out).adv hx2)
 clear M1
 clear lt1_0 lt1_1
 have lt2_0:=M2.out.hi 0
 have lt2_1:=M2.out.hi 1
 clear hx2
 obtain⟨h0,h1,h2⟩:=((M2.out.blk (i:=1) rfl)).tri
 have s0:w2.cell? ⟨w.heap.size+1,0,none⟩=some (.int .i64 (i:Int)):=(M2.out.blk (i:=0) rfl).cell 0
 have s1:w2.cell? ⟨w.heap.size+1,1,none⟩=some (.int .i64 (j:Int)):=(M2.out.blk (i:=0) rfl).cell 1
 go_wp2_with fail
 clear h0 h1 h2 s0 s1
 refine(HT.out _).mono ?_
 rintro e w3 ⟨rfl,hx3⟩
 have M3:=xQ (show Mem w w3 [aF w.heap.size (w.heap.size+1) TSL #[.int .i64 (i:Int),.int .i64 (j:Int)],aF w.heap.size (w.heap.size) TH3 #[.int .i64 aA,.int .i64 aB,.slice (some ⟨b,off,none⟩) n cap]]from(M2.out).adv hx3)
 clear M2
 clear lt2_0 lt2_1
 have lt3_0:=M3.out.hi 0
 have lt3_1:=M3.out.hi 1
 clear hx3
 obtain⟨h0,h1,h2⟩:=((M3.out.blk (i:=1) rfl)).tri
 have s0:w3.cell? ⟨w.heap.size+1,0,none⟩=some (.int .i64 (i:Int)):=(M3.out.blk (i:=0) rfl).cell 0
 have s1:w3.cell? ⟨w.heap.size+1,1,none⟩=some (.int .i64 (j:Int)):=(M3.out.blk (i:=0) rfl).cell 1
 have g1:w3.cell? ⟨b,off+i,none⟩=some (.int .i64 x):=(M3.out.ext.cells.1 _ _ hb).trans HCX.out
 have g2:w3.cell? ⟨b,off+j,none⟩=some (.int .i64 y):=(M3.out.ext.cells.1 _ _ hb).trans HCY.out
 go_wp2_with fail
 clear h0 h1 h2 s0 s1 g1 g2
 refine(HA.out _).mono ?_
 rintro e w4 ⟨rfl,hx4⟩
 have M4:=xQ (show Mem w w4 [aF w.heap.size (w.heap.size+1) TSL #[.int .i64 (i:Int),.int .i64 (j:Int)],aF w.heap.size (w.heap.size) TH3 #[.int .i64 aA,.int .i64 aB,.slice (some ⟨b,off,none⟩) n cap]]from(M3.out).adv hx4)
 clear M3
 clear lt3_0 lt3_1
 have lt4_0:=M4.out.hi 0
 have lt4_1:=M4.out.hi 1
 clear hx4
 go_wp2
 go_ret
 exact⟨rfl,M4.out.ext⟩
theorem aGh (aA aB:Int)(c d:Nat)(p:Option Addr)(n cap:Nat)(xs:List Int)(w:World)(hS:Sl w p n cap 1 (ivs xs))(hok:aP aA aB xs=true)(hc:c<n)(hd:d<n):
  Calls Tryz.prog 156 #[aK aA aB p n cap,.int .i64 (c:Int),.int .i64 (d:Int)] w fun e w'=>e= .returned (.int .i64 (aV aA c d))∧Ext w w':=by
 have hl:=hS.ilen
 obtain⟨g1,g2,g3,g4,g5,g6,g7,g8,g9⟩:=bL hok
 have HH: ∀(k:Nat),k<n→ ∀w',Calls Tryz.prog 120 #[aK aA aB p n cap,.int .i64 (k:Int)] w' fun e w''=>e= .returned (.bool true)∧Ext w' w'':=fun k hk w'=>by
  have:=fT aA aB k p n cap w' (by omega)
  rwa[decide_eq_true (⟨by omega,by omega⟩:0≤(k:Int)∧(k:Int)<n)]at this
 exact aEb aA aB c d _ p n cap w (fun w' hx=>by have:=eR aA aB p n cap xs w' (hS.ext hx);rwa[hok]at this) (HH c hc) (HH d hd) (fun w'=>jH aA c d w' (by omega) (by omega) (by omega) (by omega) (by omega) (by omega))
theorem aG9 (aA aB f t:Int)(p:Option Addr)(n cap:Nat)(xs:List Int)(w:World)(hS:Sl w p n cap 1 (ivs xs))(hok:aP aA aB xs=true):
  Calls Tryz.prog 86 #[aK aA aB p n cap,dC f t] w fun e w'=>e= .returned (.bool (aZ aA aB xs f t))∧Ext w w':=by
 have hl:=hS.ilen
 obtain⟨g1,g2,g3,g4,g5,g6,g7,g8,g9⟩:=bL hok
 have HV: ∀w',Ext w w'→Calls Tryz.prog 73 #[aK aA aB p n cap] w' fun e w''=>e= .returned (.bool true)∧Ext w' w'':=fun w' hx=>by
  have:=eR aA aB p n cap xs w' (hS.ext hx);rwa[hok]at this
 have HH: ∀(c:Int) w',Calls Tryz.prog 120 #[aK aA aB p n cap,.int .i64 c] w' fun e w''=>e= .returned (.bool (decide (0≤c∧c<n)))∧Ext w' w'':=fun c w'=>fT aA aB c p n cap w' (by omega)
 by_cases hf:0≤f∧f<n
 ·have HF:=HH f
  rw[decide_eq_true hf]at HF
  by_cases ht:0≤t∧t<n
  ·have HT:=HH t
   rw[decide_eq_true ht]at HT
   obtain⟨i,rfl⟩: ∃i:Nat,f=(i:Int):=⟨f.toNat,by omega⟩
   obtain⟨j,rfl⟩: ∃j:Nat,t=(j:Int):=⟨t.toNat,by omega⟩
   have hi:i<n:=by omega
   have hj:j<n:=by omega
   obtain⟨b,off,rfl,hb,hcc⟩:=hS.rd (by omega)
   have hxi:xs[i]? =some (xs.getD i 0):=by rw[List.getD_eq_getElem?_getD,List.getElem?_eq_getElem (by omega)];rfl
   have hxj:xs[j]? =some (xs.getD j 0):=by rw[List.getD_eq_getElem?_getD,List.getElem?_eq_getElem (by omega)];rfl
   have hcx:w.cell? ⟨b,off+i,none⟩=some (.int .i64 (xs.getD i 0)):=by rw[hcc i (by omega)];simp only[ivs,List.getElem?_map,hxi,Option.map_some]
   have hcy:w.cell? ⟨b,off+j,none⟩=some (.int .i64 (xs.getD j 0)):=by rw[hcc j (by omega)];simp only[ivs,List.getElem?_map,hxj,Option.map_some]
   have hpos:0≤xs.getD i 0:=kV hok i
   have hca:cN aA aB xs (i:Int) (j:Int)=aV aA i j:=by unfold cN;rw[if_pos ⟨hok,⟨by omega,by omega⟩,by omega,by omega⟩]
   unfold aZ
   rw[hca,Int.toNat_natCast,Int.toNat_natCast]
   clear hxi hxj
   generalize xs.getD i 0=x at*
   generalize xs.getD j 0=y at*
   by_cases hx0:x=0
   ·subst hx0
    rw[show(decide (aV aA (i:Int) j=1)&&decide (0<(0:Int))&&decide (y=0))=false by simp]
    exact aBv aA aB b off n cap i j _ _ w hi hj hb hcx hcy (by simp) HV HF HT
   ·have d1:(x !=0)=true:=by simp[hx0]
    by_cases hy0:y=0
    ·subst hy0
     rw[show(decide (aV aA (i:Int) j=1)&&decide (0<x)&&decide ((0:Int)=0))=(aV aA (i:Int) j==1) by
      rw[decide_eq_true (show 0<x by omega)];by_cases ha:aV aA (i:Int) j=1<;>simp[ha]]
     exact aE1 aA aB b off n cap i j _ _ _ w hi hj hb hcx hcy d1 (by simp) HV HF HT (fun w'=>jH aA i j w' (by omega) (by omega) (by omega) (by omega) (by omega) (by omega))
    ·rw[show(decide (aV aA (i:Int) j=1)&&decide (0<x)&&decide (y=0))=false by simp[hy0]]
     exact aBu aA aB b off n cap i j _ _ w hi hj hb hcx hcy d1 (by simp[hy0]) HV HF HT
  ·have HT:=HH t
   rw[decide_eq_false ht]at HT
   rw[show aZ aA aB xs f t=false by
    cases h:aZ aA aB xs f t with
    |false=>rfl
    |true=>
     unfold aZ at h;simp only[Bool.and_eq_true,decide_eq_true_eq]at h
     have:=gG h.1.1;omega]
   exact aBw aA aB f t p n cap w HV HF HT
 ·have HF:=HH f
  rw[decide_eq_false hf]at HF
  rw[show aZ aA aB xs f t=false by
   cases h:aZ aA aB xs f t with
   |false=>rfl
   |true=>
    unfold aZ at h;simp only[Bool.and_eq_true,decide_eq_true_eq]at h
    have:=gG h.1.1;omega]
  exact aBx aA aB f t p n cap w HV HF
set_option maxRecDepth 100000 in
set_option maxHeartbeats 4000000 in
theorem aA4 (q:Option Addr)(m c2:Nat)(xs:List Int)(w:World)(hm:m≤1000)(hS:Sl w q m c2 1 (ivs xs)):
  Calls Tryz.prog 108 #[.slice q m c2] w fun e w'=> ∃q' c',e= .returned (.slice q' m c')∧w'.ownsRow w.heap.size TI 1 (.slice q' m c') m (ivs xs)∧Ext w w':=by
 cases q with
 |none=>
  have h0:m=0:=by
   by_cases h:0<m
   ·obtain⟨b,off,e,_⟩:=hS.rd h;cases e
   ·omega
  subst h0
  have hxs:ivs xs= []:=List.eq_nil_of_length_eq_zero (by have:=hS.len;simpa using this)
  have q22: ∀(w:World) (a:Option Addr) (n c n' c':Nat),(binOp .eql 22 (.slice a n c) (.slice none n' c')).run Tryz.prog w= .ok (.bool a.isNone) w:=fun w a n c n' c'=>Lib.run_eql_slice_nil w _ _ a n c n' c' Tryz.underlying22
  clear hS
  go_enter Tryz.func108,Tryz.ntmps108
  go_wp2
  go_ret
  exact⟨none,0,rfl,by rw[hxs];exact World.ownsRow_nil _ _ _ _,Ext.refl _⟩
 |some a=>
  have HS:=xQ hS
  have MS:=xQ ((Mem.start w).made0 TI 1 (w.heap.size) (by simp))
  have q22: ∀(w:World) (a:Option Addr) (n c n' c':Nat),(binOp .eql 22 (.slice a n c) (.slice none n' c')).run Tryz.prog w= .ok (.bool a.isNone) w:=fun w a n c n' c'=>Lib.run_eql_slice_nil w _ _ a n c n' c' Tryz.underlying22
  clear hS
  go_enter Tryz.func108,Tryz.ntmps108
  go_wp2_with (at_builtin;go_loud (refine cJ eT rfl _ _ rfl MS.out 0 rfl rfl (ivs xs) rfl (HS.out.ext ((Ext.refl _).alloc _)) (lH xs) (by omega) ?_;intro q7 c7 w6 M6))
  have M7:=xQ (show Mem w w6 [aJ w.heap.size TI 1 q7 m c7 (ivs xs)]from by simpa using M6)
  clear M6
  go_wp2
  go_ret
  exact⟨q7,c7,rfl,M7.out.own (i:=0) rfl,M7.out.ext⟩
set_option maxRecDepth 100000 in
set_option maxHeartbeats 4000000 in
theorem iS (aA aB:Int)(p:Option Addr)(n cap:Nat)(xs:List Int)(w:World)(hn:n≤1000)(hS:Sl w p n cap 1 (ivs xs)):
  Calls Tryz.prog 77 #[aK aA aB p n cap] w (cW aA aB xs w):=by
 have hl:=xQ hS.ilen
 have HS:=xQ hS
 clear hS
 have HK:Hid (∀w',Ext w w'→Calls Tryz.prog 108 #[.slice p n cap] w' fun e w''=> ∃q' c',e= .returned (.slice q' n c')∧w''.ownsRow w'.heap.size TI 1 (.slice q' n c') n (ivs xs)∧Ext w' w''):=fun w' hx=>aA4 p n cap xs w' hn (HS.out.ext hx)
 go_enter Tryz.func77,Tryz.ntmps77
 go_wp2
 have ME:=xQ (show Mem w ((w.alloc (.cells #[.int .i64 aA,.int .i64 aB,.slice p n cap] TH3)).alloc (.cells #[.int .i64 0,.int .i64 0,.slice none 0 0] TH3)) [aF w.heap.size (w.heap.size+1) TH3 #[.int .i64 0,.int .i64 0,.slice none 0 0],aF w.heap.size (w.heap.size) TH3 #[.int .i64 aA,.int .i64 aB,.slice p n cap]]from((((Mem.start w).blkNew TH3 #[.int .i64 aA,.int .i64 aB,.slice p n cap] (w.heap.size) (by simp))).blkNew TH3 #[.int .i64 0,.int .i64 0,.slice none 0 0] (w.heap.size+1) (by simp)))
 refine cK (gl [gEq (.pointer (some ⟨w.heap.size,0,none⟩)),gEq (.int .i64 aA),gEq (.pointer (some ⟨w.heap.size,1,none⟩)),gEq (.int .i64 aB),gEq (.pointer (some ⟨w.heap.size,2,none⟩)),gEq (.slice p n cap),(fun v w'=> ∃q c,v= .slice q n c∧w'.ownsRow (w.heap.size+2) TI 1 (.slice q n c) n (ivs xs)),(fun v w'=> ∃q c,v=aK aA aB q n c∧w'.ownsRow (w.heap.size+2) TI 1 (.slice q n c) n (ivs xs))]) 8 (by kernel_rfl) rfl (by kernel_rfl) (by kernel_rfl) (by kernel_rfl) (dW (aL (aI _) (aL (aI _) (aL (aI _) (aL (aI _) (aL (aI _) (aL (aI _) (aL (fun v w w' ⟨q,c,he,ho⟩ hx=>⟨q,c,he,bC ho hx⟩) (aL (fun v w w' ⟨q,c,he,ho⟩ hx=>⟨q,c,he,bC ho hx⟩) (eS)))))))))) (k:=9) (by kernel_rfl) (by decide) (ls:= [(0,some 3),(1,some 4),(2,some 5),(3,some 6),(4,some 7),(5,some 8),(6,some 9),(7,some 10)]) (by kernel_rfl) (ir:= [0,1,2,3,4,5,6,7]) (by kernel_rfl) ?steps (tl:=#[true,true,true,true,true,true,true,true,false]) (by kernel_rfl) ?fin
 case steps=>
  refine sC [] rfl (fun wi hx=> ?_) ?_
  ·intro K hK
   go_simp
   exact hK _ _ ⟨.pointer (some ⟨w.heap.size,0,none⟩),rfl,rfl,Ext.refl _⟩
  refine sC [(0,some 3)] rfl (fun wi hx=> ?_) ?_
  ·intro v0 h0 K hK
   obtain rfl:=h0
   have hX:Ext ((w.alloc (.cells #[.int .i64 aA,.int .i64 aB,.slice p n cap] TH3)).alloc (.cells #[.int .i64 0,.int .i64 0,.slice none 0 0] TH3)) wi:=xE
   have cl0:wi.cell? ⟨w.heap.size,0,none⟩=some (.int .i64 aA):=((ME.out.blk (i:=1) rfl).ext hX).cell 0
   go_simp
   exact hK _ _ ⟨.int .i64 aA,rfl,rfl,Ext.refl _⟩
  refine sC [] rfl (fun wi hx=> ?_) ?_
  ·intro K hK
   go_simp
   exact hK _ _ ⟨.pointer (some ⟨w.heap.size,1,none⟩),rfl,rfl,Ext.refl _⟩
  refine sC [(2,some 5)] rfl (fun wi hx=> ?_) ?_
  ·intro v2 h2 K hK
   obtain rfl:=h2
   have hX:Ext ((w.alloc (.cells #[.int .i64 aA,.int .i64 aB,.slice p n cap] TH3)).alloc (.cells #[.int .i64 0,.int .i64 0,.slice none 0 0] TH3)) wi:=xE
   have cl0:wi.cell? ⟨w.heap.size,1,none⟩=some (.int .i64 aB):=((ME.out.blk (i:=1) rfl).ext hX).cell 1
   go_simp
   exact hK _ _ ⟨.int .i64 aB,rfl,rfl,Ext.refl _⟩
  refine sC [] rfl (fun wi hx=> ?_) ?_
  ·intro K hK
   go_simp
   exact hK _ _ ⟨.pointer (some ⟨w.heap.size,2,none⟩),rfl,rfl,Ext.refl _⟩
  refine sC [(4,some 7)] rfl (fun wi hx=> ?_) ?_
  ·intro v4 h4 K hK
   obtain rfl:=h4
   have hX:Ext ((w.alloc (.cells #[.int .i64 aA,.int .i64 aB,.slice p n cap] TH3)).alloc (.cells #[.int .i64 0,.int .i64 0,.slice none 0 0] TH3)) wi:=xE
   have cl0:wi.cell? ⟨w.heap.size,2,none⟩=some (.slice p n cap):=((ME.out.blk (i:=1) rfl).ext hX).cell 2
   go_simp
   exact hK _ _ ⟨.slice p n cap,rfl,rfl,Ext.refl _⟩
  refine sC [(5,some 8)] rfl (fun wi hx=> ?_) ?_
  ·intro v5 h5 K hK
   obtain rfl:=h5
   go_wp2_with fail
   refine(HK.out _ (ME.out.ext.trans hx.of_drew)).mono ?_
   rintro e w5 ⟨q5,c5,rfl,o5,hx5⟩
   go_simp
   exact hK _ _ ⟨.slice q5 n c5,rfl,⟨q5,c5,rfl,bG o5 (by have:=hx.sz;simp at this;omega)⟩,hx5⟩
  refine sC [(1,some 4),(3,some 6),(6,some 9)] rfl (fun wi hx=> ?_) StepsL.nil
  ·intro v1 h1 v3 h3 v6 h6 K hK
   obtain rfl:=h1
   obtain rfl:=h3
   obtain⟨q6,c6,rfl,ho6⟩:=h6
   go_simp
   exact hK _ _ ⟨aK aA aB q6 n c6,rfl,⟨q6,c6,rfl,ho6⟩,Ext.refl _⟩
 case fin=>
  intro wi hx v0 h0 v1 h1 v2 h2 v3 h3 v4 h4 v5 h5 v6 h6 v7 h7
  obtain rfl:=h0
  obtain rfl:=h1
  obtain rfl:=h2
  obtain rfl:=h3
  obtain rfl:=h4
  obtain rfl:=h5
  obtain⟨q6,c6,rfl,ho6⟩:=h6
  obtain⟨q7,c7,rfl,ho7⟩:=h7
  have hX:Ext ((w.alloc (.cells #[.int .i64 aA,.int .i64 aB,.slice p n cap] TH3)).alloc (.cells #[.int .i64 0,.int .i64 0,.slice none 0 0] TH3)) wi:=hx.of_drew
  have M2:=xQ (show Mem w wi [aJ w.heap.size TI 1 (q7) (n) (c7) (ivs xs),aF w.heap.size (w.heap.size+1) TH3 #[.int .i64 0,.int .i64 0,.slice none 0 0],aF w.heap.size (w.heap.size) TH3 #[.int .i64 aA,.int .i64 aB,.slice p n cap]]from ME.out.ownNew hX ho7 (by simp))
  clear ME
  have lt2_1:=M2.out.hi 1
  have lt2_2:=M2.out.hi 2
  clear hx hX ho6 ho7 HK HS
  try simp only[Act.put,List.setIfInBounds_toArray,List.set_cons_zero,List.set_cons_succ]
  obtain⟨z0,zf0,z1,zf1,z2,zf2⟩:=((M2.out.blk (i:=1) rfl)).trif
  refine wpAny_ready (rs:= [8]) (by kernel_rfl) (by simp) ?_
  refine AllReady.cons rfl (fun K hK=> ?_) AllReady.nil
  go_simp
  refine hK _ _ ?_
  clear hK K
  refine wpAny_done (by kernel_rfl) ?_ _
  try simp only[Act.put,List.setIfInBounds_toArray,List.set_cons_zero,List.set_cons_succ]
  have M3:=xQ (show Mem w ((wi.setCell ⟨w.heap.size+1,0,none⟩ (.int .i64 aA)).setCell ⟨w.heap.size+1,1,none⟩ (.int .i64 aB)) [aJ w.heap.size TI 1 (q7) (n) (c7) (ivs xs),aF w.heap.size (w.heap.size+1) TH3 #[.int .i64 aA,.int .i64 aB,.slice none 0 0],aF w.heap.size (w.heap.size) TH3 #[.int .i64 aA,.int .i64 aB,.slice p n cap]]from((((M2.out).store (i:=1) rfl 0 (.int .i64 aA))).store (i:=1) rfl 1 (.int .i64 aB)))
  have M4:=xQ (show Mem w (((wi.setCell ⟨w.heap.size+1,0,none⟩ (.int .i64 aA)).setCell ⟨w.heap.size+1,1,none⟩ (.int .i64 aB)).setCell ⟨w.heap.size+1,2,none⟩ (.slice q7 n c7)) [aJ w.heap.size TI 1 (q7) (n) (c7) (ivs xs),aF w.heap.size (w.heap.size+1) TH3 #[.int .i64 aA,.int .i64 aB,.slice q7 n c7],aF w.heap.size (w.heap.size) TH3 #[.int .i64 aA,.int .i64 aB,.slice p n cap]]from((M3.out).store (i:=1) rfl 2 (.slice q7 n c7)))
  go_wp2
  have M5:=xQ (show Mem w (((wi.setCell ⟨w.heap.size+1,0,none⟩ (.int .i64 aA)).setCell ⟨w.heap.size+1,1,none⟩ (.int .i64 aB)).setCell ⟨w.heap.size+1,2,none⟩ (.slice q7 n c7)) [aJ w.heap.size TI 1 (q7) (n) (c7) (ivs xs),aF w.heap.size (w.heap.size+1) TH3 #[.int .i64 aA,.int .i64 aB,.slice q7 n c7],aF w.heap.size (w.heap.size) TH3 #[.int .i64 aA,.int .i64 aB,.slice p n cap]]from M4.out)
  generalize hwz:World.setCell _ _ _=wz
  rw[hwz]at M5
  clear hwz M2 M3 M4
  clear z0 zf0 z1 zf1 z2 zf2
  obtain⟨y0,y1,y2⟩:=((M5.out.blk (i:=1) rfl)).tri
  exact bodyPost_ret (v:=aK aA aB q7 n c7) (by simp[results,Tryz.results77,go_sem, *]) rfl (pX hl.out (M5.out.own (i:=0) rfl) M5.out.ext)
theorem zD (aA aB:Int)(p:Option Addr)(n cap:Nat)(xs:List Int)(w:World)(hS:Sl w p n cap 1 (ivs xs))(hok:aP aA aB xs=true):
  Calls Tryz.prog 102 #[aK aA aB p n cap] w fun e w'=> ∃D,dS aA n (bE xs).length D∧bB D w e w':=by
 have hl:=hS.ilen
 obtain⟨g1,g2,g3,g4,g5,g6,g7⟩:=bU (bW hok)
 have hp:(2:Nat) ^ n≤2 ^ 12:=Nat.pow_le_pow_right (by omega) (by omega)
 have hp2:(2:Nat) ^ 12=4096:=by decide
 have hpe:(2:Nat) ^ n%2=0:=by obtain⟨m,hm⟩: ∃m,n=m+1:=⟨n-1,by omega⟩;rw[hm,Nat.pow_succ];omega
 refine xZ aA aB p n cap (bE xs).length (2 ^ n) w (by omega) (by omega) rfl (by omega) hpe (fun w' hx=> ?_) (fun m w' hm=>zE m w' (by omega)) (fun w' hx=>tT aA aB p n cap xs w' (hS.ext hx) hok)
 exact(mW aA aB p n cap xs w' (hS.ext hx) hok).mono fun e w'' ⟨q,c,h1,_,h3⟩=>⟨q,c,h1,h3⟩
structure sY (aA aB:Int) (xs:List Int) (D:List Int) (c:Nat) (id:Int) (j:Nat) (ys:List Int):Prop where
 ok:aP aA aB ys=true
 len:ys.length=xs.length
 free:aN ys=(gP aA xs.length (aU D) (c,aN xs) j).2
 at_:ys[(gP aA xs.length (aU D) (c,aN xs) j).1]? =some id
theorem sP {aA aB:Int}{ys:List Int}{c:Nat}{id:Int}(hok:aP aA aB ys=true)(hi:1≤id)(hc:ys[c]? =some id):fM aA aB ys id=(c:Int):=by
 unfold fM
 rw[if_pos ⟨hok,hi⟩]
 refine mU hc (fun hm=> ?_)
 unfold aP at hok
 rw[Bool.and_eq_true]at hok
 obtain⟨h1,h2,h3⟩:=(eW _ _).1 hok.2
 obtain⟨hcl,hce⟩:=List.getElem?_eq_some_iff.1 hc
 have e1:ys=ys.take c++ys.drop c:=(List.take_append_drop c ys).symm
 have hd:id∈ys.drop c:=by rw[lJ hc];simp
 rw[e1,List.filter_append,List.nodup_append]at h3
 exact h3.2.2 id (List.mem_filter.2 ⟨hm,by simp;omega⟩) id (List.mem_filter.2 ⟨hd,by simp;omega⟩) rfl
theorem aCq {aA aB:Int}{xs:List Int}{D:List Int}{c:Nat}{id:Int}(h:aP aA aB xs=true)(hc:xs[c]? =some id) (h0:id≠0) (hD:dS aA xs.length (bE xs).length D) {d:Nat} (hd:aU D c (aN xs)=d) {j:Nat} (hj:j<d) {ys:List Int} (hw:sY aA aB xs D c id j ys):
  ∃(J:Nat) (es:List (Nat×Nat)),es=dE aA xs.length (aN ys)∧iH aA aB ys=es.map fH∧J<es.length∧es[J]? =some (eL aA xs.length (aU D) (c,aN xs) j)∧
   (∀i e,i≤J→es[i]? =some e→e∈dE aA xs.length (aN ys)∧(aU D (cQ (gP aA xs.length (aU D) (c,aN xs) j).1 e.1 e.2) (cF (aN ys) e.1 e.2)=(d:Int)-j-1↔i=J))∧
   ∀e,es[J]? =some e→sY aA aB xs D c id (j+1) (bA aA aB ys (e.1:Int) (e.2:Int)):=by
 obtain⟨b1,b2,b3,b4,b5,b6,b7⟩:=bU (bW h)
 have hp:=iG hc h0
 obtain⟨e1,e2,e3⟩:=iA b5 b6 hD hp hd hj
 obtain⟨g1,g2⟩:=gE b5 b6 hD hp hd j (by omega)
 have hsl:=tN hw.ok
 rw[hw.len]at hsl
 have hmem:eL aA xs.length (aU D) (c,aN xs) j∈dE aA xs.length (aN ys):=by rw[hw.free];exact e2
 have e1':(dE aA xs.length (aN ys)).find? (fun e=>decide (aU D (cQ (gP aA xs.length (aU D) (c,aN xs) j).1 e.1 e.2) (cF (aN ys) e.1 e.2)=(d:Int)-j-1))=some (eL aA xs.length (aU D) (c,aN xs) j):=by
  have:=e1
  unfold jA at this
  rw[←hw.free,←g2]at*
  rw[hw.free]at*
  exact this
 have hpe:=List.find?_some e1'
 obtain⟨J,hJ1,hJ2,hJ3,hJ4⟩:=aAl (p:=fun e:Nat×Nat=>decide (aU D (cQ (gP aA xs.length (aU D) (c,aN xs) j).1 e.1 e.2) (cF (aN ys) e.1 e.2)=(d:Int)-j-1)) (d:=(0,0)) hmem hpe
 rw[e1']at hJ2 hJ3
 simp only[Option.getD_some]at hJ2 hJ3
 refine⟨J,_,rfl,hsl,hJ1,hJ2,fun i e hi he=>⟨List.mem_of_getElem? he,?_⟩,fun e he=> ?_⟩
 ·constructor
  ·intro hh
   rcases Nat.lt_or_ge i J with hlt|hge
   ·have:=hJ4 i e hlt he
    simp only[decide_eq_false_iff_not]at this
    exact absurd hh this
   ·exact Nat.le_antisymm hi hge
  ·intro hiJ
   have he2:some (eL aA xs.length (aU D) (c,aN xs) j)=some e:=by rw[←hJ2,←hiJ];exact he
   have he3:=Option.some.inj he2
   rw[←he3]
   exact of_decide_eq_true hJ3
 ·rw[hJ2]at he
  injection he with he
  subst he
  have hm2:eL aA xs.length (aU D) (c,aN xs) j∈dE aA ys.length (aN ys):=by rw[hw.len];exact hmem
  obtain⟨m1,m2,m3,m4⟩:=oC hw.ok (f:=(eL aA xs.length (aU D) (c,aN xs) j).1) (t:=(eL aA xs.length (aU D) (c,aN xs) j).2) hm2
  refine⟨fO _ _ hw.ok,by rw[cE,hw.len],?_,?_⟩
  ·rw[m3,e3,hw.free];rfl
  ·rw[e3];exact m4 _ _ hw.at_ h0
end Go.Proofs.YtahglfakiobbcaaGreatDoor
