/-
  Texts of this proof, packed (@packed).
-/
import Derived.Test.YtgnkoffndhmhpaaGreatDoorR5
import Derived.Test.YtgnkoffndhmhpaaGreatDoorR10
import Derived.Test.YtgnkoffndhmhpaaGreatDoorR20
import Derived.Test.YtgnkoffndhmhpaaGreatDoorR27
namespace Go.Proofs.YtgnkoffndhmhpaaGreatDoor
open Go.RowKit
set_option linter.unusedVariables false
set_option linter.unusedSimpArgs false
set_option maxHeartbeats 8000000
set_option maxRecDepth 100000
theorem aGp (aA aB c d A:Int)(p:OA)(n cap:Nat)(w:World)(HV:xB 80 #[aI aA aB p n cap] w true)(HF:Hid (∀w',Calls Tryz.prog 152 #[aI aA aB p n cap,c] w' fun e w''=>e= .returned (.bool true)∧Ext w' w''))(HT:Hid (∀w',Calls Tryz.prog 152 #[aI aA aB p n cap,d] w' fun e w''=>e= .returned (.bool true)∧Ext w' w''))
  (HA:Hid (∀w',Calls Tryz.prog 153 #[aA,c,d] w' fun e w''=>e= .returned (.int .i64 A)∧Ext w' w'')):
  Calls Tryz.prog 196 #[aI aA aB p n cap,c,d] w fun e w'=>e= .returned (.int .i64 A)∧Ext w w':=by
 go_enter Tryz.func196,Tryz.ntmps196
 go_wp2_with fail
 refine(HV.out _ (Mem.b1 w).ext).mono ?_
 rintro e w1 ⟨rfl,hx1⟩
 have M1:=xQ ((Mem.b1 w).adv hx1)
 have lt1_0:=M1.out.hi 0
 clear hx1
 obtain⟨h0,h1,h2⟩:=((M1.out.blk (i:=0) rfl)).tri
 go_wp2_with fail
 clear h0 h1 h2
 refine(HF.out _).mono ?_
 rintro e w2 ⟨rfl,hx2⟩
 have M2:=xQ ((M1.out).adv hx2)
 clear M1 lt1_0
 have lt2_0:=M2.out.hi 0
 clear hx2
 obtain⟨h0,h1,h2⟩:=((M2.out.blk (i:=0) rfl)).tri
 go_wp2_with fail
 clear h0 h1 h2
 refine(HT.out _).mono ?_
 rintro e w3 ⟨rfl,hx3⟩
 have M3:=xQ ((M2.out).adv hx3)
 clear M2 lt2_0
 have lt3_0:=M3.out.hi 0
 clear hx3
 obtain⟨h0,h1,h2⟩:=((M3.out.blk (i:=0) rfl)).tri
 go_wp2_with fail
 clear h0 h1 h2
 refine(HA.out _).mono ?_
 rintro e w4 ⟨rfl,hx4⟩
 have M4:=xQ ((M3.out).adv hx4)
 clear M3 lt3_0
 have lt4_0:=M4.out.hi 0
 clear hx4
 go_wp2
 go_ret
 exact⟨rfl,M4.out.ext⟩
theorem aE2 (aA aB f t:Int)(p:OA)(n cap:Nat)(w:World)(HV:xB 80 #[aI aA aB p n cap] w true)(HF:Hid (∀w',Calls Tryz.prog 152 #[aI aA aB p n cap,f] w' fun e w''=>e= .returned (.bool false)∧Ext w' w'')):
  Calls Tryz.prog 118 #[aI aA aB p n cap,dK f t] w fun e w'=>e= .returned (.bool false)∧Ext w w':=by
 go_enter Tryz.func118,Tryz.ntmps118
 go_wp2_with fail
 refine(HV.out _ (Mem.b2 w).ext).mono ?_
 rintro e w1 ⟨rfl,hx1⟩
 have M1:=xQ ((Mem.b2 w).adv hx1)
 have lt1_0:=M1.out.hi 0
 have lt1_1:=M1.out.hi 1
 clear hx1
 obtain⟨h0,h1,h2⟩:=((M1.out.blk (i:=1) rfl)).tri
 have s0:w1.cell? ⟨w.heap.size+1,0,none⟩=some (.int .i64 f):=(M1.out.blk (i:=0) rfl).cell 0
 have s1:w1.cell? ⟨w.heap.size+1,1,none⟩=some (.int .i64 t):=(M1.out.blk (i:=0) rfl).cell 1
 go_wp2_with fail
 clear h0 h1 h2 s0 s1
 refine(HF.out _).mono ?_
 rintro e w2 ⟨rfl,hx2⟩
 have M2:=xQ ((M1.out).adv hx2)
 clear M1 lt1_0 lt1_1
 have lt2_0:=M2.out.hi 0
 have lt2_1:=M2.out.hi 1
 clear hx2
 obtain⟨h0,h1,h2⟩:=((M2.out.blk (i:=1) rfl)).tri
 have s0:w2.cell? ⟨w.heap.size+1,0,none⟩=some (.int .i64 f):=(M2.out.blk (i:=0) rfl).cell 0
 have s1:w2.cell? ⟨w.heap.size+1,1,none⟩=some (.int .i64 t):=(M2.out.blk (i:=0) rfl).cell 1
 go_wp2
 go_ret
 exact⟨rfl,M2.out.ext⟩
theorem aE1 (aA aB f t:Int)(p:OA)(n cap:Nat)(w:World)(HV:xB 80 #[aI aA aB p n cap] w true)(HF:Hid (∀w',Calls Tryz.prog 152 #[aI aA aB p n cap,f] w' fun e w''=>e= .returned (.bool true)∧Ext w' w''))(HT:Hid (∀w',Calls Tryz.prog 152 #[aI aA aB p n cap,t] w' fun e w''=>e= .returned (.bool false)∧Ext w' w'')):
  Calls Tryz.prog 118 #[aI aA aB p n cap,dK f t] w fun e w'=>e= .returned (.bool false)∧Ext w w':=by
 go_enter Tryz.func118,Tryz.ntmps118
 go_wp2_with fail
 refine(HV.out _ (Mem.b2 w).ext).mono ?_
 rintro e w1 ⟨rfl,hx1⟩
 have M1:=xQ ((Mem.b2 w).adv hx1)
 have lt1_0:=M1.out.hi 0
 have lt1_1:=M1.out.hi 1
 clear hx1
 obtain⟨h0,h1,h2⟩:=((M1.out.blk (i:=1) rfl)).tri
 have s0:w1.cell? ⟨w.heap.size+1,0,none⟩=some (.int .i64 f):=(M1.out.blk (i:=0) rfl).cell 0
 have s1:w1.cell? ⟨w.heap.size+1,1,none⟩=some (.int .i64 t):=(M1.out.blk (i:=0) rfl).cell 1
 go_wp2_with fail
 clear h0 h1 h2 s0 s1
 refine(HF.out _).mono ?_
 rintro e w2 ⟨rfl,hx2⟩
 have M2:=xQ ((M1.out).adv hx2)
 clear M1 lt1_0 lt1_1
 have lt2_0:=M2.out.hi 0
 have lt2_1:=M2.out.hi 1
 clear hx2
 obtain⟨h0,h1,h2⟩:=((M2.out.blk (i:=1) rfl)).tri
 have s0:w2.cell? ⟨w.heap.size+1,0,none⟩=some (.int .i64 f):=(M2.out.blk (i:=0) rfl).cell 0
 have s1:w2.cell? ⟨w.heap.size+1,1,none⟩=some (.int .i64 t):=(M2.out.blk (i:=0) rfl).cell 1
 go_wp2_with fail
 clear h0 h1 h2 s0 s1
 refine(HT.out _).mono ?_
 rintro e w3 ⟨rfl,hx3⟩
 have M3:=xQ ((M2.out).adv hx3)
 clear M2 lt2_0 lt2_1
 have lt3_0:=M3.out.hi 0
 have lt3_1:=M3.out.hi 1
 clear hx3
 obtain⟨h0,h1,h2⟩:=((M3.out.blk (i:=1) rfl)).tri
 have s0:w3.cell? ⟨w.heap.size+1,0,none⟩=some (.int .i64 f):=(M3.out.blk (i:=0) rfl).cell 0
 have s1:w3.cell? ⟨w.heap.size+1,1,none⟩=some (.int .i64 t):=(M3.out.blk (i:=0) rfl).cell 1
 go_wp2
 go_ret
 exact⟨rfl,M3.out.ext⟩
theorem aE0 (aA aB:Int)(b off n cap i j:Nat)(x y:Int)(w:World)(hi:i<n)(hj:j<n)(hb:b<w.heap.size)(HCX:Hid (w.cell? ⟨b,off+i,none⟩=some (.int .i64 x)))(HCY:Hid (w.cell? ⟨b,off+j,none⟩=some (.int .i64 y)))(d1:(x !=0)=false)(HV:xB 80 #[aI aA aB (some ⟨b,off,none⟩) n cap] w true)(HF:Hid (∀w',Calls Tryz.prog 152 #[aI aA aB (some ⟨b,off,none⟩) n cap,(i:Int)] w' fun e w''=>e= .returned (.bool true)∧Ext w' w''))(HT:Hid (∀w',Calls Tryz.prog 152 #[aI aA aB (some ⟨b,off,none⟩) n cap,(j:Int)] w' fun e w''=>e= .returned (.bool true)∧Ext w' w'')):
  Calls Tryz.prog 118 #[aI aA aB (some ⟨b,off,none⟩) n cap,dK (i:Int) (j:Int)] w fun e w'=>e= .returned (.bool false)∧Ext w w':=by
 have a1:(0:Int)≤(i:Int):=by omega
 have a2:(0:Int)≤(j:Int):=by omega
 have a3:(i:Int)<(n:Int):=by omega
 have a4:(j:Int)<(n:Int):=by omega
 go_enter Tryz.func118,Tryz.ntmps118
 go_wp2_with fail
 refine(HV.out _ (Mem.b2 w).ext).mono ?_
 rintro e w1 ⟨rfl,hx1⟩
 have M1:=xQ ((Mem.b2 w).adv hx1)
 have lt1_0:=M1.out.hi 0
 have lt1_1:=M1.out.hi 1
 clear hx1
 obtain⟨h0,h1,h2⟩:=((M1.out.blk (i:=1) rfl)).tri
 have s0:w1.cell? ⟨w.heap.size+1,0,none⟩=some (.int .i64 (i:Int)):=(M1.out.blk (i:=0) rfl).cell 0
 have s1:w1.cell? ⟨w.heap.size+1,1,none⟩=some (.int .i64 (j:Int)):=(M1.out.blk (i:=0) rfl).cell 1
 go_wp2_with fail
 clear h0 h1 h2 s0 s1
 refine(HF.out _).mono ?_
 rintro e w2 ⟨rfl,hx2⟩
 have M2:=xQ ((M1.out).adv hx2)
 clear M1 lt1_0 lt1_1
 have lt2_0:=M2.out.hi 0
 have lt2_1:=M2.out.hi 1
 clear hx2
 obtain⟨h0,h1,h2⟩:=((M2.out.blk (i:=1) rfl)).tri
 have s0:w2.cell? ⟨w.heap.size+1,0,none⟩=some (.int .i64 (i:Int)):=(M2.out.blk (i:=0) rfl).cell 0
 have s1:w2.cell? ⟨w.heap.size+1,1,none⟩=some (.int .i64 (j:Int)):=(M2.out.blk (i:=0) rfl).cell 1
 go_wp2_with fail
 clear h0 h1 h2 s0 s1
 refine(HT.out _).mono ?_
 rintro e w3 ⟨rfl,hx3⟩
 have M3:=xQ ((M2.out).adv hx3)
 clear M2 lt2_0 lt2_1
 have lt3_0:=M3.out.hi 0
 have lt3_1:=M3.out.hi 1
 clear hx3
 obtain⟨h0,h1,h2⟩:=((M3.out.blk (i:=1) rfl)).tri
 have s0:w3.cell? ⟨w.heap.size+1,0,none⟩=some (.int .i64 (i:Int)):=(M3.out.blk (i:=0) rfl).cell 0
 have s1:w3.cell? ⟨w.heap.size+1,1,none⟩=some (.int .i64 (j:Int)):=(M3.out.blk (i:=0) rfl).cell 1
 have g1:w3.cell? ⟨b,off+i,none⟩=some (.int .i64 x):=(M3.out.ext.cells.1 _ _ hb).trans HCX.out
 have g2:w3.cell? ⟨b,off+j,none⟩=some (.int .i64 y):=(M3.out.ext.cells.1 _ _ hb).trans HCY.out
 go_wp2
 go_ret
 exact⟨rfl,M3.out.ext⟩
theorem aDz (aA aB:Int)(b off n cap i j:Nat)(x y:Int)(w:World)(hi:i<n)(hj:j<n)(hb:b<w.heap.size)(HCX:Hid (w.cell? ⟨b,off+i,none⟩=some (.int .i64 x)))(HCY:Hid (w.cell? ⟨b,off+j,none⟩=some (.int .i64 y)))(d1:(x !=0)=true)(d2:(y==0)=false)(HV:xB 80 #[aI aA aB (some ⟨b,off,none⟩) n cap] w true)(HF:Hid (∀w',Calls Tryz.prog 152 #[aI aA aB (some ⟨b,off,none⟩) n cap,(i:Int)] w' fun e w''=>e= .returned (.bool true)∧Ext w' w''))(HT:Hid (∀w',Calls Tryz.prog 152 #[aI aA aB (some ⟨b,off,none⟩) n cap,(j:Int)] w' fun e w''=>e= .returned (.bool true)∧Ext w' w'')):
  Calls Tryz.prog 118 #[aI aA aB (some ⟨b,off,none⟩) n cap,dK (i:Int) (j:Int)] w fun e w'=>e= .returned (.bool false)∧Ext w w':=by
 have a1:(0:Int)≤(i:Int):=by omega
 have a2:(0:Int)≤(j:Int):=by omega
 have a3:(i:Int)<(n:Int):=by omega
 have a4:(j:Int)<(n:Int):=by omega
 go_enter Tryz.func118,Tryz.ntmps118
 go_wp2_with fail
 refine(HV.out _ (Mem.b2 w).ext).mono ?_
 rintro e w1 ⟨rfl,hx1⟩
 have M1:=xQ ((Mem.b2 w).adv hx1)
 have lt1_0:=M1.out.hi 0
 have lt1_1:=M1.out.hi 1
 clear hx1
 obtain⟨h0,h1,h2⟩:=((M1.out.blk (i:=1) rfl)).tri
 have s0:w1.cell? ⟨w.heap.size+1,0,none⟩=some (.int .i64 (i:Int)):=(M1.out.blk (i:=0) rfl).cell 0
 have s1:w1.cell? ⟨w.heap.size+1,1,none⟩=some (.int .i64 (j:Int)):=(M1.out.blk (i:=0) rfl).cell 1
 go_wp2_with fail
 clear h0 h1 h2 s0 s1
 refine(HF.out _).mono ?_
 rintro e w2 ⟨rfl,hx2⟩
 have M2:=xQ ((M1.out).adv hx2)
 clear M1 lt1_0 lt1_1
 have lt2_0:=M2.out.hi 0
 have lt2_1:=M2.out.hi 1
 clear hx2
 obtain⟨h0,h1,h2⟩:=((M2.out.blk (i:=1) rfl)).tri
 have s0:w2.cell? ⟨w.heap.size+1,0,none⟩=some (.int .i64 (i:Int)):=(M2.out.blk (i:=0) rfl).cell 0
 have s1:w2.cell? ⟨w.heap.size+1,1,none⟩=some (.int .i64 (j:Int)):=(M2.out.blk (i:=0) rfl).cell 1
 go_wp2_with fail
 clear h0 h1 h2 s0 s1
 refine(HT.out _).mono ?_
 rintro e w3 ⟨rfl,hx3⟩
 have M3:=xQ ((M2.out).adv hx3)
 clear M2 lt2_0 lt2_1
 have lt3_0:=M3.out.hi 0
 have lt3_1:=M3.out.hi 1
 clear hx3
 obtain⟨h0,h1,h2⟩:=((M3.out.blk (i:=1) rfl)).tri
 have s0:w3.cell? ⟨w.heap.size+1,0,none⟩=some (.int .i64 (i:Int)):=(M3.out.blk (i:=0) rfl).cell 0
 have s1:w3.cell? ⟨w.heap.size+1,1,none⟩=some (.int .i64 (j:Int)):=(M3.out.blk (i:=0) rfl).cell 1
 have g1:w3.cell? ⟨b,off+i,none⟩=some (.int .i64 x):=(M3.out.ext.cells.1 _ _ hb).trans HCX.out
 have g2:w3.cell? ⟨b,off+j,none⟩=some (.int .i64 y):=(M3.out.ext.cells.1 _ _ hb).trans HCY.out
 go_wp2
 go_ret
 exact⟨rfl,M3.out.ext⟩
theorem aGd (aA aB:Int)(b off n cap i j:Nat)(x y A:Int)(w:World)(hi:i<n)(hj:j<n)(hb:b<w.heap.size)(HCX:Hid (w.cell? ⟨b,off+i,none⟩=some (.int .i64 x)))(HCY:Hid (w.cell? ⟨b,off+j,none⟩=some (.int .i64 y)))(d1:(x !=0)=true)(d2:(y==0)=true)(HV:xB 80 #[aI aA aB (some ⟨b,off,none⟩) n cap] w true)(HF:Hid (∀w',Calls Tryz.prog 152 #[aI aA aB (some ⟨b,off,none⟩) n cap,(i:Int)] w' fun e w''=>e= .returned (.bool true)∧Ext w' w''))(HT:Hid (∀w',Calls Tryz.prog 152 #[aI aA aB (some ⟨b,off,none⟩) n cap,(j:Int)] w' fun e w''=>e= .returned (.bool true)∧Ext w' w''))(HA:Hid (∀w',Calls Tryz.prog 153 #[aA,(i:Int),(j:Int)] w' fun e w''=>e= .returned (.int .i64 A)∧Ext w' w'')):
  Calls Tryz.prog 118 #[aI aA aB (some ⟨b,off,none⟩) n cap,dK (i:Int) (j:Int)] w fun e w'=>e= .returned (.bool (A==1))∧Ext w w':=by
 have a1:(0:Int)≤(i:Int):=by omega
 have a2:(0:Int)≤(j:Int):=by omega
 have a3:(i:Int)<(n:Int):=by omega
 have a4:(j:Int)<(n:Int):=by omega
 go_enter Tryz.func118,Tryz.ntmps118
 go_wp2_with fail
 refine(HV.out _ (Mem.b2 w).ext).mono ?_
 rintro e w1 ⟨rfl,hx1⟩
 have M1:=xQ ((Mem.b2 w).adv hx1)
 have lt1_0:=M1.out.hi 0
 have lt1_1:=M1.out.hi 1
 clear hx1
 obtain⟨h0,h1,h2⟩:=((M1.out.blk (i:=1) rfl)).tri
 have s0:w1.cell? ⟨w.heap.size+1,0,none⟩=some (.int .i64 (i:Int)):=(M1.out.blk (i:=0) rfl).cell 0
 have s1:w1.cell? ⟨w.heap.size+1,1,none⟩=some (.int .i64 (j:Int)):=(M1.out.blk (i:=0) rfl).cell 1
 go_wp2_with fail
 clear h0 h1 h2 s0 s1
 refine(HF.out _).mono ?_
 rintro e w2 ⟨rfl,hx2⟩
 have M2:=xQ ((M1.out).adv hx2)
 clear M1 lt1_0 lt1_1
 have lt2_0:=M2.out.hi 0
 have lt2_1:=M2.out.hi 1
 clear hx2
 obtain⟨h0,h1,h2⟩:=((M2.out.blk (i:=1) rfl)).tri
 have s0:w2.cell? ⟨w.heap.size+1,0,none⟩=some (.int .i64 (i:Int)):=(M2.out.blk (i:=0) rfl).cell 0
 have s1:w2.cell? ⟨w.heap.size+1,1,none⟩=some (.int .i64 (j:Int)):=(M2.out.blk (i:=0) rfl).cell 1
 go_wp2_with fail
 clear h0 h1 h2 s0 s1
 refine(HT.out _).mono ?_
 rintro e w3 ⟨rfl,hx3⟩
 have M3:=xQ ((M2.out).adv hx3)
 clear M2 lt2_0 lt2_1
 have lt3_0:=M3.out.hi 0
 have lt3_1:=M3.out.hi 1
 clear hx3
 obtain⟨h0,h1,h2⟩:=((M3.out.blk (i:=1) rfl)).tri
 have s0:w3.cell? ⟨w.heap.size+1,0,none⟩=some (.int .i64 (i:Int)):=(M3.out.blk (i:=0) rfl).cell 0
 have s1:w3.cell? ⟨w.heap.size+1,1,none⟩=some (.int .i64 (j:Int)):=(M3.out.blk (i:=0) rfl).cell 1
 have g1:w3.cell? ⟨b,off+i,none⟩=some (.int .i64 x):=(M3.out.ext.cells.1 _ _ hb).trans HCX.out
 have g2:w3.cell? ⟨b,off+j,none⟩=some (.int .i64 y):=(M3.out.ext.cells.1 _ _ hb).trans HCY.out
 go_wp2_with fail
 clear h0 h1 h2 s0 s1 g1 g2
 refine(HA.out _).mono ?_
 rintro e w4 ⟨rfl,hx4⟩
 have M4:=xQ ((M3.out).adv hx4)
 clear M3 lt3_0 lt3_1
 have lt4_0:=M4.out.hi 0
 have lt4_1:=M4.out.hi 1
 clear hx4
 go_wp2
 go_ret
 exact⟨rfl,M4.out.ext⟩
theorem aJ2 (aA aB:Int)(c d:Nat)(p:OA)(n cap:Nat)(xs:List Int)(w:World)(hS:Sl w p n cap 1 (ivs xs))(hok:aP aA aB xs=true)(hc:c<n)(hd:d<n):
  Calls Tryz.prog 196 #[aI aA aB p n cap,(c:Int),(d:Int)] w fun e w'=>e= .returned (.int .i64 (aZ aA c d))∧Ext w w':=by
 have hl:=hS.ilen
 obtain⟨g1,g2,g3,g4,g5,g6,g7,g8,g9⟩:=bN hok
 have HH: ∀(k:Nat),k<n→ ∀w',Calls Tryz.prog 152 #[aI aA aB p n cap,(k:Int)] w' fun e w''=>e= .returned (.bool true)∧Ext w' w'':=fun k hk w'=>by
  have:=gM aA aB k p n cap w' (by omega)
  rwa[decide_eq_true (⟨by omega,by omega⟩:0≤(k:Int)∧(k:Int)<n)]at this
 exact aGp aA aB c d _ p n cap w (fun w' hx=>by have:=fJ aA aB p n cap xs w' (hS.ext hx);rwa[hok]at this) (HH c hc) (HH d hd) (fun w'=>kH aA c d w' (by omega) (by omega) (by omega) (by omega) (by omega) (by omega))
theorem aIv (aA aB f t:Int)(p:OA)(n cap:Nat)(xs:List Int)(w:World)(hS:Sl w p n cap 1 (ivs xs))(hok:aP aA aB xs=true):
  Calls Tryz.prog 118 #[aI aA aB p n cap,dK f t] w fun e w'=>e= .returned (.bool (bC aA aB xs f t))∧Ext w w':=by
 have hl:=hS.ilen
 obtain⟨g1,g2,g3,g4,g5,g6,g7,g8,g9⟩:=bN hok
 have HV: ∀w',Ext w w'→Calls Tryz.prog 80 #[aI aA aB p n cap] w' fun e w''=>e= .returned (.bool true)∧Ext w' w'':=fun w' hx=>by
  have:=fJ aA aB p n cap xs w' (hS.ext hx);rwa[hok]at this
 have HH: ∀(c:Int) w',Calls Tryz.prog 152 #[aI aA aB p n cap,c] w' fun e w''=>e= .returned (.bool (decide (0≤c∧c<n)))∧Ext w' w'':=fun c w'=>gM aA aB c p n cap w' (by omega)
 by_cases hf:0≤f∧f<n
 ·have HF:=HH f
  rw[decide_eq_true hf]at HF
  by_cases ht:0≤t∧t<n
  ·have HT:=HH t
   rw[decide_eq_true ht]at HT
   obtain⟨i,rfl⟩: ∃i:Nat,f=(i:Int):=⟨f.toNat,by omega⟩
   obtain⟨j,rfl⟩: ∃j:Nat,t=(j:Int):=⟨t.toNat,by omega⟩
   have hi:i<n:=by omega
   have hj:j<n:=by omega
   obtain⟨b,off,rfl,hb,hcc⟩:=hS.rd (by omega)
   have hxi:xs[i]? =some (xs.getD i 0):=by rw[List.getD_eq_getElem?_getD,List.getElem?_eq_getElem (by omega)];rfl
   have hxj:xs[j]? =some (xs.getD j 0):=by rw[List.getD_eq_getElem?_getD,List.getElem?_eq_getElem (by omega)];rfl
   have hcx:w.cell? ⟨b,off+i,none⟩=some (.int .i64 (xs.getD i 0)):=by rw[hcc i (by omega)];simp only[ivs,List.getElem?_map,hxi,Option.map_some]
   have hcy:w.cell? ⟨b,off+j,none⟩=some (.int .i64 (xs.getD j 0)):=by rw[hcc j (by omega)];simp only[ivs,List.getElem?_map,hxj,Option.map_some]
   have hpos:0≤xs.getD i 0:=lX hok i
   have hca:cX aA aB xs (i:Int) (j:Int)=aZ aA i j:=by unfold cX;rw[if_pos ⟨hok,⟨by omega,by omega⟩,by omega,by omega⟩]
   unfold bC
   rw[hca,Int.toNat_natCast,Int.toNat_natCast]
   clear hxi hxj
   generalize xs.getD i 0=x at*
   generalize xs.getD j 0=y at*
   by_cases hx0:x=0
   ·subst hx0
    rw[show(decide (aZ aA (i:Int) j=1)&&decide (0<(0:Int))&&decide (y=0))=false by simp]
    exact aE0 aA aB b off n cap i j _ _ w hi hj hb hcx hcy (by simp) HV HF HT
   ·have d1:(x !=0)=true:=by simp[hx0]
    by_cases hy0:y=0
    ·subst hy0
     rw[show(decide (aZ aA (i:Int) j=1)&&decide (0<x)&&decide ((0:Int)=0))=(aZ aA (i:Int) j==1) by
      rw[decide_eq_true (show 0<x by omega)];by_cases ha:aZ aA (i:Int) j=1<;>simp[ha]]
     exact aGd aA aB b off n cap i j _ _ _ w hi hj hb hcx hcy d1 (by simp) HV HF HT (fun w'=>kH aA i j w' (by omega) (by omega) (by omega) (by omega) (by omega) (by omega))
    ·rw[show(decide (aZ aA (i:Int) j=1)&&decide (0<x)&&decide (y=0))=false by simp[hy0]]
     exact aDz aA aB b off n cap i j _ _ w hi hj hb hcx hcy d1 (by simp[hy0]) HV HF HT
  ·have HT:=HH t
   rw[decide_eq_false ht]at HT
   rw[show bC aA aB xs f t=false by
    cases h:bC aA aB xs f t with
    |false=>rfl
    |true=>
     unfold bC at h;simp only[Bool.and_eq_true,decide_eq_true_eq]at h
     have:=iB h.1.1;omega]
   exact aE1 aA aB f t p n cap w HV HF HT
 ·have HF:=HH f
  rw[decide_eq_false hf]at HF
  rw[show bC aA aB xs f t=false by
   cases h:bC aA aB xs f t with
   |false=>rfl
   |true=>
    unfold bC at h;simp only[Bool.and_eq_true,decide_eq_true_eq]at h
    have:=iB h.1.1;omega]
  exact aE2 aA aB f t p n cap w HV HF
theorem aC3 (q:OA)(m c2:Nat)(xs:List Int)(w:World)(hm:m≤1000)(hS:Sl w q m c2 1 (ivs xs)):
  Calls Tryz.prog 143 #[.slice q m c2] w fun e w'=> ∃q' c',e= .returned (.slice q' m c')∧w'.ownsRow w.heap.size TI 1 (.slice q' m c') m (ivs xs)∧Ext w w':=by
 cases q with
 |none=>
  have h0:m=0:=by
   by_cases h:0<m
   ·obtain⟨b,off,e,_⟩:=hS.rd h;cases e
   ·omega
  subst h0
  have hxs:ivs xs= []:=List.eq_nil_of_length_eq_zero (by have:=hS.len;simpa using this)
  have q22: ∀(w:World) (a:OA) (n c n' c':Nat),(binOp .eql 22 (.slice a n c) (.slice none n' c')).run Tryz.prog w= .ok (.bool a.isNone) w:=fun w a n c n' c'=>Lib.run_eql_slice_nil w _ _ a n c n' c' Tryz.underlying22
  clear hS
  go_enter Tryz.func143,Tryz.ntmps143
  go_wp2
  go_ret
  exact⟨none,0,rfl,by rw[hxs];exact World.ownsRow_nil _ _ _ _,Ext.refl _⟩
 |some a=>
  have HS:=xQ hS
  have MS:=xQ ((Mem.start w).made0 TI 1 (w.heap.size) (by simp))
  have q22: ∀(w:World) (a:OA) (n c n' c':Nat),(binOp .eql 22 (.slice a n c) (.slice none n' c')).run Tryz.prog w= .ok (.bool a.isNone) w:=fun w a n c n' c'=>Lib.run_eql_slice_nil w _ _ a n c n' c' Tryz.underlying22
  clear hS
  go_enter Tryz.func143,Tryz.ntmps143
  go_wp2_with (at_builtin;go_loud (refine bX eP rfl _ _ rfl MS.out 0 rfl rfl (ivs xs) rfl (HS.out.ext ((Ext.refl _).alloc _)) (mP xs) (by omega) ?_;intro q7 c7 w6 M6))
  have M7:=xQ (show Mem w w6 [aJ w.heap.size TI 1 q7 m c7 (ivs xs)]from by simpa using M6)
  clear M6
  go_wp2
  go_ret
  exact⟨q7,c7,rfl,M7.out.own (i:=0) rfl,M7.out.ext⟩
theorem jN (aA aB:Int)(p:OA)(n cap:Nat)(xs:List Int)(w:World)(hn:n≤1000)(hS:Sl w p n cap 1 (ivs xs)):
  Calls Tryz.prog 105 #[aI aA aB p n cap] w (dF aA aB xs w):=by
 have hl:=xQ hS.ilen
 have HS:=xQ hS
 clear hS
 have HK:xC 143 #[.slice p n cap] w fun w' e w''=> ∃q' c',e= .returned (.slice q' n c')∧w''.ownsRow w'.heap.size TI 1 (.slice q' n c') n (ivs xs)∧Ext w' w'':=fun w' hx=>aC3 p n cap xs w' hn (HS.out.ext hx)
 go_enter Tryz.func105,Tryz.ntmps105
 go_wp2
 have ME:=xQ (((((Mem.start w).blkNew TH3 #[aA,aB,.slice p n cap] (w.heap.size) (by simp))).blkNew TH3 #[(),(),((),())] (w.heap.size+1) (by simp)))
 refine cS (gl [gEq (.pointer (some ⟨w.heap.size,0,none⟩)),gEq aA,gEq (.pointer (some ⟨w.heap.size,1,none⟩)),gEq aB,gEq (.pointer (some ⟨w.heap.size,2,none⟩)),gEq (.slice p n cap),(fun v w'=> ∃q c,v= .slice q n c∧w'.ownsRow (w.heap.size+2) TI 1 (.slice q n c) n (ivs xs)),(fun v w'=> ∃q c,v=aI aA aB q n c∧w'.ownsRow (w.heap.size+2) TI 1 (.slice q n c) n (ivs xs))]) 8 (by kernel_rfl) rfl (by kernel_rfl) (by kernel_rfl) (by kernel_rfl) (eG (aK (aH _) (aK (aH _) (aK (aH _) (aK (aH _) (aK (aH _) (aK (aH _) (aK (fun v w w' ⟨q,c,he,ho⟩ hx=>⟨q,c,he,bB ho hx⟩) (aK (fun v w w' ⟨q,c,he,ho⟩ hx=>⟨q,c,he,bB ho hx⟩) (fK)))))))))) (k:=9) (by kernel_rfl) (by decide) (ls:= [(0,some 3),(1,some 4),(2,some 5),(3,some 6),(4,some 7),(5,some 8),(6,some 9),(7,some 10)]) (by kernel_rfl) (ir:= [0,1,2,3,4,5,6,7]) (by kernel_rfl) ?steps (tl:=#[true,true,true,true,true,true,true,true,false]) (by kernel_rfl) ?fin
 case steps=>
  refine sC [] rfl (fun wi hx=> ?_) ?_
  ·intro K hK
   go_simp
   exact hK _ _ ⟨.pointer (some ⟨w.heap.size,0,none⟩),rfl,rfl,Ext.refl _⟩
  refine sC [(0,some 3)] rfl (fun wi hx=> ?_) ?_
  ·intro v0 h0 K hK
   obtain rfl:=h0
   have hX:Ext ((w.alloc (.cells #[aA,aB,.slice p n cap] TH3)).alloc (.cells #[(),(),((),())] TH3)) wi:=xE
   have cl0:wi.cell? ⟨w.heap.size,0,none⟩=some (.int .i64 aA):=((ME.out.blk (i:=1) rfl).ext hX).cell 0
   go_simp
   exact hK _ _ ⟨.int .i64 aA,rfl,rfl,Ext.refl _⟩
  refine sC [] rfl (fun wi hx=> ?_) ?_
  ·intro K hK
   go_simp
   exact hK _ _ ⟨.pointer (some ⟨w.heap.size,1,none⟩),rfl,rfl,Ext.refl _⟩
  refine sC [(2,some 5)] rfl (fun wi hx=> ?_) ?_
  ·intro v2 h2 K hK
   obtain rfl:=h2
   have hX:Ext ((w.alloc (.cells #[aA,aB,.slice p n cap] TH3)).alloc (.cells #[(),(),((),())] TH3)) wi:=xE
   have cl0:wi.cell? ⟨w.heap.size,1,none⟩=some (.int .i64 aB):=((ME.out.blk (i:=1) rfl).ext hX).cell 1
   go_simp
   exact hK _ _ ⟨.int .i64 aB,rfl,rfl,Ext.refl _⟩
  refine sC [] rfl (fun wi hx=> ?_) ?_
  ·intro K hK
   go_simp
   exact hK _ _ ⟨.pointer (some ⟨w.heap.size,2,none⟩),rfl,rfl,Ext.refl _⟩
  refine sC [(4,some 7)] rfl (fun wi hx=> ?_) ?_
  ·intro v4 h4 K hK
   obtain rfl:=h4
   have hX:Ext ((w.alloc (.cells #[aA,aB,.slice p n cap] TH3)).alloc (.cells #[(),(),((),())] TH3)) wi:=xE
   have cl0:wi.cell? ⟨w.heap.size,2,none⟩=some (.slice p n cap):=((ME.out.blk (i:=1) rfl).ext hX).cell 2
   go_simp
   exact hK _ _ ⟨.slice p n cap,rfl,rfl,Ext.refl _⟩
  refine sC [(5,some 8)] rfl (fun wi hx=> ?_) ?_
  ·intro v5 h5 K hK
   obtain rfl:=h5
   go_wp2_with fail
   refine(HK.out _ (ME.out.ext.trans hx.of_drew)).mono ?_
   rintro e w5 ⟨q5,c5,rfl,o5,hx5⟩
   go_simp
   exact hK _ _ ⟨.slice q5 n c5,rfl,⟨q5,c5,rfl,bG o5 (by have:=hx.sz;simp at this;omega)⟩,hx5⟩
  refine sC [(1,some 4),(3,some 6),(6,some 9)] rfl (fun wi hx=> ?_) StepsL.nil
  ·intro v1 h1 v3 h3 v6 h6 K hK
   obtain rfl:=h1
   obtain rfl:=h3
   obtain⟨q6,c6,rfl,ho6⟩:=h6
   go_simp
   exact hK _ _ ⟨aI aA aB q6 n c6,rfl,⟨q6,c6,rfl,ho6⟩,Ext.refl _⟩
 case fin=>
  intro wi hx v0 h0 v1 h1 v2 h2 v3 h3 v4 h4 v5 h5 v6 h6 v7 h7
  obtain rfl:=h0
  obtain rfl:=h1
  obtain rfl:=h2
  obtain rfl:=h3
  obtain rfl:=h4
  obtain rfl:=h5
  obtain⟨q6,c6,rfl,ho6⟩:=h6
  obtain⟨q7,c7,rfl,ho7⟩:=h7
  have hX:Ext ((w.alloc (.cells #[aA,aB,.slice p n cap] TH3)).alloc (.cells #[(),(),((),())] TH3)) wi:=hx.of_drew
  have M2:=xQ (show Mem w wi [aJ w.heap.size TI 1 (q7) (n) (c7) (ivs xs),aL w.heap.size (w.heap.size+1) TH3 #[(),(),((),())],aL w.heap.size (w.heap.size) TH3 #[aA,aB,.slice p n cap]]from ME.out.ownNew hX ho7 (by simp))
  clear ME
  have lt2_1:=M2.out.hi 1
  have lt2_2:=M2.out.hi 2
  clear hx hX ho6 ho7 HK HS
  try simp only[Act.put,List.setIfInBounds_toArray,List.set_cons_zero,List.set_cons_succ]
  obtain⟨z0,zf0,z1,zf1,z2,zf2⟩:=((M2.out.blk (i:=1) rfl)).trif
  refine wpAny_ready (rs:= [8]) (by kernel_rfl) (by simp) ?_
  refine AllReady.cons rfl (fun K hK=> ?_) AllReady.nil
  go_simp
  refine hK _ _ ?_
  clear hK K
  refine wpAny_done (by kernel_rfl) ?_ _
  try simp only[Act.put,List.setIfInBounds_toArray,List.set_cons_zero,List.set_cons_succ]
  have M3:=xQ (((((M2.out).st 1 0 (.int .i64 aA))).st 1 1 (.int .i64 aB)))
  have M4:=xQ (((M3.out).st 1 2 (.slice q7 n c7)))
  go_wp2
  have M5:=xQ (show Mem w (((wi.setCell ⟨w.heap.size+1,0,none⟩ (.int .i64 aA)).setCell ⟨w.heap.size+1,1,none⟩ (.int .i64 aB)).setCell ⟨w.heap.size+1,2,none⟩ (.slice q7 n c7)) [aJ w.heap.size TI 1 (q7) (n) (c7) (ivs xs),aL w.heap.size (w.heap.size+1) TH3 #[aA,aB,.slice q7 n c7],aL w.heap.size (w.heap.size) TH3 #[aA,aB,.slice p n cap]]from M4.out)
  generalize hwz:World.setCell _ _ _=wz
  rw[hwz]at M5
  clear hwz M2 M3 M4 z0 zf0 z1 zf1 z2 zf2
  obtain⟨y0,y1,y2⟩:=((M5.out.blk (i:=1) rfl)).tri
  exact bodyPost_ret (v:=aI aA aB q7 n c7) (by simp[results,Tryz.results105,go_sem, *]) rfl (rK hl.out (M5.out.own (i:=0) rfl) M5.out.ext)
theorem aC2 (q:OA)(m c2:Nat)(xs:List Value)(w:World)(hm:m≤1000)(hS:Sl w q m c2 4 xs)(h1: ∀u∈xs,u.oneCell'=true):
  Calls Tryz.prog 106 #[.slice q m c2] w fun e w'=> ∃q' c',e= .returned (.slice q' m c')∧w'.ownsRow w.heap.size TV 4 (.slice q' m c') m xs∧Ext w w':=by
 cases q with
 |none=>
  have h0:m=0:=by
   by_cases h:0<m
   ·obtain⟨b,off,e,_⟩:=hS.rd h;cases e
   ·omega
  subst h0
  obtain rfl:xs= []:=List.eq_nil_of_length_eq_zero (by have:=hS.len;simpa using this)
  have q22: ∀(w:World) (a:OA) (n c n' c':Nat),(binOp .eql 33 (.slice a n c) (.slice none n' c')).run Tryz.prog w= .ok (.bool a.isNone) w:=fun w a n c n' c'=>Lib.run_eql_slice_nil w _ _ a n c n' c' Tryz.underlying33
  clear hS
  go_enter Tryz.func106,Tryz.ntmps106
  go_wp2
  go_ret
  exact⟨none,0,rfl,World.ownsRow_nil _ _ _ _,Ext.refl _⟩
 |some a=>
  have HS:=xQ hS
  have HO:=xQ h1
  have MS:=xQ ((Mem.start w).made0 TV 4 (w.heap.size) (by simp))
  have q22: ∀(w:World) (a:OA) (n c n' c':Nat),(binOp .eql 33 (.slice a n c) (.slice none n' c')).run Tryz.prog w= .ok (.bool a.isNone) w:=fun w a n c n' c'=>Lib.run_eql_slice_nil w _ _ a n c n' c' Tryz.underlying33
  clear hS h1
  go_enter Tryz.func106,Tryz.ntmps106
  go_wp2_with (at_builtin;go_loud (refine bX qT rfl _ _ rfl MS.out 0 rfl rfl xs rfl (HS.out.ext ((Ext.refl _).alloc _)) HO.out (by omega) ?_;intro q7 c7 w6 M6))
  have M7:=xQ (show Mem w w6 [aJ w.heap.size TV 4 q7 m c7 xs]from by simpa using M6)
  clear M6
  go_wp2
  go_ret
  exact⟨q7,c7,rfl,M7.out.own (i:=0) rfl,M7.out.ext⟩
theorem aEc (aA aB free step aE aF aC aG:Int)(p:OA)(n cap:Nat)(q:OA)(m c2:Nat)(xs:List Int)(vs:List aQ)(w:World)
  (HL:xC 105 #[aI aA aB p n cap] w fun w' e w''=> ∃q c,e= .returned (aI aA aB q n c)∧w''.ownsRow w'.heap.size TI 1 (.slice q n c) n (ivs xs)∧Ext w' w'')
  (HCL:xC 106 #[.slice q m c2] w fun w' e w''=> ∃q' c',e= .returned (.slice q' m c')∧w''.ownsRow w'.heap.size TV 4 (.slice q' m c') m (vs.flatMap aD)∧Ext w' w''):
  Calls Tryz.prog 62 #[.agg #[aA,aB,.slice p n cap,free,step,aE,aF,aC,aG,.slice q m c2]] w fun e w'=> ∃p' cap' q' c2',e= .returned (.agg #[aA,aB,.slice p' n cap',free,step,aE,aF,aC,aG,.slice q' m c2'])∧w'.ownsRow w.heap.size TI 1 (.slice p' n cap') n (ivs xs)∧w'.ownsRow w.heap.size TV 4 (.slice q' m c2') m (vs.flatMap aD)∧Ext w w':=by
 go_enter Tryz.func62,Tryz.ntmps62
 go_wp2_with fail
 refine(HL.out _ (Mem.b3 w).ext).mono ?_
 rintro e w1 ⟨q0,c0,rfl,ho1,hx1⟩
 have M1:=xQ ((Mem.b3 w).call hx1 ho1)
 have lt1_1:=M1.out.hi 1
 have lt1_2:=M1.out.hi 2
 have lt1_3:=M1.out.hi 3
 clear hx1 ho1
 have c9:w1.cell? ⟨w.heap.size,9,none⟩=some (.slice q m c2):=(M1.out.blk (i:=3) rfl).cell 9
 have d0:w1.cell? ⟨w.heap.size+1+1,0,none⟩=some (.int .i64 aA):=(M1.out.blk (i:=1) rfl).cell 0
 have df0:w1.frozen? ⟨w.heap.size+1+1,0,none⟩=false:=(M1.out.blk (i:=1) rfl).frozen 0
 have d1:w1.cell? ⟨w.heap.size+1+1,1,none⟩=some (.int .i64 aB):=(M1.out.blk (i:=1) rfl).cell 1
 have df1:w1.frozen? ⟨w.heap.size+1+1,1,none⟩=false:=(M1.out.blk (i:=1) rfl).frozen 1
 have d2:w1.cell? ⟨w.heap.size+1+1,2,none⟩=some (.slice p n cap):=(M1.out.blk (i:=1) rfl).cell 2
 have df2:w1.frozen? ⟨w.heap.size+1+1,2,none⟩=false:=(M1.out.blk (i:=1) rfl).frozen 2
 go_wp2_with fail
 clear c9 d0 df0 d1 df1 d2 df2
 refine(HCL.out _ (((((((M1.out).store (i:=1) rfl 0 (.int .i64 aA))).store (i:=1) rfl 1 (.int .i64 aB))).store (i:=1) rfl 2 (.slice q0 n c0))).ext).mono ?_
 rintro e w2 ⟨q7,c7,rfl,ho2,hx2⟩
 have M2:=xQ ((((((((M1.out).st 1 0 (.int .i64 aA))).st 1 1 (.int .i64 aB))).st 1 2 (.slice q0 n c0))).call hx2 ho2)
 clear M1 lt1_1 lt1_2 lt1_3
 have lt2_2:=M2.out.hi 2
 have lt2_3:=M2.out.hi 3
 have lt2_4:=M2.out.hi 4
 clear hx2 ho2
 obtain⟨x0,x1,x2,x3,x4,x5,x6,x7,x8,x9⟩:=(M2.out.blk (i:=2) rfl).ten
 have xx9:w2.cell? ⟨w.heap.size+1+1,9,none⟩=some (.slice q m c2):=(M2.out.blk (i:=2) rfl).cell 9
 have xxf9:w2.frozen? ⟨w.heap.size+1+1,9,none⟩=false:=(M2.out.blk (i:=2) rfl).frozen 9
 obtain⟨y0,yf0,y1,yf1,y2,yf2,y3,yf3,y4,yf4,y5,yf5,y6,yf6,y7,yf7,y8,yf8,y9,yf9⟩:=(M2.out.blk (i:=3) rfl).tenf
 go_wp2
 clear x0 x1 x2 x3 x4 x5 x6 x7 x8 x9 xx9 xxf9 y0 yf0 y1 yf1 y2 yf2 y3 yf3 y4 yf4 y5 yf5 y6 yf6 y7 yf7 y8 yf8 y9 yf9
 have M3:=xQ (show Mem w (((((((((((w2.setCell ⟨w.heap.size+1+1,9,none⟩ (.slice q7 m c7)).setCell ⟨w.heap.size+1,0,none⟩ (.int .i64 aA)).setCell ⟨w.heap.size+1,1,none⟩ (.int .i64 aB)).setCell ⟨w.heap.size+1,2,none⟩ (.slice q0 n c0)).setCell ⟨w.heap.size+1,3,none⟩ (.int .i64 free)).setCell ⟨w.heap.size+1,4,none⟩ (.int .i64 step)).setCell ⟨w.heap.size+1,5,none⟩ (.int .i64 aE)).setCell ⟨w.heap.size+1,6,none⟩ (.int .i64 aF)).setCell ⟨w.heap.size+1,7,none⟩ (.int .i64 aC)).setCell ⟨w.heap.size+1,8,none⟩ (.int .i64 aG)).setCell ⟨w.heap.size+1,9,none⟩ (.slice q7 m c7)) [aJ w.heap.size TV 4 (q7) (m) (c7) (vs.flatMap aD),aJ w.heap.size TI 1 (q0) (n) (c0) (ivs xs),aL w.heap.size (w.heap.size+1+1) aO #[aA,aB,.slice q0 n c0,free,step,aE,aF,aC,aG,.slice q7 m c7],aL w.heap.size (w.heap.size+1) aO #[aA,aB,.slice q0 n c0,free,step,aE,aF,aC,aG,.slice q7 m c7],aL w.heap.size (w.heap.size) aO #[aA,aB,.slice p n cap,free,step,aE,aF,aC,aG,.slice q m c2]]from((((M2.out).store (i:=2) rfl 9 (.slice q7 m c7))).put10 (i:=3) rfl (.int .i64 aA) (.int .i64 aB) (.slice q0 n c0) (.int .i64 free) (.int .i64 step) (.int .i64 aE) (.int .i64 aF) (.int .i64 aC) (.int .i64 aG) (.slice q7 m c7)))
 generalize hwz:World.setCell _ _ _=wz
 rw[hwz]at M3
 clear hwz M2
 obtain⟨y0,y1,y2,y3,y4,y5,y6,y7,y8,y9⟩:=(M3.out.blk (i:=3) rfl).ten
 exact bodyPost_ret (v:= .agg #[aA,aB,.slice q0 n c0,free,step,aE,aF,aC,aG,.slice q7 m c7]) (by simp[results,Tryz.results62,go_sem, *]) rfl ⟨q0,c0,q7,c7,rfl,(M3.out.own (i:=1) rfl),(M3.out.own (i:=0) rfl),M3.out.ext⟩
theorem nE (h:aT)(p:OA)(n cap:Nat)(q:OA)(m c2:Nat)(w:World)(hn:n≤1000)(hm:m≤1000)(hi:IsHouse w h p n cap q m c2):
  Calls Tryz.prog 62 #[bS h p n cap q m c2] w (RetHouse h w):=by
 have hl:=hi.clen
 have hvl:=hi.vlen
 refine(aEc h.aA h.aB h.free h.step h.aE h.aF h.aC h.aG p n cap q m c2 h.cells h.vs w (xQ fun w' hx=> ?_) (xQ fun w' hx=>aC2 q m c2 _ w' hm (hi.vs.ext hx) (dZ _))).mono ?_
 ·refine(jN h.aA h.aB p n cap h.cells w' hn (hi.cells.ext hx)).mono ?_
  rintro e w'' ⟨q,c,rfl,ho,hx2⟩
  rw[hl]at ho⊢
  exact⟨q,c,rfl,ho,hx2⟩
 ·rintro e w' ⟨p',cap',q',c2',rfl,h1,h2,h3⟩
  subst hl hvl
  exact⟨p',cap',q',c2',rfl,h1,h2,h3⟩
theorem lN: ∀(k:Nat) (vs:List aQ),(vs.flatMap aD).take (k*4)=(vs.take k).flatMap aD
 |0,vs=>by simp
 |k+1,[]=>by simp
 |k+1,v::vs=>by
  rw[List.flatMap_cons,show(k+1)*4=(aD v).length+k*4 by simp[aD];omega,List.take_length_add_append,lN k vs];rfl
theorem aI5 {W0 wr:World}{B:Nat}(hg:W0.grownBy wr (some B))(o:Nat)(v:Value):W0.grownBy (wr.setCell ⟨B,o,none⟩ v) (some B):=
 ⟨hg.os,hg.tape,hg.output,by simpa using hg.size,fun k hk hne=>by
  rw[Below.heap_setCell _ _ _ _ (fun e=>hne (by simp[e]))];exact hg.block k hk hne⟩
theorem qA {α:Type}: ∀(xs:List α) (k:Nat) (v:α),k<xs.length→(xs.set k v).take (k+1)=xs.take k++ [v]
 | [],_,_,h=>by simp at h
 |x::xs,0,v,_=>by simp
 |x::xs,k+1,v,h=>by simp only[List.set_cons_succ,List.take_succ_cons,qA xs k v (by simpa using h)];rfl
theorem qI {α:Type}: ∀(xs:List α) (k j:Nat) (v:α),k<j→(xs.set k v).drop j=xs.drop j
 | [],_,_,_,_=>by simp
 |x::xs,0,j+1,v,_=>by simp
 |x::xs,k+1,j+1,v,h=>by simp only[List.set_cons_succ,List.drop_succ_cons];exact qI xs k j v (by omega)
theorem eT {B n c sz g:Nat}{e:TypeId}: ∀(vs:List Value) (k:Nat) (xs:List Value) (w:World),w.ownsRow B e sz (.slice (some ⟨g,0,none⟩) n c) n xs→k+vs.length≤xs.length→
  (w.setCells g k vs).ownsRow B e sz (.slice (some ⟨g,0,none⟩) n c) n (xs.take k++vs++xs.drop (k+vs.length))∧w.grownBy (w.setCells g k vs) (some g)
 | [],k,xs,w,h,_=>by
   refine⟨?_,World.grownBy.refl _ _⟩
   simpa[World.setCells]using h
 |v::vs,k,xs,w,h,hl=>by
  simp only[List.length_cons]at hl
  obtain⟨h1,h2⟩:=eT vs (k+1) (xs.set k v) _ (h.stored k v).1 (by simp;omega)
  rw[qA xs k v (by omega),qI xs k _ v (by omega)]at h1
  refine⟨?_,(aI5 (World.grownBy.refl _ _) k v).trans h2⟩
  rw[List.length_cons,show k+(vs.length+1)=k+1+vs.length by omega]
  simpa[World.setCells]using h1
theorem aHx {w:World}{B n c sz k:Nat}{e:TypeId}{q:OA}{xs:List Value}(h:w.ownsRow B e sz (.slice q n c) n xs)(hk:k≤n)(h0:0<n):w.ownsRow B e sz (.slice q k c) k (xs.take (k*sz)):=by
 have hm:=Nat.mul_le_mul_right sz hk
 refine⟨by rw[List.length_take,h.1];omega,?_⟩
 rcases h.2 with⟨_,h3⟩|⟨g,cap',cur,e1,hb,hg,hn,hmx,hs,ht⟩
 ·omega
 ·injection e1 with e1 e2 e3
  subst e1 e3
  refine .inr ⟨g,c,cur,rfl,hb,hg,by omega,hmx,hs,?_⟩
  rw[←ht,List.take_take,Nat.min_eq_left hm]
theorem aA2 (w:World):(zeroValue TV).run Tryz.prog w= .ok (.agg #[(),(),(),()]) w:=by
 simp[Tryz.zeroValue68]
theorem zV (w:World)(ty:TypeId)(b o c:Nat)(hc: ∀j,j<4→(w.cell? ⟨b,o+j,none⟩).isSome=true)(hf: ∀j,j<4→w.frozen? ⟨b,o+j,none⟩=false):
  (Builtin.clear_ #[33] ty #[.slice (some ⟨b,o,none⟩) 1 c]).run Tryz.prog w= .ok (.tuple #[]) (w.setCells b o [.int .i64 0,.int .i64 0,.int .i64 0,.int .i64 0]):=by
 have hzc:(Builtin.zeroCells (Value.agg #[(),(),(),()]).cells 1).toList= [.int .i64 0,.int .i64 0,.int .i64 0,.int .i64 0]:=by kernel_rfl
 have hst:=run_storeCells_cells (P:=Tryz.prog) b o [.int .i64 0,.int .i64 0,.int .i64 0,.int .i64 0] 0 w (by simpa using hc) (by simpa using hf) (by intro v hv;simp at hv;subst hv;rfl)
 simp only[Nat.add_zero]at hst
 simp[Builtin.clear_,run_underlying Tryz.underlying33,aA2,hzc,hst]
theorem zP (bs:List aQ)(i n:Nat)(hn:bs.length=n)(hi:i<n):
  ((bs.flatMap aD).take (i*4)++(bs.drop (i+1)).flatMap aD++(bs.flatMap aD).drop (i*4+((bs.drop (i+1)).flatMap aD).length)).take ((n-1)*4)=(bs.eraseIdx i).flatMap aD:=by
 have h1:((bs.take i).flatMap aD).length=i*4:=by rw[cH aD 4 (fun _=>rfl),List.length_take];congr 1;omega
 have h2:((bs.drop (i+1)).flatMap aD).length=(n-1-i)*4:=by rw[cH aD 4 (fun _=>rfl),List.length_drop];congr 1;omega
 rw[lN,List.take_append_of_le_length (by rw[List.length_append,h1,h2,←Nat.add_mul];exact Nat.mul_le_mul_right 4 (by omega)),List.take_of_length_le (by rw[List.length_append,h1,h2,←Nat.add_mul];exact Nat.mul_le_mul_right 4 (by omega)),←List.flatMap_append,List.eraseIdx_eq_take_drop_succ]
theorem aHc (g n c B i j:Nat)(bs:List aQ)(w:World)(hn:n≤1000)(hi:i<n)(hj:Hid (j=i+1))(hO:w.ownsRow B TV 4 (.slice (some ⟨g,0,none⟩) n c) n (bs.flatMap aD)):
  Calls Tryz.prog 117 #[.slice (some ⟨g,0,none⟩) n c,(i:Int),(j:Int)] w fun e w'=>e= .returned (.slice (some ⟨g,0,none⟩) (n-1) c)∧w'.ownsRow B TV 4 (.slice (some ⟨g,0,none⟩) (n-1) c) (n-1) ((bs.eraseIdx i).flatMap aD)∧w.grownBy w' (some g):=by
 obtain⟨i0,hi0,hz0,hz1,hz2⟩:=info_parts (show(Tryz.prog.info? TV).map (fun i=>(i.zero,i.size,i.bytes))=some (some (.agg #[(),(),(),()]),4,32) by kernel_rfl)
 have hO':w.drew.ownsRow B TV 4 (.slice (some ⟨g,0,none⟩) n c) n (bs.flatMap aD):=bB hO (Ext.drew (Ext.refl _))
 have hl0:bs.length=n:=by have:=hO.1;rw[cH aD 4 (fun _=>rfl)]at this;omega
 have hcap:n≤c:=by
  rcases hO.2 with⟨_,h3⟩|⟨g',cap',cur,e1,hb,hg,hn',_⟩
  ·omega
  ·injection e1 with e1 e2 e3;omega
 have hmx:c≤9223372036854775807:=by
  have:=(Sl.own hO).mx;unfold maxLen at this;omega
 have hj1:j=i+1:=hj.out
 obtain⟨news,hnews⟩: ∃news,news=(bs.drop (i+1)).flatMap aD:=⟨_,rfl⟩
 have hnl:news.length=(n-j)*4:=by rw[hnews,cH aD 4 (fun _=>rfl),List.length_drop,hl0,hj1]
 obtain⟨A,hA,hsrc⟩: ∃A:Addr,(if c=j then some (⟨g,0,none⟩:Addr)else some ⟨g,j*4,none⟩)=some A∧Hid (∀t u,news[t]? =some u→w.drew.cell? (A.add t)=some u):=by
  by_cases h:c=j
  ·refine⟨⟨g,0,none⟩,by simp[h],fun t u hu=> ?_⟩
   rw[List.eq_nil_of_length_eq_zero (by rw[hnl];omega:news.length=0)]at hu
   simp at hu
  ·refine⟨⟨g,j*4,none⟩,by simp[h],fun t u hu=> ?_⟩
   have ht:t<(n-j)*4:=by have:=(List.getElem?_eq_some_iff.1 hu).1;rwa[hnl]at this
   rw[Addr.add_lit,hO'.cellAt _ (by omega)]
   rw[hnews,←iS,List.getElem?_drop]at hu
   rw[hj1];exact hu
 have s1:Hid (news.length=(n-j)*4):=hnl
 have s2:Hid (∀u∈news,u.oneCell'=true):=by show∀u∈news,_;rw[hnews];exact dZ _
 have hxl:(bs.flatMap aD).length=n*4:=by rw[cH aD 4 (fun _=>rfl),hl0]
 have s3:Hid (∀t,t<news.length→(w.drew.cell? ⟨g,0+i*4+t,none⟩).isSome=true∧w.drew.frozen? ⟨g,0+i*4+t,none⟩=false):=by
  intro t ht
  rw[hnl]at ht
  refine⟨?_,hO'.frozenAt _⟩
  rw[hO'.cellAt _ (by omega),List.getElem?_eq_getElem (by rw[hxl];omega)];rfl
 obtain⟨W1,hW1⟩: ∃W1,W1=w.drew.setCells g (0+i*4) news:=⟨_,rfl⟩
 obtain⟨h1,g1⟩:=eT news (i*4) _ _ hO' (by rw[hnl,hxl];omega)
 have hW:Hid (W1=w.drew.setCells g (0+i*4) news):=hW1
 rw[Nat.zero_add]at hW1
 rw[←hW1]at h1 g1
 obtain⟨ys,hys⟩: ∃ys,ys=(bs.flatMap aD).take (i*4)++news++(bs.flatMap aD).drop (i*4+news.length):=⟨_,rfl⟩
 rw[←hys]at h1
 have hcl:=fun ty=>zV W1 ty g ((n-1)*4) (c-(n-1)) (fun t ht=>by rw[h1.cellAt _ (by omega),List.getElem?_eq_getElem (by rw[h1.1];omega)];rfl) (fun t _=>h1.frozenAt _)
 obtain⟨h2,g2⟩:=eT [.int .i64 0,.int .i64 0,.int .i64 0,.int .i64 0] ((n-1)*4) _ _ h1 (by rw[h1.1];simp;omega)
 have hfin:Hid ((W1.setCells g ((n-1)*4) [.int .i64 0,.int .i64 0,.int .i64 0,.int .i64 0]).ownsRow B TV 4 (.slice (some ⟨g,0,none⟩) (n-1) c) (n-1) ((bs.eraseIdx i).flatMap aD)):=by
  have h3:=aHx h2 (k:=n-1) (by omega) (by omega)
  rw[List.append_assoc,List.take_append_of_le_length (by rw[List.length_take,h1.1];omega),List.take_take,Nat.min_self,hys,hnews,zP bs i n hl0 hi]at h3
  exact h3
 have hgr:Hid (w.grownBy (W1.setCells g ((n-1)*4) [.int .i64 0,.int .i64 0,.int .i64 0,.int .i64 0]) (some g)):=by
  exact(show w.grownBy w.drew (some g)from⟨rfl,rfl,rfl,Nat.le_refl _,fun _ _ _=>rfl⟩).trans (g1.trans g2)
 have hij:i≤j:=by omega
 have hjn:j≤n:=by omega
 have hic:i≤c:=by omega
 have hjc:j≤c:=by omega
 have hne: ¬i=j:=by omega
 have hnn:i+(n-j)=n-1:=by omega
 have hz23:n-(n-1)=1:=by omega
 have hn1:n-1≤n:=by omega
 have hn2:n-1≤c:=by omega
 have hcn: ¬c=n-1:=by omega
 have HNN:=xQ hnn
 clear hW1 h1 g1 h2 g2 hys hnews hnl hO hO' hl0 hxl hj1 hj hnn
 go_enter Tryz.func117,Tryz.ntmps117
 go_wp2_with fail
 go_region_law (refine step_append_room rfl (.tmp 22) (.tmp 25) 33 rfl TV i0 4 Tryz.underlying33 hi0 hz1 g 0 i c (by simp[Act.eval,Act.put]) A (n-j) (c-j) news (by simp[Act.eval,Act.put]) s1.out hsrc.out s2.out (by omega) s3.out ?_;rw[←hW.out,HNN.out])
 go_wp2
 go_ret
 exact⟨rfl,hfin.out,hgr.out⟩
end Go.Proofs.YtgnkoffndhmhpaaGreatDoor
