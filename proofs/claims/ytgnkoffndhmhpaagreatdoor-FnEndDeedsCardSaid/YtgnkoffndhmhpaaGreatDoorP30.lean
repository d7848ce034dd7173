/-
  Texts of this proof, packed (@packed).
-/
import Derived.Test.YtgnkoffndhmhpaaGreatDoorP5
import Derived.Test.YtgnkoffndhmhpaaGreatDoorP8
import Derived.Test.YtgnkoffndhmhpaaGreatDoorP9
import Derived.Test.YtgnkoffndhmhpaaGreatDoorP20
import Derived.Test.YtgnkoffndhmhpaaGreatDoorP29
namespace Go.Proofs.YtgnkoffndhmhpaaGreatDoor
open Go.RowKit
set_option linter.unusedVariables false
set_option linter.unusedSimpArgs false
set_option maxHeartbeats 8000000
set_option maxRecDepth 100000
theorem aIx (aA aB c d A:Int)(p:OA)(n cap:Nat)(w:World)(HV:xB 80 #[aH aA aB p n cap] w true)(HF:Hid (∀w',Calls Tryz.prog 152 #[aH aA aB p n cap,c] w' fun e w''=>e= .returned (.bool true)∧Ext w' w''))(HT:Hid (∀w',Calls Tryz.prog 152 #[aH aA aB p n cap,d] w' fun e w''=>e= .returned (.bool true)∧Ext w' w''))
  (HA:Hid (∀w',Calls Tryz.prog 153 #[aA,c,d] w' fun e w''=>e= .returned (.int .i64 A)∧Ext w' w'')):
  Calls Tryz.prog 196 #[aH aA aB p n cap,c,d] w fun e w'=>e= .returned (.int .i64 A)∧Ext w w':=by
 go_enter Tryz.func196,Tryz.ntmps196
 go_wp2_with fail
 refine(HV _ ((Mem.start w).bn TH3 #[aA,aB,.slice p n cap] (w.heap.size)).ext).mono ?_
 rintro e w1 ⟨rfl,j⟩
 have M1:=(((Mem.start w).bn TH3 #[aA,aB,.slice p n cap] (w.heap.size)).adv j)
 have a:=M1.hi 0
 clear j
 obtain⟨h0,h1,h2⟩:=(M1.bk 0).tri
 go_wp2_with fail
 clear h0 h1 h2
 refine(HF _).mono ?_
 rintro e w2 ⟨rfl,g⟩
 have M2:=(M1.adv g)
 clear M1 a g
 have b:=M2.hi 0
 obtain⟨h0,h1,h2⟩:=(M2.bk 0).tri
 go_wp2_with fail
 clear h0 h1 h2
 refine(HT _).mono ?_
 rintro e w3 ⟨rfl,h⟩
 have M3:=(M2.adv h)
 clear M2 b h
 have f:=M3.hi 0
 obtain⟨h0,h1,h2⟩:=(M3.bk 0).tri
 go_wp2_with fail
 clear h0 h1 h2
 refine(HA _).mono ?_
 rintro e w4 ⟨rfl,i⟩
 have M4:=(M3.adv i)
 clear M3 f i
 have k:=M4.hi 0
 go_wp2
 go_ret
 exact⟨rfl,M4.ext⟩
theorem aG8 (aA aB f t:Int)(p:OA)(n cap:Nat)(w:World)(HV:xB 80 #[aH aA aB p n cap] w true)(HF:Hid (∀w',Calls Tryz.prog 152 #[aH aA aB p n cap,f] w' fun e w''=>e= .returned (.bool false)∧Ext w' w'')):
  Calls Tryz.prog 118 #[aH aA aB p n cap,dS f t] w fun e w'=>e= .returned (.bool false)∧Ext w w':=by
 go_enter Tryz.func118,Tryz.ntmps118
 go_wp2_with fail
 refine(HV _ (((Mem.start w).bn TH3 #[aA,aB,.slice p n cap] (w.heap.size)).bn TSL #[f,t] (w.heap.size+1)).ext).mono ?_
 rintro e w1 ⟨rfl,c⟩
 have M1:=((((Mem.start w).bn TH3 #[aA,aB,.slice p n cap] (w.heap.size)).bn TSL #[f,t] (w.heap.size+1)).adv c)
 have a:=M1.hi 0
 have b:=M1.hi 1
 clear c
 obtain⟨h0,h1,h2⟩:=(M1.bk 1).tri
 have s0:=(M1.bk 0).cl 0
 have s1:=(M1.bk 0).cl 1
 go_wp2_with fail
 clear h0 h1 h2 s0 s1
 refine(HF _).mono ?_
 rintro e w2 ⟨rfl,d⟩
 have M2:=(M1.adv d)
 clear M1 a b d
 have h:=M2.hi 0
 have g:=M2.hi 1
 obtain⟨h0,h1,h2⟩:=(M2.bk 1).tri
 have s0:=(M2.bk 0).cl 0
 have s1:=(M2.bk 0).cl 1
 go_wp2
 go_ret
 exact⟨rfl,M2.ext⟩
theorem aG7 (aA aB f t:Int)(p:OA)(n cap:Nat)(w:World)(HV:xB 80 #[aH aA aB p n cap] w true)(HF:Hid (∀w',Calls Tryz.prog 152 #[aH aA aB p n cap,f] w' fun e w''=>e= .returned (.bool true)∧Ext w' w''))(HT:Hid (∀w',Calls Tryz.prog 152 #[aH aA aB p n cap,t] w' fun e w''=>e= .returned (.bool false)∧Ext w' w'')):
  Calls Tryz.prog 118 #[aH aA aB p n cap,dS f t] w fun e w'=>e= .returned (.bool false)∧Ext w w':=by
 go_enter Tryz.func118,Tryz.ntmps118
 go_wp2_with fail
 refine(HV _ (((Mem.start w).bn TH3 #[aA,aB,.slice p n cap] (w.heap.size)).bn TSL #[f,t] (w.heap.size+1)).ext).mono ?_
 rintro e w1 ⟨rfl,i⟩
 have M1:=((((Mem.start w).bn TH3 #[aA,aB,.slice p n cap] (w.heap.size)).bn TSL #[f,t] (w.heap.size+1)).adv i)
 have a:=M1.hi 0
 have d:=M1.hi 1
 clear i
 obtain⟨h0,h1,h2⟩:=(M1.bk 1).tri
 have s0:=(M1.bk 0).cl 0
 have s1:=(M1.bk 0).cl 1
 go_wp2_with fail
 clear h0 h1 h2 s0 s1
 refine(HF _).mono ?_
 rintro e w2 ⟨rfl,g⟩
 have M2:=(M1.adv g)
 clear M1 a d g
 have b:=M2.hi 0
 have c:=M2.hi 1
 obtain⟨h0,h1,h2⟩:=(M2.bk 1).tri
 have s0:=(M2.bk 0).cl 0
 have s1:=(M2.bk 0).cl 1
 go_wp2_with fail
 clear h0 h1 h2 s0 s1
 refine(HT _).mono ?_
 rintro e w3 ⟨rfl,h⟩
 have M3:=(M2.adv h)
 clear M2 b c h
 have j:=M3.hi 0
 have k:=M3.hi 1
 obtain⟨h0,h1,h2⟩:=(M3.bk 1).tri
 have s0:=(M3.bk 0).cl 0
 have s1:=(M3.bk 0).cl 1
 go_wp2
 go_ret
 exact⟨rfl,M3.ext⟩
theorem aG6 (aA aB:Int)(b off n cap i j:Nat)(x y:Int)(w:World)(hi:i<n)(hj:j<n)(hb:b<w.heap.size)(HCX:Hid (w.cell? ⟨b,off+i,none⟩=some (.int .i64 x)))(HCY:Hid (w.cell? ⟨b,off+j,none⟩=some (.int .i64 y)))(d1:(x !=0)=false)(HV:xB 80 #[aH aA aB (some ⟨b,off,none⟩) n cap] w true)(HF:Hid (∀w',Calls Tryz.prog 152 #[aH aA aB (some ⟨b,off,none⟩) n cap,(i:Int)] w' fun e w''=>e= .returned (.bool true)∧Ext w' w''))(HT:Hid (∀w',Calls Tryz.prog 152 #[aH aA aB (some ⟨b,off,none⟩) n cap,(j:Int)] w' fun e w''=>e= .returned (.bool true)∧Ext w' w'')):
  Calls Tryz.prog 118 #[aH aA aB (some ⟨b,off,none⟩) n cap,dS (i:Int) (j:Int)] w fun e w'=>e= .returned (.bool false)∧Ext w w':=by
 have a1:(0:Int)≤(i:Int):=by omega
 have a2:(0:Int)≤(j:Int):=by omega
 have a3:(i:Int)<(n:Int):=by omega
 have a4:(j:Int)<(n:Int):=by omega
 go_enter Tryz.func118,Tryz.ntmps118
 go_wp2_with fail
 refine(HV _ (((Mem.start w).bn TH3 #[aA,aB,.slice (some ⟨b,off,none⟩) n cap] (w.heap.size)).bn TSL #[(i:Int),(j:Int)] (w.heap.size+1)).ext).mono ?_
 rintro e w1 ⟨rfl,k⟩
 have M1:=((((Mem.start w).bn TH3 #[aA,aB,.slice (some ⟨b,off,none⟩) n cap] (w.heap.size)).bn TSL #[(i:Int),(j:Int)] (w.heap.size+1)).adv k)
 have a:=M1.hi 0
 have f:=M1.hi 1
 clear k
 obtain⟨h0,h1,h2⟩:=(M1.bk 1).tri
 have s0:=(M1.bk 0).cl 0
 have s1:=(M1.bk 0).cl 1
 go_wp2_with fail
 clear h0 h1 h2 s0 s1
 refine(HF _).mono ?_
 rintro e w2 ⟨rfl,g⟩
 have M2:=(M1.adv g)
 clear M1 a f g
 have c:=M2.hi 0
 have d:=M2.hi 1
 obtain⟨h0,h1,h2⟩:=(M2.bk 1).tri
 have s0:=(M2.bk 0).cl 0
 have s1:=(M2.bk 0).cl 1
 go_wp2_with fail
 clear h0 h1 h2 s0 s1
 refine(HT _).mono ?_
 rintro e w3 ⟨rfl,h⟩
 have M3:=(M2.adv h)
 clear M2 c d h
 have l:=M3.hi 0
 have m:=M3.hi 1
 obtain⟨h0,h1,h2⟩:=(M3.bk 1).tri
 have s0:=(M3.bk 0).cl 0
 have s1:=(M3.bk 0).cl 1
 have g1:w3.cell? ⟨b,off+i,none⟩=some (.int .i64 x):=(M3.ext.cells.1 _ _ hb).trans HCX.out
 have g2:w3.cell? ⟨b,off+j,none⟩=some (.int .i64 y):=(M3.ext.cells.1 _ _ hb).trans HCY.out
 go_wp2
 go_ret
 exact⟨rfl,M3.ext⟩
theorem aG5 (aA aB:Int)(b off n cap i j:Nat)(x y:Int)(w:World)(hi:i<n)(hj:j<n)(hb:b<w.heap.size)(HCX:Hid (w.cell? ⟨b,off+i,none⟩=some (.int .i64 x)))(HCY:Hid (w.cell? ⟨b,off+j,none⟩=some (.int .i64 y)))(d1:(x !=0)=true)(d2:(y==0)=false)(HV:xB 80 #[aH aA aB (some ⟨b,off,none⟩) n cap] w true)(HF:Hid (∀w',Calls Tryz.prog 152 #[aH aA aB (some ⟨b,off,none⟩) n cap,(i:Int)] w' fun e w''=>e= .returned (.bool true)∧Ext w' w''))(HT:Hid (∀w',Calls Tryz.prog 152 #[aH aA aB (some ⟨b,off,none⟩) n cap,(j:Int)] w' fun e w''=>e= .returned (.bool true)∧Ext w' w'')):
  Calls Tryz.prog 118 #[aH aA aB (some ⟨b,off,none⟩) n cap,dS (i:Int) (j:Int)] w fun e w'=>e= .returned (.bool false)∧Ext w w':=by
 have a1:(0:Int)≤(i:Int):=by omega
 have a2:(0:Int)≤(j:Int):=by omega
 have a3:(i:Int)<(n:Int):=by omega
 have a4:(j:Int)<(n:Int):=by omega
 go_enter Tryz.func118,Tryz.ntmps118
 go_wp2_with fail
 refine(HV _ (((Mem.start w).bn TH3 #[aA,aB,.slice (some ⟨b,off,none⟩) n cap] (w.heap.size)).bn TSL #[(i:Int),(j:Int)] (w.heap.size+1)).ext).mono ?_
 rintro e w1 ⟨rfl,k⟩
 have M1:=((((Mem.start w).bn TH3 #[aA,aB,.slice (some ⟨b,off,none⟩) n cap] (w.heap.size)).bn TSL #[(i:Int),(j:Int)] (w.heap.size+1)).adv k)
 have a:=M1.hi 0
 have f:=M1.hi 1
 clear k
 obtain⟨h0,h1,h2⟩:=(M1.bk 1).tri
 have s0:=(M1.bk 0).cl 0
 have s1:=(M1.bk 0).cl 1
 go_wp2_with fail
 clear h0 h1 h2 s0 s1
 refine(HF _).mono ?_
 rintro e w2 ⟨rfl,g⟩
 have M2:=(M1.adv g)
 clear M1 a f g
 have c:=M2.hi 0
 have d:=M2.hi 1
 obtain⟨h0,h1,h2⟩:=(M2.bk 1).tri
 have s0:=(M2.bk 0).cl 0
 have s1:=(M2.bk 0).cl 1
 go_wp2_with fail
 clear h0 h1 h2 s0 s1
 refine(HT _).mono ?_
 rintro e w3 ⟨rfl,h⟩
 have M3:=(M2.adv h)
 clear M2 c d h
 have l:=M3.hi 0
 have m:=M3.hi 1
 obtain⟨h0,h1,h2⟩:=(M3.bk 1).tri
 have s0:=(M3.bk 0).cl 0
 have s1:=(M3.bk 0).cl 1
 have g1:w3.cell? ⟨b,off+i,none⟩=some (.int .i64 x):=(M3.ext.cells.1 _ _ hb).trans HCX.out
 have g2:w3.cell? ⟨b,off+j,none⟩=some (.int .i64 y):=(M3.ext.cells.1 _ _ hb).trans HCY.out
 go_wp2
 go_ret
 exact⟨rfl,M3.ext⟩
theorem aIl (aA aB:Int)(b off n cap i j:Nat)(x y A:Int)(w:World)(hi:i<n)(hj:j<n)(hb:b<w.heap.size)(HCX:Hid (w.cell? ⟨b,off+i,none⟩=some (.int .i64 x)))(HCY:Hid (w.cell? ⟨b,off+j,none⟩=some (.int .i64 y)))(d1:(x !=0)=true)(d2:(y==0)=true)(HV:xB 80 #[aH aA aB (some ⟨b,off,none⟩) n cap] w true)(HF:Hid (∀w',Calls Tryz.prog 152 #[aH aA aB (some ⟨b,off,none⟩) n cap,(i:Int)] w' fun e w''=>e= .returned (.bool true)∧Ext w' w''))(HT:Hid (∀w',Calls Tryz.prog 152 #[aH aA aB (some ⟨b,off,none⟩) n cap,(j:Int)] w' fun e w''=>e= .returned (.bool true)∧Ext w' w''))(HA:Hid (∀w',Calls Tryz.prog 153 #[aA,(i:Int),(j:Int)] w' fun e w''=>e= .returned (.int .i64 A)∧Ext w' w'')):
  Calls Tryz.prog 118 #[aH aA aB (some ⟨b,off,none⟩) n cap,dS (i:Int) (j:Int)] w fun e w'=>e= .returned (.bool (A==1))∧Ext w w':=by
 have a1:(0:Int)≤(i:Int):=by omega
 have a2:(0:Int)≤(j:Int):=by omega
 have a3:(i:Int)<(n:Int):=by omega
 have a4:(j:Int)<(n:Int):=by omega
 go_enter Tryz.func118,Tryz.ntmps118
 go_wp2_with fail
 refine(HV _ (((Mem.start w).bn TH3 #[aA,aB,.slice (some ⟨b,off,none⟩) n cap] (w.heap.size)).bn TSL #[(i:Int),(j:Int)] (w.heap.size+1)).ext).mono ?_
 rintro e w1 ⟨rfl,o⟩
 have M1:=((((Mem.start w).bn TH3 #[aA,aB,.slice (some ⟨b,off,none⟩) n cap] (w.heap.size)).bn TSL #[(i:Int),(j:Int)] (w.heap.size+1)).adv o)
 have a:=M1.hi 0
 have g:=M1.hi 1
 clear o
 obtain⟨h0,h1,h2⟩:=(M1.bk 1).tri
 have s0:=(M1.bk 0).cl 0
 have s1:=(M1.bk 0).cl 1
 go_wp2_with fail
 clear h0 h1 h2 s0 s1
 refine(HF _).mono ?_
 rintro e w2 ⟨rfl,k⟩
 have M2:=(M1.adv k)
 clear M1 a g k
 have c:=M2.hi 0
 have d:=M2.hi 1
 obtain⟨h0,h1,h2⟩:=(M2.bk 1).tri
 have s0:=(M2.bk 0).cl 0
 have s1:=(M2.bk 0).cl 1
 go_wp2_with fail
 clear h0 h1 h2 s0 s1
 refine(HT _).mono ?_
 rintro e w3 ⟨rfl,l⟩
 have M3:=(M2.adv l)
 clear M2 c d l
 have f:=M3.hi 0
 have h:=M3.hi 1
 obtain⟨h0,h1,h2⟩:=(M3.bk 1).tri
 have s0:=(M3.bk 0).cl 0
 have s1:=(M3.bk 0).cl 1
 have g1:w3.cell? ⟨b,off+i,none⟩=some (.int .i64 x):=(M3.ext.cells.1 _ _ hb).trans HCX.out
 have g2:w3.cell? ⟨b,off+j,none⟩=some (.int .i64 y):=(M3.ext.cells.1 _ _ hb).trans HCY.out
 go_wp2_with fail
 clear h0 h1 h2 s0 s1 g1 g2
 refine(HA _).mono ?_
 rintro e w4 ⟨rfl,m⟩
 have M4:=(M3.adv m)
 clear M3 f h m
 have q:=M4.hi 0
 have p:=M4.hi 1
 go_wp2
 go_ret
 exact⟨rfl,M4.ext⟩
theorem aLw (aA aB:Int)(c d:Nat)(p:OA)(n cap:Nat)(xs:List Int)(w:World)(hS:Sl w p n cap 1 (ivs xs))(hok:aN aA aB xs=true)(hc:c<n)(hd:d<n):
  Calls Tryz.prog 196 #[aH aA aB p n cap,(c:Int),(d:Int)] w fun e w'=>e= .returned (.int .i64 (aW aA c d))∧Ext w w':=by
 have hl:=hS.ilen
 obtain⟨g1,g2,g3,g4,g5,g6,g7,g8,g9⟩:=bM hok
 have HH: ∀(k:Nat),k<n→ ∀w',Calls Tryz.prog 152 #[aH aA aB p n cap,(k:Int)] w' fun e w''=>e= .returned (.bool true)∧Ext w' w'':=fun k hk w'=>by
  have:=iL aA aB k p n cap w' (by omega)
  rwa[decide_eq_true (⟨by omega,by omega⟩:0≤(k:Int)∧(k:Int)<n)]at this
 exact aIx aA aB c d _ p n cap w (fun w' hx=>by have:=fI aA aB p n cap xs w' (hS.ext hx);rwa[hok]at this) (HH c hc) (HH d hd) (fun w'=>lM aA c d w' (by omega) (by omega) (by omega) (by omega) (by omega) (by omega))
theorem aLp (aA aB f t:Int)(p:OA)(n cap:Nat)(xs:List Int)(w:World)(hS:Sl w p n cap 1 (ivs xs))(hok:aN aA aB xs=true):
  Calls Tryz.prog 118 #[aH aA aB p n cap,dS f t] w fun e w'=>e= .returned (.bool (bA aA aB xs f t))∧Ext w w':=by
 have hl:=hS.ilen
 obtain⟨g1,g2,g3,g4,g5,g6,g7,g8,g9⟩:=bM hok
 have HV: ∀w',Ext w w'→Calls Tryz.prog 80 #[aH aA aB p n cap] w' fun e w''=>e= .returned (.bool true)∧Ext w' w'':=fun w' hx=>by
  have:=fI aA aB p n cap xs w' (hS.ext hx);rwa[hok]at this
 have HH: ∀(c:Int) w',Calls Tryz.prog 152 #[aH aA aB p n cap,c] w' fun e w''=>e= .returned (.bool (decide (0≤c∧c<n)))∧Ext w' w'':=fun c w'=>iL aA aB c p n cap w' (by omega)
 by_cases hf:0≤f∧f<n
 ·have HF:=HH f
  rw[decide_eq_true hf]at HF
  by_cases ht:0≤t∧t<n
  ·have HT:=HH t
   rw[decide_eq_true ht]at HT
   obtain⟨i,rfl⟩: ∃i:Nat,f=(i:Int):=⟨f.toNat,by omega⟩
   obtain⟨j,rfl⟩: ∃j:Nat,t=(j:Int):=⟨t.toNat,by omega⟩
   have hi:i<n:=by omega
   have hj:j<n:=by omega
   obtain⟨b,a,rfl,hb,m⟩:=hS.rd (by omega)
   have k:xs[i]? =some (xs.getD i 0):=by rw[List.getD_eq_getElem?_getD,List.getElem?_eq_getElem (by omega)];rfl
   have l:xs[j]? =some (xs.getD j 0):=by rw[List.getD_eq_getElem?_getD,List.getElem?_eq_getElem (by omega)];rfl
   have g:w.cell? ⟨b,a+i,none⟩=some (.int .i64 (xs.getD i 0)):=by rw[m i (by omega)];simp only[ivs,List.getElem?_map,k,Option.map_some]
   have d:w.cell? ⟨b,a+j,none⟩=some (.int .i64 (xs.getD j 0)):=by rw[m j (by omega)];simp only[ivs,List.getElem?_map,l,Option.map_some]
   have q:0≤xs.getD i 0:=nR hok i
   have o:dF aA aB xs (i:Int) (j:Int)=aW aA i j:=by unfold dF;rw[if_pos ⟨hok,⟨by omega,by omega⟩,by omega,by omega⟩]
   unfold bA
   rw[o,Int.toNat_natCast,Int.toNat_natCast]
   clear k l
   generalize xs.getD i 0=x at*
   generalize xs.getD j 0=y at*
   by_cases hx0:x=0
   ·subst hx0
    rw[show(decide (aW aA (i:Int) j=1)&&decide (0<(0:Int))&&decide (y=0))=false by simp]
    exact aG6 aA aB b a n cap i j _ _ w hi hj hb g d (by simp) HV HF HT
   ·have d1:(x !=0)=true:=by simp[hx0]
    by_cases hy0:y=0
    ·subst hy0
     rw[show(decide (aW aA (i:Int) j=1)&&decide (0<x)&&decide ((0:Int)=0))=(aW aA (i:Int) j==1) by
      rw[decide_eq_true (show 0<x by omega)];by_cases ha:aW aA (i:Int) j=1<;>simp[ha]]
     exact aIl aA aB b a n cap i j _ _ _ w hi hj hb g d d1 (by simp) HV HF HT (fun w'=>lM aA i j w' (by omega) (by omega) (by omega) (by omega) (by omega) (by omega))
    ·rw[show(decide (aW aA (i:Int) j=1)&&decide (0<x)&&decide (y=0))=false by simp[hy0]]
     exact aG5 aA aB b a n cap i j _ _ w hi hj hb g d d1 (by simp[hy0]) HV HF HT
  ·have HT:=HH t
   rw[decide_eq_false ht]at HT
   rw[show bA aA aB xs f t=false by
    cases h:bA aA aB xs f t with
    |false=>rfl
    |true=>
     unfold bA at h;simp only[Bool.and_eq_true,decide_eq_true_eq]at h
     have:=iW h.1.1;omega]
   exact aG7 aA aB f t p n cap w HV HF HT
 ·have HF:=HH f
  rw[decide_eq_false hf]at HF
  rw[show bA aA aB xs f t=false by
   cases h:bA aA aB xs f t with
   |false=>rfl
   |true=>
    unfold bA at h;simp only[Bool.and_eq_true,decide_eq_true_eq]at h
    have:=iW h.1.1;omega]
  exact aG8 aA aB f t p n cap w HV HF
theorem aE6 (q:OA)(m c2:Nat)(xs:List Int)(w:World)(hm:m≤1000)(hS:Sl w q m c2 1 (ivs xs)):
  Calls Tryz.prog 143 #[.slice q m c2] w fun e w'=> ∃q' c',e= .returned (.slice q' m c')∧w'.ownsRow w.heap.size TI 1 (.slice q' m c') m (ivs xs)∧Ext w w':=by
 cases q with
 |none=>
  have h0:m=0:=by
   by_cases h:0<m
   ·obtain⟨b,g,e,_⟩:=hS.rd h;cases e
   ·omega
  subst h0
  have f:ivs xs= []:=List.eq_nil_of_length_eq_zero (by have:=hS.len;simpa using this)
  have d: ∀(w:World) (a:OA) (n c n' c':Nat),(binOp .eql 22 (.slice a n c) (.slice none n' c')).run Tryz.prog w= .ok (.bool a.isNone) w:=fun w a n c n' c'=>Lib.run_eql_slice_nil w _ _ a n c n' c' Tryz.underlying22
  clear hS
  go_enter Tryz.func143,Tryz.ntmps143
  go_wp2
  go_ret
  exact⟨none,0,rfl,by rw[f];exact World.ownsRow_nil _ _ _ _,Ext.refl _⟩
 |some a=>
  have HS:=xQ hS
  have MS:=((Mem.start w).made0 TI 1 (w.heap.size) (by simp))
  have d: ∀(w:World) (a:OA) (n c n' c':Nat),(binOp .eql 22 (.slice a n c) (.slice none n' c')).run Tryz.prog w= .ok (.bool a.isNone) w:=fun w a n c n' c'=>Lib.run_eql_slice_nil w _ _ a n c n' c' Tryz.underlying22
  clear hS
  go_enter Tryz.func143,Tryz.ntmps143
  go_wp2_with (at_builtin;go_loud (refine cJ eS rfl _ _ rfl MS 0 rfl rfl (ivs xs) rfl (HS.out.ext ((Ext.refl _).alloc _)) (oL xs) (by omega) ?_;intro q7 c7 w6 M6))
  have M7:=(show Mem w w6 [aJ w.heap.size TI 1 q7 m c7 (ivs xs)]from by simpa using M6)
  clear M6
  go_wp2
  go_ret
  exact⟨q7,c7,rfl,M7.ow 0,M7.ext⟩
theorem kR (aA aB:Int)(p:OA)(n cap:Nat)(xs:List Int)(w:World)(hn:n≤1000)(hS:Sl w p n cap 1 (ivs xs)):
  Calls Tryz.prog 105 #[aH aA aB p n cap] w (cZ aA aB xs w):=by
 have hl:=xQ hS.ilen
 have HS:=xQ hS
 clear hS
 have HK:xC 143 #[.slice p n cap] w fun w' e w''=> ∃q' c',e= .returned (.slice q' n c')∧w''.ownsRow w'.heap.size TI 1 (.slice q' n c') n (ivs xs)∧Ext w' w'':=fun w' hx=>aE6 p n cap xs w' hn (HS.out.ext hx)
 go_enter Tryz.func105,Tryz.ntmps105
 go_wp2
 have ME:=(((Mem.start w).bn TH3 #[aA,aB,.slice p n cap] (w.heap.size)).bn TH3 #[(),(),((),())] (w.heap.size+1))
 refine rL (gl [gEq (.pointer (some ⟨w.heap.size,0,none⟩)),gEq aA,gEq (.pointer (some ⟨w.heap.size,1,none⟩)),gEq aB,gEq (.pointer (some ⟨w.heap.size,2,none⟩)),gEq (.slice p n cap),(fun v w'=> ∃q c,v= .slice q n c∧w'.ownsRow (w.heap.size+2) TI 1 (.slice q n c) n (ivs xs)),(fun v w'=> ∃q c,v=aH aA aB q n c∧w'.ownsRow (w.heap.size+2) TI 1 (.slice q n c) n (ivs xs))]) 8 9 [(0,some 3),(1,some 4),(2,some 5),(3,some 6),(4,some 7),(5,some 8),(6,some 9),(7,some 10)] ?steps ?fin (hG:=(oM (bV (bZ _) (bV (bZ _) (bV (bZ _) (bV (bZ _) (bV (bZ _) (bV (bZ _) (bV (fun v w w' ⟨q,c,he,ho⟩ hx=>⟨q,c,he,bC ho hx⟩) (bV (fun v w w' ⟨q,c,he,ho⟩ hx=>⟨q,c,he,bC ho hx⟩) (rM)))))))))))
 case steps=>
  refine sS0 [] ?_
  refine sC [(0,some 3)] rfl (fun wi hx=> ?_) ?_
  ·intro v0 h0 K hK
   obtain rfl:=h0
   have hX:Ext ((w.alloc (.cells #[aA,aB,.slice p n cap] TH3)).alloc (.cells #[(),(),((),())] TH3)) wi:=xE
   have b:=((ME.bk 1).ext hX).cl 0
   go_simp
   exact hK _ _ ⟨.int .i64 aA,rfl,rfl,Ext.refl _⟩
  refine sS0 [] ?_
  refine sC [(2,some 5)] rfl (fun wi hx=> ?_) ?_
  ·intro v2 h2 K hK
   obtain rfl:=h2
   have hX:Ext ((w.alloc (.cells #[aA,aB,.slice p n cap] TH3)).alloc (.cells #[(),(),((),())] TH3)) wi:=xE
   have b:=((ME.bk 1).ext hX).cl 1
   go_simp
   exact hK _ _ ⟨.int .i64 aB,rfl,rfl,Ext.refl _⟩
  refine sS0 [] ?_
  refine sC [(4,some 7)] rfl (fun wi hx=> ?_) ?_
  ·intro v4 h4 K hK
   obtain rfl:=h4
   have hX:Ext ((w.alloc (.cells #[aA,aB,.slice p n cap] TH3)).alloc (.cells #[(),(),((),())] TH3)) wi:=xE
   have b:=((ME.bk 1).ext hX).cl 2
   go_simp
   exact hK _ _ ⟨.slice p n cap,rfl,rfl,Ext.refl _⟩
  refine sC [(5,some 8)] rfl (fun wi hx=> ?_) ?_
  ·intro v5 h5 K hK
   obtain rfl:=h5
   go_wp2_with fail
   refine(HK _ (ME.ext.trans hx.of_drew)).mono ?_
   rintro e w5 ⟨q5,c5,rfl,o5,i⟩
   go_simp
   exact hK _ _ ⟨.slice q5 n c5,rfl,⟨q5,c5,rfl,bH o5 (by have:=hx.sz;simp at this;omega)⟩,i⟩
  refine sC [(1,some 4),(3,some 6),(6,some 9)] rfl (fun wi hx=> ?_) StepsL.nil
  ·intro v1 h1 v3 h3 v6 h6 K hK
   obtain rfl:=h1
   obtain rfl:=h3
   obtain⟨q6,c6,rfl,a⟩:=h6
   go_simp
   exact hK _ _ ⟨aH aA aB q6 n c6,rfl,⟨q6,c6,rfl,a⟩,Ext.refl _⟩
 case fin=>
  intro wi hx v0 h0 v1 h1 v2 h2 v3 h3 v4 h4 v5 h5 v6 h6 v7 h7
  obtain rfl:=h0
  obtain rfl:=h1
  obtain rfl:=h2
  obtain rfl:=h3
  obtain rfl:=h4
  obtain rfl:=h5
  obtain⟨q6,c6,rfl,a⟩:=h6
  obtain⟨q7,c7,rfl,f⟩:=h7
  have hX:Ext ((w.alloc (.cells #[aA,aB,.slice p n cap] TH3)).alloc (.cells #[(),(),((),())] TH3)) wi:=hx.of_drew
  have M2:=(show Mem w wi [aJ w.heap.size TI 1 (q7) (n) (c7) (ivs xs),aI w.heap.size (w.heap.size+1) TH3 #[(),(),((),())],aI w.heap.size (w.heap.size) TH3 #[aA,aB,.slice p n cap]]from ME.ownNew hX f (by simp))
  clear ME hx hX a f HK HS
  have g:=M2.hi 1
  have k:=M2.hi 2
  try simp only[Act.put,List.setIfInBounds_toArray,List.set_cons_zero,List.set_cons_succ]
  obtain⟨z0,j,z1,h,z2,l⟩:=(M2.bk 1).trif
  refine wpAny_ready (rs:= [8]) (by kernel_rfl) (by simp) ?_
  refine AllReady.cons rfl (fun K hK=> ?_) AllReady.nil
  go_simp
  refine hK _ _ ?_
  clear hK K
  refine wpAny_done (by kernel_rfl) ?_ _
  try simp only[Act.put,List.setIfInBounds_toArray,List.set_cons_zero,List.set_cons_succ]
  have M3:=((M2.st 1 0 (.int .i64 aA)).st 1 1 (.int .i64 aB))
  have M4:=(M3.st 1 2 (.slice q7 n c7))
  go_wp2
  have M5:=(show Mem w (((wi.setCell ⟨w.heap.size+1,0,none⟩ (.int .i64 aA)).setCell ⟨w.heap.size+1,1,none⟩ (.int .i64 aB)).setCell ⟨w.heap.size+1,2,none⟩ (.slice q7 n c7)) [aJ w.heap.size TI 1 (q7) (n) (c7) (ivs xs),aI w.heap.size (w.heap.size+1) TH3 #[aA,aB,.slice q7 n c7],aI w.heap.size (w.heap.size) TH3 #[aA,aB,.slice p n cap]]from M4)
  generalize d:World.setCell _ _ _=wz
  rw[d]at M5
  clear d M2 M3 M4 z0 j z1 h z2 l
  obtain⟨y0,y1,y2⟩:=(M5.bk 1).tri
  exact bodyPost_ret (v:=aH aA aB q7 n c7) (by simp[results,Tryz.results105,go_sem, *]) rfl (pV hl.out (M5.ow 0) M5.ext)
theorem aE5 (q:OA)(m c2:Nat)(xs:List Value)(w:World)(hm:m≤1000)(hS:Sl w q m c2 4 xs)(h1: ∀u∈xs,u.oneCell'=true):
  Calls Tryz.prog 106 #[.slice q m c2] w fun e w'=> ∃q' c',e= .returned (.slice q' m c')∧w'.ownsRow w.heap.size TV 4 (.slice q' m c') m xs∧Ext w w':=by
 cases q with
 |none=>
  have h0:m=0:=by
   by_cases h:0<m
   ·obtain⟨b,f,e,_⟩:=hS.rd h;cases e
   ·omega
  subst h0
  obtain rfl:xs= []:=List.eq_nil_of_length_eq_zero (by have:=hS.len;simpa using this)
  have d: ∀(w:World) (a:OA) (n c n' c':Nat),(binOp .eql 33 (.slice a n c) (.slice none n' c')).run Tryz.prog w= .ok (.bool a.isNone) w:=fun w a n c n' c'=>Lib.run_eql_slice_nil w _ _ a n c n' c' Tryz.underlying33
  clear hS
  go_enter Tryz.func106,Tryz.ntmps106
  go_wp2
  go_ret
  exact⟨none,0,rfl,World.ownsRow_nil _ _ _ _,Ext.refl _⟩
 |some a=>
  have HS:=xQ hS
  have HO:=xQ h1
  have MS:=((Mem.start w).made0 TV 4 (w.heap.size) (by simp))
  have d: ∀(w:World) (a:OA) (n c n' c':Nat),(binOp .eql 33 (.slice a n c) (.slice none n' c')).run Tryz.prog w= .ok (.bool a.isNone) w:=fun w a n c n' c'=>Lib.run_eql_slice_nil w _ _ a n c n' c' Tryz.underlying33
  clear hS h1
  go_enter Tryz.func106,Tryz.ntmps106
  go_wp2_with (at_builtin;go_loud (refine cJ rR rfl _ _ rfl MS 0 rfl rfl xs rfl (HS.out.ext ((Ext.refl _).alloc _)) HO (by omega) ?_;intro q7 c7 w6 M6))
  have M7:=(show Mem w w6 [aJ w.heap.size TV 4 q7 m c7 xs]from by simpa using M6)
  clear M6
  go_wp2
  go_ret
  exact⟨q7,c7,rfl,M7.ow 0,M7.ext⟩
theorem aGi (aA aB free step aD aG aC aF:Int)(p:OA)(n cap:Nat)(q:OA)(m c2:Nat)(xs:List Int)(vs:List aP)(w:World)
  (HL:xC 105 #[aH aA aB p n cap] w fun w' e w''=> ∃q c,e= .returned (aH aA aB q n c)∧w''.ownsRow w'.heap.size TI 1 (.slice q n c) n (ivs xs)∧Ext w' w'')
  (HCL:xC 106 #[.slice q m c2] w fun w' e w''=> ∃q' c',e= .returned (.slice q' m c')∧w''.ownsRow w'.heap.size TV 4 (.slice q' m c') m (vs.flatMap aE)∧Ext w' w''):
  Calls Tryz.prog 62 #[.agg #[aA,aB,.slice p n cap,free,step,aD,aG,aC,aF,.slice q m c2]] w fun e w'=> ∃p' cap' q' c2',e= .returned (.agg #[aA,aB,.slice p' n cap',free,step,aD,aG,aC,aF,.slice q' m c2'])∧w'.ownsRow w.heap.size TI 1 (.slice p' n cap') n (ivs xs)∧w'.ownsRow w.heap.size TV 4 (.slice q' m c2') m (vs.flatMap aE)∧Ext w w':=by
 go_enter Tryz.func62,Tryz.ntmps62
 go_wp2_with fail
 refine(HL _ ((((Mem.start w).bn aL #[aA,aB,.slice p n cap,free,step,aD,aG,aC,aF,.slice q m c2] (w.heap.size)).bn aL #[(),(),((),()),(),(),(),(),(),(),((),())] (w.heap.size+1)).bn aL #[aA,aB,.slice p n cap,free,step,aD,aG,aC,aF,.slice q m c2] (w.heap.size+1+1)).ext).mono ?_
 rintro e w1 ⟨q0,c0,rfl,h,k⟩
 have M1:=(((((Mem.start w).bn aL #[aA,aB,.slice p n cap,free,step,aD,aG,aC,aF,.slice q m c2] (w.heap.size)).bn aL #[(),(),((),()),(),(),(),(),(),(),((),())] (w.heap.size+1)).bn aL #[aA,aB,.slice p n cap,free,step,aD,aG,aC,aF,.slice q m c2] (w.heap.size+1+1)).call k h)
 have b:=M1.hi 1
 have d:=M1.hi 2
 have a:=M1.hi 3
 clear k h
 have c9:=(M1.bk 3).cl 9
 have d0:=(M1.bk 1).cl 0
 have t:=(M1.bk 1).frozen 0
 have d1:=(M1.bk 1).cl 1
 have ab:=(M1.bk 1).frozen 1
 have d2:=(M1.bk 1).cl 2
 have r:=(M1.bk 1).frozen 2
 go_wp2_with fail
 clear c9 d0 t d1 ab d2 r
 refine(HCL _ (((M1.store (i:=1) rfl 0 (.int .i64 aA)).store (i:=1) rfl 1 (.int .i64 aB)).store (i:=1) rfl 2 (.slice q0 n c0)).ext).mono ?_
 rintro e w2 ⟨q7,c7,rfl,g,f⟩
 have M2:=((((M1.st 1 0 (.int .i64 aA)).st 1 1 (.int .i64 aB)).st 1 2 (.slice q0 n c0)).call f g)
 clear M1 b d a f g
 have aj:=M2.hi 2
 have ah:=M2.hi 3
 have ai:=M2.hi 4
 obtain⟨x0,x1,x2,x3,x4,x5,x6,x7,x8,x9⟩:=(M2.bk 2).ten
 have s:=(M2.bk 2).cl 9
 have l:=(M2.bk 2).frozen 9
 obtain⟨y0,x,y1,ae,y2,aa,y3,af,y4,u,y5,y,y6,ad,y7,z,y8,o,y9,ag⟩:=(M2.bk 3).tenf
 go_wp2
 clear x0 x1 x2 x3 x4 x5 x6 x7 x8 x9 s l y0 x y1 ae y2 aa y3 af y4 u y5 y y6 ad y7 z y8 o y9 ag
 have M3:=(show Mem w (((((((((((w2.setCell ⟨w.heap.size+1+1,9,none⟩ (.slice q7 m c7)).setCell ⟨w.heap.size+1,0,none⟩ (.int .i64 aA)).setCell ⟨w.heap.size+1,1,none⟩ (.int .i64 aB)).setCell ⟨w.heap.size+1,2,none⟩ (.slice q0 n c0)).setCell ⟨w.heap.size+1,3,none⟩ (.int .i64 free)).setCell ⟨w.heap.size+1,4,none⟩ (.int .i64 step)).setCell ⟨w.heap.size+1,5,none⟩ (.int .i64 aD)).setCell ⟨w.heap.size+1,6,none⟩ (.int .i64 aG)).setCell ⟨w.heap.size+1,7,none⟩ (.int .i64 aC)).setCell ⟨w.heap.size+1,8,none⟩ (.int .i64 aF)).setCell ⟨w.heap.size+1,9,none⟩ (.slice q7 m c7)) [aJ w.heap.size TV 4 (q7) (m) (c7) (vs.flatMap aE),aJ w.heap.size TI 1 (q0) (n) (c0) (ivs xs),aI w.heap.size (w.heap.size+1+1) aL #[aA,aB,.slice q0 n c0,free,step,aD,aG,aC,aF,.slice q7 m c7],aI w.heap.size (w.heap.size+1) aL #[aA,aB,.slice q0 n c0,free,step,aD,aG,aC,aF,.slice q7 m c7],aI w.heap.size (w.heap.size) aL #[aA,aB,.slice p n cap,free,step,aD,aG,aC,aF,.slice q m c2]]from((M2.store (i:=2) rfl 9 (.slice q7 m c7)).put10 (i:=3) rfl (.int .i64 aA) (.int .i64 aB) (.slice q0 n c0) (.int .i64 free) (.int .i64 step) (.int .i64 aD) (.int .i64 aG) (.int .i64 aC) (.int .i64 aF) (.slice q7 m c7)))
 generalize j:World.setCell _ _ _=wz
 rw[j]at M3
 clear j M2
 obtain⟨y0,y1,y2,y3,y4,y5,y6,y7,y8,y9⟩:=(M3.bk 3).ten
 exact bodyPost_ret (v:= .agg #[aA,aB,.slice q0 n c0,free,step,aD,aG,aC,aF,.slice q7 m c7]) (by simp[results,Tryz.results62,go_sem, *]) rfl ⟨q0,c0,q7,c7,rfl,(M3.ow 1),(M3.ow 0),M3.ext⟩
theorem pB (h:aO)(p:OA)(n cap:Nat)(q:OA)(m c2:Nat)(w:World)(hn:n≤1000)(hm:m≤1000)(hi:IsHouse w h p n cap q m c2):
  Calls Tryz.prog 62 #[bK h p n cap q m c2] w (fM h w):=by
 have hl:=hi.clen
 have d:=hi.vlen
 refine(aGi h.aA h.aB h.free h.step h.aD h.aG h.aC h.aF p n cap q m c2 h.cells h.vs w (xQ fun w' hx=> ?_) (xQ fun w' hx=>aE5 q m c2 _ w' hm (hi.vs.ext hx) (eJ _))).mono ?_
 ·refine(kR h.aA h.aB p n cap h.cells w' hn (hi.cells.ext hx)).mono ?_
  rintro e g ⟨q,c,rfl,ho,b⟩
  rw[hl]at ho⊢
  exact⟨q,c,rfl,ho,b⟩
 ·rintro e w' ⟨p',a,q',f,rfl,h1,h2,h3⟩
  subst hl d
  exact⟨p',a,q',f,rfl,h1,h2,h3⟩
theorem nF: ∀(k:Nat) (vs:List aP),(vs.flatMap aE).take (k*4)=(vs.take k).flatMap aE
 |0,vs=>by simp
 |k+1,[]=>by simp
 |k+1,v::vs=>by
  rw[List.flatMap_cons,show(k+1)*4=(aE v).length+k*4 by simp[aE];omega,List.take_length_add_append,nF k vs];rfl
theorem aKs {W0 wr:World}{B:Nat}(hg:W0.grownBy wr (some B))(o:Nat)(v:Value):W0.grownBy (wr.setCell ⟨B,o,none⟩ v) (some B):=
 ⟨hg.os,hg.tape,hg.output,by simpa using hg.size,fun k hk hne=>by
  rw[Below.heap_setCell _ _ _ _ (fun e=>hne (by simp[e]))];exact hg.block k hk hne⟩
theorem sF {α:Type}: ∀(xs:List α) (k:Nat) (v:α),k<xs.length→(xs.set k v).take (k+1)=xs.take k++ [v]
 | [],_,_,h=>by simp at h
 |x::xs,0,v,_=>by simp
 |x::xs,k+1,v,h=>by simp only[List.set_cons_succ,List.take_succ_cons,sF xs k v (by simpa using h)];rfl
theorem sR {α:Type}: ∀(xs:List α) (k j:Nat) (v:α),k<j→(xs.set k v).drop j=xs.drop j
 | [],_,_,_,_=>by simp
 |x::xs,0,j+1,v,_=>by simp
 |x::xs,k+1,j+1,v,h=>by simp only[List.set_cons_succ,List.drop_succ_cons];exact sR xs k j v (by omega)
theorem fE {B n c sz g:Nat}{e:TypeId}: ∀(vs:List Value) (k:Nat) (xs:List Value) (w:World),w.ownsRow B e sz (.slice (some ⟨g,0,none⟩) n c) n xs→k+vs.length≤xs.length→
  (w.setCells g k vs).ownsRow B e sz (.slice (some ⟨g,0,none⟩) n c) n (xs.take k++vs++xs.drop (k+vs.length))∧w.grownBy (w.setCells g k vs) (some g)
 | [],k,xs,w,h,_=>by
   refine⟨?_,World.grownBy.refl _ _⟩
   simpa[World.setCells]using h
 |v::vs,k,xs,w,h,hl=>by
  simp only[List.length_cons]at hl
  obtain⟨h1,h2⟩:=fE vs (k+1) (xs.set k v) _ (h.stored k v).1 (by simp;omega)
  rw[sF xs k v (by omega),sR xs k _ v (by omega)]at h1
  refine⟨?_,(aKs (World.grownBy.refl _ _) k v).trans h2⟩
  rw[List.length_cons,show k+(vs.length+1)=k+1+vs.length by omega]
  simpa[World.setCells]using h1
theorem aKg {w:World}{B n c sz k:Nat}{e:TypeId}{q:OA}{xs:List Value}(h:w.ownsRow B e sz (.slice q n c) n xs)(hk:k≤n)(h0:0<n):w.ownsRow B e sz (.slice q k c) k (xs.take (k*sz)):=by
 have hm:=Nat.mul_le_mul_right sz hk
 refine⟨by rw[List.length_take,h.1];omega,?_⟩
 rcases h.2 with⟨_,h3⟩|⟨g,cap',cur,e1,hb,hg,hn,hmx,hs,ht⟩
 ·omega
 ·injection e1 with e1 e2 e3
  subst e1 e3
  refine .inr ⟨g,c,cur,rfl,hb,hg,by omega,hmx,hs,?_⟩
  rw[←ht,List.take_take,Nat.min_eq_left hm]
theorem aBy (w:World):(zeroValue TV).run Tryz.prog w= .ok (.agg #[(),(),(),()]) w:=by
 simp[Tryz.zeroValue68]
theorem aBr (w:World)(ty:TypeId)(b o c:Nat)(hc: ∀j,j<4→(w.cell? ⟨b,o+j,none⟩).isSome=true)(hf: ∀j,j<4→w.frozen? ⟨b,o+j,none⟩=false):
  (Builtin.clear_ #[33] ty #[.slice (some ⟨b,o,none⟩) 1 c]).run Tryz.prog w= .ok (.tuple #[]) (w.setCells b o [.int .i64 0,.int .i64 0,.int .i64 0,.int .i64 0]):=by
 have d:(Builtin.zeroCells (Value.agg #[(),(),(),()]).cells 1).toList= [.int .i64 0,.int .i64 0,.int .i64 0,.int .i64 0]:=by kernel_rfl
 have a:=run_storeCells_cells (P:=Tryz.prog) b o [.int .i64 0,.int .i64 0,.int .i64 0,.int .i64 0] 0 w (by simpa using hc) (by simpa using hf) (by intro v hv;simp at hv;subst hv;rfl)
 simp only[Nat.add_zero]at a
 simp[Builtin.clear_,run_underlying Tryz.underlying33,aBy,d,a]
theorem aBm (bs:List aP)(i n:Nat)(hn:bs.length=n)(hi:i<n):
  ((bs.flatMap aE).take (i*4)++(bs.drop (i+1)).flatMap aE++(bs.flatMap aE).drop (i*4+((bs.drop (i+1)).flatMap aE).length)).take ((n-1)*4)=(bs.eraseIdx i).flatMap aE:=by
 have h1:((bs.take i).flatMap aE).length=i*4:=by rw[dD aE 4 (fun _=>rfl),List.length_take];congr 1;omega
 have h2:((bs.drop (i+1)).flatMap aE).length=(n-1-i)*4:=by rw[dD aE 4 (fun _=>rfl),List.length_drop];congr 1;omega
 rw[nF,List.take_append_of_le_length (by rw[List.length_append,h1,h2,←Nat.add_mul];exact Nat.mul_le_mul_right 4 (by omega)),List.take_of_length_le (by rw[List.length_append,h1,h2,←Nat.add_mul];exact Nat.mul_le_mul_right 4 (by omega)),←List.flatMap_append,List.eraseIdx_eq_take_drop_succ]
theorem aJo (g n c B i j:Nat)(bs:List aP)(w:World)(hn:n≤1000)(hi:i<n)(hj:Hid (j=i+1))(hO:w.ownsRow B TV 4 (.slice (some ⟨g,0,none⟩) n c) n (bs.flatMap aE)):
  Calls Tryz.prog 117 #[.slice (some ⟨g,0,none⟩) n c,(i:Int),(j:Int)] w fun e w'=>e= .returned (.slice (some ⟨g,0,none⟩) (n-1) c)∧w'.ownsRow B TV 4 (.slice (some ⟨g,0,none⟩) (n-1) c) (n-1) ((bs.eraseIdx i).flatMap aE)∧w.grownBy w' (some g):=by
 obtain⟨i0,v,ae,z,ah⟩:=info_parts (show(Tryz.prog.info? TV).map (fun i=>(i.zero,i.size,i.bytes))=some (some (.agg #[(),(),(),()]),4,32) by kernel_rfl)
 have d:w.drew.ownsRow B TV 4 (.slice (some ⟨g,0,none⟩) n c) n (bs.flatMap aE):=bC hO (Ext.drew (Ext.refl _))
 have l:bs.length=n:=by have:=hO.1;rw[dD aE 4 (fun _=>rfl)]at this;omega
 have aa:n≤c:=by
  rcases hO.2 with⟨_,h3⟩|⟨g',cap',cur,e1,hb,hg,hn',_⟩
  ·omega
  ·injection e1 with e1 e2 e3;omega
 have ak:c≤9223372036854775807:=by
  have:=(Sl.own hO).mx;unfold maxLen at this;omega
 have m:j=i+1:=hj.out
 obtain⟨news,a⟩: ∃news,news=(bs.drop (i+1)).flatMap aE:=⟨_,rfl⟩
 have b:news.length=(n-j)*4:=by rw[a,dD aE 4 (fun _=>rfl),List.length_drop,l,m]
 obtain⟨A,hA,s⟩: ∃A:Addr,(if c=j then some (⟨g,0,none⟩:Addr)else some ⟨g,j*4,none⟩)=some A∧Hid (∀t u,news[t]? =some u→w.drew.cell? (A.add t)=some u):=by
  by_cases h:c=j
  ·refine⟨⟨g,0,none⟩,by simp[h],fun t u hu=> ?_⟩
   rw[List.eq_nil_of_length_eq_zero (by rw[b];omega:news.length=0)]at hu
   simp at hu
  ·refine⟨⟨g,j*4,none⟩,by simp[h],fun t u hu=> ?_⟩
   have ht:t<(n-j)*4:=by have:=(List.getElem?_eq_some_iff.1 hu).1;rwa[b]at this
   rw[Addr.add_lit,d.cellAt _ (by omega)]
   rw[a,←jT,List.getElem?_drop]at hu
   rw[m];exact hu
 have s1:Hid (news.length=(n-j)*4):=b
 have s2:Hid (∀u∈news,u.oneCell'=true):=by show∀u∈news,_;rw[a];exact eJ _
 have o:(bs.flatMap aE).length=n*4:=by rw[dD aE 4 (fun _=>rfl),l]
 have s3:Hid (∀t,t<news.length→(w.drew.cell? ⟨g,0+i*4+t,none⟩).isSome=true∧w.drew.frozen? ⟨g,0+i*4+t,none⟩=false):=by
  intro t ht
  rw[b]at ht
  refine⟨?_,d.frozenAt _⟩
  rw[d.cellAt _ (by omega),List.getElem?_eq_getElem (by rw[o];omega)];rfl
 obtain⟨W1,f⟩: ∃W1,W1=w.drew.setCells g (0+i*4) news:=⟨_,rfl⟩
 obtain⟨h1,g1⟩:=fE news (i*4) _ _ d (by rw[b,o];omega)
 have hW:Hid (W1=w.drew.setCells g (0+i*4) news):=f
 rw[Nat.zero_add]at f
 rw[←f]at h1 g1
 obtain⟨ys,p⟩: ∃ys,ys=(bs.flatMap aE).take (i*4)++news++(bs.flatMap aE).drop (i*4+news.length):=⟨_,rfl⟩
 rw[←p]at h1
 have ai:=fun ty=>aBr W1 ty g ((n-1)*4) (c-(n-1)) (fun t ht=>by rw[h1.cellAt _ (by omega),List.getElem?_eq_getElem (by rw[h1.1];omega)];rfl) (fun t _=>h1.frozenAt _)
 obtain⟨h2,g2⟩:=fE [.int .i64 0,.int .i64 0,.int .i64 0,.int .i64 0] ((n-1)*4) _ _ h1 (by rw[h1.1];simp;omega)
 have r:Hid ((W1.setCells g ((n-1)*4) [.int .i64 0,.int .i64 0,.int .i64 0,.int .i64 0]).ownsRow B TV 4 (.slice (some ⟨g,0,none⟩) (n-1) c) (n-1) ((bs.eraseIdx i).flatMap aE)):=by
  have h3:=aKg h2 (k:=n-1) (by omega) (by omega)
  rw[List.append_assoc,List.take_append_of_le_length (by rw[List.length_take,h1.1];omega),List.take_take,Nat.min_self,p,a,aBm bs i n l hi]at h3
  exact h3
 have y:Hid (w.grownBy (W1.setCells g ((n-1)*4) [.int .i64 0,.int .i64 0,.int .i64 0,.int .i64 0]) (some g)):=by
  exact(show w.grownBy w.drew (some g)from⟨rfl,rfl,rfl,Nat.le_refl _,fun _ _ _=>rfl⟩).trans (g1.trans g2)
 have ag:i≤j:=by omega
 have aj:j≤n:=by omega
 have ao:i≤c:=by omega
 have ad:j≤c:=by omega
 have am: ¬i=j:=by omega
 have q:i+(n-j)=n-1:=by omega
 have ab:n-(n-1)=1:=by omega
 have af:n-1≤n:=by omega
 have al:n-1≤c:=by omega
 have an: ¬c=n-1:=by omega
 have x:=xQ q
 clear f h1 g1 h2 g2 p a b hO d l o m hj q
 go_enter Tryz.func117,Tryz.ntmps117
 go_wp2_with fail
 go_region_law (refine step_append_room rfl (.tmp 22) (.tmp 25) 33 rfl TV i0 4 Tryz.underlying33 v z g 0 i c (by simp[Act.eval,Act.put]) A (n-j) (c-j) news (by simp[Act.eval,Act.put]) s1.out s.out s2.out (by omega) s3.out ?_;rw[←hW.out,x.out])
 go_wp2
 go_ret
 exact⟨rfl,r.out,y.out⟩
end Go.Proofs.YtgnkoffndhmhpaaGreatDoor
