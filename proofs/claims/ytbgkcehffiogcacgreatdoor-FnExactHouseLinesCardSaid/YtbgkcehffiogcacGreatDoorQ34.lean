/-
  Texts of this proof, packed (@packed).
-/
import Derived.Test.YtbgkcehffiogcacGreatDoorQ33
namespace Go.Proofs.YtbgkcehffiogcacGreatDoor
open Go.RowKit
set_option linter.unusedSimpArgs false
set_option linter.unusedVariables false
set_option maxHeartbeats 8000000
set_option maxRecDepth 100000
section
open Go.Proofs.Tryz
theorem aJu (h:aL)(p:OA)(cap:Nat)(q:OA)(c2:Nat)(l:List UInt8)(w:World)(t:List UInt8)(x:Int)(ws:List (List UInt8))(T:Nat)(hT:1≤T)(z:T≤1099511627777)(b0:(l== [104,97,108,108])=true)
  (HS:Hid (∀w,U 52 #[str l,.int .u8 32] w fun e w'=> ∃g c,e= .returned (.slice (some ⟨g,0,none⟩) T c)∧w'.ownsRow w cY 1 (.slice (some ⟨g,0,none⟩) T c) T (gI ws)∧Ext w w'))
  (K0:xC 66 #[.agg #[h.aA,h.aB,.slice p h.cells cap]] w fun w' e w''=>e= .returned (str t)∧Ext w' w''):
  U 27 #[.agg #[h.aA,h.aB,.slice p h.cells cap,h.free,h.step,h.aD,h.aF,h.aC,h.aG,.slice q h.vs c2],str l] w ((O (str t) w)):=by
 go_enter func27,ntmps27;go_wp2_with fail;refine(HS _).mono ?_;rintro e w1 ⟨g1,c1,rfl,b,d⟩;have M1:=(((Mem.start w).c0 aK #[h.aA,h.aB,.slice p h.cells cap,h.free,h.step,h.aD,h.aF,h.aC,h.aG,.slice q h.vs c2]).call d b)
 have a:=M1.hi 1;clear d b HS;have i0:(0:Int)<(T:Int):=by omega
 have j0:0<T:=by omega
 obtain⟨i,j,k,m,n,o,r,s,u,v⟩:=(M1.bk 1).ten;go_wp2_with fail;clear i j k m n o r s u v;refine Z (K0 _ M1.ext) fun w2 f=>?_
 have M2:=(M1.adv f)
 clear M1 a f;have y:=M2.hi 1;go_wp2;go_ret;exact⟨rfl,M2.ext⟩
theorem aGf (h:aL)(p:OA)(cap:Nat)(q:OA)(c2:Nat)(l:List UInt8)(w:World)(t:List UInt8)(x:Int)(ws:List (List UInt8))(T:Nat)(hT:1≤T)(z:T≤1099511627777)(n0:(l== [104,97,108,108])=false)(b1:(l== [99,108,111,99,107])=true)
  (HS:Hid (∀w,U 52 #[str l,.int .u8 32] w fun e w'=> ∃g c,e= .returned (.slice (some ⟨g,0,none⟩) T c)∧w'.ownsRow w cY 1 (.slice (some ⟨g,0,none⟩) T c) T (gI ws)∧Ext w w'))
  (K0:xC 24 #[h.aC] w fun w' e w''=>e= .returned (str t)∧Ext w' w''):
  U 27 #[.agg #[h.aA,h.aB,.slice p h.cells cap,h.free,h.step,h.aD,h.aF,h.aC,h.aG,.slice q h.vs c2],str l] w ((O (str t) w)):=by
 go_enter func27,ntmps27;go_wp2_with fail;refine(HS _).mono ?_;rintro e w1 ⟨g1,c1,rfl,b,d⟩;have M1:=(((Mem.start w).c0 aK #[h.aA,h.aB,.slice p h.cells cap,h.free,h.step,h.aD,h.aF,h.aC,h.aG,.slice q h.vs c2]).call d b)
 have a:=M1.hi 1;clear d b HS;have i0:(0:Int)<(T:Int):=by omega
 have j0:0<T:=by omega
 obtain⟨i,j,k,m,n,o,r,s,u,v⟩:=(M1.bk 1).ten;go_wp2_with fail;clear i j k m n o r s u v;refine Z (K0 _ M1.ext) fun w2 f=>?_
 have M2:=(M1.adv f)
 clear M1 a f;have y:=M2.hi 1;go_wp2;go_ret;exact⟨rfl,M2.ext⟩
theorem aJv (h:aL)(p:OA)(cap:Nat)(q:OA)(c2:Nat)(l:List UInt8)(w:World)(t:List UInt8)(x:Int)(ws:List (List UInt8))(T:Nat)(hT:1≤T)(z:T≤1099511627777)(n0:(l== [104,97,108,108])=false)(n1:(l== [99,108,111,99,107])=false)(b2:(l== [98,97,110,107])=true)
  (HS:Hid (∀w,U 52 #[str l,.int .u8 32] w fun e w'=> ∃g c,e= .returned (.slice (some ⟨g,0,none⟩) T c)∧w'.ownsRow w cY 1 (.slice (some ⟨g,0,none⟩) T c) T (gI ws)∧Ext w w'))
  (K0:xC 24 #[h.aG] w fun w' e w''=>e= .returned (str t)∧Ext w' w''):
  U 27 #[.agg #[h.aA,h.aB,.slice p h.cells cap,h.free,h.step,h.aD,h.aF,h.aC,h.aG,.slice q h.vs c2],str l] w ((O (str t) w)):=by
 go_enter func27,ntmps27;go_wp2_with fail;refine(HS _).mono ?_;rintro e w1 ⟨g1,c1,rfl,b,d⟩;have M1:=(((Mem.start w).c0 aK #[h.aA,h.aB,.slice p h.cells cap,h.free,h.step,h.aD,h.aF,h.aC,h.aG,.slice q h.vs c2]).call d b)
 have a:=M1.hi 1;clear d b HS;have i0:(0:Int)<(T:Int):=by omega
 have j0:0<T:=by omega
 obtain⟨i,j,k,m,n,o,r,s,u,v⟩:=(M1.bk 1).ten;go_wp2_with fail;clear i j k m n o r s u v;refine Z (K0 _ M1.ext) fun w2 f=>?_
 have M2:=(M1.adv f)
 clear M1 a f;have y:=M2.hi 1;go_wp2;go_ret;exact⟨rfl,M2.ext⟩
theorem aJt (h:aL)(p:OA)(cap:Nat)(q:OA)(c2:Nat)(l:List UInt8)(w:World)(t:List UInt8)(x:Int)(ws:List (List UInt8))(T:Nat)(hT:1≤T)(ab:T≤1099511627777)(n0:(l== [104,97,108,108])=false)(n1:(l== [99,108,111,99,107])=false)(n2:(l== [98,97,110,107])=false)(b3:(l== [111,119,101,100])=true)
  (HS:Hid (∀w,U 52 #[str l,.int .u8 32] w fun e w'=> ∃g c,e= .returned (.slice (some ⟨g,0,none⟩) T c)∧w'.ownsRow w cY 1 (.slice (some ⟨g,0,none⟩) T c) T (gI ws)∧Ext w w'))
  (K0:xC 67 #[.agg #[h.aA,h.aB,.slice p h.cells cap,h.free,h.step,h.aD,h.aF,h.aC,h.aG,.slice q h.vs c2]] w fun w' e w''=>e= .returned (I x)∧Ext w' w'')
  (K1:xC 24 #[x] w fun w' e w''=>e= .returned (str t)∧Ext w' w''):
  U 27 #[.agg #[h.aA,h.aB,.slice p h.cells cap,h.free,h.step,h.aD,h.aF,h.aC,h.aG,.slice q h.vs c2],str l] w ((O (str t) w)):=by
 go_enter func27,ntmps27;go_wp2_with fail;refine(HS _).mono ?_;rintro e w1 ⟨g1,c1,rfl,u,v⟩;have M1:=(((Mem.start w).c0 aK #[h.aA,h.aB,.slice p h.cells cap,h.free,h.step,h.aD,h.aF,h.aC,h.aG,.slice q h.vs c2]).call v u)
 have r:=M1.hi 1;clear v u HS;have i0:(0:Int)<(T:Int):=by omega
 have j0:0<T:=by omega
 obtain⟨a,b,d,f,i,j,k,m,n,o⟩:=(M1.bk 1).ten;go_wp2_with fail;clear a b d f i j k m n o;refine Z (K0 _ M1.ext) fun w2 y=>?_
 have M2:=(M1.adv y)
 clear M1 r y;have s:=M2.hi 1;obtain⟨a,b,d,f,i,j,k,m,n,o⟩:=(M2.bk 1).ten;go_wp2_with fail;clear a b d f i j k m n o;refine Z (K1 _ M2.ext) fun w3 z=>?_
 have M3:=(M2.adv z)
 clear M2 s z;have aa:=M3.hi 1;go_wp2;go_ret;exact⟨rfl,M3.ext⟩
theorem aGe (h:aL)(p:OA)(cap:Nat)(q:OA)(c2:Nat)(l:List UInt8)(w:World)(t:List UInt8)(x:Int)(ws:List (List UInt8))(T:Nat)(hT:1≤T)(z:T≤1099511627777)(n0:(l== [104,97,108,108])=false)(n1:(l== [99,108,111,99,107])=false)(n2:(l== [98,97,110,107])=false)(n3:(l== [111,119,101,100])=false)(b4:(l== [104,111,117,115,101])=true)
  (HS:Hid (∀w,U 52 #[str l,.int .u8 32] w fun e w'=> ∃g c,e= .returned (.slice (some ⟨g,0,none⟩) T c)∧w'.ownsRow w cY 1 (.slice (some ⟨g,0,none⟩) T c) T (gI ws)∧Ext w w'))
  (K0:xC 68 #[.agg #[h.aA,h.aB,.slice p h.cells cap,h.free,h.step,h.aD,h.aF,h.aC,h.aG,.slice q h.vs c2]] w fun w' e w''=>e= .returned (str t)∧Ext w' w''):
  U 27 #[.agg #[h.aA,h.aB,.slice p h.cells cap,h.free,h.step,h.aD,h.aF,h.aC,h.aG,.slice q h.vs c2],str l] w ((O (str t) w)):=by
 go_enter func27,ntmps27;go_wp2_with fail;refine(HS _).mono ?_;rintro e w1 ⟨g1,c1,rfl,b,d⟩;have M1:=(((Mem.start w).c0 aK #[h.aA,h.aB,.slice p h.cells cap,h.free,h.step,h.aD,h.aF,h.aC,h.aG,.slice q h.vs c2]).call d b)
 have a:=M1.hi 1;clear d b HS;have i0:(0:Int)<(T:Int):=by omega
 have j0:0<T:=by omega
 obtain⟨i,j,k,m,n,o,r,s,u,v⟩:=(M1.bk 1).ten;go_wp2_with fail;clear i j k m n o r s u v;refine Z (K0 _ M1.ext) fun w2 f=>?_
 have M2:=(M1.adv f)
 clear M1 a f;have y:=M2.hi 1;go_wp2;go_ret;exact⟨rfl,M2.ext⟩
theorem nW (h:aL)(p:OA)(cap:Nat)(q:OA)(c2:Nat)(l:List UInt8)(w:World)(a b t r:List UInt8)(id D:Int)(mb:Bool)(ws:List (List UInt8))(T:Nat)(hT:1≤T)(ad:T≤1099511627777)(HA:Hid (ws[0]? =some a)) (n0:(l== [104,97,108,108])=false) (n1:(l== [99,108,111,99,107])=false) (n2:(l== [98,97,110,107])=false) (n3:(l== [111,119,101,100])=false) (n4:(l== [104,111,117,115,101])=false) (d1:(a== [100,117,101])=false) (d2:(a== [109,97,121])=false) (hr:r= [119,104,97,116])
  (HS:Hid (∀w,U 52 #[str l,.int .u8 32] w fun e w'=> ∃g c,e= .returned (.slice (some ⟨g,0,none⟩) T c)∧w'.ownsRow w cY 1 (.slice (some ⟨g,0,none⟩) T c) T (gI ws)∧Ext w w')):
  U 27 #[.agg #[h.aA,h.aB,.slice p h.cells cap,h.free,h.step,h.aD,h.aF,h.aC,h.aG,.slice q h.vs c2],str l] w ((O (str r) w)):=by
 go_enter func27,ntmps27;go_wp2_with fail;refine(HS _).mono ?_;rintro e w1 ⟨g1,c1,rfl,z,aa⟩;have M1:=(((Mem.start w).c0 aK #[h.aA,h.aB,.slice p h.cells cap,h.free,h.step,h.aD,h.aF,h.aC,h.aG,.slice q h.vs c2]).call aa z)
 have v:=M1.hi 1;clear aa z HS;have i0:(0:Int)<(T:Int):=by omega
 have j0:0<T:=by omega
 subst hr;obtain⟨d,f,i,j,k,m,n,o,s,u⟩:=(M1.bk 1).ten;have e0:w1.cell? ⟨g1,0,none⟩=some (str a):=aW (M1.ow 0) 0 (by omega) _ HA.out;have lg:g1<w1:=(M1.hi 0)
 go_upto_region 12 with fail;go_quiet (fail);clear d f i j k m n o s u e0 lg;have M2:=(M1.adv ((Ext.refl _).drewN nq))
 generalize World.drewN w1 nq=v12 at M2⊢;clear nq M1 v;have x:=M2.hi 1;obtain⟨d,f,i,j,k,m,n,o,s,u⟩:=(M2.bk 1).ten;have e0:v12.cell? ⟨g1,0,none⟩=some (str a):=aW (M2.ow 0) 0 (by omega) _ HA.out;have lg:g1<v12:=(M2.hi 0)
 go_upto_region 14 with fail;go_quiet (fail);clear d f i j k m n o s u e0 lg;have M3:=(M2.adv ((Ext.refl _).drewN nq))
 generalize World.drewN v12 nq=v14 at M3⊢;clear nq M2 x;have y:=M3.hi 1;obtain⟨d,f,i,j,k,m,n,o,s,u⟩:=(M3.bk 1).ten;have e0:v14.cell? ⟨g1,0,none⟩=some (str a):=aW (M3.ow 0) 0 (by omega) _ HA.out;have lg:g1<v14:=(M3.hi 0)
 go_upto_region 16 with fail;go_quiet (fail);clear d f i j k m n o s u e0 lg;have M4:=(M3.adv ((Ext.refl _).drewN nq))
 generalize World.drewN v14 nq=v16 at M4⊢;clear nq M3 y;have ab:=M4.hi 1;have e0:v16.cell? ⟨g1,0,none⟩=some (str a):=aW (M4.ow 0) 0 (by omega) _ HA.out;have lg:g1<v16:=(M4.hi 0)
 obtain⟨ae,af,ag,ah,ai,aj,ak,al,am,an⟩:=(M4.bk 1).ten;go_wp2;go_ret;exact⟨rfl,M4.ext⟩
theorem aBn (h:aL)(p:OA)(cap:Nat)(q:OA)(c2:Nat)(l:List UInt8)(w:World)(a b t r:List UInt8)(id D:Int)(mb:Bool)(ws:List (List UInt8))(T:Nat)(hT:1≤T)(ad:T≤1099511627777)(HA:Hid (ws[0]? =some a)) (n0:(l== [104,97,108,108])=false) (n1:(l== [99,108,111,99,107])=false) (n2:(l== [98,97,110,107])=false) (n3:(l== [111,119,101,100])=false) (n4:(l== [104,111,117,115,101])=false) (d1:(a== [100,117,101])=true) (d2:(a== [109,97,121])=false) (d3:((T:Int)==2)=false) (hr:r= [119,104,97,116])
  (HS:Hid (∀w,U 52 #[str l,.int .u8 32] w fun e w'=> ∃g c,e= .returned (.slice (some ⟨g,0,none⟩) T c)∧w'.ownsRow w cY 1 (.slice (some ⟨g,0,none⟩) T c) T (gI ws)∧Ext w w')):
  U 27 #[.agg #[h.aA,h.aB,.slice p h.cells cap,h.free,h.step,h.aD,h.aF,h.aC,h.aG,.slice q h.vs c2],str l] w ((O (str r) w)):=by
 go_enter func27,ntmps27;go_wp2_with fail;refine(HS _).mono ?_;rintro e w1 ⟨g1,c1,rfl,z,aa⟩;have M1:=(((Mem.start w).c0 aK #[h.aA,h.aB,.slice p h.cells cap,h.free,h.step,h.aD,h.aF,h.aC,h.aG,.slice q h.vs c2]).call aa z)
 have v:=M1.hi 1;clear aa z HS;have i0:(0:Int)<(T:Int):=by omega
 have j0:0<T:=by omega
 subst hr;obtain⟨d,f,i,j,k,m,n,o,s,u⟩:=(M1.bk 1).ten;have e0:w1.cell? ⟨g1,0,none⟩=some (str a):=aW (M1.ow 0) 0 (by omega) _ HA.out;have lg:g1<w1:=(M1.hi 0)
 go_upto_region 12 with fail;go_quiet (fail);clear d f i j k m n o s u e0 lg;have M2:=(M1.adv ((Ext.refl _).drewN nq))
 generalize World.drewN w1 nq=v12 at M2⊢;clear nq M1 v;have x:=M2.hi 1;obtain⟨d,f,i,j,k,m,n,o,s,u⟩:=(M2.bk 1).ten;have e0:v12.cell? ⟨g1,0,none⟩=some (str a):=aW (M2.ow 0) 0 (by omega) _ HA.out;have lg:g1<v12:=(M2.hi 0)
 go_upto_region 14 with fail;go_quiet (fail);clear d f i j k m n o s u e0 lg;have M3:=(M2.adv ((Ext.refl _).drewN nq))
 generalize World.drewN v12 nq=v14 at M3⊢;clear nq M2 x;have y:=M3.hi 1;obtain⟨d,f,i,j,k,m,n,o,s,u⟩:=(M3.bk 1).ten;have e0:v14.cell? ⟨g1,0,none⟩=some (str a):=aW (M3.ow 0) 0 (by omega) _ HA.out;have lg:g1<v14:=(M3.hi 0)
 go_upto_region 16 with fail;go_quiet (fail);clear d f i j k m n o s u e0 lg;have M4:=(M3.adv ((Ext.refl _).drewN nq))
 generalize World.drewN v14 nq=v16 at M4⊢;clear nq M3 y;have ab:=M4.hi 1;have e0:v16.cell? ⟨g1,0,none⟩=some (str a):=aW (M4.ow 0) 0 (by omega) _ HA.out;have lg:g1<v16:=(M4.hi 0)
 obtain⟨ae,af,ag,ah,ai,aj,ak,al,am,an⟩:=(M4.bk 1).ten;go_wp2;go_ret;exact⟨rfl,M4.ext⟩
theorem aBm (h:aL)(p:OA)(cap:Nat)(q:OA)(c2:Nat)(l:List UInt8)(w:World)(a b t r:List UInt8)(id D:Int)(mb:Bool)(ws:List (List UInt8))(T:Nat)(hT:1≤T)(ad:T≤1099511627777)(HA:Hid (ws[0]? =some a)) (n0:(l== [104,97,108,108])=false) (n1:(l== [99,108,111,99,107])=false) (n2:(l== [98,97,110,107])=false) (n3:(l== [111,119,101,100])=false) (n4:(l== [104,111,117,115,101])=false) (d1:(a== [100,117,101])=false) (d2:(a== [109,97,121])=true) (d3:((T:Int)==2)=false) (hr:r= [119,104,97,116])
  (HS:Hid (∀w,U 52 #[str l,.int .u8 32] w fun e w'=> ∃g c,e= .returned (.slice (some ⟨g,0,none⟩) T c)∧w'.ownsRow w cY 1 (.slice (some ⟨g,0,none⟩) T c) T (gI ws)∧Ext w w')):
  U 27 #[.agg #[h.aA,h.aB,.slice p h.cells cap,h.free,h.step,h.aD,h.aF,h.aC,h.aG,.slice q h.vs c2],str l] w ((O (str r) w)):=by
 go_enter func27,ntmps27;go_wp2_with fail;refine(HS _).mono ?_;rintro e w1 ⟨g1,c1,rfl,z,aa⟩;have M1:=(((Mem.start w).c0 aK #[h.aA,h.aB,.slice p h.cells cap,h.free,h.step,h.aD,h.aF,h.aC,h.aG,.slice q h.vs c2]).call aa z)
 have v:=M1.hi 1;clear aa z HS;have i0:(0:Int)<(T:Int):=by omega
 have j0:0<T:=by omega
 subst hr;obtain⟨d,f,i,j,k,m,n,o,s,u⟩:=(M1.bk 1).ten;have e0:w1.cell? ⟨g1,0,none⟩=some (str a):=aW (M1.ow 0) 0 (by omega) _ HA.out;have lg:g1<w1:=(M1.hi 0)
 go_upto_region 12 with fail;go_quiet (fail);clear d f i j k m n o s u e0 lg;have M2:=(M1.adv ((Ext.refl _).drewN nq))
 generalize World.drewN w1 nq=v12 at M2⊢;clear nq M1 v;have x:=M2.hi 1;obtain⟨d,f,i,j,k,m,n,o,s,u⟩:=(M2.bk 1).ten;have e0:v12.cell? ⟨g1,0,none⟩=some (str a):=aW (M2.ow 0) 0 (by omega) _ HA.out;have lg:g1<v12:=(M2.hi 0)
 go_upto_region 14 with fail;go_quiet (fail);clear d f i j k m n o s u e0 lg;have M3:=(M2.adv ((Ext.refl _).drewN nq))
 generalize World.drewN v12 nq=v14 at M3⊢;clear nq M2 x;have y:=M3.hi 1;obtain⟨d,f,i,j,k,m,n,o,s,u⟩:=(M3.bk 1).ten;have e0:v14.cell? ⟨g1,0,none⟩=some (str a):=aW (M3.ow 0) 0 (by omega) _ HA.out;have lg:g1<v14:=(M3.hi 0)
 go_upto_region 16 with fail;go_quiet (fail);clear d f i j k m n o s u e0 lg;have M4:=(M3.adv ((Ext.refl _).drewN nq))
 generalize World.drewN v14 nq=v16 at M4⊢;clear nq M3 y;have ab:=M4.hi 1;have e0:v16.cell? ⟨g1,0,none⟩=some (str a):=aW (M4.ow 0) 0 (by omega) _ HA.out;have lg:g1<v16:=(M4.hi 0)
 obtain⟨ae,af,ag,ah,ai,aj,ak,al,am,an⟩:=(M4.bk 1).ten;go_wp2;go_ret;exact⟨rfl,M4.ext⟩
theorem aDq (h:aL)(p:OA)(cap:Nat)(q:OA)(c2:Nat)(l:List UInt8)(w:World)(a b t r:List UInt8)(id D:Int)(mb:Bool)(ws:List (List UInt8))(T:Nat)(hT:1≤T)(bm:T≤1099511627777)(HA:Hid (ws[0]? =some a)) (n0:(l== [104,97,108,108])=false) (n1:(l== [99,108,111,99,107])=false) (n2:(l== [98,97,110,107])=false) (n3:(l== [111,119,101,100])=false) (n4:(l== [104,111,117,115,101])=false) (d1:(a== [100,117,101])=true) (d2:(a== [109,97,121])=false) (HB:Hid (ws[1]? =some b)) (bo:2≤T) (d3:((T:Int)==2)=true) (a5:id<0→r= [119,104,97,116]) (hy:0≤D→t=r) (a4:D<0→0≤id→r= [110,111,110,101]) (bl:id<0→D<0)
  (HS:Hid (∀w,U 52 #[str l,.int .u8 32] w fun e w'=> ∃g c,e= .returned (.slice (some ⟨g,0,none⟩) T c)∧w'.ownsRow w cY 1 (.slice (some ⟨g,0,none⟩) T c) T (gI ws)∧Ext w w'))
  (K1:Hid (∀w',U 54 #[str b] w' (O (I id) w')))
  (K2:xC 69 #[.agg #[h.aA,h.aB,.slice p h.cells cap,h.free,h.step,h.aD,h.aF,h.aC,h.aG,.slice q h.vs c2],id] w fun w' e w''=>e= .returned (I D)∧Ext w' w'')
  (K4:Hid (0≤D→ ∀w',Ext w w'→U 24 #[D] w' (O (str t) w'))):
  U 27 #[.agg #[h.aA,h.aB,.slice p h.cells cap,h.free,h.step,h.aD,h.aF,h.aC,h.aG,.slice q h.vs c2],str l] w ((O (str r) w)):=by
 go_enter func27,ntmps27;go_wp2_with fail;refine(HS _).mono ?_;rintro e w1 ⟨g1,c1,rfl,am,an⟩;have M1:=(((Mem.start w).c0 aK #[h.aA,h.aB,.slice p h.cells cap,h.free,h.step,h.aD,h.aF,h.aC,h.aG,.slice q h.vs c2]).call an am)
 have ak:=M1.hi 1;clear an am HS;have i0:(0:Int)<(T:Int):=by omega
 have j0:0<T:=by omega
 have i1:(1:Int)<(T:Int):=by omega
 have j1:1<T:=by omega
 go_upto_region 12 with fail;refine rL (gl [gEq (.slice (some ⟨g1,0,none⟩) T c1),gEq (.pointer (some ⟨g1,0,none⟩)),gEq (str a),gEq (.bool true),gEq (.bool true),gEq (.slice (some ⟨g1,0,none⟩) T c1),gEq (T:Int),gEq (.bool true),gEq (.bool true),gEq (.bool true),gEq (.agg #[(h.aA:Int),(h.aB:Int),.slice p h.cells cap,(h.free:Int),(h.step:Int),(h.aD:Int),(h.aF:Int),(h.aC:Int),(h.aG:Int),.slice q h.vs c2]),gEq (.slice (some ⟨g1,0,none⟩) T c1),gEq (.pointer (some ⟨g1,1,none⟩)),gEq (str b),gEq id,gEq D,gEq (.bool (decide (0≤D))),gEq (.bool (decide (0≤D))),gEq (.bool (decide (0≤D)))]) 19 19 [(0,some 38),(1,some 39),(2,some 40),(3,some 41),(4,some 42),(5,some 43),(6,some 44),(7,some 45),(8,some 46),(9,some 47),(10,some 48),(11,some 49),(12,some 50),(13,some 51),(14,some 52),(15,some 53),(16,some 54),(17,some 55),(18,some 37)] ?steps ?fin
 case steps=>
  refine sS0 [] (sS1 [(0,some 38)] ?_);refine sC [(1,some 39)] rfl (fun wi hx=> ?_) ?_
  ·intro v1 h1 K hK;obtain rfl:=h1;have hX:Ext w1 wi:=xE;have ae:wi.cell? ⟨g1,0,none⟩=some (str a):=(hX.cells.1 _ _ (M1.hi 0)).trans (aW (M1.ow 0) 0 (by omega) _ HA.out);go_simp;exact hK _ _ ⟨str a,rfl,rfl,Ext.refl _⟩
  refine sS1 [(2,some 40)] (sS1 [(3,some 41)] (sS1 [(4,some 42)] (sS2 [(4,some 42),(5,some 43)] (sS2 [(4,some 42),(6,some 44)] (sS2 [(4,some 42),(7,some 45)] (sS1 [(8,some 46)] ?_))))));refine sC [(9,some 47)] rfl (fun wi hx=> ?_) ?_
  ·intro v9 h9 K hK;obtain rfl:=h9;have hX:Ext w1 wi:=xE;obtain⟨ae,ao,ap,aq,ar,au,av,aw,ax,ay⟩:=((M1.bk 1).ext hX).ten;go_simp;exact hK _ _ ⟨.agg #[(h.aA:Int),(h.aB:Int),.slice p h.cells cap,(h.free:Int),(h.step:Int),(h.aD:Int),(h.aF:Int),(h.aC:Int),(h.aG:Int),.slice q h.vs c2],rfl,rfl,Ext.refl _⟩
  refine sS1 [(9,some 47)] (sS2 [(9,some 47),(11,some 49)] ?_);refine sC [(9,some 47),(12,some 50)] rfl (fun wi hx=> ?_) ?_
  ·intro v9 h9 bi ah K hK;obtain rfl:=h9;obtain rfl:=ah;have hX:Ext w1 wi:=xE;have ae:wi.cell? ⟨g1,1,none⟩=some (str b):=(hX.cells.1 _ _ (M1.hi 0)).trans (aW (M1.ow 0) 1 (by omega) _ HB.out);go_simp;exact hK _ _ ⟨str b,rfl,rfl,Ext.refl _⟩
  refine sC [(9,some 47),(13,some 51)] rfl (fun wi hx=> ?_) ?_
  ·intro v9 h9 bj ai K hK;obtain rfl:=h9;obtain rfl:=ai;go_simp;refine Z (K1 _) fun w5 d=>?_
   go_simp;exact hK _ _ ⟨I id,rfl,rfl,d⟩
  refine sC [(9,some 47),(10,some 48),(14,some 52)] rfl (fun wi hx=> ?_) ?_
  ·intro v9 h9 bh ag ad aj K hK;obtain rfl:=h9;obtain rfl:=ag;obtain rfl:=aj;go_simp;refine Z (K2 _ (M1.ext.trans hx.of_drew)) fun w5 d=>?_
   go_simp;exact hK _ _ ⟨I D,rfl,rfl,d⟩
  exact sS2 [(9,some 47),(15,some 53)] (sS2 [(9,some 47),(16,some 54)] (sS1 [(17,some 55)] StepsL.nil))
 case fin=>
  intro wi hx v0 h0 v1 h1 v2 h2 v3 h3 v4 h4 v5 h5 v6 h6 v7 h7 v8 h8 v9 h9 bh ag bq az bi ah bj ai ad aj br a0 af a1 bs a2 bt a3;subst h0 h1 h2 h3 h4 h5 h6 h7 h8 h9;obtain rfl:=ag;obtain rfl:=az;obtain rfl:=ah;obtain rfl:=ai;obtain rfl:=aj;obtain rfl:=a0;obtain rfl:=a1;obtain rfl:=a2;obtain rfl:=a3;have f:=hx.of_drew;obtain⟨ab,rfl⟩: ∃z,z=wi:=⟨_,rfl⟩
  have M2:=(M1.adv f)
  clear M1 hx f ak;refine wpAny_done (by kernel_rfl) ?_ _;try go_frame
  have y:=M2.hi 1;by_cases h0:0≤D
  ·skip;have t0:decide (0≤D)=true:=by simp[h0]
   obtain rfl:=hy h0;simp only[t0];go_upto_region 13 with fail;refine rL (gl [gEq (.agg #[(h.aA:Int),(h.aB:Int),.slice p h.cells cap,(h.free:Int),(h.step:Int),(h.aD:Int),(h.aF:Int),(h.aC:Int),(h.aG:Int),.slice q h.vs c2]),gEq (.slice (some ⟨g1,0,none⟩) T c1),gEq (.pointer (some ⟨g1,1,none⟩)),gEq (str b),gEq id,gEq D,gEq (str t),gEq (str t)]) 8 8 [(0,some 56),(1,some 57),(2,some 58),(3,some 59),(4,some 60),(5,some 61),(6,some 62),(7,some 4)] ?steps ?fin
   case steps=>
    refine sC [] rfl (fun wi hx=> ?_) ?_
    ·intro K hK;have hX:Ext ab wi:=xE;obtain⟨ae,ao,ap,aq,ar,au,av,aw,ax,ay⟩:=((M2.bk 1).ext hX).ten;go_simp;exact hK _ _ ⟨.agg #[(h.aA:Int),(h.aB:Int),.slice p h.cells cap,(h.free:Int),(h.step:Int),(h.aD:Int),(h.aF:Int),(h.aC:Int),(h.aG:Int),.slice q h.vs c2],rfl,rfl,Ext.refl _⟩
    refine sS0 [] (sS1 [(1,some 57)] ?_);refine sC [(2,some 58)] rfl (fun wi hx=> ?_) ?_
    ·intro v2 h2 K hK;obtain rfl:=h2;have hX:Ext ab wi:=xE;have ae:wi.cell? ⟨g1,1,none⟩=some (str b):=(hX.cells.1 _ _ (M2.hi 0)).trans (aW (M2.ow 0) 1 (by omega) _ HB.out);go_simp;exact hK _ _ ⟨str b,rfl,rfl,Ext.refl _⟩
    refine sC [(3,some 59)] rfl (fun wi hx=> ?_) ?_
    ·intro v3 h3 K hK;obtain rfl:=h3;go_simp;refine Z (K1 _) fun w5 d=>?_
     go_simp;exact hK _ _ ⟨I id,rfl,rfl,d⟩
    refine sC [(0,some 56),(4,some 60)] rfl (fun wi hx=> ?_) ?_
    ·intro v0 h0 v4 h4 K hK;subst h0 h4;go_simp;refine Z (K2 _ (M2.ext.trans hx.of_drew)) fun w5 d=>?_
     go_simp;exact hK _ _ ⟨I D,rfl,rfl,d⟩
    refine sC [(5,some 61)] rfl (fun wi hx=> ?_) ?_
    ·intro v5 h5 K hK;obtain rfl:=h5;go_simp;refine Z (K4 h0 _ (M2.ext.trans hx.of_drew)) fun w5 d=>?_
     go_simp;exact hK _ _ ⟨str t,rfl,rfl,d⟩
    exact sS1 [(6,some 62)] StepsL.nil
   case fin=>
    intro wi hx v0 h0 v1 h1 v2 h2 v3 h3 v4 h4 v5 h5 v6 h6 v7 h7;subst h0 h1 h2 h3 h4 h5 h6 h7;have f:=hx.of_drew;obtain⟨bp,rfl⟩: ∃z,z=wi:=⟨_,rfl⟩
    have M3:=(M2.adv f)
    clear M2 hx f y;refine wpAny_done (by kernel_rfl) ?_ _;try go_frame
    have aa:=M3.hi 1;go_wp2;go_ret;exact⟨rfl,M3.ext⟩
  skip;have t0:decide (0≤D)=false:=by simp;omega
  obtain⟨i,j,k,m,n,o,s,u,v,x⟩:=(M2.bk 1).ten;have e0:ab.cell? ⟨g1,0,none⟩=some (str a):=aW (M2.ow 0) 0 (by omega) _ HA.out;have lg:g1<ab:=(M2.hi 0)
  go_upto_region 14 with fail;go_quiet (fail);clear i j k m n o s u v x e0 lg;have M3:=(M2.adv ((Ext.refl _).drewN nq))
  generalize World.drewN ab nq=ad at M3⊢;clear nq M2 y;have aa:=M3.hi 1;obtain⟨i,j,k,m,n,o,s,u,v,x⟩:=(M3.bk 1).ten;have e0:ad.cell? ⟨g1,0,none⟩=some (str a):=aW (M3.ow 0) 0 (by omega) _ HA.out;have lg:g1<ad:=(M3.hi 0)
  go_upto_region 16 with fail;go_quiet (fail);clear i j k m n o s u v x e0 lg;have M4:=(M3.adv ((Ext.refl _).drewN nq))
  generalize World.drewN ad nq=af at M4⊢;clear nq M3 aa;have al:=M4.hi 1;obtain⟨i,j,k,m,n,o,s,u,v,x⟩:=(M4.bk 1).ten;have e0:af.cell? ⟨g1,0,none⟩=some (str a):=aW (M4.ow 0) 0 (by omega) _ HA.out;have e1:af.cell? ⟨g1,1,none⟩=some (str b):=aW (M4.ow 0) 1 (by omega) _ HB.out;have lg:g1<af:=(M4.hi 0)
  go_wp2_with fail;clear i j k m n o s u v x e0 e1 lg;refine Z (K1 _) fun w5 d=>?_
  have M5:=(M4.adv d)
  clear M4 al d;have bg:=M5.hi 1;by_cases h1:0≤id
  ·skip;have t1:decide (0≤id)=true:=by simp[h1]
   obtain rfl:=a4 (by omega) h1;obtain⟨a6,a7,a8,a9,ba,bb,bc,bd,be,bf⟩:=(M5.bk 1).ten;go_wp2;go_ret;exact⟨rfl,M5.ext⟩
  skip;have t1:decide (0≤id)=false:=by simp;omega
  obtain rfl:=a5 (by omega);obtain⟨a6,a7,a8,a9,ba,bb,bc,bd,be,bf⟩:=(M5.bk 1).ten;go_wp2;go_ret;exact⟨rfl,M5.ext⟩
theorem aDp (h:aL)(p:OA)(cap:Nat)(q:OA)(c2:Nat)(l:List UInt8)(w:World)(a b t r:List UInt8)(id D:Int)(mb:Bool)(ws:List (List UInt8))(T:Nat)(hT:1≤T)(br:T≤1099511627777)(HA:Hid (ws[0]? =some a)) (n0:(l== [104,97,108,108])=false) (n1:(l== [99,108,111,99,107])=false) (n2:(l== [98,97,110,107])=false) (n3:(l== [111,119,101,100])=false) (n4:(l== [104,111,117,115,101])=false) (d1:(a== [100,117,101])=false) (d2:(a== [109,97,121])=true) (HB:Hid (ws[1]? =some b)) (bs:2≤T) (d3:((T:Int)==2)=true) (bi:id<0→r= [119,104,97,116]) (hy:mb=true→r= [121,101,115]) (hn:mb=false→0≤D→r= [110,111]) (bh:D<0→0≤id→r= [110,111,110,101]) (bq:id<0→D<0)
  (HS:Hid (∀w,U 52 #[str l,.int .u8 32] w fun e w'=> ∃g c,e= .returned (.slice (some ⟨g,0,none⟩) T c)∧w'.ownsRow w cY 1 (.slice (some ⟨g,0,none⟩) T c) T (gI ws)∧Ext w w'))
  (K1:Hid (∀w',U 54 #[str b] w' (O (I id) w')))
  (K2:xC 69 #[.agg #[h.aA,h.aB,.slice p h.cells cap,h.free,h.step,h.aD,h.aF,h.aC,h.aG,.slice q h.vs c2],id] w fun w' e w''=>e= .returned (I D)∧Ext w' w'')
  (K3:xB 61 #[.agg #[h.aA,h.aB,.slice p h.cells cap,h.free,h.step,h.aD,h.aF,h.aC,h.aG,.slice q h.vs c2],id] w mb):
  U 27 #[.agg #[h.aA,h.aB,.slice p h.cells cap,h.free,h.step,h.aD,h.aF,h.aC,h.aG,.slice q h.vs c2],str l] w ((O (str r) w)):=by
 go_enter func27,ntmps27;go_wp2_with fail;refine(HS _).mono ?_;rintro e w1 ⟨g1,c1,rfl,a5,a6⟩;have M1:=(((Mem.start w).c0 aK #[h.aA,h.aB,.slice p h.cells cap,h.free,h.step,h.aD,h.aF,h.aC,h.aG,.slice q h.vs c2]).call a6 a5)
 have aw:=M1.hi 1;clear a6 a5 HS;have i0:(0:Int)<(T:Int):=by omega
 have j0:0<T:=by omega
 have i1:(1:Int)<(T:Int):=by omega
 have j1:1<T:=by omega
 obtain⟨y,aa,ab,ad,ae,af,ag,ah,ai,aj⟩:=(M1.bk 1).ten;have e0:w1.cell? ⟨g1,0,none⟩=some (str a):=aW (M1.ow 0) 0 (by omega) _ HA.out;have lg:g1<w1:=(M1.hi 0)
 go_upto_region 12 with fail;go_quiet (fail);clear y aa ab ad ae af ag ah ai aj e0 lg;have M2:=(M1.adv ((Ext.refl _).drewN nq))
 generalize World.drewN w1 nq=m at M2⊢;clear nq M1 aw;have ax:=M2.hi 1;go_upto_region 14 with fail;refine rL (gl [gEq (.slice (some ⟨g1,0,none⟩) T c1),gEq (.pointer (some ⟨g1,0,none⟩)),gEq (str a),gEq (.bool true),gEq (.bool true),gEq (.slice (some ⟨g1,0,none⟩) T c1),gEq (T:Int),gEq (.bool true),gEq (.bool true),gEq (.bool true),gEq (.agg #[(h.aA:Int),(h.aB:Int),.slice p h.cells cap,(h.free:Int),(h.step:Int),(h.aD:Int),(h.aF:Int),(h.aC:Int),(h.aG:Int),.slice q h.vs c2]),gEq (.slice (some ⟨g1,0,none⟩) T c1),gEq (.pointer (some ⟨g1,1,none⟩)),gEq (str b),gEq id,gEq (.bool mb),gEq (.bool mb),gEq (.bool mb)]) 18 18 [(0,some 64),(1,some 65),(2,some 66),(3,some 67),(4,some 68),(5,some 69),(6,some 70),(7,some 71),(8,some 72),(9,some 73),(10,some 74),(11,some 75),(12,some 76),(13,some 77),(14,some 78),(15,some 79),(16,some 80),(17,some 63)] ?steps ?fin
 case steps=>
  refine sS0 [] (sS1 [(0,some 64)] ?_);refine sC [(1,some 65)] rfl (fun wi hx=> ?_) ?_
  ·intro v1 h1 K hK;obtain rfl:=h1;have hX:Ext m wi:=xE;have n:wi.cell? ⟨g1,0,none⟩=some (str a):=(hX.cells.1 _ _ (M2.hi 0)).trans (aW (M2.ow 0) 0 (by omega) _ HA.out);go_simp;exact hK _ _ ⟨str a,rfl,rfl,Ext.refl _⟩
  refine sS1 [(2,some 66)] (sS1 [(3,some 67)] (sS1 [(4,some 68)] (sS2 [(4,some 68),(5,some 69)] (sS2 [(4,some 68),(6,some 70)] (sS2 [(4,some 68),(7,some 71)] (sS1 [(8,some 72)] ?_))))));refine sC [(9,some 73)] rfl (fun wi hx=> ?_) ?_
  ·intro v9 h9 K hK;obtain rfl:=h9;have hX:Ext m wi:=xE;obtain⟨n,a7,a8,a9,ba,bb,bc,bd,be,bf⟩:=((M2.bk 1).ext hX).ten;go_simp;exact hK _ _ ⟨.agg #[(h.aA:Int),(h.aB:Int),.slice p h.cells cap,(h.free:Int),(h.step:Int),(h.aD:Int),(h.aF:Int),(h.aC:Int),(h.aG:Int),.slice q h.vs c2],rfl,rfl,Ext.refl _⟩
  refine sS1 [(9,some 73)] (sS2 [(9,some 73),(11,some 75)] ?_);refine sC [(9,some 73),(12,some 76)] rfl (fun wi hx=> ?_) ?_
  ·intro v9 h9 m i K hK;obtain rfl:=h9;obtain rfl:=i;have hX:Ext m wi:=xE;have n:wi.cell? ⟨g1,1,none⟩=some (str b):=(hX.cells.1 _ _ (M2.hi 0)).trans (aW (M2.ow 0) 1 (by omega) _ HB.out);go_simp;exact hK _ _ ⟨str b,rfl,rfl,Ext.refl _⟩
  refine sC [(9,some 73),(13,some 77)] rfl (fun wi hx=> ?_) ?_
  ·intro v9 h9 a3 j K hK;obtain rfl:=h9;obtain rfl:=j;go_simp;refine Z (K1 _) fun w5 d=>?_
   go_simp;exact hK _ _ ⟨I id,rfl,rfl,d⟩
  refine sC [(9,some 73),(10,some 74),(14,some 78)] rfl (fun wi hx=> ?_) ?_
  ·intro v9 h9 a2 f a4 k K hK;obtain rfl:=h9;obtain rfl:=f;obtain rfl:=k;go_simp;refine Z (K3 _ (M2.ext.trans hx.of_drew)) fun w5 d=>?_
   go_simp;exact hK _ _ ⟨.bool mb,rfl,rfl,d⟩
  exact sS2 [(9,some 73),(15,some 79)] (sS1 [(16,some 80)] StepsL.nil)
 case fin=>
  intro wi hx v0 h0 v1 h1 v2 h2 v3 h3 v4 h4 v5 h5 v6 h6 v7 h7 v8 h8 v9 h9 a2 f bl s m i a3 j a4 k bm u bo v bp x;subst h0 h1 h2 h3 h4 h5 h6 h7 h8 h9;obtain rfl:=f;obtain rfl:=s;obtain rfl:=i;obtain rfl:=j;obtain rfl:=k;obtain rfl:=u;obtain rfl:=v;obtain rfl:=x;have o:=hx.of_drew;obtain⟨a0,rfl⟩: ∃z,z=wi:=⟨_,rfl⟩
  have M3:=(M2.adv o)
  clear M2 hx o ax;refine wpAny_done (by kernel_rfl) ?_ _;try go_frame
  have ay:=M3.hi 1;cases mb with
  |true=>obtain rfl:=hy rfl;obtain⟨ak,al,am,an,ao,ap,aq,ar,au,av⟩:=(M3.bk 1).ten;go_wp2;go_ret;exact⟨rfl,M3.ext⟩
  |false=>
   go_upto_region 16 with fail;refine rL (gl [gEq (.slice (some ⟨g1,0,none⟩) T c1),gEq (.pointer (some ⟨g1,0,none⟩)),gEq (str a),gEq (.bool true),gEq (.bool true),gEq (.slice (some ⟨g1,0,none⟩) T c1),gEq (T:Int),gEq (.bool true),gEq (.bool true),gEq (.bool true),gEq (.agg #[(h.aA:Int),(h.aB:Int),.slice p h.cells cap,(h.free:Int),(h.step:Int),(h.aD:Int),(h.aF:Int),(h.aC:Int),(h.aG:Int),.slice q h.vs c2]),gEq (.slice (some ⟨g1,0,none⟩) T c1),gEq (.pointer (some ⟨g1,1,none⟩)),gEq (str b),gEq id,gEq D,gEq (.bool (decide (0≤D))),gEq (.bool (decide (0≤D))),gEq (.bool (decide (0≤D)))]) 19 19 [(0,some 82),(1,some 83),(2,some 84),(3,some 85),(4,some 86),(5,some 87),(6,some 88),(7,some 89),(8,some 90),(9,some 91),(10,some 92),(11,some 93),(12,some 94),(13,some 95),(14,some 96),(15,some 97),(16,some 98),(17,some 99),(18,some 81)] ?steps ?fin
   case steps=>
    refine sS0 [] (sS1 [(0,some 82)] ?_);refine sC [(1,some 83)] rfl (fun wi hx=> ?_) ?_
    ·intro v1 h1 K hK;obtain rfl:=h1;have hX:Ext a0 wi:=xE;have n:wi.cell? ⟨g1,0,none⟩=some (str a):=(hX.cells.1 _ _ (M3.hi 0)).trans (aW (M3.ow 0) 0 (by omega) _ HA.out);go_simp;exact hK _ _ ⟨str a,rfl,rfl,Ext.refl _⟩
    refine sS1 [(2,some 84)] (sS1 [(3,some 85)] (sS1 [(4,some 86)] (sS2 [(4,some 86),(5,some 87)] (sS2 [(4,some 86),(6,some 88)] (sS2 [(4,some 86),(7,some 89)] (sS1 [(8,some 90)] ?_))))));refine sC [(9,some 91)] rfl (fun wi hx=> ?_) ?_
    ·intro v9 h9 K hK;obtain rfl:=h9;have hX:Ext a0 wi:=xE;obtain⟨n,a7,a8,a9,ba,bb,bc,bd,be,bf⟩:=((M3.bk 1).ext hX).ten;go_simp;exact hK _ _ ⟨.agg #[(h.aA:Int),(h.aB:Int),.slice p h.cells cap,(h.free:Int),(h.step:Int),(h.aD:Int),(h.aF:Int),(h.aC:Int),(h.aG:Int),.slice q h.vs c2],rfl,rfl,Ext.refl _⟩
    refine sS1 [(9,some 91)] (sS2 [(9,some 91),(11,some 93)] ?_);refine sC [(9,some 91),(12,some 94)] rfl (fun wi hx=> ?_) ?_
    ·intro v9 h9 m i K hK;obtain rfl:=h9;obtain rfl:=i;have hX:Ext a0 wi:=xE;have n:wi.cell? ⟨g1,1,none⟩=some (str b):=(hX.cells.1 _ _ (M3.hi 0)).trans (aW (M3.ow 0) 1 (by omega) _ HB.out);go_simp;exact hK _ _ ⟨str b,rfl,rfl,Ext.refl _⟩
    refine sC [(9,some 91),(13,some 95)] rfl (fun wi hx=> ?_) ?_
    ·intro v9 h9 a3 j K hK;obtain rfl:=h9;obtain rfl:=j;go_simp;refine Z (K1 _) fun w5 d=>?_
     go_simp;exact hK _ _ ⟨I id,rfl,rfl,d⟩
    refine sC [(9,some 91),(10,some 92),(14,some 96)] rfl (fun wi hx=> ?_) ?_
    ·intro v9 h9 a2 f a4 k K hK;obtain rfl:=h9;obtain rfl:=f;obtain rfl:=k;go_simp;refine Z (K2 _ (M3.ext.trans hx.of_drew)) fun w5 d=>?_
     go_simp;exact hK _ _ ⟨I D,rfl,rfl,d⟩
    exact sS2 [(9,some 91),(15,some 97)] (sS2 [(9,some 91),(16,some 98)] (sS1 [(17,some 99)] StepsL.nil))
   case fin=>
    intro wi hx v0 h0 v1 h1 v2 h2 v3 h3 v4 h4 v5 h5 v6 h6 v7 h7 v8 h8 v9 h9 a2 f bl s m i a3 j a4 k bm u bo v bp x bt bg;subst h0 h1 h2 h3 h4 h5 h6 h7 h8 h9;obtain rfl:=f;obtain rfl:=s;obtain rfl:=i;obtain rfl:=j;obtain rfl:=k;obtain rfl:=u;obtain rfl:=v;obtain rfl:=x;obtain rfl:=bg;have o:=hx.of_drew;obtain⟨a1,rfl⟩: ∃z,z=wi:=⟨_,rfl⟩
    have M4:=(M3.adv o)
    clear M3 hx o ay;refine wpAny_done (by kernel_rfl) ?_ _;try go_frame
    have az:=M4.hi 1;by_cases h0:0≤D
    ·skip;have t0:decide (0≤D)=true:=by simp[h0]
     obtain rfl:=hn rfl h0;obtain⟨ak,al,am,an,ao,ap,aq,ar,au,av⟩:=(M4.bk 1).ten;go_wp2;go_ret;exact⟨rfl,M4.ext⟩
    skip;have t0:decide (0≤D)=false:=by simp;omega
    obtain⟨y,aa,ab,ad,ae,af,ag,ah,ai,aj⟩:=(M4.bk 1).ten;have e0:a1.cell? ⟨g1,0,none⟩=some (str a):=aW (M4.ow 0) 0 (by omega) _ HA.out;have e1:a1.cell? ⟨g1,1,none⟩=some (str b):=aW (M4.ow 0) 1 (by omega) _ HB.out;have lg:g1<a1:=(M4.hi 0)
    go_wp2_with fail;clear y aa ab ad ae af ag ah ai aj e0 e1 lg;refine Z (K1 _) fun w5 d=>?_
    have M5:=(M4.adv d)
    clear M4 az d;have bj:=M5.hi 1;by_cases h1:0≤id
    ·skip;have t1:decide (0≤id)=true:=by simp[h1]
     obtain rfl:=bh (by omega) h1;obtain⟨ak,al,am,an,ao,ap,aq,ar,au,av⟩:=(M5.bk 1).ten;go_wp2;go_ret;exact⟨rfl,M5.ext⟩
    skip;have t1:decide (0≤id)=false:=by simp;omega
    obtain rfl:=bi (by omega);obtain⟨ak,al,am,an,ao,ap,aq,ar,au,av⟩:=(M5.bk 1).ten;go_wp2;go_ret;exact⟨rfl,M5.ext⟩
end
theorem aOv (h:aL)(o:aR h=true)(p:OA)(n cap:Nat)(q:OA)(m c2:Nat)(l:List UInt8)(w:World)(hi:IsHouse w h p n cap q m c2)(hl:l.length≤1048576):
  U 27 #[bM h p n cap q m c2,str l] w (O (str (aFe h l)) w):=by
 have x:=hi.clen;have z:=hi.vlen;subst x z;obtain⟨_,_,⟨k0,k1,k2,k3⟩,_,_⟩:=(eL h).1 o;have ow:=aIa o;have k:=yK 32 l;have d:1≤(cL 32 l).length:=List.length_pos_iff.2 (kO 32 l);have HS:Hid (∀w,U 52 #[str l,.int .u8 32] w fun e w'=> ∃g c,e= .returned (.slice (some ⟨g,0,none⟩) (cL 32 l).length c)∧w'.ownsRow w cY 1 (.slice (some ⟨g,0,none⟩) (cL 32 l).length c) (cL 32 l).length (gI (cL 32 l))∧Ext w w'):=by intro w;refine(aAa ⟨l.toArray⟩ 32 32 rfl w (by simp only[ByteArray.size,List.size_toArray];omega)).mono ?_;rintro e w' ⟨v,rfl,ho,hx⟩;obtain⟨g,c,rfl⟩:=aSx ho d;exact⟨g,c,rfl,ho,hx⟩
 obtain⟨T,hT⟩: ∃T,(cL 32 l).length=T:=⟨_,rfl⟩
 rw[hT]at HS d k;have f:T≤1099511627777:=by omega
 obtain⟨r,hr⟩: ∃r,aFe h l=r:=⟨_,rfl⟩
 rw[hr];unfold aFe at hr;by_cases e0:l= [104,97,108,108]
 ·rw[if_pos e0]at hr;subst hr;exact aJu h p cap q c2 l w _ 0 _ T d f (by simp[e0]) HS (fun w' hx=>rW _ _ _ _ _ _ w' (hi.cells.ext hx))
 rw[if_neg e0]at hr;by_cases e1:l= [99,108,111,99,107]
 ·rw[if_pos e1]at hr;subst hr;exact aGf h p cap q c2 l w _ 0 _ T d f (by simp[e0]) (by simp[e1]) HS (fun w' hx=>jS _ w' k0 (by omega))
 rw[if_neg e1]at hr;by_cases e2:l= [98,97,110,107]
 ·rw[if_pos e2]at hr;subst hr;exact aJv h p cap q c2 l w _ 0 _ T d f (by simp[e0]) (by simp[e1]) (by simp[e2]) HS (fun w' hx=>jS _ w' k2 (by omega))
 rw[if_neg e2]at hr;by_cases e3:l= [111,119,101,100]
 ·rw[if_pos e3]at hr;subst hr;exact aJt h p cap q c2 l w _ _ _ T d f (by simp[e0]) (by simp[e1]) (by simp[e2]) (by simp[e3]) HS (fun w' hx=>yU h p _ cap q _ c2 w' (hi.ext hx)) (fun w' hx=>jS _ w' ow.1 (by omega))
 rw[if_neg e3]at hr;by_cases e4:l= [104,111,117,115,101]
 ·rw[if_pos e4]at hr;subst hr;exact aGe h p cap q c2 l w _ 0 _ T d f (by simp[e0]) (by simp[e1]) (by simp[e2]) (by simp[e3]) (by simp[e4]) HS (fun w' hx=>yT h p _ cap q _ c2 w' (hi.ext hx))
 rw[if_neg e4]at hr;have n0:(l== [104,97,108,108])=false:=by simp[e0]
 have n1:(l== [99,108,111,99,107])=false:=by simp[e1]
 have n2:(l== [98,97,110,107])=false:=by simp[e2]
 have n3:(l== [111,119,101,100])=false:=by simp[e3]
 have n4:(l== [104,111,117,115,101])=false:=by simp[e4]
 obtain⟨a,ha⟩: ∃a,(cL 32 l)[0]? =some a:=⟨_,aRq (by omega)⟩
 have j:=fun id=>xQ fun(w':World) (hx:Ext w w')=>nS h id p _ cap q _ c2 w' (hi.ext hx)
 have s:=fun id=>xQ fun(w':World) (hx:Ext w w')=>rV h id p _ cap q _ c2 w' (hi.ext hx)
 by_cases h2:T=2
 ·subst h2;obtain⟨a',b,t⟩: ∃a b,cL 32 l= [a,b]:=by
   match cL 32 l,hT with
   | [a,b],_=>exact⟨a,b,rfl⟩
  rw[t]at ha HS k;obtain rfl:a'=a:=by simpa using ha
  obtain⟨c1,u⟩:=aJ0 t;rw[c1,u]at hr;have i:Hid (∀w',U 54 #[str b] w' (O (I ((dR 4 b).getD (-1))) w')):=fun w'=>by refine(aE5 b (by have:=k.1 b (by simp);unfold maxLen;omega) w').mono ?_;rintro e w'' ⟨rfl,rfl⟩;exact⟨rfl,Ext.refl _⟩
  cases hq:dR 4 b with
  |none=>
   rw[hq]at hr i;have hw:=hr.symm;have y:=aQ0 o;simp only[Option.getD_none]at i;by_cases a1:a'= [100,117,101]
   ·exact aDq h p cap q c2 l w a' b [] r (-1) _ true _ 2 d f (xQ rfl) n0 n1 n2 n3 n4 (by simp[a1]) (by simp[a1]) (xQ rfl) (aRp _) (by decide) (fun _=>hw) (fun h0=>by omega) (fun _ h0=>by omega) (fun _=>by omega) HS i (j (-1)) (fun h0=>by omega)
   by_cases a2:a'= [109,97,121]
   ·exact aDp h p cap q c2 l w a' b [] r (-1) _ _ _ 2 d f (xQ rfl) n0 n1 n2 n3 n4 (by simp[a1]) (by simp[a2]) (xQ rfl) (aRp _) (by decide) (fun _=>hw) (fun h0=>by rw[y.2]at h0;cases h0) (fun _ h0=>by omega) (fun _ h0=>by omega) (fun _=>by omega) HS i (j (-1)) (s (-1))
   exact nW h p cap q c2 l w a' b [] r 0 0 true _ 2 d f (xQ rfl) n0 n1 n2 n3 n4 (by simp[a1]) (by simp[a2]) hw HS
  |some id=>
   rw[hq]at hr i;have aa:=aMq (by omega) hq;have dc:=aAo o id;simp only[Option.getD_some]at i;dsimp only at hr;by_cases a1:a'= [100,117,101]
   ·rw[if_pos a1]at hr;refine aDq h p cap q c2 l w a' b (dec (bB h id)) r id _ true _ 2 d f (xQ rfl) n0 n1 n2 n3 n4 (by simp[a1]) (by simp[a1]) (xQ rfl) (aRp _) (by decide) (fun h0=>by omega) (fun h0=> ?_) (fun h0 _=> ?_) (fun h0=>by omega) HS i (j id) (fun h0 w' hx=>jS _ w' h0 (by omega))
    ·rw[if_neg (by omega)]at hr;exact hr
    rw[if_pos h0]at hr;exact hr.symm
   rw[if_neg a1]at hr;by_cases a2:a'= [109,97,121]
   ·rw[if_pos a2]at hr;refine aDp h p cap q c2 l w a' b [] r id _ _ _ 2 d f (xQ rfl) n0 n1 n2 n3 n4 (by simp[a1]) (by simp[a2]) (xQ rfl) (aRp _) (by decide) (fun h0=>by omega) (fun h0=> ?_) (fun h0 h1=> ?_) (fun h0 _=> ?_) (fun h0=>by omega) HS i (j id) (s id)
    ·have h1: ¬bB h id<0:=by
      rcases dc with⟨_,h2⟩|⟨h2,_⟩
      ·rw[h2]at h0;cases h0
      omega
     rw[if_neg h1,if_pos h0]at hr;exact hr.symm
    ·rw[if_neg (by omega),if_neg (by rw[h0];simp)]at hr;exact hr.symm
    rw[if_pos h0]at hr;exact hr.symm
   rw[if_neg a2]at hr;exact nW h p cap q c2 l w a' b [] r 0 0 true _ 2 d f (xQ rfl) n0 n1 n2 n3 n4 (by simp[a1]) (by simp[a2]) hr.symm HS
 have hw:r= [119,104,97,116]:=by
  cases hq:dR 4 (gK 32 l)with
  |none=>rw[hq]at hr;exact hr.symm
  |some id=>rw[aJ1 hq]at hT;simp at hT;omega
 by_cases a1:a= [100,117,101]
 ·exact aBn h p cap q c2 l w a [] [] r 0 0 true _ T d f ha n0 n1 n2 n3 n4 (by simp[a1]) (by simp[a1]) (by simp;omega) hw HS
 by_cases a2:a= [109,97,121]
 ·exact aBm h p cap q c2 l w a [] [] r 0 0 true _ T d f ha n0 n1 n2 n3 n4 (by simp[a1]) (by simp[a2]) (by simp;omega) hw HS
 exact nW h p cap q c2 l w a [] [] r 0 0 true _ T d f ha n0 n1 n2 n3 n4 (by simp[a1]) (by simp[a2]) hw HS
theorem aPl (h:aL)(k a b:Int)(p:OA)(n cap:Nat)(q:OA)(m c2:Nat)(w:World)(hi:IsHouse w h p n cap q m c2)(hE:BitTab w):
  U 33 #[bM h p n cap q m c2,fU k a b] w (aLf w (doR h k a b) w):=by
 by_cases hok:aR h=true
 ·exact(uZ h k a b p n cap q m c2 w hi hok hE).mono (fun e w' hr=>vY (aRp _) hok hr)
 exact(vU h k a b p n cap q m c2 w hi (by simpa using hok)).mono (fun e w' hr=>aIu hok hr)
theorem aOu (h:aL)(k a b:Int)(p:OA)(n cap:Nat)(q:OA)(m c2:Nat)(w:World)(hi:IsHouse w h p n cap q m c2):
  U 23 #[bM h p n cap q m c2,fU k a b] w (aLf w (doR h k a b) w):=by
 by_cases hok:aR h=true
 ·exact(uS h k a b p n cap q m c2 w hi hok).mono (fun e w' hr=>vY (aRp _) hok hr)
 exact(vM h k a b p n cap q m c2 w hi (by simpa using hok)).mono (fun e w' hr=>aIu hok hr)
end Go.Proofs.YtbgkcehffiogcacGreatDoor
