/-
  Texts of this proof, packed (@packed).
-/
import Derived.Test.YthfmmibomhhmpaaGreatDoorY36
namespace Go.Proofs.YthfmmibomhhmpaaGreatDoor
open Go.RowKit
set_option linter.unusedSimpArgs false
set_option linter.unusedVariables false
set_option maxHeartbeats 8000000
set_option maxRecDepth 100000
section
open Go.Proofs.Tryz
theorem aLa (h:aL)(p:OA)(a:Nat)(q:OA)(c2:Nat)(l:List UInt8)(w:World)(t:List UInt8)(x:Int)(ws:List (List UInt8))(T:Nat)(hT:1≤T)(m:T≤1099511627777)(b0:(l== [104,97,108,108])=true)
  (HS:Hid (∀w,U 86 #[str l,.int .u8 32] w fun e w'=> ∃g c,e= .returned (.slice (some ⟨g,0,none⟩) T c)∧w'.ownsRow w kC 1 (.slice (some ⟨g,0,none⟩) T c) T (iL ws)∧Ext w w'))
  (K0:xC 90 #[.agg #[h.aA,h.aB,.slice p h.cells a]] w fun w' e w''=>e= .returned (str t)∧Ext w' w''):
  U 51 #[.agg #[h.aA,h.aB,.slice p h.cells a,h.free,h.step,h.aD,h.aF,h.aC,h.aG,.slice q h.vs c2],str l] w ((O (str t) w)):=by
 go_enter func51,ntmps51;go_wp2_with fail;refine(HS _).mono ?_;rintro e w1 ⟨g1,c1,rfl,d,f⟩;have M1:=(((Mem.start w).c0 aK (aVs h p a q c2)).call f d)
 have b:=M1.hi 1;clear f d HS;have i0:(0:Int)<(T:Int):=by omega
 have j0:0<T:=by omega
 have j:=(M1.bk 1).ten;go_wp2_with fail;clear j;refine Z (K0 _ M1.ext) fun w2 i=>?_
 have M2:=(M1.adv i)
 clear M1 b i;have k:=M2.hi 1;go_wp2;go_ret;exact⟨rfl,M2.ext⟩
theorem aHu (h:aL)(p:OA)(b:Nat)(q:OA)(c2:Nat)(l:List UInt8)(w:World)(t:List UInt8)(x:Int)(ws:List (List UInt8))(T:Nat)(hT:1≤T)(m:T≤1099511627777)(n0:(l== [104,97,108,108])=false)(b1:(l== [99,108,111,99,107])=true)
  (HS:Hid (∀w,U 86 #[str l,.int .u8 32] w fun e w'=> ∃g c,e= .returned (.slice (some ⟨g,0,none⟩) T c)∧w'.ownsRow w kC 1 (.slice (some ⟨g,0,none⟩) T c) T (iL ws)∧Ext w w'))
  (K0:xC 40 #[h.aC] w fun w' e w''=>e= .returned (str t)∧Ext w' w''):
  U 51 #[.agg #[h.aA,h.aB,.slice p h.cells b,h.free,h.step,h.aD,h.aF,h.aC,h.aG,.slice q h.vs c2],str l] w ((O (str t) w)):=by
 go_enter func51,ntmps51;go_wp2_with fail;refine(HS _).mono ?_;rintro e w1 ⟨g1,c1,rfl,d,f⟩;have M1:=(((Mem.start w).c0 aK (aVs h p b q c2)).call f d)
 have a:=M1.hi 1;clear f d HS;have i0:(0:Int)<(T:Int):=by omega
 have j0:0<T:=by omega
 have j:=(M1.bk 1).ten;go_wp2_with fail;clear j;refine Z (K0 _ M1.ext) fun w2 i=>?_
 have M2:=(M1.adv i)
 clear M1 a i;have k:=M2.hi 1;go_wp2;go_ret;exact⟨rfl,M2.ext⟩
theorem aLb (h:aL)(p:OA)(b:Nat)(q:OA)(c2:Nat)(l:List UInt8)(w:World)(t:List UInt8)(x:Int)(ws:List (List UInt8))(T:Nat)(hT:1≤T)(m:T≤1099511627777)(n0:(l== [104,97,108,108])=false)(n1:(l== [99,108,111,99,107])=false)(b2:(l== [98,97,110,107])=true)
  (HS:Hid (∀w,U 86 #[str l,.int .u8 32] w fun e w'=> ∃g c,e= .returned (.slice (some ⟨g,0,none⟩) T c)∧w'.ownsRow w kC 1 (.slice (some ⟨g,0,none⟩) T c) T (iL ws)∧Ext w w'))
  (K0:xC 40 #[h.aG] w fun w' e w''=>e= .returned (str t)∧Ext w' w''):
  U 51 #[.agg #[h.aA,h.aB,.slice p h.cells b,h.free,h.step,h.aD,h.aF,h.aC,h.aG,.slice q h.vs c2],str l] w ((O (str t) w)):=by
 go_enter func51,ntmps51;go_wp2_with fail;refine(HS _).mono ?_;rintro e w1 ⟨g1,c1,rfl,d,f⟩;have M1:=(((Mem.start w).c0 aK (aVs h p b q c2)).call f d)
 have a:=M1.hi 1;clear f d HS;have i0:(0:Int)<(T:Int):=by omega
 have j0:0<T:=by omega
 have j:=(M1.bk 1).ten;go_wp2_with fail;clear j;refine Z (K0 _ M1.ext) fun w2 i=>?_
 have M2:=(M1.adv i)
 clear M1 a i;have k:=M2.hi 1;go_wp2;go_ret;exact⟨rfl,M2.ext⟩
theorem aL9 (h:aL)(p:OA)(a:Nat)(q:OA)(c2:Nat)(l:List UInt8)(w:World)(t:List UInt8)(x:Int)(ws:List (List UInt8))(T:Nat)(hT:1≤T)(o:T≤1099511627777)(n0:(l== [104,97,108,108])=false)(n1:(l== [99,108,111,99,107])=false)(n2:(l== [98,97,110,107])=false)(b3:(l== [111,119,101,100])=true)
  (HS:Hid (∀w,U 86 #[str l,.int .u8 32] w fun e w'=> ∃g c,e= .returned (.slice (some ⟨g,0,none⟩) T c)∧w'.ownsRow w kC 1 (.slice (some ⟨g,0,none⟩) T c) T (iL ws)∧Ext w w'))
  (K0:xC 91 #[.agg (aVs h p a q c2)] w fun w' e w''=>e= .returned (I x)∧Ext w' w'')
  (K1:xC 40 #[x] w fun w' e w''=>e= .returned (str t)∧Ext w' w''):
  U 51 #[.agg #[h.aA,h.aB,.slice p h.cells a,h.free,h.step,h.aD,h.aF,h.aC,h.aG,.slice q h.vs c2],str l] w ((O (str t) w)):=by
 go_enter func51,ntmps51;go_wp2_with fail;refine(HS _).mono ?_;rintro e w1 ⟨g1,c1,rfl,i,j⟩;have M1:=(((Mem.start w).c0 aK (aVs h p a q c2)).call j i)
 have d:=M1.hi 1;clear j i HS;have i0:(0:Int)<(T:Int):=by omega
 have j0:0<T:=by omega
 have b:=(M1.bk 1).ten;go_wp2_with fail;clear b;refine Z (K0 _ M1.ext) fun w2 k=>?_
 have M2:=(M1.adv k)
 clear M1 d k;have f:=M2.hi 1;have b:=(M2.bk 1).ten;go_wp2_with fail;clear b;refine Z (K1 _ M2.ext) fun w3 m=>?_
 have M3:=(M2.adv m)
 clear M2 f m;have n:=M3.hi 1;go_wp2;go_ret;exact⟨rfl,M3.ext⟩
theorem aHt (h:aL)(p:OA)(a:Nat)(q:OA)(c2:Nat)(l:List UInt8)(w:World)(t:List UInt8)(x:Int)(ws:List (List UInt8))(T:Nat)(hT:1≤T)(m:T≤1099511627777)(n0:(l== [104,97,108,108])=false)(n1:(l== [99,108,111,99,107])=false)(n2:(l== [98,97,110,107])=false)(n3:(l== [111,119,101,100])=false)(b4:(l== [104,111,117,115,101])=true)
  (HS:Hid (∀w,U 86 #[str l,.int .u8 32] w fun e w'=> ∃g c,e= .returned (.slice (some ⟨g,0,none⟩) T c)∧w'.ownsRow w kC 1 (.slice (some ⟨g,0,none⟩) T c) T (iL ws)∧Ext w w'))
  (K0:xC 92 #[.agg (aVs h p a q c2)] w fun w' e w''=>e= .returned (str t)∧Ext w' w''):
  U 51 #[.agg #[h.aA,h.aB,.slice p h.cells a,h.free,h.step,h.aD,h.aF,h.aC,h.aG,.slice q h.vs c2],str l] w ((O (str t) w)):=by
 go_enter func51,ntmps51;go_wp2_with fail;refine(HS _).mono ?_;rintro e w1 ⟨g1,c1,rfl,d,f⟩;have M1:=(((Mem.start w).c0 aK (aVs h p a q c2)).call f d)
 have b:=M1.hi 1;clear f d HS;have i0:(0:Int)<(T:Int):=by omega
 have j0:0<T:=by omega
 have j:=(M1.bk 1).ten;go_wp2_with fail;clear j;refine Z (K0 _ M1.ext) fun w2 i=>?_
 have M2:=(M1.adv i)
 clear M1 b i;have k:=M2.hi 1;go_wp2;go_ret;exact⟨rfl,M2.ext⟩
theorem vB (h:aL)(p:OA)(j:Nat)(q:OA)(c2:Nat)(l:List UInt8)(w:World)(a r:List UInt8)(ws:List (List UInt8))(T:Nat)(hT:1≤T)(o:T≤1099511627777)(HA:Hid (ws[0]? =some a)) (n0:(l== [104,97,108,108])=false) (n1:(l== [99,108,111,99,107])=false) (n2:(l== [98,97,110,107])=false) (n3:(l== [111,119,101,100])=false) (n4:(l== [104,111,117,115,101])=false) (x y:Bool) (d1:(a== [100,117,101])=x) (d2:(a== [109,97,121])=y) (d3:x=true∨y=true→((T:Int)==2)=false) (hr:r= [119,104,97,116])
  (HS:Hid (∀w,U 86 #[str l,.int .u8 32] w fun e w'=> ∃g c,e= .returned (.slice (some ⟨g,0,none⟩) T c)∧w'.ownsRow w kC 1 (.slice (some ⟨g,0,none⟩) T c) T (iL ws)∧Ext w w')):
  U 51 #[.agg #[h.aA,h.aB,.slice p h.cells j,h.free,h.step,h.aD,h.aF,h.aC,h.aG,.slice q h.vs c2],str l] w ((O (str r) w)):=by
 subst hr;cases x
 all_goals cases y
 all_goals first|(replace d3:=d3 (.inl rfl))|(replace d3:=d3 (.inr rfl))|skip
 all_goals (
  go_enter func51,ntmps51;go_wp2_with fail;refine(HS _).mono ?_;rintro e w1 ⟨g1,c1,rfl,k,m⟩;have M1:=(((Mem.start w).c0 aK (aVs h p j q c2)).call m k)
  have d:=M1.hi 1;clear m k HS;have i0:(0:Int)<(T:Int):=by omega
  have j0:0<T:=by omega
  have b:=(M1.bk 1).ten;have e0:w1.cell? ⟨g1,0,none⟩=some (str a):=bF (M1.ow 0) 0 (by omega) _ HA.out;have lg:g1<w1:=(M1.hi 0)
  go_upto_region 12 with fail;go_quiet (fail);clear b e0 lg;have M2:=(M1.adv ((Ext.refl _).drewN nq))
  generalize World.drewN w1 nq=v12 at M2⊢;clear nq M1 d;have f:=M2.hi 1;have b:=(M2.bk 1).ten;have e0:v12.cell? ⟨g1,0,none⟩=some (str a):=bF (M2.ow 0) 0 (by omega) _ HA.out;have lg:g1<v12:=(M2.hi 0)
  go_upto_region 14 with fail;go_quiet (fail);clear b e0 lg;have M3:=(M2.adv ((Ext.refl _).drewN nq))
  generalize World.drewN v12 nq=v14 at M3⊢;clear nq M2 f;have i:=M3.hi 1;have b:=(M3.bk 1).ten;have e0:v14.cell? ⟨g1,0,none⟩=some (str a):=bF (M3.ow 0) 0 (by omega) _ HA.out;have lg:g1<v14:=(M3.hi 0)
  go_upto_region 16 with fail;go_quiet (fail);clear b e0 lg;have M4:=(M3.adv ((Ext.refl _).drewN nq))
  generalize World.drewN v14 nq=v16 at M4⊢;clear nq M3 i;have n:=M4.hi 1;have e0:v16.cell? ⟨g1,0,none⟩=some (str a):=bF (M4.ow 0) 0 (by omega) _ HA.out;have lg:g1<v16:=(M4.hi 0)
  have s:=(M4.bk 1).ten;go_wp2;go_ret
  exact⟨rfl,M4.ext⟩)
theorem aEx (h:aL)(p:OA)(f:Nat)(q:OA)(c2:Nat)(l:List UInt8)(w:World)(a b t r:List UInt8)(id D:Int)(mb:Bool)(ws:List (List UInt8))(T:Nat)(hT:1≤T)(a4:T≤1099511627777)(HA:Hid (ws[0]? =some a)) (n0:(l== [104,97,108,108])=false) (n1:(l== [99,108,111,99,107])=false) (n2:(l== [98,97,110,107])=false) (n3:(l== [111,119,101,100])=false) (n4:(l== [104,111,117,115,101])=false) (d1:(a== [100,117,101])=true) (d2:(a== [109,97,121])=false) (HB:Hid (ws[1]? =some b)) (a5:2≤T) (d3:((T:Int)==2)=true) (ax:id<0→r= [119,104,97,116]) (hy:0≤D→t=r) (aw:D<0→0≤id→r= [110,111,110,101]) (a3:id<0→D<0)
  (HS:Hid (∀w,U 86 #[str l,.int .u8 32] w fun e w'=> ∃g c,e= .returned (.slice (some ⟨g,0,none⟩) T c)∧w'.ownsRow w kC 1 (.slice (some ⟨g,0,none⟩) T c) T (iL ws)∧Ext w w'))
  (K1:Hid (∀w',U 87 #[str b] w' (O (I id) w')))
  (K2:xC 93 #[.agg (aVs h p f q c2),id] w fun w' e w''=>e= .returned (I D)∧Ext w' w'')
  (K4:Hid (0≤D→ ∀w',Ext w w'→U 40 #[D] w' (O (str t) w'))):
  U 51 #[.agg #[h.aA,h.aB,.slice p h.cells f,h.free,h.step,h.aD,h.aF,h.aC,h.aG,.slice q h.vs c2],str l] w ((O (str r) w)):=by
 go_enter func51,ntmps51;go_wp2_with fail;refine(HS _).mono ?_;rintro e w1 ⟨g1,c1,rfl,ae,af⟩;have M1:=(((Mem.start w).c0 aK (aVs h p f q c2)).call af ae)
 have ab:=M1.hi 1;clear af ae HS;have i0:(0:Int)<(T:Int):=by omega
 have j0:0<T:=by omega
 have i1:(1:Int)<(T:Int):=by omega
 have j1:1<T:=by omega
 go_upto_region 12 with fail;refine rL (gl [gEq (.slice (some ⟨g1,0,none⟩) T c1),gEq (.pointer (some ⟨g1,0,none⟩)),gEq (str a),gEq (.bool true),gEq (.bool true),gEq (.slice (some ⟨g1,0,none⟩) T c1),gEq (T:Int),gEq (.bool true),gEq (.bool true),gEq (.bool true),gEq (.agg #[(h.aA:Int),(h.aB:Int),.slice p h.cells f,(h.free:Int),(h.step:Int),(h.aD:Int),(h.aF:Int),(h.aC:Int),(h.aG:Int),.slice q h.vs c2]),gEq (.slice (some ⟨g1,0,none⟩) T c1),gEq (.pointer (some ⟨g1,1,none⟩)),gEq (str b),gEq id,gEq D,gEq (.bool (decide (0≤D))),gEq (.bool (decide (0≤D))),gEq (.bool (decide (0≤D)))]) 19 19 [(0,some 38),(1,some 39),(2,some 40),(3,some 41),(4,some 42),(5,some 43),(6,some 44),(7,some 45),(8,some 46),(9,some 47),(10,some 48),(11,some 49),(12,some 50),(13,some 51),(14,some 52),(15,some 53),(16,some 54),(17,some 55),(18,some 37)] ?steps ?fin
 case steps=>
  refine sS0 [] (sS1 [(0,some 38)] ?_);refine sC [(1,some 39)] rfl (fun wi hx=> ?_) ?_
  ·intro v1 h1 K hK;obtain rfl:=h1;have hX:Ext w1 wi:=xE;have s:wi.cell? ⟨g1,0,none⟩=some (str a):=(hX.cells.1 _ _ (M1.hi 0)).trans (bF (M1.ow 0) 0 (by omega) _ HA.out);go_simp;exact hK _ _ ⟨str a,rfl,rfl,Ext.refl _⟩
  refine sS1 [(2,some 40)] (sS1 [(3,some 41)] (sS1 [(4,some 42)] (sS2 [(4,some 42),(5,some 43)] (sS2 [(4,some 42),(6,some 44)] (sS2 [(4,some 42),(7,some 45)] (sS1 [(8,some 46)] ?_))))));refine sC [(9,some 47)] rfl (fun wi hx=> ?_) ?_
  ·intro v9 h9 K hK;obtain rfl:=h9;have hX:Ext w1 wi:=xE;obtain⟨s,ag,ah,ai,aj,ak,al,am,an,ao⟩:=((M1.bk 1).ext hX).ten;go_simp;exact hK _ _ ⟨.agg #[(h.aA:Int),(h.aB:Int),.slice p h.cells f,(h.free:Int),(h.step:Int),(h.aD:Int),(h.aF:Int),(h.aC:Int),(h.aG:Int),.slice q h.vs c2],rfl,rfl,Ext.refl _⟩
  refine sS1 [(9,some 47)] (sS2 [(9,some 47),(11,some 49)] ?_);refine sC [(9,some 47),(12,some 50)] rfl (fun wi hx=> ?_) ?_
  ·intro v9 h9 a1 x K hK;obtain rfl:=h9;obtain rfl:=x;have hX:Ext w1 wi:=xE;have s:wi.cell? ⟨g1,1,none⟩=some (str b):=(hX.cells.1 _ _ (M1.hi 0)).trans (bF (M1.ow 0) 1 (by omega) _ HB.out);go_simp;exact hK _ _ ⟨str b,rfl,rfl,Ext.refl _⟩
  refine sC [(9,some 47),(13,some 51)] rfl (fun wi hx=> ?_) ?_
  ·intro v9 h9 a2 y K hK;obtain rfl:=h9;obtain rfl:=y;go_simp;refine Z (K1 _) fun w5 d=>?_
   go_simp;exact hK _ _ ⟨I id,rfl,rfl,d⟩
  refine sC [(9,some 47),(10,some 48),(14,some 52)] rfl (fun wi hx=> ?_) ?_
  ·intro v9 h9 a0 v o aa K hK;obtain rfl:=h9;obtain rfl:=v;obtain rfl:=aa;go_simp;refine Z (K2 _ (M1.ext.trans hx.of_drew)) fun w5 d=>?_
   go_simp;exact hK _ _ ⟨I D,rfl,rfl,d⟩
  exact sS2 [(9,some 47),(15,some 53)] (sS2 [(9,some 47),(16,some 54)] (sS1 [(17,some 55)] StepsL.nil))
 case fin=>
  intro wi hx v0 h0 v1 h1 v2 h2 v3 h3 v4 h4 v5 h5 v6 h6 v7 h7 v8 h8 v9 h9 a0 v a7 ap a1 x a2 y o aa a8 aq u ar a9 au ba av;subst h0 h1 h2 h3 h4 h5 h6 h7 h8 h9;obtain rfl:=v;obtain rfl:=ap;obtain rfl:=x;obtain rfl:=y;obtain rfl:=aa;obtain rfl:=aq;obtain rfl:=ar;obtain rfl:=au;obtain rfl:=av;have i:=hx.of_drew;obtain⟨n,rfl⟩: ∃z,z=wi:=⟨_,rfl⟩
  have M2:=(M1.adv i)
  clear M1 hx i ab;refine wpAny_done (by kernel_rfl) ?_ _;try go_frame
  have k:=M2.hi 1;by_cases h0:0≤D
  ·skip;have t0:decide (0≤D)=true:=by simp[h0]
   obtain rfl:=hy h0;simp only[t0];go_upto_region 13 with fail;refine rL (gl [gEq (.agg #[(h.aA:Int),(h.aB:Int),.slice p h.cells f,(h.free:Int),(h.step:Int),(h.aD:Int),(h.aF:Int),(h.aC:Int),(h.aG:Int),.slice q h.vs c2]),gEq (.slice (some ⟨g1,0,none⟩) T c1),gEq (.pointer (some ⟨g1,1,none⟩)),gEq (str b),gEq id,gEq D,gEq (str t),gEq (str t)]) 8 8 [(0,some 56),(1,some 57),(2,some 58),(3,some 59),(4,some 60),(5,some 61),(6,some 62),(7,some 4)] ?steps ?fin
   case steps=>
    refine sC [] rfl (fun wi hx=> ?_) ?_
    ·intro K hK;have hX:Ext n wi:=xE;obtain⟨s,ag,ah,ai,aj,ak,al,am,an,ao⟩:=((M2.bk 1).ext hX).ten;go_simp;exact hK _ _ ⟨.agg #[(h.aA:Int),(h.aB:Int),.slice p h.cells f,(h.free:Int),(h.step:Int),(h.aD:Int),(h.aF:Int),(h.aC:Int),(h.aG:Int),.slice q h.vs c2],rfl,rfl,Ext.refl _⟩
    refine sS0 [] (sS1 [(1,some 57)] ?_);refine sC [(2,some 58)] rfl (fun wi hx=> ?_) ?_
    ·intro v2 h2 K hK;obtain rfl:=h2;have hX:Ext n wi:=xE;have s:wi.cell? ⟨g1,1,none⟩=some (str b):=(hX.cells.1 _ _ (M2.hi 0)).trans (bF (M2.ow 0) 1 (by omega) _ HB.out);go_simp;exact hK _ _ ⟨str b,rfl,rfl,Ext.refl _⟩
    refine sC [(3,some 59)] rfl (fun wi hx=> ?_) ?_
    ·intro v3 h3 K hK;obtain rfl:=h3;go_simp;refine Z (K1 _) fun w5 d=>?_
     go_simp;exact hK _ _ ⟨I id,rfl,rfl,d⟩
    refine sC [(0,some 56),(4,some 60)] rfl (fun wi hx=> ?_) ?_
    ·intro v0 h0 v4 h4 K hK;subst h0 h4;go_simp;refine Z (K2 _ (M2.ext.trans hx.of_drew)) fun w5 d=>?_
     go_simp;exact hK _ _ ⟨I D,rfl,rfl,d⟩
    refine sC [(5,some 61)] rfl (fun wi hx=> ?_) ?_
    ·intro v5 h5 K hK;obtain rfl:=h5;go_simp;refine Z (K4 h0 _ (M2.ext.trans hx.of_drew)) fun w5 d=>?_
     go_simp;exact hK _ _ ⟨str t,rfl,rfl,d⟩
    exact sS1 [(6,some 62)] StepsL.nil
   case fin=>
    intro wi hx v0 h0 v1 h1 v2 h2 v3 h3 v4 h4 v5 h5 v6 h6 v7 h7;subst h0 h1 h2 h3 h4 h5 h6 h7;have i:=hx.of_drew;obtain⟨a6,rfl⟩: ∃z,z=wi:=⟨_,rfl⟩
    have M3:=(M2.adv i)
    clear M2 hx i k;refine wpAny_done (by kernel_rfl) ?_ _;try go_frame
    have m:=M3.hi 1;go_wp2;go_ret;exact⟨rfl,M3.ext⟩
  skip;have t0:decide (0≤D)=false:=by simp;omega
  have j:=(M2.bk 1).ten;have e0:n.cell? ⟨g1,0,none⟩=some (str a):=bF (M2.ow 0) 0 (by omega) _ HA.out;have lg:g1<n:=(M2.hi 0)
  go_upto_region 14 with fail;go_quiet (fail);clear j e0 lg;have M3:=(M2.adv ((Ext.refl _).drewN nq))
  generalize World.drewN n nq=o at M3⊢;clear nq M2 k;have m:=M3.hi 1;have j:=(M3.bk 1).ten;have e0:o.cell? ⟨g1,0,none⟩=some (str a):=bF (M3.ow 0) 0 (by omega) _ HA.out;have lg:g1<o:=(M3.hi 0)
  go_upto_region 16 with fail;go_quiet (fail);clear j e0 lg;have M4:=(M3.adv ((Ext.refl _).drewN nq))
  generalize World.drewN o nq=u at M4⊢;clear nq M3 m;have ad:=M4.hi 1;have j:=(M4.bk 1).ten;have e0:u.cell? ⟨g1,0,none⟩=some (str a):=bF (M4.ow 0) 0 (by omega) _ HA.out;have e1:u.cell? ⟨g1,1,none⟩=some (str b):=bF (M4.ow 0) 1 (by omega) _ HB.out;have lg:g1<u:=(M4.hi 0)
  go_wp2_with fail;clear j e0 e1 lg;refine Z (K1 _) fun w5 d=>?_
  have M5:=(M4.adv d)
  clear M4 ad d;have az:=M5.hi 1;by_cases h1:0≤id
  ·skip;have t1:decide (0≤id)=true:=by simp[h1]
   obtain rfl:=aw (by omega) h1;have ay:=(M5.bk 1).ten;go_wp2;go_ret;exact⟨rfl,M5.ext⟩
  skip;have t1:decide (0≤id)=false:=by simp;omega
  obtain rfl:=ax (by omega);have ay:=(M5.bk 1).ten;go_wp2;go_ret;exact⟨rfl,M5.ext⟩
theorem aEw (h:aL)(p:OA)(f:Nat)(q:OA)(c2:Nat)(l:List UInt8)(w:World)(a b t r:List UInt8)(id D:Int)(mb:Bool)(ws:List (List UInt8))(T:Nat)(hT:1≤T)(a8:T≤1099511627777)(HA:Hid (ws[0]? =some a)) (n0:(l== [104,97,108,108])=false) (n1:(l== [99,108,111,99,107])=false) (n2:(l== [98,97,110,107])=false) (n3:(l== [111,119,101,100])=false) (n4:(l== [104,111,117,115,101])=false) (d1:(a== [100,117,101])=false) (d2:(a== [109,97,121])=true) (HB:Hid (ws[1]? =some b)) (a9:2≤T) (d3:((T:Int)==2)=true) (a1:id<0→r= [119,104,97,116]) (hy:mb=true→r= [121,101,115]) (hn:mb=false→0≤D→r= [110,111]) (a0:D<0→0≤id→r= [110,111,110,101]) (a7:id<0→D<0)
  (HS:Hid (∀w,U 86 #[str l,.int .u8 32] w fun e w'=> ∃g c,e= .returned (.slice (some ⟨g,0,none⟩) T c)∧w'.ownsRow w kC 1 (.slice (some ⟨g,0,none⟩) T c) T (iL ws)∧Ext w w'))
  (K1:Hid (∀w',U 87 #[str b] w' (O (I id) w')))
  (K2:xC 93 #[.agg (aVs h p f q c2),id] w fun w' e w''=>e= .returned (I D)∧Ext w' w'')
  (K3:xB 79 #[.agg (aVs h p f q c2),id] w mb):
  U 51 #[.agg #[h.aA,h.aB,.slice p h.cells f,h.free,h.step,h.aD,h.aF,h.aC,h.aG,.slice q h.vs c2],str l] w ((O (str r) w)):=by
 go_enter func51,ntmps51;go_wp2_with fail;refine(HS _).mono ?_;rintro e w1 ⟨g1,c1,rfl,am,an⟩;have M1:=(((Mem.start w).c0 aK (aVs h p f q c2)).call an am)
 have ad:=M1.hi 1;clear an am HS;have i0:(0:Int)<(T:Int):=by omega
 have j0:0<T:=by omega
 have i1:(1:Int)<(T:Int):=by omega
 have j1:1<T:=by omega
 have aa:=(M1.bk 1).ten;have e0:w1.cell? ⟨g1,0,none⟩=some (str a):=bF (M1.ow 0) 0 (by omega) _ HA.out;have lg:g1<w1:=(M1.hi 0)
 go_upto_region 12 with fail;go_quiet (fail);clear aa e0 lg;have M2:=(M1.adv ((Ext.refl _).drewN nq))
 generalize World.drewN w1 nq=n at M2⊢;clear nq M1 ad;have ae:=M2.hi 1;go_upto_region 14 with fail;refine rL (gl [gEq (.slice (some ⟨g1,0,none⟩) T c1),gEq (.pointer (some ⟨g1,0,none⟩)),gEq (str a),gEq (.bool true),gEq (.bool true),gEq (.slice (some ⟨g1,0,none⟩) T c1),gEq (T:Int),gEq (.bool true),gEq (.bool true),gEq (.bool true),gEq (.agg #[(h.aA:Int),(h.aB:Int),.slice p h.cells f,(h.free:Int),(h.step:Int),(h.aD:Int),(h.aF:Int),(h.aC:Int),(h.aG:Int),.slice q h.vs c2]),gEq (.slice (some ⟨g1,0,none⟩) T c1),gEq (.pointer (some ⟨g1,1,none⟩)),gEq (str b),gEq id,gEq (.bool mb),gEq (.bool mb),gEq (.bool mb)]) 18 18 [(0,some 64),(1,some 65),(2,some 66),(3,some 67),(4,some 68),(5,some 69),(6,some 70),(7,some 71),(8,some 72),(9,some 73),(10,some 74),(11,some 75),(12,some 76),(13,some 77),(14,some 78),(15,some 79),(16,some 80),(17,some 63)] ?steps ?fin
 case steps=>
  refine sS0 [] (sS1 [(0,some 64)] ?_);refine sC [(1,some 65)] rfl (fun wi hx=> ?_) ?_
  ·intro v1 h1 K hK;obtain rfl:=h1;have hX:Ext n wi:=xE;have o:wi.cell? ⟨g1,0,none⟩=some (str a):=(hX.cells.1 _ _ (M2.hi 0)).trans (bF (M2.ow 0) 0 (by omega) _ HA.out);go_simp;exact hK _ _ ⟨str a,rfl,rfl,Ext.refl _⟩
  refine sS1 [(2,some 66)] (sS1 [(3,some 67)] (sS1 [(4,some 68)] (sS2 [(4,some 68),(5,some 69)] (sS2 [(4,some 68),(6,some 70)] (sS2 [(4,some 68),(7,some 71)] (sS1 [(8,some 72)] ?_))))));refine sC [(9,some 73)] rfl (fun wi hx=> ?_) ?_
  ·intro v9 h9 K hK;obtain rfl:=h9;have hX:Ext n wi:=xE;obtain⟨o,ao,ap,aq,ar,au,av,aw,ax,ay⟩:=((M2.bk 1).ext hX).ten;go_simp;exact hK _ _ ⟨.agg #[(h.aA:Int),(h.aB:Int),.slice p h.cells f,(h.free:Int),(h.step:Int),(h.aD:Int),(h.aF:Int),(h.aC:Int),(h.aG:Int),.slice q h.vs c2],rfl,rfl,Ext.refl _⟩
  refine sS1 [(9,some 73)] (sS2 [(9,some 73),(11,some 75)] ?_);refine sC [(9,some 73),(12,some 76)] rfl (fun wi hx=> ?_) ?_
  ·intro v9 h9 n j K hK;obtain rfl:=h9;obtain rfl:=j;have hX:Ext n wi:=xE;have o:wi.cell? ⟨g1,1,none⟩=some (str b):=(hX.cells.1 _ _ (M2.hi 0)).trans (bF (M2.ow 0) 1 (by omega) _ HB.out);go_simp;exact hK _ _ ⟨str b,rfl,rfl,Ext.refl _⟩
  refine sC [(9,some 73),(13,some 77)] rfl (fun wi hx=> ?_) ?_
  ·intro v9 h9 ak k K hK;obtain rfl:=h9;obtain rfl:=k;go_simp;refine Z (K1 _) fun w5 d=>?_
   go_simp;exact hK _ _ ⟨I id,rfl,rfl,d⟩
  refine sC [(9,some 73),(10,some 74),(14,some 78)] rfl (fun wi hx=> ?_) ?_
  ·intro v9 h9 aj i al m K hK;obtain rfl:=h9;obtain rfl:=i;obtain rfl:=m;go_simp;refine Z (K3 _ (M2.ext.trans hx.of_drew)) fun w5 d=>?_
   go_simp;exact hK _ _ ⟨.bool mb,rfl,rfl,d⟩
  exact sS2 [(9,some 73),(15,some 79)] (sS1 [(16,some 80)] StepsL.nil)
 case fin=>
  intro wi hx v0 h0 v1 h1 v2 h2 v3 h3 v4 h4 v5 h5 v6 h6 v7 h7 v8 h8 v9 h9 aj i a3 u n j ak k al m a4 v a5 x a6 y;subst h0 h1 h2 h3 h4 h5 h6 h7 h8 h9;obtain rfl:=i;obtain rfl:=u;obtain rfl:=j;obtain rfl:=k;obtain rfl:=m;obtain rfl:=v;obtain rfl:=x;obtain rfl:=y;have s:=hx.of_drew;obtain⟨ah,rfl⟩: ∃z,z=wi:=⟨_,rfl⟩
  have M3:=(M2.adv s)
  clear M2 hx s ae;refine wpAny_done (by kernel_rfl) ?_ _;try go_frame
  have af:=M3.hi 1;cases mb with
  |true=>obtain rfl:=hy rfl;have ab:=(M3.bk 1).ten;go_wp2;go_ret;exact⟨rfl,M3.ext⟩
  |false=>
   go_upto_region 16 with fail;refine rL (gl [gEq (.slice (some ⟨g1,0,none⟩) T c1),gEq (.pointer (some ⟨g1,0,none⟩)),gEq (str a),gEq (.bool true),gEq (.bool true),gEq (.slice (some ⟨g1,0,none⟩) T c1),gEq (T:Int),gEq (.bool true),gEq (.bool true),gEq (.bool true),gEq (.agg #[(h.aA:Int),(h.aB:Int),.slice p h.cells f,(h.free:Int),(h.step:Int),(h.aD:Int),(h.aF:Int),(h.aC:Int),(h.aG:Int),.slice q h.vs c2]),gEq (.slice (some ⟨g1,0,none⟩) T c1),gEq (.pointer (some ⟨g1,1,none⟩)),gEq (str b),gEq id,gEq D,gEq (.bool (decide (0≤D))),gEq (.bool (decide (0≤D))),gEq (.bool (decide (0≤D)))]) 19 19 [(0,some 82),(1,some 83),(2,some 84),(3,some 85),(4,some 86),(5,some 87),(6,some 88),(7,some 89),(8,some 90),(9,some 91),(10,some 92),(11,some 93),(12,some 94),(13,some 95),(14,some 96),(15,some 97),(16,some 98),(17,some 99),(18,some 81)] ?steps ?fin
   case steps=>
    refine sS0 [] (sS1 [(0,some 82)] ?_);refine sC [(1,some 83)] rfl (fun wi hx=> ?_) ?_
    ·intro v1 h1 K hK;obtain rfl:=h1;have hX:Ext ah wi:=xE;have o:wi.cell? ⟨g1,0,none⟩=some (str a):=(hX.cells.1 _ _ (M3.hi 0)).trans (bF (M3.ow 0) 0 (by omega) _ HA.out);go_simp;exact hK _ _ ⟨str a,rfl,rfl,Ext.refl _⟩
    refine sS1 [(2,some 84)] (sS1 [(3,some 85)] (sS1 [(4,some 86)] (sS2 [(4,some 86),(5,some 87)] (sS2 [(4,some 86),(6,some 88)] (sS2 [(4,some 86),(7,some 89)] (sS1 [(8,some 90)] ?_))))));refine sC [(9,some 91)] rfl (fun wi hx=> ?_) ?_
    ·intro v9 h9 K hK;obtain rfl:=h9;have hX:Ext ah wi:=xE;obtain⟨o,ao,ap,aq,ar,au,av,aw,ax,ay⟩:=((M3.bk 1).ext hX).ten;go_simp;exact hK _ _ ⟨.agg #[(h.aA:Int),(h.aB:Int),.slice p h.cells f,(h.free:Int),(h.step:Int),(h.aD:Int),(h.aF:Int),(h.aC:Int),(h.aG:Int),.slice q h.vs c2],rfl,rfl,Ext.refl _⟩
    refine sS1 [(9,some 91)] (sS2 [(9,some 91),(11,some 93)] ?_);refine sC [(9,some 91),(12,some 94)] rfl (fun wi hx=> ?_) ?_
    ·intro v9 h9 n j K hK;obtain rfl:=h9;obtain rfl:=j;have hX:Ext ah wi:=xE;have o:wi.cell? ⟨g1,1,none⟩=some (str b):=(hX.cells.1 _ _ (M3.hi 0)).trans (bF (M3.ow 0) 1 (by omega) _ HB.out);go_simp;exact hK _ _ ⟨str b,rfl,rfl,Ext.refl _⟩
    refine sC [(9,some 91),(13,some 95)] rfl (fun wi hx=> ?_) ?_
    ·intro v9 h9 ak k K hK;obtain rfl:=h9;obtain rfl:=k;go_simp;refine Z (K1 _) fun w5 d=>?_
     go_simp;exact hK _ _ ⟨I id,rfl,rfl,d⟩
    refine sC [(9,some 91),(10,some 92),(14,some 96)] rfl (fun wi hx=> ?_) ?_
    ·intro v9 h9 aj i al m K hK;obtain rfl:=h9;obtain rfl:=i;obtain rfl:=m;go_simp;refine Z (K2 _ (M3.ext.trans hx.of_drew)) fun w5 d=>?_
     go_simp;exact hK _ _ ⟨I D,rfl,rfl,d⟩
    exact sS2 [(9,some 91),(15,some 97)] (sS2 [(9,some 91),(16,some 98)] (sS1 [(17,some 99)] StepsL.nil))
   case fin=>
    intro wi hx v0 h0 v1 h1 v2 h2 v3 h3 v4 h4 v5 h5 v6 h6 v7 h7 v8 h8 v9 h9 aj i a3 u n j ak k al m a4 v a5 x a6 y ba az;subst h0 h1 h2 h3 h4 h5 h6 h7 h8 h9;obtain rfl:=i;obtain rfl:=u;obtain rfl:=j;obtain rfl:=k;obtain rfl:=m;obtain rfl:=v;obtain rfl:=x;obtain rfl:=y;obtain rfl:=az;have s:=hx.of_drew;obtain⟨ai,rfl⟩: ∃z,z=wi:=⟨_,rfl⟩
    have M4:=(M3.adv s)
    clear M3 hx s af;refine wpAny_done (by kernel_rfl) ?_ _;try go_frame
    have ag:=M4.hi 1;by_cases h0:0≤D
    ·skip;have t0:decide (0≤D)=true:=by simp[h0]
     obtain rfl:=hn rfl h0;have ab:=(M4.bk 1).ten;go_wp2;go_ret;exact⟨rfl,M4.ext⟩
    skip;have t0:decide (0≤D)=false:=by simp;omega
    have aa:=(M4.bk 1).ten;have e0:ai.cell? ⟨g1,0,none⟩=some (str a):=bF (M4.ow 0) 0 (by omega) _ HA.out;have e1:ai.cell? ⟨g1,1,none⟩=some (str b):=bF (M4.ow 0) 1 (by omega) _ HB.out;have lg:g1<ai:=(M4.hi 0)
    go_wp2_with fail;clear aa e0 e1 lg;refine Z (K1 _) fun w5 d=>?_
    have M5:=(M4.adv d)
    clear M4 ag d;have a2:=M5.hi 1;by_cases h1:0≤id
    ·skip;have t1:decide (0≤id)=true:=by simp[h1]
     obtain rfl:=a0 (by omega) h1;have ab:=(M5.bk 1).ten;go_wp2;go_ret;exact⟨rfl,M5.ext⟩
    skip;have t1:decide (0≤id)=false:=by simp;omega
    obtain rfl:=a1 (by omega);have ab:=(M5.bk 1).ten;go_wp2;go_ret;exact⟨rfl,M5.ext⟩
end
theorem aQe (h:aL)(s:aP h=true)(p:OA)(n f:Nat)(q:OA)(m c2:Nat)(l:List UInt8)(w:World)(hi:IsHouse w h p n f q m c2)(hl:l.length≤1048576):
  U 51 #[bG h p n f q m c2,str l] w (O (str (aA0 h l)) w):=by
 have y:=hi.clen;have aa:=hi.vlen;subst y aa;obtain⟨_,_,⟨k0,k1,k2,k3⟩,_,_⟩:=(dF h).1 s;have ow:=aCx s;have o:=zW 32 l;have d:1≤(cR 32 l).length:=List.length_pos_iff.2 (lF 32 l);have HS:Hid (∀w,U 86 #[str l,.int .u8 32] w fun e w'=> ∃g c,e= .returned (.slice (some ⟨g,0,none⟩) (cR 32 l).length c)∧w'.ownsRow w kC 1 (.slice (some ⟨g,0,none⟩) (cR 32 l).length c) (cR 32 l).length (iL (cR 32 l))∧Ext w w'):=by intro w;refine(aBk ⟨l.toArray⟩ 32 32 rfl w (by simp only[ByteArray.size,List.size_toArray];omega)).mono ?_;rintro e w' ⟨v,rfl,ho,hx⟩;obtain⟨g,c,rfl⟩:=aUd ho d;exact⟨g,c,rfl,ho,hx⟩
 obtain⟨T,hT⟩: ∃T,(cR 32 l).length=T:=⟨_,rfl⟩
 rw[hT]at HS d o;have i:T≤1099511627777:=by omega
 obtain⟨r,hr⟩: ∃r,aA0 h l=r:=⟨_,rfl⟩
 rw[hr];unfold aA0 at hr;by_cases e0:l= [104,97,108,108]
 ·rw[if_pos e0]at hr;subst hr;exact aLa h p f q c2 l w _ 0 _ T d i (by simp[e0]) HS (fun w' hx=>tI _ _ _ _ _ _ w' (hi.cells.ext hx))
 rw[if_neg e0]at hr;by_cases e1:l= [99,108,111,99,107]
 ·rw[if_pos e1]at hr;subst hr;exact aHu h p f q c2 l w _ 0 _ T d i (by simp[e0]) (by simp[e1]) HS (fun w' hx=>jS _ w' k0 (by omega))
 rw[if_neg e1]at hr;by_cases e2:l= [98,97,110,107]
 ·rw[if_pos e2]at hr;subst hr;exact aLb h p f q c2 l w _ 0 _ T d i (by simp[e0]) (by simp[e1]) (by simp[e2]) HS (fun w' hx=>jS _ w' k2 (by omega))
 rw[if_neg e2]at hr;by_cases e3:l= [111,119,101,100]
 ·rw[if_pos e3]at hr;subst hr;exact aL9 h p f q c2 l w _ _ _ T d i (by simp[e0]) (by simp[e1]) (by simp[e2]) (by simp[e3]) HS (fun w' hx=>aA7 h p _ f q _ c2 w' (hi.ext hx)) (fun w' hx=>jS _ w' ow.1 (by omega))
 rw[if_neg e3]at hr;by_cases e4:l= [104,111,117,115,101]
 ·rw[if_pos e4]at hr;subst hr;exact aHt h p f q c2 l w _ 0 _ T d i (by simp[e0]) (by simp[e1]) (by simp[e2]) (by simp[e3]) (by simp[e4]) HS (fun w' hx=>aA6 h p _ f q _ c2 w' (hi.ext hx))
 rw[if_neg e4]at hr;have n0:(l== [104,97,108,108])=false:=by simp[e0]
 have n1:(l== [99,108,111,99,107])=false:=by simp[e1]
 have n2:(l== [98,97,110,107])=false:=by simp[e2]
 have n3:(l== [111,119,101,100])=false:=by simp[e3]
 have n4:(l== [104,111,117,115,101])=false:=by simp[e4]
 obtain⟨a,ha⟩: ∃a,(cR 32 l)[0]? =some a:=⟨_,aT6 (by omega)⟩
 have k:=fun id=>xQ fun(w':World) (hx:Ext w w')=>oQ h id p _ f q _ c2 w' (hi.ext hx)
 have t:=fun id=>xQ fun(w':World) (hx:Ext w w')=>tH h id p _ f q _ c2 w' (hi.ext hx)
 by_cases h2:T=2
 ·subst h2;obtain⟨a',b,u⟩: ∃a b,cR 32 l= [a,b]:=by
   match cR 32 l,hT with
   | [a,b],_=>exact⟨a,b,rfl⟩
  rw[u]at ha HS o;obtain rfl:a'=a:=by simpa using ha
  obtain⟨c1,x⟩:=aKe u;rw[c1,x]at hr;have j:Hid (∀w',U 87 #[str b] w' (O (I ((dY 4 b).getD (-1))) w')):=fun w'=>by refine(aFb b (by have:=o.1 b (by simp);unfold maxLen;omega) w').mono ?_;rintro e w'' ⟨rfl,rfl⟩;exact⟨rfl,Ext.refl _⟩
  cases hq:dY 4 b with
  |none=>
   rw[hq]at hr j;have hw:=hr.symm;have z:=aRf s;simp only[Option.getD_none]at j;by_cases a1:a'= [100,117,101]
   ·exact aEx h p f q c2 l w a' b [] r (-1) _ true _ 2 d i (xQ rfl) n0 n1 n2 n3 n4 (by simp[a1]) (by simp[a1]) (xQ rfl) (aT5 _) (by decide) (fun _=>hw) (fun h0=>by omega) (fun _ h0=>by omega) (fun _=>by omega) HS j (k (-1)) (fun h0=>by omega)
   by_cases a2:a'= [109,97,121]
   ·exact aEw h p f q c2 l w a' b [] r (-1) _ _ _ 2 d i (xQ rfl) n0 n1 n2 n3 n4 (by simp[a1]) (by simp[a2]) (xQ rfl) (aT5 _) (by decide) (fun _=>hw) (fun h0=>by rw[z.2]at h0;cases h0) (fun _ h0=>by omega) (fun _ h0=>by omega) (fun _=>by omega) HS j (k (-1)) (t (-1))
   exact vB h p f q c2 l w a' r _ 2 d i (xQ rfl) n0 n1 n2 n3 n4 false false (by simp[a1]) (by simp[a2]) (fun h0=>by simp at h0) hw HS
  |some id=>
   rw[hq]at hr j;have ab:=aO5 (by omega) hq;have dc:=aBu s id;simp only[Option.getD_some]at j;dsimp only at hr;by_cases a1:a'= [100,117,101]
   ·rw[if_pos a1]at hr;refine aEx h p f q c2 l w a' b (dec (aQ h id)) r id _ true _ 2 d i (xQ rfl) n0 n1 n2 n3 n4 (by simp[a1]) (by simp[a1]) (xQ rfl) (aT5 _) (by decide) (fun h0=>by omega) (fun h0=> ?_) (fun h0 _=> ?_) (fun h0=>by omega) HS j (k id) (fun h0 w' hx=>jS _ w' h0 (by omega))
    ·rw[if_neg (by omega)]at hr;exact hr
    rw[if_pos h0]at hr;exact hr.symm
   rw[if_neg a1]at hr;by_cases a2:a'= [109,97,121]
   ·rw[if_pos a2]at hr;refine aEw h p f q c2 l w a' b [] r id _ _ _ 2 d i (xQ rfl) n0 n1 n2 n3 n4 (by simp[a1]) (by simp[a2]) (xQ rfl) (aT5 _) (by decide) (fun h0=>by omega) (fun h0=> ?_) (fun h0 h1=> ?_) (fun h0 _=> ?_) (fun h0=>by omega) HS j (k id) (t id)
    ·have h1: ¬aQ h id<0:=by
      rcases dc with⟨_,h2⟩|⟨h2,_⟩
      ·rw[h2]at h0;cases h0
      omega
     rw[if_neg h1,if_pos h0]at hr;exact hr.symm
    ·rw[if_neg (by omega),if_neg (by rw[h0];simp)]at hr;exact hr.symm
    rw[if_pos h0]at hr;exact hr.symm
   rw[if_neg a2]at hr;exact vB h p f q c2 l w a' r _ 2 d i (xQ rfl) n0 n1 n2 n3 n4 false false (by simp[a1]) (by simp[a2]) (fun h0=>by simp at h0) hr.symm HS
 have hw:r= [119,104,97,116]:=by
  cases hq:dY 4 (iQ 32 l)with
  |none=>rw[hq]at hr;exact hr.symm
  |some id=>rw[aKf hq]at hT;simp at hT;omega
 exact vB h p f q c2 l w a r _ T d i ha n0 n1 n2 n3 n4 _ _ rfl rfl (fun _=>by simp;omega) hw HS
theorem aR1 (h:aL)(k a b:Int)(p:OA)(n c:Nat)(q:OA)(m c2:Nat)(w:World)(hi:IsHouse w h p n c q m c2)(hE:BitTab w):
  U 31 #[bG h p n c q m c2,eQ k a b] w (aMt w (doR h k a b) w):=by
 by_cases hok:aP h=true
 ·exact(wO h k a b p n c q m c2 w hi hok hE).mono (fun e w' hr=>xO (aT5 _) hok hr)
 exact(xK h k a b p n c q m c2 w hi (by simpa using hok)).mono (fun e w' hr=>aK7 hok hr)
theorem aQd (h:aL)(k a b:Int)(p:OA)(n c:Nat)(q:OA)(m c2:Nat)(w:World)(hi:IsHouse w h p n c q m c2):
  U 38 #[bG h p n c q m c2,eQ k a b] w (aMt w (doR h k a b) w):=by
 by_cases hok:aP h=true
 ·exact(qA h k a b p n c q m c2 w hi hok).mono (fun e w' hr=>xO (aT5 _) hok hr)
 exact(pN h k a b p n c q m c2 w hi (by simpa using hok)).mono (fun e w' hr=>aK7 hok hr)
end Go.Proofs.YthfmmibomhhmpaaGreatDoor
