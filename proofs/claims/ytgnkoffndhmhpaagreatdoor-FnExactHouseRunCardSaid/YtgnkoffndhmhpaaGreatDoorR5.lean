/-
  Texts of this proof, packed (@packed).
-/
import Derived.Deep.DeepCutAuto
import Derived.Deep.DeepFit
import Derived.Deep.RegionHeld3
import Derived.Handy
import Derived.KernelRfl
import Derived.Lib.CountLaws
import Derived.Lib.Hide
import Derived.Lib.ItoaLen
import Derived.Lib.ItoaMem
import Derived.Lib.SmallJoins
import Derived.Lib.SplitLaws
import Derived.RegionTactic
import Derived.Shelf.Strings.BuilderK
import Derived.Test.YtgnkoffndhmhpaaGreatDoorRS
import Derived.Test.YtgnkoffndhmhpaaGreatDoorRows
import Derived.Test.YtgnkoffndhmhpaaGreatDoorR1
import Derived.Test.YtgnkoffndhmhpaaGreatDoorR2
import Derived.Test.YtgnkoffndhmhpaaGreatDoorR3
import Derived.Test.YtgnkoffndhmhpaaGreatDoorR4
namespace Go.Proofs.YtgnkoffndhmhpaaGreatDoor
open Go.RowKit
set_option linter.unusedVariables false
theorem aJn:Tryz.prog.globalNamed "internal/strconv.uint64pow10" =some 0:=by kernel_rfl
structure Env (w:World):Prop where
 tab:Lib.TabIs Tryz.prog w "internal/strconv.uint64pow10" .u64 Lib.pow10Tab
theorem Env.ext {w w':World}(h:Env w)(hb:Ext w w'):Env w' where
 tab:=Joins.var_stays aJn h.tab hb (Nat.le_refl _)
abbrev aIi (k a b:Int):Value:= .agg #[k,a,b]
abbrev aD0:=Int×Int×Int
/-! ### slices of structs -/
theorem Rd.at {α:Type}{f:α→List Value}{w:World}{b off n cap sz:Nat}{xs:List α}(hf: ∀a,(f a).length=sz)(h:Rd w (.slice (some ⟨b,off,none⟩) n cap) n sz (xs.flatMap f)){k:Nat}{a:α}(hk:xs[k]? =some a) (hn:xs.length=n) (j:Nat) (hj:j<sz):
  w.cell? ⟨b,off+k*sz+j,none⟩=(f a)[j]? :=by
 rcases h.2 with⟨h1,_⟩|⟨b',off',cap',h1,_,_,_,h2⟩
 ·simp at h1
 ·simp only[Value.slice.injEq,Option.some.injEq,Addr.mk.injEq,and_true,true_and]at h1
  obtain⟨⟨rfl,rfl⟩,rfl⟩:=h1
  have hkn:k<n:=by rw[←hn];exact(List.getElem?_eq_some_iff.1 hk).1
  have hlt:k*sz+j<n*sz:=by
   have:(k+1)*sz≤n*sz:=Nat.mul_le_mul_right sz hkn
   rw[Nat.succ_mul]at this;omega
  rw[Nat.add_assoc,h2 _ hlt,dQ f sz hf xs k a hk j hj]
def kR (d:aD0):List Value:= [.int .i64 d.1,.int .i64 d.2.1,.int .i64 d.2.2]
abbrev RdDeeds (w:World)(v:Value)(ds:List aD0):Prop:=Rd w v ds.length 3 (ds.flatMap kR)
theorem RdDeeds.at {w:World}{b off n cap:Nat}{ds:List aD0}(h:Rd w (.slice (some ⟨b,off,none⟩) n cap) n 3 (ds.flatMap kR))(hn:ds.length=n){k:Nat}{d:aD0}(hk:ds[k]? =some d):
  w.cell? ⟨b,off+k*3,none⟩=some (.int .i64 d.1)∧w.cell? ⟨b,off+k*3+1,none⟩=some (.int .i64 d.2.1)∧w.cell? ⟨b,off+k*3+2,none⟩=some (.int .i64 d.2.2):=
 ⟨h.at (f:=kR) (fun _=>rfl) hk hn 0 (by omega),h.at (f:=kR) (fun _=>rfl) hk hn 1 (by omega),h.at (f:=kR) (fun _=>rfl) hk hn 2 (by omega)⟩
/-! ### the text -/
/-! ### a builder while the world grows -/
theorem Ext.gb {w w':World}(h:Ext w w'):w.grownBy w' none:=⟨h.os,h.tape,h.output,h.size,fun k hk _=>h.block k hk⟩
theorem bN {aA aB:Int}{xs:List Int}(h:aP aA aB xs=true):2≤aA∧aA≤4∧2≤aB∧aB≤3∧4≤xs.length∧xs.length≤12∧(xs.length:Int)=aA*aB∧(∀x∈xs,0≤x∧x≤99)∧(xs.filter (fun x=>decide (0<x))).Nodup:=by
 simp only[aP,Bool.and_eq_true]at h
 obtain⟨h1,h2,h3,h4,h5,h6,h7⟩:=bR h.1
 obtain⟨q1,_,q3⟩:=(eI _ _).1 h.2
 exact⟨h1,h2,h3,h4,h5,h6,h7,q1,q3⟩
set_option linter.unusedSimpArgs false
set_option maxHeartbeats 8000000
set_option maxRecDepth 100000
theorem tY (a b:Int)(w:World)(h0:0≤a)(h1:a≤1000)(h2:0≤b)(h3:b≤1000):Calls Tryz.prog 202 #[a,b] w fun e w'=>e= .returned (.int .i64 (mW a b))∧Ext w w':=by
 go_enter Tryz.func202,Tryz.ntmps202
 go_wp2
 go_ret
 exact⟨dL (by unfold mW;omega),by exact .refl _⟩
theorem yN (aA a b:Int)(w:World)(h0:0≤a)(h1:a≤100)(h2:0≤b)(h3:b≤100)(h4:2≤aA)(h5:aA≤4):Calls Tryz.prog 184 #[aA,a,b] w fun e w'=>e= .returned (.int .i64 (aZ aA a b))∧Ext w w':=by
 have q0: ¬(aA=0):=by omega
 have r1:a.tmod aA=a%aA:=IntWalk.rem_in _ _ h0
 have r2:b.tmod aA=b%aA:=IntWalk.rem_in _ _ h2
 have d1:IntKind.i64.wrap (a.tdiv aA)=a/aA:=IntWalk.i64_quo _ _ (by omega)
 have d2:IntKind.i64.wrap (b.tdiv aA)=b/aA:=IntWalk.i64_quo _ _ (by omega)
 have e1:=Int.emod_nonneg a q0
 have e2:=Int.emod_nonneg b q0
 have e3:=Int.emod_lt_of_pos a (show 0<aA by omega)
 have e4:=Int.emod_lt_of_pos b (show 0<aA by omega)
 have e5:=Int.ediv_nonneg h0 (show 0≤aA by omega)
 have e6:=Int.ediv_nonneg h2 (show 0≤aA by omega)
 have e7:=Int.ediv_le_self aA h0
 have e8:=Int.ediv_le_self aA h2
 have s1:IntKind.i64.wrap (mW (a%aA) (b%aA)+mW (a/aA) (b/aA))=aZ aA a b:=IntWalk.i64_in _ (by unfold mW;omega)
 go_enter Tryz.func184,Tryz.ntmps184
 go_wp2
 refine cS (gl [gEq (a:Int),gEq (aA:Int),gEq (a%aA:Int),gEq (b:Int),gEq (aA:Int),gEq (b%aA:Int),gEq (mW (a%aA) (b%aA):Int),gEq (a:Int),gEq (aA:Int),gEq (a/aA:Int),gEq (b:Int),gEq (aA:Int),gEq (b/aA:Int),gEq (mW (a/aA) (b/aA):Int),gEq (aZ aA a b:Int)]) 15 (by kernel_rfl) rfl (by kernel_rfl) (by kernel_rfl) (by kernel_rfl) (eG (aK (aH _) (aK (aH _) (aK (aH _) (aK (aH _) (aK (aH _) (aK (aH _) (aK (aH _) (aK (aH _) (aK (aH _) (aK (aH _) (aK (aH _) (aK (aH _) (aK (aH _) (aK (aH _) (aK (aH _) (fK))))))))))))))))) (k:=16) (by kernel_rfl) (by decide) (ls:= [(0,some 7),(1,some 8),(2,some 9),(3,some 10),(4,some 11),(5,some 12),(6,some 13),(7,some 14),(8,some 15),(9,some 16),(10,some 17),(11,some 18),(12,some 19),(13,some 20),(14,some 21)]) (by kernel_rfl) (ir:= [0,1,2,3,4,5,6,7,8,9,10,11,12,13,14]) (by kernel_rfl) ?steps (tl:=#[true,true,true,true,true,true,true,true,true,true,true,true,true,true,true,false]) (by kernel_rfl) ?fin
 case steps=>
  refine sC [] rfl (fun wi hx=> ?_) ?_
  ·intro K hK
   go_simp
   exact hK _ _ ⟨.int .i64 (a),rfl,rfl,Ext.refl _⟩
  refine sC [] rfl (fun wi hx=> ?_) ?_
  ·intro K hK
   go_simp
   exact hK _ _ ⟨.int .i64 (aA),rfl,rfl,Ext.refl _⟩
  refine sC [(0,some 7),(1,some 8)] rfl (fun wi hx=> ?_) ?_
  ·intro v0 h0 v1 h1 K hK
   obtain rfl:=h0
   obtain rfl:=h1
   go_simp
   exact hK _ _ ⟨.int .i64 (a%aA),rfl,rfl,Ext.refl _⟩
  refine sC [] rfl (fun wi hx=> ?_) ?_
  ·intro K hK
   go_simp
   exact hK _ _ ⟨.int .i64 (b),rfl,rfl,Ext.refl _⟩
  refine sC [] rfl (fun wi hx=> ?_) ?_
  ·intro K hK
   go_simp
   exact hK _ _ ⟨.int .i64 (aA),rfl,rfl,Ext.refl _⟩
  refine sC [(3,some 10),(4,some 11)] rfl (fun wi hx=> ?_) ?_
  ·intro v3 h3 v4 h4 K hK
   obtain rfl:=h3
   obtain rfl:=h4
   go_simp
   exact hK _ _ ⟨.int .i64 (b%aA),rfl,rfl,Ext.refl _⟩
  refine sC [(2,some 9),(5,some 12)] rfl (fun wi hx=> ?_) ?_
  ·intro v2 h2 v5 h5 K hK
   obtain rfl:=h2
   obtain rfl:=h5
   go_wp2_with fail
   refine(tY (a%aA) (b%aA) _ (by omega) (by omega) (by omega) (by omega)).mono ?_
   rintro e w2 ⟨rfl,hx2⟩
   go_simp
   exact hK _ _ ⟨.int .i64 (mW (a%aA) (b%aA)),rfl,rfl,hx2⟩
  refine sC [] rfl (fun wi hx=> ?_) ?_
  ·intro K hK
   go_simp
   exact hK _ _ ⟨.int .i64 (a),rfl,rfl,Ext.refl _⟩
  refine sC [] rfl (fun wi hx=> ?_) ?_
  ·intro K hK
   go_simp
   exact hK _ _ ⟨.int .i64 (aA),rfl,rfl,Ext.refl _⟩
  refine sC [(7,some 14),(8,some 15)] rfl (fun wi hx=> ?_) ?_
  ·intro v7 h7 v8 h8 K hK
   obtain rfl:=h7
   obtain rfl:=h8
   go_simp
   exact hK _ _ ⟨.int .i64 (a/aA),rfl,rfl,Ext.refl _⟩
  refine sC [] rfl (fun wi hx=> ?_) ?_
  ·intro K hK
   go_simp
   exact hK _ _ ⟨.int .i64 (b),rfl,rfl,Ext.refl _⟩
  refine sC [] rfl (fun wi hx=> ?_) ?_
  ·intro K hK
   go_simp
   exact hK _ _ ⟨.int .i64 (aA),rfl,rfl,Ext.refl _⟩
  refine sC [(10,some 17),(11,some 18)] rfl (fun wi hx=> ?_) ?_
  ·intro v10 h10 v11 h11 K hK
   obtain rfl:=h10
   obtain rfl:=h11
   go_simp
   exact hK _ _ ⟨.int .i64 (b/aA),rfl,rfl,Ext.refl _⟩
  refine sC [(9,some 16),(12,some 19)] rfl (fun wi hx=> ?_) ?_
  ·intro v9 h9 v12 h12 K hK
   obtain rfl:=h9
   obtain rfl:=h12
   go_wp2_with fail
   refine(tY (a/aA) (b/aA) _ (by omega) (by omega) (by omega) (by omega)).mono ?_
   rintro e w2 ⟨rfl,hx2⟩
   go_simp
   exact hK _ _ ⟨.int .i64 (mW (a/aA) (b/aA)),rfl,rfl,hx2⟩
  refine sC [(6,some 13),(13,some 20)] rfl (fun wi hx=> ?_) StepsL.nil
  ·intro v6 h6 v13 h13 K hK
   obtain rfl:=h6
   obtain rfl:=h13
   go_simp
   exact hK _ _ ⟨.int .i64 (aZ aA a b),rfl,rfl,Ext.refl _⟩
 case fin=>
  intro wi hx v0 h0 v1 h1 v2 h2 v3 h3 v4 h4 v5 h5 v6 h6 v7 h7 v8 h8 v9 h9 v10 h10 v11 h11 v12 h12 v13 h13 v14 h14
  obtain rfl:=h0
  obtain rfl:=h1
  obtain rfl:=h2
  obtain rfl:=h3
  obtain rfl:=h4
  obtain rfl:=h5
  obtain rfl:=h6
  obtain rfl:=h7
  obtain rfl:=h8
  obtain rfl:=h9
  obtain rfl:=h10
  obtain rfl:=h11
  obtain rfl:=h12
  obtain rfl:=h13
  obtain rfl:=h14
  refine wpAny_ready (rs:= [15]) (by kernel_rfl) (by simp) ?_
  refine AllReady.cons rfl (fun K hK=> ?_) AllReady.nil
  go_simp
  refine hK _ _ ?_
  clear hK K
  refine wpAny_done (by kernel_rfl) ?_ _
  go_wp2
  go_ret
  exact⟨rfl,by exact .trans (.drew (.refl _)) hx⟩
theorem oF (n lo hi:Int)(w:World):Calls Tryz.prog 77 #[n,lo,hi] w fun e w'=>e= .returned (.bool (decide (lo≤n∧n≤hi)))∧w=w':=by
 by_cases h:lo≤n∧n≤hi
 ·rw[decide_eq_true h];exact kO n lo hi w h.1 h.2
 ·rw[decide_eq_false h];exact qU n lo hi w (by omega)
def cX (aA aB:Int)(xs:List Int)(a b:Int):Int:=if aP aA aB xs=true∧(0≤a∧a<xs.length)∧0≤b∧b<xs.length then aZ aA a b else -1
theorem aAs (aA aB a b:Int)(p:OA)(n cap:Nat)(w:World)(HV:xB 90 #[aI aA aB p n cap] w false):
  Calls Tryz.prog 159 #[aI aA aB p n cap,a,b] w fun e w'=>e= .returned (.int .i64 (-1))∧Ext w w':=by
 go_enter Tryz.func159,Tryz.ntmps159
 go_wp2_with fail
 refine(HV.out _ (by exact .alloc (.refl _) _)).mono ?_
 rintro e w1 ⟨rfl,hh1⟩
 have B1:=xQ ((Blk.new w 31 #[aA,aB,.slice p n cap]).ext hh1)
 have X1:Ext w w1:=by exact .trans (.alloc (.refl _) _) hh1
 have z1:w.heap.size<w1.heap.size:=B1.out.lt
 clear hh1
 obtain⟨c0,c1,c2⟩:=(B1.out).tri
 go_wp2
 go_ret
 exact⟨rfl,by exact X1⟩
theorem aFl (aA aB a b:Int)(p:OA)(n cap:Nat)(ba bb:Bool)(R:Int)(w:World)(hn0:4≤n)(hn:n≤12)(HV:xB 90 #[aI aA aB p n cap] w true)
  (HA:Hid (∀w,Calls Tryz.prog 77 #[a,(),((n:Int)-1:Int)] w fun e w'=>e= .returned (.bool ba)∧w=w'))
  (HB:Hid (∀w,Calls Tryz.prog 77 #[b,(),((n:Int)-1:Int)] w fun e w'=>e= .returned (.bool bb)∧w=w'))
  (HP:Hid (ba=true→bb=true→ ∀w,Calls Tryz.prog 184 #[aA,a,b] w fun e w'=>e= .returned (.int .i64 R)∧Ext w w')):
  Calls Tryz.prog 159 #[aI aA aB p n cap,a,b] w fun e w'=>e= .returned (.int .i64 (if ba&&bb then R else -1))∧Ext w w':=by
 go_enter Tryz.func159,Tryz.ntmps159
 go_wp2_with fail
 refine(HV.out _ (by exact .alloc (.refl _) _)).mono ?_
 rintro e w1 ⟨rfl,hh1⟩
 have B1:=xQ ((Blk.new w 31 #[aA,aB,.slice p n cap]).ext hh1)
 have X1:Ext w w1:=by exact .trans (.alloc (.refl _) _) hh1
 have z1:w.heap.size<w1.heap.size:=B1.out.lt
 clear hh1
 obtain⟨c0,c1,c2⟩:=(B1.out).tri
 cases ba
 ·go_wp2_with ((go_at_call 77;(with_reducible refine(HA.out _).mono ?_);rintro e w' ⟨rfl,rfl⟩))
  go_ret
  exact⟨rfl,by exact X1⟩
 ·cases bb
  ·go_wp2_with fail
   refine(HA.out _).mono ?_
   rintro e w' ⟨rfl,rfl⟩
   go_wp2_with fail
   refine(HB.out _).mono ?_
   rintro e w' ⟨rfl,rfl⟩
   go_wp2
   go_ret
   exact⟨rfl,by exact X1⟩
  ·go_wp2_with fail
   refine(HA.out _).mono ?_
   rintro e w' ⟨rfl,rfl⟩
   go_wp2_with fail
   refine(HB.out _).mono ?_
   rintro e w' ⟨rfl,rfl⟩
   go_wp2_with fail
   refine(HP.out (by simp) (by simp) _).mono ?_
   rintro e w' ⟨rfl,hp⟩
   go_wp2
   go_ret
   exact⟨rfl,by exact .trans X1 hp⟩
theorem vH (aA aB a b:Int)(p:OA)(n cap:Nat)(xs:List Int)(w:World)(hS:Sl w p n cap 1 (ivs xs)):
  Calls Tryz.prog 159 #[aI aA aB p n cap,a,b] w fun e w'=>e= .returned (.int .i64 (cX aA aB xs a b))∧Ext w w':=by
 have hl:=hS.ilen
 have HV:=fun(w':World) (hx:Ext w w')=>fV aA aB p n cap xs w' (hS.ext hx)
 unfold cX
 cases hok:aP aA aB xs with
 |false=>rw[hok]at HV;simpa using aAs aA aB a b p n cap w HV
 |true=>
  rw[hok]at HV
  obtain⟨g1,g2,g3,g4,g5,g6,g7,g8,g9⟩:=bN hok
  have:=aFl aA aB a b p n cap (decide (0≤a∧a≤(n:Int)-1)) (decide (0≤b∧b≤(n:Int)-1)) (aZ aA a b) w (by omega) (by omega) HV (fun w=>oF _ _ _ w) (fun w=>oF _ _ _ w)
   (fun h1 h2 w=>by simp at h1 h2;exact yN aA a b w h1.1 (by omega) h2.1 (by omega) (by omega) (by omega))
  refine this.mono fun e w' ⟨he,hx⟩=>⟨?_,hx⟩
  rw[he]
  apply dL
  have e1:(decide (0≤a∧a≤(n:Int)-1)&&decide (0≤b∧b≤(n:Int)-1))=decide ((0≤a∧a<xs.length)∧0≤b∧b<xs.length):=by
   rw[Bool.eq_iff_iff];simp;omega
  rw[e1]
  by_cases h:(0≤a∧a<xs.length)∧0≤b∧b<xs.length
  ·rw[decide_eq_true h,if_pos rfl,if_pos ⟨rfl,h⟩]
  ·rw[decide_eq_false h,if_neg (by simp),if_neg (fun hh=>h hh.2)]
abbrev TH3:TypeId:=31
theorem Blk.cells3 {w:World}{g:Nat}{t:TypeId}{a b c:Value}(h:Blk w g t #[a,b,c]):w.cell? ⟨g,0,none⟩=some a∧w.cell? ⟨g,1,none⟩=some b∧w.cell? ⟨g,2,none⟩=some c:=⟨h.cell 0,h.cell 1,h.cell 2⟩
theorem oS {wr w2:World}{B n:Nat}{v:Value}{xs:List Value}{ob:Obj}{t e:TypeId}{sz:Nat}{cs:Array Value}(ho:wr.ownsRow (B+1) e sz v n xs)(hg:(wr.alloc ob).grownBy w2 v.ownBlock)(h:Blk wr B t cs):Blk w2 B t cs:=
 (h.alloc ob).grown hg (fun hh=>by have:=ho.lt B hh.symm;omega)
def iC (aA:Int)(n:Nat)(a:Int):List Int:=eL (fun b=>decide (aZ aA a b=1)) n
theorem aFk (aA aB cell:Int)(p:OA)(n cap:Nat)(w:World)(hn:n≤12)
  (HC:Hid (∀(k:Nat),k<n→ ∀w',Ext w w'→Calls Tryz.prog 159 #[aI aA aB p n cap,cell,k] w' fun e w''=>e= .returned (.int .i64 (aZ aA cell k))∧Ext w' w'')):
  Calls Tryz.prog 201 #[aI aA aB p n cap,cell] w (aY (iC aA n cell) w):=by
 go_enter Tryz.func201,Tryz.ntmps201
 go_wp2
 go_loopw [5,6] (fun v i wr=> ∃(k:Nat) (q:OA) (m c:Nat),k≤n∧i= .int .i64 k∧v= .slice q m c∧m≤k∧wr.ownsRow (w.heap.size+1) TI 1 (.slice q m c) m (ivs (eL (fun b=>decide (aZ aA cell b=1)) k))∧Ext w wr∧Blk wr w.heap.size TH3 #[aA,aB,.slice p n cap]) (fun _ i _=>n-(intOf i).toNat)
 case atStart=>
  refine⟨0,_,0,0,Nat.zero_le _,rfl,rfl,Nat.le_refl _,?_,by exact .alloc (.alloc (.refl _) _) _,(Blk.new w _ _).alloc _⟩
  have ho:((w.alloc (.cells #[aA,aB,.slice p n cap] TH3)).alloc (.cells #[] TI)).ownsRow (w.heap.size+1) TI 1 (.slice (some ⟨(w.alloc (.cells #[aA,aB,.slice p n cap] TH3)).heap.size,0,none⟩) 0 0) 0 []:=World.ownsRow_made _ #[] 0 (by simp) (by simp[maxLen]) rfl
  simpa[eL]using ho
 case round=>
  obtain⟨k,q,m,c,hk,rfl,rfl,hmk,hown,hEw,hB⟩:=hrel
  have HO:=xQ hown
  have HB:=xQ hB
  have hsz:w.heap.size<wr.heap.size:=hB.lt
  clear hown hB
  obtain⟨b0,b1,b2⟩:=HB.out.cells3
  by_cases hlt:k<n
  ·go_wp2_with fail
   refine(HC.out k hlt _ hEw).mono ?_
   rintro e w1 ⟨rfl,h1⟩
   have HO1:=xQ (bB HO.out h1)
   have HB1:=xQ (HB.out.ext h1)
   have hEw1:=xQ (hEw.trans h1)
   have hsz1:w.heap.size<w1.heap.size:=HB1.out.lt
   clear h1 b0 b1 b2 HO HB hEw
   by_cases hx0:aZ aA cell k=1
   ·have t0:(aZ aA cell k==1)=true:=by simp[hx0]
    have hfin:Hid (eL (fun b=>decide (aZ aA cell b=1)) (k+1)=eL (fun b=>decide (aZ aA cell b=1)) k++ [(k:Int)]):=by
     show _=_;rw[eL,if_pos (by simpa using hx0)]
    clear hx0
    go_wp2_with (at_builtin;refine cA eP rfl _ _ rfl (w.heap.size+1) _ _ _ rfl (HO1.out.alloc _) _ _ (k:Int) _ rfl (by simp) (by omega) (by first|(simp;done)|(simp;omega)) ?_;intro p' cap' w2 hown1 hg1;have HO2:=xQ hown1;have hE1:Ext w w2:=Ext.own (hEw1.out.alloc _) (HO1.out.alloc _) hg1 (by omega);have HB2:=xQ (oS HO1.out hg1 HB1.out);clear hown1 hg1)
    go_roundw
    case rel=>exact⟨k+1,p',m+1,cap',by omega,by go_num,rfl,by omega,by rw[hfin.out];exact HO2.out,hE1,HB2.out⟩
    case measure=>simp[intOf];omega
   ·have t0:(aZ aA cell k==1)=false:=by simp[hx0]
    have hfin:Hid (eL (fun b=>decide (aZ aA cell b=1)) (k+1)=eL (fun b=>decide (aZ aA cell b=1)) k):=by
     show _=_;rw[eL,if_neg (by simpa using hx0),List.append_nil]
    clear hx0
    go_wp2
    go_roundw
    case rel=>exact⟨k+1,q,m,c,by omega,by go_num,rfl,by omega,by rw[hfin.out];exact HO1.out,hEw1.out,HB1.out⟩
    case measure=>simp[intOf];omega
  ·have hfin:Hid (eL (fun b=>decide (aZ aA cell b=1)) k=iC aA n cell):=by
    show _=_;unfold iC;rw[show k=n by omega]
   go_wp2
   go_ret
   exact cQ (by rw[←hfin.out];have:=HO.out.1;simpa using this) (by rw[←hfin.out];exact bG HO.out (Nat.le_succ _)) hEw
theorem aAr (aA aB cell:Int)(p:OA)(n cap:Nat)(xs:List Int)(w:World)(hS:Sl w p n cap 1 (ivs xs))(hok:aP aA aB xs=true)(h0:0≤cell)(h1:cell<n):
  Calls Tryz.prog 201 #[aI aA aB p n cap,cell] w (aY (iC aA n cell) w):=by
 have hl:=hS.ilen
 obtain⟨g1,g2,g3,g4,g5,g6,g7,g8,g9⟩:=bN hok
 refine aFk aA aB cell p n cap w (by omega) (fun k hk w' hx=> ?_)
 have:=vH aA aB cell k p n cap xs w' (hS.ext hx)
 unfold cX at this
 rwa[if_pos ⟨hok,by omega,by omega⟩]at this
def uC (x:Int):Nat→List Int→Int
 |_,[]=> -1
 |b,y::ys=>if y=x then(b:Int)else uC x (b+1) ys
def mV (xs:List Int)(x:Int):Int:=uC x 0 xs
theorem aGr {x:Int}: ∀(xs:List Int) (k b:Nat),xs[k]? =some x→x∉xs.take k→uC x b xs=((b+k:Nat):Int):=by
 intro xs
 induction xs with
 |nil=>intro k b h;simp at h
 |cons y ys ih=>
  intro k b h hn
  unfold uC
  cases k with
  |zero=>simp at h;rw[if_pos h];rfl
  |succ k=>
   simp only[List.getElem?_cons_succ]at h
   simp only[List.take_succ_cons,List.mem_cons,not_or]at hn
   rw[if_neg (fun e=>hn.1 e.symm),ih k (b+1) h hn.2]
   congr 1;omega
theorem aBu {x:Int}: ∀(xs:List Int) (b:Nat),x∉xs→uC x b xs= -1:=by
 intro xs
 induction xs with
 |nil=>intro b _;rfl
 |cons y ys ih=>
  intro b hn
  simp only[List.mem_cons,not_or]at hn
  unfold uC
  rw[if_neg (fun e=>hn.1 e.symm),ih _ hn.2]
theorem oI {xs:List Int}{x:Int}{k:Nat}(h:xs[k]? =some x) (hn:x∉xs.take k):mV xs x=k:=by
 unfold mV;rw[aGr xs k 0 h hn];simp
theorem pL {xs:List Int}{x:Int}(h:x∉xs):mV xs x= -1:=aBu xs 0 h
def fX (aA aB:Int)(xs:List Int)(id:Int):Int:=if aP aA aB xs=true∧1≤id then mV xs id else -1
theorem sV (aA aB id:Int)(p:OA)(n cap:Nat)(b:Bool)(w:World)(hb:b=false∨b=true∧id<1)(HV:xB 90 #[aI aA aB p n cap] w b):
  Calls Tryz.prog 156 #[aI aA aB p n cap,id] w fun e w'=>e= .returned (.int .i64 (-1))∧Ext w w':=by
 rcases hb with rfl|⟨rfl,hi⟩
 all_goals
  go_enter Tryz.func156,Tryz.ntmps156
  go_wp2_with fail
  refine(HV.out _ (by exact .alloc (.refl _) _)).mono ?_
  rintro e w1 ⟨rfl,hh1⟩
  go_wp2
  go_ret
  exact⟨rfl,by exact .trans (.alloc (.refl _) _) hh1⟩
theorem vD (aA aB id:Int)(p:OA)(n cap:Nat)(xs:List Int)(w:World)(hn:n≤12)(hi:1≤id)(HS:Hid (Sl w p n cap 1 (ivs xs)))(HV:xB 90 #[aI aA aB p n cap] w true):
  Calls Tryz.prog 156 #[aI aA aB p n cap,id] w fun e w'=>e= .returned (.int .i64 (mV xs id))∧Ext w w':=by
 have hl:=xQ HS.out.ilen
 go_enter Tryz.func156,Tryz.ntmps156
 go_wp2_with fail
 refine(HV.out _ (by exact .alloc (.refl _) _)).mono ?_
 rintro e w1 ⟨rfl,hh1⟩
 have hB:=(Blk.new w TH3 #[aA,aB,.slice p n cap]).ext hh1
 have X1:=xQ (show Ext w w1 by exact .trans (.alloc (.refl _) _) hh1)
 have HS1:=xQ (HS.out.ext X1.out)
 obtain⟨b0,b1,b2⟩:=hB.cells3
 have hsz:w.heap.size<w1.heap.size:=hB.lt
 clear hh1 hB HS
 go_wp2
 go_loop [5] (fun i=> ∃k:Nat,k≤n∧i= .int .i64 k∧id∉xs.take k) (fun i=>n-(intOf i).toNat)
 case atStart=>exact⟨0,Nat.zero_le _,rfl,by simp⟩
 case round=>
  obtain⟨k,hk,rfl,hc⟩:=hrel
  have HC:=xQ hc
  clear hc
  by_cases hlt:k<n
  ·obtain⟨b,off,y,rfl,hx,hb,hcell⟩:=HS1.out.int_at hlt
   have HX:=xQ hx
   clear hx
   by_cases hy:y=id
   ·have t1:(y==id)=true:=by simp[hy]
    have hfin:Hid (mV xs id=k):=oI (by rw[HX.out,hy]) HC.out
    clear hy
    go_wp2
    go_ret
    exact⟨dL hfin.out.symm,X1.out⟩
   ·have t1:(y==id)=false:=by simp[hy]
    have hfin:Hid (id∉xs.take (k+1)):=by
     show _∉_
     rw[bF HX.out,List.mem_append,List.mem_singleton]
     exact fun h=>h.elim HC.out (fun e=>hy e.symm)
    clear hy
    go_wp2
    go_round
    case rel=>exact⟨k+1,by omega,by go_num,hfin.out⟩
    case measure=>simp[intOf];omega
  ·have hfin:Hid (mV xs id= -1):=pL (by have:=HC.out;rwa[List.take_of_length_le (by rw[hl.out];omega)]at this)
   go_wp2
   go_ret
   exact⟨dL hfin.out.symm,X1.out⟩
theorem pB (aA aB id:Int)(p:OA)(n cap:Nat)(xs:List Int)(w:World)(hS:Sl w p n cap 1 (ivs xs)):
  Calls Tryz.prog 156 #[aI aA aB p n cap,id] w fun e w'=>e= .returned (.int .i64 (fX aA aB xs id))∧Ext w w':=by
 have hl:=hS.ilen
 have HV:=fun(w':World) (hx:Ext w w')=>fV aA aB p n cap xs w' (hS.ext hx)
 unfold fX
 by_cases h:aP aA aB xs=true∧1≤id
 ·rw[if_pos h]
  rw[h.1]at HV
  obtain⟨g1,g2,g3,g4,g5,g6,g7,g8,g9⟩:=bN h.1
  exact vD aA aB id p n cap xs w (by omega) h.2 hS HV
 ·rw[if_neg h]
  exact sV aA aB id p n cap _ w (by cases hh:aP aA aB xs with
   |false=>exact .inl rfl
   |true=>exact .inr ⟨rfl,by have: ¬1≤id:=fun k=>h ⟨hh,k⟩;omega⟩) HV
end Go.Proofs.YtgnkoffndhmhpaaGreatDoor
namespace Go.Proofs.YtgnkoffndhmhpaaGreatDoor
open Go.RowKit
set_option linter.unusedVariables false
theorem nQ {w:World}{g:Nat}{cur:Array Value}{e:TypeId}(hg:w.heap[g]? =some (.cells cur e (0,0))):Ext w (w.setRow g cur):=
 ⟨rfl,rfl,rfl,by simp[World.setRow],fun k hk=>by
  by_cases h:k=g
  ·subst h;rw[setRow_heap w k cur cur e _ hg,hg]
  ·exact setRow_other w g k _ h⟩
section
variable {P:Program} (w:World)
theorem qR {t e ty:TypeId}{sz:Nat}(E:ElT P t e sz)(base g n:Nat)(cs:Array Value)(hB:Blk w g e cs)(hb:base≤g)(hcs:cs.size=n*sz)(p:OA)(m c:Nat)(news:List Value)(hs:Sl w p m c sz news)
  (h1: ∀u∈news,u.oneCell'=true)(hn:n+m≤1099511627776):
  ∃p' cap' w',(Builtin.append_ #[t,t] ty #[.slice (some ⟨g,0,none⟩) n n,.slice p m c]).run P w= .ok (.slice p' (n+m) cap') w'∧w'.ownsRow base e sz (.slice p' (n+m) cap') (n+m) (cs.toList++news)∧Ext w w':=by
 obtain⟨i,z,hi,hz,hsz,hby,hzs⟩:=E.info
 have hown:w.ownsRow base e sz (.slice (some ⟨g,0,none⟩) n n) n cs.toList:=⟨by simpa using hcs,.inr ⟨g,n,cs,rfl,hb,hB,Nat.le_refl _,by unfold maxLen;omega,hcs,by rw[List.take_of_length_le (by simp;omega)]⟩⟩
 by_cases hm:m=0
 ·subst hm
  have hnews:news= []:=List.eq_nil_of_length_eq_zero (by simpa using hs.len)
  subst hnews
  cases p with
  |none=>
   refine⟨some ⟨g,0,none⟩,n,w,?_,by simpa using hown,Ext.refl w⟩
   simp[Builtin.append_,run_underlying E.ht,sizeOf,typeInfo,hi,Builtin.lenOf,Builtin.firstCells,storeCells]
  |some ad=>
   have hr:=run_append_room (P:=P) w t ty e i E.ht hi g n n cs hB ad 0 c [] (by simp) (by simp) (by simp) (by omega) (by rw[hcs,hsz];simp)
   have e1:(List.take (n*i.size) cs.toList++ []++List.drop (n*i.size+([]:List Value).length) cs.toList).toArray=cs:=by simp
   rw[e1]at hr
   refine⟨some ⟨g,0,none⟩,n,w.setRow g cs,hr,?_,nQ hB⟩
   have h2:=hown.kept (w':=w.setRow g cs) (row:=none) ⟨rfl,rfl,rfl,(nQ hB).sz,fun k hk _=>(nQ hB).block k hk⟩ (by simp[Value.ownBlock])
   simpa using h2
 ·obtain⟨b,off,rfl,_,hc⟩:=hs.rd (by omega)
  have hcells: ∀j u,news[j]? =some u→w.cell? ((⟨b,off,none⟩:Addr).add j)=some u:=by
   intro j u hu
   rw[jS,hc j (by rw[←hs.len];exact(List.getElem?_eq_some_iff.1 hu).1)]
   exact hu
  have hbb:(n+m)*i.bytes≤140737488355328:=by
   have:(n+m)*i.bytes≤(n+m)*64:=Nat.mul_le_mul_left _ hby
   omega
  have holds: ∀j u,cs.toList[j]? =some u→w.cell? ((⟨g,0,none⟩:Addr).add j)=some u:=hown.cells (g:=g) rfl
  have hr:=run_append_grow (P:=P) w t ty e i z E.ht hi hz ⟨g,0,none⟩ n n cs.toList (by simpa[hsz]using hcs) holds ⟨b,off,none⟩ m c news (by rw[hsz];exact hs.len) hcells (by omega) (by omega) (growslice_fits (by omega) hbb)
  have hge:=grownCap_ge w (n+m) n e
  have hcm:grownCap w (n+m) n e≤maxLen:=grownCap_le_maxLen w (n+m) n e (by unfold maxLen;omega)
  have hlen:(cs.toList++news).length=(n+m)*sz:=by rw[List.length_append,hs.len,Nat.add_mul];simp[hcs]
  refine⟨_,_,_,hr,⟨hlen,.inr ⟨w.heap.size,_,_,rfl,?_,heap_alloc_new w.drew _,hge,hcm,?_,?_⟩⟩,(Ext.refl w).drew.alloc _⟩
  ·have:=hB.lt;omega
  ·simp only[Array.size_append,List.size_toArray,size_zeroCells,hzs,hs.len,hcs,←Nat.add_mul]
   congr 1
   omega
  ·simp only[Array.toList_append,List.append_assoc]
   rw[←List.append_assoc,←hlen]
   exact List.take_left
theorem qY {o:Oper}{a:Act}{K:Act→World→Prop}{Q:Exit→Act→World→Prop}{t e:TypeId}{sz:Nat}(E:ElT P t e sz)(s x:Operand)
  (ho:o.op= .call {callee:= .builtin .append,args:=#[s,x],argTypes:=#[t,t]})
  (base g n:Nat)(cs:Array Value)(hs:a.eval s= .slice (some ⟨g,0,none⟩) n n)(hB:Blk w g e cs)(hb:base≤g)(hcs:cs.size=n*sz)
  (p:OA)(m c:Nat)(news:List Value)(hx:a.eval x= .slice p m c)(hr:Sl w p m c sz news)(h1: ∀u∈news,u.oneCell'=true)
  (hn:n+m≤1099511627776)
  (h: ∀p' cap' w',w'.ownsRow base e sz (.slice p' (n+m) cap') (n+m) (cs.toList++news)→Ext w w'→K (a.put o.dst (.slice p' (n+m) cap')) w'):o.wp P a w K Q:=by
 obtain⟨p',cap',w',hrun,h2,h3⟩:=qR (ty:=o.type) w E base g n cs hB hb hcs p m c news hr h1 hn
 unfold Oper.wp execOp
 simp only[ho,resolve,invoke,builtin,Sem.run_bind,Sem.run_pure,Result.andThen_ok,List.map_toArray,List.map_cons,List.map_nil,hs,hx,hrun]
 exact h p' cap' w' h2 h3
theorem oZ {ops:Array Oper}{i:Nat}{o:Oper}{a:Act}{G:Nat→Value→World→Prop}{t e:TypeId}{sz:Nat}(E:ElT P t e sz)(hgd:o.guard=none)(s x:Operand)
  (ho:o.op= .call {callee:= .builtin .append,args:=#[s,x],argTypes:=#[t,t]})
  (base g n:Nat)(cs:Array Value)(hs:a.eval s= .slice (some ⟨g,0,none⟩) n n)(hB:Blk w g e cs)(hb:base≤g)(hcs:cs.size=n*sz)
  (p:OA)(m c:Nat)(news:List Value)(hx:a.eval x= .slice p m c)(hr:Sl w p m c sz news)(h1: ∀u∈news,u.oneCell'=true)
  (hn:n+m≤1099511627776)(h: ∀p' cap' w',w'.ownsRow base e sz (.slice p' (n+m) cap') (n+m) (cs.toList++news)→G i (.slice p' (n+m) cap') w'):
  sS P ops G Ext i o w a:=by
 intro K hK
 have hw:Region.wanted o (yielded ops a.tmps)=true:=by simp[Region.wanted,hgd]
 rw[if_pos hw]
 exact qY w E s x ho base g n cs hs hB hb hcs p m c news hx hr h1 hn (fun p' cap' w' h2 h3=>hK _ _ ⟨_,rfl,h p' cap' w' h2,h3⟩)
end
end Go.Proofs.YtgnkoffndhmhpaaGreatDoor
namespace Go.Proofs.YtgnkoffndhmhpaaGreatDoor
open Go.RowKit
set_option linter.unusedVariables false
set_option linter.unusedSimpArgs false
set_option maxHeartbeats 8000000
set_option maxRecDepth 100000
theorem cY {w:World}{B n:Nat}{q:OA}{cap:Nat}{xs:List Value}{g:Nat}{t:TypeId}{cs:Array Value}(ho:w.ownsRow B TI 1 (.slice q n cap) n xs)(hb:Blk w g t cs)(ht:t≠TI):(Value.slice q n cap).ownBlock≠some g:=by
 intro he
 rcases ho.2 with⟨h1,h2⟩|⟨g',cap',cur,h1,hb',hg,hn,hm,hs,ht'⟩
 ·injection h1 with e1;subst e1;simp[Value.ownBlock]at he
 ·injection h1 with e1 e2 e3
  subst e1
  simp[Value.ownBlock]at he
  subst he
  unfold Blk at hb
  rw[hb]at hg
  injection hg with e;injection e with e1 e2
  exact ht e2
theorem eU (aA aB:Int)(p:OA)(n cap:Nat)(xs:List Int)(w:World)(hn:n≤1099511627776)(hS:Sl w p n cap 1 (ivs xs)):
  Calls Tryz.prog 104 #[aI aA aB p n cap] w (dF aA aB xs w):=by
 have hl:=xQ hS.ilen
 have HS:=xQ hS
 clear hS
 go_enter Tryz.func104,Tryz.ntmps104
 go_wp2
 refine cS (gl [gEq (.pointer (some ⟨w.heap.size,0,none⟩)),gEq aA,gEq (.pointer (some ⟨w.heap.size,1,none⟩)),gEq aB,aJh (w.heap.size+2) TI #[] 0,gEq (.pointer (some ⟨w.heap.size,2,none⟩)),gEq (.slice p n cap),(fun v w'=> ∃q c,v= .slice q n c∧w'.ownsRow (w.heap.size+2) TI 1 (.slice q n c) n (ivs xs)),(fun v w'=> ∃q c,v=aI aA aB q n c∧w'.ownsRow (w.heap.size+2) TI 1 (.slice q n c) n (ivs xs))]) 9 (by kernel_rfl) rfl (by kernel_rfl) (by kernel_rfl) (by kernel_rfl) (eG (aK (aH _) (aK (aH _) (aK (aH _) (aK (aH _) (aK (aEj _ _ _ _) (aK (aH _) (aK (aH _) (aK (fun v w w' ⟨q,c,he,ho⟩ hx=>⟨q,c,he,bB ho hx⟩) (aK (fun v w w' ⟨q,c,he,ho⟩ hx=>⟨q,c,he,bB ho hx⟩) (fK))))))))))) (k:=10) (by kernel_rfl) (by decide) (ls:= [(0,some 3),(1,some 4),(2,some 5),(3,some 6),(4,some 7),(5,some 8),(6,some 9),(7,some 10),(8,some 11)]) (by kernel_rfl) (ir:= [0,1,2,3,4,5,6,7,8]) (by kernel_rfl) ?steps (tl:=#[true,true,true,true,true,true,true,true,true,false]) (by kernel_rfl) ?fin
 case steps=>
  refine sC [] rfl (fun wi hx=> ?_) ?_
  ·intro K hK
   go_simp
   exact hK _ _ ⟨.pointer (some ⟨w.heap.size,0,none⟩),rfl,rfl,Ext.refl _⟩
  refine sC [(0,some 3)] rfl (fun wi hx=> ?_) ?_
  ·intro v0 h0 K hK
   obtain rfl:=h0
   have B:=(Blk.new w TH3 #[aA,aB,.slice p n cap]).ext (by exact .trans (.drew (.alloc (.refl _) _)) hx:Ext (w.alloc (.cells #[aA,aB,.slice p n cap] TH3)) wi)
   have c0:wi.cell? ⟨w.heap.size,0,none⟩=some (.int .i64 aA):=B.cell 0
   go_simp
   exact hK _ _ ⟨.int .i64 aA,rfl,rfl,Ext.refl _⟩
  refine sC [] rfl (fun wi hx=> ?_) ?_
  ·intro K hK
   go_simp
   exact hK _ _ ⟨.pointer (some ⟨w.heap.size,1,none⟩),rfl,rfl,Ext.refl _⟩
  refine sC [(2,some 5)] rfl (fun wi hx=> ?_) ?_
  ·intro v2 h2 K hK
   obtain rfl:=h2
   have B:=(Blk.new w TH3 #[aA,aB,.slice p n cap]).ext (by exact .trans (.drew (.alloc (.refl _) _)) hx:Ext (w.alloc (.cells #[aA,aB,.slice p n cap] TH3)) wi)
   have c1:wi.cell? ⟨w.heap.size,1,none⟩=some (.int .i64 aB):=B.cell 1
   go_simp
   exact hK _ _ ⟨.int .i64 aB,rfl,rfl,Ext.refl _⟩
  refine sC [] rfl (fun wi hx=> ?_) ?_
  ·intro K hK
   go_simp
   exact hK _ _ ⟨.slice (some ⟨wi.heap.size,0,none⟩) 0 0,rfl,⟨wi.heap.size,rfl,by have:=hx.sz;simp at this;omega,Blk.new _ _ _⟩,(Ext.refl _).alloc _⟩
  refine sC [] rfl (fun wi hx=> ?_) ?_
  ·intro K hK
   go_simp
   exact hK _ _ ⟨.pointer (some ⟨w.heap.size,2,none⟩),rfl,rfl,Ext.refl _⟩
  refine sC [(5,some 8)] rfl (fun wi hx=> ?_) ?_
  ·intro v5 h5 K hK
   obtain rfl:=h5
   have B:=(Blk.new w TH3 #[aA,aB,.slice p n cap]).ext (by exact .trans (.drew (.alloc (.refl _) _)) hx:Ext (w.alloc (.cells #[aA,aB,.slice p n cap] TH3)) wi)
   have c2:wi.cell? ⟨w.heap.size,2,none⟩=some (.slice p n cap):=B.cell 2
   go_simp
   exact hK _ _ ⟨.slice p n cap,rfl,rfl,Ext.refl _⟩
  refine sC [(4,some 7),(6,some 9)] rfl (fun wi hx=> ?_) ?_
  ·intro v4 h4 v6 h6
   obtain⟨g4,rfl,hg4,B4⟩:=h4
   obtain rfl:=h6
   refine oZ _ eP rfl (.tmp 7) (.tmp 9) rfl (w.heap.size+2) g4 0 #[] rfl B4 hg4 (by simp) p n cap (ivs xs) rfl (HS.out.ext (Ext.trans (by exact .drew (.alloc (.alloc (.refl _) _) _)) hx)) (mP _) (by omega) (fun p' cap' w' h2=>⟨p',cap',by rw[Nat.zero_add],by simpa using h2⟩)
  refine sC [(1,some 4),(3,some 6),(7,some 10)] rfl (fun wi hx=> ?_) StepsL.nil
  ·intro v1 h1 v3 h3 v7 h7 K hK
   obtain rfl:=h1
   obtain rfl:=h3
   obtain⟨q7,c7,rfl,ho7⟩:=h7
   go_simp
   exact hK _ _ ⟨aI aA aB q7 n c7,rfl,⟨q7,c7,rfl,ho7⟩,Ext.refl _⟩
 case fin=>
  intro wi hx v0 h0 v1 h1 v2 h2 v3 h3 v4 h4 v5 h5 v6 h6 v7 h7 v8 h8
  obtain rfl:=h0
  obtain rfl:=h1
  obtain rfl:=h2
  obtain rfl:=h3
  obtain⟨g4,rfl,hg4,B4⟩:=h4
  obtain rfl:=h5
  obtain rfl:=h6
  obtain⟨q7,c7,rfl,ho7⟩:=h7
  obtain⟨q8,c8,rfl,ho8⟩:=h8
  have BZ:Blk wi (w.heap.size+1) TH3 #[(),(),((),())]:=by have:=(Blk.new (w.alloc (.cells #[aA,aB,.slice p n cap] TH3)) TH3 #[(),(),((),())]).ext hx.of_drew;simpa using this
  obtain⟨z0,zf0,z1,zf1,z2,zf2⟩:=(BZ).trif
  have z1:w.heap.size+1<wi.heap.size:=BZ.lt
  have hxw:Ext w wi:=Ext.trans (by exact .drew (.alloc (.alloc (.refl _) _) _)) hx
  clear ho7 hx
  refine wpAny_ready (rs:= [9]) (by kernel_rfl) (by simp) ?_
  refine AllReady.cons rfl (fun K hK=> ?_) AllReady.nil
  go_simp
  refine hK _ _ ?_
  clear hK K
  refine wpAny_done (by kernel_rfl) ?_ _
  go_wp2
  have hY:=((BZ.set 0 (.int .i64 aA)).set 1 (.int .i64 aB)).set 2 (.slice q8 n c8)
  generalize hw3:World.setCell _ _ _=w3
  rw[hw3]at hY
  have hR:ExtR (w.heap.size+1) wi w3:=by rw[←hw3];exact(((ExtR.refl (w.heap.size+1) wi).setCell (p:=⟨w.heap.size+1,0,none⟩) (.inl rfl) _).setCell (p:=⟨w.heap.size+1,1,none⟩) (.inl rfl) _).setCell (p:=⟨w.heap.size+1,2,none⟩) (.inl rfl) _
  clear hw3 z0 z1 z2 zf0 zf1 zf2
  simp only[List.setIfInBounds_toArray,List.set_cons_zero,List.set_cons_succ]at hY
  obtain⟨y0,y1,y2⟩:=(hY).tri
  exact bodyPost_ret (v:=aI aA aB q8 n c8) (by simp[results,Tryz.results104,go_sem, *]) rfl (rK hl.out (bG (ho8.kept hR (.inr (cY ho8 BZ (by decide)))) (by omega)) (ExtR.new hxw hR (by omega)))
abbrev TSL:TypeId:=100
abbrev dK (f t:Int):Value:= .agg #[f,t]
def bC (aA aB:Int)(xs:List Int)(f t:Int):Bool:=decide (cX aA aB xs f t=1)&&decide (0<xs.getD f.toNat 0)&&decide (xs.getD t.toNat 0=0)
theorem iB {aA aB:Int}{xs:List Int}{a b:Int}(h:cX aA aB xs a b=1):aP aA aB xs=true∧0≤a∧a<xs.length∧0≤b∧b<xs.length∧aZ aA a b=1:=by
 unfold cX at h
 split at h
 ·rename_i hh;exact⟨hh.1,hh.2.1.1,hh.2.1.2,hh.2.2.1,hh.2.2.2,h⟩
 ·omega
theorem Blk.cells2 {w:World}{g:Nat}{t:TypeId}{a b:Value}(h:Blk w g t #[a,b]):w.cell? ⟨g,0,none⟩=some a∧w.cell? ⟨g,1,none⟩=some b:=⟨h.cell 0,h.cell 1⟩
theorem aD5 (aA aB f t:Int)(p:OA)(n cap:Nat)(A:Int)(w:World)(hA:(A==1)=false)
  (HC:xC 159 #[aI aA aB p n cap,f,t] w fun w' e w''=>e= .returned (.int .i64 A)∧Ext w' w''):
  Calls Tryz.prog 127 #[aI aA aB p n cap,dK f t] w fun e w'=>e= .returned (.bool false)∧Ext w w':=by
 go_enter Tryz.func127,Tryz.ntmps127
 go_wp2_with fail
 refine(HC.out _ (by exact .alloc (.alloc (.refl _) _) _)).mono ?_
 rintro e w1 ⟨rfl,hh1⟩
 have B1:=xQ (show Blk w1 w.heap.size TH3 #[aA,aB,.slice p n cap]from((Blk.new w TH3 #[aA,aB,.slice p n cap]).alloc _).ext hh1)
 have S1:=xQ (show Blk w1 (w.heap.size+1) TSL #[f,t] by have:=(Blk.new (w.alloc (.cells #[aA,aB,.slice p n cap] TH3)) TSL #[f,t]).ext hh1;simpa using this)
 have X1:Ext w w1:=by exact .trans (.alloc (.alloc (.refl _) _) _) hh1
 have z1:w.heap.size+1<w1.heap.size:=S1.out.lt
 clear hh1
 obtain⟨c0,c1,c2⟩:=B1.out.cells3
 obtain⟨s0,s1⟩:=S1.out.cells2
 go_wp2
 go_ret
 exact⟨rfl,by exact X1⟩
theorem aF7 (aA aB:Int)(p:OA)(n cap:Nat)(i j:Nat)(x y:Int)(xs:List Int)(w:World)(hn:n≤12)(hi:i<n)(hj:j<n)(HX:Hid (xs[i]? =some x)) (HY:Hid (xs[j]? =some y)) (HS:Hid (Sl w p n cap 1 (ivs xs)))
  (HC:xC 159 #[aI aA aB p n cap,(i:Int),(j:Int)] w fun w' e w''=>e= .returned (.int .i64 1)∧Ext w' w''):
  Calls Tryz.prog 127 #[aI aA aB p n cap,dK (i:Int) (j:Int)] w fun e w'=>e= .returned (.bool (decide (0<x)&&decide (y=0)))∧Ext w w':=by
 obtain⟨b,off,x',hp1,hx,hb,hcx⟩:=HS.out.int_at hi
 obtain⟨b2,off2,y',hp2,hy,_,hcy⟩:=HS.out.int_at hj
 rw[hp1]at hp2
 injection hp2 with hp2
 injection hp2 with e1 e2
 subst e1 e2
 have HP1:=xQ hp1
 clear hp1
 obtain rfl:x=x':=by have:=HX.out.symm.trans hx;injection this
 obtain rfl:y=y':=by have:=HY.out.symm.trans hy;injection this
 clear hx hy
 have a1:(0:Int)≤(i:Int):=by omega
 have a2:(0:Int)≤(j:Int):=by omega
 have a3:(i:Int)<(n:Int):=by omega
 have a4:(j:Int)<(n:Int):=by omega
 have HCX:=xQ hcx
 have HCY:=xQ hcy
 clear hcx hcy
 by_cases h0:0<x
 ·have d0:decide (0<x)=true:=by simp[h0]
  by_cases h1:y=0
  ·have d1:(y==0)=true:=by simp[h1]
   have hfin:Hid ((decide (0<x)&&decide (y=0))=true):=by show _=_;simp[h0,h1]
   clear h1
   go_enter Tryz.func127,Tryz.ntmps127
   go_wp2_with fail
   refine(HC.out _ (by exact .alloc (.alloc (.refl _) _) _)).mono ?_
   rintro e w1 ⟨rfl,hh1⟩
   have B1:=xQ (show Blk w1 w.heap.size TH3 #[aA,aB,.slice p n cap]from((Blk.new w TH3 #[aA,aB,.slice p n cap]).alloc _).ext hh1)
   have S1:=xQ (show Blk w1 (w.heap.size+1) TSL #[(i:Int),(j:Int)] by have:=(Blk.new (w.alloc (.cells #[aA,aB,.slice p n cap] TH3)) TSL #[(i:Int),(j:Int)]).ext hh1;simpa using this)
   have X1:Ext w w1:=by exact .trans (.alloc (.alloc (.refl _) _) _) hh1
   have z1:w.heap.size+1<w1.heap.size:=S1.out.lt
   clear hh1
   obtain⟨c0,c1,c2⟩:=B1.out.cells3
   rw[HP1.out]at c2
   obtain⟨s0,s1⟩:=S1.out.cells2
   have g1:w1.cell? ⟨b,off+i,none⟩=some (iv x):=(X1.cells.1 _ _ hb).trans HCX.out
   have g2:w1.cell? ⟨b,off+j,none⟩=some (iv y):=(X1.cells.1 _ _ hb).trans HCY.out
   go_wp2
   go_ret
   exact⟨aV hfin.out.symm,by exact X1⟩
  ·have d1:(y==0)=false:=by simp[h1]
   have hfin:Hid ((decide (0<x)&&decide (y=0))=false):=by show _=_;simp[h1]
   clear h1
   go_enter Tryz.func127,Tryz.ntmps127
   go_wp2_with fail
   refine(HC.out _ (by exact .alloc (.alloc (.refl _) _) _)).mono ?_
   rintro e w1 ⟨rfl,hh1⟩
   have B1:=xQ (show Blk w1 w.heap.size TH3 #[aA,aB,.slice p n cap]from((Blk.new w TH3 #[aA,aB,.slice p n cap]).alloc _).ext hh1)
   have S1:=xQ (show Blk w1 (w.heap.size+1) TSL #[(i:Int),(j:Int)] by have:=(Blk.new (w.alloc (.cells #[aA,aB,.slice p n cap] TH3)) TSL #[(i:Int),(j:Int)]).ext hh1;simpa using this)
   have X1:Ext w w1:=by exact .trans (.alloc (.alloc (.refl _) _) _) hh1
   have z1:w.heap.size+1<w1.heap.size:=S1.out.lt
   clear hh1
   obtain⟨c0,c1,c2⟩:=B1.out.cells3
   rw[HP1.out]at c2
   obtain⟨s0,s1⟩:=S1.out.cells2
   have g1:w1.cell? ⟨b,off+i,none⟩=some (iv x):=(X1.cells.1 _ _ hb).trans HCX.out
   have g2:w1.cell? ⟨b,off+j,none⟩=some (iv y):=(X1.cells.1 _ _ hb).trans HCY.out
   go_wp2
   go_ret
   exact⟨aV hfin.out.symm,by exact X1⟩
 ·have d0:decide (0<x)=false:=by simp[h0]
  have hfin:Hid ((decide (0<x)&&decide (y=0))=false):=by show _=_;simp[h0]
  go_enter Tryz.func127,Tryz.ntmps127
  go_wp2_with fail
  refine(HC.out _ (by exact .alloc (.alloc (.refl _) _) _)).mono ?_
  rintro e w1 ⟨rfl,hh1⟩
  have B1:=xQ (show Blk w1 w.heap.size TH3 #[aA,aB,.slice p n cap]from((Blk.new w TH3 #[aA,aB,.slice p n cap]).alloc _).ext hh1)
  have S1:=xQ (show Blk w1 (w.heap.size+1) TSL #[(i:Int),(j:Int)] by have:=(Blk.new (w.alloc (.cells #[aA,aB,.slice p n cap] TH3)) TSL #[(i:Int),(j:Int)]).ext hh1;simpa using this)
  have X1:Ext w w1:=by exact .trans (.alloc (.alloc (.refl _) _) _) hh1
  have z1:w.heap.size+1<w1.heap.size:=S1.out.lt
  clear hh1
  obtain⟨c0,c1,c2⟩:=B1.out.cells3
  rw[HP1.out]at c2
  obtain⟨s0,s1⟩:=S1.out.cells2
  have g1:w1.cell? ⟨b,off+i,none⟩=some (iv x):=(X1.cells.1 _ _ hb).trans HCX.out
  go_wp2
  go_ret
  exact⟨aV hfin.out.symm,by exact X1⟩
theorem aF8 (aA aB f t:Int)(p:OA)(n cap:Nat)(xs:List Int)(w:World)(hS:Sl w p n cap 1 (ivs xs)):
  Calls Tryz.prog 127 #[aI aA aB p n cap,dK f t] w fun e w'=>e= .returned (.bool (bC aA aB xs f t))∧Ext w w':=by
 have hl:=hS.ilen
 have HC:=fun(w':World) (hx:Ext w w')=>vH aA aB f t p n cap xs w' (hS.ext hx)
 unfold bC
 by_cases h:cX aA aB xs f t=1
 ·obtain⟨k1,k2,k3,k4,k5,k6⟩:=iB h
  obtain⟨g1,g2,g3,g4,g5,g6,g7,g8,g9⟩:=bN k1
  rw[h]at HC
  have hx:xs[f.toNat]? =some (xs.getD f.toNat 0):=by rw[List.getD_eq_getElem?_getD,List.getElem?_eq_getElem (by omega)];rfl
  have hy:xs[t.toNat]? =some (xs.getD t.toNat 0):=by rw[List.getD_eq_getElem?_getD,List.getElem?_eq_getElem (by omega)];rfl
  have ef:((f.toNat:Nat):Int)=f:=by omega
  have et:((t.toNat:Nat):Int)=t:=by omega
  have:=aF7 aA aB p n cap f.toNat t.toNat _ _ xs w (by omega) (by omega) (by omega) hx hy hS (by rw[ef,et];exact HC)
  rw[ef,et]at this
  rw[decide_eq_true h,Bool.true_and]
  exact this
 ·have:=aD5 aA aB f t p n cap _ w (by simpa using h) HC
  rw[decide_eq_false h,Bool.false_and,Bool.false_and]
  exact this
end Go.Proofs.YtgnkoffndhmhpaaGreatDoor
