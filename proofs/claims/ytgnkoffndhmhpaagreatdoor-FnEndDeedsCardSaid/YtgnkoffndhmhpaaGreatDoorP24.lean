/-
  Texts of this proof, packed (@packed).
-/
import Derived.Test.YtgnkoffndhmhpaaGreatDoorP5
import Derived.Test.YtgnkoffndhmhpaaGreatDoorP21
import Derived.Test.YtgnkoffndhmhpaaGreatDoorP22
import Derived.Test.YtgnkoffndhmhpaaGreatDoorP23
namespace Go.Proofs.YtgnkoffndhmhpaaGreatDoor
open Go.RowKit
set_option linter.unusedVariables false
set_option linter.unusedSimpArgs false
set_option maxHeartbeats 8000000
set_option maxRecDepth 100000
theorem pS (aA aB free step aD aG aC aF slides one two:Int)(p:OA)(n cap:Nat)(b off k:Nat)(xs ys:List Int)(vs:List aP)(w:World)(h0:0≤slides)(hm:(k+1)≤1000)(hdn:Hid (vs.drop (k+1)= []))(HS:Hid (Sl w (some ⟨b,off,none⟩) (k+1) (k+1) 4 (vs.flatMap aE)))
  (HVd:xB 40 #[.agg #[aA,aB,.slice p n cap,free,step,aD,aG,aC,aF,.slice (some ⟨b,off,none⟩) (k+1) (k+1)]] w true)
  (HL:xC 60 #[.agg #[aA,aB,.slice p n cap,free,step,aD,aG,aC,aF,.slice (some ⟨b,off,none⟩) (k+1) (k+1)]] w fun w' e w''=> ∃p' cap' q' c2',e= .returned (.agg #[aA,aB,.slice p' n cap',free,step,aD,aG,aC,aF,.slice q' (k+1) c2'])∧w''.ownsRow w'.heap.size TI 1 (.slice p' n cap') n (ivs xs)∧w''.ownsRow w'.heap.size TV 4 (.slice q' (k+1) c2') (k+1) (vs.flatMap aE)∧Ext w' w'')
  (HP:xC 74 #[aH aA aB p n cap,one] w fun w' e w''=> ∃p' cap',e= .returned (.tuple #[aH aA aB p' n cap',slides])∧w''.ownsRow w'.heap.size TI 1 (.slice p' n cap') n (ivs ys)∧Ext w' w'')
  (HF:xC 75 #[.agg #[aA,aB,.slice p n cap,free,step,aD,aG,aC,aF,.slice (some ⟨b,off,none⟩) (k+1) (k+1)],one] w fun w' e w''=>e= .returned (.int .i64 (k:Int))∧Ext w' w'')
  (HM:xB 76 #[.agg #[aA,aB,.slice p n cap,free,step,aD,aG,aC,aF,.slice (some ⟨b,off,none⟩) (k+1) (k+1)],one] w true):
  Calls Tryz.prog 28 #[.agg #[aA,aB,.slice p n cap,free,step,aD,aG,aC,aF,.slice (some ⟨b,off,none⟩) (k+1) (k+1)],.agg #[.int .i64 2,one,two]] w fun e w'=> ∃p' cap' q' c2',e= .returned (.tuple #[.agg #[aA,aB,.slice p' n cap',free,step,aD,aG,aC,aF,.slice q' (k) c2'],slides,.bool true])∧w'.ownsRow w.heap.size TI 1 (.slice p' n cap') n (ivs ys)∧w'.ownsRow w.heap.size TV 4 (.slice q' (k) c2') (k) ((vs.take k++vs.drop (k+1)).flatMap aE)∧Ext w w':=by
 go_enter Tryz.func28,Tryz.ntmps28
 go_wp2_with fail
 refine(HVd _ ((((Mem.start w).bn aL #[aA,aB,.slice p n cap,free,step,aD,aG,aC,aF,.slice (some ⟨b,off,none⟩) (k+1) (k+1)] (w.heap.size)).bn THD #[.int .i64 2,one,two] (w.heap.size+1)).bn aL #[(),(),((),()),(),(),(),(),(),(),((),())] (w.heap.size+1+1)).ext).mono ?_
 rintro e w1 ⟨rfl,br⟩
 have M1:=(((((Mem.start w).bn aL #[aA,aB,.slice p n cap,free,step,aD,aG,aC,aF,.slice (some ⟨b,off,none⟩) (k+1) (k+1)] (w.heap.size)).bn THD #[.int .i64 2,one,two] (w.heap.size+1)).bn aL #[(),(),((),()),(),(),(),(),(),(),((),())] (w.heap.size+1+1)).adv br)
 have aj:=M1.hi 0
 have av:=M1.hi 1
 have bh:=M1.hi 2
 clear br HVd
 obtain⟨x,r,q,j,t,s,l,m,o,f⟩:=(M1.bk 2).ten
 go_wp2_with fail
 clear x r q j t s l m o f
 refine(HL _ M1.ext).mono ?_
 rintro e w2 ⟨p1,z,q1,g,rfl,ho,hq,hx⟩
 have M2:=(M1.own2 hx ho hq (Nat.le_refl _) (by decide))
 clear M1 aj av bh hx ho hq
 have a5:=M2.hi 2
 have a2:=M2.hi 3
 have bd:=M2.hi 4
 obtain⟨x,r,q,j,t,s,l,m,o,f⟩:=(M2.bk 4).ten
 obtain⟨ab,ad,aa⟩:=(M2.bk 3).tri
 go_wp2_with fail
 clear x r q j t s l m o f ab ad aa
 refine(HP _ (M2.bn aL #[aA,aB,.slice p1 n z,free,step,aD,aG,aC,aF,.slice q1 (k+1) g] (w2.heap.size)).ext).mono ?_
 rintro e w3 ⟨p5,a,rfl,ho,hx⟩
 have M3:=((M2.bn aL #[aA,aB,.slice p1 n z,free,step,aD,aG,aC,aF,.slice q1 (k+1) g] (w2.heap.size)).call hx ho)
 clear M2 a5 a2 bd hx ho HP
 have a3:=M3.hi 1
 have a7:=M3.hi 4
 have ak:=M3.hi 5
 have bi:=M3.hi 6
 obtain⟨x,r,q,j,t,s,l,m,o,f⟩:=(M3.bk 6).ten
 obtain⟨ab,ad,aa⟩:=(M3.bk 5).tri
 go_wp2_with fail
 clear x r q j t s l m o f ab ad aa
 refine(HF _ (M3.bn TH3 #[aA,aB,.slice p5 n a] (w3.heap.size)).ext).mono ?_
 rintro e w4 ⟨rfl,bq⟩
 have M4:=((M3.bn TH3 #[aA,aB,.slice p5 n a] (w3.heap.size)).adv bq)
 clear M3 a3 a7 ak bi bq HF
 have a0:=M4.hi 0
 have a1:=M4.hi 2
 have au:=M4.hi 5
 have a6:=M4.hi 6
 have ay:=M4.hi 7
 obtain⟨x,r,q,j,t,s,l,m,o,f⟩:=(M4.bk 7).ten
 obtain⟨ab,ad,aa⟩:=(M4.bk 6).tri
 go_wp2_with fail
 clear x r q j t s l m o f ab ad aa
 refine(HM _ M4.ext).mono ?_
 rintro e w5 ⟨rfl,bm⟩
 have M5:=(M4.adv bm)
 clear M4 a0 a1 au a6 ay bm HM
 have aq:=M5.hi 0
 have aw:=M5.hi 2
 have an:=M5.hi 5
 have bc:=M5.hi 6
 have bj:=M5.hi 7
 have hd:decide (slides<0)=false:=by simp;omega
 have cf:decide (0≤slides)=true:=by simp;omega
 clear HL
 obtain⟨d0,bf,d1,ar,d2,am,d3,ap,d4,be,d5,bb,d6,az,d7,a8,d8,ba,d9,ao⟩:=(M5.bk 2).tenf
 obtain⟨b4,bt,b5⟩:=(M5.bk 0).tri
 obtain⟨c,d⟩:=M5.nq 0 2
 go_upto_region 22 with fail
 clear d0 bf d1 ar d2 am d3 ap d4 be d5 bb d6 az d7 a8 d8 ba d9 ao b4 bt b5 c d aq aw an bc bj
 have M6:=(((M5.st 2 0 (.int .i64 aA)).st 2 1 (.int .i64 aB)).st 2 2 (.slice p5 n a))
 generalize ae:World.setCell _ _ _=w6
 rw[ae]at M6
 clear ae M5
 have a9:=M6.hi 0
 have al:=M6.hi 2
 have ax:=M6.hi 5
 have u:=M6.hi 6
 have y:=M6.hi 7
 have f:=(M6.bk 7).cl 9
 obtain⟨d0,bf,d1,ar,d2,am,d3,ap,d4,be,d5,bb,d6,az,d7,a8,d8,ba,d9,ao⟩:=(M6.bk 2).tenf
 obtain⟨c,d⟩:=M6.nq 2 7
 obtain⟨ah,ag⟩:=M6.nq 5 7
 obtain⟨af,ai⟩:=M6.nq 2 5
 have i1:(0:Int)≤(k:Int):=by omega
 have i2:(k:Int)≤((k+1):Int):=by omega
 have i3:(k:Int)≤((k+1):Int):=by omega
 have i4:(k:Int)+1≤((k+1):Int):=by omega
 have i5:(0:Int)≤(k:Int)+1:=by omega
 have i6:((k:Int)+1).toNat=k+1:=by omega
 have i7:IntKind.i64.wrap ((k:Int)+1)=(k:Int)+1:=IntWalk.i64_in _ (by omega)
 have b2: ¬(k+1)=0:=by omega
 go_cut [] (fun wx=> ∃(q9:OA) (c9:Nat),Mem w wx [aJ w.heap.size TV 4 (q9) (k) (c9) ((vs.take k++vs.drop (k+1)).flatMap aE),aI w.heap.size (w3.heap.size) TH3 #[aA,aB,.slice p5 n a],aJ w.heap.size TI 1 (p5) (n) (a) (ivs ys),aI w.heap.size (w2.heap.size) aL #[aA,aB,.slice p5 n a,free,step,aD,aG,aC,aF,.slice q9 (k) c9],aJ w.heap.size TI 1 (p1) (n) (z) (ivs xs),aJ w.heap.size TV 4 (q1) (k+1) (g) (vs.flatMap aE),aI w.heap.size (w.heap.size+1+1) aL #[(),(),((),()),(),(),(),(),(),(),((),())],aI w.heap.size (w.heap.size+1) THD #[.int .i64 2,one,two],aI w.heap.size (w.heap.size) aL #[aA,aB,.slice p n cap,free,step,aD,aG,aC,aF,.slice (some ⟨b,off,none⟩) (k+1) (k+1)]])
 case first=>
  go_region_law ((first
   |(refine fN rR (by rfl) _ _ (by rfl) (by first|exact M6.made0 TV 4 w6.heap.size (by simp)|exact(M6.made0 TV 4 w6.heap.size (by simp)).adv (by exact .drew (.refl _))|exact(M6.adv xE).made0 TV 4 w6.heap.size (by simp)) 0 (by rfl) (by rfl) ((vs.take k).flatMap aE) (by rfl) (aAc (HS.out.ext (M6.ext.trans (by exact .drew (.alloc (.refl _) _)))) (by omega)) (eJ _) (by omega) ?_
     intro q7 c7 w7 bo
     have M7:=(show Mem w w7 [aJ w.heap.size TV 4 (q7) (k) (c7) ((vs.take k).flatMap aE),aI w.heap.size (w3.heap.size) TH3 #[aA,aB,.slice p5 n a],aJ w.heap.size TI 1 (p5) (n) (a) (ivs ys),aI w.heap.size (w2.heap.size) aL #[aA,aB,.slice p5 n a,free,step,aD,aG,aC,aF,.slice q1 (k+1) g],aJ w.heap.size TI 1 (p1) (n) (z) (ivs xs),aJ w.heap.size TV 4 (q1) (k+1) (g) (vs.flatMap aE),aI w.heap.size (w.heap.size+1+1) aL #[(),(),((),()),(),(),(),(),(),(),((),())],aI w.heap.size (w.heap.size+1) THD #[.int .i64 2,one,two],aI w.heap.size (w.heap.size) aL #[aA,aB,.slice p n cap,free,step,aD,aG,aC,aF,.slice (some ⟨b,off,none⟩) (k+1) (k+1)]]from by simpa only[List.set_cons_zero,Nat.zero_add,List.nil_append]using bo)
     clear bo
     have cg:=(M7.bk 8).cl 9
     have cd:=(M7.bk 3).cl 9
     have b8:=(M7.bk 3).frozen 9
     have ca:w.heap.size<w7.heap.size:=(M7.hi 8)
     have cb:w2.heap.size<w7.heap.size:=(M7.hi 3))
   |(refine fN rR (by rfl) _ _ (by rfl) (M7.adv (by exact .refl _)) 0 (by rfl) (by rfl) (([]:List aP).flatMap aE) (by rfl) (⟨by simp,Nat.zero_le _,by have:=HS.out.mx;omega,fun h=>absurd h (by omega)⟩) (eJ _) (by omega) ?_
     intro q9 c9 w9 bp
     have M9:=(show Mem w w9 [aJ w.heap.size TV 4 (q9) (k+(0)) (c9) ((vs.take k).flatMap aE++([]:List aP).flatMap aE),aI w.heap.size (w3.heap.size) TH3 #[aA,aB,.slice p5 n a],aJ w.heap.size TI 1 (p5) (n) (a) (ivs ys),aI w.heap.size (w2.heap.size) aL #[aA,aB,.slice p5 n a,free,step,aD,aG,aC,aF,.slice q1 (k+1) g],aJ w.heap.size TI 1 (p1) (n) (z) (ivs xs),aJ w.heap.size TV 4 (q1) (k+1) (g) (vs.flatMap aE),aI w.heap.size (w.heap.size+1+1) aL #[(),(),((),()),(),(),(),(),(),(),((),())],aI w.heap.size (w.heap.size+1) THD #[.int .i64 2,one,two],aI w.heap.size (w.heap.size) aL #[aA,aB,.slice p n cap,free,step,aD,aG,aC,aF,.slice (some ⟨b,off,none⟩) (k+1) (k+1)]]from bp)
     clear bp
     have cc:=(M9.bk 8).cl 9
     have b9:=(M9.bk 3).cl 9
     have b7:=(M9.bk 3).frozen 9
     have ce:w.heap.size<w9.heap.size:=(M9.hi 8)
     have ch:w2.heap.size<w9.heap.size:=(M9.hi 3))))
  all_goals (
   have e1:k+(0)=k:=by omega
   have e2:(vs.take k).flatMap aE++([]:List aP).flatMap aE=(vs.take k++vs.drop (k+1)).flatMap aE:=by rw[hdn.out];simp
   skip
   have MZ:=(show Mem w w9 [aJ w.heap.size TV 4 (q9) (k) (c9) ((vs.take k++vs.drop (k+1)).flatMap aE),aI w.heap.size (w3.heap.size) TH3 #[aA,aB,.slice p5 n a],aJ w.heap.size TI 1 (p5) (n) (a) (ivs ys),aI w.heap.size (w2.heap.size) aL #[aA,aB,.slice p5 n a,free,step,aD,aG,aC,aF,.slice q1 (k+1) g],aJ w.heap.size TI 1 (p1) (n) (z) (ivs xs),aJ w.heap.size TV 4 (q1) (k+1) (g) (vs.flatMap aE),aI w.heap.size (w.heap.size+1+1) aL #[(),(),((),()),(),(),(),(),(),(),((),())],aI w.heap.size (w.heap.size+1) THD #[.int .i64 2,one,two],aI w.heap.size (w.heap.size) aL #[aA,aB,.slice p n cap,free,step,aD,aG,aC,aF,.slice (some ⟨b,off,none⟩) (k+1) (k+1)]]from by have:=M9;rw[e2]at this;simpa only[e1]using this)
   clear e2 M9 M7)
  all_goals go_wp2_with fail
  all_goals go_meet
  all_goals exact⟨q9,c9,by first|exact(MZ.store (i:=3) rfl 9 (.slice q9 (k) c9))|(simp only[e1];exact(MZ.store (i:=3) rfl 9 (.slice q9 (k) c9)))⟩
 case rest=>
  obtain⟨q9,c9,MC⟩:=hcut
  have MC:=xQ MC
  clear M6 i1 i2 i3 i4 i5 i6 i7 b2 f d0 bf d1 ar d2 am d3 ap d4 be d5 bb d6 az d7 a8 d8 ba d9 ao c d ah ag af ai a9 al ax u y
  have bg:w3.heap.size<wc.heap.size:=(MC.out.hi 1)
  have a4:w2.heap.size<wc.heap.size:=(MC.out.hi 3)
  have u:w.heap.size+1+1<wc.heap.size:=(MC.out.hi 6)
  have y:w.heap.size+1<wc.heap.size:=(MC.out.hi 7)
  have bl:w.heap.size<wc.heap.size:=(MC.out.hi 8)
  obtain⟨e0,e1,e2,e3,e4,e5,e6,e7,e8,e9⟩:=(MC.out.bk 3).ten
  obtain⟨f0,b6,f1,b0,f2,b3,f3,bu,f4,bw,f5,bv,f6,b1,f7,bx,f8,bz,f9,bs⟩:=(MC.out.bk 6).tenf
  obtain⟨c,d⟩:=MC.out.nq 3 6
  go_upto_region 33 with fail
  go_wp2
  clear e0 e1 e2 e3 e4 e5 e6 e7 e8 e9 f0 b6 f1 b0 f2 b3 f3 bu f4 bw f5 bv f6 b1 f7 bx f8 bz f9 bs c d bg a4 u y bl
  have M7:=(MC.out.put10 (i:=6) rfl (.int .i64 aA) (.int .i64 aB) (.slice p5 n a) (.int .i64 free) (.int .i64 step) (.int .i64 aD) (.int .i64 aG) (.int .i64 aC) (.int .i64 aF) (.slice q9 (k) c9))
  generalize ae:World.setCell _ _ _=wz
  rw[ae]at M7
  clear ae MC
  obtain⟨y0,y1,y2,y3,y4,y5,y6,y7,y8,y9⟩:=(M7.bk 6).ten
  exact bodyPost_ret (v:= .tuple #[.agg #[aA,aB,.slice p5 n a,free,step,aD,aG,aC,aF,.slice q9 (k) c9],slides,.bool true]) (by simp[results,Tryz.results28,go_sem, *]) rfl ⟨p5,a,q9,c9,rfl,(M7.ow 2),(M7.ow 0),M7.ext⟩
end Go.Proofs.YtgnkoffndhmhpaaGreatDoor
namespace Go.Proofs.YtgnkoffndhmhpaaGreatDoor
open Go.RowKit
set_option linter.unusedVariables false
set_option linter.unusedSimpArgs false
def aF6 (h:aO)(r:Option (aO×Int))(w:World)(e:Ending)(w':World):Prop:=
 match r with
 |none=> ∃p cap q c2,e= .returned (.tuple #[bK h p h.cells.length cap q h.vs.length c2,(-1:Int),.bool false])∧w'.ownsRow w.heap.size TI 1 (.slice p h.cells.length cap) h.cells.length (ivs h.cells)∧w'.ownsRow w.heap.size TV 4 (.slice q h.vs.length c2) h.vs.length (h.vs.flatMap aE)∧Ext w w'
 |some (h',n)=> ∃p cap q c2,e= .returned (.tuple #[bK h' p h'.cells.length cap q h'.vs.length c2,n,.bool true])∧w'.ownsRow w.heap.size TI 1 (.slice p h'.cells.length cap) h'.cells.length (ivs h'.cells)∧w'.ownsRow w.heap.size TV 4 (.slice q h'.vs.length c2) h'.vs.length (h'.vs.flatMap aE)∧Ext w w'
theorem iJ {h:aO}(hok:aS h=true):h.cells.length≤12∧h.vs.length≤12∧4≤h.cells.length:=by
 obtain⟨q1,q2,q3,q4,q5⟩:=(dH h).1 hok
 have hb:=bX (cM q1)
 have:=congrArg List.length q4
 rw[iC,List.length_map]at this
 have:=jF h.cells
 omega
theorem mY (h:aO)(k a b:Int)(p:OA)(n cap:Nat)(q:OA)(m c2:Nat)(w:World)(hi:IsHouse w h p n cap q m c2)(hok:aS h=false):
  Calls Tryz.prog 28 #[bK h p n cap q m c2,jC k a b] w fun e w'=>e= .returned (.tuple #[.agg #[(),(),((),()),(),(),(),(),(),(),((),())],(-1:Int),.bool false])∧Ext w w':=
 aCo h.aA h.aB h.free h.step h.aD h.aG h.aC h.aF k a b p n cap q m c2 h.cells h.vs w (xQ fun w' hx=>by have:=kH h p n cap q m c2 w' (hi.ext hx);rwa[hok]at this)
theorem sH (h:aO)(k a b:Int)(p:OA)(n cap:Nat)(q:OA)(m c2:Nat)(w:World)(hi:IsHouse w h p n cap q m c2)(hok:aS h=true):
  Calls Tryz.prog 28 #[bK h p n cap q m c2,jC k a b] w (aF6 h (bL h k a b) w):=by
 obtain⟨q1,q2,q3,q4,q5⟩:=(dH h).1 hok
 have s:=iJ hok
 have hl:=hi.clen
 have o:=hi.vlen
 have hS:=hi.cells
 have hV:=hi.vs
 subst hl o
 have d:=xQ fun(w':World) (hx:Ext w w')=>(by have:=kH h p _ cap q _ c2 w' (hi.ext hx);rwa[hok]at this:Calls Tryz.prog 40 #[bK h p h.cells.length cap q h.vs.length c2] w' fun e w''=>e= .returned (.bool true)∧Ext w' w'')
 have HL:=xQ fun(w':World) (hx:Ext w w')=>uD h p _ cap q _ c2 w' (by omega) (by omega) (hi.ext hx)
 unfold fM at HL
 by_cases k0:k=0
 ·subst k0
  have HP:=xQ fun(w':World) (hx:Ext w w')=>zQ h.aA h.aB a p _ cap h.cells w' (hS.ext hx) q1
  have e0:bL h 0 a b=(if 0≤(cC h.aA h.aB h.cells a).2 then some ({h with cells:=(cC h.aA h.aB h.cells a).1,vs:=jY (a,h.aC,0,h.aC) h.vs},(cC h.aA h.aB h.cells a).2)else none):=by unfold bL;rw[if_pos rfl]
  have el:(cC h.aA h.aB h.cells a).1.length=h.cells.length:=by
   by_cases h0:0≤(cC h.aA h.aB h.cells a).2
   ·obtain⟨zs,s1,_,_,s4,_⟩:=pE q1 h0
    rw[s4,List.length_set,s1.length_eq]
   ·unfold cC at h0⊢
    split at h0
    ·rfl
    ·dsimp only at h0;omega
  unfold cO at HP
  rw[el]at HP
  rw[e0]
  by_cases h0:0≤(cC h.aA h.aB h.cells a).2
  ·rw[if_pos h0]
   have HQ:=xQ fun(w':World) (hx:Ext w w')=>aG0 a h.aC 0 h.aC q _ c2 h.vs w' (by omega) (hV.ext hx)
   refine(qY h.aA h.aB h.free h.step h.aD h.aG h.aC h.aF (cC h.aA h.aB h.cells a).2 a b p _ cap q _ c2 h.cells (cC h.aA h.aB h.cells a).1 h.vs (jY (a,h.aC,0,h.aC) h.vs) w h0 d HL HP HQ).mono ?_
   rintro e w' ⟨p',c,q',f,rfl,o1,o2,hx⟩
   refine⟨p',c,q',f,?_,?_,?_,hx⟩
   ·simp[bK,el,nJ]
   ·dsimp only;rw[el];exact o1
   ·dsimp only;rw[nJ];exact o2
  ·rw[if_neg h0]
   exact sX h.aA h.aB h.free h.step h.aD h.aG h.aC h.aF (cC h.aA h.aB h.cells a).2 a b p _ cap q _ c2 h.cells (cC h.aA h.aB h.cells a).1 h.vs w (by omega) d HL HP
 by_cases k1:k=1
 ·subst k1
  have HP:=xQ fun(w':World) (hx:Ext w w')=>aG1 h a b p _ cap q _ c2 w' (by omega) (by omega) (hi.ext hx) q2 (fun v hv=>(gH _ _).1 (q5 v hv)) q3.2.1 q3.2.2.1 q3.2.2.2
  have e0:bL h 1 a b=mM h a b:=by unfold bL;rw[if_neg (by omega),if_pos rfl]
  rw[e0]
  cases hp:mM h a b with
  |none=>
   rw[hp]at HP
   exact vF h.aA h.aB h.free h.step h.aD h.aG h.aC h.aF a b p _ cap q _ c2 h.cells h.vs w d HL HP
  |some r=>
   obtain⟨h',bk⟩:=r
   rw[hp]at HP
   have hd:=gE hok (e0.trans hp)
   have hv:h'.vs.length=h.vs.length∧h'.cells=h.cells∧h'.aC=h.aC:=by
    unfold mM at hp
    split at hp
    ·cases hp
    ·split at hp
     ·injection hp with hp
      simp only[Prod.mk.injEq]at hp
      obtain⟨rfl,_⟩:=hp
      exact⟨by simp,rfl,rfl⟩
     ·cases hp
   obtain⟨t1,t2,t3,t4,t5,t6,t7,t8,t9⟩:=hd
   obtain⟨v1,v2,v3⟩:=hv
   obtain⟨hw,z,hc,hf,hs,y,u,t,l,j⟩:=h'
   dsimp only at t4 t5 t6 t7 t8 t9 v1 v2 v3
   subst t4 t5 t6 t7 t8 t9 v2 v3
   unfold aJv at HP
   dsimp only at HP
   rw[v1]at HP
   refine(tT h.aA h.aB h.free h.step h.aD h.aG h.aC h.aF l bk a b p _ cap q _ c2 h.cells h.vs j w t2.1 d HL HP).mono ?_
   rintro e w' ⟨p',c,q',f,rfl,o1,o2,hx⟩
   refine⟨p',c,q',f,?_,o1,?_,hx⟩
   ·simp[bK,v1]
   ·dsimp only;rw[v1];exact o2
 by_cases k2:k=2
 ·subst k2
  have HP:=xQ fun(w':World) (hx:Ext w w')=>aBl h.aA h.aB a p _ cap h.cells w' (hS.ext hx) q1
  have HF:=xQ fun(w':World) (hx:Ext w w')=>pJ h.aA h.aB h.free h.step h.aD h.aG h.aC h.aF a p h.cells.length cap q _ c2 h.vs w' (hV.ext hx)
  have HM:=fun(w':World) (hx:Ext w w')=>xT h a p _ cap q _ c2 w' (hi.ext hx)
  have e0:bL h 2 a b=(if dJ h a=true∧0≤(bO h.aA h.aB h.cells a).2 then some ({h with cells:=(bO h.aA h.aB h.cells a).1,vs:=h.vs.eraseIdx (vix a h.vs).toNat},(bO h.aA h.aB h.cells a).2)else none):=by unfold bL;rw[if_neg (by omega),if_neg (by omega),if_pos rfl]
  have el:(bO h.aA h.aB h.cells a).1.length=h.cells.length:=by
   by_cases h0:0≤(bO h.aA h.aB h.cells a).2
   ·obtain⟨zs,s1,_,_,s4,_⟩:=kU q1 h0
    rw[s4,List.length_set,s1.length_eq]
   ·unfold bO at h0⊢
    split at h0
    ·rfl
    ·dsimp only at h0;omega
  unfold cO at HP
  rw[el]at HP
  rw[e0]
  by_cases h0:dJ h a=true∧0≤(bO h.aA h.aB h.cells a).2
  ·rw[if_pos h0]
   have hv: ∃v,bS a h.vs=some v:=by
    have:=h0.1
    unfold dJ cP at this
    rw[if_pos hok]at this
    cases hv:bS a h.vs with
    |none=>rw[hv]at this;simp at this
    |some v=>exact⟨v,rfl⟩
   obtain⟨v,hv⟩:=hv
   obtain⟨v1,v2,v3,v4,v5,v6⟩:=eZ hv
   generalize hk:(vix a h.vs).toNat=kk at*
   rw[v5]at HF
   rw[h0.1]at HM
   obtain⟨bb,i,rfl,x,_⟩:=hV.rd (by omega)
   have ee:h.vs.eraseIdx kk=h.vs.take kk++h.vs.drop (kk+1):=List.eraseIdx_eq_take_drop_succ _ _
   have g:(h.vs.eraseIdx kk).length=h.vs.length-1:=by rw[List.length_eraseIdx,if_pos v4]
   by_cases hcc:kk+1<c2
   ·refine(rA h.aA h.aB h.free h.step h.aD h.aG h.aC h.aF (bO h.aA h.aB h.cells a).2 a b p _ cap bb i _ c2 kk h.cells (bO h.aA h.aB h.cells a).1 h.vs w h0.2 v4 (by omega) hcc (xQ hV) d HL HP HF HM).mono ?_
    rintro e w' ⟨p',c,q',f,rfl,o1,o2,hx⟩
    refine⟨p',c,q',f,?_,?_,?_,hx⟩
    ·simp only[bK,el,g]
    ·dsimp only;rw[el];exact o1
    ·dsimp only;rw[g,ee];exact o2
   ·have aa:=hV.le
    have e1:c2=kk+1:=by omega
    have e2:h.vs.length=kk+1:=by omega
    subst e1
    rw[e2]at hV d HL HF HM g⊢
    refine(pS h.aA h.aB h.free h.step h.aD h.aG h.aC h.aF (bO h.aA h.aB h.cells a).2 a b p _ cap bb i kk h.cells (bO h.aA h.aB h.cells a).1 h.vs w h0.2 (by omega) (xQ (List.drop_eq_nil_of_le (by omega))) (xQ hV) d HL HP HF HM).mono ?_
    rintro e w' ⟨p',c,q',f,rfl,o1,o2,hx⟩
    refine⟨p',c,q',f,?_,?_,?_,hx⟩
    ·simp[bK,el,g]
    ·dsimp only;rw[el];exact o1
    ·dsimp only;rw[g,ee,Nat.add_sub_cancel];exact o2
  ·rw[if_neg h0]
   exact sZ h.aA h.aB h.free h.step h.aD h.aG h.aC h.aF (bO h.aA h.aB h.cells a).2 (vix a h.vs) a b p _ cap q _ c2 h.cells (bO h.aA h.aB h.cells a).1 h.vs w (dJ h a) (fun e=>by
    by_cases hx:0≤(bO h.aA h.aB h.cells a).2
    ·exact absurd ⟨e,hx⟩ h0
    ·omega) d HL HP HF HM
 by_cases k3:k=3
 ·subst k3
  have e0:bL h 3 a b=(if 1≤a∧a≤9999-h.aC then some ({h with aC:=h.aC+a},h.aC+a)else none):=by unfold bL;rw[if_neg (by omega),if_neg (by omega),if_neg (by omega),if_pos rfl]
  rw[e0]
  by_cases h0:1≤a∧a≤9999-h.aC
  ·rw[if_pos h0]
   exact sW h.aA h.aB h.free h.step h.aD h.aG h.aC h.aF a b p _ cap q _ c2 h.cells h.vs w q3.1 q3.2.1 h0.1 h0.2 d HL (xQ fun w'=>lZ a 1 (9999-h.aC) w' h0.1 h0.2)
  ·rw[if_neg h0]
   exact tS h.aA h.aB h.free h.step h.aD h.aG h.aC h.aF a b p _ cap q _ c2 h.cells h.vs w q3.1 q3.2.1 d HL (xQ fun w'=>tG a 1 (9999-h.aC) w' (by omega))
 by_cases k4:k=4
 ·subst k4
  have HP:=xQ fun(w':World) (hx:Ext w w')=>kY h.aA h.aB a b p _ cap h.cells w' (hS.ext hx) q1
  have e0:bL h 4 a b=(if bA h.aA h.aB h.cells a b=true then some ({h with cells:=bG h.aA h.aB h.cells a b},0)else none):=by unfold bL;rw[if_neg (by omega),if_neg (by omega),if_neg (by omega),if_neg (by omega),if_pos rfl]
  unfold cQ at HP
  rw[cW]at HP
  rw[e0]
  cases hm:bA h.aA h.aB h.cells a b with
  |true=>
   rw[hm]at HP
   rw[if_pos rfl]
   refine(qZ h.aA h.aB h.free h.step h.aD h.aG h.aC h.aF a b p _ cap q _ c2 h.cells (bG h.aA h.aB h.cells a b) h.vs w d HL HP).mono ?_
   rintro e w' ⟨p',c,q',f,rfl,o1,o2,hx⟩
   refine⟨p',c,q',f,?_,?_,o2,hx⟩
   ·simp only[bK,cW]
   ·dsimp only;rw[cW];exact o1
  |false=>
   rw[hm]at HP
   rw[if_neg (by simp)]
   exact sY h.aA h.aB h.free h.step h.aD h.aG h.aC h.aF a b p _ cap q _ c2 h.cells (bG h.aA h.aB h.cells a b) h.vs w d HL HP
 have e0:bL h k a b=none:=by unfold bL;rw[if_neg k0,if_neg k1,if_neg k2,if_neg k3,if_neg k4]
 rw[e0]
 exact xX h.aA h.aB h.free h.step h.aD h.aG h.aC h.aF k a b p _ cap q _ c2 h.cells h.vs w k0 k1 k2 k3 k4 d HL
end Go.Proofs.YtgnkoffndhmhpaaGreatDoor
