/-
  Texts of this proof, packed (@packed).
-/
import Derived.Test.YtgnkoffndhmhpaaGreatDoorP5
import Derived.Test.YtgnkoffndhmhpaaGreatDoorP22
namespace Go.Proofs.YtgnkoffndhmhpaaGreatDoor
open Go.RowKit
set_option linter.unusedVariables false
set_option linter.unusedSimpArgs false
set_option maxHeartbeats 8000000
set_option maxRecDepth 100000
theorem tT (aA aB free step aD aG aC aF bank2 back one two:Int)(p:OA)(n cap:Nat)(q:OA)(m c2:Nat)(xs:List Int)(vs vs2:List aP)(w:World)(h0:0≤back)
  (HVd:xB 40 #[.agg #[aA,aB,.slice p n cap,free,step,aD,aG,aC,aF,.slice q m c2]] w true)
  (HL:xC 60 #[.agg #[aA,aB,.slice p n cap,free,step,aD,aG,aC,aF,.slice q m c2]] w fun w' e w''=> ∃p' cap' q' c2',e= .returned (.agg #[aA,aB,.slice p' n cap',free,step,aD,aG,aC,aF,.slice q' m c2'])∧w''.ownsRow w'.heap.size TI 1 (.slice p' n cap') n (ivs xs)∧w''.ownsRow w'.heap.size TV 4 (.slice q' m c2') m (vs.flatMap aE)∧Ext w' w'')
  (HP:xC 73 #[.agg #[aA,aB,.slice p n cap,free,step,aD,aG,aC,aF,.slice q m c2],one,two] w fun w' e w''=> ∃p' cap' q' c2',e= .returned (.tuple #[.agg #[aA,aB,.slice p' n cap',free,step,aD,aG,aC,bank2,.slice q' m c2'],back,.bool true])∧w''.ownsRow w'.heap.size TI 1 (.slice p' n cap') n (ivs xs)∧w''.ownsRow w'.heap.size TV 4 (.slice q' m c2') m (vs2.flatMap aE)∧Ext w' w''):
  Calls Tryz.prog 28 #[.agg #[aA,aB,.slice p n cap,free,step,aD,aG,aC,aF,.slice q m c2],.agg #[.int .i64 1,one,two]] w fun e w'=> ∃p' cap' q' c2',e= .returned (.tuple #[.agg #[aA,aB,.slice p' n cap',free,step,aD,aG,aC,bank2,.slice q' m c2'],back,.bool true])∧w'.ownsRow w.heap.size TI 1 (.slice p' n cap') n (ivs xs)∧w'.ownsRow w.heap.size TV 4 (.slice q' m c2') m (vs2.flatMap aE)∧Ext w w':=by
 go_enter Tryz.func28,Tryz.ntmps28
 go_wp2_with fail
 refine(HVd _ ((((Mem.start w).bn aL #[aA,aB,.slice p n cap,free,step,aD,aG,aC,aF,.slice q m c2] (w.heap.size)).bn THD #[.int .i64 1,one,two] (w.heap.size+1)).bn aL #[(),(),((),()),(),(),(),(),(),(),((),())] (w.heap.size+1+1)).ext).mono ?_
 rintro e w1 ⟨rfl,an⟩
 have M1:=(((((Mem.start w).bn aL #[aA,aB,.slice p n cap,free,step,aD,aG,aC,aF,.slice q m c2] (w.heap.size)).bn THD #[.int .i64 1,one,two] (w.heap.size+1)).bn aL #[(),(),((),()),(),(),(),(),(),(),((),())] (w.heap.size+1+1)).adv an)
 have g:=M1.hi 0
 have l:=M1.hi 1
 have aj:=M1.hi 2
 clear an HVd
 obtain⟨ag,z,u,k,ae,ab,o,s,t,ad⟩:=(M1.bk 2).ten
 go_wp2_with fail
 clear ag z u k ae ab o s t ad
 refine(HL _ M1.ext).mono ?_
 rintro e w2 ⟨p1,am,q1,ao,rfl,ho,hq,hx⟩
 have M2:=(M1.own2 hx ho hq (Nat.le_refl _) (by decide))
 clear M1 g l aj hx ho hq
 have aa:=M2.hi 2
 have y:=M2.hi 3
 have ah:=M2.hi 4
 obtain⟨ag,z,u,k,ae,ab,o,s,t,ad⟩:=(M2.bk 4).ten
 obtain⟨a1,a7,ay⟩:=(M2.bk 3).tri
 go_wp2_with fail
 clear ag z u k ae ab o s t ad a1 a7 ay
 refine(HP _ (M2.bn aL #[aA,aB,.slice p1 n am,free,step,aD,aG,aC,aF,.slice q1 m ao] (w2.heap.size)).ext).mono ?_
 rintro e w3 ⟨p5,a,q5,b,rfl,ho,hq,hx⟩
 have M3:=((M2.bn aL #[aA,aB,.slice p1 n am,free,step,aD,aG,aC,aF,.slice q1 m ao] (w2.heap.size)).own2 hx ho hq (Nat.le_refl _) (by decide))
 clear M2 aa y ah hx ho hq HP HL
 have x:=M3.hi 2
 have h:=M3.hi 5
 have ak:=M3.hi 6
 have ai:=M3.hi 7
 obtain⟨d0,bc,d1,ax,d2,aq,d3,av,d4,bb,d5,a9,d6,a0,d7,a6,d8,a8,d9,ar⟩:=(M3.bk 2).tenf
 have hd:decide (back<0)=false:=by simp;omega
 go_upto_region 16 with fail
 clear d0 bc d1 ax d2 aq d3 av d4 bb d5 a9 d6 a0 d7 a6 d8 a8 d9 ar x h ak ai
 have M4:=(M3.put10 (i:=2) rfl (.int .i64 aA) (.int .i64 aB) (.slice p5 n a) (.int .i64 free) (.int .i64 step) (.int .i64 aD) (.int .i64 aG) (.int .i64 aC) (.int .i64 bank2) (.slice q5 m b))
 generalize c:World.setCell _ _ _=w4
 rw[c]at M4
 clear c M3
 have M5:=(M4.adv ((Ext.refl _).alloc (.cells #[aA,aB,.slice p5 n a,free,step,aD,aG,aC,bank2,.slice q5 m b] aL)))
 generalize (w4.alloc (.cells #[aA,aB,.slice p5 n a,free,step,aD,aG,aC,bank2,.slice q5 m b] aL))=w5 at M5⊢
 clear M4
 have r:=M5.hi 2
 have j:=M5.hi 5
 have af:=M5.hi 6
 have al:=M5.hi 7
 obtain⟨e0,e1,e2,e3,e4,e5,e6,e7,e8,e9⟩:=(M5.bk 2).ten
 obtain⟨f0,bd,f1,a4,f2,ba,f3,au,f4,az,f5,aw,f6,a5,f7,a2,f8,a3,f9,ap⟩:=(M5.bk 5).tenf
 obtain⟨d,f⟩:=M5.nq 2 5
 go_wp2
 clear e0 e1 e2 e3 e4 e5 e6 e7 e8 e9 f0 bd f1 a4 f2 ba f3 au f4 az f5 aw f6 a5 f7 a2 f8 a3 f9 ap d f r j af al
 have M6:=(M5.put10 (i:=5) rfl (.int .i64 aA) (.int .i64 aB) (.slice p5 n a) (.int .i64 free) (.int .i64 step) (.int .i64 aD) (.int .i64 aG) (.int .i64 aC) (.int .i64 bank2) (.slice q5 m b))
 generalize c:World.setCell _ _ _=wz
 rw[c]at M6
 clear c M5
 obtain⟨y0,y1,y2,y3,y4,y5,y6,y7,y8,y9⟩:=(M6.bk 5).ten
 exact bodyPost_ret (v:= .tuple #[.agg #[aA,aB,.slice p5 n a,free,step,aD,aG,aC,bank2,.slice q5 m b],back,.bool true]) (by simp[results,Tryz.results28,go_sem, *]) rfl ⟨p5,a,q5,b,rfl,(M6.ow 0),(M6.ow 1),M6.ext⟩
theorem vF (aA aB free step aD aG aC aF one two:Int)(p:OA)(n cap:Nat)(q:OA)(m c2:Nat)(xs:List Int)(vs:List aP)(w:World)
  (HVd:xB 40 #[.agg #[aA,aB,.slice p n cap,free,step,aD,aG,aC,aF,.slice q m c2]] w true)
  (HL:xC 60 #[.agg #[aA,aB,.slice p n cap,free,step,aD,aG,aC,aF,.slice q m c2]] w fun w' e w''=> ∃p' cap' q' c2',e= .returned (.agg #[aA,aB,.slice p' n cap',free,step,aD,aG,aC,aF,.slice q' m c2'])∧w''.ownsRow w'.heap.size TI 1 (.slice p' n cap') n (ivs xs)∧w''.ownsRow w'.heap.size TV 4 (.slice q' m c2') m (vs.flatMap aE)∧Ext w' w'')
  (HP:xC 73 #[.agg #[aA,aB,.slice p n cap,free,step,aD,aG,aC,aF,.slice q m c2],one,two] w fun w' e w''=> ∃p' cap' q' c2' b,e= .returned (.tuple #[.agg #[aA,aB,.slice p' n cap',free,step,aD,aG,aC,aF,.slice q' m c2'],b,.bool false])∧Ext w' w''):
  Calls Tryz.prog 28 #[.agg #[aA,aB,.slice p n cap,free,step,aD,aG,aC,aF,.slice q m c2],.agg #[.int .i64 1,one,two]] w fun e w'=> ∃p' cap' q' c2',e= .returned (.tuple #[.agg #[aA,aB,.slice p' n cap',free,step,aD,aG,aC,aF,.slice q' m c2'],(-1:Int),.bool false])∧w'.ownsRow w.heap.size TI 1 (.slice p' n cap') n (ivs xs)∧w'.ownsRow w.heap.size TV 4 (.slice q' m c2') m (vs.flatMap aE)∧Ext w w':=by
 go_enter Tryz.func28,Tryz.ntmps28
 go_wp2_with fail
 refine(HVd _ ((((Mem.start w).bn aL #[aA,aB,.slice p n cap,free,step,aD,aG,aC,aF,.slice q m c2] (w.heap.size)).bn THD #[.int .i64 1,one,two] (w.heap.size+1)).bn aL #[(),(),((),()),(),(),(),(),(),(),((),())] (w.heap.size+1+1)).ext).mono ?_
 rintro e w1 ⟨rfl,am⟩
 have M1:=(((((Mem.start w).bn aL #[aA,aB,.slice p n cap,free,step,aD,aG,aC,aF,.slice q m c2] (w.heap.size)).bn THD #[.int .i64 1,one,two] (w.heap.size+1)).bn aL #[(),(),((),()),(),(),(),(),(),(),((),())] (w.heap.size+1+1)).adv am)
 have r:=M1.hi 0
 have u:=M1.hi 1
 have aj:=M1.hi 2
 clear am HVd
 obtain⟨o,h,g,a,l,j,c,d,f,k⟩:=(M1.bk 2).ten
 go_wp2_with fail
 clear o h g a l j c d f k
 refine(HL _ M1.ext).mono ?_
 rintro e w2 ⟨p1,al,q1,aq,rfl,ho,hq,hx⟩
 have M2:=(M1.own2 hx ho hq (Nat.le_refl _) (by decide))
 clear M1 r u aj hx ho hq
 have ad:=M2.hi 2
 have ab:=M2.hi 3
 have ai:=M2.hi 4
 obtain⟨o,h,g,a,l,j,c,d,f,k⟩:=(M2.bk 4).ten
 obtain⟨ay,a3,aw⟩:=(M2.bk 3).tri
 go_wp2_with fail
 clear o h g a l j c d f k ay a3 aw
 refine(HP _ (M2.bn aL #[aA,aB,.slice p1 n al,free,step,aD,aG,aC,aF,.slice q1 m aq] (w2.heap.size)).ext).mono ?_
 rintro e w3 ⟨p5,an,q5,ap,b5,rfl,hx⟩
 have M3:=((M2.bn aL #[aA,aB,.slice p1 n al,free,step,aD,aG,aC,aF,.slice q1 m aq] (w2.heap.size)).adv hx)
 clear M2 ad ab ai hx HP
 have t:=M3.hi 0
 have ah:=M3.hi 3
 have af:=M3.hi 4
 have s:=M3.hi 5
 obtain⟨o,h,g,a,l,j,c,d,f,k⟩:=(M3.bk 5).ten
 go_wp2_with fail
 clear o h g a l j c d f k
 refine(HL _ (M3.bn aL #[aA,aB,.slice p5 n an,free,step,aD,aG,aC,aF,.slice q5 m ap] (w3.heap.size)).ext).mono ?_
 rintro e w9 ⟨p9,ak,q9,x,rfl,ho,hq,hx⟩
 have M4:=((M3.bn aL #[aA,aB,.slice p5 n an,free,step,aD,aG,aC,aF,.slice q5 m ap] (w3.heap.size)).own2 hx ho hq (Nat.le_refl _) (by decide))
 clear M3 t ah af s hx ho hq HL
 have z:=M4.hi 2
 have aa:=M4.hi 3
 have ae:=M4.hi 6
 have y:=M4.hi 7
 have ag:=M4.hi 8
 obtain⟨f0,a5,f1,a1,f2,a4,f3,au,f4,ax,f5,av,f6,a2,f7,az,f8,a0,f9,ar⟩:=(M4.bk 6).tenf
 go_wp2
 clear f0 a5 f1 a1 f2 a4 f3 au f4 ax f5 av f6 a2 f7 az f8 a0 f9 ar z aa ae y ag
 have M5:=(M4.put10 (i:=6) rfl (.int .i64 aA) (.int .i64 aB) (.slice p9 n ak) (.int .i64 free) (.int .i64 step) (.int .i64 aD) (.int .i64 aG) (.int .i64 aC) (.int .i64 aF) (.slice q9 m x))
 generalize ao:World.setCell _ _ _=wz
 rw[ao]at M5
 clear ao M4
 obtain⟨y0,y1,y2,y3,y4,y5,y6,y7,y8,y9⟩:=(M5.bk 6).ten
 exact bodyPost_ret (v:= .tuple #[.agg #[aA,aB,.slice p9 n ak,free,step,aD,aG,aC,aF,.slice q9 m x],(-1:Int),.bool false]) (by simp[results,Tryz.results28,go_sem, *]) rfl ⟨p9,ak,q9,x,rfl,(M5.ow 0),(M5.ow 1),M5.ext⟩
theorem qZ (aA aB free step aD aG aC aF one two:Int)(p:OA)(n cap:Nat)(q:OA)(m c2:Nat)(xs ys:List Int)(vs:List aP)(w:World)
  (HVd:xB 40 #[.agg #[aA,aB,.slice p n cap,free,step,aD,aG,aC,aF,.slice q m c2]] w true)
  (HL:xC 60 #[.agg #[aA,aB,.slice p n cap,free,step,aD,aG,aC,aF,.slice q m c2]] w fun w' e w''=> ∃p' cap' q' c2',e= .returned (.agg #[aA,aB,.slice p' n cap',free,step,aD,aG,aC,aF,.slice q' m c2'])∧w''.ownsRow w'.heap.size TI 1 (.slice p' n cap') n (ivs xs)∧w''.ownsRow w'.heap.size TV 4 (.slice q' m c2') m (vs.flatMap aE)∧Ext w' w'')
  (HP:xC 78 #[aH aA aB p n cap,dS one two] w fun w' e w''=> ∃p' cap',e= .returned (.tuple #[aH aA aB p' n cap',.bool true])∧w''.ownsRow w'.heap.size TI 1 (.slice p' n cap') n (ivs ys)∧Ext w' w''):
  Calls Tryz.prog 28 #[.agg #[aA,aB,.slice p n cap,free,step,aD,aG,aC,aF,.slice q m c2],.agg #[.int .i64 4,one,two]] w fun e w'=> ∃p' cap' q' c2',e= .returned (.tuple #[.agg #[aA,aB,.slice p' n cap',free,step,aD,aG,aC,aF,.slice q' m c2'],(),.bool true])∧w'.ownsRow w.heap.size TI 1 (.slice p' n cap') n (ivs ys)∧w'.ownsRow w.heap.size TV 4 (.slice q' m c2') m (vs.flatMap aE)∧Ext w w':=by
 go_enter Tryz.func28,Tryz.ntmps28
 go_wp2_with fail
 refine(HVd _ ((((Mem.start w).bn aL #[aA,aB,.slice p n cap,free,step,aD,aG,aC,aF,.slice q m c2] (w.heap.size)).bn THD #[.int .i64 4,one,two] (w.heap.size+1)).bn aL #[(),(),((),()),(),(),(),(),(),(),((),())] (w.heap.size+1+1)).ext).mono ?_
 rintro e w1 ⟨rfl,an⟩
 have M1:=(((((Mem.start w).bn aL #[aA,aB,.slice p n cap,free,step,aD,aG,aC,aF,.slice q m c2] (w.heap.size)).bn THD #[.int .i64 4,one,two] (w.heap.size+1)).bn aL #[(),(),((),()),(),(),(),(),(),(),((),())] (w.heap.size+1+1)).adv an)
 have g:=M1.hi 0
 have k:=M1.hi 1
 have ak:=M1.hi 2
 clear an HVd
 obtain⟨ah,z,u,j,af,ab,l,o,t,ae⟩:=(M1.bk 2).ten
 go_wp2_with fail
 clear ah z u j af ab l o t ae
 refine(HL _ M1.ext).mono ?_
 rintro e w2 ⟨p1,am,q1,c,rfl,ho,hq,hx⟩
 have M2:=(M1.own2 hx ho hq (Nat.le_refl _) (by decide))
 clear M1 g k ak hx ho hq
 have aa:=M2.hi 2
 have x:=M2.hi 3
 have ai:=M2.hi 4
 obtain⟨ah,z,u,j,af,ab,l,o,t,ae⟩:=(M2.bk 4).ten
 obtain⟨a0,a6,ax⟩:=(M2.bk 3).tri
 go_wp2_with fail
 clear ah z u j af ab l o t ae a0 a6 ax
 refine(HP _ (M2.bn aL #[aA,aB,.slice p1 n am,free,step,aD,aG,aC,aF,.slice q1 m c] (w2.heap.size)).ext).mono ?_
 rintro e w3 ⟨p5,a,rfl,ho,hx⟩
 have M3:=((M2.bn aL #[aA,aB,.slice p1 n am,free,step,aD,aG,aC,aF,.slice q1 m c] (w2.heap.size)).call hx ho)
 clear M2 aa x ai hx ho HP HL
 have y:=M3.hi 1
 have ad:=M3.hi 4
 have h:=M3.hi 5
 have al:=M3.hi 6
 obtain⟨d0,bb,d1,aw,d2,ap,d3,au,d4,ba,d5,a8,d6,az,d7,a5,d8,a7,d9,aq⟩:=(M3.bk 1).tenf
 have M4:=(((M3.st 1 0 (.int .i64 aA)).st 1 1 (.int .i64 aB)).st 1 2 (.slice p5 n a))
 go_upto_region 32 with fail
 clear d0 bb d1 aw d2 ap d3 au d4 ba d5 a8 d6 az d7 a5 d8 a7 d9 aq y ad h al
 have M5:=(M4)
 generalize b:World.setCell _ _ _=w4
 rw[b]at M5
 clear b M3 M4
 have M6:=(M5.adv ((Ext.refl _).alloc (.cells #[aA,aB,.slice p5 n a] TH3)))
 generalize (w4.alloc (.cells #[aA,aB,.slice p5 n a] TH3))=w5 at M6⊢
 clear M5
 have aj:=M6.hi 1
 have s:=M6.hi 4
 have r:=M6.hi 5
 have ag:=M6.hi 6
 obtain⟨e0,e1,e2,e3,e4,e5,e6,e7,e8,e9⟩:=(M6.bk 1).ten
 obtain⟨f0,bc,f1,a3,f2,a9,f3,ar,f4,ay,f5,av,f6,a4,f7,a1,f8,a2,f9,ao⟩:=(M6.bk 4).tenf
 obtain⟨d,f⟩:=M6.nq 1 4
 go_wp2
 clear e0 e1 e2 e3 e4 e5 e6 e7 e8 e9 f0 bc f1 a3 f2 a9 f3 ar f4 ay f5 av f6 a4 f7 a1 f8 a2 f9 ao d f aj s r ag
 have M7:=(M6.put10 (i:=4) rfl (.int .i64 aA) (.int .i64 aB) (.slice p5 n a) (.int .i64 free) (.int .i64 step) (.int .i64 aD) (.int .i64 aG) (.int .i64 aC) (.int .i64 aF) (.slice q1 m c))
 generalize b:World.setCell _ _ _=wz
 rw[b]at M7
 clear b M6
 obtain⟨y0,y1,y2,y3,y4,y5,y6,y7,y8,y9⟩:=(M7.bk 4).ten
 exact bodyPost_ret (v:= .tuple #[.agg #[aA,aB,.slice p5 n a,free,step,aD,aG,aC,aF,.slice q1 m c],(),.bool true]) (by simp[results,Tryz.results28,go_sem, *]) rfl ⟨p5,a,q1,c,rfl,(M7.ow 0),(M7.ow 3),M7.ext⟩
theorem sY (aA aB free step aD aG aC aF one two:Int)(p:OA)(n cap:Nat)(q:OA)(m c2:Nat)(xs ys:List Int)(vs:List aP)(w:World)
  (HVd:xB 40 #[.agg #[aA,aB,.slice p n cap,free,step,aD,aG,aC,aF,.slice q m c2]] w true)
  (HL:xC 60 #[.agg #[aA,aB,.slice p n cap,free,step,aD,aG,aC,aF,.slice q m c2]] w fun w' e w''=> ∃p' cap' q' c2',e= .returned (.agg #[aA,aB,.slice p' n cap',free,step,aD,aG,aC,aF,.slice q' m c2'])∧w''.ownsRow w'.heap.size TI 1 (.slice p' n cap') n (ivs xs)∧w''.ownsRow w'.heap.size TV 4 (.slice q' m c2') m (vs.flatMap aE)∧Ext w' w'')
  (HP:xC 78 #[aH aA aB p n cap,dS one two] w fun w' e w''=> ∃p' cap',e= .returned (.tuple #[aH aA aB p' n cap',.bool false])∧w''.ownsRow w'.heap.size TI 1 (.slice p' n cap') n (ivs ys)∧Ext w' w''):
  Calls Tryz.prog 28 #[.agg #[aA,aB,.slice p n cap,free,step,aD,aG,aC,aF,.slice q m c2],.agg #[.int .i64 4,one,two]] w fun e w'=> ∃p' cap' q' c2',e= .returned (.tuple #[.agg #[aA,aB,.slice p' n cap',free,step,aD,aG,aC,aF,.slice q' m c2'],(-1:Int),.bool false])∧w'.ownsRow w.heap.size TI 1 (.slice p' n cap') n (ivs xs)∧w'.ownsRow w.heap.size TV 4 (.slice q' m c2') m (vs.flatMap aE)∧Ext w w':=by
 go_enter Tryz.func28,Tryz.ntmps28
 go_wp2_with fail
 refine(HVd _ ((((Mem.start w).bn aL #[aA,aB,.slice p n cap,free,step,aD,aG,aC,aF,.slice q m c2] (w.heap.size)).bn THD #[.int .i64 4,one,two] (w.heap.size+1)).bn aL #[(),(),((),()),(),(),(),(),(),(),((),())] (w.heap.size+1+1)).ext).mono ?_
 rintro e w1 ⟨rfl,al⟩
 have M1:=(((((Mem.start w).bn aL #[aA,aB,.slice p n cap,free,step,aD,aG,aC,aF,.slice q m c2] (w.heap.size)).bn THD #[.int .i64 4,one,two] (w.heap.size+1)).bn aL #[(),(),((),()),(),(),(),(),(),(),((),())] (w.heap.size+1+1)).adv al)
 have o:=M1.hi 0
 have s:=M1.hi 1
 have ag:=M1.hi 2
 clear al HVd
 obtain⟨l,g,f,a,k,h,b,c,d,j⟩:=(M1.bk 2).ten
 go_wp2_with fail
 clear l g f a k h b c d j
 refine(HL _ M1.ext).mono ?_
 rintro e w2 ⟨p1,ak,q1,ao,rfl,ho,hq,hx⟩
 have M2:=(M1.own2 hx ho hq (Nat.le_refl _) (by decide))
 clear M1 o s ag hx ho hq
 have ab:=M2.hi 2
 have z:=M2.hi 3
 have af:=M2.hi 4
 obtain⟨l,g,f,a,k,h,b,c,d,j⟩:=(M2.bk 4).ten
 obtain⟨aw,a1,au⟩:=(M2.bk 3).tri
 go_wp2_with fail
 clear l g f a k h b c d j aw a1 au
 refine(HP _ (M2.bn aL #[aA,aB,.slice p1 n ak,free,step,aD,aG,aC,aF,.slice q1 m ao] (w2.heap.size)).ext).mono ?_
 rintro e w3 ⟨p5,am,rfl,ho,hx⟩
 have M3:=((M2.bn aL #[aA,aB,.slice p1 n ak,free,step,aD,aG,aC,aF,.slice q1 m ao] (w2.heap.size)).call hx ho)
 clear M2 ab z af hx ho HP
 have aa:=M3.hi 1
 have ad:=M3.hi 4
 have r:=M3.hi 5
 have ai:=M3.hi 6
 obtain⟨l,g,f,a,k,h,b,c,d,j⟩:=(M3.bk 6).ten
 go_wp2_with fail
 clear l g f a k h b c d j
 refine(HL _ (M3.bn TH3 #[aA,aB,.slice p5 n am] (w3.heap.size)).ext).mono ?_
 rintro e w9 ⟨p9,aj,q9,t,rfl,ho,hq,hx⟩
 have M4:=((M3.bn TH3 #[aA,aB,.slice p5 n am] (w3.heap.size)).own2 hx ho hq (Nat.le_refl _) (by decide))
 clear M3 aa ad r ai hx ho hq HL
 have y:=M4.hi 2
 have x:=M4.hi 4
 have u:=M4.hi 7
 have ae:=M4.hi 8
 have ah:=M4.hi 9
 obtain⟨f0,a3,f1,az,f2,a2,f3,aq,f4,av,f5,ar,f6,a0,f7,ax,f8,ay,f9,ap⟩:=(M4.bk 7).tenf
 go_wp2
 clear f0 a3 f1 az f2 a2 f3 aq f4 av f5 ar f6 a0 f7 ax f8 ay f9 ap y x u ae ah
 have M5:=(M4.put10 (i:=7) rfl (.int .i64 aA) (.int .i64 aB) (.slice p9 n aj) (.int .i64 free) (.int .i64 step) (.int .i64 aD) (.int .i64 aG) (.int .i64 aC) (.int .i64 aF) (.slice q9 m t))
 generalize an:World.setCell _ _ _=wz
 rw[an]at M5
 clear an M4
 obtain⟨y0,y1,y2,y3,y4,y5,y6,y7,y8,y9⟩:=(M5.bk 7).ten
 exact bodyPost_ret (v:= .tuple #[.agg #[aA,aB,.slice p9 n aj,free,step,aD,aG,aC,aF,.slice q9 m t],(-1:Int),.bool false]) (by simp[results,Tryz.results28,go_sem, *]) rfl ⟨p9,aj,q9,t,rfl,(M5.ow 0),(M5.ow 1),M5.ext⟩
theorem qY (aA aB free step aD aG aC aF slides one two:Int)(p:OA)(n cap:Nat)(q:OA)(m c2:Nat)(xs ys:List Int)(vs vs2:List aP)(w:World)(h0:0≤slides)
  (HVd:xB 40 #[.agg #[aA,aB,.slice p n cap,free,step,aD,aG,aC,aF,.slice q m c2]] w true)
  (HL:xC 60 #[.agg #[aA,aB,.slice p n cap,free,step,aD,aG,aC,aF,.slice q m c2]] w fun w' e w''=> ∃p' cap' q' c2',e= .returned (.agg #[aA,aB,.slice p' n cap',free,step,aD,aG,aC,aF,.slice q' m c2'])∧w''.ownsRow w'.heap.size TI 1 (.slice p' n cap') n (ivs xs)∧w''.ownsRow w'.heap.size TV 4 (.slice q' m c2') m (vs.flatMap aE)∧Ext w' w'')
  (HP:xC 71 #[aH aA aB p n cap,one] w fun w' e w''=> ∃p' cap',e= .returned (.tuple #[aH aA aB p' n cap',slides])∧w''.ownsRow w'.heap.size TI 1 (.slice p' n cap') n (ivs ys)∧Ext w' w'')
  (HQ:xC 72 #[.slice q m c2,.agg #[one,aC,(),aC]] w fun w' e w''=> ∃q' c',e= .returned (.slice q' (m+1) c')∧w''.ownsRow w'.heap.size TV 4 (.slice q' (m+1) c') (m+1) (vs2.flatMap aE)∧Ext w' w''):
  Calls Tryz.prog 28 #[.agg #[aA,aB,.slice p n cap,free,step,aD,aG,aC,aF,.slice q m c2],.agg #[(),one,two]] w fun e w'=> ∃p' cap' q' c2',e= .returned (.tuple #[.agg #[aA,aB,.slice p' n cap',free,step,aD,aG,aC,aF,.slice q' (m+1) c2'],slides,.bool true])∧w'.ownsRow w.heap.size TI 1 (.slice p' n cap') n (ivs ys)∧w'.ownsRow w.heap.size TV 4 (.slice q' (m+1) c2') (m+1) (vs2.flatMap aE)∧Ext w w':=by
 go_enter Tryz.func28,Tryz.ntmps28
 go_wp2_with fail
 refine(HVd _ ((((Mem.start w).bn aL #[aA,aB,.slice p n cap,free,step,aD,aG,aC,aF,.slice q m c2] (w.heap.size)).bn THD #[(),one,two] (w.heap.size+1)).bn aL #[(),(),((),()),(),(),(),(),(),(),((),())] (w.heap.size+1+1)).ext).mono ?_
 rintro e w1 ⟨rfl,aq⟩
 have M1:=(((((Mem.start w).bn aL #[aA,aB,.slice p n cap,free,step,aD,aG,aC,aF,.slice q m c2] (w.heap.size)).bn THD #[(),one,two] (w.heap.size+1)).bn aL #[(),(),((),()),(),(),(),(),(),(),((),())] (w.heap.size+1+1)).adv aq)
 have l:=M1.hi 0
 have t:=M1.hi 1
 have am:=M1.hi 2
 clear aq HVd
 obtain⟨ak,ad,z,s,ai,af,u,d,y,f⟩:=(M1.bk 2).ten
 go_wp2_with fail
 clear ak ad z s ai af u d y f
 refine(HL _ M1.ext).mono ?_
 rintro e w2 ⟨p1,ap,q1,au,rfl,ho,hq,hx⟩
 have M2:=(M1.own2 hx ho hq (Nat.le_refl _) (by decide))
 clear M1 l t am hx ho hq
 have ae:=M2.hi 2
 have aa:=M2.hi 3
 have al:=M2.hi 4
 obtain⟨ak,ad,z,s,ai,af,u,d,y,f⟩:=(M2.bk 4).ten
 obtain⟨a6,ah,a4⟩:=(M2.bk 3).tri
 go_wp2_with fail
 clear ak ad z s ai af u d y f a6 ah a4
 refine(HP _ (M2.bn aL #[aA,aB,.slice p1 n ap,free,step,aD,aG,aC,aF,.slice q1 m au] (w2.heap.size)).ext).mono ?_
 rintro e w3 ⟨p5,c,rfl,ho,hx⟩
 have M3:=((M2.bn aL #[aA,aB,.slice p1 n ap,free,step,aD,aG,aC,aF,.slice q1 m au] (w2.heap.size)).call hx ho)
 clear M2 ae aa al hx ho HP HL
 have ab:=M3.hi 1
 have ag:=M3.hi 4
 have o:=M3.hi 5
 have an:=M3.hi 6
 have d0:=(M3.bk 1).cl 0
 have bh:=(M3.bk 1).frozen 0
 have d1:=(M3.bk 1).cl 1
 have a2:=(M3.bk 1).frozen 1
 have d2:=(M3.bk 1).cl 2
 have aw:=(M3.bk 1).frozen 2
 have d:=(M3.bk 6).cl 7
 have f:=(M3.bk 6).cl 9
 have ah:=(M3.bk 5).cl 1
 obtain⟨a,b⟩:=M3.nq 5 6
 obtain⟨j,h⟩:=M3.nq 1 6
 obtain⟨g,k⟩:=M3.nq 1 5
 have hd:decide (slides<0)=false:=by simp;omega
 have bl:decide (0≤slides)=true:=by simp;omega
 have M4:=(((M3.st 1 0 (.int .i64 aA)).st 1 1 (.int .i64 aB)).st 1 2 (.slice p5 n c))
 go_wp2_with fail
 clear d0 bh d1 a2 d2 aw d f ah a b j h g k
 refine(HQ _ (M4.adv ((Ext.refl _).alloc (.cells #[aA,aB,.slice p5 n c] TH3))).ext).mono ?_
 rintro e w4 ⟨q7,c7,rfl,ho,hx⟩
 have M5:=((M4.adv ((Ext.refl _).alloc (.cells #[aA,aB,.slice p5 n c] TH3))).call hx ho)
 clear M3 ab ag o an hx ho HQ
 have x:=M5.hi 2
 have r:=M5.hi 5
 have aj:=M5.hi 6
 have ao:=M5.hi 7
 obtain⟨e0,ba,e1,a3,e2,a0,e3,ay,e4,bf,e5,bg,e6,ax,e7,bi,e8,bd,e9,bc⟩:=(M5.bk 2).tenf
 obtain⟨f0,bj,f1,a9,f2,be,f3,az,f4,a5,f5,a1,f6,bb,f7,a7,f8,a8,f9,av⟩:=(M5.bk 5).tenf
 obtain⟨a,b⟩:=M5.nq 2 5
 have M6:=(M5.st 2 9 (.slice q7 (m+1) c7))
 go_wp2
 clear e0 ba e1 a3 e2 a0 e3 ay e4 bf e5 bg e6 ax e7 bi e8 bd e9 bc f0 bj f1 a9 f2 be f3 az f4 a5 f5 a1 f6 bb f7 a7 f8 a8 f9 av a b x r aj ao
 have M7:=(M6.put10 (i:=5) rfl (.int .i64 aA) (.int .i64 aB) (.slice p5 n c) (.int .i64 free) (.int .i64 step) (.int .i64 aD) (.int .i64 aG) (.int .i64 aC) (.int .i64 aF) (.slice q7 (m+1) c7))
 generalize ar:World.setCell _ _ _=wz
 rw[ar]at M7
 clear ar M5 M4 M6
 obtain⟨y0,y1,y2,y3,y4,y5,y6,y7,y8,y9⟩:=(M7.bk 5).ten
 exact bodyPost_ret (v:= .tuple #[.agg #[aA,aB,.slice p5 n c,free,step,aD,aG,aC,aF,.slice q7 (m+1) c7],slides,.bool true]) (by simp[results,Tryz.results28,go_sem, *]) rfl ⟨p5,c,q7,c7,rfl,(M7.ow 1),(M7.ow 0),M7.ext⟩
theorem sX (aA aB free step aD aG aC aF slides one two:Int)(p:OA)(n cap:Nat)(q:OA)(m c2:Nat)(xs ys:List Int)(vs:List aP)(w:World)(h0:slides<0)
  (HVd:xB 40 #[.agg #[aA,aB,.slice p n cap,free,step,aD,aG,aC,aF,.slice q m c2]] w true)
  (HL:xC 60 #[.agg #[aA,aB,.slice p n cap,free,step,aD,aG,aC,aF,.slice q m c2]] w fun w' e w''=> ∃p' cap' q' c2',e= .returned (.agg #[aA,aB,.slice p' n cap',free,step,aD,aG,aC,aF,.slice q' m c2'])∧w''.ownsRow w'.heap.size TI 1 (.slice p' n cap') n (ivs xs)∧w''.ownsRow w'.heap.size TV 4 (.slice q' m c2') m (vs.flatMap aE)∧Ext w' w'')
  (HP:xC 71 #[aH aA aB p n cap,one] w fun w' e w''=> ∃p' cap',e= .returned (.tuple #[aH aA aB p' n cap',slides])∧w''.ownsRow w'.heap.size TI 1 (.slice p' n cap') n (ivs ys)∧Ext w' w''):
  Calls Tryz.prog 28 #[.agg #[aA,aB,.slice p n cap,free,step,aD,aG,aC,aF,.slice q m c2],.agg #[(),one,two]] w fun e w'=> ∃p' cap' q' c2',e= .returned (.tuple #[.agg #[aA,aB,.slice p' n cap',free,step,aD,aG,aC,aF,.slice q' m c2'],(-1:Int),.bool false])∧w'.ownsRow w.heap.size TI 1 (.slice p' n cap') n (ivs xs)∧w'.ownsRow w.heap.size TV 4 (.slice q' m c2') m (vs.flatMap aE)∧Ext w w':=by
 go_enter Tryz.func28,Tryz.ntmps28
 go_wp2_with fail
 refine(HVd _ ((((Mem.start w).bn aL #[aA,aB,.slice p n cap,free,step,aD,aG,aC,aF,.slice q m c2] (w.heap.size)).bn THD #[(),one,two] (w.heap.size+1)).bn aL #[(),(),((),()),(),(),(),(),(),(),((),())] (w.heap.size+1+1)).ext).mono ?_
 rintro e w1 ⟨rfl,al⟩
 have M1:=(((((Mem.start w).bn aL #[aA,aB,.slice p n cap,free,step,aD,aG,aC,aF,.slice q m c2] (w.heap.size)).bn THD #[(),one,two] (w.heap.size+1)).bn aL #[(),(),((),()),(),(),(),(),(),(),((),())] (w.heap.size+1+1)).adv al)
 have o:=M1.hi 0
 have s:=M1.hi 1
 have ag:=M1.hi 2
 clear al HVd
 obtain⟨l,g,f,a,k,h,b,c,d,j⟩:=(M1.bk 2).ten
 go_wp2_with fail
 clear l g f a k h b c d j
 refine(HL _ M1.ext).mono ?_
 rintro e w2 ⟨p1,ak,q1,ao,rfl,ho,hq,hx⟩
 have M2:=(M1.own2 hx ho hq (Nat.le_refl _) (by decide))
 clear M1 o s ag hx ho hq
 have ab:=M2.hi 2
 have z:=M2.hi 3
 have af:=M2.hi 4
 obtain⟨l,g,f,a,k,h,b,c,d,j⟩:=(M2.bk 4).ten
 obtain⟨aw,a1,au⟩:=(M2.bk 3).tri
 go_wp2_with fail
 clear l g f a k h b c d j aw a1 au
 refine(HP _ (M2.bn aL #[aA,aB,.slice p1 n ak,free,step,aD,aG,aC,aF,.slice q1 m ao] (w2.heap.size)).ext).mono ?_
 rintro e w3 ⟨p5,am,rfl,ho,hx⟩
 have M3:=((M2.bn aL #[aA,aB,.slice p1 n ak,free,step,aD,aG,aC,aF,.slice q1 m ao] (w2.heap.size)).call hx ho)
 clear M2 ab z af hx ho HP
 have aa:=M3.hi 1
 have ad:=M3.hi 4
 have r:=M3.hi 5
 have ai:=M3.hi 6
 have a4:decide (0≤slides)=false:=by simp;omega
 obtain⟨l,g,f,a,k,h,b,c,d,j⟩:=(M3.bk 6).ten
 go_wp2_with fail
 clear l g f a k h b c d j
 refine(HL _ (M3.bn TH3 #[aA,aB,.slice p5 n am] (w3.heap.size)).ext).mono ?_
 rintro e w9 ⟨p9,aj,q9,t,rfl,ho,hq,hx⟩
 have M4:=((M3.bn TH3 #[aA,aB,.slice p5 n am] (w3.heap.size)).own2 hx ho hq (Nat.le_refl _) (by decide))
 clear M3 aa ad r ai hx ho hq HL
 have y:=M4.hi 2
 have x:=M4.hi 4
 have u:=M4.hi 7
 have ae:=M4.hi 8
 have ah:=M4.hi 9
 obtain⟨f0,a3,f1,az,f2,a2,f3,aq,f4,av,f5,ar,f6,a0,f7,ax,f8,ay,f9,ap⟩:=(M4.bk 7).tenf
 go_wp2
 clear f0 a3 f1 az f2 a2 f3 aq f4 av f5 ar f6 a0 f7 ax f8 ay f9 ap y x u ae ah
 have M5:=(M4.put10 (i:=7) rfl (.int .i64 aA) (.int .i64 aB) (.slice p9 n aj) (.int .i64 free) (.int .i64 step) (.int .i64 aD) (.int .i64 aG) (.int .i64 aC) (.int .i64 aF) (.slice q9 m t))
 generalize an:World.setCell _ _ _=wz
 rw[an]at M5
 clear an M4
 obtain⟨y0,y1,y2,y3,y4,y5,y6,y7,y8,y9⟩:=(M5.bk 7).ten
 exact bodyPost_ret (v:= .tuple #[.agg #[aA,aB,.slice p9 n aj,free,step,aD,aG,aC,aF,.slice q9 m t],(-1:Int),.bool false]) (by simp[results,Tryz.results28,go_sem, *]) rfl ⟨p9,aj,q9,t,rfl,(M5.ow 0),(M5.ow 1),M5.ext⟩
theorem sZ (aA aB free step aD aG aC aF slides ix one two:Int)(p:OA)(n cap:Nat)(q:OA)(m c2:Nat)(xs ys:List Int)(vs:List aP)(w:World)(mb:Bool)(hno:mb=true→slides<0)
  (HVd:xB 40 #[.agg #[aA,aB,.slice p n cap,free,step,aD,aG,aC,aF,.slice q m c2]] w true)
  (HL:xC 60 #[.agg #[aA,aB,.slice p n cap,free,step,aD,aG,aC,aF,.slice q m c2]] w fun w' e w''=> ∃p' cap' q' c2',e= .returned (.agg #[aA,aB,.slice p' n cap',free,step,aD,aG,aC,aF,.slice q' m c2'])∧w''.ownsRow w'.heap.size TI 1 (.slice p' n cap') n (ivs xs)∧w''.ownsRow w'.heap.size TV 4 (.slice q' m c2') m (vs.flatMap aE)∧Ext w' w'')
  (HP:xC 74 #[aH aA aB p n cap,one] w fun w' e w''=> ∃p' cap',e= .returned (.tuple #[aH aA aB p' n cap',slides])∧w''.ownsRow w'.heap.size TI 1 (.slice p' n cap') n (ivs ys)∧Ext w' w'')
  (HF:xC 75 #[.agg #[aA,aB,.slice p n cap,free,step,aD,aG,aC,aF,.slice q m c2],one] w fun w' e w''=>e= .returned (.int .i64 (ix))∧Ext w' w'')
  (HM:xB 76 #[.agg #[aA,aB,.slice p n cap,free,step,aD,aG,aC,aF,.slice q m c2],one] w mb):
  Calls Tryz.prog 28 #[.agg #[aA,aB,.slice p n cap,free,step,aD,aG,aC,aF,.slice q m c2],.agg #[.int .i64 2,one,two]] w fun e w'=> ∃p' cap' q' c2',e= .returned (.tuple #[.agg #[aA,aB,.slice p' n cap',free,step,aD,aG,aC,aF,.slice q' m c2'],(-1:Int),.bool false])∧w'.ownsRow w.heap.size TI 1 (.slice p' n cap') n (ivs xs)∧w'.ownsRow w.heap.size TV 4 (.slice q' m c2') m (vs.flatMap aE)∧Ext w w':=by
 go_enter Tryz.func28,Tryz.ntmps28
 go_wp2_with fail
 refine(HVd _ ((((Mem.start w).bn aL #[aA,aB,.slice p n cap,free,step,aD,aG,aC,aF,.slice q m c2] (w.heap.size)).bn THD #[.int .i64 2,one,two] (w.heap.size+1)).bn aL #[(),(),((),()),(),(),(),(),(),(),((),())] (w.heap.size+1+1)).ext).mono ?_
 rintro e w1 ⟨rfl,bd⟩
 have M1:=(((((Mem.start w).bn aL #[aA,aB,.slice p n cap,free,step,aD,aG,aC,aF,.slice q m c2] (w.heap.size)).bn THD #[.int .i64 2,one,two] (w.heap.size+1)).bn aL #[(),(),((),()),(),(),(),(),(),(),((),())] (w.heap.size+1+1)).adv bd)
 have aj:=M1.hi 0
 have ap:=M1.hi 1
 have a7:=M1.hi 2
 clear bd HVd
 obtain⟨l,g,f,a,k,h,b,c,d,j⟩:=(M1.bk 2).ten
 go_wp2_with fail
 clear l g f a k h b c d j
 refine(HL _ M1.ext).mono ?_
 rintro e w2 ⟨p1,ba,q1,bf,rfl,ho,hq,hx⟩
 have M2:=(M1.own2 hx ho hq (Nat.le_refl _) (by decide))
 clear M1 aj ap a7 hx ho hq
 have a2:=M2.hi 2
 have ay:=M2.hi 3
 have a5:=M2.hi 4
 obtain⟨l,g,f,a,k,h,b,c,d,j⟩:=(M2.bk 4).ten
 obtain⟨ae,af,ad⟩:=(M2.bk 3).tri
 go_wp2_with fail
 clear l g f a k h b c d j ae af ad
 refine(HP _ (M2.bn aL #[aA,aB,.slice p1 n ba,free,step,aD,aG,aC,aF,.slice q1 m bf] (w2.heap.size)).ext).mono ?_
 rintro e w3 ⟨p5,be,rfl,ho,hx⟩
 have M3:=((M2.bn aL #[aA,aB,.slice p1 n ba,free,step,aD,aG,aC,aF,.slice q1 m bf] (w2.heap.size)).call hx ho)
 clear M2 a2 ay a5 hx ho HP
 have az:=M3.hi 1
 have a4:=M3.hi 4
 have ak:=M3.hi 5
 have a9:=M3.hi 6
 obtain⟨l,g,f,a,k,h,b,c,d,j⟩:=(M3.bk 6).ten
 obtain⟨ae,af,ad⟩:=(M3.bk 5).tri
 go_wp2_with fail
 clear l g f a k h b c d j ae af ad
 refine(HF _ (M3.bn TH3 #[aA,aB,.slice p5 n be] (w3.heap.size)).ext).mono ?_
 rintro e w4 ⟨rfl,bc⟩
 have M4:=((M3.bn TH3 #[aA,aB,.slice p5 n be] (w3.heap.size)).adv bc)
 clear M3 az a4 ak a9 bc HF
 have au:=M4.hi 0
 have ax:=M4.hi 2
 have ao:=M4.hi 5
 have a3:=M4.hi 6
 have aq:=M4.hi 7
 obtain⟨l,g,f,a,k,h,b,c,d,j⟩:=(M4.bk 7).ten
 obtain⟨ae,af,ad⟩:=(M4.bk 6).tri
 go_wp2_with fail
 clear l g f a k h b c d j ae af ad
 refine(HM _ M4.ext).mono ?_
 rintro e w5 ⟨rfl,bb⟩
 have M5:=(M4.adv bb)
 clear M4 au ax ao a3 aq bb HM
 have aa:=M5.hi 0
 have ab:=M5.hi 2
 have z:=M5.hi 5
 have ah:=M5.hi 6
 have ai:=M5.hi 7
 cases mb with
 |true=>
   have bg:decide (0≤slides)=false:=by simp;have:=hno rfl;omega
   obtain⟨l,g,f,a,k,h,b,c,d,j⟩:=(M5.bk 7).ten
   go_wp2_with fail
   clear l g f a k h b c d j
   refine(HL _ M5.ext).mono ?_
   rintro e w9 ⟨p9,y,q9,s,rfl,ho,hq,hx⟩
   have M6:=(M5.own2 hx ho hq (Nat.le_refl _) (by decide))
   clear M5 aa ab z ah ai hx ho hq HL
   have o:=M6.hi 2
   have t:=M6.hi 4
   have u:=M6.hi 7
   have x:=M6.hi 8
   have r:=M6.hi 9
   obtain⟨f0,a8,f1,a0,f2,a6,f3,am,f4,ar,f5,an,f6,a1,f7,av,f8,aw,f9,al⟩:=(M6.bk 7).tenf
   go_wp2
   clear f0 a8 f1 a0 f2 a6 f3 am f4 ar f5 an f6 a1 f7 av f8 aw f9 al o t u x r
   have M7:=(M6.put10 (i:=7) rfl (.int .i64 aA) (.int .i64 aB) (.slice p9 n y) (.int .i64 free) (.int .i64 step) (.int .i64 aD) (.int .i64 aG) (.int .i64 aC) (.int .i64 aF) (.slice q9 m s))
   generalize ag:World.setCell _ _ _=wz
   rw[ag]at M7
   clear ag M6
   obtain⟨y0,y1,y2,y3,y4,y5,y6,y7,y8,y9⟩:=(M7.bk 7).ten
   exact bodyPost_ret (v:= .tuple #[.agg #[aA,aB,.slice p9 n y,free,step,aD,aG,aC,aF,.slice q9 m s],(-1:Int),.bool false]) (by simp[results,Tryz.results28,go_sem, *]) rfl ⟨p9,y,q9,s,rfl,(M7.ow 0),(M7.ow 1),M7.ext⟩
 |false=>
   obtain⟨l,g,f,a,k,h,b,c,d,j⟩:=(M5.bk 7).ten
   go_wp2_with fail
   clear l g f a k h b c d j
   refine(HL _ M5.ext).mono ?_
   rintro e w9 ⟨p9,y,q9,s,rfl,ho,hq,hx⟩
   have M6:=(M5.own2 hx ho hq (Nat.le_refl _) (by decide))
   clear M5 aa ab z ah ai hx ho hq HL
   have o:=M6.hi 2
   have t:=M6.hi 4
   have u:=M6.hi 7
   have x:=M6.hi 8
   have r:=M6.hi 9
   obtain⟨f0,a8,f1,a0,f2,a6,f3,am,f4,ar,f5,an,f6,a1,f7,av,f8,aw,f9,al⟩:=(M6.bk 7).tenf
   go_wp2
   clear f0 a8 f1 a0 f2 a6 f3 am f4 ar f5 an f6 a1 f7 av f8 aw f9 al o t u x r
   have M7:=(M6.put10 (i:=7) rfl (.int .i64 aA) (.int .i64 aB) (.slice p9 n y) (.int .i64 free) (.int .i64 step) (.int .i64 aD) (.int .i64 aG) (.int .i64 aC) (.int .i64 aF) (.slice q9 m s))
   generalize ag:World.setCell _ _ _=wz
   rw[ag]at M7
   clear ag M6
   obtain⟨y0,y1,y2,y3,y4,y5,y6,y7,y8,y9⟩:=(M7.bk 7).ten
   exact bodyPost_ret (v:= .tuple #[.agg #[aA,aB,.slice p9 n y,free,step,aD,aG,aC,aF,.slice q9 m s],(-1:Int),.bool false]) (by simp[results,Tryz.results28,go_sem, *]) rfl ⟨p9,y,q9,s,rfl,(M7.ow 0),(M7.ow 1),M7.ext⟩
theorem aAc {w:World}{b off n cap k:Nat}{vs:List aP}(h:Sl w (some ⟨b,off,none⟩) n cap 4 (vs.flatMap aE))(hk:k≤n):Sl w (some ⟨b,off,none⟩) k cap 4 ((vs.take k).flatMap aE):=by
 have hl:=h.len
 have d:=h.le
 have c:=h.mx
 have e:(vs.take k).flatMap aE=(vs.flatMap aE).take (k*4):=by
  have h1:vs.flatMap aE=(vs.take k).flatMap aE++(vs.drop k).flatMap aE:=by rw[←List.flatMap_append,List.take_append_drop]
  have h2:vs.length=n:=by rw[dD aE 4 (fun _=>rfl)]at hl;omega
  have h3:((vs.take k).flatMap aE).length=k*4:=by rw[dD aE 4 (fun _=>rfl),List.length_take];omega
  rw[h1,←h3,List.take_left]
 rw[e]
 refine⟨by rw[List.length_take,hl];omega,by omega,by omega,fun h0=> ?_⟩
 obtain⟨b',a,e,hb,hc⟩:=h.rd (by omega)
 injection e with e;injection e with e1 e2
 subst e1 e2
 refine⟨_,_,rfl,hb,fun j hj=> ?_⟩
 rw[hc j (by omega),List.getElem?_take,if_pos hj]
theorem rA (aA aB free step aD aG aC aF slides one two:Int)(p:OA)(n cap:Nat)(b off m c2 k:Nat)(xs ys:List Int)(vs:List aP)(w:World)(h0:0≤slides)(hk:k<m)(hm:m≤1000)(hcc:k+1<c2)(HS:Hid (Sl w (some ⟨b,off,none⟩) m c2 4 (vs.flatMap aE)))
  (HVd:xB 40 #[.agg #[aA,aB,.slice p n cap,free,step,aD,aG,aC,aF,.slice (some ⟨b,off,none⟩) m c2]] w true)
  (HL:xC 60 #[.agg #[aA,aB,.slice p n cap,free,step,aD,aG,aC,aF,.slice (some ⟨b,off,none⟩) m c2]] w fun w' e w''=> ∃p' cap' q' c2',e= .returned (.agg #[aA,aB,.slice p' n cap',free,step,aD,aG,aC,aF,.slice q' m c2'])∧w''.ownsRow w'.heap.size TI 1 (.slice p' n cap') n (ivs xs)∧w''.ownsRow w'.heap.size TV 4 (.slice q' m c2') m (vs.flatMap aE)∧Ext w' w'')
  (HP:xC 74 #[aH aA aB p n cap,one] w fun w' e w''=> ∃p' cap',e= .returned (.tuple #[aH aA aB p' n cap',slides])∧w''.ownsRow w'.heap.size TI 1 (.slice p' n cap') n (ivs ys)∧Ext w' w'')
  (HF:xC 75 #[.agg #[aA,aB,.slice p n cap,free,step,aD,aG,aC,aF,.slice (some ⟨b,off,none⟩) m c2],one] w fun w' e w''=>e= .returned (.int .i64 (k:Int))∧Ext w' w'')
  (HM:xB 76 #[.agg #[aA,aB,.slice p n cap,free,step,aD,aG,aC,aF,.slice (some ⟨b,off,none⟩) m c2],one] w true):
  Calls Tryz.prog 28 #[.agg #[aA,aB,.slice p n cap,free,step,aD,aG,aC,aF,.slice (some ⟨b,off,none⟩) m c2],.agg #[.int .i64 2,one,two]] w fun e w'=> ∃p' cap' q' c2',e= .returned (.tuple #[.agg #[aA,aB,.slice p' n cap',free,step,aD,aG,aC,aF,.slice q' (m-1) c2'],slides,.bool true])∧w'.ownsRow w.heap.size TI 1 (.slice p' n cap') n (ivs ys)∧w'.ownsRow w.heap.size TV 4 (.slice q' (m-1) c2') (m-1) ((vs.take k++vs.drop (k+1)).flatMap aE)∧Ext w w':=by
 go_enter Tryz.func28,Tryz.ntmps28
 go_wp2_with fail
 refine(HVd _ ((((Mem.start w).bn aL #[aA,aB,.slice p n cap,free,step,aD,aG,aC,aF,.slice (some ⟨b,off,none⟩) m c2] (w.heap.size)).bn THD #[.int .i64 2,one,two] (w.heap.size+1)).bn aL #[(),(),((),()),(),(),(),(),(),(),((),())] (w.heap.size+1+1)).ext).mono ?_
 rintro e w1 ⟨rfl,br⟩
 have M1:=(((((Mem.start w).bn aL #[aA,aB,.slice p n cap,free,step,aD,aG,aC,aF,.slice (some ⟨b,off,none⟩) m c2] (w.heap.size)).bn THD #[.int .i64 2,one,two] (w.heap.size+1)).bn aL #[(),(),((),()),(),(),(),(),(),(),((),())] (w.heap.size+1+1)).adv br)
 have aj:=M1.hi 0
 have av:=M1.hi 1
 have bh:=M1.hi 2
 clear br HVd
 obtain⟨x,r,q,h,t,s,j,l,o,f⟩:=(M1.bk 2).ten
 go_wp2_with fail
 clear x r q h t s j l o f
 refine(HL _ M1.ext).mono ?_
 rintro e w2 ⟨p1,z,q1,g,rfl,ho,hq,hx⟩
 have M2:=(M1.own2 hx ho hq (Nat.le_refl _) (by decide))
 clear M1 aj av bh hx ho hq
 have a5:=M2.hi 2
 have a2:=M2.hi 3
 have bd:=M2.hi 4
 obtain⟨x,r,q,h,t,s,j,l,o,f⟩:=(M2.bk 4).ten
 obtain⟨ab,ad,aa⟩:=(M2.bk 3).tri
 go_wp2_with fail
 clear x r q h t s j l o f ab ad aa
 refine(HP _ (M2.bn aL #[aA,aB,.slice p1 n z,free,step,aD,aG,aC,aF,.slice q1 m g] (w2.heap.size)).ext).mono ?_
 rintro e w3 ⟨p5,a,rfl,ho,hx⟩
 have M3:=((M2.bn aL #[aA,aB,.slice p1 n z,free,step,aD,aG,aC,aF,.slice q1 m g] (w2.heap.size)).call hx ho)
 clear M2 a5 a2 bd hx ho HP
 have a3:=M3.hi 1
 have a7:=M3.hi 4
 have ak:=M3.hi 5
 have bi:=M3.hi 6
 obtain⟨x,r,q,h,t,s,j,l,o,f⟩:=(M3.bk 6).ten
 obtain⟨ab,ad,aa⟩:=(M3.bk 5).tri
 go_wp2_with fail
 clear x r q h t s j l o f ab ad aa
 refine(HF _ (M3.bn TH3 #[aA,aB,.slice p5 n a] (w3.heap.size)).ext).mono ?_
 rintro e w4 ⟨rfl,bq⟩
 have M4:=((M3.bn TH3 #[aA,aB,.slice p5 n a] (w3.heap.size)).adv bq)
 clear M3 a3 a7 ak bi bq HF
 have a0:=M4.hi 0
 have a1:=M4.hi 2
 have au:=M4.hi 5
 have a6:=M4.hi 6
 have ay:=M4.hi 7
 obtain⟨x,r,q,h,t,s,j,l,o,f⟩:=(M4.bk 7).ten
 obtain⟨ab,ad,aa⟩:=(M4.bk 6).tri
 go_wp2_with fail
 clear x r q h t s j l o f ab ad aa
 refine(HM _ M4.ext).mono ?_
 rintro e w5 ⟨rfl,bm⟩
 have M5:=(M4.adv bm)
 clear M4 a0 a1 au a6 ay bm HM
 have aq:=M5.hi 0
 have aw:=M5.hi 2
 have an:=M5.hi 5
 have bc:=M5.hi 6
 have bj:=M5.hi 7
 have hd:decide (slides<0)=false:=by simp;omega
 have cg:decide (0≤slides)=true:=by simp;omega
 clear HL
 obtain⟨d0,bf,d1,ar,d2,am,d3,ap,d4,be,d5,bb,d6,az,d7,a8,d8,ba,d9,ao⟩:=(M5.bk 2).tenf
 obtain⟨b4,bt,b6⟩:=(M5.bk 0).tri
 obtain⟨c,d⟩:=M5.nq 0 2
 go_upto_region 22 with fail
 clear d0 bf d1 ar d2 am d3 ap d4 be d5 bb d6 az d7 a8 d8 ba d9 ao b4 bt b6 c d aq aw an bc bj
 have M6:=(((M5.st 2 0 (.int .i64 aA)).st 2 1 (.int .i64 aB)).st 2 2 (.slice p5 n a))
 generalize ae:World.setCell _ _ _=w6
 rw[ae]at M6
 clear ae M5
 have a9:=M6.hi 0
 have al:=M6.hi 2
 have ax:=M6.hi 5
 have u:=M6.hi 6
 have y:=M6.hi 7
 have f:=(M6.bk 7).cl 9
 obtain⟨d0,bf,d1,ar,d2,am,d3,ap,d4,be,d5,bb,d6,az,d7,a8,d8,ba,d9,ao⟩:=(M6.bk 2).tenf
 obtain⟨c,d⟩:=M6.nq 2 7
 obtain⟨ah,ag⟩:=M6.nq 5 7
 obtain⟨af,ai⟩:=M6.nq 2 5
 have i1:(0:Int)≤(k:Int):=by omega
 have i2:(k:Int)≤(m:Int):=by omega
 have i3:(k:Int)≤(c2:Int):=by omega
 have i4:(k:Int)+1≤(m:Int):=by omega
 have i5:(0:Int)≤(k:Int)+1:=by omega
 have i6:((k:Int)+1).toNat=k+1:=by omega
 have i7:IntKind.i64.wrap ((k:Int)+1)=(k:Int)+1:=IntWalk.i64_in _ (by omega)
 have b5: ¬c2=k+1:=by omega
 have b2: ¬c2=0:=by omega
 go_cut [] (fun wx=> ∃(q9:OA) (c9:Nat),Mem w wx [aJ w.heap.size TV 4 (q9) (m-1) (c9) ((vs.take k++vs.drop (k+1)).flatMap aE),aI w.heap.size (w3.heap.size) TH3 #[aA,aB,.slice p5 n a],aJ w.heap.size TI 1 (p5) (n) (a) (ivs ys),aI w.heap.size (w2.heap.size) aL #[aA,aB,.slice p5 n a,free,step,aD,aG,aC,aF,.slice q9 (m-1) c9],aJ w.heap.size TI 1 (p1) (n) (z) (ivs xs),aJ w.heap.size TV 4 (q1) (m) (g) (vs.flatMap aE),aI w.heap.size (w.heap.size+1+1) aL #[(),(),((),()),(),(),(),(),(),(),((),())],aI w.heap.size (w.heap.size+1) THD #[.int .i64 2,one,two],aI w.heap.size (w.heap.size) aL #[aA,aB,.slice p n cap,free,step,aD,aG,aC,aF,.slice (some ⟨b,off,none⟩) m c2]])
 case first=>
  go_region_law ((first
   |(refine fN rR (by rfl) _ _ (by rfl) (by first|exact M6.made0 TV 4 w6.heap.size (by simp)|exact(M6.made0 TV 4 w6.heap.size (by simp)).adv (by exact .drew (.refl _))|exact(M6.adv xE).made0 TV 4 w6.heap.size (by simp)) 0 (by rfl) (by rfl) ((vs.take k).flatMap aE) (by rfl) (aAc (HS.out.ext (M6.ext.trans (by exact .drew (.alloc (.refl _) _)))) (by omega)) (eJ _) (by omega) ?_
     intro q7 c7 w7 bo
     have M7:=(show Mem w w7 [aJ w.heap.size TV 4 (q7) (k) (c7) ((vs.take k).flatMap aE),aI w.heap.size (w3.heap.size) TH3 #[aA,aB,.slice p5 n a],aJ w.heap.size TI 1 (p5) (n) (a) (ivs ys),aI w.heap.size (w2.heap.size) aL #[aA,aB,.slice p5 n a,free,step,aD,aG,aC,aF,.slice q1 m g],aJ w.heap.size TI 1 (p1) (n) (z) (ivs xs),aJ w.heap.size TV 4 (q1) (m) (g) (vs.flatMap aE),aI w.heap.size (w.heap.size+1+1) aL #[(),(),((),()),(),(),(),(),(),(),((),())],aI w.heap.size (w.heap.size+1) THD #[.int .i64 2,one,two],aI w.heap.size (w.heap.size) aL #[aA,aB,.slice p n cap,free,step,aD,aG,aC,aF,.slice (some ⟨b,off,none⟩) m c2]]from by simpa only[List.set_cons_zero,Nat.zero_add,List.nil_append]using bo)
     clear bo
     have ch:=(M7.bk 8).cl 9
     have ce:=(M7.bk 3).cl 9
     have b9:=(M7.bk 3).frozen 9
     have cb:w.heap.size<w7.heap.size:=(M7.hi 8)
     have cc:w2.heap.size<w7.heap.size:=(M7.hi 3))
   |(refine fN rR (by rfl) _ _ (by rfl) (M7.adv (by exact .refl _)) 0 (by rfl) (by rfl) ((vs.drop (k+1)).flatMap aE) (by rfl) (jT (k+1) vs▸aAd (HS.out.ext (M7.ext.trans (by exact .refl _))) (by omega)) (eJ _) (by omega) ?_
     intro q9 c9 w9 bp
     have M9:=(show Mem w w9 [aJ w.heap.size TV 4 (q9) (k+(m-(k+1))) (c9) ((vs.take k).flatMap aE++(vs.drop (k+1)).flatMap aE),aI w.heap.size (w3.heap.size) TH3 #[aA,aB,.slice p5 n a],aJ w.heap.size TI 1 (p5) (n) (a) (ivs ys),aI w.heap.size (w2.heap.size) aL #[aA,aB,.slice p5 n a,free,step,aD,aG,aC,aF,.slice q1 m g],aJ w.heap.size TI 1 (p1) (n) (z) (ivs xs),aJ w.heap.size TV 4 (q1) (m) (g) (vs.flatMap aE),aI w.heap.size (w.heap.size+1+1) aL #[(),(),((),()),(),(),(),(),(),(),((),())],aI w.heap.size (w.heap.size+1) THD #[.int .i64 2,one,two],aI w.heap.size (w.heap.size) aL #[aA,aB,.slice p n cap,free,step,aD,aG,aC,aF,.slice (some ⟨b,off,none⟩) m c2]]from bp)
     clear bp
     have cd:=(M9.bk 8).cl 9
     have ca:=(M9.bk 3).cl 9
     have b8:=(M9.bk 3).frozen 9
     have cf:w.heap.size<w9.heap.size:=(M9.hi 8)
     have ci:w2.heap.size<w9.heap.size:=(M9.hi 3))))
  all_goals (
   have e1:k+(m-(k+1))=m-1:=by omega
   have e2:(vs.take k).flatMap aE++(vs.drop (k+1)).flatMap aE=(vs.take k++vs.drop (k+1)).flatMap aE:=by simp
   have i8:(k:Int)+((m-(k+1):Nat):Int)=((m-1:Nat):Int):=by omega
   have MZ:=(show Mem w w9 [aJ w.heap.size TV 4 (q9) (m-1) (c9) ((vs.take k++vs.drop (k+1)).flatMap aE),aI w.heap.size (w3.heap.size) TH3 #[aA,aB,.slice p5 n a],aJ w.heap.size TI 1 (p5) (n) (a) (ivs ys),aI w.heap.size (w2.heap.size) aL #[aA,aB,.slice p5 n a,free,step,aD,aG,aC,aF,.slice q1 m g],aJ w.heap.size TI 1 (p1) (n) (z) (ivs xs),aJ w.heap.size TV 4 (q1) (m) (g) (vs.flatMap aE),aI w.heap.size (w.heap.size+1+1) aL #[(),(),((),()),(),(),(),(),(),(),((),())],aI w.heap.size (w.heap.size+1) THD #[.int .i64 2,one,two],aI w.heap.size (w.heap.size) aL #[aA,aB,.slice p n cap,free,step,aD,aG,aC,aF,.slice (some ⟨b,off,none⟩) m c2]]from by have:=M9;rw[e2]at this;simpa only[e1]using this)
   clear e2 M9 M7)
  all_goals go_wp2_with fail
  all_goals go_meet
  all_goals exact⟨q9,c9,by first|exact(MZ.store (i:=3) rfl 9 (.slice q9 (m-1) c9))|(simp only[e1];exact(MZ.store (i:=3) rfl 9 (.slice q9 (m-1) c9)))⟩
 case rest=>
  obtain⟨q9,c9,MC⟩:=hcut
  have MC:=xQ MC
  clear M6 i1 i2 i3 i4 i5 i6 i7 b5 b2 f d0 bf d1 ar d2 am d3 ap d4 be d5 bb d6 az d7 a8 d8 ba d9 ao c d ah ag af ai a9 al ax u y
  have bg:w3.heap.size<wc.heap.size:=(MC.out.hi 1)
  have a4:w2.heap.size<wc.heap.size:=(MC.out.hi 3)
  have u:w.heap.size+1+1<wc.heap.size:=(MC.out.hi 6)
  have y:w.heap.size+1<wc.heap.size:=(MC.out.hi 7)
  have bl:w.heap.size<wc.heap.size:=(MC.out.hi 8)
  obtain⟨e0,e1,e2,e3,e4,e5,e6,e7,e8,e9⟩:=(MC.out.bk 3).ten
  obtain⟨f0,b7,f1,b0,f2,b3,f3,bu,f4,bw,f5,bv,f6,b1,f7,bx,f8,bz,f9,bs⟩:=(MC.out.bk 6).tenf
  obtain⟨c,d⟩:=MC.out.nq 3 6
  go_upto_region 33 with fail
  go_wp2
  clear e0 e1 e2 e3 e4 e5 e6 e7 e8 e9 f0 b7 f1 b0 f2 b3 f3 bu f4 bw f5 bv f6 b1 f7 bx f8 bz f9 bs c d bg a4 u y bl
  have M7:=(MC.out.put10 (i:=6) rfl (.int .i64 aA) (.int .i64 aB) (.slice p5 n a) (.int .i64 free) (.int .i64 step) (.int .i64 aD) (.int .i64 aG) (.int .i64 aC) (.int .i64 aF) (.slice q9 (m-1) c9))
  generalize ae:World.setCell _ _ _=wz
  rw[ae]at M7
  clear ae MC
  obtain⟨y0,y1,y2,y3,y4,y5,y6,y7,y8,y9⟩:=(M7.bk 6).ten
  exact bodyPost_ret (v:= .tuple #[.agg #[aA,aB,.slice p5 n a,free,step,aD,aG,aC,aF,.slice q9 (m-1) c9],slides,.bool true]) (by simp[results,Tryz.results28,go_sem, *]) rfl ⟨p5,a,q9,c9,rfl,(M7.ow 2),(M7.ow 0),M7.ext⟩
end Go.Proofs.YtgnkoffndhmhpaaGreatDoor
