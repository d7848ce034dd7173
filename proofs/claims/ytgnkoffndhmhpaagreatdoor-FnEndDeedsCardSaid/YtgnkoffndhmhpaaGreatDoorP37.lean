/-
  Texts of this proof, packed (@packed).
-/
import Derived.Test.YtgnkoffndhmhpaaGreatDoorP5
import Derived.Test.YtgnkoffndhmhpaaGreatDoorP22
import Derived.Test.YtgnkoffndhmhpaaGreatDoorP30
import Derived.Test.YtgnkoffndhmhpaaGreatDoorP31
import Derived.Test.YtgnkoffndhmhpaaGreatDoorP36
namespace Go.Proofs.YtgnkoffndhmhpaaGreatDoor
open Go.RowKit
set_option linter.unusedVariables false
set_option linter.unusedSimpArgs false
set_option maxHeartbeats 8000000
set_option maxRecDepth 100000
theorem aDu (w:World)(gA:Nat)(aA aB free step aD aG aC aF id slides:Int)(p:OA)(n cap:Nat)(q:OA)(m c2:Nat)(hA:Hid (Blk w gA aL #[aA,aB,.slice p n cap,free,step,aD,aG,aC,aF,.slice q m c2]))
  (HMY:xB 115 #[.agg #[aA,aB,.slice p n cap,free,step,aD,aG,aC,aF,.slice q m c2],id] w false):
  Calls Tryz.prog 69 #[.pointer (some ⟨gA,0,none⟩),id] w fun e w'=>e= .returned (.tuple #[(-1:Int),.bool false])∧Ext w w':=by
 go_enter Tryz.func69,Tryz.ntmps69
 obtain⟨a0,a1,a2,a3,a4,a5,a6,a7,a8,a9⟩:=hA.out.ten
 have a:=hA.out.lt
 go_wp2_with fail
 clear a0 a1 a2 a3 a4 a5 a6 a7 a8 a9
 refine(HMY _ (Ext.refl _)).mono ?_
 rintro e w1 ⟨rfl,hx⟩
 have hX:=xQ hx
 clear hx
 go_wp2
 exact bodyPost_ret (v:= .tuple #[(-1:Int),.bool false]) (by simp[results,Tryz.results69,go_sem, *]) rfl ⟨rfl,hX.out⟩
theorem aGj (w:World)(gA:Nat)(aA aB free step aD aG aC aF id slides:Int)(p:OA)(n cap:Nat)(q:OA)(m c2:Nat)(ys:List Int)(h0:slides<0)(hA:Hid (Blk w gA aL #[aA,aB,.slice p n cap,free,step,aD,aG,aC,aF,.slice q m c2]))
  (HMY:xB 115 #[.agg #[aA,aB,.slice p n cap,free,step,aD,aG,aC,aF,.slice q m c2],id] w true)
  (HF:xC 116 #[aH aA aB p n cap,id] w fun w' e w''=> ∃q c,e= .returned (.tuple #[aH aA aB q n c,slides])∧w''.ownsRow w'.heap.size TI 1 (.slice q n c) n (ivs ys)∧Ext w' w''):
  Calls Tryz.prog 69 #[.pointer (some ⟨gA,0,none⟩),id] w fun e w'=>e= .returned (.tuple #[(-1:Int),.bool false])∧Ext w w':=by
 go_enter Tryz.func69,Tryz.ntmps69
 obtain⟨a0,a1,a2,a3,a4,a5,a6,a7,a8,a9⟩:=hA.out.ten
 have d:=hA.out.lt
 go_wp2_with fail
 clear a0 a1 a2 a3 a4 a5 a6 a7 a8 a9
 refine(HMY _ (Ext.refl _)).mono ?_
 rintro e w1 ⟨rfl,hx⟩
 have hX:=xQ hx
 clear hx
 obtain⟨a0,a1,a2,a3,a4,a5,a6,a7,a8,a9⟩:=(hA.out.ext hX.out).ten
 go_wp2_with fail
 clear a0 a1 a2 a3 a4 a5 a6 a7 a8 a9
 refine(HF _ hX.out).mono ?_
 rintro e w2 ⟨p1,c1,rfl,_,a⟩
 have b:=xQ (hX.out.trans a)
 clear a
 go_wp2
 exact bodyPost_ret (v:= .tuple #[(-1:Int),.bool false]) (by simp[results,Tryz.results69,go_sem, *]) rfl ⟨rfl,by have:=b.out;exact xE⟩
theorem aDt (w0 w:World)(R:Item)(gA:Nat)(aA aB free step aD aG aC aF id slides:Int)(p:OA)(n cap:Nat)(gq:Nat)(m c2:Nat)(k:Nat)(xs ys:List Int)(vs:List aP)(hk:k<m)(hm:m≤1000)(h0:0≤slides)(hM:Hid (Mem w0 w [aJ w0.heap.size TI 1 (p) (n) (cap) (ivs (xs)),aJ w0.heap.size TV 4 (some ⟨gq,0,none⟩) (m) (c2) (vs.flatMap aE),aI w0.heap.size (gA) aL #[aA,aB,.slice p n cap,free,step,aD,aG,aC,aF,.slice (some ⟨gq,0,none⟩) m c2],R]))
  (HMY:xB 115 #[.agg #[aA,aB,.slice p n cap,free,step,aD,aG,aC,aF,.slice (some ⟨gq,0,none⟩) m c2],id] w true)
  (HF:xC 116 #[aH aA aB p n cap,id] w fun w' e w''=> ∃q c,e= .returned (.tuple #[aH aA aB q n c,slides])∧w''.ownsRow w'.heap.size TI 1 (.slice q n c) n (ivs ys)∧Ext w' w'')
  (HX:Hid (∀w' p' cap',Sl w' (some ⟨gq,0,none⟩) m c2 4 (vs.flatMap aE)→Calls Tryz.prog 94 #[.agg #[aA,aB,.slice p' n cap',free,step,aD,aG,aC,aF,.slice (some ⟨gq,0,none⟩) m c2],id] w' fun e w''=>e= .returned (.int .i64 (k:Int))∧Ext w' w'')):
  Calls Tryz.prog 69 #[.pointer (some ⟨gA,0,none⟩),id] w fun e w'=> ∃p1 c1,e= .returned (.tuple #[slides,.bool true])∧Mem w0 w' [aJ w0.heap.size TI 1 (p1) (n) (c1) (ivs (ys)),aJ w0.heap.size TV 4 (some ⟨gq,0,none⟩) (m-1) (c2) ((vs.eraseIdx k).flatMap aE),aI w0.heap.size (gA) aL #[aA,aB,.slice p1 n c1,free,step,aD,aG,aC,aF,.slice (some ⟨gq,0,none⟩) (m-1) c2],R]:=by
 go_enter Tryz.func69,Tryz.ntmps69
 have s:gA<w.heap.size:=(hM.out.hi 2)
 obtain⟨a0,a1,a2,a3,a4,a5,a6,a7,a8,a9⟩:=(hM.out.bk 2).ten
 go_wp2_with fail
 clear a0 a1 a2 a3 a4 a5 a6 a7 a8 a9
 refine(HMY _ (Ext.refl _)).mono ?_
 rintro e w1 ⟨rfl,x⟩
 have ag:=xQ x
 have M1:=(hM.out.adv x)
 clear hM s x
 have t:=M1.hi 2
 have a0:=(M1.bk 2).cl 0
 have a1:=(M1.bk 2).cl 1
 have a2:=(M1.bk 2).cl 2
 go_wp2_with fail
 clear a0 a1 a2
 refine(HF _ ag.out).mono ?_
 rintro e w2 ⟨p1,c1,rfl,z,y⟩
 have M2:=(M1.call y z)
 clear M1 t y z
 have u:=M2.hi 3
 go_upto_region 4 with fail
 obtain⟨gV,r⟩: ∃gV,gV=w2.heap.size:=⟨_,rfl⟩
 rw[←r]
 have M3:=(M2.blkNew TH3 #[aA,aB,.slice p1 n c1] gV r.symm)
 generalize World.alloc _ _=w3 at M3⊢
 clear M2 u r
 have al:=M3.hi 0
 have ah:=M3.hi 4
 have t0: ¬(slides<0):=by omega
 obtain⟨v0,v1,v2⟩:=(M3.bk 0).tri
 have a0:=(M3.bk 4).cl 0
 have ak:=(M3.bk 4).frozen 0
 have a1:=(M3.bk 4).cl 1
 have aj:=(M3.bk 4).frozen 1
 have a2:=(M3.bk 4).cl 2
 have an:=(M3.bk 4).frozen 2
 obtain⟨f,j⟩:=M3.nq 0 4
 go_upto_region 7 with fail
 clear v0 v1 v2 a0 ak a1 aj a2 an f j
 have M4:=((M3.st 4 0 (.int .i64 aA)).st 4 1 (.int .i64 aB))
 have M5:=(M4.st 4 2 (.slice p1 n c1))
 have M6:=(M5)
 generalize ad:World.setCell _ _ _=w5
 rw[ad]at M6
 clear ad M3 M4 M5
 have b:=(show Mem w0 w5 [aJ w0.heap.size TI 1 (p1) (n) (c1) (ivs (ys)),aJ w0.heap.size TV 4 (some ⟨gq,0,none⟩) (m) (c2) (vs.flatMap aE),aI w0.heap.size (gA) aL #[aA,aB,.slice p1 n c1,free,step,aD,aG,aC,aF,.slice (some ⟨gq,0,none⟩) m c2],R]from(M6.pick [1,3,4,5] (by decide) rfl))
 clear M6
 have h:gA<w5.heap.size:=(b.hi 2)
 obtain⟨a0,a1,a2,a3,a4,a5,a6,a7,a8,a9⟩:=(b.bk 2).ten
 go_wp2_with fail
 clear a0 a1 a2 a3 a4 a5 a6 a7 a8 a9
 have aa:=xQ (b.sq 1)
 refine(HX _ _ _ aa.out).mono ?_
 rintro e ai ⟨rfl,l⟩
 have a:=(b.adv l)
 clear b h l aa
 have g:=a.hi 2
 have o:=xQ (aJo gq m c2 w0.heap.size k (k+1) vs ai (by omega) hk rfl (a.ow 1))
 rw[show((k+1:Nat):Int)=(k:Int)+1 by omega]at o
 have ao:IntKind.i64.wrap ((k:Int)+1)=(k:Int)+1:=IntWalk.i64_in _ (by omega)
 have a9:=(a.bk 2).cl 9
 go_wp2_with fail
 clear a9
 refine o.out.mono ?_
 rintro e w8 ⟨rfl,ae,ab⟩
 have d:=(show Mem w0 w8 [aJ w0.heap.size TI 1 (p1) (n) (c1) (ivs (ys)),aJ w0.heap.size TV 4 (some ⟨gq,0,none⟩) (m-1) (c2) ((vs.eraseIdx k).flatMap aE),aI w0.heap.size (gA) aL #[aA,aB,.slice p1 n c1,free,step,aD,aG,aC,aF,.slice (some ⟨gq,0,none⟩) m c2],R]from a.app (i:=1) rfl ae ab (.inl rfl))
 clear a g ae ab o
 have af:=d.hi 2
 have a9:=(d.bk 2).cl 9
 have am:=(d.bk 2).frozen 9
 go_wp2
 clear a9 am
 exact bodyPost_ret (v:= .tuple #[slides,.bool true]) (by simp[results,Tryz.results69,go_sem, *]) rfl ⟨p1,c1,rfl,(d.st 2 9 (.slice (some ⟨gq,0,none⟩) (m-1) c2))⟩
theorem aDs (aA aB free step aD aG aC aF kind one two:Int)(p:OA)(n cap:Nat)(q:OA)(m c2:Nat)(xs:List Int)(vs:List aP)(w:World)
  (HVd:xB 30 #[.agg #[aA,aB,.slice p n cap,free,step,aD,aG,aC,aF,.slice q m c2]] w false):
  Calls Tryz.prog 27 #[.agg #[aA,aB,.slice p n cap,free,step,aD,aG,aC,aF,.slice q m c2],.agg #[kind,one,two]] w fun e w'=>e= .returned (.tuple #[.agg #[(),(),((),()),(),(),(),(),(),(),((),())],(-1:Int),.bool false])∧Ext w w':=by
 go_enter Tryz.func27,Tryz.ntmps27
 go_wp2_with fail
 refine(HVd _ ((((Mem.start w).bn aL #[aA,aB,.slice p n cap,free,step,aD,aG,aC,aF,.slice q m c2] (w.heap.size)).bn THD #[kind,one,two] (w.heap.size+1)).bn aL #[(),(),((),()),(),(),(),(),(),(),((),())] (w.heap.size+1+1)).ext).mono ?_
 rintro e w1 ⟨rfl,f⟩
 have M1:=(((((Mem.start w).bn aL #[aA,aB,.slice p n cap,free,step,aD,aG,aC,aF,.slice q m c2] (w.heap.size)).bn THD #[kind,one,two] (w.heap.size+1)).bn aL #[(),(),((),()),(),(),(),(),(),(),((),())] (w.heap.size+1+1)).adv f)
 have a:=M1.hi 0
 have b:=M1.hi 1
 have c:=M1.hi 2
 clear f HVd
 obtain⟨f0,s,f1,t,f2,g,f3,k,f4,j,f5,r,f6,u,f7,l,f8,o,f9,h⟩:=(M1.bk 0).tenf
 go_wp2
 clear f0 s f1 t f2 g f3 k f4 j f5 r f6 u f7 l f8 o f9 h a b c
 have M2:=(M1.put10 (i:=0) rfl (.int .i64 0) (.int .i64 0) (.slice none 0 0) (.int .i64 0) (.int .i64 0) (.int .i64 0) (.int .i64 0) (.int .i64 0) (.int .i64 0) (.slice none 0 0))
 generalize d:World.setCell _ _ _=wz
 rw[d]at M2
 clear d M1
 obtain⟨y0,y1,y2,y3,y4,y5,y6,y7,y8,y9⟩:=(M2.bk 0).ten
 exact bodyPost_ret (v:= .tuple #[.agg #[(),(),((),()),(),(),(),(),(),(),((),())],(-1:Int),.bool false]) (by simp[results,Tryz.results27,go_sem, *]) rfl ⟨rfl,M2.ext⟩
theorem gK (aA aB free step aD aG aC aF kind one two:Int)(p:OA)(n cap:Nat)(q:OA)(m c2:Nat)(xs ys:List Int)(vs:List aP)(w:World)
  (HVd:xB 30 #[.agg #[aA,aB,.slice p n cap,free,step,aD,aG,aC,aF,.slice q m c2]] w true)
  (HL:xC 62 #[.agg #[aA,aB,.slice p n cap,free,step,aD,aG,aC,aF,.slice q m c2]] w fun w' e w''=> ∃p' cap' q' c2',e= .returned (.agg #[aA,aB,.slice p' n cap',free,step,aD,aG,aC,aF,.slice q' m c2'])∧w''.ownsRow w'.heap.size TI 1 (.slice p' n cap') n (ivs xs)∧w''.ownsRow w'.heap.size TV 4 (.slice q' m c2') m (vs.flatMap aE)∧Ext w' w'')
  (D:(kind≠0∧kind≠1∧kind≠2∧kind≠3∧kind≠4)∨(kind=3∧0≤aC∧aC≤9999∧one<1)∨(kind=3∧0≤aC∧aC≤9999∧1≤one∧9999-aC<one)∨(kind=4∧(∀w',Ext w w'→Calls Tryz.prog 70 #[aH aA aB p n cap,dS one two] w' fun e w''=> ∃q c,e= .returned (.tuple #[aH aA aB q n c,.bool false])∧w''.ownsRow w'.heap.size TI 1 (.slice q n c) n (ivs ys)∧Ext w' w''))∨(kind=0∧(∀w' R gA p1 cp1 q1 cq1,Mem w w' ([aJ w.heap.size TI 1 (p1) (n) (cp1) (ivs xs),aJ w.heap.size TV 4 (q1) (m) (cq1) (vs.flatMap aE),aI w.heap.size (gA) aL #[aA,aB,.slice p1 n cp1,free,step,aD,aG,aC,aF,.slice q1 m cq1]]++ [R])→Calls Tryz.prog 67 #[.pointer (some ⟨gA,0,none⟩),one] w' fun e w''=>e= .returned (.tuple #[(-1:Int),.bool false])∧Ext w' w''))∨(kind=1∧(∀w' R gA p1 cp1 q1 cq1,Mem w w' ([aJ w.heap.size TI 1 (p1) (n) (cp1) (ivs xs),aJ w.heap.size TV 4 (q1) (m) (cq1) (vs.flatMap aE),aI w.heap.size (gA) aL #[aA,aB,.slice p1 n cp1,free,step,aD,aG,aC,aF,.slice q1 m cq1]]++ [R])→Calls Tryz.prog 68 #[.pointer (some ⟨gA,0,none⟩),one,two] w' fun e w''=>e= .returned (.tuple #[(-1:Int),.bool false])∧Ext w' w''))∨(kind=2∧(∀w' R gA p1 cp1 q1 cq1,Mem w w' ([aJ w.heap.size TI 1 (p1) (n) (cp1) (ivs xs),aJ w.heap.size TV 4 (q1) (m) (cq1) (vs.flatMap aE),aI w.heap.size (gA) aL #[aA,aB,.slice p1 n cp1,free,step,aD,aG,aC,aF,.slice q1 m cq1]]++ [R])→Calls Tryz.prog 69 #[.pointer (some ⟨gA,0,none⟩),one] w' fun e w''=>e= .returned (.tuple #[(-1:Int),.bool false])∧Ext w' w''))):
  Calls Tryz.prog 27 #[.agg #[aA,aB,.slice p n cap,free,step,aD,aG,aC,aF,.slice q m c2],.agg #[kind,one,two]] w fun e w'=> ∃p' cap' q' c2',e= .returned (.tuple #[.agg #[aA,aB,.slice p' n cap',free,step,aD,aG,aC,aF,.slice q' m c2'],(-1:Int),.bool false])∧w'.ownsRow w.heap.size TI 1 (.slice p' n cap') n (ivs xs)∧w'.ownsRow w.heap.size TV 4 (.slice q' m c2') m (vs.flatMap aE)∧Ext w w':=by
 go_enter Tryz.func27,Tryz.ntmps27
 go_wp2_with fail
 refine(HVd _ ((((Mem.start w).bn aL #[aA,aB,.slice p n cap,free,step,aD,aG,aC,aF,.slice q m c2] (w.heap.size)).bn THD #[kind,one,two] (w.heap.size+1)).bn aL #[(),(),((),()),(),(),(),(),(),(),((),())] (w.heap.size+1+1)).ext).mono ?_
 rintro e w1 ⟨rfl,bd⟩
 have M1:=(((((Mem.start w).bn aL #[aA,aB,.slice p n cap,free,step,aD,aG,aC,aF,.slice q m c2] (w.heap.size)).bn THD #[kind,one,two] (w.heap.size+1)).bn aL #[(),(),((),()),(),(),(),(),(),(),((),())] (w.heap.size+1+1)).adv bd)
 have a2:=M1.hi 0
 have a4:=M1.hi 1
 have bc:=M1.hi 2
 clear bd HVd
 obtain⟨u,o,l,g,t,r,h,j,k,s⟩:=(M1.bk 2).ten
 go_wp2_with fail
 clear u o l g t r h j k s
 refine(HL _ M1.ext).mono ?_
 rintro e w2 ⟨p1,cp1,q1,cq1,rfl,ho,hq,hx⟩
 have M2:=(M1.own2 hx ho hq (Nat.le_refl _) (by decide))
 clear M1 a2 a4 bc hx ho hq
 have a7:=M2.hi 2
 have a6:=M2.hi 3
 have ba:=M2.hi 4
 go_upto_region 5 with fail
 obtain⟨gA,a9⟩: ∃gA,gA=w2.heap.size:=⟨_,rfl⟩
 rw[←a9]
 have M3:=(M2.blkNew aL #[aA,aB,.slice p1 n cp1,free,step,aD,aG,aC,aF,.slice q1 m cq1] gA a9.symm)
 generalize World.alloc _ _=w3 at M3⊢
 clear M2 a7 a6 ba a9
 have y:=M3.hi 0
 have aa:=M3.hi 3
 have z:=M3.hi 4
 have x:=M3.hi 5
 rcases D with⟨h0,h1,h2,h3,h4⟩|⟨rfl,hc,hc2,h1⟩|⟨rfl,hc,hc2,h1,h2⟩|⟨rfl,hS⟩|⟨rfl,hN⟩|⟨rfl,hN⟩|⟨rfl,hN⟩
 ·obtain⟨u,o,l,g,t,r,h,j,k,s⟩:=(M3.bk 5).ten
  have ah:=(M3.bk 4).cl 0
  have k0:(kind==0)=false:=by simp;omega
  have k1:(kind==1)=false:=by simp;omega
  have k2:(kind==2)=false:=by simp;omega
  have k3:(kind==3)=false:=by simp;omega
  have k4:(kind==4)=false:=by simp;omega
  go_wp2_with fail
  clear u o l g t r h j k s ah
  refine(HL _ M3.ext).mono ?_
  rintro e w9 ⟨p9,b,q9,a,rfl,ho,hq,hx⟩
  have M4:=(M3.own2 hx ho hq (Nat.le_refl _) (by decide))
  clear M3 y aa z x hx ho hq HL
  have aw:=M4.hi 2
  have d:=M4.hi 5
  have am:=M4.hi 6
  have au:=M4.hi 7
  obtain⟨f0,ao,f1,ak,f2,an,f3,ad,f4,ag,f5,ae,f6,al,f7,ai,f8,aj,f9,ab⟩:=(M4.bk 5).tenf
  go_wp2
  clear f0 ao f1 ak f2 an f3 ad f4 ag f5 ae f6 al f7 ai f8 aj f9 ab aw d am au
  have M5:=(M4.put10 (i:=5) rfl (.int .i64 aA) (.int .i64 aB) (.slice p9 n b) (.int .i64 free) (.int .i64 step) (.int .i64 aD) (.int .i64 aG) (.int .i64 aC) (.int .i64 aF) (.slice q9 m a))
  generalize f:World.setCell _ _ _=wz
  rw[f]at M5
  clear f M4
  obtain⟨y0,y1,y2,y3,y4,y5,y6,y7,y8,y9⟩:=(M5.bk 5).ten
  exact bodyPost_ret (v:= .tuple #[.agg #[aA,aB,.slice p9 n b,free,step,aD,aG,aC,aF,.slice q9 m a],(-1:Int),.bool false]) (by simp[results,Tryz.results27,go_sem, *]) rfl ⟨p9,b,q9,a,rfl,(M5.ow 0),(M5.ow 1),M5.ext⟩
 ·obtain⟨u,o,l,g,t,r,h,j,k,s⟩:=(M3.bk 5).ten
  obtain⟨ah,az,ar⟩:=(M3.bk 4).tri
  have k1:IntKind.i64.wrap (9999-aC)=9999-aC:=IntWalk.i64_in _ (by omega)
  have d1:decide (1≤one)=false:=by simp;omega
  go_wp2_with fail
  clear u o l g t r h j k s ah az ar
  refine(HL _ M3.ext).mono ?_
  rintro e w9 ⟨p9,b,q9,a,rfl,ho,hq,hx⟩
  have M4:=(M3.own2 hx ho hq (Nat.le_refl _) (by decide))
  clear M3 y aa z x hx ho hq HL
  have aw:=M4.hi 2
  have d:=M4.hi 5
  have am:=M4.hi 6
  have au:=M4.hi 7
  obtain⟨f0,ao,f1,ak,f2,an,f3,ad,f4,ag,f5,ae,f6,al,f7,ai,f8,aj,f9,ab⟩:=(M4.bk 5).tenf
  go_wp2
  clear f0 ao f1 ak f2 an f3 ad f4 ag f5 ae f6 al f7 ai f8 aj f9 ab aw d am au
  have M5:=(M4.put10 (i:=5) rfl (.int .i64 aA) (.int .i64 aB) (.slice p9 n b) (.int .i64 free) (.int .i64 step) (.int .i64 aD) (.int .i64 aG) (.int .i64 aC) (.int .i64 aF) (.slice q9 m a))
  generalize f:World.setCell _ _ _=wz
  rw[f]at M5
  clear f M4
  obtain⟨y0,y1,y2,y3,y4,y5,y6,y7,y8,y9⟩:=(M5.bk 5).ten
  exact bodyPost_ret (v:= .tuple #[.agg #[aA,aB,.slice p9 n b,free,step,aD,aG,aC,aF,.slice q9 m a],(-1:Int),.bool false]) (by simp[results,Tryz.results27,go_sem, *]) rfl ⟨p9,b,q9,a,rfl,(M5.ow 0),(M5.ow 1),M5.ext⟩
 ·obtain⟨u,o,l,g,t,r,h,j,k,s⟩:=(M3.bk 5).ten
  obtain⟨ah,az,ar⟩:=(M3.bk 4).tri
  have k1:IntKind.i64.wrap (9999-aC)=9999-aC:=IntWalk.i64_in _ (by omega)
  have d1:decide (1≤one)=true:=by simp;omega
  have d2:decide (one≤9999-aC)=false:=by simp;omega
  go_wp2_with fail
  clear u o l g t r h j k s ah az ar
  refine(HL _ M3.ext).mono ?_
  rintro e w9 ⟨p9,b,q9,a,rfl,ho,hq,hx⟩
  have M4:=(M3.own2 hx ho hq (Nat.le_refl _) (by decide))
  clear M3 y aa z x hx ho hq HL
  have aw:=M4.hi 2
  have d:=M4.hi 5
  have am:=M4.hi 6
  have au:=M4.hi 7
  obtain⟨f0,ao,f1,ak,f2,an,f3,ad,f4,ag,f5,ae,f6,al,f7,ai,f8,aj,f9,ab⟩:=(M4.bk 5).tenf
  go_wp2
  clear f0 ao f1 ak f2 an f3 ad f4 ag f5 ae f6 al f7 ai f8 aj f9 ab aw d am au
  have M5:=(M4.put10 (i:=5) rfl (.int .i64 aA) (.int .i64 aB) (.slice p9 n b) (.int .i64 free) (.int .i64 step) (.int .i64 aD) (.int .i64 aG) (.int .i64 aC) (.int .i64 aF) (.slice q9 m a))
  generalize f:World.setCell _ _ _=wz
  rw[f]at M5
  clear f M4
  obtain⟨y0,y1,y2,y3,y4,y5,y6,y7,y8,y9⟩:=(M5.bk 5).ten
  exact bodyPost_ret (v:= .tuple #[.agg #[aA,aB,.slice p9 n b,free,step,aD,aG,aC,aF,.slice q9 m a],(-1:Int),.bool false]) (by simp[results,Tryz.results27,go_sem, *]) rfl ⟨p9,b,q9,a,rfl,(M5.ow 0),(M5.ow 1),M5.ext⟩
 ·obtain⟨u,o,l,g,t,r,h,j,k,s⟩:=(M3.bk 5).ten
  obtain⟨ah,az,ar⟩:=(M3.bk 4).tri
  have HS:=xQ hS
  clear hS
  go_wp2_with fail
  clear u o l g t r h j k s ah az ar
  refine(HS _ M3.ext).mono ?_
  rintro e w4 ⟨p5,c5,rfl,be,ay⟩
  have M4:=(M3.call ay be)
  clear M3 y aa z x ay be
  have bh:=M4.hi 1
  have af:=M4.hi 4
  have d:=M4.hi 5
  have am:=M4.hi 6
  have d0:=(M4.bk 1).cl 0
  have bi:=(M4.bk 1).frozen 0
  have d1:=(M4.bk 1).cl 1
  have bg:=(M4.bk 1).frozen 1
  have d2:=(M4.bk 1).cl 2
  have bf:=(M4.bk 1).frozen 2
  go_upto_region 19 with fail
  clear d0 bi d1 bg d2 bf
  have M5:=((M4.st 1 0 (.int .i64 aA)).st 1 1 (.int .i64 aB))
  have M6:=(M5.st 1 2 (.slice p5 n c5))
  have M7:=(M6)
  generalize f:World.setCell _ _ _=w5
  rw[f]at M7
  clear f M4 M5 M6
  obtain⟨u,o,l,g,t,r,h,j,k,s⟩:=(M7.bk 6).ten
  go_wp2_with fail
  clear u o l g t r h j k s
  refine(HL _ M7.ext).mono ?_
  rintro e w9 ⟨p9,b,q9,a,rfl,ho,hq,hx⟩
  have M8:=(M7.own2 hx ho hq (Nat.le_refl _) (by decide))
  clear M7 hx ho hq HL
  have bb:=M8.hi 3
  have a3:=M8.hi 6
  have a5:=M8.hi 7
  have a8:=M8.hi 8
  obtain⟨f0,ao,f1,ak,f2,an,f3,ad,f4,ag,f5,ae,f6,al,f7,ai,f8,aj,f9,ab⟩:=(M8.bk 6).tenf
  go_wp2
  clear f0 ao f1 ak f2 an f3 ad f4 ag f5 ae f6 al f7 ai f8 aj f9 ab bb a3 a5 a8
  have M9:=(M8.put10 (i:=6) rfl (.int .i64 aA) (.int .i64 aB) (.slice p9 n b) (.int .i64 free) (.int .i64 step) (.int .i64 aD) (.int .i64 aG) (.int .i64 aC) (.int .i64 aF) (.slice q9 m a))
  generalize f:World.setCell _ _ _=wz
  rw[f]at M9
  clear f M8
  obtain⟨y0,y1,y2,y3,y4,y5,y6,y7,y8,y9⟩:=(M9.bk 6).ten
  exact bodyPost_ret (v:= .tuple #[.agg #[aA,aB,.slice p9 n b,free,step,aD,aG,aC,aF,.slice q9 m a],(-1:Int),.bool false]) (by simp[results,Tryz.results27,go_sem, *]) rfl ⟨p9,b,q9,a,rfl,(M9.ow 0),(M9.ow 1),M9.ext⟩
 ·obtain⟨ah,az,ar⟩:=(M3.bk 4).tri
  have HN:=xQ hN
  clear hN
  have MK:=(show Mem w w3 ([aJ w.heap.size TI 1 (p1) (n) (cp1) (ivs xs),aJ w.heap.size TV 4 (q1) (m) (cq1) (vs.flatMap aE),aI w.heap.size (gA) aL #[aA,aB,.slice p1 n cp1,free,step,aD,aG,aC,aF,.slice q1 m cq1]]++ [aI w.heap.size (w.heap.size+1+1) aL #[(),(),((),()),(),(),(),(),(),(),((),())],aI w.heap.size (w.heap.size+1) THD #[(),one,two],aI w.heap.size (w.heap.size) aL #[aA,aB,.slice p n cap,free,step,aD,aG,aC,aF,.slice q m c2]])from M3.pick [1,2,0,3,4,5] (by decide) rfl)
  go_wp2_with fail
  clear ah az ar
  refine(HN _ (vA [aI w.heap.size (w.heap.size+1+1) aL #[(),(),((),()),(),(),(),(),(),(),((),())],aI w.heap.size (w.heap.size+1) THD #[(),one,two],aI w.heap.size (w.heap.size) aL #[aA,aB,.slice p n cap,free,step,aD,aG,aC,aF,.slice q m c2]]) gA p1 cp1 q1 cq1 (MK.fold [aJ w.heap.size TI 1 (p1) (n) (cp1) (ivs xs),aJ w.heap.size TV 4 (q1) (m) (cq1) (vs.flatMap aE),aI w.heap.size (gA) aL #[aA,aB,.slice p1 n cp1,free,step,aD,aG,aC,aF,.slice q1 m cq1]])).mono ?_
  rintro e w4 ⟨rfl,ay⟩
  have M4:=(M3.adv ay)
  clear M3 y aa z x ay HN MK
  have av:=M4.hi 0
  have ax:=M4.hi 3
  have af:=M4.hi 4
  have d:=M4.hi 5
  obtain⟨u,o,l,g,t,r,h,j,k,s⟩:=(M4.bk 5).ten
  go_wp2_with fail
  clear u o l g t r h j k s
  refine(HL _ M4.ext).mono ?_
  rintro e w9 ⟨p9,b,q9,a,rfl,ho,hq,hx⟩
  have M5:=(M4.own2 hx ho hq (Nat.le_refl _) (by decide))
  clear M4 av ax af d hx ho hq HL
  have aq:=M5.hi 2
  have ap:=M5.hi 5
  have a0:=M5.hi 6
  have a1:=M5.hi 7
  obtain⟨f0,ao,f1,ak,f2,an,f3,ad,f4,ag,f5,ae,f6,al,f7,ai,f8,aj,f9,ab⟩:=(M5.bk 5).tenf
  go_wp2
  clear f0 ao f1 ak f2 an f3 ad f4 ag f5 ae f6 al f7 ai f8 aj f9 ab aq ap a0 a1
  have M6:=(M5.put10 (i:=5) rfl (.int .i64 aA) (.int .i64 aB) (.slice p9 n b) (.int .i64 free) (.int .i64 step) (.int .i64 aD) (.int .i64 aG) (.int .i64 aC) (.int .i64 aF) (.slice q9 m a))
  generalize f:World.setCell _ _ _=wz
  rw[f]at M6
  clear f M5
  obtain⟨y0,y1,y2,y3,y4,y5,y6,y7,y8,y9⟩:=(M6.bk 5).ten
  exact bodyPost_ret (v:= .tuple #[.agg #[aA,aB,.slice p9 n b,free,step,aD,aG,aC,aF,.slice q9 m a],(-1:Int),.bool false]) (by simp[results,Tryz.results27,go_sem, *]) rfl ⟨p9,b,q9,a,rfl,(M6.ow 0),(M6.ow 1),M6.ext⟩
 ·obtain⟨ah,az,ar⟩:=(M3.bk 4).tri
  have HN:=xQ hN
  clear hN
  have MK:=(show Mem w w3 ([aJ w.heap.size TI 1 (p1) (n) (cp1) (ivs xs),aJ w.heap.size TV 4 (q1) (m) (cq1) (vs.flatMap aE),aI w.heap.size (gA) aL #[aA,aB,.slice p1 n cp1,free,step,aD,aG,aC,aF,.slice q1 m cq1]]++ [aI w.heap.size (w.heap.size+1+1) aL #[(),(),((),()),(),(),(),(),(),(),((),())],aI w.heap.size (w.heap.size+1) THD #[.int .i64 1,one,two],aI w.heap.size (w.heap.size) aL #[aA,aB,.slice p n cap,free,step,aD,aG,aC,aF,.slice q m c2]])from M3.pick [1,2,0,3,4,5] (by decide) rfl)
  go_wp2_with fail
  clear ah az ar
  refine(HN _ (vA [aI w.heap.size (w.heap.size+1+1) aL #[(),(),((),()),(),(),(),(),(),(),((),())],aI w.heap.size (w.heap.size+1) THD #[.int .i64 1,one,two],aI w.heap.size (w.heap.size) aL #[aA,aB,.slice p n cap,free,step,aD,aG,aC,aF,.slice q m c2]]) gA p1 cp1 q1 cq1 (MK.fold [aJ w.heap.size TI 1 (p1) (n) (cp1) (ivs xs),aJ w.heap.size TV 4 (q1) (m) (cq1) (vs.flatMap aE),aI w.heap.size (gA) aL #[aA,aB,.slice p1 n cp1,free,step,aD,aG,aC,aF,.slice q1 m cq1]])).mono ?_
  rintro e w4 ⟨rfl,ay⟩
  have M4:=(M3.adv ay)
  clear M3 y aa z x ay HN MK
  have av:=M4.hi 0
  have ax:=M4.hi 3
  have af:=M4.hi 4
  have d:=M4.hi 5
  obtain⟨u,o,l,g,t,r,h,j,k,s⟩:=(M4.bk 5).ten
  go_wp2_with fail
  clear u o l g t r h j k s
  refine(HL _ M4.ext).mono ?_
  rintro e w9 ⟨p9,b,q9,a,rfl,ho,hq,hx⟩
  have M5:=(M4.own2 hx ho hq (Nat.le_refl _) (by decide))
  clear M4 av ax af d hx ho hq HL
  have aq:=M5.hi 2
  have ap:=M5.hi 5
  have a0:=M5.hi 6
  have a1:=M5.hi 7
  obtain⟨f0,ao,f1,ak,f2,an,f3,ad,f4,ag,f5,ae,f6,al,f7,ai,f8,aj,f9,ab⟩:=(M5.bk 5).tenf
  go_wp2
  clear f0 ao f1 ak f2 an f3 ad f4 ag f5 ae f6 al f7 ai f8 aj f9 ab aq ap a0 a1
  have M6:=(M5.put10 (i:=5) rfl (.int .i64 aA) (.int .i64 aB) (.slice p9 n b) (.int .i64 free) (.int .i64 step) (.int .i64 aD) (.int .i64 aG) (.int .i64 aC) (.int .i64 aF) (.slice q9 m a))
  generalize f:World.setCell _ _ _=wz
  rw[f]at M6
  clear f M5
  obtain⟨y0,y1,y2,y3,y4,y5,y6,y7,y8,y9⟩:=(M6.bk 5).ten
  exact bodyPost_ret (v:= .tuple #[.agg #[aA,aB,.slice p9 n b,free,step,aD,aG,aC,aF,.slice q9 m a],(-1:Int),.bool false]) (by simp[results,Tryz.results27,go_sem, *]) rfl ⟨p9,b,q9,a,rfl,(M6.ow 0),(M6.ow 1),M6.ext⟩
 ·obtain⟨ah,az,ar⟩:=(M3.bk 4).tri
  have HN:=xQ hN
  clear hN
  have MK:=(show Mem w w3 ([aJ w.heap.size TI 1 (p1) (n) (cp1) (ivs xs),aJ w.heap.size TV 4 (q1) (m) (cq1) (vs.flatMap aE),aI w.heap.size (gA) aL #[aA,aB,.slice p1 n cp1,free,step,aD,aG,aC,aF,.slice q1 m cq1]]++ [aI w.heap.size (w.heap.size+1+1) aL #[(),(),((),()),(),(),(),(),(),(),((),())],aI w.heap.size (w.heap.size+1) THD #[.int .i64 2,one,two],aI w.heap.size (w.heap.size) aL #[aA,aB,.slice p n cap,free,step,aD,aG,aC,aF,.slice q m c2]])from M3.pick [1,2,0,3,4,5] (by decide) rfl)
  go_wp2_with fail
  clear ah az ar
  refine(HN _ (vA [aI w.heap.size (w.heap.size+1+1) aL #[(),(),((),()),(),(),(),(),(),(),((),())],aI w.heap.size (w.heap.size+1) THD #[.int .i64 2,one,two],aI w.heap.size (w.heap.size) aL #[aA,aB,.slice p n cap,free,step,aD,aG,aC,aF,.slice q m c2]]) gA p1 cp1 q1 cq1 (MK.fold [aJ w.heap.size TI 1 (p1) (n) (cp1) (ivs xs),aJ w.heap.size TV 4 (q1) (m) (cq1) (vs.flatMap aE),aI w.heap.size (gA) aL #[aA,aB,.slice p1 n cp1,free,step,aD,aG,aC,aF,.slice q1 m cq1]])).mono ?_
  rintro e w4 ⟨rfl,ay⟩
  have M4:=(M3.adv ay)
  clear M3 y aa z x ay HN MK
  have av:=M4.hi 0
  have ax:=M4.hi 3
  have af:=M4.hi 4
  have d:=M4.hi 5
  obtain⟨u,o,l,g,t,r,h,j,k,s⟩:=(M4.bk 5).ten
  go_wp2_with fail
  clear u o l g t r h j k s
  refine(HL _ M4.ext).mono ?_
  rintro e w9 ⟨p9,b,q9,a,rfl,ho,hq,hx⟩
  have M5:=(M4.own2 hx ho hq (Nat.le_refl _) (by decide))
  clear M4 av ax af d hx ho hq HL
  have aq:=M5.hi 2
  have ap:=M5.hi 5
  have a0:=M5.hi 6
  have a1:=M5.hi 7
  obtain⟨f0,ao,f1,ak,f2,an,f3,ad,f4,ag,f5,ae,f6,al,f7,ai,f8,aj,f9,ab⟩:=(M5.bk 5).tenf
  go_wp2
  clear f0 ao f1 ak f2 an f3 ad f4 ag f5 ae f6 al f7 ai f8 aj f9 ab aq ap a0 a1
  have M6:=(M5.put10 (i:=5) rfl (.int .i64 aA) (.int .i64 aB) (.slice p9 n b) (.int .i64 free) (.int .i64 step) (.int .i64 aD) (.int .i64 aG) (.int .i64 aC) (.int .i64 aF) (.slice q9 m a))
  generalize f:World.setCell _ _ _=wz
  rw[f]at M6
  clear f M5
  obtain⟨y0,y1,y2,y3,y4,y5,y6,y7,y8,y9⟩:=(M6.bk 5).ten
  exact bodyPost_ret (v:= .tuple #[.agg #[aA,aB,.slice p9 n b,free,step,aD,aG,aC,aF,.slice q9 m a],(-1:Int),.bool false]) (by simp[results,Tryz.results27,go_sem, *]) rfl ⟨p9,b,q9,a,rfl,(M6.ow 0),(M6.ow 1),M6.ext⟩
theorem kQ (aA aB free step aD aG aC aF kind one two clock2 bank2 num:Int)(p:OA)(n cap:Nat)(q:OA)(m c2 m2:Nat)(xs ys:List Int)(vs vs2:List aP)(w:World)
  (HVd:xB 30 #[.agg #[aA,aB,.slice p n cap,free,step,aD,aG,aC,aF,.slice q m c2]] w true)
  (HL:xC 62 #[.agg #[aA,aB,.slice p n cap,free,step,aD,aG,aC,aF,.slice q m c2]] w fun w' e w''=> ∃p' cap' q' c2',e= .returned (.agg #[aA,aB,.slice p' n cap',free,step,aD,aG,aC,aF,.slice q' m c2'])∧w''.ownsRow w'.heap.size TI 1 (.slice p' n cap') n (ivs xs)∧w''.ownsRow w'.heap.size TV 4 (.slice q' m c2') m (vs.flatMap aE)∧Ext w' w'')
  (D:(kind=3∧0≤aC∧aC≤9999∧1≤one∧one≤9999-aC∧aC+one=clock2∧aF=bank2∧aC+one=num∧xs=ys∧vs=vs2∧m=m2)∨(kind=4∧aC=clock2∧aF=bank2∧0=num∧vs=vs2∧m=m2∧(∀w',Ext w w'→Calls Tryz.prog 70 #[aH aA aB p n cap,dS one two] w' fun e w''=> ∃q c,e= .returned (.tuple #[aH aA aB q n c,.bool true])∧w''.ownsRow w'.heap.size TI 1 (.slice q n c) n (ivs ys)∧Ext w' w''))∨(kind=0∧aC=clock2∧(∀w' R gA p1 cp1 q1 cq1,Mem w w' ([aJ w.heap.size TI 1 (p1) (n) (cp1) (ivs xs),aJ w.heap.size TV 4 (q1) (m) (cq1) (vs.flatMap aE),aI w.heap.size (gA) aL #[aA,aB,.slice p1 n cp1,free,step,aD,aG,aC,aF,.slice q1 m cq1]]++ [R])→Calls Tryz.prog 67 #[.pointer (some ⟨gA,0,none⟩),one] w' fun e w''=> ∃p5 c5 q5 d5,e= .returned (.tuple #[num,.bool true])∧Mem w w'' ([aJ w.heap.size TI 1 (p5) (n) (c5) (ivs ys),aJ w.heap.size TV 4 (q5) (m2) (d5) (vs2.flatMap aE),aI w.heap.size (gA) aL #[aA,aB,.slice p5 n c5,free,step,aD,aG,aC,bank2,.slice q5 m2 d5]]++ [R])))∨(kind=1∧aC=clock2∧(∀w' R gA p1 cp1 q1 cq1,Mem w w' ([aJ w.heap.size TI 1 (p1) (n) (cp1) (ivs xs),aJ w.heap.size TV 4 (q1) (m) (cq1) (vs.flatMap aE),aI w.heap.size (gA) aL #[aA,aB,.slice p1 n cp1,free,step,aD,aG,aC,aF,.slice q1 m cq1]]++ [R])→Calls Tryz.prog 68 #[.pointer (some ⟨gA,0,none⟩),one,two] w' fun e w''=> ∃p5 c5 q5 d5,e= .returned (.tuple #[num,.bool true])∧Mem w w'' ([aJ w.heap.size TI 1 (p5) (n) (c5) (ivs ys),aJ w.heap.size TV 4 (q5) (m2) (d5) (vs2.flatMap aE),aI w.heap.size (gA) aL #[aA,aB,.slice p5 n c5,free,step,aD,aG,aC,bank2,.slice q5 m2 d5]]++ [R])))∨(kind=2∧aC=clock2∧(∀w' R gA p1 cp1 q1 cq1,Mem w w' ([aJ w.heap.size TI 1 (p1) (n) (cp1) (ivs xs),aJ w.heap.size TV 4 (q1) (m) (cq1) (vs.flatMap aE),aI w.heap.size (gA) aL #[aA,aB,.slice p1 n cp1,free,step,aD,aG,aC,aF,.slice q1 m cq1]]++ [R])→Calls Tryz.prog 69 #[.pointer (some ⟨gA,0,none⟩),one] w' fun e w''=> ∃p5 c5 q5 d5,e= .returned (.tuple #[num,.bool true])∧Mem w w'' ([aJ w.heap.size TI 1 (p5) (n) (c5) (ivs ys),aJ w.heap.size TV 4 (q5) (m2) (d5) (vs2.flatMap aE),aI w.heap.size (gA) aL #[aA,aB,.slice p5 n c5,free,step,aD,aG,aC,bank2,.slice q5 m2 d5]]++ [R])))):
  Calls Tryz.prog 27 #[.agg #[aA,aB,.slice p n cap,free,step,aD,aG,aC,aF,.slice q m c2],.agg #[kind,one,two]] w fun e w'=> ∃p' cap' q' c2',e= .returned (.tuple #[.agg #[aA,aB,.slice p' n cap',free,step,aD,aG,clock2,bank2,.slice q' m2 c2'],num,.bool true])∧w'.ownsRow w.heap.size TI 1 (.slice p' n cap') n (ivs ys)∧w'.ownsRow w.heap.size TV 4 (.slice q' m2 c2') m2 (vs2.flatMap aE)∧Ext w w':=by
 go_enter Tryz.func27,Tryz.ntmps27
 go_wp2_with fail
 refine(HVd _ ((((Mem.start w).bn aL #[aA,aB,.slice p n cap,free,step,aD,aG,aC,aF,.slice q m c2] (w.heap.size)).bn THD #[kind,one,two] (w.heap.size+1)).bn aL #[(),(),((),()),(),(),(),(),(),(),((),())] (w.heap.size+1+1)).ext).mono ?_
 rintro e w1 ⟨rfl,bb⟩
 have M1:=(((((Mem.start w).bn aL #[aA,aB,.slice p n cap,free,step,aD,aG,aC,aF,.slice q m c2] (w.heap.size)).bn THD #[kind,one,two] (w.heap.size+1)).bn aL #[(),(),((),()),(),(),(),(),(),(),((),())] (w.heap.size+1+1)).adv bb)
 have a0:=M1.hi 0
 have a3:=M1.hi 1
 have a9:=M1.hi 2
 clear bb HVd
 obtain⟨av,ap,ao,ak,au,aq,al,am,an,ar⟩:=(M1.bk 2).ten
 go_wp2_with fail
 clear av ap ao ak au aq al am an ar
 refine(HL _ M1.ext).mono ?_
 rintro e w2 ⟨p1,cp1,q1,cq1,rfl,ho,hq,hx⟩
 have M2:=(M1.own2 hx ho hq (Nat.le_refl _) (by decide))
 clear M1 a0 a3 a9 hx ho hq
 have a5:=M2.hi 2
 have a4:=M2.hi 3
 have a7:=M2.hi 4
 go_upto_region 5 with fail
 obtain⟨gA,a6⟩: ∃gA,gA=w2.heap.size:=⟨_,rfl⟩
 rw[←a6]
 have M3:=(M2.blkNew aL #[aA,aB,.slice p1 n cp1,free,step,aD,aG,aC,aF,.slice q1 m cq1] gA a6.symm)
 generalize World.alloc _ _=w3 at M3⊢
 clear M2 a5 a4 a7 a6
 have o:=M3.hi 0
 have t:=M3.hi 3
 have r:=M3.hi 4
 have l:=M3.hi 5
 rcases D with⟨rfl,hc,hc2,h1,h2,rfl,rfl,rfl,rfl,rfl,rfl⟩|⟨rfl,rfl,rfl,rfl,rfl,rfl,hS⟩|⟨rfl,rfl,hY⟩|⟨rfl,rfl,hY⟩|⟨rfl,rfl,hY⟩
 ·obtain⟨av,ap,ao,ak,au,aq,al,am,an,ar⟩:=(M3.bk 5).ten
  obtain⟨ab,s,z⟩:=(M3.bk 4).tri
  have k1:IntKind.i64.wrap (9999-aC)=9999-aC:=IntWalk.i64_in _ (by omega)
  have d1:decide (1≤one)=true:=by simp;omega
  have d2:decide (one≤9999-aC)=true:=by simp;omega
  go_upto_region 15 with fail
  clear av ap ao ak au aq al am an ar ab s z
  have s:=(M3.bk 4).cl 1
  obtain⟨d0,a8,d1,a2,d2,a1,d3,be,d4,bp,d5,bm,d6,bh,d7,bj,d8,bl,d9,bd⟩:=(M3.bk 0).tenf
  obtain⟨f0,ai,f1,af,f2,ah,f3,x,f4,aa,f5,y,f6,ag,f7,ad,f8,ae,f9,u⟩:=(M3.bk 3).tenf
  obtain⟨a,b⟩:=M3.nq 3 4
  obtain⟨ay,ax⟩:=M3.nq 0 4
  obtain⟨aw,az⟩:=M3.nq 0 3
  have k2:IntKind.i64.wrap (aC+one)=aC+one:=IntWalk.i64_in _ (by omega)
  clear HL
  have M4:=(M3.st 0 7 (.int .i64 (aC+one)))
  go_wp2
  clear s d0 a8 d1 a2 d2 a1 d3 be d4 bp d5 bm d6 bh d7 bj d8 bl d9 bd f0 ai f1 af f2 ah f3 x f4 aa f5 y f6 ag f7 ad f8 ae f9 u a b ay ax aw az o t r l
  have M5:=(M4.put10 (i:=3) rfl (.int .i64 aA) (.int .i64 aB) (.slice p1 n cp1) (.int .i64 free) (.int .i64 step) (.int .i64 aD) (.int .i64 aG) (.int .i64 (aC+one)) (.int .i64 aF) (.slice q1 m cq1))
  generalize f:World.setCell _ _ _=wz
  rw[f]at M5
  clear f M3 M4
  obtain⟨y0,y1,y2,y3,y4,y5,y6,y7,y8,y9⟩:=(M5.bk 3).ten
  exact bodyPost_ret (v:= .tuple #[.agg #[aA,aB,.slice p1 n cp1,free,step,aD,aG,(aC+one:Int),aF,.slice q1 m cq1],(aC+one:Int),.bool true]) (by simp[results,Tryz.results27,go_sem, *]) rfl ⟨p1,cp1,q1,cq1,rfl,(M5.ow 1),(M5.ow 2),M5.ext⟩
 ·obtain⟨av,ap,ao,ak,au,aq,al,am,an,ar⟩:=(M3.bk 5).ten
  obtain⟨ab,s,z⟩:=(M3.bk 4).tri
  have HS:=xQ hS
  clear hS
  go_wp2_with fail
  clear av ap ao ak au aq al am an ar ab s z
  refine(HS _ M3.ext).mono ?_
  rintro e w4 ⟨p5,c5,rfl,bc,ba⟩
  have M4:=(M3.call ba bc)
  clear M3 o t r l ba bc
  have bo:=M4.hi 1
  have bg:=M4.hi 4
  have bf:=M4.hi 5
  have bi:=M4.hi 6
  have d0:=(M4.bk 1).cl 0
  have a8:=(M4.bk 1).frozen 0
  have d1:=(M4.bk 1).cl 1
  have a2:=(M4.bk 1).frozen 1
  have d2:=(M4.bk 1).cl 2
  have a1:=(M4.bk 1).frozen 2
  go_upto_region 19 with fail
  clear d0 a8 d1 a2 d2 a1
  have M5:=((M4.st 1 0 (.int .i64 aA)).st 1 1 (.int .i64 aB))
  have M6:=(M5.st 1 2 (.slice p5 n c5))
  have M7:=(M6)
  generalize f:World.setCell _ _ _=w5
  rw[f]at M7
  clear f M4 M5 M6
  obtain⟨e0,e1,e2,e3,e4,e5,e6,e7,e8,e9⟩:=(M7.bk 1).ten
  obtain⟨f0,ai,f1,af,f2,ah,f3,x,f4,aa,f5,y,f6,ag,f7,ad,f8,ae,f9,u⟩:=(M7.bk 4).tenf
  obtain⟨a,b⟩:=M7.nq 1 4
  clear HL
  go_wp2
  clear e0 e1 e2 e3 e4 e5 e6 e7 e8 e9 f0 ai f1 af f2 ah f3 x f4 aa f5 y f6 ag f7 ad f8 ae f9 u a b
  have M8:=(M7.put10 (i:=4) rfl (.int .i64 aA) (.int .i64 aB) (.slice p5 n c5) (.int .i64 free) (.int .i64 step) (.int .i64 aD) (.int .i64 aG) (.int .i64 aC) (.int .i64 aF) (.slice q1 m cq1))
  generalize f:World.setCell _ _ _=wz
  rw[f]at M8
  clear f M7
  obtain⟨y0,y1,y2,y3,y4,y5,y6,y7,y8,y9⟩:=(M8.bk 4).ten
  exact bodyPost_ret (v:= .tuple #[.agg #[aA,aB,.slice p5 n c5,free,step,aD,aG,aC,aF,.slice q1 m cq1],(),.bool true]) (by simp[results,Tryz.results27,go_sem, *]) rfl ⟨p5,c5,q1,cq1,rfl,(M8.ow 0),(M8.ow 3),M8.ext⟩
 ·obtain⟨ab,s,z⟩:=(M3.bk 4).tri
  have HY:=xQ hY
  clear hY
  have MK:=(show Mem w w3 ([aJ w.heap.size TI 1 (p1) (n) (cp1) (ivs xs),aJ w.heap.size TV 4 (q1) (m) (cq1) (vs.flatMap aE),aI w.heap.size (gA) aL #[aA,aB,.slice p1 n cp1,free,step,aD,aG,aC,aF,.slice q1 m cq1]]++ [aI w.heap.size (w.heap.size+1+1) aL #[(),(),((),()),(),(),(),(),(),(),((),())],aI w.heap.size (w.heap.size+1) THD #[(),one,two],aI w.heap.size (w.heap.size) aL #[aA,aB,.slice p n cap,free,step,aD,aG,aC,aF,.slice q m c2]])from M3.pick [1,2,0,3,4,5] (by decide) rfl)
  go_wp2_with fail
  clear ab s z
  refine(HY _ (vA [aI w.heap.size (w.heap.size+1+1) aL #[(),(),((),()),(),(),(),(),(),(),((),())],aI w.heap.size (w.heap.size+1) THD #[(),one,two],aI w.heap.size (w.heap.size) aL #[aA,aB,.slice p n cap,free,step,aD,aG,aC,aF,.slice q m c2]]) gA p1 cp1 q1 cq1 (MK.fold [aJ w.heap.size TI 1 (p1) (n) (cp1) (ivs xs),aJ w.heap.size TV 4 (q1) (m) (cq1) (vs.flatMap aE),aI w.heap.size (gA) aL #[aA,aB,.slice p1 n cp1,free,step,aD,aG,aC,aF,.slice q1 m cq1]])).mono ?_
  rintro e w5 ⟨p5,c5,q5,d5,rfl,aj⟩
  clear M3 o t r l
  have M8:=(show Mem w w5 [aJ w.heap.size TI 1 (p5) (n) (c5) (ivs ys),aJ w.heap.size TV 4 (q5) (m2) (d5) (vs2.flatMap aE),aI w.heap.size (gA) aL #[aA,aB,.slice p5 n c5,free,step,aD,aG,aC,bank2,.slice q5 m2 d5],aI w.heap.size (w.heap.size+1+1) aL #[(),(),((),()),(),(),(),(),(),(),((),())],aI w.heap.size (w.heap.size+1) THD #[(),one,two],aI w.heap.size (w.heap.size) aL #[aA,aB,.slice p n cap,free,step,aD,aG,aC,aF,.slice q m c2]]from Mem.frame [aJ w.heap.size TI 1 (p1) (n) (cp1) (ivs xs),aJ w.heap.size TV 4 (q1) (m) (cq1) (vs.flatMap aE),aI w.heap.size (gA) aL #[aA,aB,.slice p1 n cp1,free,step,aD,aG,aC,aF,.slice q1 m cq1]] [aJ w.heap.size TI 1 (p5) (n) (c5) (ivs ys),aJ w.heap.size TV 4 (q5) (m2) (d5) (vs2.flatMap aE),aI w.heap.size (gA) aL #[aA,aB,.slice p5 n c5,free,step,aD,aG,aC,bank2,.slice q5 m2 d5]] MK aj)
  clear aj MK HY HL
  have g:=M8.hi 2
  have h:=M8.hi 3
  have k:=M8.hi 4
  have j:=M8.hi 5
  obtain⟨e0,e1,e2,e3,e4,e5,e6,e7,e8,e9⟩:=(M8.bk 2).ten
  obtain⟨f0,ai,f1,af,f2,ah,f3,x,f4,aa,f5,y,f6,ag,f7,ad,f8,ae,f9,u⟩:=(M8.bk 3).tenf
  obtain⟨a,b⟩:=M8.nq 2 3
  go_wp2
  clear e0 e1 e2 e3 e4 e5 e6 e7 e8 e9 f0 ai f1 af f2 ah f3 x f4 aa f5 y f6 ag f7 ad f8 ae f9 u a b g h k j
  have d:=(M8.put10 (i:=3) rfl (.int .i64 aA) (.int .i64 aB) (.slice p5 n c5) (.int .i64 free) (.int .i64 step) (.int .i64 aD) (.int .i64 aG) (.int .i64 aC) (.int .i64 bank2) (.slice q5 m2 d5))
  generalize f:World.setCell _ _ _=wz
  rw[f]at d
  clear f M8
  obtain⟨y0,y1,y2,y3,y4,y5,y6,y7,y8,y9⟩:=(d.bk 3).ten
  exact bodyPost_ret (v:= .tuple #[.agg #[aA,aB,.slice p5 n c5,free,step,aD,aG,aC,bank2,.slice q5 m2 d5],num,.bool true]) (by simp[results,Tryz.results27,go_sem, *]) rfl ⟨p5,c5,q5,d5,rfl,(d.ow 0),(d.ow 1),d.ext⟩
 ·obtain⟨ab,s,z⟩:=(M3.bk 4).tri
  have HY:=xQ hY
  clear hY
  have MK:=(show Mem w w3 ([aJ w.heap.size TI 1 (p1) (n) (cp1) (ivs xs),aJ w.heap.size TV 4 (q1) (m) (cq1) (vs.flatMap aE),aI w.heap.size (gA) aL #[aA,aB,.slice p1 n cp1,free,step,aD,aG,aC,aF,.slice q1 m cq1]]++ [aI w.heap.size (w.heap.size+1+1) aL #[(),(),((),()),(),(),(),(),(),(),((),())],aI w.heap.size (w.heap.size+1) THD #[.int .i64 1,one,two],aI w.heap.size (w.heap.size) aL #[aA,aB,.slice p n cap,free,step,aD,aG,aC,aF,.slice q m c2]])from M3.pick [1,2,0,3,4,5] (by decide) rfl)
  go_wp2_with fail
  clear ab s z
  refine(HY _ (vA [aI w.heap.size (w.heap.size+1+1) aL #[(),(),((),()),(),(),(),(),(),(),((),())],aI w.heap.size (w.heap.size+1) THD #[.int .i64 1,one,two],aI w.heap.size (w.heap.size) aL #[aA,aB,.slice p n cap,free,step,aD,aG,aC,aF,.slice q m c2]]) gA p1 cp1 q1 cq1 (MK.fold [aJ w.heap.size TI 1 (p1) (n) (cp1) (ivs xs),aJ w.heap.size TV 4 (q1) (m) (cq1) (vs.flatMap aE),aI w.heap.size (gA) aL #[aA,aB,.slice p1 n cp1,free,step,aD,aG,aC,aF,.slice q1 m cq1]])).mono ?_
  rintro e w5 ⟨p5,c5,q5,d5,rfl,aj⟩
  clear M3 o t r l
  have M8:=(show Mem w w5 [aJ w.heap.size TI 1 (p5) (n) (c5) (ivs ys),aJ w.heap.size TV 4 (q5) (m2) (d5) (vs2.flatMap aE),aI w.heap.size (gA) aL #[aA,aB,.slice p5 n c5,free,step,aD,aG,aC,bank2,.slice q5 m2 d5],aI w.heap.size (w.heap.size+1+1) aL #[(),(),((),()),(),(),(),(),(),(),((),())],aI w.heap.size (w.heap.size+1) THD #[.int .i64 1,one,two],aI w.heap.size (w.heap.size) aL #[aA,aB,.slice p n cap,free,step,aD,aG,aC,aF,.slice q m c2]]from Mem.frame [aJ w.heap.size TI 1 (p1) (n) (cp1) (ivs xs),aJ w.heap.size TV 4 (q1) (m) (cq1) (vs.flatMap aE),aI w.heap.size (gA) aL #[aA,aB,.slice p1 n cp1,free,step,aD,aG,aC,aF,.slice q1 m cq1]] [aJ w.heap.size TI 1 (p5) (n) (c5) (ivs ys),aJ w.heap.size TV 4 (q5) (m2) (d5) (vs2.flatMap aE),aI w.heap.size (gA) aL #[aA,aB,.slice p5 n c5,free,step,aD,aG,aC,bank2,.slice q5 m2 d5]] MK aj)
  clear aj MK HY HL
  have g:=M8.hi 2
  have h:=M8.hi 3
  have k:=M8.hi 4
  have j:=M8.hi 5
  obtain⟨e0,e1,e2,e3,e4,e5,e6,e7,e8,e9⟩:=(M8.bk 2).ten
  obtain⟨f0,ai,f1,af,f2,ah,f3,x,f4,aa,f5,y,f6,ag,f7,ad,f8,ae,f9,u⟩:=(M8.bk 3).tenf
  obtain⟨a,b⟩:=M8.nq 2 3
  go_wp2
  clear e0 e1 e2 e3 e4 e5 e6 e7 e8 e9 f0 ai f1 af f2 ah f3 x f4 aa f5 y f6 ag f7 ad f8 ae f9 u a b g h k j
  have d:=(M8.put10 (i:=3) rfl (.int .i64 aA) (.int .i64 aB) (.slice p5 n c5) (.int .i64 free) (.int .i64 step) (.int .i64 aD) (.int .i64 aG) (.int .i64 aC) (.int .i64 bank2) (.slice q5 m2 d5))
  generalize f:World.setCell _ _ _=wz
  rw[f]at d
  clear f M8
  obtain⟨y0,y1,y2,y3,y4,y5,y6,y7,y8,y9⟩:=(d.bk 3).ten
  exact bodyPost_ret (v:= .tuple #[.agg #[aA,aB,.slice p5 n c5,free,step,aD,aG,aC,bank2,.slice q5 m2 d5],num,.bool true]) (by simp[results,Tryz.results27,go_sem, *]) rfl ⟨p5,c5,q5,d5,rfl,(d.ow 0),(d.ow 1),d.ext⟩
 ·obtain⟨ab,s,z⟩:=(M3.bk 4).tri
  have HY:=xQ hY
  clear hY
  have MK:=(show Mem w w3 ([aJ w.heap.size TI 1 (p1) (n) (cp1) (ivs xs),aJ w.heap.size TV 4 (q1) (m) (cq1) (vs.flatMap aE),aI w.heap.size (gA) aL #[aA,aB,.slice p1 n cp1,free,step,aD,aG,aC,aF,.slice q1 m cq1]]++ [aI w.heap.size (w.heap.size+1+1) aL #[(),(),((),()),(),(),(),(),(),(),((),())],aI w.heap.size (w.heap.size+1) THD #[.int .i64 2,one,two],aI w.heap.size (w.heap.size) aL #[aA,aB,.slice p n cap,free,step,aD,aG,aC,aF,.slice q m c2]])from M3.pick [1,2,0,3,4,5] (by decide) rfl)
  go_wp2_with fail
  clear ab s z
  refine(HY _ (vA [aI w.heap.size (w.heap.size+1+1) aL #[(),(),((),()),(),(),(),(),(),(),((),())],aI w.heap.size (w.heap.size+1) THD #[.int .i64 2,one,two],aI w.heap.size (w.heap.size) aL #[aA,aB,.slice p n cap,free,step,aD,aG,aC,aF,.slice q m c2]]) gA p1 cp1 q1 cq1 (MK.fold [aJ w.heap.size TI 1 (p1) (n) (cp1) (ivs xs),aJ w.heap.size TV 4 (q1) (m) (cq1) (vs.flatMap aE),aI w.heap.size (gA) aL #[aA,aB,.slice p1 n cp1,free,step,aD,aG,aC,aF,.slice q1 m cq1]])).mono ?_
  rintro e w5 ⟨p5,c5,q5,d5,rfl,aj⟩
  clear M3 o t r l
  have M8:=(show Mem w w5 [aJ w.heap.size TI 1 (p5) (n) (c5) (ivs ys),aJ w.heap.size TV 4 (q5) (m2) (d5) (vs2.flatMap aE),aI w.heap.size (gA) aL #[aA,aB,.slice p5 n c5,free,step,aD,aG,aC,bank2,.slice q5 m2 d5],aI w.heap.size (w.heap.size+1+1) aL #[(),(),((),()),(),(),(),(),(),(),((),())],aI w.heap.size (w.heap.size+1) THD #[.int .i64 2,one,two],aI w.heap.size (w.heap.size) aL #[aA,aB,.slice p n cap,free,step,aD,aG,aC,aF,.slice q m c2]]from Mem.frame [aJ w.heap.size TI 1 (p1) (n) (cp1) (ivs xs),aJ w.heap.size TV 4 (q1) (m) (cq1) (vs.flatMap aE),aI w.heap.size (gA) aL #[aA,aB,.slice p1 n cp1,free,step,aD,aG,aC,aF,.slice q1 m cq1]] [aJ w.heap.size TI 1 (p5) (n) (c5) (ivs ys),aJ w.heap.size TV 4 (q5) (m2) (d5) (vs2.flatMap aE),aI w.heap.size (gA) aL #[aA,aB,.slice p5 n c5,free,step,aD,aG,aC,bank2,.slice q5 m2 d5]] MK aj)
  clear aj MK HY HL
  have g:=M8.hi 2
  have h:=M8.hi 3
  have k:=M8.hi 4
  have j:=M8.hi 5
  obtain⟨e0,e1,e2,e3,e4,e5,e6,e7,e8,e9⟩:=(M8.bk 2).ten
  obtain⟨f0,ai,f1,af,f2,ah,f3,x,f4,aa,f5,y,f6,ag,f7,ad,f8,ae,f9,u⟩:=(M8.bk 3).tenf
  obtain⟨a,b⟩:=M8.nq 2 3
  go_wp2
  clear e0 e1 e2 e3 e4 e5 e6 e7 e8 e9 f0 ai f1 af f2 ah f3 x f4 aa f5 y f6 ag f7 ad f8 ae f9 u a b g h k j
  have d:=(M8.put10 (i:=3) rfl (.int .i64 aA) (.int .i64 aB) (.slice p5 n c5) (.int .i64 free) (.int .i64 step) (.int .i64 aD) (.int .i64 aG) (.int .i64 aC) (.int .i64 bank2) (.slice q5 m2 d5))
  generalize f:World.setCell _ _ _=wz
  rw[f]at d
  clear f M8
  obtain⟨y0,y1,y2,y3,y4,y5,y6,y7,y8,y9⟩:=(d.bk 3).ten
  exact bodyPost_ret (v:= .tuple #[.agg #[aA,aB,.slice p5 n c5,free,step,aD,aG,aC,bank2,.slice q5 m2 d5],num,.bool true]) (by simp[results,Tryz.results27,go_sem, *]) rfl ⟨p5,c5,q5,d5,rfl,(d.ow 0),(d.ow 1),d.ext⟩
end Go.Proofs.YtgnkoffndhmhpaaGreatDoor
