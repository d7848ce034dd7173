/-
  Texts of this proof, packed (@packed).
-/
import Derived.Test.YtgnkoffndhmhpaaGreatDoorR10
import Derived.Test.YtgnkoffndhmhpaaGreatDoorR28
import Derived.Test.YtgnkoffndhmhpaaGreatDoorR29
import Derived.Test.YtgnkoffndhmhpaaGreatDoorR34
namespace Go.Proofs.YtgnkoffndhmhpaaGreatDoor
open Go.RowKit
set_option linter.unusedVariables false
set_option linter.unusedSimpArgs false
set_option maxHeartbeats 8000000
set_option maxRecDepth 100000
theorem aBq (w:World)(gA:Nat)(aA aB free step aE aF aC aG id slides:Int)(p:OA)(n cap:Nat)(q:OA)(m c2:Nat)(hA:Hid (Blk w gA aO #[aA,aB,.slice p n cap,free,step,aE,aF,aC,aG,.slice q m c2]))
  (HMY:xB 115 #[.agg #[aA,aB,.slice p n cap,free,step,aE,aF,aC,aG,.slice q m c2],id] w false):
  Calls Tryz.prog 69 #[.pointer (some ⟨gA,0,none⟩),id] w fun e w'=>e= .returned (.tuple #[(-1:Int),.bool false])∧Ext w w':=by
 go_enter Tryz.func69,Tryz.ntmps69
 obtain⟨a0,a1,a2,a3,a4,a5,a6,a7,a8,a9⟩:=hA.out.ten
 have hlt:=hA.out.lt
 go_wp2_with fail
 clear a0 a1 a2 a3 a4 a5 a6 a7 a8 a9
 refine(HMY.out _ (Ext.refl _)).mono ?_
 rintro e w1 ⟨rfl,hx⟩
 have hX:=xQ hx
 clear hx
 go_wp2
 exact bodyPost_ret (v:= .tuple #[(-1:Int),.bool false]) (by simp[results,Tryz.results69,go_sem, *]) rfl ⟨rfl,hX.out⟩
theorem aEd (w:World)(gA:Nat)(aA aB free step aE aF aC aG id slides:Int)(p:OA)(n cap:Nat)(q:OA)(m c2:Nat)(ys:List Int)(h0:slides<0)(hA:Hid (Blk w gA aO #[aA,aB,.slice p n cap,free,step,aE,aF,aC,aG,.slice q m c2]))
  (HMY:xB 115 #[.agg #[aA,aB,.slice p n cap,free,step,aE,aF,aC,aG,.slice q m c2],id] w true)
  (HF:xC 116 #[aI aA aB p n cap,id] w fun w' e w''=> ∃q c,e= .returned (.tuple #[aI aA aB q n c,slides])∧w''.ownsRow w'.heap.size TI 1 (.slice q n c) n (ivs ys)∧Ext w' w''):
  Calls Tryz.prog 69 #[.pointer (some ⟨gA,0,none⟩),id] w fun e w'=>e= .returned (.tuple #[(-1:Int),.bool false])∧Ext w w':=by
 go_enter Tryz.func69,Tryz.ntmps69
 obtain⟨a0,a1,a2,a3,a4,a5,a6,a7,a8,a9⟩:=hA.out.ten
 have hlt:=hA.out.lt
 go_wp2_with fail
 clear a0 a1 a2 a3 a4 a5 a6 a7 a8 a9
 refine(HMY.out _ (Ext.refl _)).mono ?_
 rintro e w1 ⟨rfl,hx⟩
 have hX:=xQ hx
 clear hx
 obtain⟨a0,a1,a2,a3,a4,a5,a6,a7,a8,a9⟩:=(hA.out.ext hX.out).ten
 go_wp2_with fail
 clear a0 a1 a2 a3 a4 a5 a6 a7 a8 a9
 refine(HF.out _ hX.out).mono ?_
 rintro e w2 ⟨p1,c1,rfl,_,hx2⟩
 have hX2:=xQ (hX.out.trans hx2)
 clear hx2
 go_wp2
 exact bodyPost_ret (v:= .tuple #[(-1:Int),.bool false]) (by simp[results,Tryz.results69,go_sem, *]) rfl ⟨rfl,by have:=hX2.out;exact xE⟩
theorem aBp (w0 w:World)(R:Item)(gA:Nat)(aA aB free step aE aF aC aG id slides:Int)(p:OA)(n cap:Nat)(gq:Nat)(m c2:Nat)(k:Nat)(xs ys:List Int)(vs:List aQ)(hk:k<m)(hm:m≤1000)(h0:0≤slides)(hM:Hid (Mem w0 w [aJ w0.heap.size TI 1 (p) (n) (cap) (ivs (xs)),aJ w0.heap.size TV 4 (some ⟨gq,0,none⟩) (m) (c2) ((vs).flatMap aD),aL w0.heap.size (gA) aO #[aA,aB,.slice p n cap,free,step,aE,aF,aC,aG,.slice (some ⟨gq,0,none⟩) m c2],R]))
  (HMY:xB 115 #[.agg #[aA,aB,.slice p n cap,free,step,aE,aF,aC,aG,.slice (some ⟨gq,0,none⟩) m c2],id] w true)
  (HF:xC 116 #[aI aA aB p n cap,id] w fun w' e w''=> ∃q c,e= .returned (.tuple #[aI aA aB q n c,slides])∧w''.ownsRow w'.heap.size TI 1 (.slice q n c) n (ivs ys)∧Ext w' w'')
  (HX:Hid (∀w' p' cap',Sl w' (some ⟨gq,0,none⟩) m c2 4 (vs.flatMap aD)→Calls Tryz.prog 94 #[.agg #[aA,aB,.slice p' n cap',free,step,aE,aF,aC,aG,.slice (some ⟨gq,0,none⟩) m c2],id] w' fun e w''=>e= .returned (.int .i64 (k:Int))∧Ext w' w'')):
  Calls Tryz.prog 69 #[.pointer (some ⟨gA,0,none⟩),id] w fun e w'=> ∃p1 c1,e= .returned (.tuple #[slides,.bool true])∧Mem w0 w' [aJ w0.heap.size TI 1 (p1) (n) (c1) (ivs (ys)),aJ w0.heap.size TV 4 (some ⟨gq,0,none⟩) ((m-1)) (c2) ((vs.eraseIdx k).flatMap aD),aL w0.heap.size (gA) aO #[aA,aB,.slice p1 n c1,free,step,aE,aF,aC,aG,.slice (some ⟨gq,0,none⟩) (m-1) c2],R]:=by
 go_enter Tryz.func69,Tryz.ntmps69
 have lt0_2:gA<w.heap.size:=(hM.out.lt (i:=2) rfl rfl).2
 obtain⟨a0,a1,a2,a3,a4,a5,a6,a7,a8,a9⟩:=(hM.out.blk (i:=2) rfl).ten
 go_wp2_with fail
 clear a0 a1 a2 a3 a4 a5 a6 a7 a8 a9
 refine(HMY.out _ (Ext.refl _)).mono ?_
 rintro e w1 ⟨rfl,hx1⟩
 have hX1:=xQ hx1
 have M1:=xQ (hM.out.adv hx1)
 clear hM lt0_2
 have lt1_2:=M1.out.hi 2
 clear hx1
 have a0:w1.cell? ⟨gA,0,none⟩=some (.int .i64 aA):=(M1.out.blk (i:=2) rfl).cell 0
 have a1:w1.cell? ⟨gA,1,none⟩=some (.int .i64 aB):=(M1.out.blk (i:=2) rfl).cell 1
 have a2:w1.cell? ⟨gA,2,none⟩=some (.slice p n cap):=(M1.out.blk (i:=2) rfl).cell 2
 go_wp2_with fail
 clear a0 a1 a2
 refine(HF.out _ hX1.out).mono ?_
 rintro e w2 ⟨p1,c1,rfl,ho2,hx2⟩
 have M2:=xQ ((M1.out).call hx2 ho2)
 clear M1 lt1_2
 have lt2_3:=M2.out.hi 3
 clear hx2 ho2
 go_upto_region 4 with fail
 obtain⟨gV,hgV⟩: ∃gV,gV=w2.heap.size:=⟨_,rfl⟩
 rw[←hgV]
 have M3:=xQ (((M2.out).blkNew TH3 #[aA,aB,.slice p1 n c1] gV hgV.symm))
 generalize World.alloc _ _=w3 at M3⊢
 clear M2 lt2_3
 have lt3_0:=M3.out.hi 0
 have lt3_4:=M3.out.hi 4
 clear hgV
 have t0: ¬(slides<0):=by omega
 obtain⟨v0,v1,v2⟩:=(M3.out.blk (i:=0) rfl).tri
 have a0:w3.cell? ⟨gA,0,none⟩=some (.int .i64 aA):=(M3.out.blk (i:=4) rfl).cell 0
 have af0:w3.frozen? ⟨gA,0,none⟩=false:=(M3.out.blk (i:=4) rfl).frozen 0
 have a1:w3.cell? ⟨gA,1,none⟩=some (.int .i64 aB):=(M3.out.blk (i:=4) rfl).cell 1
 have af1:w3.frozen? ⟨gA,1,none⟩=false:=(M3.out.blk (i:=4) rfl).frozen 1
 have a2:w3.cell? ⟨gA,2,none⟩=some (.slice p n cap):=(M3.out.blk (i:=4) rfl).cell 2
 have af2:w3.frozen? ⟨gA,2,none⟩=false:=(M3.out.blk (i:=4) rfl).frozen 2
 have ne0_1a: ¬(gV=gA):=M3.out.ne (i:=0) (j:=4) (by omega) rfl rfl rfl rfl
 have ne0_1b: ¬(gA=gV):=fun h=>ne0_1a h.symm
 go_upto_region 7 with fail
 clear v0 v1 v2 a0 af0 a1 af1 a2 af2 ne0_1a ne0_1b
 have M4:=xQ (((((M3.out).st 4 0 (.int .i64 aA))).st 4 1 (.int .i64 aB)))
 have M5:=xQ (((M4.out).st 4 2 (.slice p1 n c1)))
 have M6:=xQ (M5.out)
 generalize hwz:World.setCell _ _ _=w5
 rw[hwz]at M6
 clear hwz M3 M4 M5
 have MW6:=xQ (show Mem w0 w5 [aJ w0.heap.size TI 1 (p1) (n) (c1) (ivs (ys)),aJ w0.heap.size TV 4 (some ⟨gq,0,none⟩) (m) (c2) ((vs).flatMap aD),aL w0.heap.size (gA) aO #[aA,aB,.slice p1 n c1,free,step,aE,aF,aC,aG,.slice (some ⟨gq,0,none⟩) m c2],R]from((M6.out).pick [1,3,4,5] (by decide) rfl))
 clear M6
 have lt16_2:gA<w5.heap.size:=(MW6.out.lt (i:=2) rfl rfl).2
 obtain⟨a0,a1,a2,a3,a4,a5,a6,a7,a8,a9⟩:=(MW6.out.blk (i:=2) rfl).ten
 go_wp2_with fail
 clear a0 a1 a2 a3 a4 a5 a6 a7 a8 a9
 have hVS:=xQ (MW6.out.sl (i:=1) rfl)
 refine(HX.out _ _ _ hVS.out).mono ?_
 rintro e w17 ⟨rfl,hx17⟩
 have M17:=xQ ((MW6.out).adv hx17)
 clear MW6 lt16_2
 have lt17_2:=M17.out.hi 2
 clear hx17 hVS
 have HDL:=xQ (aHc gq m c2 w0.heap.size k (k+1) vs w17 (by omega) hk rfl (M17.out.own (i:=1) rfl))
 rw[show((k+1:Nat):Int)=(k:Int)+1 by omega]at HDL
 have hwi:IntKind.i64.wrap ((k:Int)+1)=(k:Int)+1:=IntWalk.i64_in _ (by omega)
 have a9:w17.cell? ⟨gA,9,none⟩=some (.slice (some ⟨gq,0,none⟩) m c2):=(M17.out.blk (i:=2) rfl).cell 9
 go_wp2_with fail
 clear a9
 refine(HDL.out).mono ?_
 rintro e w8 ⟨rfl,ho8,hg8⟩
 have M18:=xQ (show Mem w0 w8 [aJ w0.heap.size TI 1 (p1) (n) (c1) (ivs (ys)),aJ w0.heap.size TV 4 (some ⟨gq,0,none⟩) ((m-1)) (c2) ((vs.eraseIdx k).flatMap aD),aL w0.heap.size (gA) aO #[aA,aB,.slice p1 n c1,free,step,aE,aF,aC,aG,.slice (some ⟨gq,0,none⟩) m c2],R]from M17.out.app (i:=1) rfl ho8 hg8 (.inl rfl))
 clear M17 lt17_2
 have lt18_2:=M18.out.hi 2
 clear ho8 hg8 HDL
 have a9:w8.cell? ⟨gA,9,none⟩=some (.slice (some ⟨gq,0,none⟩) m c2):=(M18.out.blk (i:=2) rfl).cell 9
 have af9:w8.frozen? ⟨gA,9,none⟩=false:=(M18.out.blk (i:=2) rfl).frozen 9
 go_wp2
 clear a9 af9
 exact bodyPost_ret (v:= .tuple #[slides,.bool true]) (by simp[results,Tryz.results69,go_sem, *]) rfl ⟨p1,c1,rfl,(((M18.out).st 2 9 (.slice (some ⟨gq,0,none⟩) (m-1) c2)))⟩
end Go.Proofs.YtgnkoffndhmhpaaGreatDoor
