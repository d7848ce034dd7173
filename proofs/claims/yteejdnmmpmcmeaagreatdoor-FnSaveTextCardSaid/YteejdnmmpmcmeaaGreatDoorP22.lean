/-
  Texts of this proof, packed (@packed).
-/
import Derived.Test.YteejdnmmpmcmeaaGreatDoorP5
import Derived.Test.YteejdnmmpmcmeaaGreatDoorP6
import Derived.Test.YteejdnmmpmcmeaaGreatDoorP9
import Derived.Test.YteejdnmmpmcmeaaGreatDoorP20
import Derived.Test.YteejdnmmpmcmeaaGreatDoorP21
namespace Go.Proofs.YteejdnmmpmcmeaaGreatDoor
open Go.RowKit
set_option linter.unusedVariables false
abbrev TV:TypeId:=38
def RetHouse (h:aV)(w:World)(e:Ending)(w':World):Prop:=
 ∃p cap q c2,e= .returned (cH h p h.cells.length cap q h.vs.length c2)∧w'.ownsRow w.heap.size TI 1 (.slice p h.cells.length cap) h.cells.length (ivs h.cells)∧w'.ownsRow w.heap.size TV 4 (.slice q h.vs.length c2) h.vs.length (h.vs.flatMap aE)∧Ext w w'
set_option linter.unusedSimpArgs false
abbrev aQ:TypeId:=30
theorem wL:ElT Tryz.prog 28 TV 4:=
 ⟨Tryz.underlying28,by
  obtain⟨i,hi,h0,h1,h2⟩:=info_parts (show(Tryz.prog.info? TV).map (fun i=>(i.zero,i.size,i.bytes))=some (some (.agg #[.int .i64 0,.int .i64 0,.int .i64 0,.int .i64 0]),4,32) by kernel_rfl)
  exact⟨i,_,hi,h0,h1,by omega,rfl⟩,by omega⟩
theorem iC (vs:List bC): ∀u∈vs.flatMap aE,u.oneCell'=true:=by
 intro u hu
 obtain⟨v,_,hv⟩:=List.mem_flatMap.1 hu
 simp only[aE,List.mem_cons,List.not_mem_nil,or_false]at hv
 rcases hv with rfl|rfl|rfl|rfl<;>rfl
theorem oI (v:bC): ∀u∈aE v,u.oneCell'=true:=by
 intro u hu
 simp only[aE,List.mem_cons,List.not_mem_nil,or_false]at hu
 rcases hu with rfl|rfl|rfl|rfl<;>rfl
set_option maxRecDepth 100000 in
set_option maxHeartbeats 8000000 in
theorem aHn (aA aB free step aD aH aC aI:Int)(p:Option Addr)(n cap:Nat)(q:Option Addr)(m c2:Nat)(xs:List Int)(vs:List bC)(w:World)(hm:m≤1000)(hS:Hid (Sl w q m c2 4 (vs.flatMap aE)))
  (HL:Hid (∀w',Ext w w'→Calls Tryz.prog 182 #[aJ aA aB p n cap] w' fun e w''=> ∃q c,e= .returned (aJ aA aB q n c)∧w''.ownsRow w'.heap.size TI 1 (.slice q n c) n (ivs xs)∧Ext w' w'')):
  Calls Tryz.prog 146 #[.agg #[.int .i64 aA,.int .i64 aB,.slice p n cap,.int .i64 free,.int .i64 step,.int .i64 aD,.int .i64 aH,.int .i64 aC,.int .i64 aI,.slice q m c2]] w fun e w'=> ∃p' cap' q' c2',e= .returned (.agg #[.int .i64 aA,.int .i64 aB,.slice p' n cap',.int .i64 free,.int .i64 step,.int .i64 aD,.int .i64 aH,.int .i64 aC,.int .i64 aI,.slice q' m c2'])∧w'.ownsRow w.heap.size TI 1 (.slice p' n cap') n (ivs xs)∧w'.ownsRow w.heap.size TV 4 (.slice q' m c2') m (vs.flatMap aE)∧Ext w w':=by
 go_enter Tryz.func146,Tryz.ntmps146
 go_wp2_with fail
 refine(HL.out _ (((((((Mem.start w).blkNew aQ #[.int .i64 aA,.int .i64 aB,.slice p n cap,.int .i64 free,.int .i64 step,.int .i64 aD,.int .i64 aH,.int .i64 aC,.int .i64 aI,.slice q m c2] (w.heap.size) (by simp))).blkNew aQ #[.int .i64 0,.int .i64 0,.slice none 0 0,.int .i64 0,.int .i64 0,.int .i64 0,.int .i64 0,.int .i64 0,.int .i64 0,.slice none 0 0] (w.heap.size+1) (by simp))).blkNew aQ #[.int .i64 aA,.int .i64 aB,.slice p n cap,.int .i64 free,.int .i64 step,.int .i64 aD,.int .i64 aH,.int .i64 aC,.int .i64 aI,.slice q m c2] (w.heap.size+1+1) (by simp))).ext).mono ?_
 rintro e w1 ⟨q0,c0,rfl,ho1,hx1⟩
 have M1:=xQ ((((((((Mem.start w).blkNew aQ #[.int .i64 aA,.int .i64 aB,.slice p n cap,.int .i64 free,.int .i64 step,.int .i64 aD,.int .i64 aH,.int .i64 aC,.int .i64 aI,.slice q m c2] (w.heap.size) (by simp))).blkNew aQ #[.int .i64 0,.int .i64 0,.slice none 0 0,.int .i64 0,.int .i64 0,.int .i64 0,.int .i64 0,.int .i64 0,.int .i64 0,.slice none 0 0] (w.heap.size+1) (by simp))).blkNew aQ #[.int .i64 aA,.int .i64 aB,.slice p n cap,.int .i64 free,.int .i64 step,.int .i64 aD,.int .i64 aH,.int .i64 aC,.int .i64 aI,.slice q m c2] (w.heap.size+1+1) (by simp))).call hx1 ho1)
 have lt1_1:=M1.out.hi 1
 have lt1_2:=M1.out.hi 2
 have lt1_3:=M1.out.hi 3
 clear hx1 ho1
 have c9:w1.cell? ⟨w.heap.size,9,none⟩=some (.slice q m c2):=(M1.out.blk (i:=3) rfl).cell 9
 have d0:w1.cell? ⟨w.heap.size+1+1,0,none⟩=some (.int .i64 aA):=(M1.out.blk (i:=1) rfl).cell 0
 have df0:w1.frozen? ⟨w.heap.size+1+1,0,none⟩=false:=(M1.out.blk (i:=1) rfl).frozen 0
 have d1:w1.cell? ⟨w.heap.size+1+1,1,none⟩=some (.int .i64 aB):=(M1.out.blk (i:=1) rfl).cell 1
 have df1:w1.frozen? ⟨w.heap.size+1+1,1,none⟩=false:=(M1.out.blk (i:=1) rfl).frozen 1
 have d2:w1.cell? ⟨w.heap.size+1+1,2,none⟩=some (.slice p n cap):=(M1.out.blk (i:=1) rfl).cell 2
 have df2:w1.frozen? ⟨w.heap.size+1+1,2,none⟩=false:=(M1.out.blk (i:=1) rfl).frozen 2
 go_wp2_with (at_builtin;refine fH wL rfl _ _ rfl ((((((((M1.out).store (i:=1) rfl 0 (.int .i64 aA))).store (i:=1) rfl 1 (.int .i64 aB))).store (i:=1) rfl 2 (.slice q0 n c0))).made0 TV 4 (w1.heap.size) (by simp)) 0 rfl rfl (vs.flatMap aE) rfl (hS.out.ext (((((((((M1.out).store (i:=1) rfl 0 (.int .i64 aA))).store (i:=1) rfl 1 (.int .i64 aB))).store (i:=1) rfl 2 (.slice q0 n c0))).made0 TV 4 (w1.heap.size) (by simp))).ext) (iC vs) (by omega) ?_;intro q7 c7 w6 M6X;have M6:=xQ (show Mem w w6 [aP w.heap.size TV 4 (q7) (m) (c7) (vs.flatMap aE),aP w.heap.size TI 1 (q0) (n) (c0) (ivs xs),aK w.heap.size (w.heap.size+1+1) aQ #[.int .i64 aA,.int .i64 aB,.slice q0 n c0,.int .i64 free,.int .i64 step,.int .i64 aD,.int .i64 aH,.int .i64 aC,.int .i64 aI,.slice q m c2],aK w.heap.size (w.heap.size+1) aQ #[.int .i64 0,.int .i64 0,.slice none 0 0,.int .i64 0,.int .i64 0,.int .i64 0,.int .i64 0,.int .i64 0,.int .i64 0,.slice none 0 0],aK w.heap.size (w.heap.size) aQ #[.int .i64 aA,.int .i64 aB,.slice p n cap,.int .i64 free,.int .i64 step,.int .i64 aD,.int .i64 aH,.int .i64 aC,.int .i64 aI,.slice q m c2]]from by have:=(show Mem w w6 [aP w.heap.size TV 4 (q7) (0+m) (c7) ([]++vs.flatMap aE),aP w.heap.size TI 1 (q0) (n) (c0) (ivs xs),aK w.heap.size (w.heap.size+1+1) aQ #[.int .i64 aA,.int .i64 aB,.slice q0 n c0,.int .i64 free,.int .i64 step,.int .i64 aD,.int .i64 aH,.int .i64 aC,.int .i64 aI,.slice q m c2],aK w.heap.size (w.heap.size+1) aQ #[.int .i64 0,.int .i64 0,.slice none 0 0,.int .i64 0,.int .i64 0,.int .i64 0,.int .i64 0,.int .i64 0,.int .i64 0,.slice none 0 0],aK w.heap.size (w.heap.size) aQ #[.int .i64 aA,.int .i64 aB,.slice p n cap,.int .i64 free,.int .i64 step,.int .i64 aD,.int .i64 aH,.int .i64 aC,.int .i64 aI,.slice q m c2]]from M6X);simpa only[Nat.zero_add,List.nil_append]using this);clear M6X c9 d0 df0 d1 df1 d2 df2 M1 lt1_1 lt1_2 lt1_3;(have lt30_2:w.heap.size+1+1<w6.heap.size:=(M6.out.lt (i:=2) rfl rfl).2);(have lt30_3:w.heap.size+1<w6.heap.size:=(M6.out.lt (i:=3) rfl rfl).2);(have lt30_4:w.heap.size<w6.heap.size:=(M6.out.lt (i:=4) rfl rfl).2);(obtain⟨x0,x1,x2,x3,x4,x5,x6,x7,x8,x9⟩:=(M6.out.blk (i:=2) rfl).ten);(have xx9:w6.cell? ⟨w.heap.size+1+1,9,none⟩=some (.slice q m c2):=(M6.out.blk (i:=2) rfl).cell 9);(have xxf9:w6.frozen? ⟨w.heap.size+1+1,9,none⟩=false:=(M6.out.blk (i:=2) rfl).frozen 9);(obtain⟨y0,yf0,y1,yf1,y2,yf2,y3,yf3,y4,yf4,y5,yf5,y6,yf6,y7,yf7,y8,yf8,y9,yf9⟩:=(M6.out.blk (i:=3) rfl).tenf))
 have M31:=xQ (show Mem w (((w6.setCell ⟨w.heap.size+1+1,9,none⟩ (.slice q7 m c7)).setCell ⟨w.heap.size+1,0,none⟩ (.int .i64 aA)).setCell ⟨w.heap.size+1,1,none⟩ (.int .i64 aB)) [aP w.heap.size TV 4 (q7) (m) (c7) (vs.flatMap aE),aP w.heap.size TI 1 (q0) (n) (c0) (ivs xs),aK w.heap.size (w.heap.size+1+1) aQ #[.int .i64 aA,.int .i64 aB,.slice q0 n c0,.int .i64 free,.int .i64 step,.int .i64 aD,.int .i64 aH,.int .i64 aC,.int .i64 aI,.slice q7 m c7],aK w.heap.size (w.heap.size+1) aQ #[.int .i64 aA,.int .i64 aB,.slice none 0 0,.int .i64 0,.int .i64 0,.int .i64 0,.int .i64 0,.int .i64 0,.int .i64 0,.slice none 0 0],aK w.heap.size (w.heap.size) aQ #[.int .i64 aA,.int .i64 aB,.slice p n cap,.int .i64 free,.int .i64 step,.int .i64 aD,.int .i64 aH,.int .i64 aC,.int .i64 aI,.slice q m c2]]from((((((M6.out).store (i:=2) rfl 9 (.slice q7 m c7))).store (i:=3) rfl 0 (.int .i64 aA))).store (i:=3) rfl 1 (.int .i64 aB)))
 have M32:=xQ (show Mem w (((((w6.setCell ⟨w.heap.size+1+1,9,none⟩ (.slice q7 m c7)).setCell ⟨w.heap.size+1,0,none⟩ (.int .i64 aA)).setCell ⟨w.heap.size+1,1,none⟩ (.int .i64 aB)).setCell ⟨w.heap.size+1,2,none⟩ (.slice q0 n c0)).setCell ⟨w.heap.size+1,3,none⟩ (.int .i64 free)) [aP w.heap.size TV 4 (q7) (m) (c7) (vs.flatMap aE),aP w.heap.size TI 1 (q0) (n) (c0) (ivs xs),aK w.heap.size (w.heap.size+1+1) aQ #[.int .i64 aA,.int .i64 aB,.slice q0 n c0,.int .i64 free,.int .i64 step,.int .i64 aD,.int .i64 aH,.int .i64 aC,.int .i64 aI,.slice q7 m c7],aK w.heap.size (w.heap.size+1) aQ #[.int .i64 aA,.int .i64 aB,.slice q0 n c0,.int .i64 free,.int .i64 0,.int .i64 0,.int .i64 0,.int .i64 0,.int .i64 0,.slice none 0 0],aK w.heap.size (w.heap.size) aQ #[.int .i64 aA,.int .i64 aB,.slice p n cap,.int .i64 free,.int .i64 step,.int .i64 aD,.int .i64 aH,.int .i64 aC,.int .i64 aI,.slice q m c2]]from((((M31.out).store (i:=3) rfl 2 (.slice q0 n c0))).store (i:=3) rfl 3 (.int .i64 free)))
 have M33:=xQ (show Mem w (((((((w6.setCell ⟨w.heap.size+1+1,9,none⟩ (.slice q7 m c7)).setCell ⟨w.heap.size+1,0,none⟩ (.int .i64 aA)).setCell ⟨w.heap.size+1,1,none⟩ (.int .i64 aB)).setCell ⟨w.heap.size+1,2,none⟩ (.slice q0 n c0)).setCell ⟨w.heap.size+1,3,none⟩ (.int .i64 free)).setCell ⟨w.heap.size+1,4,none⟩ (.int .i64 step)).setCell ⟨w.heap.size+1,5,none⟩ (.int .i64 aD)) [aP w.heap.size TV 4 (q7) (m) (c7) (vs.flatMap aE),aP w.heap.size TI 1 (q0) (n) (c0) (ivs xs),aK w.heap.size (w.heap.size+1+1) aQ #[.int .i64 aA,.int .i64 aB,.slice q0 n c0,.int .i64 free,.int .i64 step,.int .i64 aD,.int .i64 aH,.int .i64 aC,.int .i64 aI,.slice q7 m c7],aK w.heap.size (w.heap.size+1) aQ #[.int .i64 aA,.int .i64 aB,.slice q0 n c0,.int .i64 free,.int .i64 step,.int .i64 aD,.int .i64 0,.int .i64 0,.int .i64 0,.slice none 0 0],aK w.heap.size (w.heap.size) aQ #[.int .i64 aA,.int .i64 aB,.slice p n cap,.int .i64 free,.int .i64 step,.int .i64 aD,.int .i64 aH,.int .i64 aC,.int .i64 aI,.slice q m c2]]from((((M32.out).store (i:=3) rfl 4 (.int .i64 step))).store (i:=3) rfl 5 (.int .i64 aD)))
 have M34:=xQ (show Mem w (((((((((w6.setCell ⟨w.heap.size+1+1,9,none⟩ (.slice q7 m c7)).setCell ⟨w.heap.size+1,0,none⟩ (.int .i64 aA)).setCell ⟨w.heap.size+1,1,none⟩ (.int .i64 aB)).setCell ⟨w.heap.size+1,2,none⟩ (.slice q0 n c0)).setCell ⟨w.heap.size+1,3,none⟩ (.int .i64 free)).setCell ⟨w.heap.size+1,4,none⟩ (.int .i64 step)).setCell ⟨w.heap.size+1,5,none⟩ (.int .i64 aD)).setCell ⟨w.heap.size+1,6,none⟩ (.int .i64 aH)).setCell ⟨w.heap.size+1,7,none⟩ (.int .i64 aC)) [aP w.heap.size TV 4 (q7) (m) (c7) (vs.flatMap aE),aP w.heap.size TI 1 (q0) (n) (c0) (ivs xs),aK w.heap.size (w.heap.size+1+1) aQ #[.int .i64 aA,.int .i64 aB,.slice q0 n c0,.int .i64 free,.int .i64 step,.int .i64 aD,.int .i64 aH,.int .i64 aC,.int .i64 aI,.slice q7 m c7],aK w.heap.size (w.heap.size+1) aQ #[.int .i64 aA,.int .i64 aB,.slice q0 n c0,.int .i64 free,.int .i64 step,.int .i64 aD,.int .i64 aH,.int .i64 aC,.int .i64 0,.slice none 0 0],aK w.heap.size (w.heap.size) aQ #[.int .i64 aA,.int .i64 aB,.slice p n cap,.int .i64 free,.int .i64 step,.int .i64 aD,.int .i64 aH,.int .i64 aC,.int .i64 aI,.slice q m c2]]from((((M33.out).store (i:=3) rfl 6 (.int .i64 aH))).store (i:=3) rfl 7 (.int .i64 aC)))
 have M35:=xQ (show Mem w (((((((((((w6.setCell ⟨w.heap.size+1+1,9,none⟩ (.slice q7 m c7)).setCell ⟨w.heap.size+1,0,none⟩ (.int .i64 aA)).setCell ⟨w.heap.size+1,1,none⟩ (.int .i64 aB)).setCell ⟨w.heap.size+1,2,none⟩ (.slice q0 n c0)).setCell ⟨w.heap.size+1,3,none⟩ (.int .i64 free)).setCell ⟨w.heap.size+1,4,none⟩ (.int .i64 step)).setCell ⟨w.heap.size+1,5,none⟩ (.int .i64 aD)).setCell ⟨w.heap.size+1,6,none⟩ (.int .i64 aH)).setCell ⟨w.heap.size+1,7,none⟩ (.int .i64 aC)).setCell ⟨w.heap.size+1,8,none⟩ (.int .i64 aI)).setCell ⟨w.heap.size+1,9,none⟩ (.slice q7 m c7)) [aP w.heap.size TV 4 (q7) (m) (c7) (vs.flatMap aE),aP w.heap.size TI 1 (q0) (n) (c0) (ivs xs),aK w.heap.size (w.heap.size+1+1) aQ #[.int .i64 aA,.int .i64 aB,.slice q0 n c0,.int .i64 free,.int .i64 step,.int .i64 aD,.int .i64 aH,.int .i64 aC,.int .i64 aI,.slice q7 m c7],aK w.heap.size (w.heap.size+1) aQ #[.int .i64 aA,.int .i64 aB,.slice q0 n c0,.int .i64 free,.int .i64 step,.int .i64 aD,.int .i64 aH,.int .i64 aC,.int .i64 aI,.slice q7 m c7],aK w.heap.size (w.heap.size) aQ #[.int .i64 aA,.int .i64 aB,.slice p n cap,.int .i64 free,.int .i64 step,.int .i64 aD,.int .i64 aH,.int .i64 aC,.int .i64 aI,.slice q m c2]]from((((M34.out).store (i:=3) rfl 8 (.int .i64 aI))).store (i:=3) rfl 9 (.slice q7 m c7)))
 clear x0 x1 x2 x3 x4 x5 x6 x7 x8 x9 xx9 xxf9 y0 yf0 y1 yf1 y2 yf2 y3 yf3 y4 yf4 y5 yf5 y6 yf6 y7 yf7 y8 yf8 y9 yf9 lt30_2 lt30_3 lt30_4
 have M36:=xQ (show Mem w (((((((((((w6.setCell ⟨w.heap.size+1+1,9,none⟩ (.slice q7 m c7)).setCell ⟨w.heap.size+1,0,none⟩ (.int .i64 aA)).setCell ⟨w.heap.size+1,1,none⟩ (.int .i64 aB)).setCell ⟨w.heap.size+1,2,none⟩ (.slice q0 n c0)).setCell ⟨w.heap.size+1,3,none⟩ (.int .i64 free)).setCell ⟨w.heap.size+1,4,none⟩ (.int .i64 step)).setCell ⟨w.heap.size+1,5,none⟩ (.int .i64 aD)).setCell ⟨w.heap.size+1,6,none⟩ (.int .i64 aH)).setCell ⟨w.heap.size+1,7,none⟩ (.int .i64 aC)).setCell ⟨w.heap.size+1,8,none⟩ (.int .i64 aI)).setCell ⟨w.heap.size+1,9,none⟩ (.slice q7 m c7)) [aP w.heap.size TV 4 (q7) (m) (c7) (vs.flatMap aE),aP w.heap.size TI 1 (q0) (n) (c0) (ivs xs),aK w.heap.size (w.heap.size+1+1) aQ #[.int .i64 aA,.int .i64 aB,.slice q0 n c0,.int .i64 free,.int .i64 step,.int .i64 aD,.int .i64 aH,.int .i64 aC,.int .i64 aI,.slice q7 m c7],aK w.heap.size (w.heap.size+1) aQ #[.int .i64 aA,.int .i64 aB,.slice q0 n c0,.int .i64 free,.int .i64 step,.int .i64 aD,.int .i64 aH,.int .i64 aC,.int .i64 aI,.slice q7 m c7],aK w.heap.size (w.heap.size) aQ #[.int .i64 aA,.int .i64 aB,.slice p n cap,.int .i64 free,.int .i64 step,.int .i64 aD,.int .i64 aH,.int .i64 aC,.int .i64 aI,.slice q m c2]]from M35.out)
 generalize hwz:World.setCell _ _ _=wz
 rw[hwz]at M36
 clear hwz M6 M31 M32 M33 M34 M35
 obtain⟨y0,y1,y2,y3,y4,y5,y6,y7,y8,y9⟩:=(M36.out.blk (i:=3) rfl).ten
 exact bodyPost_ret (v:= .agg #[.int .i64 aA,.int .i64 aB,.slice q0 n c0,.int .i64 free,.int .i64 step,.int .i64 aD,.int .i64 aH,.int .i64 aC,.int .i64 aI,.slice q7 m c7]) (by simp[results,Tryz.results146,go_sem, *]) rfl ⟨q0,c0,q7,c7,rfl,(M36.out.own (i:=1) rfl),by have:=(M36.out.own (i:=0) rfl);simpa using this,M36.out.ext⟩
set_option maxRecDepth 100000 in
set_option maxHeartbeats 8000000 in
theorem vR (h:aV)(p:Option Addr)(n cap:Nat)(q:Option Addr)(m c2:Nat)(w:World)(hn:n≤1000)(hm:m≤1000)(hi:IsHouse w h p n cap q m c2):
  Calls Tryz.prog 146 #[cH h p n cap q m c2] w (RetHouse h w):=by
 have hl:=hi.clen
 have hvl:=hi.vlen
 refine(aHn h.aA h.aB h.free h.step h.aD h.aH h.aC h.aI p n cap q m c2 h.cells h.vs w hm (xQ hi.vs) (xQ fun w' hx=> ?_)).mono ?_
 ·refine(fM h.aA h.aB p n cap h.cells w' (by omega) (hi.cells.ext hx)).mono ?_
  rintro e w'' ⟨q,c,rfl,ho,hx2⟩
  rw[hl]at ho⊢
  exact⟨q,c,rfl,ho,hx2⟩
 ·rintro e w' ⟨p',cap',q',c2',rfl,h1,h2,h3⟩
  subst hl hvl
  exact⟨p',cap',q',c2',rfl,h1,h2,h3⟩
def mT (v:bC)(vs:List bC):List bC:=vs.takeWhile (fun u=>decide (u.1<v.1))++v::vs.dropWhile (fun u=>decide (u.1<v.1))
theorem aA4 (v:bC): ∀(vs:List bC) (k:Nat),(∀u∈vs.take k,u.1<v.1)→(∀u,vs[k]? =some u→ ¬u.1<v.1)→mT v vs=vs.take k++v::vs.drop k
 | [],k,_,_=>by simp[mT]
 |u::vs,0,_,h2=>by simp[mT,h2 u (by simp)]
 |u::vs,k+1,h1,h2=>by
  have h:=aA4 v vs k (fun z hz=>h1 z (by simp[hz])) (fun z hz=>h2 z (by simpa using hz))
  have hu:u.1<v.1:=h1 u (by simp)
  simp only[mT]at h⊢
  simp[hu,h]
theorem oA: ∀(k:Nat) (vs:List bC),(vs.flatMap aE).drop (k*4)=(vs.drop k).flatMap aE
 |0,vs=>by simp
 |k+1,[]=>by simp
 |k+1,v::vs=>by
  rw[List.flatMap_cons,show(k+1)*4=(aE v).length+k*4 by simp[aE];omega,List.drop_length_add_append,oA k vs];rfl
theorem aBx {w:World}{b off n cap sz k:Nat}{xs:List Value}(h:Sl w (some ⟨b,off,none⟩) n cap sz xs)(hk:k≤n):Sl w (some ⟨b,off+k*sz,none⟩) (n-k) (cap-k) sz (xs.drop (k*sz)):=by
 have hl:=h.len
 have hle:=h.le
 have hmx:=h.mx
 refine⟨by rw[List.length_drop,hl,Nat.sub_mul],by omega,by omega,fun h0=> ?_⟩
 obtain⟨b',off',e,hb,hc⟩:=h.rd (by omega)
 injection e with e;injection e with e1 e2
 subst e1 e2
 refine⟨_,_,rfl,hb,fun j hj=> ?_⟩
 rw[Nat.add_assoc,hc (k*sz+j) (by rw[Nat.sub_mul]at hj;omega)]
 simp
set_option maxRecDepth 100000 in
set_option maxHeartbeats 8000000 in
theorem aGf (id a1 a2 a3:Int)(q:Option Addr)(m c2:Nat)(vs:List bC)(w:World)(hm:m≤1000)(hS:Sl w q m c2 4 (vs.flatMap aE)):
  Calls Tryz.prog 148 #[.slice q m c2,.agg #[.int .i64 id,.int .i64 a1,.int .i64 a2,.int .i64 a3]] w fun e w'=> ∃q' c',e= .returned (.slice q' (m+1) c')∧w'.ownsRow w.heap.size TV 4 (.slice q' (m+1) c') (m+1) ((mT (id,a1,a2,a3) vs).flatMap aE)∧Ext w w':=by
 have hl:Hid (vs.length=m):=by
  have:=hS.len;rw[fD aE 4 (fun _=>rfl)]at this;exact(by omega:vs.length=m)
 have hncap:=hS.le
 have HS:=xQ hS
 clear hS
 have hst:=xQ (((((Mem.start w).blkNew TV #[.int .i64 id,.int .i64 a1,.int .i64 a2,.int .i64 a3] (w.heap.size) (by simp))).made0 TV 4 (w.heap.size+1) (by simp)))
 go_enter Tryz.func148,Tryz.ntmps148
 go_wp2
 go_loopw [5,6] (fun v i wr=> ∃(k:Nat) (q5:Option Addr) (c5:Nat),k≤m∧i= .int .i64 k∧v= .slice q5 k c5∧(∀u∈vs.take k,u.1<id)∧Mem w wr [aP w.heap.size TV 4 (q5) (k) (c5) ((vs.take k).flatMap aE),aK w.heap.size (w.heap.size) TV #[.int .i64 id,.int .i64 a1,.int .i64 a2,.int .i64 a3]]) (fun _ i _=>m-(intOf i).toNat)
 case atStart=>exact⟨0,some ⟨w.heap.size+1,0,none⟩,0,Nat.zero_le _,rfl,rfl,by simp,hst.out⟩
 case round=>
  clear hst
  obtain⟨k,q5,c5,hk,rfl,rfl,hlt',hM⟩:=hrel
  have HM:=xQ hM
  have HL:=xQ hlt'
  clear hM hlt'
  by_cases hlt:k<m
  ·obtain⟨b,off,c0,c1,c4,c3,rfl,hx,hb,g0,g1,g2,g3⟩:=fR (HS.out.ext HM.out.ext) hlt
   have lt0:w.heap.size<wr.heap.size:=(HM.out.lt (i:=1) rfl rfl).2
   have b0:wr.cell? ⟨w.heap.size,0,none⟩=some (.int .i64 id):=(HM.out.blk (i:=1) rfl).cell 0
   have b1:wr.cell? ⟨w.heap.size,1,none⟩=some (.int .i64 a1):=(HM.out.blk (i:=1) rfl).cell 1
   have b2:wr.cell? ⟨w.heap.size,2,none⟩=some (.int .i64 a2):=(HM.out.blk (i:=1) rfl).cell 2
   have b3:wr.cell? ⟨w.heap.size,3,none⟩=some (.int .i64 a3):=(HM.out.blk (i:=1) rfl).cell 3
   have HX:=xQ hx
   clear hx
   have i1:(0:Int)≤(k:Int):=by omega
   have i2:(k:Int)<(m:Int):=by omega
   have i3:(k:Int)≤(m:Int):=by omega
   by_cases hy:c0<id
   ·have hfin:Hid (∀z∈vs.take (k+1),z.1<id):=by
     show∀z∈vs.take (k+1),z.1<id
     rw[bF HX.out]
     intro z hz
     rcases List.mem_append.1 hz with h|h
     ·exact HL.out z h
     ·simp at h;subst h;exact hy
    have hd:decide (c0<id)=true:=by simp[hy]
    go_wp2
    go_quiet (fail)
    generalize hwi:World.drewN wr _=wi
    have hX:Ext wr wi:=by rw[←hwi];exact Ext.drewN (Ext.refl _) _
    clear hwi b0 b1 b2 b3 lt0 hd
    have M51:=xQ (HM.out.adv hX)
    clear HM
    have lt51_1:=M51.out.hi 1
    have d0:wi.cell? ⟨w.heap.size,0,none⟩=some (.int .i64 id):=(M51.out.blk (i:=1) rfl).cell 0
    have d1:wi.cell? ⟨w.heap.size,1,none⟩=some (.int .i64 a1):=(M51.out.blk (i:=1) rfl).cell 1
    have d2:wi.cell? ⟨w.heap.size,2,none⟩=some (.int .i64 a2):=(M51.out.blk (i:=1) rfl).cell 2
    have d3:wi.cell? ⟨w.heap.size,3,none⟩=some (.int .i64 a3):=(M51.out.blk (i:=1) rfl).cell 3
    have e0:=(hX.cells.1 _ _ hb).trans g0
    have e1:=(hX.cells.1 _ _ hb).trans g1
    have e2:=(hX.cells.1 _ _ hb).trans g2
    have e3:=(hX.cells.1 _ _ hb).trans g3
    have hb2:b<wi.heap.size:=Nat.lt_of_lt_of_le hb hX.sz
    clear hX g0 g1 g2 g3 hb
    go_wp2_with (at_builtin;go_loud (refine fH wL rfl _ _ rfl ((M51.out).adv ((Ext.refl _).alloc (.cells #[.int .i64 c0,.int .i64 c1,.int .i64 c4,.int .i64 c3] TV))) 0 rfl rfl (aE (c0,c1,c4,c3)) rfl (iE _ _ _ 1 4 _ (by simp) (by simp) (by simp[maxLen])) (oI _) (by omega) ?_;intro q7 c7 w6 M6))
    have M7:=xQ (show Mem w w6 [aP w.heap.size TV 4 (q7) (k+1) (c7) ((vs.take k).flatMap aE++aE (c0,c1,c4,c3)),aK w.heap.size (w.heap.size) TV #[.int .i64 id,.int .i64 a1,.int .i64 a2,.int .i64 a3]]from M6)
    have hfl:Hid ((vs.take k).flatMap aE++aE (c0,c1,c4,c3)=(vs.take (k+1)).flatMap aE):=by show _=_;rw[bF HX.out,List.flatMap_append];simp
    rw[hfl.out]at M7
    clear hfl M6
    go_roundw
    case rel=>exact⟨k+1,q7,c7,by omega,by go_num,rfl,hfin.out,M7.out⟩
    case measure=>simp[intOf];omega
   ·have hfin:Hid (mT (id,a1,a2,a3) vs=vs.take k++(id,a1,a2,a3)::vs.drop k):=aA4 _ vs k HL.out (fun z hz=>by rw[HX.out]at hz;injection hz with hz;subst hz;exact hy)
    have hck: ¬c2=k:=by omega
    have hd:decide (c0<id)=false:=by simp[hy]
    clear HX HL
    go_wp2
    go_quiet (fail)
    generalize hwi:World.drewN wr _=wi
    have hX:Ext wr wi:=by rw[←hwi];exact Ext.drewN (Ext.refl _) _
    clear hwi b0 b1 b2 b3 lt0 hd
    have M51:=xQ (HM.out.adv hX)
    clear HM
    have lt51_1:=M51.out.hi 1
    have d0:wi.cell? ⟨w.heap.size,0,none⟩=some (.int .i64 id):=(M51.out.blk (i:=1) rfl).cell 0
    have d1:wi.cell? ⟨w.heap.size,1,none⟩=some (.int .i64 a1):=(M51.out.blk (i:=1) rfl).cell 1
    have d2:wi.cell? ⟨w.heap.size,2,none⟩=some (.int .i64 a2):=(M51.out.blk (i:=1) rfl).cell 2
    have d3:wi.cell? ⟨w.heap.size,3,none⟩=some (.int .i64 a3):=(M51.out.blk (i:=1) rfl).cell 3
    clear hX g0 g1 g2 g3 hb hy
    go_wp2
    go_region_law ((first
     |(refine iJ wL (by rfl) _ _ (by rfl) (M51.out.adv (by exact .drew (.alloc (.refl _) _))) 0 (by rfl) (by rfl) (aE (id,a1,a2,a3)) (by rfl) (by first|exact iE wi #[.int .i64 id,.int .i64 a1,.int .i64 a2,.int .i64 a3] _ 1 4 _ rfl (by simp) (by simp[maxLen])|exact(iE wi #[.int .i64 id,.int .i64 a1,.int .i64 a2,.int .i64 a3] _ 1 4 _ rfl (by simp) (by simp[maxLen])).ext (Ext.drew (Ext.refl _))|exact iE wi.drew #[.int .i64 id,.int .i64 a1,.int .i64 a2,.int .i64 a3] _ 1 4 _ rfl (by simp) (by simp[maxLen])) (oI _) (by omega) ?_
       intro q7 c7 w6 M6
       have M7:=xQ (show Mem w w6 [aP w.heap.size TV 4 (q7) (k+1) (c7) ((vs.take k).flatMap aE++aE (id,a1,a2,a3)),aK w.heap.size (w.heap.size) TV #[.int .i64 id,.int .i64 a1,.int .i64 a2,.int .i64 a3]]from M6)
       clear M6)
     |(refine iJ wL (by rfl) _ _ (by rfl) (M7.out.adv (by exact .refl _)) 0 (by rfl) (by rfl) ((vs.drop k).flatMap aE) (by rfl) (oA k vs▸aBx (HS.out.ext (M7.out.ext.trans (by exact .refl _))) (by omega)) (iC _) (by omega) ?_
       intro q9 c9 w9 M9
       have M9:=xQ (show Mem w w9 [aP w.heap.size TV 4 (q9) (k+1+(m-k)) (c9) (((vs.take k).flatMap aE++aE (id,a1,a2,a3))++(vs.drop k).flatMap aE),aK w.heap.size (w.heap.size) TV #[.int .i64 id,.int .i64 a1,.int .i64 a2,.int .i64 a3]]from M9))))
    all_goals (
     have e1:k+1+(m-k)=m+1:=by omega
     have e2:((vs.take k).flatMap aE++aE (id,a1,a2,a3))++(vs.drop k).flatMap aE=(vs.take k++(id,a1,a2,a3)::vs.drop k).flatMap aE:=by simp
     have MZ:=xQ (show Mem w w9 [aP w.heap.size TV 4 (q9) (m+1) (c9) ((vs.take k++(id,a1,a2,a3)::vs.drop k).flatMap aE),aK w.heap.size (w.heap.size) TV #[.int .i64 id,.int .i64 a1,.int .i64 a2,.int .i64 a3]]from by have:=M9.out;rw[e2]at this;simpa only[e1]using this)
     clear e2 M9 M7)
    all_goals go_wp2
    all_goals exact bodyPost_ret (v:= .slice q9 (m+1) c9) (by simp[results,Tryz.results148,go_sem, *]) rfl ⟨q9,c9,rfl,by rw[hfin.out];exact MZ.out.own (i:=0) rfl,MZ.out.ext⟩
  ·obtain rfl:k=m:=by omega
   have lt0:w.heap.size<wr.heap.size:=(HM.out.lt (i:=1) rfl rfl).2
   have b0:wr.cell? ⟨w.heap.size,0,none⟩=some (.int .i64 id):=(HM.out.blk (i:=1) rfl).cell 0
   have b1:wr.cell? ⟨w.heap.size,1,none⟩=some (.int .i64 a1):=(HM.out.blk (i:=1) rfl).cell 1
   have b2:wr.cell? ⟨w.heap.size,2,none⟩=some (.int .i64 a2):=(HM.out.blk (i:=1) rfl).cell 2
   have b3:wr.cell? ⟨w.heap.size,3,none⟩=some (.int .i64 a3):=(HM.out.blk (i:=1) rfl).cell 3
   have hfin:Hid (mT (id,a1,a2,a3) vs=vs.take k++(id,a1,a2,a3)::vs.drop k):=aA4 _ vs k HL.out (fun z hz=>by rw[List.getElem?_eq_none (by rw[hl.out];exact Nat.le_refl _)]at hz;cases hz)
   have hdn:Hid (vs.drop k= []):=List.drop_eq_nil_of_le (by rw[hl.out];exact Nat.le_refl _)
   have i1:(0:Int)≤(k:Int):=by omega
   clear HL
   go_wp2
   go_quiet (fail)
   generalize hwi:World.drewN wr _=wi
   have hX:Ext wr wi:=by rw[←hwi];exact Ext.drewN (Ext.refl _) _
   clear hwi b0 b1 b2 b3 lt0
   have M51:=xQ (HM.out.adv hX)
   clear HM
   have lt51_1:=M51.out.hi 1
   have d0:wi.cell? ⟨w.heap.size,0,none⟩=some (.int .i64 id):=(M51.out.blk (i:=1) rfl).cell 0
   have d1:wi.cell? ⟨w.heap.size,1,none⟩=some (.int .i64 a1):=(M51.out.blk (i:=1) rfl).cell 1
   have d2:wi.cell? ⟨w.heap.size,2,none⟩=some (.int .i64 a2):=(M51.out.blk (i:=1) rfl).cell 2
   have d3:wi.cell? ⟨w.heap.size,3,none⟩=some (.int .i64 a3):=(M51.out.blk (i:=1) rfl).cell 3
   clear hX
   go_wp2
   go_region_law ((first
    |(refine iJ wL (by rfl) _ _ (by rfl) (M51.out.adv (by exact .drew (.alloc (.refl _) _))) 0 (by rfl) (by rfl) (aE (id,a1,a2,a3)) (by rfl) (by first|exact iE wi #[.int .i64 id,.int .i64 a1,.int .i64 a2,.int .i64 a3] _ 1 4 _ rfl (by simp) (by simp[maxLen])|exact(iE wi #[.int .i64 id,.int .i64 a1,.int .i64 a2,.int .i64 a3] _ 1 4 _ rfl (by simp) (by simp[maxLen])).ext (Ext.drew (Ext.refl _))|exact iE wi.drew #[.int .i64 id,.int .i64 a1,.int .i64 a2,.int .i64 a3] _ 1 4 _ rfl (by simp) (by simp[maxLen])) (oI _) (by omega) ?_
      intro q7 c7 w6 M6
      have M7:=xQ (show Mem w w6 [aP w.heap.size TV 4 (q7) (k+1) (c7) ((vs.take k).flatMap aE++aE (id,a1,a2,a3)),aK w.heap.size (w.heap.size) TV #[.int .i64 id,.int .i64 a1,.int .i64 a2,.int .i64 a3]]from M6)
      clear M6)
    |(refine iJ wL (by rfl) _ _ (by rfl) (M7.out.adv (by exact .refl _)) 0 (by rfl) (by rfl) (([]:List bC).flatMap aE) (by rfl) (⟨by simp,Nat.zero_le _,by have:=HS.out.mx;omega,fun h=>absurd h (by omega)⟩) (iC _) (by omega) ?_
      intro q9 c9 w9 M9
      have M9:=xQ (show Mem w w9 [aP w.heap.size TV 4 (q9) (k+1+0) (c9) (((vs.take k).flatMap aE++aE (id,a1,a2,a3))++([]:List bC).flatMap aE),aK w.heap.size (w.heap.size) TV #[.int .i64 id,.int .i64 a1,.int .i64 a2,.int .i64 a3]]from M9))))
   all_goals (
    have e1:k+1+0=k+1:=by omega
    have e2:((vs.take k).flatMap aE++aE (id,a1,a2,a3))++([]:List bC).flatMap aE=(vs.take k++(id,a1,a2,a3)::vs.drop k).flatMap aE:=by simp[hdn.out]
    have MZ:=xQ (show Mem w w9 [aP w.heap.size TV 4 (q9) (k+1) (c9) ((vs.take k++(id,a1,a2,a3)::vs.drop k).flatMap aE),aK w.heap.size (w.heap.size) TV #[.int .i64 id,.int .i64 a1,.int .i64 a2,.int .i64 a3]]from by have:=M9.out;rw[e2]at this;simpa only[e1]using this)
    clear e2 M9 M7)
   all_goals go_wp2
   all_goals exact bodyPost_ret (v:= .slice q9 (k+1) c9) (by simp[results,Tryz.results148,go_sem, *]) rfl ⟨q9,c9,rfl,by rw[hfin.out];exact MZ.out.own (i:=0) rfl,MZ.out.ext⟩
def vix (id:Int)(vs:List bC):Int:=if vs.any (fun v=>v.1==id)then(vs.findIdx (fun v=>v.1==id):Int)else -1
theorem aJh {id:Int}{vs:List bC}{k:Nat}{v:bC}(hv:vs[k]? =some v) (h:v.1=id) (hp:(vs.take k).any (fun v=>v.1==id)=false):vix id vs=k:=by
 have hlt:k<vs.length:=(List.getElem?_eq_some_iff.1 hv).1
 have e:vs[k]=v:=by have:=(List.getElem?_eq_some_iff.1 hv).2;exact this
 have ha:vs.any (fun v=>v.1==id)=true:=List.any_eq_true.2 ⟨v,List.mem_of_getElem? hv,by simp[h]⟩
 have hi:vs.findIdx (fun v=>v.1==id)=k:=by
  rw[List.findIdx_eq hlt]
  refine⟨by simp[e,h],fun j hj=> ?_⟩
  have:=List.any_eq_false.1 hp vs[j] (by
   rw[List.mem_take_iff_getElem];exact⟨j,by omega,rfl⟩)
  simpa using this
 unfold vix;rw[if_pos ha,hi]
theorem aB5 {id:Int}{vs:List bC}(hp:vs.any (fun v=>v.1==id)=false):vix id vs= -1:=by unfold vix;simp[hp]
theorem aJ9 {id:Int}{vs:List bC}{k:Nat}{v:bC}(hv:vs[k]? =some v) (h: ¬v.1=id) (hp:(vs.take k).any (fun v=>v.1==id)=false):(vs.take (k+1)).any (fun v=>v.1==id)=false:=by
 rw[bF hv,List.any_append,hp];simp[h]
theorem rJ (id:Int)(vs:List bC):(vix id vs= -1∧gJ id vs=none)∨ ∃(k:Nat) (a1 a2 a3:Int),k<vs.length∧vix id vs=k∧vs[k]? =some (id,a1,a2,a3)∧gJ id vs=some (id,a1,a2,a3):=by
 cases h:vs.any (fun v=>v.1==id)with
 |false=>exact .inl ⟨aB5 h,by unfold gJ;rw[List.find?_eq_none];simpa using h⟩
 |true=>
  right
  have hlt:vs.findIdx (fun v=>v.1==id)<vs.length:=List.findIdx_lt_length.2 (by simpa using h)
  have hg:=List.findIdx_getElem (w:=hlt)
  have hf:gJ id vs=some (vs[vs.findIdx (fun v=>v.1==id)]):=by
   unfold gJ
   rw[List.find?_eq_some_iff_getElem]
   exact⟨hg,_,hlt,rfl,fun j hj=>by simpa using List.not_of_lt_findIdx hj⟩
  have h0:vs[vs.findIdx (fun v=>v.1==id)].1=id:=by simpa using hg
  generalize hb:vs[vs.findIdx (fun v=>v.1==id)]=v at*
  obtain⟨b0,b1,b2,b3⟩:=v
  dsimp only at h0
  subst h0
  exact⟨_,b1,b2,b3,hlt,by unfold vix;rw[if_pos h],by rw[List.getElem?_eq_getElem hlt,hb],hf⟩
set_option maxRecDepth 100000 in
set_option maxHeartbeats 1000000 in
theorem pW (aA aB free step aD aH aC aI id:Int)(p:Option Addr)(n cap:Nat)(q:Option Addr)(m c2:Nat)(vs:List bC)(w:World)(hS:Sl w q m c2 4 (vs.flatMap aE)):
  Calls Tryz.prog 73 #[.agg #[.int .i64 aA,.int .i64 aB,.slice p n cap,.int .i64 free,.int .i64 step,.int .i64 aD,.int .i64 aH,.int .i64 aC,.int .i64 aI,.slice q m c2],.int .i64 id] w fun e w'=>e= .returned (.int .i64 (vix id vs))∧Ext w w':=by
 have hn:=hS.bd
 have HS:=xQ hS
 have hl:Hid (vs.length=m):=by
  have:=hS.len;rw[fD aE 4 (fun _=>rfl)]at this;exact(by omega:vs.length=m)
 clear hS
 go_enter Tryz.func73,Tryz.ntmps73
 go_wp2
 go_loop [5] (fun i=> ∃k:Nat,k≤m∧i= .int .i64 k∧(vs.take k).any (fun v=>v.1==id)=false) (fun i=>m-(intOf i).toNat)
 case atStart=>exact⟨0,Nat.zero_le _,rfl,by simp⟩
 case round=>
  obtain⟨k,hk,rfl,hp⟩:=hrel
  have HP:=xQ hp
  clear hp
  by_cases hlt:k<m
  ·obtain⟨b,off,a0,a1,a2,a3,rfl,hv,hb,g0,g1,g2,g3⟩:=fR HS.out hlt
   have HV:=xQ hv
   clear hv
   by_cases t:a0=id
   ·have q0:(a0==id)=true:=by simp[t]
    have hfin:Hid (vix id vs=k):=aJh HV.out t HP.out
    clear t
    go_wp2
    go_ret
    exact⟨by rw[hfin.out];rfl,by exact .alloc (.refl _) _⟩
   ·have q0:(a0==id)=false:=by simp[t]
    have hfin:Hid ((vs.take (k+1)).any (fun v=>v.1==id)=false):=aJ9 HV.out t HP.out
    clear t
    go_wp2
    go_round
    case rel=>exact⟨k+1,by omega,by go_num,hfin.out⟩
    case measure=>simp[intOf];omega
  ·have hfin:Hid (vix id vs= -1):=aB5 (by have:=HP.out;rwa[List.take_of_length_le (by rw[hl.out];omega)]at this)
   go_wp2
   go_ret
   exact⟨by rw[hfin.out];rfl,by exact .alloc (.refl _) _⟩
abbrev TT4:TypeId:=27
abbrev TS3:TypeId:=36
def kX (f s p c i pd a now amt:Int):(Int×Int×Int)×Int×Bool:=
 if 1≤amt∧amt≤300 then
  (if dI f s p c i pd a now=0 then((i,pd,a),amt,false)else((i,pd+min (dI f s p c i pd a now) amt,now),amt-min (dI f s p c i pd a now) amt,true))
 else((0,0,0),amt,false)
theorem pU {f s p c i pd a now:Int}(h:bJ f s p c=true)(h2:dB i pd a=true)(h3:a≤now)(h4:now≤9999):0≤dI f s p c i pd a now∧dI f s p c i pd a now≤693:=by
 obtain⟨b1,b2,b3,b4,b5,b6⟩:=jD h2
 have hb:=wJ (m:=now-i) h (by omega) (by omega)
 unfold dI
 rw[if_pos (by simp[h,h2,h3,h4])]
 omega
set_option maxRecDepth 100000 in
set_option maxHeartbeats 8000000 in
theorem aFs (i pd a now f s p c amt D:Int)(w:World)(hD:0≤D)(hD2:D≤693)(hp0:0≤pd)(hp:pd≤9999)
  (HD:Hid (∀w,Calls Tryz.prog 75 #[bD f s p c,dS i pd a,.int .i64 now] w fun e w'=>e= .returned (.int .i64 D)∧Ext w w'))
  (HI:Hid (∀w,Calls Tryz.prog 66 #[.int .i64 amt,.int .i64 1,.int .i64 300] w fun e w'=>e= .returned (.bool false)∧w=w'))(ha:amt<1∨300<amt):
  Calls Tryz.prog 186 #[bD f s p c,dS i pd a,.int .i64 now,.int .i64 amt] w fun e w'=>e= .returned (.tuple #[dS 0 0 0,.int .i64 amt,.bool false])∧Ext w w':=by
 go_enter Tryz.func186,Tryz.ntmps186
 go_wp2_with fail
 refine(HD.out _).mono ?_
 rintro e w1 ⟨rfl,hx1⟩
 have M1:=xQ ((((((((Mem.start w).blkNew TT4 #[.int .i64 f,.int .i64 s,.int .i64 p,.int .i64 c] (w.heap.size) (by simp))).blkNew TS3 #[.int .i64 i,.int .i64 pd,.int .i64 a] (w.heap.size+1) (by simp))).blkNew TS3 #[.int .i64 0,.int .i64 0,.int .i64 0] (w.heap.size+1+1) (by simp))).adv hx1)
 have lt1_0:=M1.out.hi 0
 have lt1_1:=M1.out.hi 1
 have lt1_2:=M1.out.hi 2
 clear hx1
 go_wp2_with fail
 refine(HI.out _).mono ?_
 rintro e _ ⟨rfl,rfl⟩
 obtain⟨c0,c1,c2⟩:=(M1.out.blk (i:=1) rfl).tri
 obtain⟨d0,d1,d2⟩:=(M1.out.blk (i:=0) rfl).tri
 have df0:w1.frozen? ⟨w.heap.size+1+1,0,none⟩=false:=(M1.out.blk (i:=0) rfl).frozen 0
 have df1:w1.frozen? ⟨w.heap.size+1+1,1,none⟩=false:=(M1.out.blk (i:=0) rfl).frozen 1
 have df2:w1.frozen? ⟨w.heap.size+1+1,2,none⟩=false:=(M1.out.blk (i:=0) rfl).frozen 2
 clear HD HI
 go_wp2
 clear c0 c1 c2 d0 d1 d2 df0 df1 df2
 have M2:=xQ (show Mem w (((w1.setCell ⟨w.heap.size+1+1,0,none⟩ (.int .i64 0)).setCell ⟨w.heap.size+1+1,1,none⟩ (.int .i64 0)).setCell ⟨w.heap.size+1+1,2,none⟩ (.int .i64 0)) [aK w.heap.size (w.heap.size+1+1) TS3 #[.int .i64 0,.int .i64 0,.int .i64 0],aK w.heap.size (w.heap.size+1) TS3 #[.int .i64 i,.int .i64 pd,.int .i64 a],aK w.heap.size (w.heap.size) TT4 #[.int .i64 f,.int .i64 s,.int .i64 p,.int .i64 c]]from((((((M1.out).store (i:=0) rfl 0 (.int .i64 0))).store (i:=0) rfl 1 (.int .i64 0))).store (i:=0) rfl 2 (.int .i64 0)))
 generalize World.setCell _ _ _=wz at M2⊢
 clear M1
 clear lt1_0 lt1_1 lt1_2
 have lt2_0:=M2.out.hi 0
 have lt2_1:=M2.out.hi 1
 have lt2_2:=M2.out.hi 2
 obtain⟨y0,y1,y2⟩:=(M2.out.blk (i:=0) rfl).tri
 exact bodyPost_ret (v:= .tuple #[.agg #[.int .i64 0,.int .i64 0,.int .i64 0],.int .i64 amt,.bool false]) (by simp[results,Tryz.results186,go_sem, *]) rfl ⟨rfl,M2.out.ext⟩
set_option maxRecDepth 100000 in
set_option maxHeartbeats 8000000 in
theorem aBh (i pd a now f s p c amt:Int)(w:World)(hp0:0≤pd)(hp:pd≤9999)
  (HD:Hid (∀w,Calls Tryz.prog 75 #[bD f s p c,dS i pd a,.int .i64 now] w fun e w'=>e= .returned (.int .i64 0)∧Ext w w'))
  (HI:Hid (∀w,Calls Tryz.prog 66 #[.int .i64 amt,.int .i64 1,.int .i64 300] w fun e w'=>e= .returned (.bool true)∧w=w'))(ha:1≤amt)(hb:amt≤300):
  Calls Tryz.prog 186 #[bD f s p c,dS i pd a,.int .i64 now,.int .i64 amt] w fun e w'=>e= .returned (.tuple #[dS i pd a,.int .i64 amt,.bool false])∧Ext w w':=by
 go_enter Tryz.func186,Tryz.ntmps186
 go_wp2_with fail
 refine(HD.out _).mono ?_
 rintro e w1 ⟨rfl,hx1⟩
 have M1:=xQ ((((((((Mem.start w).blkNew TT4 #[.int .i64 f,.int .i64 s,.int .i64 p,.int .i64 c] (w.heap.size) (by simp))).blkNew TS3 #[.int .i64 i,.int .i64 pd,.int .i64 a] (w.heap.size+1) (by simp))).blkNew TS3 #[.int .i64 0,.int .i64 0,.int .i64 0] (w.heap.size+1+1) (by simp))).adv hx1)
 have lt1_0:=M1.out.hi 0
 have lt1_1:=M1.out.hi 1
 have lt1_2:=M1.out.hi 2
 clear hx1
 go_wp2_with fail
 refine(HI.out _).mono ?_
 rintro e _ ⟨rfl,rfl⟩
 obtain⟨c0,c1,c2⟩:=(M1.out.blk (i:=1) rfl).tri
 obtain⟨d0,d1,d2⟩:=(M1.out.blk (i:=0) rfl).tri
 have df0:w1.frozen? ⟨w.heap.size+1+1,0,none⟩=false:=(M1.out.blk (i:=0) rfl).frozen 0
 have df1:w1.frozen? ⟨w.heap.size+1+1,1,none⟩=false:=(M1.out.blk (i:=0) rfl).frozen 1
 have df2:w1.frozen? ⟨w.heap.size+1+1,2,none⟩=false:=(M1.out.blk (i:=0) rfl).frozen 2
 clear HD HI
 go_wp2
 clear c0 c1 c2 d0 d1 d2 df0 df1 df2
 have M2:=xQ (show Mem w (((w1.setCell ⟨w.heap.size+1+1,0,none⟩ (.int .i64 i)).setCell ⟨w.heap.size+1+1,1,none⟩ (.int .i64 pd)).setCell ⟨w.heap.size+1+1,2,none⟩ (.int .i64 a)) [aK w.heap.size (w.heap.size+1+1) TS3 #[.int .i64 i,.int .i64 pd,.int .i64 a],aK w.heap.size (w.heap.size+1) TS3 #[.int .i64 i,.int .i64 pd,.int .i64 a],aK w.heap.size (w.heap.size) TT4 #[.int .i64 f,.int .i64 s,.int .i64 p,.int .i64 c]]from((((((M1.out).store (i:=0) rfl 0 (.int .i64 i))).store (i:=0) rfl 1 (.int .i64 pd))).store (i:=0) rfl 2 (.int .i64 a)))
 generalize World.setCell _ _ _=wz at M2⊢
 clear M1
 clear lt1_0 lt1_1 lt1_2
 have lt2_0:=M2.out.hi 0
 have lt2_1:=M2.out.hi 1
 have lt2_2:=M2.out.hi 2
 obtain⟨y0,y1,y2⟩:=(M2.out.blk (i:=0) rfl).tri
 exact bodyPost_ret (v:= .tuple #[.agg #[.int .i64 i,.int .i64 pd,.int .i64 a],.int .i64 amt,.bool false]) (by simp[results,Tryz.results186,go_sem, *]) rfl ⟨rfl,M2.out.ext⟩
set_option maxRecDepth 100000 in
set_option maxHeartbeats 8000000 in
theorem aDg (i pd a now f s p c amt D:Int)(w:World)(hD:0≤D)(hD2:D≤693)(hp0:0≤pd)(hp:pd≤9999)
  (HD:Hid (∀w,Calls Tryz.prog 75 #[bD f s p c,dS i pd a,.int .i64 now] w fun e w'=>e= .returned (.int .i64 D)∧Ext w w'))
  (HI:Hid (∀w,Calls Tryz.prog 66 #[.int .i64 amt,.int .i64 1,.int .i64 300] w fun e w'=>e= .returned (.bool true)∧w=w'))(ha:1≤amt)(hb:amt≤300)(hD1:1≤D):
  Calls Tryz.prog 186 #[bD f s p c,dS i pd a,.int .i64 now,.int .i64 amt] w fun e w'=>e= .returned (.tuple #[dS i (pd+min D amt) now,.int .i64 (amt-min D amt),.bool true])∧Ext w w':=by
 go_enter Tryz.func186,Tryz.ntmps186
 go_wp2_with fail
 refine(HD.out _).mono ?_
 rintro e w1 ⟨rfl,hx1⟩
 have M1:=xQ ((((((((Mem.start w).blkNew TT4 #[.int .i64 f,.int .i64 s,.int .i64 p,.int .i64 c] (w.heap.size) (by simp))).blkNew TS3 #[.int .i64 i,.int .i64 pd,.int .i64 a] (w.heap.size+1) (by simp))).blkNew TS3 #[.int .i64 0,.int .i64 0,.int .i64 0] (w.heap.size+1+1) (by simp))).adv hx1)
 have lt1_0:=M1.out.hi 0
 have lt1_1:=M1.out.hi 1
 have lt1_2:=M1.out.hi 2
 clear hx1
 go_wp2_with fail
 refine(HI.out _).mono ?_
 rintro e _ ⟨rfl,rfl⟩
 obtain⟨c0,c1,c2⟩:=(M1.out.blk (i:=1) rfl).tri
 obtain⟨d0,d1,d2⟩:=(M1.out.blk (i:=0) rfl).tri
 have df0:w1.frozen? ⟨w.heap.size+1+1,0,none⟩=false:=(M1.out.blk (i:=0) rfl).frozen 0
 have df1:w1.frozen? ⟨w.heap.size+1+1,1,none⟩=false:=(M1.out.blk (i:=0) rfl).frozen 1
 have df2:w1.frozen? ⟨w.heap.size+1+1,2,none⟩=false:=(M1.out.blk (i:=0) rfl).frozen 2
 clear HD HI
 have k1:IntKind.i64.wrap (pd+min D amt)=pd+min D amt:=IntWalk.i64_in _ (by omega)
 have k2:IntKind.i64.wrap (amt-min D amt)=amt-min D amt:=IntWalk.i64_in _ (by omega)
 have hd1:(D==0)=false:=by simp;omega
 go_wp2
 clear c0 c1 c2 d0 d1 d2 df0 df1 df2
 have M2:=xQ (show Mem w (((w1.setCell ⟨w.heap.size+1+1,0,none⟩ (.int .i64 i)).setCell ⟨w.heap.size+1+1,1,none⟩ (.int .i64 (pd+min D amt))).setCell ⟨w.heap.size+1+1,2,none⟩ (.int .i64 now)) [aK w.heap.size (w.heap.size+1+1) TS3 #[.int .i64 i,.int .i64 (pd+min D amt),.int .i64 now],aK w.heap.size (w.heap.size+1) TS3 #[.int .i64 i,.int .i64 pd,.int .i64 a],aK w.heap.size (w.heap.size) TT4 #[.int .i64 f,.int .i64 s,.int .i64 p,.int .i64 c]]from((((((M1.out).store (i:=0) rfl 0 (.int .i64 i))).store (i:=0) rfl 1 (.int .i64 (pd+min D amt)))).store (i:=0) rfl 2 (.int .i64 now)))
 generalize World.setCell _ _ _=wz at M2⊢
 clear M1
 clear lt1_0 lt1_1 lt1_2
 have lt2_0:=M2.out.hi 0
 have lt2_1:=M2.out.hi 1
 have lt2_2:=M2.out.hi 2
 obtain⟨y0,y1,y2⟩:=(M2.out.blk (i:=0) rfl).tri
 exact bodyPost_ret (v:= .tuple #[.agg #[.int .i64 i,.int .i64 (pd+min D amt),.int .i64 now],.int .i64 (amt-min D amt),.bool true]) (by simp[results,Tryz.results186,go_sem, *]) rfl ⟨rfl,M2.out.ext⟩
theorem aC3 (f s p c i pd a now amt:Int)(w:World)(h:bJ f s p c=true)(h2:dB i pd a=true)(h3:a≤now)(h4:now≤9999):
  Calls Tryz.prog 186 #[bD f s p c,dS i pd a,.int .i64 now,.int .i64 amt] w fun e w'=>e= .returned (.tuple #[dS (kX f s p c i pd a now amt).1.1 (kX f s p c i pd a now amt).1.2.1 (kX f s p c i pd a now amt).1.2.2,.int .i64 (kX f s p c i pd a now amt).2.1,.bool (kX f s p c i pd a now amt).2.2])∧Ext w w':=by
 obtain⟨b1,b2,b3,b4,b5,b6⟩:=jD h2
 obtain⟨e1,e2⟩:=pU h h2 h3 h4
 have HD:=xQ (fun w=>aDf f s p c i pd a now w h h2 h3 h4)
 unfold kX
 generalize dI f s p c i pd a now=D at*
 by_cases ha:1≤amt∧amt≤300
 ·have HI:Hid (∀w,Calls Tryz.prog 66 #[.int .i64 amt,.int .i64 1,.int .i64 300] w fun e w'=>e= .returned (.bool true)∧w=w'):=fun w=>lZ amt 1 300 w ha.1 ha.2
  rw[if_pos ha]
  by_cases hd:D=0
  ·subst hd
   rw[if_pos rfl]
   exact aBh i pd a now f s p c amt w b3 b4 HD HI ha.1 ha.2
  ·rw[if_neg hd]
   exact aDg i pd a now f s p c amt D w e1 e2 b3 b4 HD HI ha.1 ha.2 (by omega)
 ·have HI:Hid (∀w,Calls Tryz.prog 66 #[.int .i64 amt,.int .i64 1,.int .i64 300] w fun e w'=>e= .returned (.bool false)∧w=w'):=fun w=>uD amt 1 300 w (by omega)
  rw[if_neg ha]
  exact aFs i pd a now f s p c amt D w e1 e2 b3 b4 HD HI (by omega)
end Go.Proofs.YteejdnmmpmcmeaaGreatDoor
