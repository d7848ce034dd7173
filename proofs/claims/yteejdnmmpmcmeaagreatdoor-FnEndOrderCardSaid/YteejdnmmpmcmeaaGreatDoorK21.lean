/-
  Texts of this proof, packed (@packed).
-/
import Derived.Test.YteejdnmmpmcmeaaGreatDoorK4
import Derived.Test.YteejdnmmpmcmeaaGreatDoorK19
import Derived.Test.YteejdnmmpmcmeaaGreatDoorK20
namespace Go.Proofs.YteejdnmmpmcmeaaGreatDoor
open Go.RowKit
set_option linter.unusedVariables false
abbrev TV:TypeId:=38
end Go.Proofs.YteejdnmmpmcmeaaGreatDoor

namespace Go.Proofs.YteejdnmmpmcmeaaGreatDoor
open Go.RowKit
set_option linter.unusedVariables false
def RetHouse (h:HouseD)(w:World)(e:Ending)(w':World):Prop:=
 ∃p cap q c2,e= .returned (houseV h p h.cells.length cap q h.vs.length c2)∧w'.ownsRow w.heap.size TI 1 (.slice p h.cells.length cap) h.cells.length (ivs h.cells)∧w'.ownsRow w.heap.size TV 4 (.slice q h.vs.length c2) h.vs.length (h.vs.flatMap visitCells)∧Ext w w'
end Go.Proofs.YteejdnmmpmcmeaaGreatDoor

namespace Go.Proofs.YteejdnmmpmcmeaaGreatDoor
open Go.RowKit
set_option linter.unusedVariables false
set_option linter.unusedSimpArgs false
abbrev TH10:TypeId:=30
theorem elV4:ElT Tryz.prog 28 TV 4:=
 ⟨Tryz.underlying28,by
  obtain⟨i,hi,h0,h1,h2⟩:=info_parts (show(Tryz.prog.info? TV).map (fun i=>(i.zero,i.size,i.bytes))=some (some (.agg #[.int .i64 0,.int .i64 0,.int .i64 0,.int .i64 0]),4,32) by kernel_rfl)
  exact⟨i,_,hi,h0,h1,by omega,rfl⟩,by omega⟩
theorem visits_one (vs:List Visit4): ∀u∈vs.flatMap visitCells,u.oneCell'=true:=by
 intro u hu
 obtain⟨v,_,hv⟩:=List.mem_flatMap.1 hu
 simp only[visitCells,List.mem_cons,List.not_mem_nil,or_false]at hv
 rcases hv with rfl|rfl|rfl|rfl<;>rfl
theorem visit_one (v:Visit4): ∀u∈visitCells v,u.oneCell'=true:=by
 intro u hu
 simp only[visitCells,List.mem_cons,List.not_mem_nil,or_false]at hu
 rcases hu with rfl|rfl|rfl|rfl<;>rfl
set_option maxRecDepth 100000 in
set_option maxHeartbeats 8000000 in
theorem specCp_o (wide deep free step price capp clock bank:Int)(p:Option Addr)(n cap:Nat)(q:Option Addr)(m c2:Nat)(xs:List Int)(vs:List Visit4)(w:World)(hm:m≤1000)(hS:Hid (Sl w q m c2 4 (vs.flatMap visitCells)))
  (HL:Hid (∀w',Ext w w'→Calls Tryz.prog 182 #[hallV wide deep p n cap] w' fun e w''=> ∃q c,e= .returned (hallV wide deep q n c)∧w''.ownsRow w'.heap.size TI 1 (.slice q n c) n (ivs xs)∧Ext w' w'')):
  Calls Tryz.prog 146 #[.agg #[.int .i64 wide,.int .i64 deep,.slice p n cap,.int .i64 free,.int .i64 step,.int .i64 price,.int .i64 capp,.int .i64 clock,.int .i64 bank,.slice q m c2]] w fun e w'=> ∃p' cap' q' c2',e= .returned (.agg #[.int .i64 wide,.int .i64 deep,.slice p' n cap',.int .i64 free,.int .i64 step,.int .i64 price,.int .i64 capp,.int .i64 clock,.int .i64 bank,.slice q' m c2'])∧w'.ownsRow w.heap.size TI 1 (.slice p' n cap') n (ivs xs)∧w'.ownsRow w.heap.size TV 4 (.slice q' m c2') m (vs.flatMap visitCells)∧Ext w w':=by
 go_enter Tryz.func146,Tryz.ntmps146
 go_wp2_with fail
 refine(HL.out _ (((((((Mem.start w).blkNew TH10 #[.int .i64 wide,.int .i64 deep,.slice p n cap,.int .i64 free,.int .i64 step,.int .i64 price,.int .i64 capp,.int .i64 clock,.int .i64 bank,.slice q m c2] (w.heap.size) (by simp))).blkNew TH10 #[.int .i64 0,.int .i64 0,.slice none 0 0,.int .i64 0,.int .i64 0,.int .i64 0,.int .i64 0,.int .i64 0,.int .i64 0,.slice none 0 0] (w.heap.size+1) (by simp))).blkNew TH10 #[.int .i64 wide,.int .i64 deep,.slice p n cap,.int .i64 free,.int .i64 step,.int .i64 price,.int .i64 capp,.int .i64 clock,.int .i64 bank,.slice q m c2] (w.heap.size+1+1) (by simp))).ext).mono ?_
 rintro e w1 ⟨q0,c0,rfl,ho1,hx1⟩
 have M1:=Lib.hid ((((((((Mem.start w).blkNew TH10 #[.int .i64 wide,.int .i64 deep,.slice p n cap,.int .i64 free,.int .i64 step,.int .i64 price,.int .i64 capp,.int .i64 clock,.int .i64 bank,.slice q m c2] (w.heap.size) (by simp))).blkNew TH10 #[.int .i64 0,.int .i64 0,.slice none 0 0,.int .i64 0,.int .i64 0,.int .i64 0,.int .i64 0,.int .i64 0,.int .i64 0,.slice none 0 0] (w.heap.size+1) (by simp))).blkNew TH10 #[.int .i64 wide,.int .i64 deep,.slice p n cap,.int .i64 free,.int .i64 step,.int .i64 price,.int .i64 capp,.int .i64 clock,.int .i64 bank,.slice q m c2] (w.heap.size+1+1) (by simp))).call hx1 ho1)
 have lt1_1:w.heap.size+1+1<w1.heap.size:=(M1.out.lt (i:=1) rfl rfl).2
 have lt1_2:w.heap.size+1<w1.heap.size:=(M1.out.lt (i:=2) rfl rfl).2
 have lt1_3:w.heap.size<w1.heap.size:=(M1.out.lt (i:=3) rfl rfl).2
 clear hx1 ho1
 have c9:w1.cell? ⟨w.heap.size,9,none⟩=some (.slice q m c2):=(M1.out.blk (i:=3) rfl).cell 9
 have d0:w1.cell? ⟨w.heap.size+1+1,0,none⟩=some (.int .i64 wide):=(M1.out.blk (i:=1) rfl).cell 0
 have df0:w1.frozen? ⟨w.heap.size+1+1,0,none⟩=false:=(M1.out.blk (i:=1) rfl).frozen 0
 have d1:w1.cell? ⟨w.heap.size+1+1,1,none⟩=some (.int .i64 deep):=(M1.out.blk (i:=1) rfl).cell 1
 have df1:w1.frozen? ⟨w.heap.size+1+1,1,none⟩=false:=(M1.out.blk (i:=1) rfl).frozen 1
 have d2:w1.cell? ⟨w.heap.size+1+1,2,none⟩=some (.slice p n cap):=(M1.out.blk (i:=1) rfl).cell 2
 have df2:w1.frozen? ⟨w.heap.size+1+1,2,none⟩=false:=(M1.out.blk (i:=1) rfl).frozen 2
 go_wp2_with (at_builtin;refine wpList_appM elV4 rfl _ _ rfl ((((((((M1.out).store (i:=1) rfl 0 (.int .i64 wide))).store (i:=1) rfl 1 (.int .i64 deep))).store (i:=1) rfl 2 (.slice q0 n c0))).made0 TV 4 (w1.heap.size) (by simp)) 0 rfl rfl (vs.flatMap visitCells) rfl (hS.out.ext (((((((((M1.out).store (i:=1) rfl 0 (.int .i64 wide))).store (i:=1) rfl 1 (.int .i64 deep))).store (i:=1) rfl 2 (.slice q0 n c0))).made0 TV 4 (w1.heap.size) (by simp))).ext) (visits_one vs) (by omega) ?_;intro q7 c7 w6 M6X;have M6:=Lib.hid (show Mem w w6 [ownI w.heap.size TV 4 (q7) (m) (c7) (vs.flatMap visitCells),ownI w.heap.size TI 1 (q0) (n) (c0) (ivs xs),blkI w.heap.size (w.heap.size+1+1) TH10 #[.int .i64 wide,.int .i64 deep,.slice q0 n c0,.int .i64 free,.int .i64 step,.int .i64 price,.int .i64 capp,.int .i64 clock,.int .i64 bank,.slice q m c2],blkI w.heap.size (w.heap.size+1) TH10 #[.int .i64 0,.int .i64 0,.slice none 0 0,.int .i64 0,.int .i64 0,.int .i64 0,.int .i64 0,.int .i64 0,.int .i64 0,.slice none 0 0],blkI w.heap.size (w.heap.size) TH10 #[.int .i64 wide,.int .i64 deep,.slice p n cap,.int .i64 free,.int .i64 step,.int .i64 price,.int .i64 capp,.int .i64 clock,.int .i64 bank,.slice q m c2]]from by have:=(show Mem w w6 [ownI w.heap.size TV 4 (q7) (0+m) (c7) ([]++vs.flatMap visitCells),ownI w.heap.size TI 1 (q0) (n) (c0) (ivs xs),blkI w.heap.size (w.heap.size+1+1) TH10 #[.int .i64 wide,.int .i64 deep,.slice q0 n c0,.int .i64 free,.int .i64 step,.int .i64 price,.int .i64 capp,.int .i64 clock,.int .i64 bank,.slice q m c2],blkI w.heap.size (w.heap.size+1) TH10 #[.int .i64 0,.int .i64 0,.slice none 0 0,.int .i64 0,.int .i64 0,.int .i64 0,.int .i64 0,.int .i64 0,.int .i64 0,.slice none 0 0],blkI w.heap.size (w.heap.size) TH10 #[.int .i64 wide,.int .i64 deep,.slice p n cap,.int .i64 free,.int .i64 step,.int .i64 price,.int .i64 capp,.int .i64 clock,.int .i64 bank,.slice q m c2]]from M6X);simpa only[Nat.zero_add,List.nil_append]using this);clear M6X c9 d0 df0 d1 df1 d2 df2 M1 lt1_1 lt1_2 lt1_3;(have lt30_2:w.heap.size+1+1<w6.heap.size:=(M6.out.lt (i:=2) rfl rfl).2);(have lt30_3:w.heap.size+1<w6.heap.size:=(M6.out.lt (i:=3) rfl rfl).2);(have lt30_4:w.heap.size<w6.heap.size:=(M6.out.lt (i:=4) rfl rfl).2);(obtain⟨x0,x1,x2,x3,x4,x5,x6,x7,x8,x9⟩:=(M6.out.blk (i:=2) rfl).ten);(have xx9:w6.cell? ⟨w.heap.size+1+1,9,none⟩=some (.slice q m c2):=(M6.out.blk (i:=2) rfl).cell 9);(have xxf9:w6.frozen? ⟨w.heap.size+1+1,9,none⟩=false:=(M6.out.blk (i:=2) rfl).frozen 9);(obtain⟨y0,yf0,y1,yf1,y2,yf2,y3,yf3,y4,yf4,y5,yf5,y6,yf6,y7,yf7,y8,yf8,y9,yf9⟩:=(M6.out.blk (i:=3) rfl).tenf))
 have M31:=Lib.hid (show Mem w (((w6.setCell ⟨w.heap.size+1+1,9,none⟩ (.slice q7 m c7)).setCell ⟨w.heap.size+1,0,none⟩ (.int .i64 wide)).setCell ⟨w.heap.size+1,1,none⟩ (.int .i64 deep)) [ownI w.heap.size TV 4 (q7) (m) (c7) (vs.flatMap visitCells),ownI w.heap.size TI 1 (q0) (n) (c0) (ivs xs),blkI w.heap.size (w.heap.size+1+1) TH10 #[.int .i64 wide,.int .i64 deep,.slice q0 n c0,.int .i64 free,.int .i64 step,.int .i64 price,.int .i64 capp,.int .i64 clock,.int .i64 bank,.slice q7 m c7],blkI w.heap.size (w.heap.size+1) TH10 #[.int .i64 wide,.int .i64 deep,.slice none 0 0,.int .i64 0,.int .i64 0,.int .i64 0,.int .i64 0,.int .i64 0,.int .i64 0,.slice none 0 0],blkI w.heap.size (w.heap.size) TH10 #[.int .i64 wide,.int .i64 deep,.slice p n cap,.int .i64 free,.int .i64 step,.int .i64 price,.int .i64 capp,.int .i64 clock,.int .i64 bank,.slice q m c2]]from((((((M6.out).store (i:=2) rfl 9 (.slice q7 m c7))).store (i:=3) rfl 0 (.int .i64 wide))).store (i:=3) rfl 1 (.int .i64 deep)))
 have M32:=Lib.hid (show Mem w (((((w6.setCell ⟨w.heap.size+1+1,9,none⟩ (.slice q7 m c7)).setCell ⟨w.heap.size+1,0,none⟩ (.int .i64 wide)).setCell ⟨w.heap.size+1,1,none⟩ (.int .i64 deep)).setCell ⟨w.heap.size+1,2,none⟩ (.slice q0 n c0)).setCell ⟨w.heap.size+1,3,none⟩ (.int .i64 free)) [ownI w.heap.size TV 4 (q7) (m) (c7) (vs.flatMap visitCells),ownI w.heap.size TI 1 (q0) (n) (c0) (ivs xs),blkI w.heap.size (w.heap.size+1+1) TH10 #[.int .i64 wide,.int .i64 deep,.slice q0 n c0,.int .i64 free,.int .i64 step,.int .i64 price,.int .i64 capp,.int .i64 clock,.int .i64 bank,.slice q7 m c7],blkI w.heap.size (w.heap.size+1) TH10 #[.int .i64 wide,.int .i64 deep,.slice q0 n c0,.int .i64 free,.int .i64 0,.int .i64 0,.int .i64 0,.int .i64 0,.int .i64 0,.slice none 0 0],blkI w.heap.size (w.heap.size) TH10 #[.int .i64 wide,.int .i64 deep,.slice p n cap,.int .i64 free,.int .i64 step,.int .i64 price,.int .i64 capp,.int .i64 clock,.int .i64 bank,.slice q m c2]]from((((M31.out).store (i:=3) rfl 2 (.slice q0 n c0))).store (i:=3) rfl 3 (.int .i64 free)))
 have M33:=Lib.hid (show Mem w (((((((w6.setCell ⟨w.heap.size+1+1,9,none⟩ (.slice q7 m c7)).setCell ⟨w.heap.size+1,0,none⟩ (.int .i64 wide)).setCell ⟨w.heap.size+1,1,none⟩ (.int .i64 deep)).setCell ⟨w.heap.size+1,2,none⟩ (.slice q0 n c0)).setCell ⟨w.heap.size+1,3,none⟩ (.int .i64 free)).setCell ⟨w.heap.size+1,4,none⟩ (.int .i64 step)).setCell ⟨w.heap.size+1,5,none⟩ (.int .i64 price)) [ownI w.heap.size TV 4 (q7) (m) (c7) (vs.flatMap visitCells),ownI w.heap.size TI 1 (q0) (n) (c0) (ivs xs),blkI w.heap.size (w.heap.size+1+1) TH10 #[.int .i64 wide,.int .i64 deep,.slice q0 n c0,.int .i64 free,.int .i64 step,.int .i64 price,.int .i64 capp,.int .i64 clock,.int .i64 bank,.slice q7 m c7],blkI w.heap.size (w.heap.size+1) TH10 #[.int .i64 wide,.int .i64 deep,.slice q0 n c0,.int .i64 free,.int .i64 step,.int .i64 price,.int .i64 0,.int .i64 0,.int .i64 0,.slice none 0 0],blkI w.heap.size (w.heap.size) TH10 #[.int .i64 wide,.int .i64 deep,.slice p n cap,.int .i64 free,.int .i64 step,.int .i64 price,.int .i64 capp,.int .i64 clock,.int .i64 bank,.slice q m c2]]from((((M32.out).store (i:=3) rfl 4 (.int .i64 step))).store (i:=3) rfl 5 (.int .i64 price)))
 have M34:=Lib.hid (show Mem w (((((((((w6.setCell ⟨w.heap.size+1+1,9,none⟩ (.slice q7 m c7)).setCell ⟨w.heap.size+1,0,none⟩ (.int .i64 wide)).setCell ⟨w.heap.size+1,1,none⟩ (.int .i64 deep)).setCell ⟨w.heap.size+1,2,none⟩ (.slice q0 n c0)).setCell ⟨w.heap.size+1,3,none⟩ (.int .i64 free)).setCell ⟨w.heap.size+1,4,none⟩ (.int .i64 step)).setCell ⟨w.heap.size+1,5,none⟩ (.int .i64 price)).setCell ⟨w.heap.size+1,6,none⟩ (.int .i64 capp)).setCell ⟨w.heap.size+1,7,none⟩ (.int .i64 clock)) [ownI w.heap.size TV 4 (q7) (m) (c7) (vs.flatMap visitCells),ownI w.heap.size TI 1 (q0) (n) (c0) (ivs xs),blkI w.heap.size (w.heap.size+1+1) TH10 #[.int .i64 wide,.int .i64 deep,.slice q0 n c0,.int .i64 free,.int .i64 step,.int .i64 price,.int .i64 capp,.int .i64 clock,.int .i64 bank,.slice q7 m c7],blkI w.heap.size (w.heap.size+1) TH10 #[.int .i64 wide,.int .i64 deep,.slice q0 n c0,.int .i64 free,.int .i64 step,.int .i64 price,.int .i64 capp,.int .i64 clock,.int .i64 0,.slice none 0 0],blkI w.heap.size (w.heap.size) TH10 #[.int .i64 wide,.int .i64 deep,.slice p n cap,.int .i64 free,.int .i64 step,.int .i64 price,.int .i64 capp,.int .i64 clock,.int .i64 bank,.slice q m c2]]from((((M33.out).store (i:=3) rfl 6 (.int .i64 capp))).store (i:=3) rfl 7 (.int .i64 clock)))
 have M35:=Lib.hid (show Mem w (((((((((((w6.setCell ⟨w.heap.size+1+1,9,none⟩ (.slice q7 m c7)).setCell ⟨w.heap.size+1,0,none⟩ (.int .i64 wide)).setCell ⟨w.heap.size+1,1,none⟩ (.int .i64 deep)).setCell ⟨w.heap.size+1,2,none⟩ (.slice q0 n c0)).setCell ⟨w.heap.size+1,3,none⟩ (.int .i64 free)).setCell ⟨w.heap.size+1,4,none⟩ (.int .i64 step)).setCell ⟨w.heap.size+1,5,none⟩ (.int .i64 price)).setCell ⟨w.heap.size+1,6,none⟩ (.int .i64 capp)).setCell ⟨w.heap.size+1,7,none⟩ (.int .i64 clock)).setCell ⟨w.heap.size+1,8,none⟩ (.int .i64 bank)).setCell ⟨w.heap.size+1,9,none⟩ (.slice q7 m c7)) [ownI w.heap.size TV 4 (q7) (m) (c7) (vs.flatMap visitCells),ownI w.heap.size TI 1 (q0) (n) (c0) (ivs xs),blkI w.heap.size (w.heap.size+1+1) TH10 #[.int .i64 wide,.int .i64 deep,.slice q0 n c0,.int .i64 free,.int .i64 step,.int .i64 price,.int .i64 capp,.int .i64 clock,.int .i64 bank,.slice q7 m c7],blkI w.heap.size (w.heap.size+1) TH10 #[.int .i64 wide,.int .i64 deep,.slice q0 n c0,.int .i64 free,.int .i64 step,.int .i64 price,.int .i64 capp,.int .i64 clock,.int .i64 bank,.slice q7 m c7],blkI w.heap.size (w.heap.size) TH10 #[.int .i64 wide,.int .i64 deep,.slice p n cap,.int .i64 free,.int .i64 step,.int .i64 price,.int .i64 capp,.int .i64 clock,.int .i64 bank,.slice q m c2]]from((((M34.out).store (i:=3) rfl 8 (.int .i64 bank))).store (i:=3) rfl 9 (.slice q7 m c7)))
 clear x0 x1 x2 x3 x4 x5 x6 x7 x8 x9 xx9 xxf9 y0 yf0 y1 yf1 y2 yf2 y3 yf3 y4 yf4 y5 yf5 y6 yf6 y7 yf7 y8 yf8 y9 yf9 lt30_2 lt30_3 lt30_4
 have M36:=Lib.hid (show Mem w (((((((((((w6.setCell ⟨w.heap.size+1+1,9,none⟩ (.slice q7 m c7)).setCell ⟨w.heap.size+1,0,none⟩ (.int .i64 wide)).setCell ⟨w.heap.size+1,1,none⟩ (.int .i64 deep)).setCell ⟨w.heap.size+1,2,none⟩ (.slice q0 n c0)).setCell ⟨w.heap.size+1,3,none⟩ (.int .i64 free)).setCell ⟨w.heap.size+1,4,none⟩ (.int .i64 step)).setCell ⟨w.heap.size+1,5,none⟩ (.int .i64 price)).setCell ⟨w.heap.size+1,6,none⟩ (.int .i64 capp)).setCell ⟨w.heap.size+1,7,none⟩ (.int .i64 clock)).setCell ⟨w.heap.size+1,8,none⟩ (.int .i64 bank)).setCell ⟨w.heap.size+1,9,none⟩ (.slice q7 m c7)) [ownI w.heap.size TV 4 (q7) (m) (c7) (vs.flatMap visitCells),ownI w.heap.size TI 1 (q0) (n) (c0) (ivs xs),blkI w.heap.size (w.heap.size+1+1) TH10 #[.int .i64 wide,.int .i64 deep,.slice q0 n c0,.int .i64 free,.int .i64 step,.int .i64 price,.int .i64 capp,.int .i64 clock,.int .i64 bank,.slice q7 m c7],blkI w.heap.size (w.heap.size+1) TH10 #[.int .i64 wide,.int .i64 deep,.slice q0 n c0,.int .i64 free,.int .i64 step,.int .i64 price,.int .i64 capp,.int .i64 clock,.int .i64 bank,.slice q7 m c7],blkI w.heap.size (w.heap.size) TH10 #[.int .i64 wide,.int .i64 deep,.slice p n cap,.int .i64 free,.int .i64 step,.int .i64 price,.int .i64 capp,.int .i64 clock,.int .i64 bank,.slice q m c2]]from M35.out)
 generalize hwz:World.setCell _ _ _=wz
 rw[hwz]at M36
 clear hwz M6 M31 M32 M33 M34 M35
 obtain⟨y0,y1,y2,y3,y4,y5,y6,y7,y8,y9⟩:=(M36.out.blk (i:=3) rfl).ten
 exact bodyPost_ret (v:= .agg #[.int .i64 wide,.int .i64 deep,.slice q0 n c0,.int .i64 free,.int .i64 step,.int .i64 price,.int .i64 capp,.int .i64 clock,.int .i64 bank,.slice q7 m c7]) (by simp[results,Tryz.results146,go_sem, *]) rfl ⟨q0,c0,q7,c7,rfl,(M36.out.own (i:=1) rfl),by have:=(M36.out.own (i:=0) rfl);simpa using this,M36.out.ext⟩
set_option maxRecDepth 100000 in
set_option maxHeartbeats 8000000 in
theorem l7Copy_any (h:HouseD)(p:Option Addr)(n cap:Nat)(q:Option Addr)(m c2:Nat)(w:World)(hn:n≤1000)(hm:m≤1000)(hi:IsHouse w h p n cap q m c2):
  Calls Tryz.prog 146 #[houseV h p n cap q m c2] w (RetHouse h w):=by
 have hl:=hi.clen
 have hvl:=hi.vlen
 refine(specCp_o h.wide h.deep h.free h.step h.price h.capp h.clock h.bank p n cap q m c2 h.cells h.vs w hm (Lib.hid hi.vs) (Lib.hid fun w' hx=> ?_)).mono ?_
 ·refine(l1Hall_any h.wide h.deep p n cap h.cells w' (by omega) (hi.cells.ext hx)).mono ?_
  rintro e w'' ⟨q,c,rfl,ho,hx2⟩
  rw[hl]at ho⊢
  exact⟨q,c,rfl,ho,hx2⟩
 ·rintro e w' ⟨p',cap',q',c2',rfl,h1,h2,h3⟩
  subst hl hvl
  exact⟨p',cap',q',c2',rfl,h1,h2,h3⟩
def putV (v:Visit4)(vs:List Visit4):List Visit4:=vs.takeWhile (fun u=>decide (u.1<v.1))++v::vs.dropWhile (fun u=>decide (u.1<v.1))
theorem putV_at (v:Visit4): ∀(vs:List Visit4) (k:Nat),(∀u∈vs.take k,u.1<v.1)→(∀u,vs[k]? =some u→ ¬u.1<v.1)→putV v vs=vs.take k++v::vs.drop k
 | [],k,_,_=>by simp[putV]
 |u::vs,0,_,h2=>by simp[putV,h2 u (by simp)]
 |u::vs,k+1,h1,h2=>by
  have h:=putV_at v vs k (fun z hz=>h1 z (by simp[hz])) (fun z hz=>h2 z (by simpa using hz))
  have hu:u.1<v.1:=h1 u (by simp)
  simp only[putV]at h⊢
  simp[hu,h]
theorem drop_visits: ∀(k:Nat) (vs:List Visit4),(vs.flatMap visitCells).drop (k*4)=(vs.drop k).flatMap visitCells
 |0,vs=>by simp
 |k+1,[]=>by simp
 |k+1,v::vs=>by
  rw[List.flatMap_cons,show(k+1)*4=(visitCells v).length+k*4 by simp[visitCells];omega,List.drop_length_add_append,drop_visits k vs];rfl
theorem sl_dropZ {w:World}{b off n cap sz k:Nat}{xs:List Value}(h:Sl w (some ⟨b,off,none⟩) n cap sz xs)(hk:k≤n):Sl w (some ⟨b,off+k*sz,none⟩) (n-k) (cap-k) sz (xs.drop (k*sz)):=by
 have hl:=h.len
 have hle:=h.le
 have hmx:=h.mx
 refine⟨by rw[List.length_drop,hl,Nat.sub_mul],by omega,by omega,fun h0=> ?_⟩
 obtain⟨b',off',e,hb,hc⟩:=h.rd (by omega)
 injection e with e;injection e with e1 e2
 subst e1 e2
 refine⟨_,_,rfl,hb,fun j hj=> ?_⟩
 rw[Nat.add_assoc,hc (k*sz+j) (by rw[Nat.sub_mul]at hj;omega)]
 simp
set_option maxRecDepth 100000 in
set_option maxHeartbeats 8000000 in
theorem l7Put_any (id a1 a2 a3:Int)(q:Option Addr)(m c2:Nat)(vs:List Visit4)(w:World)(hm:m≤1000)(hS:Sl w q m c2 4 (vs.flatMap visitCells)):
  Calls Tryz.prog 148 #[.slice q m c2,.agg #[.int .i64 id,.int .i64 a1,.int .i64 a2,.int .i64 a3]] w fun e w'=> ∃q' c',e= .returned (.slice q' (m+1) c')∧w'.ownsRow w.heap.size TV 4 (.slice q' (m+1) c') (m+1) ((putV (id,a1,a2,a3) vs).flatMap visitCells)∧Ext w w':=by
 have hl:Hid (vs.length=m):=by
  have:=hS.len;rw[flat_len visitCells 4 (fun _=>rfl)]at this;exact(by omega:vs.length=m)
 have hncap:=hS.le
 have HS:=Lib.hid hS
 clear hS
 have hst:=Lib.hid (((((Mem.start w).blkNew TV #[.int .i64 id,.int .i64 a1,.int .i64 a2,.int .i64 a3] (w.heap.size) (by simp))).made0 TV 4 (w.heap.size+1) (by simp)))
 go_enter Tryz.func148,Tryz.ntmps148
 go_wp2
 go_loopw [5,6] (fun v i wr=> ∃(k:Nat) (q5:Option Addr) (c5:Nat),k≤m∧i= .int .i64 k∧v= .slice q5 k c5∧(∀u∈vs.take k,u.1<id)∧Mem w wr [ownI w.heap.size TV 4 (q5) (k) (c5) ((vs.take k).flatMap visitCells),blkI w.heap.size (w.heap.size) TV #[.int .i64 id,.int .i64 a1,.int .i64 a2,.int .i64 a3]]) (fun _ i _=>m-(intOf i).toNat)
 case atStart=>exact⟨0,some ⟨w.heap.size+1,0,none⟩,0,Nat.zero_le _,rfl,rfl,by simp,hst.out⟩
 case round=>
  clear hst
  obtain⟨k,q5,c5,hk,rfl,rfl,hlt',hM⟩:=hrel
  have HM:=Lib.hid hM
  have HL:=Lib.hid hlt'
  clear hM hlt'
  by_cases hlt:k<m
  ·obtain⟨b,off,c0,c1,c4,c3,rfl,hx,hb,g0,g1,g2,g3⟩:=visit_at (HS.out.ext HM.out.ext) hlt
   have lt0:w.heap.size<wr.heap.size:=(HM.out.lt (i:=1) rfl rfl).2
   have b0:wr.cell? ⟨w.heap.size,0,none⟩=some (.int .i64 id):=(HM.out.blk (i:=1) rfl).cell 0
   have b1:wr.cell? ⟨w.heap.size,1,none⟩=some (.int .i64 a1):=(HM.out.blk (i:=1) rfl).cell 1
   have b2:wr.cell? ⟨w.heap.size,2,none⟩=some (.int .i64 a2):=(HM.out.blk (i:=1) rfl).cell 2
   have b3:wr.cell? ⟨w.heap.size,3,none⟩=some (.int .i64 a3):=(HM.out.blk (i:=1) rfl).cell 3
   have HX:=Lib.hid hx
   clear hx
   have i1:(0:Int)≤(k:Int):=by omega
   have i2:(k:Int)<(m:Int):=by omega
   have i3:(k:Int)≤(m:Int):=by omega
   by_cases hy:c0<id
   ·have hfin:Hid (∀z∈vs.take (k+1),z.1<id):=by
     show∀z∈vs.take (k+1),z.1<id
     rw[take_snocL HX.out]
     intro z hz
     rcases List.mem_append.1 hz with h|h
     ·exact HL.out z h
     ·simp at h;subst h;exact hy
    have hd:decide (c0<id)=true:=by simp[hy]
    go_wp2
    go_quiet (fail)
    generalize hwi:World.drewN wr _=wi
    have hX:Ext wr wi:=by rw[←hwi];exact Ext.drewN (Ext.refl _) _
    clear hwi b0 b1 b2 b3 lt0 hd
    have M51:=Lib.hid (HM.out.adv hX)
    clear HM
    have lt51_1:w.heap.size<wi.heap.size:=(M51.out.lt (i:=1) rfl rfl).2
    have d0:wi.cell? ⟨w.heap.size,0,none⟩=some (.int .i64 id):=(M51.out.blk (i:=1) rfl).cell 0
    have d1:wi.cell? ⟨w.heap.size,1,none⟩=some (.int .i64 a1):=(M51.out.blk (i:=1) rfl).cell 1
    have d2:wi.cell? ⟨w.heap.size,2,none⟩=some (.int .i64 a2):=(M51.out.blk (i:=1) rfl).cell 2
    have d3:wi.cell? ⟨w.heap.size,3,none⟩=some (.int .i64 a3):=(M51.out.blk (i:=1) rfl).cell 3
    have e0:=(hX.cells.1 _ _ hb).trans g0
    have e1:=(hX.cells.1 _ _ hb).trans g1
    have e2:=(hX.cells.1 _ _ hb).trans g2
    have e3:=(hX.cells.1 _ _ hb).trans g3
    have hb2:b<wi.heap.size:=Nat.lt_of_lt_of_le hb hX.sz
    clear hX g0 g1 g2 g3 hb
    go_wp2_with (at_builtin;go_loud (refine wpList_appM elV4 rfl _ _ rfl ((M51.out).adv ((Ext.refl _).alloc (.cells #[.int .i64 c0,.int .i64 c1,.int .i64 c4,.int .i64 c3] TV))) 0 rfl rfl (visitCells (c0,c1,c4,c3)) rfl (sl_lit _ _ _ 1 4 _ (by simp) (by simp) (by simp[maxLen])) (visit_one _) (by omega) ?_;intro q7 c7 w6 M6))
    have M7:=Lib.hid (show Mem w w6 [ownI w.heap.size TV 4 (q7) (k+1) (c7) ((vs.take k).flatMap visitCells++visitCells (c0,c1,c4,c3)),blkI w.heap.size (w.heap.size) TV #[.int .i64 id,.int .i64 a1,.int .i64 a2,.int .i64 a3]]from M6)
    have hfl:Hid ((vs.take k).flatMap visitCells++visitCells (c0,c1,c4,c3)=(vs.take (k+1)).flatMap visitCells):=by show _=_;rw[take_snocL HX.out,List.flatMap_append];simp
    rw[hfl.out]at M7
    clear hfl M6
    go_roundw
    case rel=>exact⟨k+1,q7,c7,by omega,by go_num,rfl,hfin.out,M7.out⟩
    case measure=>simp[intOf];omega
   ·have hfin:Hid (putV (id,a1,a2,a3) vs=vs.take k++(id,a1,a2,a3)::vs.drop k):=putV_at _ vs k HL.out (fun z hz=>by rw[HX.out]at hz;injection hz with hz;subst hz;exact hy)
    have hck: ¬c2=k:=by omega
    have hd:decide (c0<id)=false:=by simp[hy]
    clear HX HL
    go_wp2
    go_quiet (fail)
    generalize hwi:World.drewN wr _=wi
    have hX:Ext wr wi:=by rw[←hwi];exact Ext.drewN (Ext.refl _) _
    clear hwi b0 b1 b2 b3 lt0 hd
    have M51:=Lib.hid (HM.out.adv hX)
    clear HM
    have lt51_1:w.heap.size<wi.heap.size:=(M51.out.lt (i:=1) rfl rfl).2
    have d0:wi.cell? ⟨w.heap.size,0,none⟩=some (.int .i64 id):=(M51.out.blk (i:=1) rfl).cell 0
    have d1:wi.cell? ⟨w.heap.size,1,none⟩=some (.int .i64 a1):=(M51.out.blk (i:=1) rfl).cell 1
    have d2:wi.cell? ⟨w.heap.size,2,none⟩=some (.int .i64 a2):=(M51.out.blk (i:=1) rfl).cell 2
    have d3:wi.cell? ⟨w.heap.size,3,none⟩=some (.int .i64 a3):=(M51.out.blk (i:=1) rfl).cell 3
    clear hX g0 g1 g2 g3 hb hy
    go_wp2
    go_region_law ((first
     |(refine step_appM elV4 (by rfl) _ _ (by rfl) (M51.out.adv (by exact .drew (.alloc (.refl _) _))) 0 (by rfl) (by rfl) (visitCells (id,a1,a2,a3)) (by rfl) (by first|exact sl_lit wi #[.int .i64 id,.int .i64 a1,.int .i64 a2,.int .i64 a3] _ 1 4 _ rfl (by simp) (by simp[maxLen])|exact(sl_lit wi #[.int .i64 id,.int .i64 a1,.int .i64 a2,.int .i64 a3] _ 1 4 _ rfl (by simp) (by simp[maxLen])).ext (Ext.drew (Ext.refl _))|exact sl_lit wi.drew #[.int .i64 id,.int .i64 a1,.int .i64 a2,.int .i64 a3] _ 1 4 _ rfl (by simp) (by simp[maxLen])) (visit_one _) (by omega) ?_
       intro q7 c7 w6 M6
       have M7:=Lib.hid (show Mem w w6 [ownI w.heap.size TV 4 (q7) (k+1) (c7) ((vs.take k).flatMap visitCells++visitCells (id,a1,a2,a3)),blkI w.heap.size (w.heap.size) TV #[.int .i64 id,.int .i64 a1,.int .i64 a2,.int .i64 a3]]from M6)
       clear M6)
     |(refine step_appM elV4 (by rfl) _ _ (by rfl) (M7.out.adv (by exact .refl _)) 0 (by rfl) (by rfl) ((vs.drop k).flatMap visitCells) (by rfl) (drop_visits k vs▸sl_dropZ (HS.out.ext (M7.out.ext.trans (by exact .refl _))) (by omega)) (visits_one _) (by omega) ?_
       intro q9 c9 w9 M9
       have M9:=Lib.hid (show Mem w w9 [ownI w.heap.size TV 4 (q9) (k+1+(m-k)) (c9) (((vs.take k).flatMap visitCells++visitCells (id,a1,a2,a3))++(vs.drop k).flatMap visitCells),blkI w.heap.size (w.heap.size) TV #[.int .i64 id,.int .i64 a1,.int .i64 a2,.int .i64 a3]]from M9))))
    all_goals (
     have e1:k+1+(m-k)=m+1:=by omega
     have e2:((vs.take k).flatMap visitCells++visitCells (id,a1,a2,a3))++(vs.drop k).flatMap visitCells=(vs.take k++(id,a1,a2,a3)::vs.drop k).flatMap visitCells:=by simp
     have MZ:=Lib.hid (show Mem w w9 [ownI w.heap.size TV 4 (q9) (m+1) (c9) ((vs.take k++(id,a1,a2,a3)::vs.drop k).flatMap visitCells),blkI w.heap.size (w.heap.size) TV #[.int .i64 id,.int .i64 a1,.int .i64 a2,.int .i64 a3]]from by have:=M9.out;rw[e2]at this;simpa only[e1]using this)
     clear e2 M9 M7)
    all_goals go_wp2
    all_goals exact bodyPost_ret (v:= .slice q9 (m+1) c9) (by simp[results,Tryz.results148,go_sem, *]) rfl ⟨q9,c9,rfl,by rw[hfin.out];exact MZ.out.own (i:=0) rfl,MZ.out.ext⟩
  ·obtain rfl:k=m:=by omega
   have lt0:w.heap.size<wr.heap.size:=(HM.out.lt (i:=1) rfl rfl).2
   have b0:wr.cell? ⟨w.heap.size,0,none⟩=some (.int .i64 id):=(HM.out.blk (i:=1) rfl).cell 0
   have b1:wr.cell? ⟨w.heap.size,1,none⟩=some (.int .i64 a1):=(HM.out.blk (i:=1) rfl).cell 1
   have b2:wr.cell? ⟨w.heap.size,2,none⟩=some (.int .i64 a2):=(HM.out.blk (i:=1) rfl).cell 2
   have b3:wr.cell? ⟨w.heap.size,3,none⟩=some (.int .i64 a3):=(HM.out.blk (i:=1) rfl).cell 3
   have hfin:Hid (putV (id,a1,a2,a3) vs=vs.take k++(id,a1,a2,a3)::vs.drop k):=putV_at _ vs k HL.out (fun z hz=>by rw[List.getElem?_eq_none (by rw[hl.out];exact Nat.le_refl _)]at hz;cases hz)
   have hdn:Hid (vs.drop k= []):=List.drop_eq_nil_of_le (by rw[hl.out];exact Nat.le_refl _)
   have i1:(0:Int)≤(k:Int):=by omega
   clear HL
   go_wp2
   go_quiet (fail)
   generalize hwi:World.drewN wr _=wi
   have hX:Ext wr wi:=by rw[←hwi];exact Ext.drewN (Ext.refl _) _
   clear hwi b0 b1 b2 b3 lt0
   have M51:=Lib.hid (HM.out.adv hX)
   clear HM
   have lt51_1:w.heap.size<wi.heap.size:=(M51.out.lt (i:=1) rfl rfl).2
   have d0:wi.cell? ⟨w.heap.size,0,none⟩=some (.int .i64 id):=(M51.out.blk (i:=1) rfl).cell 0
   have d1:wi.cell? ⟨w.heap.size,1,none⟩=some (.int .i64 a1):=(M51.out.blk (i:=1) rfl).cell 1
   have d2:wi.cell? ⟨w.heap.size,2,none⟩=some (.int .i64 a2):=(M51.out.blk (i:=1) rfl).cell 2
   have d3:wi.cell? ⟨w.heap.size,3,none⟩=some (.int .i64 a3):=(M51.out.blk (i:=1) rfl).cell 3
   clear hX
   go_wp2
   go_region_law ((first
    |(refine step_appM elV4 (by rfl) _ _ (by rfl) (M51.out.adv (by exact .drew (.alloc (.refl _) _))) 0 (by rfl) (by rfl) (visitCells (id,a1,a2,a3)) (by rfl) (by first|exact sl_lit wi #[.int .i64 id,.int .i64 a1,.int .i64 a2,.int .i64 a3] _ 1 4 _ rfl (by simp) (by simp[maxLen])|exact(sl_lit wi #[.int .i64 id,.int .i64 a1,.int .i64 a2,.int .i64 a3] _ 1 4 _ rfl (by simp) (by simp[maxLen])).ext (Ext.drew (Ext.refl _))|exact sl_lit wi.drew #[.int .i64 id,.int .i64 a1,.int .i64 a2,.int .i64 a3] _ 1 4 _ rfl (by simp) (by simp[maxLen])) (visit_one _) (by omega) ?_
      intro q7 c7 w6 M6
      have M7:=Lib.hid (show Mem w w6 [ownI w.heap.size TV 4 (q7) (k+1) (c7) ((vs.take k).flatMap visitCells++visitCells (id,a1,a2,a3)),blkI w.heap.size (w.heap.size) TV #[.int .i64 id,.int .i64 a1,.int .i64 a2,.int .i64 a3]]from M6)
      clear M6)
    |(refine step_appM elV4 (by rfl) _ _ (by rfl) (M7.out.adv (by exact .refl _)) 0 (by rfl) (by rfl) (([]:List Visit4).flatMap visitCells) (by rfl) (⟨by simp,Nat.zero_le _,by have:=HS.out.mx;omega,fun h=>absurd h (by omega)⟩) (visits_one _) (by omega) ?_
      intro q9 c9 w9 M9
      have M9:=Lib.hid (show Mem w w9 [ownI w.heap.size TV 4 (q9) (k+1+0) (c9) (((vs.take k).flatMap visitCells++visitCells (id,a1,a2,a3))++([]:List Visit4).flatMap visitCells),blkI w.heap.size (w.heap.size) TV #[.int .i64 id,.int .i64 a1,.int .i64 a2,.int .i64 a3]]from M9))))
   all_goals (
    have e1:k+1+0=k+1:=by omega
    have e2:((vs.take k).flatMap visitCells++visitCells (id,a1,a2,a3))++([]:List Visit4).flatMap visitCells=(vs.take k++(id,a1,a2,a3)::vs.drop k).flatMap visitCells:=by simp[hdn.out]
    have MZ:=Lib.hid (show Mem w w9 [ownI w.heap.size TV 4 (q9) (k+1) (c9) ((vs.take k++(id,a1,a2,a3)::vs.drop k).flatMap visitCells),blkI w.heap.size (w.heap.size) TV #[.int .i64 id,.int .i64 a1,.int .i64 a2,.int .i64 a3]]from by have:=M9.out;rw[e2]at this;simpa only[e1]using this)
    clear e2 M9 M7)
   all_goals go_wp2
   all_goals exact bodyPost_ret (v:= .slice q9 (k+1) c9) (by simp[results,Tryz.results148,go_sem, *]) rfl ⟨q9,c9,rfl,by rw[hfin.out];exact MZ.out.own (i:=0) rfl,MZ.out.ext⟩
end Go.Proofs.YteejdnmmpmcmeaaGreatDoor

namespace Go.Proofs.YteejdnmmpmcmeaaGreatDoor
open Go.RowKit
set_option linter.unusedVariables false
def vix (id:Int)(vs:List Visit4):Int:=if vs.any (fun v=>v.1==id)then(vs.findIdx (fun v=>v.1==id):Int)else -1
theorem vix_hit {id:Int}{vs:List Visit4}{k:Nat}{v:Visit4}(hv:vs[k]? =some v) (h:v.1=id) (hp:(vs.take k).any (fun v=>v.1==id)=false):vix id vs=k:=by
 have hlt:k<vs.length:=(List.getElem?_eq_some_iff.1 hv).1
 have e:vs[k]=v:=by have:=(List.getElem?_eq_some_iff.1 hv).2;exact this
 have ha:vs.any (fun v=>v.1==id)=true:=List.any_eq_true.2 ⟨v,List.mem_of_getElem? hv,by simp[h]⟩
 have hi:vs.findIdx (fun v=>v.1==id)=k:=by
  rw[List.findIdx_eq hlt]
  refine⟨by simp[e,h],fun j hj=> ?_⟩
  have:=List.any_eq_false.1 hp vs[j] (by
   rw[List.mem_take_iff_getElem];exact⟨j,by omega,rfl⟩)
  simpa using this
 unfold vix;rw[if_pos ha,hi]
theorem vix_miss {id:Int}{vs:List Visit4}(hp:vs.any (fun v=>v.1==id)=false):vix id vs= -1:=by unfold vix;simp[hp]
theorem any_snoc {id:Int}{vs:List Visit4}{k:Nat}{v:Visit4}(hv:vs[k]? =some v) (h: ¬v.1=id) (hp:(vs.take k).any (fun v=>v.1==id)=false):(vs.take (k+1)).any (fun v=>v.1==id)=false:=by
 rw[take_snocL hv,List.any_append,hp];simp[h]
theorem vix_cases (id:Int)(vs:List Visit4):(vix id vs= -1∧visitAt id vs=none)∨ ∃(k:Nat) (a1 a2 a3:Int),k<vs.length∧vix id vs=k∧vs[k]? =some (id,a1,a2,a3)∧visitAt id vs=some (id,a1,a2,a3):=by
 cases h:vs.any (fun v=>v.1==id)with
 |false=>exact .inl ⟨vix_miss h,by unfold visitAt;rw[List.find?_eq_none];simpa using h⟩
 |true=>
  right
  have hlt:vs.findIdx (fun v=>v.1==id)<vs.length:=List.findIdx_lt_length.2 (by simpa using h)
  have hg:=List.findIdx_getElem (w:=hlt)
  have hf:visitAt id vs=some (vs[vs.findIdx (fun v=>v.1==id)]):=by
   unfold visitAt
   rw[List.find?_eq_some_iff_getElem]
   exact⟨hg,_,hlt,rfl,fun j hj=>by simpa using List.not_of_lt_findIdx hj⟩
  have h0:vs[vs.findIdx (fun v=>v.1==id)].1=id:=by simpa using hg
  generalize hb:vs[vs.findIdx (fun v=>v.1==id)]=v at*
  obtain⟨b0,b1,b2,b3⟩:=v
  dsimp only at h0
  subst h0
  exact⟨_,b1,b2,b3,hlt,by unfold vix;rw[if_pos h],by rw[List.getElem?_eq_getElem hlt,hb],hf⟩
set_option maxRecDepth 100000 in
set_option maxHeartbeats 1000000 in
theorem indexFunc_any (B:Nat)(q:Option Addr)(m c2:Nat)(vs:List Visit4)(id:Int)(w:World)(hS:Sl w q m c2 4 (vs.flatMap visitCells))(hB:B<w.heap.size)(hc:w.cell? ⟨B,0,none⟩=some (.int .i64 id)):
  Calls Tryz.prog 125 #[.slice q m c2,.func (.func 126) #[] #[.pointer (some ⟨B,0,none⟩)]] w fun e w'=>e= .returned (.int .i64 (vix id vs))∧Ext w w':=by
 have hn:=hS.bd
 have HS:=Lib.hid hS
 have hl:Hid (vs.length=m):=by
  have:=hS.len;rw[flat_len visitCells 4 (fun _=>rfl)]at this;exact(by omega:vs.length=m)
 clear hS
 go_enter Tryz.func125,Tryz.ntmps125
 go_wp2
 go_loopw [8] (fun i wr=> ∃k:Nat,k≤m∧i= .int .i64 k∧(vs.take k).any (fun v=>v.1==id)=false∧Ext w wr∧w.heap.size≤wr.heap.size∧wr.cell? ⟨B,0,none⟩=some (.int .i64 id)) (fun i _=>m-(intOf i).toNat)
 case atStart=>exact⟨0,Nat.zero_le _,rfl,by simp,by exact .refl _,by simp,by simpa using hc⟩
 case round=>
  obtain⟨k,hk,rfl,hp,hE,hsz,hcB⟩:=hrel
  have HP:=Lib.hid hp
  clear hp
  by_cases hlt:k<m
  ·obtain⟨b,off,a0,a1,a2,a3,rfl,hv,hb,g0,g1,g2,g3⟩:=visit_at (HS.out.ext hE) hlt
   have HV:=Lib.hid hv
   clear hv
   have hcB2:(wr.alloc (.cells #[.int .i64 a0,.int .i64 a1,.int .i64 a2,.int .i64 a3] 38)).cell? ⟨B,0,none⟩=some (.int .i64 id):=by rw[((Ext.refl wr).alloc _).cells.1 _ _ (by omega)];exact hcB
   by_cases t:a0=id
   ·have q0:(a0==id)=true:=by simp[t]
    have hfin:Hid (vix id vs=k):=vix_hit HV.out t HP.out
    clear t
    go_wp2_with go_in
    go_ret
    exact⟨by rw[hfin.out];rfl,by exact .alloc hE _⟩
   ·have q0:(a0==id)=false:=by simp[t]
    have hfin:Hid ((vs.take (k+1)).any (fun v=>v.1==id)=false):=any_snoc HV.out t HP.out
    clear t
    go_wp2_with go_in
    go_roundw
    case rel=>exact⟨k+1,by omega,by go_num,hfin.out,by exact .alloc hE _,by simp;omega,hcB2⟩
    case measure=>simp[intOf];omega
  ·have hfin:Hid (vix id vs= -1):=vix_miss (by have:=HP.out;rwa[List.take_of_length_le (by rw[hl.out];omega)]at this)
   go_wp2
   go_ret
   exact⟨by rw[hfin.out];rfl,by exact hE⟩
set_option maxRecDepth 100000 in
set_option maxHeartbeats 1000000 in
theorem visitIndex_any (wide deep free step price capp clock bank id:Int)(p:Option Addr)(n cap:Nat)(q:Option Addr)(m c2:Nat)(vs:List Visit4)(w:World)(hS:Sl w q m c2 4 (vs.flatMap visitCells)):
  Calls Tryz.prog 72 #[.agg #[.int .i64 wide,.int .i64 deep,.slice p n cap,.int .i64 free,.int .i64 step,.int .i64 price,.int .i64 capp,.int .i64 clock,.int .i64 bank,.slice q m c2],.int .i64 id] w fun e w'=>e= .returned (.int .i64 (vix id vs))∧Ext w w':=by
 have HI:Hid (∀w1 B,Ext w w1→B<w1.heap.size→w1.cell? ⟨B,0,none⟩=some (.int .i64 id)→Calls Tryz.prog 125 #[.slice q m c2,.func (.func 126) #[] #[.pointer (some ⟨B,0,none⟩)]] w1 fun e w'=>e= .returned (.int .i64 (vix id vs))∧Ext w1 w'):=
  fun w1 B hx hB hc=>indexFunc_any B q m c2 vs id w1 (hS.ext hx) hB hc
 clear hS
 go_enter Tryz.func72,Tryz.ntmps72
 go_wp2_with fail
 refine(HI.out _ _ (by exact .alloc (.alloc (.refl _) _) _) (by simp) (by simp)).mono ?_
 rintro e w1 ⟨rfl,h1⟩
 go_wp2
 go_ret
 exact⟨rfl,by exact .trans (.alloc (.alloc (.refl _) _) _) h1⟩
set_option maxRecDepth 100000 in
set_option maxHeartbeats 1000000 in
theorem l7Find_any (wide deep free step price capp clock bank id:Int)(p:Option Addr)(n cap:Nat)(q:Option Addr)(m c2:Nat)(vs:List Visit4)(w:World)(hS:Sl w q m c2 4 (vs.flatMap visitCells)):
  Calls Tryz.prog 73 #[.agg #[.int .i64 wide,.int .i64 deep,.slice p n cap,.int .i64 free,.int .i64 step,.int .i64 price,.int .i64 capp,.int .i64 clock,.int .i64 bank,.slice q m c2],.int .i64 id] w fun e w'=>e= .returned (.int .i64 (vix id vs))∧Ext w w':=by
 have hn:=hS.bd
 have HS:=Lib.hid hS
 have hl:Hid (vs.length=m):=by
  have:=hS.len;rw[flat_len visitCells 4 (fun _=>rfl)]at this;exact(by omega:vs.length=m)
 clear hS
 go_enter Tryz.func73,Tryz.ntmps73
 go_wp2
 go_loop [5] (fun i=> ∃k:Nat,k≤m∧i= .int .i64 k∧(vs.take k).any (fun v=>v.1==id)=false) (fun i=>m-(intOf i).toNat)
 case atStart=>exact⟨0,Nat.zero_le _,rfl,by simp⟩
 case round=>
  obtain⟨k,hk,rfl,hp⟩:=hrel
  have HP:=Lib.hid hp
  clear hp
  by_cases hlt:k<m
  ·obtain⟨b,off,a0,a1,a2,a3,rfl,hv,hb,g0,g1,g2,g3⟩:=visit_at HS.out hlt
   have HV:=Lib.hid hv
   clear hv
   by_cases t:a0=id
   ·have q0:(a0==id)=true:=by simp[t]
    have hfin:Hid (vix id vs=k):=vix_hit HV.out t HP.out
    clear t
    go_wp2
    go_ret
    exact⟨by rw[hfin.out];rfl,by exact .alloc (.refl _) _⟩
   ·have q0:(a0==id)=false:=by simp[t]
    have hfin:Hid ((vs.take (k+1)).any (fun v=>v.1==id)=false):=any_snoc HV.out t HP.out
    clear t
    go_wp2
    go_round
    case rel=>exact⟨k+1,by omega,by go_num,hfin.out⟩
    case measure=>simp[intOf];omega
  ·have hfin:Hid (vix id vs= -1):=vix_miss (by have:=HP.out;rwa[List.take_of_length_le (by rw[hl.out];omega)]at this)
   go_wp2
   go_ret
   exact⟨by rw[hfin.out];rfl,by exact .alloc (.refl _) _⟩
end Go.Proofs.YteejdnmmpmcmeaaGreatDoor

