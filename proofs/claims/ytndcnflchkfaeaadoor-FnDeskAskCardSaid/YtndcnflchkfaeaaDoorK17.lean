/-
  Texts of this proof, packed (@packed).
-/
import Derived.Test.YtndcnflchkfaeaaDoorK7
import Derived.Test.YtndcnflchkfaeaaDoorK10
import Derived.Test.YtndcnflchkfaeaaDoorK11
import Derived.Test.YtndcnflchkfaeaaDoorK12
import Derived.Test.YtndcnflchkfaeaaDoorK13
import Derived.Test.YtndcnflchkfaeaaDoorK14
import Derived.Test.YtndcnflchkfaeaaDoorK15
import Derived.Test.YtndcnflchkfaeaaDoorK16
namespace Go.Proofs.YtndcnflchkfaeaaDoor
open Go.RowKit
set_option linter.unusedVariables false
set_option linter.unusedSimpArgs false
def runStep (d:DeskD)(b:Visit4):DeskD:=if 0<b.2.2.1 then(deskAsk d b).1 else(deskFree d b.1).1
def deskRun (d:DeskD)(bs:List Visit4):DeskD:=if deskValid d=true then bs.foldl runStep d else⟨0,[],[]⟩
theorem step_ok {d:DeskD}{b:Visit4}(h:deskValid d=true):deskValid (runStep d b)=true:=by
 unfold runStep
 split
 ·exact ask_ok h
 ·exact free_ok h
theorem run_ok: ∀(bs:List Visit4) (d:DeskD),deskValid d=true→deskValid (bs.foldl runStep d)=true
 | [],d,h=>h
 |b::bs,d,h=>by rw[List.foldl_cons];exact run_ok bs _ (step_ok h)
theorem deskRun_ok {d:DeskD}{bs:List Visit4}(h:deskValid d=true):deskValid (deskRun d bs)=true:=by
 unfold deskRun;rw[if_pos h];exact run_ok bs d h
theorem deskRun_split (d:DeskD)(a b:List Visit4)(h:deskValid d=true):deskRun (deskRun d a) b=deskRun d (a++b):=by
 have h2:=deskRun_ok (bs:=a) h
 unfold deskRun at h2⊢
 rw[if_pos h2,if_pos h,if_pos h,List.foldl_append]
def deskPlace (d:DeskD)(id:Int):Int:=
 if deskValid d=true then
  match idxOf id d.taken with
  |some i=>((bookPlaces d.taken)[i]?).getD (-1)
  |none=> -1
 else -1
theorem desk_len {d:DeskD}(h:deskValid d=true):d.taken.length≤7∧d.row.length≤5:=by
 have:=desk_iff.1 h
 exact⟨((booksOk_iff _).1 this.ok).1,this.rlen⟩
end Go.Proofs.YtndcnflchkfaeaaDoor

namespace Go.Proofs.YtndcnflchkfaeaaDoor
open Go.RowKit
set_option linter.unusedVariables false
set_option linter.unusedSimpArgs false
set_option maxRecDepth 100000 in
set_option maxHeartbeats 8000000 in
theorem copyDesk_o (P:Int)(q:Option Addr)(m c2:Nat)(q2:Option Addr)(m2 d2:Nat)(T R:List Visit4)(w:World)
  (HC1:Hid (∀w',Ext w w'→Calls Tryd.prog 61 #[.slice q m c2] w' fun e w''=> ∃q' c',e= .returned (.slice q' m c')∧w''.ownsRow w'.heap.size TBk 4 (.slice q' m c') m (T.flatMap visitCells)∧Ext w' w''))
  (HC2:Hid (∀w',Ext w w'→Calls Tryd.prog 61 #[.slice q2 m2 d2] w' fun e w''=> ∃q' c',e= .returned (.slice q' m2 c')∧w''.ownsRow w'.heap.size TBk 4 (.slice q' m2 c') m2 (R.flatMap visitCells)∧Ext w' w'')):
  Calls Tryd.prog 53 #[.agg #[.int .i64 P,.slice q m c2,.slice q2 m2 d2]] w fun e w'=> ∃q5 c5 q6 c6,e= .returned (.agg #[.int .i64 P,.slice q5 m c5,.slice q6 m2 c6])∧Mem w w' [ownI w.heap.size TBk 4 (q5) (m) (c5) (T.flatMap visitCells),ownI w.heap.size TBk 4 (q6) (m2) (c6) (R.flatMap visitCells)]:=by
 have M0:=Lib.hid (show Mem w ((w.alloc (.cells #[.int .i64 P,.slice q m c2,.slice q2 m2 d2] TDk)).alloc (.cells #[.int .i64 0,.slice none 0 0,.slice none 0 0] TDk)) [blkI w.heap.size (w.heap.size+1) TDk #[.int .i64 0,.slice none 0 0,.slice none 0 0],blkI w.heap.size (w.heap.size) TDk #[.int .i64 P,.slice q m c2,.slice q2 m2 d2]]from(((Mem.start w).blkNew TDk #[.int .i64 P,.slice q m c2,.slice q2 m2 d2] (w.heap.size) rfl).blkNew TDk #[.int .i64 0,.slice none 0 0,.slice none 0 0] (w.heap.size+1) (by simp)))
 go_enter Tryd.func53,Tryd.ntmps53
 go_wp2
 generalize hwr:World.alloc (World.alloc w _) _=wr at M0⊢
 obtain⟨ca0,ca1,ca2⟩:=(M0.out.blk (i:=1) rfl).tri
 have lt0:w.heap.size<wr.heap.size:=(M0.out.lt (i:=1) rfl rfl).2
 clear hwr
 go_region_law ((first
  |(go_simp;go_at_call 61
    (with_reducible refine(HC1.out _ (M0.out.ext.trans (by(repeat' (first|exact Ext.refl _|(with_reducible assumption)|(with_reducible refine Ext.alloc ?_ _)|(with_reducible refine Ext.setCell ?_ (by first|exact Nat.le_refl _|(dsimp only;omega)|(simp;done)|(simp;omega)) _)|(with_reducible refine Ext.drew ?_)|(with_reducible refine Ext.drewN ?_ _)|(refine Ext.trans ?_ (by with_reducible assumption))))))).mono ?_)
    rintro e w3 ⟨q5,c5,rfl,o5,hx3⟩
    (try replace hx3:=hx3.of_drew)
    (first|(have MZ:=Lib.hid (MB.out.call hx3 o5);obtain⟨y0,yf0,y1,yf1,y2,yf2⟩:=(MZ.out.blk (i:=2) rfl).trif;obtain⟨cb0,cb1,cb2⟩:=(MZ.out.blk (i:=3) rfl).tri)|(have MA:=Lib.hid (M0.out.call hx3 o5);obtain⟨cb0,cb1,cb2⟩:=(MA.out.blk (i:=2) rfl).tri)))
  |(go_simp;go_at_call 61
    (with_reducible refine(HC2.out _ (M0.out.ext.trans (by(repeat' (first|exact Ext.refl _|(with_reducible assumption)|(with_reducible refine Ext.alloc ?_ _)|(with_reducible refine Ext.setCell ?_ (by first|exact Nat.le_refl _|(dsimp only;omega)|(simp;done)|(simp;omega)) _)|(with_reducible refine Ext.drew ?_)|(with_reducible refine Ext.drewN ?_ _)|(refine Ext.trans ?_ (by with_reducible assumption))))))).mono ?_)
    rintro e w4 ⟨q6,c6,rfl,o6,hx4⟩
    (try replace hx4:=hx4.of_drew)
    (first|(have MZ:=Lib.hid (MA.out.call hx4 o6);obtain⟨y0,yf0,y1,yf1,y2,yf2⟩:=(MZ.out.blk (i:=2) rfl).trif;obtain⟨cb0,cb1,cb2⟩:=(MZ.out.blk (i:=3) rfl).tri)|(have MB:=Lib.hid (M0.out.call hx4 o6);obtain⟨cb0,cb1,cb2⟩:=(MB.out.blk (i:=2) rfl).tri)))))
 all_goals (
  have MS:=Lib.hid (MZ.out.put3 (i:=2) rfl (.int .i64 P) (.slice q5 m c5) (.slice q6 m2 c6))
  generalize hwz:World.setCell _ _ _=wz
  rw[hwz]at MS
  clear hwz MZ MA HC1 HC2 ca0 ca1 ca2 cb0 cb1 cb2 y0 y1 y2 yf0 yf1 yf2 M0 hx3 hx4 o5 o6
  obtain⟨y0,y1,y2⟩:=(MS.out.blk (i:=2) rfl).tri
  go_wp2
  exact bodyPost_ret (v:= .agg #[.int .i64 P,.slice q5 m c5,.slice q6 m2 c6]) (by simp[results,Tryd.results53,go_sem, *]) rfl ⟨q5,c5,q6,c6,rfl,show Mem w wz [ownI w.heap.size TBk 4 (q5) (m) (c5) (T.flatMap visitCells),ownI w.heap.size TBk 4 (q6) (m2) (c6) (R.flatMap visitCells)]from(MS.out.pick [1,0] (by decide) rfl)⟩)
set_option maxRecDepth 100000 in
set_option maxHeartbeats 8000000 in
theorem l6Copy_o (P:Int)(q:Option Addr)(m c2:Nat)(q2:Option Addr)(m2 d2:Nat)(T R:List Visit4)(w:World)(hm:m≤1000)(hm2:m2≤1000)(HS:Hid (Sl w q m c2 4 (T.flatMap visitCells)))(HS2:Hid (Sl w q2 m2 d2 4 (R.flatMap visitCells))):
  Calls Tryd.prog 55 #[.agg #[.int .i64 P,.slice q m c2,.slice q2 m2 d2]] w fun e w'=> ∃q5 c5 q6 c6,e= .returned (.agg #[.int .i64 P,.slice q5 m c5,.slice q6 m2 c6])∧Mem w w' [ownI w.heap.size TBk 4 (q5) (m) (c5) (T.flatMap visitCells),ownI w.heap.size TBk 4 (q6) (m2) (c6) (R.flatMap visitCells)]:=by
 have M0:=Lib.hid (show Mem w ((w.alloc (.cells #[.int .i64 P,.slice q m c2,.slice q2 m2 d2] TDk)).alloc (.cells #[.int .i64 0,.slice none 0 0,.slice none 0 0] TDk)) [blkI w.heap.size (w.heap.size+1) TDk #[.int .i64 0,.slice none 0 0,.slice none 0 0],blkI w.heap.size (w.heap.size) TDk #[.int .i64 P,.slice q m c2,.slice q2 m2 d2]]from(((Mem.start w).blkNew TDk #[.int .i64 P,.slice q m c2,.slice q2 m2 d2] (w.heap.size) rfl).blkNew TDk #[.int .i64 0,.slice none 0 0,.slice none 0 0] (w.heap.size+1) (by simp)))
 go_enter Tryd.func55,Tryd.ntmps55
 go_wp2
 generalize hwr:World.alloc (World.alloc w _) _=wr at M0⊢
 obtain⟨ca0,ca1,ca2⟩:=(M0.out.blk (i:=1) rfl).tri
 have lt0:w.heap.size<wr.heap.size:=(M0.out.lt (i:=1) rfl rfl).2
 clear hwr
 go_region_held3 (fun w'=>w'.cell? ⟨w.heap.size,0,none⟩=some (.int .i64 P)∧w'.cell? ⟨w.heap.size,1,none⟩=some (.slice q m c2)∧w'.cell? ⟨w.heap.size,2,none⟩=some (.slice q2 m2 d2)) (first|(refine⟨?_,?_,?_⟩<;>assumption)|go_keep) (first
  |(refine step_appM elBk (by rfl) _ _ (by rfl) (by first|exact((M0.out.made0 TBk 4 (wr.heap.size) rfl).made0 TBk 4 (wr.heap.size+1) (by simp)).adv (Ext.drew (Ext.refl _))|exact((M0.out.made0 TBk 4 (wr.heap.size) rfl).made0 TBk 4 (wr.heap.size+1) (by simp))) 0 (by rfl) (by rfl) (T.flatMap visitCells) (by rfl) (HS.out.ext (M0.out.ext.trans (by(repeat' (first|exact Ext.refl _|(with_reducible assumption)|(with_reducible refine Ext.alloc ?_ _)|(with_reducible refine Ext.setCell ?_ (by first|exact Nat.le_refl _|(dsimp only;omega)|(simp;done)|(simp;omega)) _)|(with_reducible refine Ext.drew ?_)|(with_reducible refine Ext.drewN ?_ _)|(refine Ext.trans ?_ (by with_reducible assumption))))))) (books_one _) (by omega) ?_
    intro q5 c5 w3 M3
    have MAx:=Lib.hid (show Mem w w3 [ownI w.heap.size TBk 4 (q5) (m) (c5) (T.flatMap visitCells),ownI w.heap.size TBk 4 (some ⟨wr.heap.size,0,none⟩) (0) (0) ([]),blkI w.heap.size (w.heap.size+1) TDk #[.int .i64 0,.slice none 0 0,.slice none 0 0],blkI w.heap.size (w.heap.size) TDk #[.int .i64 P,.slice q m c2,.slice q2 m2 d2]]from by simpa only[Nat.zero_add,List.nil_append,List.set_cons_zero,List.set_cons_succ]using M3)
    obtain⟨cb0,cb1,cb2⟩:=(MAx.out.blk (i:=3) rfl).tri
    have lt3:w.heap.size<w3.heap.size:=(MAx.out.lt (i:=3) rfl rfl).2)
  |(refine step_appM elBk (by rfl) _ _ (by rfl) (by first|exact((M0.out.made0 TBk 4 (wr.heap.size) rfl).made0 TBk 4 (wr.heap.size+1) (by simp)).adv (Ext.drew (Ext.refl _))|exact((M0.out.made0 TBk 4 (wr.heap.size) rfl).made0 TBk 4 (wr.heap.size+1) (by simp))) 1 (by rfl) (by rfl) (T.flatMap visitCells) (by rfl) (HS.out.ext (M0.out.ext.trans (by(repeat' (first|exact Ext.refl _|(with_reducible assumption)|(with_reducible refine Ext.alloc ?_ _)|(with_reducible refine Ext.setCell ?_ (by first|exact Nat.le_refl _|(dsimp only;omega)|(simp;done)|(simp;omega)) _)|(with_reducible refine Ext.drew ?_)|(with_reducible refine Ext.drewN ?_ _)|(refine Ext.trans ?_ (by with_reducible assumption))))))) (books_one _) (by omega) ?_
    intro q5 c5 w3 M3
    have MAy:=Lib.hid (show Mem w w3 [ownI w.heap.size TBk 4 (some ⟨wr.heap.size+1,0,none⟩) (0) (0) ([]),ownI w.heap.size TBk 4 (q5) (m) (c5) (T.flatMap visitCells),blkI w.heap.size (w.heap.size+1) TDk #[.int .i64 0,.slice none 0 0,.slice none 0 0],blkI w.heap.size (w.heap.size) TDk #[.int .i64 P,.slice q m c2,.slice q2 m2 d2]]from by simpa only[Nat.zero_add,List.nil_append,List.set_cons_zero,List.set_cons_succ]using M3)
    obtain⟨cb0,cb1,cb2⟩:=(MAy.out.blk (i:=3) rfl).tri
    have lt3:w.heap.size<w3.heap.size:=(MAy.out.lt (i:=3) rfl rfl).2)
  |(refine step_appM elBk (by rfl) _ _ (by rfl) (by first|exact(M0.out.made0 TBk 4 (wr.heap.size) rfl).adv (Ext.drew (Ext.refl _))|exact(M0.out.made0 TBk 4 (wr.heap.size) rfl)) 0 (by rfl) (by rfl) (T.flatMap visitCells) (by rfl) (HS.out.ext (M0.out.ext.trans (by(repeat' (first|exact Ext.refl _|(with_reducible assumption)|(with_reducible refine Ext.alloc ?_ _)|(with_reducible refine Ext.setCell ?_ (by first|exact Nat.le_refl _|(dsimp only;omega)|(simp;done)|(simp;omega)) _)|(with_reducible refine Ext.drew ?_)|(with_reducible refine Ext.drewN ?_ _)|(refine Ext.trans ?_ (by with_reducible assumption))))))) (books_one _) (by omega) ?_
    intro q5 c5 w3 M3
    have MA:=Lib.hid (show Mem w w3 [ownI w.heap.size TBk 4 (q5) (m) (c5) (T.flatMap visitCells),blkI w.heap.size (w.heap.size+1) TDk #[.int .i64 0,.slice none 0 0,.slice none 0 0],blkI w.heap.size (w.heap.size) TDk #[.int .i64 P,.slice q m c2,.slice q2 m2 d2]]from by simpa only[Nat.zero_add,List.nil_append,List.set_cons_zero,List.set_cons_succ]using M3)
    obtain⟨cb0,cb1,cb2⟩:=(MA.out.blk (i:=2) rfl).tri
    have lt3:w.heap.size<w3.heap.size:=(MA.out.lt (i:=2) rfl rfl).2)
  |(refine step_appM elBk (by rfl) _ _ (by rfl) (MAx.out) 1 (by rfl) (by rfl) (R.flatMap visitCells) (by rfl) (HS2.out.ext (MAx.out.ext.trans (by(repeat' (first|exact Ext.refl _|(with_reducible assumption)|(with_reducible refine Ext.alloc ?_ _)|(with_reducible refine Ext.setCell ?_ (by first|exact Nat.le_refl _|(dsimp only;omega)|(simp;done)|(simp;omega)) _)|(with_reducible refine Ext.drew ?_)|(with_reducible refine Ext.drewN ?_ _)|(refine Ext.trans ?_ (by with_reducible assumption))))))) (books_one _) (by omega) ?_
    intro q6 c6 w4 M4
    have MZ:=Lib.hid (show Mem w w4 [ownI w.heap.size TBk 4 (q5) (m) (c5) (T.flatMap visitCells),ownI w.heap.size TBk 4 (q6) (m2) (c6) (R.flatMap visitCells),blkI w.heap.size (w.heap.size+1) TDk #[.int .i64 0,.slice none 0 0,.slice none 0 0],blkI w.heap.size (w.heap.size) TDk #[.int .i64 P,.slice q m c2,.slice q2 m2 d2]]from by simpa only[Nat.zero_add,List.nil_append,List.set_cons_zero,List.set_cons_succ]using M4)
    obtain⟨y0,yf0,y1,yf1,y2,yf2⟩:=(MZ.out.blk (i:=2) rfl).trif;obtain⟨cb0,cb1,cb2⟩:=(MZ.out.blk (i:=3) rfl).tri)
  |(refine step_appM elBk (by rfl) _ _ (by rfl) (MAy.out) 0 (by rfl) (by rfl) (R.flatMap visitCells) (by rfl) (HS2.out.ext (MAy.out.ext.trans (by(repeat' (first|exact Ext.refl _|(with_reducible assumption)|(with_reducible refine Ext.alloc ?_ _)|(with_reducible refine Ext.setCell ?_ (by first|exact Nat.le_refl _|(dsimp only;omega)|(simp;done)|(simp;omega)) _)|(with_reducible refine Ext.drew ?_)|(with_reducible refine Ext.drewN ?_ _)|(refine Ext.trans ?_ (by with_reducible assumption))))))) (books_one _) (by omega) ?_
    intro q6 c6 w4 M4
    have MZ:=Lib.hid (show Mem w w4 [ownI w.heap.size TBk 4 (q5) (m) (c5) (T.flatMap visitCells),ownI w.heap.size TBk 4 (q6) (m2) (c6) (R.flatMap visitCells),blkI w.heap.size (w.heap.size+1) TDk #[.int .i64 0,.slice none 0 0,.slice none 0 0],blkI w.heap.size (w.heap.size) TDk #[.int .i64 P,.slice q m c2,.slice q2 m2 d2]]from by have h:=M4;simp only[Nat.zero_add,List.nil_append,List.set_cons_zero,List.set_cons_succ]at h;exact h.pick [1,0,2,3] (by decide) rfl)
    obtain⟨y0,yf0,y1,yf1,y2,yf2⟩:=(MZ.out.blk (i:=2) rfl).trif;obtain⟨cb0,cb1,cb2⟩:=(MZ.out.blk (i:=3) rfl).tri)
  |(refine step_appM elBk (by rfl) _ _ (by rfl) (by first|exact MA.out.made0 TBk 4 _ rfl|exact(MA.out.made0 TBk 4 _ rfl).adv (Ext.drew (Ext.refl _))) 0 (by rfl) (by rfl) (R.flatMap visitCells) (by rfl) (HS2.out.ext (MA.out.ext.trans (by(repeat' (first|exact Ext.refl _|(with_reducible assumption)|(with_reducible refine Ext.alloc ?_ _)|(with_reducible refine Ext.setCell ?_ (by first|exact Nat.le_refl _|(dsimp only;omega)|(simp;done)|(simp;omega)) _)|(with_reducible refine Ext.drew ?_)|(with_reducible refine Ext.drewN ?_ _)|(refine Ext.trans ?_ (by with_reducible assumption))))))) (books_one _) (by omega) ?_
    intro q6 c6 w4 M4
    have MZ:=Lib.hid (show Mem w w4 [ownI w.heap.size TBk 4 (q5) (m) (c5) (T.flatMap visitCells),ownI w.heap.size TBk 4 (q6) (m2) (c6) (R.flatMap visitCells),blkI w.heap.size (w.heap.size+1) TDk #[.int .i64 0,.slice none 0 0,.slice none 0 0],blkI w.heap.size (w.heap.size) TDk #[.int .i64 P,.slice q m c2,.slice q2 m2 d2]]from by have h:=M4;simp only[Nat.zero_add,List.nil_append,List.set_cons_zero,List.set_cons_succ]at h;exact h.pick [1,0,2,3] (by decide) rfl)
    obtain⟨y0,yf0,y1,yf1,y2,yf2⟩:=(MZ.out.blk (i:=2) rfl).trif;obtain⟨cb0,cb1,cb2⟩:=(MZ.out.blk (i:=3) rfl).tri))
 all_goals (
  have MS:=Lib.hid (MZ.out.put3 (i:=2) rfl (.int .i64 P) (.slice q5 m c5) (.slice q6 m2 c6))
  generalize hwz:World.setCell _ _ _=wz
  rw[hwz]at MS
  clear hwz MZ y0 y1 y2 yf0 yf1 yf2 ca0 ca1 ca2 cb0 cb1 cb2
  obtain⟨y0,y1,y2⟩:=(MS.out.blk (i:=2) rfl).tri
  go_wp2
  exact bodyPost_ret (v:= .agg #[.int .i64 P,.slice q5 m c5,.slice q6 m2 c6]) (by simp[results,Tryd.results55,go_sem, *]) rfl ⟨q5,c5,q6,c6,rfl,show Mem w wz [ownI w.heap.size TBk 4 (q5) (m) (c5) (T.flatMap visitCells),ownI w.heap.size TBk 4 (q6) (m2) (c6) (R.flatMap visitCells)]from(MS.out.pick [0,1] (by decide) rfl)⟩)
end Go.Proofs.YtndcnflchkfaeaaDoor

namespace Go.Proofs.YtndcnflchkfaeaaDoor
open Go.RowKit
set_option linter.unusedVariables false
set_option linter.unusedSimpArgs false
def RetAsk (D:DeskD×Int)(w:World)(e:Ending)(w':World):Prop:=
 ∃qa na ca qb nb cb,e= .returned (.tuple #[.agg #[.int .i64 D.1.places,.slice qa na ca,.slice qb nb cb],.int .i64 D.2])∧na=D.1.taken.length∧nb=D.1.row.length∧Mem w w' [ownI w.heap.size TBk 4 (qa) (na) (ca) (D.1.taken.flatMap visitCells),ownI w.heap.size TBk 4 (qb) (nb) (cb) (D.1.row.flatMap visitCells)]
theorem implAsk (P:Int)(q:Option Addr)(m c2:Nat)(q2:Option Addr)(m2 d2:Nat)(b0 b1 b2 b3:Int)(T R:List Visit4)(w:World)(hS:Sl w q m c2 4 (T.flatMap visitCells))(hS2:Sl w q2 m2 d2 4 (R.flatMap visitCells)):
  Calls Tryd.prog 15 #[.agg #[.int .i64 P,.slice q m c2,.slice q2 m2 d2],bookV b0 b1 b2 b3] w (RetAsk (deskAsk ⟨P,T,R⟩ (b0,b1,b2,b3)) w):=by
 have hl:T.length=m:=by
  have:=hS.len;rw[flat_len visitCells 4 (fun _=>rfl)]at this;omega
 have hl2:R.length=m2:=by
  have:=hS2.len;rw[flat_len visitCells 4 (fun _=>rfl)]at this;omega
 cases hv:deskValid ⟨P,T,R⟩with
 |false=>
  have hf:deskAsk ⟨P,T,R⟩ (b0,b1,b2,b3)=(⟨0,[],[]⟩,0):=by unfold deskAsk;rw[if_neg (by rw[hv];decide)]
  rw[hf]
  refine(implDa_bad P q m c2 q2 m2 d2 b0 b1 b2 b3 T R w (Lib.hid (fun w' hx=>by have h:=implDv P q m c2 q2 m2 d2 T R w' (hS.ext hx) (hS2.ext hx);rw[hv]at h;exact h))).mono ?_
  rintro e w' ⟨rfl,hx⟩
  exact⟨none,0,0,none,0,0,rfl,rfl,rfl,(((Mem.start w).adv hx).call (Ext.refl _) (World.ownsRow_nil _ _ TBk 4)).call (Ext.refl _) (World.ownsRow_nil _ _ TBk 4)⟩
 |true=>
  have hDO:=desk_iff.1 hv
  have hlen:=desk_len hv
  have hlT:T.length≤7:=hlen.1
  have hlR:R.length≤5:=hlen.2
  have HV:Hid (∀w',Ext w w'→Calls Tryd.prog 10 #[.agg #[.int .i64 P,.slice q m c2,.slice q2 m2 d2]] w' fun e w''=>e= .returned (.bool true)∧Ext w' w''):=Lib.hid (fun w' hx=>by have h:=implDv P q m c2 q2 m2 d2 T R w' (hS.ext hx) (hS2.ext hx);rw[hv]at h;exact h)
  have HC:Hid (∀w',Ext w w'→Calls Tryd.prog 53 #[.agg #[.int .i64 P,.slice q m c2,.slice q2 m2 d2]] w' fun e w''=> ∃q5 c5 q6 c6,e= .returned (.agg #[.int .i64 P,.slice q5 m c5,.slice q6 m2 c6])∧Mem w' w'' [ownI w'.heap.size TBk 4 (q5) (m) (c5) (T.flatMap visitCells),ownI w'.heap.size TBk 4 (q6) (m2) (c6) (R.flatMap visitCells)]):=Lib.hid (fun w' hx=>copyDesk_o P q m c2 q2 m2 d2 T R w' (Lib.hid (fun w2 hy=>clone_any q m c2 _ w2 (by omega) (hS.ext (hx.trans hy)) (books_one _))) (Lib.hid (fun w2 hy=>clone_any q2 m2 d2 _ w2 (by omega) (hS2.ext (hx.trans hy)) (books_one _))))
  cases hbv:bookOk (b0,b1,b2,b3)with
  |false=>
   have hf:deskAsk ⟨P,T,R⟩ (b0,b1,b2,b3)=(⟨P,T,R⟩,0):=by unfold deskAsk;rw[if_pos hv,if_pos (Or.inl hbv)]
   rw[hf]
   refine(implDa_inv P q m c2 q2 m2 d2 b0 b1 b2 b3 T R w HV HC (Lib.hid (fun w'=>by have h:=implBv b0 b1 b2 b3 w';rw[hbv]at h;exact h))).mono ?_
   rintro e w' ⟨qa,ca,qb,cb,rfl,hM⟩
   exact⟨qa,m,ca,qb,m2,cb,rfl,hl.symm,hl2.symm,hM⟩
  |true=>
   have HBV:Hid (∀w',Calls Tryd.prog 41 #[bookV b0 b1 b2 b3] w' fun e w''=>e= .returned (.bool true)∧Ext w' w''):=Lib.hid (fun w'=>by have h:=implBv b0 b1 b2 b3 w';rw[hbv]at h;exact h)
   cases ht:noBook b0 T with
   |false=>
    obtain⟨k,hk,hvk,hik⟩:=vix_pos ht
    have hf:deskAsk ⟨P,T,R⟩ (b0,b1,b2,b3)=(⟨P,T,R⟩,0):=by unfold deskAsk;rw[if_pos hv,if_pos (Or.inr (Or.inl ht))]
    rw[hf]
    refine(implDa_t P q m c2 q2 m2 d2 b0 b1 b2 b3 T R w (k:Int) (by omega) HV HC HBV (Lib.hid (fun w' hx=>by have h:=bookIndex_any b0 q m c2 T w' (hS.ext hx);rw[hvk]at h;exact h))).mono ?_
    rintro e w' ⟨qa,ca,qb,cb,rfl,hM⟩
    exact⟨qa,m,ca,qb,m2,cb,rfl,hl.symm,hl2.symm,hM⟩
   |true=>
    have hn1:=vix_neg ht
    have hne: ∀c∈T,(b0,b1,b2,b3).1≠c.1:=noBook_iff.1 ht
    have HF1:Hid (∀w',Ext w w'→Calls Tryd.prog 42 #[.slice q m c2,.int .i64 b0] w' fun e w''=>e= .returned (.int .i64 (-1))∧Ext w' w''):=Lib.hid (fun w' hx=>by have h:=bookIndex_any b0 q m c2 T w' (hS.ext hx);rw[hn1]at h;exact h)
    cases hr:noBook b0 R with
    |false=>
     obtain⟨k,hk,hvk,hik⟩:=vix_pos hr
     have hf:deskAsk ⟨P,T,R⟩ (b0,b1,b2,b3)=(⟨P,T,R⟩,0):=by unfold deskAsk;rw[if_pos hv,if_pos (Or.inr (Or.inr hr))]
     rw[hf]
     refine(implDa_r P q m c2 q2 m2 d2 b0 b1 b2 b3 T R w (k:Int) (by omega) HV HC HBV HF1 (Lib.hid (fun w' hx=>by have h:=bookIndex_any b0 q2 m2 d2 R w' (hS2.ext hx);rw[hvk]at h;exact h))).mono ?_
     rintro e w' ⟨qa,ca,qb,cb,rfl,hM⟩
     exact⟨qa,m,ca,qb,m2,cb,rfl,hl.symm,hl2.symm,hM⟩
    |true=>
     have hn2:=vix_neg hr
     have HF2:Hid (∀w',Ext w w'→Calls Tryd.prog 42 #[.slice q2 m2 d2,.int .i64 b0] w' fun e w''=>e= .returned (.int .i64 (-1))∧Ext w' w''):=Lib.hid (fun w' hx=>by have h:=bookIndex_any b0 q2 m2 d2 R w' (hS2.ext hx);rw[hn2]at h;exact h)
     have hno: ¬(bookOk (b0,b1,b2,b3)=false∨noBook (b0,b1,b2,b3).1 T=false∨noBook (b0,b1,b2,b3).1 R=false):=by
      show¬(bookOk (b0,b1,b2,b3)=false∨noBook b0 T=false∨noBook b0 R=false)
      rw[hbv,ht,hr];decide
     cases hft:deskFits P T (b0,b1,b2,b3)with
     |true=>
      have hf:deskAsk ⟨P,T,R⟩ (b0,b1,b2,b3)=(⟨P,putBook T (b0,b1,b2,b3),R⟩,1):=by unfold deskAsk;rw[if_pos hv,if_neg hno,if_pos hft]
      rw[hf]
      refine(implDa_take P q m c2 q2 m2 d2 b0 b1 b2 b3 T R w ((putBook T (b0,b1,b2,b3)).flatMap visitCells) HV HC HBV HF1 HF2 (Lib.hid (fun w' hx=>by have h:=canTake_any P q m c2 q2 m2 d2 T b0 b1 b2 b3 w' (by omega) (hS.ext hx) (Lib.hid hDO.up) (Lib.hid hne);rw[hft]at h;exact h)) (Lib.hid (fun w' hx=>by have h:=withBook_any q m c2 T b0 b1 b2 b3 w' (by omega) (hS.ext hx) (Lib.hid hDO.up) (Lib.hid hne);unfold RetBooks at h;rw[show(putBook T (b0,b1,b2,b3)).length=m+1 by rw[putBook_len,hl]]at h;exact h))).mono ?_
      rintro e w' ⟨qa,ca,qb,cb,rfl,hM⟩
      exact⟨qa,m+1,ca,qb,m2,cb,rfl,by show _=(putBook T (b0,b1,b2,b3)).length;rw[putBook_len,hl],hl2.symm,hM⟩
     |false=>
      by_cases h5:R.length=5
      ·have hf:deskAsk ⟨P,T,R⟩ (b0,b1,b2,b3)=(⟨P,T,R⟩,0):=by unfold deskAsk;rw[if_pos hv,if_neg hno,if_neg (by rw[hft];decide),if_pos h5]
       rw[hf]
       obtain rfl:m2=5:=by omega
       refine(implDa_full P q m c2 q2 d2 b0 b1 b2 b3 T R w HV HC HBV HF1 HF2 (Lib.hid (fun w' hx=>by have h:=canTake_any P q m c2 q2 5 d2 T b0 b1 b2 b3 w' (by omega) (hS.ext hx) (Lib.hid hDO.up) (Lib.hid hne);rw[hft]at h;exact h))).mono ?_
       rintro e w' ⟨qa,ca,qb,cb,rfl,hM⟩
       exact⟨qa,m,ca,qb,5,cb,rfl,hl.symm,hl2.symm,hM⟩
      ·have hf:deskAsk ⟨P,T,R⟩ (b0,b1,b2,b3)=(⟨P,T,R++ [(b0,b1,b2,b3)]⟩,2):=by unfold deskAsk;rw[if_pos hv,if_neg hno,if_neg (by rw[hft];decide),if_neg h5]
       rw[hf]
       refine(implDa_wait P q m c2 q2 m2 d2 b0 b1 b2 b3 T R w (by omega) HV HC HBV HF1 HF2 (Lib.hid (fun w' hx=>by have h:=canTake_any P q m c2 q2 m2 d2 T b0 b1 b2 b3 w' (by omega) (hS.ext hx) (Lib.hid hDO.up) (Lib.hid hne);rw[hft]at h;exact h))).mono ?_
       rintro e w' ⟨qa,ca,qb,cb,rfl,hM⟩
       exact⟨qa,m,ca,qb,m2+1,cb,rfl,hl.symm,by show _=(R++ [(b0,b1,b2,b3)]).length;rw[List.length_append,hl2];rfl,by rw[List.flatMap_append];simpa using hM⟩
theorem specAsk (P:Int)(q:Option Addr)(m c2:Nat)(q2:Option Addr)(m2 d2:Nat)(b0 b1 b2 b3:Int)(T R:List Visit4)(w:World)(hS:Sl w q m c2 4 (T.flatMap visitCells))(hS2:Sl w q2 m2 d2 4 (R.flatMap visitCells)):
  Calls Tryd.prog 16 #[.agg #[.int .i64 P,.slice q m c2,.slice q2 m2 d2],bookV b0 b1 b2 b3] w (RetAsk (deskAsk ⟨P,T,R⟩ (b0,b1,b2,b3)) w):=by
 have hl:T.length=m:=by
  have:=hS.len;rw[flat_len visitCells 4 (fun _=>rfl)]at this;omega
 have hl2:R.length=m2:=by
  have:=hS2.len;rw[flat_len visitCells 4 (fun _=>rfl)]at this;omega
 cases hv:deskValid ⟨P,T,R⟩with
 |false=>
  have hf:deskAsk ⟨P,T,R⟩ (b0,b1,b2,b3)=(⟨0,[],[]⟩,0):=by unfold deskAsk;rw[if_neg (by rw[hv];decide)]
  rw[hf]
  refine(specDa_bad P q m c2 q2 m2 d2 b0 b1 b2 b3 T R w (Lib.hid (fun w' hx=>by have h:=specDv P q m c2 q2 m2 d2 T R w' (hS.ext hx) (hS2.ext hx);rw[hv]at h;exact h))).mono ?_
  rintro e w' ⟨rfl,hx⟩
  exact⟨none,0,0,none,0,0,rfl,rfl,rfl,(((Mem.start w).adv hx).call (Ext.refl _) (World.ownsRow_nil _ _ TBk 4)).call (Ext.refl _) (World.ownsRow_nil _ _ TBk 4)⟩
 |true=>
  have hDO:=desk_iff.1 hv
  have hlen:=desk_len hv
  have hlT:T.length≤7:=hlen.1
  have hlR:R.length≤5:=hlen.2
  have HV:Hid (∀w',Ext w w'→Calls Tryd.prog 11 #[.agg #[.int .i64 P,.slice q m c2,.slice q2 m2 d2]] w' fun e w''=>e= .returned (.bool true)∧Ext w' w''):=Lib.hid (fun w' hx=>by have h:=specDv P q m c2 q2 m2 d2 T R w' (hS.ext hx) (hS2.ext hx);rw[hv]at h;exact h)
  have HC:Hid (∀w',Ext w w'→Calls Tryd.prog 55 #[.agg #[.int .i64 P,.slice q m c2,.slice q2 m2 d2]] w' fun e w''=> ∃q5 c5 q6 c6,e= .returned (.agg #[.int .i64 P,.slice q5 m c5,.slice q6 m2 c6])∧Mem w' w'' [ownI w'.heap.size TBk 4 (q5) (m) (c5) (T.flatMap visitCells),ownI w'.heap.size TBk 4 (q6) (m2) (c6) (R.flatMap visitCells)]):=Lib.hid (fun w' hx=>l6Copy_o P q m c2 q2 m2 d2 T R w' (by omega) (by omega) (Lib.hid (hS.ext hx)) (Lib.hid (hS2.ext hx)))
  cases hbv:bookOk (b0,b1,b2,b3)with
  |false=>
   have hf:deskAsk ⟨P,T,R⟩ (b0,b1,b2,b3)=(⟨P,T,R⟩,0):=by unfold deskAsk;rw[if_pos hv,if_pos (Or.inl hbv)]
   rw[hf]
   refine(specDa_inv P q m c2 q2 m2 d2 b0 b1 b2 b3 T R w HV HC (Lib.hid (fun w'=>by have h:=specBv b0 b1 b2 b3 w';rw[hbv]at h;exact h))).mono ?_
   rintro e w' ⟨qa,ca,qb,cb,rfl,hM⟩
   exact⟨qa,m,ca,qb,m2,cb,rfl,hl.symm,hl2.symm,hM⟩
  |true=>
   have HBV:Hid (∀w',Calls Tryd.prog 46 #[bookV b0 b1 b2 b3] w' fun e w''=>e= .returned (.bool true)∧Ext w' w''):=Lib.hid (fun w'=>by have h:=specBv b0 b1 b2 b3 w';rw[hbv]at h;exact h)
   cases ht:noBook b0 T with
   |false=>
    obtain⟨k,hk,hvk,hik⟩:=vix_pos ht
    have hf:deskAsk ⟨P,T,R⟩ (b0,b1,b2,b3)=(⟨P,T,R⟩,0):=by unfold deskAsk;rw[if_pos hv,if_pos (Or.inr (Or.inl ht))]
    rw[hf]
    refine(specDa_t P q m c2 q2 m2 d2 b0 b1 b2 b3 T R w (k:Int) (by omega) HV HC HBV (Lib.hid (fun w' hx=>by have h:=l6Find_any b0 q m c2 T w' (hS.ext hx);rw[hvk]at h;exact h))).mono ?_
    rintro e w' ⟨qa,ca,qb,cb,rfl,hM⟩
    exact⟨qa,m,ca,qb,m2,cb,rfl,hl.symm,hl2.symm,hM⟩
   |true=>
    have hn1:=vix_neg ht
    have hne: ∀c∈T,(b0,b1,b2,b3).1≠c.1:=noBook_iff.1 ht
    have HF1:Hid (∀w',Ext w w'→Calls Tryd.prog 47 #[.slice q m c2,.int .i64 b0] w' fun e w''=>e= .returned (.int .i64 (-1))∧Ext w' w''):=Lib.hid (fun w' hx=>by have h:=l6Find_any b0 q m c2 T w' (hS.ext hx);rw[hn1]at h;exact h)
    cases hr:noBook b0 R with
    |false=>
     obtain⟨k,hk,hvk,hik⟩:=vix_pos hr
     have hf:deskAsk ⟨P,T,R⟩ (b0,b1,b2,b3)=(⟨P,T,R⟩,0):=by unfold deskAsk;rw[if_pos hv,if_pos (Or.inr (Or.inr hr))]
     rw[hf]
     refine(specDa_r P q m c2 q2 m2 d2 b0 b1 b2 b3 T R w (k:Int) (by omega) HV HC HBV HF1 (Lib.hid (fun w' hx=>by have h:=l6Find_any b0 q2 m2 d2 R w' (hS2.ext hx);rw[hvk]at h;exact h))).mono ?_
     rintro e w' ⟨qa,ca,qb,cb,rfl,hM⟩
     exact⟨qa,m,ca,qb,m2,cb,rfl,hl.symm,hl2.symm,hM⟩
    |true=>
     have hn2:=vix_neg hr
     have HF2:Hid (∀w',Ext w w'→Calls Tryd.prog 47 #[.slice q2 m2 d2,.int .i64 b0] w' fun e w''=>e= .returned (.int .i64 (-1))∧Ext w' w''):=Lib.hid (fun w' hx=>by have h:=l6Find_any b0 q2 m2 d2 R w' (hS2.ext hx);rw[hn2]at h;exact h)
     have hno: ¬(bookOk (b0,b1,b2,b3)=false∨noBook (b0,b1,b2,b3).1 T=false∨noBook (b0,b1,b2,b3).1 R=false):=by
      show¬(bookOk (b0,b1,b2,b3)=false∨noBook b0 T=false∨noBook b0 R=false)
      rw[hbv,ht,hr];decide
     cases hft:deskFits P T (b0,b1,b2,b3)with
     |true=>
      have hf:deskAsk ⟨P,T,R⟩ (b0,b1,b2,b3)=(⟨P,putBook T (b0,b1,b2,b3),R⟩,1):=by unfold deskAsk;rw[if_pos hv,if_neg hno,if_pos hft]
      rw[hf]
      refine(specDa_take P q m c2 q2 m2 d2 b0 b1 b2 b3 T R w ((putBook T (b0,b1,b2,b3)).flatMap visitCells) HV HC HBV HF1 HF2 (Lib.hid (fun w' hx=>by have h:=l6Fits_any P q m c2 q2 m2 d2 T b0 b1 b2 b3 w' (by omega) (hS.ext hx);rw[hft]at h;exact h)) (Lib.hid (fun w' hx=>l6Put_any b0 b1 b2 b3 q m c2 T w' (by omega) (hS.ext hx)))).mono ?_
      rintro e w' ⟨qa,ca,qb,cb,rfl,hM⟩
      exact⟨qa,m+1,ca,qb,m2,cb,rfl,by show _=(putBook T (b0,b1,b2,b3)).length;rw[putBook_len,hl],hl2.symm,hM⟩
     |false=>
      by_cases h5:R.length=5
      ·have hf:deskAsk ⟨P,T,R⟩ (b0,b1,b2,b3)=(⟨P,T,R⟩,0):=by unfold deskAsk;rw[if_pos hv,if_neg hno,if_neg (by rw[hft];decide),if_pos h5]
       rw[hf]
       obtain rfl:m2=5:=by omega
       refine(specDa_full P q m c2 q2 d2 b0 b1 b2 b3 T R w HV HC HBV HF1 HF2 (Lib.hid (fun w' hx=>by have h:=l6Fits_any P q m c2 q2 5 d2 T b0 b1 b2 b3 w' (by omega) (hS.ext hx);rw[hft]at h;exact h))).mono ?_
       rintro e w' ⟨qa,ca,qb,cb,rfl,hM⟩
       exact⟨qa,m,ca,qb,5,cb,rfl,hl.symm,hl2.symm,hM⟩
      ·have hf:deskAsk ⟨P,T,R⟩ (b0,b1,b2,b3)=(⟨P,T,R++ [(b0,b1,b2,b3)]⟩,2):=by unfold deskAsk;rw[if_pos hv,if_neg hno,if_neg (by rw[hft];decide),if_neg h5]
       rw[hf]
       refine(specDa_wait P q m c2 q2 m2 d2 b0 b1 b2 b3 T R w (by omega) HV HC HBV HF1 HF2 (Lib.hid (fun w' hx=>by have h:=l6Fits_any P q m c2 q2 m2 d2 T b0 b1 b2 b3 w' (by omega) (hS.ext hx);rw[hft]at h;exact h))).mono ?_
       rintro e w' ⟨qa,ca,qb,cb,rfl,hM⟩
       exact⟨qa,m,ca,qb,m2+1,cb,rfl,hl.symm,by show _=(R++ [(b0,b1,b2,b3)]).length;rw[List.length_append,hl2];rfl,by rw[List.flatMap_append];simpa using hM⟩
end Go.Proofs.YtndcnflchkfaeaaDoor

namespace Go.Proofs.YtndcnflchkfaeaaDoor
open Go.RowKit
set_option linter.unusedVariables false
set_option linter.unusedSimpArgs false
theorem take_set_lt {α:Type}: ∀(xs:List α) (k:Nat) (v:α),k<xs.length→(xs.set k v).take (k+1)=xs.take k++ [v]
 | [],_,_,h=>by simp at h
 |x::xs,0,v,_=>by simp
 |x::xs,k+1,v,h=>by simp only[List.set_cons_succ,List.take_succ_cons,take_set_lt xs k v (by simpa using h)];rfl
theorem drop_set_gt {α:Type}: ∀(xs:List α) (k j:Nat) (v:α),k<j→(xs.set k v).drop j=xs.drop j
 | [],_,_,_,_=>by simp
 |x::xs,0,j+1,v,_=>by simp
 |x::xs,k+1,j+1,v,h=>by simp only[List.set_cons_succ,List.drop_succ_cons];exact drop_set_gt xs k j v (by omega)
theorem own_setCells {B n c sz g:Nat}{e:TypeId}: ∀(vs:List Value) (k:Nat) (xs:List Value) (w:World),w.ownsRow B e sz (.slice (some ⟨g,0,none⟩) n c) n xs→k+vs.length≤xs.length→
  (w.setCells g k vs).ownsRow B e sz (.slice (some ⟨g,0,none⟩) n c) n (xs.take k++vs++xs.drop (k+vs.length))∧w.grownBy (w.setCells g k vs) (some g)
 | [],k,xs,w,h,_=>by
   refine⟨?_,World.grownBy.refl _ _⟩
   simpa[World.setCells]using h
 |v::vs,k,xs,w,h,hl=>by
  simp only[List.length_cons]at hl
  obtain⟨h1,h2⟩:=own_setCells vs (k+1) (xs.set k v) _ (h.stored k v).1 (by simp;omega)
  rw[take_set_lt xs k v (by omega),drop_set_gt xs k _ v (by omega)]at h1
  refine⟨?_,(gset (World.grownBy.refl _ _) k v).trans h2⟩
  rw[List.length_cons,show k+(vs.length+1)=k+1+vs.length by omega]
  simpa[World.setCells]using h1
theorem own_cut {w:World}{B n c sz k:Nat}{e:TypeId}{q:Option Addr}{xs:List Value}(h:w.ownsRow B e sz (.slice q n c) n xs)(hk:k≤n)(h0:0<n):w.ownsRow B e sz (.slice q k c) k (xs.take (k*sz)):=by
 have hm:=Nat.mul_le_mul_right sz hk
 refine⟨by rw[List.length_take,h.1];omega,?_⟩
 rcases h.2 with⟨_,h3⟩|⟨g,cap',cur,e1,hb,hg,hn,hmx,hs,ht⟩
 ·omega
 ·injection e1 with e1 e2 e3
  subst e1 e3
  refine .inr ⟨g,c,cur,rfl,hb,hg,by omega,hmx,hs,?_⟩
  rw[←ht,List.take_take,Nat.min_eq_left hm]
theorem zero_book (w:World):(zeroValue TBk).run Tryd.prog w= .ok (.agg #[.int .i64 0,.int .i64 0,.int .i64 0,.int .i64 0]) w:=by
 simp[Tryd.zeroValue30]
theorem clear_book (w:World)(ty:TypeId)(b o c:Nat)(hc: ∀j,j<4→(w.cell? ⟨b,o+j,none⟩).isSome=true)(hf: ∀j,j<4→w.frozen? ⟨b,o+j,none⟩=false):
  (Builtin.clear_ #[23] ty #[.slice (some ⟨b,o,none⟩) 1 c]).run Tryd.prog w= .ok (.tuple #[]) (w.setCells b o [.int .i64 0,.int .i64 0,.int .i64 0,.int .i64 0]):=by
 have hzc:(Builtin.zeroCells (Value.agg #[.int .i64 0,.int .i64 0,.int .i64 0,.int .i64 0]).cells 1).toList= [.int .i64 0,.int .i64 0,.int .i64 0,.int .i64 0]:=by kernel_rfl
 have hst:=run_storeCells_cells (P:=Tryd.prog) b o [.int .i64 0,.int .i64 0,.int .i64 0,.int .i64 0] 0 w (by simpa using hc) (by simpa using hf) (by intro v hv;simp at hv;subst hv;rfl)
 simp only[Nat.add_zero]at hst
 simp[Builtin.clear_,run_underlying Tryd.underlying23,zero_book,hzc,hst]
theorem erase_cells (bs:List Visit4)(i n:Nat)(hn:bs.length=n)(hi:i<n):
  ((bs.flatMap visitCells).take (i*4)++(bs.drop (i+1)).flatMap visitCells++(bs.flatMap visitCells).drop (i*4+((bs.drop (i+1)).flatMap visitCells).length)).take ((n-1)*4)=(bs.eraseIdx i).flatMap visitCells:=by
 have h1:((bs.take i).flatMap visitCells).length=i*4:=by rw[flat_len visitCells 4 (fun _=>rfl),List.length_take];congr 1;omega
 have h2:((bs.drop (i+1)).flatMap visitCells).length=(n-1-i)*4:=by rw[flat_len visitCells 4 (fun _=>rfl),List.length_drop];congr 1;omega
 rw[take_books,List.take_append_of_le_length (by rw[List.length_append,h1,h2,←Nat.add_mul];exact Nat.mul_le_mul_right 4 (by omega)),List.take_of_length_le (by rw[List.length_append,h1,h2,←Nat.add_mul];exact Nat.mul_le_mul_right 4 (by omega)),←List.flatMap_append,List.eraseIdx_eq_take_drop_succ]
set_option maxRecDepth 100000 in
set_option maxHeartbeats 8000000 in
theorem del_any (g n c B i j:Nat)(bs:List Visit4)(w:World)(hn:n≤1000)(hi:i<n)(hj:Hid (j=i+1))(hO:w.ownsRow B TBk 4 (.slice (some ⟨g,0,none⟩) n c) n (bs.flatMap visitCells)):
  Calls Tryd.prog 57 #[.slice (some ⟨g,0,none⟩) n c,.int .i64 (i:Int),.int .i64 (j:Int)] w fun e w'=>e= .returned (.slice (some ⟨g,0,none⟩) (n-1) c)∧w'.ownsRow B TBk 4 (.slice (some ⟨g,0,none⟩) (n-1) c) (n-1) ((bs.eraseIdx i).flatMap visitCells)∧w.grownBy w' (some g):=by
 obtain⟨i0,hi0,hz0,hz1,hz2⟩:=info_parts (show(Tryd.prog.info? TBk).map (fun i=>(i.zero,i.size,i.bytes))=some (some (.agg #[.int .i64 0,.int .i64 0,.int .i64 0,.int .i64 0]),4,32) by kernel_rfl)
 have hO':w.drew.ownsRow B TBk 4 (.slice (some ⟨g,0,none⟩) n c) n (bs.flatMap visitCells):=own_ext hO (Ext.drew (Ext.refl _))
 have hl0:bs.length=n:=by have:=hO.1;rw[flat_len visitCells 4 (fun _=>rfl)]at this;omega
 have hcap:n≤c:=by
  rcases hO.2 with⟨_,h3⟩|⟨g',cap',cur,e1,hb,hg,hn',_⟩
  ·omega
  ·injection e1 with e1 e2 e3;omega
 have hmx:c≤9223372036854775807:=by
  have:=(Sl.own hO).mx;unfold maxLen at this;omega
 have hj1:j=i+1:=hj.out
 obtain⟨news,hnews⟩: ∃news,news=(bs.drop (i+1)).flatMap visitCells:=⟨_,rfl⟩
 have hnl:news.length=(n-j)*4:=by rw[hnews,flat_len visitCells 4 (fun _=>rfl),List.length_drop,hl0,hj1]
 obtain⟨A,hA,hsrc⟩: ∃A:Addr,(if c=j then some (⟨g,0,none⟩:Addr)else some ⟨g,j*4,none⟩)=some A∧Hid (∀t u,news[t]? =some u→w.drew.cell? (A.add t)=some u):=by
  by_cases h:c=j
  ·refine⟨⟨g,0,none⟩,by simp[h],fun t u hu=> ?_⟩
   rw[List.eq_nil_of_length_eq_zero (by rw[hnl];omega:news.length=0)]at hu
   simp at hu
  ·refine⟨⟨g,j*4,none⟩,by simp[h],fun t u hu=> ?_⟩
   have ht:t<(n-j)*4:=by have:=(List.getElem?_eq_some_iff.1 hu).1;rwa[hnl]at this
   rw[Addr.add_lit,hO'.cellAt _ (by omega)]
   rw[hnews,←drop_books,List.getElem?_drop]at hu
   rw[hj1];exact hu
 have s1:Hid (news.length=(n-j)*4):=hnl
 have s2:Hid (∀u∈news,u.oneCell'=true):=by show∀u∈news,_;rw[hnews];exact books_one _
 have hxl:(bs.flatMap visitCells).length=n*4:=by rw[flat_len visitCells 4 (fun _=>rfl),hl0]
 have s3:Hid (∀t,t<news.length→(w.drew.cell? ⟨g,0+i*4+t,none⟩).isSome=true∧w.drew.frozen? ⟨g,0+i*4+t,none⟩=false):=by
  intro t ht
  rw[hnl]at ht
  refine⟨?_,hO'.frozenAt _⟩
  rw[hO'.cellAt _ (by omega),List.getElem?_eq_getElem (by rw[hxl];omega)];rfl
 obtain⟨W1,hW1⟩: ∃W1,W1=w.drew.setCells g (0+i*4) news:=⟨_,rfl⟩
 obtain⟨h1,g1⟩:=own_setCells news (i*4) _ _ hO' (by rw[hnl,hxl];omega)
 have hW:Hid (W1=w.drew.setCells g (0+i*4) news):=hW1
 rw[Nat.zero_add]at hW1
 rw[←hW1]at h1 g1
 obtain⟨ys,hys⟩: ∃ys,ys=(bs.flatMap visitCells).take (i*4)++news++(bs.flatMap visitCells).drop (i*4+news.length):=⟨_,rfl⟩
 rw[←hys]at h1
 have hcl:=fun ty=>clear_book W1 ty g ((n-1)*4) (c-(n-1)) (fun t ht=>by rw[h1.cellAt _ (by omega),List.getElem?_eq_getElem (by rw[h1.1];omega)];rfl) (fun t _=>h1.frozenAt _)
 obtain⟨h2,g2⟩:=own_setCells [.int .i64 0,.int .i64 0,.int .i64 0,.int .i64 0] ((n-1)*4) _ _ h1 (by rw[h1.1];simp;omega)
 have hfin:Hid ((W1.setCells g ((n-1)*4) [.int .i64 0,.int .i64 0,.int .i64 0,.int .i64 0]).ownsRow B TBk 4 (.slice (some ⟨g,0,none⟩) (n-1) c) (n-1) ((bs.eraseIdx i).flatMap visitCells)):=by
  have h3:=own_cut h2 (k:=n-1) (by omega) (by omega)
  rw[List.append_assoc,List.take_append_of_le_length (by rw[List.length_take,h1.1];omega),List.take_take,Nat.min_self,hys,hnews,erase_cells bs i n hl0 hi]at h3
  exact h3
 have hgr:Hid (w.grownBy (W1.setCells g ((n-1)*4) [.int .i64 0,.int .i64 0,.int .i64 0,.int .i64 0]) (some g)):=by
  exact(show w.grownBy w.drew (some g)from⟨rfl,rfl,rfl,Nat.le_refl _,fun _ _ _=>rfl⟩).trans (g1.trans g2)
 have hij:i≤j:=by omega
 have hjn:j≤n:=by omega
 have hic:i≤c:=by omega
 have hjc:j≤c:=by omega
 have hne: ¬i=j:=by omega
 have hnn:i+(n-j)=n-1:=by omega
 have hz23:n-(n-1)=1:=by omega
 have hn1:n-1≤n:=by omega
 have hn2:n-1≤c:=by omega
 have hcn: ¬c=n-1:=by omega
 have HNN:=Lib.hid hnn
 clear hW1 h1 g1 h2 g2 hys hnews hnl hO hO' hl0 hxl hj1 hj hnn
 go_enter Tryd.func57,Tryd.ntmps57
 go_wp2_with fail
 go_region_law (refine step_append_room rfl (.tmp 22) (.tmp 25) 23 rfl TBk i0 4 Tryd.underlying23 hi0 hz1 g 0 i c (by simp[Act.eval,Act.put]) A (n-j) (c-j) news (by simp[Act.eval,Act.put]) s1.out hsrc.out s2.out (by omega) s3.out ?_;rw[←hW.out,HNN.out])
 go_wp2
 go_ret
 exact⟨rfl,hfin.out,hgr.out⟩
end Go.Proofs.YtndcnflchkfaeaaDoor

