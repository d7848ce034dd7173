/-
  Texts of this proof, packed (@packed).
-/
import Derived.Test.YtndcnflchkfaeaaDoorK21
import Derived.Test.YtndcnflchkfaeaaDoorK24
import Derived.Test.YtndcnflchkfaeaaDoorK25
namespace Go.Proofs.YtndcnflchkfaeaaDoor
open Go.RowKit
set_option linter.unusedVariables false
set_option linter.unusedSimpArgs false
theorem MemR.call2 {R:Nat}{w0 w w1 w':World}{L:List Item}{e:TypeId}{sz n c n2 c2:Nat}{q q2:Option Addr}{xs ys:List Value}(h:MemR R w0 w L)(hx:ExtR R w w1)(hc:Mem w1 w' [ownI w1.heap.size e sz q n c xs,ownI w1.heap.size e sz q2 n2 c2 ys]):
  MemR R w0 w' (ownI w0.heap.size e sz q n c xs::ownI w0.heap.size e sz q2 n2 c2 ys::L):=by
 have h:=h.pickd hx
 have hsz:=h.ext.sz
 have ho1:=Mem.own (i:=0) hc rfl
 have ho2:=Mem.own (i:=1) hc rfl
 have h2:=h.ownNew hc.ext ho2 (Nat.le_refl _)
 have hap:=List.pairwise_cons.1 hc.apart
 refine h2.cons (ownI_good _ _ _ _ _ _ _) (own_low ho1 hsz) ?_
 intro g hg j hj hjg
 rcases List.mem_cons.1 hj with rfl|hj
 ·exact hap.1 (ownI w1.heap.size e sz q2 n2 c2 ys) (by simp) g hg hjg
 ·have h3:=(h.good j hj).lt w1 (h.ok j hj) g hjg
  have h4:=ho1.lt g hg
  omega
theorem MemR.two {R:Nat}{w0 w w':World}{L:List Item}{e:TypeId}{sz n c n2 c2:Nat}{q q2:Option Addr}{xs ys:List Value}(h:MemR R w0 w L)(hc:MemR R w w' [ownI w.heap.size e sz q n c xs,ownI w.heap.size e sz q2 n2 c2 ys]):
  MemR R w0 w' (ownI w0.heap.size e sz q n c xs::ownI w0.heap.size e sz q2 n2 c2 ys::L):=by
 have hsz:=h.ext.sz
 have ho1:=hc.own (i:=0) rfl
 have ho2:=hc.own (i:=1) rfl
 have h2:=h.callR hc.ext ho2
 have hap:=List.pairwise_cons.1 hc.apart
 refine h2.cons (ownI_good _ _ _ _ _ _ _) (own_low ho1 hsz) ?_
 intro g hg j hj hjg
 rcases List.mem_cons.1 hj with rfl|hj
 ·exact hap.1 (ownI w.heap.size e sz q2 n2 c2 ys) (by simp) g hg hjg
 ·have h3:=(h.good j hj).lt w (h.ok j hj) g hjg
  have h4:=ho1.lt g hg
  omega
theorem run_small (d:DeskD)(bs:List Visit4):(deskRun d bs).taken.length≤7∧(deskRun d bs).row.length≤5:=by
 cases hv:deskValid d with
 |false=>
  have:deskRun d bs=⟨0,[],[]⟩:=by unfold deskRun;rw[if_neg (by rw[hv];decide)]
  rw[this];simp
 |true=>exact desk_len (deskRun_ok hv)
def RandDesk (R k:Nat)(w:World)(e:Ending)(w':World):Prop:=
 ∃(P:Int) (T W:List Visit4) (q:Option Addr) (n c:Nat) (q2:Option Addr) (n2 c2:Nat),e= .returned (.agg #[.int .i64 P,.slice q n c,.slice q2 n2 c2])∧T.length=n∧W.length=n2∧n≤10∧n2≤10∧
  w'.ownsRow w.heap.size TBk 4 (.slice q n c) n (T.flatMap visitCells)∧w'.ownsRow w.heap.size TBk 4 (.slice q2 n2 c2) n2 (W.flatMap visitCells)∧Rand w' R (k+4000)∧ExtR R w w'
set_option maxRecDepth 100000 in
set_option maxHeartbeats 40000000 in
theorem l20Desk_any (R k:Nat)(n0:Int)(w:World)(hr0:Rand w R k)(hk:k≤1099511400000)(hn0:0≤n0)(hn1:n0≤1000000):
  Calls Tryd.prog 38 #[.pointer (some ⟨R,0,none⟩),.int .i64 n0] w (RandDesk R k w):=by
 have hR:=hr0.lt
 go_enter Tryd.func38,Tryd.ntmps38
 go_wp2_with fail
 refine(pick_any R k 3 _ (hr0.ext (by(repeat' (first|exact Ext.refl _|(with_reducible assumption)|(with_reducible refine Ext.alloc ?_ _)|(with_reducible refine Ext.setCell ?_ (by first|exact Nat.le_refl _|(dsimp only;omega)|(simp;done)|(simp;omega)) _)|(with_reducible refine Ext.drew ?_)|(with_reducible refine Ext.drewN ?_ _)|(refine Ext.trans ?_ (by with_reducible assumption)))))) (by omega)).mono ?_
 rintro e w1 ⟨x,rfl,xa,xb,r1,x1⟩
 have M1:=Lib.hid ((((MemR.start R w hR).blkNew TDk #[.int .i64 0,.slice none 0 0,.slice none 0 0] (w.heap.size) (by simp))).pickd x1)
 clear x1
 have lt1_0:w.heap.size<w1.heap.size:=(M1.out.lt (i:=0) rfl rfl).2
 have i1:IntKind.i64.wrap (1+x)=1+x:=IntWalk.i64_in _ (by omega)
 go_wp2_with fail
 refine(pick_any R (k+1) 14 _ (by(repeat' (first|(with_reducible assumption)|(with_reducible refine Rand.alloc ?_ _)|(with_reducible refine Rand.setCell ?_ (by first|exact Nat.le_refl _|(dsimp only;omega)|(simp;done)|(simp;omega)) _)|(with_reducible refine Rand.drew ?_)|(with_reducible refine Rand.drewN ?_ _)|(refine Rand.ext ?_ (by with_reducible assumption))))) (by omega)).mono ?_
 rintro e w2 ⟨y,rfl,ya,yb,r2,x2⟩
 obtain⟨j0,rfl⟩:=Int.eq_ofNat_of_zero_le ya
 have hj0:j0≤13:=by omega
 clear ya yb r1 i1
 have M2:=Lib.hid ((((M1.out).blkNew TDk #[.int .i64 (1+x),.slice none 0 0,.slice none 0 0] (w1.heap.size) (by simp))).pickd x2)
 clear x2 M1
 clear lt1_0
 have lt2_0:w1.heap.size<w2.heap.size:=(M2.out.lt (i:=0) rfl rfl).2
 have lt2_1:w.heap.size<w2.heap.size:=(M2.out.lt (i:=1) rfl rfl).2
 have hBR:R<w1.heap.size:=Nat.lt_of_lt_of_le hR (M2.out.lt (i:=0) rfl rfl).1
 obtain⟨B,hB⟩: ∃a,a=w1.heap.size:=⟨_,rfl⟩
 rw[←hB]at M2 hBR lt2_0⊢
 clear hB
 have MS:=Lib.hid (show MemR R w w2 [ownI w.heap.size TBk 4 (none) (0) (0) (([]:List Visit4).flatMap visitCells),ownI w.heap.size TBk 4 (none) (0) (0) (([]:List Visit4).flatMap visitCells),blkI w.heap.size (B) TDk #[.int .i64 (1+x),.slice none 0 0,.slice none 0 0],blkI w.heap.size (w.heap.size) TDk #[.int .i64 0,.slice none 0 0,.slice none 0 0]]from((M2.out).call (Ext.refl _) (World.ownsRow_nil _ _ TBk 4)).call (Ext.refl _) (World.ownsRow_nil _ _ TBk 4))
 clear M2 lt2_0 lt2_1
 go_wp2
 go_loopw [6] (fun i wr=> ∃(P:Int) (T W:List Visit4) (q:Option Addr) (n c:Nat) (q2:Option Addr) (n2 c2 j:Nat),i= .int .i64 (j:Int)∧j≤13∧T.length=n∧W.length=n2∧n≤7∧n2≤5∧MemR R w wr [ownI w.heap.size TBk 4 (q) (n) (c) (T.flatMap visitCells),ownI w.heap.size TBk 4 (q2) (n2) (c2) (W.flatMap visitCells),blkI w.heap.size (B) TDk #[.int .i64 P,.slice q n c,.slice q2 n2 c2],blkI w.heap.size (w.heap.size) TDk #[.int .i64 0,.slice none 0 0,.slice none 0 0]]∧Rand wr R (k+2+260*(13-j))) (fun i _=>(intOf i).toNat)
 case atStart=>exact⟨1+x,[],[],none,0,0,none,0,0,j0,rfl,hj0,rfl,rfl,by omega,by omega,MS.out,r2.mono (by omega)⟩
 case round=>
  clear MS r2 hr0 hj0 xa xb
  obtain⟨P,T,W,q,n,c,q2,n2,c2,j,rfl,hj,hlT,hlW,hn7,hn5,hM,rr⟩:=hrel
  have M1:=Lib.hid hM
  have hl:=Lib.hid hlT
  have hl2:=Lib.hid hlW
  clear hM hlT hlW
  have hRw:R<wr.heap.size:=rr.lt
  by_cases hj0:j=0
  ·skip
   have lt1_2:B<wr.heap.size:=(M1.out.lt (i:=2) rfl rfl).2
   have lt1_3:w.heap.size<wr.heap.size:=(M1.out.lt (i:=3) rfl rfl).2
   subst hj0
   have dj:decide ((0:Int)<((0:Nat):Int))=false:=by simp
   go_wp2_with fail
   refine(odd_any R (k+2+260*(13-0)) n0 _ rr (by omega) hn0 hn1).mono ?_
   rintro e w2 ⟨t,rfl,r2,x2⟩
   clear rr
   have M2:=Lib.hid ((M1.out).pickd x2)
   clear x2 M1
   clear lt1_2 lt1_3
   have lt2_2:B<w2.heap.size:=(M2.out.lt (i:=2) rfl rfl).2
   have lt2_3:w.heap.size<w2.heap.size:=(M2.out.lt (i:=3) rfl rfl).2
   cases t with
   |false=>
    obtain⟨d0,d1,d2⟩:=(M2.out.blk (i:=2) rfl).tri
    obtain⟨f0,ff0,f1,ff1,f2,ff2⟩:=(M2.out.blk (i:=3) rfl).trif
    have ne0_1a: ¬(B=w.heap.size):=M2.out.ne (i:=2) (j:=3) (by omega) rfl rfl rfl rfl
    have ne0_1b: ¬(w.heap.size=B):=fun h=>ne0_1a h.symm
    go_wp2
    clear d0 d1 d2 f0 ff0 f1 ff1 f2 ff2 ne0_1a ne0_1b
    have r9:Rand (((w2.setCell ⟨w.heap.size,0,none⟩ (.int .i64 P)).setCell ⟨w.heap.size,1,none⟩ (.slice q n c)).setCell ⟨w.heap.size,2,none⟩ (.slice q2 n2 c2)) R (k+2+260*(13-0)+1):=by(repeat' (first|(with_reducible assumption)|(with_reducible refine Rand.alloc ?_ _)|(with_reducible refine Rand.setCell ?_ (by first|exact Nat.le_refl _|(dsimp only;omega)|(simp;done)|(simp;omega)) _)|(with_reducible refine Rand.drew ?_)|(with_reducible refine Rand.drewN ?_ _)|(refine Rand.ext ?_ (by with_reducible assumption))))
    clear lt2_2 lt2_3
    have M3:=Lib.hid (((M2.out).put3 (i:=3) rfl (.int .i64 P) (.slice q n c) (.slice q2 n2 c2)))
    generalize hwz:World.setCell _ _ _=wz
    rw[hwz]at M3 r9
    clear hwz M2
    have lt3_2:B<wz.heap.size:=(M3.out.lt (i:=2) rfl rfl).2
    have lt3_3:w.heap.size<wz.heap.size:=(M3.out.lt (i:=3) rfl rfl).2
    obtain⟨y0,y1,y2⟩:=(M3.out.blk (i:=3) rfl).tri
    exact bodyPost_ret (v:= .agg #[.int .i64 P,.slice q n c,.slice q2 n2 c2]) (by simp[results,Tryd.results38,go_sem, *]) rfl ⟨P,T,W,q,n,c,q2,n2,c2,rfl,hl.out,hl2.out,by omega,by omega,by simpa using(M3.out.own (i:=0) rfl),by simpa using(M3.out.own (i:=1) rfl),r9.mono (by omega),M3.out.ext⟩
   |true=>
    go_wp2_with fail
    refine(pick_any R (k+2+260*(13-0)+1) (4) _ r2 (by omega)).mono ?_
    rintro e w3 ⟨x,rfl,xa,xb,r3,xx⟩
    have M3:=Lib.hid ((M2.out).pickd xx)
    clear xx M2
    clear lt2_2 lt2_3
    have lt3_2:B<w3.heap.size:=(M3.out.lt (i:=2) rfl rfl).2
    have lt3_3:w.heap.size<w3.heap.size:=(M3.out.lt (i:=3) rfl rfl).2
    have hx4:x=0∨x=1∨x=2∨x=3:=by omega
    clear xa xb r2
    rcases hx4 with rfl|rfl|rfl|rfl
    ·skip
     go_wp2_with fail
     refine(pick_any R (k+2+260*(13-0)+1+1) 2 _ (r3.ext (by(repeat' (first|exact Ext.refl _|(with_reducible assumption)|(with_reducible refine Ext.alloc ?_ _)|(with_reducible refine Ext.setCell ?_ (by first|exact Nat.le_refl _|(dsimp only;omega)|(simp;done)|(simp;omega)) _)|(with_reducible refine Ext.drew ?_)|(with_reducible refine Ext.drewN ?_ _)|(refine Ext.trans ?_ (by with_reducible assumption)))))) (by omega)).mono ?_
     rintro e w4 ⟨y,rfl,ya,yb,r4,x4⟩
     clear r3
     have M4:=Lib.hid ((((M3.out).lit TI 1 2 (w3.heap.size) #[.int .i64 0,.int .i64 8] (by simp) (by simp) (by simp[maxLen]))).pickd x4)
     clear x4 M3
     clear lt3_2 lt3_3
     have lt4_3:B<w4.heap.size:=(M4.out.lt (i:=3) rfl rfl).2
     have lt4_4:w.heap.size<w4.heap.size:=(M4.out.lt (i:=4) rfl rfl).2
     have hy2:y=0∨y=1:=by omega
     clear ya yb
     rcases hy2 with rfl|rfl
     ·skip
      have d0:w4.cell? ⟨B,0,none⟩=some (.int .i64 P):=(M4.out.blk (i:=3) rfl).cell 0
      have df0:w4.frozen? ⟨B,0,none⟩=false:=(M4.out.blk (i:=3) rfl).frozen 0
      have e0:w4.cell? ⟨w3.heap.size,0,none⟩=some (.int .i64 (0)):=by rw[((M4.out.own (i:=0) rfl)).cellAt 0 (by omega)];rfl
      have e1:w3.heap.size<w4.heap.size:=(M4.out.lt (i:=0) rfl rfl).2
      go_upto_region 15 with fail
      clear d0 df0 e0 e1
      have r5:Rand (w4.setCell ⟨B,0,none⟩ (.int .i64 (0))) R (k+2+260*(13-0)+1+1+1):=by(repeat' (first|(with_reducible assumption)|(with_reducible refine Rand.alloc ?_ _)|(with_reducible refine Rand.setCell ?_ (by first|exact Nat.le_refl _|(dsimp only;omega)|(simp;done)|(simp;omega)) _)|(with_reducible refine Rand.drew ?_)|(with_reducible refine Rand.drewN ?_ _)|(refine Rand.ext ?_ (by with_reducible assumption))))
      clear lt4_3 lt4_4
      have M5:=Lib.hid (show MemR R w (w4.setCell ⟨B,0,none⟩ (.int .i64 (0))) [ownI w.heap.size TI 1 (some ⟨w3.heap.size,0,none⟩) (2) (2) ([.int .i64 0,.int .i64 8]),ownI w.heap.size TBk 4 (q) (n) (c) (T.flatMap visitCells),ownI w.heap.size TBk 4 (q2) (n2) (c2) (W.flatMap visitCells),blkI w.heap.size (B) TDk #[.int .i64 (0),.slice q n c,.slice q2 n2 c2],blkI w.heap.size (w.heap.size) TDk #[.int .i64 0,.slice none 0 0,.slice none 0 0]]from((M4.out).store (i:=3) rfl 0 (.int .i64 (0))))
      generalize hwz:World.setCell _ _ _=w5
      rw[hwz]at M5 r5
      clear hwz r4 M4
      have lt5_3:B<w5.heap.size:=(M5.out.lt (i:=3) rfl rfl).2
      have lt5_4:w.heap.size<w5.heap.size:=(M5.out.lt (i:=4) rfl rfl).2
      obtain⟨d0,d1,d2⟩:=(M5.out.blk (i:=3) rfl).tri
      obtain⟨f0,ff0,f1,ff1,f2,ff2⟩:=(M5.out.blk (i:=4) rfl).trif
      have ne0_1a: ¬(B=w.heap.size):=M5.out.ne (i:=3) (j:=4) (by omega) rfl rfl rfl rfl
      have ne0_1b: ¬(w.heap.size=B):=fun h=>ne0_1a h.symm
      go_wp2
      clear d0 d1 d2 f0 ff0 f1 ff1 f2 ff2 ne0_1a ne0_1b
      have r9:Rand (((w5.setCell ⟨w.heap.size,0,none⟩ (.int .i64 (0))).setCell ⟨w.heap.size,1,none⟩ (.slice q n c)).setCell ⟨w.heap.size,2,none⟩ (.slice q2 n2 c2)) R (k+2+260*(13-0)+1+1+1):=by(repeat' (first|(with_reducible assumption)|(with_reducible refine Rand.alloc ?_ _)|(with_reducible refine Rand.setCell ?_ (by first|exact Nat.le_refl _|(dsimp only;omega)|(simp;done)|(simp;omega)) _)|(with_reducible refine Rand.drew ?_)|(with_reducible refine Rand.drewN ?_ _)|(refine Rand.ext ?_ (by with_reducible assumption))))
      clear lt5_3 lt5_4
      have M6:=Lib.hid (((M5.out).put3 (i:=4) rfl (.int .i64 (0)) (.slice q n c) (.slice q2 n2 c2)))
      generalize hwz:World.setCell _ _ _=wz
      rw[hwz]at M6 r9
      clear hwz M5
      have lt6_3:B<wz.heap.size:=(M6.out.lt (i:=3) rfl rfl).2
      have lt6_4:w.heap.size<wz.heap.size:=(M6.out.lt (i:=4) rfl rfl).2
      obtain⟨y0,y1,y2⟩:=(M6.out.blk (i:=4) rfl).tri
      exact bodyPost_ret (v:= .agg #[.int .i64 (0),.slice q n c,.slice q2 n2 c2]) (by simp[results,Tryd.results38,go_sem, *]) rfl ⟨(0),T,W,q,n,c,q2,n2,c2,rfl,hl.out,hl2.out,by omega,by omega,by simpa using(M6.out.own (i:=1) rfl),by simpa using(M6.out.own (i:=2) rfl),r9.mono (by omega),M6.out.ext⟩
     ·skip
      have d0:w4.cell? ⟨B,0,none⟩=some (.int .i64 P):=(M4.out.blk (i:=3) rfl).cell 0
      have df0:w4.frozen? ⟨B,0,none⟩=false:=(M4.out.blk (i:=3) rfl).frozen 0
      have e0:w4.cell? ⟨w3.heap.size,1,none⟩=some (.int .i64 (8)):=by rw[((M4.out.own (i:=0) rfl)).cellAt 1 (by omega)];rfl
      have e1:w3.heap.size<w4.heap.size:=(M4.out.lt (i:=0) rfl rfl).2
      go_upto_region 15 with fail
      clear d0 df0 e0 e1
      have r5:Rand (w4.setCell ⟨B,0,none⟩ (.int .i64 (8))) R (k+2+260*(13-0)+1+1+1):=by(repeat' (first|(with_reducible assumption)|(with_reducible refine Rand.alloc ?_ _)|(with_reducible refine Rand.setCell ?_ (by first|exact Nat.le_refl _|(dsimp only;omega)|(simp;done)|(simp;omega)) _)|(with_reducible refine Rand.drew ?_)|(with_reducible refine Rand.drewN ?_ _)|(refine Rand.ext ?_ (by with_reducible assumption))))
      clear lt4_3 lt4_4
      have M5:=Lib.hid (show MemR R w (w4.setCell ⟨B,0,none⟩ (.int .i64 (8))) [ownI w.heap.size TI 1 (some ⟨w3.heap.size,0,none⟩) (2) (2) ([.int .i64 0,.int .i64 8]),ownI w.heap.size TBk 4 (q) (n) (c) (T.flatMap visitCells),ownI w.heap.size TBk 4 (q2) (n2) (c2) (W.flatMap visitCells),blkI w.heap.size (B) TDk #[.int .i64 (8),.slice q n c,.slice q2 n2 c2],blkI w.heap.size (w.heap.size) TDk #[.int .i64 0,.slice none 0 0,.slice none 0 0]]from((M4.out).store (i:=3) rfl 0 (.int .i64 (8))))
      generalize hwz:World.setCell _ _ _=w5
      rw[hwz]at M5 r5
      clear hwz r4 M4
      have lt5_3:B<w5.heap.size:=(M5.out.lt (i:=3) rfl rfl).2
      have lt5_4:w.heap.size<w5.heap.size:=(M5.out.lt (i:=4) rfl rfl).2
      obtain⟨d0,d1,d2⟩:=(M5.out.blk (i:=3) rfl).tri
      obtain⟨f0,ff0,f1,ff1,f2,ff2⟩:=(M5.out.blk (i:=4) rfl).trif
      have ne0_1a: ¬(B=w.heap.size):=M5.out.ne (i:=3) (j:=4) (by omega) rfl rfl rfl rfl
      have ne0_1b: ¬(w.heap.size=B):=fun h=>ne0_1a h.symm
      go_wp2
      clear d0 d1 d2 f0 ff0 f1 ff1 f2 ff2 ne0_1a ne0_1b
      have r9:Rand (((w5.setCell ⟨w.heap.size,0,none⟩ (.int .i64 (8))).setCell ⟨w.heap.size,1,none⟩ (.slice q n c)).setCell ⟨w.heap.size,2,none⟩ (.slice q2 n2 c2)) R (k+2+260*(13-0)+1+1+1):=by(repeat' (first|(with_reducible assumption)|(with_reducible refine Rand.alloc ?_ _)|(with_reducible refine Rand.setCell ?_ (by first|exact Nat.le_refl _|(dsimp only;omega)|(simp;done)|(simp;omega)) _)|(with_reducible refine Rand.drew ?_)|(with_reducible refine Rand.drewN ?_ _)|(refine Rand.ext ?_ (by with_reducible assumption))))
      clear lt5_3 lt5_4
      have M6:=Lib.hid (((M5.out).put3 (i:=4) rfl (.int .i64 (8)) (.slice q n c) (.slice q2 n2 c2)))
      generalize hwz:World.setCell _ _ _=wz
      rw[hwz]at M6 r9
      clear hwz M5
      have lt6_3:B<wz.heap.size:=(M6.out.lt (i:=3) rfl rfl).2
      have lt6_4:w.heap.size<wz.heap.size:=(M6.out.lt (i:=4) rfl rfl).2
      obtain⟨y0,y1,y2⟩:=(M6.out.blk (i:=4) rfl).tri
      exact bodyPost_ret (v:= .agg #[.int .i64 (8),.slice q n c,.slice q2 n2 c2]) (by simp[results,Tryd.results38,go_sem, *]) rfl ⟨(8),T,W,q,n,c,q2,n2,c2,rfl,hl.out,hl2.out,by omega,by omega,by simpa using(M6.out.own (i:=1) rfl),by simpa using(M6.out.own (i:=2) rfl),r9.mono (by omega),M6.out.ext⟩
    ·skip
     have d2:w3.cell? ⟨B,2,none⟩=some (.slice q2 n2 c2):=(M3.out.blk (i:=2) rfl).cell 2
     have df2:w3.frozen? ⟨B,2,none⟩=false:=(M3.out.blk (i:=2) rfl).frozen 2
     go_upto_region 15 with(at_builtin;refine wpList_appR elBk rfl _ _ rfl (M3.out.adv ((Ext.refl _).alloc (.cells #[.int .i64 77,.int .i64 0,.int .i64 0,.int .i64 0] TBk))) 1 rfl rfl (([(77,0,0,0)]:List Visit4).flatMap visitCells) rfl (sl_lit _ _ _ 1 4 _ (by first|rfl|simp) (by first|rfl|simp) (by simp[maxLen])) (books_one _) (by omega) ?_;intro q7 c7 w7 M7X hr7;have M7:=Lib.hid (show MemR R w w7 [ownI w.heap.size TBk 4 (q) (n) (c) (T.flatMap visitCells),ownI w.heap.size TBk 4 (q7) (n2+1) (c7) (W.flatMap visitCells++([(77,0,0,0)]:List Visit4).flatMap visitCells),blkI w.heap.size (B) TDk #[.int .i64 P,.slice q n c,.slice q2 n2 c2],blkI w.heap.size (w.heap.size) TDk #[.int .i64 0,.slice none 0 0,.slice none 0 0]]from M7X);have lB7:B<w7.heap.size:=(M7.out.lt (i:=2) rfl rfl).2;have r7:Rand w7 R (k+2+260*(13-0)+1+1):=hr7 _ (by(repeat' (first|(with_reducible assumption)|(with_reducible refine Rand.alloc ?_ _)|(with_reducible refine Rand.setCell ?_ (by first|exact Nat.le_refl _|(dsimp only;omega)|(simp;done)|(simp;omega)) _)|(with_reducible refine Rand.drew ?_)|(with_reducible refine Rand.drewN ?_ _)|(refine Rand.ext ?_ (by with_reducible assumption)))));have g2:w7.cell? ⟨B,2,none⟩=some (.slice q2 n2 c2):=(M7.out.blk (i:=2) rfl).cell 2;have gf2:w7.frozen? ⟨B,2,none⟩=false:=(M7.out.blk (i:=2) rfl).frozen 2)
     clear d2 df2
     clear lt3_2 lt3_3
     have lt3_2:B<w7.heap.size:=(M7.out.lt (i:=2) rfl rfl).2
     have lt3_3:w.heap.size<w7.heap.size:=(M7.out.lt (i:=3) rfl rfl).2
     have r5:Rand (w7.setCell ⟨B,2,none⟩ (.slice q7 (n2+1) c7)) R (k+2+260*(13-0)+1+1):=by(repeat' (first|(with_reducible assumption)|(with_reducible refine Rand.alloc ?_ _)|(with_reducible refine Rand.setCell ?_ (by first|exact Nat.le_refl _|(dsimp only;omega)|(simp;done)|(simp;omega)) _)|(with_reducible refine Rand.drew ?_)|(with_reducible refine Rand.drewN ?_ _)|(refine Rand.ext ?_ (by with_reducible assumption))))
     clear lt3_2 lt3_3
     have M4:=Lib.hid (show MemR R w (w7.setCell ⟨B,2,none⟩ (.slice q7 (n2+1) c7)) [ownI w.heap.size TBk 4 (q) (n) (c) (T.flatMap visitCells),ownI w.heap.size TBk 4 (q7) (n2+1) (c7) (W.flatMap visitCells++([(77,0,0,0)]:List Visit4).flatMap visitCells),blkI w.heap.size (B) TDk #[.int .i64 P,.slice q n c,.slice q7 (n2+1) c7],blkI w.heap.size (w.heap.size) TDk #[.int .i64 0,.slice none 0 0,.slice none 0 0]]from((M7.out).store (i:=2) rfl 2 (.slice q7 (n2+1) c7)))
     generalize hwz:World.setCell _ _ _=w5
     rw[hwz]at M4 r5
     clear hwz r7 M7
     have lt4_2:B<w5.heap.size:=(M4.out.lt (i:=2) rfl rfl).2
     have lt4_3:w.heap.size<w5.heap.size:=(M4.out.lt (i:=3) rfl rfl).2
     obtain⟨d0,d1,d2⟩:=(M4.out.blk (i:=2) rfl).tri
     obtain⟨f0,ff0,f1,ff1,f2,ff2⟩:=(M4.out.blk (i:=3) rfl).trif
     have ne0_1a: ¬(B=w.heap.size):=M4.out.ne (i:=2) (j:=3) (by omega) rfl rfl rfl rfl
     have ne0_1b: ¬(w.heap.size=B):=fun h=>ne0_1a h.symm
     go_wp2
     clear d0 d1 d2 f0 ff0 f1 ff1 f2 ff2 ne0_1a ne0_1b
     have r9:Rand (((w5.setCell ⟨w.heap.size,0,none⟩ (.int .i64 P)).setCell ⟨w.heap.size,1,none⟩ (.slice q n c)).setCell ⟨w.heap.size,2,none⟩ (.slice q7 (n2+1) c7)) R (k+2+260*(13-0)+1+1):=by(repeat' (first|(with_reducible assumption)|(with_reducible refine Rand.alloc ?_ _)|(with_reducible refine Rand.setCell ?_ (by first|exact Nat.le_refl _|(dsimp only;omega)|(simp;done)|(simp;omega)) _)|(with_reducible refine Rand.drew ?_)|(with_reducible refine Rand.drewN ?_ _)|(refine Rand.ext ?_ (by with_reducible assumption))))
     clear lt4_2 lt4_3
     have M5:=Lib.hid (((M4.out).put3 (i:=3) rfl (.int .i64 P) (.slice q n c) (.slice q7 (n2+1) c7)))
     generalize hwz:World.setCell _ _ _=wz
     rw[hwz]at M5 r9
     clear hwz M4
     have lt5_2:B<wz.heap.size:=(M5.out.lt (i:=2) rfl rfl).2
     have lt5_3:w.heap.size<wz.heap.size:=(M5.out.lt (i:=3) rfl rfl).2
     obtain⟨y0,y1,y2⟩:=(M5.out.blk (i:=3) rfl).tri
     exact bodyPost_ret (v:= .agg #[.int .i64 P,.slice q n c,.slice q7 (n2+1) c7]) (by simp[results,Tryd.results38,go_sem, *]) rfl ⟨P,T,W++ [(77,0,0,0)],q,n,c,q7,_,_,rfl,hl.out,by simp[hl2.out],by omega,by omega,by simpa using(M5.out.own (i:=0) rfl),by simpa using(M5.out.own (i:=1) rfl),r9.mono (by omega),M5.out.ext⟩
    ·skip
     have d2:w3.cell? ⟨B,2,none⟩=some (.slice q2 n2 c2):=(M3.out.blk (i:=2) rfl).cell 2
     have df2:w3.frozen? ⟨B,2,none⟩=false:=(M3.out.blk (i:=2) rfl).frozen 2
     go_upto_region 15 with(at_builtin;refine wpList_appR elBk rfl _ _ rfl (M3.out.adv ((Ext.refl _).alloc (.cells #[.int .i64 78,.int .i64 28,.int .i64 29,.int .i64 0] TBk))) 1 rfl rfl (([(78,28,29,0)]:List Visit4).flatMap visitCells) rfl (sl_lit _ _ _ 1 4 _ (by first|rfl|simp) (by first|rfl|simp) (by simp[maxLen])) (books_one _) (by omega) ?_;intro q7 c7 w7 M7X hr7;have M7:=Lib.hid (show MemR R w w7 [ownI w.heap.size TBk 4 (q) (n) (c) (T.flatMap visitCells),ownI w.heap.size TBk 4 (q7) (n2+1) (c7) (W.flatMap visitCells++([(78,28,29,0)]:List Visit4).flatMap visitCells),blkI w.heap.size (B) TDk #[.int .i64 P,.slice q n c,.slice q2 n2 c2],blkI w.heap.size (w.heap.size) TDk #[.int .i64 0,.slice none 0 0,.slice none 0 0]]from M7X);have lB7:B<w7.heap.size:=(M7.out.lt (i:=2) rfl rfl).2;have r7:Rand w7 R (k+2+260*(13-0)+1+1):=hr7 _ (by(repeat' (first|(with_reducible assumption)|(with_reducible refine Rand.alloc ?_ _)|(with_reducible refine Rand.setCell ?_ (by first|exact Nat.le_refl _|(dsimp only;omega)|(simp;done)|(simp;omega)) _)|(with_reducible refine Rand.drew ?_)|(with_reducible refine Rand.drewN ?_ _)|(refine Rand.ext ?_ (by with_reducible assumption)))));have g2:w7.cell? ⟨B,2,none⟩=some (.slice q2 n2 c2):=(M7.out.blk (i:=2) rfl).cell 2;have gf2:w7.frozen? ⟨B,2,none⟩=false:=(M7.out.blk (i:=2) rfl).frozen 2)
     clear d2 df2
     clear lt3_2 lt3_3
     have lt3_2:B<w7.heap.size:=(M7.out.lt (i:=2) rfl rfl).2
     have lt3_3:w.heap.size<w7.heap.size:=(M7.out.lt (i:=3) rfl rfl).2
     have r5:Rand (w7.setCell ⟨B,2,none⟩ (.slice q7 (n2+1) c7)) R (k+2+260*(13-0)+1+1):=by(repeat' (first|(with_reducible assumption)|(with_reducible refine Rand.alloc ?_ _)|(with_reducible refine Rand.setCell ?_ (by first|exact Nat.le_refl _|(dsimp only;omega)|(simp;done)|(simp;omega)) _)|(with_reducible refine Rand.drew ?_)|(with_reducible refine Rand.drewN ?_ _)|(refine Rand.ext ?_ (by with_reducible assumption))))
     clear lt3_2 lt3_3
     have M4:=Lib.hid (show MemR R w (w7.setCell ⟨B,2,none⟩ (.slice q7 (n2+1) c7)) [ownI w.heap.size TBk 4 (q) (n) (c) (T.flatMap visitCells),ownI w.heap.size TBk 4 (q7) (n2+1) (c7) (W.flatMap visitCells++([(78,28,29,0)]:List Visit4).flatMap visitCells),blkI w.heap.size (B) TDk #[.int .i64 P,.slice q n c,.slice q7 (n2+1) c7],blkI w.heap.size (w.heap.size) TDk #[.int .i64 0,.slice none 0 0,.slice none 0 0]]from((M7.out).store (i:=2) rfl 2 (.slice q7 (n2+1) c7)))
     generalize hwz:World.setCell _ _ _=w5
     rw[hwz]at M4 r5
     clear hwz r7 M7
     have lt4_2:B<w5.heap.size:=(M4.out.lt (i:=2) rfl rfl).2
     have lt4_3:w.heap.size<w5.heap.size:=(M4.out.lt (i:=3) rfl rfl).2
     obtain⟨d0,d1,d2⟩:=(M4.out.blk (i:=2) rfl).tri
     obtain⟨f0,ff0,f1,ff1,f2,ff2⟩:=(M4.out.blk (i:=3) rfl).trif
     have ne0_1a: ¬(B=w.heap.size):=M4.out.ne (i:=2) (j:=3) (by omega) rfl rfl rfl rfl
     have ne0_1b: ¬(w.heap.size=B):=fun h=>ne0_1a h.symm
     go_wp2
     clear d0 d1 d2 f0 ff0 f1 ff1 f2 ff2 ne0_1a ne0_1b
     have r9:Rand (((w5.setCell ⟨w.heap.size,0,none⟩ (.int .i64 P)).setCell ⟨w.heap.size,1,none⟩ (.slice q n c)).setCell ⟨w.heap.size,2,none⟩ (.slice q7 (n2+1) c7)) R (k+2+260*(13-0)+1+1):=by(repeat' (first|(with_reducible assumption)|(with_reducible refine Rand.alloc ?_ _)|(with_reducible refine Rand.setCell ?_ (by first|exact Nat.le_refl _|(dsimp only;omega)|(simp;done)|(simp;omega)) _)|(with_reducible refine Rand.drew ?_)|(with_reducible refine Rand.drewN ?_ _)|(refine Rand.ext ?_ (by with_reducible assumption))))
     clear lt4_2 lt4_3
     have M5:=Lib.hid (((M4.out).put3 (i:=3) rfl (.int .i64 P) (.slice q n c) (.slice q7 (n2+1) c7)))
     generalize hwz:World.setCell _ _ _=wz
     rw[hwz]at M5 r9
     clear hwz M4
     have lt5_2:B<wz.heap.size:=(M5.out.lt (i:=2) rfl rfl).2
     have lt5_3:w.heap.size<wz.heap.size:=(M5.out.lt (i:=3) rfl rfl).2
     obtain⟨y0,y1,y2⟩:=(M5.out.blk (i:=3) rfl).tri
     exact bodyPost_ret (v:= .agg #[.int .i64 P,.slice q n c,.slice q7 (n2+1) c7]) (by simp[results,Tryd.results38,go_sem, *]) rfl ⟨P,T,W++ [(78,28,29,0)],q,n,c,q7,_,_,rfl,hl.out,by simp[hl2.out],by omega,by omega,by simpa using(M5.out.own (i:=0) rfl),by simpa using(M5.out.own (i:=1) rfl),r9.mono (by omega),M5.out.ext⟩
    ·skip
     have d1:w3.cell? ⟨B,1,none⟩=some (.slice q n c):=(M3.out.blk (i:=2) rfl).cell 1
     have df1:w3.frozen? ⟨B,1,none⟩=false:=(M3.out.blk (i:=2) rfl).frozen 1
     go_upto_region 15 with(at_builtin;refine wpList_appR elBk rfl _ _ rfl (M3.out.adv ((Ext.refl _).alloc (.cells #[.int .i64 1,.int .i64 25,.int .i64 26,.int .i64 0,.int .i64 1,.int .i64 27,.int .i64 28,.int .i64 0] TBk))) 0 rfl rfl (([(1,25,26,0),(1,27,28,0)]:List Visit4).flatMap visitCells) rfl (sl_lit _ _ _ 2 4 _ (by first|rfl|simp) (by first|rfl|simp) (by simp[maxLen])) (books_one _) (by omega) ?_;intro q7 c7 w7 M7X hr7;have M7:=Lib.hid (show MemR R w w7 [ownI w.heap.size TBk 4 (q7) (n+2) (c7) (T.flatMap visitCells++([(1,25,26,0),(1,27,28,0)]:List Visit4).flatMap visitCells),ownI w.heap.size TBk 4 (q2) (n2) (c2) (W.flatMap visitCells),blkI w.heap.size (B) TDk #[.int .i64 P,.slice q n c,.slice q2 n2 c2],blkI w.heap.size (w.heap.size) TDk #[.int .i64 0,.slice none 0 0,.slice none 0 0]]from M7X);have lB7:B<w7.heap.size:=(M7.out.lt (i:=2) rfl rfl).2;have r7:Rand w7 R (k+2+260*(13-0)+1+1):=hr7 _ (by(repeat' (first|(with_reducible assumption)|(with_reducible refine Rand.alloc ?_ _)|(with_reducible refine Rand.setCell ?_ (by first|exact Nat.le_refl _|(dsimp only;omega)|(simp;done)|(simp;omega)) _)|(with_reducible refine Rand.drew ?_)|(with_reducible refine Rand.drewN ?_ _)|(refine Rand.ext ?_ (by with_reducible assumption)))));have g1:w7.cell? ⟨B,1,none⟩=some (.slice q n c):=(M7.out.blk (i:=2) rfl).cell 1;have gf1:w7.frozen? ⟨B,1,none⟩=false:=(M7.out.blk (i:=2) rfl).frozen 1)
     clear d1 df1
     clear lt3_2 lt3_3
     have lt3_2:B<w7.heap.size:=(M7.out.lt (i:=2) rfl rfl).2
     have lt3_3:w.heap.size<w7.heap.size:=(M7.out.lt (i:=3) rfl rfl).2
     have r5:Rand (w7.setCell ⟨B,1,none⟩ (.slice q7 (n+2) c7)) R (k+2+260*(13-0)+1+1):=by(repeat' (first|(with_reducible assumption)|(with_reducible refine Rand.alloc ?_ _)|(with_reducible refine Rand.setCell ?_ (by first|exact Nat.le_refl _|(dsimp only;omega)|(simp;done)|(simp;omega)) _)|(with_reducible refine Rand.drew ?_)|(with_reducible refine Rand.drewN ?_ _)|(refine Rand.ext ?_ (by with_reducible assumption))))
     clear lt3_2 lt3_3
     have M4:=Lib.hid (show MemR R w (w7.setCell ⟨B,1,none⟩ (.slice q7 (n+2) c7)) [ownI w.heap.size TBk 4 (q7) (n+2) (c7) (T.flatMap visitCells++([(1,25,26,0),(1,27,28,0)]:List Visit4).flatMap visitCells),ownI w.heap.size TBk 4 (q2) (n2) (c2) (W.flatMap visitCells),blkI w.heap.size (B) TDk #[.int .i64 P,.slice q7 (n+2) c7,.slice q2 n2 c2],blkI w.heap.size (w.heap.size) TDk #[.int .i64 0,.slice none 0 0,.slice none 0 0]]from((M7.out).store (i:=2) rfl 1 (.slice q7 (n+2) c7)))
     generalize hwz:World.setCell _ _ _=w5
     rw[hwz]at M4 r5
     clear hwz r7 M7
     have lt4_2:B<w5.heap.size:=(M4.out.lt (i:=2) rfl rfl).2
     have lt4_3:w.heap.size<w5.heap.size:=(M4.out.lt (i:=3) rfl rfl).2
     obtain⟨d0,d1,d2⟩:=(M4.out.blk (i:=2) rfl).tri
     obtain⟨f0,ff0,f1,ff1,f2,ff2⟩:=(M4.out.blk (i:=3) rfl).trif
     have ne0_1a: ¬(B=w.heap.size):=M4.out.ne (i:=2) (j:=3) (by omega) rfl rfl rfl rfl
     have ne0_1b: ¬(w.heap.size=B):=fun h=>ne0_1a h.symm
     go_wp2
     clear d0 d1 d2 f0 ff0 f1 ff1 f2 ff2 ne0_1a ne0_1b
     have r9:Rand (((w5.setCell ⟨w.heap.size,0,none⟩ (.int .i64 P)).setCell ⟨w.heap.size,1,none⟩ (.slice q7 (n+2) c7)).setCell ⟨w.heap.size,2,none⟩ (.slice q2 n2 c2)) R (k+2+260*(13-0)+1+1):=by(repeat' (first|(with_reducible assumption)|(with_reducible refine Rand.alloc ?_ _)|(with_reducible refine Rand.setCell ?_ (by first|exact Nat.le_refl _|(dsimp only;omega)|(simp;done)|(simp;omega)) _)|(with_reducible refine Rand.drew ?_)|(with_reducible refine Rand.drewN ?_ _)|(refine Rand.ext ?_ (by with_reducible assumption))))
     clear lt4_2 lt4_3
     have M5:=Lib.hid (((M4.out).put3 (i:=3) rfl (.int .i64 P) (.slice q7 (n+2) c7) (.slice q2 n2 c2)))
     generalize hwz:World.setCell _ _ _=wz
     rw[hwz]at M5 r9
     clear hwz M4
     have lt5_2:B<wz.heap.size:=(M5.out.lt (i:=2) rfl rfl).2
     have lt5_3:w.heap.size<wz.heap.size:=(M5.out.lt (i:=3) rfl rfl).2
     obtain⟨y0,y1,y2⟩:=(M5.out.blk (i:=3) rfl).tri
     exact bodyPost_ret (v:= .agg #[.int .i64 P,.slice q7 (n+2) c7,.slice q2 n2 c2]) (by simp[results,Tryd.results38,go_sem, *]) rfl ⟨P,T++ [(1,25,26,0),(1,27,28,0)],W,q7,_,_,q2,n2,c2,rfl,by simp[hl.out],hl2.out,by omega,by omega,by simpa using(M5.out.own (i:=0) rfl),by simpa using(M5.out.own (i:=1) rfl),r9.mono (by omega),M5.out.ext⟩
  ·obtain⟨j,rfl⟩: ∃i,j=i+1:=⟨j-1,by omega⟩
   have lt1_2:B<wr.heap.size:=(M1.out.lt (i:=2) rfl rfl).2
   have lt1_3:w.heap.size<wr.heap.size:=(M1.out.lt (i:=3) rfl rfl).2
   have i1:decide ((0:Int)<((j+1:Nat):Int))=true:=by first|(simp;done)|(simp;omega)
   have i2:decide ((0:Int)<(j:Int)+1)=true:=by first|(simp;done)|(simp;omega)
   have B0:=Lib.hid (M1.out.blk (i:=2) rfl)
   have hBR2:B≠R:=by omega
   go_wp2
   refine region_linR (gl [gEq (.agg #[.int .i64 P,.slice q n c,.slice q2 n2 c2]),gEq (.pointer (some ⟨R,0,none⟩)),(fun v _=> ∃a b c d:Int,v=bookV a b c d),(fun v w'=> ∃(g:Nat) (a b c d:Int),v= .slice (some ⟨g,0,none⟩) 1 1∧wr.heap.size≤g∧Blk w' g TBk #[.int .i64 a,.int .i64 b,.int .i64 c,.int .i64 d]),(fun v w'=> ∃(P':Int) (T' W':List Visit4) (qa:Option Addr) (na ca:Nat) (qb:Option Addr) (nb cb:Nat),v= .agg #[.int .i64 P',.slice qa na ca,.slice qb nb cb]∧T'.length=na∧W'.length=nb∧na≤7∧nb≤5∧MemR R wr w' [ownI wr.heap.size TBk 4 qa na ca (T'.flatMap visitCells),ownI wr.heap.size TBk 4 qb nb cb (W'.flatMap visitCells)])]) R (k+2+260*(13-(j+1))) 50 5 (by kernel_rfl) rfl (by kernel_rfl) (by kernel_rfl) (by kernel_rfl) rr (glR_mono (glR_cons (gEqR_mono _) (glR_cons (gEqR_mono _) (glR_cons (fun _ _ _ h _=>h) (glR_cons (fun v w w' ⟨g,a,b,c,d,h1,h2,h3⟩ hx=>⟨g,a,b,c,d,h1,h2,ExtR.blk hx h3 (by omega)⟩) (glR_cons (fun v w w' ⟨P',T',W',qa,na,ca,qb,nb,cb,h1,h2,h3,h4,h5,h6⟩ hx=>⟨P',T',W',qa,na,ca,qb,nb,cb,h1,h2,h3,h4,h5,h6.pickd hx⟩) (glR_nil))))))) rfl (k:=6) (by kernel_rfl) (by decide) (ls:= [(0,some 17),(1,some 18),(2,some 19),(3,some 20),(4,some 21)]) (by kernel_rfl) (ir:= [0,1,2,3,4]) (by kernel_rfl) ?steps (tl:=#[true,true,true,true,true,false]) (by kernel_rfl) ?fin
   case steps=>
    refine StepsLR.cons (ps:= []) rfl (by kernel_rfl) (fun wi kk hx hr hkk=> ?_) ?_
    ·intro K hK
     obtain⟨ce0,ce1,ce2⟩:=((hx.of_drew.blk B0.out hBR2)).tri
     go_simp
     exact hK _ _ ⟨.agg #[.int .i64 P,.slice q n c,.slice q2 n2 c2],rfl,rfl,(randE hr (Ext.refl _))⟩
    refine StepsLR.cons (ps:= []) rfl (by kernel_rfl) (fun wi kk hx hr hkk=> ?_) ?_
    ·intro K hK
     go_simp
     exact hK _ _ ⟨.pointer (some ⟨R,0,none⟩),rfl,rfl,(randE hr (Ext.refl _))⟩
    refine StepsLR.cons (ps:= [(1,some 18)]) rfl (by kernel_rfl) (fun wi kk hx hr hkk=> ?_) ?_
    ·intro v1 h1 K hK
     obtain rfl:=h1
     go_wp2_with fail
     refine(l20Asked_any R kk _ hr (by omega)).mono ?_
     rintro e w5 ⟨ba,bb,bc,bd,rfl,r5,x5⟩
     go_simp
     exact hK _ _ ⟨_,rfl,⟨ba,bb,bc,bd,rfl⟩,⟨x5,r5⟩⟩
    refine StepsLR.cons (ps:= [(2,some 19)]) rfl (by kernel_rfl) (fun wi kk hx hr hkk=> ?_) ?_
    ·intro v2 h2 K hK
     obtain⟨ba2,bb2,bc2,bd2,rfl⟩:=h2
     go_simp
     exact hK _ _ ⟨_,rfl,⟨wi.heap.size,_,_,_,_,rfl,by have:=hx.sz;simp at this;omega,Blk.new _ _ _⟩,(randE hr ((Ext.refl _).alloc _))⟩
    refine StepsLR.cons (ps:= [(0,some 17),(3,some 20)]) rfl (by kernel_rfl) (fun wi kk hx hr hkk=> ?_) StepsLR.nil
    ·intro v0 h0 v3 h3 K hK
     obtain rfl:=h0
     obtain⟨g3,la3,lb3,lc3,ld3,rfl,hg3,B3⟩:=h3
     have hxr:=hx.of_drew
     have hMi:=M1.out.pickd hxr
     have hS1:=hMi.sl (i:=0) rfl
     have hS2:=hMi.sl (i:=1) rfl
     have hS3:Sl wi (some ⟨g3,0,none⟩) 1 1 4 ([(la3,lb3,lc3,ld3)].flatMap visitCells):=sl_blk1 B3
     have hsm:=run_small ⟨P,T,W⟩ [(la3,lb3,lc3,ld3)]
     go_wp2_with fail
     refine(specRun P q n c q2 n2 c2 _ 1 1 T W [(la3,lb3,lc3,ld3)] _ (by omega) hS1 hS2 hS3).mono ?_
     rintro e w5 ⟨qa,na,ca,qb,nb,cb,rfl,hna,hnb,hm⟩
     have hx5:=hm.ext
     have HNA:=Lib.hid hna
     have HNB:=Lib.hid hnb
     clear hna hnb
     go_simp
     exact hK _ _ ⟨_,rfl,⟨_,_,_,qa,na,ca,qb,nb,cb,rfl,HNA.out.symm,HNB.out.symm,by rw[HNA.out];exact hsm.1,by rw[HNB.out];exact hsm.2,(MemR.of hRw hxr).call2 (ExtR.refl _ _) hm⟩,(randE hr hx5)⟩
   case fin=>
    intro wi hx hr v0 h0 v1 h1 v2 h2 v3 h3 v4 h4
    obtain rfl:=h0
    obtain rfl:=h1
    obtain⟨ba2,bb2,bc2,bd2,rfl⟩:=h2
    obtain⟨g3,la3,lb3,lc3,ld3,rfl,hg3,B3⟩:=h3
    obtain⟨P4,T4,W4,qa4,na4,ca4,qb4,nb4,cb4,rfl,hlt4,hlw4,hs4,ht4,MT4⟩:=h4
    have hx1:ExtR R wr wi:=hx.of_drew
    have M2:=Lib.hid (M1.out.two MT4)
    clear MT4 hx1 hx M1 B0 lt1_2 lt1_3
    have lt2_4:B<wi.heap.size:=(M2.out.lt (i:=4) rfl rfl).2
    have lt2_5:w.heap.size<wi.heap.size:=(M2.out.lt (i:=5) rfl rfl).2
    obtain⟨d0,df0,d1,df1,d2,df2⟩:=(M2.out.blk (i:=4) rfl).trif
    refine wpAny_ready (rs:= [5]) (by kernel_rfl) (by simp) ?_
    refine AllReady.cons rfl (fun K hK=> ?_) AllReady.nil
    go_simp
    refine hK _ _ ?_
    clear hK K
    refine wpAny_done (by kernel_rfl) ?_ _
    try simp only[Act.put,List.setIfInBounds_toArray,List.set_cons_zero,List.set_cons_succ]
    have r2:Rand (((wi.setCell ⟨B,0,none⟩ (.int .i64 P4)).setCell ⟨B,1,none⟩ (.slice qa4 na4 ca4)).setCell ⟨B,2,none⟩ (.slice qb4 nb4 cb4)) R (k+2+260*(13-(j+1))+250):=by(repeat' (first|(with_reducible assumption)|(with_reducible refine Rand.alloc ?_ _)|(with_reducible refine Rand.setCell ?_ (by first|exact Nat.le_refl _|(dsimp only;omega)|(simp;done)|(simp;omega)) _)|(with_reducible refine Rand.drew ?_)|(with_reducible refine Rand.drewN ?_ _)|(refine Rand.ext ?_ (by with_reducible assumption))))
    clear d0 df0 d1 df1 d2 df2 lt2_4 lt2_5
    clear hr
    have M3:=Lib.hid (((M2.out).put3 (i:=4) rfl (.int .i64 P4) (.slice qa4 na4 ca4) (.slice qb4 nb4 cb4)))
    generalize hwz:World.setCell _ _ _=w2
    rw[hwz]at M3 r2
    clear hwz M2
    have lt3_4:B<w2.heap.size:=(M3.out.lt (i:=4) rfl rfl).2
    have lt3_5:w.heap.size<w2.heap.size:=(M3.out.lt (i:=5) rfl rfl).2
    go_wp2
    go_roundw
    case rel=>exact⟨P4,T4,W4,qa4,na4,ca4,qb4,nb4,cb4,j,by go_num,by omega,hlt4,hlw4,hs4,ht4,M3.out.pick [0,1,4,5] (by decide) rfl,r2.mono (by omega)⟩
    case measure=>simp[intOf]
end Go.Proofs.YtndcnflchkfaeaaDoor

