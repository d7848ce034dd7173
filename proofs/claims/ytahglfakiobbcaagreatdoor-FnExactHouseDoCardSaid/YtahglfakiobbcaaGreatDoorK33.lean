/-
  Texts of this proof, packed (@packed).
-/
import Derived.Test.YtahglfakiobbcaaGreatDoorK11
import Derived.Test.YtahglfakiobbcaaGreatDoorK23
import Derived.Test.YtahglfakiobbcaaGreatDoorK24
import Derived.Test.YtahglfakiobbcaaGreatDoorK30
import Derived.Test.YtahglfakiobbcaaGreatDoorK32
namespace Go.Proofs.YtahglfakiobbcaaGreatDoor
open Go.RowKit
set_option linter.unusedVariables false
set_option linter.unusedSimpArgs false
set_option maxRecDepth 100000 in
set_option maxHeartbeats 8000000 in
theorem aBz (i pd a now f s p c amt D:Int)(w:World)(hD:0≤D)(hD2:D≤693)(hp0:0≤pd)(hp:pd≤9999)
  (HD:Hid (∀w,Calls Tryz.prog 116 #[aS f s p c,bK i pd a,.int .i64 now] w fun e w'=>e= .returned (.int .i64 D)∧Ext w w'))(ha:amt<1):
  Calls Tryz.prog 82 #[aS f s p c,bK i pd a,.int .i64 now,.int .i64 amt] w fun e w'=>e= .returned (.tuple #[bK 0 0 0,.int .i64 amt,.bool false])∧Ext w w':=by
 go_enter Tryz.func82,Tryz.ntmps82
 go_wp2_with fail
 refine(HD.out _).mono ?_
 rintro e w1 ⟨rfl,hx1⟩
 have M1:=xQ ((Mem.b3 w).adv hx1)
 have lt1_0:=M1.out.hi 0
 have lt1_1:=M1.out.hi 1
 have lt1_2:=M1.out.hi 2
 clear hx1
 clear HD
 have t0:decide (D<0)=false:=by simp;omega
 have t1:decide (amt<1)=true:=by simp;omega
 obtain⟨c0,c1,c2⟩:=(M1.out.blk (i:=1) rfl).tri
 obtain⟨d0,df0,d1,df1,d2,df2⟩:=(M1.out.blk (i:=0) rfl).trif
 go_wp2
 clear c0 c1 c2 d0 df0 d1 df1 d2 df2
 have M2:=xQ (((M1.out).put3 (i:=0) rfl (.int .i64 0) (.int .i64 0) (.int .i64 0)))
 generalize hwz:World.setCell _ _ _=wz
 rw[hwz]at M2
 clear hwz M1
 obtain⟨y0,y1,y2⟩:=(M2.out.blk (i:=0) rfl).tri
 exact bodyPost_ret (v:= .tuple #[.agg #[.int .i64 0,.int .i64 0,.int .i64 0],.int .i64 amt,.bool false]) (by simp[results,Tryz.results82,go_sem, *]) rfl ⟨rfl,M2.out.ext⟩
set_option maxRecDepth 100000 in
set_option maxHeartbeats 8000000 in
theorem aC0 (i pd a now f s p c amt D:Int)(w:World)(hD:0≤D)(hD2:D≤693)(hp0:0≤pd)(hp:pd≤9999)
  (HD:Hid (∀w,Calls Tryz.prog 116 #[aS f s p c,bK i pd a,.int .i64 now] w fun e w'=>e= .returned (.int .i64 D)∧Ext w w'))(ha:300<amt):
  Calls Tryz.prog 82 #[aS f s p c,bK i pd a,.int .i64 now,.int .i64 amt] w fun e w'=>e= .returned (.tuple #[bK 0 0 0,.int .i64 amt,.bool false])∧Ext w w':=by
 go_enter Tryz.func82,Tryz.ntmps82
 go_wp2_with fail
 refine(HD.out _).mono ?_
 rintro e w1 ⟨rfl,hx1⟩
 have M1:=xQ ((Mem.b3 w).adv hx1)
 have lt1_0:=M1.out.hi 0
 have lt1_1:=M1.out.hi 1
 have lt1_2:=M1.out.hi 2
 clear hx1
 clear HD
 have t0:decide (D<0)=false:=by simp;omega
 have t1:decide (amt<1)=false:=by simp;omega
 have t2:decide (300<amt)=true:=by simp;omega
 obtain⟨c0,c1,c2⟩:=(M1.out.blk (i:=1) rfl).tri
 obtain⟨d0,df0,d1,df1,d2,df2⟩:=(M1.out.blk (i:=0) rfl).trif
 go_wp2
 clear c0 c1 c2 d0 df0 d1 df1 d2 df2
 have M2:=xQ (((M1.out).put3 (i:=0) rfl (.int .i64 0) (.int .i64 0) (.int .i64 0)))
 generalize hwz:World.setCell _ _ _=wz
 rw[hwz]at M2
 clear hwz M1
 obtain⟨y0,y1,y2⟩:=(M2.out.blk (i:=0) rfl).tri
 exact bodyPost_ret (v:= .tuple #[.agg #[.int .i64 0,.int .i64 0,.int .i64 0],.int .i64 amt,.bool false]) (by simp[results,Tryz.results82,go_sem, *]) rfl ⟨rfl,M2.out.ext⟩
set_option maxRecDepth 100000 in
set_option maxHeartbeats 8000000 in
theorem wF (i pd a now f s p c amt:Int)(w:World)(hp0:0≤pd)(hp:pd≤9999)
  (HD:Hid (∀w,Calls Tryz.prog 116 #[aS f s p c,bK i pd a,.int .i64 now] w fun e w'=>e= .returned (.int .i64 0)∧Ext w w'))(ha:1≤amt)(hb:amt≤300):
  Calls Tryz.prog 82 #[aS f s p c,bK i pd a,.int .i64 now,.int .i64 amt] w fun e w'=>e= .returned (.tuple #[bK i pd a,.int .i64 amt,.bool false])∧Ext w w':=by
 go_enter Tryz.func82,Tryz.ntmps82
 go_wp2_with fail
 refine(HD.out _).mono ?_
 rintro e w1 ⟨rfl,hx1⟩
 have M1:=xQ ((Mem.b3 w).adv hx1)
 have lt1_0:=M1.out.hi 0
 have lt1_1:=M1.out.hi 1
 have lt1_2:=M1.out.hi 2
 clear hx1
 clear HD
 have t1:decide (amt<1)=false:=by simp;omega
 have t2:decide (300<amt)=false:=by simp;omega
 obtain⟨c0,c1,c2⟩:=(M1.out.blk (i:=1) rfl).tri
 obtain⟨d0,df0,d1,df1,d2,df2⟩:=(M1.out.blk (i:=0) rfl).trif
 go_wp2
 clear c0 c1 c2 d0 df0 d1 df1 d2 df2
 have M2:=xQ (((M1.out).put3 (i:=0) rfl (.int .i64 i) (.int .i64 pd) (.int .i64 a)))
 generalize hwz:World.setCell _ _ _=wz
 rw[hwz]at M2
 clear hwz M1
 obtain⟨y0,y1,y2⟩:=(M2.out.blk (i:=0) rfl).tri
 exact bodyPost_ret (v:= .tuple #[.agg #[.int .i64 i,.int .i64 pd,.int .i64 a],.int .i64 amt,.bool false]) (by simp[results,Tryz.results82,go_sem, *]) rfl ⟨rfl,M2.out.ext⟩
set_option maxRecDepth 100000 in
set_option maxHeartbeats 8000000 in
theorem zI (i pd a now f s p c amt D:Int)(w:World)(hD:0≤D)(hD2:D≤693)(hp0:0≤pd)(hp:pd≤9999)
  (HD:Hid (∀w,Calls Tryz.prog 116 #[aS f s p c,bK i pd a,.int .i64 now] w fun e w'=>e= .returned (.int .i64 D)∧Ext w w'))(ha:1≤amt)(hb:amt≤300)(hD1:1≤D):
  Calls Tryz.prog 82 #[aS f s p c,bK i pd a,.int .i64 now,.int .i64 amt] w fun e w'=>e= .returned (.tuple #[bK i (pd+min D amt) now,.int .i64 (amt-min D amt),.bool true])∧Ext w w':=by
 go_enter Tryz.func82,Tryz.ntmps82
 go_wp2_with fail
 refine(HD.out _).mono ?_
 rintro e w1 ⟨rfl,hx1⟩
 have M1:=xQ ((Mem.b3 w).adv hx1)
 have lt1_0:=M1.out.hi 0
 have lt1_1:=M1.out.hi 1
 have lt1_2:=M1.out.hi 2
 clear hx1
 clear HD
 have hmn:min amt D=min D amt:=Int.min_comm _ _
 have k1:IntKind.i64.wrap (pd+min D amt)=pd+min D amt:=IntWalk.i64_in _ (by omega)
 have k2:IntKind.i64.wrap (amt-min D amt)=amt-min D amt:=IntWalk.i64_in _ (by omega)
 have hd1:(D==0)=false:=by simp;omega
 have t0:decide (D<0)=false:=by simp;omega
 have t1:decide (amt<1)=false:=by simp;omega
 have t2:decide (300<amt)=false:=by simp;omega
 obtain⟨c0,c1,c2⟩:=(M1.out.blk (i:=1) rfl).tri
 obtain⟨d0,df0,d1,df1,d2,df2⟩:=(M1.out.blk (i:=0) rfl).trif
 go_wp2
 clear c0 c1 c2 d0 df0 d1 df1 d2 df2
 have M2:=xQ (((M1.out).put3 (i:=0) rfl (.int .i64 i) (.int .i64 (pd+min D amt)) (.int .i64 now)))
 generalize hwz:World.setCell _ _ _=wz
 rw[hwz]at M2
 clear hwz M1
 obtain⟨y0,y1,y2⟩:=(M2.out.blk (i:=0) rfl).tri
 exact bodyPost_ret (v:= .tuple #[.agg #[.int .i64 i,.int .i64 (pd+min D amt),.int .i64 now],.int .i64 (amt-min D amt),.bool true]) (by simp[results,Tryz.results82,go_sem, *]) rfl ⟨rfl,M2.out.ext⟩
theorem wG (f s p c i pd a now amt:Int)(w:World)(h:bD f s p c=true)(h2:cI i pd a=true)(h3:a≤now)(h4:now≤9999):
  Calls Tryz.prog 82 #[aS f s p c,bK i pd a,.int .i64 now,.int .i64 amt] w fun e w'=>e= .returned (.tuple #[bK (eY f s p c i pd a now amt).1.1 (eY f s p c i pd a now amt).1.2.1 (eY f s p c i pd a now amt).1.2.2,.int .i64 (eY f s p c i pd a now amt).2.1,.bool (eY f s p c i pd a now amt).2.2])∧Ext w w':=by
 obtain⟨b1,b2,b3,b4,b5,b6⟩:=eO h2
 obtain⟨e1,e2⟩:=iM h h2 h3 h4
 have HD:=xQ (fun w=>zH f s p c i pd a now w h h2 h3 h4)
 unfold eY
 generalize bS f s p c i pd a now=D at*
 by_cases ha:1≤amt∧amt≤300
 ·rw[if_pos ha]
  by_cases hd:D=0
  ·subst hd
   rw[if_pos rfl]
   exact wF i pd a now f s p c amt w b3 b4 HD ha.1 ha.2
  ·rw[if_neg hd]
   exact zI i pd a now f s p c amt D w e1 e2 b3 b4 HD ha.1 ha.2 (by omega)
 ·rw[if_neg ha]
  by_cases hb:amt<1
  ·exact aBz i pd a now f s p c amt D w e1 e2 b3 b4 HD hb
  ·exact aC0 i pd a now f s p c amt D w e1 e2 b3 b4 HD (by omega)
set_option maxRecDepth 100000 in
set_option maxHeartbeats 8000000 in
theorem wU (w:World)(gA:Nat)(aA aB free step aE aG aD aH id amt:Int)(p:Option Addr)(n cap:Nat)(q:Option Addr)(m c2:Nat)(hA:Hid (Blk w gA aO #[.int .i64 aA,.int .i64 aB,.slice p n cap,.int .i64 free,.int .i64 step,.int .i64 aE,.int .i64 aG,.int .i64 aD,.int .i64 aH,.slice q m c2]))
  (HX:Hid (∀w',Ext w w'→Calls Tryz.prog 81 #[.agg #[.int .i64 aA,.int .i64 aB,.slice p n cap,.int .i64 free,.int .i64 step,.int .i64 aE,.int .i64 aG,.int .i64 aD,.int .i64 aH,.slice q m c2],.int .i64 id] w' fun e w''=>e= .returned (.int .i64 (-1))∧Ext w' w'')):
  Calls Tryz.prog 43 #[.pointer (some ⟨gA,0,none⟩),.int .i64 id,.int .i64 amt] w fun e w'=>e= .returned (.tuple #[.int .i64 (-1),.bool false])∧Ext w w':=by
 obtain⟨a0,a1,a2,a3,a4,a5,a6,a7,a8,a9⟩:=hA.out.ten
 have hlt:=hA.out.lt
 go_enter Tryz.func43,Tryz.ntmps43
 go_wp2_with fail
 clear a0 a1 a2 a3 a4 a5 a6 a7 a8 a9
 refine(HX.out _ (Ext.refl _)).mono ?_
 rintro e w1 ⟨rfl,hx⟩
 have hX:=xQ hx
 clear hx
 go_wp2
 exact bodyPost_ret (v:= .tuple #[.int .i64 (-1),.bool false]) (by simp[results,Tryz.results43,go_sem, *]) rfl ⟨rfl,hX.out⟩
set_option maxRecDepth 100000 in
set_option maxHeartbeats 8000000 in
theorem wT (w0 w:World)(R:Item)(gA gq:Nat)(aA aB free step aE aG aD aH id amt:Int)(p:Option Addr)(n cap m c2 k:Nat)(xs:List Int)(vs:List aQ)(a0 a1 a2 a3 S1 S2 S3 bk:Int)(okb:Bool)(hk:k<m)(hm:m≤1000)(hbn:0≤aH)(hbn2:aH≤99999)(hok:okb=true→0≤bk∧bk≤amt∧amt≤300)(HV0:Hid (vs[k]? =some (a0,a1,a2,a3)))
  (hM:Hid (Mem w0 w [aJ w0.heap.size TI 1 (p) (n) (cap) (ivs xs),aJ w0.heap.size TV 4 (some ⟨gq,0,none⟩) (m) (c2) ((vs).flatMap aC),aF w0.heap.size (gA) aO #[.int .i64 aA,.int .i64 aB,.slice p n cap,.int .i64 free,.int .i64 step,.int .i64 aE,.int .i64 aG,.int .i64 aD,.int .i64 aH,.slice (some ⟨gq,0,none⟩) m c2],R]))
  (HX:Hid (∀w',Ext w w'→Calls Tryz.prog 81 #[.agg #[.int .i64 aA,.int .i64 aB,.slice p n cap,.int .i64 free,.int .i64 step,.int .i64 aE,.int .i64 aG,.int .i64 aD,.int .i64 aH,.slice (some ⟨gq,0,none⟩) m c2],.int .i64 id] w' fun e w''=>e= .returned (.int .i64 (k:Int))∧Ext w' w''))
  (HP:Hid (∀w',Calls Tryz.prog 82 #[aS free step aE aG,bK a1 a2 a3,.int .i64 aD,.int .i64 amt] w' fun e w''=>e= .returned (.tuple #[bK S1 S2 S3,.int .i64 bk,.bool okb])∧Ext w' w'')):
  Calls Tryz.prog 43 #[.pointer (some ⟨gA,0,none⟩),.int .i64 id,.int .i64 amt] w fun e w'=>(e= .returned (.tuple #[.int .i64 (-1),.bool false])∧ ¬(okb=true∧aH+amt-bk≤99999)∧Ext w w')∨
   (okb=true∧aH+amt-bk≤99999∧e= .returned (.tuple #[.int .i64 bk,.bool true])∧Mem w0 w' [aJ w0.heap.size TI 1 (p) (n) (cap) (ivs xs),aJ w0.heap.size TV 4 (some ⟨gq,0,none⟩) (m) (c2) ((vs.set k (a0,S1,S2,S3)).flatMap aC),aF w0.heap.size (gA) aO #[.int .i64 aA,.int .i64 aB,.slice p n cap,.int .i64 free,.int .i64 step,.int .i64 aE,.int .i64 aG,.int .i64 aD,.int .i64 (aH+amt-bk),.slice (some ⟨gq,0,none⟩) m c2],R]):=by
 go_enter Tryz.func43,Tryz.ntmps43
 have lt0_2:gA<w.heap.size:=(hM.out.lt (i:=2) rfl rfl).2
 have hgq:=(hM.out.lt (i:=1) (g:=gq) rfl rfl).2
 have g1:w.cell? ⟨gq,k*4+1,none⟩=some (.int .i64 a1):=((hM.out.own (i:=1) rfl).cellAt (k*4+1) (by omega)).trans (dF aC 4 (fun _=>rfl) vs k _ HV0.out 1 (by omega))
 have g2:w.cell? ⟨gq,k*4+2,none⟩=some (.int .i64 a2):=((hM.out.own (i:=1) rfl).cellAt (k*4+2) (by omega)).trans (dF aC 4 (fun _=>rfl) vs k _ HV0.out 2 (by omega))
 have g3:w.cell? ⟨gq,k*4+3,none⟩=some (.int .i64 a3):=((hM.out.own (i:=1) rfl).cellAt (k*4+3) (by omega)).trans (dF aC 4 (fun _=>rfl) vs k _ HV0.out 3 (by omega))
 obtain⟨z0,z1,z2,z3,z4,z5,z6,z7,z8,z9⟩:=(hM.out.blk (i:=2) rfl).ten
 go_wp2_with fail
 clear z0 z1 z2 z3 z4 z5 z6 z7 z8 z9
 refine(HX.out _ (Ext.refl _)).mono ?_
 rintro e w2 ⟨rfl,hx1⟩
 have hX1:=xQ hx1
 have M2:=xQ (hM.out.adv hx1)
 clear hx1 HX
 have hgA:=(M2.out.lt (i:=2) rfl rfl).2
 have hb2:gq<w2.heap.size:=Nat.lt_of_lt_of_le hgq hX1.out.sz
 have g1':w2.cell? ⟨gq,k*4+1,none⟩=some (.int .i64 a1):=(hX1.out.cells.1 _ _ hgq).trans g1
 have g2':w2.cell? ⟨gq,k*4+2,none⟩=some (.int .i64 a2):=(hX1.out.cells.1 _ _ hgq).trans g2
 have g3':w2.cell? ⟨gq,k*4+3,none⟩=some (.int .i64 a3):=(hX1.out.cells.1 _ _ hgq).trans g3
 clear g1 g2 g3
 obtain⟨ce0,ce1,ce2,ce3,ce4,ce5,ce6,ce7,ce8,ce9⟩:=(M2.out.blk (i:=2) rfl).ten
 have i1:(0:Int)≤(k:Int):=by omega
 have i2:(k:Int)<(m:Int):=by omega
 have t0: ¬((k:Int)<0):=by omega
 have n1: ¬(gA=w2.heap.size):=by omega
 have n2: ¬(w2.heap.size=gA):=by omega
 have n3: ¬(gq=w2.heap.size):=by omega
 have n4: ¬(w2.heap.size=gq):=by omega
 go_upto_region 4 with fail
 go_cut [9,10,11] (fun s11 s12 s13 wx=> ∃a:Nat,s11= .pointer (some ⟨a,0,none⟩)∧s12= .int .i64 bk∧s13= .bool okb∧Ext w2 wx∧w2.heap.size≤a∧Blk wx a TS3 #[.int .i64 S1,.int .i64 S2,.int .i64 S3])
 case first=>
  go_region_held3 (fun w'=>w'.cell? ⟨gA,3,none⟩=some (.int .i64 free)∧w'.cell? ⟨gA,4,none⟩=some (.int .i64 step)∧w'.cell? ⟨gA,5,none⟩=some (.int .i64 aE)∧w'.cell? ⟨gA,6,none⟩=some (.int .i64 aG)∧w'.cell? ⟨gA,7,none⟩=some (.int .i64 aD)∧w'.cell? ⟨gA,9,none⟩=some (.slice (some ⟨gq,0,none⟩) m c2)∧w'.cell? ⟨gq,k*4+1,none⟩=some (.int .i64 a1)∧w'.cell? ⟨gq,k*4+2,none⟩=some (.int .i64 a2)∧w'.cell? ⟨gq,k*4+3,none⟩=some (.int .i64 a3))
   (first|(refine⟨?_,?_,?_,?_,?_,?_,?_,?_,?_⟩<;>assumption)|go_keep)
   ((go_at_call 82
     refine(HP.out _).mono ?_
     rintro e w5 ⟨rfl,hx5⟩
     have hy5:Ext w2 w5:=xE
     have gg3:w5.cell? ⟨gA,3,none⟩=some (.int .i64 free):=((M2.out.blk (i:=2) rfl).ext hy5).cell 3
     have gg4:w5.cell? ⟨gA,4,none⟩=some (.int .i64 step):=((M2.out.blk (i:=2) rfl).ext hy5).cell 4
     have gg5:w5.cell? ⟨gA,5,none⟩=some (.int .i64 aE):=((M2.out.blk (i:=2) rfl).ext hy5).cell 5
     have gg6:w5.cell? ⟨gA,6,none⟩=some (.int .i64 aG):=((M2.out.blk (i:=2) rfl).ext hy5).cell 6
     have gg7:w5.cell? ⟨gA,7,none⟩=some (.int .i64 aD):=((M2.out.blk (i:=2) rfl).ext hy5).cell 7
     have gg9:w5.cell? ⟨gA,9,none⟩=some (.slice (some ⟨gq,0,none⟩) m c2):=((M2.out.blk (i:=2) rfl).ext hy5).cell 9
     have gv1:w5.cell? ⟨gq,k*4+1,none⟩=some (.int .i64 a1):=(hy5.cells.1 _ _ hb2).trans g1'
     have gv2:w5.cell? ⟨gq,k*4+2,none⟩=some (.int .i64 a2):=(hy5.cells.1 _ _ hb2).trans g2'
     have gv3:w5.cell? ⟨gq,k*4+3,none⟩=some (.int .i64 a3):=(hy5.cells.1 _ _ hb2).trans g3'
     first
      |(have hz5:Ext (w2.alloc (.cells #[.int .i64 0,.int .i64 0,.int .i64 0] TS3)) w5:=hx5
        have BB:=(Blk.new w2 TS3 #[.int .i64 0,.int .i64 0,.int .i64 0]).ext hz5
        have zc0:w5.cell? ⟨w2.heap.size,0,none⟩=some (.int .i64 0):=BB.cell 0
        have zf0:w5.frozen? ⟨w2.heap.size,0,none⟩=false:=BB.frozen 0
        have zc1:w5.cell? ⟨w2.heap.size,1,none⟩=some (.int .i64 0):=BB.cell 1
        have zf1:w5.frozen? ⟨w2.heap.size,1,none⟩=false:=BB.frozen 1
        have zc2:w5.cell? ⟨w2.heap.size,2,none⟩=some (.int .i64 0):=BB.cell 2
        have zf2:w5.frozen? ⟨w2.heap.size,2,none⟩=false:=BB.frozen 2)
      |(have hz5:Ext (w2.alloc (.cells #[.int .i64 0,.int .i64 0,.int .i64 0] TS3)) w5:=hx5.of_drew
        have BB:=(Blk.new w2 TS3 #[.int .i64 0,.int .i64 0,.int .i64 0]).ext hz5
        have zc0:w5.cell? ⟨w2.heap.size,0,none⟩=some (.int .i64 0):=BB.cell 0
        have zf0:w5.frozen? ⟨w2.heap.size,0,none⟩=false:=BB.frozen 0
        have zc1:w5.cell? ⟨w2.heap.size,1,none⟩=some (.int .i64 0):=BB.cell 1
        have zf1:w5.frozen? ⟨w2.heap.size,1,none⟩=false:=BB.frozen 1
        have zc2:w5.cell? ⟨w2.heap.size,2,none⟩=some (.int .i64 0):=BB.cell 2
        have zf2:w5.frozen? ⟨w2.heap.size,2,none⟩=false:=BB.frozen 2)
      |skip))
  ·go_wp2_with fail
   go_meet
   exact⟨w5.heap.size,rfl,rfl,rfl,xE,by have:=hy5.sz;omega,Blk.new _ _ _⟩
  ·have hR:ExtR w2.heap.size w5 _:=(((ExtR.refl w2.heap.size w5).setCell (p:=⟨w2.heap.size,0,none⟩) (.inl rfl) (.int .i64 S1)).setCell (p:=⟨w2.heap.size,1,none⟩) (.inl rfl) (.int .i64 S2)).setCell (p:=⟨w2.heap.size,2,none⟩) (.inl rfl) (.int .i64 S3)
   have hY:=((BB.set 0 (.int .i64 S1)).set 1 (.int .i64 S2)).set 2 (.int .i64 S3)
   simp only[List.setIfInBounds_toArray,List.set_cons_zero,List.set_cons_succ]at hY
   go_wp2_with fail
   go_meet
   exact⟨w2.heap.size,rfl,rfl,rfl,ExtR.new hy5 hR (Nat.le_refl _),Nat.le_refl _,hY⟩
 case rest=>
  clear ce0 ce1 ce2 ce3 ce4 ce5 ce6 ce7 ce8 ce9 g1' g2' g3' HP n1 n2 n3 n4
  obtain⟨a,rfl,rfl,rfl,hE5,ha,hBa⟩:=hcut
  have hXC:=xQ (hX1.out.trans hE5)
  have M3:=xQ (M2.out.blkOf hE5 hBa ha)
  clear M2
  have lt3_0:=M3.out.hi 0
  have lt3_3:=M3.out.hi 3
  clear hE5 ha hBa
  cases okb with
  |false=>
   have hno:Hid (¬(false=true∧aH+amt-bk≤99999)):=by show¬_;simp
   go_wp2
   exact bodyPost_ret (v:= .tuple #[.int .i64 (-1),.bool false]) (by simp[results,Tryz.results43,go_sem, *]) rfl (by
    have hno2:=hno.out
    first|exact .inl ⟨rfl,hno2,hXC.out⟩|exact .inl ⟨rfl,by omega,hXC.out⟩|exact .inl ⟨by omega,hXC.out⟩|exact .inl ⟨rfl,hXC.out⟩|exact .inl hXC.out|exact hXC.out|(simp at hno2;first|exact .inl ⟨rfl,hno2,hXC.out⟩|exact .inl ⟨hno2,hXC.out⟩|exact .inl ⟨rfl,by omega,hXC.out⟩|exact .inl ⟨by omega,hXC.out⟩))
  |true=>
   obtain⟨o1,o2,o3⟩:=hok rfl
   have k1:IntKind.i64.wrap (aH+amt)=aH+amt:=IntWalk.i64_in _ (by omega)
   have k2:IntKind.i64.wrap (aH+amt-bk)=aH+amt-bk:=IntWalk.i64_in _ (by omega)
   have k3:IntKind.i64.wrap (amt-bk)=amt-bk:=IntWalk.i64_in _ (by omega)
   have k4:IntKind.i64.wrap (aH+(amt-bk))=aH+amt-bk:=by rw[IntWalk.i64_in _ (by omega)];omega
   have h8:wc.cell? ⟨gA,8,none⟩=some (.int .i64 aH):=(M3.out.blk (i:=3) rfl).cell 8
   by_cases hq:aH+amt-bk≤99999
   ·have hd:decide (99999<aH+amt-bk)=false:=by simp;omega
    have hqq:=xQ hq
    clear hq
    go_upto_region 7 with fail
    clear h8
    have d9:wc.cell? ⟨gA,9,none⟩=some (.slice (some ⟨gq,0,none⟩) m c2):=(M3.out.blk (i:=3) rfl).cell 9
    obtain⟨sa0,sa1,sa2⟩:=(M3.out.blk (i:=0) rfl).tri
    have y1:wc.cell? ⟨gq,k*4+1,none⟩=some (.int .i64 a1):=((M3.out.own (i:=2) rfl).cellAt (k*4+1) (by omega)).trans (dF aC 4 (fun _=>rfl) vs k _ HV0.out 1 (by omega))
    have z1:wc.frozen? ⟨gq,k*4+1,none⟩=false:=(M3.out.own (i:=2) rfl).frozenAt (k*4+1)
    have y2:wc.cell? ⟨gq,k*4+2,none⟩=some (.int .i64 a2):=((M3.out.own (i:=2) rfl).cellAt (k*4+2) (by omega)).trans (dF aC 4 (fun _=>rfl) vs k _ HV0.out 2 (by omega))
    have z2:wc.frozen? ⟨gq,k*4+2,none⟩=false:=(M3.out.own (i:=2) rfl).frozenAt (k*4+2)
    have y3:wc.cell? ⟨gq,k*4+3,none⟩=some (.int .i64 a3):=((M3.out.own (i:=2) rfl).cellAt (k*4+3) (by omega)).trans (dF aC 4 (fun _=>rfl) vs k _ HV0.out 3 (by omega))
    have z3:wc.frozen? ⟨gq,k*4+3,none⟩=false:=(M3.out.own (i:=2) rfl).frozenAt (k*4+3)
    have ne0_1a: ¬(a=gA):=M3.out.ne (i:=0) (j:=3) (by omega) rfl rfl rfl rfl
    have ne0_1b: ¬(gA=a):=fun h=>ne0_1a h.symm
    have ne0_2a: ¬(gq=gA):=M3.out.ne (i:=2) (j:=3) (by omega) rfl rfl rfl rfl
    have ne0_2b: ¬(gA=gq):=fun h=>ne0_2a h.symm
    have ne1_2a: ¬(a=gq):=M3.out.ne (i:=0) (j:=2) (by omega) rfl rfl rfl rfl
    have ne1_2b: ¬(gq=a):=fun h=>ne1_2a h.symm
    go_region
    clear d9 sa0 sa1 sa2 y1 z1 y2 z2 y3 z3 ne0_1a ne0_1b ne0_2a ne0_2b ne1_2a ne1_2b
    have hfl:Hid ((((vs.flatMap aC).set (k*4+1) (.int .i64 S1)).set (k*4+2) (.int .i64 S2)).set (k*4+3) (.int .i64 S3)=(vs.set k (a0,S1,S2,S3)).flatMap aC):=rW HV0.out S1 S2 S3
    have MX:=xQ (show Mem w0 (((wc.setCell ⟨gq,k*4+1,none⟩ (.int .i64 S1)).setCell ⟨gq,k*4+2,none⟩ (.int .i64 S2)).setCell ⟨gq,k*4+3,none⟩ (.int .i64 S3)).drew [aF w0.heap.size (a) TS3 #[.int .i64 S1,.int .i64 S2,.int .i64 S3],aJ w0.heap.size TI 1 (p) (n) (cap) (ivs xs),aJ w0.heap.size TV 4 (some ⟨gq,0,none⟩) (m) (c2) ((vs.set k (a0,S1,S2,S3)).flatMap aC),aF w0.heap.size (gA) aO #[.int .i64 aA,.int .i64 aB,.slice p n cap,.int .i64 free,.int .i64 step,.int .i64 aE,.int .i64 aG,.int .i64 aD,.int .i64 aH,.slice (some ⟨gq,0,none⟩) m c2],R]from by rw[←hfl.out];exact(((M3.out.ostore (i:=2) rfl (k*4+1) (.int .i64 S1)).ostore (i:=2) rfl (k*4+2) (.int .i64 S2)).ostore (i:=2) rfl (k*4+3) (.int .i64 S3)).adv (Ext.drew (Ext.refl _)))
    generalize hw7:World.drew _=w7
    rw[hw7]at MX
    clear hw7 M3 lt3_0 lt3_3
    have lt9_0:a<w7.heap.size:=(MX.out.lt (i:=0) rfl rfl).2
    have lt9_3:gA<w7.heap.size:=(MX.out.lt (i:=3) rfl rfl).2
    have d8:w7.cell? ⟨gA,8,none⟩=some (.int .i64 aH):=(MX.out.blk (i:=3) rfl).cell 8
    have df8:w7.frozen? ⟨gA,8,none⟩=false:=(MX.out.blk (i:=3) rfl).frozen 8
    go_wp2
    clear d8 df8
    exact bodyPost_ret (v:= .tuple #[.int .i64 bk,.bool true]) (by simp[results,Tryz.results43,go_sem, *]) rfl (by have hfin:Hid (Mem w0 _ [aJ w0.heap.size TI 1 (p) (n) (cap) (ivs xs),aJ w0.heap.size TV 4 (some ⟨gq,0,none⟩) (m) (c2) ((vs.set k (a0,S1,S2,S3)).flatMap aC),aF w0.heap.size (gA) aO #[.int .i64 aA,.int .i64 aB,.slice p n cap,.int .i64 free,.int .i64 step,.int .i64 aE,.int .i64 aG,.int .i64 aD,.int .i64 (aH+amt-bk),.slice (some ⟨gq,0,none⟩) m c2],R]):=((((MX.out).store (i:=3) rfl 8 (.int .i64 (aH+amt-bk)))).pick [1,2,3,4] (by decide) rfl);first|exact .inr ⟨rfl,hqq.out,rfl,hfin.out⟩|exact .inr ⟨hqq.out,rfl,hfin.out⟩|exact .inr ⟨hqq.out,hfin.out⟩)
   ·have hno:Hid (¬(true=true∧aH+amt-bk≤99999)):=by show¬_;simp[hq]
    have hd:decide (99999<aH+amt-bk)=true:=by simp;omega
    go_wp2
    exact bodyPost_ret (v:= .tuple #[.int .i64 (-1),.bool false]) (by simp[results,Tryz.results43,go_sem, *]) rfl (by
     have hno2:=hno.out
     first|exact .inl ⟨rfl,hno2,hXC.out⟩|exact .inl ⟨rfl,by omega,hXC.out⟩|exact .inl ⟨by omega,hXC.out⟩|exact .inl ⟨rfl,hXC.out⟩|exact .inl hXC.out|exact hXC.out|(simp at hno2;first|exact .inl ⟨rfl,hno2,hXC.out⟩|exact .inl ⟨hno2,hXC.out⟩|exact .inl ⟨rfl,by omega,hXC.out⟩|exact .inl ⟨by omega,hXC.out⟩))
set_option maxRecDepth 100000 in
set_option maxHeartbeats 8000000 in
theorem zS (w:World)(gA:Nat)(aA aB free step aE aG aD aH id slides:Int)(p:Option Addr)(n cap:Nat)(q:Option Addr)(m c2:Nat)(hA:Hid (Blk w gA aO #[.int .i64 aA,.int .i64 aB,.slice p n cap,.int .i64 free,.int .i64 step,.int .i64 aE,.int .i64 aG,.int .i64 aD,.int .i64 aH,.slice q m c2]))
  (HMY:Hid (∀w',Ext w w'→Calls Tryz.prog 83 #[.agg #[.int .i64 aA,.int .i64 aB,.slice p n cap,.int .i64 free,.int .i64 step,.int .i64 aE,.int .i64 aG,.int .i64 aD,.int .i64 aH,.slice q m c2],.int .i64 id] w' fun e w''=>e= .returned (.bool false)∧Ext w' w'')):
  Calls Tryz.prog 44 #[.pointer (some ⟨gA,0,none⟩),.int .i64 id] w fun e w'=>e= .returned (.tuple #[.int .i64 (-1),.bool false])∧Ext w w':=by
 go_enter Tryz.func44,Tryz.ntmps44
 obtain⟨a0,a1,a2,a3,a4,a5,a6,a7,a8,a9⟩:=hA.out.ten
 have hlt:=hA.out.lt
 go_wp2_with fail
 clear a0 a1 a2 a3 a4 a5 a6 a7 a8 a9
 refine(HMY.out _ (Ext.refl _)).mono ?_
 rintro e w1 ⟨rfl,hx⟩
 have hX:=xQ hx
 clear hx
 go_wp2
 exact bodyPost_ret (v:= .tuple #[.int .i64 (-1),.bool false]) (by simp[results,Tryz.results44,go_sem, *]) rfl ⟨rfl,hX.out⟩
set_option maxRecDepth 100000 in
set_option maxHeartbeats 8000000 in
theorem aC7 (w:World)(gA:Nat)(aA aB free step aE aG aD aH id slides:Int)(p:Option Addr)(n cap:Nat)(q:Option Addr)(m c2:Nat)(ys:List Int)(h0:slides<0)(hA:Hid (Blk w gA aO #[.int .i64 aA,.int .i64 aB,.slice p n cap,.int .i64 free,.int .i64 step,.int .i64 aE,.int .i64 aG,.int .i64 aD,.int .i64 aH,.slice q m c2]))
  (HMY:Hid (∀w',Ext w w'→Calls Tryz.prog 83 #[.agg #[.int .i64 aA,.int .i64 aB,.slice p n cap,.int .i64 free,.int .i64 step,.int .i64 aE,.int .i64 aG,.int .i64 aD,.int .i64 aH,.slice q m c2],.int .i64 id] w' fun e w''=>e= .returned (.bool true)∧Ext w' w''))
  (HF:Hid (∀w',Ext w w'→Calls Tryz.prog 84 #[aK aA aB p n cap,.int .i64 id] w' fun e w''=> ∃q c,e= .returned (.tuple #[aK aA aB q n c,.int .i64 slides])∧w''.ownsRow w'.heap.size TI 1 (.slice q n c) n (ivs ys)∧Ext w' w'')):
  Calls Tryz.prog 44 #[.pointer (some ⟨gA,0,none⟩),.int .i64 id] w fun e w'=>e= .returned (.tuple #[.int .i64 (-1),.bool false])∧Ext w w':=by
 go_enter Tryz.func44,Tryz.ntmps44
 obtain⟨a0,a1,a2,a3,a4,a5,a6,a7,a8,a9⟩:=hA.out.ten
 have hlt:=hA.out.lt
 go_wp2_with fail
 clear a0 a1 a2 a3 a4 a5 a6 a7 a8 a9
 refine(HMY.out _ (Ext.refl _)).mono ?_
 rintro e w1 ⟨rfl,hx⟩
 have hX:=xQ hx
 clear hx
 obtain⟨a0,a1,a2,a3,a4,a5,a6,a7,a8,a9⟩:=(hA.out.ext hX.out).ten
 go_wp2_with fail
 clear a0 a1 a2 a3 a4 a5 a6 a7 a8 a9
 refine(HF.out _ hX.out).mono ?_
 rintro e w2 ⟨p1,c1,rfl,_,hx2⟩
 have hX2:=xQ (hX.out.trans hx2)
 clear hx2
 go_wp2
 exact bodyPost_ret (v:= .tuple #[.int .i64 (-1),.bool false]) (by simp[results,Tryz.results44,go_sem, *]) rfl ⟨rfl,by have:=hX2.out;exact xE⟩
set_option maxRecDepth 100000 in
set_option maxHeartbeats 8000000 in
theorem zR (w0 w:World)(R:Item)(gA:Nat)(aA aB free step aE aG aD aH id slides:Int)(p:Option Addr)(n cap:Nat)(gq:Nat)(m c2:Nat)(k:Nat)(xs ys:List Int)(vs:List aQ)(hk:k<m)(hm:m≤1000)(h0:0≤slides)(hM:Hid (Mem w0 w [aJ w0.heap.size TI 1 (p) (n) (cap) (ivs (xs)),aJ w0.heap.size TV 4 (some ⟨gq,0,none⟩) (m) (c2) ((vs).flatMap aC),aF w0.heap.size (gA) aO #[.int .i64 aA,.int .i64 aB,.slice p n cap,.int .i64 free,.int .i64 step,.int .i64 aE,.int .i64 aG,.int .i64 aD,.int .i64 aH,.slice (some ⟨gq,0,none⟩) m c2],R]))
  (HMY:Hid (∀w',Ext w w'→Calls Tryz.prog 83 #[.agg #[.int .i64 aA,.int .i64 aB,.slice p n cap,.int .i64 free,.int .i64 step,.int .i64 aE,.int .i64 aG,.int .i64 aD,.int .i64 aH,.slice (some ⟨gq,0,none⟩) m c2],.int .i64 id] w' fun e w''=>e= .returned (.bool true)∧Ext w' w''))
  (HF:Hid (∀w',Ext w w'→Calls Tryz.prog 84 #[aK aA aB p n cap,.int .i64 id] w' fun e w''=> ∃q c,e= .returned (.tuple #[aK aA aB q n c,.int .i64 slides])∧w''.ownsRow w'.heap.size TI 1 (.slice q n c) n (ivs ys)∧Ext w' w''))
  (HX:Hid (∀w' p' cap',Sl w' (some ⟨gq,0,none⟩) m c2 4 (vs.flatMap aC)→Calls Tryz.prog 81 #[.agg #[.int .i64 aA,.int .i64 aB,.slice p' n cap',.int .i64 free,.int .i64 step,.int .i64 aE,.int .i64 aG,.int .i64 aD,.int .i64 aH,.slice (some ⟨gq,0,none⟩) m c2],.int .i64 id] w' fun e w''=>e= .returned (.int .i64 (k:Int))∧Ext w' w'')):
  Calls Tryz.prog 44 #[.pointer (some ⟨gA,0,none⟩),.int .i64 id] w fun e w'=> ∃p1 c1,e= .returned (.tuple #[.int .i64 slides,.bool true])∧Mem w0 w' [aJ w0.heap.size TI 1 (p1) (n) (c1) (ivs (ys)),aJ w0.heap.size TV 4 (some ⟨gq,0,none⟩) ((m-1)) (c2) ((vs.eraseIdx k).flatMap aC),aF w0.heap.size (gA) aO #[.int .i64 aA,.int .i64 aB,.slice p1 n c1,.int .i64 free,.int .i64 step,.int .i64 aE,.int .i64 aG,.int .i64 aD,.int .i64 aH,.slice (some ⟨gq,0,none⟩) (m-1) c2],R]:=by
 go_enter Tryz.func44,Tryz.ntmps44
 have lt0_2:gA<w.heap.size:=(hM.out.lt (i:=2) rfl rfl).2
 obtain⟨a0,a1,a2,a3,a4,a5,a6,a7,a8,a9⟩:=(hM.out.blk (i:=2) rfl).ten
 go_wp2_with fail
 clear a0 a1 a2 a3 a4 a5 a6 a7 a8 a9
 refine(HMY.out _ (Ext.refl _)).mono ?_
 rintro e w1 ⟨rfl,hx1⟩
 have hX1:=xQ hx1
 have M1:=xQ (hM.out.adv hx1)
 clear hM
 clear lt0_2
 have lt1_2:=M1.out.hi 2
 clear hx1
 have a0:w1.cell? ⟨gA,0,none⟩=some (.int .i64 aA):=(M1.out.blk (i:=2) rfl).cell 0
 have a1:w1.cell? ⟨gA,1,none⟩=some (.int .i64 aB):=(M1.out.blk (i:=2) rfl).cell 1
 have a2:w1.cell? ⟨gA,2,none⟩=some (.slice p n cap):=(M1.out.blk (i:=2) rfl).cell 2
 go_wp2_with fail
 clear a0 a1 a2
 refine(HF.out _ hX1.out).mono ?_
 rintro e w2 ⟨p1,c1,rfl,ho2,hx2⟩
 have M2:=xQ ((M1.out).call hx2 ho2)
 clear M1
 clear lt1_2
 have lt2_3:=M2.out.hi 3
 clear hx2 ho2
 go_upto_region 4 with fail
 obtain⟨gV,hgV⟩: ∃gV,gV=w2.heap.size:=⟨_,rfl⟩
 rw[←hgV]
 have M3:=xQ (((M2.out).blkNew TH3 #[.int .i64 aA,.int .i64 aB,.slice p1 n c1] gV hgV.symm))
 generalize World.alloc _ _=w3 at M3⊢
 clear M2
 clear lt2_3
 have lt3_0:=M3.out.hi 0
 have lt3_4:=M3.out.hi 4
 clear hgV
 have t0: ¬(slides<0):=by omega
 obtain⟨v0,v1,v2⟩:=(M3.out.blk (i:=0) rfl).tri
 have a0:w3.cell? ⟨gA,0,none⟩=some (.int .i64 aA):=(M3.out.blk (i:=4) rfl).cell 0
 have af0:w3.frozen? ⟨gA,0,none⟩=false:=(M3.out.blk (i:=4) rfl).frozen 0
 have a1:w3.cell? ⟨gA,1,none⟩=some (.int .i64 aB):=(M3.out.blk (i:=4) rfl).cell 1
 have af1:w3.frozen? ⟨gA,1,none⟩=false:=(M3.out.blk (i:=4) rfl).frozen 1
 have a2:w3.cell? ⟨gA,2,none⟩=some (.slice p n cap):=(M3.out.blk (i:=4) rfl).cell 2
 have af2:w3.frozen? ⟨gA,2,none⟩=false:=(M3.out.blk (i:=4) rfl).frozen 2
 have ne0_1a: ¬(gV=gA):=M3.out.ne (i:=0) (j:=4) (by omega) rfl rfl rfl rfl
 have ne0_1b: ¬(gA=gV):=fun h=>ne0_1a h.symm
 go_upto_region 7 with fail
 clear v0 v1 v2 a0 af0 a1 af1 a2 af2 ne0_1a ne0_1b
 have M4:=xQ (show Mem w0 ((w3.setCell ⟨gA,0,none⟩ (.int .i64 aA)).setCell ⟨gA,1,none⟩ (.int .i64 aB)) [aF w0.heap.size (gV) TH3 #[.int .i64 aA,.int .i64 aB,.slice p1 n c1],aJ w0.heap.size TI 1 (p1) (n) (c1) (ivs (ys)),aJ w0.heap.size TI 1 (p) (n) (cap) (ivs (xs)),aJ w0.heap.size TV 4 (some ⟨gq,0,none⟩) (m) (c2) ((vs).flatMap aC),aF w0.heap.size (gA) aO #[.int .i64 aA,.int .i64 aB,.slice p n cap,.int .i64 free,.int .i64 step,.int .i64 aE,.int .i64 aG,.int .i64 aD,.int .i64 aH,.slice (some ⟨gq,0,none⟩) m c2],R]from((((M3.out).store (i:=4) rfl 0 (.int .i64 aA))).store (i:=4) rfl 1 (.int .i64 aB)))
 have M5:=xQ (show Mem w0 (((w3.setCell ⟨gA,0,none⟩ (.int .i64 aA)).setCell ⟨gA,1,none⟩ (.int .i64 aB)).setCell ⟨gA,2,none⟩ (.slice p1 n c1)) [aF w0.heap.size (gV) TH3 #[.int .i64 aA,.int .i64 aB,.slice p1 n c1],aJ w0.heap.size TI 1 (p1) (n) (c1) (ivs (ys)),aJ w0.heap.size TI 1 (p) (n) (cap) (ivs (xs)),aJ w0.heap.size TV 4 (some ⟨gq,0,none⟩) (m) (c2) ((vs).flatMap aC),aF w0.heap.size (gA) aO #[.int .i64 aA,.int .i64 aB,.slice p1 n c1,.int .i64 free,.int .i64 step,.int .i64 aE,.int .i64 aG,.int .i64 aD,.int .i64 aH,.slice (some ⟨gq,0,none⟩) m c2],R]from((M4.out).store (i:=4) rfl 2 (.slice p1 n c1)))
 have M6:=xQ (M5.out)
 generalize hwz:World.setCell _ _ _=w5
 rw[hwz]at M6
 clear hwz M3 M4 M5
 have MW6:=xQ (show Mem w0 w5 [aJ w0.heap.size TI 1 (p1) (n) (c1) (ivs (ys)),aJ w0.heap.size TV 4 (some ⟨gq,0,none⟩) (m) (c2) ((vs).flatMap aC),aF w0.heap.size (gA) aO #[.int .i64 aA,.int .i64 aB,.slice p1 n c1,.int .i64 free,.int .i64 step,.int .i64 aE,.int .i64 aG,.int .i64 aD,.int .i64 aH,.slice (some ⟨gq,0,none⟩) m c2],R]from((M6.out).pick [1,3,4,5] (by decide) rfl))
 clear M6
 have lt16_2:gA<w5.heap.size:=(MW6.out.lt (i:=2) rfl rfl).2
 obtain⟨a0,a1,a2,a3,a4,a5,a6,a7,a8,a9⟩:=(MW6.out.blk (i:=2) rfl).ten
 go_wp2_with fail
 clear a0 a1 a2 a3 a4 a5 a6 a7 a8 a9
 have hVS:=xQ (MW6.out.sl (i:=1) rfl)
 refine(HX.out _ _ _ hVS.out).mono ?_
 rintro e w17 ⟨rfl,hx17⟩
 have M17:=xQ ((MW6.out).adv hx17)
 clear MW6
 clear lt16_2
 have lt17_2:=M17.out.hi 2
 clear hx17
 clear hVS
 have HDL:=xQ (aEu gq m c2 w0.heap.size k (k+1) vs w17 (by omega) hk rfl (M17.out.own (i:=1) rfl))
 rw[show((k+1:Nat):Int)=(k:Int)+1 by omega]at HDL
 have hwi:IntKind.i64.wrap ((k:Int)+1)=(k:Int)+1:=IntWalk.i64_in _ (by omega)
 have a9:w17.cell? ⟨gA,9,none⟩=some (.slice (some ⟨gq,0,none⟩) m c2):=(M17.out.blk (i:=2) rfl).cell 9
 go_wp2_with fail
 clear a9
 refine(HDL.out).mono ?_
 rintro e w8 ⟨rfl,ho8,hg8⟩
 have M18:=xQ (show Mem w0 w8 [aJ w0.heap.size TI 1 (p1) (n) (c1) (ivs (ys)),aJ w0.heap.size TV 4 (some ⟨gq,0,none⟩) ((m-1)) (c2) ((vs.eraseIdx k).flatMap aC),aF w0.heap.size (gA) aO #[.int .i64 aA,.int .i64 aB,.slice p1 n c1,.int .i64 free,.int .i64 step,.int .i64 aE,.int .i64 aG,.int .i64 aD,.int .i64 aH,.slice (some ⟨gq,0,none⟩) m c2],R]from M17.out.app (i:=1) rfl ho8 hg8 (.inl rfl))
 clear M17
 clear lt17_2
 have lt18_2:=M18.out.hi 2
 clear ho8 hg8 HDL
 have a9:w8.cell? ⟨gA,9,none⟩=some (.slice (some ⟨gq,0,none⟩) m c2):=(M18.out.blk (i:=2) rfl).cell 9
 have af9:w8.frozen? ⟨gA,9,none⟩=false:=(M18.out.blk (i:=2) rfl).frozen 9
 go_wp2
 clear a9 af9
 exact bodyPost_ret (v:= .tuple #[.int .i64 slides,.bool true]) (by simp[results,Tryz.results44,go_sem, *]) rfl ⟨p1,c1,rfl,(show Mem w0 _ [aJ w0.heap.size TI 1 (p1) (n) (c1) (ivs (ys)),aJ w0.heap.size TV 4 (some ⟨gq,0,none⟩) ((m-1)) (c2) ((vs.eraseIdx k).flatMap aC),aF w0.heap.size (gA) aO #[.int .i64 aA,.int .i64 aB,.slice p1 n c1,.int .i64 free,.int .i64 step,.int .i64 aE,.int .i64 aG,.int .i64 aD,.int .i64 aH,.slice (some ⟨gq,0,none⟩) (m-1) c2],R]from((M18.out).store (i:=2) rfl 9 (.slice (some ⟨gq,0,none⟩) (m-1) c2)))⟩
end Go.Proofs.YtahglfakiobbcaaGreatDoor
