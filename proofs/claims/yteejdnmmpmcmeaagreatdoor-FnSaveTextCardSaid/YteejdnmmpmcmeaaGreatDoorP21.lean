/-
  Texts of this proof, packed (@packed).
-/
import Derived.Test.YteejdnmmpmcmeaaGreatDoorP7
import Derived.Test.YteejdnmmpmcmeaaGreatDoorP20
namespace Go.Proofs.YteejdnmmpmcmeaaGreatDoor
open Go.RowKit
set_option linter.unusedVariables false
abbrev cH (h:aV)(p:Option Addr)(n cap:Nat)(q:Option Addr)(m c2:Nat):Value:=
 .agg #[.int .i64 h.aA,.int .i64 h.aB,.slice p n cap,.int .i64 h.free,.int .i64 h.step,.int .i64 h.aD,.int .i64 h.aH,.int .i64 h.aC,.int .i64 h.aI,.slice q m c2]
structure IsHouse (w:World) (h:aV) (p:Option Addr) (n cap:Nat) (q:Option Addr) (m c2:Nat):Prop where
 cells:Sl w p n cap 1 (ivs h.cells)
 vs:Sl w q m c2 4 (h.vs.flatMap aE)
theorem IsHouse.ext {w w':World}{h:aV}{p q:Option Addr}{n cap m c2:Nat}(i:IsHouse w h p n cap q m c2)(hx:Ext w w'):IsHouse w' h p n cap q m c2:=⟨i.cells.ext hx,i.vs.ext hx⟩
theorem IsHouse.vlen {w:World}{h:aV}{p q:Option Addr}{n cap m c2:Nat}(i:IsHouse w h p n cap q m c2):h.vs.length=m:=by
 have:=i.vs.len;rw[fD aE 4 (fun _=>rfl)]at this;omega
theorem IsHouse.clen {w:World}{h:aV}{p q:Option Addr}{n cap m c2:Nat}(i:IsHouse w h p n cap q m c2):h.cells.length=n:=i.cells.ilen
theorem fR {w:World}{q:Option Addr}{m c2:Nat}{vs:List bC}(h:Sl w q m c2 4 (vs.flatMap aE)){k:Nat}(hk:k<m):
  ∃b off a0 a1 a2 a3,q=some ⟨b,off,none⟩∧vs[k]? =some (a0,a1,a2,a3)∧b<w.heap.size∧w.cell? ⟨b,off+k*4,none⟩=some (.int .i64 a0)∧w.cell? ⟨b,off+k*4+1,none⟩=some (.int .i64 a1)∧w.cell? ⟨b,off+k*4+2,none⟩=some (.int .i64 a2)∧w.cell? ⟨b,off+k*4+3,none⟩=some (.int .i64 a3):=by
 obtain⟨b,off,x,hp,hx,hb,hc⟩:=Sl.at_ (sz:=4) (f:=aE) (fun _=>rfl) h hk (by omega)
 obtain⟨a0,a1,a2,a3⟩:=x
 exact⟨b,off,a0,a1,a2,a3,hp,hx,hb,hc 0 (by omega),hc 1 (by omega),hc 2 (by omega),hc 3 (by omega)⟩
def OwnZ (w:World)(p:Option Addr)(n c:Nat)(xs:List Int):Prop:=Sl w p n c 1 (ivs xs)
theorem OwnZ.ext {w w':World}{p:Option Addr}{n c:Nat}{xs:List Int}(h:OwnZ w p n c xs)(hx:Ext w w'):Sl w' p n c 1 (ivs xs):=Sl.ext h hx
theorem aKg {w:World}{B n c:Nat}{p:Option Addr}{xs:List Int}(h:w.ownsRow B TI 1 (.slice p n c) n (ivs xs)):OwnZ w p n c xs:=Sl.own h
set_option maxRecDepth 100000 in
set_option maxHeartbeats 1000000 in
theorem aCq (aA aB free step aD aH aC aI:Int)(p:Option Addr)(n cap:Nat)(q:Option Addr)(m c2:Nat)(w:World)(hm:m≤9223372036854775807)
  (HV:Hid (∀w',Ext w w'→Calls Tryz.prog 61 #[aJ aA aB p n cap] w' fun e w''=>e= .returned (.bool false)∧Ext w' w'')):
  Calls Tryz.prog 16 #[.agg #[.int .i64 aA,.int .i64 aB,.slice p n cap,.int .i64 free,.int .i64 step,.int .i64 aD,.int .i64 aH,.int .i64 aC,.int .i64 aI,.slice q m c2]] w fun e w'=>e= .returned (.bool false)∧Ext w w':=by
 go_enter Tryz.func16,Tryz.ntmps16
 go_wp2_with fail
 refine(HV.out _ (by exact .alloc (.refl _) _)).mono ?_
 rintro e w1 ⟨rfl,hh1⟩
 have hx1:Ext (w.alloc (.cells #[.int .i64 aA,.int .i64 aB,.slice p n cap,.int .i64 free,.int .i64 step,.int .i64 aD,.int .i64 aH,.int .i64 aC,.int .i64 aI,.slice q m c2] 30)) w1:=hh1
 have hz1:w.heap.size<w1.heap.size:=Nat.lt_of_lt_of_le (by simp) hx1.sz
 obtain⟨e1_0,e1_1,e1_2,e1_3,e1_4,e1_5,e1_6,e1_7,e1_8,e1_9⟩:=((Blk.new _ _ _).ext hx1).ten
 go_wp2
 go_ret
 exact⟨rfl,by exact .trans (.alloc (.refl _) _) hx1⟩
set_option maxRecDepth 100000 in
set_option maxHeartbeats 1000000 in
theorem aCp (aA aB free step aD aH aC aI:Int)(p:Option Addr)(n cap:Nat)(q:Option Addr)(m c2:Nat)(w:World)(hm:m≤9223372036854775807)
  (HV:Hid (∀w',Ext w w'→Calls Tryz.prog 61 #[aJ aA aB p n cap] w' fun e w''=>e= .returned (.bool true)∧Ext w' w''))
  (TV:Hid (∀w',Calls Tryz.prog 62 #[bD free step aD aH] w' fun e w''=>e= .returned (.bool false)∧Ext w' w'')):
  Calls Tryz.prog 16 #[.agg #[.int .i64 aA,.int .i64 aB,.slice p n cap,.int .i64 free,.int .i64 step,.int .i64 aD,.int .i64 aH,.int .i64 aC,.int .i64 aI,.slice q m c2]] w fun e w'=>e= .returned (.bool false)∧Ext w w':=by
 go_enter Tryz.func16,Tryz.ntmps16
 go_wp2_with fail
 refine(HV.out _ (by exact .alloc (.refl _) _)).mono ?_
 rintro e w1 ⟨rfl,hh1⟩
 have hx1:Ext (w.alloc (.cells #[.int .i64 aA,.int .i64 aB,.slice p n cap,.int .i64 free,.int .i64 step,.int .i64 aD,.int .i64 aH,.int .i64 aC,.int .i64 aI,.slice q m c2] 30)) w1:=hh1
 have hz1:w.heap.size<w1.heap.size:=Nat.lt_of_lt_of_le (by simp) hx1.sz
 obtain⟨e1_0,e1_1,e1_2,e1_3,e1_4,e1_5,e1_6,e1_7,e1_8,e1_9⟩:=((Blk.new _ _ _).ext hx1).ten
 go_wp2_with fail
 refine(TV.out _).mono ?_
 rintro e w2 ⟨rfl,ht2⟩
 have hx2:Ext (w.alloc (.cells #[.int .i64 aA,.int .i64 aB,.slice p n cap,.int .i64 free,.int .i64 step,.int .i64 aD,.int .i64 aH,.int .i64 aC,.int .i64 aI,.slice q m c2] 30)) w2:=hx1.trans ht2
 have hz2:w.heap.size<w2.heap.size:=Nat.lt_of_lt_of_le (by simp) hx2.sz
 obtain⟨e2_0,e2_1,e2_2,e2_3,e2_4,e2_5,e2_6,e2_7,e2_8,e2_9⟩:=((Blk.new _ _ _).ext hx2).ten
 clear hz1 e1_0 e1_1 e1_2 e1_3 e1_4 e1_5 e1_6 e1_7 e1_8 e1_9
 go_wp2
 go_ret
 exact⟨rfl,by exact .trans (.alloc (.refl _) _) hx2⟩
set_option maxRecDepth 100000 in
set_option maxHeartbeats 1000000 in
theorem aCo (aA aB free step aD aH aC aI:Int)(p:Option Addr)(n cap:Nat)(q:Option Addr)(m c2:Nat)(w:World)(hm:m≤9223372036854775807)
  (HV:Hid (∀w',Ext w w'→Calls Tryz.prog 61 #[aJ aA aB p n cap] w' fun e w''=>e= .returned (.bool true)∧Ext w' w''))
  (TV:Hid (∀w',Calls Tryz.prog 62 #[bD free step aD aH] w' fun e w''=>e= .returned (.bool true)∧Ext w' w''))
  (h:aC<0∨0≤aC∧9999<aC∨0≤aC∧aC≤9999∧aI<0∨0≤aC∧aC≤9999∧0≤aI∧99999<aI):
  Calls Tryz.prog 16 #[.agg #[.int .i64 aA,.int .i64 aB,.slice p n cap,.int .i64 free,.int .i64 step,.int .i64 aD,.int .i64 aH,.int .i64 aC,.int .i64 aI,.slice q m c2]] w fun e w'=>e= .returned (.bool false)∧Ext w w':=by
 rcases h with h|⟨h0,h⟩|⟨h0,h1,h⟩|⟨h0,h1,h2,h⟩
 all_goals
  (try (have hdd:decide (aC≤9999)=false:=by simp;omega))
  (try (have hdd:decide (aI≤99999)=false:=by simp;omega))
  go_enter Tryz.func16,Tryz.ntmps16
  go_wp2_with fail
  refine(HV.out _ (by exact .alloc (.refl _) _)).mono ?_
  rintro e w1 ⟨rfl,hh1⟩
  have hx1:Ext (w.alloc (.cells #[.int .i64 aA,.int .i64 aB,.slice p n cap,.int .i64 free,.int .i64 step,.int .i64 aD,.int .i64 aH,.int .i64 aC,.int .i64 aI,.slice q m c2] 30)) w1:=hh1
  have hz1:w.heap.size<w1.heap.size:=Nat.lt_of_lt_of_le (by simp) hx1.sz
  obtain⟨e1_0,e1_1,e1_2,e1_3,e1_4,e1_5,e1_6,e1_7,e1_8,e1_9⟩:=((Blk.new _ _ _).ext hx1).ten
  go_wp2_with fail
  refine(TV.out _).mono ?_
  rintro e w2 ⟨rfl,ht2⟩
  have hx2:Ext (w.alloc (.cells #[.int .i64 aA,.int .i64 aB,.slice p n cap,.int .i64 free,.int .i64 step,.int .i64 aD,.int .i64 aH,.int .i64 aC,.int .i64 aI,.slice q m c2] 30)) w2:=hx1.trans ht2
  have hz2:w.heap.size<w2.heap.size:=Nat.lt_of_lt_of_le (by simp) hx2.sz
  obtain⟨e2_0,e2_1,e2_2,e2_3,e2_4,e2_5,e2_6,e2_7,e2_8,e2_9⟩:=((Blk.new _ _ _).ext hx2).ten
  clear hz1 e1_0 e1_1 e1_2 e1_3 e1_4 e1_5 e1_6 e1_7 e1_8 e1_9
  go_wp2
  go_ret
  exact⟨rfl,by exact .trans (.alloc (.refl _) _) hx2⟩
set_option maxRecDepth 100000 in
set_option maxHeartbeats 1000000 in
theorem aCn (aA aB free step aD aH aC aI:Int)(p:Option Addr)(n cap:Nat)(q:Option Addr)(m c2:Nat)(w:World)(hm:m≤9223372036854775807)
  (Cs:List Int)(HC:Hid (∀w',Ext w w'→Calls Tryz.prog 20 #[aJ aA aB p n cap] w' (cC Cs w')))
  (HV:Hid (∀w',Ext w w'→Calls Tryz.prog 61 #[aJ aA aB p n cap] w' fun e w''=>e= .returned (.bool true)∧Ext w' w''))
  (TV:Hid (∀w',Calls Tryz.prog 62 #[bD free step aD aH] w' fun e w''=>e= .returned (.bool true)∧Ext w' w''))
  (h0:0≤aC)(h1:aC≤9999)(h2:0≤aI)(h3:aI≤99999)(hL:((Cs.length:Int)!=m)=true):
  Calls Tryz.prog 16 #[.agg #[.int .i64 aA,.int .i64 aB,.slice p n cap,.int .i64 free,.int .i64 step,.int .i64 aD,.int .i64 aH,.int .i64 aC,.int .i64 aI,.slice q m c2]] w fun e w'=>e= .returned (.bool false)∧Ext w w':=by
 go_enter Tryz.func16,Tryz.ntmps16
 go_wp2_with fail
 refine(HV.out _ (by exact .alloc (.refl _) _)).mono ?_
 rintro e w1 ⟨rfl,hh1⟩
 have hx1:Ext (w.alloc (.cells #[.int .i64 aA,.int .i64 aB,.slice p n cap,.int .i64 free,.int .i64 step,.int .i64 aD,.int .i64 aH,.int .i64 aC,.int .i64 aI,.slice q m c2] 30)) w1:=hh1
 have hz1:w.heap.size<w1.heap.size:=Nat.lt_of_lt_of_le (by simp) hx1.sz
 obtain⟨e1_0,e1_1,e1_2,e1_3,e1_4,e1_5,e1_6,e1_7,e1_8,e1_9⟩:=((Blk.new _ _ _).ext hx1).ten
 go_wp2_with fail
 refine(TV.out _).mono ?_
 rintro e w2 ⟨rfl,ht2⟩
 have hx2:Ext (w.alloc (.cells #[.int .i64 aA,.int .i64 aB,.slice p n cap,.int .i64 free,.int .i64 step,.int .i64 aD,.int .i64 aH,.int .i64 aC,.int .i64 aI,.slice q m c2] 30)) w2:=hx1.trans ht2
 have hz2:w.heap.size<w2.heap.size:=Nat.lt_of_lt_of_le (by simp) hx2.sz
 obtain⟨e2_0,e2_1,e2_2,e2_3,e2_4,e2_5,e2_6,e2_7,e2_8,e2_9⟩:=((Blk.new _ _ _).ext hx2).ten
 clear hz1 e1_0 e1_1 e1_2 e1_3 e1_4 e1_5 e1_6 e1_7 e1_8 e1_9
 go_wp2_with fail
 refine(HC.out _ (by exact .trans (.alloc (.refl _) _) hx2)).mono ?_
 rintro e w3 ⟨cp,cc,rfl,hco,hc3⟩
 have HCO:=xQ hco
 clear hco
 have hx3:Ext (w.alloc (.cells #[.int .i64 aA,.int .i64 aB,.slice p n cap,.int .i64 free,.int .i64 step,.int .i64 aD,.int .i64 aH,.int .i64 aC,.int .i64 aI,.slice q m c2] 30)) w3:=hx2.trans hc3
 have hz3:w.heap.size<w3.heap.size:=Nat.lt_of_lt_of_le (by simp) hx3.sz
 obtain⟨e3_0,e3_1,e3_2,e3_3,e3_4,e3_5,e3_6,e3_7,e3_8,e3_9⟩:=((Blk.new _ _ _).ext hx3).ten
 clear hz2 e2_0 e2_1 e2_2 e2_3 e2_4 e2_5 e2_6 e2_7 e2_8 e2_9
 go_wp2
 go_ret
 exact⟨rfl,by exact .trans (.alloc (.refl _) _) hx3⟩
set_option maxRecDepth 100000 in
set_option maxHeartbeats 1000000 in
theorem aCm (aA aB free step aD aH aC aI:Int)(p:Option Addr)(n cap:Nat)(q:Option Addr)(m c2:Nat)(w:World)(hm:m≤9223372036854775807)
  (Cs:List Int)(HC:Hid (∀w',Ext w w'→Calls Tryz.prog 20 #[aJ aA aB p n cap] w' (cC Cs w')))
  (HV:Hid (∀w',Ext w w'→Calls Tryz.prog 61 #[aJ aA aB p n cap] w' fun e w''=>e= .returned (.bool true)∧Ext w' w''))
  (TV:Hid (∀w',Calls Tryz.prog 62 #[bD free step aD aH] w' fun e w''=>e= .returned (.bool true)∧Ext w' w''))
  (h0:0≤aC)(h1:aC≤9999)(h2:0≤aI)(h3:aI≤99999)(hL:((Cs.length:Int)!=m)=false)(hL2:Cs.length=m)(hm2:m≤100)(vs:List bC)(HVS:Hid (Sl w q m c2 4 (vs.flatMap aE))):
  Calls Tryz.prog 16 #[.agg #[.int .i64 aA,.int .i64 aB,.slice p n cap,.int .i64 free,.int .i64 step,.int .i64 aD,.int .i64 aH,.int .i64 aC,.int .i64 aI,.slice q m c2]] w fun e w'=>e= .returned (.bool (bV aC Cs vs))∧Ext w w':=by
 have hvl:vs.length=m:=by have:=HVS.out.len;rw[fD aE 4 (fun _=>rfl)]at this;omega
 have HVL:=xQ hvl
 have HCL:=xQ hL2
 clear hvl hL2
 go_enter Tryz.func16,Tryz.ntmps16
 go_wp2_with fail
 refine(HV.out _ (by exact .alloc (.refl _) _)).mono ?_
 rintro e w1 ⟨rfl,hh1⟩
 have hx1:Ext (w.alloc (.cells #[.int .i64 aA,.int .i64 aB,.slice p n cap,.int .i64 free,.int .i64 step,.int .i64 aD,.int .i64 aH,.int .i64 aC,.int .i64 aI,.slice q m c2] 30)) w1:=hh1
 have hz1:w.heap.size<w1.heap.size:=Nat.lt_of_lt_of_le (by simp) hx1.sz
 obtain⟨e1_0,e1_1,e1_2,e1_3,e1_4,e1_5,e1_6,e1_7,e1_8,e1_9⟩:=((Blk.new _ _ _).ext hx1).ten
 go_wp2_with fail
 refine(TV.out _).mono ?_
 rintro e w2 ⟨rfl,ht2⟩
 have hx2:Ext (w.alloc (.cells #[.int .i64 aA,.int .i64 aB,.slice p n cap,.int .i64 free,.int .i64 step,.int .i64 aD,.int .i64 aH,.int .i64 aC,.int .i64 aI,.slice q m c2] 30)) w2:=hx1.trans ht2
 have hz2:w.heap.size<w2.heap.size:=Nat.lt_of_lt_of_le (by simp) hx2.sz
 obtain⟨e2_0,e2_1,e2_2,e2_3,e2_4,e2_5,e2_6,e2_7,e2_8,e2_9⟩:=((Blk.new _ _ _).ext hx2).ten
 clear hz1 e1_0 e1_1 e1_2 e1_3 e1_4 e1_5 e1_6 e1_7 e1_8 e1_9
 go_wp2_with fail
 refine(HC.out _ (by exact .trans (.alloc (.refl _) _) hx2)).mono ?_
 rintro e w3 ⟨cp,cc,rfl,hco,hc3⟩
 have HCO:=xQ hco
 clear hco
 have hx3:Ext (w.alloc (.cells #[.int .i64 aA,.int .i64 aB,.slice p n cap,.int .i64 free,.int .i64 step,.int .i64 aD,.int .i64 aH,.int .i64 aC,.int .i64 aI,.slice q m c2] 30)) w3:=hx2.trans hc3
 have hz3:w.heap.size<w3.heap.size:=Nat.lt_of_lt_of_le (by simp) hx3.sz
 obtain⟨e3_0,e3_1,e3_2,e3_3,e3_4,e3_5,e3_6,e3_7,e3_8,e3_9⟩:=((Blk.new _ _ _).ext hx3).ten
 clear hz2 e2_0 e2_1 e2_2 e2_3 e2_4 e2_5 e2_6 e2_7 e2_8 e2_9
 have hco:OwnZ w3 cp Cs.length cc Cs:=(aKg HCO.out)
 have hxw:Ext w w3:=(Ext.alloc (Ext.refl w) _).trans hx3
 go_wp2
 clear hL
 go_loopw [48] (fun i wr=> ∃k:Nat,k≤m∧i= .int .i64 k∧bV aC Cs vs=bV aC (Cs.drop k) (vs.drop k)∧Ext w3 wr) (fun i _=>m-(intOf i).toNat)
 case atStart=>exact⟨0,Nat.zero_le _,rfl,rfl,Ext.refl _⟩
 case round=>
  obtain⟨k,hk,rfl,hok,hE⟩:=hrel
  have hcl:wr.cell? ⟨w.heap.size,7,none⟩=some (.int .i64 aC):=(hE.cells.1 _ _ hz3).trans e3_7
  have hcv:wr.cell? ⟨w.heap.size,9,none⟩=some (.slice q m c2):=(hE.cells.1 _ _ hz3).trans e3_9
  have hzr:w.heap.size<wr.heap.size:=Nat.lt_of_lt_of_le hz3 hE.sz
  have HCL2:=HCL.out
  by_cases hlt:k<m
  ·obtain⟨b,off,a0,a1,a2,a3,rfl,hv,hb,g0,g1,g2,g3⟩:=fR (HVS.out.ext (hxw.trans hE)) hlt
   obtain⟨cb,coff,c,rfl,hc,hcb,gc⟩:=(hco.ext hE).int_at (show k<Cs.length by omega)
   have hfin:=xQ (hok.trans (sR hc hv))
   have i1:(0:Int)≤(k:Int):=by omega
   have i2:(k:Int)<(m:Int):=by omega
   have i3:(k:Int)<(Cs.length:Int):=by omega
   clear hok hc hv HCL2
   have hSv:Hid (∀w',Calls Tryz.prog 24 #[dS a1 a2 a3] w' fun e w''=>e= .returned (.bool (dB a1 a2 a3))∧Ext w' w''):=fun w'=>aKv a1 a2 a3 w'
   go_wp2_with fail
   by_cases t0:a0=c
   ·have q0:(a0 !=c)=false:=by simp[t0]
    have T0:=xQ t0
    clear t0
    cases hst:dB a1 a2 a3 with
    |true=>
     rw[hst]at hSv
     have HST:=xQ hst
     clear hst
     by_cases t1:aC<a3
     ·have hf2:Hid (bV aC Cs vs=false):=by show _=_;rw[hfin.out];simp[eV,HST.out];omega
      go_region_held3 (fun w'=>w'.cell? ⟨wr.heap.size,0,none⟩=some (.int .i64 a0)∧w'.cell? ⟨wr.heap.size,1,none⟩=some (.int .i64 a1)∧w'.cell? ⟨wr.heap.size,2,none⟩=some (.int .i64 a2)∧w'.cell? ⟨wr.heap.size,3,none⟩=some (.int .i64 a3)∧w'.cell? ⟨cb,coff+k,none⟩=some (.int .i64 c)∧w'.cell? ⟨w.heap.size,7,none⟩=some (.int .i64 aC)) (go_keep) ((go_at_call 24;refine(hSv.out _).mono ?_;rintro e w9 ⟨rfl,h9⟩;(try replace h9:=h9.of_drew);have x9:Ext wr w9:=(by first|exact((Ext.refl wr).alloc _).trans h9|exact(((Ext.refl wr).alloc _).drew).trans h9);have g9a:=(x9.cells.1 cb (coff+k) hcb).trans gc;have g9b:=(x9.cells.1 w.heap.size 7 hzr).trans hcl;have hc9:=h9.cells.1;have hz9:wr.heap.size<w9.heap.size:=Nat.lt_of_lt_of_le (by simp) h9.sz;have hz10:w.heap.size<w9.heap.size:=Nat.lt_trans hzr hz9;have hz11:cb<w9.heap.size:=Nat.lt_trans hcb hz9))
      all_goals go_wp2
      all_goals go_ret
      all_goals exact⟨aX hf2.out.symm,by exact .trans (.trans hxw hE) x9⟩
     ·have hf2:Hid (bV aC Cs vs=bV aC (Cs.drop (k+1)) (vs.drop (k+1))):=by show _=_;rw[hfin.out];simp[eV,HST.out,T0.out];intro h;omega
      go_region_held3 (fun w'=>w'.cell? ⟨wr.heap.size,0,none⟩=some (.int .i64 a0)∧w'.cell? ⟨wr.heap.size,1,none⟩=some (.int .i64 a1)∧w'.cell? ⟨wr.heap.size,2,none⟩=some (.int .i64 a2)∧w'.cell? ⟨wr.heap.size,3,none⟩=some (.int .i64 a3)∧w'.cell? ⟨cb,coff+k,none⟩=some (.int .i64 c)∧w'.cell? ⟨w.heap.size,7,none⟩=some (.int .i64 aC)) (go_keep) ((go_at_call 24;refine(hSv.out _).mono ?_;rintro e w9 ⟨rfl,h9⟩;(try replace h9:=h9.of_drew);have x9:Ext wr w9:=(by first|exact((Ext.refl wr).alloc _).trans h9|exact(((Ext.refl wr).alloc _).drew).trans h9);have g9a:=(x9.cells.1 cb (coff+k) hcb).trans gc;have g9b:=(x9.cells.1 w.heap.size 7 hzr).trans hcl;have hc9:=h9.cells.1;have hz9:wr.heap.size<w9.heap.size:=Nat.lt_of_lt_of_le (by simp) h9.sz;have hz10:w.heap.size<w9.heap.size:=Nat.lt_trans hzr hz9;have hz11:cb<w9.heap.size:=Nat.lt_trans hcb hz9))
      all_goals go_wp2
      all_goals go_roundw
      all_goals first
       |(case rel=>first|exact⟨k+1,by omega,by go_num,hf2.out,by exact .trans hE x9⟩|((repeat apply Exists.intro);exact⟨⟨k+1,by omega,by go_num,hf2.out,xE⟩,rfl⟩))
       |(case measure=>simp[intOf];omega)
    |false=>
     rw[hst]at hSv
     have hf2:Hid (bV aC Cs vs=false):=by show _=_;rw[hfin.out];simp[eV,hst]
     clear hst
     refine wp_region_held_drew (S:=fun w'=>w'.cell? ⟨wr.heap.size,0,none⟩=some (.int .i64 a0)∧w'.cell? ⟨wr.heap.size,1,none⟩=some (.int .i64 a1)∧w'.cell? ⟨wr.heap.size,2,none⟩=some (.int .i64 a2)∧w'.cell? ⟨wr.heap.size,3,none⟩=some (.int .i64 a3)∧w'.cell? ⟨cb,coff+k,none⟩=some (.int .i64 c)) (by kernel_rfl) (by go_keep) (fun hHeld=> ?_)
     refine dP (i:=0) (v:= ?_) rfl (by kernel_rfl) (by kernel_rfl) (by kernel_rfl) (fun _ _ _ h=>h) (by rfl) ?_ (by assumption) ?_
     rotate_left
     ·(intro w hSw;(try dsimp only at hSw);go_simp;(try with_reducible rfl))
     (try simp only[Act.put,List.setIfInBounds_toArray,List.set_cons_zero,List.set_cons_succ])
     refine dP (i:=1) (v:= ?_) rfl (by kernel_rfl) (by kernel_rfl) (by kernel_rfl) (fun _ _ _ h=>h) (by rfl) ?_ (by assumption) ?_
     rotate_left
     ·(intro w hSw;(try dsimp only at hSw);go_simp;(try with_reducible rfl))
     (try simp only[Act.put,List.setIfInBounds_toArray,List.set_cons_zero,List.set_cons_succ])
     refine dP (i:=2) (v:= ?_) rfl (by kernel_rfl) (by kernel_rfl) (by kernel_rfl) (fun _ _ _ h=>h) (by rfl) ?_ (by assumption) ?_
     rotate_left
     ·(intro w hSw;(try dsimp only at hSw);go_simp;(try with_reducible rfl))
     (try simp only[Act.put,List.setIfInBounds_toArray,List.set_cons_zero,List.set_cons_succ])
     refine dP (i:=3) (v:= ?_) rfl (by kernel_rfl) (by kernel_rfl) (by kernel_rfl) (fun _ _ _ h=>h) (by rfl) ?_ (by assumption) ?_
     rotate_left
     ·(intro w hSw;(try dsimp only at hSw);go_simp;(try with_reducible rfl))
     (try simp only[Act.put,List.setIfInBounds_toArray,List.set_cons_zero,List.set_cons_succ])
     refine dP (i:=4) (v:= ?_) rfl (by kernel_rfl) (by kernel_rfl) (by kernel_rfl) (fun _ _ _ h=>h) (by rfl) ?_ (by assumption) ?_
     rotate_left
     ·(intro w hSw;(try dsimp only at hSw);go_simp;(try with_reducible rfl))
     (try simp only[Act.put,List.setIfInBounds_toArray,List.set_cons_zero,List.set_cons_succ])
     refine dP (i:=5) (v:= ?_) rfl (by kernel_rfl) (by kernel_rfl) (by kernel_rfl) (fun _ _ _ h=>h) (by rfl) ?_ (by assumption) ?_
     rotate_left
     ·(intro w hSw;(try dsimp only at hSw);go_simp;(try with_reducible rfl))
     (try simp only[Act.put,List.setIfInBounds_toArray,List.set_cons_zero,List.set_cons_succ])
     refine dP (i:=6) (v:= ?_) rfl (by kernel_rfl) (by kernel_rfl) (by kernel_rfl) (fun _ _ _ h=>h) (by rfl) ?_ (by assumption) ?_
     rotate_left
     ·(intro w hSw;(try dsimp only at hSw);go_simp;(try with_reducible rfl))
     (try simp only[Act.put,List.setIfInBounds_toArray,List.set_cons_zero,List.set_cons_succ])
     refine dP (i:=7) (v:= ?_) rfl (by kernel_rfl) (by kernel_rfl) (by kernel_rfl) (fun _ _ _ h=>h) (by rfl) ?_ (by assumption) ?_
     rotate_left
     ·(intro w hSw;(try dsimp only at hSw);go_simp;(try with_reducible rfl))
     (try simp only[Act.put,List.setIfInBounds_toArray,List.set_cons_zero,List.set_cons_succ])
     refine dP (i:=8) (v:= ?_) rfl (by kernel_rfl) (by kernel_rfl) (by kernel_rfl) (fun _ _ _ h=>h) (by rfl) ?_ (by assumption) ?_
     rotate_left
     ·(intro w hSw;(try dsimp only at hSw);go_simp;(try with_reducible rfl))
     (try simp only[Act.put,List.setIfInBounds_toArray,List.set_cons_zero,List.set_cons_succ])
     refine dP (i:=9) (v:= ?_) rfl (by kernel_rfl) (by kernel_rfl) (by kernel_rfl) (fun _ _ _ h=>h) (by rfl) ?_ (by assumption) ?_
     rotate_left
     ·(intro w hSw;(try dsimp only at hSw);go_simp;(try with_reducible rfl))
     (try simp only[Act.put,List.setIfInBounds_toArray,List.set_cons_zero,List.set_cons_succ])
     refine wpAnyH_ready (rs:= [10]) (by kernel_rfl) (by simp) ?_
     refine aJ5 rfl (fun K hK=> ?_)
     go_simp
     go_at_call 24
     refine(hSv.out _).mono ?_
     rintro e w9 ⟨rfl,h9⟩
     (try replace h9:=h9.of_drew)
     have x9:Ext wr w9:=(by first|exact((Ext.refl wr).alloc _).trans h9|exact(((Ext.refl wr).alloc _).drew).trans h9)
     have g9a:=(x9.cells.1 cb (coff+k) hcb).trans gc
     have hc9:=h9.cells.1
     have hz9:wr.heap.size<w9.heap.size:=Nat.lt_of_lt_of_le (by simp) h9.sz
     go_wp2_with fail
     refine hK.out _ _ (by(try dsimp only);go_keep) (fun hHeld=> ?_)
     clear hK K
     (try simp only[Act.put,List.setIfInBounds_toArray,List.set_cons_zero,List.set_cons_succ])
     refine dP (i:=11) (v:= ?_) rfl (by kernel_rfl) (by kernel_rfl) (by kernel_rfl) (fun _ _ _ h=>h) (by rfl) ?_ (by assumption) ?_
     rotate_left
     ·(intro w hSw;(try dsimp only at hSw);go_simp;(try with_reducible rfl))
     (try simp only[Act.put,List.setIfInBounds_toArray,List.set_cons_zero,List.set_cons_succ])
     refine dP (i:=12) (v:= ?_) rfl (by kernel_rfl) (by kernel_rfl) (by kernel_rfl) (fun _ _ _ h=>h) (by rfl) ?_ (by assumption) ?_
     rotate_left
     ·(intro w hSw;(try dsimp only at hSw);go_simp;(try with_reducible rfl))
     (try simp only[Act.put,List.setIfInBounds_toArray,List.set_cons_zero,List.set_cons_succ])
     refine dP (i:=13) (v:= ?_) rfl (by kernel_rfl) (by kernel_rfl) (by kernel_rfl) (fun _ _ _ h=>h) (by rfl) ?_ (by assumption) ?_
     rotate_left
     ·(intro w hSw;(try dsimp only at hSw);go_simp;(try with_reducible rfl))
     (try simp only[Act.put,List.setIfInBounds_toArray,List.set_cons_zero,List.set_cons_succ])
     refine jU (i:=14) rfl (by kernel_rfl) (by kernel_rfl) (by kernel_rfl) (fun _ _ _ h=>h) (by rfl) (by assumption) ?_
     (try simp only[Act.put,List.setIfInBounds_toArray,List.set_cons_zero,List.set_cons_succ])
     refine jU (i:=15) rfl (by kernel_rfl) (by kernel_rfl) (by kernel_rfl) (fun _ _ _ h=>h) (by rfl) (by assumption) ?_
     (try simp only[Act.put,List.setIfInBounds_toArray,List.set_cons_zero,List.set_cons_succ])
     refine jU (i:=16) rfl (by kernel_rfl) (by kernel_rfl) (by kernel_rfl) (fun _ _ _ h=>h) (by rfl) (by assumption) ?_
     (try simp only[Act.put,List.setIfInBounds_toArray,List.set_cons_zero,List.set_cons_succ])
     refine jU (i:=17) rfl (by kernel_rfl) (by kernel_rfl) (by kernel_rfl) (fun _ _ _ h=>h) (by rfl) (by assumption) ?_
     (try simp only[Act.put,List.setIfInBounds_toArray,List.set_cons_zero,List.set_cons_succ])
     refine jU (i:=18) rfl (by kernel_rfl) (by kernel_rfl) (by kernel_rfl) (fun _ _ _ h=>h) (by rfl) (by assumption) ?_
     (try simp only[Act.put,List.setIfInBounds_toArray,List.set_cons_zero,List.set_cons_succ])
     refine jU (i:=19) rfl (by kernel_rfl) (by kernel_rfl) (by kernel_rfl) (fun _ _ _ h=>h) (by rfl) (by assumption) ?_
     (try simp only[Act.put,List.setIfInBounds_toArray,List.set_cons_zero,List.set_cons_succ])
     refine dP (i:=20) (v:= ?_) rfl (by kernel_rfl) (by kernel_rfl) (by kernel_rfl) (fun _ _ _ h=>h) (by rfl) ?_ (by assumption) ?_
     rotate_left
     ·(intro w hSw;(try dsimp only at hSw);go_simp;(try with_reducible rfl))
     (try simp only[Act.put,List.setIfInBounds_toArray,List.set_cons_zero,List.set_cons_succ])
     refine wpAnyH_done (by kernel_rfl) ?_ _
     all_goals go_wp2
     all_goals go_ret
     all_goals exact⟨aX hf2.out.symm,by exact .trans (.trans hxw hE) x9⟩
   ·have q0:(a0 !=c)=true:=by simp[t0]
    have hf2:Hid (bV aC Cs vs=false):=by show _=_;rw[hfin.out];simp[t0]
    clear t0
    go_quiet (fail)
    all_goals go_wp2
    all_goals go_ret
    all_goals exact⟨aX hf2.out.symm,by exact .drewN (.alloc (.trans hxw hE) _) _⟩
  ·have hfin:Hid (bV aC Cs vs=true):=by
    show _=_
    rw[hok,List.drop_eq_nil_of_le (by rw[HCL.out];omega),List.drop_eq_nil_of_le (by rw[HVL.out];omega)];rfl
   clear hok
   go_wp2
   go_ret
   exact⟨aX hfin.out.symm,by exact .trans hxw hE⟩
theorem kO (h:aV)(p:Option Addr)(n cap:Nat)(q:Option Addr)(m c2:Nat)(w:World)(hi:IsHouse w h p n cap q m c2):
  Calls Tryz.prog 16 #[cH h p n cap q m c2] w fun e w'=>e= .returned (.bool (bN h))∧Ext w w':=by
 obtain⟨aA,aB,cells,free,step,aD,aH,aC,aI,vs⟩:=h
 have hm:=hi.vs.bd
 have hvl:=hi.vlen
 have hcl:=hi.clen
 have HV:=fun(w':World) (hx:Ext w w')=>rY aA aB p n cap cells w' (hi.cells.ext hx)
 have HC:=fun(w':World) (hx:Ext w w')=>aKw aA aB p n cap cells w' (hi.cells.ext hx)
 have TV:=fun(w':World)=>aKu free step aD aH w'
 unfold bN
 simp only at hvl hcl HV HC TV⊢
 cases h1:aR aA aB cells with
 |false=>
  rw[h1]at HV HC
  simpa using aCq aA aB free step aD aH aC aI p n cap q m c2 w hm HV
 |true=>
  rw[h1]at HV HC
  rw[if_pos rfl]at HC
  cases h2:bJ free step aD aH with
  |false=>
   rw[h2]at TV
   simpa using aCp aA aB free step aD aH aC aI p n cap q m c2 w hm HV TV
  |true=>
   rw[h2]at TV
   by_cases h3:0≤aC∧aC≤9999∧0≤aI∧aI≤99999
   ·obtain⟨a1,a2,a3,a4⟩:=h3
    have hn:jV ⟨aA,aB,cells,free,step,aD,aH,aC,aI,vs⟩=true:=by simp[jV,a1,a2,a3,a4]
    rw[hn]
    by_cases hL:(eM cells).length=m
    ·simpa using aCm aA aB free step aD aH aC aI p n cap q m c2 w hm (eM cells) HC HV TV a1 a2 a3 a4 (by simp[hL]) hL (by
      have e1:=nB cells;have e2:=oN cells
      have e3:cells.length≤12:=by simp only[aR,Bool.and_eq_true]at h1;exact(cG h1.1).2.2.2.2.2.1
      omega) vs hi.vs
    ·rw[sQ (by omega)]
     simpa using aCn aA aB free step aD aH aC aI p n cap q m c2 w hm (eM cells) HC HV TV a1 a2 a3 a4 (by simp;omega)
   ·have hn:jV ⟨aA,aB,cells,free,step,aD,aH,aC,aI,vs⟩=false:=by simp[jV];omega
    rw[hn]
    simpa using aCo aA aB free step aD aH aC aI p n cap q m c2 w hm HV TV (by omega)
set_option maxRecDepth 100000 in
set_option maxHeartbeats 1000000 in
theorem aBr (aA aB free step aD aH aC aI:Int)(p:Option Addr)(n cap:Nat)(q:Option Addr)(m c2:Nat)(w:World)(hm:m≤9223372036854775807)
  (Cs:List Int)(HC:Hid (∀w',Ext w w'→Calls Tryz.prog 63 #[aJ aA aB p n cap] w' (cC Cs w')))
  (HV:Hid (∀w',Ext w w'→Calls Tryz.prog 64 #[aJ aA aB p n cap] w' fun e w''=>e= .returned (.bool false)∧Ext w' w'')):
  Calls Tryz.prog 17 #[.agg #[.int .i64 aA,.int .i64 aB,.slice p n cap,.int .i64 free,.int .i64 step,.int .i64 aD,.int .i64 aH,.int .i64 aC,.int .i64 aI,.slice q m c2]] w fun e w'=>e= .returned (.bool false)∧Ext w w':=by
 go_enter Tryz.func17,Tryz.ntmps17
 go_wp2_with fail
 refine(HC.out _ (by exact .alloc (.refl _) _)).mono ?_
 rintro e w1 ⟨cp,cc,rfl,hco,hc1⟩
 have HCO:=xQ hco
 clear hco
 have hx1:Ext (w.alloc (.cells #[.int .i64 aA,.int .i64 aB,.slice p n cap,.int .i64 free,.int .i64 step,.int .i64 aD,.int .i64 aH,.int .i64 aC,.int .i64 aI,.slice q m c2] 30)) w1:=hc1
 have hz1:w.heap.size<w1.heap.size:=Nat.lt_of_lt_of_le (by simp) hx1.sz
 obtain⟨e1_0,e1_1,e1_2,e1_3,e1_4,e1_5,e1_6,e1_7,e1_8,e1_9⟩:=((Blk.new _ _ _).ext hx1).ten
 go_wp2_with fail
 refine(HV.out _ (by exact .trans (.alloc (.refl _) _) hx1)).mono ?_
 rintro e w2 ⟨rfl,hh2⟩
 have hx2:Ext (w.alloc (.cells #[.int .i64 aA,.int .i64 aB,.slice p n cap,.int .i64 free,.int .i64 step,.int .i64 aD,.int .i64 aH,.int .i64 aC,.int .i64 aI,.slice q m c2] 30)) w2:=hx1.trans hh2
 have hz2:w.heap.size<w2.heap.size:=Nat.lt_of_lt_of_le (by simp) hx2.sz
 obtain⟨e2_0,e2_1,e2_2,e2_3,e2_4,e2_5,e2_6,e2_7,e2_8,e2_9⟩:=((Blk.new _ _ _).ext hx2).ten
 clear hz1 e1_0 e1_1 e1_2 e1_3 e1_4 e1_5 e1_6 e1_7 e1_8 e1_9
 go_wp2_with go_in
 go_ret
 exact⟨rfl,by exact .trans (.alloc (.refl _) _) hx2⟩
set_option maxRecDepth 100000 in
set_option maxHeartbeats 1000000 in
theorem aBq (aA aB free step aD aH aC aI:Int)(p:Option Addr)(n cap:Nat)(q:Option Addr)(m c2:Nat)(w:World)(hm:m≤9223372036854775807)
  (Cs:List Int)(HC:Hid (∀w',Ext w w'→Calls Tryz.prog 63 #[aJ aA aB p n cap] w' (cC Cs w')))
  (HV:Hid (∀w',Ext w w'→Calls Tryz.prog 64 #[aJ aA aB p n cap] w' fun e w''=>e= .returned (.bool true)∧Ext w' w''))
  (TV:Hid (∀w',Calls Tryz.prog 65 #[bD free step aD aH] w' fun e w''=>e= .returned (.bool false)∧Ext w' w'')):
  Calls Tryz.prog 17 #[.agg #[.int .i64 aA,.int .i64 aB,.slice p n cap,.int .i64 free,.int .i64 step,.int .i64 aD,.int .i64 aH,.int .i64 aC,.int .i64 aI,.slice q m c2]] w fun e w'=>e= .returned (.bool false)∧Ext w w':=by
 go_enter Tryz.func17,Tryz.ntmps17
 go_wp2_with fail
 refine(HC.out _ (by exact .alloc (.refl _) _)).mono ?_
 rintro e w1 ⟨cp,cc,rfl,hco,hc1⟩
 have HCO:=xQ hco
 clear hco
 have hx1:Ext (w.alloc (.cells #[.int .i64 aA,.int .i64 aB,.slice p n cap,.int .i64 free,.int .i64 step,.int .i64 aD,.int .i64 aH,.int .i64 aC,.int .i64 aI,.slice q m c2] 30)) w1:=hc1
 have hz1:w.heap.size<w1.heap.size:=Nat.lt_of_lt_of_le (by simp) hx1.sz
 obtain⟨e1_0,e1_1,e1_2,e1_3,e1_4,e1_5,e1_6,e1_7,e1_8,e1_9⟩:=((Blk.new _ _ _).ext hx1).ten
 go_wp2_with fail
 refine(HV.out _ (by exact .trans (.alloc (.refl _) _) hx1)).mono ?_
 rintro e w2 ⟨rfl,hh2⟩
 have hx2:Ext (w.alloc (.cells #[.int .i64 aA,.int .i64 aB,.slice p n cap,.int .i64 free,.int .i64 step,.int .i64 aD,.int .i64 aH,.int .i64 aC,.int .i64 aI,.slice q m c2] 30)) w2:=hx1.trans hh2
 have hz2:w.heap.size<w2.heap.size:=Nat.lt_of_lt_of_le (by simp) hx2.sz
 obtain⟨e2_0,e2_1,e2_2,e2_3,e2_4,e2_5,e2_6,e2_7,e2_8,e2_9⟩:=((Blk.new _ _ _).ext hx2).ten
 clear hz1 e1_0 e1_1 e1_2 e1_3 e1_4 e1_5 e1_6 e1_7 e1_8 e1_9
 go_wp2_with fail
 refine(TV.out _).mono ?_
 rintro e w3 ⟨rfl,ht3⟩
 have hx3:Ext (w.alloc (.cells #[.int .i64 aA,.int .i64 aB,.slice p n cap,.int .i64 free,.int .i64 step,.int .i64 aD,.int .i64 aH,.int .i64 aC,.int .i64 aI,.slice q m c2] 30)) w3:=hx2.trans ht3
 have hz3:w.heap.size<w3.heap.size:=Nat.lt_of_lt_of_le (by simp) hx3.sz
 obtain⟨e3_0,e3_1,e3_2,e3_3,e3_4,e3_5,e3_6,e3_7,e3_8,e3_9⟩:=((Blk.new _ _ _).ext hx3).ten
 clear hz2 e2_0 e2_1 e2_2 e2_3 e2_4 e2_5 e2_6 e2_7 e2_8 e2_9
 go_wp2_with go_in
 go_ret
 exact⟨rfl,by exact .trans (.alloc (.refl _) _) hx3⟩
set_option maxRecDepth 100000 in
set_option maxHeartbeats 1000000 in
theorem aBp (aA aB free step aD aH aC aI:Int)(p:Option Addr)(n cap:Nat)(q:Option Addr)(m c2:Nat)(w:World)(hm:m≤9223372036854775807)
  (Cs:List Int)(HC:Hid (∀w',Ext w w'→Calls Tryz.prog 63 #[aJ aA aB p n cap] w' (cC Cs w')))
  (HV:Hid (∀w',Ext w w'→Calls Tryz.prog 64 #[aJ aA aB p n cap] w' fun e w''=>e= .returned (.bool true)∧Ext w' w''))
  (TV:Hid (∀w',Calls Tryz.prog 65 #[bD free step aD aH] w' fun e w''=>e= .returned (.bool true)∧Ext w' w''))
  (h:aC<0∨0≤aC∧9999<aC∨0≤aC∧aC≤9999∧aI<0∨0≤aC∧aC≤9999∧0≤aI∧99999<aI):
  Calls Tryz.prog 17 #[.agg #[.int .i64 aA,.int .i64 aB,.slice p n cap,.int .i64 free,.int .i64 step,.int .i64 aD,.int .i64 aH,.int .i64 aC,.int .i64 aI,.slice q m c2]] w fun e w'=>e= .returned (.bool false)∧Ext w w':=by
 rcases h with h|⟨h0,h⟩|⟨h0,h1,h⟩|⟨h0,h1,h2,h⟩
 all_goals
  (try (have hdd:decide (aC≤9999)=false:=by simp;omega))
  (try (have hdd:decide (aI≤99999)=false:=by simp;omega))
  go_enter Tryz.func17,Tryz.ntmps17
  go_wp2_with fail
  refine(HC.out _ (by exact .alloc (.refl _) _)).mono ?_
  rintro e w1 ⟨cp,cc,rfl,hco,hc1⟩
  have HCO:=xQ hco
  clear hco
  have hx1:Ext (w.alloc (.cells #[.int .i64 aA,.int .i64 aB,.slice p n cap,.int .i64 free,.int .i64 step,.int .i64 aD,.int .i64 aH,.int .i64 aC,.int .i64 aI,.slice q m c2] 30)) w1:=hc1
  have hz1:w.heap.size<w1.heap.size:=Nat.lt_of_lt_of_le (by simp) hx1.sz
  obtain⟨e1_0,e1_1,e1_2,e1_3,e1_4,e1_5,e1_6,e1_7,e1_8,e1_9⟩:=((Blk.new _ _ _).ext hx1).ten
  go_wp2_with fail
  refine(HV.out _ (by exact .trans (.alloc (.refl _) _) hx1)).mono ?_
  rintro e w2 ⟨rfl,hh2⟩
  have hx2:Ext (w.alloc (.cells #[.int .i64 aA,.int .i64 aB,.slice p n cap,.int .i64 free,.int .i64 step,.int .i64 aD,.int .i64 aH,.int .i64 aC,.int .i64 aI,.slice q m c2] 30)) w2:=hx1.trans hh2
  have hz2:w.heap.size<w2.heap.size:=Nat.lt_of_lt_of_le (by simp) hx2.sz
  obtain⟨e2_0,e2_1,e2_2,e2_3,e2_4,e2_5,e2_6,e2_7,e2_8,e2_9⟩:=((Blk.new _ _ _).ext hx2).ten
  clear hz1 e1_0 e1_1 e1_2 e1_3 e1_4 e1_5 e1_6 e1_7 e1_8 e1_9
  go_wp2_with fail
  refine(TV.out _).mono ?_
  rintro e w3 ⟨rfl,ht3⟩
  have hx3:Ext (w.alloc (.cells #[.int .i64 aA,.int .i64 aB,.slice p n cap,.int .i64 free,.int .i64 step,.int .i64 aD,.int .i64 aH,.int .i64 aC,.int .i64 aI,.slice q m c2] 30)) w3:=hx2.trans ht3
  have hz3:w.heap.size<w3.heap.size:=Nat.lt_of_lt_of_le (by simp) hx3.sz
  obtain⟨e3_0,e3_1,e3_2,e3_3,e3_4,e3_5,e3_6,e3_7,e3_8,e3_9⟩:=((Blk.new _ _ _).ext hx3).ten
  clear hz2 e2_0 e2_1 e2_2 e2_3 e2_4 e2_5 e2_6 e2_7 e2_8 e2_9
  go_wp2_with go_in
  go_ret
  exact⟨rfl,by exact .trans (.alloc (.refl _) _) hx3⟩
set_option maxRecDepth 100000 in
set_option maxHeartbeats 1000000 in
theorem aBo (aA aB free step aD aH aC aI:Int)(p:Option Addr)(n cap:Nat)(q:Option Addr)(m c2:Nat)(w:World)(hm:m≤9223372036854775807)
  (Cs:List Int)(HC:Hid (∀w',Ext w w'→Calls Tryz.prog 63 #[aJ aA aB p n cap] w' (cC Cs w')))
  (HV:Hid (∀w',Ext w w'→Calls Tryz.prog 64 #[aJ aA aB p n cap] w' fun e w''=>e= .returned (.bool true)∧Ext w' w''))
  (TV:Hid (∀w',Calls Tryz.prog 65 #[bD free step aD aH] w' fun e w''=>e= .returned (.bool true)∧Ext w' w''))
  (h0:0≤aC)(h1:aC≤9999)(h2:0≤aI)(h3:aI≤99999)(hL:((Cs.length:Int)!=m)=true):
  Calls Tryz.prog 17 #[.agg #[.int .i64 aA,.int .i64 aB,.slice p n cap,.int .i64 free,.int .i64 step,.int .i64 aD,.int .i64 aH,.int .i64 aC,.int .i64 aI,.slice q m c2]] w fun e w'=>e= .returned (.bool false)∧Ext w w':=by
 go_enter Tryz.func17,Tryz.ntmps17
 go_wp2_with fail
 refine(HC.out _ (by exact .alloc (.refl _) _)).mono ?_
 rintro e w1 ⟨cp,cc,rfl,hco,hc1⟩
 have HCO:=xQ hco
 clear hco
 have hx1:Ext (w.alloc (.cells #[.int .i64 aA,.int .i64 aB,.slice p n cap,.int .i64 free,.int .i64 step,.int .i64 aD,.int .i64 aH,.int .i64 aC,.int .i64 aI,.slice q m c2] 30)) w1:=hc1
 have hz1:w.heap.size<w1.heap.size:=Nat.lt_of_lt_of_le (by simp) hx1.sz
 obtain⟨e1_0,e1_1,e1_2,e1_3,e1_4,e1_5,e1_6,e1_7,e1_8,e1_9⟩:=((Blk.new _ _ _).ext hx1).ten
 go_wp2_with fail
 refine(HV.out _ (by exact .trans (.alloc (.refl _) _) hx1)).mono ?_
 rintro e w2 ⟨rfl,hh2⟩
 have hx2:Ext (w.alloc (.cells #[.int .i64 aA,.int .i64 aB,.slice p n cap,.int .i64 free,.int .i64 step,.int .i64 aD,.int .i64 aH,.int .i64 aC,.int .i64 aI,.slice q m c2] 30)) w2:=hx1.trans hh2
 have hz2:w.heap.size<w2.heap.size:=Nat.lt_of_lt_of_le (by simp) hx2.sz
 obtain⟨e2_0,e2_1,e2_2,e2_3,e2_4,e2_5,e2_6,e2_7,e2_8,e2_9⟩:=((Blk.new _ _ _).ext hx2).ten
 clear hz1 e1_0 e1_1 e1_2 e1_3 e1_4 e1_5 e1_6 e1_7 e1_8 e1_9
 go_wp2_with fail
 refine(TV.out _).mono ?_
 rintro e w3 ⟨rfl,ht3⟩
 have hx3:Ext (w.alloc (.cells #[.int .i64 aA,.int .i64 aB,.slice p n cap,.int .i64 free,.int .i64 step,.int .i64 aD,.int .i64 aH,.int .i64 aC,.int .i64 aI,.slice q m c2] 30)) w3:=hx2.trans ht3
 have hz3:w.heap.size<w3.heap.size:=Nat.lt_of_lt_of_le (by simp) hx3.sz
 obtain⟨e3_0,e3_1,e3_2,e3_3,e3_4,e3_5,e3_6,e3_7,e3_8,e3_9⟩:=((Blk.new _ _ _).ext hx3).ten
 clear hz2 e2_0 e2_1 e2_2 e2_3 e2_4 e2_5 e2_6 e2_7 e2_8 e2_9
 go_wp2_with go_in
 go_ret
 exact⟨rfl,by exact .trans (.alloc (.refl _) _) hx3⟩
set_option maxRecDepth 100000 in
set_option maxHeartbeats 1000000 in
theorem aBn (aA aB free step aD aH aC aI:Int)(p:Option Addr)(n cap:Nat)(q:Option Addr)(m c2:Nat)(w:World)(hm:m≤9223372036854775807)
  (Cs:List Int)(HC:Hid (∀w',Ext w w'→Calls Tryz.prog 63 #[aJ aA aB p n cap] w' (cC Cs w')))
  (HV:Hid (∀w',Ext w w'→Calls Tryz.prog 64 #[aJ aA aB p n cap] w' fun e w''=>e= .returned (.bool true)∧Ext w' w''))
  (TV:Hid (∀w',Calls Tryz.prog 65 #[bD free step aD aH] w' fun e w''=>e= .returned (.bool true)∧Ext w' w''))
  (h0:0≤aC)(h1:aC≤9999)(h2:0≤aI)(h3:aI≤99999)(hL:((Cs.length:Int)!=m)=false)(hL2:Cs.length=m)(hm2:m≤100)(vs:List bC)(HVS:Hid (Sl w q m c2 4 (vs.flatMap aE))):
  Calls Tryz.prog 17 #[.agg #[.int .i64 aA,.int .i64 aB,.slice p n cap,.int .i64 free,.int .i64 step,.int .i64 aD,.int .i64 aH,.int .i64 aC,.int .i64 aI,.slice q m c2]] w fun e w'=>e= .returned (.bool (bV aC Cs vs))∧Ext w w':=by
 have hvl:vs.length=m:=by have:=HVS.out.len;rw[fD aE 4 (fun _=>rfl)]at this;omega
 have HVL:=xQ hvl
 have HCL:=xQ hL2
 clear hvl hL2
 go_enter Tryz.func17,Tryz.ntmps17
 go_wp2_with fail
 refine(HC.out _ (by exact .alloc (.refl _) _)).mono ?_
 rintro e w1 ⟨cp,cc,rfl,hco,hc1⟩
 have HCO:=xQ hco
 clear hco
 have hx1:Ext (w.alloc (.cells #[.int .i64 aA,.int .i64 aB,.slice p n cap,.int .i64 free,.int .i64 step,.int .i64 aD,.int .i64 aH,.int .i64 aC,.int .i64 aI,.slice q m c2] 30)) w1:=hc1
 have hz1:w.heap.size<w1.heap.size:=Nat.lt_of_lt_of_le (by simp) hx1.sz
 obtain⟨e1_0,e1_1,e1_2,e1_3,e1_4,e1_5,e1_6,e1_7,e1_8,e1_9⟩:=((Blk.new _ _ _).ext hx1).ten
 go_wp2_with fail
 refine(HV.out _ (by exact .trans (.alloc (.refl _) _) hx1)).mono ?_
 rintro e w2 ⟨rfl,hh2⟩
 have hx2:Ext (w.alloc (.cells #[.int .i64 aA,.int .i64 aB,.slice p n cap,.int .i64 free,.int .i64 step,.int .i64 aD,.int .i64 aH,.int .i64 aC,.int .i64 aI,.slice q m c2] 30)) w2:=hx1.trans hh2
 have hz2:w.heap.size<w2.heap.size:=Nat.lt_of_lt_of_le (by simp) hx2.sz
 obtain⟨e2_0,e2_1,e2_2,e2_3,e2_4,e2_5,e2_6,e2_7,e2_8,e2_9⟩:=((Blk.new _ _ _).ext hx2).ten
 clear hz1 e1_0 e1_1 e1_2 e1_3 e1_4 e1_5 e1_6 e1_7 e1_8 e1_9
 go_wp2_with fail
 refine(TV.out _).mono ?_
 rintro e w3 ⟨rfl,ht3⟩
 have hx3:Ext (w.alloc (.cells #[.int .i64 aA,.int .i64 aB,.slice p n cap,.int .i64 free,.int .i64 step,.int .i64 aD,.int .i64 aH,.int .i64 aC,.int .i64 aI,.slice q m c2] 30)) w3:=hx2.trans ht3
 have hz3:w.heap.size<w3.heap.size:=Nat.lt_of_lt_of_le (by simp) hx3.sz
 obtain⟨e3_0,e3_1,e3_2,e3_3,e3_4,e3_5,e3_6,e3_7,e3_8,e3_9⟩:=((Blk.new _ _ _).ext hx3).ten
 clear hz2 e2_0 e2_1 e2_2 e2_3 e2_4 e2_5 e2_6 e2_7 e2_8 e2_9
 have hco:OwnZ w3 cp Cs.length cc Cs:=(aKg (aO HCO.out (Ext.trans hh2 ht3)))
 have hxw:Ext w w3:=(Ext.alloc (Ext.refl w) _).trans hx3
 go_wp2_with go_in
 clear hL
 go_loopw [4] (fun i wr=> ∃k:Nat,k≤m∧i= .int .i64 k∧bV aC Cs vs=bV aC (Cs.drop k) (vs.drop k)∧Ext w3 wr) (fun i _=>m-(intOf i).toNat)
 case atStart=>exact⟨0,Nat.zero_le _,rfl,rfl,Ext.refl _⟩
 case round=>
  obtain⟨k,hk,rfl,hok,hE⟩:=hrel
  have hcl:wr.cell? ⟨w.heap.size,7,none⟩=some (.int .i64 aC):=(hE.cells.1 _ _ hz3).trans e3_7
  have hcv:wr.cell? ⟨w.heap.size,9,none⟩=some (.slice q m c2):=(hE.cells.1 _ _ hz3).trans e3_9
  have hzr:w.heap.size<wr.heap.size:=Nat.lt_of_lt_of_le hz3 hE.sz
  have HCL2:=HCL.out
  by_cases hlt:k<m
  ·obtain⟨b,off,a0,a1,a2,a3,rfl,hv,hb,g0,g1,g2,g3⟩:=fR (HVS.out.ext (hxw.trans hE)) hlt
   obtain⟨cb,coff,c,rfl,hc,hcb,gc⟩:=(hco.ext hE).int_at (show k<Cs.length by omega)
   have hfin:=xQ (hok.trans (sR hc hv))
   have i1:(0:Int)≤(k:Int):=by omega
   have i2:(k:Int)<(m:Int):=by omega
   have i3:(k:Int)<(Cs.length:Int):=by omega
   clear hok hc hv HCL2
   have hSv:Hid (∀w',Calls Tryz.prog 67 #[dS a1 a2 a3] w' fun e w''=>e= .returned (.bool (dB a1 a2 a3))∧Ext w' w''):=fun w'=>aH8 a1 a2 a3 w'
   go_wp2_with fail
   by_cases t0:a0=c
   ·have q0:(a0 !=c)=false:=by simp[t0]
    have T0:=xQ t0
    clear t0
    cases hst:dB a1 a2 a3 with
    |true=>
     rw[hst]at hSv
     have HST:=xQ hst
     clear hst
     by_cases t1:aC<a3
     ·have hf2:Hid (bV aC Cs vs=false):=by show _=_;rw[hfin.out];simp[eV,HST.out];omega
      go_region_held3 (fun w'=>w'.cell? ⟨wr.heap.size,0,none⟩=some (.int .i64 a0)∧w'.cell? ⟨wr.heap.size,1,none⟩=some (.int .i64 a1)∧w'.cell? ⟨wr.heap.size,2,none⟩=some (.int .i64 a2)∧w'.cell? ⟨wr.heap.size,3,none⟩=some (.int .i64 a3)∧w'.cell? ⟨cb,coff+k,none⟩=some (.int .i64 c)∧w'.cell? ⟨w.heap.size,7,none⟩=some (.int .i64 aC)) (go_keep) ((go_at_call 67;refine(hSv.out _).mono ?_;rintro e w9 ⟨rfl,h9⟩;(try replace h9:=h9.of_drew);have x9:Ext wr w9:=(by first|exact((Ext.refl wr).alloc _).trans h9|exact(((Ext.refl wr).alloc _).drew).trans h9);have g9a:=(x9.cells.1 cb (coff+k) hcb).trans gc;have g9b:=(x9.cells.1 w.heap.size 7 hzr).trans hcl;have hc9:=h9.cells.1;have hz9:wr.heap.size<w9.heap.size:=Nat.lt_of_lt_of_le (by simp) h9.sz;have hz10:w.heap.size<w9.heap.size:=Nat.lt_trans hzr hz9;have hz11:cb<w9.heap.size:=Nat.lt_trans hcb hz9))
      all_goals go_wp2
      all_goals go_ret
      all_goals exact⟨aX hf2.out.symm,by exact .trans (.trans hxw hE) x9⟩
     ·have hf2:Hid (bV aC Cs vs=bV aC (Cs.drop (k+1)) (vs.drop (k+1))):=by show _=_;rw[hfin.out];simp[eV,HST.out,T0.out];intro h;omega
      go_region_held3 (fun w'=>w'.cell? ⟨wr.heap.size,0,none⟩=some (.int .i64 a0)∧w'.cell? ⟨wr.heap.size,1,none⟩=some (.int .i64 a1)∧w'.cell? ⟨wr.heap.size,2,none⟩=some (.int .i64 a2)∧w'.cell? ⟨wr.heap.size,3,none⟩=some (.int .i64 a3)∧w'.cell? ⟨cb,coff+k,none⟩=some (.int .i64 c)∧w'.cell? ⟨w.heap.size,7,none⟩=some (.int .i64 aC)) (go_keep) ((go_at_call 67;refine(hSv.out _).mono ?_;rintro e w9 ⟨rfl,h9⟩;(try replace h9:=h9.of_drew);have x9:Ext wr w9:=(by first|exact((Ext.refl wr).alloc _).trans h9|exact(((Ext.refl wr).alloc _).drew).trans h9);have g9a:=(x9.cells.1 cb (coff+k) hcb).trans gc;have g9b:=(x9.cells.1 w.heap.size 7 hzr).trans hcl;have hc9:=h9.cells.1;have hz9:wr.heap.size<w9.heap.size:=Nat.lt_of_lt_of_le (by simp) h9.sz;have hz10:w.heap.size<w9.heap.size:=Nat.lt_trans hzr hz9;have hz11:cb<w9.heap.size:=Nat.lt_trans hcb hz9))
      all_goals go_wp2
      all_goals go_roundw
      all_goals first
       |(case rel=>first|exact⟨k+1,by omega,by go_num,hf2.out,xE⟩|((repeat apply Exists.intro);exact⟨⟨k+1,by omega,by go_num,hf2.out,by exact .trans hE x9⟩,rfl⟩))
       |(case measure=>simp[intOf];omega)
    |false=>
     rw[hst]at hSv
     have hf2:Hid (bV aC Cs vs=false):=by show _=_;rw[hfin.out];simp[eV,hst]
     clear hst
     refine wp_region_held_drew (S:=fun w'=>w'.cell? ⟨wr.heap.size,0,none⟩=some (.int .i64 a0)∧w'.cell? ⟨wr.heap.size,1,none⟩=some (.int .i64 a1)∧w'.cell? ⟨wr.heap.size,2,none⟩=some (.int .i64 a2)∧w'.cell? ⟨wr.heap.size,3,none⟩=some (.int .i64 a3)∧w'.cell? ⟨cb,coff+k,none⟩=some (.int .i64 c)) (by kernel_rfl) (by go_keep) (fun hHeld=> ?_)
     refine dP (i:=0) (v:= ?_) rfl (by kernel_rfl) (by kernel_rfl) (by kernel_rfl) (fun _ _ _ h=>h) (by rfl) ?_ (by assumption) ?_
     rotate_left
     ·(intro w hSw;(try dsimp only at hSw);go_simp;(try with_reducible rfl))
     (try simp only[Act.put,List.setIfInBounds_toArray,List.set_cons_zero,List.set_cons_succ])
     refine dP (i:=1) (v:= ?_) rfl (by kernel_rfl) (by kernel_rfl) (by kernel_rfl) (fun _ _ _ h=>h) (by rfl) ?_ (by assumption) ?_
     rotate_left
     ·(intro w hSw;(try dsimp only at hSw);go_simp;(try with_reducible rfl))
     (try simp only[Act.put,List.setIfInBounds_toArray,List.set_cons_zero,List.set_cons_succ])
     refine dP (i:=2) (v:= ?_) rfl (by kernel_rfl) (by kernel_rfl) (by kernel_rfl) (fun _ _ _ h=>h) (by rfl) ?_ (by assumption) ?_
     rotate_left
     ·(intro w hSw;(try dsimp only at hSw);go_simp;(try with_reducible rfl))
     (try simp only[Act.put,List.setIfInBounds_toArray,List.set_cons_zero,List.set_cons_succ])
     refine dP (i:=3) (v:= ?_) rfl (by kernel_rfl) (by kernel_rfl) (by kernel_rfl) (fun _ _ _ h=>h) (by rfl) ?_ (by assumption) ?_
     rotate_left
     ·(intro w hSw;(try dsimp only at hSw);go_simp;(try with_reducible rfl))
     (try simp only[Act.put,List.setIfInBounds_toArray,List.set_cons_zero,List.set_cons_succ])
     refine dP (i:=4) (v:= ?_) rfl (by kernel_rfl) (by kernel_rfl) (by kernel_rfl) (fun _ _ _ h=>h) (by rfl) ?_ (by assumption) ?_
     rotate_left
     ·(intro w hSw;(try dsimp only at hSw);go_simp;(try with_reducible rfl))
     (try simp only[Act.put,List.setIfInBounds_toArray,List.set_cons_zero,List.set_cons_succ])
     refine dP (i:=5) (v:= ?_) rfl (by kernel_rfl) (by kernel_rfl) (by kernel_rfl) (fun _ _ _ h=>h) (by rfl) ?_ (by assumption) ?_
     rotate_left
     ·(intro w hSw;(try dsimp only at hSw);go_simp;(try with_reducible rfl))
     (try simp only[Act.put,List.setIfInBounds_toArray,List.set_cons_zero,List.set_cons_succ])
     refine dP (i:=6) (v:= ?_) rfl (by kernel_rfl) (by kernel_rfl) (by kernel_rfl) (fun _ _ _ h=>h) (by rfl) ?_ (by assumption) ?_
     rotate_left
     ·(intro w hSw;(try dsimp only at hSw);go_simp;(try with_reducible rfl))
     (try simp only[Act.put,List.setIfInBounds_toArray,List.set_cons_zero,List.set_cons_succ])
     refine dP (i:=7) (v:= ?_) rfl (by kernel_rfl) (by kernel_rfl) (by kernel_rfl) (fun _ _ _ h=>h) (by rfl) ?_ (by assumption) ?_
     rotate_left
     ·(intro w hSw;(try dsimp only at hSw);go_simp;(try with_reducible rfl))
     (try simp only[Act.put,List.setIfInBounds_toArray,List.set_cons_zero,List.set_cons_succ])
     refine dP (i:=8) (v:= ?_) rfl (by kernel_rfl) (by kernel_rfl) (by kernel_rfl) (fun _ _ _ h=>h) (by rfl) ?_ (by assumption) ?_
     rotate_left
     ·(intro w hSw;(try dsimp only at hSw);go_simp;(try with_reducible rfl))
     (try simp only[Act.put,List.setIfInBounds_toArray,List.set_cons_zero,List.set_cons_succ])
     refine dP (i:=9) (v:= ?_) rfl (by kernel_rfl) (by kernel_rfl) (by kernel_rfl) (fun _ _ _ h=>h) (by rfl) ?_ (by assumption) ?_
     rotate_left
     ·(intro w hSw;(try dsimp only at hSw);go_simp;(try with_reducible rfl))
     (try simp only[Act.put,List.setIfInBounds_toArray,List.set_cons_zero,List.set_cons_succ])
     refine wpAnyH_ready (rs:= [10]) (by kernel_rfl) (by simp) ?_
     refine aJ5 rfl (fun K hK=> ?_)
     go_simp
     go_at_call 67
     refine(hSv.out _).mono ?_
     rintro e w9 ⟨rfl,h9⟩
     (try replace h9:=h9.of_drew)
     have x9:Ext wr w9:=(by first|exact((Ext.refl wr).alloc _).trans h9|exact(((Ext.refl wr).alloc _).drew).trans h9)
     have g9a:=(x9.cells.1 cb (coff+k) hcb).trans gc
     have hc9:=h9.cells.1
     have hz9:wr.heap.size<w9.heap.size:=Nat.lt_of_lt_of_le (by simp) h9.sz
     go_wp2_with fail
     refine hK.out _ _ (by(try dsimp only);go_keep) (fun hHeld=> ?_)
     clear hK K
     (try simp only[Act.put,List.setIfInBounds_toArray,List.set_cons_zero,List.set_cons_succ])
     refine dP (i:=11) (v:= ?_) rfl (by kernel_rfl) (by kernel_rfl) (by kernel_rfl) (fun _ _ _ h=>h) (by rfl) ?_ (by assumption) ?_
     rotate_left
     ·(intro w hSw;(try dsimp only at hSw);go_simp;(try with_reducible rfl))
     (try simp only[Act.put,List.setIfInBounds_toArray,List.set_cons_zero,List.set_cons_succ])
     refine dP (i:=12) (v:= ?_) rfl (by kernel_rfl) (by kernel_rfl) (by kernel_rfl) (fun _ _ _ h=>h) (by rfl) ?_ (by assumption) ?_
     rotate_left
     ·(intro w hSw;(try dsimp only at hSw);go_simp;(try with_reducible rfl))
     (try simp only[Act.put,List.setIfInBounds_toArray,List.set_cons_zero,List.set_cons_succ])
     refine dP (i:=13) (v:= ?_) rfl (by kernel_rfl) (by kernel_rfl) (by kernel_rfl) (fun _ _ _ h=>h) (by rfl) ?_ (by assumption) ?_
     rotate_left
     ·(intro w hSw;(try dsimp only at hSw);go_simp;(try with_reducible rfl))
     (try simp only[Act.put,List.setIfInBounds_toArray,List.set_cons_zero,List.set_cons_succ])
     refine jU (i:=14) rfl (by kernel_rfl) (by kernel_rfl) (by kernel_rfl) (fun _ _ _ h=>h) (by rfl) (by assumption) ?_
     (try simp only[Act.put,List.setIfInBounds_toArray,List.set_cons_zero,List.set_cons_succ])
     refine jU (i:=15) rfl (by kernel_rfl) (by kernel_rfl) (by kernel_rfl) (fun _ _ _ h=>h) (by rfl) (by assumption) ?_
     (try simp only[Act.put,List.setIfInBounds_toArray,List.set_cons_zero,List.set_cons_succ])
     refine jU (i:=16) rfl (by kernel_rfl) (by kernel_rfl) (by kernel_rfl) (fun _ _ _ h=>h) (by rfl) (by assumption) ?_
     (try simp only[Act.put,List.setIfInBounds_toArray,List.set_cons_zero,List.set_cons_succ])
     refine jU (i:=17) rfl (by kernel_rfl) (by kernel_rfl) (by kernel_rfl) (fun _ _ _ h=>h) (by rfl) (by assumption) ?_
     (try simp only[Act.put,List.setIfInBounds_toArray,List.set_cons_zero,List.set_cons_succ])
     refine jU (i:=18) rfl (by kernel_rfl) (by kernel_rfl) (by kernel_rfl) (fun _ _ _ h=>h) (by rfl) (by assumption) ?_
     (try simp only[Act.put,List.setIfInBounds_toArray,List.set_cons_zero,List.set_cons_succ])
     refine jU (i:=19) rfl (by kernel_rfl) (by kernel_rfl) (by kernel_rfl) (fun _ _ _ h=>h) (by rfl) (by assumption) ?_
     (try simp only[Act.put,List.setIfInBounds_toArray,List.set_cons_zero,List.set_cons_succ])
     refine dP (i:=20) (v:= ?_) rfl (by kernel_rfl) (by kernel_rfl) (by kernel_rfl) (fun _ _ _ h=>h) (by rfl) ?_ (by assumption) ?_
     rotate_left
     ·(intro w hSw;(try dsimp only at hSw);go_simp;(try with_reducible rfl))
     (try simp only[Act.put,List.setIfInBounds_toArray,List.set_cons_zero,List.set_cons_succ])
     refine wpAnyH_done (by kernel_rfl) ?_ _
     all_goals go_wp2
     all_goals go_ret
     all_goals exact⟨aX hf2.out.symm,by exact .trans (.trans hxw hE) x9⟩
   ·have q0:(a0 !=c)=true:=by simp[t0]
    have hf2:Hid (bV aC Cs vs=false):=by show _=_;rw[hfin.out];simp[t0]
    clear t0
    go_quiet (fail)
    all_goals go_wp2
    all_goals go_ret
    all_goals exact⟨aX hf2.out.symm,by exact .drewN (.alloc (.trans hxw hE) _) _⟩
  ·have hfin:Hid (bV aC Cs vs=true):=by
    show _=_
    rw[hok,List.drop_eq_nil_of_le (by rw[HCL.out];omega),List.drop_eq_nil_of_le (by rw[HVL.out];omega)];rfl
   clear hok
   go_wp2
   go_ret
   exact⟨aX hfin.out.symm,by exact .trans hxw hE⟩
theorem lT (h:aV)(p:Option Addr)(n cap:Nat)(q:Option Addr)(m c2:Nat)(w:World)(hi:IsHouse w h p n cap q m c2):
  Calls Tryz.prog 17 #[cH h p n cap q m c2] w fun e w'=>e= .returned (.bool (bN h))∧Ext w w':=by
 obtain⟨aA,aB,cells,free,step,aD,aH,aC,aI,vs⟩:=h
 have hm:=hi.vs.bd
 have hvl:=hi.vlen
 have hcl:=hi.clen
 have HV:=fun(w':World) (hx:Ext w w')=>eY aA aB p n cap cells w' (hi.cells.ext hx)
 have HC:=fun(w':World) (hx:Ext w w')=>aKn aA aB p n cap cells w' (hi.cells.ext hx)
 have TV:=fun(w':World)=>uQ free step aD aH w'
 unfold bN
 simp only at hvl hcl HV HC TV⊢
 cases h1:aR aA aB cells with
 |false=>
  rw[h1]at HV HC
  simpa using aBr aA aB free step aD aH aC aI p n cap q m c2 w hm _ HC HV
 |true=>
  rw[h1]at HV HC
  rw[if_pos rfl]at HC
  cases h2:bJ free step aD aH with
  |false=>
   rw[h2]at TV
   simpa using aBq aA aB free step aD aH aC aI p n cap q m c2 w hm _ HC HV TV
  |true=>
   rw[h2]at TV
   by_cases h3:0≤aC∧aC≤9999∧0≤aI∧aI≤99999
   ·obtain⟨a1,a2,a3,a4⟩:=h3
    have hn:jV ⟨aA,aB,cells,free,step,aD,aH,aC,aI,vs⟩=true:=by simp[jV,a1,a2,a3,a4]
    rw[hn]
    by_cases hL:(eM cells).length=m
    ·simpa using aBn aA aB free step aD aH aC aI p n cap q m c2 w hm (eM cells) HC HV TV a1 a2 a3 a4 (by simp[hL]) hL (by
      have e1:=nB cells;have e2:=oN cells
      have e3:cells.length≤12:=by simp only[aR,Bool.and_eq_true]at h1;exact(cG h1.1).2.2.2.2.2.1
      omega) vs hi.vs
    ·rw[sQ (by omega)]
     simpa using aBo aA aB free step aD aH aC aI p n cap q m c2 w hm (eM cells) HC HV TV a1 a2 a3 a4 (by simp;omega)
   ·have hn:jV ⟨aA,aB,cells,free,step,aD,aH,aC,aI,vs⟩=false:=by simp[jV];omega
    rw[hn]
    simpa using aBp aA aB free step aD aH aC aI p n cap q m c2 w hm _ HC HV TV (by omega)
end Go.Proofs.YteejdnmmpmcmeaaGreatDoor
