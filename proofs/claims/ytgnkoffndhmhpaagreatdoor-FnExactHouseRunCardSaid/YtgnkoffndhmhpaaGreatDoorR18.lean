/-
  Texts of this proof, packed (@packed).
-/
import Derived.Test.YtgnkoffndhmhpaaGreatDoorR4
import Derived.Test.YtgnkoffndhmhpaaGreatDoorR17
namespace Go.Proofs.YtgnkoffndhmhpaaGreatDoor
open Go.RowKit
set_option linter.unusedVariables false
set_option maxHeartbeats 8000000
set_option maxRecDepth 100000
abbrev bS (h:aT)(p:OA)(n cap:Nat)(q:OA)(m c2:Nat):Value:=
 .agg #[h.aA,h.aB,.slice p n cap,h.free,h.step,h.aE,h.aF,h.aC,h.aG,.slice q m c2]
structure IsHouse (w:World) (h:aT) (p:OA) (n cap:Nat) (q:OA) (m c2:Nat):Prop where
 cells:Sl w p n cap 1 (ivs h.cells)
 vs:Sl w q m c2 4 (h.vs.flatMap aD)
theorem IsHouse.ext {w w':World}{h:aT}{p q:OA}{n cap m c2:Nat}(i:IsHouse w h p n cap q m c2)(hx:Ext w w'):IsHouse w' h p n cap q m c2:=⟨i.cells.ext hx,i.vs.ext hx⟩
theorem IsHouse.vlen {w:World}{h:aT}{p q:OA}{n cap m c2:Nat}(i:IsHouse w h p n cap q m c2):h.vs.length=m:=by
 have:=i.vs.len;rw[cH aD 4 (fun _=>rfl)]at this;omega
theorem IsHouse.clen {w:World}{h:aT}{p q:OA}{n cap m c2:Nat}(i:IsHouse w h p n cap q m c2):h.cells.length=n:=i.cells.ilen
theorem dP {w:World}{q:OA}{m c2:Nat}{vs:List aQ}(h:Sl w q m c2 4 (vs.flatMap aD)){k:Nat}(hk:k<m):
  ∃b off a0 a1 a2 a3,q=some ⟨b,off,none⟩∧vs[k]? =some (a0,a1,a2,a3)∧b<w.heap.size∧w.cell? ⟨b,off+k*4,none⟩=some (.int .i64 a0)∧w.cell? ⟨b,off+k*4+1,none⟩=some (.int .i64 a1)∧w.cell? ⟨b,off+k*4+2,none⟩=some (.int .i64 a2)∧w.cell? ⟨b,off+k*4+3,none⟩=some (.int .i64 a3):=by
 obtain⟨b,off,x,hp,hx,hb,hc⟩:=Sl.at_ (sz:=4) (f:=aD) (fun _=>rfl) h hk (by omega)
 obtain⟨a0,a1,a2,a3⟩:=x
 exact⟨b,off,a0,a1,a2,a3,hp,hx,hb,hc 0 (by omega),hc 1 (by omega),hc 2 (by omega),hc 3 (by omega)⟩
def OwnZ (w:World)(p:OA)(n c:Nat)(xs:List Int):Prop:=Sl w p n c 1 (ivs xs)
theorem OwnZ.ext {w w':World}{p:OA}{n c:Nat}{xs:List Int}(h:OwnZ w p n c xs)(hx:Ext w w'):Sl w' p n c 1 (ivs xs):=Sl.ext h hx
theorem aIh {w:World}{B n c:Nat}{p:OA}{xs:List Int}(h:w.ownsRow B TI 1 (.slice p n c) n (ivs xs)):OwnZ w p n c xs:=Sl.own h
theorem zB (aA aB free step aE aF aC aG:Int)(p:OA)(n cap:Nat)(q:OA)(m c2:Nat)(w:World)(hm:m≤9223372036854775807)
  (HV:xB 80 #[aI aA aB p n cap] w false):
  Calls Tryz.prog 30 #[.agg #[aA,aB,.slice p n cap,free,step,aE,aF,aC,aG,.slice q m c2]] w fun e w'=>e= .returned (.bool false)∧Ext w w':=by
 go_enter Tryz.func30,Tryz.ntmps30
 go_wp2_with fail
 refine(HV.out _ (by exact .alloc (.refl _) _)).mono ?_
 rintro e w1 ⟨rfl,hh1⟩
 have hx1:Ext (w.alloc (.cells #[aA,aB,.slice p n cap,free,step,aE,aF,aC,aG,.slice q m c2] 35)) w1:=hh1
 have hz1:w.heap.size<w1.heap.size:=Nat.lt_of_lt_of_le (by simp) hx1.sz
 obtain⟨e1_0,e1_1,e1_2,e1_3,e1_4,e1_5,e1_6,e1_7,e1_8,e1_9⟩:=((Blk.new _ _ _).ext hx1).ten
 go_wp2
 go_ret
 exact⟨rfl,by exact .trans (.alloc (.refl _) _) hx1⟩
theorem zA (aA aB free step aE aF aC aG:Int)(p:OA)(n cap:Nat)(q:OA)(m c2:Nat)(w:World)(hm:m≤9223372036854775807)
  (HV:xB 80 #[aI aA aB p n cap] w true)
  (TV:Hid (∀w',Calls Tryz.prog 81 #[aR free step aE aF] w' fun e w''=>e= .returned (.bool false)∧Ext w' w'')):
  Calls Tryz.prog 30 #[.agg #[aA,aB,.slice p n cap,free,step,aE,aF,aC,aG,.slice q m c2]] w fun e w'=>e= .returned (.bool false)∧Ext w w':=by
 go_enter Tryz.func30,Tryz.ntmps30
 go_wp2_with fail
 refine(HV.out _ (by exact .alloc (.refl _) _)).mono ?_
 rintro e w1 ⟨rfl,hh1⟩
 have hx1:Ext (w.alloc (.cells #[aA,aB,.slice p n cap,free,step,aE,aF,aC,aG,.slice q m c2] 35)) w1:=hh1
 have hz1:w.heap.size<w1.heap.size:=Nat.lt_of_lt_of_le (by simp) hx1.sz
 obtain⟨e1_0,e1_1,e1_2,e1_3,e1_4,e1_5,e1_6,e1_7,e1_8,e1_9⟩:=((Blk.new _ _ _).ext hx1).ten
 go_wp2_with fail
 refine(TV.out _).mono ?_
 rintro e w2 ⟨rfl,ht2⟩
 have hx2:Ext (w.alloc (.cells #[aA,aB,.slice p n cap,free,step,aE,aF,aC,aG,.slice q m c2] 35)) w2:=hx1.trans ht2
 have hz2:w.heap.size<w2.heap.size:=Nat.lt_of_lt_of_le (by simp) hx2.sz
 obtain⟨e2_0,e2_1,e2_2,e2_3,e2_4,e2_5,e2_6,e2_7,e2_8,e2_9⟩:=((Blk.new _ _ _).ext hx2).ten
 clear hz1 e1_0 e1_1 e1_2 e1_3 e1_4 e1_5 e1_6 e1_7 e1_8 e1_9
 go_wp2
 go_ret
 exact⟨rfl,by exact .trans (.alloc (.refl _) _) hx2⟩
theorem yZ (aA aB free step aE aF aC aG:Int)(p:OA)(n cap:Nat)(q:OA)(m c2:Nat)(w:World)(hm:m≤9223372036854775807)
  (HV:xB 80 #[aI aA aB p n cap] w true)
  (TV:Hid (∀w',Calls Tryz.prog 81 #[aR free step aE aF] w' fun e w''=>e= .returned (.bool true)∧Ext w' w''))
  (h:aC<0∨0≤aC∧9999<aC∨0≤aC∧aC≤9999∧aG<0∨0≤aC∧aC≤9999∧0≤aG∧99999<aG):
  Calls Tryz.prog 30 #[.agg #[aA,aB,.slice p n cap,free,step,aE,aF,aC,aG,.slice q m c2]] w fun e w'=>e= .returned (.bool false)∧Ext w w':=by
 rcases h with h|⟨h0,h⟩|⟨h0,h1,h⟩|⟨h0,h1,h2,h⟩
 all_goals
  (try (have hdd:decide (aC≤9999)=false:=by simp;omega))
  (try (have hdd:decide (aG≤99999)=false:=by simp;omega))
  go_enter Tryz.func30,Tryz.ntmps30
  go_wp2_with fail
  refine(HV.out _ (by exact .alloc (.refl _) _)).mono ?_
  rintro e w1 ⟨rfl,hh1⟩
  have hx1:Ext (w.alloc (.cells #[aA,aB,.slice p n cap,free,step,aE,aF,aC,aG,.slice q m c2] 35)) w1:=hh1
  have hz1:w.heap.size<w1.heap.size:=Nat.lt_of_lt_of_le (by simp) hx1.sz
  obtain⟨e1_0,e1_1,e1_2,e1_3,e1_4,e1_5,e1_6,e1_7,e1_8,e1_9⟩:=((Blk.new _ _ _).ext hx1).ten
  go_wp2_with fail
  refine(TV.out _).mono ?_
  rintro e w2 ⟨rfl,ht2⟩
  have hx2:Ext (w.alloc (.cells #[aA,aB,.slice p n cap,free,step,aE,aF,aC,aG,.slice q m c2] 35)) w2:=hx1.trans ht2
  have hz2:w.heap.size<w2.heap.size:=Nat.lt_of_lt_of_le (by simp) hx2.sz
  obtain⟨e2_0,e2_1,e2_2,e2_3,e2_4,e2_5,e2_6,e2_7,e2_8,e2_9⟩:=((Blk.new _ _ _).ext hx2).ten
  clear hz1 e1_0 e1_1 e1_2 e1_3 e1_4 e1_5 e1_6 e1_7 e1_8 e1_9
  go_wp2
  go_ret
  exact⟨rfl,by exact .trans (.alloc (.refl _) _) hx2⟩
theorem yY (aA aB free step aE aF aC aG:Int)(p:OA)(n cap:Nat)(q:OA)(m c2:Nat)(w:World)(hm:m≤9223372036854775807)
  (Cs:List Int)(HC:Hid (∀w',Ext w w'→Calls Tryz.prog 47 #[aI aA aB p n cap] w' (aY Cs w')))
  (HV:xB 80 #[aI aA aB p n cap] w true)
  (TV:Hid (∀w',Calls Tryz.prog 81 #[aR free step aE aF] w' fun e w''=>e= .returned (.bool true)∧Ext w' w''))
  (h0:0≤aC)(h1:aC≤9999)(h2:0≤aG)(h3:aG≤99999)(hL:((Cs.length:Int)!=m)=true):
  Calls Tryz.prog 30 #[.agg #[aA,aB,.slice p n cap,free,step,aE,aF,aC,aG,.slice q m c2]] w fun e w'=>e= .returned (.bool false)∧Ext w w':=by
 go_enter Tryz.func30,Tryz.ntmps30
 go_wp2_with fail
 refine(HV.out _ (by exact .alloc (.refl _) _)).mono ?_
 rintro e w1 ⟨rfl,hh1⟩
 have hx1:Ext (w.alloc (.cells #[aA,aB,.slice p n cap,free,step,aE,aF,aC,aG,.slice q m c2] 35)) w1:=hh1
 have hz1:w.heap.size<w1.heap.size:=Nat.lt_of_lt_of_le (by simp) hx1.sz
 obtain⟨e1_0,e1_1,e1_2,e1_3,e1_4,e1_5,e1_6,e1_7,e1_8,e1_9⟩:=((Blk.new _ _ _).ext hx1).ten
 go_wp2_with fail
 refine(TV.out _).mono ?_
 rintro e w2 ⟨rfl,ht2⟩
 have hx2:Ext (w.alloc (.cells #[aA,aB,.slice p n cap,free,step,aE,aF,aC,aG,.slice q m c2] 35)) w2:=hx1.trans ht2
 have hz2:w.heap.size<w2.heap.size:=Nat.lt_of_lt_of_le (by simp) hx2.sz
 obtain⟨e2_0,e2_1,e2_2,e2_3,e2_4,e2_5,e2_6,e2_7,e2_8,e2_9⟩:=((Blk.new _ _ _).ext hx2).ten
 clear hz1 e1_0 e1_1 e1_2 e1_3 e1_4 e1_5 e1_6 e1_7 e1_8 e1_9
 go_wp2_with fail
 refine(HC.out _ (by exact .trans (.alloc (.refl _) _) hx2)).mono ?_
 rintro e w3 ⟨cp,cc,rfl,hco,hc3⟩
 have HCO:=xQ hco
 clear hco
 have hx3:Ext (w.alloc (.cells #[aA,aB,.slice p n cap,free,step,aE,aF,aC,aG,.slice q m c2] 35)) w3:=hx2.trans hc3
 have hz3:w.heap.size<w3.heap.size:=Nat.lt_of_lt_of_le (by simp) hx3.sz
 obtain⟨e3_0,e3_1,e3_2,e3_3,e3_4,e3_5,e3_6,e3_7,e3_8,e3_9⟩:=((Blk.new _ _ _).ext hx3).ten
 clear hz2 e2_0 e2_1 e2_2 e2_3 e2_4 e2_5 e2_6 e2_7 e2_8 e2_9
 go_wp2
 go_ret
 exact⟨rfl,by exact .trans (.alloc (.refl _) _) hx3⟩
theorem yX (aA aB free step aE aF aC aG:Int)(p:OA)(n cap:Nat)(q:OA)(m c2:Nat)(w:World)(hm:m≤9223372036854775807)
  (Cs:List Int)(HC:Hid (∀w',Ext w w'→Calls Tryz.prog 47 #[aI aA aB p n cap] w' (aY Cs w')))
  (HV:xB 80 #[aI aA aB p n cap] w true)
  (TV:Hid (∀w',Calls Tryz.prog 81 #[aR free step aE aF] w' fun e w''=>e= .returned (.bool true)∧Ext w' w''))
  (h0:0≤aC)(h1:aC≤9999)(h2:0≤aG)(h3:aG≤99999)(hL:((Cs.length:Int)!=m)=false)(hL2:Cs.length=m)(hm2:m≤100)(vs:List aQ)(HVS:Hid (Sl w q m c2 4 (vs.flatMap aD))):
  Calls Tryz.prog 30 #[.agg #[aA,aB,.slice p n cap,free,step,aE,aF,aC,aG,.slice q m c2]] w fun e w'=>e= .returned (.bool (bU aC Cs vs))∧Ext w w':=by
 have hvl:vs.length=m:=by have:=HVS.out.len;rw[cH aD 4 (fun _=>rfl)]at this;omega
 have HVL:=xQ hvl
 have HCL:=xQ hL2
 clear hvl hL2
 go_enter Tryz.func30,Tryz.ntmps30
 go_wp2_with fail
 refine(HV.out _ (by exact .alloc (.refl _) _)).mono ?_
 rintro e w1 ⟨rfl,hh1⟩
 have hx1:Ext (w.alloc (.cells #[aA,aB,.slice p n cap,free,step,aE,aF,aC,aG,.slice q m c2] 35)) w1:=hh1
 have hz1:w.heap.size<w1.heap.size:=Nat.lt_of_lt_of_le (by simp) hx1.sz
 obtain⟨e1_0,e1_1,e1_2,e1_3,e1_4,e1_5,e1_6,e1_7,e1_8,e1_9⟩:=((Blk.new _ _ _).ext hx1).ten
 go_wp2_with fail
 refine(TV.out _).mono ?_
 rintro e w2 ⟨rfl,ht2⟩
 have hx2:Ext (w.alloc (.cells #[aA,aB,.slice p n cap,free,step,aE,aF,aC,aG,.slice q m c2] 35)) w2:=hx1.trans ht2
 have hz2:w.heap.size<w2.heap.size:=Nat.lt_of_lt_of_le (by simp) hx2.sz
 obtain⟨e2_0,e2_1,e2_2,e2_3,e2_4,e2_5,e2_6,e2_7,e2_8,e2_9⟩:=((Blk.new _ _ _).ext hx2).ten
 clear hz1 e1_0 e1_1 e1_2 e1_3 e1_4 e1_5 e1_6 e1_7 e1_8 e1_9
 go_wp2_with fail
 refine(HC.out _ (by exact .trans (.alloc (.refl _) _) hx2)).mono ?_
 rintro e w3 ⟨cp,cc,rfl,hco,hc3⟩
 have HCO:=xQ hco
 clear hco
 have hx3:Ext (w.alloc (.cells #[aA,aB,.slice p n cap,free,step,aE,aF,aC,aG,.slice q m c2] 35)) w3:=hx2.trans hc3
 have hz3:w.heap.size<w3.heap.size:=Nat.lt_of_lt_of_le (by simp) hx3.sz
 obtain⟨e3_0,e3_1,e3_2,e3_3,e3_4,e3_5,e3_6,e3_7,e3_8,e3_9⟩:=((Blk.new _ _ _).ext hx3).ten
 clear hz2 e2_0 e2_1 e2_2 e2_3 e2_4 e2_5 e2_6 e2_7 e2_8 e2_9
 have hco:OwnZ w3 cp Cs.length cc Cs:=(aIh HCO.out)
 have hxw:Ext w w3:=(Ext.alloc (Ext.refl w) _).trans hx3
 go_wp2
 clear hL
 go_loopw [48] (fun i wr=> ∃k:Nat,k≤m∧i= .int .i64 k∧bU aC Cs vs=bU aC (Cs.drop k) (vs.drop k)∧Ext w3 wr) (fun i _=>m-(intOf i).toNat)
 case atStart=>exact⟨0,Nat.zero_le _,rfl,rfl,Ext.refl _⟩
 case round=>
  obtain⟨k,hk,rfl,hok,hE⟩:=hrel
  have hcl:wr.cell? ⟨w.heap.size,7,none⟩=some (.int .i64 aC):=(hE.cells.1 _ _ hz3).trans e3_7
  have hcv:wr.cell? ⟨w.heap.size,9,none⟩=some (.slice q m c2):=(hE.cells.1 _ _ hz3).trans e3_9
  have hzr:w.heap.size<wr.heap.size:=Nat.lt_of_lt_of_le hz3 hE.sz
  have HCL2:=HCL.out
  by_cases hlt:k<m
  ·obtain⟨b,off,a0,a1,a2,a3,rfl,hv,hb,g0,g1,g2,g3⟩:=dP (HVS.out.ext (hxw.trans hE)) hlt
   obtain⟨cb,coff,c,rfl,hc,hcb,gc⟩:=(hco.ext hE).int_at (show k<Cs.length by omega)
   have hfin:=xQ (hok.trans (pY hc hv))
   have i1:(0:Int)≤(k:Int):=by omega
   have i2:(k:Int)<(m:Int):=by omega
   have i3:(k:Int)<(Cs.length:Int):=by omega
   clear hok hc hv HCL2
   have hSv:Hid (∀w',Calls Tryz.prog 82 #[bL a1 a2 a3] w' fun e w''=>e= .returned (.bool (cP a1 a2 a3))∧Ext w' w''):=fun w'=>aGb a1 a2 a3 w'
   go_wp2_with fail
   by_cases t0:a0=c
   ·have q0:(a0 !=c)=false:=by simp[t0]
    have T0:=xQ t0
    clear t0
    cases hst:cP a1 a2 a3 with
    |true=>
     rw[hst]at hSv
     have HST:=xQ hst
     clear hst
     by_cases t1:aC<a3
     ·have hf2:Hid (bU aC Cs vs=false):=by show _=_;rw[hfin.out];simp[eM,HST.out];omega
      go_region_held3 (fun w'=>w'.cell? ⟨wr.heap.size,0,none⟩=some (.int .i64 a0)∧w'.cell? ⟨wr.heap.size,1,none⟩=some (.int .i64 a1)∧w'.cell? ⟨wr.heap.size,2,none⟩=some (.int .i64 a2)∧w'.cell? ⟨wr.heap.size,3,none⟩=some (.int .i64 a3)∧w'.cell? ⟨cb,coff+k,none⟩=some (.int .i64 c)∧w'.cell? ⟨w.heap.size,7,none⟩=some (.int .i64 aC)) (go_keep) ((go_at_call 82;refine(hSv.out _).mono ?_;rintro e w9 ⟨rfl,h9⟩;(try replace h9:=h9.of_drew);have x9:Ext wr w9:=(by first|exact((Ext.refl wr).alloc _).trans h9|exact(((Ext.refl wr).alloc _).drew).trans h9);have g9a:=(x9.cells.1 cb (coff+k) hcb).trans gc;have g9b:=(x9.cells.1 w.heap.size 7 hzr).trans hcl;have hc9:=h9.cells.1;have hz9:wr.heap.size<w9.heap.size:=Nat.lt_of_lt_of_le (by simp) h9.sz;have hz10:w.heap.size<w9.heap.size:=Nat.lt_trans hzr hz9;have hz11:cb<w9.heap.size:=Nat.lt_trans hcb hz9))
      all_goals go_wp2
      all_goals go_ret
      all_goals exact⟨aV hf2.out.symm,by exact .trans (.trans hxw hE) x9⟩
     ·have hf2:Hid (bU aC Cs vs=bU aC (Cs.drop (k+1)) (vs.drop (k+1))):=by show _=_;rw[hfin.out];simp[eM,HST.out,T0.out];intro h;omega
      go_region_held3 (fun w'=>w'.cell? ⟨wr.heap.size,0,none⟩=some (.int .i64 a0)∧w'.cell? ⟨wr.heap.size,1,none⟩=some (.int .i64 a1)∧w'.cell? ⟨wr.heap.size,2,none⟩=some (.int .i64 a2)∧w'.cell? ⟨wr.heap.size,3,none⟩=some (.int .i64 a3)∧w'.cell? ⟨cb,coff+k,none⟩=some (.int .i64 c)∧w'.cell? ⟨w.heap.size,7,none⟩=some (.int .i64 aC)) (go_keep) ((go_at_call 82;refine(hSv.out _).mono ?_;rintro e w9 ⟨rfl,h9⟩;(try replace h9:=h9.of_drew);have x9:Ext wr w9:=(by first|exact((Ext.refl wr).alloc _).trans h9|exact(((Ext.refl wr).alloc _).drew).trans h9);have g9a:=(x9.cells.1 cb (coff+k) hcb).trans gc;have g9b:=(x9.cells.1 w.heap.size 7 hzr).trans hcl;have hc9:=h9.cells.1;have hz9:wr.heap.size<w9.heap.size:=Nat.lt_of_lt_of_le (by simp) h9.sz;have hz10:w.heap.size<w9.heap.size:=Nat.lt_trans hzr hz9;have hz11:cb<w9.heap.size:=Nat.lt_trans hcb hz9))
      all_goals go_wp2
      all_goals go_roundw
      all_goals first
       |(case rel=>first|exact⟨k+1,by omega,by go_num,hf2.out,by exact .trans hE x9⟩|((repeat apply Exists.intro);exact⟨⟨k+1,by omega,by go_num,hf2.out,xE⟩,rfl⟩))
       |(case measure=>simp[intOf];omega)
    |false=>
     rw[hst]at hSv
     have hf2:Hid (bU aC Cs vs=false):=by show _=_;rw[hfin.out];simp[eM,hst]
     clear hst
     refine wp_region_held_drew (S:=fun w'=>w'.cell? ⟨wr.heap.size,0,none⟩=some (.int .i64 a0)∧w'.cell? ⟨wr.heap.size,1,none⟩=some (.int .i64 a1)∧w'.cell? ⟨wr.heap.size,2,none⟩=some (.int .i64 a2)∧w'.cell? ⟨wr.heap.size,3,none⟩=some (.int .i64 a3)∧w'.cell? ⟨cb,coff+k,none⟩=some (.int .i64 c)) (by kernel_rfl) (by go_keep) (fun hHeld=> ?_)
     refine dH (i:=0) (v:= ?_) rfl (by kernel_rfl) (by kernel_rfl) (by kernel_rfl) (fun _ _ _ h=>h) (by rfl) ?_ (by assumption) ?_
     rotate_left
     ·(intro w hSw;(try dsimp only at hSw);go_simp;(try with_reducible rfl))
     (try simp only[Act.put,List.setIfInBounds_toArray,List.set_cons_zero,List.set_cons_succ])
     refine dH (i:=1) (v:= ?_) rfl (by kernel_rfl) (by kernel_rfl) (by kernel_rfl) (fun _ _ _ h=>h) (by rfl) ?_ (by assumption) ?_
     rotate_left
     ·(intro w hSw;(try dsimp only at hSw);go_simp;(try with_reducible rfl))
     (try simp only[Act.put,List.setIfInBounds_toArray,List.set_cons_zero,List.set_cons_succ])
     refine dH (i:=2) (v:= ?_) rfl (by kernel_rfl) (by kernel_rfl) (by kernel_rfl) (fun _ _ _ h=>h) (by rfl) ?_ (by assumption) ?_
     rotate_left
     ·(intro w hSw;(try dsimp only at hSw);go_simp;(try with_reducible rfl))
     (try simp only[Act.put,List.setIfInBounds_toArray,List.set_cons_zero,List.set_cons_succ])
     refine dH (i:=3) (v:= ?_) rfl (by kernel_rfl) (by kernel_rfl) (by kernel_rfl) (fun _ _ _ h=>h) (by rfl) ?_ (by assumption) ?_
     rotate_left
     ·(intro w hSw;(try dsimp only at hSw);go_simp;(try with_reducible rfl))
     (try simp only[Act.put,List.setIfInBounds_toArray,List.set_cons_zero,List.set_cons_succ])
     refine dH (i:=4) (v:= ?_) rfl (by kernel_rfl) (by kernel_rfl) (by kernel_rfl) (fun _ _ _ h=>h) (by rfl) ?_ (by assumption) ?_
     rotate_left
     ·(intro w hSw;(try dsimp only at hSw);go_simp;(try with_reducible rfl))
     (try simp only[Act.put,List.setIfInBounds_toArray,List.set_cons_zero,List.set_cons_succ])
     refine dH (i:=5) (v:= ?_) rfl (by kernel_rfl) (by kernel_rfl) (by kernel_rfl) (fun _ _ _ h=>h) (by rfl) ?_ (by assumption) ?_
     rotate_left
     ·(intro w hSw;(try dsimp only at hSw);go_simp;(try with_reducible rfl))
     (try simp only[Act.put,List.setIfInBounds_toArray,List.set_cons_zero,List.set_cons_succ])
     refine dH (i:=6) (v:= ?_) rfl (by kernel_rfl) (by kernel_rfl) (by kernel_rfl) (fun _ _ _ h=>h) (by rfl) ?_ (by assumption) ?_
     rotate_left
     ·(intro w hSw;(try dsimp only at hSw);go_simp;(try with_reducible rfl))
     (try simp only[Act.put,List.setIfInBounds_toArray,List.set_cons_zero,List.set_cons_succ])
     refine dH (i:=7) (v:= ?_) rfl (by kernel_rfl) (by kernel_rfl) (by kernel_rfl) (fun _ _ _ h=>h) (by rfl) ?_ (by assumption) ?_
     rotate_left
     ·(intro w hSw;(try dsimp only at hSw);go_simp;(try with_reducible rfl))
     (try simp only[Act.put,List.setIfInBounds_toArray,List.set_cons_zero,List.set_cons_succ])
     refine dH (i:=8) (v:= ?_) rfl (by kernel_rfl) (by kernel_rfl) (by kernel_rfl) (fun _ _ _ h=>h) (by rfl) ?_ (by assumption) ?_
     rotate_left
     ·(intro w hSw;(try dsimp only at hSw);go_simp;(try with_reducible rfl))
     (try simp only[Act.put,List.setIfInBounds_toArray,List.set_cons_zero,List.set_cons_succ])
     refine dH (i:=9) (v:= ?_) rfl (by kernel_rfl) (by kernel_rfl) (by kernel_rfl) (fun _ _ _ h=>h) (by rfl) ?_ (by assumption) ?_
     rotate_left
     ·(intro w hSw;(try dsimp only at hSw);go_simp;(try with_reducible rfl))
     (try simp only[Act.put,List.setIfInBounds_toArray,List.set_cons_zero,List.set_cons_succ])
     refine wpAnyH_ready (rs:= [10]) (by kernel_rfl) (by simp) ?_
     refine aHe rfl (fun K hK=> ?_)
     go_simp
     go_at_call 82
     refine(hSv.out _).mono ?_
     rintro e w9 ⟨rfl,h9⟩
     (try replace h9:=h9.of_drew)
     have x9:Ext wr w9:=(by first|exact((Ext.refl wr).alloc _).trans h9|exact(((Ext.refl wr).alloc _).drew).trans h9)
     have g9a:=(x9.cells.1 cb (coff+k) hcb).trans gc
     have hc9:=h9.cells.1
     have hz9:wr.heap.size<w9.heap.size:=Nat.lt_of_lt_of_le (by simp) h9.sz
     go_wp2_with fail
     refine hK.out _ _ (by(try dsimp only);go_keep) (fun hHeld=> ?_)
     clear hK K
     (try simp only[Act.put,List.setIfInBounds_toArray,List.set_cons_zero,List.set_cons_succ])
     refine dH (i:=11) (v:= ?_) rfl (by kernel_rfl) (by kernel_rfl) (by kernel_rfl) (fun _ _ _ h=>h) (by rfl) ?_ (by assumption) ?_
     rotate_left
     ·(intro w hSw;(try dsimp only at hSw);go_simp;(try with_reducible rfl))
     (try simp only[Act.put,List.setIfInBounds_toArray,List.set_cons_zero,List.set_cons_succ])
     refine dH (i:=12) (v:= ?_) rfl (by kernel_rfl) (by kernel_rfl) (by kernel_rfl) (fun _ _ _ h=>h) (by rfl) ?_ (by assumption) ?_
     rotate_left
     ·(intro w hSw;(try dsimp only at hSw);go_simp;(try with_reducible rfl))
     (try simp only[Act.put,List.setIfInBounds_toArray,List.set_cons_zero,List.set_cons_succ])
     refine dH (i:=13) (v:= ?_) rfl (by kernel_rfl) (by kernel_rfl) (by kernel_rfl) (fun _ _ _ h=>h) (by rfl) ?_ (by assumption) ?_
     rotate_left
     ·(intro w hSw;(try dsimp only at hSw);go_simp;(try with_reducible rfl))
     (try simp only[Act.put,List.setIfInBounds_toArray,List.set_cons_zero,List.set_cons_succ])
     refine iU (i:=14) rfl (by kernel_rfl) (by kernel_rfl) (by kernel_rfl) (fun _ _ _ h=>h) (by rfl) (by assumption) ?_
     (try simp only[Act.put,List.setIfInBounds_toArray,List.set_cons_zero,List.set_cons_succ])
     refine iU (i:=15) rfl (by kernel_rfl) (by kernel_rfl) (by kernel_rfl) (fun _ _ _ h=>h) (by rfl) (by assumption) ?_
     (try simp only[Act.put,List.setIfInBounds_toArray,List.set_cons_zero,List.set_cons_succ])
     refine iU (i:=16) rfl (by kernel_rfl) (by kernel_rfl) (by kernel_rfl) (fun _ _ _ h=>h) (by rfl) (by assumption) ?_
     (try simp only[Act.put,List.setIfInBounds_toArray,List.set_cons_zero,List.set_cons_succ])
     refine iU (i:=17) rfl (by kernel_rfl) (by kernel_rfl) (by kernel_rfl) (fun _ _ _ h=>h) (by rfl) (by assumption) ?_
     (try simp only[Act.put,List.setIfInBounds_toArray,List.set_cons_zero,List.set_cons_succ])
     refine iU (i:=18) rfl (by kernel_rfl) (by kernel_rfl) (by kernel_rfl) (fun _ _ _ h=>h) (by rfl) (by assumption) ?_
     (try simp only[Act.put,List.setIfInBounds_toArray,List.set_cons_zero,List.set_cons_succ])
     refine iU (i:=19) rfl (by kernel_rfl) (by kernel_rfl) (by kernel_rfl) (fun _ _ _ h=>h) (by rfl) (by assumption) ?_
     (try simp only[Act.put,List.setIfInBounds_toArray,List.set_cons_zero,List.set_cons_succ])
     refine dH (i:=20) (v:= ?_) rfl (by kernel_rfl) (by kernel_rfl) (by kernel_rfl) (fun _ _ _ h=>h) (by rfl) ?_ (by assumption) ?_
     rotate_left
     ·(intro w hSw;(try dsimp only at hSw);go_simp;(try with_reducible rfl))
     (try simp only[Act.put,List.setIfInBounds_toArray,List.set_cons_zero,List.set_cons_succ])
     refine wpAnyH_done (by kernel_rfl) ?_ _
     all_goals go_wp2
     all_goals go_ret
     all_goals exact⟨aV hf2.out.symm,by exact .trans (.trans hxw hE) x9⟩
   ·have q0:(a0 !=c)=true:=by simp[t0]
    have hf2:Hid (bU aC Cs vs=false):=by show _=_;rw[hfin.out];simp[t0]
    clear t0
    go_quiet (fail)
    all_goals go_wp2
    all_goals go_ret
    all_goals exact⟨aV hf2.out.symm,by exact .drewN (.alloc (.trans hxw hE) _) _⟩
  ·have hfin:Hid (bU aC Cs vs=true):=by
    show _=_
    rw[hok,List.drop_eq_nil_of_le (by rw[HCL.out];omega),List.drop_eq_nil_of_le (by rw[HVL.out];omega)];rfl
   clear hok
   go_wp2
   go_ret
   exact⟨aV hfin.out.symm,by exact .trans hxw hE⟩
theorem mQ (h:aT)(p:OA)(n cap:Nat)(q:OA)(m c2:Nat)(w:World)(hi:IsHouse w h p n cap q m c2):
  Calls Tryz.prog 30 #[bS h p n cap q m c2] w fun e w'=>e= .returned (.bool (bK h))∧Ext w w':=by
 obtain⟨aA,aB,cells,free,step,aE,aF,aC,aG,vs⟩:=h
 have hm:=hi.vs.bd
 have hvl:=hi.vlen
 have hcl:=hi.clen
 have HV:=fun(w':World) (hx:Ext w w')=>fJ aA aB p n cap cells w' (hi.cells.ext hx)
 have HC:=fun(w':World) (hx:Ext w w')=>aGk aA aB p n cap cells w' (hi.cells.ext hx)
 have TV:=fun(w':World)=>vR free step aE aF w'
 unfold bK
 simp only at hvl hcl HV HC TV⊢
 cases h1:aP aA aB cells with
 |false=>
  rw[h1]at HV HC
  simpa using zB aA aB free step aE aF aC aG p n cap q m c2 w hm HV
 |true=>
  rw[h1]at HV HC
  rw[if_pos rfl]at HC
  cases h2:bH free step aE aF with
  |false=>
   rw[h2]at TV
   simpa using zA aA aB free step aE aF aC aG p n cap q m c2 w hm HV TV
  |true=>
   rw[h2]at TV
   by_cases h3:0≤aC∧aC≤9999∧0≤aG∧aG≤99999
   ·obtain⟨a1,a2,a3,a4⟩:=h3
    have hn:iV ⟨aA,aB,cells,free,step,aE,aF,aC,aG,vs⟩=true:=by simp[iV,a1,a2,a3,a4]
    rw[hn]
    by_cases hL:(cZ cells).length=m
    ·simpa using yX aA aB free step aE aF aC aG p n cap q m c2 w hm (cZ cells) HC HV TV a1 a2 a3 a4 (by simp[hL]) hL (by
      have e1:=gC cells;have e2:=iK cells
      have e3:cells.length≤12:=by simp only[aP,Bool.and_eq_true]at h1;exact(bR h1.1).2.2.2.2.2.1
      omega) vs hi.vs
    ·rw[pX (by omega)]
     simpa using yY aA aB free step aE aF aC aG p n cap q m c2 w hm (cZ cells) HC HV TV a1 a2 a3 a4 (by simp;omega)
   ·have hn:iV ⟨aA,aB,cells,free,step,aE,aF,aC,aG,vs⟩=false:=by simp[iV];omega
    rw[hn]
    simpa using yZ aA aB free step aE aF aC aG p n cap q m c2 w hm HV TV (by omega)
theorem xL (aA aB free step aE aF aC aG:Int)(p:OA)(n cap:Nat)(q:OA)(m c2:Nat)(w:World)(hm:m≤9223372036854775807)
  (Cs:List Int)(HC:Hid (∀w',Ext w w'→Calls Tryz.prog 89 #[aI aA aB p n cap] w' (aY Cs w')))
  (HV:xB 90 #[aI aA aB p n cap] w false):
  Calls Tryz.prog 40 #[.agg #[aA,aB,.slice p n cap,free,step,aE,aF,aC,aG,.slice q m c2]] w fun e w'=>e= .returned (.bool false)∧Ext w w':=by
 go_enter Tryz.func40,Tryz.ntmps40
 go_wp2_with fail
 refine(HC.out _ (by exact .alloc (.refl _) _)).mono ?_
 rintro e w1 ⟨cp,cc,rfl,hco,hc1⟩
 have HCO:=xQ hco
 clear hco
 have hx1:Ext (w.alloc (.cells #[aA,aB,.slice p n cap,free,step,aE,aF,aC,aG,.slice q m c2] 35)) w1:=hc1
 have hz1:w.heap.size<w1.heap.size:=Nat.lt_of_lt_of_le (by simp) hx1.sz
 obtain⟨e1_0,e1_1,e1_2,e1_3,e1_4,e1_5,e1_6,e1_7,e1_8,e1_9⟩:=((Blk.new _ _ _).ext hx1).ten
 go_wp2_with fail
 refine(HV.out _ (by exact .trans (.alloc (.refl _) _) hx1)).mono ?_
 rintro e w2 ⟨rfl,hh2⟩
 have hx2:Ext (w.alloc (.cells #[aA,aB,.slice p n cap,free,step,aE,aF,aC,aG,.slice q m c2] 35)) w2:=hx1.trans hh2
 have hz2:w.heap.size<w2.heap.size:=Nat.lt_of_lt_of_le (by simp) hx2.sz
 obtain⟨e2_0,e2_1,e2_2,e2_3,e2_4,e2_5,e2_6,e2_7,e2_8,e2_9⟩:=((Blk.new _ _ _).ext hx2).ten
 clear hz1 e1_0 e1_1 e1_2 e1_3 e1_4 e1_5 e1_6 e1_7 e1_8 e1_9
 go_wp2_with go_in
 go_ret
 exact⟨rfl,by exact .trans (.alloc (.refl _) _) hx2⟩
theorem xK (aA aB free step aE aF aC aG:Int)(p:OA)(n cap:Nat)(q:OA)(m c2:Nat)(w:World)(hm:m≤9223372036854775807)
  (Cs:List Int)(HC:Hid (∀w',Ext w w'→Calls Tryz.prog 89 #[aI aA aB p n cap] w' (aY Cs w')))
  (HV:xB 90 #[aI aA aB p n cap] w true)
  (TV:Hid (∀w',Calls Tryz.prog 91 #[aR free step aE aF] w' fun e w''=>e= .returned (.bool false)∧Ext w' w'')):
  Calls Tryz.prog 40 #[.agg #[aA,aB,.slice p n cap,free,step,aE,aF,aC,aG,.slice q m c2]] w fun e w'=>e= .returned (.bool false)∧Ext w w':=by
 go_enter Tryz.func40,Tryz.ntmps40
 go_wp2_with fail
 refine(HC.out _ (by exact .alloc (.refl _) _)).mono ?_
 rintro e w1 ⟨cp,cc,rfl,hco,hc1⟩
 have HCO:=xQ hco
 clear hco
 have hx1:Ext (w.alloc (.cells #[aA,aB,.slice p n cap,free,step,aE,aF,aC,aG,.slice q m c2] 35)) w1:=hc1
 have hz1:w.heap.size<w1.heap.size:=Nat.lt_of_lt_of_le (by simp) hx1.sz
 obtain⟨e1_0,e1_1,e1_2,e1_3,e1_4,e1_5,e1_6,e1_7,e1_8,e1_9⟩:=((Blk.new _ _ _).ext hx1).ten
 go_wp2_with fail
 refine(HV.out _ (by exact .trans (.alloc (.refl _) _) hx1)).mono ?_
 rintro e w2 ⟨rfl,hh2⟩
 have hx2:Ext (w.alloc (.cells #[aA,aB,.slice p n cap,free,step,aE,aF,aC,aG,.slice q m c2] 35)) w2:=hx1.trans hh2
 have hz2:w.heap.size<w2.heap.size:=Nat.lt_of_lt_of_le (by simp) hx2.sz
 obtain⟨e2_0,e2_1,e2_2,e2_3,e2_4,e2_5,e2_6,e2_7,e2_8,e2_9⟩:=((Blk.new _ _ _).ext hx2).ten
 clear hz1 e1_0 e1_1 e1_2 e1_3 e1_4 e1_5 e1_6 e1_7 e1_8 e1_9
 go_wp2_with fail
 refine(TV.out _).mono ?_
 rintro e w3 ⟨rfl,ht3⟩
 have hx3:Ext (w.alloc (.cells #[aA,aB,.slice p n cap,free,step,aE,aF,aC,aG,.slice q m c2] 35)) w3:=hx2.trans ht3
 have hz3:w.heap.size<w3.heap.size:=Nat.lt_of_lt_of_le (by simp) hx3.sz
 obtain⟨e3_0,e3_1,e3_2,e3_3,e3_4,e3_5,e3_6,e3_7,e3_8,e3_9⟩:=((Blk.new _ _ _).ext hx3).ten
 clear hz2 e2_0 e2_1 e2_2 e2_3 e2_4 e2_5 e2_6 e2_7 e2_8 e2_9
 go_wp2_with go_in
 go_ret
 exact⟨rfl,by exact .trans (.alloc (.refl _) _) hx3⟩
theorem xJ (aA aB free step aE aF aC aG:Int)(p:OA)(n cap:Nat)(q:OA)(m c2:Nat)(w:World)(hm:m≤9223372036854775807)
  (Cs:List Int)(HC:Hid (∀w',Ext w w'→Calls Tryz.prog 89 #[aI aA aB p n cap] w' (aY Cs w')))
  (HV:xB 90 #[aI aA aB p n cap] w true)
  (TV:Hid (∀w',Calls Tryz.prog 91 #[aR free step aE aF] w' fun e w''=>e= .returned (.bool true)∧Ext w' w''))
  (h:aC<0∨0≤aC∧9999<aC∨0≤aC∧aC≤9999∧aG<0∨0≤aC∧aC≤9999∧0≤aG∧99999<aG):
  Calls Tryz.prog 40 #[.agg #[aA,aB,.slice p n cap,free,step,aE,aF,aC,aG,.slice q m c2]] w fun e w'=>e= .returned (.bool false)∧Ext w w':=by
 rcases h with h|⟨h0,h⟩|⟨h0,h1,h⟩|⟨h0,h1,h2,h⟩
 all_goals
  (try (have hdd:decide (aC≤9999)=false:=by simp;omega))
  (try (have hdd:decide (aG≤99999)=false:=by simp;omega))
  go_enter Tryz.func40,Tryz.ntmps40
  go_wp2_with fail
  refine(HC.out _ (by exact .alloc (.refl _) _)).mono ?_
  rintro e w1 ⟨cp,cc,rfl,hco,hc1⟩
  have HCO:=xQ hco
  clear hco
  have hx1:Ext (w.alloc (.cells #[aA,aB,.slice p n cap,free,step,aE,aF,aC,aG,.slice q m c2] 35)) w1:=hc1
  have hz1:w.heap.size<w1.heap.size:=Nat.lt_of_lt_of_le (by simp) hx1.sz
  obtain⟨e1_0,e1_1,e1_2,e1_3,e1_4,e1_5,e1_6,e1_7,e1_8,e1_9⟩:=((Blk.new _ _ _).ext hx1).ten
  go_wp2_with fail
  refine(HV.out _ (by exact .trans (.alloc (.refl _) _) hx1)).mono ?_
  rintro e w2 ⟨rfl,hh2⟩
  have hx2:Ext (w.alloc (.cells #[aA,aB,.slice p n cap,free,step,aE,aF,aC,aG,.slice q m c2] 35)) w2:=hx1.trans hh2
  have hz2:w.heap.size<w2.heap.size:=Nat.lt_of_lt_of_le (by simp) hx2.sz
  obtain⟨e2_0,e2_1,e2_2,e2_3,e2_4,e2_5,e2_6,e2_7,e2_8,e2_9⟩:=((Blk.new _ _ _).ext hx2).ten
  clear hz1 e1_0 e1_1 e1_2 e1_3 e1_4 e1_5 e1_6 e1_7 e1_8 e1_9
  go_wp2_with fail
  refine(TV.out _).mono ?_
  rintro e w3 ⟨rfl,ht3⟩
  have hx3:Ext (w.alloc (.cells #[aA,aB,.slice p n cap,free,step,aE,aF,aC,aG,.slice q m c2] 35)) w3:=hx2.trans ht3
  have hz3:w.heap.size<w3.heap.size:=Nat.lt_of_lt_of_le (by simp) hx3.sz
  obtain⟨e3_0,e3_1,e3_2,e3_3,e3_4,e3_5,e3_6,e3_7,e3_8,e3_9⟩:=((Blk.new _ _ _).ext hx3).ten
  clear hz2 e2_0 e2_1 e2_2 e2_3 e2_4 e2_5 e2_6 e2_7 e2_8 e2_9
  go_wp2_with go_in
  go_ret
  exact⟨rfl,by exact .trans (.alloc (.refl _) _) hx3⟩
theorem xI (aA aB free step aE aF aC aG:Int)(p:OA)(n cap:Nat)(q:OA)(m c2:Nat)(w:World)(hm:m≤9223372036854775807)
  (Cs:List Int)(HC:Hid (∀w',Ext w w'→Calls Tryz.prog 89 #[aI aA aB p n cap] w' (aY Cs w')))
  (HV:xB 90 #[aI aA aB p n cap] w true)
  (TV:Hid (∀w',Calls Tryz.prog 91 #[aR free step aE aF] w' fun e w''=>e= .returned (.bool true)∧Ext w' w''))
  (h0:0≤aC)(h1:aC≤9999)(h2:0≤aG)(h3:aG≤99999)(hL:((Cs.length:Int)!=m)=true):
  Calls Tryz.prog 40 #[.agg #[aA,aB,.slice p n cap,free,step,aE,aF,aC,aG,.slice q m c2]] w fun e w'=>e= .returned (.bool false)∧Ext w w':=by
 go_enter Tryz.func40,Tryz.ntmps40
 go_wp2_with fail
 refine(HC.out _ (by exact .alloc (.refl _) _)).mono ?_
 rintro e w1 ⟨cp,cc,rfl,hco,hc1⟩
 have HCO:=xQ hco
 clear hco
 have hx1:Ext (w.alloc (.cells #[aA,aB,.slice p n cap,free,step,aE,aF,aC,aG,.slice q m c2] 35)) w1:=hc1
 have hz1:w.heap.size<w1.heap.size:=Nat.lt_of_lt_of_le (by simp) hx1.sz
 obtain⟨e1_0,e1_1,e1_2,e1_3,e1_4,e1_5,e1_6,e1_7,e1_8,e1_9⟩:=((Blk.new _ _ _).ext hx1).ten
 go_wp2_with fail
 refine(HV.out _ (by exact .trans (.alloc (.refl _) _) hx1)).mono ?_
 rintro e w2 ⟨rfl,hh2⟩
 have hx2:Ext (w.alloc (.cells #[aA,aB,.slice p n cap,free,step,aE,aF,aC,aG,.slice q m c2] 35)) w2:=hx1.trans hh2
 have hz2:w.heap.size<w2.heap.size:=Nat.lt_of_lt_of_le (by simp) hx2.sz
 obtain⟨e2_0,e2_1,e2_2,e2_3,e2_4,e2_5,e2_6,e2_7,e2_8,e2_9⟩:=((Blk.new _ _ _).ext hx2).ten
 clear hz1 e1_0 e1_1 e1_2 e1_3 e1_4 e1_5 e1_6 e1_7 e1_8 e1_9
 go_wp2_with fail
 refine(TV.out _).mono ?_
 rintro e w3 ⟨rfl,ht3⟩
 have hx3:Ext (w.alloc (.cells #[aA,aB,.slice p n cap,free,step,aE,aF,aC,aG,.slice q m c2] 35)) w3:=hx2.trans ht3
 have hz3:w.heap.size<w3.heap.size:=Nat.lt_of_lt_of_le (by simp) hx3.sz
 obtain⟨e3_0,e3_1,e3_2,e3_3,e3_4,e3_5,e3_6,e3_7,e3_8,e3_9⟩:=((Blk.new _ _ _).ext hx3).ten
 clear hz2 e2_0 e2_1 e2_2 e2_3 e2_4 e2_5 e2_6 e2_7 e2_8 e2_9
 go_wp2_with go_in
 go_ret
 exact⟨rfl,by exact .trans (.alloc (.refl _) _) hx3⟩
theorem xH (aA aB free step aE aF aC aG:Int)(p:OA)(n cap:Nat)(q:OA)(m c2:Nat)(w:World)(hm:m≤9223372036854775807)
  (Cs:List Int)(HC:Hid (∀w',Ext w w'→Calls Tryz.prog 89 #[aI aA aB p n cap] w' (aY Cs w')))
  (HV:xB 90 #[aI aA aB p n cap] w true)
  (TV:Hid (∀w',Calls Tryz.prog 91 #[aR free step aE aF] w' fun e w''=>e= .returned (.bool true)∧Ext w' w''))
  (h0:0≤aC)(h1:aC≤9999)(h2:0≤aG)(h3:aG≤99999)(hL:((Cs.length:Int)!=m)=false)(hL2:Cs.length=m)(hm2:m≤100)(vs:List aQ)(HVS:Hid (Sl w q m c2 4 (vs.flatMap aD))):
  Calls Tryz.prog 40 #[.agg #[aA,aB,.slice p n cap,free,step,aE,aF,aC,aG,.slice q m c2]] w fun e w'=>e= .returned (.bool (bU aC Cs vs))∧Ext w w':=by
 have hvl:vs.length=m:=by have:=HVS.out.len;rw[cH aD 4 (fun _=>rfl)]at this;omega
 have HVL:=xQ hvl
 have HCL:=xQ hL2
 clear hvl hL2
 go_enter Tryz.func40,Tryz.ntmps40
 go_wp2_with fail
 refine(HC.out _ (by exact .alloc (.refl _) _)).mono ?_
 rintro e w1 ⟨cp,cc,rfl,hco,hc1⟩
 have HCO:=xQ hco
 clear hco
 have hx1:Ext (w.alloc (.cells #[aA,aB,.slice p n cap,free,step,aE,aF,aC,aG,.slice q m c2] 35)) w1:=hc1
 have hz1:w.heap.size<w1.heap.size:=Nat.lt_of_lt_of_le (by simp) hx1.sz
 obtain⟨e1_0,e1_1,e1_2,e1_3,e1_4,e1_5,e1_6,e1_7,e1_8,e1_9⟩:=((Blk.new _ _ _).ext hx1).ten
 go_wp2_with fail
 refine(HV.out _ (by exact .trans (.alloc (.refl _) _) hx1)).mono ?_
 rintro e w2 ⟨rfl,hh2⟩
 have hx2:Ext (w.alloc (.cells #[aA,aB,.slice p n cap,free,step,aE,aF,aC,aG,.slice q m c2] 35)) w2:=hx1.trans hh2
 have hz2:w.heap.size<w2.heap.size:=Nat.lt_of_lt_of_le (by simp) hx2.sz
 obtain⟨e2_0,e2_1,e2_2,e2_3,e2_4,e2_5,e2_6,e2_7,e2_8,e2_9⟩:=((Blk.new _ _ _).ext hx2).ten
 clear hz1 e1_0 e1_1 e1_2 e1_3 e1_4 e1_5 e1_6 e1_7 e1_8 e1_9
 go_wp2_with fail
 refine(TV.out _).mono ?_
 rintro e w3 ⟨rfl,ht3⟩
 have hx3:Ext (w.alloc (.cells #[aA,aB,.slice p n cap,free,step,aE,aF,aC,aG,.slice q m c2] 35)) w3:=hx2.trans ht3
 have hz3:w.heap.size<w3.heap.size:=Nat.lt_of_lt_of_le (by simp) hx3.sz
 obtain⟨e3_0,e3_1,e3_2,e3_3,e3_4,e3_5,e3_6,e3_7,e3_8,e3_9⟩:=((Blk.new _ _ _).ext hx3).ten
 clear hz2 e2_0 e2_1 e2_2 e2_3 e2_4 e2_5 e2_6 e2_7 e2_8 e2_9
 have hco:OwnZ w3 cp Cs.length cc Cs:=(aIh (bB HCO.out (Ext.trans hh2 ht3)))
 have hxw:Ext w w3:=(Ext.alloc (Ext.refl w) _).trans hx3
 go_wp2_with go_in
 clear hL
 go_loopw [4] (fun i wr=> ∃k:Nat,k≤m∧i= .int .i64 k∧bU aC Cs vs=bU aC (Cs.drop k) (vs.drop k)∧Ext w3 wr) (fun i _=>m-(intOf i).toNat)
 case atStart=>exact⟨0,Nat.zero_le _,rfl,rfl,Ext.refl _⟩
 case round=>
  obtain⟨k,hk,rfl,hok,hE⟩:=hrel
  have hcl:wr.cell? ⟨w.heap.size,7,none⟩=some (.int .i64 aC):=(hE.cells.1 _ _ hz3).trans e3_7
  have hcv:wr.cell? ⟨w.heap.size,9,none⟩=some (.slice q m c2):=(hE.cells.1 _ _ hz3).trans e3_9
  have hzr:w.heap.size<wr.heap.size:=Nat.lt_of_lt_of_le hz3 hE.sz
  have HCL2:=HCL.out
  by_cases hlt:k<m
  ·obtain⟨b,off,a0,a1,a2,a3,rfl,hv,hb,g0,g1,g2,g3⟩:=dP (HVS.out.ext (hxw.trans hE)) hlt
   obtain⟨cb,coff,c,rfl,hc,hcb,gc⟩:=(hco.ext hE).int_at (show k<Cs.length by omega)
   have hfin:=xQ (hok.trans (pY hc hv))
   have i1:(0:Int)≤(k:Int):=by omega
   have i2:(k:Int)<(m:Int):=by omega
   have i3:(k:Int)<(Cs.length:Int):=by omega
   clear hok hc hv HCL2
   have hSv:Hid (∀w',Calls Tryz.prog 92 #[bL a1 a2 a3] w' fun e w''=>e= .returned (.bool (cP a1 a2 a3))∧Ext w' w''):=fun w'=>aF5 a1 a2 a3 w'
   go_wp2_with fail
   by_cases t0:a0=c
   ·have q0:(a0 !=c)=false:=by simp[t0]
    have T0:=xQ t0
    clear t0
    cases hst:cP a1 a2 a3 with
    |true=>
     rw[hst]at hSv
     have HST:=xQ hst
     clear hst
     by_cases t1:aC<a3
     ·have hf2:Hid (bU aC Cs vs=false):=by show _=_;rw[hfin.out];simp[eM,HST.out];omega
      go_region_held3 (fun w'=>w'.cell? ⟨wr.heap.size,0,none⟩=some (.int .i64 a0)∧w'.cell? ⟨wr.heap.size,1,none⟩=some (.int .i64 a1)∧w'.cell? ⟨wr.heap.size,2,none⟩=some (.int .i64 a2)∧w'.cell? ⟨wr.heap.size,3,none⟩=some (.int .i64 a3)∧w'.cell? ⟨cb,coff+k,none⟩=some (.int .i64 c)∧w'.cell? ⟨w.heap.size,7,none⟩=some (.int .i64 aC)) (go_keep) ((go_at_call 92;refine(hSv.out _).mono ?_;rintro e w9 ⟨rfl,h9⟩;(try replace h9:=h9.of_drew);have x9:Ext wr w9:=(by first|exact((Ext.refl wr).alloc _).trans h9|exact(((Ext.refl wr).alloc _).drew).trans h9);have g9a:=(x9.cells.1 cb (coff+k) hcb).trans gc;have g9b:=(x9.cells.1 w.heap.size 7 hzr).trans hcl;have hc9:=h9.cells.1;have hz9:wr.heap.size<w9.heap.size:=Nat.lt_of_lt_of_le (by simp) h9.sz;have hz10:w.heap.size<w9.heap.size:=Nat.lt_trans hzr hz9;have hz11:cb<w9.heap.size:=Nat.lt_trans hcb hz9))
      all_goals go_wp2
      all_goals go_ret
      all_goals exact⟨aV hf2.out.symm,by exact .trans (.trans hxw hE) x9⟩
     ·have hf2:Hid (bU aC Cs vs=bU aC (Cs.drop (k+1)) (vs.drop (k+1))):=by show _=_;rw[hfin.out];simp[eM,HST.out,T0.out];intro h;omega
      go_region_held3 (fun w'=>w'.cell? ⟨wr.heap.size,0,none⟩=some (.int .i64 a0)∧w'.cell? ⟨wr.heap.size,1,none⟩=some (.int .i64 a1)∧w'.cell? ⟨wr.heap.size,2,none⟩=some (.int .i64 a2)∧w'.cell? ⟨wr.heap.size,3,none⟩=some (.int .i64 a3)∧w'.cell? ⟨cb,coff+k,none⟩=some (.int .i64 c)∧w'.cell? ⟨w.heap.size,7,none⟩=some (.int .i64 aC)) (go_keep) ((go_at_call 92;refine(hSv.out _).mono ?_;rintro e w9 ⟨rfl,h9⟩;(try replace h9:=h9.of_drew);have x9:Ext wr w9:=(by first|exact((Ext.refl wr).alloc _).trans h9|exact(((Ext.refl wr).alloc _).drew).trans h9);have g9a:=(x9.cells.1 cb (coff+k) hcb).trans gc;have g9b:=(x9.cells.1 w.heap.size 7 hzr).trans hcl;have hc9:=h9.cells.1;have hz9:wr.heap.size<w9.heap.size:=Nat.lt_of_lt_of_le (by simp) h9.sz;have hz10:w.heap.size<w9.heap.size:=Nat.lt_trans hzr hz9;have hz11:cb<w9.heap.size:=Nat.lt_trans hcb hz9))
      all_goals go_wp2
      all_goals go_roundw
      all_goals first
       |(case rel=>first|exact⟨k+1,by omega,by go_num,hf2.out,xE⟩|((repeat apply Exists.intro);exact⟨⟨k+1,by omega,by go_num,hf2.out,by exact .trans hE x9⟩,rfl⟩))
       |(case measure=>simp[intOf];omega)
    |false=>
     rw[hst]at hSv
     have hf2:Hid (bU aC Cs vs=false):=by show _=_;rw[hfin.out];simp[eM,hst]
     clear hst
     refine wp_region_held_drew (S:=fun w'=>w'.cell? ⟨wr.heap.size,0,none⟩=some (.int .i64 a0)∧w'.cell? ⟨wr.heap.size,1,none⟩=some (.int .i64 a1)∧w'.cell? ⟨wr.heap.size,2,none⟩=some (.int .i64 a2)∧w'.cell? ⟨wr.heap.size,3,none⟩=some (.int .i64 a3)∧w'.cell? ⟨cb,coff+k,none⟩=some (.int .i64 c)) (by kernel_rfl) (by go_keep) (fun hHeld=> ?_)
     refine dH (i:=0) (v:= ?_) rfl (by kernel_rfl) (by kernel_rfl) (by kernel_rfl) (fun _ _ _ h=>h) (by rfl) ?_ (by assumption) ?_
     rotate_left
     ·(intro w hSw;(try dsimp only at hSw);go_simp;(try with_reducible rfl))
     (try simp only[Act.put,List.setIfInBounds_toArray,List.set_cons_zero,List.set_cons_succ])
     refine dH (i:=1) (v:= ?_) rfl (by kernel_rfl) (by kernel_rfl) (by kernel_rfl) (fun _ _ _ h=>h) (by rfl) ?_ (by assumption) ?_
     rotate_left
     ·(intro w hSw;(try dsimp only at hSw);go_simp;(try with_reducible rfl))
     (try simp only[Act.put,List.setIfInBounds_toArray,List.set_cons_zero,List.set_cons_succ])
     refine dH (i:=2) (v:= ?_) rfl (by kernel_rfl) (by kernel_rfl) (by kernel_rfl) (fun _ _ _ h=>h) (by rfl) ?_ (by assumption) ?_
     rotate_left
     ·(intro w hSw;(try dsimp only at hSw);go_simp;(try with_reducible rfl))
     (try simp only[Act.put,List.setIfInBounds_toArray,List.set_cons_zero,List.set_cons_succ])
     refine dH (i:=3) (v:= ?_) rfl (by kernel_rfl) (by kernel_rfl) (by kernel_rfl) (fun _ _ _ h=>h) (by rfl) ?_ (by assumption) ?_
     rotate_left
     ·(intro w hSw;(try dsimp only at hSw);go_simp;(try with_reducible rfl))
     (try simp only[Act.put,List.setIfInBounds_toArray,List.set_cons_zero,List.set_cons_succ])
     refine dH (i:=4) (v:= ?_) rfl (by kernel_rfl) (by kernel_rfl) (by kernel_rfl) (fun _ _ _ h=>h) (by rfl) ?_ (by assumption) ?_
     rotate_left
     ·(intro w hSw;(try dsimp only at hSw);go_simp;(try with_reducible rfl))
     (try simp only[Act.put,List.setIfInBounds_toArray,List.set_cons_zero,List.set_cons_succ])
     refine dH (i:=5) (v:= ?_) rfl (by kernel_rfl) (by kernel_rfl) (by kernel_rfl) (fun _ _ _ h=>h) (by rfl) ?_ (by assumption) ?_
     rotate_left
     ·(intro w hSw;(try dsimp only at hSw);go_simp;(try with_reducible rfl))
     (try simp only[Act.put,List.setIfInBounds_toArray,List.set_cons_zero,List.set_cons_succ])
     refine dH (i:=6) (v:= ?_) rfl (by kernel_rfl) (by kernel_rfl) (by kernel_rfl) (fun _ _ _ h=>h) (by rfl) ?_ (by assumption) ?_
     rotate_left
     ·(intro w hSw;(try dsimp only at hSw);go_simp;(try with_reducible rfl))
     (try simp only[Act.put,List.setIfInBounds_toArray,List.set_cons_zero,List.set_cons_succ])
     refine dH (i:=7) (v:= ?_) rfl (by kernel_rfl) (by kernel_rfl) (by kernel_rfl) (fun _ _ _ h=>h) (by rfl) ?_ (by assumption) ?_
     rotate_left
     ·(intro w hSw;(try dsimp only at hSw);go_simp;(try with_reducible rfl))
     (try simp only[Act.put,List.setIfInBounds_toArray,List.set_cons_zero,List.set_cons_succ])
     refine dH (i:=8) (v:= ?_) rfl (by kernel_rfl) (by kernel_rfl) (by kernel_rfl) (fun _ _ _ h=>h) (by rfl) ?_ (by assumption) ?_
     rotate_left
     ·(intro w hSw;(try dsimp only at hSw);go_simp;(try with_reducible rfl))
     (try simp only[Act.put,List.setIfInBounds_toArray,List.set_cons_zero,List.set_cons_succ])
     refine dH (i:=9) (v:= ?_) rfl (by kernel_rfl) (by kernel_rfl) (by kernel_rfl) (fun _ _ _ h=>h) (by rfl) ?_ (by assumption) ?_
     rotate_left
     ·(intro w hSw;(try dsimp only at hSw);go_simp;(try with_reducible rfl))
     (try simp only[Act.put,List.setIfInBounds_toArray,List.set_cons_zero,List.set_cons_succ])
     refine wpAnyH_ready (rs:= [10]) (by kernel_rfl) (by simp) ?_
     refine aHe rfl (fun K hK=> ?_)
     go_simp
     go_at_call 92
     refine(hSv.out _).mono ?_
     rintro e w9 ⟨rfl,h9⟩
     (try replace h9:=h9.of_drew)
     have x9:Ext wr w9:=(by first|exact((Ext.refl wr).alloc _).trans h9|exact(((Ext.refl wr).alloc _).drew).trans h9)
     have g9a:=(x9.cells.1 cb (coff+k) hcb).trans gc
     have hc9:=h9.cells.1
     have hz9:wr.heap.size<w9.heap.size:=Nat.lt_of_lt_of_le (by simp) h9.sz
     go_wp2_with fail
     refine hK.out _ _ (by(try dsimp only);go_keep) (fun hHeld=> ?_)
     clear hK K
     (try simp only[Act.put,List.setIfInBounds_toArray,List.set_cons_zero,List.set_cons_succ])
     refine dH (i:=11) (v:= ?_) rfl (by kernel_rfl) (by kernel_rfl) (by kernel_rfl) (fun _ _ _ h=>h) (by rfl) ?_ (by assumption) ?_
     rotate_left
     ·(intro w hSw;(try dsimp only at hSw);go_simp;(try with_reducible rfl))
     (try simp only[Act.put,List.setIfInBounds_toArray,List.set_cons_zero,List.set_cons_succ])
     refine dH (i:=12) (v:= ?_) rfl (by kernel_rfl) (by kernel_rfl) (by kernel_rfl) (fun _ _ _ h=>h) (by rfl) ?_ (by assumption) ?_
     rotate_left
     ·(intro w hSw;(try dsimp only at hSw);go_simp;(try with_reducible rfl))
     (try simp only[Act.put,List.setIfInBounds_toArray,List.set_cons_zero,List.set_cons_succ])
     refine dH (i:=13) (v:= ?_) rfl (by kernel_rfl) (by kernel_rfl) (by kernel_rfl) (fun _ _ _ h=>h) (by rfl) ?_ (by assumption) ?_
     rotate_left
     ·(intro w hSw;(try dsimp only at hSw);go_simp;(try with_reducible rfl))
     (try simp only[Act.put,List.setIfInBounds_toArray,List.set_cons_zero,List.set_cons_succ])
     refine iU (i:=14) rfl (by kernel_rfl) (by kernel_rfl) (by kernel_rfl) (fun _ _ _ h=>h) (by rfl) (by assumption) ?_
     (try simp only[Act.put,List.setIfInBounds_toArray,List.set_cons_zero,List.set_cons_succ])
     refine iU (i:=15) rfl (by kernel_rfl) (by kernel_rfl) (by kernel_rfl) (fun _ _ _ h=>h) (by rfl) (by assumption) ?_
     (try simp only[Act.put,List.setIfInBounds_toArray,List.set_cons_zero,List.set_cons_succ])
     refine iU (i:=16) rfl (by kernel_rfl) (by kernel_rfl) (by kernel_rfl) (fun _ _ _ h=>h) (by rfl) (by assumption) ?_
     (try simp only[Act.put,List.setIfInBounds_toArray,List.set_cons_zero,List.set_cons_succ])
     refine iU (i:=17) rfl (by kernel_rfl) (by kernel_rfl) (by kernel_rfl) (fun _ _ _ h=>h) (by rfl) (by assumption) ?_
     (try simp only[Act.put,List.setIfInBounds_toArray,List.set_cons_zero,List.set_cons_succ])
     refine iU (i:=18) rfl (by kernel_rfl) (by kernel_rfl) (by kernel_rfl) (fun _ _ _ h=>h) (by rfl) (by assumption) ?_
     (try simp only[Act.put,List.setIfInBounds_toArray,List.set_cons_zero,List.set_cons_succ])
     refine iU (i:=19) rfl (by kernel_rfl) (by kernel_rfl) (by kernel_rfl) (fun _ _ _ h=>h) (by rfl) (by assumption) ?_
     (try simp only[Act.put,List.setIfInBounds_toArray,List.set_cons_zero,List.set_cons_succ])
     refine dH (i:=20) (v:= ?_) rfl (by kernel_rfl) (by kernel_rfl) (by kernel_rfl) (fun _ _ _ h=>h) (by rfl) ?_ (by assumption) ?_
     rotate_left
     ·(intro w hSw;(try dsimp only at hSw);go_simp;(try with_reducible rfl))
     (try simp only[Act.put,List.setIfInBounds_toArray,List.set_cons_zero,List.set_cons_succ])
     refine wpAnyH_done (by kernel_rfl) ?_ _
     all_goals go_wp2
     all_goals go_ret
     all_goals exact⟨aV hf2.out.symm,by exact .trans (.trans hxw hE) x9⟩
   ·have q0:(a0 !=c)=true:=by simp[t0]
    have hf2:Hid (bU aC Cs vs=false):=by show _=_;rw[hfin.out];simp[t0]
    clear t0
    go_quiet (fail)
    all_goals go_wp2
    all_goals go_ret
    all_goals exact⟨aV hf2.out.symm,by exact .drewN (.alloc (.trans hxw hE) _) _⟩
  ·have hfin:Hid (bU aC Cs vs=true):=by
    show _=_
    rw[hok,List.drop_eq_nil_of_le (by rw[HCL.out];omega),List.drop_eq_nil_of_le (by rw[HVL.out];omega)];rfl
   clear hok
   go_wp2
   go_ret
   exact⟨aV hfin.out.symm,by exact .trans hxw hE⟩
theorem mI (h:aT)(p:OA)(n cap:Nat)(q:OA)(m c2:Nat)(w:World)(hi:IsHouse w h p n cap q m c2):
  Calls Tryz.prog 40 #[bS h p n cap q m c2] w fun e w'=>e= .returned (.bool (bK h))∧Ext w w':=by
 obtain⟨aA,aB,cells,free,step,aE,aF,aC,aG,vs⟩:=h
 have hm:=hi.vs.bd
 have hvl:=hi.vlen
 have hcl:=hi.clen
 have HV:=fun(w':World) (hx:Ext w w')=>fV aA aB p n cap cells w' (hi.cells.ext hx)
 have HC:=fun(w':World) (hx:Ext w w')=>aIl aA aB p n cap cells w' (hi.cells.ext hx)
 have TV:=fun(w':World)=>uW free step aE aF w'
 unfold bK
 simp only at hvl hcl HV HC TV⊢
 cases h1:aP aA aB cells with
 |false=>
  rw[h1]at HV HC
  simpa using xL aA aB free step aE aF aC aG p n cap q m c2 w hm _ HC HV
 |true=>
  rw[h1]at HV HC
  rw[if_pos rfl]at HC
  cases h2:bH free step aE aF with
  |false=>
   rw[h2]at TV
   simpa using xK aA aB free step aE aF aC aG p n cap q m c2 w hm _ HC HV TV
  |true=>
   rw[h2]at TV
   by_cases h3:0≤aC∧aC≤9999∧0≤aG∧aG≤99999
   ·obtain⟨a1,a2,a3,a4⟩:=h3
    have hn:iV ⟨aA,aB,cells,free,step,aE,aF,aC,aG,vs⟩=true:=by simp[iV,a1,a2,a3,a4]
    rw[hn]
    by_cases hL:(cZ cells).length=m
    ·simpa using xH aA aB free step aE aF aC aG p n cap q m c2 w hm (cZ cells) HC HV TV a1 a2 a3 a4 (by simp[hL]) hL (by
      have e1:=gC cells;have e2:=iK cells
      have e3:cells.length≤12:=by simp only[aP,Bool.and_eq_true]at h1;exact(bR h1.1).2.2.2.2.2.1
      omega) vs hi.vs
    ·rw[pX (by omega)]
     simpa using xI aA aB free step aE aF aC aG p n cap q m c2 w hm (cZ cells) HC HV TV a1 a2 a3 a4 (by simp;omega)
   ·have hn:iV ⟨aA,aB,cells,free,step,aE,aF,aC,aG,vs⟩=false:=by simp[iV];omega
    rw[hn]
    simpa using xJ aA aB free step aE aF aC aG p n cap q m c2 w hm _ HC HV TV (by omega)
end Go.Proofs.YtgnkoffndhmhpaaGreatDoor
