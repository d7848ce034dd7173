/-
  Texts of this proof, packed (@packed).
-/
import Derived.RegionTactic
import Derived.Test.YteejdnmmpmcmeaaGreatDoorP5
import Derived.Test.YteejdnmmpmcmeaaGreatDoorP7
import Derived.Test.YteejdnmmpmcmeaaGreatDoorP8
import Derived.Test.YteejdnmmpmcmeaaGreatDoorP29
import Derived.Test.YteejdnmmpmcmeaaGreatDoorP31
import Derived.Test.YteejdnmmpmcmeaaGreatDoorP32
import Derived.Test.YteejdnmmpmcmeaaGreatDoorP33
namespace Go.Proofs.YteejdnmmpmcmeaaGreatDoor
open Go.RowKit
set_option linter.unusedVariables false
set_option linter.unusedSimpArgs false
def bK (h:aV)(e:Int):List UInt8:=if bN h=true∧0≤e∧e≤99 then kY (dec e++ [124]++aU h)else []
theorem aBa (a b c:List UInt8):Value.string (⟨a.toArray⟩++⟨b.toArray⟩++⟨c.toArray⟩)=str (a++b++c):=by
 apply congrArg Value.string
 apply ByteArray.ext
 simp
set_option maxRecDepth 100000 in
set_option maxHeartbeats 1000000 in
theorem aAd (aA aB free step aD aH aC aI:Int)(p:Option Addr)(n cap:Nat)(q:Option Addr)(m c2:Nat)(e:Int)(t r:List UInt8)(w:World)
  (HV:Hid (∀w',Ext w w'→Calls Tryz.prog 16 #[.agg #[.int .i64 aA,.int .i64 aB,.slice p n cap,.int .i64 free,.int .i64 step,.int .i64 aD,.int .i64 aH,.int .i64 aC,.int .i64 aI,.slice q m c2]] w' fun e w''=>e= .returned (.bool false)∧Ext w' w'')):
  Calls Tryz.prog 50 #[.agg #[.int .i64 aA,.int .i64 aB,.slice p n cap,.int .i64 free,.int .i64 step,.int .i64 aD,.int .i64 aH,.int .i64 aC,.int .i64 aI,.slice q m c2],.int .i64 e] w fun e' w'=>e'= .returned (str [])∧Ext w w':=by
 go_enter Tryz.func50,Tryz.ntmps50
 go_wp2_with fail
 refine(HV.out _ xE).mono ?_
 rintro e' w0 ⟨rfl,hh0⟩
 have B0:=xQ ((Blk.new w 30 #[.int .i64 aA,.int .i64 aB,.slice p n cap,.int .i64 free,.int .i64 step,.int .i64 aD,.int .i64 aH,.int .i64 aC,.int .i64 aI,.slice q m c2]).ext hh0)
 have X0:Hid (Ext w w0):=by show Ext w w0;exact xE
 have X0':=X0.out
 have hz0:w.heap.size<w0.heap.size:=B0.out.lt
 clear hh0
 go_wp2
 go_ret
 exact⟨rfl,X0.out⟩
set_option maxRecDepth 100000 in
set_option maxHeartbeats 1000000 in
theorem aAc (aA aB free step aD aH aC aI:Int)(p:Option Addr)(n cap:Nat)(q:Option Addr)(m c2:Nat)(e:Int)(t r:List UInt8)(w:World)(h:e<0∨0≤e∧99<e)
  (HV:Hid (∀w',Ext w w'→Calls Tryz.prog 16 #[.agg #[.int .i64 aA,.int .i64 aB,.slice p n cap,.int .i64 free,.int .i64 step,.int .i64 aD,.int .i64 aH,.int .i64 aC,.int .i64 aI,.slice q m c2]] w' fun e w''=>e= .returned (.bool true)∧Ext w' w'')):
  Calls Tryz.prog 50 #[.agg #[.int .i64 aA,.int .i64 aB,.slice p n cap,.int .i64 free,.int .i64 step,.int .i64 aD,.int .i64 aH,.int .i64 aC,.int .i64 aI,.slice q m c2],.int .i64 e] w fun e' w'=>e'= .returned (str [])∧Ext w w':=by
 rcases h with h|⟨h,h2⟩
 all_goals
  (try (have hdd:decide (e≤99)=false:=by simp;omega))
  go_enter Tryz.func50,Tryz.ntmps50
  go_wp2_with fail
  refine(HV.out _ xE).mono ?_
  rintro e' w0 ⟨rfl,hh0⟩
  have B0:=xQ ((Blk.new w 30 #[.int .i64 aA,.int .i64 aB,.slice p n cap,.int .i64 free,.int .i64 step,.int .i64 aD,.int .i64 aH,.int .i64 aC,.int .i64 aI,.slice q m c2]).ext hh0)
  have X0:Hid (Ext w w0):=by show Ext w w0;exact xE
  have X0':=X0.out
  have hz0:w.heap.size<w0.heap.size:=B0.out.lt
  clear hh0
  go_wp2
  go_ret
  exact⟨rfl,X0.out⟩
set_option maxRecDepth 100000 in
set_option maxHeartbeats 1000000 in
theorem zR (aA aB free step aD aH aC aI:Int)(p:Option Addr)(n cap:Nat)(q:Option Addr)(m c2:Nat)(e:Int)(t r:List UInt8)(w:World)
  (HV:Hid (∀w',Ext w w'→Calls Tryz.prog 17 #[.agg #[.int .i64 aA,.int .i64 aB,.slice p n cap,.int .i64 free,.int .i64 step,.int .i64 aD,.int .i64 aH,.int .i64 aC,.int .i64 aI,.slice q m c2]] w' fun e w''=>e= .returned (.bool false)∧Ext w' w'')):
  Calls Tryz.prog 51 #[.agg #[.int .i64 aA,.int .i64 aB,.slice p n cap,.int .i64 free,.int .i64 step,.int .i64 aD,.int .i64 aH,.int .i64 aC,.int .i64 aI,.slice q m c2],.int .i64 e] w fun e' w'=>e'= .returned (str [])∧Ext w w':=by
 go_enter Tryz.func51,Tryz.ntmps51
 go_wp2_with fail
 refine(HV.out _ xE).mono ?_
 rintro e' w0 ⟨rfl,hh0⟩
 have B0:=xQ ((Blk.new w 30 #[.int .i64 aA,.int .i64 aB,.slice p n cap,.int .i64 free,.int .i64 step,.int .i64 aD,.int .i64 aH,.int .i64 aC,.int .i64 aI,.slice q m c2]).ext hh0)
 have X0:Hid (Ext w w0):=by show Ext w w0;exact xE
 have X0':=X0.out
 have hz0:w.heap.size<w0.heap.size:=B0.out.lt
 clear hh0
 go_wp2
 go_ret
 exact⟨rfl,X0.out⟩
set_option maxRecDepth 100000 in
set_option maxHeartbeats 1000000 in
theorem zQ (aA aB free step aD aH aC aI:Int)(p:Option Addr)(n cap:Nat)(q:Option Addr)(m c2:Nat)(e:Int)(t r:List UInt8)(w:World)(h:e<0∨0≤e∧99<e)
  (HV:Hid (∀w',Ext w w'→Calls Tryz.prog 17 #[.agg #[.int .i64 aA,.int .i64 aB,.slice p n cap,.int .i64 free,.int .i64 step,.int .i64 aD,.int .i64 aH,.int .i64 aC,.int .i64 aI,.slice q m c2]] w' fun e w''=>e= .returned (.bool true)∧Ext w' w'')):
  Calls Tryz.prog 51 #[.agg #[.int .i64 aA,.int .i64 aB,.slice p n cap,.int .i64 free,.int .i64 step,.int .i64 aD,.int .i64 aH,.int .i64 aC,.int .i64 aI,.slice q m c2],.int .i64 e] w fun e' w'=>e'= .returned (str [])∧Ext w w':=by
 rcases h with h|⟨h,h2⟩
 all_goals
  (try (have hdd:decide (e≤99)=false:=by simp;omega))
  go_enter Tryz.func51,Tryz.ntmps51
  go_wp2_with fail
  refine(HV.out _ xE).mono ?_
  rintro e' w0 ⟨rfl,hh0⟩
  have B0:=xQ ((Blk.new w 30 #[.int .i64 aA,.int .i64 aB,.slice p n cap,.int .i64 free,.int .i64 step,.int .i64 aD,.int .i64 aH,.int .i64 aC,.int .i64 aI,.slice q m c2]).ext hh0)
  have X0:Hid (Ext w w0):=by show Ext w w0;exact xE
  have X0':=X0.out
  have hz0:w.heap.size<w0.heap.size:=B0.out.lt
  clear hh0
  go_wp2_with go_in
  go_ret
  exact⟨rfl,X0.out⟩
set_option maxRecDepth 100000 in
set_option maxHeartbeats 1000000 in
theorem aCk (aA aB free step aD aH aC aI:Int)(p:Option Addr)(n cap:Nat)(q:Option Addr)(m c2:Nat)(e:Int)(t r:List UInt8)(w:World)(h0:0≤e)(h1:e≤99)(hd:(dec e).length≤21)(ht:t.length≤100000)
  (HV:Hid (∀w',Ext w w'→Calls Tryz.prog 16 #[.agg #[.int .i64 aA,.int .i64 aB,.slice p n cap,.int .i64 free,.int .i64 step,.int .i64 aD,.int .i64 aH,.int .i64 aC,.int .i64 aI,.slice q m c2]] w' fun e w''=>e= .returned (.bool true)∧Ext w' w''))
  (HT:Hid (∀w',Ext w w'→Calls Tryz.prog 46 #[.agg #[.int .i64 aA,.int .i64 aB,.slice p n cap,.int .i64 free,.int .i64 step,.int .i64 aD,.int .i64 aH,.int .i64 aC,.int .i64 aI,.slice q m c2]] w' fun e' w''=>e'= .returned (str t)∧Ext w' w''))
  (HN:Hid (∀w',Ext w w'→Calls Tryz.prog 106 #[.int .i64 e] w' fun e' w''=>e'= .returned (str (dec e))∧Ext w' w''))
  (HW:Hid (∀w',Ext w w'→Calls Tryz.prog 105 #[.string ((⟨(dec e).toArray⟩:ByteArray)++(⟨#[124]⟩:ByteArray)++(⟨t.toArray⟩:ByteArray))] w' fun e' w''=>e'= .returned (str r)∧Ext w' w'')):
  Calls Tryz.prog 50 #[.agg #[.int .i64 aA,.int .i64 aB,.slice p n cap,.int .i64 free,.int .i64 step,.int .i64 aD,.int .i64 aH,.int .i64 aC,.int .i64 aI,.slice q m c2],.int .i64 e] w fun e' w'=>e'= .returned (str r)∧Ext w w':=by
 go_enter Tryz.func50,Tryz.ntmps50
 go_wp2_with fail
 refine(HV.out _ xE).mono ?_
 rintro e' w0 ⟨rfl,hh0⟩
 have B0:=xQ ((Blk.new w 30 #[.int .i64 aA,.int .i64 aB,.slice p n cap,.int .i64 free,.int .i64 step,.int .i64 aD,.int .i64 aH,.int .i64 aC,.int .i64 aI,.slice q m c2]).ext hh0)
 have X0:Hid (Ext w w0):=by show Ext w w0;exact xE
 have X0':=X0.out
 have hz0:w.heap.size<w0.heap.size:=B0.out.lt
 clear hh0
 go_wp2
 refine cM (gl [gEq (.int .i64 e),gEq (str (dec e)),gEq (.string ((⟨(dec e).toArray⟩:ByteArray)++(⟨#[124]⟩:ByteArray))),gEq (.agg #[.int .i64 aA,.int .i64 aB,.slice p n cap,.int .i64 free,.int .i64 step,.int .i64 aD,.int .i64 aH,.int .i64 aC,.int .i64 aI,.slice q m c2]),gEq (str t),gEq (.string ((⟨(dec e).toArray⟩:ByteArray)++(⟨#[124]⟩:ByteArray)++(⟨t.toArray⟩:ByteArray))),gEq (str r)]) 7 (by kernel_rfl) rfl (by kernel_rfl) (by kernel_rfl) (by kernel_rfl) (eG (aG (aF _) (aG (aF _) (aG (aF _) (aG (aF _) (aG (aF _) (aG (aF _) (aG (aF _) (fN))))))))) (k:=8) (by kernel_rfl) (by decide) (ls:= [(0,some 16),(1,some 17),(2,some 18),(3,some 19),(4,some 20),(5,some 21),(6,some 22)]) (by kernel_rfl) (ir:= [0,1,2,3,4,5,6]) (by kernel_rfl) ?steps (tl:=#[true,true,true,true,true,true,true,false]) (by kernel_rfl) ?fin
 case steps=>
  refine sC [] rfl (fun wi hx=> ?_) ?_
  ·intro K hK
   go_simp
   exact hK _ _ ⟨.int .i64 e,rfl,rfl,Ext.refl _⟩
  refine sC [(0,some 16)] rfl (fun wi hx=> ?_) ?_
  ·intro v0 h0 K hK
   obtain rfl:=h0
   go_wp2_with fail
   refine(HN.out _ xE).mono ?_
   rintro e2 w2 ⟨rfl,hx2⟩
   go_simp
   exact hK _ _ ⟨str (dec e),rfl,rfl,hx2⟩
  refine sC [(1,some 17)] rfl (fun wi hx=> ?_) ?_
  ·intro v1 h1 K hK
   obtain rfl:=h1
   have s1: ¬9223372036854775807<(dec e).length+1:=by omega
   go_simp
   exact hK _ _ ⟨.string ((⟨(dec e).toArray⟩:ByteArray)++(⟨#[124]⟩:ByteArray)),rfl,rfl,Ext.refl _⟩
  refine sC [] rfl (fun wi hx=> ?_) ?_
  ·intro K hK
   have B:=xQ (B0.out.ext hx.of_drew)
   obtain⟨cc0,cc1,cc2,cc3,cc4,cc5,cc6,cc7,cc8,cc9⟩:=(B.out).ten
   go_simp
   exact hK _ _ ⟨.agg #[.int .i64 aA,.int .i64 aB,.slice p n cap,.int .i64 free,.int .i64 step,.int .i64 aD,.int .i64 aH,.int .i64 aC,.int .i64 aI,.slice q m c2],rfl,rfl,Ext.refl _⟩
  refine sC [(3,some 19)] rfl (fun wi hx=> ?_) ?_
  ·intro v3 h3 K hK
   obtain rfl:=h3
   go_wp2_with fail
   refine(HT.out _ xE).mono ?_
   rintro e2 w2 ⟨rfl,hx2⟩
   go_simp
   exact hK _ _ ⟨str t,rfl,rfl,hx2⟩
  refine sC [(2,some 18),(4,some 20)] rfl (fun wi hx=> ?_) ?_
  ·intro v2 h2 v4 h4 K hK
   obtain rfl:=h2
   obtain rfl:=h4
   have s2: ¬9223372036854775807<(dec e).length+1+t.length:=by omega
   go_simp
   exact hK _ _ ⟨.string ((⟨(dec e).toArray⟩:ByteArray)++(⟨#[124]⟩:ByteArray)++(⟨t.toArray⟩:ByteArray)),rfl,rfl,Ext.refl _⟩
  refine sC [(5,some 21)] rfl (fun wi hx=> ?_) StepsL.nil
  ·intro v5 h5 K hK
   obtain rfl:=h5
   go_wp2_with fail
   refine(HW.out _ xE).mono ?_
   rintro e2 w2 ⟨rfl,hx2⟩
   go_simp
   exact hK _ _ ⟨str r,rfl,rfl,hx2⟩
 case fin=>
  intro wi hx v0 h0 v1 h1 v2 h2 v3 h3 v4 h4 v5 h5 v6 h6
  obtain rfl:=h0
  obtain rfl:=h1
  obtain rfl:=h2
  obtain rfl:=h3
  obtain rfl:=h4
  obtain rfl:=h5
  obtain rfl:=h6
  refine wpAny_ready (rs:= [7]) (by kernel_rfl) (by simp) ?_
  refine AllReady.cons rfl (fun K hK=> ?_) AllReady.nil
  go_simp
  refine hK _ _ ?_
  clear hK K
  refine wpAny_done (by kernel_rfl) ?_ _
  have X1:=xQ (X0.out.trans hx.of_drew)
  clear hx
  go_wp2
  go_ret
  exact⟨rfl,X1.out⟩
set_option maxRecDepth 100000 in
set_option maxHeartbeats 1000000 in
theorem aBg (aA aB free step aD aH aC aI:Int)(p:Option Addr)(n cap:Nat)(q:Option Addr)(m c2:Nat)(e:Int)(t r:List UInt8)(w:World)(h0:0≤e)(h1:e≤99)(hd:(dec e).length≤21)(ht:t.length≤100000)
  (HV:Hid (∀w',Ext w w'→Calls Tryz.prog 17 #[.agg #[.int .i64 aA,.int .i64 aB,.slice p n cap,.int .i64 free,.int .i64 step,.int .i64 aD,.int .i64 aH,.int .i64 aC,.int .i64 aI,.slice q m c2]] w' fun e w''=>e= .returned (.bool true)∧Ext w' w''))
  (HT:Hid (∀w',Ext w w'→Calls Tryz.prog 47 #[.agg #[.int .i64 aA,.int .i64 aB,.slice p n cap,.int .i64 free,.int .i64 step,.int .i64 aD,.int .i64 aH,.int .i64 aC,.int .i64 aI,.slice q m c2]] w' fun e' w''=>e'= .returned (str t)∧Ext w' w''))
  (HN:Hid (∀w',Ext w w'→Calls Tryz.prog 102 #[.int .i64 e] w' fun e' w''=>e'= .returned (str (dec e))∧Ext w' w'')):
  Calls Tryz.prog 51 #[.agg #[.int .i64 aA,.int .i64 aB,.slice p n cap,.int .i64 free,.int .i64 step,.int .i64 aD,.int .i64 aH,.int .i64 aC,.int .i64 aI,.slice q m c2],.int .i64 e] w fun e' w'=>e'= .returned (str (kY (dec e++ [124]++t)))∧Ext w w':=by
 obtain⟨u,hu'⟩: ∃u,u=dec e++ [124]++t:=⟨_,rfl⟩
 have hul0:u.length≤200000:=by rw[hu'];simp only[List.length_append,List.length_cons,List.length_nil];omega
 have hu:=xQ hu'
 clear hu'
 have q1:decide (e≤99)=true:=by simp[h1]
 go_enter Tryz.func51,Tryz.ntmps51
 go_wp2_with fail
 refine(HV.out _ xE).mono ?_
 rintro e' w0 ⟨rfl,hh0⟩
 have B0:=xQ ((Blk.new w 30 #[.int .i64 aA,.int .i64 aB,.slice p n cap,.int .i64 free,.int .i64 step,.int .i64 aD,.int .i64 aH,.int .i64 aC,.int .i64 aI,.slice q m c2]).ext hh0)
 have X0:Hid (Ext w w0):=by show Ext w w0;exact xE
 have X0':=X0.out
 have hz0:w.heap.size<w0.heap.size:=B0.out.lt
 clear hh0
 go_wp2_with go_in
 refine cM (gl [gEq (.int .i64 e),gEq (str (dec e)),gEq (.string ((⟨(dec e).toArray⟩:ByteArray)++(⟨#[124]⟩:ByteArray))),gEq (.agg #[.int .i64 aA,.int .i64 aB,.slice p n cap,.int .i64 free,.int .i64 step,.int .i64 aD,.int .i64 aH,.int .i64 aC,.int .i64 aI,.slice q m c2]),gEq (str t),gEq (.string ((⟨(dec e).toArray⟩:ByteArray)++(⟨#[124]⟩:ByteArray)++(⟨t.toArray⟩:ByteArray)))]) 6 (by kernel_rfl) rfl (by kernel_rfl) (by kernel_rfl) (by kernel_rfl) (eG (aG (aF _) (aG (aF _) (aG (aF _) (aG (aF _) (aG (aF _) (aG (aF _) (fN)))))))) (k:=7) (by kernel_rfl) (by decide) (ls:= [(0,some 14),(1,some 15),(2,some 16),(3,some 17),(4,some 18),(5,some 19)]) (by kernel_rfl) (ir:= [0,1,2,3,4,5]) (by kernel_rfl) ?steps (tl:=#[true,true,true,true,true,true,false]) (by kernel_rfl) ?fin
 case steps=>
  refine sC [] rfl (fun wi hx=> ?_) ?_
  ·intro K hK
   go_simp
   exact hK _ _ ⟨.int .i64 e,rfl,rfl,Ext.refl _⟩
  refine sC [(0,some 14)] rfl (fun wi hx=> ?_) ?_
  ·intro v0 h0 K hK
   obtain rfl:=h0
   go_wp2_with fail
   refine(HN.out _ xE).mono ?_
   rintro e2 w2 ⟨rfl,hx2⟩
   go_simp
   exact hK _ _ ⟨str (dec e),rfl,rfl,hx2⟩
  refine sC [(1,some 15)] rfl (fun wi hx=> ?_) ?_
  ·intro v1 h1 K hK
   obtain rfl:=h1
   have s1: ¬9223372036854775807<(dec e).length+1:=by omega
   go_simp
   exact hK _ _ ⟨.string ((⟨(dec e).toArray⟩:ByteArray)++(⟨#[124]⟩:ByteArray)),rfl,rfl,Ext.refl _⟩
  refine sC [] rfl (fun wi hx=> ?_) ?_
  ·intro K hK
   have B:=xQ (B0.out.ext hx.of_drew)
   obtain⟨cc0,cc1,cc2,cc3,cc4,cc5,cc6,cc7,cc8,cc9⟩:=(B.out).ten
   go_simp
   exact hK _ _ ⟨.agg #[.int .i64 aA,.int .i64 aB,.slice p n cap,.int .i64 free,.int .i64 step,.int .i64 aD,.int .i64 aH,.int .i64 aC,.int .i64 aI,.slice q m c2],rfl,rfl,Ext.refl _⟩
  refine sC [(3,some 17)] rfl (fun wi hx=> ?_) ?_
  ·intro v3 h3 K hK
   obtain rfl:=h3
   go_wp2_with fail
   refine(HT.out _ xE).mono ?_
   rintro e2 w2 ⟨rfl,hx2⟩
   go_simp
   exact hK _ _ ⟨str t,rfl,rfl,hx2⟩
  refine sC [(2,some 16),(4,some 18)] rfl (fun wi hx=> ?_) StepsL.nil
  ·intro v2 h2 v4 h4 K hK
   obtain rfl:=h2
   obtain rfl:=h4
   have s2: ¬9223372036854775807<(dec e).length+1+t.length:=by omega
   go_simp
   exact hK _ _ ⟨.string ((⟨(dec e).toArray⟩:ByteArray)++(⟨#[124]⟩:ByteArray)++(⟨t.toArray⟩:ByteArray)),rfl,rfl,Ext.refl _⟩
 case fin=>
  intro wi hx v0 h0 v1 h1 v2 h2 v3 h3 v4 h4 v5 h5
  obtain rfl:=h0
  obtain rfl:=h1
  obtain rfl:=h2
  obtain rfl:=h3
  obtain rfl:=h4
  obtain rfl:=h5
  refine wpAny_ready (rs:= [6]) (by kernel_rfl) (by simp) ?_
  refine AllReady.cons rfl (fun K hK=> ?_) AllReady.nil
  go_simp
  refine hK _ _ ?_
  clear hK K
  refine wpAny_done (by kernel_rfl) ?_ _
  have X1:=xQ (X0.out.trans hx.of_drew)
  clear hx
  have eq:(Value.string (⟨(dec e).toArray⟩++⟨#[124]⟩++⟨t.toArray⟩))=str u:=by rw[hu.out];exact aBa _ _ _
  rw[eq]
  clear eq
  have hul: ¬9223372036854775807<u.length+1:=by omega
  have hub:=aF2 u
  have hul2: ¬9223372036854775807<u.length+1+(Lib.decDigits (gA u).toNat).length:=by omega
  have hb:=oK u
  go_wp2_with fail
  refine(aDb u _ (by unfold maxLen;omega)).mono ?_
  rintro e2 w3 ⟨rfl,rfl⟩
  go_wp2_with fail
  refine(lY (gA u) _ (by omega) (by omega)).mono ?_
  rintro e2 w4 ⟨rfl,h4⟩
  go_wp2
  go_ret
  exact⟨by rw[←hu.out];exact uC rfl,X1.out.trans xE⟩
theorem fV {h:aV}:(aU h).length≤100000:=by
 unfold aU
 cases hok:bN h with
 |false=>simp
 |true=>
  rw[if_pos rfl]
  obtain⟨g0,g1,g2,g3,g4,g5,g6,g7,g8,g9,g10,g11,g12,g13,g14⟩:=mY hok
  have l1:(bO h.aA h.aB h.cells).length≤400:=mZ
  have l2:=lW h.free h.step h.aD h.aH (by omega) (by omega) (by omega) (by omega)
  have l3:=dK h.aC (by omega)
  have l4:=dK h.aI (by omega)
  have lv: ∀v∈h.vs,(aT (bH v)).length≤90:=fun v hv=>by
   have:=g14 v hv
   exact lW _ _ _ _ (by omega) (by omega) (by omega) (by omega)
  have HL:=aCe 59 400 (bO h.aA h.aB h.cells) (aT [h.free,h.step,h.aD,h.aH]::dec h.aC::dec h.aI::h.vs.map (fun v=>aT (bH v))) l1 (fun y hy=>by
   simp only[List.mem_cons]at hy
   rcases hy with rfl|rfl|rfl|hy
   ·omega
   ·omega
   ·omega
   ·obtain⟨v,hv,rfl⟩:=List.mem_map.1 hy
    have:=lv v hv;omega)
  refine Nat.le_trans HL ?_
  simp only[List.length_cons,List.length_map]
  omega
theorem mX (h:aV)(e:Int)(p:Option Addr)(n cap:Nat)(q:Option Addr)(m c2:Nat)(w:World)(hE:Env w)(hi:IsHouse w h p n cap q m c2):
  Calls Tryz.prog 50 #[cH h p n cap q m c2,.int .i64 e] w fun e' w'=>e'= .returned (str (bK h e))∧Ext w w':=by
 have HV:=fun(w':World) (hx:Ext w w')=>kO h p n cap q m c2 w' (hi.ext hx)
 unfold bK
 cases hok:bN h with
 |false=>
  rw[hok]at HV
  simpa using aAd h.aA h.aB h.free h.step h.aD h.aH h.aC h.aI p n cap q m c2 e [] [] w HV
 |true=>
  rw[hok]at HV
  by_cases hr:0≤e∧e≤99
  ·rw[if_pos ⟨rfl,hr⟩]
   exact aCk h.aA h.aB h.free h.step h.aD h.aH h.aC h.aI p n cap q m c2 e (aU h) (kY (dec e++ [124]++aU h)) w hr.1 hr.2 (dK e (by omega)) fV HV (fun w' hx=>jN h p n cap q m c2 w' (hE.ext hx) (hi.ext hx)) (fun w' hx=>yQ e w' hr.1 (by omega) (hE.ext hx)) (fun w' hx=>by rw[show(Value.string (⟨(dec e).toArray⟩++⟨#[124]⟩++⟨(aU h).toArray⟩))=str (dec e++ [124]++aU h)from aBa _ _ _];exact aCj _ w' (by have:=fV (h:=h);have:=dK e (by omega);simp only[List.length_append,List.length_cons,List.length_nil];omega) (hE.ext hx))
  ·rw[if_neg (fun hh=>hr hh.2)]
   exact aAc h.aA h.aB h.free h.step h.aD h.aH h.aC h.aI p n cap q m c2 e [] [] w (by omega) HV
theorem mP (h:aV)(e:Int)(p:Option Addr)(n cap:Nat)(q:Option Addr)(m c2:Nat)(w:World)(hi:IsHouse w h p n cap q m c2):
  Calls Tryz.prog 51 #[cH h p n cap q m c2,.int .i64 e] w fun e' w'=>e'= .returned (str (bK h e))∧Ext w w':=by
 have HV:=fun(w':World) (hx:Ext w w')=>lT h p n cap q m c2 w' (hi.ext hx)
 unfold bK
 cases hok:bN h with
 |false=>
  rw[hok]at HV
  simpa using zR h.aA h.aB h.free h.step h.aD h.aH h.aC h.aI p n cap q m c2 e [] [] w HV
 |true=>
  rw[hok]at HV
  by_cases hr:0≤e∧e≤99
  ·rw[if_pos ⟨rfl,hr⟩]
   exact aBg h.aA h.aB h.free h.step h.aD h.aH h.aC h.aI p n cap q m c2 e (aU h) (kY (dec e++ [124]++aU h)) w hr.1 hr.2 (dK e (by omega)) fV HV (fun w' hx=>jL h p n cap q m c2 w' (hi.ext hx)) (fun w' hx=>lY e w' hr.1 (by omega))
  ·rw[if_neg (fun hh=>hr hh.2)]
   exact zQ h.aA h.aB h.free h.step h.aD h.aH h.aC h.aI p n cap q m c2 e [] [] w (by omega) HV
set_option maxRecDepth 100000 in
set_option maxHeartbeats 1000000 in
theorem aA2 (p q:Option Addr)(n c1 c2:Nat)(xs:List Int)(w:World)(h1:Sl w p n c1 1 (ivs xs))(h2:Sl w q n c2 1 (ivs xs)):
  Calls Tryz.prog 34 #[.slice p n c1,.slice q n c2] w fun e w'=>e= .returned (.bool true)∧Ext w w':=by
 have hn:=h1.bd
 have H1:=xQ h1
 have H2:=xQ h2
 clear h1 h2
 go_enter Tryz.func34,Tryz.ntmps34
 go_wp2
 go_loopw [5] (fun i wr=> ∃k:Nat,k≤n∧i= .int .i64 k∧Ext w wr) (fun i _=>n-(intOf i).toNat)
 case atStart=>exact⟨0,Nat.zero_le _,rfl,Ext.refl _⟩
 case round=>
  obtain⟨k,hk,rfl,hE⟩:=hrel
  by_cases hlt:k<n
  ·obtain⟨b,off,x,rfl,hx,hb,hcell⟩:=(H1.out.ext hE).int_at hlt
   obtain⟨b2,off2,y,rfl,hy,hb2,hcell2⟩:=(H2.out.ext hE).int_at hlt
   rw[hx]at hy
   injection hy with hy
   subst hy
   clear hx
   have i1:(0:Int)≤(k:Int):=by omega
   have i2:(k:Int)<(n:Int):=by omega
   go_wp2
   go_quiet (fail)
   go_wp2
   go_roundw
   case rel=>exact⟨k+1,by omega,by go_num,by exact .drewN hE _⟩
   case measure=>simp[intOf];omega
  ·go_wp2
   go_ret
   exact⟨rfl,hE⟩
set_option maxRecDepth 100000 in
set_option maxHeartbeats 1000000 in
theorem aA3 (aA aB:Int)(p q:Option Addr)(n c1 c2:Nat)(xs:List Int)(w:World)(h1:Sl w p n c1 1 (ivs xs))(h2:Sl w q n c2 1 (ivs xs)):
  Calls Tryz.prog 103 #[aJ aA aB p n c1,aJ aA aB q n c2] w fun e w'=>e= .returned (.bool true)∧Ext w w':=by
 have H1:=xQ h1
 have H2:=xQ h2
 clear h1 h2
 go_enter Tryz.func103,Tryz.ntmps103
 go_wp2_with fail
 refine(aA2 p q n c1 c2 xs _ (H1.out.ext (by exact .alloc (.alloc (.refl _) _) _)) (H2.out.ext (by exact .alloc (.alloc (.refl _) _) _))).mono ?_
 rintro e w1 ⟨rfl,hx⟩
 go_wp2
 go_ret
 exact⟨rfl,by exact .trans (.alloc (.alloc (.refl _) _) _) hx⟩
set_option maxRecDepth 100000 in
set_option maxHeartbeats 1000000 in
theorem eU (h:aV)(p1:Option Addr)(n c1:Nat)(q1:Option Addr)(m d1:Nat)(p2:Option Addr)(c2:Nat)(q2:Option Addr)(d2:Nat)(w:World)(hi1:IsHouse w h p1 n c1 q1 m d1)(hi2:IsHouse w h p2 n c2 q2 m d2):
  Calls Tryz.prog 48 #[cH h p1 n c1 q1 m d1,cH h p2 n c2 q2 m d2] w fun e w'=>e= .returned (.bool true)∧Ext w w':=by
 have hm:=hi1.vs.bd
 have H1:=xQ hi1
 have H2:=xQ hi2
 clear hi1 hi2
 obtain⟨aA,aB,cells,free,step,aD,aH,aC,aI,vs⟩:=h
 go_enter Tryz.func48,Tryz.ntmps48
 go_wp2_with fail
 refine(aA3 aA aB p1 p2 n c1 c2 cells _ (H1.out.cells.ext (by exact .alloc (.alloc (.refl _) _) _)) (H2.out.cells.ext (by exact .alloc (.alloc (.refl _) _) _))).mono ?_
 rintro e w1 ⟨rfl,hx1⟩
 have BA:=xQ (((Blk.new w 30 #[.int .i64 aA,.int .i64 aB,.slice p1 n c1,.int .i64 free,.int .i64 step,.int .i64 aD,.int .i64 aH,.int .i64 aC,.int .i64 aI,.slice q1 m d1]).alloc (.cells #[.int .i64 aA,.int .i64 aB,.slice p2 n c2,.int .i64 free,.int .i64 step,.int .i64 aD,.int .i64 aH,.int .i64 aC,.int .i64 aI,.slice q2 m d2] 30)).ext hx1)
 have BB':=xQ ((Blk.new (w.alloc (.cells #[.int .i64 aA,.int .i64 aB,.slice p1 n c1,.int .i64 free,.int .i64 step,.int .i64 aD,.int .i64 aH,.int .i64 aC,.int .i64 aI,.slice q1 m d1] 30)) 30 #[.int .i64 aA,.int .i64 aB,.slice p2 n c2,.int .i64 free,.int .i64 step,.int .i64 aD,.int .i64 aH,.int .i64 aC,.int .i64 aI,.slice q2 m d2]).ext hx1)
 simp only[World.size_alloc]at BB'
 have hxw1:=xQ ((((Ext.refl w).alloc (.cells #[.int .i64 aA,.int .i64 aB,.slice p1 n c1,.int .i64 free,.int .i64 step,.int .i64 aD,.int .i64 aH,.int .i64 aC,.int .i64 aI,.slice q1 m d1] 30)).alloc (.cells #[.int .i64 aA,.int .i64 aB,.slice p2 n c2,.int .i64 free,.int .i64 step,.int .i64 aD,.int .i64 aH,.int .i64 aC,.int .i64 aI,.slice q2 m d2] 30)).trans hx1)
 have ha:w.heap.size+1<w1.heap.size:=Nat.lt_of_lt_of_le (by simp) hx1.sz
 clear hx1
 obtain⟨a0,a1,a2,a3,a4,a5,a6,a7,a8,a9⟩:=(BA.out).ten
 obtain⟨b0,b1,b2,b3,b4,b5,b6,b7,b8,b9⟩:=(BB'.out).ten
 go_wp2
 go_loopw [5] (fun i wr=> ∃k:Nat,k≤m∧i= .int .i64 k∧Ext w1 wr) (fun i _=>m-(intOf i).toNat)
 case atStart=>exact⟨0,Nat.zero_le _,rfl,Ext.refl _⟩
 case round=>
  clear a0 a1 a2 a3 a4 a5 a6 a7 a8 a9 b0 b1 b2 b3 b4 b5 b6 b7 b8 b9
  obtain⟨k,hk,rfl,hE⟩:=hrel
  have hsz:=hE.sz
  have a9:wr.cell? ⟨w.heap.size,9,none⟩=some (.slice q1 m d1):=(BA.out.ext hE).cell 9
  have b9:wr.cell? ⟨w.heap.size+1,9,none⟩=some (.slice q2 m d2):=(BB'.out.ext hE).cell 9
  by_cases hlt:k<m
  ·obtain⟨b,off,x0,x1,x2,x3,rfl,hx,hb,g0,g1,g2,g3⟩:=fR ((H1.out.vs.ext hxw1.out).ext hE) hlt
   obtain⟨b2,off2,d0,d1',d2',d3,rfl,hy,hb2,k0,k1,k2,k3⟩:=fR ((H2.out.vs.ext hxw1.out).ext hE) hlt
   rw[hx]at hy
   injection hy with hy
   simp only[Prod.mk.injEq]at hy
   obtain⟨rfl,rfl,rfl,rfl⟩:=hy
   clear hx
   have i1:(0:Int)≤(k:Int):=by omega
   have i2:(k:Int)<(m:Int):=by omega
   go_wp2
   go_quiet (fail)
   go_wp2
   go_roundw
   case rel=>exact⟨k+1,by omega,by go_num,by exact .drewN hE _⟩
   case measure=>simp[intOf];omega
  ·go_wp2
   go_ret
   exact⟨rfl,hxw1.out.trans hE⟩
theorem aAg (w:World):IsHouse w bT none 0 0 none 0 0:=⟨Sl.nil w 1,Sl.nil w 4⟩
set_option maxRecDepth 100000 in
set_option maxHeartbeats 1000000 in
theorem qP (p:Option Addr)(c:Nat)(q:Option Addr)(d:Nat)(w:World)(hi:IsHouse w bT p 0 c q 0 d):
  Calls Tryz.prog 53 #[cH bT p 0 c q 0 d] w fun e w'=>e= .returned (.bool true)∧Ext w w':=by
 have H:=xQ (fun w' (hx:Ext w w')=>eU bT p 0 c q 0 d none 0 none 0 w' (hi.ext hx) (aAg w'))
 clear hi
 unfold bT at*
 go_enter Tryz.func53,Tryz.ntmps53
 go_wp2_with fail
 refine(H.out _ (by exact .alloc (.refl _) _)).mono ?_
 rintro e w1 ⟨rfl,hx1⟩
 go_wp2
 go_ret
 exact⟨rfl,by exact .trans (.alloc (.refl _) _) hx1⟩
theorem oW {h:aV}{c:UInt8}(hc:cQ c=false)(h44:c≠44)(h46:c≠46)(h47:c≠47)(h59:c≠59):c∉aU h:=by
 unfold aU
 split
 ·refine vV 59 c h59 _ ?_
  intro p hp
  simp only[dC,List.mem_cons,List.mem_map]at hp
  rcases hp with rfl|rfl|rfl|rfl|⟨v,_,rfl⟩
  ·unfold bO
   split
   ·suffices hh: ∀k,c∉aS h.aA h.cells k from hh _
    intro k
    induction k with
    |zero=>simp[aS]
    |succ k ih=>
     simp only[aS,List.mem_append,not_or]
     refine⟨⟨ih,?_⟩,lK hc h46⟩
     unfold cK
     split
     ·simp
     ·split
      ·simpa using h47
      ·simpa using h44
   ·simp
  ·exact qO c hc h44 _
  ·exact gU _ _ hc
  ·exact gU _ _ hc
  ·exact qO c hc h44 _
 ·simp
def bZ (l:List UInt8):Option (aV×Int):=
 match bQ 2 (fE 124 l),aW (fE 35 (iG 124 l))with
 |some n,some h=>if bK h n=l then some (h,n)else none
 |_,_=>none
def kL (l:List UInt8):Bool:=decide ((aL 35 l).length=2∧(aL 124 (eO (aL 35 l) 0)).length=2)
def kS (l:List UInt8):Option aV:=aW (eO (aL 124 (eO (aL 35 l) 0)) 1)
def lU (l:List UInt8):Int:=(bQ 4 (eO (aL 124 (eO (aL 35 l) 0)) 0)).getD (-1)
theorem uZ {h:aV}{e:Int}{l:List UInt8}(hok:bN h=true)(hl:l≠ [])(hs:bK h e=l):0≤e∧e≤99∧ ∃d:Nat,l=dec e++124::(aU h++35::Lib.decDigits d):=by
 unfold bK at hs
 split at hs
 ·rename_i hc
  refine⟨hc.2.1,hc.2.2,(gA (dec e++ [124]++aU h)).toNat,?_⟩
  rw[←hs];simp[kY]
 ·exact absurd hs.symm hl
theorem aAh {h:aV}(hok:bN h=true):aU h≠ []:=by
 intro e
 have:=sI hok
 rw[e]at this
 simp[aL,dC]at this
theorem pK {h:aV}{e:Int}{l:List UInt8}(hok:bN h=true)(hl:l≠ [])(hs:bK h e=l):bZ l=some (h,e):=by
 obtain⟨h0,h1,d,hd⟩:=uZ hok hl hs
 have c1:=hU 124 (dec e) (aU h++35::Lib.decDigits d) (gU _ _ (by decide))
 have c2:=hU 35 (aU h) (Lib.decDigits d) (oW (by decide) (by decide) (by decide) (by decide) (by decide))
 unfold bZ
 rw[hd,c1.1,c1.2,c2.1,kT hok,kE 2 e.toNat (by omega) (by omega) (by omega),←hd]
 have e2:((e.toNat:Nat):Int)=e:=by omega
 simp[e2,hs]
theorem aE1 {h:aV}{e:Int}{l:List UInt8}(hok:bN h=true)(hl:l≠ [])(hs:bK h e=l):kL l=true∧kS l=some h∧lU l=e:=by
 obtain⟨h0,h1,d,hd⟩:=uZ hok hl hs
 have n35:(35:UInt8)∉dec e++124::aU h:=by
  simp only[List.mem_append,List.mem_cons,not_or]
  exact⟨gU _ _ (by decide),by decide,oW (by decide) (by decide) (by decide) (by decide) (by decide)⟩
 have k1:aL 35 l= [dec e++124::aU h,Lib.decDigits d]:=by
  rw[hd,show dec e++124::(aU h++35::Lib.decDigits d)=(dec e++124::aU h)++35::Lib.decDigits d by simp,lJ 35 _ _ n35,mI 35 _ (gU _ _ (by decide))]
 have k2:aL 124 (dec e++124::aU h)= [dec e,aU h]:=by
  rw[lJ 124 _ _ (gU _ _ (by decide)),mI 124 _ (oW (by decide) (by decide) (by decide) (by decide) (by decide))]
 have k3:eO (aL 35 l) 0=dec e++124::aU h:=by rw[k1];rfl
 refine⟨?_,?_,?_⟩
 ·unfold kL;rw[k3,k2,k1];rfl
 ·unfold kS;rw[k3,k2];exact kT hok
 ·unfold lU;rw[k3,k2]
  show(bQ 4 (dec e)).getD (-1)=e
  rw[kE 4 e.toNat (by omega) (by omega) (by omega)];simp;omega
theorem lM {l:List UInt8}{h:aV}{e:Int}(hr:bZ l=some (h,e)):bN h=true∧bK h e=l:=by
 unfold bZ at hr
 split at hr
 ·rename_i n H hn hh
  split at hr
  ·rename_i hs;cases hr;exact⟨(iT hh).1,hs⟩
  ·simp at hr
 ·simp at hr
theorem aE4 (l:List UInt8):bZ l=if kL l=true then(match kS l with|some h=>if bK h (lU l)=l then some (h,lU l)else none|none=>none)else none:=by
 by_cases hl:l= []
 ·subst hl
  have a:bZ []=none:=by unfold bZ;simp[fE,bQ]
  rw[a];simp[kL,aL]
 ·cases hr:bZ l with
  |some x=>
   obtain⟨h,e⟩:=x
   obtain⟨a,b⟩:=lM hr
   obtain⟨q1,q2,q3⟩:=aE1 a hl b
   rw[if_pos q1,q2,q3]
   simp[b]
  |none=>
   by_cases hf:kL l=true
   ·rw[if_pos hf]
    cases hh:kS l with
    |none=>rfl
    |some h=>
     simp only
     by_cases hs:bK h (lU l)=l
     ·have:=pK (iT hh).1 hl hs
      rw[hr]at this;simp at this
     ·rw[if_neg hs]
   ·rw[if_neg hf]
theorem aIe (l:List UInt8):(⟨l.toArray⟩:ByteArray).size=l.length:=by simp[ByteArray.size]
theorem aJo (a:Int)(h0:0≤a)(h1:a<6): ∃x:ByteArray,(#[.string ⟨#[]⟩,.string ⟨#[48]⟩,.string ⟨#[59]⟩,.string ⟨#[35]⟩,.string ⟨#[57]⟩,.string ⟨#[53,58]⟩]:Array Value)[a.toNat]? =some (.string x)∧x.size≤2:=by
 rcases(show a=0∨a=1∨a=2∨a=3∨a=4∨a=5 by omega)with rfl|rfl|rfl|rfl|rfl|rfl
 all_goals exact⟨_,rfl,by decide⟩
theorem aHu {j:Nat}{x:ByteArray}(hx:(#[.string ⟨#[]⟩,.string ⟨#[48]⟩,.string ⟨#[59]⟩,.string ⟨#[35]⟩,.string ⟨#[57]⟩,.string ⟨#[53,58]⟩]:Array Value)[j]? =some (.string x)) (h:j<([.string ⟨#[]⟩,.string ⟨#[48]⟩,.string ⟨#[59]⟩,.string ⟨#[35]⟩,.string ⟨#[57]⟩,.string ⟨#[53,58]⟩]:List Value).length):
  ([.string ⟨#[]⟩,.string ⟨#[48]⟩,.string ⟨#[59]⟩,.string ⟨#[35]⟩,.string ⟨#[57]⟩,.string ⟨#[53,58]⟩]:List Value)[j]'h= .string x:=by
 have:=List.getElem?_eq_getElem h
 have h2:([.string ⟨#[]⟩,.string ⟨#[48]⟩,.string ⟨#[59]⟩,.string ⟨#[35]⟩,.string ⟨#[57]⟩,.string ⟨#[53,58]⟩]:List Value)[j]? =some (.string x):=by simpa using hx
 rw[this]at h2
 injection h2
theorem aBe (s x:ByteArray)(j:Nat)(hj:j<s.size)(hx:x.size≤2):(s.extract 0 j++x++s.extract (j+1) s.size).size≤s.size+1:=by
 simp[ByteArray.size_append,ByteArray.size_extract];omega
def aJc (R k m:Nat)(w:World)(e:Ending)(w':World):Prop:= ∃s:ByteArray,e= .returned (.string s)∧s.size≤m∧Rand w' R k∧ExtR R w w'
set_option maxRecDepth 100000 in
set_option maxHeartbeats 1000000 in
theorem pP (R c:Nat)(s:ByteArray)(w:World)(hr:Rand w R c)(hc:c≤1000000)(hs:s.size≤1000000):Calls Tryz.prog 108 #[.pointer (some ⟨R,0,none⟩),.string s] w (aJc R (c+2) (s.size+1) w):=by
 have hR:=hr.lt
 by_cases h0:s.size=0
 ·have hs0:s=⟨#[]⟩:=by
   obtain⟨⟨l⟩⟩:=s
   simp[ByteArray.size]at h0
   rw[h0]
  subst hs0
  go_enter Tryz.func108,Tryz.ntmps108
  go_wp2
  go_ret
  exact⟨_,rfl,by decide,hr.mono (by omega),ExtR.refl _ _⟩
 ·have t0:((s.size:Int)==0)=false:=by simp[h0]
  have h1:0<s.size:=by omega
  clear h0
  go_enter Tryz.func108,Tryz.ntmps108
  go_wp2_with fail
  refine(bS R (c) ((s.size:Int)) _ (hr) (by omega)).mono ?_
  rintro e w5 ⟨j,rfl,j0,j1,r5,x5⟩
  replace j1:j<(s.size:Int):=by omega
  have hR5:=r5.lt
  obtain⟨jn,rfl⟩:=Int.eq_ofNat_of_zero_le j0
  have i1:jn<s.size:=by omega
  have i2:(jn:Int)≤(s.size:Int):=by omega
  have i3:(jn:Int)+1≤(s.size:Int):=by omega
  have i4:IntKind.i64.wrap ((jn:Int)+1)=(jn:Int)+1:=IntWalk.i64_in _ (by omega)
  have i5:(0:Int)≤(jn:Int)+1:=by omega
  have i6:((jn:Int)+1).toNat=jn+1:=by omega
  go_wp2
  go_region_with (go_at_call 104;refine(bS R (c+1) 6 _ (by first|exact r5|exact r5.alloc _|exact(r5.alloc _).drew|exact r5.drew|exact r5.drew.alloc _) (by omega)).mono ?_;rintro e w6 ⟨d,rfl,d0,d1,r6,x6⟩;(replace d1:d<6:=by omega);obtain⟨x,hx,hx2⟩:=aJo d d0 d1;(have HX:=xQ hx);(have hq: ∀h,([.string ⟨#[]⟩,.string ⟨#[48]⟩,.string ⟨#[59]⟩,.string ⟨#[35]⟩,.string ⟨#[57]⟩,.string ⟨#[53,58]⟩]:List Value)[d.toNat]'h= .string x:=fun h=>aHu HX.out h);clear hx;(first|(have gB:Blk w6 w5.heap.size 9 #[.string ⟨#[]⟩,.string ⟨#[48]⟩,.string ⟨#[59]⟩,.string ⟨#[35]⟩,.string ⟨#[57]⟩,.string ⟨#[53,58]⟩]:=x6.blk (Blk.new w5 _ _) (Nat.ne_of_gt hR5);have gl:w6.cell? ⟨w5.heap.size,d.toNat,none⟩=some (.string x):=(gB.cell d.toNat).trans HX.out;clear gB)|skip))
  all_goals go_wp2
  all_goals go_ret
  all_goals exact⟨_,rfl,aBe s x jn i1 hx2,xN,xR⟩
def pE (w:World)(e:Ending)(w':World):Prop:= ∃s:ByteArray,e= .returned (.string s)∧s.size≤300000∧Ext w w'
def wX (w:World)(e:Ending)(w':World):Prop:=
 ∃(h:aV) (p:Option Addr) (cap:Nat) (q:Option Addr) (c2:Nat) (n:Int),e= .returned (.tuple #[cH h p h.cells.length cap q h.vs.length c2,.int .i64 n])∧h.cells.length≤13∧h.vs.length≤13∧(-1000≤n∧n≤1000)∧IsHouse w' h p h.cells.length cap q h.vs.length c2∧Ext w w'
theorem aAb {R B1 B2:Nat}{w w':World}{h:aV}{p q:Option Addr}{cap c2:Nat}(h1:w.ownsRow B1 TI 1 (.slice p h.cells.length cap) h.cells.length (ivs h.cells))(h2:w.ownsRow B2 TV 4 (.slice q h.vs.length c2) h.vs.length (h.vs.flatMap aE))(hx:ExtR R w w')(hb1:R<B1)(hb2:R<B2):IsHouse w' h p h.cells.length cap q h.vs.length c2:=
 ⟨Sl.own (hx.own h1 hb1),Sl.own (hx.own h2 hb2)⟩
theorem yD (l:List UInt8): ∃s:ByteArray,str l= .string s∧s.size=l.length:=⟨_,rfl,aIe l⟩
theorem qK {h:aV}{e:Int}:(bK h e).length≤200000:=by
 unfold bK kY
 split
 ·rename_i hc
  have h1:=fV (h:=h)
  have h2:=dK e (by omega)
  have h3:=oK (dec e++ [124]++aU h)
  have h4:=dT (gA (dec e++ [124]++aU h)).toNat (by omega)
  simp only[List.length_append,List.length_singleton]
  omega
 ·simp
set_option maxRecDepth 100000 in
set_option maxHeartbeats 8000000 in
theorem xU (v:Value)(w:World)(hc:Code w v):Calls Tryz.prog 52 #[v] w (pE w):=by
 go_enter Tryz.func52,Tryz.ntmps52
 go_wp2_with fail
 refine(lG v w hc).mono ?_
 rintro e w1 ⟨R,rfl,hR,r1,x1⟩
 have hR1:=r1.lt
 go_wp2_with fail
 refine(kF R 0 0 _ r1 (by omega) (by omega) (by omega)).mono ?_
 rintro e w2 ⟨h,p,cap,q,c2,rfl,hs1,hs2,ho,hv,r2,x2⟩
 have HI:=xQ (⟨Sl.own ho,Sl.own hv⟩:IsHouse w2 h p h.cells.length cap q h.vs.length c2)
 clear ho hv r1
 go_wp2_with fail
 refine(jL h p _ cap q _ c2 _ HI.out).mono ?_
 rintro e w3 ⟨rfl,x3⟩
 have hl:=fV (h:=h)
 obtain⟨s,hs,hsz⟩:=yD (aU h)
 rw[hs]
 have hs2:s.size≤100000:=by omega
 clear hs hsz hl HI
 have HX3:=xQ (x2.ext x3)
 have r3:=r2.ext x3
 clear x2 x3 r2
 go_wp2_with fail
 refine(bS R (0+20000) 3 _ r3 (by omega)).mono ?_
 rintro e w6 ⟨j,rfl,j0,j1,r6,x6⟩
 by_cases hj:j=0
 ·subst hj
  go_wp2_with fail
  refine(pP R (0+20000+1) s _ r6 (by omega) (by omega)).mono ?_
  rintro e w7 ⟨s7,rfl,hs7,r7,x7⟩
  have X7:Ext w w7:=ExtR.new x1 ((HX3.out.trans x6).trans x7) (by omega)
  go_wp2
  go_ret
  exact⟨s7,rfl,by omega,X7⟩
 ·have e0:(j==0)=false:=by simp[hj]
  have X7:Ext w w6:=ExtR.new x1 (HX3.out.trans x6) (by omega)
  go_wp2
  go_ret
  exact⟨s,rfl,by omega,X7⟩
set_option maxRecDepth 100000 in
set_option maxHeartbeats 8000000 in
theorem aAs (v:Value)(w:World)(hc:Code w v):Calls Tryz.prog 54 #[v] w (pE w):=by
 go_enter Tryz.func54,Tryz.ntmps54
 go_wp2_with fail
 refine(lG v w hc).mono ?_
 rintro e w1 ⟨R,rfl,hR,r1,x1⟩
 have hR1:=r1.lt
 go_wp2_with fail
 refine(kF R 0 0 _ r1 (by omega) (by omega) (by omega)).mono ?_
 rintro e w2 ⟨h,p,cap,q,c2,rfl,hs1,hs2,ho,hv,r2,x2⟩
 have ho':=ho
 have hv':=hv
 clear ho hv r1
 go_wp2_with fail
 refine(bS R (0+20000) 50 _ r2 (by omega)).mono ?_
 rintro e w4 ⟨n,rfl,n0,n1,r4,x4⟩
 have HI4:=xQ (aAb ho' hv' x4 (by omega) (by omega))
 go_wp2_with fail
 refine(mP h n p _ cap q _ c2 _ HI4.out).mono ?_
 rintro e w3 ⟨rfl,x3⟩
 have hl:=qK (h:=h) (e:=n)
 obtain⟨s,hs,hsz⟩:=yD (bK h n)
 rw[hs]
 have hs2:s.size≤200000:=by omega
 clear hs hsz hl HI4 ho' hv'
 have HX3:=xQ ((x2.trans x4).ext x3)
 have r3:=r4.ext x3
 clear x2 x3 x4 r2 r4
 go_wp2_with fail
 refine(bS R (0+20000+1) 3 _ r3 (by omega)).mono ?_
 rintro e w6 ⟨j,rfl,j0,j1,r6,x6⟩
 by_cases hj:j=0
 ·subst hj
  go_wp2_with fail
  refine(pP R (0+20000+1+1) s _ r6 (by omega) (by omega)).mono ?_
  rintro e w7 ⟨s7,rfl,hs7,r7,x7⟩
  have X7:Ext w w7:=ExtR.new x1 ((HX3.out.trans x6).trans x7) (by omega)
  go_wp2
  go_ret
  exact⟨s7,rfl,by omega,X7⟩
 ·have e0:(j==0)=false:=by simp[hj]
  have X7:Ext w w6:=ExtR.new x1 (HX3.out.trans x6) (by omega)
  go_wp2
  go_ret
  exact⟨s,rfl,by omega,X7⟩
end Go.Proofs.YteejdnmmpmcmeaaGreatDoor
