/-
  Texts of this proof, packed (@packed).
-/
import Derived.Test.YtgnkoffndhmhpaaGreatDoorP3
import Derived.Test.YtgnkoffndhmhpaaGreatDoorP4
import Derived.Test.YtgnkoffndhmhpaaGreatDoorP5
import Derived.Test.YtgnkoffndhmhpaaGreatDoorP10
import Derived.Test.YtgnkoffndhmhpaaGreatDoorP19
import Derived.Test.YtgnkoffndhmhpaaGreatDoorP24
namespace Go.Proofs.YtgnkoffndhmhpaaGreatDoor
open Go.RowKit
set_option linter.unusedVariables false
set_option linter.unusedSimpArgs false
set_option maxHeartbeats 8000000
set_option maxRecDepth 100000
def zJ (R k:Nat)(w:World)(e:Ending)(w':World):Prop:= ∃a b c:Int,e= .returned (jC a b c)∧Rand w' R (k+60)∧ExtR R w w'
theorem ExtR.of_drew {R:Nat}{a b:World}(h:ExtR R a.drew b):ExtR R a b:=⟨h.os,h.tape,h.output,h.size,h.block⟩
theorem aM9: ∀x:Nat,x<9→ ∃y:Int,(#[(),(),(),.int .i64 1,.int .i64 1,.int .i64 2,.int .i64 2,.int .i64 3,.int .i64 4]:Array Value)[x]? =some (.int .i64 y)
 |0,_=>⟨_,rfl⟩|1,_=>⟨_,rfl⟩|2,_=>⟨_,rfl⟩|3,_=>⟨_,rfl⟩|4,_=>⟨_,rfl⟩|5,_=>⟨_,rfl⟩|6,_=>⟨_,rfl⟩|7,_=>⟨_,rfl⟩|8,_=>⟨_,rfl⟩
 |n+9,h=>absurd h (by omega)
theorem zL {vs:List aP}{x:Nat}(h:x<vs.length): ∃y:Int,(vs.flatMap aE)[x*4]? =some (.int .i64 y):=by
 have h0:=dZ aE 4 (fun _=>rfl) vs x _ (List.getElem?_eq_getElem h) 0 (by omega)
 exact⟨_,by simpa[aE]using h0⟩
theorem uF (R k:Nat)(aA aB free step aD aG aC aF:Int)(p:OA)(n cap:Nat)(q:OA)(m c2:Nat)(vs:List aP)(sl:List Sl2)(w:World)(hr0:Rand w R k)(hk:k≤1099511600000)(hm:m≤1000)(KS:Nat)(hKS:Hid (sl.length=KS))(hsl:KS≤10000)(hvl:Hid (vs.length=m))
  (HS:Hid (Sl w q m c2 4 (vs.flatMap aE)))(hq:Hid (∀b off,0<m→q=some ⟨b,off,none⟩→b≠R))
  (HSA:Hid (∀w',ExtR R w w'→Calls Tryz.prog 111 #[aH aA aB p n cap] w' fun e w''=> ∃q c,e= .returned (.slice q KS c)∧w''.ownsRow w'.heap.size TSL 2 (.slice q KS c) KS (sl.flatMap aK)∧Ext w' w'')):
  Calls Tryz.prog 66 #[.pointer (some ⟨R,0,none⟩),.agg #[aA,aB,.slice p n cap,free,step,aD,aG,aC,aF,.slice q m c2]] w (zJ R k w):=by
 have hR:=hr0.lt
 go_enter Tryz.func66,Tryz.ntmps66
 go_wp2
 have r1:Rand ((w.alloc (.cells #[aA,aB,.slice p n cap,free,step,aD,aG,aC,aF,.slice q m c2] aL)).alloc (.cells #[(),(),()] THD)) R k:=hr0.ext (by exact .alloc (.alloc (.refl _) _) _)
 have M1:=(((MemR.start R w hR).bn aL #[aA,aB,.slice p n cap,free,step,aD,aG,aC,aF,.slice q m c2] (w.heap.size)).bn THD #[(),(),()] (w.heap.size+1))
 generalize j:((w.alloc (.cells #[aA,aB,.slice p n cap,free,step,aD,aG,aC,aF,.slice q m c2] aL)).alloc (.cells #[(),(),()] THD))=w1
 rw[j]at M1 r1
 clear j hr0
 have a7:=M1.hi 0
 have a9:=M1.hi 1
 have dq:R<w1.heap.size:=r1.lt
 refine nI (gl [aKw (w1.heap.size) TI #[(),(),(),.int .i64 1,.int .i64 1,.int .i64 2,.int .i64 2,.int .i64 3,.int .i64 4] 9,gEq (.pointer (some ⟨R,0,none⟩)),aGo (9),(fun v w'=> ∃g x:Nat,v= .pointer (some ⟨g,x,none⟩)∧x<9∧w1.heap.size≤g∧Blk w' g TI #[(),(),(),.int .i64 1,.int .i64 1,.int .i64 2,.int .i64 2,.int .i64 3,.int .i64 4]),rN,gEq (.pointer (some ⟨R,0,none⟩)),aGo (60),rN,rN,rN,gEq (.pointer (some ⟨R,0,none⟩)),aGo (12),rN,gEq (.pointer (some ⟨R,0,none⟩)),aGo (60),rN,rN,rN,(fun v _=> ∃a b:Int,v= .agg #[a,b,()]),aKx (w1.heap.size) THD #[(),(),()]]) R (k) 1 20 (by kernel_rfl) rfl (by kernel_rfl) (by kernel_rfl) (by kernel_rfl) r1 (uO (bU (aE0 (by omega) _ _ _) (bU (eA _) (bU (kT _) (bU (fun v w w' ⟨g,x,h1,h2,h3,h4⟩ hx=>⟨g,x,h1,h2,h3,ExtR.blk hx h4 (by omega)⟩) (bU (fJ) (bU (eA _) (bU (kT _) (bU (fJ) (bU (fJ) (bU (fJ) (bU (eA _) (bU (kT _) (bU (fJ) (bU (eA _) (bU (kT _) (bU (fJ) (bU (fJ) (bU (fJ) (bU (fun _ _ _ h _=>h) (bU (aE1 (by omega) _ _) (yW)))))))))))))))))))))) rfl (k:=21) (by kernel_rfl) (by decide) (ls:= [(0,some 8),(1,some 9),(2,some 10),(3,some 11),(4,some 12),(5,some 13),(6,some 14),(7,some 15),(8,some 16),(9,some 17),(10,some 18),(11,some 19),(12,some 20),(13,some 21),(14,some 22),(15,some 23),(16,some 24),(17,some 25),(18,some 26),(19,some 5)]) (by kernel_rfl) (ir:= [0,1,2,3,4,5,6,7,8,9,10,11,12,13,14,15,16,17,18,19]) (by kernel_rfl) ?steps (tl:=#[true,true,true,true,true,true,true,true,true,true,true,true,true,true,true,true,true,true,true,true,false]) (by kernel_rfl) ?fin
 case steps=>
  refine sCr [] rfl (fun wi kk hx hr hkk=> ?_) ?_
  ·intro K hK
   go_simp
   exact hK _ _ ⟨.slice (some ⟨wi.heap.size,0,none⟩) 9 9,rfl,⟨wi.heap.size,rfl,by have:=hx.sz;simp at this;omega,Blk.new _ _ _⟩,(fZ hr ((Ext.refl _).alloc _))⟩
  refine sSr0 [] ?_
  refine sCr [(1,some 9)] rfl (fun wi kk hx hr hkk=> ?_) ?_
  ·intro v1 h1 K hK
   obtain rfl:=h1
   go_wp2_with fail
   refine(cN R kk (9) _ hr (by omega)).mono ?_
   rintro e w5 ⟨x,rfl,xa,xb,r5,x5⟩
   go_simp
   exact hK _ _ ⟨.int .i64 x,rfl,⟨x,rfl,xa,by have hp:(0:Int)<9:=(by omega);omega⟩,⟨x5,r5⟩⟩
  refine sCr [(0,some 8),(2,some 10)] rfl (fun wi kk hx hr hkk=> ?_) ?_
  ·intro v0 h0 v2 h2 K hK
   obtain⟨g0,rfl,bx,B0⟩:=h0
   obtain⟨x2,rfl,b7,b3⟩:=h2
   obtain⟨xn,rfl⟩:=Int.eq_ofNat_of_zero_le b7
   have i1:(xn:Int)<9:=b3
   go_simp
   exact hK _ _ ⟨_,rfl,⟨g0,xn,rfl,by omega,bx,B0⟩,(fZ hr (Ext.refl _))⟩
  refine sCr [(3,some 11)] rfl (fun wi kk hx hr hkk=> ?_) ?_
  ·intro v3 h3 K hK
   obtain⟨g3,x3,rfl,b6,cv,B3⟩:=h3
   obtain⟨y,hy⟩:=aM9 x3 b6
   have c:=(B3.cell x3).trans hy
   go_simp
   exact hK _ _ ⟨_,rfl,⟨_,rfl⟩,(fZ hr (Ext.refl _))⟩
  refine sSr0 [] ?_
  refine sCr [(5,some 13)] rfl (fun wi kk hx hr hkk=> ?_) ?_
  ·intro v5 h5 K hK
   obtain rfl:=h5
   go_wp2_with fail
   refine(cN R kk (60) _ hr (by omega)).mono ?_
   rintro e w5 ⟨x,rfl,xa,xb,r5,x5⟩
   go_simp
   exact hK _ _ ⟨.int .i64 x,rfl,⟨x,rfl,xa,by have hp:(0:Int)<60:=(by omega);omega⟩,⟨x5,r5⟩⟩
  refine sCr [(6,some 14)] rfl (fun wi kk hx hr hkk=> ?_) ?_
  ·intro v6 h6 K hK
   obtain⟨x6,rfl,a6,a5⟩:=h6
   go_simp
   exact hK _ _ ⟨_,rfl,⟨_,rfl⟩,(fZ hr (Ext.refl _))⟩
  refine sCr [(7,some 15)] rfl (fun wi kk hx hr hkk=> ?_) ?_
  ·intro v7 h7 K hK
   obtain⟨n7,rfl⟩:=h7
   go_simp
   exact hK _ _ ⟨_,rfl,⟨_,rfl⟩,(fZ hr (Ext.refl _))⟩
  refine sCr [(4,some 12),(8,some 16)] rfl (fun wi kk hx hr hkk=> ?_) ?_
  ·intro v4 h4 v8 h8 K hK
   obtain⟨n4,rfl⟩:=h4
   obtain⟨n8,rfl⟩:=h8
   go_simp
   exact hK _ _ ⟨_,rfl,⟨_,rfl⟩,(fZ hr (Ext.refl _))⟩
  refine sSr0 [] ?_
  refine sCr [(10,some 18)] rfl (fun wi kk hx hr hkk=> ?_) ?_
  ·intro ca a2 K hK
   obtain rfl:=a2
   go_wp2_with fail
   refine(cN R kk (12) _ hr (by omega)).mono ?_
   rintro e w5 ⟨x,rfl,xa,xb,r5,x5⟩
   go_simp
   exact hK _ _ ⟨.int .i64 x,rfl,⟨x,rfl,xa,by have hp:(0:Int)<12:=(by omega);omega⟩,⟨x5,r5⟩⟩
  refine sCr [(11,some 19)] rfl (fun wi kk hx hr hkk=> ?_) ?_
  ·intro dc bo K hK
   obtain⟨cq,rfl,bu,b9⟩:=bo
   go_simp
   exact hK _ _ ⟨_,rfl,⟨_,rfl⟩,(fZ hr (Ext.refl _))⟩
  refine sSr0 [] ?_
  refine sCr [(13,some 21)] rfl (fun wi kk hx hr hkk=> ?_) ?_
  ·intro cf a8 K hK
   obtain rfl:=a8
   go_wp2_with fail
   refine(cN R kk (60) _ hr (by omega)).mono ?_
   rintro e w5 ⟨x,rfl,xa,xb,r5,x5⟩
   go_simp
   exact hK _ _ ⟨.int .i64 x,rfl,⟨x,rfl,xa,by have hp:(0:Int)<60:=(by omega);omega⟩,⟨x5,r5⟩⟩
  refine sCr [(14,some 22)] rfl (fun wi kk hx hr hkk=> ?_) ?_
  ·intro cp be K hK
   obtain⟨dd,rfl,bv,b2⟩:=be
   go_simp
   exact hK _ _ ⟨_,rfl,⟨_,rfl⟩,(fZ hr (Ext.refl _))⟩
  refine sCr [(15,some 23)] rfl (fun wi kk hx hr hkk=> ?_) ?_
  ·intro ct bc K hK
   obtain⟨c6,rfl⟩:=bc
   go_simp
   exact hK _ _ ⟨_,rfl,⟨_,rfl⟩,(fZ hr (Ext.refl _))⟩
  refine sCr [(12,some 20),(16,some 24)] rfl (fun wi kk hx hr hkk=> ?_) ?_
  ·intro cm bj c0 bb K hK
   obtain⟨ch,rfl⟩:=bj
   obtain⟨cn,rfl⟩:=bb
   go_simp
   exact hK _ _ ⟨_,rfl,⟨_,rfl⟩,(fZ hr (Ext.refl _))⟩
  refine sCr [(9,some 17),(17,some 25)] rfl (fun wi kk hx hr hkk=> ?_) ?_
  ·intro v9 h9 c3 ba K hK
   obtain⟨n9,rfl⟩:=h9
   obtain⟨cx,rfl⟩:=ba
   go_simp
   exact hK _ _ ⟨_,rfl,⟨_,_,rfl⟩,(fZ hr (Ext.refl _))⟩
  refine sCr [] rfl (fun wi kk hx hr hkk=> ?_) StepsLR.nil
  ·intro K hK
   go_simp
   exact hK _ _ ⟨.pointer (some ⟨wi.heap.size,0,none⟩),rfl,⟨wi.heap.size,rfl,by have:=hx.sz;simp at this;omega,Blk.new _ _ _⟩,(fZ hr ((Ext.refl _).alloc _))⟩
 case fin=>
  intro wi hx hr v0 h0 v1 h1 v2 h2 v3 h3 v4 h4 v5 h5 v6 h6 v7 h7 v8 h8 v9 h9 ca a2 dc bo cm bj cf a8 cp be ct bc c0 bb c3 ba dm cr dl co
  obtain⟨g0,rfl,bx,B0⟩:=h0
  obtain rfl:=h1
  obtain⟨x2,rfl,b7,b3⟩:=h2
  obtain⟨g3,x3,rfl,b6,cv,B3⟩:=h3
  obtain⟨n4,rfl⟩:=h4
  obtain rfl:=h5
  obtain⟨x6,rfl,a6,a5⟩:=h6
  obtain⟨n7,rfl⟩:=h7
  obtain⟨n8,rfl⟩:=h8
  obtain⟨n9,rfl⟩:=h9
  obtain rfl:=a2
  obtain⟨cq,rfl,bu,b9⟩:=bo
  obtain⟨ch,rfl⟩:=bj
  obtain rfl:=a8
  obtain⟨dd,rfl,bv,b2⟩:=be
  obtain⟨c6,rfl⟩:=bc
  obtain⟨cn,rfl⟩:=bb
  obtain⟨cx,rfl⟩:=ba
  obtain⟨d,ao,rfl⟩:=cr
  obtain⟨f,rfl,b4,br⟩:=co
  have b0:ExtR R w1 wi:=hx.of_drew
  have dp:R<f:=by omega
  have dh:R<wi.heap.size:=hr.lt
  have M2:=(M1.blkR b0 br b4)
  clear b0 br M1 a7 a9
  have bd:=M2.hi 0
  have bm:=M2.hi 1
  have bf:=M2.hi 2
  obtain⟨d0,au,d1,an,d2,ap⟩:=(M2.bk 0).trif
  refine wpAny_ready (rs:= [20]) (by kernel_rfl) (by simp) ?_
  refine AllReady.cons rfl (fun K hK=> ?_) AllReady.nil
  go_simp
  refine hK _ _ ?_
  clear hK K
  refine wpAny_done (by kernel_rfl) ?_ _
  try simp only[Act.put,List.setIfInBounds_toArray,List.set_cons_zero,List.set_cons_succ]
  have M3:=(show MemR R w ((wi.setCell ⟨f,0,none⟩ (.int .i64 d)).setCell ⟨f,1,none⟩ (.int .i64 ao)) [aI w.heap.size (f) THD #[d,ao,()],aI w.heap.size (w.heap.size+1) THD #[(),(),()],aI w.heap.size (w.heap.size) aL #[aA,aB,.slice p n cap,free,step,aD,aG,aC,aF,.slice q m c2]]from((M2.store (i:=0) rfl 0 (.int .i64 d)).store (i:=0) rfl 1 (.int .i64 ao)))
  have r2:Rand (((wi.setCell ⟨f,0,none⟩ (.int .i64 d)).setCell ⟨f,1,none⟩ (.int .i64 ao)).setCell ⟨f,2,none⟩ (.int .i64 0)) R (k+20):=xN
  clear d0 au d1 an d2 ap bd bm bf hr
  have M4:=(show MemR R w (((wi.setCell ⟨f,0,none⟩ (.int .i64 d)).setCell ⟨f,1,none⟩ (.int .i64 ao)).setCell ⟨f,2,none⟩ (.int .i64 0)) [aI w.heap.size (f) THD #[d,ao,()],aI w.heap.size (w.heap.size+1) THD #[(),(),()],aI w.heap.size (w.heap.size) aL #[aA,aB,.slice p n cap,free,step,aD,aG,aC,aF,.slice q m c2]]from(M3.store (i:=0) rfl 2 (.int .i64 0)))
  generalize j:World.setCell _ _ _=w2
  rw[j]at M4 r2
  clear j M2 M3
  have r:=M4.hi 0
  have t:=M4.hi 1
  have s:=M4.hi 2
  go_upto_region 2 with fail
  go_cut [40] (fun s40 wx=> ∃c:Bool,s40= .bool c∧(c=true→0<m)∧MemR R w wx [aI w.heap.size (f) THD #[d,ao,()],aI w.heap.size (w.heap.size+1) THD #[(),(),()],aI w.heap.size (w.heap.size) aL #[aA,aB,.slice p n cap,free,step,aD,aG,aC,aF,.slice q m c2]]∧Rand wx R (k+21))
  case first=>
   have c9:=(M4.bk 2).cl 9
   have d0:=(M4.bk 0).cl 0
   by_cases hm0:m=0
   ·skip
    have d0:decide ((0:Int)<(m:Int))=false:=by simp;omega
    go_wp2_with fail
    go_meet
    exact⟨false,rfl,fun h=>by simp at h,M4,r2.mono (by omega)⟩
   ·have d0:decide ((0:Int)<(m:Int))=true:=by simp;omega
    by_cases ha:d=0
    ·skip
     subst ha
     go_wp2_with fail
     go_meet
     exact⟨false,rfl,fun h=>by simp at h,M4,r2.mono (by omega)⟩
    ·have d1:(d !=0)=true:=by simp[ha]
     go_wp2_with fail
     refine(cN R (k+20) (5) _ r2 (by omega)).mono ?_
     rintro e w3 ⟨x,rfl,xa,xb,r3,xx⟩
     have M5:=(M4.pickd xx)
     clear xx M4 r t s
     have ah:=M5.hi 0
     have aa:=M5.hi 1
     have u:=M5.hi 2
     by_cases x0:0<x
     ·have d2:decide (0<x)=true:=by simp[x0]
      go_wp2_with fail
      go_meet
      exact⟨true,rfl,fun _=>by omega,M5,r3⟩
     ·have d2:decide (0<x)=false:=by simp;omega
      go_wp2_with fail
      go_meet
      exact⟨false,rfl,fun h=>by simp at h,M5,r3⟩
  case rest=>
   clear M4 r2 r t s
   obtain⟨c,rfl,db,MC,r3⟩:=hcut
   have M3:=MC
   clear MC
   have dj:R<wc.heap.size:=r3.lt
   have ay:=M3.hi 0
   have a1:=M3.hi 1
   have a0:=M3.hi 2
   go_upto_if 40 with fail
   go_cut [] (fun wx=> ∃b1:Int,MemR R w wx [aI w.heap.size (f) THD #[d,b1,()],aI w.heap.size (w.heap.size+1) THD #[(),(),()],aI w.heap.size (w.heap.size) aL #[aA,aB,.slice p n cap,free,step,aD,aG,aC,aF,.slice q m c2]]∧Rand wx R (k+40))
   case first=>
    cases c with
    |false=>
     go_wp2_with fail
     go_meet
     exact⟨ao,M3,r3.mono (by omega)⟩
    |true=>
     have hm0:=db rfl
     obtain⟨b,off,rfl,hb,av⟩:=HS.out.rd hm0
     have ck:b≠R:=hq.out b off hm0 rfl
     have cy:=xQ av
     clear av
     have B0:=xQ (M3.bk 2)
     have cj:=xQ M3.ext
     go_upto_region 3 with fail
     refine nI (gl [gEq (.pointer (some ⟨w.heap.size,9,none⟩)),gEq (.slice (some ⟨b,off,none⟩) m c2),gEq (.pointer (some ⟨R,0,none⟩)),gEq (.pointer (some ⟨w.heap.size,9,none⟩)),gEq (.slice (some ⟨b,off,none⟩) m c2),gEq (m:Int),aGo (m:Int),(fun v _=> ∃x:Nat,v= .pointer (some ⟨b,off+x*4,none⟩)∧x<m),(fun v _=> ∃x:Nat,v= .pointer (some ⟨b,off+x*4,none⟩)∧x<m),rN,gEq (.pointer (some ⟨f,1,none⟩))]) R (k+21) 1 11 (by kernel_rfl) rfl (by kernel_rfl) (by kernel_rfl) (by kernel_rfl) r3 (uO (bU (eA _) (bU (eA _) (bU (eA _) (bU (eA _) (bU (eA _) (bU (eA _) (bU (kT _) (bU (fun _ _ _ h _=>h) (bU (fun _ _ _ h _=>h) (bU (fJ) (bU (eA _) (yW))))))))))))) rfl (k:=12) (by kernel_rfl) (by decide) (ls:= [(0,some 41),(1,some 42),(2,some 43),(3,some 44),(4,some 45),(5,some 46),(6,some 47),(7,some 48),(8,some 49),(9,some 50),(10,some 51)]) (by kernel_rfl) (ir:= [0,1,2,3,4,5,6,7,8,9,10]) (by kernel_rfl) ?steps (tl:=#[true,true,true,true,true,true,true,true,true,true,true,false]) (by kernel_rfl) ?fin
     case steps=>
      refine sSr0 [] ?_
      refine sCr [(0,some 41)] rfl (fun wi kk hx hr hkk=> ?_) ?_
      ·intro v0 h0 K hK
       obtain rfl:=h0
       have cl:=(hx.of_drew.blk B0 (by omega)).cl 9
       go_simp
       exact hK _ _ ⟨.slice (some ⟨b,off,none⟩) m c2,rfl,rfl,(fZ hr (Ext.refl _))⟩
      refine sSr0 [] (sSr0 [] ?_)
      refine sCr [(3,some 44)] rfl (fun wi kk hx hr hkk=> ?_) ?_
      ·intro v3 h3 K hK
       obtain rfl:=h3
       have cl:=(hx.of_drew.blk B0 (by omega)).cl 9
       go_simp
       exact hK _ _ ⟨.slice (some ⟨b,off,none⟩) m c2,rfl,rfl,(fZ hr (Ext.refl _))⟩
      refine sSr1 [(4,some 45)] ?_
      refine sCr [(2,some 43),(5,some 46)] rfl (fun wi kk hx hr hkk=> ?_) ?_
      ·intro v2 h2 v5 h5 K hK
       obtain rfl:=h2
       obtain rfl:=h5
       go_wp2_with fail
       refine(cN R kk (m:Int) _ hr (by omega)).mono ?_
       rintro e w5 ⟨x,rfl,xa,xb,r5,x5⟩
       go_simp
       exact hK _ _ ⟨.int .i64 x,rfl,⟨x,rfl,xa,by have hp:(0:Int)<(m:Int):=(by omega);omega⟩,⟨x5,r5⟩⟩
      refine sCr [(1,some 42),(6,some 47)] rfl (fun wi kk hx hr hkk=> ?_) ?_
      ·intro v1 h1 v6 h6 K hK
       obtain rfl:=h1
       obtain⟨x6,rfl,a6,a5⟩:=h6
       obtain⟨xn,rfl⟩:=Int.eq_ofNat_of_zero_le a6
       have i1:(xn:Int)<(m:Int):=a5
       have i0:(0:Int)≤(xn:Int):=by omega
       go_simp
       exact hK _ _ ⟨_,rfl,⟨xn,rfl,by omega⟩,(fZ hr (Ext.refl _))⟩
      refine sCr [(7,some 48)] rfl (fun wi kk hx hr hkk=> ?_) ?_
      ·intro v7 h7 K hK
       obtain⟨x7,rfl,b5⟩:=h7
       go_simp
       exact hK _ _ ⟨_,rfl,⟨x7,rfl,b5⟩,(fZ hr (Ext.refl _))⟩
      refine sCr [(8,some 49)] rfl (fun wi kk hx hr hkk=> ?_) ?_
      ·intro v8 h8 K hK
       obtain⟨x8,rfl,b8⟩:=h8
       obtain⟨y,hy⟩:=zL (vs:=vs) (x:=x8) (by rw[hvl.out];exact b8)
       have c:=(((cj.out.trans hx.of_drew).cell (off+x8*4) hb ck).trans (cy (x8*4) (by omega))).trans hy
       go_simp
       exact hK _ _ ⟨_,rfl,⟨_,rfl⟩,(fZ hr (Ext.refl _))⟩
      exact sSr0 [] StepsLR.nil
     case fin=>
      intro wi hx hr v0 h0 v1 h1 v2 h2 v3 h3 v4 h4 v5 h5 v6 h6 v7 h7 v8 h8 v9 h9 ca a2
      obtain rfl:=h0
      obtain rfl:=h1
      obtain rfl:=h2
      obtain rfl:=h3
      obtain rfl:=h4
      obtain rfl:=h5
      obtain⟨x6,rfl,a6,a5⟩:=h6
      obtain⟨x7,rfl,b5⟩:=h7
      obtain⟨x8,rfl,b8⟩:=h8
      obtain⟨n9,rfl⟩:=h9
      obtain rfl:=a2
      have bz:ExtR R wc wi:=hx.of_drew
      have M4:=(M3.pickd bz)
      clear bz M3 ay a1 a0
      have r:=M4.hi 0
      have t:=M4.hi 1
      have s:=M4.hi 2
      have d1:=(M4.bk 0).cl 1
      have an:=(M4.bk 0).frozen 1
      refine wpAny_ready (rs:= [11]) (by kernel_rfl) (by simp) ?_
      refine AllReady.cons rfl (fun K hK=> ?_) AllReady.nil
      go_simp
      refine hK _ _ ?_
      clear hK K
      refine wpAny_done (by kernel_rfl) ?_ _
      try simp only[Act.put,List.setIfInBounds_toArray,List.set_cons_zero,List.set_cons_succ]
      have r4:Rand (wi.setCell ⟨f,1,none⟩ (.int .i64 n9)) R (k+40):=Rand.mono (k:=k+21+11) xN (by omega)
      go_wp2_with fail
      go_meet
      exact⟨n9,(M4.store (i:=0) rfl 1 (.int .i64 n9)),r4⟩
   case rest=>
    clear M3 r3 ay a1 a0
    obtain⟨b1,MC,r4⟩:=hcut
    have M4:=MC
    clear MC
    have dn:R<wc.heap.size:=r4.lt
    have r:=M4.hi 0
    have t:=M4.hi 1
    have s:=M4.hi 2
    have d0:=(M4.bk 0).cl 0
    by_cases k1:d=1
    ·skip
     have cw:(d==1)=true:=by simp[k1]
     clear k1
     go_wp2_with fail
     clear d0
     refine(cN R (k+40) (40) _ r4 (by omega)).mono ?_
     rintro e w5 ⟨x,rfl,xa,xb,r5,xx⟩
     have M5:=(M4.pickd xx)
     clear xx M4 r t s
     have ah:=M5.hi 0
     have aa:=M5.hi 1
     have u:=M5.hi 2
     go_wp2_with fail
     refine(cN R (k+40+1) (40) _ r5 (by omega)).mono ?_
     rintro e w6 ⟨y0,rfl,c4,de,r6,ax⟩
     have M6:=(M5.pickd ax)
     clear ax M5 ah aa u
     have ak:=M6.hi 0
     have af:=M6.hi 1
     have ad:=M6.hi 2
     obtain⟨d0,au,d1,an,d2,ap⟩:=(M6.bk 0).trif
     go_upto_region 15 with fail
     clear d0 au d1 an d2 ap
     generalize j:World.setCell _ _ _=wy
     obtain⟨y,hy⟩: ∃y,w6.setCell ⟨f,2,none⟩ (.int .i64 y)=wy:=⟨_,j⟩
     clear j
     have M7:=(show MemR R w (w6.setCell ⟨f,2,none⟩ (.int .i64 y)) [aI w.heap.size (f) THD #[d,b1,y],aI w.heap.size (w.heap.size+1) THD #[(),(),()],aI w.heap.size (w.heap.size) aL #[aA,aB,.slice p n cap,free,step,aD,aG,aC,aF,.slice q m c2]]from(M6.store (i:=0) rfl 2 (.int .i64 y)))
     have r7:Rand (w6.setCell ⟨f,2,none⟩ (.int .i64 y)) R (k+40+1+1):=xN
     rw[hy]at M7 r7
     clear hy M6 ak af ad
     have ag:=M7.hi 0
     have ai:=M7.hi 1
     have ae:=M7.hi 2
     obtain⟨f0,am,f1,aj,f2,al⟩:=(M7.bk 1).trif
     obtain⟨d0,d1,d2⟩:=(M7.bk 0).tri
     obtain⟨l,o⟩:=M7.nq 0 1
     go_wp2
     clear f0 am f1 aj f2 al d0 d1 d2 l o
     have M8:=(show MemR R w ((wy.setCell ⟨w.heap.size+1,0,none⟩ (.int .i64 d)).setCell ⟨w.heap.size+1,1,none⟩ (.int .i64 b1)) [aI w.heap.size (f) THD #[d,b1,y],aI w.heap.size (w.heap.size+1) THD #[d,b1,()],aI w.heap.size (w.heap.size) aL #[aA,aB,.slice p n cap,free,step,aD,aG,aC,aF,.slice q m c2]]from((M7.store (i:=1) rfl 0 (.int .i64 d)).store (i:=1) rfl 1 (.int .i64 b1)))
     have r9:Rand (((wy.setCell ⟨w.heap.size+1,0,none⟩ (.int .i64 d)).setCell ⟨w.heap.size+1,1,none⟩ (.int .i64 b1)).setCell ⟨w.heap.size+1,2,none⟩ (.int .i64 y)) R (k+40+1+1):=xN
     clear ag ai ae
     have M9:=(show MemR R w (((wy.setCell ⟨w.heap.size+1,0,none⟩ (.int .i64 d)).setCell ⟨w.heap.size+1,1,none⟩ (.int .i64 b1)).setCell ⟨w.heap.size+1,2,none⟩ (.int .i64 y)) [aI w.heap.size (f) THD #[d,b1,y],aI w.heap.size (w.heap.size+1) THD #[d,b1,y],aI w.heap.size (w.heap.size) aL #[aA,aB,.slice p n cap,free,step,aD,aG,aC,aF,.slice q m c2]]from(M8.store (i:=1) rfl 2 (.int .i64 y)))
     generalize j:World.setCell _ _ _=wz
     rw[j]at M9 r9
     clear j M7 M8
     have da:=M9.hi 0
     have c8:=M9.hi 1
     have ci:=M9.hi 2
     obtain⟨y0,y1,y2⟩:=(M9.bk 1).tri
     exact bodyPost_ret (v:=jC (d) (b1) (y)) (by simp[results,Tryz.results66,go_sem, *]) rfl ⟨_,_,_,rfl,r9.mono (by omega),M9.ext⟩
    have cw:(d==1)=false:=by simp[k1]
    by_cases k3:d=3
    ·skip
     have c1:(d==3)=true:=by simp[k3]
     clear k3 k1
     go_wp2_with fail
     clear d0
     refine(cN R (k+40) (60) _ r4 (by omega)).mono ?_
     rintro e w5 ⟨x,rfl,xa,xb,r5,xx⟩
     have M5:=(M4.pickd xx)
     clear xx M4 r t s
     have ah:=M5.hi 0
     have aa:=M5.hi 1
     have u:=M5.hi 2
     go_wp2_with fail
     refine(cN R (k+40+1) (3) _ r5 (by omega)).mono ?_
     rintro e w6 ⟨y0,rfl,c4,de,r6,ax⟩
     have M6:=(M5.pickd ax)
     clear ax M5 ah aa u
     have ak:=M6.hi 0
     have af:=M6.hi 1
     have ad:=M6.hi 2
     go_wp2_with fail
     refine(cN R (k+40+1+1) (3) _ r6 (by omega)).mono ?_
     rintro e w7 ⟨z0,rfl,di,dk,r7,bw⟩
     have M7:=(M6.pickd bw)
     clear bw M6 ak af ad
     have ag:=M7.hi 0
     have ai:=M7.hi 1
     have ae:=M7.hi 2
     obtain⟨d0,au,d1,an,d2,ap⟩:=(M7.bk 0).trif
     go_upto_region 15 with fail
     clear d0 au d1 an d2 ap
     generalize j:World.setCell _ _ _=wy
     obtain⟨y,hy⟩: ∃y,w7.setCell ⟨f,1,none⟩ (.int .i64 y)=wy:=⟨_,j⟩
     clear j
     have M8:=(show MemR R w (w7.setCell ⟨f,1,none⟩ (.int .i64 y)) [aI w.heap.size (f) THD #[d,y,()],aI w.heap.size (w.heap.size+1) THD #[(),(),()],aI w.heap.size (w.heap.size) aL #[aA,aB,.slice p n cap,free,step,aD,aG,aC,aF,.slice q m c2]]from(M7.store (i:=0) rfl 1 (.int .i64 y)))
     have r8:Rand (w7.setCell ⟨f,1,none⟩ (.int .i64 y)) R (k+40+1+1+1):=xN
     rw[hy]at M8 r8
     clear hy M7 ag ai ae
     have aq:=M8.hi 0
     have bl:=M8.hi 1
     have ar:=M8.hi 2
     obtain⟨f0,am,f1,aj,f2,al⟩:=(M8.bk 1).trif
     obtain⟨d0,d1,d2⟩:=(M8.bk 0).tri
     obtain⟨l,o⟩:=M8.nq 0 1
     go_wp2
     clear f0 am f1 aj f2 al d0 d1 d2 l o
     have M9:=(show MemR R w ((wy.setCell ⟨w.heap.size+1,0,none⟩ (.int .i64 d)).setCell ⟨w.heap.size+1,1,none⟩ (.int .i64 y)) [aI w.heap.size (f) THD #[d,y,()],aI w.heap.size (w.heap.size+1) THD #[d,y,()],aI w.heap.size (w.heap.size) aL #[aA,aB,.slice p n cap,free,step,aD,aG,aC,aF,.slice q m c2]]from((M8.store (i:=1) rfl 0 (.int .i64 d)).store (i:=1) rfl 1 (.int .i64 y)))
     have r9:Rand (((wy.setCell ⟨w.heap.size+1,0,none⟩ (.int .i64 d)).setCell ⟨w.heap.size+1,1,none⟩ (.int .i64 y)).setCell ⟨w.heap.size+1,2,none⟩ (.int .i64 0)) R (k+40+1+1+1):=xN
     clear aq bl ar
     have ab:=(show MemR R w (((wy.setCell ⟨w.heap.size+1,0,none⟩ (.int .i64 d)).setCell ⟨w.heap.size+1,1,none⟩ (.int .i64 y)).setCell ⟨w.heap.size+1,2,none⟩ (.int .i64 0)) [aI w.heap.size (f) THD #[d,y,()],aI w.heap.size (w.heap.size+1) THD #[d,y,()],aI w.heap.size (w.heap.size) aL #[aA,aB,.slice p n cap,free,step,aD,aG,aC,aF,.slice q m c2]]from(M9.store (i:=1) rfl 2 (.int .i64 0)))
     generalize j:World.setCell _ _ _=wz
     rw[j]at ab r9
     clear j M8 M9
     have a4:=ab.hi 0
     have cb:=ab.hi 1
     have a3:=ab.hi 2
     obtain⟨y0,y1,y2⟩:=(ab.bk 1).tri
     exact bodyPost_ret (v:=jC (d) (y) (0)) (by simp[results,Tryz.results66,go_sem, *]) rfl ⟨_,_,_,rfl,r9.mono (by omega),ab.ext⟩
    have c1:(d==3)=false:=by simp[k3]
    by_cases k4:d=4
    ·skip
     have cg:(d==4)=true:=by simp[k4]
     clear k4 k3 k1
     have c7:=(M4.bk 2).cl 0
     have cu:=(M4.bk 2).cl 1
     have cs:=(M4.bk 2).cl 2
     go_wp2_with fail
     clear d0 c7 cu cs
     refine(HSA _ M4.ext).mono ?_
     rintro e w5 ⟨q5,c5,rfl,ho,hx⟩
     have r5:Rand w5 R (k+40):=r4.ext hx
     have M5:=(M4.call hx ho)
     clear M4 r t s hx ho r4
     have aa:=M5.hi 1
     have u:=M5.hi 2
     have az:=M5.hi 3
     by_cases l0:KS=0
     ·skip
      have bs:decide ((0:Int)<(KS:Int))=false:=by simp;omega
      have bt:decide (0<KS)=false:=by simp;omega
      clear l0
      obtain⟨f0,am,f1,aj,f2,al⟩:=(M5.bk 2).trif
      obtain⟨d0,d1,d2⟩:=(M5.bk 1).tri
      obtain⟨l,o⟩:=M5.nq 1 2
      go_wp2
      clear f0 am f1 aj f2 al d0 d1 d2 l o
      have M6:=(show MemR R w ((w5.setCell ⟨w.heap.size+1,0,none⟩ (.int .i64 d)).setCell ⟨w.heap.size+1,1,none⟩ (.int .i64 b1)) [aJ w.heap.size TSL 2 (q5) (KS) (c5) (sl.flatMap aK),aI w.heap.size (f) THD #[d,b1,()],aI w.heap.size (w.heap.size+1) THD #[d,b1,()],aI w.heap.size (w.heap.size) aL #[aA,aB,.slice p n cap,free,step,aD,aG,aC,aF,.slice q m c2]]from((M5.store (i:=2) rfl 0 (.int .i64 d)).store (i:=2) rfl 1 (.int .i64 b1)))
      have r9:Rand (((w5.setCell ⟨w.heap.size+1,0,none⟩ (.int .i64 d)).setCell ⟨w.heap.size+1,1,none⟩ (.int .i64 b1)).setCell ⟨w.heap.size+1,2,none⟩ (.int .i64 0)) R (k+40):=xN
      clear aa u az
      have M7:=(show MemR R w (((w5.setCell ⟨w.heap.size+1,0,none⟩ (.int .i64 d)).setCell ⟨w.heap.size+1,1,none⟩ (.int .i64 b1)).setCell ⟨w.heap.size+1,2,none⟩ (.int .i64 0)) [aJ w.heap.size TSL 2 (q5) (KS) (c5) (sl.flatMap aK),aI w.heap.size (f) THD #[d,b1,()],aI w.heap.size (w.heap.size+1) THD #[d,b1,()],aI w.heap.size (w.heap.size) aL #[aA,aB,.slice p n cap,free,step,aD,aG,aC,aF,.slice q m c2]]from(M6.store (i:=2) rfl 2 (.int .i64 0)))
      generalize j:World.setCell _ _ _=wz
      rw[j]at M7 r9
      clear j M5 M6
      have ai:=M7.hi 1
      have ae:=M7.hi 2
      have aw:=M7.hi 3
      obtain⟨y0,y1,y2⟩:=(M7.bk 2).tri
      exact bodyPost_ret (v:=jC (d) (b1) (0)) (by simp[results,Tryz.results66,go_sem, *]) rfl ⟨_,_,_,rfl,r9.mono (by omega),M7.ext⟩
     ·skip
      have bs:decide ((0:Int)<(KS:Int))=true:=by simp;omega
      have bt:decide (0<KS)=true:=by simp;omega
      go_wp2_with fail
      refine(cN R (k+40) (KS:Int) _ r5 (by omega)).mono ?_
      rintro e w6 ⟨x,rfl,xa,xb,r6,xx⟩
      have M6:=(M5.pickd xx)
      clear xx M5 aa u az
      have af:=M6.hi 1
      have ad:=M6.hi 2
      have bg:=M6.hi 3
      obtain⟨g5,rfl,df,dg⟩:=M6.so 0
      obtain⟨xn,rfl⟩:=Int.eq_ofNat_of_zero_le xa
      have i1:(xn:Int)<(KS:Int):=by omega
      obtain⟨⟨sf,st⟩,bi⟩: ∃z,sl[xn]? =some z:=⟨_,List.getElem?_eq_getElem (by rw[hKS.out];omega)⟩
      have ce:w6.cell? ⟨g5,xn*2,none⟩=some (.int .i64 sf):=by
       have h1:=dZ aK 2 (fun _=>rfl) sl xn _ bi 0 (by omega)
       rw[(M6.ow 0).cellAt (xn*2) (by omega)];simpa[aK]using h1
      have cz:w6.cell? ⟨g5,xn*2+1,none⟩=some (.int .i64 st):=by
       have h1:=dZ aK 2 (fun _=>rfl) sl xn _ bi 1 (by omega)
       rw[(M6.ow 0).cellAt (xn*2+1) (by omega)];simpa[aK]using h1
      clear bi l0 bs bt
      go_upto_region 13 with fail
      clear ce cz
      have r7:Rand (w6.alloc (.cells #[sf,st] TSL)) R (k+40+1):=xN
      have M7:=(M6.bn TSL #[sf,st] (w6.heap.size))
      generalize j:(w6.alloc (.cells #[sf,st] TSL))=w7
      rw[j]at M7 r7
      clear j r6 M6 af ad bg
      have ag:=M7.hi 0
      have ae:=M7.hi 2
      have aw:=M7.hi 3
      have bp:=M7.hi 4
      obtain⟨d0,au,d1,an,d2,ap⟩:=(M7.bk 2).trif
      have e0:=(M7.bk 0).cl 0
      have e1:=(M7.bk 0).cl 1
      obtain⟨l,o⟩:=M7.nq 0 2
      go_upto_region 15 with fail
      clear d0 au d1 an d2 ap e0 e1 l o
      have r8:Rand ((w7.setCell ⟨f,1,none⟩ (.int .i64 sf)).setCell ⟨f,2,none⟩ (.int .i64 st)) R (k+40+1):=xN
      have M8:=(show MemR R w ((w7.setCell ⟨f,1,none⟩ (.int .i64 sf)).setCell ⟨f,2,none⟩ (.int .i64 st)) [aI w.heap.size (w6.heap.size) TSL #[sf,st],aJ w.heap.size TSL 2 (some ⟨g5,0,none⟩) (KS) (c5) (sl.flatMap aK),aI w.heap.size (f) THD #[d,sf,st],aI w.heap.size (w.heap.size+1) THD #[(),(),()],aI w.heap.size (w.heap.size) aL #[aA,aB,.slice p n cap,free,step,aD,aG,aC,aF,.slice q m c2]]from((M7.store (i:=2) rfl 1 (.int .i64 sf)).store (i:=2) rfl 2 (.int .i64 st)))
      generalize j:World.setCell _ _ _=w8
      rw[j]at M8 r8
      clear j r7 M7 ag ae aw bp
      have aq:=M8.hi 0
      have ar:=M8.hi 2
      have bq:=M8.hi 3
      have bh:=M8.hi 4
      obtain⟨f0,am,f1,aj,f2,al⟩:=(M8.bk 3).trif
      obtain⟨d0,d1,d2⟩:=(M8.bk 2).tri
      obtain⟨l,o⟩:=M8.nq 2 3
      go_wp2
      clear f0 am f1 aj f2 al d0 d1 d2 l o
      have M9:=(show MemR R w ((w8.setCell ⟨w.heap.size+1,0,none⟩ (.int .i64 d)).setCell ⟨w.heap.size+1,1,none⟩ (.int .i64 sf)) [aI w.heap.size (w6.heap.size) TSL #[sf,st],aJ w.heap.size TSL 2 (some ⟨g5,0,none⟩) (KS) (c5) (sl.flatMap aK),aI w.heap.size (f) THD #[d,sf,st],aI w.heap.size (w.heap.size+1) THD #[d,sf,()],aI w.heap.size (w.heap.size) aL #[aA,aB,.slice p n cap,free,step,aD,aG,aC,aF,.slice q m c2]]from((M8.store (i:=3) rfl 0 (.int .i64 d)).store (i:=3) rfl 1 (.int .i64 sf)))
      have r9:Rand (((w8.setCell ⟨w.heap.size+1,0,none⟩ (.int .i64 d)).setCell ⟨w.heap.size+1,1,none⟩ (.int .i64 sf)).setCell ⟨w.heap.size+1,2,none⟩ (.int .i64 st)) R (k+40+1):=xN
      clear aq ar bq bh
      have ab:=(show MemR R w (((w8.setCell ⟨w.heap.size+1,0,none⟩ (.int .i64 d)).setCell ⟨w.heap.size+1,1,none⟩ (.int .i64 sf)).setCell ⟨w.heap.size+1,2,none⟩ (.int .i64 st)) [aI w.heap.size (w6.heap.size) TSL #[sf,st],aJ w.heap.size TSL 2 (some ⟨g5,0,none⟩) (KS) (c5) (sl.flatMap aK),aI w.heap.size (f) THD #[d,sf,st],aI w.heap.size (w.heap.size+1) THD #[d,sf,st],aI w.heap.size (w.heap.size) aL #[aA,aB,.slice p n cap,free,step,aD,aG,aC,aF,.slice q m c2]]from(M9.store (i:=3) rfl 2 (.int .i64 st)))
      generalize j:World.setCell _ _ _=wz
      rw[j]at ab r9
      clear j M8 M9
      have a4:=ab.hi 0
      have a3:=ab.hi 2
      have cd:=ab.hi 3
      have cc:=ab.hi 4
      obtain⟨y0,y1,y2⟩:=(ab.bk 3).tri
      exact bodyPost_ret (v:=jC (d) (sf) (st)) (by simp[results,Tryz.results66,go_sem, *]) rfl ⟨_,_,_,rfl,r9.mono (by omega),ab.ext⟩
    have cg:(d==4)=false:=by simp[k4]
    clear k4 k3 k1 d0
    obtain⟨f0,am,f1,aj,f2,al⟩:=(M4.bk 1).trif
    obtain⟨d0,d1,d2⟩:=(M4.bk 0).tri
    obtain⟨l,o⟩:=M4.nq 0 1
    go_wp2
    clear f0 am f1 aj f2 al d0 d1 d2 l o
    have M5:=(show MemR R w ((wc.setCell ⟨w.heap.size+1,0,none⟩ (.int .i64 d)).setCell ⟨w.heap.size+1,1,none⟩ (.int .i64 b1)) [aI w.heap.size (f) THD #[d,b1,()],aI w.heap.size (w.heap.size+1) THD #[d,b1,()],aI w.heap.size (w.heap.size) aL #[aA,aB,.slice p n cap,free,step,aD,aG,aC,aF,.slice q m c2]]from((M4.store (i:=1) rfl 0 (.int .i64 d)).store (i:=1) rfl 1 (.int .i64 b1)))
    have r9:Rand (((wc.setCell ⟨w.heap.size+1,0,none⟩ (.int .i64 d)).setCell ⟨w.heap.size+1,1,none⟩ (.int .i64 b1)).setCell ⟨w.heap.size+1,2,none⟩ (.int .i64 0)) R (k+40):=xN
    clear r t s
    have M6:=(show MemR R w (((wc.setCell ⟨w.heap.size+1,0,none⟩ (.int .i64 d)).setCell ⟨w.heap.size+1,1,none⟩ (.int .i64 b1)).setCell ⟨w.heap.size+1,2,none⟩ (.int .i64 0)) [aI w.heap.size (f) THD #[d,b1,()],aI w.heap.size (w.heap.size+1) THD #[d,b1,()],aI w.heap.size (w.heap.size) aL #[aA,aB,.slice p n cap,free,step,aD,aG,aC,aF,.slice q m c2]]from(M5.store (i:=1) rfl 2 (.int .i64 0)))
    generalize j:World.setCell _ _ _=wz
    rw[j]at M6 r9
    clear j M4 M5
    have ak:=M6.hi 0
    have af:=M6.hi 1
    have ad:=M6.hi 2
    obtain⟨y0,y1,y2⟩:=(M6.bk 1).tri
    exact bodyPost_ret (v:=jC (d) (b1) (0)) (by simp[results,Tryz.results66,go_sem, *]) rfl ⟨_,_,_,rfl,r9.mono (by omega),M6.ext⟩
theorem aHd (aA aB:Int)(p:OA)(n cap:Nat)(m:Nat→Nat→Bool)(w:World)(hn:n≤1000)
  (HM:Hid (∀(f t:Nat),f<n→t<n→ ∀w',Ext w w'→Calls Tryz.prog 127 #[aH aA aB p n cap,dS (f:Int) (t:Int)] w' fun e w''=>e= .returned (.bool (m f t))∧Ext w' w'')):
  Calls Tryz.prog 111 #[aH aA aB p n cap] w (eY (dO m n n) w):=by
 go_enter Tryz.func111,Tryz.ntmps111
 go_wp2
 go_loopw [3,4] (fun v i wr=> ∃(k:Nat) (q:OA) (l c:Nat),k≤n∧i= .int .i64 k∧v= .slice q l c∧l≤k*n∧wr.ownsRow (w.heap.size+1) TSL 2 (.slice q l c) l ((dO m n k).flatMap aK)∧Ext w wr∧Blk wr w.heap.size TH3 #[aA,aB,.slice p n cap]) (fun _ i _=>n-(intOf i).toNat)
 case atStart=>
  have ho:((w.alloc (.cells #[aA,aB,.slice p n cap] TH3)).alloc (.cells #[] TSL)).ownsRow (w.heap.size+1) TSL 2 (.slice (some ⟨(w.alloc (.cells #[aA,aB,.slice p n cap] TH3)).heap.size,0,none⟩) 0 0) 0 []:=World.ownsRow_made _ #[] 0 (by simp) (by simp[maxLen]) rfl
  exact⟨0,_,0,0,Nat.zero_le _,rfl,rfl,by simp,by simpa[dO]using ho,by exact .alloc (.alloc (.refl _) _) _,(Blk.new w _ _).alloc _⟩
 case round=>
  obtain⟨k,q,l,c,hk,rfl,rfl,r,b,d,hB⟩:=hrel
  have HO:=xQ b
  have HB:=xQ hB
  have x:w.heap.size<wr.heap.size:=hB.lt
  have s:Hid (l=(dO m n k).length):=by have:=b.1;rw[dD aK 2 (fun _=>rfl)]at this;show _=_;omega
  clear b hB
  obtain⟨b0,b1,b2⟩:=HB.out.cells3
  by_cases hlt:k<n
  ·have af:k*n≤1000000:=by have:=Nat.mul_le_mul (show k≤1000 by omega) hn;omega
   go_wp2
   obtain⟨wo,rfl⟩: ∃wo:World,wo=wr:=⟨_,rfl⟩
   clear b0 b1 b2
   go_loopw [3,5] (fun v i wr=> ∃(j:Nat) (q:OA) (l c:Nat),j≤n∧i= .int .i64 j∧v= .slice q l c∧l≤k*n+j∧wr.ownsRow (w.heap.size+1) TSL 2 (.slice q l c) l ((dO m n k++jO (m k) k j).flatMap aK)∧Ext w wr∧Blk wr w.heap.size TH3 #[aA,aB,.slice p n cap]) (fun _ i _=>n-(intOf i).toNat)
   case atStart=>exact⟨0,q,l,c,Nat.zero_le _,rfl,rfl,by omega,by simpa[jO]using HO.out,d,HB.out⟩
   case round=>
    clear HO HB x d s r
    obtain⟨j,q,l,c,hj,rfl,rfl,r,b,d,hB⟩:=hrel
    have HO:=xQ b
    have HB:=xQ hB
    have x:w.heap.size<wr.heap.size:=hB.lt
    clear b hB
    obtain⟨b0,b1,b2⟩:=HB.out.cells3
    by_cases hlt2:j<n
    ·go_wp2_with fail
     refine(HM k j hlt hlt2 _ d).mono ?_
     rintro e w1 ⟨rfl,h1⟩
     have g:=xQ (bC HO h1)
     have o:=xQ (HB.out.ext h1)
     have h:=xQ (d.trans h1)
     have ae:w.heap.size<w1.heap.size:=o.out.lt
     clear h1 b0 b1 b2 HO HB d
     cases hm:m k j with
     |true=>
      have a:Hid (dO m n k++jO (m k) k (j+1)=(dO m n k++jO (m k) k j)++ [((k:Int),(j:Int))]):=by
       show _=_;rw[jO,if_pos hm,List.append_assoc]
      clear hm
      go_wp2_with (at_builtin;refine jD oO (f:=aK) (fun _=>rfl) (fun _ u hu=>by simp[aK]at hu;rcases hu with rfl|rfl<;>rfl) rfl _ _ rfl (w.heap.size+1) _ _ _ rfl (g.out.alloc _) _ _ ((k:Int),(j:Int)) _ rfl (uW _ _ _ _) (by omega) (by first|(simp;done)|(simp;omega)) ?_;intro p' cap' w2 hown1 hg1;have ad:=xQ hown1;have y:Ext w w2:=Ext.own (h.out.alloc _) (g.out.alloc _) hg1 (by omega);have ab:=xQ (oR g hg1 o.out);clear hown1 hg1)
      go_roundw
      case rel=>exact⟨j+1,p',l+1,cap',by omega,by go_num,rfl,by omega,by rw[a.out];exact ad.out,y,ab.out⟩
      case measure=>simp[intOf];omega
     |false=>
      have a:Hid (dO m n k++jO (m k) k (j+1)=dO m n k++jO (m k) k j):=by
       show _=_;rw[jO,if_neg (by rw[hm];simp),List.append_nil]
      clear hm
      go_wp2
      go_roundw
      case rel=>exact⟨j+1,q,l,c,by omega,by go_num,rfl,by omega,by rw[a.out];exact g.out,h.out,o.out⟩
      case measure=>simp[intOf];omega
    ·have a:Hid (dO m n k++jO (m k) k j=dO m n (k+1)):=by
      show _=_;rw[dO,show j=n by omega]
     have z:k*n+n=(k+1)*n:=(Nat.succ_mul k n).symm
     go_wp2
     go_roundw
     case rel=>exact⟨k+1,q,l,c,by omega,by go_num,rfl,by rw[←z];omega,by rw[←a.out];exact HO.out,d,HB.out⟩
     case measure=>simp[intOf];omega
  ·have a:Hid (dO m n k=dO m n n):=by
    show _=_;rw[show k=n by omega]
   go_wp2
   go_ret
   have aa:(dO m n n).length=l:=by rw[←a.out];exact s.out.symm
   subst aa
   exact⟨q,c,rfl,by rw[a.out]at HO;exact bH HO (Nat.le_succ _),d⟩
theorem aA9 (aA aB:Int)(p:OA)(n cap:Nat)(xs:List Int)(w:World)(hS:Sl w p n cap 1 (ivs xs))(hn:n≤1000):
  Calls Tryz.prog 111 #[aH aA aB p n cap] w (eY (gJ aA aB xs) w):=by
 have hl:=hS.ilen
 subst hl
 exact aHd aA aB p xs.length cap _ w hn (fun f t _ _ w' hx=>aC2 aA aB f t p xs.length cap xs w' (hS.ext hx))
theorem vG (aA aB:Int)(xs:List Int):(gJ aA aB xs).length≤xs.length*xs.length:=wJ _ _ _
end Go.Proofs.YtgnkoffndhmhpaaGreatDoor
namespace Go.Proofs.YtgnkoffndhmhpaaGreatDoor
open Go.RowKit
set_option linter.unusedVariables false
set_option maxHeartbeats 40000000
set_option maxRecDepth 100000
def aE9 (R k:Nat)(w:World)(e:Ending)(w':World):Prop:= ∃f s p c:Int,e= .returned (aR f s p c)∧Rand w' R (k+7)∧ExtR R w w'
theorem Blk.fourf {w:World}{g:Nat}{t:TypeId}{a b c d:Value}(h:Blk w g t #[a,b,c,d]):w.cell? ⟨g,0,none⟩=some a∧w.cell? ⟨g,1,none⟩=some b∧w.cell? ⟨g,2,none⟩=some c∧w.cell? ⟨g,3,none⟩=some d∧w.frozen? ⟨g,0,none⟩=false∧w.frozen? ⟨g,1,none⟩=false∧w.frozen? ⟨g,2,none⟩=false∧w.frozen? ⟨g,3,none⟩=false:=
 ⟨h.cell 0,h.cell 1,h.cell 2,h.cell 3,h.frozen 0,h.frozen 1,h.frozen 2,h.frozen 3⟩
theorem Blk.two {w:World}{g:Nat}{t:TypeId}{a b:Value}(h:Blk w g t #[a,b]):w.cell? ⟨g,0,none⟩=some a∧w.cell? ⟨g,1,none⟩=some b:=⟨h.cell 0,h.cell 1⟩
theorem vK (R k:Nat)(n:Int)(w:World)(hr:Rand w R k)(hk:k≤1099511627700)(hn:0≤n)(hn2:n≤1000000):
  Calls Tryz.prog 109 #[.pointer (some ⟨R,0,none⟩),n] w (aE9 R k w):=by
 have hR:=hr.lt
 go_enter Tryz.func109,Tryz.ntmps109
 go_wp2_with fail
 refine(cN R (k) (4) _ (hr.ext (by exact .alloc (.refl _) _)) (by omega)).mono ?_
 rintro e w1 ⟨a,rfl,a0,a1,r1,x1⟩
 replace a1:a<4:=by omega
 have B1:Blk w1 w.heap.size 32 #[(),(),(),()]:=x1.blk (Blk.new _ _ _) (by omega)
 go_wp2_with fail
 refine(cN R (k+1) (6) _ (r1) (by omega)).mono ?_
 rintro e w2 ⟨b,rfl,b0,b1,r2,x2⟩
 replace b1:b<6:=by omega
 go_wp2_with fail
 refine(cN R (k+2) (9) _ (r2) (by omega)).mono ?_
 rintro e w3 ⟨c,rfl,c0,c1,r3,x3⟩
 replace c1:c<9:=by omega
 go_wp2_with fail
 refine(cN R (k+3) (60) _ (r3) (by omega)).mono ?_
 rintro e w4 ⟨d,rfl,d0,d1,r4,x4⟩
 replace d1:d<60:=by omega
 have B4:=x4.blk (x3.blk (x2.blk B1 (by omega)) (by omega)) (by omega)
 have X4:ExtR R w w4:=(((((ExtR.refl R w).alloc _).trans x1).trans x2).trans x3).trans x4
 have s4:=B4.lt
 have m:=r4.lt
 clear B1 x1 x2 x3 x4 r1 r2 r3 hr
 go_wp2_with fail
 refine(aEk R (k+4) n _ (r4.ext (by exact .alloc (.refl _) _)) (by omega) hn hn2).mono ?_
 rintro e w5 ⟨t,rfl,r5,x5⟩
 have B5:=x5.blk (B4.alloc _) (by omega)
 have T5:=x5.blk (Blk.new w4 _ _) (by omega)
 have X5:ExtR R w w5:=(X4.alloc _).trans x5
 have s5:=T5.lt
 have l:=r5.lt
 clear B4 X4 x5 r4
 cases t with
 |false=>
  obtain⟨p0,p1,p2,p3,p4,p5,p6,p7⟩:=B5.fourf
  obtain⟨q0,q1,q2,q3,q4,q5,q6,q7⟩:=T5.fourf
  have h:w4.heap.size≠w.heap.size:=by omega
  clear B5 T5
  go_wp2
  refine bodyPost_ret (v:=aR (a*10) (10+b*20) c (10+d)) (by simp[results,Tryz.results109,go_sem, *]) rfl ⟨_,_,_,_,rfl,?_,?_⟩
  ·exact Rand.mono (k:=k+4+1) xN (by omega)
  ·exact xR
 |true=>
  go_wp2_with fail
  refine(cN R (k+5) (3) _ (r5) (by omega)).mono ?_
  rintro e w6 ⟨u,rfl,u0,u1,r6,x6⟩
  replace u1:u<3:=by omega
  have B6:=x6.blk B5 (by omega)
  have T6:=x6.blk T5 (by omega)
  have X6:=xQ (X5.trans x6)
  have s6:=T6.lt
  have j:=r6.lt
  clear B5 T5 x6 X5 r5
  have hu:u=0∨u=1∨u=2:=by omega
  clear u0 u1
  rcases hu with rfl|rfl|rfl
  ·skip
   go_wp2_with fail
   refine(cN R (k+6) (2) _ (r6.ext (by exact .alloc (.refl _) _)) (by omega)).mono ?_
   rintro e w7 ⟨v,rfl,v0,v1,r7,x7⟩
   replace v1:v<2:=by omega
   have B7:=x7.blk (B6.alloc _) (by omega)
   have T7:=x7.blk (T6.alloc _) (by omega)
   have S7:=x7.blk (Blk.new w6 _ _) (by omega)
   have X7:=xQ ((X6.out.alloc _).trans x7)
   have s7:=S7.lt
   have i:=r7.lt
   obtain⟨p0,p1,p2,p3,p4,p5,p6,p7⟩:=B7.fourf
   obtain⟨q0,q1,q2,q3,q4,q5,q6,q7⟩:=T7.fourf
   obtain⟨g0,g1⟩:=S7.two
   have h:w4.heap.size≠w.heap.size:=by omega
   have f:w6.heap.size≠w4.heap.size:=by omega
   have g:w6.heap.size≠w.heap.size:=by omega
   clear B6 T6 B7 T7 S7 x7 r6
   have XX:=X7.out
   have hv:v=0∨v=1:=by omega
   clear v0 v1 X6 X7
   rcases hv with rfl|rfl
   ·go_wp2
    refine bodyPost_ret (v:=aR (a*10) 0 c (10+d)) (by simp[results,Tryz.results109,go_sem, *]) rfl ⟨_,_,_,_,rfl,?_,?_⟩
    ·exact xN
    ·exact xR
   ·go_wp2
    refine bodyPost_ret (v:=aR (a*10) 1441 c (10+d)) (by simp[results,Tryz.results109,go_sem, *]) rfl ⟨_,_,_,_,rfl,?_,?_⟩
    ·exact xN
    ·exact xR
  ·skip
   go_wp2_with fail
   refine(cN R (k+6) (2) _ (r6.ext (by exact .alloc (.refl _) _)) (by omega)).mono ?_
   rintro e w7 ⟨v,rfl,v0,v1,r7,x7⟩
   replace v1:v<2:=by omega
   have B7:=x7.blk (B6.alloc _) (by omega)
   have T7:=x7.blk (T6.alloc _) (by omega)
   have S7:=x7.blk (Blk.new w6 _ _) (by omega)
   have X7:=xQ ((X6.out.alloc _).trans x7)
   have s7:=S7.lt
   have i:=r7.lt
   obtain⟨p0,p1,p2,p3,p4,p5,p6,p7⟩:=B7.fourf
   obtain⟨q0,q1,q2,q3,q4,q5,q6,q7⟩:=T7.fourf
   obtain⟨g0,g1⟩:=S7.two
   have h:w4.heap.size≠w.heap.size:=by omega
   have f:w6.heap.size≠w4.heap.size:=by omega
   have g:w6.heap.size≠w.heap.size:=by omega
   clear B6 T6 B7 T7 S7 x7 r6
   have XX:=X7.out
   have hv:v=0∨v=1:=by omega
   clear v0 v1 X6 X7
   rcases hv with rfl|rfl
   ·go_wp2
    refine bodyPost_ret (v:=aR (-1) (10+b*20) c (10+d)) (by simp[results,Tryz.results109,go_sem, *]) rfl ⟨_,_,_,_,rfl,?_,?_⟩
    ·exact xN
    ·exact xR
   ·go_wp2
    refine bodyPost_ret (v:=aR 1440 (10+b*20) c (10+d)) (by simp[results,Tryz.results109,go_sem, *]) rfl ⟨_,_,_,_,rfl,?_,?_⟩
    ·exact xN
    ·exact xR
  ·skip
   go_wp2_with fail
   refine(cN R (k+6) (2) _ (r6.ext (by exact .alloc (.refl _) _)) (by omega)).mono ?_
   rintro e w7 ⟨v,rfl,v0,v1,r7,x7⟩
   replace v1:v<2:=by omega
   have B7:=x7.blk (B6.alloc _) (by omega)
   have T7:=x7.blk (T6.alloc _) (by omega)
   have S7:=x7.blk (Blk.new w6 _ _) (by omega)
   have X7:=xQ ((X6.out.alloc _).trans x7)
   have s7:=S7.lt
   have i:=r7.lt
   obtain⟨p0,p1,p2,p3,p4,p5,p6,p7⟩:=B7.fourf
   obtain⟨q0,q1,q2,q3,q4,q5,q6,q7⟩:=T7.fourf
   obtain⟨g0,g1⟩:=S7.two
   have h:w4.heap.size≠w.heap.size:=by omega
   have f:w6.heap.size≠w4.heap.size:=by omega
   have g:w6.heap.size≠w.heap.size:=by omega
   clear B6 T6 B7 T7 S7 x7 r6
   have XX:=X7.out
   have hv:v=0∨v=1:=by omega
   clear v0 v1 X6 X7
   rcases hv with rfl|rfl
   ·go_wp2
    refine bodyPost_ret (v:=aR (a*10) (10+b*20) c (-1)) (by simp[results,Tryz.results109,go_sem, *]) rfl ⟨_,_,_,_,rfl,?_,?_⟩
    ·exact xN
    ·exact xR
   ·go_wp2
    refine bodyPost_ret (v:=aR (a*10) (10+b*20) c 100) (by simp[results,Tryz.results109,go_sem, *]) rfl ⟨_,_,_,_,rfl,?_,?_⟩
    ·exact xN
    ·exact xR
end Go.Proofs.YtgnkoffndhmhpaaGreatDoor
