/- Lemmas (@packed). -/
import Derived.Test.YthfmmibomhhmpabGreatDoorZ12
namespace Go.Proofs.YthfmmibomhhmpabGreatDoor
open Go.RowKit Go.Proofs.Tryz
set_option linter.all false
set_option maxHeartbeats 40000000
set_option maxRecDepth 100000
variable{L:List Item}{lo g c2 B sz i:Nat}{q:OA}{t e:TypeId}{w' w0:World}(R k:Nat)(h:aQ)(aA aB a b aE aF:Int)(p:OA)(n:Nat)(W D:Int)(xs:List Int)(w:World)
def aMf (R k:Nat)(w:World)(e:Ending)(w':World):Prop:= ∃a b c:Int,e= .returned (cS a b c)∧Rand w' R (k+60)∧ExtR R w w'
theorem ExtR.of_drew {R:Nat}{a b:World}(h:ExtR R a.drew b):ExtR R a b:=⟨h.os,h.tape,h.output,h.size,h.block⟩
theorem aVv: ∀x:Nat,x<9→ ∃y:Int,(#[(),(),(),I 1,I 1,I 2,I 2,I 3,I 4]:Array Value)[x]? =some (I y)
 |0,_=>⟨_,rfl⟩|1,_=>⟨_,rfl⟩|2,_=>⟨_,rfl⟩|3,_=>⟨_,rfl⟩|4,_=>⟨_,rfl⟩|5,_=>⟨_,rfl⟩|6,_=>⟨_,rfl⟩|7,_=>⟨_,rfl⟩|8,_=>⟨_,rfl⟩
 |n+9,h=>absurd h (by omega)
theorem aHb {vs:List aV}{x:Nat}(h:x<vs.length): ∃y:Int,(vs.flatMap aC)[x*4]? =some (I y):=by have h0:=fG aC 4 (fun _=>rfl) vs x _ (aW0 h) 0 (by omega);exact⟨_,by simpa[aC]using h0⟩
theorem aBt (j o aE aF aD aG:Int)(p:OA)(n t:Nat)(q:OA)(m c2:Nat)(vs:List aV)(sl:List Sl2)(w:World)(be:Rand w R k)(hk:k≤1099511600000)(hm:m≤1000)(KS:Nat)(cq:Hid (sl.length=KS))(dr:KS≤10000)(cu:Hid (vs.length=m))(HS:Hid (Sl w q m c2 4 (vs.flatMap aC)))(hq:Hid (∀b off,0<m→q=some ⟨b,off,none⟩→b≠R))(cg:Hid (∀w',ExtR R w w'→U 121 #[aH aA aB p n t] w' (aYy TSL 2 KS (sl.flatMap aK) w' fun q c=> .slice q KS c))):
  U 82 #[.pointer (some ⟨R,0,none⟩),.agg #[aA,aB,.slice p n t,j,o,aE,aF,aD,aG,.slice q m c2]] w (aMf R k w):=by
 have hR:=be.lt;go_enter func82,ntmps82;go_wp2;have r1:Rand ((w.alloc (.cells #[aA,aB,.slice p n t,j,o,aE,aF,aD,aG,.slice q m c2] aN)).alloc (.cells #[(),(),()] THD)) R k:=be.ext (by exact .alloc (.alloc (.refl _) _) _);have M1:=(((MemR.start R w hR).c0 aN #[aA,aB,.slice p n t,j,o,aE,aF,aD,aG,.slice q m c2]).c1 THD #[(),(),()])
 generalize l:((w.alloc (.cells #[aA,aB,.slice p n t,j,o,aE,aF,aD,aG,.slice q m c2] aN)).alloc (.cells #[(),(),()] THD))=w1;rw[l]at M1 r1;clear l be;have bg:=M1.hi 0;have bh:=M1.hi 1;have dk:R<w1:=r1.lt;refine zV (gl [aDn w1 TI #[(),(),(),I 1,I 1,I 2,I 2,I 3,I 4] 9,gEq (.pointer (some ⟨R,0,none⟩)),aM1 (9),(fun v w'=> ∃g x:Nat,v= .pointer (some ⟨g,x,none⟩)∧x<9∧w1.heap.size≤g∧Blk w' g TI #[(),(),(),I 1,I 1,I 2,I 2,I 3,I 4]),zD,gEq (.pointer (some ⟨R,0,none⟩)),aM1 (60),zD,zD,zD,gEq (.pointer (some ⟨R,0,none⟩)),aM1 (12),zD,gEq (.pointer (some ⟨R,0,none⟩)),aM1 (60),zD,zD,zD,(fun v _=> ∃a b:Int,v= .agg #[a,b,()]),aJa w1 THD #[(),(),()]]) R (k) 1 20 (by kernel_rfl) rfl (by kernel_rfl) (by kernel_rfl) (by kernel_rfl) r1 (aJ9 (cR (aM2 (by omega) _ _ _) (cR (iM _) (cR (oJ _) (cR (fun v w w' ⟨g,x,h1,h2,h3,h4⟩ hx=>⟨g,x,h1,h2,h3,ExtR.blk hx h4 (by omega)⟩) (cR (jB) (cR (iM _) (cR (oJ _) (cR (jB) (cR (jB) (cR (jB) (cR (iM _) (cR (oJ _) (cR (jB) (cR (iM _) (cR (oJ _) (cR (jB) (cR (jB) (cR (jB) (cR (fun _ _ _ h _=>h) (cR (aM3 (by omega) _ _) (aMw)))))))))))))))))))))) rfl (k:=21) (by kernel_rfl) (by decide) (ls:= [(0,some 8),(1,some 9),(2,some 10),(3,some 11),(4,some 12),(5,some 13),(6,some 14),(7,some 15),(8,some 16),(9,some 17),(10,some 18),(11,some 19),(12,some 20),(13,some 21),(14,some 22),(15,some 23),(16,some 24),(17,some 25),(18,some 26),(19,some 5)]) (by kernel_rfl) (ir:= [0,1,2,3,4,5,6,7,8,9,10,11,12,13,14,15,16,17,18,19]) (by kernel_rfl) ?steps (tl:=#[true,true,true,true,true,true,true,true,true,true,true,true,true,true,true,true,true,true,true,true,false]) (by kernel_rfl) ?fin
 case steps=>
  refine sCr [] rfl (fun wi kk hx hr hkk=> ?_) ?_
  ·intro K hK;go_simp;exact hK _ _ ⟨.slice (some ⟨wi,0,none⟩) 9 9,rfl,⟨wi.heap.size,rfl,by have:=hx.sz;simp at this;omega,Blk.new _ _ _⟩,(kN hr ((Ext.refl _).alloc _))⟩
  refine sSr0 [] ?_;refine sCr [(1,some 9)] rfl (fun wi kk hx hr hkk=> ?_) ?_
  ·intro v1 h1 K hK;obtain rfl:=h1;go_wp2_with fail;refine(cP R kk (9) _ hr (by omega)).mono ?_;rintro e w5 ⟨x,rfl,xa,xb,r5,x5⟩;go_simp;exact hK _ _ ⟨I x,rfl,⟨x,rfl,xa,by have hp:(0:Int)<9:=(by omega);omega⟩,⟨x5,r5⟩⟩
  refine sCr [(0,some 8),(2,some 10)] rfl (fun wi kk hx hr hkk=> ?_) ?_
  ·intro v0 h0 v2 h2 K hK;obtain⟨g0,rfl,bv,B0⟩:=h0;obtain⟨x2,rfl,b4,b7⟩:=h2;obtain⟨xn,rfl⟩:=aWk b4;have i1:(xn:Int)<9:=b7;go_simp;exact hK _ _ ⟨_,rfl,⟨g0,xn,rfl,by omega,bv,B0⟩,(kN hr (Ext.refl _))⟩
  refine sCr [(3,some 11)] rfl (fun wi kk hx hr hkk=> ?_) ?_
  ·intro v3 h3 K hK;obtain⟨g3,x3,rfl,b8,ct,B3⟩:=h3;obtain⟨y,hy⟩:=aVv x3 b8;have c:=(B3.cell x3).trans hy;go_simp;exact hK _ _ ⟨_,rfl,⟨_,rfl⟩,(kN hr (Ext.refl _))⟩
  refine sSr0 [] ?_;refine sCr [(5,some 13)] rfl (fun wi kk hx hr hkk=> ?_) ?_
  ·intro v5 h5 K hK;obtain rfl:=h5;go_wp2_with fail;refine(cP R kk (60) _ hr (by omega)).mono ?_;rintro e w5 ⟨x,rfl,xa,xb,r5,x5⟩;go_simp;exact hK _ _ ⟨I x,rfl,⟨x,rfl,xa,by have hp:(0:Int)<60:=(by omega);omega⟩,⟨x5,r5⟩⟩
  refine sCr [(6,some 14)] rfl (fun wi kk hx hr hkk=> ?_) ?_
  ·intro v6 h6 K hK;obtain⟨x6,rfl,a5,a6⟩:=h6;go_simp;exact hK _ _ ⟨_,rfl,⟨_,rfl⟩,(kN hr (Ext.refl _))⟩
  refine sCr [(7,some 15)] rfl (fun wi kk hx hr hkk=> ?_) ?_
  ·intro v7 h7 K hK;obtain⟨n7,rfl⟩:=h7;go_simp;exact hK _ _ ⟨_,rfl,⟨_,rfl⟩,(kN hr (Ext.refl _))⟩
  refine sCr [(4,some 12),(8,some 16)] rfl (fun wi kk hx hr hkk=> ?_) ?_
  ·intro v4 h4 v8 h8 K hK;obtain⟨n4,rfl⟩:=h4;obtain⟨n8,rfl⟩:=h8;go_simp;exact hK _ _ ⟨_,rfl,⟨_,rfl⟩,(kN hr (Ext.refl _))⟩
  refine sSr0 [] ?_;refine sCr [(10,some 18)] rfl (fun wi kk hx hr hkk=> ?_) ?_
  ·intro b0 aw K hK;obtain rfl:=aw;go_wp2_with fail;refine(cP R kk (12) _ hr (by omega)).mono ?_;rintro e w5 ⟨x,rfl,xa,xb,r5,x5⟩;go_simp;exact hK _ _ ⟨I x,rfl,⟨x,rfl,xa,by have hp:(0:Int)<12:=(by omega);omega⟩,⟨x5,r5⟩⟩
  refine sCr [(11,some 19)] rfl (fun wi kk hx hr hkk=> ?_) ?_
  ·intro c7 a7 K hK;obtain⟨df,rfl,b2,b5⟩:=a7;go_simp;exact hK _ _ ⟨_,rfl,⟨_,rfl⟩,(kN hr (Ext.refl _))⟩
  refine sSr0 [] ?_;refine sCr [(13,some 21)] rfl (fun wi kk hx hr hkk=> ?_) ?_
  ·intro da a9 K hK;obtain rfl:=a9;go_wp2_with fail;refine(cP R kk (60) _ hr (by omega)).mono ?_;rintro e w5 ⟨x,rfl,xa,xb,r5,x5⟩;go_simp;exact hK _ _ ⟨I x,rfl,⟨x,rfl,xa,by have hp:(0:Int)<60:=(by omega);omega⟩,⟨x5,r5⟩⟩
  refine sCr [(14,some 22)] rfl (fun wi kk hx hr hkk=> ?_) ?_
  ·intro db ba K hK;obtain⟨dg,rfl,b3,b6⟩:=ba;go_simp;exact hK _ _ ⟨_,rfl,⟨_,rfl⟩,(kN hr (Ext.refl _))⟩
  refine sCr [(15,some 23)] rfl (fun wi kk hx hr hkk=> ?_) ?_
  ·intro dc bb K hK;obtain⟨c3,rfl⟩:=bb;go_simp;exact hK _ _ ⟨_,rfl,⟨_,rfl⟩,(kN hr (Ext.refl _))⟩
  refine sCr [(12,some 20),(16,some 24)] rfl (fun wi kk hx hr hkk=> ?_) ?_
  ·intro c8 a8 dd bc K hK;obtain⟨c1,rfl⟩:=a8;obtain⟨c4,rfl⟩:=bc;go_simp;exact hK _ _ ⟨_,rfl,⟨_,rfl⟩,(kN hr (Ext.refl _))⟩
  refine sCr [(9,some 17),(17,some 25)] rfl (fun wi kk hx hr hkk=> ?_) ?_
  ·intro v9 h9 de bd K hK;obtain⟨n9,rfl⟩:=h9;obtain⟨c6,rfl⟩:=bd;go_simp;exact hK _ _ ⟨_,rfl,⟨_,_,rfl⟩,(kN hr (Ext.refl _))⟩
  refine sCr [] rfl (fun wi kk hx hr hkk=> ?_) StepsLR.nil
  ·intro K hK;go_simp;exact hK _ _ ⟨.pointer (some ⟨wi,0,none⟩),rfl,⟨wi.heap.size,rfl,by have:=hx.sz;simp at this;omega,Blk.new _ _ _⟩,(kN hr ((Ext.refl _).alloc _))⟩
 case fin=>
  intro wi hx hr v0 h0 v1 h1 v2 h2 v3 h3 v4 h4 v5 h5 v6 h6 v7 h7 v8 h8 v9 h9 b0 aw c7 a7 c8 a8 da a9 db ba dc bb dd bc de bd ds co dt cp;obtain⟨g0,rfl,bv,B0⟩:=h0;obtain rfl:=h1;obtain⟨x2,rfl,b4,b7⟩:=h2;obtain⟨g3,x3,rfl,b8,ct,B3⟩:=h3;obtain⟨n4,rfl⟩:=h4;obtain rfl:=h5;obtain⟨x6,rfl,a5,a6⟩:=h6;obtain⟨n7,rfl⟩:=h7;obtain⟨n8,rfl⟩:=h8;obtain⟨n9,rfl⟩:=h9;obtain rfl:=aw;obtain⟨df,rfl,b2,b5⟩:=a7;obtain⟨c1,rfl⟩:=a8;obtain rfl:=a9;obtain⟨dg,rfl,b3,b6⟩:=ba;obtain⟨c3,rfl⟩:=bb;obtain⟨c4,rfl⟩:=bc;obtain⟨c6,rfl⟩:=bd;obtain⟨d,an,rfl⟩:=co;obtain⟨f,rfl,bw,bs⟩:=cp;have bx:ExtR R w1 wi:=hx.of_drew;have dq:R<f:=by omega
  have dn:R<wi:=hr.lt;have M2:=(M1.blkR bx bs bw)
  clear bx bs M1 bg bh;have bi:=M2.hi 0;have bj:=M2.hi 1;have bl:=M2.hi 2;obtain⟨d0,ap,d1,ao,d2,aq⟩:=(M2.bk 0).trif;refine wpAny_ready (rs:= [20]) (by kernel_rfl) (by simp) ?_;refine AllReady.cons rfl (fun K hK=> ?_) AllReady.nil;go_simp;refine hK _ _ ?_;clear hK K;refine wpAny_done (by kernel_rfl) ?_ _;try go_frame
  have M3:=(show MemR R w ((wi.setCell ⟨f,0,none⟩ (I d)).setCell ⟨f,1,none⟩ (I an)) [aI w (f) THD #[d,an,()],aI w (w.heap.size+1) THD #[(),(),()],aI w w aN #[aA,aB,.slice p n t,j,o,aE,aF,aD,aG,.slice q m c2]]from((M2.store (i:=0) rfl 0 (I d)).store (i:=0) rfl 1 (I an)))
  have r2:Rand (((wi.setCell ⟨f,0,none⟩ (I d)).setCell ⟨f,1,none⟩ (I an)).setCell ⟨f,2,none⟩ (I 0)) R (k+20):=xN;clear d0 ap d1 ao d2 aq bi bj bl hr;have M4:=(show MemR R w (((wi.setCell ⟨f,0,none⟩ (I d)).setCell ⟨f,1,none⟩ (I an)).setCell ⟨f,2,none⟩ (I 0)) [aI w (f) THD #[d,an,()],aI w (w.heap.size+1) THD #[(),(),()],aI w w aN #[aA,aB,.slice p n t,j,o,aE,aF,aD,aG,.slice q m c2]]from(M3.store (i:=0) rfl 2 (I 0)))
  generalize l:World.setCell _ _ _=w2;rw[l]at M4 r2;clear l M2 M3;have u:=M4.hi 0;have aa:=M4.hi 1;have ab:=M4.hi 2;go_upto_region 2 with fail;go_cut [40] (fun s40 wx=> ∃c:Bool,s40= .bool c∧(c=true→0<m)∧MemR R w wx [aI w (f) THD #[d,an,()],aI w (w.heap.size+1) THD #[(),(),()],aI w w aN #[aA,aB,.slice p n t,j,o,aE,aF,aD,aG,.slice q m c2]]∧Rand wx R (k+21))
  case first=>
   have c9:=(M4.bk 2).cl 9;have d0:=(M4.bk 0).cl 0;by_cases hm0:m=0
   ·skip;have d0:=aYu ((0:Int)<(m:Int));go_wp2_with fail;go_meet;exact⟨false,rfl,fun h=>by simp at h,M4,r2.mono (by omega)⟩
   have d0:=aYv ((0:Int)<(m:Int));by_cases ha:d=0
   ·skip;subst ha;go_wp2_with fail;go_meet;exact⟨false,rfl,fun h=>by simp at h,M4,r2.mono (by omega)⟩
   have d1:(d !=0)=true:=by simp[ha]
   go_wp2_with fail;refine(cP R (k+20) (5) _ r2 (by omega)).mono ?_;rintro e w3 ⟨x,rfl,xa,xb,r3,xx⟩;have M5:=(M4.pickd xx)
   clear xx M4 u aa ab;have ak:=M5.hi 0;have ad:=M5.hi 1;have ae:=M5.hi 2;by_cases x0:0<x
   ·have d2:decide (0<x)=true:=by simp[x0]
    go_wp2_with fail;go_meet;exact⟨true,rfl,fun _=>by omega,M5,r3⟩
   have d2:=aYu (0<x);go_wp2_with fail;go_meet;exact⟨false,rfl,fun h=>by simp at h,M5,r3⟩
  case rest=>
   clear M4 r2 u aa ab;obtain⟨c,rfl,cs,MC,r3⟩:=hcut;have M3:=MC;clear MC;have dl:R<wc:=r3.lt;have ax:=M3.hi 0;have ay:=M3.hi 1;have az:=M3.hi 2;go_upto_if 40 with fail;go_cut [] (fun wx=> ∃b1:Int,MemR R w wx [aI w (f) THD #[d,b1,()],aI w (w.heap.size+1) THD #[(),(),()],aI w w aN #[aA,aB,.slice p n t,j,o,aE,aF,aD,aG,.slice q m c2]]∧Rand wx R (k+40))
   case first=>
    cases c with
    |false=>go_wp2_with fail;go_meet;exact⟨an,M3,r3.mono (by omega)⟩
    |true=>
     have hm0:=cs rfl;obtain⟨b,off,rfl,hb,av⟩:=HS.out.rd hm0;have cr:b≠R:=hq.out b off hm0 rfl;have cf:=xQ av;clear av;have B0:=xQ (M3.bk 2);have ch:=xQ M3.ext;go_upto_region 3 with fail;refine zV (gl [gEq (.pointer (some ⟨w,9,none⟩)),gEq (.slice (some ⟨b,off,none⟩) m c2),gEq (.pointer (some ⟨R,0,none⟩)),gEq (.pointer (some ⟨w,9,none⟩)),gEq (.slice (some ⟨b,off,none⟩) m c2),gEq (m:Int),aM1 (m:Int),(fun v _=> ∃x:Nat,v= .pointer (some ⟨b,off+x*4,none⟩)∧x<m),(fun v _=> ∃x:Nat,v= .pointer (some ⟨b,off+x*4,none⟩)∧x<m),zD,gEq (.pointer (some ⟨f,1,none⟩))]) R (k+21) 1 11 (by kernel_rfl) rfl (by kernel_rfl) (by kernel_rfl) (by kernel_rfl) r3 (aJ9 (cR (iM _) (cR (iM _) (cR (iM _) (cR (iM _) (cR (iM _) (cR (iM _) (cR (oJ _) (cR (fun _ _ _ h _=>h) (cR (fun _ _ _ h _=>h) (cR (jB) (cR (iM _) (aMw))))))))))))) rfl (k:=12) (by kernel_rfl) (by decide) (ls:= [(0,some 41),(1,some 42),(2,some 43),(3,some 44),(4,some 45),(5,some 46),(6,some 47),(7,some 48),(8,some 49),(9,some 50),(10,some 51)]) (by kernel_rfl) (ir:= [0,1,2,3,4,5,6,7,8,9,10]) (by kernel_rfl) ?steps (tl:=#[true,true,true,true,true,true,true,true,true,true,true,false]) (by kernel_rfl) ?fin
     case steps=>
      refine sSr0 [] ?_;refine sCr [(0,some 41)] rfl (fun wi kk hx hr hkk=> ?_) ?_
      ·intro v0 h0 K hK;obtain rfl:=h0;have cl:=(hx.of_drew.blk B0 (by omega)).cl 9;go_simp;exact hK _ _ ⟨.slice (some ⟨b,off,none⟩) m c2,rfl,rfl,(kN hr (Ext.refl _))⟩
      refine sSr0 [] (sSr0 [] ?_);refine sCr [(3,some 44)] rfl (fun wi kk hx hr hkk=> ?_) ?_
      ·intro v3 h3 K hK;obtain rfl:=h3;have cl:=(hx.of_drew.blk B0 (by omega)).cl 9;go_simp;exact hK _ _ ⟨.slice (some ⟨b,off,none⟩) m c2,rfl,rfl,(kN hr (Ext.refl _))⟩
      refine sSr1 [(4,some 45)] ?_;refine sCr [(2,some 43),(5,some 46)] rfl (fun wi kk hx hr hkk=> ?_) ?_
      ·intro v2 h2 v5 h5 K hK;subst h2 h5;go_wp2_with fail;refine(cP R kk (m:Int) _ hr (by omega)).mono ?_;rintro e w5 ⟨x,rfl,xa,xb,r5,x5⟩;go_simp;exact hK _ _ ⟨I x,rfl,⟨x,rfl,xa,by have hp:(0:Int)<(m:Int):=(by omega);omega⟩,⟨x5,r5⟩⟩
      refine sCr [(1,some 42),(6,some 47)] rfl (fun wi kk hx hr hkk=> ?_) ?_
      ·intro v1 h1 v6 h6 K hK;obtain rfl:=h1;obtain⟨x6,rfl,a5,a6⟩:=h6;obtain⟨xn,rfl⟩:=aWk a5;have i1:(xn:Int)<(m:Int):=a6;have i0:=aYp xn;go_simp;exact hK _ _ ⟨_,rfl,⟨xn,rfl,by omega⟩,(kN hr (Ext.refl _))⟩
      refine sCr [(7,some 48)] rfl (fun wi kk hx hr hkk=> ?_) ?_
      ·intro v7 h7 K hK;obtain⟨x7,rfl,b9⟩:=h7;go_simp;exact hK _ _ ⟨_,rfl,⟨x7,rfl,b9⟩,(kN hr (Ext.refl _))⟩
      refine sCr [(8,some 49)] rfl (fun wi kk hx hr hkk=> ?_) ?_
      ·intro v8 h8 K hK;obtain⟨x8,rfl,ca⟩:=h8;obtain⟨y,hy⟩:=aHb (vs:=vs) (x:=x8) (by rw[cu.out];exact ca);have c:=(((ch.out.trans hx.of_drew).cell (off+x8*4) hb cr).trans (cf (x8*4) (by omega))).trans hy;go_simp;exact hK _ _ ⟨_,rfl,⟨_,rfl⟩,(kN hr (Ext.refl _))⟩
      exact sSr0 [] StepsLR.nil
     case fin=>
      intro wi hx hr v0 h0 v1 h1 v2 h2 v3 h3 v4 h4 v5 h5 v6 h6 v7 h7 v8 h8 v9 h9 b0 aw;subst h0 h1 h2 h3 h4 h5;obtain⟨x6,rfl,a5,a6⟩:=h6;obtain⟨x7,rfl,b9⟩:=h7;obtain⟨x8,rfl,ca⟩:=h8;obtain⟨n9,rfl⟩:=h9;obtain rfl:=aw;have bz:ExtR R wc wi:=hx.of_drew;have M4:=(M3.pickd bz)
      clear bz M3 ax ay az;have u:=M4.hi 0;have aa:=M4.hi 1;have ab:=M4.hi 2;have d1:=(M4.bk 0).cl 1;have ao:=(M4.bk 0).frozen 1;refine wpAny_ready (rs:= [11]) (by kernel_rfl) (by simp) ?_;refine AllReady.cons rfl (fun K hK=> ?_) AllReady.nil;go_simp;refine hK _ _ ?_;clear hK K;refine wpAny_done (by kernel_rfl) ?_ _;try go_frame
      have r4:Rand (wi.setCell ⟨f,1,none⟩ (I n9)) R (k+40):=Rand.mono (k:=k+21+11) xN (by omega);go_wp2_with fail;go_meet;exact⟨n9,(M4.store (i:=0) rfl 1 (I n9)),r4⟩
   case rest=>
    clear M3 r3 ax ay az;obtain⟨b1,MC,r4⟩:=hcut;have M4:=MC;clear MC;have dm:R<wc:=r4.lt;have u:=M4.hi 0;have aa:=M4.hi 1;have ab:=M4.hi 2;have d0:=(M4.bk 0).cl 0;by_cases k1:d=1
    ·skip;have cv:(d==1)=true:=by simp[k1]
     clear k1;go_wp2_with fail;clear d0;refine(cP R (k+40) (40) _ r4 (by omega)).mono ?_;rintro e w5 ⟨x,rfl,xa,xb,r5,xx⟩;have M5:=(M4.pickd xx)
     clear xx M4 u aa ab;have ak:=M5.hi 0;have ad:=M5.hi 1;have ae:=M5.hi 2;go_wp2_with fail;refine(cP R (k+40+1) (40) _ r5 (by omega)).mono ?_;rintro e w6 ⟨y0,rfl,dh,di,r6,a2⟩;have M6:=(M5.pickd a2)
     clear a2 M5 ak ad ae;have al:=M6.hi 0;have ag:=M6.hi 1;have ah:=M6.hi 2;obtain⟨d0,ap,d1,ao,d2,aq⟩:=(M6.bk 0).trif;go_upto_region 15 with fail;clear d0 ap d1 ao d2 aq;generalize l:World.setCell _ _ _=wy;obtain⟨y,hy⟩: ∃y,w6.setCell ⟨f,2,none⟩ (I y)=wy:=⟨_,l⟩
     clear l;have M7:=(show MemR R w (w6.setCell ⟨f,2,none⟩ (I y)) [aI w (f) THD #[d,b1,y],aI w (w.heap.size+1) THD #[(),(),()],aI w w aN #[aA,aB,.slice p n t,j,o,aE,aF,aD,aG,.slice q m c2]]from(M6.store (i:=0) rfl 2 (I y)))
     have r7:Rand (w6.setCell ⟨f,2,none⟩ (I y)) R (k+40+1+1):=xN;rw[hy]at M7 r7;clear hy M6 al ag ah;have aj:=M7.hi 0;have am:=M7.hi 1;have ai:=M7.hi 2;have f_:=(M7.bk 1).trif;obtain⟨d0,d1,d2⟩:=(M7.bk 0).tri;obtain⟨r,s⟩:=M7.nq 0 1;go_wp2;clear f_ d0 d1 d2 r s;have M8:=(show MemR R w ((wy.setCell ⟨w.heap.size+1,0,none⟩ (I d)).setCell ⟨w.heap.size+1,1,none⟩ (I b1)) [aI w (f) THD #[d,b1,y],aI w (w.heap.size+1) THD #[d,b1,()],aI w w aN #[aA,aB,.slice p n t,j,o,aE,aF,aD,aG,.slice q m c2]]from((M7.store (i:=1) rfl 0 (I d)).store (i:=1) rfl 1 (I b1)))
     have r9:Rand (((wy.setCell ⟨w.heap.size+1,0,none⟩ (I d)).setCell ⟨w.heap.size+1,1,none⟩ (I b1)).setCell ⟨w.heap.size+1,2,none⟩ (I y)) R (k+40+1+1):=xN;clear aj am ai;have M9:=(show MemR R w (((wy.setCell ⟨w.heap.size+1,0,none⟩ (I d)).setCell ⟨w.heap.size+1,1,none⟩ (I b1)).setCell ⟨w.heap.size+1,2,none⟩ (I y)) [aI w (f) THD #[d,b1,y],aI w (w.heap.size+1) THD #[d,b1,y],aI w w aN #[aA,aB,.slice p n t,j,o,aE,aF,aD,aG,.slice q m c2]]from(M8.store (i:=1) rfl 2 (I y)))
     generalize l:World.setCell _ _ _=wz;rw[l]at M9 r9;clear l M7 M8;have cy:=M9.hi 0;have cz:=M9.hi 1;have c0:=M9.hi 2;obtain⟨y0,y1,y2⟩:=(M9.bk 1).tri;exact aYw (v:=cS (d) (b1) (y)) ⟨_,_,_,rfl,r9.mono (by omega),M9.ext⟩
    have cv:(d==1)=false:=by simp[k1]
    by_cases k3:d=3
    ·skip;have cw:(d==3)=true:=by simp[k3]
     clear k3 k1;go_wp2_with fail;clear d0;refine(cP R (k+40) (60) _ r4 (by omega)).mono ?_;rintro e w5 ⟨x,rfl,xa,xb,r5,xx⟩;have M5:=(M4.pickd xx)
     clear xx M4 u aa ab;have ak:=M5.hi 0;have ad:=M5.hi 1;have ae:=M5.hi 2;go_wp2_with fail;refine(cP R (k+40+1) (3) _ r5 (by omega)).mono ?_;rintro e w6 ⟨y0,rfl,dh,di,r6,a2⟩;have M6:=(M5.pickd a2)
     clear a2 M5 ak ad ae;have al:=M6.hi 0;have ag:=M6.hi 1;have ah:=M6.hi 2;go_wp2_with fail;refine(cP R (k+40+1+1) (3) _ r6 (by omega)).mono ?_;rintro e w7 ⟨z0,rfl,du,dv,r7,cb⟩;have M7:=(M6.pickd cb)
     clear cb M6 al ag ah;have aj:=M7.hi 0;have am:=M7.hi 1;have ai:=M7.hi 2;obtain⟨d0,ap,d1,ao,d2,aq⟩:=(M7.bk 0).trif;go_upto_region 15 with fail;clear d0 ap d1 ao d2 aq;generalize l:World.setCell _ _ _=wy;obtain⟨y,hy⟩: ∃y,w7.setCell ⟨f,1,none⟩ (I y)=wy:=⟨_,l⟩
     clear l;have M8:=(show MemR R w (w7.setCell ⟨f,1,none⟩ (I y)) [aI w (f) THD #[d,y,()],aI w (w.heap.size+1) THD #[(),(),()],aI w w aN #[aA,aB,.slice p n t,j,o,aE,aF,aD,aG,.slice q m c2]]from(M7.store (i:=0) rfl 1 (I y)))
     have r8:Rand (w7.setCell ⟨f,1,none⟩ (I y)) R (k+40+1+1+1):=xN;rw[hy]at M8 r8;clear hy M7 aj am ai;have ar:=M8.hi 0;have bp:=M8.hi 1;have au:=M8.hi 2;have f_:=(M8.bk 1).trif;obtain⟨d0,d1,d2⟩:=(M8.bk 0).tri;obtain⟨r,s⟩:=M8.nq 0 1;go_wp2;clear f_ d0 d1 d2 r s;have M9:=(show MemR R w ((wy.setCell ⟨w.heap.size+1,0,none⟩ (I d)).setCell ⟨w.heap.size+1,1,none⟩ (I y)) [aI w (f) THD #[d,y,()],aI w (w.heap.size+1) THD #[d,y,()],aI w w aN #[aA,aB,.slice p n t,j,o,aE,aF,aD,aG,.slice q m c2]]from((M8.store (i:=1) rfl 0 (I d)).store (i:=1) rfl 1 (I y)))
     have r9:Rand (((wy.setCell ⟨w.heap.size+1,0,none⟩ (I d)).setCell ⟨w.heap.size+1,1,none⟩ (I y)).setCell ⟨w.heap.size+1,2,none⟩ (I 0)) R (k+40+1+1+1):=xN;clear ar bp au;have af:=(show MemR R w (((wy.setCell ⟨w.heap.size+1,0,none⟩ (I d)).setCell ⟨w.heap.size+1,1,none⟩ (I y)).setCell ⟨w.heap.size+1,2,none⟩ (I 0)) [aI w (f) THD #[d,y,()],aI w (w.heap.size+1) THD #[d,y,()],aI w w aN #[aA,aB,.slice p n t,j,o,aE,aF,aD,aG,.slice q m c2]]from(M9.store (i:=1) rfl 2 (I 0)))
     generalize l:World.setCell _ _ _=wz;rw[l]at af r9;clear l M8 M9;have a3:=af.hi 0;have cc:=af.hi 1;have a4:=af.hi 2;obtain⟨y0,y1,y2⟩:=(af.bk 1).tri;exact aYw (v:=cS (d) (y) (0)) ⟨_,_,_,rfl,r9.mono (by omega),af.ext⟩
    have cw:(d==3)=false:=by simp[k3]
    by_cases k4:d=4
    ·skip;have cx:(d==4)=true:=by simp[k4]
     clear k4 k3 k1;have ci:=(M4.bk 2).cl 0;have cj:=(M4.bk 2).cl 1;have ck:=(M4.bk 2).cl 2;go_wp2_with fail;clear d0 ci cj ck;refine(cg _ M4.ext).mono ?_;rintro e w5 ⟨q5,c5,rfl,ho,hx⟩;have r5:Rand w5 R (k+40):=r4.ext hx;have M5:=(M4.call hx ho)
     clear M4 u aa ab hx ho r4;have ad:=M5.hi 1;have ae:=M5.hi 2;have a0:=M5.hi 3;by_cases l0:KS=0
     ·skip;have bt:=aYu ((0:Int)<(KS:Int));have bu:=aYu (0<KS);clear l0;have f_:=(M5.bk 2).trif;obtain⟨d0,d1,d2⟩:=(M5.bk 1).tri;obtain⟨r,s⟩:=M5.nq 1 2;go_wp2;clear f_ d0 d1 d2 r s;have M6:=(show MemR R w ((w5.setCell ⟨w.heap.size+1,0,none⟩ (I d)).setCell ⟨w.heap.size+1,1,none⟩ (I b1)) [aJ w TSL 2 (q5) (KS) (c5) (sl.flatMap aK),aI w (f) THD #[d,b1,()],aI w (w.heap.size+1) THD #[d,b1,()],aI w w aN #[aA,aB,.slice p n t,j,o,aE,aF,aD,aG,.slice q m c2]]from((M5.store (i:=2) rfl 0 (I d)).store (i:=2) rfl 1 (I b1)))
      have r9:Rand (((w5.setCell ⟨w.heap.size+1,0,none⟩ (I d)).setCell ⟨w.heap.size+1,1,none⟩ (I b1)).setCell ⟨w.heap.size+1,2,none⟩ (I 0)) R (k+40):=xN;clear ad ae a0;have M7:=(show MemR R w (((w5.setCell ⟨w.heap.size+1,0,none⟩ (I d)).setCell ⟨w.heap.size+1,1,none⟩ (I b1)).setCell ⟨w.heap.size+1,2,none⟩ (I 0)) [aJ w TSL 2 (q5) (KS) (c5) (sl.flatMap aK),aI w (f) THD #[d,b1,()],aI w (w.heap.size+1) THD #[d,b1,()],aI w w aN #[aA,aB,.slice p n t,j,o,aE,aF,aD,aG,.slice q m c2]]from(M6.store (i:=2) rfl 2 (I 0)))
      generalize l:World.setCell _ _ _=wz;rw[l]at M7 r9;clear l M5 M6;have am:=M7.hi 1;have ai:=M7.hi 2;have a1:=M7.hi 3;obtain⟨y0,y1,y2⟩:=(M7.bk 2).tri;exact aYw (v:=cS (d) (b1) (0)) ⟨_,_,_,rfl,r9.mono (by omega),M7.ext⟩
     skip;have bt:=aYv ((0:Int)<(KS:Int));have bu:=aYv (0<KS);go_wp2_with fail;refine(cP R (k+40) (KS:Int) _ r5 (by omega)).mono ?_;rintro e w6 ⟨x,rfl,xa,xb,r6,xx⟩;have M6:=(M5.pickd xx)
     clear xx M5 ad ae a0;have ag:=M6.hi 1;have ah:=M6.hi 2;have bm:=M6.hi 3;obtain⟨g5,rfl,dj,dp⟩:=M6.so 0;obtain⟨xn,rfl⟩:=aWk xa;have i1:=aYq xn KS;obtain⟨⟨sf,st⟩,bf⟩: ∃z,sl[xn]? =some z:=⟨_,aW0 (by rw[cq.out];omega)⟩
     have cm:w6.cell? ⟨g5,xn*2,none⟩=some (I sf):=by have h1:=fG aK 2 (fun _=>rfl) sl xn _ bf 0 (by omega);rw[(M6.ow 0).cellAt (xn*2) (by omega)];simpa[aK]using h1
     have cn:w6.cell? ⟨g5,xn*2+1,none⟩=some (I st):=by have h1:=fG aK 2 (fun _=>rfl) sl xn _ bf 1 (by omega);rw[(M6.ow 0).cellAt (xn*2+1) (by omega)];simpa[aK]using h1
     clear bf l0 bt bu;go_upto_region 13 with fail;clear cm cn;have r7:Rand (w6.alloc (.cells #[sf,st] TSL)) R (k+40+1):=xN;have M7:=(M6.c0 TSL #[sf,st])
     generalize l:(w6.alloc (.cells #[sf,st] TSL))=w7;rw[l]at M7 r7;clear l r6 M6 ag ah bm;have aj:=M7.hi 0;have ai:=M7.hi 2;have a1:=M7.hi 3;have bo:=M7.hi 4;obtain⟨d0,ap,d1,ao,d2,aq⟩:=(M7.bk 2).trif;have e0:=(M7.bk 0).cl 0;have e1:=(M7.bk 0).cl 1;obtain⟨r,s⟩:=M7.nq 0 2;go_upto_region 15 with fail;clear d0 ap d1 ao d2 aq e0 e1 r s;have r8:Rand ((w7.setCell ⟨f,1,none⟩ (I sf)).setCell ⟨f,2,none⟩ (I st)) R (k+40+1):=xN;have M8:=(show MemR R w ((w7.setCell ⟨f,1,none⟩ (I sf)).setCell ⟨f,2,none⟩ (I st)) [aI w w6 TSL #[sf,st],aJ w TSL 2 (some ⟨g5,0,none⟩) (KS) (c5) (sl.flatMap aK),aI w (f) THD #[d,sf,st],aI w (w.heap.size+1) THD #[(),(),()],aI w w aN #[aA,aB,.slice p n t,j,o,aE,aF,aD,aG,.slice q m c2]]from((M7.store (i:=2) rfl 1 (I sf)).store (i:=2) rfl 2 (I st)))
     generalize l:World.setCell _ _ _=w8;rw[l]at M8 r8;clear l r7 M7 aj ai a1 bo;have ar:=M8.hi 0;have au:=M8.hi 2;have bq:=M8.hi 3;have br:=M8.hi 4;have f_:=(M8.bk 3).trif;obtain⟨d0,d1,d2⟩:=(M8.bk 2).tri;obtain⟨r,s⟩:=M8.nq 2 3;go_wp2;clear f_ d0 d1 d2 r s;have M9:=(show MemR R w ((w8.setCell ⟨w.heap.size+1,0,none⟩ (I d)).setCell ⟨w.heap.size+1,1,none⟩ (I sf)) [aI w w6 TSL #[sf,st],aJ w TSL 2 (some ⟨g5,0,none⟩) (KS) (c5) (sl.flatMap aK),aI w (f) THD #[d,sf,st],aI w (w.heap.size+1) THD #[d,sf,()],aI w w aN #[aA,aB,.slice p n t,j,o,aE,aF,aD,aG,.slice q m c2]]from((M8.store (i:=3) rfl 0 (I d)).store (i:=3) rfl 1 (I sf)))
     have r9:Rand (((w8.setCell ⟨w.heap.size+1,0,none⟩ (I d)).setCell ⟨w.heap.size+1,1,none⟩ (I sf)).setCell ⟨w.heap.size+1,2,none⟩ (I st)) R (k+40+1):=xN;clear ar au bq br;have af:=(show MemR R w (((w8.setCell ⟨w.heap.size+1,0,none⟩ (I d)).setCell ⟨w.heap.size+1,1,none⟩ (I sf)).setCell ⟨w.heap.size+1,2,none⟩ (I st)) [aI w w6 TSL #[sf,st],aJ w TSL 2 (some ⟨g5,0,none⟩) (KS) (c5) (sl.flatMap aK),aI w (f) THD #[d,sf,st],aI w (w.heap.size+1) THD #[d,sf,st],aI w w aN #[aA,aB,.slice p n t,j,o,aE,aF,aD,aG,.slice q m c2]]from(M9.store (i:=3) rfl 2 (I st)))
     generalize l:World.setCell _ _ _=wz;rw[l]at af r9;clear l M8 M9;have a3:=af.hi 0;have a4:=af.hi 2;have cd:=af.hi 3;have ce:=af.hi 4;obtain⟨y0,y1,y2⟩:=(af.bk 3).tri;exact aYw (v:=cS (d) (sf) (st)) ⟨_,_,_,rfl,r9.mono (by omega),af.ext⟩
    have cx:(d==4)=false:=by simp[k4]
    clear k4 k3 k1 d0;have f_:=(M4.bk 1).trif;obtain⟨d0,d1,d2⟩:=(M4.bk 0).tri;obtain⟨r,s⟩:=M4.nq 0 1;go_wp2;clear f_ d0 d1 d2 r s;have M5:=(show MemR R w ((wc.setCell ⟨w.heap.size+1,0,none⟩ (I d)).setCell ⟨w.heap.size+1,1,none⟩ (I b1)) [aI w (f) THD #[d,b1,()],aI w (w.heap.size+1) THD #[d,b1,()],aI w w aN #[aA,aB,.slice p n t,j,o,aE,aF,aD,aG,.slice q m c2]]from((M4.store (i:=1) rfl 0 (I d)).store (i:=1) rfl 1 (I b1)))
    have r9:Rand (((wc.setCell ⟨w.heap.size+1,0,none⟩ (I d)).setCell ⟨w.heap.size+1,1,none⟩ (I b1)).setCell ⟨w.heap.size+1,2,none⟩ (I 0)) R (k+40):=xN;clear u aa ab;have M6:=(show MemR R w (((wc.setCell ⟨w.heap.size+1,0,none⟩ (I d)).setCell ⟨w.heap.size+1,1,none⟩ (I b1)).setCell ⟨w.heap.size+1,2,none⟩ (I 0)) [aI w (f) THD #[d,b1,()],aI w (w.heap.size+1) THD #[d,b1,()],aI w w aN #[aA,aB,.slice p n t,j,o,aE,aF,aD,aG,.slice q m c2]]from(M5.store (i:=1) rfl 2 (I 0)))
    generalize l:World.setCell _ _ _=wz;rw[l]at M6 r9;clear l M4 M5;have al:=M6.hi 0;have ag:=M6.hi 1;have ah:=M6.hi 2;obtain⟨y0,y1,y2⟩:=(M6.bk 1).tri;exact aYw (v:=cS (d) (b1) (0)) ⟨_,_,_,rfl,r9.mono (by omega),M6.ext⟩
theorem aQ4 (g:Nat)(m:Nat→Nat→Bool)(w:World)(hn:n≤1000)(HM:Hid (∀(f t:Nat),f<n→t<n→ ∀w',Ext w w'→U 130 #[aH aA aB p n g,eV (f:Int) (t:Int)] w' (Z (.bool (m f t)) w'))):
  U 121 #[aH aA aB p n g] w (iO (eS m n n) w):=by
 go_enter func121,ntmps121;go_wp2;go_loopw [3,4] (fun v i wr=> ∃(k:Nat) (q:OA) (l c:Nat),k≤n∧i=I k∧v= .slice q l c∧l≤k*n∧wr.ownsRow (w.heap.size+1) TSL 2 (.slice q l c) l ((eS m n k).flatMap aK)∧Ext w wr∧Blk wr w TH3 #[aA,aB,.slice p n g]) (fun _ i _=>n-(intOf i).toNat)
 case atStart=>have ho:((w.alloc (.cells #[aA,aB,.slice p n g] TH3)).alloc (.cells #[] TSL)).ownsRow (w.heap.size+1) TSL 2 (.slice (some ⟨(w.alloc (.cells #[aA,aB,.slice p n g] TH3)).heap.size,0,none⟩) 0 0) 0 []:=aX7 _ #[] 0 (by simp) (by simp[maxLen]) rfl;exact⟨0,_,0,0,aW6 _,rfl,rfl,by simp,by simpa[eS]using ho,by exact .alloc (.alloc (.refl _) _) _,(Blk.new w _ _).alloc _⟩
 case round=>
  obtain⟨k,q,l,c,hk,rfl,rfl,s,b,d,hB⟩:=hrel;have HO:=xQ b;have HB:=xQ hB;have y:(w:Nat)<wr:=hB.lt;have x:Hid (l=(eS m n k).length):=by have:=b.1;rw[eC aK 2 (fun _=>rfl)]at this;show _=_;omega
  clear b hB;obtain⟨b0,b1,b2⟩:=HB.out.cells3;by_cases hlt:k<n
  ·have ag:k*n≤1000000:=by have:=Nat.mul_le_mul (show k≤1000 by omega) hn;omega
   go_wp2;obtain⟨wo,rfl⟩: ∃wo:World,wo=wr:=⟨_,rfl⟩
   clear b0 b1 b2;go_loopw [3,5] (fun v i wr=> ∃(j:Nat) (q:OA) (l c:Nat),j≤n∧i=I j∧v= .slice q l c∧l≤k*n+j∧wr.ownsRow (w.heap.size+1) TSL 2 (.slice q l c) l ((eS m n k++mU (m k) k j).flatMap aK)∧Ext w wr∧Blk wr w TH3 #[aA,aB,.slice p n g]) (fun _ i _=>n-(intOf i).toNat)
   case atStart=>exact⟨0,q,l,c,aW6 _,rfl,rfl,by omega,by simpa[mU]using HO.out,d,HB.out⟩
   case round=>
    clear HO HB y d x s;obtain⟨j,q,l,c,hj,rfl,rfl,s,b,d,hB⟩:=hrel;have HO:=xQ b;have HB:=xQ hB;have y:(w:Nat)<wr:=hB.lt;clear b hB;obtain⟨b0,b1,b2⟩:=HB.out.cells3;by_cases hlt2:j<n
    ·go_wp2_with fail;refine Ω (HM k j hlt hlt2 _ d) fun w1 h1=>?_
     have h:=xQ (aM HO h1);have r:=xQ (HB.out.ext h1);have o:=xQ (d.trans h1);have af:(w:Nat)<w1:=r.out.lt;clear h1 b0 b1 b2 HO HB d;cases hm:m k j with
     |true=>
      have a:Hid (eS m n k++mU (m k) k (j+1)=(eS m n k++mU (m k) k j)++ [((k:Int),(j:Int))]):=by show _=_;rw[mU,if_pos hm,aWu]
      clear hm;go_wp2_with (at_builtin;refine jV uG (f:=aK) (fun _=>rfl) (fun _ u hu=>by simp[aK]at hu;rcases hu with rfl|rfl<;>rfl) rfl _ _ rfl (w.heap.size+1) _ _ _ rfl (h.out.alloc _) _ _ ((k:Int),(j:Int)) _ rfl (aCo _ _ _ _) (by omega) (by first|(simp;done)|(simp;omega)) ?_;intro p' cap' w2 hown1 hg1;have aa:=xQ hown1;have ab:Ext w w2:=Ext.own (o.out.alloc _) (h.out.alloc _) hg1 (by omega);have z:=xQ (uL h hg1 r.out);clear hown1 hg1);go_roundw
      case rel=>exact⟨j+1,p',l+1,cap',by omega,by go_num,rfl,by omega,by rw[a.out];exact aa.out,ab,z.out⟩
      case measure=>simp[intOf];omega
     |false=>
      have a:Hid (eS m n k++mU (m k) k (j+1)=eS m n k++mU (m k) k j):=by show _=_;rw[mU,if_neg (by rw[hm];simp),aWr]
      clear hm;go_wp2;go_roundw
      case rel=>exact⟨j+1,q,l,c,by omega,by go_num,rfl,by omega,by rw[a.out];exact h.out,o.out,r.out⟩
      case measure=>simp[intOf];omega
    have a:Hid (eS m n k++mU (m k) k j=eS m n (k+1)):=by show _=_;rw[eS,show j=n by omega]
    have ad:k*n+n=(k+1)*n:=(aY6 k n).symm;go_wp2;go_roundw
    case rel=>exact⟨k+1,q,l,c,by omega,by go_num,rfl,by rw[←ad];omega,by rw[←a.out];exact HO.out,d,HB.out⟩
    case measure=>simp[intOf];omega
  have a:Hid (eS m n k=eS m n n):=by show _=_;rw[show k=n by omega]
  go_wp2;go_ret;have ae:(eS m n n).length=l:=by rw[←a.out];exact x.out.symm
  subst ae;exact⟨q,c,rfl,by rw[a.out]at HO;exact bF HO (Nat.le_succ _),d⟩
theorem aHw (a:Nat)(xs:List Int)(w:World)(hS:Sl w p n a 1 (ivs xs))(hn:n≤1000):
  U 121 #[aH aA aB p n a] w (iO (jY aA aB xs) w):=by
 have hl:=hS.ilen;subst hl;exact aQ4 aA aB p xs.length a _ w hn (fun f t _ _ w' hx=>aK0 aA aB f t p xs.length a xs w' (hS.ext hx))
theorem aD5:(jY aA aB xs).length≤xs.length*xs.length:=aE6 _ _ _
theorem RetHouse.is {h:aQ}{w:World}{p:OA}{a:Nat}(ho:w'.ownsRow w TI 1 (.slice p h.cells a) h.cells.length (ivs h.cells))(hv:w'.ownsRow w TV 4 (.slice q h.vs c2) h.vs.length (h.vs.flatMap aC)):
  IsHouse w' h p h.cells.length a q h.vs.length c2:=⟨Sl.own ho,Sl.own hv⟩
def aMe (R k:Nat)(w:World)(e:Ending)(w':World):Prop:= ∃f s p c:Int,e= .returned (aR f s p c)∧Rand w' R (k+7)∧ExtR R w w'
theorem Blk.fourf {w:World}{a b c d:Value}(h:Blk w g t #[a,b,c,d]):w.cell? ⟨g,0,none⟩=some a∧w.cell? ⟨g,1,none⟩=some b∧w.cell? ⟨g,2,none⟩=some c∧w.cell? ⟨g,3,none⟩=some d∧w.frozen? ⟨g,0,none⟩=false∧w.frozen? ⟨g,1,none⟩=false∧w.frozen? ⟨g,2,none⟩=false∧w.frozen? ⟨g,3,none⟩=false:=
 ⟨h.cell 0,h.cell 1,h.cell 2,h.cell 3,h.frozen 0,h.frozen 1,h.frozen 2,h.frozen 3⟩
theorem Blk.two {w:World}{a b:Value}(h:Blk w g t #[a,b]):w.cell? ⟨g,0,none⟩=some a∧w.cell? ⟨g,1,none⟩=some b:=⟨h.cell 0,h.cell 1⟩
theorem aDd (n:Int)(w:World)(hr:Rand w R k)(hk:k≤1099511627700)(hn:0≤n)(f:n≤1000000):
  U 81 #[.pointer (some ⟨R,0,none⟩),n] w (aMe R k w):=by
 have hR:=hr.lt;go_enter func81,ntmps81;go_wp2_with fail;refine(cP R (k) (4) _ (hr.ext (by exact .alloc (.refl _) _)) (by omega)).mono ?_;rintro e w1 ⟨a,rfl,a0,a1,r1,x1⟩;replace a1:a<4:=by omega
 have B1:Blk w1 w 29 #[(),(),(),()]:=x1.blk (Blk.new _ _ _) (by omega);go_wp2_with fail;refine(cP R (k+1) (6) _ (r1) (by omega)).mono ?_;rintro e w2 ⟨b,rfl,b0,b1,r2,x2⟩;replace b1:b<6:=by omega
 go_wp2_with fail;refine(cP R (k+2) (9) _ (r2) (by omega)).mono ?_;rintro e w3 ⟨c,rfl,c0,c1,r3,x3⟩;replace c1:c<9:=by omega
 go_wp2_with fail;refine(cP R (k+3) (60) _ (r3) (by omega)).mono ?_;rintro e w4 ⟨d,rfl,d0,d1,r4,x4⟩;replace d1:d<60:=by omega
 have B4:=x4.blk (x3.blk (x2.blk B1 (by omega)) (by omega)) (by omega);have X4:ExtR R w w4:=(((((ExtR.refl R w).alloc _).trans x1).trans x2).trans x3).trans x4;have s4:=B4.lt;have g:=r4.lt;clear B1 x1 x2 x3 x4 r1 r2 r3 hr;go_wp2_with fail;refine(aFx R (k+4) n _ (r4.ext (by exact .alloc (.refl _) _)) (by omega) hn f).mono ?_;rintro e w5 ⟨t,rfl,r5,x5⟩;have B5:=x5.blk (B4.alloc _) (by omega);have T5:=x5.blk (Blk.new w4 _ _) (by omega);have X5:ExtR R w w5:=(X4.alloc _).trans x5;clear B4 X4 x5 r4;cases t with
 |false=>
  obtain⟨p0,p1,p2,p3,p4,p5,p6,p7⟩:=B5.fourf;obtain⟨q0,q1,q2,q3,q4,q5,q6,q7⟩:=T5.fourf;clear B5 T5;go_wp2;refine aYw (v:=aR (a*10) (10+b*20) c (10+d)) ⟨_,_,_,_,rfl,?_,?_⟩
  ·exact Rand.mono (k:=k+4+1) xN (by omega)
  exact xR
 |true=>
  go_wp2_with fail;refine(cP R (k+5) (3) _ (r5) (by omega)).mono ?_;rintro e w6 ⟨u,rfl,u0,u1,r6,x6⟩;replace u1:u<3:=by omega
  have B6:=x6.blk B5 (by omega);have T6:=x6.blk T5 (by omega);have X6:=xQ (X5.trans x6);have s6:=T6.lt;have h:=r6.lt;clear B5 T5 x6 X5 r5;have hu:u=0∨u=1∨u=2:=by omega
  clear u0 u1;rcases hu with rfl|rfl|rfl
  ·skip;go_wp2_with fail;refine(cP R (k+6) (2) _ (r6.ext (by exact .alloc (.refl _) _)) (by omega)).mono ?_;rintro e w7 ⟨v,rfl,v0,v1,r7,x7⟩;replace v1:v<2:=by omega
   have B7:=x7.blk (B6.alloc _) (by omega);have T7:=x7.blk (T6.alloc _) (by omega);have S7:=x7.blk (Blk.new w6 _ _) (by omega);have X7:=xQ ((X6.out.alloc _).trans x7);obtain⟨p0,p1,p2,p3,p4,p5,p6,p7⟩:=B7.fourf;obtain⟨q0,q1,q2,q3,q4,q5,q6,q7⟩:=T7.fourf;obtain⟨g0,g1⟩:=S7.two;clear B6 T6 B7 T7 S7 x7 r6;have XX:=X7.out;have hv:v=0∨v=1:=by omega
   clear v0 v1 X6 X7;rcases hv with rfl|rfl
   ·go_wp2;refine aYw (v:=aR (a*10) 0 c (10+d)) ⟨_,_,_,_,rfl,?_,?_⟩
    ·exact xN
    exact xR
   go_wp2;refine aYw (v:=aR (a*10) 1441 c (10+d)) ⟨_,_,_,_,rfl,?_,?_⟩
   ·exact xN
   exact xR
  ·skip;go_wp2_with fail;refine(cP R (k+6) (2) _ (r6.ext (by exact .alloc (.refl _) _)) (by omega)).mono ?_;rintro e w7 ⟨v,rfl,v0,v1,r7,x7⟩;replace v1:v<2:=by omega
   have B7:=x7.blk (B6.alloc _) (by omega);have T7:=x7.blk (T6.alloc _) (by omega);have S7:=x7.blk (Blk.new w6 _ _) (by omega);have X7:=xQ ((X6.out.alloc _).trans x7);obtain⟨p0,p1,p2,p3,p4,p5,p6,p7⟩:=B7.fourf;obtain⟨q0,q1,q2,q3,q4,q5,q6,q7⟩:=T7.fourf;obtain⟨g0,g1⟩:=S7.two;clear B6 T6 B7 T7 S7 x7 r6;have XX:=X7.out;have hv:v=0∨v=1:=by omega
   clear v0 v1 X6 X7;rcases hv with rfl|rfl
   ·go_wp2;refine aYw (v:=aR (-1) (10+b*20) c (10+d)) ⟨_,_,_,_,rfl,?_,?_⟩
    ·exact xN
    exact xR
   go_wp2;refine aYw (v:=aR 1440 (10+b*20) c (10+d)) ⟨_,_,_,_,rfl,?_,?_⟩
   ·exact xN
   exact xR
  skip;go_wp2_with fail;refine(cP R (k+6) (2) _ (r6.ext (by exact .alloc (.refl _) _)) (by omega)).mono ?_;rintro e w7 ⟨v,rfl,v0,v1,r7,x7⟩;replace v1:v<2:=by omega
  have B7:=x7.blk (B6.alloc _) (by omega);have T7:=x7.blk (T6.alloc _) (by omega);have S7:=x7.blk (Blk.new w6 _ _) (by omega);have X7:=xQ ((X6.out.alloc _).trans x7);obtain⟨p0,p1,p2,p3,p4,p5,p6,p7⟩:=B7.fourf;obtain⟨q0,q1,q2,q3,q4,q5,q6,q7⟩:=T7.fourf;obtain⟨g0,g1⟩:=S7.two;clear B6 T6 B7 T7 S7 x7 r6;have XX:=X7.out;have hv:v=0∨v=1:=by omega
  clear v0 v1 X6 X7;rcases hv with rfl|rfl
  ·go_wp2;refine aYw (v:=aR (a*10) (10+b*20) c (-1)) ⟨_,_,_,_,rfl,?_,?_⟩
   ·exact xN
   exact xR
  go_wp2;refine aYw (v:=aR (a*10) (10+b*20) c 100) ⟨_,_,_,_,rfl,?_,?_⟩
  ·exact xN
  exact xR
def sW (aA aB f s p c:Int):aQ:=if bP f s p c=true∧2≤aA∧aA≤4∧2≤aB∧aB≤3 then⟨aA,aB,List.replicate (aA*aB).toNat 0,f,s,p,c,0,0,[]⟩else eR
theorem aKu {w:World}{W D:Int}{xs:List Int}{f s p c:Int}{a:Nat}(ho:w'.ownsRow w TI 1 (.slice q xs a) xs.length (ivs xs))(hx:Ext w w'):
  RetHouse ⟨W,D,xs,f,s,p,c,0,0,[]⟩ w (.returned (bV ⟨W,D,xs,f,s,p,c,0,0,[]⟩ q xs.length a none 0 0)) w':=⟨q,a,none,0,rfl,ho,aW9 _ _ _ _,hx⟩
theorem aL3 {w:World}{n:Nat}{a:Nat}{xs:List Value}{cs:Array Value}(ho:w.ownsRow B TI 1 (.slice q n a) n xs)(hb:Blk w g t cs)(ht:t≠TI):(Value.slice q n a).ownBlock≠some g:=by
 intro he;rcases ho.2 with⟨h1,h2⟩|⟨g',cap',cur,h1,hb',hg,hn,hm,hs,ht'⟩
 ·injection h1 with e1;subst e1;simp[Value.ownBlock]at he
 injection h1 with e1 e2 e3;subst e1;simp[Value.ownBlock]at he;subst he;unfold Blk at hb;rw[hb]at hg;injection hg with e;injection e with e1 e2;exact ht e2
theorem aKc (j:Bool)(HE:Hid (∀w',Ext w w'→U 120 #[aA,aB] w' (eA W D xs w')))(HV:Hid (∀w' p c,Sl w' p xs.length c 1 (ivs xs)→U 30 #[aH W D p xs.length c] w' (Z (.bool false) w')))(HT:Hid (∀w',U 31 #[aR a b aE aF] w' (Z (.bool j) w'))):
  U 80 #[aA,aB,aR a b aE aF] w (RetHouse eR w):=by
 go_enter func80,ntmps80;go_wp2_with fail;refine(HE _ (by exact .alloc (.alloc (.refl _) _) _)).mono ?_;rintro e w1 ⟨p1,c1,rfl,o1,d⟩;have BZ:Blk w1 (w.heap.size+1) 32 #[(),(),((),()),(),(),(),(),(),(),((),())]:=by have:=(Blk.new (w.alloc (.cells #[a,b,aE,aF] 29)) 32 #[(),(),((),()),(),(),(),(),(),(),((),())]).ext ((Ext.refl _).trans d);simpa using this
 have X1:=xQ (show Ext w w1 by exact .trans (.alloc (.alloc (.refl _) _) _) d);have O1:=xQ (bF o1 (show w.heap.size≤_ by simp;omega));have H1:=xQ (Sl.own O1.out);have g:=xQ BZ;clear BZ o1 d;go_wp2_with fail;refine Ω (HV _ _ _ (H1.out.ext (by exact .alloc (.refl _) _))) fun w2 h=>?_
 have f:Ext w1 w2:=by exact .trans (.alloc (.refl _) _) h
 have i:=xQ (g.out.ext f);have X2:=xQ (X1.out.trans f);clear h f g O1 X1 H1;have z_:=i.out.tenf;go_wp2;exact aYw (v:= .agg #[(),(),((),()),(),(),(),(),(),(),((),())]) ⟨none,0,none,0,rfl,World.ownsRow_nil _ _ _ _,World.ownsRow_nil _ _ _ _,((((((((((X2.out.setCell (p:=⟨w.heap.size+1,0,none⟩) (by dsimp only;omega) (I 0)).setCell (p:=⟨w.heap.size+1,1,none⟩) (by dsimp only;omega) (I 0)).setCell (p:=⟨w.heap.size+1,2,none⟩) (by dsimp only;omega) (.slice none 0 0)).setCell (p:=⟨w.heap.size+1,3,none⟩) (by dsimp only;omega) (I 0)).setCell (p:=⟨w.heap.size+1,4,none⟩) (by dsimp only;omega) (I 0)).setCell (p:=⟨w.heap.size+1,5,none⟩) (by dsimp only;omega) (I 0)).setCell (p:=⟨w.heap.size+1,6,none⟩) (by dsimp only;omega) (I 0)).setCell (p:=⟨w.heap.size+1,7,none⟩) (by dsimp only;omega) (I 0)).setCell (p:=⟨w.heap.size+1,8,none⟩) (by dsimp only;omega) (I 0)).setCell (p:=⟨w.heap.size+1,9,none⟩) (by dsimp only;omega) (.slice none 0 0))⟩
theorem aKb (n:Bool)(HE:Hid (∀w',Ext w w'→U 120 #[aA,aB] w' (eA W D xs w')))(HV:Hid (∀w' p c,Sl w' p xs.length c 1 (ivs xs)→U 30 #[aH W D p xs.length c] w' (Z (.bool true) w')))(HT:Hid (∀w',U 31 #[aR a b aE aF] w' (Z (.bool false) w'))):
  U 80 #[aA,aB,aR a b aE aF] w (RetHouse eR w):=by
 go_enter func80,ntmps80;go_wp2_with fail;refine(HE _ (by exact .alloc (.alloc (.refl _) _) _)).mono ?_;rintro e w1 ⟨p1,c1,rfl,o1,f⟩;have BT:Blk w1 w 29 #[a,b,aE,aF]:=by have:=(Blk.new w 29 #[a,b,aE,aF]).ext (((Ext.refl _).alloc _).trans f);simpa using this
 have BZ:Blk w1 (w.heap.size+1) 32 #[(),(),((),()),(),(),(),(),(),(),((),())]:=by have:=(Blk.new (w.alloc (.cells #[a,b,aE,aF] 29)) 32 #[(),(),((),()),(),(),(),(),(),(),((),())]).ext ((Ext.refl _).trans f);simpa using this
 have X1:=xQ (show Ext w w1 by exact .trans (.alloc (.alloc (.refl _) _) _) f);have O1:=xQ (bF o1 (show w.heap.size≤_ by simp;omega));have H1:=xQ (Sl.own O1.out);have i:=xQ BT;have k:=xQ BZ;clear BT BZ o1 f;go_wp2_with fail;refine Ω (HV _ _ _ (H1.out.ext (by exact .alloc (.refl _) _))) fun w2 l=>?_
 have g:Ext w1 w2:=by exact .trans (.alloc (.refl _) _) l
 have d:=xQ (i.out.ext g);have j:=xQ (k.out.ext g);have X2:=xQ (X1.out.trans g);clear l g i k O1 X1 H1;have t0:=d.out.cl 0;have t1:=d.out.cl 1;have t2:=d.out.cl 2;have t3:=d.out.cl 3;go_wp2_with fail;clear t0 t1 t2 t3;refine Ω (HT _) fun w3 h=>?_
 have m:=xQ (j.out.ext h);have X3:=xQ (X2.out.trans h);clear h d j X2;have z_:=m.out.tenf;go_wp2;exact aYw (v:= .agg #[(),(),((),()),(),(),(),(),(),(),((),())]) ⟨none,0,none,0,rfl,World.ownsRow_nil _ _ _ _,World.ownsRow_nil _ _ _ _,((((((((((X3.out.setCell (p:=⟨w.heap.size+1,0,none⟩) (by dsimp only;omega) (I 0)).setCell (p:=⟨w.heap.size+1,1,none⟩) (by dsimp only;omega) (I 0)).setCell (p:=⟨w.heap.size+1,2,none⟩) (by dsimp only;omega) (.slice none 0 0)).setCell (p:=⟨w.heap.size+1,3,none⟩) (by dsimp only;omega) (I 0)).setCell (p:=⟨w.heap.size+1,4,none⟩) (by dsimp only;omega) (I 0)).setCell (p:=⟨w.heap.size+1,5,none⟩) (by dsimp only;omega) (I 0)).setCell (p:=⟨w.heap.size+1,6,none⟩) (by dsimp only;omega) (I 0)).setCell (p:=⟨w.heap.size+1,7,none⟩) (by dsimp only;omega) (I 0)).setCell (p:=⟨w.heap.size+1,8,none⟩) (by dsimp only;omega) (I 0)).setCell (p:=⟨w.heap.size+1,9,none⟩) (by dsimp only;omega) (.slice none 0 0))⟩
theorem aKa (s:Bool)(HE:Hid (∀w',Ext w w'→U 120 #[aA,aB] w' (eA W D xs w')))(HV:Hid (∀w' p c,Sl w' p xs.length c 1 (ivs xs)→U 30 #[aH W D p xs.length c] w' (Z (.bool true) w')))(HT:Hid (∀w',U 31 #[aR a b aE aF] w' (Z (.bool true) w'))):
  U 80 #[aA,aB,aR a b aE aF] w (RetHouse ⟨W,D,xs,a,b,aE,aF,0,0,[]⟩ w):=by
 go_enter func80,ntmps80;go_wp2_with fail;refine(HE _ (by exact .alloc (.alloc (.refl _) _) _)).mono ?_;rintro e w1 ⟨p1,c1,rfl,o1,i⟩;have BT:Blk w1 w 29 #[a,b,aE,aF]:=by have:=(Blk.new w 29 #[a,b,aE,aF]).ext (((Ext.refl _).alloc _).trans i);simpa using this
 have BZ:Blk w1 (w.heap.size+1) 32 #[(),(),((),()),(),(),(),(),(),(),((),())]:=by have:=(Blk.new (w.alloc (.cells #[a,b,aE,aF] 29)) 32 #[(),(),((),()),(),(),(),(),(),(),((),())]).ext ((Ext.refl _).trans i);simpa using this
 have X1:=xQ (show Ext w w1 by exact .trans (.alloc (.alloc (.refl _) _) _) i);have O1:=xQ (bF o1 (show w.heap.size≤_ by simp;omega));have H1:=xQ (Sl.own O1.out);have o:=xQ BT;have r:=xQ BZ;clear BT BZ o1 i;go_wp2_with fail;refine Ω (HV _ _ _ (H1.out.ext (by exact .alloc (.refl _) _))) fun w2 m=>?_
 have n:=xQ ((Blk.new w1 27 #[W,D,.slice p1 xs c1]).ext m);have g:Ext w1 w2:=by exact .trans (.alloc (.refl _) _) m
 have d:=xQ (o.out.ext g);have q:=xQ (r.out.ext g);have O2:=xQ (aM O1 g);have X2:=xQ (X1.out.trans g);clear m g o r O1 X1 H1;have t0:=d.out.cl 0;have t1:=d.out.cl 1;have t2:=d.out.cl 2;have t3:=d.out.cl 3;go_wp2_with fail;clear t0 t1 t2 t3;refine Ω (HT _) fun w3 f=>?_
 have h:=xQ (d.out.ext f);have k:=xQ (q.out.ext f);have j:=xQ (n.out.ext f);have O3:=xQ (aM O2 f);have X3:=xQ (X2.out.trans f);clear f d q n O2 X2;have t0:=h.out.cl 0;have t1:=h.out.cl 1;have t2:=h.out.cl 2;have t3:=h.out.cl 3;have h0:=j.out.cl 0;have h1:=j.out.cl 1;have h2:=j.out.cl 2;have z_:=k.out.tenf;go_wp2;generalize l:World.setCell _ _ _=w5;have hR:ExtR (w.heap.size+1) w3 w5:=by rw[←l];exact((((((((((ExtR.refl (w.heap.size+1) w3).setCell (p:=⟨w.heap.size+1,0,none⟩) (.inl rfl) (I W)).setCell (p:=⟨w.heap.size+1,1,none⟩) (.inl rfl) (I D)).setCell (p:=⟨w.heap.size+1,2,none⟩) (.inl rfl) (.slice p1 xs c1)).setCell (p:=⟨w.heap.size+1,3,none⟩) (.inl rfl) (I a)).setCell (p:=⟨w.heap.size+1,4,none⟩) (.inl rfl) (I b)).setCell (p:=⟨w.heap.size+1,5,none⟩) (.inl rfl) (I aE)).setCell (p:=⟨w.heap.size+1,6,none⟩) (.inl rfl) (I aF)).setCell (p:=⟨w.heap.size+1,7,none⟩) (.inl rfl) (I 0)).setCell (p:=⟨w.heap.size+1,8,none⟩) (.inl rfl) (I 0)).setCell (p:=⟨w.heap.size+1,9,none⟩) (.inl rfl) (.slice none 0 0)
 have O5:=O3.out.kept hR (.inr (aL3 O3 k.out (by decide)));have X5:=ExtR.new X3 hR (by omega);have Y5:=(((((((((k.out.set 0 (I W)).set 1 (I D)).set 2 (.slice p1 xs c1)).set 3 (I a)).set 4 (I b)).set 5 (I aE)).set 6 (I aF)).set 7 (I 0)).set 8 (I 0)).set 9 (.slice none 0 0);simp only[aWg,aWe,aWf]at Y5;rw[l]at Y5;clear l z_ t0 t1 t2 t3 h0 h1 h2;have y_:=Y5.ten;exact aYw (v:= .agg #[W,D,.slice p1 xs c1,a,b,aE,aF,(),(),((),())]) (aKu O5 X5)
theorem aUp:U 120 #[aA,aB] w (eA (dA aA aB).1 (dA aA aB).2.1 (dA aA aB).2.2 w):=by
 by_cases h:2≤aA∧aA≤4∧2≤aB∧aB≤3
 ·have h1:dA aA aB=(aA,aB,List.replicate (aA*aB).toNat 0):=by unfold dA;rw[if_pos h]
  rw[h1];obtain⟨a,b,c,d⟩:=h;have h4:0≤aA*aB:=Int.mul_nonneg (by omega) (by omega);have h5:aA*aB≤12:=by have:=Int.mul_le_mul b d (by omega) (by omega);omega
  exact aNw aA aB (aA*aB).toNat w a b c d h4 h5 (by omega) (by omega)
 have h1:dA aA aB=(0,0,[]):=by unfold dA;rw[if_neg h]
 rw[h1];exact aKf aA aB w (by omega)
theorem aC9 {aA aB:Int}(h:2≤aA∧aA≤4∧2≤aB∧aB≤3):aO aA aB (List.replicate (aA*aB).toNat 0)=true:=by
 obtain⟨h0,h1,h2,h3⟩:=h;have h4:0≤aA*aB:=Int.mul_nonneg (by omega) (by omega);unfold aO;rw[aWc];refine⟨by simp only[iU,decide_eq_true_eq,List.length_replicate];omega,?_⟩;rw[fW];refine⟨fun x hx=> ?_,fun x hx h=> ?_,?_⟩
 ·rw[List.mem_replicate]at hx;omega
 ·rw[List.mem_replicate]at hx;omega
 have:(List.replicate (aA*aB).toNat (0:Int)).filter (fun x=>decide (0<x))= []:=by rw[List.filter_eq_nil_iff];intro x hx;rw[List.mem_replicate]at hx;simp[hx.2]
 rw[this];exact List.nodup_nil
theorem aJ4 (f s p c:Int):sW aA aB f s p c=(if aO (dA aA aB).1 (dA aA aB).2.1 (dA aA aB).2.2&&bP f s p c then⟨(dA aA aB).1,(dA aA aB).2.1,(dA aA aB).2.2,f,s,p,c,0,0,[]⟩else eR):=by
 unfold sW;by_cases h:2≤aA∧aA≤4∧2≤aB∧aB≤3
 ·have h1:dA aA aB=(aA,aB,List.replicate (aA*aB).toNat 0):=by unfold dA;rw[if_pos h]
  rw[h1,aC9 h,Bool.true_and];cases bP f s p c<;>simp[h]
 have h1:dA aA aB=(0,0,[]):=by unfold dA;rw[if_neg h]
 rw[h1];have h2:aO 0 0 []=false:=by simp[aO,iU]
 rw[h2,Bool.false_and];have h3: ¬(bP f s p c=true∧2≤aA∧aA≤4∧2≤aB∧aB≤3):=fun k=>h k.2
 rw[if_neg h3];rfl
theorem aUo:U 80 #[aA,aB,aR a b aE aF] w (RetHouse (sW aA aB a b aE aF) w):=by
 have HE:=fun(w':World) (hx:Ext w w')=>aUp aA aB w'
 have HV:=fun(w':World) p c (hS:Sl w' p (dA aA aB).2.2.length c 1 (ivs (dA aA aB).2.2))=>iJ (dA aA aB).1 (dA aA aB).2.1 p _ c (dA aA aB).2.2 w' hS
 have HT:=fun(w':World)=>aB2 a b aE aF w'
 rw[aJ4];cases h1:aO (dA aA aB).1 (dA aA aB).2.1 (dA aA aB).2.2 with
 |false=>rw[h1]at HV;cases h2:bP a b aE aF<;>(rw[h2]at HT;exact aKc aA aB a b aE aF _ _ _ w _ HE HV HT)
 |true=>
  rw[h1]at HV;cases h2:bP a b aE aF with
  |false=>rw[h2]at HT;exact aKb aA aB a b aE aF _ _ _ w true HE HV HT
  |true=>rw[h2]at HT;exact aKa aA aB a b aE aF _ _ _ w true HE HV HT
def Good (h:aQ):Prop:=bC h=true∨h=eR
theorem Good.small {h:aQ}(hg:Good h):h.cells.length≤12∧h.vs.length≤12:=by
 rcases hg with hg|rfl
 ·have:=fU hg;omega
 simp[eR]
theorem aDl (f s p c:Int):Good (sW a b f s p c):=by
 unfold sW;split
 ·rename_i hc;left;have hk:=aC9 hc.2;refine(jE _).2 ⟨hk,hc.1,by simp,?_,by simp⟩;have e:eJ (List.replicate (a*b).toNat (0:Int))= []:=by
   unfold eJ;rw[List.filter_eq_nil_iff];intro x hx;rw[(List.mem_replicate.1 hx).2];simp
  unfold jC;rw[e];rfl
 exact .inr rfl
def aH9 (w:World)(e:Ending)(w':World):Prop:=
 ∃(h:aQ) (p:OA) (cap:Nat) (q:OA) (c2:Nat) (nn:Int) (ok:Bool),e= .returned (.tuple #[bV h p h.cells.length cap q h.vs.length c2,nn,.bool ok])∧Good h∧
  w'.ownsRow w.heap.size TI 1 (.slice p h.cells.length cap) h.cells.length (ivs h.cells)∧w'.ownsRow w.heap.size TV 4 (.slice q h.vs.length c2) h.vs.length (h.vs.flatMap aC)∧Ext w w'
theorem xO (hg:Good h)(k a b:Int)(p:OA)(n d:Nat)(q:OA)(m c2:Nat)(w:World)(hi:IsHouse w h p n d q m c2):
  U 50 #[bV h p n d q m c2,cS k a b] w (aH9 w):=by
 cases hok:bC h with
 |true=>
  refine(zS h k a b p n d q m c2 w hi hok).mono ?_;intro e w' hr;cases hd:dF h k a b with
  |none=>rw[hd]at hr;obtain⟨p',c,q',f,rfl,o1,o2,hx⟩:=hr;exact⟨h,p',c,q',f,_,_,rfl,hg,o1,o2,hx⟩
  |some r=>obtain⟨h',x⟩:=r;rw[hd]at hr;obtain⟨p',c,q',f,rfl,o1,o2,hx⟩:=hr;exact⟨h',p',c,q',f,_,_,rfl,.inl (vV hok hd).1,o1,o2,hx⟩
 |false=>
  refine Ω (rT h k a b p n d q m c2 w hi hok) fun w' hx=>?_
  exact⟨eR,none,0,none,0,_,_,rfl,.inr rfl,aW9 _ _ _ _,aW9 _ _ _ _,hx⟩
theorem qC (a:Nat)(q:OA)(c2:Nat)(w:World)(hr:Rand w R k)(hk:k≤1099511600000)(hs:h.cells.length≤100∧h.vs.length≤1000)(hi:IsHouse w h p h.cells.length a q h.vs.length c2)(hp:0<h.cells.length→ ∀b off,p=some ⟨b,off,none⟩→b≠R)(hq:0<h.vs.length→ ∀b off,q=some ⟨b,off,none⟩→b≠R):
  U 82 #[.pointer (some ⟨R,0,none⟩),bV h p h.cells.length a q h.vs.length c2] w (aMf R k w):=by
 refine aBt R k h.aA h.aB h.free h.step h.aE h.aF h.aD h.aG p _ a q _ c2 h.vs (jY h.aA h.aB h.cells) w hr hk hs.2 _ (xQ rfl) ?_ (xQ rfl) (xQ hi.vs) (xQ fun b off h0 e=>hq h0 b off e) (xQ fun w' hx=> ?_)
 ·have h1:=aD5 h.aA h.aB h.cells;have h2:=Nat.mul_le_mul hs.1 hs.1;omega
 exact aHw h.aA h.aB p _ a h.cells w' (hx.sl (b0:=0) hi.cells hp) (by omega)
def aPn (R k:Nat)(w:World)(e:Ending)(w':World):Prop:=
 ∃(h:aQ) (p:OA) (cap:Nat) (q:OA) (c2:Nat),e= .returned (bV h p h.cells.length cap q h.vs.length c2)∧h.cells.length≤13∧h.vs.length≤13∧
  w'.ownsRow w.heap.size TI 1 (.slice p h.cells.length cap) h.cells.length (ivs h.cells)∧w'.ownsRow w.heap.size TV 4 (.slice q h.vs.length c2) h.vs.length (h.vs.flatMap aC)∧Rand w' R (k+20000)∧ExtR R w w'
theorem nN {R:Nat}{w:World}{j B1 B2 a:Nat}{h:aQ}{p:OA}(m:MemR R w0 w L)(hi:L[i]? =some (aJ B1 TI 1 p h.cells.length a (ivs h.cells)))(hj:L[j]? =some (aJ B2 TV 4 q h.vs.length c2 (h.vs.flatMap aC))):IsHouse w h p h.cells.length a q h.vs.length c2:=⟨m.sl hi,m.sl hj⟩
theorem pY {R:Nat}{w:World}{n c:Nat}{p:OA}{xs:List Value}(m:MemR R w0 w L)(hi:L[i]? =some (aJ B e sz p n c xs)):0<n→ ∀b off,p=some ⟨b,off,none⟩→b≠R:=by intro h0 b off he;obtain⟨g,hg,h1,_⟩:=m.some hi h0;rw[hg]at he;injection he with he;injection he with he;have:=m.old;omega
abbrev hvc (h:aQ)(p:OA)(cap:Nat)(q:OA)(c2:Nat):Array Value:=#[h.aA,h.aB,.slice p h.cells.length cap,h.free,h.step,h.aE,h.aF,h.aD,h.aG,.slice q h.vs.length c2]
def tN (lo:Nat)(w:World)(a:Nat):Prop:=
 ∃(h:aQ) (p:OA) (cap:Nat) (q:OA) (c2:Nat),Blk w a aN (hvc h p cap q c2)∧Good h∧w.ownsRow lo TI 1 (.slice p h.cells.length cap) h.cells.length (ivs h.cells)∧w.ownsRow lo TV 4 (.slice q h.vs.length c2) h.vs.length (h.vs.flatMap aC)
structure RG (R lo:Nat) (w w':World):Prop where
 os:w'.os=w.os
 tape:w'.tape=w.tape
 output:w'.output=w.output
 size:w.heap.size≤w'.heap.size
 block: ∀i,i<w.heap.size→i≠R→w'.heap[i]? =w.heap[i]? ∨(lo≤i∧(∃cs,Blk w i aN cs)∧tN lo w' i)
theorem RG.refl (lo:Nat)(w:World):RG R lo w w:=⟨rfl,rfl,rfl,aVz _,fun i _ _=> .inl rfl⟩
theorem RG.ofR {R:Nat}{w:World}(h:ExtR R w w'):RG R lo w w':=⟨h.os,h.tape,h.output,h.size,fun i hi hne=> .inl (h.block i hi (fun e=>hne (by injection e)))⟩
theorem RG.ofE {R:Nat}{w:World}(h:Ext w w'):RG R lo w w':=RG.ofR (h.r R)
theorem aMs {w:World}{b1 s1 n1:Nat}{e1:TypeId}{v1:Value}{a:List Value}{cs:Array Value}(h1:w.ownsRow b1 e1 s1 v1 n1 a)(h2:Blk w g t cs)(ne:e1≠t):v1.ownBlock≠some g:=by
 intro hg;rcases h1.2 with⟨b1,_⟩|⟨g1,cap1,cur1,b1,_,b3,_⟩
 ·rw[b1]at hg;cases hg
 rw[b1]at hg;injection hg with hg;have x1:g1=g:=hg;subst x1;unfold Blk at h2;rw[h2]at b3;injection b3 with b3;injection b3 with _ b3;exact ne b3.symm
theorem RG.own {R n:Nat}{w:World}{v:Value}{xs:List Value}(h:RG R lo w w')(ho:w.ownsRow B e sz v n xs)(hB:R<B)(he:e≠aN):w'.ownsRow B e sz v n xs:=by
 refine mW ho (fun g hg=> ?_);have hl:=aWw ho g hg;rcases h.block g hl.2 (by omega)with h1|⟨_,⟨cs,hb⟩,_⟩
 ·exact h1
 exfalso;rcases ho.2 with⟨b1,_⟩|⟨g1,cap1,cur1,b1,_,b3,_⟩
 ·rw[b1]at hg;cases hg
 rw[b1]at hg;injection hg with hg;have x1:g1=g:=hg;subst x1;unfold Blk at hb;rw[hb]at b3;injection b3 with b3;injection b3 with _ b3;exact he b3.symm
theorem RG.house {R a:Nat}{w:World}(h:RG R lo w w')(hR:R<lo)(ha:lo≤a)(hb:tN lo w a):tN lo w' a:=by
 obtain⟨h2,p,b,q,c2,b1,b2,b3,b4⟩:=hb;rcases h.block a b1.lt (by omega)with h1|⟨_,_,h1⟩
 ·exact⟨h2,p,b,q,c2,by unfold Blk at*;rw[h1];exact b1,b2,h.own b3 hR (by decide),h.own b4 hR (by decide)⟩
 exact h1
theorem RG.trans {R:Nat}{a b c:World}(hR:R<lo)(h:RG R lo a b)(k:RG R lo b c):RG R lo a c:=
 ⟨k.os.trans h.os,k.tape.trans h.tape,k.output.trans h.output,aW8 h.size k.size,fun i hi hne=>by
  rcases h.block i hi hne with h1|⟨l1,h2,h3⟩
  ·rcases k.block i (aVy hi h.size) hne with k1|⟨l2,⟨cs,k2⟩,k3⟩
   ·exact .inl (k1.trans h1)
   exact .inr ⟨l2,⟨cs,by unfold Blk at*;rw[←h1];exact k2⟩,k3⟩
  ·exact .inr ⟨l1,h2,k.house hR l1 h3⟩⟩
theorem RG.extR {R:Nat}{w:World}(h:RG R w w.drew w'):ExtR R w w':=
 ⟨h.os,h.tape,h.output,h.size,fun i hi hne=>by
  rcases h.block i hi (fun e=>hne (by rw[e]))with h1|⟨h2,_⟩
  ·exact h1
  ·omega⟩
theorem aGs:tN lo (w.alloc (.cells #[(),(),((),()),(),(),(),(),(),(),((),())] aN)) w.heap.size:=
 ⟨eR,none,0,none,0,Blk.new _ _ _,.inr rfl,aW9 _ _ _ _,aW9 _ _ _ _⟩
theorem RG.put {R:Nat}{w:World}{cs:Array Value}{h:aQ}{p:OA}{a:Nat}(hx:ExtR g w w')(hl:lo≤g)(hb:Blk w g aN cs)(b:Blk w' g aN (hvc h p a q c2))(hg:Good h)(h1:w.ownsRow lo TI 1 (.slice p h.cells a) h.cells.length (ivs h.cells))(h2:w.ownsRow lo TV 4 (.slice q h.vs c2) h.vs.length (h.vs.flatMap aC)):RG R lo w w':=
 ⟨hx.os,hx.tape,hx.output,hx.size,fun i hi hne=>by
  by_cases e:i=g
  ·subst e;refine .inr ⟨hl,⟨cs,hb⟩,h,p,a,q,c2,b,hg,?_,?_⟩
   ·exact mW h1 (fun k hk=>hx.block k (aWw h1 k hk).2 (fun e=>aMs h1 hb (by decide) (by rw[hk];exact e)))
   exact mW h2 (fun k hk=>hx.block k (aWw h2 k hk).2 (fun e=>aMs h2 hb (by decide) (by rw[hk];exact e)))
  ·exact .inl (hx.block i hi (fun e'=>e (by injection e')))⟩
end Go.Proofs.YthfmmibomhhmpabGreatDoor
