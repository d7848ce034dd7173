/-
  Texts of this proof, packed (@packed).
-/
import Derived.Test.YtpelpnfhbepokaaGreatDoorU1
import Derived.Test.YtpelpnfhbepokaaGreatDoorU4
import Derived.Test.YtpelpnfhbepokaaGreatDoorU12
import Derived.Test.YtpelpnfhbepokaaGreatDoorU19
import Derived.Test.YtpelpnfhbepokaaGreatDoorU21
import Derived.Test.YtpelpnfhbepokaaGreatDoorU22
namespace Go.Proofs.YtpelpnfhbepokaaGreatDoor
open Go.RowKit
set_option linter.unusedVariables false
set_option linter.unusedSimpArgs false
set_option maxHeartbeats 8000000
set_option maxRecDepth 100000
theorem qE (aA aB a c aE aG aD aF f m af:Int)(p:OA)(n cap:Nat)(b l k:Nat)(xs ys:List Int)(vs:List aQ)(w:World)(h0:0≤f)(hm:(k+1)≤1000)(cb:Hid (vs.drop (k+1)= []))(HS:Hid (Sl w (some ⟨b,l,none⟩) (k+1) (k+1) 4 (vs.flatMap aC)))
  (bt:xB 12 #[.agg #[aA,aB,.slice p n cap,a,c,aE,aG,aD,aF,.slice (some ⟨b,l,none⟩) (k+1) (k+1)]] w true)
  (HL:xC 37 #[.agg #[aA,aB,.slice p n cap,a,c,aE,aG,aD,aF,.slice (some ⟨b,l,none⟩) (k+1) (k+1)]] w fun w' e w''=> ∃p' cap' q' c2',e= .returned (.agg #[aA,aB,.slice p' n cap',a,c,aE,aG,aD,aF,.slice q' (k+1) c2'])∧w''.ownsRow w'.heap.size TI 1 (.slice p' n cap') n (ivs xs)∧w''.ownsRow w'.heap.size TV 4 (.slice q' (k+1) c2') (k+1) (vs.flatMap aC)∧Ext w' w'')
  (HP:xC 85 #[aH aA aB p n cap,m] w fun w' e w''=> ∃p' cap',e= .returned (.tuple #[aH aA aB p' n cap',f])∧w''.ownsRow w'.heap.size TI 1 (.slice p' n cap') n (ivs ys)∧Ext w' w'')
  (HF:xC 86 #[.agg #[aA,aB,.slice p n cap,a,c,aE,aG,aD,aF,.slice (some ⟨b,l,none⟩) (k+1) (k+1)],m] w fun w' e w''=>e= .returned (.int .i64 (k:Int))∧Ext w' w'')
  (HM:xB 87 #[.agg #[aA,aB,.slice p n cap,a,c,aE,aG,aD,aF,.slice (some ⟨b,l,none⟩) (k+1) (k+1)],m] w true):
  Calls Tryz.prog 38 #[.agg #[aA,aB,.slice p n cap,a,c,aE,aG,aD,aF,.slice (some ⟨b,l,none⟩) (k+1) (k+1)],.agg #[.int .i64 2,m,af]] w fun e w'=> ∃p' cap' q' c2',e= .returned (.tuple #[.agg #[aA,aB,.slice p' n cap',a,c,aE,aG,aD,aF,.slice q' (k) c2'],f,.bool true])∧w'.ownsRow w.heap.size TI 1 (.slice p' n cap') n (ivs ys)∧w'.ownsRow w.heap.size TV 4 (.slice q' (k) c2') (k) ((vs.take k++vs.drop (k+1)).flatMap aC)∧Ext w w':=by
 go_enter Tryz.func38,Tryz.ntmps38;go_wp2_with fail;refine(bt _ ((((Mem.start w).c0 aL #[aA,aB,.slice p n cap,a,c,aE,aG,aD,aF,.slice (some ⟨b,l,none⟩) (k+1) (k+1)]).c1 THD #[.int .i64 2,m,af]).c2 aL zT).ext).mono ?_;rintro e w1 ⟨rfl,bw⟩;have M1:=(((((Mem.start w).c0 aL #[aA,aB,.slice p n cap,a,c,aE,aG,aD,aF,.slice (some ⟨b,l,none⟩) (k+1) (k+1)]).c1 THD #[.int .i64 2,m,af]).c2 aL zT).adv bw)
 have a1:=M1.hi 0;have a2:=M1.hi 1;have a3:=M1.hi 2;clear bw bt;obtain⟨r,s,t,u,x,y,z,aa,ab,o⟩:=(M1.bk 2).ten;go_wp2_with fail;clear r s t u x y z aa ab o;refine(HL _ M1.ext).mono ?_;rintro e w2 ⟨p1,ag,q1,q,rfl,ho,hq,hx⟩;have M2:=(M1.own2 hx ho hq (Nat.le_refl _) (by decide))
 clear M1 a1 a2 a3 hx ho hq;have a4:=M2.hi 2;have a5:=M2.hi 3;have a6:=M2.hi 4;obtain⟨r,s,t,u,x,y,z,aa,ab,o⟩:=(M2.bk 4).ten;obtain⟨ah,ai,aj⟩:=(M2.bk 3).tri;go_wp2_with fail;clear r s t u x y z aa ab o ah ai aj;refine(HP _ (M2.c0 aL #[aA,aB,.slice p1 n ag,a,c,aE,aG,aD,aF,.slice q1 (k+1) q]).ext).mono ?_;rintro e w3 ⟨p5,d,rfl,ho,hx⟩;have M3:=((M2.c0 aL #[aA,aB,.slice p1 n ag,a,c,aE,aG,aD,aF,.slice q1 (k+1) q]).call hx ho)
 clear M2 a4 a5 a6 hx ho HP;have a7:=M3.hi 1;have a8:=M3.hi 4;have a9:=M3.hi 5;have ba:=M3.hi 6;obtain⟨r,s,t,u,x,y,z,aa,ab,o⟩:=(M3.bk 6).ten;obtain⟨ah,ai,aj⟩:=(M3.bk 5).tri;go_wp2_with fail;clear r s t u x y z aa ab o ah ai aj;refine(HF _ (M3.c0 TH3 #[aA,aB,.slice p5 n d]).ext).mono ?_;rintro e w4 ⟨rfl,bx⟩;have M4:=((M3.c0 TH3 #[aA,aB,.slice p5 n d]).adv bx)
 clear M3 a7 a8 a9 ba bx HF;have bb:=M4.hi 0;have bc:=M4.hi 2;have bd:=M4.hi 5;have be:=M4.hi 6;have bf:=M4.hi 7;obtain⟨r,s,t,u,x,y,z,aa,ab,o⟩:=(M4.bk 7).ten;obtain⟨ah,ai,aj⟩:=(M4.bk 6).tri;go_wp2_with fail;clear r s t u x y z aa ab o ah ai aj;refine(HM _ M4.ext).mono ?_;rintro e w5 ⟨rfl,bz⟩;have M5:=(M4.adv bz)
 clear M4 bb bc bd be bf bz HM;have bg:=M5.hi 0;have bh:=M5.hi 2;have bi:=M5.hi 5;have bj:=M5.hi 6;have bl:=M5.hi 7;have hd:decide (f<0)=false:=by simp;omega
 have cn:decide (0≤f)=true:=by simp;omega
 clear HL;obtain⟨d0,ap,d1,aq,d2,ar,d3,au,d4,av,d5,aw,d6,ax,d7,ay,d8,az,d9,a0⟩:=(M5.bk 2).tenf;obtain⟨cc,cd,ce⟩:=(M5.bk 0).tri;obtain⟨g,j⟩:=M5.nq 0 2;go_upto_region 22 with fail;clear d0 ap d1 aq d2 ar d3 au d4 av d5 aw d6 ax d7 ay d8 az d9 a0 cc cd ce g j bg bh bi bj bl;have M6:=(((M5.st 2 0 (.int .i64 aA)).st 2 1 (.int .i64 aB)).st 2 2 (.slice p5 n d))
 generalize ak:World.setCell _ _ _=w6;rw[ak]at M6;clear ak M5;have bm:=M6.hi 0;have bp:=M6.hi 2;have br:=M6.hi 5;have ad:=M6.hi 6;have ae:=M6.hi 7;have o:=(M6.bk 7).cl 9;obtain⟨d0,ap,d1,aq,d2,ar,d3,au,d4,av,d5,aw,d6,ax,d7,ay,d8,az,d9,a0⟩:=(M6.bk 2).tenf;obtain⟨g,j⟩:=M6.nq 2 7;obtain⟨al,am⟩:=M6.nq 5 7;obtain⟨an,ao⟩:=M6.nq 2 5;have i1:(0:Int)≤(k:Int):=by omega
 have i2:(k:Int)≤((k+1):Int):=by omega
 have i3:(k:Int)≤((k+1):Int):=by omega
 have i4:(k:Int)+1≤((k+1):Int):=by omega
 have i5:(0:Int)≤(k:Int)+1:=by omega
 have i6:((k:Int)+1).toNat=k+1:=by omega
 have i7:IntKind.i64.wrap ((k:Int)+1)=(k:Int)+1:=IntWalk.i64_in _ (by omega);have ca: ¬(k+1)=0:=by omega
 go_cut [] (fun wx=> ∃(q9:OA) (c9:Nat),Mem w wx [aI w.heap.size TV 4 (q9) (k) (c9) ((vs.take k++vs.drop (k+1)).flatMap aC),aJ w.heap.size (w3.heap.size) TH3 #[aA,aB,.slice p5 n d],aI w.heap.size TI 1 (p5) (n) (d) (ivs ys),aJ w.heap.size (w2.heap.size) aL #[aA,aB,.slice p5 n d,a,c,aE,aG,aD,aF,.slice q9 (k) c9],aI w.heap.size TI 1 (p1) (n) (ag) (ivs xs),aI w.heap.size TV 4 (q1) (k+1) (q) (vs.flatMap aC),aJ w.heap.size (w.heap.size+1+1) aL #[(),(),((),()),(),(),(),(),(),(),((),())],aJ w.heap.size (w.heap.size+1) THD #[.int .i64 2,m,af],aJ w.heap.size (w.heap.size) aL #[aA,aB,.slice p n cap,a,c,aE,aG,aD,aF,.slice (some ⟨b,l,none⟩) (k+1) (k+1)]])
 case first=>
  go_region_law ((first
   |(refine gG tO (by rfl) _ _ (by rfl) (by first|exact M6.made0 TV 4 w6.heap.size (by simp)|exact(M6.made0 TV 4 w6.heap.size (by simp)).adv (by exact .drew (.refl _))|exact(M6.adv xE).made0 TV 4 w6.heap.size (by simp)) 0 (by rfl) (by rfl) ((vs.take k).flatMap aC) (by rfl) (aBm (HS.out.ext (M6.ext.trans (by exact .drew (.alloc (.refl _) _)))) (by omega)) (eF _) (by omega) ?_
     intro q7 c7 w7 bu;have M7:=(show Mem w w7 [aI w.heap.size TV 4 (q7) (k) (c7) ((vs.take k).flatMap aC),aJ w.heap.size (w3.heap.size) TH3 #[aA,aB,.slice p5 n d],aI w.heap.size TI 1 (p5) (n) (d) (ivs ys),aJ w.heap.size (w2.heap.size) aL #[aA,aB,.slice p5 n d,a,c,aE,aG,aD,aF,.slice q1 (k+1) q],aI w.heap.size TI 1 (p1) (n) (ag) (ivs xs),aI w.heap.size TV 4 (q1) (k+1) (q) (vs.flatMap aC),aJ w.heap.size (w.heap.size+1+1) aL #[(),(),((),()),(),(),(),(),(),(),((),())],aJ w.heap.size (w.heap.size+1) THD #[.int .i64 2,m,af],aJ w.heap.size (w.heap.size) aL #[aA,aB,.slice p n cap,a,c,aE,aG,aD,aF,.slice (some ⟨b,l,none⟩) (k+1) (k+1)]]from by simpa only[List.set_cons_zero,Nat.zero_add,List.nil_append]using bu)
     clear bu;have ch:=(M7.bk 8).cl 9;have ci:=(M7.bk 3).cl 9;have cf:=(M7.bk 3).frozen 9;have cj:w.heap.size<w7.heap.size:=(M7.hi 8)
     have ck:w2.heap.size<w7.heap.size:=(M7.hi 3))
   |(refine gG tO (by rfl) _ _ (by rfl) (M7.adv (by exact .refl _)) 0 (by rfl) (by rfl) (([]:List aQ).flatMap aC) (by rfl) (⟨by simp,Nat.zero_le _,by have:=HS.out.mx;omega,fun h=>absurd h (by omega)⟩) (eF _) (by omega) ?_
     intro q9 c9 w9 bv;have M9:=(show Mem w w9 [aI w.heap.size TV 4 (q9) (k+(0)) (c9) ((vs.take k).flatMap aC++([]:List aQ).flatMap aC),aJ w.heap.size (w3.heap.size) TH3 #[aA,aB,.slice p5 n d],aI w.heap.size TI 1 (p5) (n) (d) (ivs ys),aJ w.heap.size (w2.heap.size) aL #[aA,aB,.slice p5 n d,a,c,aE,aG,aD,aF,.slice q1 (k+1) q],aI w.heap.size TI 1 (p1) (n) (ag) (ivs xs),aI w.heap.size TV 4 (q1) (k+1) (q) (vs.flatMap aC),aJ w.heap.size (w.heap.size+1+1) aL #[(),(),((),()),(),(),(),(),(),(),((),())],aJ w.heap.size (w.heap.size+1) THD #[.int .i64 2,m,af],aJ w.heap.size (w.heap.size) aL #[aA,aB,.slice p n cap,a,c,aE,aG,aD,aF,.slice (some ⟨b,l,none⟩) (k+1) (k+1)]]from bv)
     clear bv;have cm:=(M9.bk 8).cl 9;have co:=(M9.bk 3).cl 9;have cg:=(M9.bk 3).frozen 9;have cp:w.heap.size<w9.heap.size:=(M9.hi 8)
     have cq:w2.heap.size<w9.heap.size:=(M9.hi 3))))
  all_goals (
   have e1:k+(0)=k:=by omega
   have e2:(vs.take k).flatMap aC++([]:List aQ).flatMap aC=(vs.take k++vs.drop (k+1)).flatMap aC:=by rw[cb.out];simp
   skip;have MZ:=(show Mem w w9 [aI w.heap.size TV 4 (q9) (k) (c9) ((vs.take k++vs.drop (k+1)).flatMap aC),aJ w.heap.size (w3.heap.size) TH3 #[aA,aB,.slice p5 n d],aI w.heap.size TI 1 (p5) (n) (d) (ivs ys),aJ w.heap.size (w2.heap.size) aL #[aA,aB,.slice p5 n d,a,c,aE,aG,aD,aF,.slice q1 (k+1) q],aI w.heap.size TI 1 (p1) (n) (ag) (ivs xs),aI w.heap.size TV 4 (q1) (k+1) (q) (vs.flatMap aC),aJ w.heap.size (w.heap.size+1+1) aL #[(),(),((),()),(),(),(),(),(),(),((),())],aJ w.heap.size (w.heap.size+1) THD #[.int .i64 2,m,af],aJ w.heap.size (w.heap.size) aL #[aA,aB,.slice p n cap,a,c,aE,aG,aD,aF,.slice (some ⟨b,l,none⟩) (k+1) (k+1)]]from by have:=M9;rw[e2]at this;simpa only[e1]using this)
   clear e2 M9 M7)
  all_goals go_wp2_with fail
  all_goals go_meet
  all_goals exact⟨q9,c9,by first|exact(MZ.store (i:=3) rfl 9 (.slice q9 (k) c9))|(simp only[e1];exact(MZ.store (i:=3) rfl 9 (.slice q9 (k) c9)))⟩
 case rest=>
  obtain⟨q9,c9,MC⟩:=hcut;have MC:=xQ MC;clear M6 i1 i2 i3 i4 i5 i6 i7 ca o d0 ap d1 aq d2 ar d3 au d4 av d5 aw d6 ax d7 ay d8 az d9 a0 g j al am an ao bm bp br ad ae;have bo:w3.heap.size<wc.heap.size:=(MC.out.hi 1)
  have bq:w2.heap.size<wc.heap.size:=(MC.out.hi 3)
  have ad:w.heap.size+1+1<wc.heap.size:=(MC.out.hi 6)
  have ae:w.heap.size+1<wc.heap.size:=(MC.out.hi 7)
  have bs:w.heap.size<wc.heap.size:=(MC.out.hi 8)
  obtain⟨e0,e1,e2,e3,e4,e5,e6,e7,e8,e9⟩:=(MC.out.bk 3).ten;obtain⟨f0,b0,f1,b1,f2,b2,f3,b3,f4,b4,f5,b5,f6,b6,f7,b7,f8,b8,f9,b9⟩:=(MC.out.bk 6).tenf;obtain⟨g,j⟩:=MC.out.nq 3 6;go_upto_region 33 with fail;go_wp2;clear e0 e1 e2 e3 e4 e5 e6 e7 e8 e9 f0 b0 f1 b1 f2 b2 f3 b3 f4 b4 f5 b5 f6 b6 f7 b7 f8 b8 f9 b9 g j bo bq ad ae bs;have M7:=(MC.out.put10 (i:=6) rfl (.int .i64 aA) (.int .i64 aB) (.slice p5 n d) (.int .i64 a) (.int .i64 c) (.int .i64 aE) (.int .i64 aG) (.int .i64 aD) (.int .i64 aF) (.slice q9 (k) c9))
  generalize ak:World.setCell _ _ _=wz;rw[ak]at M7;clear ak MC;obtain⟨y0,y1,y2,y3,y4,y5,y6,y7,y8,y9⟩:=(M7.bk 6).ten;exact bodyPost_ret (v:= .tuple #[.agg #[aA,aB,.slice p5 n d,a,c,aE,aG,aD,aF,.slice q9 (k) c9],f,.bool true]) (by simp[results,Tryz.results38,go_sem, *]) rfl ⟨p5,d,q9,c9,rfl,(M7.ow 2),(M7.ow 0),M7.ext⟩
end Go.Proofs.YtpelpnfhbepokaaGreatDoor
namespace Go.Proofs.YtpelpnfhbepokaaGreatDoor
open Go.RowKit
set_option linter.unusedVariables false
set_option linter.unusedSimpArgs false
def aGe (h:aW)(r:Option (aW×Int))(w:World)(e:Ending)(w':World):Prop:=
 match r with
 |none=> ∃p cap q c2,e= .returned (.tuple #[cA h p h.cells.length cap q h.vs.length c2,(-1:Int),.bool false])∧w'.ownsRow w.heap.size TI 1 (.slice p h.cells.length cap) h.cells.length (ivs h.cells)∧w'.ownsRow w.heap.size TV 4 (.slice q h.vs.length c2) h.vs.length (h.vs.flatMap aC)∧Ext w w'
 |some (h',n)=> ∃p cap q c2,e= .returned (.tuple #[cA h' p h'.cells.length cap q h'.vs.length c2,n,.bool true])∧w'.ownsRow w.heap.size TI 1 (.slice p h'.cells.length cap) h'.cells.length (ivs h'.cells)∧w'.ownsRow w.heap.size TV 4 (.slice q h'.vs.length c2) h'.vs.length (h'.vs.flatMap aC)∧Ext w w'
theorem jV {h:aW}(a:bU h=true):h.cells.length≤12∧h.vs.length≤12∧4≤h.cells.length:=by obtain⟨q1,q2,q3,q4,q5⟩:=(gJ h).1 a;have hb:=cG (cK q1);have:=congrArg List.length q4;rw[pX,List.length_map]at this;have:=rV h.cells;omega
theorem aBh (h:aW)(k a b:Int)(p:OA)(n cap:Nat)(q:OA)(m c2:Nat)(w:World)(hi:IsHouse w h p n cap q m c2)(i:bU h=true):
  Calls Tryz.prog 38 #[cA h p n cap q m c2,cI k a b] w (aGe h (cL h k a b) w):=by
 obtain⟨q1,q2,q3,q4,q5⟩:=(gJ h).1 i;have ab:=jV i;have hl:=hi.clen;have o:=hi.vlen;have hS:=hi.cells;have hV:=hi.vs;subst hl o;have d:=xQ fun(w':World) (hx:Ext w w')=>(by have:=oG h p _ cap q _ c2 w' (hi.ext hx);rwa[i]at this:Calls Tryz.prog 12 #[cA h p h.cells.length cap q h.vs.length c2] w' fun e w''=>e= .returned (.bool true)∧Ext w' w'')
 have HL:=xQ fun(w':World) (hx:Ext w w')=>pP h p _ cap q _ c2 w' (by omega) (by omega) (hi.ext hx)
 unfold RetHouse at HL;by_cases k0:k=0
 ·subst k0;have HP:=xQ fun(w':World) (hx:Ext w w')=>aB7 h.aA h.aB a p _ cap h.cells w' (hS.ext hx) q1
  have e0:cL h 0 a b=(if 0≤(cF h.aA h.aB h.cells a).2 then some ({h with cells:=(cF h.aA h.aB h.cells a).1,vs:=kH (a,h.aD,0,h.aD) h.vs},(cF h.aA h.aB h.cells a).2)else none):=by unfold cL;rw[if_pos rfl]
  have el:(cF h.aA h.aB h.cells a).1.length=h.cells.length:=by
   by_cases h0:0≤(cF h.aA h.aB h.cells a).2
   ·obtain⟨zs,s1,_,_,s4,_⟩:=pI q1 h0;rw[s4,List.length_set,s1.length_eq]
   unfold cF at h0⊢;split at h0
   ·rfl
   dsimp only at h0;omega
  unfold cM at HP;rw[el]at HP;rw[e0];by_cases h0:0≤(cF h.aA h.aB h.cells a).2
  ·rw[if_pos h0];have HQ:=xQ fun(w':World) (hx:Ext w w')=>aHc a h.aD 0 h.aD q _ c2 h.vs w' (by omega) (hV.ext hx)
   refine(rP h.aA h.aB h.free h.step h.aE h.aG h.aD h.aF (cF h.aA h.aB h.cells a).2 a b p _ cap q _ c2 h.cells (cF h.aA h.aB h.cells a).1 h.vs (kH (a,h.aD,0,h.aD) h.vs) w h0 d HL HP HQ).mono ?_;rintro e w' ⟨p',c,q',f,rfl,o1,o2,hx⟩;refine⟨p',c,q',f,?_,?_,?_,hx⟩
   ·simp[cA,el,qI]
   ·dsimp only;rw[el];exact o1
   dsimp only;rw[qI];exact o2
  rw[if_neg h0];exact tJ h.aA h.aB h.free h.step h.aE h.aG h.aD h.aF (cF h.aA h.aB h.cells a).2 a b p _ cap q _ c2 h.cells (cF h.aA h.aB h.cells a).1 h.vs w (by omega) d HL HP
 by_cases k1:k=1
 ·subst k1;have HP:=xQ fun(w':World) (hx:Ext w w')=>aHd h a b p _ cap q _ c2 w' (by omega) (by omega) (hi.ext hx) q2 (fun v hv=>(jJ _ _).1 (q5 v hv)) q3.2.1 q3.2.2.1 q3.2.2.2
  have e0:cL h 1 a b=pL h a b:=by unfold cL;rw[if_neg (by omega),if_pos rfl]
  rw[e0];cases hp:pL h a b with
  |none=>rw[hp]at HP;exact wJ h.aA h.aB h.free h.step h.aE h.aG h.aD h.aF a b p _ cap q _ c2 h.cells h.vs w d HL HP
  |some r=>
   obtain⟨h',bk⟩:=r;rw[hp]at HP;have hd:=vJ i (e0.trans hp);have hv:h'.vs.length=h.vs.length∧h'.cells=h.cells∧h'.aD=h.aD:=by
    unfold pL at hp;split at hp
    ·cases hp
    split at hp
    ·injection hp with hp;simp only[Prod.mk.injEq]at hp;obtain⟨rfl,_⟩:=hp;exact⟨by simp,rfl,rfl⟩
    cases hp
   obtain⟨t1,t2,t3,t4,t5,t6,t7,t8,t9⟩:=hd;obtain⟨v1,v2,v3⟩:=hv;obtain⟨hw,y,hc,hf,hs,aa,u,x,l,s⟩:=h';dsimp only at t4 t5 t6 t7 t8 t9 v1 v2 v3;subst t4 t5 t6 t7 t8 t9 v2 v3;unfold aL3 at HP;dsimp only at HP;rw[v1]at HP;refine(uJ h.aA h.aB h.free h.step h.aE h.aG h.aD h.aF l bk a b p _ cap q _ c2 h.cells h.vs s w t2.1 d HL HP).mono ?_;rintro e w' ⟨p',c,q',f,rfl,o1,o2,hx⟩;refine⟨p',c,q',f,?_,o1,?_,hx⟩
   ·simp[cA,v1]
   dsimp only;rw[v1];exact o2
 by_cases k2:k=2
 ·subst k2;have HP:=xQ fun(w':World) (hx:Ext w w')=>aCx h.aA h.aB a p _ cap h.cells w' (hS.ext hx) q1
  have HF:=xQ fun(w':World) (hx:Ext w w')=>pO h.aA h.aB h.free h.step h.aE h.aG h.aD h.aF a p h.cells.length cap q _ c2 h.vs w' (hV.ext hx)
  have HM:=fun(w':World) (hx:Ext w w')=>zN h a p _ cap q _ c2 w' (hi.ext hx)
  have e0:cL h 2 a b=(if eH h a=true∧0≤(bT h.aA h.aB h.cells a).2 then some ({h with cells:=(bT h.aA h.aB h.cells a).1,vs:=h.vs.eraseIdx (vix a h.vs).toNat},(bT h.aA h.aB h.cells a).2)else none):=by unfold cL;rw[if_neg (by omega),if_neg (by omega),if_pos rfl]
  have el:(bT h.aA h.aB h.cells a).1.length=h.cells.length:=by
   by_cases h0:0≤(bT h.aA h.aB h.cells a).2
   ·obtain⟨zs,s1,_,_,s4,_⟩:=mV q1 h0;rw[s4,List.length_set,s1.length_eq]
   unfold bT at h0⊢;split at h0
   ·rfl
   dsimp only at h0;omega
  unfold cM at HP;rw[el]at HP;rw[e0];by_cases h0:eH h a=true∧0≤(bT h.aA h.aB h.cells a).2
  ·rw[if_pos h0];have hv: ∃v,fA a h.vs=some v:=by
    have:=h0.1;unfold eH eM at this;rw[if_pos i]at this;cases hv:fA a h.vs with
    |none=>rw[hv]at this;simp at this
    |some v=>exact⟨v,rfl⟩
   obtain⟨v,hv⟩:=hv;obtain⟨v1,v2,v3,v4,v5,v6⟩:=lD hv;generalize hk:(vix a h.vs).toNat=kk at*;rw[v5]at HF;rw[h0.1]at HM;obtain⟨bb,j,rfl,t,_⟩:=hV.rd (by omega);have ee:h.vs.eraseIdx kk=h.vs.take kk++h.vs.drop (kk+1):=List.eraseIdx_eq_take_drop_succ _ _;have g:(h.vs.eraseIdx kk).length=h.vs.length-1:=by rw[List.length_eraseIdx,if_pos v4]
   by_cases hcc:kk+1<c2
   ·refine(rR h.aA h.aB h.free h.step h.aE h.aG h.aD h.aF (bT h.aA h.aB h.cells a).2 a b p _ cap bb j _ c2 kk h.cells (bT h.aA h.aB h.cells a).1 h.vs w h0.2 v4 (by omega) hcc (xQ hV) d HL HP HF HM).mono ?_;rintro e w' ⟨p',c,q',f,rfl,o1,o2,hx⟩;refine⟨p',c,q',f,?_,?_,?_,hx⟩
    ·simp only[cA,el,g]
    ·dsimp only;rw[el];exact o1
    dsimp only;rw[g,ee];exact o2
   have z:=hV.le;have e1:c2=kk+1:=by omega
   have e2:h.vs.length=kk+1:=by omega
   subst e1;rw[e2]at hV d HL HF HM g⊢;refine(qE h.aA h.aB h.free h.step h.aE h.aG h.aD h.aF (bT h.aA h.aB h.cells a).2 a b p _ cap bb j kk h.cells (bT h.aA h.aB h.cells a).1 h.vs w h0.2 (by omega) (xQ (List.drop_eq_nil_of_le (by omega))) (xQ hV) d HL HP HF HM).mono ?_;rintro e w' ⟨p',c,q',f,rfl,o1,o2,hx⟩;refine⟨p',c,q',f,?_,?_,?_,hx⟩
   ·simp[cA,el,g]
   ·dsimp only;rw[el];exact o1
   dsimp only;rw[g,ee,Nat.add_sub_cancel];exact o2
  rw[if_neg h0]
  exact tL h.aA h.aB h.free h.step h.aE h.aG h.aD h.aF (bT h.aA h.aB h.cells a).2 (vix a h.vs) a b p _ cap q _ c2 h.cells (bT h.aA h.aB h.cells a).1 h.vs w (eH h a) (fun e=>by
   by_cases hx:0≤(bT h.aA h.aB h.cells a).2
   ·exact absurd ⟨e,hx⟩ h0
   ·omega) d HL HP HF HM
 by_cases k3:k=3
 ·subst k3;have e0:cL h 3 a b=(if 1≤a∧a≤9999-h.aD then some ({h with aD:=h.aD+a},h.aD+a)else none):=by unfold cL;rw[if_neg (by omega),if_neg (by omega),if_neg (by omega),if_pos rfl]
  rw[e0];by_cases h0:1≤a∧a≤9999-h.aD
  ·rw[if_pos h0];exact tI h.aA h.aB h.free h.step h.aE h.aG h.aD h.aF a b p _ cap q _ c2 h.cells h.vs w q3.1 q3.2.1 h0.1 h0.2 d HL (xQ fun w'=>mB a 1 (9999-h.aD) w' h0.1 h0.2)
  rw[if_neg h0];exact uI h.aA h.aB h.free h.step h.aE h.aG h.aD h.aF a b p _ cap q _ c2 h.cells h.vs w q3.1 q3.2.1 d HL (xQ fun w'=>tS a 1 (9999-h.aD) w' (by omega))
 by_cases k4:k=4
 ·subst k4;have HP:=xQ fun(w':World) (hx:Ext w w')=>lF h.aA h.aB a b p _ cap h.cells w' (hS.ext hx) q1
  have e0:cL h 4 a b=(if aZ h.aA h.aB h.cells a b=true then some ({h with cells:=bC h.aA h.aB h.cells a b},0)else none):=by unfold cL;rw[if_neg (by omega),if_neg (by omega),if_neg (by omega),if_neg (by omega),if_pos rfl]
  unfold cN at HP;rw[cS]at HP;rw[e0];cases hm:aZ h.aA h.aB h.cells a b with
  |true=>
   rw[hm]at HP;rw[if_pos rfl];refine(rQ h.aA h.aB h.free h.step h.aE h.aG h.aD h.aF a b p _ cap q _ c2 h.cells (bC h.aA h.aB h.cells a b) h.vs w d HL HP).mono ?_;rintro e w' ⟨p',c,q',f,rfl,o1,o2,hx⟩;refine⟨p',c,q',f,?_,?_,o2,hx⟩
   ·simp only[cA,cS]
   dsimp only;rw[cS];exact o1
  |false=>rw[hm]at HP;rw[if_neg (by simp)];exact tK h.aA h.aB h.free h.step h.aE h.aG h.aD h.aF a b p _ cap q _ c2 h.cells (bC h.aA h.aB h.cells a b) h.vs w d HL HP
 have e0:cL h k a b=none:=by unfold cL;rw[if_neg k0,if_neg k1,if_neg k2,if_neg k3,if_neg k4]
 rw[e0];exact zR h.aA h.aB h.free h.step h.aE h.aG h.aD h.aF k a b p _ cap q _ c2 h.cells h.vs w k0 k1 k2 k3 k4 d HL
def bB (K:Int):Nat→List Value
 |0=> []
 |m+1=>bB K m++ [.int .i64 (K+m)]
theorem iB (K:Int)(m:Nat):(bB K m).length=m:=by induction m with|zero=>rfl|succ m ih=>simp[bB,ih]
theorem pB (K:Int): ∀(m j:Nat),j<m→(bB K m)[j]? =some (.int .i64 (K+j)):=by
 intro m;induction m with
 |zero=>intro j h;omega
 |succ m ih=>
  intro j h;by_cases hj:j<m
  ·rw[bB,List.getElem?_append_left (by rw[iB];exact hj)];exact ih j hj
  obtain rfl:j=m:=by omega
  rw[bB,List.getElem?_append_right (by rw[iB];omega),iB];simp
theorem aC1 (K:Int)(k:Nat):bB K ((k+1)*1)=bB K (k*1)++ [.int .i64 (K+(k*1:Nat))]:=by rw[Nat.succ_mul];rfl
theorem aC0 (K:Int)(k:Nat):bB K ((k+1)*4)=bB K (k*4)++ [.int .i64 (K+(k*4:Nat)),.int .i64 (K+(k*4:Nat)+1),.int .i64 (K+(k*4:Nat)+1+1),.int .i64 (K+(k*4:Nat)+1+1+1)]:=by
 have e1:K+((k*4+1:Nat):Int)=K+(k*4:Nat)+1:=by omega
 have e2:K+((k*4+2:Nat):Int)=K+(k*4:Nat)+1+1:=by omega
 have e3:K+((k*4+3:Nat):Int)=K+(k*4:Nat)+1+1+1:=by omega
 rw[Nat.succ_mul];show bB K (k*4)++ [.int .i64 (K+(k*4:Nat))]++ [.int .i64 (K+((k*4+1:Nat):Int))]++ [.int .i64 (K+((k*4+2:Nat):Int))]++ [.int .i64 (K+((k*4+3:Nat):Int))]=_;rw[e1,e2,e3];simp only[List.append_assoc,List.cons_append,List.nil_append]
set_option maxHeartbeats 8000000
set_option maxRecDepth 100000
theorem aFc (aA aB:Int)(p q:OA)(n c1 c2:Nat)(xs:List Int)(w:World)(h1:Sl w p n c1 1 (ivs xs))(h2:Sl w q n c2 1 (ivs xs)):
  Calls Tryz.prog 65 #[aH aA aB p n c1,aH aA aB q n c2] w fun e w'=>e= .returned (.bool true)∧Ext w w':=by
 have H1:=xQ h1;have H2:=xQ h2;clear h1 h2;go_enter Tryz.func65,Tryz.ntmps65;go_wp2_with fail;refine(aFb p q n c1 c2 xs _ (H1.out.ext xE) (H2.out.ext xE)).mono ?_;rintro e w1 ⟨rfl,hx⟩;go_wp2;go_ret;exact⟨rfl,xE⟩
theorem lN (h:aW)(p1:OA)(n c1:Nat)(q1:OA)(m d1:Nat)(p2:OA)(c2:Nat)(q2:OA)(d2:Nat)(w:World)(k:IsHouse w h p1 n c1 q1 m d1)(l:IsHouse w h p2 n c2 q2 m d2):
  Calls Tryz.prog 28 #[cA h p1 n c1 q1 m d1,cA h p2 n c2 q2 m d2] w fun e w'=>e= .returned (.bool true)∧Ext w w':=by
 have H1:=xQ k;have H2:=xQ l;clear k l;obtain⟨aA,aB,j,a,b,aE,aG,aD,aF,vs⟩:=h;go_enter Tryz.func28,Tryz.ntmps28;go_wp2_with fail;refine(aFc aA aB p1 p2 n c1 c2 j _ (H1.out.cells.ext xE) (H2.out.cells.ext xE)).mono ?_;rintro e w1 ⟨rfl,d⟩;have BA:=xQ (((Blk.new w 30 #[aA,aB,.slice p1 n c1,a,b,aE,aG,aD,aF,.slice q1 m d1]).alloc (.cells #[aA,aB,.slice p2 n c2,a,b,aE,aG,aD,aF,.slice q2 m d2] 30)).ext d);have c:=xQ ((Blk.new (w.alloc (.cells #[aA,aB,.slice p1 n c1,a,b,aE,aG,aD,aF,.slice q1 m d1] 30)) 30 #[aA,aB,.slice p2 n c2,a,b,aE,aG,aD,aF,.slice q2 m d2]).ext d);simp only[World.size_alloc]at c;have o:Ext w w1:=(((Ext.refl w).alloc _).alloc _).trans d;have ha:w.heap.size+1<w1.heap.size:=Nat.lt_of_lt_of_le (by simp) d.sz;clear d;have a3:=BA.out.cl 3;have a4:=BA.out.cl 4;have a5:=BA.out.cl 5;have a6:=BA.out.cl 6;have b3:=c.out.cl 3;have b4:=c.out.cl 4;have b5:=c.out.cl 5;have b6:=c.out.cl 6;go_wp2_with fail;clear a3 a4 a5 a6 b3 b4 b5 b6;refine(aAx a b aE aG _).mono ?_;rintro e w2 ⟨rfl,f⟩;have p:Ext w w2:=o.trans f;have q:w.heap.size+1<w2.heap.size:=Nat.lt_of_lt_of_le ha f.sz;have g:=xQ (BA.out.ext f);have i:=xQ (c.out.ext f);clear f BA c;have a7:=g.out.cl 7;have a8:=g.out.cl 8;have a9:=g.out.cl 9;have b7:=i.out.cl 7;have b8:=i.out.cl 8;have b9:=i.out.cl 9;go_wp2_with fail;clear a7 a8 a9 b7 b8 b9;refine(aAw q1 q2 m d1 d2 vs _ (H1.out.vs.ext xE) (H2.out.vs.ext xE)).mono ?_;rintro e w3 ⟨rfl,r⟩;go_wp2;go_ret;exact⟨rfl,xE⟩
theorem aKf {W0 wr:World}{B:Nat}(hg:W0.grownBy wr (some B))(o:Nat)(v:Value):W0.grownBy (wr.setCell ⟨B,o,none⟩ v) (some B):=
 ⟨hg.os,hg.tape,hg.output,by simpa using hg.size,fun k hk hne=>by rw[Below.heap_setCell _ _ _ _ (fun e=>hne (by simp[e]))];exact hg.block k hk hne⟩
def ChgE (e:TypeId)(B T:Nat)(w w':World):Prop:= ∃row,w.grownBy w' row∧ ∀g,row=some g→B≤g∧g<T∧ ∃cur,w.heap[g]? =some (.cells cur e (0,0))
theorem ChgE.chg {e:TypeId}{B T:Nat}{w w':World}(h:ChgE e B T w w'):Chg B T w w':=by obtain⟨a,hg,hr⟩:=h;exact Chg.of_grown hg (fun g e=>⟨(hr g e).1,(hr g e).2.1⟩)
theorem Blk.chg {w w':World}{g B T:Nat}{t:TypeId}{cs:Array Value}(h:Blk w g t cs)(hc:Chg B T w w')(hd:g<B∨T≤g):Blk w' g t cs:=(hc.block g h.lt hd).trans h
theorem aA3 (g n cap base:Nat)(xs:List Value)(K0:Int)(w:World)(q:n≤1099511627776)(h0:0≤K0)(h1:K0≤4611686018427387904)
  (HO:Hid (w.ownsRow base TI 1 (.slice (some ⟨g,0,none⟩) n cap) n xs)):
  Calls Tryz.prog 118 #[.slice (some ⟨g,0,none⟩) n cap,K0] w fun e w'=>e= .returned (.int .i64 (K0+(n*1:Nat)))∧w'.ownsRow base TI 1 (.slice (some ⟨g,0,none⟩) n cap) n (bB K0 (n*1))∧w.grownBy w' (some g):=by
 go_enter Tryz.func118,Tryz.ntmps118;go_wp2;go_loopw [1,5] (fun kk i wr=> ∃(k:Nat) (K:Int) (rest:List Value),k≤n∧kk= .int .i64 K∧i= .int .i64 k∧K=K0+(k*1:Nat)∧rest.length=(n-k)*1∧wr.ownsRow base TI 1 (.slice (some ⟨g,0,none⟩) n cap) n (bB K0 (k*1)++rest)∧w.grownBy wr (some g)) (fun _ i _=>n-(intOf i).toNat)
 case atStart=>exact⟨0,K0,xs,Nat.zero_le _,rfl,rfl,by simp,by rw[HO.out.1];simp,by simpa[bB]using HO.out,World.grownBy.refl _ _⟩
 case round=>
  obtain⟨k,K,rest,hk,rfl,rfl,hK,j,d,hg⟩:=hrel;have o:0≤K:=by omega
  have p:K≤4611697013543665664:=by omega
  have HK:=xQ hK;have b:=xQ d;have f:=xQ j;have HG:=xQ hg;clear hK d j hg;by_cases hlt:k<n
  ·obtain⟨r0,rest',a⟩: ∃r0 rest',rest=r0::rest':=by
    have h3:1≤rest.length:=by rw[f.out];have:=Nat.mul_le_mul_right 1 (show 1≤n-k by omega);omega
    match rest,h3 with
    |r0::rest',_=>exact⟨r0,rest',rfl⟩
   have h:(bB K0 (k*1)).length=k*1:=iB _ _;have o0:wr.cell? ⟨g,k,none⟩=some r0:=by rw[b.out.cellAt _ (by have:=Nat.mul_le_mul_right 1 hlt;rw[Nat.succ_mul]at this;omega),a,List.getElem?_append_right (by omega),h];simp
   have f0:wr.frozen? ⟨g,k,none⟩=false:=b.out.frozenAt _;have m:=xQ h;have c:=xQ a;clear h a;go_wp2;go_roundw
   case rel=>
    refine⟨k+1,K+1,rest',by omega,by go_num,by go_num,by rw[HK.out];omega,?_,?_,?_⟩
    ·have:=f.out;rw[c.out]at this;simp only[List.length_cons]at this;have e2:n-k=(n-(k+1))+1:=by omega
     rw[e2,Nat.succ_mul]at this;omega
    ·have hs:=(b.out.stored (k) (.int .i64 (K))).1;have e:((bB K0 (k*1)++rest).set (k) (.int .i64 (K)))=bB K0 ((k+1)*1)++rest':=by
      rw[aC1,c.out,←HK.out];have:=m.out;try simp only[Nat.mul_one]at this
      simp[this]
     rw[e]at hs;exact hs
    exact(aKf HG _ _)
   case measure=>simp[intOf];omega
  obtain rfl:k=n:=by omega
  have e2:rest= []:=List.eq_nil_of_length_eq_zero (by rw[f.out];simp);have l:=xQ e2;clear e2;go_wp2;go_ret;refine⟨dG (by simpa using HK.out),?_,HG.out⟩;have:=b.out;rw[l.out]at this;simpa using this
theorem aA2 (p:OA)(cap:Nat)(K0:Int)(w:World):
  Calls Tryz.prog 118 #[.slice p 0 cap,K0] w fun e w'=>e= .returned (.int .i64 K0)∧w=w':=by
 go_enter Tryz.func118,Tryz.ntmps118;go_wp2;go_rounds 1;go_ret;exact⟨rfl,rfl⟩
theorem aAq (b c n cap:Nat)(K0:Int)(w:World)(g:n≤1099511627776)(h0:0≤K0)(h1:K0≤4611686018427387904)
  (HR:Hid (∀j,j<n*1→w.cell? ⟨b,c+j,none⟩=some (.int .i64 (K0+j)))):
  Calls Tryz.prog 119 #[.slice (some ⟨b,c,none⟩) n cap,K0] w fun e w'=>e= .returned (.int .i64 (K0+(n*1:Nat)))∧w=w':=by
 go_enter Tryz.func119,Tryz.ntmps119;go_wp2;go_loop [1,5] (fun kk i=> ∃(k:Nat) (K:Int),k≤n∧kk= .int .i64 K∧i= .int .i64 k∧K=K0+(k*1:Nat)) (fun _ i=>n-(intOf i).toNat)
 case atStart=>exact⟨0,K0,Nat.zero_le _,rfl,rfl,by simp⟩
 case round=>
  obtain⟨k,K,hk,rfl,rfl,hK⟩:=hrel;have d:0≤K:=by omega
  have f:K≤4611697013543665664:=by omega
  by_cases hlt:k<n
  ·have a:=Nat.mul_le_mul_right 1 hlt;rw[Nat.succ_mul]at a;have v0:w.cell? ⟨b,c+k,none⟩=some (.int .i64 (K)):=by have:=HR (k) (by omega);rw[show(K:Int)=K0+((k:Nat):Int) by omega];exact this
   have HK:=xQ hK;clear hK a;go_wp2;go_round
   case rel=>exact⟨k+1,K+1,by omega,by go_num,by go_num,by rw[HK.out];omega⟩
   case measure=>simp[intOf];omega
  obtain rfl:k=n:=by omega
  have HK:=xQ hK;clear hK;go_wp2;go_ret;exact⟨dG (by simpa using HK.out),rfl⟩
theorem aAp (p:OA)(cap:Nat)(K0:Int)(w:World):
  Calls Tryz.prog 119 #[.slice p 0 cap,K0] w fun e w'=>e= .returned (.int .i64 K0)∧w=w':=by
 go_enter Tryz.func119,Tryz.ntmps119;go_wp2;go_rounds 1;go_ret;exact⟨rfl,rfl⟩
theorem uY (g n cap base:Nat)(xs:List Value)(K0:Int)(w:World)(q:n≤1099511627776)(h0:0≤K0)(h1:K0≤4611686018427387904)
  (HO:Hid (w.ownsRow base TV 4 (.slice (some ⟨g,0,none⟩) n cap) n xs)):
  Calls Tryz.prog 69 #[.slice (some ⟨g,0,none⟩) n cap,K0] w fun e w'=>e= .returned (.int .i64 (K0+(n*4:Nat)))∧w'.ownsRow base TV 4 (.slice (some ⟨g,0,none⟩) n cap) n (bB K0 (n*4))∧w.grownBy w' (some g):=by
 go_enter Tryz.func69,Tryz.ntmps69;go_wp2;go_loopw [1,5] (fun kk i wr=> ∃(k:Nat) (K:Int) (rest:List Value),k≤n∧kk= .int .i64 K∧i= .int .i64 k∧K=K0+(k*4:Nat)∧rest.length=(n-k)*4∧wr.ownsRow base TV 4 (.slice (some ⟨g,0,none⟩) n cap) n (bB K0 (k*4)++rest)∧w.grownBy wr (some g)) (fun _ i _=>n-(intOf i).toNat)
 case atStart=>exact⟨0,K0,xs,Nat.zero_le _,rfl,rfl,by simp,by rw[HO.out.1];simp,by simpa[bB]using HO.out,World.grownBy.refl _ _⟩
 case round=>
  obtain⟨k,K,rest,hk,rfl,rfl,hK,j,f,hg⟩:=hrel;have o:0≤K:=by omega
  have p:K≤4611697013543665664:=by omega
  have HK:=xQ hK;have a:=xQ f;have h:=xQ j;have HG:=xQ hg;clear hK f j hg;by_cases hlt:k<n
  ·obtain⟨r0,r1,r2,r3,rest',b⟩: ∃r0 r1 r2 r3 rest',rest=r0::r1::r2::r3::rest':=by
    have h3:4≤rest.length:=by rw[h.out];have:=Nat.mul_le_mul_right 4 (show 1≤n-k by omega);omega
    match rest,h3 with
    |r0::r1::r2::r3::rest',_=>exact⟨r0,r1,r2,r3,rest',rfl⟩
   have c:(bB K0 (k*4)).length=k*4:=iB _ _;have o0:wr.cell? ⟨g,k*4,none⟩=some r0:=by rw[a.out.cellAt _ (by have:=Nat.mul_le_mul_right 4 hlt;rw[Nat.succ_mul]at this;omega),b,List.getElem?_append_right (by omega),c];simp
   have f0:wr.frozen? ⟨g,k*4,none⟩=false:=a.out.frozenAt _;have o1:wr.cell? ⟨g,k*4+1,none⟩=some r1:=by rw[a.out.cellAt _ (by have:=Nat.mul_le_mul_right 4 hlt;rw[Nat.succ_mul]at this;omega),b,List.getElem?_append_right (by omega),c];simp
   have f1:wr.frozen? ⟨g,k*4+1,none⟩=false:=a.out.frozenAt _;have o2:wr.cell? ⟨g,k*4+2,none⟩=some r2:=by rw[a.out.cellAt _ (by have:=Nat.mul_le_mul_right 4 hlt;rw[Nat.succ_mul]at this;omega),b,List.getElem?_append_right (by omega),c];simp
   have f2:wr.frozen? ⟨g,k*4+2,none⟩=false:=a.out.frozenAt _;have o3:wr.cell? ⟨g,k*4+3,none⟩=some r3:=by rw[a.out.cellAt _ (by have:=Nat.mul_le_mul_right 4 hlt;rw[Nat.succ_mul]at this;omega),b,List.getElem?_append_right (by omega),c];simp
   have f3:wr.frozen? ⟨g,k*4+3,none⟩=false:=a.out.frozenAt _;have m:=xQ c;have d:=xQ b;clear c b;go_wp2;go_roundw
   case rel=>
    refine⟨k+1,K+1+1+1+1,rest',by omega,by go_num,by go_num,by rw[HK.out];omega,?_,?_,?_⟩
    ·have:=h.out;rw[d.out]at this;simp only[List.length_cons]at this;have e2:n-k=(n-(k+1))+1:=by omega
     rw[e2,Nat.succ_mul]at this;omega
    ·have hs:=((((a.out.stored (k*4) (.int .i64 (K))).1.stored (k*4+1) (.int .i64 (K+1))).1.stored (k*4+2) (.int .i64 (K+1+1))).1.stored (k*4+3) (.int .i64 (K+1+1+1))).1;have e:(((((bB K0 (k*4)++rest).set (k*4) (.int .i64 (K))).set (k*4+1) (.int .i64 (K+1))).set (k*4+2) (.int .i64 (K+1+1))).set (k*4+3) (.int .i64 (K+1+1+1)))=bB K0 ((k+1)*4)++rest':=by
      rw[aC0,d.out,←HK.out];have:=m.out;try simp only[Nat.mul_one]at this
      simp[this]
     rw[e]at hs;exact hs
    exact(aKf (aKf (aKf (aKf HG _ _) _ _) _ _) _ _)
   case measure=>simp[intOf];omega
  obtain rfl:k=n:=by omega
  have e2:rest= []:=List.eq_nil_of_length_eq_zero (by rw[h.out];simp);have l:=xQ e2;clear e2;go_wp2;go_ret;refine⟨dG (by simpa using HK.out),?_,HG.out⟩;have:=a.out;rw[l.out]at this;simpa using this
theorem uX (p:OA)(cap:Nat)(K0:Int)(w:World):
  Calls Tryz.prog 69 #[.slice p 0 cap,K0] w fun e w'=>e= .returned (.int .i64 K0)∧w=w':=by
 go_enter Tryz.func69,Tryz.ntmps69;go_wp2;go_rounds 1;go_ret;exact⟨rfl,rfl⟩
theorem vM (b a n cap:Nat)(K0:Int)(w:World)(g:n≤1099511627776)(h0:0≤K0)(h1:K0≤4611686018427387904)
  (HR:Hid (∀j,j<n*4→w.cell? ⟨b,a+j,none⟩=some (.int .i64 (K0+j)))):
  Calls Tryz.prog 71 #[.slice (some ⟨b,a,none⟩) n cap,K0] w fun e w'=>e= .returned (.int .i64 (K0+(n*4:Nat)))∧w=w':=by
 go_enter Tryz.func71,Tryz.ntmps71;go_wp2;go_loop [1,5] (fun kk i=> ∃(k:Nat) (K:Int),k≤n∧kk= .int .i64 K∧i= .int .i64 k∧K=K0+(k*4:Nat)) (fun _ i=>n-(intOf i).toNat)
 case atStart=>exact⟨0,K0,Nat.zero_le _,rfl,rfl,by simp⟩
 case round=>
  obtain⟨k,K,hk,rfl,rfl,hK⟩:=hrel;have d:0≤K:=by omega
  have f:K≤4611697013543665664:=by omega
  by_cases hlt:k<n
  ·have c:=Nat.mul_le_mul_right 4 hlt;rw[Nat.succ_mul]at c;have v0:w.cell? ⟨b,a+k*4,none⟩=some (.int .i64 (K)):=by have:=HR (k*4) (by omega);rw[show(K:Int)=K0+((k*4:Nat):Int) by omega];exact this
   have v1:w.cell? ⟨b,a+k*4+1,none⟩=some (.int .i64 (K+1)):=by have:=HR (k*4+1) (by omega);rw[show(K+1:Int)=K0+((k*4+1:Nat):Int) by omega];exact this
   have v2:w.cell? ⟨b,a+k*4+2,none⟩=some (.int .i64 (K+1+1)):=by have:=HR (k*4+2) (by omega);rw[show(K+1+1:Int)=K0+((k*4+2:Nat):Int) by omega];exact this
   have v3:w.cell? ⟨b,a+k*4+3,none⟩=some (.int .i64 (K+1+1+1)):=by have:=HR (k*4+3) (by omega);rw[show(K+1+1+1:Int)=K0+((k*4+3:Nat):Int) by omega];exact this
   have HK:=xQ hK;clear hK c;go_wp2;go_round
   case rel=>exact⟨k+1,K+1+1+1+1,by omega,by go_num,by go_num,by rw[HK.out];omega⟩
   case measure=>simp[intOf];omega
  obtain rfl:k=n:=by omega
  have HK:=xQ hK;clear hK;go_wp2;go_ret;exact⟨dG (by simpa using HK.out),rfl⟩
theorem vL (p:OA)(cap:Nat)(K0:Int)(w:World):
  Calls Tryz.prog 71 #[.slice p 0 cap,K0] w fun e w'=>e= .returned (.int .i64 K0)∧w=w':=by
 go_enter Tryz.func71,Tryz.ntmps71;go_wp2;go_rounds 1;go_ret;exact⟨rfl,rfl⟩
theorem ChgE.pre {e:TypeId}{B T:Nat}{w a w':World}(h:ChgE e B T a w')(hx:Ext w a)(hT:T≤w.heap.size):ChgE e B T w w':=by obtain⟨c,hg,hr⟩:=h;refine⟨c,⟨hg.os.trans hx.os,hg.tape.trans hx.tape,hg.output.trans hx.output,Nat.le_trans hx.size hg.size,fun i hi hne=>(hg.block i (Nat.lt_of_lt_of_le hi hx.size) hne).trans (hx.block i hi)⟩,fun g e=> ?_⟩;obtain⟨h1,h2,b,h3⟩:=hr g e;exact⟨h1,h2,b,by rw[←hx.block g (by omega)];exact h3⟩
end Go.Proofs.YtpelpnfhbepokaaGreatDoor
namespace Go.Proofs.YtpelpnfhbepokaaGreatDoor
open Go.RowKit
set_option linter.unusedVariables false
set_option linter.unusedSimpArgs false
abbrev TDd:TypeId:=44
abbrev Dd3:=Int×Int×Int
def iF (d:Dd3):List Value:= [.int .i64 d.1,.int .i64 d.2.1,.int .i64 d.2.2]
theorem aG7 {w:World}{q:OA}{m c2:Nat}{ds:List Dd3}(h:Sl w q m c2 3 (ds.flatMap iF)){k:Nat}(hk:k<m):
  ∃b off a0 a1 a2,q=some ⟨b,off,none⟩∧ds[k]? =some (a0,a1,a2)∧b<w.heap.size∧w.cell? ⟨b,off+k*3,none⟩=some (.int .i64 a0)∧w.cell? ⟨b,off+k*3+1,none⟩=some (.int .i64 a1)∧w.cell? ⟨b,off+k*3+2,none⟩=some (.int .i64 a2):=by
 obtain⟨b,off,x,hp,hx,hb,hc⟩:=Sl.at_ (sz:=3) (f:=iF) (fun _=>rfl) h hk (by omega);obtain⟨a0,a1,a2⟩:=x;exact⟨b,off,a0,a1,a2,hp,hx,hb,hc 0 (by omega),hc 1 (by omega),hc 2 (by omega)⟩
theorem Mem.own2blk {w0 w w':World}{L:List Item}{e1 e2 t:TypeId}{s1 s2 n1 n2 c1 c2 g:Nat}{q1 q2:OA}{d a:List Value}{cs:Array Value}(h:Mem w0 w L)(hx:Ext w w')(hb:Blk w' g t cs)(hg:w.heap.size≤g)(h1:w'.ownsRow w.heap.size e1 s1 (.slice q1 n1 c1) n1 d)(h2:w'.ownsRow w.heap.size e2 s2 (.slice q2 n2 c2) n2 a)(ht:e1≠e2)(t1:e1≠t)(t2:e2≠t):
  Mem w0 w' (aI w0.heap.size e1 s1 q1 n1 c1 d::aI w0.heap.size e2 s2 q2 n2 c2 a::aJ w0.heap.size g t cs::L):=by
 have b: ∀ {e:TypeId} {s n c:Nat} {q:OA} {xs:List Value},w'.ownsRow w.heap.size e s (.slice q n c) n xs→e≠t→(Value.slice q n c).ownBlock≠Option.some g:=by
  intro e s n c q xs ho f he;rcases ho.2 with⟨b1,_⟩|⟨g1,cap1,cur1,b1,_,b3,_⟩
  ·rw[b1]at he;cases he
  rw[b1]at he;injection he with he;have x1:g1=g:=he;subst x1;unfold Blk at hb;rw[hb]at b3;injection b3 with b3;injection b3 with _ b3;exact f b3.symm
 have H:=h.own2 hx h1 h2 (Nat.le_refl _) ht;have p1:=List.pairwise_cons.1 H.apart;have p2:=List.pairwise_cons.1 p1.2;have HB:=h.blkOf hx hb hg
 have H2:Mem w0 w' (aI w0.heap.size e2 s2 q2 n2 c2 a::aJ w0.heap.size g t cs::L):=HB.cons (jL _ _ _ _ _ _ _) (iZ h2 h.ext.sz) (fun g' hg' j hj e=>by
  rcases List.mem_cons.1 hj with rfl|hj
  ·obtain rfl:g=g':=e;exact b h2 t2 hg'
  ·exact p2.1 j hj g' hg' e)
 exact H2.cons (jL _ _ _ _ _ _ _) (iZ h1 h.ext.sz) (fun g' hg' j hj e=>by
  rcases List.mem_cons.1 hj with rfl|hj
  ·exact p1.1 _ (by simp) g' hg' e
  ·rcases List.mem_cons.1 hj with rfl|hj
   ·obtain rfl:g=g':=e;exact b h1 t1 hg'
   ·exact p1.1 j (by simp[hj]) g' hg' e)
def hZ:aW:=⟨0,0,[],0,0,0,0,0,0,[]⟩
def doR (h:aW)(k a b:Int):aW×Int×Bool:=
 if bU h=true then(match cL h k a b with
  |none=>(h,-1,false)
  |some (h',n)=>(h',n,true))else(hZ,-1,false)
def aNh (B:Nat)(r:aW×Int×Bool)(w':World)(e:Ending)(w'':World):Prop:=
 ∃pa ca qa da,e= .returned (.tuple #[cA r.1 pa r.1.cells.length ca qa r.1.vs.length da,r.2.1,.bool r.2.2])∧w''.ownsRow B TI 1 (.slice pa r.1.cells.length ca) r.1.cells.length (ivs r.1.cells)∧w''.ownsRow B TV 4 (.slice qa r.1.vs.length da) r.1.vs.length (r.1.vs.flatMap aC)∧Ext w' w''
theorem aFu {h:aW}{k a b:Int}{w w':World}{e:Ending}{B:Nat}(hB:B≤w.heap.size)(c:bU h=true)(hr:aGe h (cL h k a b) w e w'):aNh B (doR h k a b) w e w':=by
 unfold doR;rw[if_pos c];unfold aGe at hr;cases hd:cL h k a b with
 |none=>rw[hd]at hr;obtain⟨pa,ca,qa,da,rfl,o1,o2,hx⟩:=hr;exact⟨pa,ca,qa,da,rfl,iZ o1 hB,iZ o2 hB,hx⟩
 |some r=>obtain⟨h',n⟩:=r;rw[hd]at hr;obtain⟨pa,ca,qa,da,rfl,o1,o2,hx⟩:=hr;exact⟨pa,ca,qa,da,rfl,iZ o1 hB,iZ o2 hB,hx⟩
abbrev TB:TypeId:=4
def bcs (bs:List Bool):List Value:=bs.map .bool
theorem aM3 (bs:List Bool):(bcs bs).length=bs.length:=by simp[bcs]
theorem aD8 (bs:List Bool)(b:Bool):bcs (bs++ [b])=bcs bs++ [.bool b]:=by simp[bcs]
theorem elB:ElT Tryz.prog 34 TB 1:=
 ⟨Tryz.underlying34,by
  obtain⟨i,hi,h0,h1,h2⟩:=info_parts (show(Tryz.prog.info? TB).map (fun i=>(i.zero,i.size,i.bytes))=some (some (.bool false),1,1) by kernel_rfl)
  exact⟨i,_,hi,h0,h1,by omega,rfl⟩,by omega⟩
def uW (h:aW)(d:Dd3):aW:=(doR h d.1 d.2.1 d.2.2).1
def nK (h:aW)(ds:List Dd3):aW:=ds.foldl uW h
def eJ:aW→List Dd3→List Bool
 |_,[]=> []
 |h,d::ds=>(doR h d.1 d.2.1 d.2.2).2.2::eJ (uW h d) ds
theorem xS (h:aW)(l:List Dd3)(d:Dd3):nK h (l++ [d])=(doR (nK h l) d.1 d.2.1 d.2.2).1:=by simp[nK,uW]
theorem vQ: ∀(l:List Dd3) (h:aW) (d:Dd3),eJ h (l++ [d])=eJ h l++ [(doR (nK h l) d.1 d.2.1 d.2.2).2.2]:=by
 intro l;induction l with
 |nil=>intro h d;rfl
 |cons x l ih=>intro h d;show _::eJ (uW h x) (l++ [d])=_;rw[ih];rfl
theorem oS: ∀(l:List Dd3) (h:aW),(eJ h l).length=l.length:=by
 intro l;induction l with
 |nil=>intro h;rfl
 |cons x l ih=>intro h;show(eJ (uW h x) l).length+1=_;rw[ih];rfl
theorem aJo {h:aW}(a:bU h=true)(d:Dd3):bU (uW h d)=true:=by
 unfold uW doR;rw[if_pos a];cases hd:cL h d.1 d.2.1 d.2.2 with
 |none=>exact a
 |some r=>obtain⟨h',n⟩:=r;exact(vJ a hd).1
theorem zY: ∀(l:List Dd3) {h:aW},bU h=true→bU (nK h l)=true:=by
 intro l;induction l with
 |nil=>intro h a;exact a
 |cons x l ih=>intro h a;exact ih (aJo a x)
def wP (h:aW)(ds:List Dd3):aW×List Bool:=if bU h=true then(nK h ds,eJ h ds)else(hZ,[])
def nA (B:Nat)(r:aW×List Bool)(w':World)(e:Ending)(w'':World):Prop:=
 ∃pa ca qa da ps cs,e= .returned (.tuple #[cA r.1 pa r.1.cells.length ca qa r.1.vs.length da,.slice ps r.2.length cs])∧w''.ownsRow B TI 1 (.slice pa r.1.cells.length ca) r.1.cells.length (ivs r.1.cells)∧w''.ownsRow B TV 4 (.slice qa r.1.vs.length da) r.1.vs.length (r.1.vs.flatMap aC)∧w''.ownsRow B TB 1 (.slice ps r.2.length cs) r.2.length (bcs r.2)∧Ext w' w''
end Go.Proofs.YtpelpnfhbepokaaGreatDoor
