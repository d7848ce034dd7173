/-
  A law's walk or frame (@packed).
-/
import Derived.Test.YtgnkoffndhmhpaaGreatDoorP2
import Derived.Test.YtgnkoffndhmhpaaGreatDoorP5
import Derived.Test.YtgnkoffndhmhpaaGreatDoorP8
import Derived.Test.YtgnkoffndhmhpaaGreatDoorP22
import Derived.Test.YtgnkoffndhmhpaaGreatDoorP27
import Derived.Test.YtgnkoffndhmhpaaGreatDoorP38
namespace Go.Proofs.YtgnkoffndhmhpaaGreatDoor
open Go.RowKit
set_option linter.unusedVariables false
set_option linter.unusedSimpArgs false
set_option maxHeartbeats 8000000
set_option maxRecDepth 100000
theorem aL3 {h r:aO}{k a b num:Int}(hr:doR h k a b=(r,num,true)):aS h=true∧bL h k a b=some (r,num):=by
 unfold doR at hr
 by_cases hok:aS h=true
 ·rw[if_pos hok]at hr
  cases hd:bL h k a b with
  |none=>rw[hd]at hr;simp at hr
  |some x=>
   obtain⟨g,n⟩:=x
   rw[hd]at hr
   simp only[Prod.mk.injEq]at hr
   obtain⟨rfl,rfl,_⟩:=hr
   exact⟨hok,rfl⟩
 ·rw[if_neg hok]at hr;simp at hr
theorem aI8 {h:aO}(hok:aS h=true):0≤cL h∧cL h≤8316:=by
 have:=aEj hok
 unfold cL;rw[if_pos hok];exact this
theorem zP {h:aO}(hok:aS h=true)(k:Nat):0≤iR (fun v=>aQ h v.1) (h.vs.take k)∧iR (fun v=>aQ h v.1) (h.vs.take k)≤8316:=by
 obtain⟨_,hl,_⟩:=dL hok
 have hb:=tE (fun v=>aQ h v.1) (h.vs.take k) 0 (fun v hv=>by
  rw[lF hok (List.mem_of_mem_take hv)]
  exact mB hok (List.mem_of_mem_take hv))
 have:(h.vs.take k).length≤12:=by rw[List.length_take];omega
 simp only[iR]
 omega
theorem tD (p:OA)(n cap:Nat)(w:World)(h:(1048576:Int)<n):
  Calls Tryz.prog 6 #[.slice p n cap] w fun e w'=>e= .returned (.bool true)∧Ext w w':=by
 go_enter Tryz.func6,Tryz.ntmps6
 go_wp2
 go_ret
 exact⟨rfl,xE⟩
theorem vQ (p0:OA)(n0 cap0:Nat)(w:World)(hn:(n0:Int)≤1048576)(HE:Hid (Env w))(HBt:Hid (BitTab w))
  (HD:Calls Tryz.prog 33 #[.slice p0 n0 cap0] w (kM w)):
  Calls Tryz.prog 6 #[.slice p0 n0 cap0] w fun e w'=>e= .returned (.bool true)∧Ext w w':=by
 unfold kM at HD
 have HD:=xQ HD
 have bc:decide ((1048576:Int)<(n0:Int))=false:=by simp;omega
 have bd:decide (1048576<n0)=false:=by simp;omega
 go_enter Tryz.func6,Tryz.ntmps6
 go_wp2_with fail
 refine HD.out.mono ?_
 rintro e w1 ⟨h,p,a,q,c2,rfl,bi,b0,hi,ax⟩
 have HI:=xQ hi
 have f:=xQ ax
 clear hi HD ax bc bd
 have ae:=xQ fun(w':World) (hx:Ext w1 w')=>lL h p _ a q _ c2 w' (HI.out.ext hx)
 have aj:=xQ fun(w':World) (hx:Ext w1 w')=>vD h p _ a q _ c2 w' (HI.out.ext hx)
 obtain⟨X,hX⟩: ∃x,cL h=x:=⟨_,rfl⟩
 rw[hX]at ae aj
 go_wp2_with fail
 refine(ae _ ((Mem.start w1).bn aL #[h.aA,h.aB,.slice p h.cells.length a,h.free,h.step,h.aD,h.aG,h.aC,h.aF,.slice q h.vs.length c2] (w1.heap.size)).ext).mono ?_
 rintro e w2 ⟨rfl,ar⟩
 have M2:=(((Mem.start w1).bn aL #[h.aA,h.aB,.slice p h.cells.length a,h.free,h.step,h.aD,h.aG,h.aC,h.aF,.slice q h.vs.length c2] (w1.heap.size)).adv ar)
 have af:=M2.hi 0
 clear ar
 obtain⟨ah,ag,an,aq,ak,al,ap,z,ai,j⟩:=(M2.bk 0).ten
 go_wp2_with fail
 clear ah ag an aq ak al ap z ai j
 refine(aj _ M2.ext).mono ?_
 rintro e w3 ⟨rfl,aw⟩
 have M3:=(M2.adv aw)
 clear M2 af aw ae aj
 have ab:=M3.hi 0
 by_cases hok:aS h=true
 ·skip
  have bu:0≤X∧X≤8316:=by have:=aI8 hok;rwa[hX]at this
  have e0:decide (X<0)=false:=by simp;omega
  have a8:Hid (iR (fun v=>aQ h v.1) h.vs=X):=by show _=_;rw[aAk hok,hX]
  have av:=xQ hok
  have be:=xQ hX
  clear hok hX
  go_wp2
  clear e0
  go_loopw [5,6] (fun sm i wr=> ∃(k:Nat) (S:Int),k≤h.vs.length∧i= .int .i64 (k:Int)∧sm= .int .i64 S∧S=iR (fun v=>aQ h v.1) (h.vs.take k)∧Mem w1 wr [aI w1.heap.size (w1.heap.size) aL #[h.aA,h.aB,.slice p h.cells.length a,h.free,h.step,h.aD,h.aG,h.aC,h.aF,.slice q h.vs.length c2]]) (fun _ i _=>h.vs.length-(intOf i).toNat)
  case atStart=>exact⟨0,0,Nat.zero_le _,rfl,rfl,by simp[iR],M3⟩
  case round=>
   clear M3 ab
   obtain⟨k,S,hk,rfl,rfl,hS,hM⟩:=hrel
   have HM:=hM
   have bb:=zP av k
   rw[←hS]at bb
   have a4:=xQ hS
   clear hM hS
   have o:w1.heap.size<wr.heap.size:=(HM.hi 0)
   by_cases hlt:k<h.vs.length
   ·skip
    obtain⟨b,aa,a0,a1,a2,a3,rfl,hx,hb,g0,g1,g2,g3⟩:=dW (HI.out.vs.ext HM.ext) hlt
    obtain⟨D,hD⟩: ∃d,aQ h a0=d:=⟨_,rfl⟩
    have ad:Hid (S+D=iR (fun v=>aQ h v.1) (h.vs.take (k+1))):=by
     show _=_
     rw[qU _ hx,←a4.out,←hD]
    have ba:=zP av (k+1)
    rw[←ad.out]at ba
    have az:=xQ fun(w':World) (hx:Ext wr w')=>mR h a0 p _ a _ _ c2 w' (HI.out.ext (HM.ext.trans hx))
    rw[hD]at az
    clear hx hD g1 g2 g3
    have i1:(0:Int)≤(k:Int):=by omega
    have i2:(k:Int)<(h.vs.length:Int):=by omega
    have j:=(HM.bk 0).cl 9
    go_upto_region 13 with fail
    clear j
    have j1:IntKind.i64.wrap (S+D)=S+D:=IntWalk.i64_in _ (by omega)
    obtain⟨bt,b1,br,b2,bp,bm,bo,bl,b5,bs⟩:=(HM.bk 0).ten
    go_region_held3 (fun w'=>w'.cell? ⟨w1.heap.size,0,none⟩=some (.int .i64 h.aA)∧w'.cell? ⟨w1.heap.size,1,none⟩=some (.int .i64 h.aB)∧w'.cell? ⟨w1.heap.size,2,none⟩=some (.slice p h.cells.length a)∧w'.cell? ⟨w1.heap.size,3,none⟩=some (.int .i64 h.free)∧w'.cell? ⟨w1.heap.size,4,none⟩=some (.int .i64 h.step)∧w'.cell? ⟨w1.heap.size,5,none⟩=some (.int .i64 h.aD)∧w'.cell? ⟨w1.heap.size,6,none⟩=some (.int .i64 h.aG)∧w'.cell? ⟨w1.heap.size,7,none⟩=some (.int .i64 h.aC)∧w'.cell? ⟨w1.heap.size,8,none⟩=some (.int .i64 h.aF)∧w'.cell? ⟨w1.heap.size,9,none⟩=some (.slice (some ⟨b,aa,none⟩) h.vs.length c2)∧w'.cell? ⟨b,aa+k*4,none⟩=some (.int .i64 a0))
     (first|(refine⟨?_,?_,?_,?_,?_,?_,?_,?_,?_,?_,?_⟩<;>with_reducible assumption)|go_keep)
     ((go_at_call 32
       refine(az _ xE).mono ?_
       rintro e we ⟨rfl,a7⟩
       have m:Ext wr we:=xE
       have HY:=xQ m
       obtain⟨bz,bq,b4,bh,bw,b3,bj,bx,bv,bg⟩:=((HM.bk 0).ext m).ten
       have sg:we.cell? ⟨b,aa+k*4,none⟩=some (.int .i64 a0):=(m.cells.1 _ _ hb).trans g0
       clear a7 m))
    all_goals clear j1
    all_goals go_wp2
    all_goals go_roundw
    all_goals first
     |(case rel=>exact⟨k+1,S+D,by omega,by go_num,rfl,ad.out,HM.adv HY.out⟩)
     |(case rel=>exact⟨k+1,S+D,by omega,by go_num,rfl,ad.out,HM.adv (HY.out.trans xE)⟩)
     |(case measure=>simp[intOf];omega)
   ·skip
    obtain rfl:S=X:=by
     have h1:=a4.out
     rw[List.take_of_length_le (by omega)]at h1
     exact h1.trans a8.out
    obtain⟨g,num,ok,hr⟩: ∃g num ok,doR h 3 1 0=(g,num,ok):=⟨_,_,_,rfl⟩
    have ay:xC 27 #[.agg #[h.aA,h.aB,.slice p h.cells.length a,h.free,h.step,h.aD,h.aG,h.aC,h.aF,.slice q h.vs.length c2],.agg #[.int .i64 3,.int .i64 1,()]] w1 fun w' e w''=> ∃pa ca qa da,e= .returned (.tuple #[.agg #[g.aA,g.aB,.slice pa g.cells.length ca,g.free,g.step,g.aD,g.aG,g.aC,g.aF,.slice qa g.vs.length da],num,.bool ok])∧w''.ownsRow w'.heap.size TI 1 (.slice pa g.cells.length ca) g.cells.length (ivs g.cells)∧w''.ownsRow w'.heap.size TV 4 (.slice qa g.vs.length da) g.vs.length (g.vs.flatMap aE)∧Ext w' w'':=fun w' hx=>by
     have:=aEn h 3 1 0 p _ a q _ c2 w' (HI.out.ext hx) (HBt.out.ext (f.out.trans hx))
     rw[hr]at this
     exact this
    obtain⟨ah,ag,an,aq,ak,al,ap,z,ai,j⟩:=(HM.bk 0).ten
    go_wp2_with fail
    clear ah ag an aq ak al ap z ai j
    refine(ay _ HM.ext).mono ?_
    rintro e l ⟨p5,c5,q5,d5,rfl,r,t,s⟩
    have c:=(HM.own2 s r t (Nat.le_refl _) (by decide))
    clear HM o s r t ay
    have n:=c.hi 2
    cases ok with
    |false=>
     clear hr
     go_wp2
     go_ret
     exact⟨rfl,f.out.trans (c.bn aL #[g.aA,g.aB,.slice p5 g.cells.length c5,g.free,g.step,g.aD,g.aG,g.aC,g.aF,.slice q5 g.vs.length d5] (l.heap.size)).ext⟩
    |true=>
     have hd:=aL3 hr
     have au:=aD5 hd.1 hd.2
     rw[be.out]at au
     obtain⟨Y,hY⟩: ∃y,cL g=y:=⟨_,rfl⟩
     rw[hY]at au
     have t1:decide (S≤Y)=true:=by simp;omega
     have am:=xQ (lL g _ _ _ _ _ _ _ ⟨((c.bn aL #[g.aA,g.aB,.slice p5 g.cells.length c5,g.free,g.step,g.aD,g.aG,g.aC,g.aF,.slice q5 g.vs.length d5] (l.heap.size)).sq 1),((c.bn aL #[g.aA,g.aB,.slice p5 g.cells.length c5,g.free,g.step,g.aD,g.aG,g.aC,g.aF,.slice q5 g.vs.length d5] (l.heap.size)).sq 2)⟩)
     rw[hY]at am
     clear hr hd hY
     go_wp2_with fail
     refine am.out.mono ?_
     rintro e bf ⟨rfl,u⟩
     have ao:=((c.bn aL #[g.aA,g.aB,.slice p5 g.cells.length c5,g.free,g.step,g.aD,g.aG,g.aC,g.aF,.slice q5 g.vs.length d5] (l.heap.size)).adv u)
     clear c n u am
     have a6:=ao.hi 0
     have a5:=ao.hi 3
     go_wp2
     go_ret
     exact⟨rfl,f.out.trans ao.ext⟩
 ·skip
  obtain rfl:X= -1:=by rw[←hX];unfold cL;rw[if_neg hok]
  clear hX hok
  go_wp2_with fail
  refine(oS _ (HE.out.ext (f.out.trans M3.ext))).mono ?_
  rintro e w9 ⟨rfl,a9⟩
  have X9:Ext w w9:=f.out.trans (M3.ext.trans a9)
  go_wp2
  go_ret
  exact⟨rfl,X9⟩
theorem walk_FnHouseOwed (W:World)(v:Value)(u:Unit)(hc:Code W v)(hE:Env W)(hB:BitTab W):Calls Tryz.prog 6 #[v] W fun e w'=>e= .returned (.bool true)∧Ext W w':=by
 have hD:=vU v W hc
 obtain⟨p0,n,a,bs,rfl,h,hb⟩:=hc
 by_cases hn:(n:Int)≤1048576
 ·exact vQ p0 n a W hn (xQ hE) (xQ hB) hD
 ·exact tD p0 n a W (by omega)
end Go.Proofs.YtgnkoffndhmhpaaGreatDoor
