/-
  A law's walk or frame (@packed).
-/
import Derived.Test.YtomgkjinhnkpnaaGreatDoorX37
namespace Go.Proofs.YtomgkjinhnkpnaaGreatDoor
open Go.RowKit Go.Proofs.Tryz
set_option linter.unusedVariables false
set_option linter.unusedSimpArgs false
set_option maxHeartbeats 8000000
set_option maxRecDepth 100000
theorem wK (p:OA)(n a:Nat)(w:World)(h:(1048576:Int)<n):
  U 3 #[.slice p n a] w (O (.bool true) w):=by
 go_enter func3,ntmps3;go_wp2;go_ret;exact⟨rfl,xE⟩
theorem aA4 (p0:OA)(n0 ay:Nat)(w:World)(hn:(n0:Int)≤1048576)(HE:Hid (Env w))(bf:Hid (BitTab w))
  (HD:U 4 #[.slice p0 n0 ay] w (zE w)):
  U 3 #[.slice p0 n0 ay] w (O (.bool true) w):=by
 unfold zE at HD;have HD:=xQ HD;have b1:decide ((1048576:Int)<(n0:Int))=false:=by simp;omega
 have b2:decide (1048576<n0)=false:=by simp;omega
 go_enter func3,ntmps3;go_wp2_with fail;refine HD.out.mono ?_;rintro e w1 ⟨h,p,aa,q,c2,b,rfl,b8,b9,b0,hi,bu⟩;have HI:=xQ hi;have v:=xQ bu;clear hi HD bu b1 b2;obtain⟨l,hl,b3⟩: ∃l:List UInt8,Value.string b=str l∧l.length=b.size:=⟨b.data.toList,rfl,cZ _⟩
 rw[hl];have aq:l.length≤1048576:=by omega
 clear hl b3 b0;obtain⟨r,t,hr⟩: ∃r t,mA h l=(r,t):=⟨_,_,rfl⟩
 have bg:xC 5 #[.agg (aU3 h p aa q c2),str l] w1 fun w' e w''=> ∃pa ca qa da,e= .returned (.tuple #[.agg #[r.aA,r.aB,.slice pa r.cells ca,r.free,r.step,r.aD,r.aF,r.aC,r.aG,.slice qa r.vs da],str t])∧w''.ownsRow w' TI 1 (.slice pa r.cells ca) r.cells.length (ivs r.cells)∧w''.ownsRow w' TV 4 (.slice qa r.vs da) r.vs.length (r.vs.flatMap aE)∧Ext w' w'':=fun w' hx=>by have:=aEq h p _ aa q _ c2 l w' (HI.out.ext hx) aq (HE.out.ext (v.out.trans hx)) (bf.out.ext (v.out.trans hx));rw[hr]at this;exact this
 have bh:xC 6 #[.agg (aU3 h p aa q c2),str l] w1 fun w' e w''=> ∃pa ca qa da,e= .returned (.tuple #[.agg #[r.aA,r.aB,.slice pa r.cells ca,r.free,r.step,r.aD,r.aF,r.aC,r.aG,.slice qa r.vs da],str t])∧w''.ownsRow w' TI 1 (.slice pa r.cells ca) r.cells.length (ivs r.cells)∧w''.ownsRow w' TV 4 (.slice qa r.vs da) r.vs.length (r.vs.flatMap aE)∧Ext w' w'':=fun w' hx=>by have:=aM9 h p _ aa q _ c2 l w' (HI.out.ext hx) aq;rw[hr]at this;exact this
 have b6:=aH7 h l;rw[hr]at b6;have az:=xQ hr;have be:=xQ aq;have bm:=xQ fun(w':World) (hx:Ext w1 w')=>iL h p _ aa q _ c2 w' (HI.out.ext hx)
 clear hr aq;go_wp2_with fail;refine(bg _ ((Mem.start w1).c0 aK (aU3 h p aa q c2)).ext).mono ?_;rintro e w2 ⟨p5,c5,q5,d5,rfl,bo,br,ak⟩;have M2:=(((Mem.start w1).c0 aK (aU3 h p aa q c2)).own2 ak bo br (aRg _) (by decide))
 have a2:=M2.hi 2;clear ak bo br;have g:=(M2.bk 2).ten;go_wp2_with fail;clear g;refine(bh _ (M2.c0 aK (aU3 r p5 c5 q5 d5)).ext).mono ?_;rintro e w3 ⟨p6,c6,q6,d6,rfl,bp,bs,bv⟩;have M3:=((M2.c0 aK (aU3 r p5 c5 q5 d5)).own2 bv bp bs (aRg _) (by decide))
 clear M2 a2 bv bp bs;have a3:=M3.hi 2;have a4:=M3.hi 5;have g:=(M3.bk 2).ten;go_wp2_with fail;clear g bg bh;refine Z (fL r _ _ _ _ _ _ _ _ _ _ _ _ _ ⟨((M3.c0 aK (aU3 r p6 c6 q6 d6)).sq 4),((M3.c0 aK (aU3 r p6 c6 q6 d6)).sq 5)⟩ ⟨((M3.c0 aK (aU3 r p6 c6 q6 d6)).sq 1),((M3.c0 aK (aU3 r p6 c6 q6 d6)).sq 2)⟩) fun w4 bw=>?_
 have M4:=((M3.c0 aK (aU3 r p6 c6 q6 d6)).adv bw)
 clear M3 a3 a4 bw;have a5:=M4.hi 0;have a6:=M4.hi 3;have a7:=M4.hi 6;have M5:=(show Mem w1 w4 [aU1 w1 p5 r.cells c5,aU2 w1 q5 r.vs d5,aI w1 w2 aK (aU3 r p5 c5 q5 d5),aI w1 w1 aK (aU3 h p aa q c2)]from M4.pick [4,5,3,6] (by decide) rfl)
 clear M4 a5 a6 a7;have a8:=M5.hi 2;have a9:=M5.hi 3;have g:=(M5.bk 3).ten;go_wp2_with fail;clear g;refine Z (bm _ M5.ext) fun w6 bx=>?_
 have M6:=(M5.adv bx)
 clear M5 a8 a9 bx bm;have am:=M6.hi 2;have an:=M6.hi 3;by_cases hok:aS h=true
 ·skip;rw[hok];obtain⟨l1,aj⟩:=aN8 hok l az.out;obtain⟨dd,a1⟩: ∃d,(bN l).isSome=d:=⟨_,rfl⟩
  rw[a1]at aj;have ag:=xQ aj;clear aj;have bl:xC 11 #[str l] w1 fun w' e w''=> ∃x y z:Int,e= .returned (.tuple #[.agg #[x,y,z],.bool dd])∧Ext w' w'':=fun w' hx=>by
   have:=tA l w' (by have:=be.out;omega) (HE.out.ext (v.out.trans hx));unfold kI at this;refine this.mono ?_;rintro e w'' ⟨rfl,ak⟩;rw[←a1];cases bN l with
   |none=>exact⟨0,0,0,rfl,ak⟩
   |some d=>obtain⟨k,a,c⟩:=d;exact⟨k,a,c,rfl,ak⟩
  have bi:xC 5 #[.agg (aU3 h p aa q c2),str [32]] w1 fun w' e w''=> ∃pa ca qa da,e= .returned (.tuple #[.agg #[h.aA,h.aB,.slice pa h.cells ca,h.free,h.step,h.aD,h.aF,h.aC,h.aG,.slice qa h.vs da],str [119,104,97,116]])∧w''.ownsRow w' TI 1 (.slice pa h.cells ca) h.cells.length (ivs h.cells)∧w''.ownsRow w' TV 4 (.slice qa h.vs da) h.vs.length (h.vs.flatMap aE)∧Ext w' w'':=fun w' hx=>by have:=aEq h p _ aa q _ c2 [32] w' (HI.out.ext hx) (by decide) (HE.out.ext (v.out.trans hx)) (bf.out.ext (v.out.trans hx));rw[aH6 hok]at this;exact this
  clear a1 az be hok;go_wp2_with fail;refine(bl _ M6.ext).mono ?_;rintro e w7 ⟨dx,dy,dz,rfl,al⟩;have M7:=(M6.adv al)
  clear M6 am an al bl;have ao:=M7.hi 2;have ap:=M7.hi 3;have g:=(M7.bk 3).ten;go_wp2_with fail;clear g;refine(bi _ (M7.c0 TDd #[dx,dy,dz]).ext).mono ?_;rintro e w8 ⟨p7,c7,q7,d7,rfl,bq,bt,bz⟩;have M8:=((M7.c0 TDd #[dx,dy,dz]).own2 bz bq bt (aRg _) (by decide))
  clear M7 ao ap bz bq bt bi;have ba:=M8.hi 2;have bb:=M8.hi 5;have bc:=M8.hi 6;have g:=(M8.bk 5).ten;have a0:=xQ (iN r p5 _ c5 q5 _ d5 _ ⟨((M8.c0 aK (aU3 h p7 c7 q7 d7)).sq 4),((M8.c0 aK (aU3 h p7 c7 q7 d7)).sq 5)⟩);rw[l1]at a0;clear l1;go_wp2_with fail;clear g;refine a0.out.mono ?_;rintro e w9 ⟨rfl,ar⟩;have M9:=((M8.c0 aK (aU3 h p7 c7 q7 d7)).adv ar)
  clear M8 ba bb bc ar a0;have ab:=M9.hi 0;have ad:=M9.hi 3;have ae:=M9.hi 6;have af:=M9.hi 7;rcases ag.out with⟨rfl,h1⟩|⟨rfl,h1,h2,ai⟩|⟨rfl,h2⟩|⟨rfl,h2,ai⟩
  ·skip;clear ag;have g:=(M9.bk 0).ten;have u:=(M9.bk 7).ten;go_wp2_with fail;clear g u;refine Z (fL h _ _ _ _ _ _ _ _ _ _ _ _ _ ⟨(M9.sq 1),(M9.sq 2)⟩ (HI.out.ext M9.ext)) fun bd i=>?_
   have f:=(M9.adv i)
   clear M9 ab ad ae af i;have j:=f.hi 0;have m:=f.hi 3;have n:=f.hi 6;have o:=f.hi 7;go_wp2;go_ret;exact⟨rfl,v.out.trans f.ext⟩
  ·skip;have t1:(t== [110,111])=true:=by simp[h1]
   clear ag h1;have ai:=ai.symm;subst ai;have g:=(M9.bk 6).ten;have u:=(M9.bk 7).ten;go_wp2_with fail;clear g u;refine Z (fL h _ _ _ _ _ _ _ _ _ _ _ _ _ ⟨(M9.sq 4),(M9.sq 5)⟩ (HI.out.ext M9.ext)) fun bd i=>?_
   have f:=(M9.adv i)
   clear M9 ab ad ae af i;have j:=f.hi 0;have m:=f.hi 3;have n:=f.hi 6;have o:=f.hi 7;have g:=(f.bk 0).ten;have u:=(f.bk 7).ten;go_wp2_with fail;clear g u;refine Z (fL h _ _ _ _ _ _ _ _ _ _ _ _ _ ⟨(f.sq 1),(f.sq 2)⟩ (HI.out.ext f.ext)) fun b7 ah=>?_
   have s:=(f.adv ah)
   clear f j m n o ah;have au:=s.hi 0;have av:=s.hi 3;have aw:=s.hi 6;have ax:=s.hi 7;go_wp2;go_ret;exact⟨rfl,v.out.trans s.ext⟩
  ·skip;have t2:(l== [101,110,100])=true:=by simp[h2]
   clear ag h2;have g:=(M9.bk 0).ten;have u:=(M9.bk 7).ten;go_wp2_with fail;clear g u;refine Z (fL h _ _ _ _ _ _ _ _ _ _ _ _ _ ⟨(M9.sq 1),(M9.sq 2)⟩ (HI.out.ext M9.ext)) fun bd i=>?_
   have f:=(M9.adv i)
   clear M9 ab ad ae af i;have j:=f.hi 0;have m:=f.hi 3;have n:=f.hi 6;have o:=f.hi 7;go_wp2;go_ret;exact⟨rfl,v.out.trans f.ext⟩
  skip;clear ag;have ai:=ai.symm;subst ai;have g:=(M9.bk 6).ten;have u:=(M9.bk 7).ten;go_wp2_with fail;clear g u;refine Z (fL h _ _ _ _ _ _ _ _ _ _ _ _ _ ⟨(M9.sq 4),(M9.sq 5)⟩ (HI.out.ext M9.ext)) fun bd i=>?_
  have f:=(M9.adv i)
  clear M9 ab ad ae af i;have j:=f.hi 0;have m:=f.hi 3;have n:=f.hi 6;have o:=f.hi 7;have g:=(f.bk 0).ten;have u:=(f.bk 7).ten;go_wp2_with fail;clear g u;refine Z (fL h _ _ _ _ _ _ _ _ _ _ _ _ _ ⟨(f.sq 1),(f.sq 2)⟩ (HI.out.ext f.ext)) fun b7 ah=>?_
  have s:=(f.adv ah)
  clear f j m n o ah;have au:=s.hi 0;have av:=s.hi 3;have aw:=s.hi 6;have ax:=s.hi 7;go_wp2;go_ret;exact⟨rfl,v.out.trans s.ext⟩
 skip;rw[show aS h=false by simpa using hok];have hr:=az.out;unfold mA at hr;rw[if_neg hok]at hr;simp only[aS3]at hr;obtain⟨b4,b5⟩:=hr;subst b4 b5;have bj:=xQ fun w' (hx:Ext w6 w')=>aH2 p5 c5 q5 d5 w' (IsHouse.ext ⟨(M6.sq 0),(M6.sq 1)⟩ hx)
 clear hok;unfold hZ at*;have g:=(M6.bk 2).ten;go_wp2_with fail;clear g;refine Z (bj _ xE) fun w7 al=>?_
 have M7:=(M6.adv al)
 clear M6 am an al bj;have ao:=M7.hi 2;have ap:=M7.hi 3;go_wp2_with fail;refine Z (aLj _ (HE.out.ext (v.out.trans M7.ext))) fun w9 ar=>?_
 have X9:Ext w w9:=v.out.trans (M7.ext.trans ar);go_wp2;go_ret;exact⟨rfl,X9⟩
theorem walk_FnHouseLine (W:World)(v:Value)(u:Unit)(hc:Code W v)(hE:Env W)(hB:BitTab W):U 3 #[v] W (O (.bool true) W):=by
 have hD:=aA5 v W hc;obtain⟨p0,n,a,bs,rfl,h,hb⟩:=hc;by_cases hn:(n:Int)≤1048576
 ·exact aA4 p0 n a W hn (xQ hE) (xQ hB) hD
 exact wK p0 n a W (by omega)
end Go.Proofs.YtomgkjinhnkpnaaGreatDoor
