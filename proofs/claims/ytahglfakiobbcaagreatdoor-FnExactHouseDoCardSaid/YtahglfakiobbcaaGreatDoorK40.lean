/-
  Texts of this proof, packed (@packed).
-/
import Derived.Lib.SmallJoins
import Derived.OpenShut
import Derived.ProofKit
import Derived.ShutString
import Derived.WalkKit
import Derived.Test.YtahglfakiobbcaaGreatDoorK1
import Derived.Test.YtahglfakiobbcaaGreatDoorK5
import Derived.Test.YtahglfakiobbcaaGreatDoorK11
import Derived.Test.YtahglfakiobbcaaGreatDoorK23
import Derived.Test.YtahglfakiobbcaaGreatDoorK39
namespace Go.Proofs.YtahglfakiobbcaaGreatDoor
open Go.RowKit
set_option linter.unusedVariables false
set_option linter.unusedSimpArgs false
theorem aBm {B n cap:Nat}{p:Option Addr}{xs:List Value}(K:Int)(w:World)(h:w.ownsRow B TI 1 (.slice p n cap) n xs)(hn:n≤1099511627776)(h0:0≤K)(h1:K≤4611686018427387904):
  Calls Tryz.prog 89 #[.slice p n cap,.int .i64 K] w fun e w'=>e= .returned (.int .i64 (K+(n*1:Nat)))∧w'.ownsRow B TI 1 (.slice p n cap) n (aX K (n*1))∧w.grownBy w' (Value.slice p n cap).ownBlock:=by
 by_cases hz:0<n
 ·have h2:=h
  rcases h2.2 with⟨_,h3⟩|⟨g,cap',cur,e1,hb,hg,r⟩
  ·omega
  ·injection e1 with e1 e2 e3
   subst e1
   refine(tS g n cap B xs K w hn h0 h1 h).mono ?_
   rintro e w' ⟨rfl,h4,h5⟩
   exact⟨rfl,h4,h5⟩
 ·obtain rfl:n=0:=by omega
  refine(tR p cap K w).mono ?_
  rintro e w' ⟨rfl,rfl⟩
  obtain rfl:xs= []:=List.eq_nil_of_length_eq_zero (by have:=h.1;simpa using this)
  exact⟨by simp,by simpa[aX]using h,World.grownBy.refl _ _⟩
theorem aCa {B n cap:Nat}{p:Option Addr}(K:Int)(w:World)(h:w.ownsRow B TI 1 (.slice p n cap) n (aX K (n*1)))(hn:n≤1099511627776)(h0:0≤K)(h1:K≤4611686018427387904):
  Calls Tryz.prog 90 #[.slice p n cap,.int .i64 K] w fun e w'=>e= .returned (.int .i64 (K+(n*1:Nat)))∧w=w':=by
 by_cases hz:0<n
 ·have h2:=h
  rcases h2.2 with⟨_,h3⟩|⟨g,cap',cur,e1,hb,hg,r⟩
  ·omega
  ·injection e1 with e1 e2 e3
   subst e1
   refine uD g 0 n cap K w hn h0 h1 (xQ fun j hj=> ?_)
   rw[Nat.zero_add,h.cellAt j hj]
   exact jG _ _ _ hj
 ·obtain rfl:n=0:=by omega
  refine(uC p cap K w).mono ?_
  rintro e w' ⟨rfl,rfl⟩
  exact⟨by simp,rfl⟩
theorem vY {B n cap:Nat}{p:Option Addr}{xs:List Value}(K:Int)(w:World)(h:w.ownsRow B TV 4 (.slice p n cap) n xs)(hn:n≤1099511627776)(h0:0≤K)(h1:K≤4611686018427387904):
  Calls Tryz.prog 50 #[.slice p n cap,.int .i64 K] w fun e w'=>e= .returned (.int .i64 (K+(n*4:Nat)))∧w'.ownsRow B TV 4 (.slice p n cap) n (aX K (n*4))∧w.grownBy w' (Value.slice p n cap).ownBlock:=by
 by_cases hz:0<n
 ·have h2:=h
  rcases h2.2 with⟨_,h3⟩|⟨g,cap',cur,e1,hb,hg,r⟩
  ·omega
  ·injection e1 with e1 e2 e3
   subst e1
   refine(qE g n cap B xs K w hn h0 h1 h).mono ?_
   rintro e w' ⟨rfl,h4,h5⟩
   exact⟨rfl,h4,h5⟩
 ·obtain rfl:n=0:=by omega
  refine(qD p cap K w).mono ?_
  rintro e w' ⟨rfl,rfl⟩
  obtain rfl:xs= []:=List.eq_nil_of_length_eq_zero (by have:=h.1;simpa using this)
  exact⟨by simp,by simpa[aX]using h,World.grownBy.refl _ _⟩
theorem wW {B n cap:Nat}{p:Option Addr}(K:Int)(w:World)(h:w.ownsRow B TV 4 (.slice p n cap) n (aX K (n*4)))(hn:n≤1099511627776)(h0:0≤K)(h1:K≤4611686018427387904):
  Calls Tryz.prog 52 #[.slice p n cap,.int .i64 K] w fun e w'=>e= .returned (.int .i64 (K+(n*4:Nat)))∧w=w':=by
 by_cases hz:0<n
 ·have h2:=h
  rcases h2.2 with⟨_,h3⟩|⟨g,cap',cur,e1,hb,hg,r⟩
  ·omega
  ·injection e1 with e1 e2 e3
   subst e1
   refine qP g 0 n cap K w hn h0 h1 (xQ fun j hj=> ?_)
   rw[Nat.zero_add,h.cellAt j hj]
   exact jG _ _ _ hj
 ·obtain rfl:n=0:=by omega
  refine(qO p cap K w).mono ?_
  rintro e w' ⟨rfl,rfl⟩
  exact⟨by simp,rfl⟩
set_option maxRecDepth 100000 in
set_option maxHeartbeats 8000000 in
theorem yZ {B n cap:Nat}{p:Option Addr}{xs:List Value}(aA aB K:Int)(w:World)(hlt:Hid (∀g,(Value.slice p n cap).ownBlock=some g→g<w.heap.size))(h:Hid (w.ownsRow B TI 1 (.slice p n cap) n xs))(hn:n≤1099511627776)(h0:0≤K)(h1:K≤1099511627776):
  Calls Tryz.prog 49 #[aK aA aB p n cap,.int .i64 K] w fun e w'=>e= .returned (.int .i64 (K+(n:Nat)))∧w'.ownsRow B TI 1 (.slice p n cap) n (aX K n)∧w.grownBy w' (Value.slice p n cap).ownBlock:=by
 have HM:Hid (∀w',Ext w w'→Calls Tryz.prog 89 #[.slice p n cap,.int .i64 K] w' fun e w''=>e= .returned (.int .i64 (K+(n:Nat)))∧w''.ownsRow B TI 1 (.slice p n cap) n (aX K n)∧w'.grownBy w'' (Value.slice p n cap).ownBlock):=fun w' hx=>by
  have:=aBm K w' (bC h.out hx) hn h0 (by omega)
  simpa using this
 go_enter Tryz.func49,Tryz.ntmps49
 go_wp2_with fail
 refine(HM.out _ ((Ext.refl _).alloc _)).mono ?_
 rintro e w1 ⟨rfl,h2,h3⟩
 have h4:w.grownBy w1 (Value.slice p n cap).ownBlock:=by
  have ha:Ext w (w.alloc (.cells #[.int .i64 aA,.int .i64 aB,.slice p n cap] 33)):=(Ext.refl w).alloc _
  exact⟨h3.os.trans ha.os,h3.tape.trans ha.tape,h3.output.trans ha.output,Nat.le_trans ha.size h3.size,fun i hi hne=>(h3.block i (Nat.lt_of_lt_of_le hi ha.size) hne).trans (ha.block i hi)⟩
 clear h3
 go_wp2
 go_ret
 exact⟨rfl,h2,h4⟩
set_option maxRecDepth 100000 in
set_option maxHeartbeats 8000000 in
theorem zY {B n cap:Nat}{p:Option Addr}(aA aB K:Int)(w:World)(h:Hid (w.ownsRow B TI 1 (.slice p n cap) n (aX K n)))(hn:n≤1099511627776)(h0:0≤K)(h1:K≤1099511627776):
  Calls Tryz.prog 51 #[aK aA aB p n cap,.int .i64 K] w fun e w'=>e= .returned (.int .i64 (K+(n:Nat)))∧Ext w w':=by
 have k1:0≤K+(n:Nat):=by omega
 have HM:Hid (∀w',Ext w w'→Calls Tryz.prog 90 #[.slice p n cap,.int .i64 K] w' fun e w''=>e= .returned (.int .i64 (K+(n:Nat)))∧w'=w''):=fun w' hx=>by
  have:=aCa (B:=B) (p:=p) (cap:=cap) (n:=n) K w' (by simpa using bC h.out hx) hn h0 (by omega)
  simpa using this
 go_enter Tryz.func51,Tryz.ntmps51
 go_wp2_with fail
 refine(HM.out _ ((Ext.refl _).alloc _)).mono ?_
 rintro e w1 ⟨rfl,rfl⟩
 go_wp2
 go_ret
 exact⟨rfl,xE⟩
set_option maxRecDepth 100000 in
set_option maxHeartbeats 8000000 in
theorem oL (aA aB free step aE aG aD aH:Int)(p:Option Addr)(n cap:Nat)(q:Option Addr)(m c2:Nat)(K:Int)(xs ys:List Value)(w0 w:World)(L:List Item)(h:Mem w0 w (aJ w0.heap.size TI 1 p n cap xs::aJ w0.heap.size TV 4 q m c2 ys::L))(hn:n≤1099511627776)(hm:m≤1099511627776)(h0:0≤K)(h1:K≤1000000):
  Calls Tryz.prog 12 #[.agg #[.int .i64 aA,.int .i64 aB,.slice p n cap,.int .i64 free,.int .i64 step,.int .i64 aE,.int .i64 aG,.int .i64 aD,.int .i64 aH,.slice q m c2],.int .i64 K] w fun e w'=>e= .returned (.int .i64 (K+(n:Nat)+(m*4:Nat)))∧Mem w0 w' (aJ w0.heap.size TI 1 p n cap (aX K n)::aJ w0.heap.size TV 4 q m c2 (aX (K+(n:Nat)) (m*4))::L):=by
 have M1:=xQ (h.blkNew aO #[.int .i64 aA,.int .i64 aB,.slice p n cap,.int .i64 free,.int .i64 step,.int .i64 aE,.int .i64 aG,.int .i64 aD,.int .i64 aH,.slice q m c2] (w.heap.size) rfl)
 clear h
 go_enter Tryz.func12,Tryz.ntmps12
 go_wp2_with fail
 refine(yZ aA aB K _ (xQ fun g hg=>(M1.out.lt (i:=1) (g:=g) rfl hg).2) (xQ (M1.out.own (i:=1) rfl)) hn h0 (by omega)).mono ?_
 rintro e w1 ⟨rfl,ho,hg⟩
 have M2:=xQ (show Mem w0 w1 (aF w0.heap.size w.heap.size aO #[.int .i64 aA,.int .i64 aB,.slice p n cap,.int .i64 free,.int .i64 step,.int .i64 aE,.int .i64 aG,.int .i64 aD,.int .i64 aH,.slice q m c2]::aJ w0.heap.size TI 1 p n cap (aX K n)::aJ w0.heap.size TV 4 q m c2 ys::L)from M1.out.app (i:=1) rfl ho hg (.inl rfl))
 clear ho hg M1
 obtain⟨ce0,ce1,ce2,ce3,ce4,ce5,ce6,ce7,ce8,ce9⟩:=(M2.out.blk (i:=0) rfl).ten
 go_wp2_with fail
 clear ce0 ce1 ce2 ce3 ce4 ce5 ce6 ce7 ce8 ce9
 refine(vY (K+(n:Nat)) _ (M2.out.own (i:=2) rfl) hm (by omega) (by omega)).mono ?_
 rintro e w2 ⟨rfl,ho,hg⟩
 have M3:=xQ (show Mem w0 w2 (aF w0.heap.size w.heap.size aO #[.int .i64 aA,.int .i64 aB,.slice p n cap,.int .i64 free,.int .i64 step,.int .i64 aE,.int .i64 aG,.int .i64 aD,.int .i64 aH,.slice q m c2]::aJ w0.heap.size TI 1 p n cap (aX K n)::aJ w0.heap.size TV 4 q m c2 (aX (K+(n:Nat)) (m*4))::L)from M2.out.app (i:=2) rfl ho hg (.inl rfl))
 clear ho hg M2
 go_wp2
 go_ret
 exact⟨rfl,M3.out.sub (List.sublist_cons_self _ _)⟩
set_option maxRecDepth 100000 in
set_option maxHeartbeats 8000000 in
theorem oP (aA aB free step aE aG aD aH:Int)(p:Option Addr)(n cap:Nat)(q:Option Addr)(m c2:Nat)(K:Int)(B:Nat)(w:World)(h:w.ownsRow B TI 1 (.slice p n cap) n (aX K n))(h2:w.ownsRow B TV 4 (.slice q m c2) m (aX (K+(n:Nat)) (m*4)))(hn:n≤1099511627776)(hm:m≤1099511627776)(h0:0≤K)(h1:K≤1000000):
  Calls Tryz.prog 13 #[.agg #[.int .i64 aA,.int .i64 aB,.slice p n cap,.int .i64 free,.int .i64 step,.int .i64 aE,.int .i64 aG,.int .i64 aD,.int .i64 aH,.slice q m c2],.int .i64 K] w fun e w'=>e= .returned (.int .i64 (K+(n:Nat)+(m*4:Nat)))∧Ext w w':=by
 have H2:=xQ h2
 have M0:=xQ ((Mem.start w).blkNew aO #[.int .i64 aA,.int .i64 aB,.slice p n cap,.int .i64 free,.int .i64 step,.int .i64 aE,.int .i64 aG,.int .i64 aD,.int .i64 aH,.slice q m c2] w.heap.size rfl)
 have H1:=xQ (bC h M0.out.ext)
 clear h h2
 have k1:0≤K+(n:Nat):=by omega
 have k2:0≤K+(n:Nat)+(m*4:Nat):=by omega
 go_enter Tryz.func13,Tryz.ntmps13
 go_wp2_with fail
 refine(zY aA aB K _ H1 hn h0 (by omega)).mono ?_
 rintro e w1 ⟨rfl,hx⟩
 have M1:=xQ (M0.out.adv hx)
 clear hx M0
 obtain⟨ce0,ce1,ce2,ce3,ce4,ce5,ce6,ce7,ce8,ce9⟩:=(M1.out.blk (i:=0) rfl).ten
 go_wp2_with fail
 clear ce0 ce1 ce2 ce3 ce4 ce5 ce6 ce7 ce8 ce9
 refine(wW (K+(n:Nat)) _ (bC H2.out M1.out.ext) hm (by omega) (by omega)).mono ?_
 rintro e w2 ⟨rfl,rfl⟩
 go_wp2
 go_ret
 exact⟨rfl,M1.out.ext⟩
open Go.ChangeShapes Go.WideShapes Go.ChangeAt Go.Deep
section
variable {H:Type} {enc:TypeId×Value→H} {w:World} {base:Nat} {spare:Nat→Bool} {held:Bool} {b0:Nat} {r:Reach} {v:Value} {d:DataW H} {p:List MemPlace}
def oA (v:aQ):Prop:=B64 v.1∧B64 v.2.1∧B64 v.2.2.1∧B64 v.2.2.2
theorem aEy:Tryz.prog.cellsOf 3=1:=by kernel_rfl
set_option maxRecDepth 100000 in
theorem xO {n:Nat}{cs:List Value}{y:DataW H×List MemPlace}(hy:DataW.trod enc Tryz.prog w base spare held n 113 cs=some y): ∃a,cs=aC a∧oA a:=by
 obtain⟨y0,y1,m,_,hl,h0,h1⟩:=trod_struct2 Tryz.underlying113 hy
 have hl':cs.length=4:=hl.trans (by kernel_rfl)
 match cs,hl' with
 | [c0,c1,c2,c3],_=>
   have hc3:Tryz.prog.cellsOf 111=3:=by kernel_rfl
   simp only[aEy,hc3,List.drop_zero,List.drop_succ_cons,List.take_succ_cons,List.take_zero]at h0 h1
   obtain⟨z0,z1,z2,m',_,_,g0,g1,g2⟩:=trod_struct3 Tryz.underlying111 h1
   simp only[aEy,List.drop_zero,List.drop_succ_cons,List.take_succ_cons,List.take_zero]at g0 g1 g2
   obtain⟨a,rfl,ga⟩:=dM h0
   obtain⟨b,rfl,gb⟩:=dM g0
   obtain⟨c,rfl,gc⟩:=dM g1
   obtain⟨e,rfl,ge⟩:=dM g2
   exact⟨(a,b,c,e),rfl,ga,gb,gc,ge⟩
def sO (h:bJ):Prop:=B64 h.aA∧B64 h.aB∧B64 h.free∧B64 h.step∧B64 h.aE∧B64 h.aG∧B64 h.aD∧B64 h.aH∧(∀x∈h.cells,B64 x)∧ ∀v∈h.vs,oA v
theorem aG6 {cs:List Value}(h:cs.length=10): ∃a b c d e f g i j k,cs= [a,b,c,d,e,f,g,i,j,k]:=by
 match cs,h with
 | [a,b,c,d,e,f,g,i,j,k],_=>exact⟨a,b,c,d,e,f,g,i,j,k,rfl⟩
set_option maxRecDepth 100000 in
set_option maxHeartbeats 1000000 in
theorem yV (hv:Value.okWide Tryz.prog w r b0 29 v)(h:DataW.Trod enc Tryz.prog w base spare held 29 v d p):
  ∃y:bJ×(Option Addr×Nat)×(Option Addr×Nat),v=cC y.1 y.2.1.1 y.1.cells.length y.2.1.2 y.2.2.1 y.1.vs.length y.2.2.2∧IsHouse w y.1 y.2.1.1 y.1.cells.length y.2.1.2 y.2.2.1 y.1.vs.length y.2.2.2∧sO y.1:=by
 obtain⟨cs,rfl,hsz⟩:=okWide_struct Tryz.underlying29 hv
 obtain⟨l⟩:=cs
 have hl:l.length=10:=by have:=hsz.trans (show Tryz.prog.cellsOf 29=10 by kernel_rfl);simpa using this
 obtain⟨x0,x1,x2,x3,x4,x5,x6,x7,x8,x9,rfl⟩:=aG6 hl
 obtain⟨fuel,hf⟩:=h
 obtain⟨xs,n,_,hx,_,hlen,hg⟩:=DataW.trod_struct Tryz.underlying29 hf
 have hh:Tryz.prog.cellsOf 24=3:=by kernel_rfl
 have ht:Tryz.prog.cellsOf 26=4:=by kernel_rfl
 have hs1:Tryz.prog.cellsOf 27=1:=by kernel_rfl
 have hs2:Tryz.prog.cellsOf 22=1:=by kernel_rfl
 have hcl: ∀l:List Value,(Value.agg l.toArray).cells.toList=l:=fun l=>by simp[Value.cells]
 match xs,hlen with
 | [y0,y1,y2,y3,y4],_=>
   have g0:=hg 0 _ rfl
   have g1:=hg 1 _ rfl
   have g2:=hg 2 _ rfl
   have g3:=hg 3 _ rfl
   have g4:=hg 4 _ rfl
   simp only[hcl,aEy,hh,ht,hs1,List.drop_zero,List.drop_succ_cons,List.take_succ_cons,List.take_zero,List.getElem?_cons_zero,List.getElem?_cons_succ]at g0 g1 g2 g3 g4
   obtain⟨z0,z1,z2,m,_,_,k0,k1,k2⟩:=trod_struct3 Tryz.underlying24 g0
   simp only[aEy,hs2,List.drop_zero,List.drop_succ_cons,List.take_succ_cons,List.take_zero]at k0 k1 k2
   obtain⟨aA,rfl,gw⟩:=dM k0
   obtain⟨aB,rfl,gd⟩:=dM k1
   obtain⟨cells,cp,cc,rfl,hS,gcs⟩:=vQ k2
   obtain⟨ys,m2,_,_,_,hlen2,hg2⟩:=DataW.trod_struct Tryz.underlying26 g1
   match ys,hlen2 with
   | [t0,t1,t2,t3],_=>
     have j0:=hg2 0 _ rfl
     have j1:=hg2 1 _ rfl
     have j2:=hg2 2 _ rfl
     have j3:=hg2 3 _ rfl
     simp only[aEy,List.drop_zero,List.drop_succ_cons,List.take_succ_cons,List.take_zero,List.getElem?_cons_zero,List.getElem?_cons_succ]at j0 j1 j2 j3
     obtain⟨free,rfl,gf⟩:=dM j0
     obtain⟨step,rfl,gs⟩:=dM j1
     obtain⟨aE,rfl,gp⟩:=dM j2
     obtain⟨aG,rfl,gc⟩:=dM j3
     obtain⟨aD,rfl,gk⟩:=dM g2
     obtain⟨aH,rfl,gb⟩:=dM g3
     obtain⟨vs,vp,vc,rfl,hV,gvs⟩:=vP (α:=aQ) aC oA 4 Tryz.underlying27 (by kernel_rfl) (by omega) (fun _=>rfl) (fun n cs y hy=>xO hy) g4
     exact⟨(⟨aA,aB,cells,free,step,aE,aG,aD,aH,vs⟩,(cp,cc),(vp,vc)),rfl,⟨hS,hV⟩,gw,gd,gf,gs,gp,gc,gk,gb,gcs,gvs⟩
end
end Go.Proofs.YtahglfakiobbcaaGreatDoor
namespace Go.Proofs.YtahglfakiobbcaaGreatDoor
open Go.ChangeShapes Go.WideShapes Go.ChangeAt Go.RowKit
set_option linter.unusedVariables false
section
variable {H:Type} {enc:TypeId×Value→H} {w:World} {base:Nat} {spare:Nat→Bool} {held:Bool} {b0:Nat} {r:Reach} {v:Value} {d:DataW H} {p:List MemPlace}
set_option maxRecDepth 100000 in
theorem aBl (hv:Value.okWide Tryz.prog w r b0 31 v)(h:DataW.Trod enc Tryz.prog w base spare held 31 v d p):
  ∃a b c:Int,v= .agg #[.int .i64 a,.int .i64 b,.int .i64 c]∧B64 a∧B64 b∧B64 c:=by
 obtain⟨v0,v1,v2,y0,y1,y2,n,rfl,_,_,h0,h1,h2⟩:=Joins.open_agg3 Tryz.underlying31 (by kernel_rfl) (by kernel_rfl) hv h
 obtain⟨a,rfl,wa⟩:=dM h0
 obtain⟨b,rfl,wb⟩:=dM h1
 obtain⟨c,rfl,wc⟩:=dM h2
 exact⟨a,b,c,rfl,wa,wb,wc⟩
end
end Go.Proofs.YtahglfakiobbcaaGreatDoor
