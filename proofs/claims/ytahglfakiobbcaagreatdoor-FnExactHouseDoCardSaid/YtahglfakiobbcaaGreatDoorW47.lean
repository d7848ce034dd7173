/-
  A law's walk or frame (@packed).
-/
import Derived.Deep.CutBlock
import Derived.Test.YtahglfakiobbcaaGreatDoorK4
import Derived.Test.YtahglfakiobbcaaGreatDoorK11
import Derived.Test.YtahglfakiobbcaaGreatDoorK39
import Derived.Test.YtahglfakiobbcaaGreatDoorK40
namespace Go.Proofs.YtahglfakiobbcaaGreatDoor
open Go.RowKit
set_option linter.unusedVariables false
set_option linter.unusedSimpArgs false
theorem Mem.own2blk {w0 w w':World}{L:List Item}{e1 e2 t:TypeId}{s1 s2 n1 n2 c1 c2 g:Nat}{q1 q2:Option Addr}{xs1 xs2:List Value}{cs:Array Value}(h:Mem w0 w L)(hx:Ext w w')(hb:Blk w' g t cs)(hg:w.heap.size≤g)(h1:w'.ownsRow w.heap.size e1 s1 (.slice q1 n1 c1) n1 xs1)(h2:w'.ownsRow w.heap.size e2 s2 (.slice q2 n2 c2) n2 xs2)(ht:e1≠e2)(t1:e1≠t)(t2:e2≠t):
  Mem w0 w' (aJ w0.heap.size e1 s1 q1 n1 c1 xs1::aJ w0.heap.size e2 s2 q2 n2 c2 xs2::aF w0.heap.size g t cs::L):=by
 have far: ∀ {e:TypeId} {s n c:Nat} {q:Option Addr} {xs:List Value},w'.ownsRow w.heap.size e s (.slice q n c) n xs→e≠t→(Value.slice q n c).ownBlock≠Option.some g:=by
  intro e s n c q xs ho hne he
  rcases ho.2 with⟨b1,_⟩|⟨g1,cap1,cur1,b1,_,b3,_⟩
  ·rw[b1]at he;cases he
  ·rw[b1]at he
   injection he with he
   have x1:g1=g:=he
   subst x1
   unfold Blk at hb
   rw[hb]at b3
   injection b3 with b3;injection b3 with _ b3
   exact hne b3.symm
 have H:=h.own2 hx h1 h2 (Nat.le_refl _) ht
 have p1:=List.pairwise_cons.1 H.apart
 have p2:=List.pairwise_cons.1 p1.2
 have HB:=h.blkOf hx hb hg
 have H2:Mem w0 w' (aJ w0.heap.size e2 s2 q2 n2 c2 xs2::aF w0.heap.size g t cs::L):=HB.cons (gS _ _ _ _ _ _ _) (gD h2 h.ext.sz) (fun g' hg' j hj e=>by
  rcases List.mem_cons.1 hj with rfl|hj
  ·obtain rfl:g=g':=e
   exact far h2 t2 hg'
  ·exact p2.1 j hj g' hg' e)
 exact H2.cons (gS _ _ _ _ _ _ _) (gD h1 h.ext.sz) (fun g' hg' j hj e=>by
  rcases List.mem_cons.1 hj with rfl|hj
  ·exact p1.1 _ (by simp) g' hg' e
  ·rcases List.mem_cons.1 hj with rfl|hj
   ·obtain rfl:g=g':=e
    exact far h1 t1 hg'
   ·exact p1.1 j (by simp[hj]) g' hg' e)
theorem aF5 (h:bJ)(p:Option Addr)(n cap:Nat)(q:Option Addr)(m c2:Nat)(w:World)(hn:n≤9223372036854775807)(hm:m≤9223372036854775807)(hb:1048576<n+m):
  Calls Tryz.prog 6 #[cC h p n cap q m c2,.int .i64 1048576] w fun e w'=>e= .returned (.int .i64 (-1))∧Ext w w':=by
 have:=oK h p n cap q m c2 w hn hm
 rwa[if_pos (by omega)]at this
theorem aB0 (h:bJ)(p:Option Addr)(n cap:Nat)(q:Option Addr)(m c2:Nat)(w:World)(hb:n+m≤1048576):
  Calls Tryz.prog 6 #[cC h p n cap q m c2,.int .i64 1048576] w fun e w'=>e= .returned (.int .i64 (1048576-n-m))∧Ext w w':=by
 have:=oK h p n cap q m c2 w (by omega) (by omega)
 rwa[if_neg (by omega)]at this
set_option maxRecDepth 100000 in
set_option maxHeartbeats 1000000 in
theorem xT (a b c:Int)(w:World):Calls Tryz.prog 9 #[.agg #[.int .i64 a,.int .i64 b,.int .i64 c]] w fun e w'=>e= .returned (.agg #[.int .i64 a,.int .i64 b,.int .i64 c])∧Ext w w':=by
 go_enter Tryz.func9,Tryz.ntmps9
 go_wp2
 exact bodyPost_ret (v:=xF a b c) (by simp[results,Tryz.results9,go_sem]) rfl ⟨rfl,xE⟩
set_option maxRecDepth 100000 in
set_option maxHeartbeats 8000000 in
theorem aGk (aA aB free step aE aG aD aH kk one two num:Int)(ok:Bool)(cells:List Int)(vs:List aQ)(p:Option Addr)(n cp:Nat)(q:Option Addr)(m cq:Nat)(r:bJ)(w:World)(hsz:n+m≤1048576)(hs1:r.cells.length≤1000)(hs2:r.vs.length≤1000)
  (HZ:Hid (∀w,Calls Tryz.prog 6 #[.agg #[.int .i64 aA,.int .i64 aB,.slice p n cp,.int .i64 free,.int .i64 step,.int .i64 aE,.int .i64 aG,.int .i64 aD,.int .i64 aH,.slice q m cq],.int .i64 1048576] w fun e w'=>e= .returned (.int .i64 (1048576-n-m))∧Ext w w'))
  (HT:Hid (∀w',Ext w w'→Calls Tryz.prog 8 #[.agg #[.int .i64 aA,.int .i64 aB,.slice p n cp,.int .i64 free,.int .i64 step,.int .i64 aE,.int .i64 aG,.int .i64 aD,.int .i64 aH,.slice q m cq]] w' fun e w''=> ∃pa ca qa da,e= .returned (.agg #[.int .i64 aA,.int .i64 aB,.slice pa n ca,.int .i64 free,.int .i64 step,.int .i64 aE,.int .i64 aG,.int .i64 aD,.int .i64 aH,.slice qa m da])∧w''.ownsRow w'.heap.size TI 1 (.slice pa n ca) n (ivs cells)∧w''.ownsRow w'.heap.size TV 4 (.slice qa m da) m (vs.flatMap aC)∧Ext w' w''))
  (HSp:Hid (∀B p c q d w',B≤w'.heap.size→Ext w w'→IsHouse w' ⟨aA,aB,cells,free,step,aE,aG,aD,aH,vs⟩ p n c q m d→Calls Tryz.prog 7 #[.agg #[.int .i64 aA,.int .i64 aB,.slice p n c,.int .i64 free,.int .i64 step,.int .i64 aE,.int .i64 aG,.int .i64 aD,.int .i64 aH,.slice q m d],.agg #[.int .i64 kk,.int .i64 one,.int .i64 two]] w' fun e w''=> ∃pa ca qa da,e= .returned (.tuple #[.agg #[.int .i64 r.aA,.int .i64 r.aB,.slice pa r.cells.length ca,.int .i64 r.free,.int .i64 r.step,.int .i64 r.aE,.int .i64 r.aG,.int .i64 r.aD,.int .i64 r.aH,.slice qa r.vs.length da],.int .i64 num,.bool ok])∧w''.ownsRow B TI 1 (.slice pa r.cells.length ca) r.cells.length (ivs r.cells)∧w''.ownsRow B TV 4 (.slice qa r.vs.length da) r.vs.length (r.vs.flatMap aC)∧Ext w' w''))
  (HIm:Hid (∀B p c q d w',B≤w'.heap.size→Ext w w'→IsHouse w' ⟨aA,aB,cells,free,step,aE,aG,aD,aH,vs⟩ p n c q m d→Calls Tryz.prog 10 #[.agg #[.int .i64 aA,.int .i64 aB,.slice p n c,.int .i64 free,.int .i64 step,.int .i64 aE,.int .i64 aG,.int .i64 aD,.int .i64 aH,.slice q m d],.agg #[.int .i64 kk,.int .i64 one,.int .i64 two]] w' fun e w''=> ∃pa ca qa da,e= .returned (.tuple #[.agg #[.int .i64 r.aA,.int .i64 r.aB,.slice pa r.cells.length ca,.int .i64 r.free,.int .i64 r.step,.int .i64 r.aE,.int .i64 r.aG,.int .i64 r.aD,.int .i64 r.aH,.slice qa r.vs.length da],.int .i64 num,.bool ok])∧w''.ownsRow B TI 1 (.slice pa r.cells.length ca) r.cells.length (ivs r.cells)∧w''.ownsRow B TV 4 (.slice qa r.vs.length da) r.vs.length (r.vs.flatMap aC)∧Ext w' w'')):
  Calls Tryz.prog 3 #[.agg #[.int .i64 aA,.int .i64 aB,.slice p n cp,.int .i64 free,.int .i64 step,.int .i64 aE,.int .i64 aG,.int .i64 aD,.int .i64 aH,.slice q m cq],.agg #[.int .i64 kk,.int .i64 one,.int .i64 two]] w fun e w'=>e= .returned (.bool true)∧Ext w w':=by
 go_enter Tryz.func3,Tryz.ntmps3
 go_wp2_with fail
 refine(HZ.out _).mono ?_
 rintro e w1 ⟨rfl,hx1⟩
 have M1:=xQ ((Mem.b2 w).adv hx1)
 have lt1_0:=M1.out.hi 0
 have lt1_1:=M1.out.hi 1
 clear hx1
 have xm2:=M1.out.ext
 obtain⟨ka0,ka1,ka2,ka3,ka4,ka5,ka6,ka7,ka8,ka9⟩:=(M1.out.blk (i:=1) rfl).ten
 obtain⟨kd0,kd1,kd2⟩:=(M1.out.blk (i:=0) rfl).tri
 have nca1: ¬(w.heap.size=w1.heap.size):=by omega
 have nca2: ¬(w1.heap.size=w.heap.size):=by omega
 have ncb1: ¬(w.heap.size+1=w1.heap.size):=by omega
 have ncb2: ¬(w1.heap.size=w.heap.size+1):=by omega
 go_upto_region 5 with fail
 go_cut [6,7,8] (fun s1 s2 s3 wx=> ∃(g2:Nat) (p2:Option Addr) (c2:Nat) (q2:Option Addr) (d2:Nat),s1= .pointer (some ⟨g2,0,none⟩)∧s2= .int .i64 num∧s3= .bool ok∧Mem w wx [aF w.heap.size (g2) aO #[.int .i64 r.aA,.int .i64 r.aB,.slice p2 r.cells.length c2,.int .i64 r.free,.int .i64 r.step,.int .i64 r.aE,.int .i64 r.aG,.int .i64 r.aD,.int .i64 r.aH,.slice q2 r.vs.length d2],aJ w.heap.size TI 1 (p2) (r.cells.length) (c2) (ivs r.cells),aJ w.heap.size TV 4 (q2) (r.vs.length) (d2) (r.vs.flatMap aC),aF w.heap.size (w.heap.size+1) 31 #[.int .i64 kk,.int .i64 one,.int .i64 two],aF w.heap.size (w.heap.size) 29 #[.int .i64 aA,.int .i64 aB,.slice p n cp,.int .i64 free,.int .i64 step,.int .i64 aE,.int .i64 aG,.int .i64 aD,.int .i64 aH,.slice q m cq]])
 case first=>
  go_region_held3 (fun w'=>w'.cell? ⟨w.heap.size,0,none⟩=some (.int .i64 aA)∧w'.cell? ⟨w.heap.size,1,none⟩=some (.int .i64 aB)∧w'.cell? ⟨w.heap.size,2,none⟩=some (.slice p n cp)∧w'.cell? ⟨w.heap.size,3,none⟩=some (.int .i64 free)∧w'.cell? ⟨w.heap.size,4,none⟩=some (.int .i64 step)∧w'.cell? ⟨w.heap.size,5,none⟩=some (.int .i64 aE)∧w'.cell? ⟨w.heap.size,6,none⟩=some (.int .i64 aG)∧w'.cell? ⟨w.heap.size,7,none⟩=some (.int .i64 aD)∧w'.cell? ⟨w.heap.size,8,none⟩=some (.int .i64 aH)∧w'.cell? ⟨w.heap.size,9,none⟩=some (.slice q m cq)∧w'.cell? ⟨w.heap.size+1,0,none⟩=some (.int .i64 kk)∧w'.cell? ⟨w.heap.size+1,1,none⟩=some (.int .i64 one)∧w'.cell? ⟨w.heap.size+1,2,none⟩=some (.int .i64 two))
   (first|(refine⟨?_,?_,?_,?_,?_,?_,?_,?_,?_,?_,?_,?_,?_⟩<;>with_reducible assumption)|go_keep)
   (first
    |(go_at_call 8
      refine(HT.out _ xE).mono ?_
      rintro e wt ⟨pt,ct,qt,dt,rfl,ot,vt,hxt⟩
      have hyt:Ext w1 wt:=xE
      have It:=xQ (show IsHouse wt ⟨aA,aB,cells,free,step,aE,aG,aD,aH,vs⟩ pt n ct qt m dt from⟨Sl.own ot,Sl.own vt⟩)
      clear ot vt
      obtain⟨ta0,ta1,ta2,ta3,ta4,ta5,ta6,ta7,ta8,ta9⟩:=(((M1.out.blk (i:=1) rfl)).ext hyt).ten
      obtain⟨td0,td1,td2⟩:=(((M1.out.blk (i:=0) rfl)).ext hyt).tri
      have nta1: ¬(w.heap.size=wt.heap.size):=by have:=hyt.sz;omega
      have nta2: ¬(wt.heap.size=w.heap.size):=by have:=hyt.sz;omega
      have ntb1: ¬(w.heap.size+1=wt.heap.size):=by have:=hyt.sz;omega
      have ntb2: ¬(wt.heap.size=w.heap.size+1):=by have:=hyt.sz;omega)
    |(go_at_call 9
      refine(xT kk one two _).mono ?_
      rintro e wd ⟨rfl,hxd⟩
      have hyd:Ext w1 wd:=xE
      obtain⟨da0,da1,da2,da3,da4,da5,da6,da7,da8,da9⟩:=(((M1.out.blk (i:=1) rfl)).ext hyd).ten
      obtain⟨dd0,dd1,dd2⟩:=(((M1.out.blk (i:=0) rfl)).ext hyd).tri
      have nda1: ¬(w.heap.size=wd.heap.size):=by have:=hyd.sz;omega
      have nda2: ¬(wd.heap.size=w.heap.size):=by have:=hyd.sz;omega
      have ndb1: ¬(w.heap.size+1=wd.heap.size):=by have:=hyd.sz;omega
      have ndb2: ¬(wd.heap.size=w.heap.size+1):=by have:=hyd.sz;omega)
    |(go_at_call 7
      refine(HSp.out w1.heap.size _ _ _ _ _ (Ext.sz (show Ext w1 _ from xE)) xE (by first|with_reducible exact It.out|with_reducible exact It.out.ext ((Ext.refl _).alloc _)|with_reducible exact It.out.ext hxd|with_reducible exact It.out.ext (hxd.alloc _)|with_reducible exact It.out.ext (((Ext.refl _).alloc _).trans hxd))).mono ?_
      rintro e ws ⟨p2,c2,q2,d2,rfl,os,vs_,hxs⟩
      have hys:Ext w1 ws:=xE
      obtain⟨sa0,sa1,sa2,sa3,sa4,sa5,sa6,sa7,sa8,sa9⟩:=(((M1.out.blk (i:=1) rfl)).ext hys).ten
      obtain⟨sd0,sd1,sd2⟩:=(((M1.out.blk (i:=0) rfl)).ext hys).tri
      have nsa1: ¬(w.heap.size=ws.heap.size):=by have:=hys.sz;omega
      have nsa2: ¬(ws.heap.size=w.heap.size):=by have:=hys.sz;omega
      have nsb1: ¬(w.heap.size+1=ws.heap.size):=by have:=hys.sz;omega
      have nsb2: ¬(ws.heap.size=w.heap.size+1):=by have:=hys.sz;omega
      first
       |(with_reducible have hz:Ext (w1.alloc (.cells #[.int .i64 0,.int .i64 0,.slice none 0 0,.int .i64 0,.int .i64 0,.int .i64 0,.int .i64 0,.int .i64 0,.int .i64 0,.slice none 0 0] aO)) ws:=(hxt.trans hxd).trans hxs;have MB:=xQ (Mem.own2blk M1.out hys ((Blk.new w1 aO #[.int .i64 0,.int .i64 0,.slice none 0 0,.int .i64 0,.int .i64 0,.int .i64 0,.int .i64 0,.int .i64 0,.int .i64 0,.slice none 0 0]).ext hz) (Nat.le_refl _) os vs_ (by decide) (by decide) (by decide));obtain⟨zc0,zf0,zc1,zf1,zc2,zf2,zc3,zf3,zc4,zf4,zc5,zf5,zc6,zf6,zc7,zf7,zc8,zf8,zc9,zf9⟩:=(MB.out.blk (i:=2) rfl).tenf)
       |(with_reducible have hz:Ext (w1.alloc (.cells #[.int .i64 0,.int .i64 0,.slice none 0 0,.int .i64 0,.int .i64 0,.int .i64 0,.int .i64 0,.int .i64 0,.int .i64 0,.slice none 0 0] aO)) ws:=(hxt.of_drew.trans hxd).trans hxs;have MB:=xQ (Mem.own2blk M1.out hys ((Blk.new w1 aO #[.int .i64 0,.int .i64 0,.slice none 0 0,.int .i64 0,.int .i64 0,.int .i64 0,.int .i64 0,.int .i64 0,.int .i64 0,.slice none 0 0]).ext hz) (Nat.le_refl _) os vs_ (by decide) (by decide) (by decide));obtain⟨zc0,zf0,zc1,zf1,zc2,zf2,zc3,zf3,zc4,zf4,zc5,zf5,zc6,zf6,zc7,zf7,zc8,zf8,zc9,zf9⟩:=(MB.out.blk (i:=2) rfl).tenf)
       |(with_reducible have hz:Ext (w1.alloc (.cells #[.int .i64 0,.int .i64 0,.slice none 0 0,.int .i64 0,.int .i64 0,.int .i64 0,.int .i64 0,.int .i64 0,.int .i64 0,.slice none 0 0] aO)) ws:=(hxd.trans hxt).trans hxs;have MB:=xQ (Mem.own2blk M1.out hys ((Blk.new w1 aO #[.int .i64 0,.int .i64 0,.slice none 0 0,.int .i64 0,.int .i64 0,.int .i64 0,.int .i64 0,.int .i64 0,.int .i64 0,.slice none 0 0]).ext hz) (Nat.le_refl _) os vs_ (by decide) (by decide) (by decide));obtain⟨zc0,zf0,zc1,zf1,zc2,zf2,zc3,zf3,zc4,zf4,zc5,zf5,zc6,zf6,zc7,zf7,zc8,zf8,zc9,zf9⟩:=(MB.out.blk (i:=2) rfl).tenf)
       |(with_reducible have hz:Ext (w1.alloc (.cells #[.int .i64 0,.int .i64 0,.slice none 0 0,.int .i64 0,.int .i64 0,.int .i64 0,.int .i64 0,.int .i64 0,.int .i64 0,.slice none 0 0] aO)) ws:=(hxd.of_drew.trans hxt).trans hxs;have MB:=xQ (Mem.own2blk M1.out hys ((Blk.new w1 aO #[.int .i64 0,.int .i64 0,.slice none 0 0,.int .i64 0,.int .i64 0,.int .i64 0,.int .i64 0,.int .i64 0,.int .i64 0,.slice none 0 0]).ext hz) (Nat.le_refl _) os vs_ (by decide) (by decide) (by decide));obtain⟨zc0,zf0,zc1,zf1,zc2,zf2,zc3,zf3,zc4,zf4,zc5,zf5,zc6,zf6,zc7,zf7,zc8,zf8,zc9,zf9⟩:=(MB.out.blk (i:=2) rfl).tenf)
       |(with_reducible have hz:Ext (wt.alloc (.cells #[.int .i64 0,.int .i64 0,.slice none 0 0,.int .i64 0,.int .i64 0,.int .i64 0,.int .i64 0,.int .i64 0,.int .i64 0,.slice none 0 0] aO)) ws:=hxd.trans hxs;have MB:=xQ (Mem.own2blk M1.out hys ((Blk.new wt aO #[.int .i64 0,.int .i64 0,.slice none 0 0,.int .i64 0,.int .i64 0,.int .i64 0,.int .i64 0,.int .i64 0,.int .i64 0,.slice none 0 0]).ext hz) hyt.sz os vs_ (by decide) (by decide) (by decide));obtain⟨zc0,zf0,zc1,zf1,zc2,zf2,zc3,zf3,zc4,zf4,zc5,zf5,zc6,zf6,zc7,zf7,zc8,zf8,zc9,zf9⟩:=(MB.out.blk (i:=2) rfl).tenf)
       |(with_reducible have hz:Ext (wt.alloc (.cells #[.int .i64 0,.int .i64 0,.slice none 0 0,.int .i64 0,.int .i64 0,.int .i64 0,.int .i64 0,.int .i64 0,.int .i64 0,.slice none 0 0] aO)) ws:=hxs;have MB:=xQ (Mem.own2blk M1.out hys ((Blk.new wt aO #[.int .i64 0,.int .i64 0,.slice none 0 0,.int .i64 0,.int .i64 0,.int .i64 0,.int .i64 0,.int .i64 0,.int .i64 0,.slice none 0 0]).ext hz) hyt.sz os vs_ (by decide) (by decide) (by decide));obtain⟨zc0,zf0,zc1,zf1,zc2,zf2,zc3,zf3,zc4,zf4,zc5,zf5,zc6,zf6,zc7,zf7,zc8,zf8,zc9,zf9⟩:=(MB.out.blk (i:=2) rfl).tenf)
       |(with_reducible have hz:Ext (wd.alloc (.cells #[.int .i64 0,.int .i64 0,.slice none 0 0,.int .i64 0,.int .i64 0,.int .i64 0,.int .i64 0,.int .i64 0,.int .i64 0,.slice none 0 0] aO)) ws:=hxt.trans hxs;have MB:=xQ (Mem.own2blk M1.out hys ((Blk.new wd aO #[.int .i64 0,.int .i64 0,.slice none 0 0,.int .i64 0,.int .i64 0,.int .i64 0,.int .i64 0,.int .i64 0,.int .i64 0,.slice none 0 0]).ext hz) hyd.sz os vs_ (by decide) (by decide) (by decide));obtain⟨zc0,zf0,zc1,zf1,zc2,zf2,zc3,zf3,zc4,zf4,zc5,zf5,zc6,zf6,zc7,zf7,zc8,zf8,zc9,zf9⟩:=(MB.out.blk (i:=2) rfl).tenf)
       |(with_reducible have hz:Ext (wd.alloc (.cells #[.int .i64 0,.int .i64 0,.slice none 0 0,.int .i64 0,.int .i64 0,.int .i64 0,.int .i64 0,.int .i64 0,.int .i64 0,.slice none 0 0] aO)) ws:=hxs;have MB:=xQ (Mem.own2blk M1.out hys ((Blk.new wd aO #[.int .i64 0,.int .i64 0,.slice none 0 0,.int .i64 0,.int .i64 0,.int .i64 0,.int .i64 0,.int .i64 0,.int .i64 0,.slice none 0 0]).ext hz) hyd.sz os vs_ (by decide) (by decide) (by decide));obtain⟨zc0,zf0,zc1,zf1,zc2,zf2,zc3,zf3,zc4,zf4,zc5,zf5,zc6,zf6,zc7,zf7,zc8,zf8,zc9,zf9⟩:=(MB.out.blk (i:=2) rfl).tenf)
       |(have MA:=xQ (Mem.own2 M1.out hys os vs_ (Nat.le_refl _) (by decide)))))
  all_goals (
   go_wp2_with fail
   go_meet
   first
    |exact⟨_,p2,c2,q2,d2,rfl,rfl,rfl,(MB.out.put10 (i:=2) rfl (.int .i64 r.aA) (.int .i64 r.aB) (.slice p2 r.cells.length c2) (.int .i64 r.free) (.int .i64 r.step) (.int .i64 r.aE) (.int .i64 r.aG) (.int .i64 r.aD) (.int .i64 r.aH) (.slice q2 r.vs.length d2)).pick [2,0,1,3,4] (by decide) rfl⟩
    |exact⟨_,p2,c2,q2,d2,rfl,rfl,rfl,MA.out.blkNew aO #[.int .i64 r.aA,.int .i64 r.aB,.slice p2 r.cells.length c2,.int .i64 r.free,.int .i64 r.step,.int .i64 r.aE,.int .i64 r.aG,.int .i64 r.aD,.int .i64 r.aH,.slice q2 r.vs.length d2] _ rfl⟩)
 case rest=>
  clear ka0 ka1 ka2 ka3 ka4 ka5 ka6 ka7 ka8 ka9 kd0 kd1 kd2 nca1 nca2 ncb1 ncb2 xm2
  obtain⟨g2,p2,c2,q2,d2,rfl,rfl,rfl,hM2⟩:=hcut
  obtain⟨v2,rfl⟩: ∃z,z=wc:=⟨_,rfl⟩
  have MC2:=xQ hM2
  clear hM2 M1 lt1_0 lt1_1
  have lt20_0:g2<v2.heap.size:=(MC2.out.lt (i:=0) rfl rfl).2
  have lt20_3:w.heap.size+1<v2.heap.size:=(MC2.out.lt (i:=3) rfl rfl).2
  have lt20_4:w.heap.size<v2.heap.size:=(MC2.out.lt (i:=4) rfl rfl).2
  obtain⟨ca0,ca1,ca2,ca3,ca4,ca5,ca6,ca7,ca8,ca9⟩:=(MC2.out.blk (i:=4) rfl).ten
  go_wp2_with fail
  clear ca0 ca1 ca2 ca3 ca4 ca5 ca6 ca7 ca8 ca9
  refine(HT.out _ (MC2.out).ext).mono ?_
  rintro e w21 ⟨p3,c3,q3,d3,rfl,ho21,hv21,hx21⟩
  have M21:=xQ ((MC2.out).own2 hx21 ho21 hv21 (Nat.le_refl _) (by decide))
  clear MC2
  clear lt20_0 lt20_3 lt20_4
  have lt21_2:=M21.out.hi 2
  have lt21_5:=M21.out.hi 5
  have lt21_6:=M21.out.hi 6
  clear hx21 ho21 hv21
  go_upto_region 7 with fail
  obtain⟨gX,hgX⟩: ∃gX,gX=w21.heap.size:=⟨_,rfl⟩
  rw[←hgX]
  have M22:=xQ (((M21.out).blkNew aO #[.int .i64 aA,.int .i64 aB,.slice p3 n c3,.int .i64 free,.int .i64 step,.int .i64 aE,.int .i64 aG,.int .i64 aD,.int .i64 aH,.slice q3 m d3] gX hgX.symm))
  generalize World.alloc _ _=v3 at M22⊢
  clear M21
  clear lt21_2 lt21_5 lt21_6
  have lt22_0:=M22.out.hi 0
  have lt22_3:=M22.out.hi 3
  have lt22_6:=M22.out.hi 6
  have lt22_7:=M22.out.hi 7
  clear hgX
  have IX4:=xQ (show IsHouse v3 ⟨aA,aB,cells,free,step,aE,aG,aD,aH,vs⟩ p3 n c3 q3 m d3 from⟨(M22.out.sl (i:=1) rfl),(M22.out.sl (i:=2) rfl)⟩)
  have xm4:=M22.out.ext
  obtain⟨ka0,ka1,ka2,ka3,ka4,ka5,ka6,ka7,ka8,ka9⟩:=(M22.out.blk (i:=0) rfl).ten
  obtain⟨kd0,kd1,kd2⟩:=(M22.out.blk (i:=6) rfl).tri
  have nca1: ¬(gX=v3.heap.size):=by omega
  have nca2: ¬(v3.heap.size=gX):=by omega
  have ncb1: ¬(w.heap.size+1=v3.heap.size):=by omega
  have ncb2: ¬(v3.heap.size=w.heap.size+1):=by omega
  go_upto_region 7 with fail
  go_cut [10,11,12] (fun s1 s2 s3 wx=> ∃(g4:Nat) (p4:Option Addr) (c4:Nat) (q4:Option Addr) (d4:Nat),s1= .pointer (some ⟨g4,0,none⟩)∧s2= .int .i64 num∧s3= .bool ok∧Mem w wx [aF w.heap.size (g4) aO #[.int .i64 r.aA,.int .i64 r.aB,.slice p4 r.cells.length c4,.int .i64 r.free,.int .i64 r.step,.int .i64 r.aE,.int .i64 r.aG,.int .i64 r.aD,.int .i64 r.aH,.slice q4 r.vs.length d4],aJ w.heap.size TI 1 (p4) (r.cells.length) (c4) (ivs r.cells),aJ w.heap.size TV 4 (q4) (r.vs.length) (d4) (r.vs.flatMap aC),aF w.heap.size (gX) aO #[.int .i64 aA,.int .i64 aB,.slice p3 n c3,.int .i64 free,.int .i64 step,.int .i64 aE,.int .i64 aG,.int .i64 aD,.int .i64 aH,.slice q3 m d3],aJ w.heap.size TI 1 (p3) (n) (c3) (ivs cells),aJ w.heap.size TV 4 (q3) (m) (d3) (vs.flatMap aC),aF w.heap.size (g2) aO #[.int .i64 r.aA,.int .i64 r.aB,.slice p2 r.cells.length c2,.int .i64 r.free,.int .i64 r.step,.int .i64 r.aE,.int .i64 r.aG,.int .i64 r.aD,.int .i64 r.aH,.slice q2 r.vs.length d2],aJ w.heap.size TI 1 (p2) (r.cells.length) (c2) (ivs r.cells),aJ w.heap.size TV 4 (q2) (r.vs.length) (d2) (r.vs.flatMap aC),aF w.heap.size (w.heap.size+1) 31 #[.int .i64 kk,.int .i64 one,.int .i64 two],aF w.heap.size (w.heap.size) 29 #[.int .i64 aA,.int .i64 aB,.slice p n cp,.int .i64 free,.int .i64 step,.int .i64 aE,.int .i64 aG,.int .i64 aD,.int .i64 aH,.slice q m cq]])
  case first=>
   go_region_held3 (fun w'=>w'.cell? ⟨gX,0,none⟩=some (.int .i64 aA)∧w'.cell? ⟨gX,1,none⟩=some (.int .i64 aB)∧w'.cell? ⟨gX,2,none⟩=some (.slice p3 n c3)∧w'.cell? ⟨gX,3,none⟩=some (.int .i64 free)∧w'.cell? ⟨gX,4,none⟩=some (.int .i64 step)∧w'.cell? ⟨gX,5,none⟩=some (.int .i64 aE)∧w'.cell? ⟨gX,6,none⟩=some (.int .i64 aG)∧w'.cell? ⟨gX,7,none⟩=some (.int .i64 aD)∧w'.cell? ⟨gX,8,none⟩=some (.int .i64 aH)∧w'.cell? ⟨gX,9,none⟩=some (.slice q3 m d3)∧w'.cell? ⟨w.heap.size+1,0,none⟩=some (.int .i64 kk)∧w'.cell? ⟨w.heap.size+1,1,none⟩=some (.int .i64 one)∧w'.cell? ⟨w.heap.size+1,2,none⟩=some (.int .i64 two))
    (first|(refine⟨?_,?_,?_,?_,?_,?_,?_,?_,?_,?_,?_,?_,?_⟩<;>with_reducible assumption)|go_keep)
    (first
     |(go_at_call 9
       refine(xT kk one two _).mono ?_
       rintro e wd ⟨rfl,hxd⟩
       have hyd:Ext v3 wd:=xE
       obtain⟨da0,da1,da2,da3,da4,da5,da6,da7,da8,da9⟩:=(((M22.out.blk (i:=0) rfl)).ext hyd).ten
       obtain⟨dd0,dd1,dd2⟩:=(((M22.out.blk (i:=6) rfl)).ext hyd).tri
       have nda1: ¬(gX=wd.heap.size):=by have:=hyd.sz;omega
       have nda2: ¬(wd.heap.size=gX):=by have:=hyd.sz;omega
       have ndb1: ¬(w.heap.size+1=wd.heap.size):=by have:=hyd.sz;omega
       have ndb2: ¬(wd.heap.size=w.heap.size+1):=by have:=hyd.sz;omega)
     |(go_at_call 10
       refine(HIm.out v3.heap.size _ _ _ _ _ (Ext.sz (show Ext v3 _ from xE)) xE (IX4.out.ext xE)).mono ?_
       rintro e ws ⟨p4,c4,q4,d4,rfl,os,vs_,hxs⟩
       have hys:Ext v3 ws:=xE
       obtain⟨sa0,sa1,sa2,sa3,sa4,sa5,sa6,sa7,sa8,sa9⟩:=(((M22.out.blk (i:=0) rfl)).ext hys).ten
       obtain⟨sd0,sd1,sd2⟩:=(((M22.out.blk (i:=6) rfl)).ext hys).tri
       have nsa1: ¬(gX=ws.heap.size):=by have:=hys.sz;omega
       have nsa2: ¬(ws.heap.size=gX):=by have:=hys.sz;omega
       have nsb1: ¬(w.heap.size+1=ws.heap.size):=by have:=hys.sz;omega
       have nsb2: ¬(ws.heap.size=w.heap.size+1):=by have:=hys.sz;omega
       first
        |(with_reducible have hz:Ext (v3.alloc (.cells #[.int .i64 0,.int .i64 0,.slice none 0 0,.int .i64 0,.int .i64 0,.int .i64 0,.int .i64 0,.int .i64 0,.int .i64 0,.slice none 0 0] aO)) ws:=hxd.trans hxs;have MB:=xQ (Mem.own2blk M22.out hys ((Blk.new v3 aO #[.int .i64 0,.int .i64 0,.slice none 0 0,.int .i64 0,.int .i64 0,.int .i64 0,.int .i64 0,.int .i64 0,.int .i64 0,.slice none 0 0]).ext hz) (Nat.le_refl _) os vs_ (by decide) (by decide) (by decide));obtain⟨zc0,zf0,zc1,zf1,zc2,zf2,zc3,zf3,zc4,zf4,zc5,zf5,zc6,zf6,zc7,zf7,zc8,zf8,zc9,zf9⟩:=(MB.out.blk (i:=2) rfl).tenf)
        |(with_reducible have hz:Ext (v3.alloc (.cells #[.int .i64 0,.int .i64 0,.slice none 0 0,.int .i64 0,.int .i64 0,.int .i64 0,.int .i64 0,.int .i64 0,.int .i64 0,.slice none 0 0] aO)) ws:=hxd.of_drew.trans hxs;have MB:=xQ (Mem.own2blk M22.out hys ((Blk.new v3 aO #[.int .i64 0,.int .i64 0,.slice none 0 0,.int .i64 0,.int .i64 0,.int .i64 0,.int .i64 0,.int .i64 0,.int .i64 0,.slice none 0 0]).ext hz) (Nat.le_refl _) os vs_ (by decide) (by decide) (by decide));obtain⟨zc0,zf0,zc1,zf1,zc2,zf2,zc3,zf3,zc4,zf4,zc5,zf5,zc6,zf6,zc7,zf7,zc8,zf8,zc9,zf9⟩:=(MB.out.blk (i:=2) rfl).tenf)
        |(with_reducible have hz:Ext (wd.alloc (.cells #[.int .i64 0,.int .i64 0,.slice none 0 0,.int .i64 0,.int .i64 0,.int .i64 0,.int .i64 0,.int .i64 0,.int .i64 0,.slice none 0 0] aO)) ws:=hxs;have MB:=xQ (Mem.own2blk M22.out hys ((Blk.new wd aO #[.int .i64 0,.int .i64 0,.slice none 0 0,.int .i64 0,.int .i64 0,.int .i64 0,.int .i64 0,.int .i64 0,.int .i64 0,.slice none 0 0]).ext hz) hyd.sz os vs_ (by decide) (by decide) (by decide));obtain⟨zc0,zf0,zc1,zf1,zc2,zf2,zc3,zf3,zc4,zf4,zc5,zf5,zc6,zf6,zc7,zf7,zc8,zf8,zc9,zf9⟩:=(MB.out.blk (i:=2) rfl).tenf)
        |(have MA:=xQ (Mem.own2 M22.out hys os vs_ (Nat.le_refl _) (by decide)))))
   all_goals (
    go_wp2_with fail
    go_meet
    first
     |exact⟨_,p4,c4,q4,d4,rfl,rfl,rfl,(MB.out.put10 (i:=2) rfl (.int .i64 r.aA) (.int .i64 r.aB) (.slice p4 r.cells.length c4) (.int .i64 r.free) (.int .i64 r.step) (.int .i64 r.aE) (.int .i64 r.aG) (.int .i64 r.aD) (.int .i64 r.aH) (.slice q4 r.vs.length d4)).pick [2,0,1,3,4,5,6,7,8,9,10] (by decide) rfl⟩
     |exact⟨_,p4,c4,q4,d4,rfl,rfl,rfl,MA.out.blkNew aO #[.int .i64 r.aA,.int .i64 r.aB,.slice p4 r.cells.length c4,.int .i64 r.free,.int .i64 r.step,.int .i64 r.aE,.int .i64 r.aG,.int .i64 r.aD,.int .i64 r.aH,.slice q4 r.vs.length d4] _ rfl⟩)
  case rest=>
   clear ka0 ka1 ka2 ka3 ka4 ka5 ka6 ka7 ka8 ka9 kd0 kd1 kd2 nca1 nca2 ncb1 ncb2 xm4
   obtain⟨g4,p4,c4,q4,d4,rfl,rfl,rfl,hM4⟩:=hcut
   obtain⟨v4,rfl⟩: ∃z,z=wc:=⟨_,rfl⟩
   have MC4:=xQ hM4
   clear hM4 M22 lt22_0 lt22_3 lt22_6 lt22_7
   have lt40_0:g4<v4.heap.size:=(MC4.out.lt (i:=0) rfl rfl).2
   have lt40_3:gX<v4.heap.size:=(MC4.out.lt (i:=3) rfl rfl).2
   have lt40_6:g2<v4.heap.size:=(MC4.out.lt (i:=6) rfl rfl).2
   have lt40_9:w.heap.size+1<v4.heap.size:=(MC4.out.lt (i:=9) rfl rfl).2
   have lt40_10:w.heap.size<v4.heap.size:=(MC4.out.lt (i:=10) rfl rfl).2
   clear IX4
   obtain⟨ca0,ca1,ca2,ca3,ca4,ca5,ca6,ca7,ca8,ca9⟩:=(MC4.out.blk (i:=0) rfl).ten
   obtain⟨cb0,cb1,cb2,cb3,cb4,cb5,cb6,cb7,cb8,cb9⟩:=(MC4.out.blk (i:=6) rfl).ten
   go_wp2_with fail
   clear ca0 ca1 ca2 ca3 ca4 ca5 ca6 ca7 ca8 ca9 cb0 cb1 cb2 cb3 cb4 cb5 cb6 cb7 cb8 cb9
   refine(jE r _ _ _ _ _ _ _ _ _ _ _ ⟨((MC4.out).sl (i:=1) rfl),((MC4.out).sl (i:=2) rfl)⟩ ⟨((MC4.out).sl (i:=7) rfl),((MC4.out).sl (i:=8) rfl)⟩).mono ?_
   rintro e w41 ⟨rfl,hx41⟩
   have M41:=xQ ((MC4.out).adv hx41)
   clear MC4
   clear lt40_0 lt40_3 lt40_6 lt40_9 lt40_10
   have lt41_0:=M41.out.hi 0
   have lt41_3:=M41.out.hi 3
   have lt41_6:=M41.out.hi 6
   have lt41_9:=M41.out.hi 9
   have lt41_10:=M41.out.hi 10
   clear hx41
   have ID7:=xQ (show IsHouse w41 ⟨aA,aB,cells,free,step,aE,aG,aD,aH,vs⟩ p3 n c3 q3 m d3 from⟨(M41.out.sl (i:=4) rfl),(M41.out.sl (i:=5) rfl)⟩)
   go_wp2
   refine cK (gl [gEq (.agg #[.int .i64 aA,.int .i64 aB,.slice p3 n c3,.int .i64 free,.int .i64 step,.int .i64 aE,.int .i64 aG,.int .i64 aD,.int .i64 aH,.slice q3 m d3]),gEq (.agg #[.int .i64 aA,.int .i64 aB,.slice p n cp,.int .i64 free,.int .i64 step,.int .i64 aE,.int .i64 aG,.int .i64 aD,.int .i64 aH,.slice q m cq]),(fun v w'=> ∃q c r e,v= .agg #[.int .i64 aA,.int .i64 aB,.slice q n c,.int .i64 free,.int .i64 step,.int .i64 aE,.int .i64 aG,.int .i64 aD,.int .i64 aH,.slice r m e]∧IsHouse w' ⟨aA,aB,cells,free,step,aE,aG,aD,aH,vs⟩ q n c r m e),gEq (.bool true),gEq (.bool false)]) 5 (by kernel_rfl) rfl (by kernel_rfl) (by kernel_rfl) (by kernel_rfl) (dW (aL (aI _) (aL (aI _) (aL (fun v w w' ⟨q,c,r,e,he,ho⟩ hx=>⟨q,c,r,e,he,ho.ext hx⟩) (aL (aI _) (aL (aI _) (eS))))))) (k:=5) (by kernel_rfl) (by decide) (ls:= [(0,some 57),(1,some 58),(2,some 59),(3,some 60),(4,some 61)]) (by kernel_rfl) (ir:= [0,1,2,3,4]) (by kernel_rfl) ?steps (tl:=#[true,true,true,true,true]) (by kernel_rfl) ?fin
   case steps=>
    refine sC [] rfl (fun wi hx=> ?_) ?_
    ·intro K hK
     have hX:Ext w41 wi:=xE
     obtain⟨cl0,cl1,cl2,cl3,cl4,cl5,cl6,cl7,cl8,cl9⟩:=(((M41.out.blk (i:=3) rfl).ext hX)).ten
     go_simp
     exact hK _ _ ⟨.agg #[.int .i64 aA,.int .i64 aB,.slice p3 n c3,.int .i64 free,.int .i64 step,.int .i64 aE,.int .i64 aG,.int .i64 aD,.int .i64 aH,.slice q3 m d3],rfl,rfl,Ext.refl _⟩
    refine sC [] rfl (fun wi hx=> ?_) ?_
    ·intro K hK
     have hX:Ext w41 wi:=xE
     obtain⟨cl0,cl1,cl2,cl3,cl4,cl5,cl6,cl7,cl8,cl9⟩:=(((M41.out.blk (i:=10) rfl).ext hX)).ten
     go_simp
     exact hK _ _ ⟨.agg #[.int .i64 aA,.int .i64 aB,.slice p n cp,.int .i64 free,.int .i64 step,.int .i64 aE,.int .i64 aG,.int .i64 aD,.int .i64 aH,.slice q m cq],rfl,rfl,Ext.refl _⟩
    refine sC [(1,some 58)] rfl (fun wi hx=> ?_) ?_
    ·intro v1 h1 K hK
     obtain rfl:=h1
     go_simp
     refine(HT.out _ (M41.out.ext.trans hx.of_drew)).mono ?_
     rintro e w5 ⟨q21,c21,r21,e21,rfl,hm21,hn21,hx5⟩
     have ho21:IsHouse w5 ⟨aA,aB,cells,free,step,aE,aG,aD,aH,vs⟩ q21 n c21 r21 m e21:=⟨Sl.own hm21,Sl.own hn21⟩
     go_simp
     exact hK _ _ ⟨.agg #[.int .i64 aA,.int .i64 aB,.slice q21 n c21,.int .i64 free,.int .i64 step,.int .i64 aE,.int .i64 aG,.int .i64 aD,.int .i64 aH,.slice r21 m e21],rfl,⟨q21,c21,r21,e21,rfl,ho21⟩,hx5⟩
    refine sC [(0,some 57),(2,some 59)] rfl (fun wi hx=> ?_) ?_
    ·intro v0 h0 v2 h2 K hK
     obtain rfl:=h0
     obtain⟨q21,c21,r21,e21,rfl,ho21⟩:=h2
     go_simp
     refine(jE ⟨aA,aB,cells,free,step,aE,aG,aD,aH,vs⟩ _ _ _ _ _ _ _ _ _ _ _ (ID7.out.ext hx.of_drew) ho21).mono ?_
     rintro e w5 ⟨rfl,hx5⟩
     go_simp
     exact hK _ _ ⟨.bool true,rfl,rfl,hx5⟩
    refine sC [(3,some 60)] rfl (fun wi hx=> ?_) StepsL.nil
    ·intro v3 h3 K hK
     obtain rfl:=h3
     go_simp
     exact hK _ _ ⟨.bool false,rfl,rfl,Ext.refl _⟩
   case fin=>
    intro wi hx v0 h0 v1 h1 v2 h2 v3 h3 v4 h4
    obtain rfl:=h0
    obtain rfl:=h1
    obtain⟨q21,c21,r21,e21,rfl,ho21⟩:=h2
    obtain rfl:=h3
    obtain rfl:=h4
    refine wpAny_done (by kernel_rfl) ?_ _
    try simp only[Act.put,List.setIfInBounds_toArray,List.set_cons_zero,List.set_cons_succ]
    have hX:Ext w41 wi:=hx.of_drew
    have MI:=xQ (M41.out.adv hX)
    clear hX hx ID7 M41 lt41_0 lt41_3 lt41_6 lt41_9 lt41_10
    have lt50_0:g4<wi.heap.size:=(MI.out.lt (i:=0) rfl rfl).2
    have lt50_3:gX<wi.heap.size:=(MI.out.lt (i:=3) rfl rfl).2
    have lt50_6:g2<wi.heap.size:=(MI.out.lt (i:=6) rfl rfl).2
    have lt50_9:w.heap.size+1<wi.heap.size:=(MI.out.lt (i:=9) rfl rfl).2
    have lt50_10:w.heap.size<wi.heap.size:=(MI.out.lt (i:=10) rfl rfl).2
    obtain⟨ca0,ca1,ca2,ca3,ca4,ca5,ca6,ca7,ca8,ca9⟩:=(MI.out.blk (i:=3) rfl).ten
    go_wp2_with fail
    clear ca0 ca1 ca2 ca3 ca4 ca5 ca6 ca7 ca8 ca9
    refine(oL _ _ _ _ _ _ _ _ p3 _ _ q3 _ _ 1 _ _ _ _ _ ((show Mem w wi [aJ w.heap.size TI 1 (p3) (n) (c3) (ivs cells),aJ w.heap.size TV 4 (q3) (m) (d3) (vs.flatMap aC),aF w.heap.size (gX) aO #[.int .i64 aA,.int .i64 aB,.slice p3 n c3,.int .i64 free,.int .i64 step,.int .i64 aE,.int .i64 aG,.int .i64 aD,.int .i64 aH,.slice q3 m d3],aJ w.heap.size TI 1 (p4) (r.cells.length) (c4) (ivs r.cells),aJ w.heap.size TV 4 (q4) (r.vs.length) (d4) (r.vs.flatMap aC),aF w.heap.size (g4) aO #[.int .i64 r.aA,.int .i64 r.aB,.slice p4 r.cells.length c4,.int .i64 r.free,.int .i64 r.step,.int .i64 r.aE,.int .i64 r.aG,.int .i64 r.aD,.int .i64 r.aH,.slice q4 r.vs.length d4],aF w.heap.size (g2) aO #[.int .i64 r.aA,.int .i64 r.aB,.slice p2 r.cells.length c2,.int .i64 r.free,.int .i64 r.step,.int .i64 r.aE,.int .i64 r.aG,.int .i64 r.aD,.int .i64 r.aH,.slice q2 r.vs.length d2],aJ w.heap.size TI 1 (p2) (r.cells.length) (c2) (ivs r.cells),aJ w.heap.size TV 4 (q2) (r.vs.length) (d2) (r.vs.flatMap aC),aF w.heap.size (w.heap.size+1) 31 #[.int .i64 kk,.int .i64 one,.int .i64 two],aF w.heap.size (w.heap.size) 29 #[.int .i64 aA,.int .i64 aB,.slice p n cp,.int .i64 free,.int .i64 step,.int .i64 aE,.int .i64 aG,.int .i64 aD,.int .i64 aH,.slice q m cq]]from(MI.out).pick [4,5,3,1,2,0,6,7,8,9,10] (by decide) rfl)) (by omega) (by omega) (by omega) (by omega)).mono ?_
    rintro e w51 ⟨rfl,hm51⟩
    have M51:=xQ (hm51)
    clear MI
    clear lt50_0 lt50_3 lt50_6 lt50_9 lt50_10
    have lt51_2:=M51.out.hi 2
    have lt51_5:=M51.out.hi 5
    have lt51_6:=M51.out.hi 6
    have lt51_9:=M51.out.hi 9
    have lt51_10:=M51.out.hi 10
    clear hm51
    have k1:(0:Int)≤1+(n:Nat)+(m*4:Nat):=by omega
    have k2:decide ((1:Int)+(n:Nat)+(m*4:Nat)<0)=false:=by simp;omega
    obtain⟨ca0,ca1,ca2,ca3,ca4,ca5,ca6,ca7,ca8,ca9⟩:=(M51.out.blk (i:=5) rfl).ten
    obtain⟨cb0,cb1,cb2,cb3,cb4,cb5,cb6,cb7,cb8,cb9⟩:=(M51.out.blk (i:=6) rfl).ten
    go_wp2_with fail
    clear ca0 ca1 ca2 ca3 ca4 ca5 ca6 ca7 ca8 ca9 cb0 cb1 cb2 cb3 cb4 cb5 cb6 cb7 cb8 cb9
    refine(jE r _ _ _ _ _ _ _ _ _ _ _ ⟨(((show Mem w w51 [aJ w.heap.size TI 1 (p4) (r.cells.length) (c4) (ivs r.cells),aJ w.heap.size TV 4 (q4) (r.vs.length) (d4) (r.vs.flatMap aC),aF w.heap.size (g4) aO #[.int .i64 r.aA,.int .i64 r.aB,.slice p4 r.cells.length c4,.int .i64 r.free,.int .i64 r.step,.int .i64 r.aE,.int .i64 r.aG,.int .i64 r.aD,.int .i64 r.aH,.slice q4 r.vs.length d4],aF w.heap.size (g2) aO #[.int .i64 r.aA,.int .i64 r.aB,.slice p2 r.cells.length c2,.int .i64 r.free,.int .i64 r.step,.int .i64 r.aE,.int .i64 r.aG,.int .i64 r.aD,.int .i64 r.aH,.slice q2 r.vs.length d2],aJ w.heap.size TI 1 (p2) (r.cells.length) (c2) (ivs r.cells),aJ w.heap.size TV 4 (q2) (r.vs.length) (d2) (r.vs.flatMap aC),aF w.heap.size (w.heap.size+1) 31 #[.int .i64 kk,.int .i64 one,.int .i64 two],aF w.heap.size (w.heap.size) 29 #[.int .i64 aA,.int .i64 aB,.slice p n cp,.int .i64 free,.int .i64 step,.int .i64 aE,.int .i64 aG,.int .i64 aD,.int .i64 aH,.slice q m cq]]from(M51.out).pick [3,4,5,6,7,8,9,10] (by decide) rfl)).sl (i:=0) rfl),(((show Mem w w51 [aJ w.heap.size TI 1 (p4) (r.cells.length) (c4) (ivs r.cells),aJ w.heap.size TV 4 (q4) (r.vs.length) (d4) (r.vs.flatMap aC),aF w.heap.size (g4) aO #[.int .i64 r.aA,.int .i64 r.aB,.slice p4 r.cells.length c4,.int .i64 r.free,.int .i64 r.step,.int .i64 r.aE,.int .i64 r.aG,.int .i64 r.aD,.int .i64 r.aH,.slice q4 r.vs.length d4],aF w.heap.size (g2) aO #[.int .i64 r.aA,.int .i64 r.aB,.slice p2 r.cells.length c2,.int .i64 r.free,.int .i64 r.step,.int .i64 r.aE,.int .i64 r.aG,.int .i64 r.aD,.int .i64 r.aH,.slice q2 r.vs.length d2],aJ w.heap.size TI 1 (p2) (r.cells.length) (c2) (ivs r.cells),aJ w.heap.size TV 4 (q2) (r.vs.length) (d2) (r.vs.flatMap aC),aF w.heap.size (w.heap.size+1) 31 #[.int .i64 kk,.int .i64 one,.int .i64 two],aF w.heap.size (w.heap.size) 29 #[.int .i64 aA,.int .i64 aB,.slice p n cp,.int .i64 free,.int .i64 step,.int .i64 aE,.int .i64 aG,.int .i64 aD,.int .i64 aH,.slice q m cq]]from(M51.out).pick [3,4,5,6,7,8,9,10] (by decide) rfl)).sl (i:=1) rfl)⟩ ⟨(((show Mem w w51 [aJ w.heap.size TI 1 (p4) (r.cells.length) (c4) (ivs r.cells),aJ w.heap.size TV 4 (q4) (r.vs.length) (d4) (r.vs.flatMap aC),aF w.heap.size (g4) aO #[.int .i64 r.aA,.int .i64 r.aB,.slice p4 r.cells.length c4,.int .i64 r.free,.int .i64 r.step,.int .i64 r.aE,.int .i64 r.aG,.int .i64 r.aD,.int .i64 r.aH,.slice q4 r.vs.length d4],aF w.heap.size (g2) aO #[.int .i64 r.aA,.int .i64 r.aB,.slice p2 r.cells.length c2,.int .i64 r.free,.int .i64 r.step,.int .i64 r.aE,.int .i64 r.aG,.int .i64 r.aD,.int .i64 r.aH,.slice q2 r.vs.length d2],aJ w.heap.size TI 1 (p2) (r.cells.length) (c2) (ivs r.cells),aJ w.heap.size TV 4 (q2) (r.vs.length) (d2) (r.vs.flatMap aC),aF w.heap.size (w.heap.size+1) 31 #[.int .i64 kk,.int .i64 one,.int .i64 two],aF w.heap.size (w.heap.size) 29 #[.int .i64 aA,.int .i64 aB,.slice p n cp,.int .i64 free,.int .i64 step,.int .i64 aE,.int .i64 aG,.int .i64 aD,.int .i64 aH,.slice q m cq]]from(M51.out).pick [3,4,5,6,7,8,9,10] (by decide) rfl)).sl (i:=4) rfl),(((show Mem w w51 [aJ w.heap.size TI 1 (p4) (r.cells.length) (c4) (ivs r.cells),aJ w.heap.size TV 4 (q4) (r.vs.length) (d4) (r.vs.flatMap aC),aF w.heap.size (g4) aO #[.int .i64 r.aA,.int .i64 r.aB,.slice p4 r.cells.length c4,.int .i64 r.free,.int .i64 r.step,.int .i64 r.aE,.int .i64 r.aG,.int .i64 r.aD,.int .i64 r.aH,.slice q4 r.vs.length d4],aF w.heap.size (g2) aO #[.int .i64 r.aA,.int .i64 r.aB,.slice p2 r.cells.length c2,.int .i64 r.free,.int .i64 r.step,.int .i64 r.aE,.int .i64 r.aG,.int .i64 r.aD,.int .i64 r.aH,.slice q2 r.vs.length d2],aJ w.heap.size TI 1 (p2) (r.cells.length) (c2) (ivs r.cells),aJ w.heap.size TV 4 (q2) (r.vs.length) (d2) (r.vs.flatMap aC),aF w.heap.size (w.heap.size+1) 31 #[.int .i64 kk,.int .i64 one,.int .i64 two],aF w.heap.size (w.heap.size) 29 #[.int .i64 aA,.int .i64 aB,.slice p n cp,.int .i64 free,.int .i64 step,.int .i64 aE,.int .i64 aG,.int .i64 aD,.int .i64 aH,.slice q m cq]]from(M51.out).pick [3,4,5,6,7,8,9,10] (by decide) rfl)).sl (i:=5) rfl)⟩).mono ?_
    rintro e w52 ⟨rfl,hx52⟩
    have M52:=xQ (show Mem w w52 [aJ w.heap.size TI 1 (p4) (r.cells.length) (c4) (ivs r.cells),aJ w.heap.size TV 4 (q4) (r.vs.length) (d4) (r.vs.flatMap aC),aF w.heap.size (g4) aO #[.int .i64 r.aA,.int .i64 r.aB,.slice p4 r.cells.length c4,.int .i64 r.free,.int .i64 r.step,.int .i64 r.aE,.int .i64 r.aG,.int .i64 r.aD,.int .i64 r.aH,.slice q4 r.vs.length d4],aF w.heap.size (g2) aO #[.int .i64 r.aA,.int .i64 r.aB,.slice p2 r.cells.length c2,.int .i64 r.free,.int .i64 r.step,.int .i64 r.aE,.int .i64 r.aG,.int .i64 r.aD,.int .i64 r.aH,.slice q2 r.vs.length d2],aJ w.heap.size TI 1 (p2) (r.cells.length) (c2) (ivs r.cells),aJ w.heap.size TV 4 (q2) (r.vs.length) (d2) (r.vs.flatMap aC),aF w.heap.size (w.heap.size+1) 31 #[.int .i64 kk,.int .i64 one,.int .i64 two],aF w.heap.size (w.heap.size) 29 #[.int .i64 aA,.int .i64 aB,.slice p n cp,.int .i64 free,.int .i64 step,.int .i64 aE,.int .i64 aG,.int .i64 aD,.int .i64 aH,.slice q m cq]]from((show Mem w w51 [aJ w.heap.size TI 1 (p4) (r.cells.length) (c4) (ivs r.cells),aJ w.heap.size TV 4 (q4) (r.vs.length) (d4) (r.vs.flatMap aC),aF w.heap.size (g4) aO #[.int .i64 r.aA,.int .i64 r.aB,.slice p4 r.cells.length c4,.int .i64 r.free,.int .i64 r.step,.int .i64 r.aE,.int .i64 r.aG,.int .i64 r.aD,.int .i64 r.aH,.slice q4 r.vs.length d4],aF w.heap.size (g2) aO #[.int .i64 r.aA,.int .i64 r.aB,.slice p2 r.cells.length c2,.int .i64 r.free,.int .i64 r.step,.int .i64 r.aE,.int .i64 r.aG,.int .i64 r.aD,.int .i64 r.aH,.slice q2 r.vs.length d2],aJ w.heap.size TI 1 (p2) (r.cells.length) (c2) (ivs r.cells),aJ w.heap.size TV 4 (q2) (r.vs.length) (d2) (r.vs.flatMap aC),aF w.heap.size (w.heap.size+1) 31 #[.int .i64 kk,.int .i64 one,.int .i64 two],aF w.heap.size (w.heap.size) 29 #[.int .i64 aA,.int .i64 aB,.slice p n cp,.int .i64 free,.int .i64 step,.int .i64 aE,.int .i64 aG,.int .i64 aD,.int .i64 aH,.slice q m cq]]from(M51.out).pick [3,4,5,6,7,8,9,10] (by decide) rfl)).adv hx52)
    clear M51
    clear lt51_2 lt51_5 lt51_6 lt51_9 lt51_10
    have lt52_2:=M52.out.hi 2
    have lt52_3:=M52.out.hi 3
    have lt52_6:=M52.out.hi 6
    have lt52_7:=M52.out.hi 7
    clear hx52
    obtain⟨ca0,ca1,ca2,ca3,ca4,ca5,ca6,ca7,ca8,ca9⟩:=(M52.out.blk (i:=2) rfl).ten
    go_wp2_with fail
    clear ca0 ca1 ca2 ca3 ca4 ca5 ca6 ca7 ca8 ca9
    refine(oL _ _ _ _ _ _ _ _ p4 _ _ q4 _ _ 1 _ _ _ _ _ ((show Mem w w52 [aJ w.heap.size TI 1 (p4) (r.cells.length) (c4) (ivs r.cells),aJ w.heap.size TV 4 (q4) (r.vs.length) (d4) (r.vs.flatMap aC),aF w.heap.size (g4) aO #[.int .i64 r.aA,.int .i64 r.aB,.slice p4 r.cells.length c4,.int .i64 r.free,.int .i64 r.step,.int .i64 r.aE,.int .i64 r.aG,.int .i64 r.aD,.int .i64 r.aH,.slice q4 r.vs.length d4],aF w.heap.size (g2) aO #[.int .i64 r.aA,.int .i64 r.aB,.slice p2 r.cells.length c2,.int .i64 r.free,.int .i64 r.step,.int .i64 r.aE,.int .i64 r.aG,.int .i64 r.aD,.int .i64 r.aH,.slice q2 r.vs.length d2],aJ w.heap.size TI 1 (p2) (r.cells.length) (c2) (ivs r.cells),aJ w.heap.size TV 4 (q2) (r.vs.length) (d2) (r.vs.flatMap aC),aF w.heap.size (w.heap.size+1) 31 #[.int .i64 kk,.int .i64 one,.int .i64 two],aF w.heap.size (w.heap.size) 29 #[.int .i64 aA,.int .i64 aB,.slice p n cp,.int .i64 free,.int .i64 step,.int .i64 aE,.int .i64 aG,.int .i64 aD,.int .i64 aH,.slice q m cq]]from(M52.out).pick [0,1,2,3,4,5,6,7] (by decide) rfl)) (by omega) (by omega) (by omega) (by omega)).mono ?_
    rintro e w53 ⟨rfl,hm53⟩
    have M53:=xQ (hm53)
    clear M52
    clear lt52_2 lt52_3 lt52_6 lt52_7
    have lt53_2:=M53.out.hi 2
    have lt53_3:=M53.out.hi 3
    have lt53_6:=M53.out.hi 6
    have lt53_7:=M53.out.hi 7
    clear hm53
    have k3:(0:Int)≤1+(r.cells.length:Nat)+(r.vs.length*4:Nat):=by omega
    have k4:decide ((1:Int)+(r.cells.length:Nat)+(r.vs.length*4:Nat)<0)=false:=by simp;omega
    obtain⟨ca0,ca1,ca2,ca3,ca4,ca5,ca6,ca7,ca8,ca9⟩:=(M53.out.blk (i:=2) rfl).ten
    go_wp2_with fail
    clear ca0 ca1 ca2 ca3 ca4 ca5 ca6 ca7 ca8 ca9
    refine(oP _ _ _ _ _ _ _ _ p4 r.cells.length _ q4 r.vs.length _ 1 _ _ (M53.out.own (i:=0) rfl) (M53.out.own (i:=1) rfl) (by omega) (by omega) (by omega) (by omega)).mono ?_
    rintro e w54 ⟨rfl,hx54⟩
    have M54:=xQ ((M53.out).adv hx54)
    clear M53
    clear lt53_2 lt53_3 lt53_6 lt53_7
    have lt54_2:=M54.out.hi 2
    have lt54_3:=M54.out.hi 3
    have lt54_6:=M54.out.hi 6
    have lt54_7:=M54.out.hi 7
    clear hx54
    have xm6:=M54.out.ext
    obtain⟨ka0,ka1,ka2,ka3,ka4,ka5,ka6,ka7,ka8,ka9⟩:=(M54.out.blk (i:=7) rfl).ten
    obtain⟨kd0,kd1,kd2⟩:=(M54.out.blk (i:=6) rfl).tri
    have nca1: ¬(w.heap.size=w54.heap.size):=by omega
    have nca2: ¬(w54.heap.size=w.heap.size):=by omega
    have ncb1: ¬(w.heap.size+1=w54.heap.size):=by omega
    have ncb2: ¬(w54.heap.size=w.heap.size+1):=by omega
    go_upto_region 24 with fail
    go_cut [16,17,18] (fun s1 s2 s3 wx=> ∃(g6:Nat) (p6:Option Addr) (c6:Nat) (q6:Option Addr) (d6:Nat),s1= .pointer (some ⟨g6,0,none⟩)∧s2= .int .i64 num∧s3= .bool ok∧Mem w wx [aF w.heap.size (g6) aO #[.int .i64 r.aA,.int .i64 r.aB,.slice p6 r.cells.length c6,.int .i64 r.free,.int .i64 r.step,.int .i64 r.aE,.int .i64 r.aG,.int .i64 r.aD,.int .i64 r.aH,.slice q6 r.vs.length d6],aJ w.heap.size TI 1 (p6) (r.cells.length) (c6) (ivs r.cells),aJ w.heap.size TV 4 (q6) (r.vs.length) (d6) (r.vs.flatMap aC),aJ w.heap.size TI 1 (p4) (r.cells.length) (c4) (aX 1 r.cells.length),aJ w.heap.size TV 4 (q4) (r.vs.length) (d4) (aX (1+(r.cells.length:Nat)) (r.vs.length*4)),aF w.heap.size (g4) aO #[.int .i64 r.aA,.int .i64 r.aB,.slice p4 r.cells.length c4,.int .i64 r.free,.int .i64 r.step,.int .i64 r.aE,.int .i64 r.aG,.int .i64 r.aD,.int .i64 r.aH,.slice q4 r.vs.length d4],aF w.heap.size (g2) aO #[.int .i64 r.aA,.int .i64 r.aB,.slice p2 r.cells.length c2,.int .i64 r.free,.int .i64 r.step,.int .i64 r.aE,.int .i64 r.aG,.int .i64 r.aD,.int .i64 r.aH,.slice q2 r.vs.length d2],aJ w.heap.size TI 1 (p2) (r.cells.length) (c2) (ivs r.cells),aJ w.heap.size TV 4 (q2) (r.vs.length) (d2) (r.vs.flatMap aC),aF w.heap.size (w.heap.size+1) 31 #[.int .i64 kk,.int .i64 one,.int .i64 two],aF w.heap.size (w.heap.size) 29 #[.int .i64 aA,.int .i64 aB,.slice p n cp,.int .i64 free,.int .i64 step,.int .i64 aE,.int .i64 aG,.int .i64 aD,.int .i64 aH,.slice q m cq]])
    case first=>
     go_region_held3 (fun w'=>w'.cell? ⟨w.heap.size,0,none⟩=some (.int .i64 aA)∧w'.cell? ⟨w.heap.size,1,none⟩=some (.int .i64 aB)∧w'.cell? ⟨w.heap.size,2,none⟩=some (.slice p n cp)∧w'.cell? ⟨w.heap.size,3,none⟩=some (.int .i64 free)∧w'.cell? ⟨w.heap.size,4,none⟩=some (.int .i64 step)∧w'.cell? ⟨w.heap.size,5,none⟩=some (.int .i64 aE)∧w'.cell? ⟨w.heap.size,6,none⟩=some (.int .i64 aG)∧w'.cell? ⟨w.heap.size,7,none⟩=some (.int .i64 aD)∧w'.cell? ⟨w.heap.size,8,none⟩=some (.int .i64 aH)∧w'.cell? ⟨w.heap.size,9,none⟩=some (.slice q m cq)∧w'.cell? ⟨w.heap.size+1,0,none⟩=some (.int .i64 kk)∧w'.cell? ⟨w.heap.size+1,1,none⟩=some (.int .i64 one)∧w'.cell? ⟨w.heap.size+1,2,none⟩=some (.int .i64 two))
      (first|(refine⟨?_,?_,?_,?_,?_,?_,?_,?_,?_,?_,?_,?_,?_⟩<;>with_reducible assumption)|go_keep)
      (first
       |(go_at_call 8
         refine(HT.out _ xE).mono ?_
         rintro e wt ⟨pt,ct,qt,dt,rfl,ot,vt,hxt⟩
         have hyt:Ext w54 wt:=xE
         have It:=xQ (show IsHouse wt ⟨aA,aB,cells,free,step,aE,aG,aD,aH,vs⟩ pt n ct qt m dt from⟨Sl.own ot,Sl.own vt⟩)
         clear ot vt
         obtain⟨ta0,ta1,ta2,ta3,ta4,ta5,ta6,ta7,ta8,ta9⟩:=(((M54.out.blk (i:=7) rfl)).ext hyt).ten
         obtain⟨td0,td1,td2⟩:=(((M54.out.blk (i:=6) rfl)).ext hyt).tri
         have nta1: ¬(w.heap.size=wt.heap.size):=by have:=hyt.sz;omega
         have nta2: ¬(wt.heap.size=w.heap.size):=by have:=hyt.sz;omega
         have ntb1: ¬(w.heap.size+1=wt.heap.size):=by have:=hyt.sz;omega
         have ntb2: ¬(wt.heap.size=w.heap.size+1):=by have:=hyt.sz;omega)
       |(go_at_call 9
         refine(xT kk one two _).mono ?_
         rintro e wd ⟨rfl,hxd⟩
         have hyd:Ext w54 wd:=xE
         obtain⟨da0,da1,da2,da3,da4,da5,da6,da7,da8,da9⟩:=(((M54.out.blk (i:=7) rfl)).ext hyd).ten
         obtain⟨dd0,dd1,dd2⟩:=(((M54.out.blk (i:=6) rfl)).ext hyd).tri
         have nda1: ¬(w.heap.size=wd.heap.size):=by have:=hyd.sz;omega
         have nda2: ¬(wd.heap.size=w.heap.size):=by have:=hyd.sz;omega
         have ndb1: ¬(w.heap.size+1=wd.heap.size):=by have:=hyd.sz;omega
         have ndb2: ¬(wd.heap.size=w.heap.size+1):=by have:=hyd.sz;omega)
       |(go_at_call 10
         refine(HIm.out w54.heap.size _ _ _ _ _ (Ext.sz (show Ext w54 _ from xE)) xE (by first|with_reducible exact It.out|with_reducible exact It.out.ext ((Ext.refl _).alloc _)|with_reducible exact It.out.ext hxd|with_reducible exact It.out.ext (hxd.alloc _)|with_reducible exact It.out.ext (((Ext.refl _).alloc _).trans hxd))).mono ?_
         rintro e ws ⟨p6,c6,q6,d6,rfl,os,vs_,hxs⟩
         have hys:Ext w54 ws:=xE
         obtain⟨sa0,sa1,sa2,sa3,sa4,sa5,sa6,sa7,sa8,sa9⟩:=(((M54.out.blk (i:=7) rfl)).ext hys).ten
         obtain⟨sd0,sd1,sd2⟩:=(((M54.out.blk (i:=6) rfl)).ext hys).tri
         have nsa1: ¬(w.heap.size=ws.heap.size):=by have:=hys.sz;omega
         have nsa2: ¬(ws.heap.size=w.heap.size):=by have:=hys.sz;omega
         have nsb1: ¬(w.heap.size+1=ws.heap.size):=by have:=hys.sz;omega
         have nsb2: ¬(ws.heap.size=w.heap.size+1):=by have:=hys.sz;omega
         first
          |(with_reducible have hz:Ext (w54.alloc (.cells #[.int .i64 0,.int .i64 0,.slice none 0 0,.int .i64 0,.int .i64 0,.int .i64 0,.int .i64 0,.int .i64 0,.int .i64 0,.slice none 0 0] aO)) ws:=(hxt.trans hxd).trans hxs;have MB:=xQ (Mem.own2blk M54.out hys ((Blk.new w54 aO #[.int .i64 0,.int .i64 0,.slice none 0 0,.int .i64 0,.int .i64 0,.int .i64 0,.int .i64 0,.int .i64 0,.int .i64 0,.slice none 0 0]).ext hz) (Nat.le_refl _) os vs_ (by decide) (by decide) (by decide));obtain⟨zc0,zf0,zc1,zf1,zc2,zf2,zc3,zf3,zc4,zf4,zc5,zf5,zc6,zf6,zc7,zf7,zc8,zf8,zc9,zf9⟩:=(MB.out.blk (i:=2) rfl).tenf)
          |(with_reducible have hz:Ext (w54.alloc (.cells #[.int .i64 0,.int .i64 0,.slice none 0 0,.int .i64 0,.int .i64 0,.int .i64 0,.int .i64 0,.int .i64 0,.int .i64 0,.slice none 0 0] aO)) ws:=(hxt.of_drew.trans hxd).trans hxs;have MB:=xQ (Mem.own2blk M54.out hys ((Blk.new w54 aO #[.int .i64 0,.int .i64 0,.slice none 0 0,.int .i64 0,.int .i64 0,.int .i64 0,.int .i64 0,.int .i64 0,.int .i64 0,.slice none 0 0]).ext hz) (Nat.le_refl _) os vs_ (by decide) (by decide) (by decide));obtain⟨zc0,zf0,zc1,zf1,zc2,zf2,zc3,zf3,zc4,zf4,zc5,zf5,zc6,zf6,zc7,zf7,zc8,zf8,zc9,zf9⟩:=(MB.out.blk (i:=2) rfl).tenf)
          |(with_reducible have hz:Ext (w54.alloc (.cells #[.int .i64 0,.int .i64 0,.slice none 0 0,.int .i64 0,.int .i64 0,.int .i64 0,.int .i64 0,.int .i64 0,.int .i64 0,.slice none 0 0] aO)) ws:=(hxd.trans hxt).trans hxs;have MB:=xQ (Mem.own2blk M54.out hys ((Blk.new w54 aO #[.int .i64 0,.int .i64 0,.slice none 0 0,.int .i64 0,.int .i64 0,.int .i64 0,.int .i64 0,.int .i64 0,.int .i64 0,.slice none 0 0]).ext hz) (Nat.le_refl _) os vs_ (by decide) (by decide) (by decide));obtain⟨zc0,zf0,zc1,zf1,zc2,zf2,zc3,zf3,zc4,zf4,zc5,zf5,zc6,zf6,zc7,zf7,zc8,zf8,zc9,zf9⟩:=(MB.out.blk (i:=2) rfl).tenf)
          |(with_reducible have hz:Ext (w54.alloc (.cells #[.int .i64 0,.int .i64 0,.slice none 0 0,.int .i64 0,.int .i64 0,.int .i64 0,.int .i64 0,.int .i64 0,.int .i64 0,.slice none 0 0] aO)) ws:=(hxd.of_drew.trans hxt).trans hxs;have MB:=xQ (Mem.own2blk M54.out hys ((Blk.new w54 aO #[.int .i64 0,.int .i64 0,.slice none 0 0,.int .i64 0,.int .i64 0,.int .i64 0,.int .i64 0,.int .i64 0,.int .i64 0,.slice none 0 0]).ext hz) (Nat.le_refl _) os vs_ (by decide) (by decide) (by decide));obtain⟨zc0,zf0,zc1,zf1,zc2,zf2,zc3,zf3,zc4,zf4,zc5,zf5,zc6,zf6,zc7,zf7,zc8,zf8,zc9,zf9⟩:=(MB.out.blk (i:=2) rfl).tenf)
          |(with_reducible have hz:Ext (wt.alloc (.cells #[.int .i64 0,.int .i64 0,.slice none 0 0,.int .i64 0,.int .i64 0,.int .i64 0,.int .i64 0,.int .i64 0,.int .i64 0,.slice none 0 0] aO)) ws:=hxd.trans hxs;have MB:=xQ (Mem.own2blk M54.out hys ((Blk.new wt aO #[.int .i64 0,.int .i64 0,.slice none 0 0,.int .i64 0,.int .i64 0,.int .i64 0,.int .i64 0,.int .i64 0,.int .i64 0,.slice none 0 0]).ext hz) hyt.sz os vs_ (by decide) (by decide) (by decide));obtain⟨zc0,zf0,zc1,zf1,zc2,zf2,zc3,zf3,zc4,zf4,zc5,zf5,zc6,zf6,zc7,zf7,zc8,zf8,zc9,zf9⟩:=(MB.out.blk (i:=2) rfl).tenf)
          |(with_reducible have hz:Ext (wt.alloc (.cells #[.int .i64 0,.int .i64 0,.slice none 0 0,.int .i64 0,.int .i64 0,.int .i64 0,.int .i64 0,.int .i64 0,.int .i64 0,.slice none 0 0] aO)) ws:=hxs;have MB:=xQ (Mem.own2blk M54.out hys ((Blk.new wt aO #[.int .i64 0,.int .i64 0,.slice none 0 0,.int .i64 0,.int .i64 0,.int .i64 0,.int .i64 0,.int .i64 0,.int .i64 0,.slice none 0 0]).ext hz) hyt.sz os vs_ (by decide) (by decide) (by decide));obtain⟨zc0,zf0,zc1,zf1,zc2,zf2,zc3,zf3,zc4,zf4,zc5,zf5,zc6,zf6,zc7,zf7,zc8,zf8,zc9,zf9⟩:=(MB.out.blk (i:=2) rfl).tenf)
          |(with_reducible have hz:Ext (wd.alloc (.cells #[.int .i64 0,.int .i64 0,.slice none 0 0,.int .i64 0,.int .i64 0,.int .i64 0,.int .i64 0,.int .i64 0,.int .i64 0,.slice none 0 0] aO)) ws:=hxt.trans hxs;have MB:=xQ (Mem.own2blk M54.out hys ((Blk.new wd aO #[.int .i64 0,.int .i64 0,.slice none 0 0,.int .i64 0,.int .i64 0,.int .i64 0,.int .i64 0,.int .i64 0,.int .i64 0,.slice none 0 0]).ext hz) hyd.sz os vs_ (by decide) (by decide) (by decide));obtain⟨zc0,zf0,zc1,zf1,zc2,zf2,zc3,zf3,zc4,zf4,zc5,zf5,zc6,zf6,zc7,zf7,zc8,zf8,zc9,zf9⟩:=(MB.out.blk (i:=2) rfl).tenf)
          |(with_reducible have hz:Ext (wd.alloc (.cells #[.int .i64 0,.int .i64 0,.slice none 0 0,.int .i64 0,.int .i64 0,.int .i64 0,.int .i64 0,.int .i64 0,.int .i64 0,.slice none 0 0] aO)) ws:=hxs;have MB:=xQ (Mem.own2blk M54.out hys ((Blk.new wd aO #[.int .i64 0,.int .i64 0,.slice none 0 0,.int .i64 0,.int .i64 0,.int .i64 0,.int .i64 0,.int .i64 0,.int .i64 0,.slice none 0 0]).ext hz) hyd.sz os vs_ (by decide) (by decide) (by decide));obtain⟨zc0,zf0,zc1,zf1,zc2,zf2,zc3,zf3,zc4,zf4,zc5,zf5,zc6,zf6,zc7,zf7,zc8,zf8,zc9,zf9⟩:=(MB.out.blk (i:=2) rfl).tenf)
          |(have MA:=xQ (Mem.own2 M54.out hys os vs_ (Nat.le_refl _) (by decide)))))
     all_goals (
      go_wp2_with fail
      go_meet
      first
       |exact⟨_,p6,c6,q6,d6,rfl,rfl,rfl,(MB.out.put10 (i:=2) rfl (.int .i64 r.aA) (.int .i64 r.aB) (.slice p6 r.cells.length c6) (.int .i64 r.free) (.int .i64 r.step) (.int .i64 r.aE) (.int .i64 r.aG) (.int .i64 r.aD) (.int .i64 r.aH) (.slice q6 r.vs.length d6)).pick [2,0,1,3,4,5,6,7,8,9,10] (by decide) rfl⟩
       |exact⟨_,p6,c6,q6,d6,rfl,rfl,rfl,MA.out.blkNew aO #[.int .i64 r.aA,.int .i64 r.aB,.slice p6 r.cells.length c6,.int .i64 r.free,.int .i64 r.step,.int .i64 r.aE,.int .i64 r.aG,.int .i64 r.aD,.int .i64 r.aH,.slice q6 r.vs.length d6] _ rfl⟩)
    case rest=>
     clear ka0 ka1 ka2 ka3 ka4 ka5 ka6 ka7 ka8 ka9 kd0 kd1 kd2 nca1 nca2 ncb1 ncb2 xm6
     obtain⟨g6,p6,c6,q6,d6,rfl,rfl,rfl,hM6⟩:=hcut
     obtain⟨v6,rfl⟩: ∃z,z=wc:=⟨_,rfl⟩
     have MC6:=xQ hM6
     clear hM6 M54 lt54_2 lt54_3 lt54_6 lt54_7
     have lt60_0:g6<v6.heap.size:=(MC6.out.lt (i:=0) rfl rfl).2
     have lt60_5:g4<v6.heap.size:=(MC6.out.lt (i:=5) rfl rfl).2
     have lt60_6:g2<v6.heap.size:=(MC6.out.lt (i:=6) rfl rfl).2
     have lt60_9:w.heap.size+1<v6.heap.size:=(MC6.out.lt (i:=9) rfl rfl).2
     have lt60_10:w.heap.size<v6.heap.size:=(MC6.out.lt (i:=10) rfl rfl).2
     obtain⟨ca0,ca1,ca2,ca3,ca4,ca5,ca6,ca7,ca8,ca9⟩:=(MC6.out.blk (i:=0) rfl).ten
     obtain⟨cb0,cb1,cb2,cb3,cb4,cb5,cb6,cb7,cb8,cb9⟩:=(MC6.out.blk (i:=6) rfl).ten
     go_wp2_with fail
     clear ca0 ca1 ca2 ca3 ca4 ca5 ca6 ca7 ca8 ca9 cb0 cb1 cb2 cb3 cb4 cb5 cb6 cb7 cb8 cb9
     refine(jE r _ _ _ _ _ _ _ _ _ _ _ ⟨((MC6.out).sl (i:=1) rfl),((MC6.out).sl (i:=2) rfl)⟩ ⟨((MC6.out).sl (i:=7) rfl),((MC6.out).sl (i:=8) rfl)⟩).mono ?_
     rintro e w61 ⟨rfl,hx61⟩
     have M61:=xQ ((MC6.out).adv hx61)
     clear MC6
     clear lt60_0 lt60_5 lt60_6 lt60_9 lt60_10
     have lt61_0:=M61.out.hi 0
     have lt61_5:=M61.out.hi 5
     have lt61_6:=M61.out.hi 6
     have lt61_9:=M61.out.hi 9
     have lt61_10:=M61.out.hi 10
     clear hx61
     obtain⟨ca0,ca1,ca2,ca3,ca4,ca5,ca6,ca7,ca8,ca9⟩:=(M61.out.blk (i:=5) rfl).ten
     go_wp2_with fail
     clear ca0 ca1 ca2 ca3 ca4 ca5 ca6 ca7 ca8 ca9
     refine(oP _ _ _ _ _ _ _ _ p4 r.cells.length _ q4 r.vs.length _ 1 _ _ (M61.out.own (i:=3) rfl) (M61.out.own (i:=4) rfl) (by omega) (by omega) (by omega) (by omega)).mono ?_
     rintro e w62 ⟨rfl,hx62⟩
     have M62:=xQ ((M61.out).adv hx62)
     clear M61
     clear lt61_0 lt61_5 lt61_6 lt61_9 lt61_10
     have lt62_0:=M62.out.hi 0
     have lt62_5:=M62.out.hi 5
     have lt62_6:=M62.out.hi 6
     have lt62_9:=M62.out.hi 9
     have lt62_10:=M62.out.hi 10
     clear hx62
     go_wp2
     go_ret
     exact⟨rfl,M62.out.ext⟩
def hZ:bJ:=⟨0,0,[],0,0,0,0,0,0,[]⟩
def doR (h:bJ)(k a b:Int):bJ×Int×Bool:=
 if cV h=true then(match bX h k a b with
  |none=>(h,-1,false)
  |some (h',n)=>(h',n,true))else(hZ,-1,false)
theorem aFs (h:bJ)(k a b:Int):(doR h k a b).1.cells.length≤1000∧(doR h k a b).1.vs.length≤1000:=by
 unfold doR
 by_cases hok:cV h=true
 ·rw[if_pos hok]
  cases hd:bX h k a b with
  |none=>have:=jB hok;dsimp only;omega
  |some r=>obtain⟨h',n⟩:=r;have:=jB (qM hok hd).1;dsimp only;omega
 ·rw[if_neg hok];simp[hZ]
def aGu (B:Nat)(r:bJ×Int×Bool)(w':World)(e:Ending)(w'':World):Prop:=
 ∃pa ca qa da,e= .returned (.tuple #[cC r.1 pa r.1.cells.length ca qa r.1.vs.length da,.int .i64 r.2.1,.bool r.2.2])∧w''.ownsRow B TI 1 (.slice pa r.1.cells.length ca) r.1.cells.length (ivs r.1.cells)∧w''.ownsRow B TV 4 (.slice qa r.1.vs.length da) r.1.vs.length (r.1.vs.flatMap aC)∧Ext w' w''
theorem aAd {h:bJ}{k a b:Int}{w w':World}{e:Ending}{B:Nat}(hB:B≤w.heap.size)(hok:cV h=true)(hr:aAw h (bX h k a b) w e w'):aGu B (doR h k a b) w e w':=by
 unfold doR
 rw[if_pos hok]
 unfold aAw at hr
 cases hd:bX h k a b with
 |none=>
  rw[hd]at hr
  obtain⟨pa,ca,qa,da,rfl,o1,o2,hx⟩:=hr
  exact⟨pa,ca,qa,da,rfl,gD o1 hB,gD o2 hB,hx⟩
 |some r=>
  obtain⟨h',n⟩:=r
  rw[hd]at hr
  obtain⟨pa,ca,qa,da,rfl,o1,o2,hx⟩:=hr
  exact⟨pa,ca,qa,da,rfl,gD o1 hB,gD o2 hB,hx⟩
theorem aAs {h:bJ}{k a b:Int}{w w':World}{e:Ending}{B:Nat}(hok: ¬cV h=true)(hr:e= .returned (.tuple #[.agg #[.int .i64 0,.int .i64 0,.slice none 0 0,.int .i64 0,.int .i64 0,.int .i64 0,.int .i64 0,.int .i64 0,.int .i64 0,.slice none 0 0],.int .i64 (-1),.bool false])∧Ext w w'):aGu B (doR h k a b) w e w':=by
 unfold doR
 rw[if_neg hok]
 obtain⟨rfl,hx⟩:=hr
 exact⟨none,0,none,0,rfl,World.ownsRow_nil _ _ _ _,World.ownsRow_nil _ _ _ _,hx⟩
set_option maxRecDepth 100000 in
set_option maxHeartbeats 1000000 in
theorem aEs (aA aB free step aE aG aD aH kk one two num:Int)(ok:Bool)(cells:List Int)(vs:List aQ)(p:Option Addr)(n cp:Nat)(q:Option Addr)(m cq:Nat)(r:bJ)(w:World)(HZ:Hid (∀w,Calls Tryz.prog 6 #[.agg #[.int .i64 aA,.int .i64 aB,.slice p n cp,.int .i64 free,.int .i64 step,.int .i64 aE,.int .i64 aG,.int .i64 aD,.int .i64 aH,.slice q m cq],.int .i64 1048576] w fun e w'=>e= .returned (.int .i64 (-1))∧Ext w w')):
  Calls Tryz.prog 3 #[.agg #[.int .i64 aA,.int .i64 aB,.slice p n cp,.int .i64 free,.int .i64 step,.int .i64 aE,.int .i64 aG,.int .i64 aD,.int .i64 aH,.slice q m cq],.agg #[.int .i64 kk,.int .i64 one,.int .i64 two]] w fun e w'=>e= .returned (.bool true)∧Ext w w':=by
 go_enter Tryz.func3,Tryz.ntmps3
 go_wp2_with fail
 refine(HZ.out _).mono ?_
 rintro e w1 ⟨rfl,h1⟩
 go_wp2
 go_ret
 exact⟨rfl,xE⟩
set_option maxRecDepth 100000 in
set_option maxHeartbeats 1000000 in
theorem walk_FnExactHouseDo (W:World)(v:Value)(y:bJ×(Option Addr×Nat)×(Option Addr×Nat))(f:v=cC y.1 y.2.1.1 y.1.cells.length y.2.1.2 y.2.2.1 y.1.vs.length y.2.2.2∧IsHouse W y.1 y.2.1.1 y.1.cells.length y.2.1.2 y.2.2.1 y.1.vs.length y.2.2.2∧sO y.1)(k a b:Int)(hd:B64 k∧B64 a∧B64 b)(hE:BitTab W):
  Calls Tryz.prog 3 #[v,.agg #[.int .i64 k,.int .i64 a,.int .i64 b]] W fun e w'=>e= .returned (.bool true)∧Ext W w':=by
 obtain⟨rfl,hi,_⟩:=f
 obtain⟨h,⟨p,cp⟩,⟨q,cq⟩⟩:=y
 by_cases hs:h.cells.length+h.vs.length≤1048576
 ·have hl:=aFs h k a b
  exact aGk h.aA h.aB h.free h.step h.aE h.aG h.aD h.aH k a b (doR h k a b).2.1 (doR h k a b).2.2 h.cells h.vs p h.cells.length cp q h.vs.length cq (doR h k a b).1 W hs hl.1 hl.2 (fun w=>aB0 h p h.cells.length cp q h.vs.length cq w hs) (fun w hx=>uO h p h.cells.length cp q h.vs.length cq w (by omega) (by omega) (hi.ext hx))
   (fun B p c q d w' hB hx hi'=>by
    by_cases hok:cV h=true
    ·exact(vA h k a b p _ c q _ d w' hi' hok).mono (fun e w'' hr=>aAd hB hok hr)
    ·exact(oV h k a b p _ c q _ d w' hi' (by simpa using hok)).mono (fun e w'' hr=>aAs hok hr))
   (fun B p c q d w' hB hx hi'=>by
    by_cases hok:cV h=true
    ·exact(wL h k a b p _ c q _ d w' hi' hok (hE.ext hx)).mono (fun e w'' hr=>aAd hB hok hr)
    ·exact(pB h k a b p _ c q _ d w' hi' (by simpa using hok)).mono (fun e w'' hr=>aAs hok hr))
 ·exact aEs h.aA h.aB h.free h.step h.aE h.aG h.aD h.aH k a b 0 false h.cells h.vs p h.cells.length cp q h.vs.length cq h W (fun w=>aF5 h p h.cells.length cp q h.vs.length cq w hi.cells.bd hi.vs.bd (by omega))
end Go.Proofs.YtahglfakiobbcaaGreatDoor
