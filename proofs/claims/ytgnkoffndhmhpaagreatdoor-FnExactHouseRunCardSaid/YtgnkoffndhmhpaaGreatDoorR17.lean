/-
  Texts of this proof, packed (@packed).
-/
import Derived.Deep.RegionHeld3
import Derived.Test.YtgnkoffndhmhpaaGreatDoorR1
import Derived.Test.YtgnkoffndhmhpaaGreatDoorR10
import Derived.Test.YtgnkoffndhmhpaaGreatDoorR16
namespace Go.Proofs.YtgnkoffndhmhpaaGreatDoor
open Go.RowKit
set_option linter.unusedVariables false
set_option linter.unusedSimpArgs false
set_option maxHeartbeats 8000000
set_option maxRecDepth 100000
theorem aDh (aA aB id:Int)(p:OA)(n cap:Nat)(w:World)
  (HF0:xC 156 #[aI aA aB p n cap,id] w fun w' e w''=>e= .returned (.int .i64 (-1))∧Ext w' w''):
  Calls Tryz.prog 123 #[aI aA aB p n cap,id] w (iD none w):=by
 go_enter Tryz.func123,Tryz.ntmps123
 go_wp2_with fail
 refine(HF0.out _ (((((Mem.start w).blkNew TH3 #[aA,aB,.slice p n cap] (w.heap.size) (by simp))).made0 TSL 2 (w.heap.size+1) (by simp))).ext).mono ?_
 rintro e w1 ⟨rfl,hx1⟩
 have M1:=xQ ((((((Mem.start w).blkNew TH3 #[aA,aB,.slice p n cap] (w.heap.size) (by simp))).made0 TSL 2 (w.heap.size+1) (by simp))).adv hx1)
 have lt1_1:=M1.out.hi 1
 clear hx1
 have HX:=xQ (M1.out.ext)
 go_wp2
 exact bodyPost_ret (v:= .tuple #[.slice (some ⟨w.heap.size+1,0,none⟩) 0 0,.bool false]) (by simp[results,Tryz.results123,go_sem, *]) rfl ⟨_,rfl,HX.out⟩
theorem rF (aA aB id:Int)(p:OA)(n cap:Nat)(xs:List Int)(w:World)(hlen:Hid (xs.length=n))
  (HV:xB 90 #[aI aA aB p n cap] w true)
  (HB:xC 123 #[aI aA aB p n cap,id] w fun w' e w''=> ∃v,e= .returned (.tuple #[v,.bool false])∧Ext w' w'')
  (HL:xC 104 #[aI aA aB p n cap] w fun w' e w''=> ∃q c,e= .returned (aI aA aB q n c)∧w''.ownsRow w'.heap.size TI 1 (.slice q n c) n (ivs xs)∧Ext w' w''):
  Calls Tryz.prog 74 #[aI aA aB p n cap,id] w (cI aA aB xs (-1) w):=by
 go_enter Tryz.func74,Tryz.ntmps74
 go_wp2_with fail
 refine(HV.out _ (Mem.b2 w).ext).mono ?_
 rintro e w1 ⟨rfl,hx1⟩
 have M1:=xQ ((Mem.b2 w).adv hx1)
 have lt1_0:=M1.out.hi 0
 have lt1_1:=M1.out.hi 1
 clear hx1
 obtain⟨c0,c1,c2⟩:=(M1.out.blk (i:=1) rfl).tri
 go_wp2_with fail
 clear c0 c1 c2
 refine(HB.out _ M1.out.ext).mono ?_
 rintro e w2 ⟨v,rfl,hx2⟩
 have M2:=xQ ((M1.out).adv hx2)
 clear M1 lt1_0 lt1_1
 have lt2_0:=M2.out.hi 0
 have lt2_1:=M2.out.hi 1
 clear hx2
 obtain⟨c0,c1,c2⟩:=(M2.out.blk (i:=1) rfl).tri
 go_wp2_with fail
 clear c0 c1 c2
 refine(HL.out _ M2.out.ext).mono ?_
 rintro e w3 ⟨q0,c0,rfl,ho3,hx3⟩
 have M3:=xQ ((M2.out).call hx3 ho3)
 clear M2 lt2_0 lt2_1
 have lt3_1:=M3.out.hi 1
 have lt3_2:=M3.out.hi 2
 clear hx3 ho3
 obtain⟨z0,zf0,z1,zf1,z2,zf2⟩:=(M3.out.blk (i:=1) rfl).trif
 go_wp2
 clear z0 zf0 z1 zf1 z2 zf2
 have M4:=xQ (((((((M3.out).st 1 0 (.int .i64 aA))).st 1 1 (.int .i64 aB))).st 1 2 (.slice q0 n c0)))
 generalize hwz:World.setCell _ _ _=wz
 rw[hwz]at M4
 clear hwz M3
 obtain⟨y0_0,y0_1,y0_2⟩:=(M4.out.blk (i:=1) rfl).tri
 exact bodyPost_ret (v:= .tuple #[.agg #[aA,aB,.slice q0 n c0],(-1:Int)]) (by simp[results,Tryz.results74,go_sem, *]) rfl (dX hlen.out (M4.out.own (i:=0) rfl) M4.out.ext)
theorem xM (aA aB id:Int)(p:OA)(n cap K:Nat)(ys:List Int)(sl:List Sl2)(w:World)(hlen:Hid (ys.length=n))
  (HV:xB 90 #[aI aA aB p n cap] w true)
  (HB:xC 123 #[aI aA aB p n cap,id] w fun w' e w''=> ∃q c,e= .returned (.tuple #[.slice q K c,.bool true])∧w''.ownsRow w'.heap.size TSL 2 (.slice q K c) K (sl.flatMap aM)∧Ext w' w'')
  (HR:Hid (∀w' q c,Ext w w'→Sl w' q K c 2 (sl.flatMap aM)→Calls Tryz.prog 120 #[aI aA aB p n cap,.slice q K c] w' fun e w''=> ∃q c,e= .returned (.tuple #[aI aA aB q n c,(K:Int)])∧w''.ownsRow w'.heap.size TI 1 (.slice q n c) n (ivs ys)∧Ext w' w''))
  (HT:Hid (∀w' q c,Ext w w'→Sl w' q n c 1 (ivs ys)→Calls Tryz.prog 124 #[aI aA aB q n c,()] w' fun e w''=> ∃q c i,e= .returned (.tuple #[aI aA aB q n c,i])∧w''.ownsRow w'.heap.size TI 1 (.slice q n c) n (ivs (ys.set 0 0))∧Ext w' w'')):
  Calls Tryz.prog 74 #[aI aA aB p n cap,id] w (cI aA aB (ys.set 0 0) (K:Int) w):=by
 go_enter Tryz.func74,Tryz.ntmps74
 go_wp2_with fail
 refine(HV.out _ (Mem.b2 w).ext).mono ?_
 rintro e w1 ⟨rfl,hx1⟩
 have M1:=xQ ((Mem.b2 w).adv hx1)
 have lt1_0:=M1.out.hi 0
 have lt1_1:=M1.out.hi 1
 clear hx1
 obtain⟨c0,c1,c2⟩:=(M1.out.blk (i:=1) rfl).tri
 go_wp2_with fail
 clear c0 c1 c2
 refine(HB.out _ M1.out.ext).mono ?_
 rintro e w2 ⟨qs,cs,rfl,ho2,hx2⟩
 have M2:=xQ ((M1.out).call hx2 ho2)
 clear M1 lt1_0 lt1_1
 have lt2_1:=M2.out.hi 1
 have lt2_2:=M2.out.hi 2
 clear hx2 ho2
 obtain⟨c0,c1,c2⟩:=(M2.out.blk (i:=2) rfl).tri
 go_wp2_with fail
 clear c0 c1 c2
 refine(HR.out _ qs cs M2.out.ext (M2.out.sl (i:=0) rfl)).mono ?_
 rintro e w3 ⟨q1,c1,rfl,ho3,hx3⟩
 have M3:=xQ ((M2.out).call hx3 ho3)
 clear M2 lt2_1 lt2_2
 have lt3_2:=M3.out.hi 2
 have lt3_3:=M3.out.hi 3
 clear hx3 ho3
 go_wp2_with fail
 refine(HT.out _ q1 c1 (((M3.out).blkNew TH3 #[aA,aB,.slice q1 n c1] (w3.heap.size) (by simp))).ext ((((M3.out).blkNew TH3 #[aA,aB,.slice q1 n c1] (w3.heap.size) (by simp))).sl (i:=1) rfl)).mono ?_
 rintro e w4 ⟨q2,c2,i2,rfl,ho4,hx4⟩
 have M4:=xQ ((((M3.out).blkNew TH3 #[aA,aB,.slice q1 n c1] (w3.heap.size) (by simp))).call hx4 ho4)
 clear M3 lt3_2 lt3_3
 have lt4_1:=M4.out.hi 1
 have lt4_4:=M4.out.hi 4
 have lt4_5:=M4.out.hi 5
 clear hx4 ho4
 obtain⟨z0,zf0,z1,zf1,z2,zf2⟩:=(M4.out.blk (i:=4) rfl).trif
 go_wp2
 clear z0 zf0 z1 zf1 z2 zf2
 have M5:=xQ (((((((((M4.out).st 4 0 (.int .i64 aA))).st 4 1 (.int .i64 aB))).st 4 2 (.slice q2 n c2))).blkNew TH3 #[aA,aB,.slice q2 n c2] (w4.heap.size) (by simp)))
 generalize hwz:World.alloc _ _=wz
 rw[hwz]at M5
 clear hwz M4
 obtain⟨y0_0,y0_1,y0_2⟩:=(M5.out.blk (i:=5) rfl).tri
 exact bodyPost_ret (v:= .tuple #[.agg #[aA,aB,.slice q2 n c2],(K:Int)]) (by simp[results,Tryz.results74,go_sem, *]) rfl (dX (by rw[List.length_set];exact hlen.out) (M5.out.own (i:=1) rfl) M5.out.ext)
def bQ (aA aB:Int)(xs:List Int)(id:Int):List Int×Int:=
 match kF aA aB xs id with
 |none=>(xs,-1)
 |some r=>(r.1,(r.2:Int))
theorem aCm {aA aB:Int}{xs:List Int}{id:Int}(h:id<1∨id∉xs):fX aA aB xs id= -1:=by
 unfold fX
 by_cases h1:aP aA aB xs=true∧1≤id
 ·rw[if_pos h1]
  rcases h with h|h
  ·omega
  ·exact pL h
 ·rw[if_neg h1]
theorem rZ {xs:List Int}{id:Int}(h:id∈xs): ∃c:Nat,xs[c]? =some id∧mV xs id=(c:Int):=by
 induction xs with
 |nil=>cases h
 |cons x xs ih=>
  by_cases hx:x=id
  ·subst hx;exact⟨0,rfl,oI (k:=0) rfl (by simp)⟩
  ·have hm:id∈xs:=by
    rcases List.mem_cons.1 h with e|e
    ·exact absurd e.symm hx
    ·exact e
   obtain⟨c,h1,_⟩:=ih hm
   obtain⟨k,hk1,hk2⟩: ∃k,(x::xs)[k]? =some id∧id∉(x::xs).take k:=by
    clear ih h1
    suffices hs: ∀(l:List Int),id∈l→ ∃k,l[k]? =some id∧id∉l.take k from hs _ h
    intro l
    induction l with
    |nil=>intro h;cases h
    |cons y l ihl=>
     intro hy
     by_cases e:y=id
     ·exact⟨0,by simp[e],by simp⟩
     ·obtain⟨k,a,b⟩:=ihl (by
       rcases List.mem_cons.1 hy with e2|e2
       ·exact absurd e2.symm e
       ·exact e2)
      exact⟨k+1,by simpa using a,by simp[b,Ne.symm e]⟩
   exact⟨k,hk1,oI hk1 hk2⟩
theorem zO (aA aB id:Int)(p:OA)(n cap:Nat)(xs:List Int)(w:World)(hS:Sl w p n cap 1 (ivs xs))(hok:aP aA aB xs=true):
  Calls Tryz.prog 74 #[aI aA aB p n cap,id] w (cI aA aB (bQ aA aB xs id).1 (bQ aA aB xs id).2 w):=by
 have hl:=hS.ilen
 subst hl
 obtain⟨g1,g2,g3,g4,g5,g6,g7⟩:=bR (cF hok)
 have HV: ∀w',Ext w w'→Calls Tryz.prog 90 #[aI aA aB p xs.length cap] w' fun e w''=>e= .returned (.bool true)∧Ext w' w'':=fun w' hy=>by
  have:=fV aA aB p xs.length cap xs w' (hS.ext hy)
  rwa[hok]at this
 have HL:=fun(w':World) (hy:Ext w w')=>eU aA aB p xs.length cap xs w' (by omega) (hS.ext hy)
 by_cases hno:id<1∨id∉xs
 ·have e:bQ aA aB xs id=(xs,-1):=by unfold bQ kF;rw[if_pos hno]
  rw[e]
  refine rF aA aB id p xs.length cap xs w rfl HV (fun w' hy=> ?_) HL
  refine aDh aA aB id p xs.length cap w' (fun w2 hy2=> ?_)
  have:=pB aA aB id p xs.length cap xs w2 (hS.ext (hy.trans hy2))
  rwa[aCm hno]at this
 ·have hid0:1≤id:=by omega
  have hm:id∈xs:=by
   by_cases hm:id∈xs
   ·exact hm
   ·exact absurd (.inr hm) hno
  obtain⟨c,hc,hci⟩:=rZ hm
  have HB:=fun(w':World) (hy:Ext w w')=>tH aA aB id p xs.length cap xs w' (hS.ext hy) hok hid0 hc
  have hcn:(mV xs id).toNat=c:=by rw[hci];simp
  cases hb:dD aA xs c with
  |none=>
   have e:bQ aA aB xs id=(xs,-1):=by unfold bQ kF;rw[if_neg hno,hcn,hb];rfl
   rw[e]
   rw[hb]at HB
   exact rF aA aB id p xs.length cap xs w rfl HV HB HL
  |some l=>
   obtain⟨b1,ys,b2,b3,b4,b5⟩:=(mD hok hc (by omega)).2 l hb
   have e:bQ aA aB xs id=(ys.set 0 0,(l.length:Int)):=by unfold bQ kF;rw[if_neg hno,hcn,hb];simp[b2]
   rw[e]
   rw[hb]at HB
   refine xM aA aB id p xs.length cap l.length ys l w b4 HV HB (fun w' q c' hy hL=> ?_) (fun w' q c' hy hL=> ?_)
   ·have:=nX aA aB p xs.length cap xs q l.length c' l w' b1 (hS.ext hy) hL hok
    rw[b2]at this
    unfold cI at this
    dsimp only at this
    rw[b4]at this
    exact this
   ·have:=wF aA aB q xs.length c' ys w' hL b3
    unfold cI at this
    rw[List.length_set,b4]at this
    refine this.mono fun e w'' h=> ?_
    obtain⟨q2,c2,h1,h2,h3⟩:=h
    exact⟨q2,c2,_,h1,h2,h3⟩
end Go.Proofs.YtgnkoffndhmhpaaGreatDoor
namespace Go.Proofs.YtgnkoffndhmhpaaGreatDoor
open Go.RowKit
set_option linter.unusedVariables false
section
variable {P:Program} {l:List Oper} {Q:Exit→Act→World→Prop} {md:Region.Mode} {S:World→Prop}
theorem dH {i:Nat}{oi:Oper}{v:Value}{fuel:Nat}{listed:Array Bool}{a:Act}{w:World}(hi:l[i]? =some oi)
  (hs:Region.noSelect l.toArray=true) (hf:Region.free md l.toArray listed i=true) (hr:(Region.ready md l.toArray listed).contains i=true)
  (hQ: ∀c a w,Q (.panic c) (a.put oi.dst v) w→Q (.panic c) a w) (hw:Region.wanted oi (yielded l.toArray a.tmps)=true) (hy: ∀w,S w→(execOp a.eval oi).run P w= .ok (.value v) w) (hS:S w)
  (h:wpAnyH P md l.toArray Q S fuel (listed.setIfInBounds i true) (a.put oi.dst v) w):wpAnyH P md l.toArray Q S (fuel+1) listed a w:=
 wpAnyH_take (by simpa using hi) hs hf hr hQ (.inl ⟨hw,hy⟩) hS h
theorem iU {i:Nat}{oi:Oper}{fuel:Nat}{listed:Array Bool}{a:Act}{w:World}(hi:l[i]? =some oi)
  (hs:Region.noSelect l.toArray=true) (hf:Region.free md l.toArray listed i=true) (hr:(Region.ready md l.toArray listed).contains i=true)
  (hQ: ∀c a w,Q (.panic c) (a.put oi.dst undef) w→Q (.panic c) a w) (hw:Region.wanted oi (yielded l.toArray a.tmps)=false) (hS:S w)
  (h:wpAnyH P md l.toArray Q S fuel (listed.setIfInBounds i true) (a.put oi.dst undef) w):wpAnyH P md l.toArray Q S (fuel+1) listed a w:=
 wpAnyH_take (by simpa using hi) hs hf hr hQ (.inr ⟨hw,rfl⟩) hS h
theorem aHe {fuel:Nat}{listed:Array Bool}{a:Act}{w:World}{i:Nat}{o:Oper}(ho:l[i]? =some o)
  (h: ∀K':Act→World→Prop,Shut (∀a w,S w→(S w→wpAnyH P md l.toArray Q S fuel (listed.setIfInBounds i true) a w)→K' a w)→if Region.wanted o (yielded l.toArray a.tmps)=true then Oper.wp P o a w K' Q else K' (a.put o.dst undef) w):
  AllReadyH P md l.toArray Q S fuel listed a w [i]:=AllReadyH.cons (by simpa using ho) h AllReadyH.nil
end
end Go.Proofs.YtgnkoffndhmhpaaGreatDoor
