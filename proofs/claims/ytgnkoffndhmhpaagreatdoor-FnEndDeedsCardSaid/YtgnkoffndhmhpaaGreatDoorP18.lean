/-
  Texts of this proof, packed (@packed).
-/
import Derived.Deep.RegionHeld3
import Derived.Test.YtgnkoffndhmhpaaGreatDoorP3
import Derived.Test.YtgnkoffndhmhpaaGreatDoorP5
import Derived.Test.YtgnkoffndhmhpaaGreatDoorP17
namespace Go.Proofs.YtgnkoffndhmhpaaGreatDoor
open Go.RowKit
set_option linter.unusedVariables false
set_option linter.unusedSimpArgs false
set_option maxHeartbeats 8000000
set_option maxRecDepth 100000
theorem aFo (aA aB id:Int)(p:OA)(n cap:Nat)(w:World)
  (HF0:xC 156 #[aH aA aB p n cap,id] w fun w' e w''=>e= .returned (.int .i64 (-1))∧Ext w' w''):
  Calls Tryz.prog 123 #[aH aA aB p n cap,id] w (iZ none w):=by
 go_enter Tryz.func123,Tryz.ntmps123
 go_wp2_with fail
 refine(HF0 _ (((Mem.start w).bn TH3 #[aA,aB,.slice p n cap] (w.heap.size)).made0 TSL 2 (w.heap.size+1) (by simp)).ext).mono ?_
 rintro e w1 ⟨rfl,a⟩
 have M1:=((((Mem.start w).bn TH3 #[aA,aB,.slice p n cap] (w.heap.size)).made0 TSL 2 (w.heap.size+1) (by simp)).adv a)
 have b:=M1.hi 1
 clear a
 have HX:=xQ (M1.ext)
 go_wp2
 exact bodyPost_ret (v:= .tuple #[.slice (some ⟨w.heap.size+1,0,none⟩) 0 0,.bool false]) (by simp[results,Tryz.results123,go_sem, *]) rfl ⟨_,rfl,HX.out⟩
theorem tR (aA aB id:Int)(p:OA)(n cap:Nat)(xs:List Int)(w:World)(hlen:Hid (xs.length=n))
  (HV:xB 90 #[aH aA aB p n cap] w true)
  (HB:xC 123 #[aH aA aB p n cap,id] w fun w' e w''=> ∃v,e= .returned (.tuple #[v,.bool false])∧Ext w' w'')
  (HL:xC 104 #[aH aA aB p n cap] w fun w' e w''=> ∃q c,e= .returned (aH aA aB q n c)∧w''.ownsRow w'.heap.size TI 1 (.slice q n c) n (ivs xs)∧Ext w' w''):
  Calls Tryz.prog 74 #[aH aA aB p n cap,id] w (cO aA aB xs (-1) w):=by
 go_enter Tryz.func74,Tryz.ntmps74
 go_wp2_with fail
 refine(HV _ (((Mem.start w).bn TH3 #[aA,aB,.slice p n cap] (w.heap.size)).bn TH3 #[(),(),((),())] (w.heap.size+1)).ext).mono ?_
 rintro e w1 ⟨rfl,j⟩
 have M1:=((((Mem.start w).bn TH3 #[aA,aB,.slice p n cap] (w.heap.size)).bn TH3 #[(),(),((),())] (w.heap.size+1)).adv j)
 have a:=M1.hi 0
 have f:=M1.hi 1
 clear j
 obtain⟨c0,c1,c2⟩:=(M1.bk 1).tri
 go_wp2_with fail
 clear c0 c1 c2
 refine(HB _ M1.ext).mono ?_
 rintro e w2 ⟨v,rfl,g⟩
 have M2:=(M1.adv g)
 clear M1 a f g
 have b:=M2.hi 0
 have d:=M2.hi 1
 obtain⟨c0,c1,c2⟩:=(M2.bk 1).tri
 go_wp2_with fail
 clear c0 c1 c2
 refine(HL _ M2.ext).mono ?_
 rintro e w3 ⟨q0,c0,rfl,k,h⟩
 have M3:=(M2.call h k)
 clear M2 b d h k
 have o:=M3.hi 1
 have m:=M3.hi 2
 obtain⟨z0,r,z1,l,z2,s⟩:=(M3.bk 1).trif
 go_wp2
 clear z0 r z1 l z2 s
 have M4:=(((M3.st 1 0 (.int .i64 aA)).st 1 1 (.int .i64 aB)).st 1 2 (.slice q0 n c0))
 generalize i:World.setCell _ _ _=wz
 rw[i]at M4
 clear i M3
 obtain⟨x,u,t⟩:=(M4.bk 1).tri
 exact bodyPost_ret (v:= .tuple #[.agg #[aA,aB,.slice q0 n c0],(-1:Int)]) (by simp[results,Tryz.results74,go_sem, *]) rfl (eH hlen.out (M4.ow 0) M4.ext)
theorem aA5 (aA aB id:Int)(p:OA)(n cap K:Nat)(ys:List Int)(sl:List Sl2)(w:World)(hlen:Hid (ys.length=n))
  (HV:xB 90 #[aH aA aB p n cap] w true)
  (HB:xC 123 #[aH aA aB p n cap,id] w fun w' e w''=> ∃q c,e= .returned (.tuple #[.slice q K c,.bool true])∧w''.ownsRow w'.heap.size TSL 2 (.slice q K c) K (sl.flatMap aK)∧Ext w' w'')
  (HR:Hid (∀w' q c,Ext w w'→Sl w' q K c 2 (sl.flatMap aK)→Calls Tryz.prog 120 #[aH aA aB p n cap,.slice q K c] w' fun e w''=> ∃q c,e= .returned (.tuple #[aH aA aB q n c,(K:Int)])∧w''.ownsRow w'.heap.size TI 1 (.slice q n c) n (ivs ys)∧Ext w' w''))
  (HT:Hid (∀w' q c,Ext w w'→Sl w' q n c 1 (ivs ys)→Calls Tryz.prog 124 #[aH aA aB q n c,()] w' fun e w''=> ∃q c i,e= .returned (.tuple #[aH aA aB q n c,i])∧w''.ownsRow w'.heap.size TI 1 (.slice q n c) n (ivs (ys.set 0 0))∧Ext w' w'')):
  Calls Tryz.prog 74 #[aH aA aB p n cap,id] w (cO aA aB (ys.set 0 0) (K:Int) w):=by
 go_enter Tryz.func74,Tryz.ntmps74
 go_wp2_with fail
 refine(HV _ (((Mem.start w).bn TH3 #[aA,aB,.slice p n cap] (w.heap.size)).bn TH3 #[(),(),((),())] (w.heap.size+1)).ext).mono ?_
 rintro e w1 ⟨rfl,s⟩
 have M1:=((((Mem.start w).bn TH3 #[aA,aB,.slice p n cap] (w.heap.size)).bn TH3 #[(),(),((),())] (w.heap.size+1)).adv s)
 have a:=M1.hi 0
 have g:=M1.hi 1
 clear s
 obtain⟨c0,c1,c2⟩:=(M1.bk 1).tri
 go_wp2_with fail
 clear c0 c1 c2
 refine(HB _ M1.ext).mono ?_
 rintro e w2 ⟨qs,cs,rfl,l,j⟩
 have M2:=(M1.call j l)
 clear M1 a g j l
 have b:=M2.hi 1
 have h:=M2.hi 2
 obtain⟨c0,c1,c2⟩:=(M2.bk 2).tri
 go_wp2_with fail
 clear c0 c1 c2
 refine(HR _ qs cs M2.ext (M2.sq 0)).mono ?_
 rintro e w3 ⟨q1,c1,rfl,t,m⟩
 have M3:=(M2.call m t)
 clear M2 b h m t
 have f:=M3.hi 2
 have d:=M3.hi 3
 go_wp2_with fail
 refine(HT _ q1 c1 (M3.bn TH3 #[aA,aB,.slice q1 n c1] (w3.heap.size)).ext ((M3.bn TH3 #[aA,aB,.slice q1 n c1] (w3.heap.size)).sq 1)).mono ?_
 rintro e w4 ⟨q2,c2,i2,rfl,k,r⟩
 have M4:=((M3.bn TH3 #[aA,aB,.slice q1 n c1] (w3.heap.size)).call r k)
 clear M3 f d r k
 have u:=M4.hi 1
 have x:=M4.hi 4
 have aa:=M4.hi 5
 obtain⟨z0,ab,z1,y,z2,z⟩:=(M4.bk 4).trif
 go_wp2
 clear z0 ab z1 y z2 z
 have M5:=((((M4.st 4 0 (.int .i64 aA)).st 4 1 (.int .i64 aB)).st 4 2 (.slice q2 n c2)).bn TH3 #[aA,aB,.slice q2 n c2] (w4.heap.size))
 generalize o:World.alloc _ _=wz
 rw[o]at M5
 clear o M4
 obtain⟨af,ae,ad⟩:=(M5.bk 5).tri
 exact bodyPost_ret (v:= .tuple #[.agg #[aA,aB,.slice q2 n c2],(K:Int)]) (by simp[results,Tryz.results74,go_sem, *]) rfl (eH (by rw[List.length_set];exact hlen.out) (M5.ow 1) M5.ext)
def bO (aA aB:Int)(xs:List Int)(id:Int):List Int×Int:=
 match kG aA aB xs id with
 |none=>(xs,-1)
 |some r=>(r.1,(r.2:Int))
theorem aEs {aA aB:Int}{xs:List Int}{id:Int}(h:id<1∨id∉xs):gY aA aB xs id= -1:=by
 unfold gY
 by_cases h1:aN aA aB xs=true∧1≤id
 ·rw[if_pos h1]
  rcases h with h|h
  ·omega
  ·exact rI h
 ·rw[if_neg h1]
theorem qF {xs:List Int}{id:Int}(h:id∈xs): ∃c:Nat,xs[c]? =some id∧nC xs id=(c:Int):=by
 induction xs with
 |nil=>cases h
 |cons x xs ih=>
  by_cases hx:x=id
  ·subst hx;exact⟨0,rfl,qG (k:=0) rfl (by simp)⟩
  ·have hm:id∈xs:=by
    rcases List.mem_cons.1 h with e|e
    ·exact absurd e.symm hx
    ·exact e
   obtain⟨c,h1,_⟩:=ih hm
   obtain⟨k,d,f⟩: ∃k,(x::xs)[k]? =some id∧id∉(x::xs).take k:=by
    clear ih h1
    suffices hs: ∀(l:List Int),id∈l→ ∃k,l[k]? =some id∧id∉l.take k from hs _ h
    intro l
    induction l with
    |nil=>intro h;cases h
    |cons y l ihl=>
     intro hy
     by_cases e:y=id
     ·exact⟨0,by simp[e],by simp⟩
     ·obtain⟨k,a,b⟩:=ihl (by
       rcases List.mem_cons.1 hy with e2|e2
       ·exact absurd e2.symm e
       ·exact e2)
      exact⟨k+1,by simpa using a,by simp[b,Ne.symm e]⟩
   exact⟨k,d,qG d f⟩
theorem aBl (aA aB id:Int)(p:OA)(n cap:Nat)(xs:List Int)(w:World)(hS:Sl w p n cap 1 (ivs xs))(hok:aN aA aB xs=true):
  Calls Tryz.prog 74 #[aH aA aB p n cap,id] w (cO aA aB (bO aA aB xs id).1 (bO aA aB xs id).2 w):=by
 have hl:=hS.ilen
 subst hl
 obtain⟨g1,g2,g3,g4,g5,g6,g7⟩:=bX (cM hok)
 have HV: ∀w',Ext w w'→Calls Tryz.prog 90 #[aH aA aB p xs.length cap] w' fun e w''=>e= .returned (.bool true)∧Ext w' w'':=fun w' hy=>by
  have:=fX aA aB p xs.length cap xs w' (hS.ext hy)
  rwa[hok]at this
 have HL:=fun(w':World) (hy:Ext w w')=>fG aA aB p xs.length cap xs w' (by omega) (hS.ext hy)
 by_cases hno:id<1∨id∉xs
 ·have e:bO aA aB xs id=(xs,-1):=by unfold bO kG;rw[if_pos hno]
  rw[e]
  refine tR aA aB id p xs.length cap xs w rfl HV (fun w' hy=> ?_) HL
  refine aFo aA aB id p xs.length cap w' (fun w2 hy2=> ?_)
  have:=qX aA aB id p xs.length cap xs w2 (hS.ext (hy.trans hy2))
  rwa[aEs hno]at this
 ·have a:1≤id:=by omega
  have hm:id∈xs:=by
   by_cases hm:id∈xs
   ·exact hm
   ·exact absurd (.inr hm) hno
  obtain⟨c,hc,d⟩:=qF hm
  have HB:=fun(w':World) (hy:Ext w w')=>vW aA aB id p xs.length cap xs w' (hS.ext hy) hok a hc
  have b:(nC xs id).toNat=c:=by rw[d];simp
  cases hb:dI aA xs c with
  |none=>
   have e:bO aA aB xs id=(xs,-1):=by unfold bO kG;rw[if_neg hno,b,hb];rfl
   rw[e]
   rw[hb]at HB
   exact tR aA aB id p xs.length cap xs w rfl HV HB HL
  |some l=>
   obtain⟨b1,ys,b2,b3,b4,b5⟩:=(lJ hok hc (by omega)).2 l hb
   have e:bO aA aB xs id=(ys.set 0 0,(l.length:Int)):=by unfold bO kG;rw[if_neg hno,b,hb];simp[b2]
   rw[e]
   rw[hb]at HB
   refine aA5 aA aB id p xs.length cap l.length ys l w b4 HV HB (fun w' q c' hy hL=> ?_) (fun w' q c' hy hL=> ?_)
   ·have:=pU aA aB p xs.length cap xs q l.length c' l w' b1 (hS.ext hy) hL hok
    rw[b2]at this
    unfold cO at this
    dsimp only at this
    rw[b4]at this
    exact this
   ·have:=yV aA aB q xs.length c' ys w' hL b3
    unfold cO at this
    rw[List.length_set,b4]at this
    refine this.mono fun e w'' h=> ?_
    obtain⟨q2,c2,h1,h2,h3⟩:=h
    exact⟨q2,c2,_,h1,h2,h3⟩
end Go.Proofs.YtgnkoffndhmhpaaGreatDoor
namespace Go.Proofs.YtgnkoffndhmhpaaGreatDoor
open Go.RowKit
set_option linter.unusedVariables false
section
variable {P:Program} {l:List Oper} {Q:Exit→Act→World→Prop} {md:Region.Mode} {S:World→Prop}
theorem dR {i:Nat}{oi:Oper}{v:Value}{fuel:Nat}{listed:Array Bool}{a:Act}{w:World}(hi:l[i]? =some oi)
  (hs:Region.noSelect l.toArray=true) (hf:Region.free md l.toArray listed i=true) (hr:(Region.ready md l.toArray listed).contains i=true)
  (hQ: ∀c a w,Q (.panic c) (a.put oi.dst v) w→Q (.panic c) a w) (hw:Region.wanted oi (yielded l.toArray a.tmps)=true) (hy: ∀w,S w→(execOp a.eval oi).run P w= .ok (.value v) w) (hS:S w)
  (h:wpAnyH P md l.toArray Q S fuel (listed.setIfInBounds i true) (a.put oi.dst v) w):wpAnyH P md l.toArray Q S (fuel+1) listed a w:=
 wpAnyH_take (by simpa using hi) hs hf hr hQ (.inl ⟨hw,hy⟩) hS h
theorem jX {i:Nat}{oi:Oper}{fuel:Nat}{listed:Array Bool}{a:Act}{w:World}(hi:l[i]? =some oi)
  (hs:Region.noSelect l.toArray=true) (hf:Region.free md l.toArray listed i=true) (hr:(Region.ready md l.toArray listed).contains i=true)
  (hQ: ∀c a w,Q (.panic c) (a.put oi.dst undef) w→Q (.panic c) a w) (hw:Region.wanted oi (yielded l.toArray a.tmps)=false) (hS:S w)
  (h:wpAnyH P md l.toArray Q S fuel (listed.setIfInBounds i true) (a.put oi.dst undef) w):wpAnyH P md l.toArray Q S (fuel+1) listed a w:=
 wpAnyH_take (by simpa using hi) hs hf hr hQ (.inr ⟨hw,rfl⟩) hS h
theorem aJq {fuel:Nat}{listed:Array Bool}{a:Act}{w:World}{i:Nat}{o:Oper}(ho:l[i]? =some o)
  (h: ∀K':Act→World→Prop,Shut (∀a w,S w→(S w→wpAnyH P md l.toArray Q S fuel (listed.setIfInBounds i true) a w)→K' a w)→if Region.wanted o (yielded l.toArray a.tmps)=true then Oper.wp P o a w K' Q else K' (a.put o.dst undef) w):
  AllReadyH P md l.toArray Q S fuel listed a w [i]:=AllReadyH.cons (by simpa using ho) h AllReadyH.nil
end
end Go.Proofs.YtgnkoffndhmhpaaGreatDoor
