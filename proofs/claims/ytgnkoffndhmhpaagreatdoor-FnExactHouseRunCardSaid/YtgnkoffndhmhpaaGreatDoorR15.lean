/-
  Texts of this proof, packed (@packed).
-/
import Derived.Test.YtgnkoffndhmhpaaGreatDoorR8
import Derived.Test.YtgnkoffndhmhpaaGreatDoorR14
namespace Go.Proofs.YtgnkoffndhmhpaaGreatDoor
open Go.RowKit
set_option linter.unusedVariables false
set_option linter.unusedSimpArgs false
theorem aBb (aA aB:Int)(p:OA)(n cap:Nat)(xs:List Int)(w:World)(hS:Sl w p n cap 1 (ivs xs))(hok:aP aA aB xs=true):
  Calls Tryz.prog 157 #[aI aA aB p n cap] w fun e w'=> ∃D,eE aA n (bI xs).length D∧aY D w e w':=by
 have hl:=hS.ilen
 obtain⟨g1,g2,g3,g4,g5,g6,g7⟩:=bR (cF hok)
 have hp:(2:Nat) ^ n≤2 ^ 12:=Nat.pow_le_pow_right (by omega) (by omega)
 have hp2:(2:Nat) ^ 12=4096:=by decide
 have hpe:(2:Nat) ^ n%2=0:=by obtain⟨m,hm⟩: ∃m,n=m+1:=⟨n-1,by omega⟩;rw[hm,Nat.pow_succ];omega
 refine aAe aA aB p n cap (bI xs).length (2 ^ n) w (by omega) (by omega) rfl (by omega) hpe (fun w' hx=> ?_) (fun m w' hm=>aBc m w' (by omega)) (fun w' hx=>vP aA aB p n cap xs w' (hS.ext hx) hok)
 exact(oL aA aB p n cap xs w' (hS.ext hx) hok).mono fun e w'' ⟨q,c,h1,_,h3⟩=>⟨q,c,h1,h3⟩
structure uO (aA aB:Int) (xs:List Int) (D:List Int) (c:Nat) (id:Int) (j:Nat) (ys:List Int):Prop where
 ok:aP aA aB ys=true
 len:ys.length=xs.length
 free:aN ys=(gP aA xs.length (aW D) (c,aN xs) j).2
 at_:ys[(gP aA xs.length (aW D) (c,aN xs) j).1]? =some id
theorem uF {aA aB:Int}{ys:List Int}{c:Nat}{id:Int}(hok:aP aA aB ys=true)(hi:1≤id)(hc:ys[c]? =some id):fX aA aB ys id=(c:Int):=by
 unfold fX
 rw[if_pos ⟨hok,hi⟩]
 refine oI hc (fun hm=> ?_)
 unfold aP at hok
 rw[Bool.and_eq_true]at hok
 obtain⟨h1,h2,h3⟩:=(eI _ _).1 hok.2
 obtain⟨hcl,hce⟩:=List.getElem?_eq_some_iff.1 hc
 have e1:ys=ys.take c++ys.drop c:=(List.take_append_drop c ys).symm
 have hd:id∈ys.drop c:=by rw[mS hc];simp
 rw[e1,List.filter_append,List.nodup_append]at h3
 exact h3.2.2 id (List.mem_filter.2 ⟨hm,by simp;omega⟩) id (List.mem_filter.2 ⟨hd,by simp;omega⟩) rfl
theorem aEy {aA aB:Int}{xs:List Int}{D:List Int}{c:Nat}{id:Int}(h:aP aA aB xs=true)(hc:xs[c]? =some id) (h0:id≠0) (hD:eE aA xs.length (bI xs).length D) {d:Nat} (hd:aW D c (aN xs)=d) {j:Nat} (hj:j<d) {ys:List Int} (hw:uO aA aB xs D c id j ys):
  ∃(J:Nat) (es:List (Nat×Nat)),es=dO aA xs.length (aN ys)∧jB aA aB ys=es.map gQ∧J<es.length∧es[J]? =some (fA aA xs.length (aW D) (c,aN xs) j)∧
   (∀i e,i≤J→es[i]? =some e→e∈dO aA xs.length (aN ys)∧(aW D (dC (gP aA xs.length (aW D) (c,aN xs) j).1 e.1 e.2) (cO (aN ys) e.1 e.2)=(d:Int)-j-1↔i=J))∧
   ∀e,es[J]? =some e→uO aA aB xs D c id (j+1) (bE aA aB ys (e.1:Int) (e.2:Int)):=by
 obtain⟨b1,b2,b3,b4,b5,b6,b7⟩:=bR (cF h)
 have hp:=jA hc h0
 obtain⟨e1,e2,e3⟩:=iR b5 b6 hD hp hd hj
 obtain⟨g1,g2⟩:=iA b5 b6 hD hp hd j (by omega)
 have hsl:=vI hw.ok
 rw[hw.len]at hsl
 have hmem:fA aA xs.length (aW D) (c,aN xs) j∈dO aA xs.length (aN ys):=by rw[hw.free];exact e2
 have e1':(dO aA xs.length (aN ys)).find? (fun e=>decide (aW D (dC (gP aA xs.length (aW D) (c,aN xs) j).1 e.1 e.2) (cO (aN ys) e.1 e.2)=(d:Int)-j-1))=some (fA aA xs.length (aW D) (c,aN xs) j):=by
  have:=e1
  unfold jY at this
  rw[←hw.free,←g2]at*
  rw[hw.free]at*
  exact this
 have hpe:=List.find?_some e1'
 obtain⟨J,hJ1,hJ2,hJ3,hJ4⟩:=aCn (p:=fun e:Nat×Nat=>decide (aW D (dC (gP aA xs.length (aW D) (c,aN xs) j).1 e.1 e.2) (cO (aN ys) e.1 e.2)=(d:Int)-j-1)) (d:=(0,0)) hmem hpe
 rw[e1']at hJ2 hJ3
 simp only[Option.getD_some]at hJ2 hJ3
 refine⟨J,_,rfl,hsl,hJ1,hJ2,fun i e hi he=>⟨List.mem_of_getElem? he,?_⟩,fun e he=> ?_⟩
 ·constructor
  ·intro hh
   rcases Nat.lt_or_ge i J with hlt|hge
   ·have:=hJ4 i e hlt he
    simp only[decide_eq_false_iff_not]at this
    exact absurd hh this
   ·exact Nat.le_antisymm hi hge
  ·intro hiJ
   have he2:some (fA aA xs.length (aW D) (c,aN xs) j)=some e:=by rw[←hJ2,←hiJ];exact he
   have he3:=Option.some.inj he2
   rw[←he3]
   exact of_decide_eq_true hJ3
 ·rw[hJ2]at he
  injection he with he
  subst he
  have hm2:fA aA xs.length (aW D) (c,aN xs) j∈dO aA ys.length (aN ys):=by rw[hw.len];exact hmem
  obtain⟨m1,m2,m3,m4⟩:=pQ hw.ok (f:=(fA aA xs.length (aW D) (c,aN xs) j).1) (t:=(fA aA xs.length (aW D) (c,aN xs) j).2) hm2
  refine⟨fZ _ _ hw.ok,by rw[cN,hw.len],?_,?_⟩
  ·rw[m3,e3,hw.free];rfl
  ·rw[e3];exact m4 _ _ hw.at_ h0
end Go.Proofs.YtgnkoffndhmhpaaGreatDoor
