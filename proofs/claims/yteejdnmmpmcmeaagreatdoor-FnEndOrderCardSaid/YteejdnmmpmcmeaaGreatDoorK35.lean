/-
  Texts of this proof, packed (@packed).
-/
import Derived.Test.YteejdnmmpmcmeaaGreatDoorK1
import Derived.Test.YteejdnmmpmcmeaaGreatDoorK3
import Derived.Test.YteejdnmmpmcmeaaGreatDoorK7
import Derived.Test.YteejdnmmpmcmeaaGreatDoorK34
namespace Go.Proofs.YteejdnmmpmcmeaaGreatDoor
open Go.RowKit
set_option linter.unusedVariables false
set_option linter.unusedSimpArgs false
theorem order_cars {h:HouseD}(hok:houseOk h=true):(endOrder h).length=h.vs.length∧(endOrder h).Nodup∧(∀x∈endOrder h,0≤hallFind h.wide h.deep h.cells x)∧(freeL h.cells= []→ ∃x r,endOrder h=x::r∧hallFind h.wide h.deep h.cells x=0):=by
 obtain⟨cv,hn⟩:=cars_visits hok
 have hh:=house_hall hok
 have hl:(carsOf h.cells).length=h.vs.length:=by rw[←cv];simp
 have hc0: ∀x∈carsOf h.cells,0≤hallFind h.wide h.deep h.cells x:=fun x hx=>by
  rcases find_cars hh x with h1|h1
  ·exact h1.2
  ·exact absurd hx h1.1
 unfold endOrder
 rw[if_pos hok]
 by_cases h0:(0:Int)∈h.cells
 ·rw[if_pos h0]
  exact⟨hl,hn,hc0,fun hf=>absurd h0 ((freeL_nil _).1 hf)⟩
 ·rw[if_neg h0]
  obtain⟨y,ys,hy⟩: ∃y ys,h.cells=y::ys:=by
   have:=(hallOk_parts hh).2.2.2.2.1
   cases hcs:h.cells with
   |nil=>rw[hcs]at this;simp at this
   |cons a b=>exact⟨a,b,rfl⟩
  have hyc:y∈carsOf h.cells:=by
   rw[mem_cars,hy]
   refine⟨by simp,?_⟩
   have hk:=hh
   unfold hallOk at hk
   rw[Bool.and_eq_true]at hk
   have:=((cellsOk_iff _ _).1 hk.2).1 y (by rw[hy];simp)
   have hne:y≠0:=fun e=>h0 (by rw[hy,e];simp)
   omega
  have hd:h.cells.headD 0=y:=by rw[hy];rfl
  rw[hd]
  have hfl:((carsOf h.cells).filter (fun x=>x !=y)).length+1=(carsOf h.cells).length:=by
   generalize carsOf h.cells=C at hn hyc
   induction C with
   |nil=>simp at hyc
   |cons a C ih=>
    rw[List.nodup_cons]at hn
    by_cases ha:a=y
    ·subst ha
     have:C.filter (fun x=>x !=a)=C:=List.filter_eq_self.2 (fun x hx=>by simp;rintro rfl;exact hn.1 hx)
     simp[this]
    ·have:=ih hn.2 (by rcases List.mem_cons.1 hyc with h1|h1;exact absurd h1.symm ha;exact h1)
     rw[List.filter_cons_of_pos (by simpa using ha)]
     simp;omega
  refine⟨by simp;omega,?_,?_,fun _=>⟨y,_,rfl,?_⟩⟩
  ·rw[List.nodup_cons]
   exact⟨by simp,hn.filter _⟩
  ·intro x hx
   rcases List.mem_cons.1 hx with rfl|hx
   ·exact hc0 _ hyc
   ·exact hc0 _ (List.mem_filter.1 hx).1
  ·unfold hallFind
   rw[if_pos ⟨hh,by have:=(mem_cars.1 hyc).2;omega⟩,hy]
   simp[idxI,idxGo]
theorem take_not {xs:List Int}{k:Nat}{x:Int}(hn:xs.Nodup)(hx:xs[k]? =some x):(xs.take k).contains x=false:=by
 obtain⟨hk,rfl⟩:=List.getElem?_eq_some_iff.1 hx
 rw[List.contains_eq_mem,decide_eq_false_iff_not]
 intro hm
 obtain⟨j,hj,e⟩:=List.getElem_of_mem hm
 rw[List.getElem_take]at e
 rw[List.length_take]at hj
 exact(List.pairwise_iff_getElem.1 hn j k (by omega) hk (by omega)) e
end Go.Proofs.YteejdnmmpmcmeaaGreatDoor

