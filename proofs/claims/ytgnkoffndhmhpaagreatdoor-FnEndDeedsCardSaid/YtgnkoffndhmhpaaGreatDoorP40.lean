/-
  Texts of this proof, packed (@packed).
-/
import Derived.Test.YtgnkoffndhmhpaaGreatDoorP28
import Derived.Test.YtgnkoffndhmhpaaGreatDoorP38
namespace Go.Proofs.YtgnkoffndhmhpaaGreatDoor
open Go.RowKit
set_option linter.unusedVariables false
set_option linter.unusedSimpArgs false
theorem vS (id:Int)(s:Int×Int×Int): ∀vs:List aP,vs.any (fun v=>v.1==id)=true→bS id (vs.set (vs.findIdx (fun v=>v.1==id)) (id,s))=some (id,s):=by
 intro vs
 induction vs with
 |nil=>intro h;simp at h
 |cons x xs ih=>
  intro h
  unfold bS at ih⊢
  by_cases hx:(x.1==id)=true
  ·rw[List.findIdx_cons,hx];simp
  ·have a:(x.1==id)=false:=by simpa using hx
   rw[List.findIdx_cons,a]
   simp only[cond_false,List.set_cons_succ,List.find?_cons,a]
   exact ih (by simpa[a]using h)
theorem uR (id id':Int)(s:Int×Int×Int)(hne:id'≠id): ∀vs:List aP,bS id' (vs.set (vs.findIdx (fun v=>v.1==id)) (id,s))=bS id' vs:=by
 intro vs
 induction vs with
 |nil=>rfl
 |cons x xs ih=>
  unfold bS at ih⊢
  by_cases hx:(x.1==id)=true
  ·have b:x.1=id:=by simpa using hx
   rw[List.findIdx_cons,hx]
   have e1:(id==id')=false:=by simpa using fun e=>hne e.symm
   have e2:(x.1==id')=false:=by rw[b];exact e1
   simp[List.find?_cons,e1,e2]
  ·have a:(x.1==id)=false:=by simpa using hx
   rw[List.findIdx_cons,a]
   simp only[cond_false,List.set_cons_succ,List.find?_cons]
   rw[ih]
theorem rP (id id':Int)(hne:id'≠id): ∀vs:List aP,bS id' (vs.eraseIdx (vs.findIdx (fun v=>v.1==id)))=bS id' vs:=by
 intro vs
 induction vs with
 |nil=>rfl
 |cons x xs ih=>
  unfold bS at ih⊢
  by_cases hx:(x.1==id)=true
  ·have b:x.1=id:=by simpa using hx
   rw[List.findIdx_cons,hx]
   have e1:(id==id')=false:=by simpa using fun e=>hne e.symm
   have e2:(x.1==id')=false:=by rw[b];exact e1
   simp[List.find?_cons,e2]
  ·have a:(x.1==id)=false:=by simpa using hx
   rw[List.findIdx_cons,a]
   simp only[cond_false,List.eraseIdx_cons_succ,List.find?_cons]
   rw[ih]
theorem aAh (h:aO)(a b:List Dd3):gW h (a++b)=gW (gW h a) b:=by unfold gW;rw[List.foldl_append]
theorem wZ: ∀(a:List Dd3) (h:aO) (b:List Dd3),eN h (a++b)=eN h a++eN (gW h a) b:=by
 intro a
 induction a with
 |nil=>intro h b;rfl
 |cons x a ih=>intro h b;show _::eN (sJ h x) (a++b)=_;rw[ih];rfl
theorem aBp {h:aO}(hok:aS h=true){k a b:Int}{g:aO}{n:Int}(hd:bL h k a b=some (g,n)):doR h k a b=(g,n,true):=by unfold doR;rw[if_pos hok,hd]
structure PdTo (g:aO) (id D x:Int) (g':aO):Prop where
 ok:aS g'=true
 aF:g'.aF=g.aF+x
 aA:g'.aA=g.aA
 aB:g'.aB=g.aB
 cells:g'.cells=g.cells
 aC:g'.aC=g.aC
 free:g'.free=g.free
 step:g'.step=g.step
 aD:g'.aD=g.aD
 aG:g'.aG=g.aG
 due:aQ g' id=D-x
 here: ∃v,bS id g'.vs=some v
 rest: ∀j,j≠id→bS j g'.vs=bS j g.vs
theorem zB {g:aO}(hok:aS g=true){id:Int}{v:aP}(hv:bS id g.vs=some v):
  aQ g id=max (jR g.free g.step g.aD g.aG (g.aC-v.2.1)-v.2.2.1) 0∧0≤v.2.1∧v.2.1≤v.2.2.2∧v.2.2.2≤g.aC∧0≤v.2.2.1∧g.aC≤9999:=by
 obtain⟨q1,q2,q3,q4,q5⟩:=(dH g).1 hok
 have hm:v∈g.vs:=List.mem_of_find?_eq_some hv
 obtain⟨s1,s2⟩:=(gH _ _).1 (q5 v hm)
 obtain⟨t1,t2,t3,t4,t5,t6⟩:=eK s1
 refine⟨?_,t1,t5,s2,t3,q3.2.1⟩
 rw[zC hok hv]
 unfold bQ
 rw[if_pos (by simp[q2,s1,s2,q3.2.1])]
theorem aKd {g:aO}(hok:aS g=true){id amt:Int}(h1:1≤amt)(h3:amt≤300)(hD:amt≤aQ g id)(hb:g.aF+amt≤99999)(hv: ∃v,bS id g.vs=some v):
  ∃g' n,doR g 1 id amt=(g',n,true)∧PdTo g id (aQ g id) amt g':=by
 obtain⟨v,hv⟩:=hv
 obtain⟨v1,v2,v3,v4,v5,v6⟩:=eZ hv
 obtain⟨d1,d2,d3,d4,d5,d6⟩:=zB hok hv
 have hp:bL g 1 id amt=some ({g with aF:=g.aF+amt,vs:=g.vs.set (vix id g.vs).toNat (id,v.2.1,v.2.2.1+amt,g.aC)},0):=by
  unfold bL
  rw[if_neg (by omega),if_pos rfl]
  unfold mM
  rw[hv]
  dsimp only
  have e:eU g.free g.step g.aD g.aG v.2.1 v.2.2.1 v.2.2.2 g.aC amt=((v.2.1,v.2.2.1+amt,g.aC),0,true):=by
   unfold eU
   rw[if_pos ⟨h1,h3⟩,←zC hok hv,if_neg (by omega),show min (aQ g id) amt=amt by omega,show amt-amt=0 by omega]
  rw[e]
  dsimp only
  rw[if_pos ⟨rfl,by omega⟩,show g.aF+amt-0=g.aF+amt by omega]
 have b:=(gE hok hp).1
 refine⟨_,0,aBp hok hp,?_⟩
 have a:bS id (g.vs.set (vix id g.vs).toNat (id,v.2.1,v.2.2.1+amt,g.aC))=some (id,v.2.1,v.2.2.1+amt,g.aC):=by rw[v6];exact vS _ _ _ v1
 refine⟨b,rfl,rfl,rfl,rfl,rfl,rfl,rfl,rfl,rfl,?_,⟨_,a⟩,fun j hj=> ?_⟩
 ·have:=(zB b a).1
  rw[this]
  dsimp only
  omega
 ·dsimp only
  rw[v6]
  exact uR _ _ _ hj _
theorem PdTo.trans {g g1 g2:aO}{id D x y:Int}(a:PdTo g id D x g1)(b:PdTo g1 id (D-x) y g2):PdTo g id D (x+y) g2 where
 ok:=b.ok
 aF:=by rw[b.aF,a.aF];omega
 aA:=b.aA.trans a.aA
 aB:=b.aB.trans a.aB
 cells:=b.cells.trans a.cells
 aC:=b.aC.trans a.aC
 free:=b.free.trans a.free
 step:=b.step.trans a.step
 aD:=b.aD.trans a.aD
 aG:=b.aG.trans a.aG
 due:=by rw[b.due];omega
 here:=b.here
 rest:=fun j hj=>(b.rest j hj).trans (a.rest j hj)
theorem aKf {g:aO}(hok:aS g=true){id:Int}(hb:g.aF+aQ g id≤99999)(hv: ∃v,bS id g.vs=some v):
  ∀k,k≤dC (aQ g id)→PdTo g id (aQ g id) (min (aQ g id) (300*(k:Int))) (gW g (fQ id (aQ g id) k))∧ ∀b∈eN g (fQ id (aQ g id) k),b=true:=by
 have h0:0≤aQ g id:=by
  obtain⟨v,hv⟩:=hv
  have:=(zB hok hv).1
  omega
 intro k
 induction k with
 |zero=>
  intro _
  refine⟨?_,by intro b hb;simp[fQ,eN]at hb⟩
  rw[show min (aQ g id) (300*((0:Nat):Int))=0 by simp;omega]
  exact⟨hok,by show g.aF=g.aF+0;omega,rfl,rfl,rfl,rfl,rfl,rfl,rfl,rfl,by show aQ g id=_;omega,hv,fun j hj=>rfl⟩
 |succ k ih=>
  intro hk
  obtain⟨i1,i2⟩:=ih (by omega)
  have d:=(jG (aQ g id) k).1 (by omega)
  have c:min (aQ g id) (300*(k:Int))=300*(k:Int):=by omega
  rw[c]at i1
  rw[pH,wI,uT]
  have a:=i1.due
  obtain⟨g',n,p1,p2⟩:=aKd i1.ok (id:=id) (amt:=min (aQ g id-300*(k:Int)) 300) (by omega) (by omega) (by rw[a];omega) (by rw[i1.aF];omega) i1.here
  have ep:doR (gW g (fQ id (aQ g id) k)) (kE id (aQ g id) k).1 (kE id (aQ g id) k).2.1 (kE id (aQ g id) k).2.2=(g',n,true):=p1
  rw[ep]
  rw[a]at p2
  refine⟨?_,fun b hb=> ?_⟩
  ·have:=i1.trans p2
   rw[show 300*(k:Int)+min (aQ g id-300*(k:Int)) 300=min (aQ g id) (300*((k+1:Nat):Int)) by omega]at this
   exact this
  ·rcases List.mem_append.1 hb with hb|hb
   ·exact i2 b hb
   ·simpa using hb
theorem aJb {xs:List Int}(h:(0:Int)∈xs):bI xs≠ []:=by
 intro e
 have:=(rO xs).1 (by rw[qK,e];rfl)
 exact this h
theorem aGr {aA aB:Int}{xs:List Int}{id:Int}(hok:aN aA aB xs=true)(hm:id∈xs)(h1:1≤id)(hc:(0:Int)∈xs∨xs[0]? =some id):0≤(bO aA aB xs id).2:=by
 have hn:=(((dQ _ _).1 (by unfold aN at hok;rw[Bool.and_eq_true]at hok;exact hok.2)).2.2)
 obtain⟨c,hx,hi⟩:=qF hm
 unfold bO kG
 rw[if_neg (by rintro(h|h);omega;exact h hm),hi,Int.toNat_natCast]
 cases hb:dI aA xs c with
 |some l=>simp
 |none=>
  exfalso
  obtain⟨f1,f2⟩:=(lJ hok hx (by omega)).1.1 hb
  rcases hc with hc|hc
  ·exact aJb hc f1
  ·refine f2 ?_
   have h0:nC xs id=0:=by
    cases xs with
    |nil=>simp at hc
    |cons a xs=>
     simp at hc
     subst hc
     simp[nC,uK]
   rw[hi]at h0
   omega
theorem aKi {g:aO}(hok:aS g=true){id:Int}(hD:aQ g id=0)(hv: ∃v,bS id g.vs=some v)(hc:(0:Int)∈g.cells∨g.cells[0]? =some id):
  ∃g' n,doR g 2 id 0=(g',n,true)∧aS g'=true∧g'.aF=g.aF∧g'.aC=g.aC∧g'.free=g.free∧g'.step=g.step∧g'.aD=g.aD∧g'.aG=g.aG∧(0:Int)∈g'.cells∧cE g'.cells=(cE g.cells).erase id∧ ∀j,j≠id→bS j g'.vs=bS j g.vs:=by
 obtain⟨v,hv⟩:=hv
 obtain⟨v1,v2,v3,v4,v5,v6⟩:=eZ hv
 obtain⟨q1,q2,q3,q4,q5⟩:=(dH g).1 hok
 have b:id∈cE g.cells:=by
  rw[←q4,←v2]
  exact List.mem_map_of_mem (List.mem_of_find?_eq_some hv)
 have c:id∈g.cells∧0<id:=by
  unfold cE at b
  rw[(fY _).mem_iff]at b
  unfold dB at b
  rw[List.mem_filter]at b
  simpa using b
 have hf:=aGr q1 c.1 (by omega) hc
 have d:dJ g id=true:=by
  have:=zC hok hv
  rw[hD]at this
  unfold dJ cP
  rw[if_pos hok,hv]
  dsimp only[Option.map_some]
  unfold jQ
  simp[←this]
 obtain⟨ys,s1,s2,s3,s4,s5⟩:=kU q1 hf
 have hd:bL g 2 id 0=some ({g with cells:=(bO g.aA g.aB g.cells id).1,vs:=g.vs.eraseIdx (vix id g.vs).toNat},(bO g.aA g.aB g.cells id).2):=by
  unfold bL
  rw[if_neg (by omega),if_neg (by omega),if_pos rfl,if_pos ⟨d,hf⟩]
 refine⟨_,_,aBp hok hd,(gE hok hd).1,rfl,rfl,rfl,rfl,rfl,rfl,?_,?_,fun j hj=> ?_⟩
 ·dsimp only
  rw[s4]
  refine List.mem_of_getElem? (i:=0) ?_
  rw[List.getElem?_set_self]
  cases ys with
  |nil=>simp at s2
  |cons a ys=>simp
 ·dsimp only
  rw[s4,xH s2 s3,lI s1]
 ·dsimp only
  rw[v6]
  exact rP _ _ hj _
def pD (due:Int→Int)(ids:List Int):Int:=(ids.map due).sum
theorem aBn {g g':aO}(hok:aS g=true)(hok':aS g'=true)(hc:g'.aC=g.aC)(h1:g'.free=g.free)(h2:g'.step=g.step)(h3:g'.aD=g.aD)(h4:g'.aG=g.aG){j:Int}(hv:bS j g'.vs=bS j g.vs):aQ g' j=aQ g j:=by
 unfold aQ cP
 rw[if_pos hok,if_pos hok',hv,hc,h1,h2,h3,h4]
theorem aL1 (due:Int→Int): ∀(ids:List Int) (g:aO),aS g=true→ids.Nodup→List.Perm (cE g.cells) ids→(∀j∈ids,aQ g j=due j)→g.aF+pD due ids≤99999→(∀j∈ids,0≤due j)→
  ((0:Int)∈g.cells∨ ∀x r,ids=x::r→g.cells[0]? =some x)→
  (∀b∈eN g (bF due ids),b=true)∧aS (gW g (bF due ids))=true∧cE (gW g (bF due ids)).cells= []∧(gW g (bF due ids)).vs= []∧(gW g (bF due ids)).aF=g.aF+pD due ids∧(gW g (bF due ids)).aC=g.aC:=by
 intro ids
 induction ids with
 |nil=>
  intro g a _ hp _ _ _ _
  have hc:=List.Perm.eq_nil hp
  obtain⟨q1,q2,q3,q4,q5⟩:=(dH g).1 a
  refine⟨by intro b hb;simp[bF,eN]at hb,a,hc,?_,by simp[gW,bF,pD],rfl⟩
  rw[hc]at q4
  exact List.map_eq_nil_iff.1 q4
 |cons id ids ih=>
  intro g a hn hp hd hb c hz
  obtain⟨q1,q2,q3,q4,q5⟩:=(dH g).1 a
  rw[List.nodup_cons]at hn
  have i:=hd id (by simp)
  have d:pD due (id::ids)=due id+pD due ids:=by simp[pD]
  have o:0≤pD due ids:=by
   clear ih hp hd hb hz i d hn
   induction ids with
   |nil=>simp[pD]
   |cons y ys ih2=>
    have h1:=c y (by simp)
    have h2:=ih2 (fun j hj=>c j (by simp at hj⊢;rcases hj with hj|hj;exact .inl hj;exact .inr (.inr hj)))
    simp only[pD,List.map_cons,List.sum_cons]at h2⊢
    omega
  have f:id∈cE g.cells:=hp.mem_iff.2 (by simp)
  have hv: ∃v,bS id g.vs=some v:=by
   rw[←q4]at f
   obtain⟨v,hv,rfl⟩:=List.mem_map.1 f
   exact⟨v,tM a hv⟩
  obtain⟨p1,p2⟩:=aKf a (id:=id) (by rw[i];have:=d;omega) hv (dC (aQ g id)) (Nat.le_refl _)
  rw[i]at p1 p2
  have q:=c id (by simp)
  have k:min (due id) (300*(dC (due id):Int))=due id:=by unfold dC;omega
  rw[k]at p1
  have e:bF due (id::ids)=fQ id (due id) (dC (due id))++([(2,id,0)]++bF due ids):=by unfold bF;simp
  rw[e,aAh,aAh,wZ,wZ]
  generalize s:gW g (fQ id (due id) (dC (due id)))=g1 at p1 p2⊢
  obtain⟨g2,n,o1,o2,o3,o4,o5,o6,o7,o8,o9,p,m⟩:=aKi p1.ok (id:=id) (by rw[p1.due];omega) p1.here (by
   rw[p1.cells]
   rcases hz with hz|hz
   ·exact .inl hz
   ·exact .inr (hz id ids rfl))
  have er:gW g1 [(2,id,0)]=g2:=by show(doR g1 2 id 0).1=g2;rw[o1]
  have ed:eN g1 [(2,id,0)]= [true]:=by show [(doR g1 2 id 0).2.2]= [true];rw[o1]
  rw[er,ed]
  have h:List.Perm (cE g2.cells) ids:=by
   rw[p,p1.cells]
   have:=hp.erase id
   rwa[List.erase_cons_head]at this
  obtain⟨r1,r2,r3,r4,r5,r6⟩:=ih g2 o2 hn.2 h (fun j hj=>by
    have l:j≠id:=fun e=>hn.1 (e▸hj)
    rw[aBn p1.ok o2 o4 o5 o6 o7 o8 (m j l),aBn a p1.ok p1.aC p1.free p1.step p1.aD p1.aG (p1.rest j l)]
    exact hd j (by simp[hj]))
   (by rw[o3,p1.aF];omega) (fun j hj=>c j (by simp[hj])) (.inl o9)
  refine⟨fun b hb=> ?_,r2,r3,r4,by rw[r5,o3,p1.aF,d];omega,by rw[r6,o4,p1.aC]⟩
  rcases List.mem_append.1 hb with hb|hb
  ·exact p2 b hb
  ·rcases List.mem_append.1 hb with hb|hb
   ·simpa using hb
   ·exact r1 b hb
theorem aF9 (due:Int→Int){a b:List Int}(h:List.Perm a b):pD due a=pD due b:=by
 induction h with
 |nil=>rfl
 |cons x _ ih=>simp only[pD,List.map_cons,List.sum_cons]at ih⊢;rw[ih]
 |swap x y l=>simp only[pD,List.map_cons,List.sum_cons];omega
 |trans _ _ i1 i2=>exact i1.trans i2
theorem aGq (D:aP→Int): ∀(vs:List aP) (a:Int),vs.foldl (fun a v=>a+D v) a=a+(vs.map D).sum:=by
 intro vs
 induction vs with
 |nil=>intro a;simp
 |cons v vs ih=>intro a;simp only[List.foldl_cons,List.map_cons,List.sum_cons];rw[ih];omega
theorem aD6 {h:aO}(hok:aS h=true):List.Perm (cE h.cells) (cA h)∧(cA h).Nodup∧((0:Int)∈h.cells∨ ∀x r,cA h=x::r→h.cells[0]? =some x):=by
 obtain⟨cv,hn⟩:=lG hok
 have hh:=jH hok
 unfold cA
 rw[if_pos hok]
 by_cases h0:(0:Int)∈h.cells
 ·rw[if_pos h0]
  exact⟨List.Perm.refl _,hn,.inl h0⟩
 ·rw[if_neg h0]
  obtain⟨y,ys,hy⟩: ∃y ys,h.cells=y::ys:=by
   have:=(bM hh).2.2.2.2.1
   cases hcs:h.cells with
   |nil=>rw[hcs]at this;simp at this
   |cons a b=>exact⟨a,b,rfl⟩
  have c:y∈cE h.cells:=by
   unfold cE
   rw[(fY _).mem_iff]
   unfold dB
   rw[List.mem_filter]
   have hk:=hh
   unfold aN at hk
   rw[Bool.and_eq_true]at hk
   have:=((dQ _ _).1 hk.2).1 y (by rw[hy];simp)
   have d:y≠0:=fun e=>h0 (by rw[hy,e];simp)
   refine⟨by rw[hy];simp,by simp;omega⟩
  have hd:h.cells.headD 0=y:=by rw[hy];rfl
  rw[hd]
  have hp:List.Perm (cE h.cells) (y::(cE h.cells).filter (fun x=>x !=y)):=by
   have:=List.perm_cons_erase c
   rwa[List.Nodup.erase_eq_filter hn]at this
  refine⟨hp,hp.nodup_iff.1 hn,.inr (fun x r e=> ?_)⟩
  injection e with e _
  rw[←e,hy];rfl
theorem aL0 {h:aO}(hok:aS h=true)(hb:h.aF+cL h≤99999):
  (∀b∈eN h (bF (aQ h) (cA h)),b=true)∧aS (gW h (bF (aQ h) (cA h)))=true∧cE (gW h (bF (aQ h) (cA h))).cells= []∧(gW h (bF (aQ h) (cA h))).vs= []∧(gW h (bF (aQ h) (cA h))).aF=h.aF+cL h∧(gW h (bF (aQ h) (cA h))).aC=h.aC:=by
 obtain⟨p1,p2,p3⟩:=aD6 hok
 obtain⟨cv,_⟩:=lG hok
 have hs:pD (aQ h) (cA h)=cL h:=by
  rw[←aF9 _ p1,←cv,←aAk hok]
  unfold iR pD
  rw[aGq,List.map_map]
  simp[Function.comp_def]
 have a:=aL1 (aQ h) (cA h) h hok p2 p1 (fun _ _=>rfl) (by rw[hs];exact hb) (fun j hj=>by
  have hc:=p1.mem_iff.2 hj
  rw[←cv]at hc
  obtain⟨v,hv,rfl⟩:=List.mem_map.1 hc
  rw[lF hok hv]
  exact(mB hok hv).1) p3
 rw[hs]at a
 exact a
end Go.Proofs.YtgnkoffndhmhpaaGreatDoor
