/-
  Texts of this proof, packed (@packed).
-/
import Derived.Test.YtpelpnfhbepokaaGreatDoorV35
namespace Go.Proofs.YtpelpnfhbepokaaGreatDoor
open Go.RowKit
set_option linter.unusedVariables false
set_option linter.unusedSimpArgs false
theorem vQ (id:Int)(s:Int×Int×Int): ∀vs:List aP,vs.any (fun v=>v.1==id)=true→bY id (vs.set (vs.findIdx (fun v=>v.1==id)) (id,s))=some (id,s):=by
 intro vs;induction vs with
 |nil=>intro h;simp at h
 |cons x xs ih=>
  intro h;unfold bY at ih⊢;by_cases hx:(x.1==id)=true
  ·rw[List.findIdx_cons,hx];simp
  have a:(x.1==id)=false:=by simpa using hx
  rw[List.findIdx_cons,a];simp only[cond_false,List.set_cons_succ,List.find?_cons,a];exact ih (by simpa[a]using h)
theorem uS (id a:Int)(s:Int×Int×Int)(b:a≠id): ∀vs:List aP,bY a (vs.set (vs.findIdx (fun v=>v.1==id)) (id,s))=bY a vs:=by
 intro vs;induction vs with
 |nil=>rfl
 |cons x xs ih=>
  unfold bY at ih⊢;by_cases hx:(x.1==id)=true
  ·have d:x.1=id:=by simpa using hx
   rw[List.findIdx_cons,hx];have e1:(id==a)=false:=by simpa using fun e=>b e.symm
   have e2:(x.1==a)=false:=by rw[d];exact e1
   simp[List.find?_cons,e1,e2]
  have c:(x.1==id)=false:=by simpa using hx
  rw[List.findIdx_cons,c];simp only[cond_false,List.set_cons_succ,List.find?_cons];rw[ih]
theorem rO (id a:Int)(b:a≠id): ∀vs:List aP,bY a (vs.eraseIdx (vs.findIdx (fun v=>v.1==id)))=bY a vs:=by
 intro vs;induction vs with
 |nil=>rfl
 |cons x xs ih=>
  unfold bY at ih⊢;by_cases hx:(x.1==id)=true
  ·have d:x.1=id:=by simpa using hx
   rw[List.findIdx_cons,hx];have e1:(id==a)=false:=by simpa using fun e=>b e.symm
   have e2:(x.1==a)=false:=by rw[d];exact e1
   simp[List.find?_cons,e2]
  have c:(x.1==id)=false:=by simpa using hx
  rw[List.findIdx_cons,c];simp only[cond_false,List.eraseIdx_cons_succ,List.find?_cons];rw[ih]
theorem aA7 (h:aO)(a b:List Dd3):gE h (a++b)=gE (gE h a) b:=by unfold gE;rw[List.foldl_append]
theorem wU: ∀(a:List Dd3) (h:aO) (b:List Dd3),dN h (a++b)=dN h a++dN (gE h a) b:=by
 intro a;induction a with
 |nil=>intro h b;rfl
 |cons x a ih=>intro h b;show _::dN (sI h x) (a++b)=_;rw[ih];rfl
theorem aB9 {h:aO}(c:aT h=true){k a b:Int}{g:aO}{n:Int}(hd:cA h k a b=some (g,n)):doR h k a b=(g,n,true):=by unfold doR;rw[if_pos c,hd]
structure PdTo (g:aO) (id D x:Int) (g':aO):Prop where
 ok:aT g'=true
 aG:g'.aG=g.aG+x
 aA:g'.aA=g.aA
 aB:g'.aB=g.aB
 cells:g'.cells=g.cells
 aC:g'.aC=g.aC
 free:g'.free=g.free
 step:g'.step=g.step
 aE:g'.aE=g.aE
 aF:g'.aF=g.aF
 due:aU g' id=D-x
 here: ∃v,bY id g'.vs=some v
 rest: ∀j,j≠id→bY j g'.vs=bY j g.vs
theorem yW {g:aO}(a:aT g=true){id:Int}{v:aP}(hv:bY id g.vs=some v):
  aU g id=max (lD g.free g.step g.aE g.aF (g.aC-v.2.1)-v.2.2.1) 0∧0≤v.2.1∧v.2.1≤v.2.2.2∧v.2.2.2≤g.aC∧0≤v.2.2.1∧g.aC≤9999:=by
 obtain⟨q1,q2,q3,q4,q5⟩:=(dS g).1 a;have hm:v∈g.vs:=List.mem_of_find?_eq_some hv;obtain⟨s1,s2⟩:=(iA _ _).1 (q5 v hm);obtain⟨t1,t2,t3,t4,t5,t6⟩:=eT s1;refine⟨?_,t1,t5,s2,t3,q3.2.1⟩;rw[aDq a hv];unfold bX;rw[if_pos (by simp[q2,s1,s2,q3.2.1])]
theorem aJu {g:aO}(a:aT g=true){id amt:Int}(h1:1≤amt)(h3:amt≤300)(hD:amt≤aU g id)(hb:g.aG+amt≤99999)(hv: ∃v,bY id g.vs=some v):
  ∃g' n,doR g 1 id amt=(g',n,true)∧PdTo g id (aU g id) amt g':=by
 obtain⟨v,hv⟩:=hv;obtain⟨v1,v2,v3,v4,v5,v6⟩:=iB hv;obtain⟨d1,d2,d3,d4,d5,d6⟩:=yW a hv;have hp:cA g 1 id amt=some ({g with aG:=g.aG+amt,vs:=g.vs.set (vix id g.vs).toNat (id,v.2.1,v.2.2.1+amt,g.aC)},0):=by
  unfold cA;rw[if_neg (by omega),if_pos rfl];unfold oJ;rw[hv];dsimp only;have e:fT g.free g.step g.aE g.aF v.2.1 v.2.2.1 v.2.2.2 g.aC amt=((v.2.1,v.2.2.1+amt,g.aC),0,true):=by unfold fT;rw[if_pos ⟨h1,h3⟩,←aDq a hv,if_neg (by omega),show min (aU g id) amt=amt by omega,show amt-amt=0 by omega]
  rw[e];dsimp only;rw[if_pos ⟨rfl,by omega⟩,show g.aG+amt-0=g.aG+amt by omega]
 have c:=(kO a hp).1;refine⟨_,0,aB9 a hp,?_⟩;have b:bY id (g.vs.set (vix id g.vs).toNat (id,v.2.1,v.2.2.1+amt,g.aC))=some (id,v.2.1,v.2.2.1+amt,g.aC):=by rw[v6];exact vQ _ _ _ v1
 refine⟨c,rfl,rfl,rfl,rfl,rfl,rfl,rfl,rfl,rfl,?_,⟨_,b⟩,fun j hj=> ?_⟩
 ·have:=(yW c b).1;rw[this];dsimp only;omega
 dsimp only;rw[v6];exact uS _ _ _ hj _
theorem PdTo.trans {g g1 g2:aO}{id D x y:Int}(a:PdTo g id D x g1)(b:PdTo g1 id (D-x) y g2):PdTo g id D (x+y) g2 where
 ok:=b.ok
 aG:=by rw[b.aG,a.aG];omega
 aA:=b.aA.trans a.aA
 aB:=b.aB.trans a.aB
 cells:=b.cells.trans a.cells
 aC:=b.aC.trans a.aC
 free:=b.free.trans a.free
 step:=b.step.trans a.step
 aE:=b.aE.trans a.aE
 aF:=b.aF.trans a.aF
 due:=by rw[b.due];omega
 here:=b.here
 rest:=fun j hj=>(b.rest j hj).trans (a.rest j hj)
theorem aJv {g:aO}(d:aT g=true){id:Int}(hb:g.aG+aU g id≤99999)(hv: ∃v,bY id g.vs=some v):
  ∀k,k≤dB (aU g id)→PdTo g id (aU g id) (min (aU g id) (300*(k:Int))) (gE g (fO id (aU g id) k))∧ ∀b∈dN g (fO id (aU g id) k),b=true:=by
 have h0:0≤aU g id:=by obtain⟨v,hv⟩:=hv;have:=(yW d hv).1;omega
 intro k;induction k with
 |zero=>intro _;refine⟨?_,by intro b hb;simp[fO,dN]at hb⟩;rw[show min (aU g id) (300*((0:Nat):Int))=0 by simp;omega];exact⟨d,by show g.aG=g.aG+0;omega,rfl,rfl,rfl,rfl,rfl,rfl,rfl,rfl,by show aU g id=_;omega,hv,fun j hj=>rfl⟩
 |succ k ih=>
  intro hk;obtain⟨i1,i2⟩:=ih (by omega);have e:=(jB (aU g id) k).1 (by omega);have c:min (aU g id) (300*(k:Int))=300*(k:Int):=by omega
  rw[c]at i1;rw[oX,rB,pH];have a:=i1.due;obtain⟨g',n,p1,p2⟩:=aJu i1.ok (id:=id) (amt:=min (aU g id-300*(k:Int)) 300) (by omega) (by omega) (by rw[a];omega) (by rw[i1.aG];omega) i1.here;have ep:doR (gE g (fO id (aU g id) k)) (jX id (aU g id) k).1 (jX id (aU g id) k).2.1 (jX id (aU g id) k).2.2=(g',n,true):=p1;rw[ep];rw[a]at p2;refine⟨?_,fun b hb=> ?_⟩
  ·have:=i1.trans p2;rw[show 300*(k:Int)+min (aU g id-300*(k:Int)) 300=min (aU g id) (300*((k+1:Nat):Int)) by omega]at this;exact this
  rcases List.mem_append.1 hb with hb|hb
  ·exact i2 b hb
  simpa using hb
theorem aJ2 {xs:List Int}(h:(0:Int)∈xs):bJ xs≠ []:=by intro e;have:=(rN xs).1 (by rw[qK,e];rfl);exact this h
theorem aGg {aA aB:Int}{xs:List Int}{id:Int}(b:aM aA aB xs=true)(hm:id∈xs)(h1:1≤id)(hc:(0:Int)∈xs∨xs[0]? =some id):0≤(bR aA aB xs id).2:=by
 have hn:=(((dO _ _).1 (by unfold aM at b;rw[Bool.and_eq_true]at b;exact b.2)).2.2)
 obtain⟨c,hx,hi⟩:=qE hm;unfold bR kA;rw[if_neg (by rintro(h|h);omega;exact h hm),hi,Int.toNat_natCast];cases hb:dH aA xs c with
 |some l=>simp
 |none=>
  exfalso;obtain⟨f1,f2⟩:=(lG b hx (by omega)).1.1 hb;rcases hc with hc|hc
  ·exact aJ2 hc f1
  refine f2 ?_;have h0:mY xs id=0:=by
   cases xs with
   |nil=>simp at hc
   |cons a xs=>simp at hc;subst hc;simp[mY,uL]
  rw[hi]at h0;omega
theorem aJy {g:aO}(c:aT g=true){id:Int}(hD:aU g id=0)(hv: ∃v,bY id g.vs=some v)(hc:(0:Int)∈g.cells∨g.cells[0]? =some id):
  ∃g' n,doR g 2 id 0=(g',n,true)∧aT g'=true∧g'.aG=g.aG∧g'.aC=g.aC∧g'.free=g.free∧g'.step=g.step∧g'.aE=g.aE∧g'.aF=g.aF∧(0:Int)∈g'.cells∧cJ g'.cells=(cJ g.cells).erase id∧ ∀j,j≠id→bY j g'.vs=bY j g.vs:=by
 obtain⟨v,hv⟩:=hv;obtain⟨v1,v2,v3,v4,v5,v6⟩:=iB hv;obtain⟨q1,q2,q3,q4,q5⟩:=(dS g).1 c;have b:id∈cJ g.cells:=by rw[←q4,←v2];exact List.mem_map_of_mem (List.mem_of_find?_eq_some hv)
 have e:id∈g.cells∧0<id:=by unfold cJ at b;rw[(fW _).mem_iff]at b;unfold dA at b;rw[List.mem_filter]at b;simpa using b
 have hf:=aGg q1 e.1 (by omega) hc;have d:dV g id=true:=by have:=aDq c hv;rw[hD]at this;unfold dV cS;rw[if_pos c,hv];dsimp only[Option.map_some];unfold jM;simp[←this]
 obtain⟨ys,s1,s2,s3,s4,s5⟩:=kR q1 hf;have hd:cA g 2 id 0=some ({g with cells:=(bR g.aA g.aB g.cells id).1,vs:=g.vs.eraseIdx (vix id g.vs).toNat},(bR g.aA g.aB g.cells id).2):=by unfold cA;rw[if_neg (by omega),if_neg (by omega),if_pos rfl,if_pos ⟨d,hf⟩]
 refine⟨_,_,aB9 c hd,(kO c hd).1,rfl,rfl,rfl,rfl,rfl,rfl,?_,?_,fun j hj=> ?_⟩
 ·dsimp only;rw[s4];refine List.mem_of_getElem? (i:=0) ?_;rw[List.getElem?_set_self];cases ys with
  |nil=>simp at s2
  |cons a ys=>simp
 ·dsimp only;rw[s4,xA s2 s3,lF s1]
 dsimp only;rw[v6];exact rO _ _ hj _
def oU (due:Int→Int)(ids:List Int):Int:=(ids.map due).sum
theorem aB8 {g g':aO}(b:aT g=true)(a:aT g'=true)(hc:g'.aC=g.aC)(h1:g'.free=g.free)(h2:g'.step=g.step)(h3:g'.aE=g.aE)(h4:g'.aF=g.aF){j:Int}(hv:bY j g'.vs=bY j g.vs):aU g' j=aU g j:=by unfold aU cS;rw[if_pos b,if_pos a,hv,hc,h1,h2,h3,h4]
theorem aKg (due:Int→Int): ∀(ids:List Int) (g:aO),aT g=true→ids.Nodup→List.Perm (cJ g.cells) ids→(∀j∈ids,aU g j=due j)→g.aG+oU due ids≤99999→(∀j∈ids,0≤due j)→
  ((0:Int)∈g.cells∨ ∀x r,ids=x::r→g.cells[0]? =some x)→
  (∀b∈dN g (aZ due ids),b=true)∧aT (gE g (aZ due ids))=true∧cJ (gE g (aZ due ids)).cells= []∧(gE g (aZ due ids)).vs= []∧(gE g (aZ due ids)).aG=g.aG+oU due ids∧(gE g (aZ due ids)).aC=g.aC:=by
 intro ids;induction ids with
 |nil=>intro g a _ hp _ _ _ _;have hc:=List.Perm.eq_nil hp;obtain⟨q1,q2,q3,q4,q5⟩:=(dS g).1 a;refine⟨by intro b hb;simp[aZ,dN]at hb,a,hc,?_,by simp[gE,aZ,oU],rfl⟩;rw[hc]at q4;exact List.map_eq_nil_iff.1 q4
 |cons id ids ih=>
  intro g a hn hp hd hb c hz;obtain⟨q1,q2,q3,q4,q5⟩:=(dS g).1 a;rw[List.nodup_cons]at hn;have h:=hd id (by simp);have d:oU due (id::ids)=due id+oU due ids:=by simp[oU]
  have m:0≤oU due ids:=by
   clear ih hp hd hb hz h d hn;induction ids with
   |nil=>simp[oU]
   |cons y ys ih2=>have h1:=c y (by simp);have h2:=ih2 (fun j hj=>c j (by simp at hj⊢;rcases hj with hj|hj;exact .inl hj;exact .inr (.inr hj)));simp only[oU,List.map_cons,List.sum_cons]at h2⊢;omega
  have f:id∈cJ g.cells:=hp.mem_iff.2 (by simp);have hv: ∃v,bY id g.vs=some v:=by rw[←q4]at f;obtain⟨v,hv,rfl⟩:=List.mem_map.1 f;exact⟨v,tO a hv⟩
  obtain⟨p1,p2⟩:=aJv a (id:=id) (by rw[h];have:=d;omega) hv (dB (aU g id)) (Nat.le_refl _);rw[h]at p1 p2;have s:=c id (by simp);have k:min (due id) (300*(dB (due id):Int))=due id:=by unfold dB;omega
  rw[k]at p1;have e:aZ due (id::ids)=fO id (due id) (dB (due id))++([(2,id,0)]++aZ due ids):=by unfold aZ;simp
  rw[e,aA7,aA7,wU,wU];generalize q:gE g (fO id (due id) (dB (due id)))=g1 at p1 p2⊢
  obtain⟨g2,n,o1,o2,o3,o4,o5,o6,o7,o8,o9,o,p⟩:=aJy p1.ok (id:=id) (by rw[p1.due];omega) p1.here (by
   rw[p1.cells];rcases hz with hz|hz
   ·exact .inl hz
   ·exact .inr (hz id ids rfl))
  have er:gE g1 [(2,id,0)]=g2:=by show(doR g1 2 id 0).1=g2;rw[o1]
  have ed:dN g1 [(2,id,0)]= [true]:=by show [(doR g1 2 id 0).2.2]= [true];rw[o1]
  rw[er,ed];have i:List.Perm (cJ g2.cells) ids:=by rw[o,p1.cells];have:=hp.erase id;rwa[List.erase_cons_head]at this
  obtain⟨r1,r2,r3,r4,r5,r6⟩:=ih g2 o2 hn.2 i (fun j hj=>by
    have l:j≠id:=fun e=>hn.1 (e▸hj)
    rw[aB8 p1.ok o2 o4 o5 o6 o7 o8 (p j l),aB8 a p1.ok p1.aC p1.free p1.step p1.aE p1.aF (p1.rest j l)]
    exact hd j (by simp[hj]))
   (by rw[o3,p1.aG];omega) (fun j hj=>c j (by simp[hj])) (.inl o9)
  refine⟨fun b hb=> ?_,r2,r3,r4,by rw[r5,o3,p1.aG,d];omega,by rw[r6,o4,p1.aC]⟩;rcases List.mem_append.1 hb with hb|hb
  ·exact p2 b hb
  rcases List.mem_append.1 hb with hb|hb
  ·simpa using hb
  exact r1 b hb
theorem aEw (c:Int→Int){a b:List Int}(h:List.Perm a b):oU c a=oU c b:=by
 induction h with
 |nil=>rfl
 |cons x _ ih=>simp only[oU,List.map_cons,List.sum_cons]at ih⊢;rw[ih]
 |swap x y l=>simp only[oU,List.map_cons,List.sum_cons];omega
 |trans _ _ i1 i2=>exact i1.trans i2
theorem aGf (D:aP→Int): ∀(vs:List aP) (a:Int),vs.foldl (fun a v=>a+D v) a=a+(vs.map D).sum:=by
 intro vs;induction vs with
 |nil=>intro a;simp
 |cons v vs ih=>intro a;simp only[List.foldl_cons,List.map_cons,List.sum_cons];rw[ih];omega
theorem aCp {h:aO}(c:aT h=true):List.Perm (cJ h.cells) (bV h)∧(bV h).Nodup∧((0:Int)∈h.cells∨ ∀x r,bV h=x::r→h.cells[0]? =some x):=by
 obtain⟨cv,hn⟩:=lE c;have hh:=jD c;unfold bV;rw[if_pos c];by_cases h0:(0:Int)∈h.cells
 ·rw[if_pos h0];exact⟨List.Perm.refl _,hn,.inl h0⟩
 rw[if_neg h0];obtain⟨y,ys,hy⟩: ∃y ys,h.cells=y::ys:=by
  have:=(bM hh).2.2.2.2.1;cases hcs:h.cells with
  |nil=>rw[hcs]at this;simp at this
  |cons a b=>exact⟨a,b,rfl⟩
 have d:y∈cJ h.cells:=by
  unfold cJ;rw[(fW _).mem_iff];unfold dA;rw[List.mem_filter];have hk:=hh;unfold aM at hk;rw[Bool.and_eq_true]at hk;have:=((dO _ _).1 hk.2).1 y (by rw[hy];simp);have f:y≠0:=fun e=>h0 (by rw[hy,e];simp)
  refine⟨by rw[hy];simp,by simp;omega⟩
 have hd:h.cells.headD 0=y:=by rw[hy];rfl
 rw[hd];have hp:List.Perm (cJ h.cells) (y::(cJ h.cells).filter (fun x=>x !=y)):=by have:=List.perm_cons_erase d;rwa[List.Nodup.erase_eq_filter hn]at this
 refine⟨hp,hp.nodup_iff.1 hn,.inr (fun x r e=> ?_)⟩;injection e with e _;rw[←e,hy];rfl
theorem aKe {h:aO}(a:aT h=true)(hb:h.aG+eK h≤99999):
  (∀b∈dN h (aZ (aU h) (bV h)),b=true)∧aT (gE h (aZ (aU h) (bV h)))=true∧cJ (gE h (aZ (aU h) (bV h))).cells= []∧(gE h (aZ (aU h) (bV h))).vs= []∧(gE h (aZ (aU h) (bV h))).aG=h.aG+eK h∧(gE h (aZ (aU h) (bV h))).aC=h.aC:=by
 obtain⟨p1,p2,p3⟩:=aCp a;obtain⟨cv,_⟩:=lE a;have hs:oU (aU h) (bV h)=eK h:=by rw[←aEw _ p1,←cv,←aHz a];unfold pL oU;rw[aGf,List.map_map];simp[Function.comp_def]
 have c:=aKg (aU h) (bV h) h a p2 p1 (fun _ _=>rfl) (by rw[hs];exact hb) (fun j hj=>by
  have hc:=p1.mem_iff.2 hj;rw[←cv]at hc;obtain⟨v,hv,rfl⟩:=List.mem_map.1 hc;rw[sS a hv]
  exact(qN a hv).1) p3
 rw[hs]at c;exact c
end Go.Proofs.YtpelpnfhbepokaaGreatDoor
