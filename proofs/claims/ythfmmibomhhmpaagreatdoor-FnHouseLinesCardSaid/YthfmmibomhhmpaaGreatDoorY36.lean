/-
  Texts of this proof, packed (@packed).
-/
import Derived.Test.YthfmmibomhhmpaaGreatDoorY35
namespace Go.Proofs.YthfmmibomhhmpaaGreatDoor
open Go.RowKit
set_option linter.unusedSimpArgs false
set_option linter.unusedVariables false
set_option maxHeartbeats 8000000
set_option maxRecDepth 100000
theorem aSh (x:Int):dec x≠ [110,111]:=by intro h;have:=aMk x.toNat 110 (by rw[show Lib.decDigits x.toNat=_ from h];simp);simp at this
theorem aOg {h:aL}(c:aP h=true)(l:List UInt8){r:aL}{t:List UInt8}(hr:iF h l=(r,t)):
  aP r=true∧(((bQ l).isSome=true∧(t== [110,111])=false)∨((bQ l).isSome=true∧t= [110,111]∧(l== [101,110,100])=false∧r=h)∨((bQ l).isSome=false∧l= [101,110,100])∨((bQ l).isSome=false∧(l== [101,110,100])=false∧r=h)):=by
 unfold iF at hr;rw[if_pos c]at hr;have he:bQ [101,110,100]=none:=by rfl
 cases hd:bQ l with
 |some d=>
  obtain⟨k,a,b⟩:=d;have e:(l== [101,110,100])=false:=by rw[beq_eq_false_iff_ne];rintro rfl;rw[he]at hd;cases hd
  rw[hd]at hr;dsimp only at hr;simp only[aTu]at hr;obtain⟨rfl,rfl⟩:=hr;unfold doR;rw[if_pos c];cases hx:bY h k a b with
  |none=>exact⟨c,.inr (.inl ⟨rfl,rfl,e,rfl⟩)⟩
  |some x=>obtain⟨g,n⟩:=x;obtain⟨l1,_⟩:=aSg c hx;exact⟨l1,.inl ⟨rfl,by rw[beq_eq_false_iff_ne];exact aSh n⟩⟩
 |none=>
  rw[hd]at hr;dsimp only at hr;by_cases h0:l= [101,110,100]
  ·rw[if_pos h0]at hr;simp only[aTu]at hr;obtain⟨rfl,rfl⟩:=hr;refine⟨?_,.inr (.inr (.inl ⟨rfl,h0⟩))⟩;unfold uH yM;rw[if_pos c];exact aCt _ c
  rw[if_neg h0]at hr;simp only[aTu]at hr;obtain⟨rfl,rfl⟩:=hr;exact⟨c,.inr (.inr (.inr ⟨rfl,by rw[beq_eq_false_iff_ne];exact h0,rfl⟩))⟩
theorem aQc {D E:aR→Int}: ∀(vs:List aR) (a:Int),(∀v∈vs,D v=E v)→vs.foldl (fun a v=>a+D v) a=vs.foldl (fun a v=>a+E v) a:=by
 intro vs;induction vs with
 |nil=>intro a _;rfl
 |cons v vs ih=>intro a h;simp only[List.foldl_cons];rw[h v (by simp)];exact ih _ (fun x hx=>h x (by simp[hx]))
theorem aO9 {h:aL}(a:aP h=true):mY (fun v=>aQ h v.1) h.vs=dW h:=by unfold dW tQ mY;rw[if_pos a];exact aQc _ _ (fun v hv=>qU a hv)
theorem aAs (id:Int)(s:Int×Int×Int): ∀vs:List aR,vs.any (fun v=>v.1==id)=true→bT id (vs.set (vs.findIdx (fun v=>v.1==id)) (id,s))=some (id,s):=by
 intro vs;induction vs with
 |nil=>intro h;simp at h
 |cons x xs ih=>
  intro h;unfold bT at ih⊢;by_cases hx:(x.1==id)=true
  ·rw[List.findIdx_cons,hx];simp
  have a:(x.1==id)=false:=by simpa using hx
  rw[List.findIdx_cons,a];simp only[cond_false,aTj,List.find?_cons,a];exact ih (by simpa[a]using h)
theorem zP (id a:Int)(s:Int×Int×Int)(b:a≠id): ∀vs:List aR,bT a (vs.set (vs.findIdx (fun v=>v.1==id)) (id,s))=bT a vs:=by
 intro vs;induction vs with
 |nil=>rfl
 |cons x xs ih=>
  unfold bT at ih⊢;by_cases hx:(x.1==id)=true
  ·have d:x.1=id:=by simpa using hx
   rw[List.findIdx_cons,hx];have e1:(id==a)=false:=by simpa using fun e=>b e.symm
   have e2:(x.1==a)=false:=by rw[d];exact e1
   simp[List.find?_cons,e1,e2]
  have c:(x.1==id)=false:=by simpa using hx
  rw[List.findIdx_cons,c];simp only[cond_false,aTj,List.find?_cons];rw[ih]
theorem vS (id a:Int)(b:a≠id): ∀vs:List aR,bT a (vs.eraseIdx (vs.findIdx (fun v=>v.1==id)))=bT a vs:=by
 intro vs;induction vs with
 |nil=>rfl
 |cons x xs ih=>
  unfold bT at ih⊢;by_cases hx:(x.1==id)=true
  ·have d:x.1=id:=by simpa using hx
   rw[List.findIdx_cons,hx];have e1:(id==a)=false:=by simpa using fun e=>b e.symm
   have e2:(x.1==a)=false:=by rw[d];exact e1
   simp[List.find?_cons,e2]
  have c:(x.1==id)=false:=by simpa using hx
  rw[List.findIdx_cons,c];simp only[cond_false,List.eraseIdx_cons_succ,List.find?_cons];rw[ih]
theorem aEz (h:aL)(a b:List Dd3):iM h (a++b)=iM (iM h a) b:=by unfold iM;rw[List.foldl_append]
theorem aBw: ∀(a:List Dd3) (h:aL) (b:List Dd3),eH h (a++b)=eH h a++eH (iM h a) b:=by
 intro a;induction a with
 |nil=>intro h b;rfl
 |cons x a ih=>intro h b;show _::eH (wK h x) (a++b)=_;rw[ih];rfl
theorem aGf {h:aL}(c:aP h=true){k a b:Int}{g:aL}{n:Int}(hd:bY h k a b=some (g,n)):doR h k a b=(g,n,true):=by unfold doR;rw[if_pos c,hd]
structure PdTo (g:aL) (id D x:Int) (g':aL):Prop where
 ok:aP g'=true
 aG:g'.aG=g.aG+x
 aA:g'.aA=g.aA
 aB:g'.aB=g.aB
 cells:g'.cells=g.cells
 aC:g'.aC=g.aC
 free:g'.free=g.free
 step:g'.step=g.step
 aD:g'.aD=g.aD
 aF:g'.aF=g.aF
 due:aQ g' id=D-x
 here: ∃v,bT id g'.vs=some v
 rest: ∀j,j≠id→bT j g'.vs=bT j g.vs
theorem aDv {g:aL}(a:aP g=true){id:Int}{v:aR}(hv:bT id g.vs=some v):
  aQ g id=max (nK g.free g.step g.aD g.aF (g.aC-v.2.1)-v.2.2.1) 0∧0≤v.2.1∧v.2.1≤v.2.2.2∧v.2.2.2≤g.aC∧0≤v.2.2.1∧g.aC≤9999:=by
 obtain⟨q1,q2,q3,q4,q5⟩:=(dF g).1 a;have hm:v∈g.vs:=aUa hv;obtain⟨s1,s2⟩:=(iT _ _).1 (q5 v hm);obtain⟨t1,t2,t3,t4,t5,t6⟩:=fJ s1;refine⟨?_,t1,t5,s2,t3,q3.2.1⟩;rw[aDw a hv];unfold cF;rw[if_pos (by simp[q2,s1,s2,q3.2.1])]
theorem aQo {g:aL}(a:aP g=true){id amt:Int}(h1:1≤amt)(h3:amt≤300)(hD:amt≤aQ g id)(hb:g.aG+amt≤99999)(hv: ∃v,bT id g.vs=some v):
  ∃g' n,doR g 1 id amt=(g',n,true)∧PdTo g id (aQ g id) amt g':=by
 obtain⟨v,hv⟩:=hv;obtain⟨v1,v2,v3,v4,v5,v6⟩:=gI hv;obtain⟨d1,d2,d3,d4,d5,d6⟩:=aDv a hv;have hp:bY g 1 id amt=some ({g with aG:=g.aG+amt,vs:=g.vs.set (vix id g.vs).toNat (id,v.2.1,v.2.2.1+amt,g.aC)},0):=by
  unfold bY;rw[if_neg (by omega),if_pos rfl];unfold oY;rw[hv];dsimp only;have e:gC g.free g.step g.aD g.aF v.2.1 v.2.2.1 v.2.2.2 g.aC amt=((v.2.1,v.2.2.1+amt,g.aC),0,true):=by unfold gC;rw[if_pos ⟨h1,h3⟩,←aDw a hv,if_neg (by omega),show min (aQ g id) amt=amt by omega,show amt-amt=0 by omega]
  rw[e];dsimp only;rw[if_pos ⟨rfl,by omega⟩,show g.aG+amt-0=g.aG+amt by omega]
 have c:=(kZ a hp).1;refine⟨_,0,aGf a hp,?_⟩;have b:bT id (g.vs.set (vix id g.vs).toNat (id,v.2.1,v.2.2.1+amt,g.aC))=some (id,v.2.1,v.2.2.1+amt,g.aC):=by rw[v6];exact aAs _ _ _ v1
 refine⟨c,rfl,rfl,rfl,rfl,rfl,rfl,rfl,rfl,rfl,?_,⟨_,b⟩,fun j hj=> ?_⟩
 ·have:=(aDv c b).1;rw[this];dsimp only;omega
 dsimp only;rw[v6];exact zP _ _ _ hj _
theorem PdTo.trans {g g1 g2:aL}{id D x y:Int}(a:PdTo g id D x g1)(b:PdTo g1 id (D-x) y g2):PdTo g id D (x+y) g2 where
 ok:=b.ok
 aG:=by rw[b.aG,a.aG];omega
 aA:=b.aA.trans a.aA
 aB:=b.aB.trans a.aB
 cells:=b.cells.trans a.cells
 aC:=b.aC.trans a.aC
 free:=b.free.trans a.free
 step:=b.step.trans a.step
 aD:=b.aD.trans a.aD
 aF:=b.aF.trans a.aF
 due:=by rw[b.due];omega
 here:=b.here
 rest:=fun j hj=>(b.rest j hj).trans (a.rest j hj)
theorem aQp {g:aL}(d:aP g=true){id:Int}(hb:g.aG+aQ g id≤99999)(hv: ∃v,bT id g.vs=some v):
  ∀k,k≤dP (aQ g id)→PdTo g id (aQ g id) (min (aQ g id) (300*(k:Int))) (iM g (iD id (aQ g id) k))∧ ∀b∈eH g (iD id (aQ g id) k),b=true:=by
 have h0:0≤aQ g id:=by obtain⟨v,hv⟩:=hv;have:=(aDv d hv).1;omega
 intro k;induction k with
 |zero=>intro _;refine⟨?_,by intro b hb;simp[iD,eH]at hb⟩;rw[show min (aQ g id) (300*((0:Nat):Int))=0 by simp;omega];exact⟨d,by show g.aG=g.aG+0;omega,rfl,rfl,rfl,rfl,rfl,rfl,rfl,rfl,by show aQ g id=_;omega,hv,fun j hj=>rfl⟩
 |succ k ih=>
  intro hk;obtain⟨i1,i2⟩:=ih (by omega);have e:=(kU (aQ g id) k).1 (by omega);have c:min (aQ g id) (300*(k:Int))=300*(k:Int):=by omega
  rw[c]at i1;rw[sN,vC,sY];have a:=i1.due;obtain⟨g',n,p1,p2⟩:=aQo i1.ok (id:=id) (amt:=min (aQ g id-300*(k:Int)) 300) (by omega) (by omega) (by rw[a];omega) (by rw[i1.aG];omega) i1.here;have ep:doR (iM g (iD id (aQ g id) k)) (mB id (aQ g id) k).1 (mB id (aQ g id) k).2.1 (mB id (aQ g id) k).2.2=(g',n,true):=p1;rw[ep];rw[a]at p2;refine⟨?_,fun b hb=> ?_⟩
  ·have:=i1.trans p2;rw[show 300*(k:Int)+min (aQ g id-300*(k:Int)) 300=min (aQ g id) (300*((k+1:Nat):Int)) by omega]at this;exact this
  rcases aTn.1 hb with hb|hb
  ·exact i2 b hb
  simpa using hb
theorem aPj {xs:List Int}(h:(0:Int)∈xs):bP xs≠ []:=by intro e;have:=(vQ xs).1 (by rw[uG,e];rfl);exact this h
theorem aMi {aA aB:Int}{xs:List Int}{id:Int}(b:aN aA aB xs=true)(hm:id∈xs)(h1:1≤id)(hc:(0:Int)∈xs∨xs[0]? =some id):0≤(bW aA aB xs id).2:=by
 have hn:=(((eI _ _).1 (by unfold aN at b;rw[aTf]at b;exact b.2)).2.2)
 obtain⟨c,hx,hi⟩:=uA hm;unfold bW mE;rw[if_neg (by rintro(h|h);omega;exact h hm),hi,aUz];cases hb:dX aA xs c with
 |some l=>simp
 |none=>
  exfalso;obtain⟨f1,f2⟩:=(nN b hx (by omega)).1.1 hb;rcases hc with hc|hc
  ·exact aPj hc f1
  refine f2 ?_;have h0:pV xs id=0:=by
   cases xs with
   |nil=>simp at hc
   |cons a xs=>simp at hc;subst hc;simp[pV,zH]
  rw[hi]at h0;omega
theorem aQs {g:aL}(c:aP g=true){id:Int}(hD:aQ g id=0)(hv: ∃v,bT id g.vs=some v)(hc:(0:Int)∈g.cells∨g.cells[0]? =some id):
  ∃g' n,doR g 2 id 0=(g',n,true)∧aP g'=true∧g'.aG=g.aG∧g'.aC=g.aC∧g'.free=g.free∧g'.step=g.step∧g'.aD=g.aD∧g'.aF=g.aF∧(0:Int)∈g'.cells∧cS g'.cells=(cS g.cells).erase id∧ ∀j,j≠id→bT j g'.vs=bT j g.vs:=by
 obtain⟨v,hv⟩:=hv;obtain⟨v1,v2,v3,v4,v5,v6⟩:=gI hv;obtain⟨q1,q2,q3,q4,q5⟩:=(dF g).1 c;have b:id∈cS g.cells:=by rw[←q4,←v2];exact List.mem_map_of_mem (aUa hv)
 have e:id∈g.cells∧0<id:=by unfold cS at b;rw[(fW _).mem_iff]at b;unfold dL at b;rw[aTs]at b;simpa using b
 have hf:=aMi q1 e.1 (by omega) hc;have d:cZ g id=true:=by have:=aDw c hv;rw[hD]at this;unfold cZ cT;rw[if_pos c,hv];dsimp only[Option.map_some];unfold lN;simp[←this]
 obtain⟨ys,s1,s2,s3,s4,s5⟩:=lD q1 hf;have hd:bY g 2 id 0=some ({g with cells:=(bW g.aA g.aB g.cells id).1,vs:=g.vs.eraseIdx (vix id g.vs).toNat},(bW g.aA g.aB g.cells id).2):=by unfold bY;rw[if_neg (by omega),if_neg (by omega),if_pos rfl,if_pos ⟨d,hf⟩]
 refine⟨_,_,aGf c hd,(kZ c hd).1,rfl,rfl,rfl,rfl,rfl,rfl,?_,?_,fun j hj=> ?_⟩
 ·dsimp only;rw[s4];refine aT7 (i:=0) ?_;rw[aTh];cases ys with
  |nil=>simp at s2
  |cons a ys=>simp
 ·dsimp only;rw[s4,aC2 s2 s3,nM s1]
 dsimp only;rw[v6];exact vS _ _ hj _
def sK (due:Int→Int)(ids:List Int):Int:=(ids.map due).sum
theorem aGe {g g':aL}(b:aP g=true)(a:aP g'=true)(hc:g'.aC=g.aC)(h1:g'.free=g.free)(h2:g'.step=g.step)(h3:g'.aD=g.aD)(h4:g'.aF=g.aF){j:Int}(hv:bT j g'.vs=bT j g.vs):aQ g' j=aQ g j:=by unfold aQ cT;rw[if_pos b,if_pos a,hv,hc,h1,h2,h3,h4]
theorem aRe (due:Int→Int): ∀(ids:List Int) (g:aL),aP g=true→ids.Nodup→List.Perm (cS g.cells) ids→(∀j∈ids,aQ g j=due j)→g.aG+sK due ids≤99999→(∀j∈ids,0≤due j)→
  ((0:Int)∈g.cells∨ ∀x r,ids=x::r→g.cells[0]? =some x)→
  (∀b∈eH g (bE due ids),b=true)∧aP (iM g (bE due ids))=true∧cS (iM g (bE due ids)).cells= []∧(iM g (bE due ids)).vs= []∧(iM g (bE due ids)).aG=g.aG+sK due ids∧(iM g (bE due ids)).aC=g.aC:=by
 intro ids;induction ids with
 |nil=>intro g a _ hp _ _ _ _;have hc:=List.Perm.eq_nil hp;obtain⟨q1,q2,q3,q4,q5⟩:=(dF g).1 a;refine⟨by intro b hb;simp[bE,eH]at hb,a,hc,?_,by simp[iM,bE,sK],rfl⟩;rw[hc]at q4;exact List.map_eq_nil_iff.1 q4
 |cons id ids ih=>
  intro g a hn hp hd hb c hz;obtain⟨q1,q2,q3,q4,q5⟩:=(dF g).1 a;rw[List.nodup_cons]at hn;have h:=hd id (by simp);have d:sK due (id::ids)=due id+sK due ids:=by simp[sK]
  have m:0≤sK due ids:=by
   clear ih hp hd hb hz h d hn;induction ids with
   |nil=>simp[sK]
   |cons y ys ih2=>have h1:=c y (by simp);have h2:=ih2 (fun j hj=>c j (by simp at hj⊢;rcases hj with hj|hj;exact .inl hj;exact .inr (.inr hj)));simp only[sK,aUp,List.sum_cons]at h2⊢;omega
  have f:id∈cS g.cells:=hp.mem_iff.2 (by simp);have hv: ∃v,bT id g.vs=some v:=by rw[←q4]at f;obtain⟨v,hv,rfl⟩:=List.mem_map.1 f;exact⟨v,xZ a hv⟩
  obtain⟨p1,p2⟩:=aQp a (id:=id) (by rw[h];have:=d;omega) hv (dP (aQ g id)) (aT5 _);rw[h]at p1 p2;have s:=c id (by simp);have k:min (due id) (300*(dP (due id):Int))=due id:=by unfold dP;omega
  rw[k]at p1;have e:bE due (id::ids)=iD id (due id) (dP (due id))++([(2,id,0)]++bE due ids):=by unfold bE;simp
  rw[e,aEz,aEz,aBw,aBw];generalize q:iM g (iD id (due id) (dP (due id)))=g1 at p1 p2⊢
  obtain⟨g2,n,o1,o2,o3,o4,o5,o6,o7,o8,o9,o,p⟩:=aQs p1.ok (id:=id) (by rw[p1.due];omega) p1.here (by
   rw[p1.cells];rcases hz with hz|hz
   ·exact .inl hz
   ·exact .inr (hz id ids rfl))
  have er:iM g1 [(2,id,0)]=g2:=by show(doR g1 2 id 0).1=g2;rw[o1]
  have ed:eH g1 [(2,id,0)]= [true]:=by show [(doR g1 2 id 0).2.2]= [true];rw[o1]
  rw[er,ed];have i:List.Perm (cS g2.cells) ids:=by rw[o,p1.cells];have:=hp.erase id;rwa[List.erase_cons_head]at this
  obtain⟨r1,r2,r3,r4,r5,r6⟩:=ih g2 o2 hn.2 i (fun j hj=>by
    have l:j≠id:=fun e=>hn.1 (e▸hj)
    rw[aGe p1.ok o2 o4 o5 o6 o7 o8 (p j l),aGe a p1.ok p1.aC p1.free p1.step p1.aD p1.aF (p1.rest j l)]
    exact hd j (by simp[hj]))
   (by rw[o3,p1.aG];omega) (fun j hj=>c j (by simp[hj])) (.inl o9)
  refine⟨fun b hb=> ?_,r2,r3,r4,by rw[r5,o3,p1.aG,d];omega,by rw[r6,o4,p1.aC]⟩;rcases aTn.1 hb with hb|hb
  ·exact p2 b hb
  rcases aTn.1 hb with hb|hb
  ·simpa using hb
  exact r1 b hb
theorem aKj (c:Int→Int){a b:List Int}(h:List.Perm a b):sK c a=sK c b:=by
 induction h with
 |nil=>rfl
 |cons x _ ih=>simp only[sK,aUp,List.sum_cons]at ih⊢;rw[ih]
 |swap x y l=>simp only[sK,aUp,List.sum_cons];omega
 |trans _ _ i1 i2=>exact i1.trans i2
theorem aMh (D:aR→Int): ∀(vs:List aR) (a:Int),vs.foldl (fun a v=>a+D v) a=a+(vs.map D).sum:=by
 intro vs;induction vs with
 |nil=>intro a;simp
 |cons v vs ih=>intro a;simp only[List.foldl_cons,aUp,List.sum_cons];rw[ih];omega
theorem aI5 {h:aL}(c:aP h=true):List.Perm (cS h.cells) (cC h)∧(cC h).Nodup∧((0:Int)∈h.cells∨ ∀x r,cC h=x::r→h.cells[0]? =some x):=by
 obtain⟨cv,hn⟩:=nL c;have hh:=kX c;unfold cC;rw[if_pos c];by_cases h0:(0:Int)∈h.cells
 ·rw[if_pos h0];exact⟨List.Perm.refl _,hn,.inl h0⟩
 rw[if_neg h0];obtain⟨y,ys,hy⟩: ∃y ys,h.cells=y::ys:=by
  have:=(bN hh).2.2.2.2.1;cases hcs:h.cells with
  |nil=>rw[hcs]at this;simp at this
  |cons a b=>exact⟨a,b,rfl⟩
 have d:y∈cS h.cells:=by
  unfold cS;rw[(fW _).mem_iff];unfold dL;rw[aTs];have hk:=hh;unfold aN at hk;rw[aTf]at hk;have:=((eI _ _).1 hk.2).1 y (by rw[hy];simp);have f:y≠0:=fun e=>h0 (by rw[hy,e];simp)
  refine⟨by rw[hy];simp,by simp;omega⟩
 have hd:h.cells.headD 0=y:=by rw[hy];rfl
 rw[hd];have hp:List.Perm (cS h.cells) (y::(cS h.cells).filter (fun x=>x !=y)):=by have:=List.perm_cons_erase d;rwa[List.Nodup.erase_eq_filter hn]at this
 refine⟨hp,hp.nodup_iff.1 hn,.inr (fun x r e=> ?_)⟩;injection e with e _;rw[←e,hy];rfl
theorem aRd {h:aL}(a:aP h=true)(hb:h.aG+dW h≤99999):
  (∀b∈eH h (bE (aQ h) (cC h)),b=true)∧aP (iM h (bE (aQ h) (cC h)))=true∧cS (iM h (bE (aQ h) (cC h))).cells= []∧(iM h (bE (aQ h) (cC h))).vs= []∧(iM h (bE (aQ h) (cC h))).aG=h.aG+dW h∧(iM h (bE (aQ h) (cC h))).aC=h.aC:=by
 obtain⟨p1,p2,p3⟩:=aI5 a;obtain⟨cv,_⟩:=nL a;have hs:sK (aQ h) (cC h)=dW h:=by rw[←aKj _ p1,←cv,←aO9 a];unfold mY sK;rw[aMh,List.map_map];simp[Function.comp_def]
 have c:=aRe (aQ h) (cC h) h a p2 p1 (fun _ _=>rfl) (by rw[hs];exact hb) (fun j hj=>by
  have hc:=p1.mem_iff.2 hj;rw[←cv]at hc;obtain⟨v,hv,rfl⟩:=List.mem_map.1 hc;rw[qU a hv]
  exact(oH a hv).1) p3
 rw[hs]at c;exact c
def aT3 (ps:List (List UInt8))(k:Nat):List UInt8:=ps[k]?.getD []
theorem aFb (q:List UInt8)(hq:q.length≤maxLen)(w:World):U 87 #[str q] w fun e w'=>e= .returned (I ((dY 4 q).getD (-1)))∧w=w':=
 yY ⟨q.toArray⟩ w (by simpa[ByteArray.size]using hq)
abbrev kC:TypeId:=9
abbrev Z3:Array Value:=#[(),(),((),())]
theorem aGj (c:UInt8): ∀l:List UInt8,(gY c l).length≤l.length∧(iQ c l).length≤l.length:=by
 intro l;induction l with
 |nil=>simp[gY,iQ]
 |cons x xs ih=>simp only[gY,iQ];split<;>simp<;>omega
section
open Go.Proofs.Tryz
theorem aR2 (h:aL)(t:aP h=true)(p:OA)(n f:Nat)(q:OA)(m c2:Nat)(l:List UInt8)(w:World)(hi:IsHouse w h p n f q m c2)(hE:Env w)(hl:l.length≤1048576):
  U 34 #[bG h p n f q m c2,str l] w (O (str (aA0 h l)) w):=by
 have v:=hi.clen;have x:=hi.vlen;subst v x;obtain⟨_,_,⟨k0,k1,k2,k3⟩,_,_⟩:=(dF h).1 t;have ow:=aCx t;have HE:=xQ hE;have HI:=xQ hi;clear hE hi;obtain⟨r,hr⟩: ∃r,aA0 h l=r:=⟨_,rfl⟩
 rw[hr];unfold aA0 at hr;show U 34 #[.agg #[h.aA,h.aB,.slice p h.cells f,h.free,h.step,h.aD,h.aF,h.aC,h.aG,.slice q h.vs c2],str l] w _;by_cases e0:l= [104,97,108,108]
 ·have b0:(l== [104,97,108,108])=true:=by simp[e0]
  rw[if_pos e0]at hr;subst hr;clear e0;go_enter func34,ntmps34;go_wp2_with fail;refine Z (mC h.aA h.aB p _ f h.cells _ (HE.out.ext ((Mem.start w).c0 aK (aVs h p f q c2)).ext) (HI.out.cells.ext ((Mem.start w).c0 aK (aVs h p f q c2)).ext)) fun w1 c=>?_
  have M1:=(((Mem.start w).c0 aK (aVs h p f q c2)).adv c)
  have d:=M1.hi 0;clear c;go_wp2;go_ret;exact⟨rfl,M1.ext⟩
 rw[if_neg e0]at hr;have n0:(l== [104,97,108,108])=false:=by simp[e0]
 clear e0;by_cases e1:l= [99,108,111,99,107]
 ·have b1:(l== [99,108,111,99,107])=true:=by simp[e1]
  rw[if_pos e1]at hr;subst hr;clear e1;go_enter func34,ntmps34;go_wp2_with fail;refine Z (pQ (h.aC) _ k0 (by omega) (HE.out.ext ((Mem.start w).c0 aK (aVs h p f q c2)).ext)) fun w1 c=>?_
  have M1:=(((Mem.start w).c0 aK (aVs h p f q c2)).adv c)
  have d:=M1.hi 0;clear c;go_wp2;go_ret;exact⟨rfl,M1.ext⟩
 rw[if_neg e1]at hr;have n1:(l== [99,108,111,99,107])=false:=by simp[e1]
 clear e1;by_cases e2:l= [98,97,110,107]
 ·have b2:(l== [98,97,110,107])=true:=by simp[e2]
  rw[if_pos e2]at hr;subst hr;clear e2;go_enter func34,ntmps34;go_wp2_with fail;refine Z (pQ (h.aG) _ k2 (by omega) (HE.out.ext ((Mem.start w).c0 aK (aVs h p f q c2)).ext)) fun w1 c=>?_
  have M1:=(((Mem.start w).c0 aK (aVs h p f q c2)).adv c)
  have d:=M1.hi 0;clear c;go_wp2;go_ret;exact⟨rfl,M1.ext⟩
 rw[if_neg e2]at hr;have n2:(l== [98,97,110,107])=false:=by simp[e2]
 clear e2;by_cases e3:l= [111,119,101,100]
 ·have b3:(l== [111,119,101,100])=true:=by simp[e3]
  rw[if_pos e3]at hr;subst hr;clear e3;go_enter func34,ntmps34;go_wp2_with fail;refine Z (nR h p _ f q _ c2 _ (HI.out.ext ((Mem.start w).c0 aK (aVs h p f q c2)).ext)) fun w1 c=>?_
  have M1:=(((Mem.start w).c0 aK (aVs h p f q c2)).adv c)
  have d:=M1.hi 0;clear c;have i:=(M1.bk 0).ten;go_wp2_with fail;clear i;refine Z (pQ (dW h) _ ow.1 (by omega) (HE.out.ext M1.ext)) fun w2 g=>?_
  have M2:=(M1.adv g)
  clear M1 d g;have j:=M2.hi 0;go_wp2;go_ret;exact⟨rfl,M2.ext⟩
 rw[if_neg e3]at hr;have n3:(l== [111,119,101,100])=false:=by simp[e3]
 clear e3;by_cases e4:l= [104,111,117,115,101]
 ·have b4:(l== [104,111,117,115,101])=true:=by simp[e4]
  rw[if_pos e4]at hr;subst hr;clear e4;go_enter func34,ntmps34;go_wp2_with fail;refine Z (aAn h p _ f q _ c2 _ (HE.out.ext ((Mem.start w).c0 aK (aVs h p f q c2)).ext) (HI.out.ext ((Mem.start w).c0 aK (aVs h p f q c2)).ext)) fun w1 c=>?_
  have M1:=(((Mem.start w).c0 aK (aVs h p f q c2)).adv c)
  have d:=M1.hi 0;clear c;go_wp2;go_ret;exact⟨rfl,M1.ext⟩
 rw[if_neg e4]at hr;have n4:(l== [104,111,117,115,101])=false:=by simp[e4]
 clear e4;obtain⟨a,ha⟩: ∃a,a=gY 32 l:=⟨_,rfl⟩
 obtain⟨b,hb⟩: ∃b,b=iQ 32 l:=⟨_,rfl⟩
 have y:b.length≤1048576:=by rw[hb];exact aTg (aGj 32 l).2 hl
 have HC:=xQ fun(w':World) (hx:Ext w w')=>aPz l 32 w' (by omega) (HE.out.ext hx)
 rw[←ha,←hb]at HC;rw[←ha,←hb]at hr;have HN:=xQ fun(w':World)=>wJ b 4 (by omega) (by unfold maxLen;omega) w'
 clear ha hb;cases hq:dY 4 b with
 |none=>
  rw[hq]at hr HN;subst hr;go_enter func34,ntmps34;go_wp2_with fail;refine Z (HC _ ((Mem.start w).c0 aK (aVs h p f q c2)).ext) fun w1 c=>?_
  have M1:=(((Mem.start w).c0 aK (aVs h p f q c2)).adv c)
  have d:=M1.hi 0;clear c;go_wp2_with fail;refine(HN _).mono ?_;rintro e o ⟨rfl,rfl⟩;have u:=(M1.bk 0).ten;go_wp2;go_ret;exact⟨rfl,M1.ext⟩
 |some id=>
  rw[hq]at hr HN;dsimp only at hr;have dc:=aBu t id;obtain⟨D,hD⟩: ∃D,aQ h id=D:=⟨_,rfl⟩
  have HD:=xQ fun(w':World) (hx:Ext w w')=>tY h id p _ f q _ c2 w' (HI.out.ext hx)
  rw[hD]at HD hr dc;clear hD;by_cases a1:a= [100,117,101]
  ·have d1:(a== [100,117,101])=true:=by simp[a1]
   rw[if_pos a1]at hr;clear a1;by_cases h0:D<0
   ·have t0:decide (D<0)=true:=by simp[h0]
    rw[if_pos h0]at hr;subst hr;clear h0;go_enter func34,ntmps34;go_wp2_with fail;refine Z (HC _ ((Mem.start w).c0 aK (aVs h p f q c2)).ext) fun w1 c=>?_
    have M1:=(((Mem.start w).c0 aK (aVs h p f q c2)).adv c)
    have d:=M1.hi 0;clear c;go_wp2_with fail;refine(HN _).mono ?_;rintro e o ⟨rfl,rfl⟩;have i:=(M1.bk 0).ten;go_wp2_with fail;clear i;refine Z (HD _ M1.ext) fun w2 g=>?_
    have M2:=(M1.adv g)
    clear M1 d g;have j:=M2.hi 0;have u:=(M2.bk 0).ten;go_wp2;go_ret;exact⟨rfl,M2.ext⟩
   have t0:decide (D<0)=false:=by simp;omega
   rw[if_neg h0]at hr;subst hr;go_enter func34,ntmps34;go_wp2_with fail;refine Z (HC _ ((Mem.start w).c0 aK (aVs h p f q c2)).ext) fun w1 c=>?_
   have M1:=(((Mem.start w).c0 aK (aVs h p f q c2)).adv c)
   have d:=M1.hi 0;clear c;go_wp2_with fail;refine(HN _).mono ?_;rintro e o ⟨rfl,rfl⟩;have i:=(M1.bk 0).ten;go_wp2_with fail;clear i;refine Z (HD _ M1.ext) fun w2 g=>?_
   have M2:=(M1.adv g)
   clear M1 d g;have j:=M2.hi 0;have i:=(M2.bk 0).ten;go_wp2_with fail;clear i;refine Z (pQ (D) _ (by omega) (by omega) (HE.out.ext M2.ext)) fun w3 k=>?_
   have M3:=(M2.adv k)
   clear M2 j k;have s:=M3.hi 0;go_wp2;go_ret;exact⟨rfl,M3.ext⟩
  rw[if_neg a1]at hr;have d1:(a== [100,117,101])=false:=by simp[a1]
  clear a1;by_cases a2:a= [109,97,121]
  ·have d2:(a== [109,97,121])=true:=by simp[a2]
   rw[if_pos a2]at hr;clear a2;by_cases h0:D<0
   ·have t0:decide (D<0)=true:=by simp[h0]
    rw[if_pos h0]at hr;subst hr;clear h0;go_enter func34,ntmps34;go_wp2_with fail;refine Z (HC _ ((Mem.start w).c0 aK (aVs h p f q c2)).ext) fun w1 c=>?_
    have M1:=(((Mem.start w).c0 aK (aVs h p f q c2)).adv c)
    have d:=M1.hi 0;clear c;go_wp2_with fail;refine(HN _).mono ?_;rintro e o ⟨rfl,rfl⟩;have i:=(M1.bk 0).ten;go_wp2_with fail;clear i;refine Z (HD _ M1.ext) fun w2 g=>?_
    have M2:=(M1.adv g)
    clear M1 d g;have j:=M2.hi 0;have u:=(M2.bk 0).ten;go_wp2;go_ret;exact⟨rfl,M2.ext⟩
   have t0:decide (D<0)=false:=by simp;omega
   rw[if_neg h0]at hr;have HM:=fun(w':World) (hx:Ext w w')=>tX h id p _ f q _ c2 w' (HI.out.ext hx)
   cases hb:cZ h id<;>rw[hb]at hr HM<;>subst hr
   ·skip;go_enter func34,ntmps34;go_wp2_with fail;refine Z (HC _ ((Mem.start w).c0 aK (aVs h p f q c2)).ext) fun w1 c=>?_
    have M1:=(((Mem.start w).c0 aK (aVs h p f q c2)).adv c)
    have d:=M1.hi 0;clear c;go_wp2_with fail;refine(HN _).mono ?_;rintro e o ⟨rfl,rfl⟩;have i:=(M1.bk 0).ten;go_wp2_with fail;clear i;refine Z (HD _ M1.ext) fun w2 g=>?_
    have M2:=(M1.adv g)
    clear M1 d g;have j:=M2.hi 0;have i:=(M2.bk 0).ten;go_wp2_with fail;clear i;refine Z (HM _ M2.ext) fun w3 k=>?_
    have M3:=(M2.adv k)
    clear M2 j k;have s:=M3.hi 0;go_wp2;go_ret;exact⟨rfl,M3.ext⟩
   skip;go_enter func34,ntmps34;go_wp2_with fail;refine Z (HC _ ((Mem.start w).c0 aK (aVs h p f q c2)).ext) fun w1 c=>?_
   have M1:=(((Mem.start w).c0 aK (aVs h p f q c2)).adv c)
   have d:=M1.hi 0;clear c;go_wp2_with fail;refine(HN _).mono ?_;rintro e o ⟨rfl,rfl⟩;have i:=(M1.bk 0).ten;go_wp2_with fail;clear i;refine Z (HD _ M1.ext) fun w2 g=>?_
   have M2:=(M1.adv g)
   clear M1 d g;have j:=M2.hi 0;have i:=(M2.bk 0).ten;go_wp2_with fail;clear i;refine Z (HM _ M2.ext) fun w3 k=>?_
   have M3:=(M2.adv k)
   clear M2 j k;have s:=M3.hi 0;go_wp2;go_ret;exact⟨rfl,M3.ext⟩
  rw[if_neg a2]at hr;have d2:(a== [109,97,121])=false:=by simp[a2]
  subst hr;go_enter func34,ntmps34;go_wp2_with fail;refine Z (HC _ ((Mem.start w).c0 aK (aVs h p f q c2)).ext) fun w1 c=>?_
  have M1:=(((Mem.start w).c0 aK (aVs h p f q c2)).adv c)
  have d:=M1.hi 0;clear c;go_wp2_with fail;refine(HN _).mono ?_;rintro e o ⟨rfl,rfl⟩;have u:=(M1.bk 0).ten;go_wp2;go_ret;exact⟨rfl,M1.ext⟩
end
end Go.Proofs.YthfmmibomhhmpaaGreatDoor
