/-
  Texts of this proof, packed (@packed).
-/
import Derived.Test.YtbgkcehffiogcabGreatDoorX19
namespace Go.Proofs.YtbgkcehffiogcabGreatDoor
open Go.RowKit
set_option linter.unusedSimpArgs false
set_option linter.unusedVariables false
set_option maxHeartbeats 8000000
set_option maxRecDepth 100000
def aKz (h:aS)(r:Option (aS×Int))(w:World)(e:Ending)(w':World):Prop:=
 match r with
 |none=> ∃p cap q c2,e= .returned (.tuple #[cY h p h.cells.length cap q h.vs.length c2,(-1:Int),.bool false])∧w'.ownsRow w.heap.size TI 1 (.slice p h.cells.length cap) h.cells.length (ivs h.cells)∧w'.ownsRow w.heap.size TV 4 (.slice q h.vs.length c2) h.vs.length (h.vs.flatMap aD)∧Ext w w'
 |some (h',n)=> ∃p cap q c2,e= .returned (.tuple #[cY h' p h'.cells.length cap q h'.vs.length c2,n,.bool true])∧w'.ownsRow w.heap.size TI 1 (.slice p h'.cells.length cap) h'.cells.length (ivs h'.cells)∧w'.ownsRow w.heap.size TV 4 (.slice q h'.vs.length c2) h'.vs.length (h'.vs.flatMap aD)∧Ext w w'
theorem kL {h:aS}(a:bJ h=true):h.cells.length≤12∧h.vs.length≤12∧4≤h.cells.length:=by obtain⟨q1,q2,q3,q4,q5⟩:=(jI h).1 a;have hb:=cO (dC q1);have:=congrArg List.length q4;rw[pZ,aTk]at this;have:=sG h.cells;omega
theorem aG0 (h:aS)(k a b:Int)(p:OA)(n c:Nat)(q:OA)(m c2:Nat)(w:World)(hi:IsHouse w h p n c q m c2)(j:bJ h=true):
  U 60 #[cY h p n c q m c2,dL k a b] w (aKz h (dD h k a b) w):=by
 obtain⟨q1,q2,q3,q4,q5⟩:=(jI h).1 j;have ad:=kL j;have hl:=hi.clen;have s:=hi.vlen;have hS:=hi.cells;have hV:=hi.vs;subst hl s;have f:=xQ fun(w':World) (hx:Ext w w')=>(by have:=oO h p _ c q _ c2 w' (hi.ext hx);rwa[j]at this:U 15 #[cY h p h.cells.length c q h.vs.length c2] w' (Z (.bool true) w'))
 have HL:=xQ fun(w':World) (hx:Ext w w')=>uA h p _ c q _ c2 w' (by omega) (by omega) (hi.ext hx)
 unfold RetHouse at HL;by_cases k0:k=0
 ·subst k0;have HP:=xQ fun(w':World) (hx:Ext w w')=>aFo h.aA h.aB a p _ c h.cells w' (hS.ext hx) q1
  have e0:dD h 0 a b=(if 0≤(cV h.aA h.aB h.cells a).2 then some ({h with cells:=(cV h.aA h.aB h.cells a).1,vs:=mR (a,h.aC,0,h.aC) h.vs},(cV h.aA h.aB h.cells a).2)else none):=by unfold dD;rw[if_pos rfl]
  have el:(cV h.aA h.aB h.cells a).1.length=h.cells.length:=by
   by_cases h0:0≤(cV h.aA h.aB h.cells a).2
   ·obtain⟨zs,s1,_,_,s4,_⟩:=tS q1 h0;rw[s4,aUm,s1.length_eq]
   unfold cV at h0⊢;split at h0
   ·rfl
   dsimp only at h0;omega
  unfold dE at HP;rw[el]at HP;rw[e0];by_cases h0:0≤(cV h.aA h.aB h.cells a).2
  ·rw[if_pos h0];have HQ:=xQ fun(w':World) (hx:Ext w w')=>aM6 a h.aC 0 h.aC q _ c2 h.vs w' (by omega) (hV.ext hx)
   refine(wG h.aA h.aB h.free h.step h.aE h.aF h.aC h.aG (cV h.aA h.aB h.cells a).2 a b p _ c q _ c2 h.cells (cV h.aA h.aB h.cells a).1 h.vs (mR (a,h.aC,0,h.aC) h.vs) w h0 f HL HP HQ).mono ?_;rintro e w' ⟨p',d,q',g,rfl,o1,o2,hx⟩;refine⟨p',d,q',g,?_,?_,?_,hx⟩
   ·simp[cY,el,uU]
   ·dsimp only;rw[el];exact o1
   dsimp only;rw[uU];exact o2
  rw[if_neg h0];exact yI h.aA h.aB h.free h.step h.aE h.aF h.aC h.aG (cV h.aA h.aB h.cells a).2 a b p _ c q _ c2 h.cells (cV h.aA h.aB h.cells a).1 h.vs w (by omega) f HL HP
 by_cases k1:k=1
 ·subst k1;have HP:=xQ fun(w':World) (hx:Ext w w')=>aM7 h a b p _ c q _ c2 w' (by omega) (by omega) (hi.ext hx) q2 (fun v hv=>(lM _ _).1 (q5 v hv)) q3.2.1 q3.2.2.1 q3.2.2.2
  have e0:dD h 1 a b=tX h a b:=by unfold dD;rw[if_neg (by omega),if_pos rfl]
  rw[e0];cases hp:tX h a b with
  |none=>rw[hp]at HP;exact aBe h.aA h.aB h.free h.step h.aE h.aF h.aC h.aG a b p _ c q _ c2 h.cells h.vs w f HL HP
  |some r=>
   obtain⟨h',bk⟩:=r;rw[hp]at HP;have hd:=aAn j (e0.trans hp);have hv:h'.vs.length=h.vs.length∧h'.cells=h.cells∧h'.aC=h.aC:=by
    unfold tX at hp;split at hp
    ·cases hp
    split at hp
    ·injection hp with hp;simp only[aUk]at hp;obtain⟨rfl,_⟩:=hp;exact⟨by simp,rfl,rfl⟩
    cases hp
   obtain⟨t1,t2,t3,t4,t5,t6,t7,t8,t9⟩:=hd;obtain⟨v1,v2,v3⟩:=hv;obtain⟨hw,z,hc,hf,hs,ab,x,y,o,t⟩:=h';dsimp only at t4 t5 t6 t7 t8 t9 v1 v2 v3;subst t4 t5 t6 t7 t8 t9 v2 v3;unfold aQi at HP;dsimp only at HP;rw[v1]at HP;refine(zK h.aA h.aB h.free h.step h.aE h.aF h.aC h.aG o bk a b p _ c q _ c2 h.cells h.vs t w t2.1 f HL HP).mono ?_;rintro e w' ⟨p',d,q',g,rfl,o1,o2,hx⟩;refine⟨p',d,q',g,?_,o1,?_,hx⟩
   ·simp[cY,v1]
   dsimp only;rw[v1];exact o2
 by_cases k2:k=2
 ·subst k2;have HP:=xQ fun(w':World) (hx:Ext w w')=>aHj h.aA h.aB a p _ c h.cells w' (hS.ext hx) q1
  have HF:=xQ fun(w':World) (hx:Ext w w')=>tZ h.aA h.aB h.free h.step h.aE h.aF h.aC h.aG a p h.cells.length c q _ c2 h.vs w' (hV.ext hx)
  have HM:=fun(w':World) (hx:Ext w w')=>aDs h a p _ c q _ c2 w' (hi.ext hx)
  have e0:dD h 2 a b=(if fQ h a=true∧0≤(cM h.aA h.aB h.cells a).2 then some ({h with cells:=(cM h.aA h.aB h.cells a).1,vs:=h.vs.eraseIdx (vix a h.vs).toNat},(cM h.aA h.aB h.cells a).2)else none):=by unfold dD;rw[if_neg (by omega),if_neg (by omega),if_pos rfl]
  have el:(cM h.aA h.aB h.cells a).1.length=h.cells.length:=by
   by_cases h0:0≤(cM h.aA h.aB h.cells a).2
   ·obtain⟨zs,s1,_,_,s4,_⟩:=pV q1 h0;rw[s4,aUm,s1.length_eq]
   unfold cM at h0⊢;split at h0
   ·rfl
   dsimp only at h0;omega
  unfold dE at HP;rw[el]at HP;rw[e0];by_cases h0:fQ h a=true∧0≤(cM h.aA h.aB h.cells a).2
  ·rw[if_pos h0];have hv: ∃v,iA a h.vs=some v:=by
    have:=h0.1;unfold fQ gU at this;rw[if_pos j]at this;cases hv:iA a h.vs with
    |none=>rw[hv]at this;simp at this
    |some v=>exact⟨v,rfl⟩
   obtain⟨v,hv⟩:=hv;obtain⟨v1,v2,v3,v4,v5,v6⟩:=nQ hv;generalize hk:(vix a h.vs).toNat=kk at*;rw[v5]at HF;rw[h0.1]at HM;obtain⟨bb,l,rfl,u,_⟩:=hV.rd (by omega);have ee:h.vs.eraseIdx kk=h.vs.take kk++h.vs.drop (kk+1):=List.eraseIdx_eq_take_drop_succ _ _;have i:(h.vs.eraseIdx kk).length=h.vs.length-1:=by rw[List.length_eraseIdx,if_pos v4]
   by_cases hcc:kk+1<c2
   ·refine(wI h.aA h.aB h.free h.step h.aE h.aF h.aC h.aG (cM h.aA h.aB h.cells a).2 a b p _ c bb l _ c2 kk h.cells (cM h.aA h.aB h.cells a).1 h.vs w h0.2 v4 (by omega) hcc (xQ hV) f HL HP HF HM).mono ?_;rintro e w' ⟨p',d,q',g,rfl,o1,o2,hx⟩;refine⟨p',d,q',g,?_,?_,?_,hx⟩
    ·simp only[cY,el,i]
    ·dsimp only;rw[el];exact o1
    dsimp only;rw[i,ee];exact o2
   have aa:=hV.le;have e1:c2=kk+1:=by omega
   have e2:h.vs.length=kk+1:=by omega
   subst e1;rw[e2]at hV f HL HF HM i⊢;refine(uO h.aA h.aB h.free h.step h.aE h.aF h.aC h.aG (cM h.aA h.aB h.cells a).2 a b p _ c bb l kk h.cells (cM h.aA h.aB h.cells a).1 h.vs w h0.2 (by omega) (xQ (aUf (by omega))) (xQ hV) f HL HP HF HM).mono ?_;rintro e w' ⟨p',d,q',g,rfl,o1,o2,hx⟩;refine⟨p',d,q',g,?_,?_,?_,hx⟩
   ·simp[cY,el,i]
   ·dsimp only;rw[el];exact o1
   dsimp only;rw[i,ee,Nat.add_sub_cancel];exact o2
  rw[if_neg h0]
  exact yK h.aA h.aB h.free h.step h.aE h.aF h.aC h.aG (cM h.aA h.aB h.cells a).2 (vix a h.vs) a b p _ c q _ c2 h.cells (cM h.aA h.aB h.cells a).1 h.vs w (fQ h a) (fun e=>by
   by_cases hx:0≤(cM h.aA h.aB h.cells a).2
   ·exact absurd ⟨e,hx⟩ h0
   ·omega) f HL HP HF HM
 by_cases k3:k=3
 ·subst k3;have e0:dD h 3 a b=(if 1≤a∧a≤9999-h.aC then some ({h with aC:=h.aC+a},h.aC+a)else none):=by unfold dD;rw[if_neg (by omega),if_neg (by omega),if_neg (by omega),if_pos rfl]
  rw[e0];by_cases h0:1≤a∧a≤9999-h.aC
  ·rw[if_pos h0];exact yH h.aA h.aB h.free h.step h.aE h.aF h.aC h.aG a b p _ c q _ c2 h.cells h.vs w q3.1 q3.2.1 h0.1 h0.2 f HL (xQ fun w'=>oT a 1 (9999-h.aC) w' h0.1 h0.2)
  rw[if_neg h0];exact zJ h.aA h.aB h.free h.step h.aE h.aF h.aC h.aG a b p _ c q _ c2 h.cells h.vs w q3.1 q3.2.1 f HL (xQ fun w'=>yT a 1 (9999-h.aC) w' (by omega))
 by_cases k4:k=4
 ·subst k4;have HP:=xQ fun(w':World) (hx:Ext w w')=>nS h.aA h.aB a b p _ c h.cells w' (hS.ext hx) q1
  have e0:dD h 4 a b=(if bL h.aA h.aB h.cells a b=true then some ({h with cells:=bO h.aA h.aB h.cells a b},0)else none):=by unfold dD;rw[if_neg (by omega),if_neg (by omega),if_neg (by omega),if_neg (by omega),if_pos rfl]
  unfold dF at HP;rw[dJ]at HP;rw[e0];cases hm:bL h.aA h.aB h.cells a b with
  |true=>
   rw[hm]at HP;rw[if_pos rfl];refine(wH h.aA h.aB h.free h.step h.aE h.aF h.aC h.aG a b p _ c q _ c2 h.cells (bO h.aA h.aB h.cells a b) h.vs w f HL HP).mono ?_;rintro e w' ⟨p',d,q',g,rfl,o1,o2,hx⟩;refine⟨p',d,q',g,?_,?_,o2,hx⟩
   ·simp only[cY,dJ]
   dsimp only;rw[dJ];exact o1
  |false=>rw[hm]at HP;rw[if_neg (by simp)];exact yJ h.aA h.aB h.free h.step h.aE h.aF h.aC h.aG a b p _ c q _ c2 h.cells (bO h.aA h.aB h.cells a b) h.vs w f HL HP
 have e0:dD h k a b=none:=by unfold dD;rw[if_neg k0,if_neg k1,if_neg k2,if_neg k3,if_neg k4]
 rw[e0];exact aDw h.aA h.aB h.free h.step h.aE h.aF h.aC h.aG k a b p _ c q _ c2 h.cells h.vs w k0 k1 k2 k3 k4 f HL
def bM (K:Int):Nat→List Value
 |0=> []
 |m+1=>bM K m++ [.int .i64 (K+m)]
theorem jW (K:Int)(m:Nat):(bM K m).length=m:=by induction m with|zero=>rfl|succ m ih=>simp[bM,ih]
theorem aBm (K:Int): ∀(m j:Nat),j<m→(bM K m)[j]? =some (I (K+j)):=by
 intro m;induction m with
 |zero=>intro j h;omega
 |succ m ih=>
  intro j h;by_cases hj:j<m
  ·rw[bM,aTm (by rw[jW];exact hj)];exact ih j hj
  obtain rfl:j=m:=by omega
  rw[bM,aTn (by rw[jW];omega),jW];simp
theorem aGl (K:Int)(k:Nat):bM K ((k+1)*1)=bM K (k*1)++ [I (K+(k*1:Nat))]:=by rw[aUe];rfl
theorem aGk (K:Int)(k:Nat):bM K ((k+1)*4)=bM K (k*4)++ [I (K+(k*4:Nat)),I (K+(k*4:Nat)+1),I (K+(k*4:Nat)+1+1),I (K+(k*4:Nat)+1+1+1)]:=by
 have e1:K+((k*4+1:Nat):Int)=K+(k*4:Nat)+1:=by omega
 have e2:K+((k*4+2:Nat):Int)=K+(k*4:Nat)+1+1:=by omega
 have e3:K+((k*4+3:Nat):Int)=K+(k*4:Nat)+1+1+1:=by omega
 rw[aUe];show bM K (k*4)++ [I (K+(k*4:Nat))]++ [I (K+((k*4+1:Nat):Int))]++ [I (K+((k*4+2:Nat):Int))]++ [I (K+((k*4+3:Nat):Int))]=_;rw[e1,e2,e3];simp only[aTx,aUu,aUt]
section
open Go.Proofs.Tryz
theorem aJv (aA aB:Int)(p q:OA)(n c1 c2:Nat)(xs:List Int)(w:World)(h1:Sl w p n c1 1 (ivs xs))(h2:Sl w q n c2 1 (ivs xs)):
  U 25 #[aH aA aB p n c1,aH aA aB q n c2] w (Z (.bool true) w):=by
 have H1:=xQ h1;have H2:=xQ h2;clear h1 h2;go_enter func25,ntmps25;go_wp2_with fail;refine Ω (aJu p q n c1 c2 xs _ (H1.out.ext xE) (H2.out.ext xE)) fun w1 hx=>?_
 go_wp2;go_ret;exact⟨rfl,xE⟩
theorem xZ (h:aS)(p1:OA)(n c1:Nat)(q1:OA)(m d1:Nat)(p2:OA)(c2:Nat)(q2:OA)(d2:Nat)(w:World)(k:IsHouse w h p1 n c1 q1 m d1)(l:IsHouse w h p2 n c2 q2 m d2):
  U 7 #[cY h p1 n c1 q1 m d1,cY h p2 n c2 q2 m d2] w (Z (.bool true) w):=by
 have H1:=xQ k;have H2:=xQ l;clear k l;obtain⟨aA,aB,j,a,b,aE,aF,aC,aG,vs⟩:=h;go_enter func7,ntmps7;go_wp2_with fail;refine Ω (aJv aA aB p1 p2 n c1 c2 j _ (H1.out.cells.ext xE) (H2.out.cells.ext xE)) fun w1 d=>?_
 have BA:=xQ (((Blk.new w 29 #[aA,aB,.slice p1 n c1,a,b,aE,aF,aC,aG,.slice q1 m d1]).alloc (.cells #[aA,aB,.slice p2 n c2,a,b,aE,aF,aC,aG,.slice q2 m d2] 29)).ext d);have c:=xQ ((Blk.new (w.alloc (.cells #[aA,aB,.slice p1 n c1,a,b,aE,aF,aC,aG,.slice q1 m d1] 29)) 29 #[aA,aB,.slice p2 n c2,a,b,aE,aF,aC,aG,.slice q2 m d2]).ext d);simp only[aVk]at c;have o:Ext w w1:=(((Ext.refl w).alloc _).alloc _).trans d;have ha:w.heap.size+1<w1.heap.size:=aT1 (by simp) d.sz;clear d;have a3:=BA.out.cl 3;have a4:=BA.out.cl 4;have a5:=BA.out.cl 5;have a6:=BA.out.cl 6;have b3:=c.out.cl 3;have b4:=c.out.cl 4;have b5:=c.out.cl 5;have b6:=c.out.cl 6;go_wp2_with fail;clear a3 a4 a5 a6 b3 b4 b5 b6;refine Ω (aFa a b aE aF _) fun w2 f=>?_
 have p:Ext w w2:=o.trans f;have q:w.heap.size+1<w2.heap.size:=aT1 ha f.sz;have g:=xQ (BA.out.ext f);have i:=xQ (c.out.ext f);clear f BA c;have a7:=g.out.cl 7;have a8:=g.out.cl 8;have a9:=g.out.cl 9;have b7:=i.out.cl 7;have b8:=i.out.cl 8;have b9:=i.out.cl 9;go_wp2_with fail;clear a7 a8 a9 b7 b8 b9;refine Ω (aF9 q1 q2 m d1 d2 vs _ (H1.out.vs.ext xE) (H2.out.vs.ext xE)) fun w3 r=>?_
 go_wp2;go_ret;exact⟨rfl,xE⟩
theorem RetHouse.is {h:aS}{w w':World}{p q:OA}{a c2:Nat}(ho:w'.ownsRow w TI 1 (.slice p h.cells a) h.cells.length (ivs h.cells))(hv:w'.ownsRow w TV 4 (.slice q h.vs c2) h.vs.length (h.vs.flatMap aD)):
  IsHouse w' h p h.cells.length a q h.vs.length c2:=⟨Sl.own ho,Sl.own hv⟩
theorem aPq {W0 wr:World}{B:Nat}(hg:W0.grownBy wr (some B))(o:Nat)(v:Value):W0.grownBy (wr.setCell ⟨B,o,none⟩ v) (some B):=
 ⟨hg.os,hg.tape,hg.output,by simpa using hg.size,fun k hk hne=>by rw[aVh _ _ _ _ (fun e=>hne (by simp[e]))];exact hg.block k hk hne⟩
def ChgE (e:TypeId)(B T:Nat)(w w':World):Prop:= ∃row,w.grownBy w' row∧ ∀g,row=some g→B≤g∧g<T∧ ∃cur,w.heap[g]? =some (.cells cur e (0,0))
theorem ChgE.chg {e:TypeId}{B T:Nat}{w w':World}(h:ChgE e B T w w'):Chg B T w w':=by obtain⟨a,hg,hr⟩:=h;exact Chg.of_grown hg (fun g e=>⟨(hr g e).1,(hr g e).2.1⟩)
theorem ChgE.refl (e:TypeId)(B T:Nat)(w:World):ChgE e B T w w:=⟨none,aUh _ _,fun g h=>by cases h⟩
theorem OwnT.chgE {w w':World}{B T B' T':Nat}{e e':TypeId}{sz n b:Nat}{p:OA}{xs:List Value}(h:OwnT w B T e sz p n b xs)(hc:ChgE e' B' T' w w')(c:e≠e'):OwnT w' B T e sz p n b xs:=by
 obtain⟨f,hg,hr⟩:=hc;refine⟨aTb h.1 hg.size,?_⟩;rcases h.2 with h2|⟨h2,k⟩
 ·exact .inl h2
 refine .inr ⟨h2.kept hg ?_,k⟩;rcases h2.2 with⟨h3,_⟩|⟨g,cap',cur,h1,hb,hgg,r⟩
 ·left;rw[h3];rfl
 right;rw[h1];intro e2;obtain⟨_,_,d,a⟩:=hr g e2.symm;rw[hgg]at a;injection a with a;injection a with _ q _;exact c q
theorem Blk.chg {w w':World}{g B T:Nat}{t:TypeId}{cs:Array Value}(h:Blk w g t cs)(hc:Chg B T w w')(hd:g<B∨T≤g):Blk w' g t cs:=(hc.block g h.lt hd).trans h
theorem OwnT.held {w:World}{B T n a:Nat}{e:TypeId}{sz:Nat}{p:OA}{K:Int}(h:OwnT w B T e sz p n a (bM K (n*sz)))(hn:0<n):
  ∃g,p=some ⟨g,0,none⟩∧ ∀j,j<n*sz→w.cell? ⟨g,0+j,none⟩=some (I (K+j)):=by
 rcases h.2 with⟨rfl,_⟩|⟨h2,_⟩
 ·omega
 rcases h2.2 with⟨_,h3⟩|⟨g,cap',cur,h1,hb,hg,hn,hm,hs,ht⟩
 ·omega
 injection h1 with e1 e2 e3;refine⟨g,e1,fun j hj=> ?_⟩;subst e1;rw[aU2,h2.cellAt j hj];exact aBm _ _ _ hj
theorem OwnT.slot {w:World}{B T n a:Nat}{e:TypeId}{sz:Nat}{p:OA}{xs:List Value}(h:OwnT w B T e sz p n a xs)(hn:0<n):
  ∃g cur,p=some ⟨g,0,none⟩∧w.ownsRow B e sz (.slice (some ⟨g,0,none⟩) n a) n xs∧B≤g∧g<T∧w.heap[g]? =some (.cells cur e (0,0)):=by
 rcases h.2 with⟨rfl,_⟩|⟨h2,k⟩
 ·omega
 have b:=h2;rcases h2.2 with⟨_,h3⟩|⟨g,cap',cur,h1,hb,hg,r⟩
 ·omega
 injection h1 with e1 e2 e3;subst e1;exact⟨g,cur,rfl,b,hb,k g rfl,hg⟩
theorem OwnT.own_new {w w':World}{B T n a g:Nat}{e:TypeId}{sz:Nat}{xs ys:List Value}(h:OwnT w B T e sz (some ⟨g,0,none⟩) n a xs)(hT:g<T)(ho:w'.ownsRow B e sz (.slice (some ⟨g,0,none⟩) n a) n ys)(hz:w.heap.size≤w'.heap.size):OwnT w' B T e sz (some ⟨g,0,none⟩) n a ys:=
 ⟨aTb h.1 hz,.inr ⟨ho,fun g' e=>by simp[Value.ownBlock]at e;omega⟩⟩
theorem OwnT.nomark {w:World}{B T a:Nat}{e:TypeId}{sz:Nat}{p:OA}{xs:List Value}(h:OwnT w B T e sz p 0 a xs):xs= []:=by
 rcases h.2 with⟨_,_,h⟩|⟨h,_⟩
 ·exact h
 exact aTr (by rw[h.1];simp)
theorem aE7 (g n d base:Nat)(xs:List Value)(K0:Int)(w:World)(r:n≤1099511627776)(h0:0≤K0)(h1:K0≤4611686018427387904)
  (HO:Hid (w.ownsRow base TI 1 (.slice (some ⟨g,0,none⟩) n d) n xs)):
  U 66 #[.slice (some ⟨g,0,none⟩) n d,K0] w fun e w'=>e= .returned (I (K0+(n*1:Nat)))∧w'.ownsRow base TI 1 (.slice (some ⟨g,0,none⟩) n d) n (bM K0 (n*1))∧w.grownBy w' (some g):=by
 go_enter func66,ntmps66;go_wp2;go_loopw [1,5] (fun kk i wr=> ∃(k:Nat) (K:Int) (rest:List Value),k≤n∧kk=I K∧i=I k∧K=K0+(k*1:Nat)∧rest.length=(n-k)*1∧wr.ownsRow base TI 1 (.slice (some ⟨g,0,none⟩) n d) n (bM K0 (k*1)++rest)∧w.grownBy wr (some g)) (fun _ i _=>n-(intOf i).toNat)
 case atStart=>exact⟨0,K0,xs,aT8 _,rfl,rfl,by simp,by rw[HO.out.1];simp,by simpa[bM]using HO.out,aUh _ _⟩
 case round=>
  obtain⟨k,K,rest,hk,rfl,rfl,hK,l,f,hg⟩:=hrel;have p:0≤K:=by omega
  have q:K≤4611697013543665664:=by omega
  have HK:=xQ hK;have b:=xQ f;have h:=xQ l;have HG:=xQ hg;clear hK f l hg;by_cases hlt:k<n
  ·obtain⟨r0,rest',a⟩: ∃r0 rest',rest=r0::rest':=by
    have h3:1≤rest.length:=by rw[h.out];have:=aTz 1 (show 1≤n-k by omega);omega
    match rest,h3 with
    |r0::rest',_=>exact⟨r0,rest',rfl⟩
   have j:(bM K0 (k*1)).length=k*1:=jW _ _;have o0:wr.cell? ⟨g,k,none⟩=some r0:=by rw[b.out.cellAt _ (by have:=aTz 1 hlt;rw[aUe]at this;omega),a,aTn (by omega),j];simp
   have f0:wr.frozen? ⟨g,k,none⟩=false:=b.out.frozenAt _;have o:=xQ j;have c:=xQ a;clear j a;go_wp2;go_roundw
   case rel=>
    refine⟨k+1,K+1,rest',by omega,by go_num,by go_num,by rw[HK.out];omega,?_,?_,?_⟩
    ·have:=h.out;rw[c.out]at this;simp only[aU1]at this;have e2:n-k=(n-(k+1))+1:=by omega
     rw[e2,aUe]at this;omega
    ·have hs:=(b.out.stored (k) (I (K))).1;have e:((bM K0 (k*1)++rest).set (k) (I (K)))=bM K0 ((k+1)*1)++rest':=by
      rw[aGl,c.out,←HK.out];have:=o.out;try simp only[Nat.mul_one]at this
      simp[this]
     rw[e]at hs;exact hs
    exact(aPq HG _ _)
   case measure=>simp[intOf];omega
  obtain rfl:k=n:=by omega
  have e2:rest= []:=aTr (by rw[h.out];simp);have m:=xQ e2;clear e2;go_wp2;go_ret;refine⟨eE (by simpa using HK.out),?_,HG.out⟩;have:=b.out;rw[m.out]at this;simpa using this
theorem aE6 (p:OA)(a:Nat)(K0:Int)(w:World):
  U 66 #[.slice p 0 a,K0] w fun e w'=>e= .returned (I K0)∧w=w':=by
 go_enter func66,ntmps66;go_wp2;go_rounds 1;go_ret;exact⟨rfl,rfl⟩
theorem aF3 (b c n d:Nat)(K0:Int)(w:World)(h:n≤1099511627776)(h0:0≤K0)(h1:K0≤4611686018427387904)
  (HR:Hid (∀j,j<n*1→w.cell? ⟨b,c+j,none⟩=some (I (K0+j)))):
  U 67 #[.slice (some ⟨b,c,none⟩) n d,K0] w fun e w'=>e= .returned (I (K0+(n*1:Nat)))∧w=w':=by
 go_enter func67,ntmps67;go_wp2;go_loop [1,5] (fun kk i=> ∃(k:Nat) (K:Int),k≤n∧kk=I K∧i=I k∧K=K0+(k*1:Nat)) (fun _ i=>n-(intOf i).toNat)
 case atStart=>exact⟨0,K0,aT8 _,rfl,rfl,by simp⟩
 case round=>
  obtain⟨k,K,hk,rfl,rfl,hK⟩:=hrel;have f:0≤K:=by omega
  have g:K≤4611697013543665664:=by omega
  by_cases hlt:k<n
  ·have a:=aTz 1 hlt;rw[aUe]at a;have v0:w.cell? ⟨b,c+k,none⟩=some (I (K)):=by have:=HR (k) (by omega);rw[show(K:Int)=K0+((k:Nat):Int) by omega];exact this
   have HK:=xQ hK;clear hK a;go_wp2;go_round
   case rel=>exact⟨k+1,K+1,by omega,by go_num,by go_num,by rw[HK.out];omega⟩
   case measure=>simp[intOf];omega
  obtain rfl:k=n:=by omega
  have HK:=xQ hK;clear hK;go_wp2;go_ret;exact⟨eE (by simpa using HK.out),rfl⟩
theorem aF2 (p:OA)(a:Nat)(K0:Int)(w:World):
  U 67 #[.slice p 0 a,K0] w fun e w'=>e= .returned (I K0)∧w=w':=by
 go_enter func67,ntmps67;go_wp2;go_rounds 1;go_ret;exact⟨rfl,rfl⟩
theorem aR2 (B T n a:Nat)(p:OA)(xs:List Value)(K:Int)(w:World)(h:OwnT w B T TI 1 p n a xs)(hn:n≤1099511627776)(h0:0≤K)(h1:K≤4611686018427387904):
  U 66 #[.slice p n a,K] w fun e w'=>e= .returned (I (K+(n*1:Nat)))∧OwnT w' B T TI 1 p n a (bM K (n*1))∧ChgE TI B T w w':=by
 by_cases hz:0<n
 ·obtain⟨g,b,rfl,ho,hB,hT,hg⟩:=h.slot hz;refine(aE7 g n a B xs K w hn h0 h1 ho).mono ?_;rintro e w' ⟨rfl,h2,h3⟩;exact⟨rfl,h.own_new hT h2 h3.size,some g,h3,fun g' e=>by simp at e;subst e;exact⟨hB,hT,b,hg⟩⟩
 obtain rfl:n=0:=by omega
 refine(aE6 p a K w).mono ?_;rintro e w' ⟨rfl,rfl⟩;have:=h.nomark;subst this;exact⟨by simp,by simpa[bM]using h,ChgE.refl _ _ _ _⟩
theorem aRc (B T n a:Nat)(p:OA)(K:Int)(w:World)(h:OwnT w B T TI 1 p n a (bM K (n*1)))(hn:n≤1099511627776)(h0:0≤K)(h1:K≤4611686018427387904):
  U 67 #[.slice p n a,K] w fun e w'=>e= .returned (I (K+(n*1:Nat)))∧w=w':=by
 by_cases hz:0<n
 ·obtain⟨g,rfl,hc⟩:=h.held hz;exact aF3 g 0 n a K w hn h0 h1 hc
 obtain rfl:n=0:=by omega
 refine(aF2 p a K w).mono ?_;rintro e w' ⟨rfl,rfl⟩;exact⟨by simp,rfl⟩
theorem aA6 (g n f base:Nat)(xs:List Value)(K0:Int)(w:World)(r:n≤1099511627776)(h0:0≤K0)(h1:K0≤4611686018427387904)
  (HO:Hid (w.ownsRow base TV 4 (.slice (some ⟨g,0,none⟩) n f) n xs)):
  U 29 #[.slice (some ⟨g,0,none⟩) n f,K0] w fun e w'=>e= .returned (I (K0+(n*4:Nat)))∧w'.ownsRow base TV 4 (.slice (some ⟨g,0,none⟩) n f) n (bM K0 (n*4))∧w.grownBy w' (some g):=by
 go_enter func29,ntmps29;go_wp2;go_loopw [1,5] (fun kk i wr=> ∃(k:Nat) (K:Int) (rest:List Value),k≤n∧kk=I K∧i=I k∧K=K0+(k*4:Nat)∧rest.length=(n-k)*4∧wr.ownsRow base TV 4 (.slice (some ⟨g,0,none⟩) n f) n (bM K0 (k*4)++rest)∧w.grownBy wr (some g)) (fun _ i _=>n-(intOf i).toNat)
 case atStart=>exact⟨0,K0,xs,aT8 _,rfl,rfl,by simp,by rw[HO.out.1];simp,by simpa[bM]using HO.out,aUh _ _⟩
 case round=>
  obtain⟨k,K,rest,hk,rfl,rfl,hK,l,h,hg⟩:=hrel;have p:0≤K:=by omega
  have q:K≤4611697013543665664:=by omega
  have HK:=xQ hK;have a:=xQ h;have j:=xQ l;have HG:=xQ hg;clear hK h l hg;by_cases hlt:k<n
  ·obtain⟨r0,r1,r2,r3,rest',b⟩: ∃r0 r1 r2 r3 rest',rest=r0::r1::r2::r3::rest':=by
    have h3:4≤rest.length:=by rw[j.out];have:=aTz 4 (show 1≤n-k by omega);omega
    match rest,h3 with
    |r0::r1::r2::r3::rest',_=>exact⟨r0,r1,r2,r3,rest',rfl⟩
   have c:(bM K0 (k*4)).length=k*4:=jW _ _;have o0:wr.cell? ⟨g,k*4,none⟩=some r0:=by rw[a.out.cellAt _ (by have:=aTz 4 hlt;rw[aUe]at this;omega),b,aTn (by omega),c];simp
   have f0:wr.frozen? ⟨g,k*4,none⟩=false:=a.out.frozenAt _;have o1:wr.cell? ⟨g,k*4+1,none⟩=some r1:=by rw[a.out.cellAt _ (by have:=aTz 4 hlt;rw[aUe]at this;omega),b,aTn (by omega),c];simp
   have f1:wr.frozen? ⟨g,k*4+1,none⟩=false:=a.out.frozenAt _;have o2:wr.cell? ⟨g,k*4+2,none⟩=some r2:=by rw[a.out.cellAt _ (by have:=aTz 4 hlt;rw[aUe]at this;omega),b,aTn (by omega),c];simp
   have f2:wr.frozen? ⟨g,k*4+2,none⟩=false:=a.out.frozenAt _;have o3:wr.cell? ⟨g,k*4+3,none⟩=some r3:=by rw[a.out.cellAt _ (by have:=aTz 4 hlt;rw[aUe]at this;omega),b,aTn (by omega),c];simp
   have f3:wr.frozen? ⟨g,k*4+3,none⟩=false:=a.out.frozenAt _;have o:=xQ c;have d:=xQ b;clear c b;go_wp2;go_roundw
   case rel=>
    refine⟨k+1,K+1+1+1+1,rest',by omega,by go_num,by go_num,by rw[HK.out];omega,?_,?_,?_⟩
    ·have:=j.out;rw[d.out]at this;simp only[aU1]at this;have e2:n-k=(n-(k+1))+1:=by omega
     rw[e2,aUe]at this;omega
    ·have hs:=((((a.out.stored (k*4) (I (K))).1.stored (k*4+1) (I (K+1))).1.stored (k*4+2) (I (K+1+1))).1.stored (k*4+3) (I (K+1+1+1))).1;have e:(((((bM K0 (k*4)++rest).set (k*4) (I (K))).set (k*4+1) (I (K+1))).set (k*4+2) (I (K+1+1))).set (k*4+3) (I (K+1+1+1)))=bM K0 ((k+1)*4)++rest':=by
      rw[aGk,d.out,←HK.out];have:=o.out;try simp only[Nat.mul_one]at this
      simp[this]
     rw[e]at hs;exact hs
    exact(aPq (aPq (aPq (aPq HG _ _) _ _) _ _) _ _)
   case measure=>simp[intOf];omega
  obtain rfl:k=n:=by omega
  have e2:rest= []:=aTr (by rw[j.out];simp);have m:=xQ e2;clear e2;go_wp2;go_ret;refine⟨eE (by simpa using HK.out),?_,HG.out⟩;have:=a.out;rw[m.out]at this;simpa using this
theorem aA5 (p:OA)(a:Nat)(K0:Int)(w:World):
  U 29 #[.slice p 0 a,K0] w fun e w'=>e= .returned (I K0)∧w=w':=by
 go_enter func29,ntmps29;go_wp2;go_rounds 1;go_ret;exact⟨rfl,rfl⟩
theorem aAq (b a n d:Nat)(K0:Int)(w:World)(h:n≤1099511627776)(h0:0≤K0)(h1:K0≤4611686018427387904)
  (HR:Hid (∀j,j<n*4→w.cell? ⟨b,a+j,none⟩=some (I (K0+j)))):
  U 31 #[.slice (some ⟨b,a,none⟩) n d,K0] w fun e w'=>e= .returned (I (K0+(n*4:Nat)))∧w=w':=by
 go_enter func31,ntmps31;go_wp2;go_loop [1,5] (fun kk i=> ∃(k:Nat) (K:Int),k≤n∧kk=I K∧i=I k∧K=K0+(k*4:Nat)) (fun _ i=>n-(intOf i).toNat)
 case atStart=>exact⟨0,K0,aT8 _,rfl,rfl,by simp⟩
 case round=>
  obtain⟨k,K,hk,rfl,rfl,hK⟩:=hrel;have f:0≤K:=by omega
  have g:K≤4611697013543665664:=by omega
  by_cases hlt:k<n
  ·have c:=aTz 4 hlt;rw[aUe]at c;have v0:w.cell? ⟨b,a+k*4,none⟩=some (I (K)):=by have:=HR (k*4) (by omega);rw[show(K:Int)=K0+((k*4:Nat):Int) by omega];exact this
   have v1:w.cell? ⟨b,a+k*4+1,none⟩=some (I (K+1)):=by have:=HR (k*4+1) (by omega);rw[show(K+1:Int)=K0+((k*4+1:Nat):Int) by omega];exact this
   have v2:w.cell? ⟨b,a+k*4+2,none⟩=some (I (K+1+1)):=by have:=HR (k*4+2) (by omega);rw[show(K+1+1:Int)=K0+((k*4+2:Nat):Int) by omega];exact this
   have v3:w.cell? ⟨b,a+k*4+3,none⟩=some (I (K+1+1+1)):=by have:=HR (k*4+3) (by omega);rw[show(K+1+1+1:Int)=K0+((k*4+3:Nat):Int) by omega];exact this
   have HK:=xQ hK;clear hK c;go_wp2;go_round
   case rel=>exact⟨k+1,K+1+1+1+1,by omega,by go_num,by go_num,by rw[HK.out];omega⟩
   case measure=>simp[intOf];omega
  obtain rfl:k=n:=by omega
  have HK:=xQ hK;clear hK;go_wp2;go_ret;exact⟨eE (by simpa using HK.out),rfl⟩
theorem aAp (p:OA)(a:Nat)(K0:Int)(w:World):
  U 31 #[.slice p 0 a,K0] w fun e w'=>e= .returned (I K0)∧w=w':=by
 go_enter func31,ntmps31;go_wp2;go_rounds 1;go_ret;exact⟨rfl,rfl⟩
theorem aLz (B T n a:Nat)(p:OA)(xs:List Value)(K:Int)(w:World)(h:OwnT w B T TV 4 p n a xs)(hn:n≤1099511627776)(h0:0≤K)(h1:K≤4611686018427387904):
  U 29 #[.slice p n a,K] w fun e w'=>e= .returned (I (K+(n*4:Nat)))∧OwnT w' B T TV 4 p n a (bM K (n*4))∧ChgE TV B T w w':=by
 by_cases hz:0<n
 ·obtain⟨g,b,rfl,ho,hB,hT,hg⟩:=h.slot hz;refine(aA6 g n a B xs K w hn h0 h1 ho).mono ?_;rintro e w' ⟨rfl,h2,h3⟩;exact⟨rfl,h.own_new hT h2 h3.size,some g,h3,fun g' e=>by simp at e;subst e;exact⟨hB,hT,b,hg⟩⟩
 obtain rfl:n=0:=by omega
 refine(aA5 p a K w).mono ?_;rintro e w' ⟨rfl,rfl⟩;have:=h.nomark;subst this;exact⟨by simp,by simpa[bM]using h,ChgE.refl _ _ _ _⟩
theorem aMu (B T n a:Nat)(p:OA)(K:Int)(w:World)(h:OwnT w B T TV 4 p n a (bM K (n*4)))(hn:n≤1099511627776)(h0:0≤K)(h1:K≤4611686018427387904):
  U 31 #[.slice p n a,K] w fun e w'=>e= .returned (I (K+(n*4:Nat)))∧w=w':=by
 by_cases hz:0<n
 ·obtain⟨g,rfl,hc⟩:=h.held hz;exact aAq g 0 n a K w hn h0 h1 hc
 obtain rfl:n=0:=by omega
 refine(aAp p a K w).mono ?_;rintro e w' ⟨rfl,rfl⟩;exact⟨by simp,rfl⟩
theorem ChgE.pre {e:TypeId}{B T:Nat}{w a w':World}(h:ChgE e B T a w')(hx:Ext w a)(hT:T≤w.heap.size):ChgE e B T w w':=by obtain⟨c,hg,hr⟩:=h;refine⟨c,⟨hg.os.trans hx.os,hg.tape.trans hx.tape,hg.output.trans hx.output,aTb hx.size hg.size,fun i hi hne=>(hg.block i (aT1 hi hx.size) hne).trans (hx.block i hi)⟩,fun g e=> ?_⟩;obtain⟨h1,h2,b,h3⟩:=hr g e;exact⟨h1,h2,b,by rw[←hx.block g (by omega)];exact h3⟩
theorem aOw (aA aB:Int)(B T n a:Nat)(p:OA)(xs:List Value)(K:Int)(w:World)(h:OwnT w B T TI 1 p n a xs)(hn:n≤1099511627776)(h0:0≤K)(h1:K≤4611686018427387904):
  U 28 #[aH aA aB p n a,K] w fun e w'=>e= .returned (I (K+(n:Nat)))∧OwnT w' B T TI 1 p n a (bM K n)∧ChgE TI B T w w':=by
 have HM:xC 66 #[.slice p n a,K] w fun w' e w''=>e= .returned (I (K+(n:Nat)))∧OwnT w'' B T TI 1 p n a (bM K n)∧ChgE TI B T w' w'':=fun w' hx=>by have:=aR2 B T n a p xs K w' (h.ext hx) hn h0 h1;simpa using this
 have HH:=xQ h;clear h;go_enter func28,ntmps28;go_wp2_with fail;refine(HM _ xE).mono ?_;rintro e w1 ⟨rfl,h2,h3⟩;have hT:=HH.out.1;go_wp2;go_ret;exact⟨rfl,h2,ChgE.pre h3 ((Ext.refl w).alloc _) hT⟩
theorem aPo (aA aB:Int)(B T n a:Nat)(p:OA)(K:Int)(w:World)(h:OwnT w B T TI 1 p n a (bM K n))(hn:n≤1099511627776)(h0:0≤K)(h1:K≤4611686018427387904):
  U 30 #[aH aA aB p n a,K] w (Z (I (K+(n:Nat))) w):=by
 have HM:xC 67 #[.slice p n a,K] w fun w' e w''=>e= .returned (I (K+(n:Nat)))∧w'=w'':=fun w' hx=>by have:=aRc B T n a p K w' (by simpa using h.ext hx) hn h0 h1;simpa using this
 clear h;have hk:0≤K+(n:Nat):=by omega
 go_enter func30,ntmps30;go_wp2_with fail;refine(HM _ xE).mono ?_;rintro e w1 ⟨rfl,rfl⟩;go_wp2;go_ret;exact⟨rfl,xE⟩
theorem aGm (aA aB b c aE aF aC aG:Int)(p:OA)(n a:Nat)(q:OA)(m c2:Nat)(B T:Nat)(xs ys:List Value)(K:Int)(w:World)(h:Hid (OwnT w B T TI 1 p n a xs))(hv:Hid (OwnT w B T TV 4 q m c2 ys))(hn:n≤1099511627776)(hm:m≤1099511627776)(h0:0≤K)(h1:K≤1099511627776):
  U 8 #[.agg #[aA,aB,.slice p n a,b,c,aE,aF,aC,aG,.slice q m c2],K] w fun e w'=>e= .returned (I (K+n+(m*4:Nat)))∧OwnT w' B T TI 1 p n a (bM K n)∧OwnT w' B T TV 4 q m c2 (bM (K+n) (m*4))∧Chg B T w w':=by
 go_enter func8,ntmps8;go_wp2_with fail;refine(aOw aA aB B T n a p xs K _ (h.out.ext xE) hn h0 (by omega)).mono ?_;rintro e w1 ⟨rfl,h2,h3⟩;have hT:=h.out.1;have BX:=xQ ((Blk.new w 29 #[aA,aB,.slice p n a,b,c,aE,aF,aC,aG,.slice q m c2]).chg h3.chg (.inr hT));have HV:=xQ ((hv.out.ext ((Ext.refl w).alloc _)).chgE h3 (by decide));have HC:=xQ h2;have C1:=xQ ((((Ext.refl w).alloc _).chg B T).trans h3.chg);clear h2 h3;obtain⟨a0,a1,a2,a3,a4,a5,a6,a7,a8,a9⟩:=BX.out.ten;go_wp2_with fail;clear a0 a1 a2 a3 a4 a5 a6 a7 a8 a9;refine(aLz B T m c2 q ys (K+n) _ (HV.out) hm (by omega) (by omega)).mono ?_;rintro e w2 ⟨rfl,h4,h5⟩;have d:=xQ (HC.out.chgE h5 (by decide));have f:=xQ h4;have C2:=xQ (C1.out.trans h5.chg);clear h4 h5;go_wp2;go_ret;exact⟨rfl,d.out,f.out,C2.out⟩
theorem aHd (aA aB b c aE aF aC aG:Int)(p:OA)(n a:Nat)(q:OA)(m c2:Nat)(B T:Nat)(K:Int)(w:World)(h:Hid (OwnT w B T TI 1 p n a (bM K n)))(hv:Hid (OwnT w B T TV 4 q m c2 (bM (K+n) (m*4))))(hn:n≤1099511627776)(hm:m≤1099511627776)(h0:0≤K)(h1:K≤1099511627776):
  U 9 #[.agg #[aA,aB,.slice p n a,b,c,aE,aF,aC,aG,.slice q m c2],K] w (Z (I (K+n+(m*4:Nat))) w):=by
 go_enter func9,ntmps9;go_wp2_with fail;refine Ω (aPo aA aB B T n a p K _ (h.out.ext xE) hn h0 (by omega)) fun w1 hh=>?_
 have BX:=xQ ((Blk.new w 29 #[aA,aB,.slice p n a,b,c,aE,aF,aC,aG,.slice q m c2]).ext hh);have HV:=xQ (hv.out.ext (show Ext w w1 from xE));have X1:Ext w w1:=xE;have hk:0≤K+(n:Nat):=by omega
 clear hh;obtain⟨a0,a1,a2,a3,a4,a5,a6,a7,a8,a9⟩:=BX.out.ten;go_wp2_with fail;clear a0 a1 a2 a3 a4 a5 a6 a7 a8 a9;refine(aMu B T m c2 q (K+n) _ (HV.out) hm (by omega) (by omega)).mono ?_;rintro e w2 ⟨rfl,rfl⟩;have d:0≤K+n+(m*4:Nat):=by omega
 go_wp2;go_ret;exact⟨rfl,xE⟩
theorem aM0 (h:aS)(B T n a m c2:Nat)(p q:OA)(K:Int)(xs ys:List Value)(w:World)(h1:OwnT w B T TI 1 p n a xs)(hv:OwnT w B T TV 4 q m c2 ys)(hn:n≤1099511627776)(hm:m≤1099511627776)(h0:0≤K)(hk:K≤1099511627776):
  U 8 #[cY h p n a q m c2,K] w fun e w'=>e= .returned (I (K+n+(m*4:Nat)))∧OwnT w' B T TI 1 p n a (bM K n)∧OwnT w' B T TV 4 q m c2 (bM (K+n) (m*4))∧Chg B T w w':=
 aGm h.aA h.aB h.free h.step h.aE h.aF h.aC h.aG p n a q m c2 B T xs ys K w h1 hv hn hm h0 hk
theorem aCt (h:aS)(B T n a m c2:Nat)(p q:OA)(K:Int)(w:World)(h1:OwnT w B T TI 1 p n a (bM K n))(hv:OwnT w B T TV 4 q m c2 (bM (K+n) (m*4)))(hn:n≤1099511627776)(hm:m≤1099511627776)(h0:0≤K)(hk:K≤1099511627776):
  U 9 #[cY h p n a q m c2,K] w (Z (I (K+n+(m*4:Nat))) w):=
 aHd h.aA h.aB h.free h.step h.aE h.aF h.aC h.aG p n a q m c2 B T K w h1 hv hn hm h0 hk
end
theorem aDd {h:aS}(a:bJ h=true):(h.vs.map (·.1)).Nodup∧h.vs.length≤12∧ ∀v∈h.vs,gM h.aC v=true:=by
 unfold bJ at a;simp only[aTd]at a;obtain⟨⟨⟨h1,h2⟩,h3⟩,h4⟩:=a;obtain⟨q1,q2⟩:=mO h4;unfold aO at h1;rw[aTd]at h1;have hc:=(gC _ _).1 h1.2;have hb:=cO h1.1;refine⟨?_,?_,q2⟩
 ·rw[q1];exact(kA _).nodup_iff.2 hc.2.2
 have:=congrArg List.length q1;rw[aTk,pZ]at this;have:=sG h.cells;omega
abbrev TDd:TypeId:=76
abbrev Dd3:=Int×Int×Int
def eU (d:Dd3):List Value:= [.int .i64 d.1,.int .i64 d.2.1,.int .i64 d.2.2]
theorem aKq {w:World}{q:OA}{m c2:Nat}{ds:List Dd3}(h:Sl w q m c2 3 (ds.flatMap eU)){k:Nat}(hk:k<m):
  ∃b off a0 a1 a2,q=some ⟨b,off,none⟩∧ds[k]? =some (a0,a1,a2)∧b<w.heap.size∧w.cell? ⟨b,off+k*3,none⟩=some (I a0)∧w.cell? ⟨b,off+k*3+1,none⟩=some (I a1)∧w.cell? ⟨b,off+k*3+2,none⟩=some (I a2):=by
 obtain⟨b,off,x,hp,hx,hb,hc⟩:=Sl.at_ (sz:=3) (f:=eU) (fun _=>rfl) h hk (by omega);obtain⟨a0,a1,a2⟩:=x;exact⟨b,off,a0,a1,a2,hp,hx,hb,hc 0 (by omega),hc 1 (by omega),hc 2 (by omega)⟩
section
open Go.Proofs.Tryz
theorem Mem.own2blk {w0 w w':World}{L:List Item}{e1 e2 t:TypeId}{s1 s2 n1 n2 c1 c2 g:Nat}{q1 q2:OA}{d a:List Value}{cs:Array Value}(h:Mem w0 w L)(hx:Ext w w')(hb:Blk w' g t cs)(hg:w.heap.size≤g)(h1:w'.ownsRow w e1 s1 (.slice q1 n1 c1) n1 d)(h2:w'.ownsRow w e2 s2 (.slice q2 n2 c2) n2 a)(ht:e1≠e2)(t1:e1≠t)(t2:e2≠t):
  Mem w0 w' (aJ w0 e1 s1 q1 n1 c1 d::aJ w0 e2 s2 q2 n2 c2 a::aI w0 g t cs::L):=by
 have b: ∀ {e:TypeId} {s n c:Nat} {q:OA} {xs:List Value},w'.ownsRow w e s (.slice q n c) n xs→e≠t→(Value.slice q n c).ownBlock≠Option.some g:=by
  intro e s n c q xs ho f he;rcases ho.2 with⟨b1,_⟩|⟨g1,cap1,cur1,b1,_,b3,_⟩
  ·rw[b1]at he;cases he
  rw[b1]at he;injection he with he;have x1:g1=g:=he;subst x1;unfold Blk at hb;rw[hb]at b3;injection b3 with b3;injection b3 with _ b3;exact f b3.symm
 have H:=h.own2 hx h1 h2 (aT2 _) ht;have p1:=List.pairwise_cons.1 H.apart;have p2:=List.pairwise_cons.1 p1.2;have HB:=h.blkOf hx hb hg
 have H2:Mem w0 w' (aJ w0 e2 s2 q2 n2 c2 a::aI w0 g t cs::L):=HB.cons (kK _ _ _ _ _ _ _) (gO h2 h.ext.sz) (fun g' hg' j hj e=>by
  rcases aTj.1 hj with rfl|hj
  ·obtain rfl:g=g':=e;exact b h2 t2 hg'
  ·exact p2.1 j hj g' hg' e)
 exact H2.cons (kK _ _ _ _ _ _ _) (gO h1 h.ext.sz) (fun g' hg' j hj e=>by
  rcases aTj.1 hj with rfl|hj
  ·exact p1.1 _ (by simp) g' hg' e
  ·rcases aTj.1 hj with rfl|hj
   ·obtain rfl:g=g':=e;exact b h1 t1 hg'
   ·exact p1.1 j (by simp[hj]) g' hg' e)
def hZ:aS:=⟨0,0,[],0,0,0,0,0,0,[]⟩
def doR (h:aS)(k a b:Int):aS×Int×Bool:=
 if bJ h=true then(match dD h k a b with
  |none=>(h,-1,false)
  |some (h',n)=>(h',n,true))else(hZ,-1,false)
def aT0 (B:Nat)(r:aS×Int×Bool)(w':World)(e:Ending)(w'':World):Prop:=
 ∃pa ca qa da,e= .returned (.tuple #[cY r.1 pa r.1.cells.length ca qa r.1.vs.length da,r.2.1,.bool r.2.2])∧w''.ownsRow B TI 1 (.slice pa r.1.cells.length ca) r.1.cells.length (ivs r.1.cells)∧w''.ownsRow B TV 4 (.slice qa r.1.vs.length da) r.1.vs.length (r.1.vs.flatMap aD)∧Ext w' w''
theorem aKd {h:aS}{k a b:Int}{w w':World}{e:Ending}{B:Nat}(hB:B≤w.heap.size)(c:bJ h=true)(hr:aKz h (dD h k a b) w e w'):aT0 B (doR h k a b) w e w':=by
 unfold doR;rw[if_pos c];unfold aKz at hr;cases hd:dD h k a b with
 |none=>rw[hd]at hr;obtain⟨pa,ca,qa,da,rfl,o1,o2,hx⟩:=hr;exact⟨pa,ca,qa,da,rfl,gO o1 hB,gO o2 hB,hx⟩
 |some r=>obtain⟨h',n⟩:=r;rw[hd]at hr;obtain⟨pa,ca,qa,da,rfl,o1,o2,hx⟩:=hr;exact⟨pa,ca,qa,da,rfl,gO o1 hB,gO o2 hB,hx⟩
abbrev TB:TypeId:=4
def bcs (bs:List Bool):List Value:=bs.map .bool
theorem aRn (bs:List Bool):(bcs bs).length=bs.length:=by simp[bcs]
theorem aHv (bs:List Bool)(b:Bool):bcs (bs++ [b])=bcs bs++ [.bool b]:=by simp[bcs]
theorem elB:ElT prog 47 TB 1:=
 ⟨underlying47,by
  obtain⟨i,hi,h0,h1,h2⟩:=info_parts (show(prog.info? TB).map (fun i=>(i.zero,i.size,i.bytes))=some (some (.bool false),1,1) by kernel_rfl)
  exact⟨i,_,hi,h0,h1,by omega,rfl⟩,by omega⟩
def aA4 (h:aS)(d:Dd3):aS:=(doR h d.1 d.2.1 d.2.2).1
def tV (h:aS)(ds:List Dd3):aS:=ds.foldl aA4 h
def gK:aS→List Dd3→List Bool
 |_,[]=> []
 |h,d::ds=>(doR h d.1 d.2.1 d.2.2).2.2::gK (aA4 h d) ds
theorem aCc (h:aS)(l:List Dd3)(d:Dd3):tV h (l++ [d])=(doR (tV h l) d.1 d.2.1 d.2.2).1:=by simp[tV,aA4]
theorem aAw: ∀(l:List Dd3) (h:aS) (d:Dd3),gK h (l++ [d])=gK h l++ [(doR (tV h l) d.1 d.2.1 d.2.2).2.2]:=by
 intro l;induction l with
 |nil=>intro h d;rfl
 |cons x l ih=>intro h d;show _::gK (aA4 h x) (l++ [d])=_;rw[ih];rfl
theorem sR: ∀(l:List Dd3) (h:aS),(gK h l).length=l.length:=by
 intro l;induction l with
 |nil=>intro h;rfl
 |cons x l ih=>intro h;show(gK (aA4 h x) l).length+1=_;rw[ih];rfl
theorem aOu {h:aS}(a:bJ h=true)(d:Dd3):bJ (aA4 h d)=true:=by
 unfold aA4 doR;rw[if_pos a];cases hd:dD h d.1 d.2.1 d.2.2 with
 |none=>exact a
 |some r=>obtain⟨h',n⟩:=r;exact(aAn a hd).1
theorem aE2: ∀(l:List Dd3) {h:aS},bJ h=true→bJ (tV h l)=true:=by
 intro l;induction l with
 |nil=>intro h a;exact a
 |cons x l ih=>intro h a;exact ih (aOu a x)
def aG8 (h:aS)(ds:List Dd3):aS×List Bool:=if bJ h=true then(tV h ds,gK h ds)else(hZ,[])
def qD (B:Nat)(r:aS×List Bool)(w':World)(e:Ending)(w'':World):Prop:=
 ∃pa ca qa da ps cs,e= .returned (.tuple #[cY r.1 pa r.1.cells.length ca qa r.1.vs.length da,.slice ps r.2.length cs])∧w''.ownsRow B TI 1 (.slice pa r.1.cells.length ca) r.1.cells.length (ivs r.1.cells)∧w''.ownsRow B TV 4 (.slice qa r.1.vs.length da) r.1.vs.length (r.1.vs.flatMap aD)∧w''.ownsRow B TB 1 (.slice ps r.2.length cs) r.2.length (bcs r.2)∧Ext w' w''
end
end Go.Proofs.YtbgkcehffiogcabGreatDoor
