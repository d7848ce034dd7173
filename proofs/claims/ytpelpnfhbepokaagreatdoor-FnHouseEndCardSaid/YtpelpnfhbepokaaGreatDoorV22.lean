/-
  Texts of this proof, packed (@packed).
-/
import Derived.Test.YtpelpnfhbepokaaGreatDoorV21
namespace Go.Proofs.YtpelpnfhbepokaaGreatDoor
open Go.RowKit
set_option linter.unusedVariables false
set_option linter.unusedSimpArgs false
def aEs (h:aO)(r:Option (aO×Int))(w:World)(e:Ending)(w':World):Prop:=
 match r with
 |none=> ∃p cap q c2,e= .returned (.tuple #[bK h p h.cells.length cap q h.vs.length c2,(-1:Int),.bool false])∧w'.ownsRow w.heap.size TI 1 (.slice p h.cells.length cap) h.cells.length (ivs h.cells)∧w'.ownsRow w.heap.size TV 4 (.slice q h.vs.length c2) h.vs.length (h.vs.flatMap aD)∧Ext w w'
 |some (h',n)=> ∃p cap q c2,e= .returned (.tuple #[bK h' p h'.cells.length cap q h'.vs.length c2,n,.bool true])∧w'.ownsRow w.heap.size TI 1 (.slice p h'.cells.length cap) h'.cells.length (ivs h'.cells)∧w'.ownsRow w.heap.size TV 4 (.slice q h'.vs.length c2) h'.vs.length (h'.vs.flatMap aD)∧Ext w w'
theorem iH {h:aO}(a:aT h=true):h.cells.length≤12∧h.vs.length≤12∧4≤h.cells.length:=by obtain⟨q1,q2,q3,q4,q5⟩:=(dS h).1 a;have hb:=bZ (cM q1);have:=congrArg List.length q4;rw[hU,List.length_map]at this;have:=jA h.cells;omega
theorem mT (h:aO)(k a b:Int)(p:OA)(n c:Nat)(q:OA)(m c2:Nat)(w:World)(hi:IsHouse w h p n c q m c2)(d:aT h=false):
  Calls Tryz.prog 38 #[bK h p n c q m c2,lY k a b] w fun e w'=>e= .returned (.tuple #[.agg #[(),(),((),()),(),(),(),(),(),(),((),())],(-1:Int),.bool false])∧Ext w w':=
 aC8 h.aA h.aB h.free h.step h.aE h.aF h.aC h.aG k a b p n c q m c2 h.cells h.vs w (xQ fun w' hx=>by have:=kC h p n c q m c2 w' (hi.ext hx);rwa[d]at this)
theorem sF (h:aO)(k a b:Int)(p:OA)(n c:Nat)(q:OA)(m c2:Nat)(w:World)(hi:IsHouse w h p n c q m c2)(j:aT h=true):
  Calls Tryz.prog 38 #[bK h p n c q m c2,lY k a b] w (aEs h (cA h k a b) w):=by
 obtain⟨q1,q2,q3,q4,q5⟩:=(dS h).1 j;have ad:=iH j;have hl:=hi.clen;have s:=hi.vlen;have hS:=hi.cells;have hV:=hi.vs;subst hl s;have f:=xQ fun(w':World) (hx:Ext w w')=>(by have:=kC h p _ c q _ c2 w' (hi.ext hx);rwa[j]at this:Calls Tryz.prog 12 #[bK h p h.cells.length c q h.vs.length c2] w' fun e w''=>e= .returned (.bool true)∧Ext w' w'')
 have HL:=xQ fun(w':World) (hx:Ext w w')=>pA h p _ c q _ c2 w' (by omega) (by omega) (hi.ext hx)
 unfold dG at HL;by_cases k0:k=0
 ·subst k0;have HP:=xQ fun(w':World) (hx:Ext w w')=>zK h.aA h.aB a p _ c h.cells w' (hS.ext hx) q1
  have e0:cA h 0 a b=(if 0≤(cG h.aA h.aB h.cells a).2 then some ({h with cells:=(cG h.aA h.aB h.cells a).1,vs:=jW (a,h.aC,0,h.aC) h.vs},(cG h.aA h.aB h.cells a).2)else none):=by unfold cA;rw[if_pos rfl]
  have el:(cG h.aA h.aB h.cells a).1.length=h.cells.length:=by
   by_cases h0:0≤(cG h.aA h.aB h.cells a).2
   ·obtain⟨zs,s1,_,_,s4,_⟩:=oV q1 h0;rw[s4,List.length_set,s1.length_eq]
   unfold cG at h0⊢;split at h0
   ·rfl
   dsimp only at h0;omega
  unfold cN at HP;rw[el]at HP;rw[e0];by_cases h0:0≤(cG h.aA h.aB h.cells a).2
  ·rw[if_pos h0];have HQ:=xQ fun(w':World) (hx:Ext w w')=>aFp a h.aC 0 h.aC q _ c2 h.vs w' (by omega) (hV.ext hx)
   refine(qX h.aA h.aB h.free h.step h.aE h.aF h.aC h.aG (cG h.aA h.aB h.cells a).2 a b p _ c q _ c2 h.cells (cG h.aA h.aB h.cells a).1 h.vs (jW (a,h.aC,0,h.aC) h.vs) w h0 f HL HP HQ).mono ?_;rintro e w' ⟨p',d,q',g,rfl,o1,o2,hx⟩;refine⟨p',d,q',g,?_,?_,?_,hx⟩
   ·simp[bK,el,pQ]
   ·dsimp only;rw[el];exact o1
   dsimp only;rw[pQ];exact o2
  rw[if_neg h0];exact sZ h.aA h.aB h.free h.step h.aE h.aF h.aC h.aG (cG h.aA h.aB h.cells a).2 a b p _ c q _ c2 h.cells (cG h.aA h.aB h.cells a).1 h.vs w (by omega) f HL HP
 by_cases k1:k=1
 ·subst k1;have HP:=xQ fun(w':World) (hx:Ext w w')=>aFq h a b p _ c q _ c2 w' (by omega) (by omega) (hi.ext hx) q2 (fun v hv=>(iA _ _).1 (q5 v hv)) q3.2.1 q3.2.2.1 q3.2.2.2
  have e0:cA h 1 a b=oJ h a b:=by unfold cA;rw[if_neg (by omega),if_pos rfl]
  rw[e0];cases hp:oJ h a b with
  |none=>rw[hp]at HP;exact vD h.aA h.aB h.free h.step h.aE h.aF h.aC h.aG a b p _ c q _ c2 h.cells h.vs w f HL HP
  |some r=>
   obtain⟨h',bk⟩:=r;rw[hp]at HP;have hd:=kO j (e0.trans hp);have hv:h'.vs.length=h.vs.length∧h'.cells=h.cells∧h'.aC=h.aC:=by
    unfold oJ at hp;split at hp
    ·cases hp
    split at hp
    ·injection hp with hp;simp only[Prod.mk.injEq]at hp;obtain⟨rfl,_⟩:=hp;exact⟨by simp,rfl,rfl⟩
    cases hp
   obtain⟨t1,t2,t3,t4,t5,t6,t7,t8,t9⟩:=hd;obtain⟨v1,v2,v3⟩:=hv;obtain⟨hw,z,hc,hf,hs,ab,x,y,o,t⟩:=h';dsimp only at t4 t5 t6 t7 t8 t9 v1 v2 v3;subst t4 t5 t6 t7 t8 t9 v2 v3;unfold aJh at HP;dsimp only at HP;rw[v1]at HP;refine(tV h.aA h.aB h.free h.step h.aE h.aF h.aC h.aG o bk a b p _ c q _ c2 h.cells h.vs t w t2.1 f HL HP).mono ?_;rintro e w' ⟨p',d,q',g,rfl,o1,o2,hx⟩;refine⟨p',d,q',g,?_,o1,?_,hx⟩
   ·simp[bK,v1]
   dsimp only;rw[v1];exact o2
 by_cases k2:k=2
 ·subst k2;have HP:=xQ fun(w':World) (hx:Ext w w')=>aB5 h.aA h.aB a p _ c h.cells w' (hS.ext hx) q1
  have HF:=xQ fun(w':World) (hx:Ext w w')=>oZ h.aA h.aB h.free h.step h.aE h.aF h.aC h.aG a p h.cells.length c q _ c2 h.vs w' (hV.ext hx)
  have HM:=fun(w':World) (hx:Ext w w')=>xO h a p _ c q _ c2 w' (hi.ext hx)
  have e0:cA h 2 a b=(if dV h a=true∧0≤(bR h.aA h.aB h.cells a).2 then some ({h with cells:=(bR h.aA h.aB h.cells a).1,vs:=h.vs.eraseIdx (vix a h.vs).toNat},(bR h.aA h.aB h.cells a).2)else none):=by unfold cA;rw[if_neg (by omega),if_neg (by omega),if_pos rfl]
  have el:(bR h.aA h.aB h.cells a).1.length=h.cells.length:=by
   by_cases h0:0≤(bR h.aA h.aB h.cells a).2
   ·obtain⟨zs,s1,_,_,s4,_⟩:=kR q1 h0;rw[s4,List.length_set,s1.length_eq]
   unfold bR at h0⊢;split at h0
   ·rfl
   dsimp only at h0;omega
  unfold cN at HP;rw[el]at HP;rw[e0];by_cases h0:dV h a=true∧0≤(bR h.aA h.aB h.cells a).2
  ·rw[if_pos h0];have hv: ∃v,bY a h.vs=some v:=by
    have:=h0.1;unfold dV cS at this;rw[if_pos j]at this;cases hv:bY a h.vs with
    |none=>rw[hv]at this;simp at this
    |some v=>exact⟨v,rfl⟩
   obtain⟨v,hv⟩:=hv;obtain⟨v1,v2,v3,v4,v5,v6⟩:=iB hv;generalize hk:(vix a h.vs).toNat=kk at*;rw[v5]at HF;rw[h0.1]at HM;obtain⟨bb,l,rfl,u,_⟩:=hV.rd (by omega);have ee:h.vs.eraseIdx kk=h.vs.take kk++h.vs.drop (kk+1):=List.eraseIdx_eq_take_drop_succ _ _;have i:(h.vs.eraseIdx kk).length=h.vs.length-1:=by rw[List.length_eraseIdx,if_pos v4]
   by_cases hcc:kk+1<c2
   ·refine(qZ h.aA h.aB h.free h.step h.aE h.aF h.aC h.aG (bR h.aA h.aB h.cells a).2 a b p _ c bb l _ c2 kk h.cells (bR h.aA h.aB h.cells a).1 h.vs w h0.2 v4 (by omega) hcc (xQ hV) f HL HP HF HM).mono ?_;rintro e w' ⟨p',d,q',g,rfl,o1,o2,hx⟩;refine⟨p',d,q',g,?_,?_,?_,hx⟩
    ·simp only[bK,el,i]
    ·dsimp only;rw[el];exact o1
    dsimp only;rw[i,ee];exact o2
   have aa:=hV.le;have e1:c2=kk+1:=by omega
   have e2:h.vs.length=kk+1:=by omega
   subst e1;rw[e2]at hV f HL HF HM i⊢;refine(pM h.aA h.aB h.free h.step h.aE h.aF h.aC h.aG (bR h.aA h.aB h.cells a).2 a b p _ c bb l kk h.cells (bR h.aA h.aB h.cells a).1 h.vs w h0.2 (by omega) (xQ (List.drop_eq_nil_of_le (by omega))) (xQ hV) f HL HP HF HM).mono ?_;rintro e w' ⟨p',d,q',g,rfl,o1,o2,hx⟩;refine⟨p',d,q',g,?_,?_,?_,hx⟩
   ·simp[bK,el,i]
   ·dsimp only;rw[el];exact o1
   dsimp only;rw[i,ee,Nat.add_sub_cancel];exact o2
  rw[if_neg h0]
  exact tB h.aA h.aB h.free h.step h.aE h.aF h.aC h.aG (bR h.aA h.aB h.cells a).2 (vix a h.vs) a b p _ c q _ c2 h.cells (bR h.aA h.aB h.cells a).1 h.vs w (dV h a) (fun e=>by
   by_cases hx:0≤(bR h.aA h.aB h.cells a).2
   ·exact absurd ⟨e,hx⟩ h0
   ·omega) f HL HP HF HM
 by_cases k3:k=3
 ·subst k3;have e0:cA h 3 a b=(if 1≤a∧a≤9999-h.aC then some ({h with aC:=h.aC+a},h.aC+a)else none):=by unfold cA;rw[if_neg (by omega),if_neg (by omega),if_neg (by omega),if_pos rfl]
  rw[e0];by_cases h0:1≤a∧a≤9999-h.aC
  ·rw[if_pos h0];exact sY h.aA h.aB h.free h.step h.aE h.aF h.aC h.aG a b p _ c q _ c2 h.cells h.vs w q3.1 q3.2.1 h0.1 h0.2 f HL (xQ fun w'=>lW a 1 (9999-h.aC) w' h0.1 h0.2)
  rw[if_neg h0];exact tU h.aA h.aB h.free h.step h.aE h.aF h.aC h.aG a b p _ c q _ c2 h.cells h.vs w q3.1 q3.2.1 f HL (xQ fun w'=>tH a 1 (9999-h.aC) w' (by omega))
 by_cases k4:k=4
 ·subst k4;have HP:=xQ fun(w':World) (hx:Ext w w')=>kX h.aA h.aB a b p _ c h.cells w' (hS.ext hx) q1
  have e0:cA h 4 a b=(if bB h.aA h.aB h.cells a b=true then some ({h with cells:=bH h.aA h.aB h.cells a b},0)else none):=by unfold cA;rw[if_neg (by omega),if_neg (by omega),if_neg (by omega),if_neg (by omega),if_pos rfl]
  unfold cO at HP;rw[cT]at HP;rw[e0];cases hm:bB h.aA h.aB h.cells a b with
  |true=>
   rw[hm]at HP;rw[if_pos rfl];refine(qY h.aA h.aB h.free h.step h.aE h.aF h.aC h.aG a b p _ c q _ c2 h.cells (bH h.aA h.aB h.cells a b) h.vs w f HL HP).mono ?_;rintro e w' ⟨p',d,q',g,rfl,o1,o2,hx⟩;refine⟨p',d,q',g,?_,?_,o2,hx⟩
   ·simp only[bK,cT]
   dsimp only;rw[cT];exact o1
  |false=>rw[hm]at HP;rw[if_neg (by simp)];exact tA h.aA h.aB h.free h.step h.aE h.aF h.aC h.aG a b p _ c q _ c2 h.cells (bH h.aA h.aB h.cells a b) h.vs w f HL HP
 have e0:cA h k a b=none:=by unfold cA;rw[if_neg k0,if_neg k1,if_neg k2,if_neg k3,if_neg k4]
 rw[e0];exact xW h.aA h.aB h.free h.step h.aE h.aF h.aC h.aG k a b p _ c q _ c2 h.cells h.vs w k0 k1 k2 k3 k4 f HL
set_option maxHeartbeats 8000000
set_option maxRecDepth 100000
def aDw (R k:Nat)(w:World)(e:Ending)(w':World):Prop:= ∃a b c:Int,e= .returned (lY a b c)∧Rand w' R (k+60)∧ExtR R w w'
theorem ExtR.of_drew {R:Nat}{a b:World}(h:ExtR R a.drew b):ExtR R a b:=⟨h.os,h.tape,h.output,h.size,h.block⟩
theorem aLr: ∀x:Nat,x<9→ ∃y:Int,(#[(),(),(),.int .i64 1,.int .i64 1,.int .i64 2,.int .i64 2,.int .i64 3,.int .i64 4]:Array Value)[x]? =some (.int .i64 y)
 |0,_=>⟨_,rfl⟩|1,_=>⟨_,rfl⟩|2,_=>⟨_,rfl⟩|3,_=>⟨_,rfl⟩|4,_=>⟨_,rfl⟩|5,_=>⟨_,rfl⟩|6,_=>⟨_,rfl⟩|7,_=>⟨_,rfl⟩|8,_=>⟨_,rfl⟩
 |n+9,h=>absurd h (by omega)
theorem zH {vs:List aP}{x:Nat}(h:x<vs.length): ∃y:Int,(vs.flatMap aD)[x*4]? =some (.int .i64 y):=by have h0:=dW aD 4 (fun _=>rfl) vs x _ (List.getElem?_eq_getElem h) 0 (by omega);exact⟨_,by simpa[aD]using h0⟩
theorem uG (R k:Nat)(aA aB j o aE aF aC aG:Int)(p:OA)(n t:Nat)(q:OA)(m c2:Nat)(vs:List aP)(sl:List Sl2)(w:World)(bh:Rand w R k)(hk:k≤1099511600000)(hm:m≤1000)(KS:Nat)(ct:Hid (sl.length=KS))(du:KS≤10000)(cx:Hid (vs.length=m))
  (HS:Hid (Sl w q m c2 4 (vs.flatMap aD)))(hq:Hid (∀b off,0<m→q=some ⟨b,off,none⟩→b≠R))
  (cj:Hid (∀w',ExtR R w w'→Calls Tryz.prog 129 #[aH aA aB p n t] w' fun e w''=> ∃q c,e= .returned (.slice q KS c)∧w''.ownsRow w'.heap.size TSL 2 (.slice q KS c) KS (sl.flatMap aK)∧Ext w' w'')):
  Calls Tryz.prog 77 #[.pointer (some ⟨R,0,none⟩),.agg #[aA,aB,.slice p n t,j,o,aE,aF,aC,aG,.slice q m c2]] w (aDw R k w):=by
 have hR:=bh.lt;go_enter Tryz.func77,Tryz.ntmps77;go_wp2;have r1:Rand ((w.alloc (.cells #[aA,aB,.slice p n t,j,o,aE,aF,aC,aG,.slice q m c2] aL)).alloc (.cells #[(),(),()] THD)) R k:=bh.ext (by exact .alloc (.alloc (.refl _) _) _);have M1:=(((MemR.start R w hR).c0 aL #[aA,aB,.slice p n t,j,o,aE,aF,aC,aG,.slice q m c2]).c1 THD #[(),(),()])
 generalize l:((w.alloc (.cells #[aA,aB,.slice p n t,j,o,aE,aF,aC,aG,.slice q m c2] aL)).alloc (.cells #[(),(),()] THD))=w1;rw[l]at M1 r1;clear l bh;have bj:=M1.hi 0;have bl:=M1.hi 1;have dn:R<w1.heap.size:=r1.lt;refine nD (gl [aKa (w1.heap.size) TI #[(),(),(),.int .i64 1,.int .i64 1,.int .i64 2,.int .i64 2,.int .i64 3,.int .i64 4] 9,gEq (.pointer (some ⟨R,0,none⟩)),aGd (9),(fun v w'=> ∃g x:Nat,v= .pointer (some ⟨g,x,none⟩)∧x<9∧w1.heap.size≤g∧Blk w' g TI #[(),(),(),.int .i64 1,.int .i64 1,.int .i64 2,.int .i64 2,.int .i64 3,.int .i64 4]),rM,gEq (.pointer (some ⟨R,0,none⟩)),aGd (60),rM,rM,rM,gEq (.pointer (some ⟨R,0,none⟩)),aGd (12),rM,gEq (.pointer (some ⟨R,0,none⟩)),aGd (60),rM,rM,rM,(fun v _=> ∃a b:Int,v= .agg #[a,b,()]),aKb (w1.heap.size) THD #[(),(),()]]) R (k) 1 20 (by kernel_rfl) rfl (by kernel_rfl) (by kernel_rfl) (by kernel_rfl) r1 (uP (bU (aDl (by omega) _ _ _) (bU (dY _) (bU (kQ _) (bU (fun v w w' ⟨g,x,h1,h2,h3,h4⟩ hx=>⟨g,x,h1,h2,h3,ExtR.blk hx h4 (by omega)⟩) (bU (fJ) (bU (dY _) (bU (kQ _) (bU (fJ) (bU (fJ) (bU (fJ) (bU (dY _) (bU (kQ _) (bU (fJ) (bU (dY _) (bU (kQ _) (bU (fJ) (bU (fJ) (bU (fJ) (bU (fun _ _ _ h _=>h) (bU (aDm (by omega) _ _) (yR)))))))))))))))))))))) rfl (k:=21) (by kernel_rfl) (by decide) (ls:= [(0,some 8),(1,some 9),(2,some 10),(3,some 11),(4,some 12),(5,some 13),(6,some 14),(7,some 15),(8,some 16),(9,some 17),(10,some 18),(11,some 19),(12,some 20),(13,some 21),(14,some 22),(15,some 23),(16,some 24),(17,some 25),(18,some 26),(19,some 5)]) (by kernel_rfl) (ir:= [0,1,2,3,4,5,6,7,8,9,10,11,12,13,14,15,16,17,18,19]) (by kernel_rfl) ?steps (tl:=#[true,true,true,true,true,true,true,true,true,true,true,true,true,true,true,true,true,true,true,true,false]) (by kernel_rfl) ?fin
 case steps=>
  refine sCr [] rfl (fun wi kk hx hr hkk=> ?_) ?_
  ·intro K hK;go_simp;exact hK _ _ ⟨.slice (some ⟨wi.heap.size,0,none⟩) 9 9,rfl,⟨wi.heap.size,rfl,by have:=hx.sz;simp at this;omega,Blk.new _ _ _⟩,(fX hr ((Ext.refl _).alloc _))⟩
  refine sSr0 [] ?_;refine sCr [(1,some 9)] rfl (fun wi kk hx hr hkk=> ?_) ?_
  ·intro v1 h1 K hK;obtain rfl:=h1;go_wp2_with fail;refine(cL R kk (9) _ hr (by omega)).mono ?_;rintro e w5 ⟨x,rfl,xa,xb,r5,x5⟩;go_simp;exact hK _ _ ⟨.int .i64 x,rfl,⟨x,rfl,xa,by have hp:(0:Int)<9:=(by omega);omega⟩,⟨x5,r5⟩⟩
  refine sCr [(0,some 8),(2,some 10)] rfl (fun wi kk hx hr hkk=> ?_) ?_
  ·intro v0 h0 v2 h2 K hK;obtain⟨g0,rfl,bz,B0⟩:=h0;obtain⟨x2,rfl,b7,ca⟩:=h2;obtain⟨xn,rfl⟩:=Int.eq_ofNat_of_zero_le b7;have i1:(xn:Int)<9:=ca;go_simp;exact hK _ _ ⟨_,rfl,⟨g0,xn,rfl,by omega,bz,B0⟩,(fX hr (Ext.refl _))⟩
  refine sCr [(3,some 11)] rfl (fun wi kk hx hr hkk=> ?_) ?_
  ·intro v3 h3 K hK;obtain⟨g3,x3,rfl,cb,cw,B3⟩:=h3;obtain⟨y,hy⟩:=aLr x3 cb;have c:=(B3.cell x3).trans hy;go_simp;exact hK _ _ ⟨_,rfl,⟨_,rfl⟩,(fX hr (Ext.refl _))⟩
  refine sSr0 [] ?_;refine sCr [(5,some 13)] rfl (fun wi kk hx hr hkk=> ?_) ?_
  ·intro v5 h5 K hK;obtain rfl:=h5;go_wp2_with fail;refine(cL R kk (60) _ hr (by omega)).mono ?_;rintro e w5 ⟨x,rfl,xa,xb,r5,x5⟩;go_simp;exact hK _ _ ⟨.int .i64 x,rfl,⟨x,rfl,xa,by have hp:(0:Int)<60:=(by omega);omega⟩,⟨x5,r5⟩⟩
  refine sCr [(6,some 14)] rfl (fun wi kk hx hr hkk=> ?_) ?_
  ·intro v6 h6 K hK;obtain⟨x6,rfl,a8,a9⟩:=h6;go_simp;exact hK _ _ ⟨_,rfl,⟨_,rfl⟩,(fX hr (Ext.refl _))⟩
  refine sCr [(7,some 15)] rfl (fun wi kk hx hr hkk=> ?_) ?_
  ·intro v7 h7 K hK;obtain⟨n7,rfl⟩:=h7;go_simp;exact hK _ _ ⟨_,rfl,⟨_,rfl⟩,(fX hr (Ext.refl _))⟩
  refine sCr [(4,some 12),(8,some 16)] rfl (fun wi kk hx hr hkk=> ?_) ?_
  ·intro v4 h4 v8 h8 K hK;obtain⟨n4,rfl⟩:=h4;obtain⟨n8,rfl⟩:=h8;go_simp;exact hK _ _ ⟨_,rfl,⟨_,rfl⟩,(fX hr (Ext.refl _))⟩
  refine sSr0 [] ?_;refine sCr [(10,some 18)] rfl (fun wi kk hx hr hkk=> ?_) ?_
  ·intro b4 az K hK;obtain rfl:=az;go_wp2_with fail;refine(cL R kk (12) _ hr (by omega)).mono ?_;rintro e w5 ⟨x,rfl,xa,xb,r5,x5⟩;go_simp;exact hK _ _ ⟨.int .i64 x,rfl,⟨x,rfl,xa,by have hp:(0:Int)<12:=(by omega);omega⟩,⟨x5,r5⟩⟩
  refine sCr [(11,some 19)] rfl (fun wi kk hx hr hkk=> ?_) ?_
  ·intro db ba K hK;obtain⟨di,rfl,b5,b8⟩:=ba;go_simp;exact hK _ _ ⟨_,rfl,⟨_,rfl⟩,(fX hr (Ext.refl _))⟩
  refine sSr0 [] ?_;refine sCr [(13,some 21)] rfl (fun wi kk hx hr hkk=> ?_) ?_
  ·intro dd bc K hK;obtain rfl:=bc;go_wp2_with fail;refine(cL R kk (60) _ hr (by omega)).mono ?_;rintro e w5 ⟨x,rfl,xa,xb,r5,x5⟩;go_simp;exact hK _ _ ⟨.int .i64 x,rfl,⟨x,rfl,xa,by have hp:(0:Int)<60:=(by omega);omega⟩,⟨x5,r5⟩⟩
  refine sCr [(14,some 22)] rfl (fun wi kk hx hr hkk=> ?_) ?_
  ·intro de bd K hK;obtain⟨dj,rfl,b6,b9⟩:=bd;go_simp;exact hK _ _ ⟨_,rfl,⟨_,rfl⟩,(fX hr (Ext.refl _))⟩
  refine sCr [(15,some 23)] rfl (fun wi kk hx hr hkk=> ?_) ?_
  ·intro df be K hK;obtain⟨c7,rfl⟩:=be;go_simp;exact hK _ _ ⟨_,rfl,⟨_,rfl⟩,(fX hr (Ext.refl _))⟩
  refine sCr [(12,some 20),(16,some 24)] rfl (fun wi kk hx hr hkk=> ?_) ?_
  ·intro dc bb dg bf K hK;obtain⟨c6,rfl⟩:=bb;obtain⟨c8,rfl⟩:=bf;go_simp;exact hK _ _ ⟨_,rfl,⟨_,rfl⟩,(fX hr (Ext.refl _))⟩
  refine sCr [(9,some 17),(17,some 25)] rfl (fun wi kk hx hr hkk=> ?_) ?_
  ·intro v9 h9 dh bg K hK;obtain⟨n9,rfl⟩:=h9;obtain⟨da,rfl⟩:=bg;go_simp;exact hK _ _ ⟨_,rfl,⟨_,_,rfl⟩,(fX hr (Ext.refl _))⟩
  refine sCr [] rfl (fun wi kk hx hr hkk=> ?_) StepsLR.nil
  ·intro K hK;go_simp;exact hK _ _ ⟨.pointer (some ⟨wi.heap.size,0,none⟩),rfl,⟨wi.heap.size,rfl,by have:=hx.sz;simp at this;omega,Blk.new _ _ _⟩,(fX hr ((Ext.refl _).alloc _))⟩
 case fin=>
  intro wi hx hr v0 h0 v1 h1 v2 h2 v3 h3 v4 h4 v5 h5 v6 h6 v7 h7 v8 h8 v9 h9 b4 az db ba dc bb dd bc de bd df be dg bf dh bg dv cr dw cs;obtain⟨g0,rfl,bz,B0⟩:=h0;obtain rfl:=h1;obtain⟨x2,rfl,b7,ca⟩:=h2;obtain⟨g3,x3,rfl,cb,cw,B3⟩:=h3;obtain⟨n4,rfl⟩:=h4;obtain rfl:=h5;obtain⟨x6,rfl,a8,a9⟩:=h6;obtain⟨n7,rfl⟩:=h7;obtain⟨n8,rfl⟩:=h8;obtain⟨n9,rfl⟩:=h9;obtain rfl:=az;obtain⟨di,rfl,b5,b8⟩:=ba;obtain⟨c6,rfl⟩:=bb;obtain rfl:=bc;obtain⟨dj,rfl,b6,b9⟩:=bd;obtain⟨c7,rfl⟩:=be;obtain⟨c8,rfl⟩:=bf;obtain⟨da,rfl⟩:=bg;obtain⟨d,aq,rfl⟩:=cr;obtain⟨f,rfl,b0,bv⟩:=cs;have b2:ExtR R w1 wi:=hx.of_drew;have dt:R<f:=by omega
  have dr:R<wi.heap.size:=hr.lt;have M2:=(M1.blkR b2 bv b0)
  clear b2 bv M1 bj bl;have bm:=M2.hi 0;have bo:=M2.hi 1;have bp:=M2.hi 2;obtain⟨d0,au,d1,ar,d2,av⟩:=(M2.bk 0).trif;refine wpAny_ready (rs:= [20]) (by kernel_rfl) (by simp) ?_;refine AllReady.cons rfl (fun K hK=> ?_) AllReady.nil;go_simp;refine hK _ _ ?_;clear hK K;refine wpAny_done (by kernel_rfl) ?_ _;try go_frame
  have M3:=(show MemR R w ((wi.setCell ⟨f,0,none⟩ (.int .i64 d)).setCell ⟨f,1,none⟩ (.int .i64 aq)) [aI w.heap.size (f) THD #[d,aq,()],aI w.heap.size (w.heap.size+1) THD #[(),(),()],aI w.heap.size (w.heap.size) aL #[aA,aB,.slice p n t,j,o,aE,aF,aC,aG,.slice q m c2]]from((M2.store (i:=0) rfl 0 (.int .i64 d)).store (i:=0) rfl 1 (.int .i64 aq)))
  have r2:Rand (((wi.setCell ⟨f,0,none⟩ (.int .i64 d)).setCell ⟨f,1,none⟩ (.int .i64 aq)).setCell ⟨f,2,none⟩ (.int .i64 0)) R (k+20):=xN;clear d0 au d1 ar d2 av bm bo bp hr;have M4:=(show MemR R w (((wi.setCell ⟨f,0,none⟩ (.int .i64 d)).setCell ⟨f,1,none⟩ (.int .i64 aq)).setCell ⟨f,2,none⟩ (.int .i64 0)) [aI w.heap.size (f) THD #[d,aq,()],aI w.heap.size (w.heap.size+1) THD #[(),(),()],aI w.heap.size (w.heap.size) aL #[aA,aB,.slice p n t,j,o,aE,aF,aC,aG,.slice q m c2]]from(M3.store (i:=0) rfl 2 (.int .i64 0)))
  generalize l:World.setCell _ _ _=w2;rw[l]at M4 r2;clear l M2 M3;have u:=M4.hi 0;have aa:=M4.hi 1;have ab:=M4.hi 2;go_upto_region 2 with fail;go_cut [40] (fun s40 wx=> ∃c:Bool,s40= .bool c∧(c=true→0<m)∧MemR R w wx [aI w.heap.size (f) THD #[d,aq,()],aI w.heap.size (w.heap.size+1) THD #[(),(),()],aI w.heap.size (w.heap.size) aL #[aA,aB,.slice p n t,j,o,aE,aF,aC,aG,.slice q m c2]]∧Rand wx R (k+21))
  case first=>
   have c9:=(M4.bk 2).cl 9;have d0:=(M4.bk 0).cl 0;by_cases hm0:m=0
   ·skip;have d0:decide ((0:Int)<(m:Int))=false:=by simp;omega
    go_wp2_with fail;go_meet;exact⟨false,rfl,fun h=>by simp at h,M4,r2.mono (by omega)⟩
   have d0:decide ((0:Int)<(m:Int))=true:=by simp;omega
   by_cases ha:d=0
   ·skip;subst ha;go_wp2_with fail;go_meet;exact⟨false,rfl,fun h=>by simp at h,M4,r2.mono (by omega)⟩
   have d1:(d !=0)=true:=by simp[ha]
   go_wp2_with fail;refine(cL R (k+20) (5) _ r2 (by omega)).mono ?_;rintro e w3 ⟨x,rfl,xa,xb,r3,xx⟩;have M5:=(M4.pickd xx)
   clear xx M4 u aa ab;have an:=M5.hi 0;have ad:=M5.hi 1;have ae:=M5.hi 2;by_cases x0:0<x
   ·have d2:decide (0<x)=true:=by simp[x0]
    go_wp2_with fail;go_meet;exact⟨true,rfl,fun _=>by omega,M5,r3⟩
   have d2:decide (0<x)=false:=by simp;omega
   go_wp2_with fail;go_meet;exact⟨false,rfl,fun h=>by simp at h,M5,r3⟩
  case rest=>
   clear M4 r2 u aa ab;obtain⟨c,rfl,cv,MC,r3⟩:=hcut;have M3:=MC;clear MC;have dp:R<wc.heap.size:=r3.lt;have a0:=M3.hi 0;have a1:=M3.hi 1;have a2:=M3.hi 2;go_upto_if 40 with fail;go_cut [] (fun wx=> ∃b1:Int,MemR R w wx [aI w.heap.size (f) THD #[d,b1,()],aI w.heap.size (w.heap.size+1) THD #[(),(),()],aI w.heap.size (w.heap.size) aL #[aA,aB,.slice p n t,j,o,aE,aF,aC,aG,.slice q m c2]]∧Rand wx R (k+40))
   case first=>
    cases c with
    |false=>go_wp2_with fail;go_meet;exact⟨aq,M3,r3.mono (by omega)⟩
    |true=>
     have hm0:=cv rfl;obtain⟨b,off,rfl,hb,ay⟩:=HS.out.rd hm0;have cu:b≠R:=hq.out b off hm0 rfl;have ci:=xQ ay;clear ay;have B0:=xQ (M3.bk 2);have ck:=xQ M3.ext;go_upto_region 3 with fail;refine nD (gl [gEq (.pointer (some ⟨w.heap.size,9,none⟩)),gEq (.slice (some ⟨b,off,none⟩) m c2),gEq (.pointer (some ⟨R,0,none⟩)),gEq (.pointer (some ⟨w.heap.size,9,none⟩)),gEq (.slice (some ⟨b,off,none⟩) m c2),gEq (m:Int),aGd (m:Int),(fun v _=> ∃x:Nat,v= .pointer (some ⟨b,off+x*4,none⟩)∧x<m),(fun v _=> ∃x:Nat,v= .pointer (some ⟨b,off+x*4,none⟩)∧x<m),rM,gEq (.pointer (some ⟨f,1,none⟩))]) R (k+21) 1 11 (by kernel_rfl) rfl (by kernel_rfl) (by kernel_rfl) (by kernel_rfl) r3 (uP (bU (dY _) (bU (dY _) (bU (dY _) (bU (dY _) (bU (dY _) (bU (dY _) (bU (kQ _) (bU (fun _ _ _ h _=>h) (bU (fun _ _ _ h _=>h) (bU (fJ) (bU (dY _) (yR))))))))))))) rfl (k:=12) (by kernel_rfl) (by decide) (ls:= [(0,some 41),(1,some 42),(2,some 43),(3,some 44),(4,some 45),(5,some 46),(6,some 47),(7,some 48),(8,some 49),(9,some 50),(10,some 51)]) (by kernel_rfl) (ir:= [0,1,2,3,4,5,6,7,8,9,10]) (by kernel_rfl) ?steps (tl:=#[true,true,true,true,true,true,true,true,true,true,true,false]) (by kernel_rfl) ?fin
     case steps=>
      refine sSr0 [] ?_;refine sCr [(0,some 41)] rfl (fun wi kk hx hr hkk=> ?_) ?_
      ·intro v0 h0 K hK;obtain rfl:=h0;have cl:=(hx.of_drew.blk B0 (by omega)).cl 9;go_simp;exact hK _ _ ⟨.slice (some ⟨b,off,none⟩) m c2,rfl,rfl,(fX hr (Ext.refl _))⟩
      refine sSr0 [] (sSr0 [] ?_);refine sCr [(3,some 44)] rfl (fun wi kk hx hr hkk=> ?_) ?_
      ·intro v3 h3 K hK;obtain rfl:=h3;have cl:=(hx.of_drew.blk B0 (by omega)).cl 9;go_simp;exact hK _ _ ⟨.slice (some ⟨b,off,none⟩) m c2,rfl,rfl,(fX hr (Ext.refl _))⟩
      refine sSr1 [(4,some 45)] ?_;refine sCr [(2,some 43),(5,some 46)] rfl (fun wi kk hx hr hkk=> ?_) ?_
      ·intro v2 h2 v5 h5 K hK;obtain rfl:=h2;obtain rfl:=h5;go_wp2_with fail;refine(cL R kk (m:Int) _ hr (by omega)).mono ?_;rintro e w5 ⟨x,rfl,xa,xb,r5,x5⟩;go_simp;exact hK _ _ ⟨.int .i64 x,rfl,⟨x,rfl,xa,by have hp:(0:Int)<(m:Int):=(by omega);omega⟩,⟨x5,r5⟩⟩
      refine sCr [(1,some 42),(6,some 47)] rfl (fun wi kk hx hr hkk=> ?_) ?_
      ·intro v1 h1 v6 h6 K hK;obtain rfl:=h1;obtain⟨x6,rfl,a8,a9⟩:=h6;obtain⟨xn,rfl⟩:=Int.eq_ofNat_of_zero_le a8;have i1:(xn:Int)<(m:Int):=a9;have i0:(0:Int)≤(xn:Int):=by omega
       go_simp;exact hK _ _ ⟨_,rfl,⟨xn,rfl,by omega⟩,(fX hr (Ext.refl _))⟩
      refine sCr [(7,some 48)] rfl (fun wi kk hx hr hkk=> ?_) ?_
      ·intro v7 h7 K hK;obtain⟨x7,rfl,cc⟩:=h7;go_simp;exact hK _ _ ⟨_,rfl,⟨x7,rfl,cc⟩,(fX hr (Ext.refl _))⟩
      refine sCr [(8,some 49)] rfl (fun wi kk hx hr hkk=> ?_) ?_
      ·intro v8 h8 K hK;obtain⟨x8,rfl,cd⟩:=h8;obtain⟨y,hy⟩:=zH (vs:=vs) (x:=x8) (by rw[cx.out];exact cd);have c:=(((ck.out.trans hx.of_drew).cell (off+x8*4) hb cu).trans (ci (x8*4) (by omega))).trans hy;go_simp;exact hK _ _ ⟨_,rfl,⟨_,rfl⟩,(fX hr (Ext.refl _))⟩
      exact sSr0 [] StepsLR.nil
     case fin=>
      intro wi hx hr v0 h0 v1 h1 v2 h2 v3 h3 v4 h4 v5 h5 v6 h6 v7 h7 v8 h8 v9 h9 b4 az;obtain rfl:=h0;obtain rfl:=h1;obtain rfl:=h2;obtain rfl:=h3;obtain rfl:=h4;obtain rfl:=h5;obtain⟨x6,rfl,a8,a9⟩:=h6;obtain⟨x7,rfl,cc⟩:=h7;obtain⟨x8,rfl,cd⟩:=h8;obtain⟨n9,rfl⟩:=h9;obtain rfl:=az;have b3:ExtR R wc wi:=hx.of_drew;have M4:=(M3.pickd b3)
      clear b3 M3 a0 a1 a2;have u:=M4.hi 0;have aa:=M4.hi 1;have ab:=M4.hi 2;have d1:=(M4.bk 0).cl 1;have ar:=(M4.bk 0).frozen 1;refine wpAny_ready (rs:= [11]) (by kernel_rfl) (by simp) ?_;refine AllReady.cons rfl (fun K hK=> ?_) AllReady.nil;go_simp;refine hK _ _ ?_;clear hK K;refine wpAny_done (by kernel_rfl) ?_ _;try go_frame
      have r4:Rand (wi.setCell ⟨f,1,none⟩ (.int .i64 n9)) R (k+40):=Rand.mono (k:=k+21+11) xN (by omega);go_wp2_with fail;go_meet;exact⟨n9,(M4.store (i:=0) rfl 1 (.int .i64 n9)),r4⟩
   case rest=>
    clear M3 r3 a0 a1 a2;obtain⟨b1,MC,r4⟩:=hcut;have M4:=MC;clear MC;have dq:R<wc.heap.size:=r4.lt;have u:=M4.hi 0;have aa:=M4.hi 1;have ab:=M4.hi 2;have d0:=(M4.bk 0).cl 0;by_cases k1:d=1
    ·skip;have cy:(d==1)=true:=by simp[k1]
     clear k1;go_wp2_with fail;clear d0;refine(cL R (k+40) (40) _ r4 (by omega)).mono ?_;rintro e w5 ⟨x,rfl,xa,xb,r5,xx⟩;have M5:=(M4.pickd xx)
     clear xx M4 u aa ab;have an:=M5.hi 0;have ad:=M5.hi 1;have ae:=M5.hi 2;go_wp2_with fail;refine(cL R (k+40+1) (40) _ r5 (by omega)).mono ?_;rintro e w6 ⟨y0,rfl,dk,dl,r6,a5⟩;have M6:=(M5.pickd a5)
     clear a5 M5 an ad ae;have ao:=M6.hi 0;have ag:=M6.hi 1;have ah:=M6.hi 2;obtain⟨d0,au,d1,ar,d2,av⟩:=(M6.bk 0).trif;go_upto_region 15 with fail;clear d0 au d1 ar d2 av;generalize l:World.setCell _ _ _=wy;obtain⟨y,hy⟩: ∃y,w6.setCell ⟨f,2,none⟩ (.int .i64 y)=wy:=⟨_,l⟩
     clear l;have M7:=(show MemR R w (w6.setCell ⟨f,2,none⟩ (.int .i64 y)) [aI w.heap.size (f) THD #[d,b1,y],aI w.heap.size (w.heap.size+1) THD #[(),(),()],aI w.heap.size (w.heap.size) aL #[aA,aB,.slice p n t,j,o,aE,aF,aC,aG,.slice q m c2]]from(M6.store (i:=0) rfl 2 (.int .i64 y)))
     have r7:Rand (w6.setCell ⟨f,2,none⟩ (.int .i64 y)) R (k+40+1+1):=xN;rw[hy]at M7 r7;clear hy M6 ao ag ah;have aj:=M7.hi 0;have ap:=M7.hi 1;have ai:=M7.hi 2;obtain⟨f0,ak,f1,al,f2,am⟩:=(M7.bk 1).trif;obtain⟨d0,d1,d2⟩:=(M7.bk 0).tri;obtain⟨r,s⟩:=M7.nq 0 1;go_wp2;clear f0 ak f1 al f2 am d0 d1 d2 r s;have M8:=(show MemR R w ((wy.setCell ⟨w.heap.size+1,0,none⟩ (.int .i64 d)).setCell ⟨w.heap.size+1,1,none⟩ (.int .i64 b1)) [aI w.heap.size (f) THD #[d,b1,y],aI w.heap.size (w.heap.size+1) THD #[d,b1,()],aI w.heap.size (w.heap.size) aL #[aA,aB,.slice p n t,j,o,aE,aF,aC,aG,.slice q m c2]]from((M7.store (i:=1) rfl 0 (.int .i64 d)).store (i:=1) rfl 1 (.int .i64 b1)))
     have r9:Rand (((wy.setCell ⟨w.heap.size+1,0,none⟩ (.int .i64 d)).setCell ⟨w.heap.size+1,1,none⟩ (.int .i64 b1)).setCell ⟨w.heap.size+1,2,none⟩ (.int .i64 y)) R (k+40+1+1):=xN;clear aj ap ai;have M9:=(show MemR R w (((wy.setCell ⟨w.heap.size+1,0,none⟩ (.int .i64 d)).setCell ⟨w.heap.size+1,1,none⟩ (.int .i64 b1)).setCell ⟨w.heap.size+1,2,none⟩ (.int .i64 y)) [aI w.heap.size (f) THD #[d,b1,y],aI w.heap.size (w.heap.size+1) THD #[d,b1,y],aI w.heap.size (w.heap.size) aL #[aA,aB,.slice p n t,j,o,aE,aF,aC,aG,.slice q m c2]]from(M8.store (i:=1) rfl 2 (.int .i64 y)))
     generalize l:World.setCell _ _ _=wz;rw[l]at M9 r9;clear l M7 M8;have c1:=M9.hi 0;have c3:=M9.hi 1;have c4:=M9.hi 2;obtain⟨y0,y1,y2⟩:=(M9.bk 1).tri;exact bodyPost_ret (v:=lY (d) (b1) (y)) (by simp[results,Tryz.results77,go_sem, *]) rfl ⟨_,_,_,rfl,r9.mono (by omega),M9.ext⟩
    have cy:(d==1)=false:=by simp[k1]
    by_cases k3:d=3
    ·skip;have cz:(d==3)=true:=by simp[k3]
     clear k3 k1;go_wp2_with fail;clear d0;refine(cL R (k+40) (60) _ r4 (by omega)).mono ?_;rintro e w5 ⟨x,rfl,xa,xb,r5,xx⟩;have M5:=(M4.pickd xx)
     clear xx M4 u aa ab;have an:=M5.hi 0;have ad:=M5.hi 1;have ae:=M5.hi 2;go_wp2_with fail;refine(cL R (k+40+1) (3) _ r5 (by omega)).mono ?_;rintro e w6 ⟨y0,rfl,dk,dl,r6,a5⟩;have M6:=(M5.pickd a5)
     clear a5 M5 an ad ae;have ao:=M6.hi 0;have ag:=M6.hi 1;have ah:=M6.hi 2;go_wp2_with fail;refine(cL R (k+40+1+1) (3) _ r6 (by omega)).mono ?_;rintro e w7 ⟨z0,rfl,dx,dy,r7,ce⟩;have M7:=(M6.pickd ce)
     clear ce M6 ao ag ah;have aj:=M7.hi 0;have ap:=M7.hi 1;have ai:=M7.hi 2;obtain⟨d0,au,d1,ar,d2,av⟩:=(M7.bk 0).trif;go_upto_region 15 with fail;clear d0 au d1 ar d2 av;generalize l:World.setCell _ _ _=wy;obtain⟨y,hy⟩: ∃y,w7.setCell ⟨f,1,none⟩ (.int .i64 y)=wy:=⟨_,l⟩
     clear l;have M8:=(show MemR R w (w7.setCell ⟨f,1,none⟩ (.int .i64 y)) [aI w.heap.size (f) THD #[d,y,()],aI w.heap.size (w.heap.size+1) THD #[(),(),()],aI w.heap.size (w.heap.size) aL #[aA,aB,.slice p n t,j,o,aE,aF,aC,aG,.slice q m c2]]from(M7.store (i:=0) rfl 1 (.int .i64 y)))
     have r8:Rand (w7.setCell ⟨f,1,none⟩ (.int .i64 y)) R (k+40+1+1+1):=xN;rw[hy]at M8 r8;clear hy M7 aj ap ai;have aw:=M8.hi 0;have bs:=M8.hi 1;have ax:=M8.hi 2;obtain⟨f0,ak,f1,al,f2,am⟩:=(M8.bk 1).trif;obtain⟨d0,d1,d2⟩:=(M8.bk 0).tri;obtain⟨r,s⟩:=M8.nq 0 1;go_wp2;clear f0 ak f1 al f2 am d0 d1 d2 r s;have M9:=(show MemR R w ((wy.setCell ⟨w.heap.size+1,0,none⟩ (.int .i64 d)).setCell ⟨w.heap.size+1,1,none⟩ (.int .i64 y)) [aI w.heap.size (f) THD #[d,y,()],aI w.heap.size (w.heap.size+1) THD #[d,y,()],aI w.heap.size (w.heap.size) aL #[aA,aB,.slice p n t,j,o,aE,aF,aC,aG,.slice q m c2]]from((M8.store (i:=1) rfl 0 (.int .i64 d)).store (i:=1) rfl 1 (.int .i64 y)))
     have r9:Rand (((wy.setCell ⟨w.heap.size+1,0,none⟩ (.int .i64 d)).setCell ⟨w.heap.size+1,1,none⟩ (.int .i64 y)).setCell ⟨w.heap.size+1,2,none⟩ (.int .i64 0)) R (k+40+1+1+1):=xN;clear aw bs ax;have af:=(show MemR R w (((wy.setCell ⟨w.heap.size+1,0,none⟩ (.int .i64 d)).setCell ⟨w.heap.size+1,1,none⟩ (.int .i64 y)).setCell ⟨w.heap.size+1,2,none⟩ (.int .i64 0)) [aI w.heap.size (f) THD #[d,y,()],aI w.heap.size (w.heap.size+1) THD #[d,y,()],aI w.heap.size (w.heap.size) aL #[aA,aB,.slice p n t,j,o,aE,aF,aC,aG,.slice q m c2]]from(M9.store (i:=1) rfl 2 (.int .i64 0)))
     generalize l:World.setCell _ _ _=wz;rw[l]at af r9;clear l M8 M9;have a6:=af.hi 0;have cf:=af.hi 1;have a7:=af.hi 2;obtain⟨y0,y1,y2⟩:=(af.bk 1).tri;exact bodyPost_ret (v:=lY (d) (y) (0)) (by simp[results,Tryz.results77,go_sem, *]) rfl ⟨_,_,_,rfl,r9.mono (by omega),af.ext⟩
    have cz:(d==3)=false:=by simp[k3]
    by_cases k4:d=4
    ·skip;have c0:(d==4)=true:=by simp[k4]
     clear k4 k3 k1;have cm:=(M4.bk 2).cl 0;have cn:=(M4.bk 2).cl 1;have co:=(M4.bk 2).cl 2;go_wp2_with fail;clear d0 cm cn co;refine(cj _ M4.ext).mono ?_;rintro e w5 ⟨q5,c5,rfl,ho,hx⟩;have r5:Rand w5 R (k+40):=r4.ext hx;have M5:=(M4.call hx ho)
     clear M4 u aa ab hx ho r4;have ad:=M5.hi 1;have ae:=M5.hi 2;have a3:=M5.hi 3;by_cases l0:KS=0
     ·skip;have bw:decide ((0:Int)<(KS:Int))=false:=by simp;omega
      have bx:decide (0<KS)=false:=by simp;omega
      clear l0;obtain⟨f0,ak,f1,al,f2,am⟩:=(M5.bk 2).trif;obtain⟨d0,d1,d2⟩:=(M5.bk 1).tri;obtain⟨r,s⟩:=M5.nq 1 2;go_wp2;clear f0 ak f1 al f2 am d0 d1 d2 r s;have M6:=(show MemR R w ((w5.setCell ⟨w.heap.size+1,0,none⟩ (.int .i64 d)).setCell ⟨w.heap.size+1,1,none⟩ (.int .i64 b1)) [aJ w.heap.size TSL 2 (q5) (KS) (c5) (sl.flatMap aK),aI w.heap.size (f) THD #[d,b1,()],aI w.heap.size (w.heap.size+1) THD #[d,b1,()],aI w.heap.size (w.heap.size) aL #[aA,aB,.slice p n t,j,o,aE,aF,aC,aG,.slice q m c2]]from((M5.store (i:=2) rfl 0 (.int .i64 d)).store (i:=2) rfl 1 (.int .i64 b1)))
      have r9:Rand (((w5.setCell ⟨w.heap.size+1,0,none⟩ (.int .i64 d)).setCell ⟨w.heap.size+1,1,none⟩ (.int .i64 b1)).setCell ⟨w.heap.size+1,2,none⟩ (.int .i64 0)) R (k+40):=xN;clear ad ae a3;have M7:=(show MemR R w (((w5.setCell ⟨w.heap.size+1,0,none⟩ (.int .i64 d)).setCell ⟨w.heap.size+1,1,none⟩ (.int .i64 b1)).setCell ⟨w.heap.size+1,2,none⟩ (.int .i64 0)) [aJ w.heap.size TSL 2 (q5) (KS) (c5) (sl.flatMap aK),aI w.heap.size (f) THD #[d,b1,()],aI w.heap.size (w.heap.size+1) THD #[d,b1,()],aI w.heap.size (w.heap.size) aL #[aA,aB,.slice p n t,j,o,aE,aF,aC,aG,.slice q m c2]]from(M6.store (i:=2) rfl 2 (.int .i64 0)))
      generalize l:World.setCell _ _ _=wz;rw[l]at M7 r9;clear l M5 M6;have ap:=M7.hi 1;have ai:=M7.hi 2;have a4:=M7.hi 3;obtain⟨y0,y1,y2⟩:=(M7.bk 2).tri;exact bodyPost_ret (v:=lY (d) (b1) (0)) (by simp[results,Tryz.results77,go_sem, *]) rfl ⟨_,_,_,rfl,r9.mono (by omega),M7.ext⟩
     skip;have bw:decide ((0:Int)<(KS:Int))=true:=by simp;omega
     have bx:decide (0<KS)=true:=by simp;omega
     go_wp2_with fail;refine(cL R (k+40) (KS:Int) _ r5 (by omega)).mono ?_;rintro e w6 ⟨x,rfl,xa,xb,r6,xx⟩;have M6:=(M5.pickd xx)
     clear xx M5 ad ae a3;have ag:=M6.hi 1;have ah:=M6.hi 2;have bq:=M6.hi 3;obtain⟨g5,rfl,dm,ds⟩:=M6.so 0;obtain⟨xn,rfl⟩:=Int.eq_ofNat_of_zero_le xa;have i1:(xn:Int)<(KS:Int):=by omega
     obtain⟨⟨sf,st⟩,bi⟩: ∃z,sl[xn]? =some z:=⟨_,List.getElem?_eq_getElem (by rw[ct.out];omega)⟩
     have cp:w6.cell? ⟨g5,xn*2,none⟩=some (.int .i64 sf):=by have h1:=dW aK 2 (fun _=>rfl) sl xn _ bi 0 (by omega);rw[(M6.ow 0).cellAt (xn*2) (by omega)];simpa[aK]using h1
     have cq:w6.cell? ⟨g5,xn*2+1,none⟩=some (.int .i64 st):=by have h1:=dW aK 2 (fun _=>rfl) sl xn _ bi 1 (by omega);rw[(M6.ow 0).cellAt (xn*2+1) (by omega)];simpa[aK]using h1
     clear bi l0 bw bx;go_upto_region 13 with fail;clear cp cq;have r7:Rand (w6.alloc (.cells #[sf,st] TSL)) R (k+40+1):=xN;have M7:=(M6.c0 TSL #[sf,st])
     generalize l:(w6.alloc (.cells #[sf,st] TSL))=w7;rw[l]at M7 r7;clear l r6 M6 ag ah bq;have aj:=M7.hi 0;have ai:=M7.hi 2;have a4:=M7.hi 3;have br:=M7.hi 4;obtain⟨d0,au,d1,ar,d2,av⟩:=(M7.bk 2).trif;have e0:=(M7.bk 0).cl 0;have e1:=(M7.bk 0).cl 1;obtain⟨r,s⟩:=M7.nq 0 2;go_upto_region 15 with fail;clear d0 au d1 ar d2 av e0 e1 r s;have r8:Rand ((w7.setCell ⟨f,1,none⟩ (.int .i64 sf)).setCell ⟨f,2,none⟩ (.int .i64 st)) R (k+40+1):=xN;have M8:=(show MemR R w ((w7.setCell ⟨f,1,none⟩ (.int .i64 sf)).setCell ⟨f,2,none⟩ (.int .i64 st)) [aI w.heap.size (w6.heap.size) TSL #[sf,st],aJ w.heap.size TSL 2 (some ⟨g5,0,none⟩) (KS) (c5) (sl.flatMap aK),aI w.heap.size (f) THD #[d,sf,st],aI w.heap.size (w.heap.size+1) THD #[(),(),()],aI w.heap.size (w.heap.size) aL #[aA,aB,.slice p n t,j,o,aE,aF,aC,aG,.slice q m c2]]from((M7.store (i:=2) rfl 1 (.int .i64 sf)).store (i:=2) rfl 2 (.int .i64 st)))
     generalize l:World.setCell _ _ _=w8;rw[l]at M8 r8;clear l r7 M7 aj ai a4 br;have aw:=M8.hi 0;have ax:=M8.hi 2;have bt:=M8.hi 3;have bu:=M8.hi 4;obtain⟨f0,ak,f1,al,f2,am⟩:=(M8.bk 3).trif;obtain⟨d0,d1,d2⟩:=(M8.bk 2).tri;obtain⟨r,s⟩:=M8.nq 2 3;go_wp2;clear f0 ak f1 al f2 am d0 d1 d2 r s;have M9:=(show MemR R w ((w8.setCell ⟨w.heap.size+1,0,none⟩ (.int .i64 d)).setCell ⟨w.heap.size+1,1,none⟩ (.int .i64 sf)) [aI w.heap.size (w6.heap.size) TSL #[sf,st],aJ w.heap.size TSL 2 (some ⟨g5,0,none⟩) (KS) (c5) (sl.flatMap aK),aI w.heap.size (f) THD #[d,sf,st],aI w.heap.size (w.heap.size+1) THD #[d,sf,()],aI w.heap.size (w.heap.size) aL #[aA,aB,.slice p n t,j,o,aE,aF,aC,aG,.slice q m c2]]from((M8.store (i:=3) rfl 0 (.int .i64 d)).store (i:=3) rfl 1 (.int .i64 sf)))
     have r9:Rand (((w8.setCell ⟨w.heap.size+1,0,none⟩ (.int .i64 d)).setCell ⟨w.heap.size+1,1,none⟩ (.int .i64 sf)).setCell ⟨w.heap.size+1,2,none⟩ (.int .i64 st)) R (k+40+1):=xN;clear aw ax bt bu;have af:=(show MemR R w (((w8.setCell ⟨w.heap.size+1,0,none⟩ (.int .i64 d)).setCell ⟨w.heap.size+1,1,none⟩ (.int .i64 sf)).setCell ⟨w.heap.size+1,2,none⟩ (.int .i64 st)) [aI w.heap.size (w6.heap.size) TSL #[sf,st],aJ w.heap.size TSL 2 (some ⟨g5,0,none⟩) (KS) (c5) (sl.flatMap aK),aI w.heap.size (f) THD #[d,sf,st],aI w.heap.size (w.heap.size+1) THD #[d,sf,st],aI w.heap.size (w.heap.size) aL #[aA,aB,.slice p n t,j,o,aE,aF,aC,aG,.slice q m c2]]from(M9.store (i:=3) rfl 2 (.int .i64 st)))
     generalize l:World.setCell _ _ _=wz;rw[l]at af r9;clear l M8 M9;have a6:=af.hi 0;have a7:=af.hi 2;have cg:=af.hi 3;have ch:=af.hi 4;obtain⟨y0,y1,y2⟩:=(af.bk 3).tri;exact bodyPost_ret (v:=lY (d) (sf) (st)) (by simp[results,Tryz.results77,go_sem, *]) rfl ⟨_,_,_,rfl,r9.mono (by omega),af.ext⟩
    have c0:(d==4)=false:=by simp[k4]
    clear k4 k3 k1 d0;obtain⟨f0,ak,f1,al,f2,am⟩:=(M4.bk 1).trif;obtain⟨d0,d1,d2⟩:=(M4.bk 0).tri;obtain⟨r,s⟩:=M4.nq 0 1;go_wp2;clear f0 ak f1 al f2 am d0 d1 d2 r s;have M5:=(show MemR R w ((wc.setCell ⟨w.heap.size+1,0,none⟩ (.int .i64 d)).setCell ⟨w.heap.size+1,1,none⟩ (.int .i64 b1)) [aI w.heap.size (f) THD #[d,b1,()],aI w.heap.size (w.heap.size+1) THD #[d,b1,()],aI w.heap.size (w.heap.size) aL #[aA,aB,.slice p n t,j,o,aE,aF,aC,aG,.slice q m c2]]from((M4.store (i:=1) rfl 0 (.int .i64 d)).store (i:=1) rfl 1 (.int .i64 b1)))
    have r9:Rand (((wc.setCell ⟨w.heap.size+1,0,none⟩ (.int .i64 d)).setCell ⟨w.heap.size+1,1,none⟩ (.int .i64 b1)).setCell ⟨w.heap.size+1,2,none⟩ (.int .i64 0)) R (k+40):=xN;clear u aa ab;have M6:=(show MemR R w (((wc.setCell ⟨w.heap.size+1,0,none⟩ (.int .i64 d)).setCell ⟨w.heap.size+1,1,none⟩ (.int .i64 b1)).setCell ⟨w.heap.size+1,2,none⟩ (.int .i64 0)) [aI w.heap.size (f) THD #[d,b1,()],aI w.heap.size (w.heap.size+1) THD #[d,b1,()],aI w.heap.size (w.heap.size) aL #[aA,aB,.slice p n t,j,o,aE,aF,aC,aG,.slice q m c2]]from(M5.store (i:=1) rfl 2 (.int .i64 0)))
    generalize l:World.setCell _ _ _=wz;rw[l]at M6 r9;clear l M4 M5;have ao:=M6.hi 0;have ag:=M6.hi 1;have ah:=M6.hi 2;obtain⟨y0,y1,y2⟩:=(M6.bk 1).tri;exact bodyPost_ret (v:=lY (d) (b1) (0)) (by simp[results,Tryz.results77,go_sem, *]) rfl ⟨_,_,_,rfl,r9.mono (by omega),M6.ext⟩
theorem aH3 (aA aB:Int)(p:OA)(n g:Nat)(m:Nat→Nat→Bool)(w:World)(hn:n≤1000)
  (HM:Hid (∀(f t:Nat),f<n→t<n→ ∀w',Ext w w'→Calls Tryz.prog 139 #[aH aA aB p n g,dQ (f:Int) (t:Int)] w' fun e w''=>e= .returned (.bool (m f t))∧Ext w' w'')):
  Calls Tryz.prog 129 #[aH aA aB p n g] w (eY (dL m n n) w):=by
 go_enter Tryz.func129,Tryz.ntmps129;go_wp2;go_loopw [3,4] (fun v i wr=> ∃(k:Nat) (q:OA) (l c:Nat),k≤n∧i= .int .i64 k∧v= .slice q l c∧l≤k*n∧wr.ownsRow (w.heap.size+1) TSL 2 (.slice q l c) l ((dL m n k).flatMap aK)∧Ext w wr∧Blk wr w.heap.size TH3 #[aA,aB,.slice p n g]) (fun _ i _=>n-(intOf i).toNat)
 case atStart=>have ho:((w.alloc (.cells #[aA,aB,.slice p n g] TH3)).alloc (.cells #[] TSL)).ownsRow (w.heap.size+1) TSL 2 (.slice (some ⟨(w.alloc (.cells #[aA,aB,.slice p n g] TH3)).heap.size,0,none⟩) 0 0) 0 []:=World.ownsRow_made _ #[] 0 (by simp) (by simp[maxLen]) rfl;exact⟨0,_,0,0,Nat.zero_le _,rfl,rfl,by simp,by simpa[dL]using ho,by exact .alloc (.alloc (.refl _) _) _,(Blk.new w _ _).alloc _⟩
 case round=>
  obtain⟨k,q,l,c,hk,rfl,rfl,s,b,d,hB⟩:=hrel;have HO:=xQ b;have HB:=xQ hB;have y:w.heap.size<wr.heap.size:=hB.lt;have x:Hid (l=(dL m n k).length):=by have:=b.1;rw[dC aK 2 (fun _=>rfl)]at this;show _=_;omega
  clear b hB;obtain⟨b0,b1,b2⟩:=HB.out.cells3;by_cases hlt:k<n
  ·have ag:k*n≤1000000:=by have:=Nat.mul_le_mul (show k≤1000 by omega) hn;omega
   go_wp2;obtain⟨wo,rfl⟩: ∃wo:World,wo=wr:=⟨_,rfl⟩
   clear b0 b1 b2;go_loopw [3,5] (fun v i wr=> ∃(j:Nat) (q:OA) (l c:Nat),j≤n∧i= .int .i64 j∧v= .slice q l c∧l≤k*n+j∧wr.ownsRow (w.heap.size+1) TSL 2 (.slice q l c) l ((dL m n k++jK (m k) k j).flatMap aK)∧Ext w wr∧Blk wr w.heap.size TH3 #[aA,aB,.slice p n g]) (fun _ i _=>n-(intOf i).toNat)
   case atStart=>exact⟨0,q,l,c,Nat.zero_le _,rfl,rfl,by omega,by simpa[jK]using HO.out,d,HB.out⟩
   case round=>
    clear HO HB y d x s;obtain⟨j,q,l,c,hj,rfl,rfl,s,b,d,hB⟩:=hrel;have HO:=xQ b;have HB:=xQ hB;have y:w.heap.size<wr.heap.size:=hB.lt;clear b hB;obtain⟨b0,b1,b2⟩:=HB.out.cells3;by_cases hlt2:j<n
    ·go_wp2_with fail;refine(HM k j hlt hlt2 _ d).mono ?_;rintro e w1 ⟨rfl,h1⟩;have h:=xQ (bG HO h1);have r:=xQ (HB.out.ext h1);have o:=xQ (d.trans h1);have af:w.heap.size<w1.heap.size:=r.out.lt;clear h1 b0 b1 b2 HO HB d;cases hm:m k j with
     |true=>
      have a:Hid (dL m n k++jK (m k) k (j+1)=(dL m n k++jK (m k) k j)++ [((k:Int),(j:Int))]):=by show _=_;rw[jK,if_pos hm,List.append_assoc]
      clear hm;go_wp2_with (at_builtin;refine iZ oD (f:=aK) (fun _=>rfl) (fun _ u hu=>by simp[aK]at hu;rcases hu with rfl|rfl<;>rfl) rfl _ _ rfl (w.heap.size+1) _ _ _ rfl (h.out.alloc _) _ _ ((k:Int),(j:Int)) _ rfl (uW _ _ _ _) (by omega) (by first|(simp;done)|(simp;omega)) ?_;intro p' cap' w2 hown1 hg1;have aa:=xQ hown1;have ab:Ext w w2:=Ext.own (o.out.alloc _) (h.out.alloc _) hg1 (by omega);have z:=xQ (oG h hg1 r.out);clear hown1 hg1);go_roundw
      case rel=>exact⟨j+1,p',l+1,cap',by omega,by go_num,rfl,by omega,by rw[a.out];exact aa.out,ab,z.out⟩
      case measure=>simp[intOf];omega
     |false=>
      have a:Hid (dL m n k++jK (m k) k (j+1)=dL m n k++jK (m k) k j):=by show _=_;rw[jK,if_neg (by rw[hm];simp),List.append_nil]
      clear hm;go_wp2;go_roundw
      case rel=>exact⟨j+1,q,l,c,by omega,by go_num,rfl,by omega,by rw[a.out];exact h.out,o.out,r.out⟩
      case measure=>simp[intOf];omega
    have a:Hid (dL m n k++jK (m k) k j=dL m n (k+1)):=by show _=_;rw[dL,show j=n by omega]
    have ad:k*n+n=(k+1)*n:=(Nat.succ_mul k n).symm;go_wp2;go_roundw
    case rel=>exact⟨k+1,q,l,c,by omega,by go_num,rfl,by rw[←ad];omega,by rw[←a.out];exact HO.out,d,HB.out⟩
    case measure=>simp[intOf];omega
  have a:Hid (dL m n k=dL m n n):=by show _=_;rw[show k=n by omega]
  go_wp2;go_ret;have ae:(dL m n n).length=l:=by rw[←a.out];exact x.out.symm
  subst ae;exact⟨q,c,rfl,by rw[a.out]at HO;exact bE HO (Nat.le_succ _),d⟩
theorem zY (aA aB:Int)(p:OA)(n a:Nat)(xs:List Int)(w:World)(hS:Sl w p n a 1 (ivs xs))(hn:n≤1000):
  Calls Tryz.prog 129 #[aH aA aB p n a] w (eY (gC aA aB xs) w):=by
 have hl:=hS.ilen;subst hl;exact aH3 aA aB p xs.length a _ w hn (fun f t _ _ w' hx=>aBn aA aB f t p xs.length a xs w' (hS.ext hx))
theorem vE (aA aB:Int)(xs:List Int):(gC aA aB xs).length≤xs.length*xs.length:=wE _ _ _
end Go.Proofs.YtpelpnfhbepokaaGreatDoor
