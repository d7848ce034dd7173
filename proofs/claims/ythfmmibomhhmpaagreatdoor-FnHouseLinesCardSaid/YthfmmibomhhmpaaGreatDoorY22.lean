/-
  Texts of this proof, packed (@packed).
-/
import Derived.Test.YthfmmibomhhmpaaGreatDoorY21
namespace Go.Proofs.YthfmmibomhhmpaaGreatDoor
open Go.RowKit
set_option linter.unusedSimpArgs false
set_option linter.unusedVariables false
set_option maxHeartbeats 8000000
set_option maxRecDepth 100000
section
open Go.Proofs.Tryz
def qN (aA aB f s p c:Int):aL:=if bJ f s p c=true∧2≤aA∧aA≤4∧2≤aB∧aB≤3 then⟨aA,aB,List.replicate (aA*aB).toNat 0,f,s,p,c,0,0,[]⟩else jT
theorem aHw {w w':World}{W D:Int}{xs:List Int}{f s p c:Int}{q:OA}{a:Nat}(ho:w'.ownsRow w TI 1 (.slice q xs a) xs.length (ivs xs))(hx:Ext w w'):
  RetHouse ⟨W,D,xs,f,s,p,c,0,0,[]⟩ w (.returned (bG ⟨W,D,xs,f,s,p,c,0,0,[]⟩ q xs.length a none 0 0)) w':=⟨q,a,none,0,rfl,ho,aTe _ _ _ _,hx⟩
theorem aI4 {w:World}{B n:Nat}{q:OA}{a:Nat}{xs:List Value}{g:Nat}{t:TypeId}{cs:Array Value}(ho:w.ownsRow B TI 1 (.slice q n a) n xs)(hb:Blk w g t cs)(ht:t≠TI):(Value.slice q n a).ownBlock≠some g:=by
 intro he;rcases ho.2 with⟨h1,h2⟩|⟨g',cap',cur,h1,hb',hg,hn,hm,hs,ht'⟩
 ·injection h1 with e1;subst e1;simp[Value.ownBlock]at he
 injection h1 with e1 e2 e3;subst e1;simp[Value.ownBlock]at he;subst he;unfold Blk at hb;rw[hb]at hg;injection hg with e;injection e with e1 e2;exact ht e2
theorem aHa (aA aB a b aD aF W D:Int)(xs:List Int)(w:World)(j:Bool)(HE:Hid (∀w',Ext w w'→U 73 #[aA,aB] w' (dN W D xs w')))
  (HV:Hid (∀w' p c,Sl w' p xs.length c 1 (ivs xs)→U 25 #[aH W D p xs.length c] w' (O (.bool false) w')))
  (HT:Hid (∀w',U 26 #[aS a b aD aF] w' (O (.bool j) w'))):
  U 36 #[aA,aB,aS a b aD aF] w (RetHouse jT w):=by
 go_enter func36,ntmps36;go_wp2_with fail;refine(HE _ (by exact .alloc (.alloc (.refl _) _) _)).mono ?_;rintro e w1 ⟨p1,c1,rfl,o1,d⟩;have BZ:Blk w1 (w.heap.size+1) 30 #[(),(),((),()),(),(),(),(),(),(),((),())]:=by have:=(Blk.new (w.alloc (.cells #[a,b,aD,aF] 27)) 30 #[(),(),((),()),(),(),(),(),(),(),((),())]).ext ((Ext.refl _).trans d);simpa using this
 have X1:=xQ (show Ext w w1 by exact .trans (.alloc (.alloc (.refl _) _) _) d);have O1:=xQ (bM o1 (show w.heap.size≤_ by simp;omega));have H1:=xQ (Sl.own O1.out);have g:=xQ BZ;clear BZ o1 d;go_wp2_with fail;refine Z (HV _ _ _ (H1.out.ext (by exact .alloc (.refl _) _))) fun w2 h=>?_
 have f:Ext w1 w2:=by exact .trans (.alloc (.refl _) _) h
 have i:=xQ (g.out.ext f);have X2:=xQ (X1.out.trans f);clear h f g O1 X1 H1;have z_:=i.out.tenf;go_wp2;exact bodyPost_ret (v:= .agg #[(),(),((),()),(),(),(),(),(),(),((),())]) (by simp[results,results36,go_sem, *]) rfl ⟨none,0,none,0,rfl,World.ownsRow_nil _ _ _ _,World.ownsRow_nil _ _ _ _,((((((((((X2.out.setCell (p:=⟨w.heap.size+1,0,none⟩) (by dsimp only;omega) (I 0)).setCell (p:=⟨w.heap.size+1,1,none⟩) (by dsimp only;omega) (I 0)).setCell (p:=⟨w.heap.size+1,2,none⟩) (by dsimp only;omega) (.slice none 0 0)).setCell (p:=⟨w.heap.size+1,3,none⟩) (by dsimp only;omega) (I 0)).setCell (p:=⟨w.heap.size+1,4,none⟩) (by dsimp only;omega) (I 0)).setCell (p:=⟨w.heap.size+1,5,none⟩) (by dsimp only;omega) (I 0)).setCell (p:=⟨w.heap.size+1,6,none⟩) (by dsimp only;omega) (I 0)).setCell (p:=⟨w.heap.size+1,7,none⟩) (by dsimp only;omega) (I 0)).setCell (p:=⟨w.heap.size+1,8,none⟩) (by dsimp only;omega) (I 0)).setCell (p:=⟨w.heap.size+1,9,none⟩) (by dsimp only;omega) (.slice none 0 0))⟩
theorem aH9 (aA aB a b aD aF W D:Int)(xs:List Int)(w:World)(n:Bool)(HE:Hid (∀w',Ext w w'→U 73 #[aA,aB] w' (dN W D xs w')))
  (HV:Hid (∀w' p c,Sl w' p xs.length c 1 (ivs xs)→U 25 #[aH W D p xs.length c] w' (O (.bool true) w')))
  (HT:Hid (∀w',U 26 #[aS a b aD aF] w' (O (.bool false) w'))):
  U 36 #[aA,aB,aS a b aD aF] w (RetHouse jT w):=by
 go_enter func36,ntmps36;go_wp2_with fail;refine(HE _ (by exact .alloc (.alloc (.refl _) _) _)).mono ?_;rintro e w1 ⟨p1,c1,rfl,o1,f⟩;have BT:Blk w1 w 27 #[a,b,aD,aF]:=by have:=(Blk.new w 27 #[a,b,aD,aF]).ext (((Ext.refl _).alloc _).trans f);simpa using this
 have BZ:Blk w1 (w.heap.size+1) 30 #[(),(),((),()),(),(),(),(),(),(),((),())]:=by have:=(Blk.new (w.alloc (.cells #[a,b,aD,aF] 27)) 30 #[(),(),((),()),(),(),(),(),(),(),((),())]).ext ((Ext.refl _).trans f);simpa using this
 have X1:=xQ (show Ext w w1 by exact .trans (.alloc (.alloc (.refl _) _) _) f);have O1:=xQ (bM o1 (show w.heap.size≤_ by simp;omega));have H1:=xQ (Sl.own O1.out);have i:=xQ BT;have k:=xQ BZ;clear BT BZ o1 f;go_wp2_with fail;refine Z (HV _ _ _ (H1.out.ext (by exact .alloc (.refl _) _))) fun w2 l=>?_
 have g:Ext w1 w2:=by exact .trans (.alloc (.refl _) _) l
 have d:=xQ (i.out.ext g);have j:=xQ (k.out.ext g);have X2:=xQ (X1.out.trans g);clear l g i k O1 X1 H1;have t0:=d.out.cl 0;have t1:=d.out.cl 1;have t2:=d.out.cl 2;have t3:=d.out.cl 3;go_wp2_with fail;clear t0 t1 t2 t3;refine Z (HT _) fun w3 h=>?_
 have m:=xQ (j.out.ext h);have X3:=xQ (X2.out.trans h);clear h d j X2;have z_:=m.out.tenf;go_wp2;exact bodyPost_ret (v:= .agg #[(),(),((),()),(),(),(),(),(),(),((),())]) (by simp[results,results36,go_sem, *]) rfl ⟨none,0,none,0,rfl,World.ownsRow_nil _ _ _ _,World.ownsRow_nil _ _ _ _,((((((((((X3.out.setCell (p:=⟨w.heap.size+1,0,none⟩) (by dsimp only;omega) (I 0)).setCell (p:=⟨w.heap.size+1,1,none⟩) (by dsimp only;omega) (I 0)).setCell (p:=⟨w.heap.size+1,2,none⟩) (by dsimp only;omega) (.slice none 0 0)).setCell (p:=⟨w.heap.size+1,3,none⟩) (by dsimp only;omega) (I 0)).setCell (p:=⟨w.heap.size+1,4,none⟩) (by dsimp only;omega) (I 0)).setCell (p:=⟨w.heap.size+1,5,none⟩) (by dsimp only;omega) (I 0)).setCell (p:=⟨w.heap.size+1,6,none⟩) (by dsimp only;omega) (I 0)).setCell (p:=⟨w.heap.size+1,7,none⟩) (by dsimp only;omega) (I 0)).setCell (p:=⟨w.heap.size+1,8,none⟩) (by dsimp only;omega) (I 0)).setCell (p:=⟨w.heap.size+1,9,none⟩) (by dsimp only;omega) (.slice none 0 0))⟩
theorem aH8 (aA aB a b aD aF W D:Int)(xs:List Int)(w:World)(s:Bool)(HE:Hid (∀w',Ext w w'→U 73 #[aA,aB] w' (dN W D xs w')))
  (HV:Hid (∀w' p c,Sl w' p xs.length c 1 (ivs xs)→U 25 #[aH W D p xs.length c] w' (O (.bool true) w')))
  (HT:Hid (∀w',U 26 #[aS a b aD aF] w' (O (.bool true) w'))):
  U 36 #[aA,aB,aS a b aD aF] w (RetHouse ⟨W,D,xs,a,b,aD,aF,0,0,[]⟩ w):=by
 go_enter func36,ntmps36;go_wp2_with fail;refine(HE _ (by exact .alloc (.alloc (.refl _) _) _)).mono ?_;rintro e w1 ⟨p1,c1,rfl,o1,i⟩;have BT:Blk w1 w 27 #[a,b,aD,aF]:=by have:=(Blk.new w 27 #[a,b,aD,aF]).ext (((Ext.refl _).alloc _).trans i);simpa using this
 have BZ:Blk w1 (w.heap.size+1) 30 #[(),(),((),()),(),(),(),(),(),(),((),())]:=by have:=(Blk.new (w.alloc (.cells #[a,b,aD,aF] 27)) 30 #[(),(),((),()),(),(),(),(),(),(),((),())]).ext ((Ext.refl _).trans i);simpa using this
 have X1:=xQ (show Ext w w1 by exact .trans (.alloc (.alloc (.refl _) _) _) i);have O1:=xQ (bM o1 (show w.heap.size≤_ by simp;omega));have H1:=xQ (Sl.own O1.out);have o:=xQ BT;have r:=xQ BZ;clear BT BZ o1 i;go_wp2_with fail;refine Z (HV _ _ _ (H1.out.ext (by exact .alloc (.refl _) _))) fun w2 m=>?_
 have n:=xQ ((Blk.new w1 25 #[W,D,.slice p1 xs c1]).ext m);have g:Ext w1 w2:=by exact .trans (.alloc (.refl _) _) m
 have d:=xQ (o.out.ext g);have q:=xQ (r.out.ext g);have O2:=xQ (aW O1 g);have X2:=xQ (X1.out.trans g);clear m g o r O1 X1 H1;have t0:=d.out.cl 0;have t1:=d.out.cl 1;have t2:=d.out.cl 2;have t3:=d.out.cl 3;go_wp2_with fail;clear t0 t1 t2 t3;refine Z (HT _) fun w3 f=>?_
 have h:=xQ (d.out.ext f);have k:=xQ (q.out.ext f);have j:=xQ (n.out.ext f);have O3:=xQ (aW O2 f);have X3:=xQ (X2.out.trans f);clear f d q n O2 X2;have t0:=h.out.cl 0;have t1:=h.out.cl 1;have t2:=h.out.cl 2;have t3:=h.out.cl 3;have h0:=j.out.cl 0;have h1:=j.out.cl 1;have h2:=j.out.cl 2;have z_:=k.out.tenf;go_wp2;generalize l:World.setCell _ _ _=w5;have hR:ExtR (w.heap.size+1) w3 w5:=by rw[←l];exact((((((((((ExtR.refl (w.heap.size+1) w3).setCell (p:=⟨w.heap.size+1,0,none⟩) (.inl rfl) (I W)).setCell (p:=⟨w.heap.size+1,1,none⟩) (.inl rfl) (I D)).setCell (p:=⟨w.heap.size+1,2,none⟩) (.inl rfl) (.slice p1 xs c1)).setCell (p:=⟨w.heap.size+1,3,none⟩) (.inl rfl) (I a)).setCell (p:=⟨w.heap.size+1,4,none⟩) (.inl rfl) (I b)).setCell (p:=⟨w.heap.size+1,5,none⟩) (.inl rfl) (I aD)).setCell (p:=⟨w.heap.size+1,6,none⟩) (.inl rfl) (I aF)).setCell (p:=⟨w.heap.size+1,7,none⟩) (.inl rfl) (I 0)).setCell (p:=⟨w.heap.size+1,8,none⟩) (.inl rfl) (I 0)).setCell (p:=⟨w.heap.size+1,9,none⟩) (.inl rfl) (.slice none 0 0)
 have O5:=O3.out.kept hR (.inr (aI4 O3 k.out (by decide)));have X5:=ExtR.new X3 hR (by omega);have Y5:=(((((((((k.out.set 0 (I W)).set 1 (I D)).set 2 (.slice p1 xs c1)).set 3 (I a)).set 4 (I b)).set 5 (I aD)).set 6 (I aF)).set 7 (I 0)).set 8 (I 0)).set 9 (.slice none 0 0);simp only[aTm,aTk,aTj]at Y5;rw[l]at Y5;clear l z_ t0 t1 t2 t3 h0 h1 h2;have y_:=Y5.ten;exact bodyPost_ret (v:= .agg #[W,D,.slice p1 xs c1,a,b,aD,aF,(),(),((),())]) (by simp[results,results36,go_sem, *]) rfl (aHw O5 X5)
theorem aRv (aA aB:Int)(w:World):U 73 #[aA,aB] w (dN (cV aA aB).1 (cV aA aB).2.1 (cV aA aB).2.2 w):=by
 by_cases h:2≤aA∧aA≤4∧2≤aB∧aB≤3
 ·have h1:cV aA aB=(aA,aB,List.replicate (aA*aB).toNat 0):=by unfold cV;rw[if_pos h]
  rw[h1];obtain⟨a,b,c,d⟩:=h;have h4:0≤aA*aB:=Int.mul_nonneg (by omega) (by omega);have h5:aA*aB≤12:=by have:=Int.mul_le_mul b d (by omega) (by omega);omega
  exact aL1 aA aB (aA*aB).toNat w a b c d h4 h5 (by omega) (by omega)
 have h1:cV aA aB=(0,0,[]):=by unfold cV;rw[if_neg h]
 rw[h1];exact aHe aA aB w (by omega)
theorem zK {aA aB:Int}(h:2≤aA∧aA≤4∧2≤aB∧aB≤3):aN aA aB (List.replicate (aA*aB).toNat 0)=true:=by
 obtain⟨h0,h1,h2,h3⟩:=h;have h4:0≤aA*aB:=Int.mul_nonneg (by omega) (by omega);unfold aN;rw[aTf];refine⟨by simp only[iC,decide_eq_true_eq,List.length_replicate];omega,?_⟩;rw[eI];refine⟨fun x hx=> ?_,fun x hx h=> ?_,?_⟩
 ·rw[List.mem_replicate]at hx;omega
 ·rw[List.mem_replicate]at hx;omega
 have:(List.replicate (aA*aB).toNat (0:Int)).filter (fun x=>decide (0<x))= []:=by rw[List.filter_eq_nil_iff];intro x hx;rw[List.mem_replicate]at hx;simp[hx.2]
 rw[this];exact List.nodup_nil
theorem aG1 (aA aB f s p c:Int):qN aA aB f s p c=(if aN (cV aA aB).1 (cV aA aB).2.1 (cV aA aB).2.2&&bJ f s p c then⟨(cV aA aB).1,(cV aA aB).2.1,(cV aA aB).2.2,f,s,p,c,0,0,[]⟩else jT):=by
 unfold qN;by_cases h:2≤aA∧aA≤4∧2≤aB∧aB≤3
 ·have h1:cV aA aB=(aA,aB,List.replicate (aA*aB).toNat 0):=by unfold cV;rw[if_pos h]
  rw[h1,zK h,Bool.true_and];cases bJ f s p c<;>simp[h]
 have h1:cV aA aB=(0,0,[]):=by unfold cV;rw[if_neg h]
 rw[h1];have h2:aN 0 0 []=false:=by simp[aN,iC]
 rw[h2,Bool.false_and];have h3: ¬(bJ f s p c=true∧2≤aA∧aA≤4∧2≤aB∧aB≤3):=fun k=>h k.2
 rw[if_neg h3];rfl
theorem aRu (aA aB a b aD aF:Int)(w:World):U 36 #[aA,aB,aS a b aD aF] w (RetHouse (qN aA aB a b aD aF) w):=by
 have HE:=fun(w':World) (hx:Ext w w')=>aRv aA aB w'
 have HV:=fun(w':World) p c (hS:Sl w' p (cV aA aB).2.2.length c 1 (ivs (cV aA aB).2.2))=>gM (cV aA aB).1 (cV aA aB).2.1 p _ c (cV aA aB).2.2 w' hS
 have HT:=fun(w':World)=>yE a b aD aF w'
 rw[aG1];cases h1:aN (cV aA aB).1 (cV aA aB).2.1 (cV aA aB).2.2 with
 |false=>rw[h1]at HV;cases h2:bJ a b aD aF<;>(rw[h2]at HT;exact aHa aA aB a b aD aF _ _ _ w _ HE HV HT)
 |true=>
  rw[h1]at HV;cases h2:bJ a b aD aF with
  |false=>rw[h2]at HT;exact aH9 aA aB a b aD aF _ _ _ w true HE HV HT
  |true=>rw[h2]at HT;exact aH8 aA aB a b aD aF _ _ _ w true HE HV HT
end
def Good (h:aL):Prop:=aP h=true∨h=jT
theorem Good.small {h:aL}(hg:Good h):h.cells.length≤12∧h.vs.length≤12:=by
 rcases hg with hg|rfl
 ·have:=fA hg;omega
 simp[jT]
theorem aAq (a b f s p c:Int):Good (qN a b f s p c):=by
 unfold qN;split
 ·rename_i hc;left;have hk:=zK hc.2;refine(dF _).2 ⟨hk,hc.1,by simp,?_,by simp⟩;have e:dL (List.replicate (a*b).toNat (0:Int))= []:=by
   unfold dL;rw[List.filter_eq_nil_iff];intro x hx;rw[(List.mem_replicate.1 hx).2];simp
  unfold cS;rw[e];rfl
 exact .inr rfl
def aKb (w:World)(e:Ending)(w':World):Prop:=
 ∃(h:aL) (p:OA) (cap:Nat) (q:OA) (c2:Nat) (nn:Int) (ok:Bool),e= .returned (.tuple #[bG h p h.cells.length cap q h.vs.length c2,nn,.bool ok])∧Good h∧
  w'.ownsRow w.heap.size TI 1 (.slice p h.cells.length cap) h.cells.length (ivs h.cells)∧w'.ownsRow w.heap.size TV 4 (.slice q h.vs.length c2) h.vs.length (h.vs.flatMap aE)∧Ext w w'
theorem aDm (h:aL)(hg:Good h)(k a b:Int)(p:OA)(n d:Nat)(q:OA)(m c2:Nat)(w:World)(hi:IsHouse w h p n d q m c2):
  U 38 #[bG h p n d q m c2,eQ k a b] w (aKb w):=by
 cases hok:aP h with
 |true=>
  refine(qA h k a b p n d q m c2 w hi hok).mono ?_;intro e w' hr;cases hd:bY h k a b with
  |none=>rw[hd]at hr;obtain⟨p',c,q',f,rfl,o1,o2,hx⟩:=hr;exact⟨h,p',c,q',f,_,_,rfl,hg,o1,o2,hx⟩
  |some r=>obtain⟨h',x⟩:=r;rw[hd]at hr;obtain⟨p',c,q',f,rfl,o1,o2,hx⟩:=hr;exact⟨h',p',c,q',f,_,_,rfl,.inl (kZ hok hd).1,o1,o2,hx⟩
 |false=>
  refine Z (pN h k a b p n d q m c2 w hi hok) fun w' hx=>?_
  exact⟨jT,none,0,none,0,_,_,rfl,.inr rfl,aTe _ _ _ _,aTe _ _ _ _,hx⟩
theorem oE (R k:Nat)(h:aL)(p:OA)(a:Nat)(q:OA)(c2:Nat)(w:World)(hr:Rand w R k)(hk:k≤1099511600000)(hs:h.cells.length≤100∧h.vs.length≤1000)
  (hi:IsHouse w h p h.cells.length a q h.vs.length c2)(hp:0<h.cells.length→ ∀b off,p=some ⟨b,off,none⟩→b≠R)(hq:0<h.vs.length→ ∀b off,q=some ⟨b,off,none⟩→b≠R):
  U 39 #[.pointer (some ⟨R,0,none⟩),bG h p h.cells.length a q h.vs.length c2] w (aJe R k w):=by
 refine yX R k h.aA h.aB h.free h.step h.aD h.aF h.aC h.aG p _ a q _ c2 h.vs (iV h.aA h.aB h.cells) w hr hk hs.2 _ (xQ rfl) ?_ (xQ rfl) (xQ hi.vs) (xQ fun b off h0 e=>hq h0 b off e) (xQ fun w' hx=> ?_)
 ·have h1:=aAc h.aA h.aB h.cells;have h2:=Nat.mul_le_mul hs.1 hs.1;omega
 exact aEq h.aA h.aB p _ a h.cells w' (hx.sl (b0:=0) hi.cells hp) (by omega)
def aMu (R k:Nat)(w:World)(e:Ending)(w':World):Prop:=
 ∃(h:aL) (p:OA) (cap:Nat) (q:OA) (c2:Nat),e= .returned (bG h p h.cells.length cap q h.vs.length c2)∧h.cells.length≤13∧h.vs.length≤13∧
  w'.ownsRow w.heap.size TI 1 (.slice p h.cells.length cap) h.cells.length (ivs h.cells)∧w'.ownsRow w.heap.size TV 4 (.slice q h.vs.length c2) h.vs.length (h.vs.flatMap aE)∧Rand w' R (k+20000)∧ExtR R w w'
theorem pB {R:Nat}{w0 w:World}{L:List Item}{i j B1 B2 a c2:Nat}{h:aL}{p q:OA}(m:MemR R w0 w L)(hi:L[i]? =some (aJ B1 TI 1 p h.cells.length a (ivs h.cells))) (hj:L[j]? =some (aJ B2 TV 4 q h.vs.length c2 (h.vs.flatMap aE))):IsHouse w h p h.cells.length a q h.vs.length c2:=⟨m.sl hi,m.sl hj⟩
theorem tS {R:Nat}{w0 w:World}{L:List Item}{i B n c sz:Nat}{e:TypeId}{p:OA}{xs:List Value}(m:MemR R w0 w L)(hi:L[i]? =some (aJ B e sz p n c xs)):0<n→ ∀b off,p=some ⟨b,off,none⟩→b≠R:=by intro h0 b off he;obtain⟨g,hg,h1,_⟩:=m.some hi h0;rw[hg]at he;injection he with he;injection he with he;have:=m.old;omega
abbrev hvc (h:aL)(p:OA)(cap:Nat)(q:OA)(c2:Nat):Array Value:=#[h.aA,h.aB,.slice p h.cells.length cap,h.free,h.step,h.aD,h.aF,h.aC,h.aG,.slice q h.vs.length c2]
def rC (lo:Nat)(w:World)(a:Nat):Prop:=
 ∃(h:aL) (p:OA) (cap:Nat) (q:OA) (c2:Nat),Blk w a aK (hvc h p cap q c2)∧Good h∧w.ownsRow lo TI 1 (.slice p h.cells.length cap) h.cells.length (ivs h.cells)∧w.ownsRow lo TV 4 (.slice q h.vs.length c2) h.vs.length (h.vs.flatMap aE)
structure RG (R lo:Nat) (w w':World):Prop where
 os:w'.os=w.os
 tape:w'.tape=w.tape
 output:w'.output=w.output
 size:w.heap.size≤w'.heap.size
 block: ∀i,i<w.heap.size→i≠R→w'.heap[i]? =w.heap[i]? ∨(lo≤i∧(∃cs,Blk w i aK cs)∧rC lo w' i)
theorem RG.refl (R lo:Nat)(w:World):RG R lo w w:=⟨rfl,rfl,rfl,aT5 _,fun i _ _=> .inl rfl⟩
theorem RG.ofR {R lo:Nat}{w w':World}(h:ExtR R w w'):RG R lo w w':=⟨h.os,h.tape,h.output,h.size,fun i hi hne=> .inl (h.block i hi (fun e=>hne (by injection e)))⟩
theorem RG.ofE {R lo:Nat}{w w':World}(h:Ext w w'):RG R lo w w':=RG.ofR (h.r R)
theorem aJn {w:World}{b1 s1 n1:Nat}{e1:TypeId}{v1:Value}{a:List Value}{g:Nat}{t:TypeId}{cs:Array Value}(h1:w.ownsRow b1 e1 s1 v1 n1 a)(h2:Blk w g t cs)(ne:e1≠t):v1.ownBlock≠some g:=by
 intro hg;rcases h1.2 with⟨b1,_⟩|⟨g1,cap1,cur1,b1,_,b3,_⟩
 ·rw[b1]at hg;cases hg
 rw[b1]at hg;injection hg with hg;have x1:g1=g:=hg;subst x1;unfold Blk at h2;rw[h2]at b3;injection b3 with b3;injection b3 with _ b3;exact ne b3.symm
theorem RG.own {R lo B n sz:Nat}{e:TypeId}{w w':World}{v:Value}{xs:List Value}(h:RG R lo w w')(ho:w.ownsRow B e sz v n xs)(hB:R<B)(he:e≠aK):w'.ownsRow B e sz v n xs:=by
 refine lL ho (fun g hg=> ?_);have hl:=aU0 ho g hg;rcases h.block g hl.2 (by omega)with h1|⟨_,⟨cs,hb⟩,_⟩
 ·exact h1
 exfalso;rcases ho.2 with⟨b1,_⟩|⟨g1,cap1,cur1,b1,_,b3,_⟩
 ·rw[b1]at hg;cases hg
 rw[b1]at hg;injection hg with hg;have x1:g1=g:=hg;subst x1;unfold Blk at hb;rw[hb]at b3;injection b3 with b3;injection b3 with _ b3;exact he b3.symm
theorem RG.house {R lo a:Nat}{w w':World}(h:RG R lo w w')(hR:R<lo)(ha:lo≤a)(hb:rC lo w a):rC lo w' a:=by
 obtain⟨h2,p,b,q,c2,b1,b2,b3,b4⟩:=hb;rcases h.block a b1.lt (by omega)with h1|⟨_,_,h1⟩
 ·exact⟨h2,p,b,q,c2,by unfold Blk at*;rw[h1];exact b1,b2,h.own b3 hR (by decide),h.own b4 hR (by decide)⟩
 exact h1
theorem RG.trans {R lo:Nat}{a b c:World}(hR:R<lo)(h:RG R lo a b)(k:RG R lo b c):RG R lo a c:=
 ⟨k.os.trans h.os,k.tape.trans h.tape,k.output.trans h.output,aTg h.size k.size,fun i hi hne=>by
  rcases h.block i hi hne with h1|⟨l1,h2,h3⟩
  ·rcases k.block i (aT4 hi h.size) hne with k1|⟨l2,⟨cs,k2⟩,k3⟩
   ·exact .inl (k1.trans h1)
   exact .inr ⟨l2,⟨cs,by unfold Blk at*;rw[←h1];exact k2⟩,k3⟩
  ·exact .inr ⟨l1,h2,k.house hR l1 h3⟩⟩
theorem RG.extR {R:Nat}{w w':World}(h:RG R w w.drew w'):ExtR R w w':=
 ⟨h.os,h.tape,h.output,h.size,fun i hi hne=>by
  rcases h.block i hi (fun e=>hne (by rw[e]))with h1|⟨h2,_⟩
  ·exact h1
  ·omega⟩
theorem aDn {lo:Nat}(w:World):rC lo (w.alloc (.cells #[(),(),((),()),(),(),(),(),(),(),((),())] aK)) w.heap.size:=
 ⟨jT,none,0,none,0,Blk.new _ _ _,.inr rfl,aTe _ _ _ _,aTe _ _ _ _⟩
theorem RG.put {R lo g:Nat}{w w':World}{cs:Array Value}{h:aL}{p q:OA}{a c2:Nat}(hx:ExtR g w w')(hl:lo≤g)(hb:Blk w g aK cs)(b:Blk w' g aK (hvc h p a q c2))(hg:Good h)
  (h1:w.ownsRow lo TI 1 (.slice p h.cells a) h.cells.length (ivs h.cells))(h2:w.ownsRow lo TV 4 (.slice q h.vs c2) h.vs.length (h.vs.flatMap aE)):RG R lo w w':=
 ⟨hx.os,hx.tape,hx.output,hx.size,fun i hi hne=>by
  by_cases e:i=g
  ·subst e;refine .inr ⟨hl,⟨cs,hb⟩,h,p,a,q,c2,b,hg,?_,?_⟩
   ·exact lL h1 (fun k hk=>hx.block k (aU0 h1 k hk).2 (fun e=>aJn h1 hb (by decide) (by rw[hk];exact e)))
   exact lL h2 (fun k hk=>hx.block k (aU0 h2 k hk).2 (fun e=>aJn h2 hb (by decide) (by rw[hk];exact e)))
  ·exact .inl (hx.block i hi (fun e'=>e (by injection e')))⟩
end Go.Proofs.YthfmmibomhhmpaaGreatDoor
