/-
  Texts of this proof, packed (@packed).
-/
import Derived.Test.YtbgkcehffiogcabGreatDoorX11
namespace Go.Proofs.YtbgkcehffiogcabGreatDoor
open Go.RowKit
set_option linter.unusedSimpArgs false
set_option linter.unusedVariables false
set_option maxHeartbeats 8000000
set_option maxRecDepth 100000
section
open Go.Proofs.Tryz
theorem lY {aA:Int}{n:Nat}(hg:(aA,n)∈kN){u:Nat}(hu:u<n):0<(dO aA n 12 u).length∧(dO aA n 12 u).length≤6∧((dO aA n 12 u).length:Int)=bE aA u 0+1:=by have g:=cJ hg hu;have h:=oM hg 12 u hu (by have:=g.2.1;omega);have:=g.1;have:=g.2.1;omega
theorem aFc {aA aB:Int}{xs:List Int}(a:aO aA aB xs=true){x y:Nat}(hx:x<xs.length)(hy:y∈aT aA xs.length x):dY aA aB xs (x:Int) (y:Int)=1:=by obtain⟨h1,h2⟩:=cE.1 hy;unfold dY;rw[if_pos ⟨a,⟨by omega,by omega⟩,by omega,by omega⟩];exact h2
theorem aAo (aA aB:Int)(p:OA)(n a:Nat)(xs:List Int)(lq:OA)(m lc u:Nat)(w:World)(hS:Sl w p n a 1 (ivs xs))(f:aO aA aB xs=true)(hu:u<n)(i:xs.getD u 0=0)
  (hL:Sl w lq m lc 1 (ivs (bN (dO aA n 12 u)))):
  U 181 #[aH aA aB p n a,.slice lq m lc] w (jN (cP xs u (dO aA n 12 u).tail).2 w):=by
 have hl:=hS.ilen;subst hl;have hg:=lS f;obtain⟨g1,g2,g3,g4,g5,g6,g7⟩:=cO (dC f);obtain⟨k1,k2,k3⟩:=lY hg hu;have hm:=hL.ilen;rw[aTk]at hm;obtain⟨pb,po,rfl,o,q⟩:=hS.rd (by omega);obtain⟨b,g,rfl,hb,hc⟩:=hL.rd (by omega);have c: ∀(k x:Nat),(dO aA xs.length 12 u)[k]? =some x→w.cell? ⟨b,g+k,none⟩=some (I x):=by intro k x hx;have hk:=(aT6.1 hx).1;rw[hc k (by omega)];simp[ivs,bN,hx]
 have d:=yZ aA xs.length 12 u;have j:w.cell? ⟨b,g,none⟩=some (I u):=c 0 u (by rw[d];rfl);have l:w.cell? ⟨pb,po+u,none⟩=some (I 0):=by rw[q u (by omega)];rw[aT9,aT3 hu]at i;simp only[Option.getD_some]at i;simp[ivs,hu,i]
 have HV: ∀w',Ext w w'→U 41 #[aH aA aB (some ⟨pb,po,none⟩) xs.length a] w' (Z (.bool true) w'):=fun w' hy=>by have:=iC aA aB _ xs.length a xs w' (hS.ext hy);rwa[f]at this
 have HI: ∀w,U 43 #[u,(),((xs.length:Int)-1:Int)] w fun e w'=>e= .returned (.bool true)∧w=w':=fun w=>by have:=vB (u:Int) 0 ((xs.length:Int)-1) w;rwa[show decide ((0:Int)≤(u:Int)∧(u:Int)≤(xs.length:Int)-1)=true by simp;omega]at this
 have HW: ∀w',Ext w w'→U 213 #[aH aA aB (some ⟨pb,po,none⟩) xs.length a,.slice (some ⟨b,g,none⟩) m lc] w' (Z (.bool true) w'):=fun w' hy=>
  aL5 aA aB _ xs.length a b g m lc (dO aA xs.length 12 u) w' g5 g6 (by omega) (by omega) hm (aT1 hb hy.sz) (fun k x hx=>(hy.cells.1 _ _ hb).trans (c k x hx)) u ((hy.cells.1 _ _ hb).trans j)
   (fun k x y hx hxy w2 hy2=>by
    have h2:=xH hg 12 u k x y hu hx hxy;have r:=aK5 hg 12 u x hu (aT4 hx);have:=aE0 aA aB (x:Int) (y:Int) _ xs.length a xs w2 (hS.ext (hy.trans hy2));rw[aFc f r h2.2]at this
    exact this) (fun w2 hy2=>HV w2 (hy.trans hy2)) HI
 exact aNw aA aB pb po xs.length a xs b g m lc u (dO aA xs.length 12 u).tail (dO aA xs.length 12 u) w g5 g6 (by omega) (by omega) d hm hb o f rfl hu i (vX hg 12 u hu) c j l HW
  (fun w' hy=>(iG aA aB _ xs.length a xs w' (by omega) (hS.ext hy)).mono fun e w'' h=>h)
def nD (aA:Int)(n:Nat):Option Nat→List Nat
 |none=> []
 |some u=>dO aA n 12 u
theorem aCi {aA:Int}{n:Nat}(hg:(aA,n)∈kN){l:List Nat}(hl: ∀x∈l,x<n){u:Nat}(hu:u<n):
  ((nD aA n (dR aA l)).length=0∨(dO aA n 12 u).length<(nD aA n (dR aA l)).length→dR aA (l++ [u])=some u)∧
  (¬((nD aA n (dR aA l)).length=0∨(dO aA n 12 u).length<(nD aA n (dR aA l)).length)→dR aA (l++ [u])=dR aA l):=by
 obtain⟨k1,k2,k3⟩:=lY hg hu;rw[aE5];cases h:dR aA l with
 |none=>simp[nD,pL]
 |some v=>
  obtain⟨m1,m2,m3⟩:=lY hg (hl v ((mC aA l).2 v h));simp only[nD,pL];constructor
  ·intro hc;rw[if_pos (by omega)]
  intro hc;rw[if_neg (by omega)]
theorem aI7 (aA aB:Int)(p:OA)(n a:Nat)(fr:List Nat)(F:Nat)(w:World)(hg:Hid ((aA,n)∈kN))(hn:n≤12)(hF:Hid (fr.length=F))(ag:F≤12)(s:Hid (∀x∈fr,x<n))
  (HF:xC 211 #[aH aA aB p n a] w fun w' e w''=> ∃q c,e= .returned (.slice q F c)∧w''.ownsRow w' TI 1 (.slice q F c) F (ivs (bN fr))∧Ext w' w'')
  (m:Hid (∀(u:Nat),u<n→ ∀w',Ext w w'→U 212 #[aH aA aB p n a,u,(),(-1:Int)] w' (bY (bN (dO aA n 12 u)) w'))):
  U 180 #[aH aA aB p n a,(),(-1:Int)] w (bY (bN (nD aA n (dR aA fr))) w):=by
 go_enter func180,ntmps180;have ME:=(((Mem.start w).c0 TH3 #[aA,aB,.slice p n a]).made0 TI 1 (w.heap.size+1) (by simp))
 go_wp2_with fail;refine(HF _ ME.ext).mono ?_;rintro e w1 ⟨q1,c1,rfl,t,z⟩;have M1:=(ME.call z t)
 clear ME z t;go_wp2;go_loopw [7,9] (fun v i wr=> ∃(k:Nat) (qb:OA) (l lb:Nat),k≤F∧i=I k∧v= .slice qb l lb∧l=(nD aA n (dR aA (fr.take k))).length∧Mem w wr [aJ w TI 1 (qb) (l) (lb) (ivs (bN (nD aA n (dR aA (fr.take k))))),aJ w TI 1 (q1) (F) (c1) (ivs (bN fr)),aI w w TH3 #[aA,aB,.slice p n a]]) (fun _ i _=>F-(intOf i).toNat)
 case atStart=>exact⟨0,some ⟨w.heap.size+1,0,none⟩,0,0,aT8 _,rfl,rfl,rfl,(M1.pick [1,0,2] (by decide) rfl)⟩
 case round=>
  clear M1;obtain⟨k,qb,l,lb,hk,rfl,rfl,hl,hM⟩:=hrel;have HM:=hM;have b:=xQ hl;clear hM hl;by_cases hlt:k<F
  ·obtain⟨u,hu⟩: ∃u,fr[k]? =some u:=⟨_,aT3 (by rw[hF.out];exact hlt)⟩
   have j:u<n:=s.out u (aT4 hu);obtain⟨gf,rfl,aj,ad⟩:=HM.so 1;have cu:wr.cell? ⟨gf,k,none⟩=some (I u):=by have:=(HM.ow 1).cellAt k (by omega);rw[this];simp[ivs,bN,hu]
   obtain⟨d,f⟩:=aCi hg.out (l:=fr.take k) (fun x hx=>s.out x (aV2 hx)) j;rw[←aZ hu,←b.out]at d f;obtain⟨k1,k2,k3⟩:=lY hg.out j;obtain⟨W,hW⟩: ∃W,W=(dO aA n 12 u).length:=⟨_,rfl⟩
   rw[←hW]at k1 k2 d f;have o:=xQ d;have aa:=xQ f;have g:=xQ hW;have HC:=xQ (fun w' (hx:Ext w w')=>m u j w' hx);clear hu d f hW k3;have i1:(0:Int)≤(k:Int):=by omega
   have i2:(k:Int)<(F:Int):=by omega
   go_wp2;refine rL (gl [gEq (.agg #[aA,aB,.slice p n a]),gEq (.slice (some ⟨gf,0,none⟩) F c1),gEq (k:Int),gEq (.pointer (some ⟨gf,k,none⟩)),gEq (u:Int),gEq (I 0),gEq (-1:Int),(fun v w'=> ∃q c,v= .slice q (W) c∧w'.ownsRow wr TI 1 (.slice q (W) c) (W) (ivs (bN (dO aA n 12 u))))]) 8 9 [(0,some 20),(1,some 21),(2,some 22),(3,some 23),(4,some 24),(5,some 25),(6,some 26),(7,some 27)] ?steps ?fin (hG:=(oA (bK (cC _) (bK (cC _) (bK (cC _) (bK (cC _) (bK (cC _) (bK (cC _) (bK (cC _) (bK (fun v w w' ⟨q,c,he,ho⟩ hx=>⟨q,c,he,aP ho hx⟩) (rJ)))))))))))
   case steps=>
    refine sC [] rfl (fun wi hx=> ?_) ?_
    ·intro K hK;have hX:=hx.of_drew;obtain⟨ab,ah,ai⟩:=((HM.bk 2).ext hX).tri;go_simp;exact hK _ _ ⟨.agg #[aA,aB,.slice p n a],rfl,rfl,Ext.refl _⟩
    refine sS0 [] (sS0 [] (sS2 [(1,some 21),(2,some 22)] ?_));refine sC [(3,some 23)] rfl (fun wi hx=> ?_) ?_
    ·intro v3 h3 K hK;obtain rfl:=h3;have hX:=hx.of_drew;have ab:wi.cell? ⟨gf,k,none⟩=some (I u):=(hX.cells.1 _ _ ad).trans cu;go_simp;exact hK _ _ ⟨I u,rfl,rfl,Ext.refl _⟩
    refine sS0 [] (sS0 [] ?_);refine sC [(0,some 20),(4,some 24),(5,some 25),(6,some 26)] rfl (fun wi hx=> ?_) StepsL.nil
    ·intro v0 h0 v4 h4 v5 h5 v6 h6 K hK;subst h0 h4 h5 h6;have hX:=hx.of_drew;go_wp2_with fail;refine(HC _ (HM.ext.trans hX)).mono ?_;rintro e w5 ⟨q5,c5,rfl,o5,af⟩;have ae:(bN (dO aA n 12 u)).length=W:=by rw[g.out];simp[bN]
     rw[ae]at o5⊢;go_simp;exact hK _ _ ⟨.slice q5 (W) c5,rfl,⟨q5,c5,rfl,bD o5 (by have:=hX.sz;simpa using this)⟩,af⟩
   case fin=>
    intro wi hx v0 h0 v1 h1 v2 h2 v3 h3 v4 h4 v5 h5 v6 h6 v7 h7;subst h0 h1 h2 h3 h4 h5 h6;obtain⟨q7,c7,rfl,y⟩:=h7;have hX:Ext wr wi:=hx.of_drew;have M1:=(show Mem w wi [aJ w TI 1 (q7) (W) (c7) (ivs (bN (dO aA n 12 u))),aJ w TI 1 (qb) (l) (lb) (ivs (bN (nD aA n (dR aA (fr.take k))))),aJ w TI 1 (some ⟨gf,0,none⟩) (F) (c1) (ivs (bN fr)),aI w w TH3 #[aA,aB,.slice p n a]]from HM.ownNew hX y (aT2 _))
    clear HM;try go_frame
    refine wpAny_ready (rs:= [8]) (by kernel_rfl) (by simp) ?_;refine AllReady.cons rfl (fun K hK=> ?_) AllReady.nil;go_simp;refine hK _ _ ?_;clear hK K;refine wpAny_done (by kernel_rfl) ?_ _;try go_frame
    clear hx hX cu y HC;by_cases h0:l=0
    ·have hn:=xQ (o (.inl h0));have t1:((l:Int)==0)=true:=by simp[h0]
     clear h0;go_wp2;go_roundw
     case rel=>exact⟨k+1,q7,W,c7,by omega,by go_num,rfl,by rw[hn.out];exact g.out,by rw[hn.out];exact(M1.pick [0,2,3] (by decide) rfl)⟩
     case measure=>simp[intOf];omega
    have t1:((l:Int)==0)=false:=by simp[h0]
    by_cases h1:W<l
    ·have hn:=xQ (o (.inr h1));go_wp2;go_roundw
     case rel=>exact⟨k+1,q7,W,c7,by omega,by go_num,rfl,by rw[hn.out];exact g.out,by rw[hn.out];exact(M1.pick [0,2,3] (by decide) rfl)⟩
     case measure=>simp[intOf];omega
    have hn:=xQ (aa (fun h=>h.elim h0 h1));go_wp2;go_roundw
    case rel=>exact⟨k+1,qb,l,lb,by omega,by go_num,rfl,by rw[hn.out];exact b.out,by rw[hn.out];exact(M1.pick [1,2,3] (by decide) rfl)⟩
    case measure=>simp[intOf];omega
  obtain rfl:F=k:=by omega
  have r:Hid (fr.take F=fr):=by show _=_;rw[aT7 (by rw[hF.out];omega)]
  go_wp2;go_ret;rw[r.out]at b HM;exact eV (by rw[aTk];exact b.out.symm) (HM.ow 0) HM.ext
theorem tK (aA aB:Int)(p:OA)(n a:Nat)(xs:List Int)(w:World)(hS:Sl w p n a 1 (ivs xs))(b:aO aA aB xs=true):
  U 180 #[aH aA aB p n a,(),(-1:Int)] w (bY (bN (nD aA n (dR aA (bS xs)))) w):=by
 have hl:=hS.ilen;subst hl;obtain⟨g1,g2,g3,g4,g5,g6,g7⟩:=cO (dC b);have d:(bS xs).length≤12:=by unfold bS;exact aTb (aUb _ _) (by simp;omega)
 refine aI7 aA aB p xs.length a (bS xs) _ w (lS b) g6 rfl d (fun x hx=>(lU hx).1) (fun w' hy=> ?_) (fun u hu w' hy=>aDc aA aB p xs.length a u xs w' (hS.ext hy) b hu);have:=aNy aA aB p xs.length a xs w' (hS.ext hy);rw[b,if_pos rfl,aAs]at this;refine this.mono fun e w'' h=> ?_
 obtain⟨q,c,h1,h2,h3⟩:=h;rw[aTk]at h1 h2;exact⟨q,c,h1,h2,h3⟩
def rV (r:Option (List Int×List Sl2))(w:World)(e:Ending)(w':World):Prop:=
 match r with
 |none=> ∃v,e= .returned (.tuple #[v,.bool false])∧Ext w w'
 |some r=> ∃q c,e= .returned (.tuple #[.slice q r.2.length c,.bool true])∧w'.ownsRow w.heap.size TSL 2 (.slice q r.2.length c) r.2.length (r.2.flatMap aL)∧Ext w w'
theorem aLl (aA aB:Int)(p:OA)(n a:Nat)(w:World)
  (HV:xB 41 #[aH aA aB p n a] w true)
  (HN:xC 180 #[aH aA aB p n a,(),(-1:Int)] w fun w' e w''=> ∃q c,e= .returned (.slice q 0 c)∧w''.ownsRow w' TI 1 (.slice q 0 c) 0 []∧Ext w' w''):
  U 136 #[aH aA aB p n a] w (rV none w):=by
 go_enter func136,ntmps136;have ME:=(((Mem.start w).c0 TH3 #[aA,aB,.slice p n a]).made0 TI 1 (w.heap.size+1) (by simp))
 go_wp2_with fail;refine Ω (HV _ ME.ext) fun w1 d=>?_
 have M1:=(ME.adv d)
 clear ME d;obtain⟨g,h,i⟩:=(M1.bk 1).tri;go_wp2_with fail;clear g h i;refine(HN _ M1.ext).mono ?_;rintro e w2 ⟨qw,cw,rfl,b,f⟩;have M2:=(M1.call f b)
 clear M1 f b;have HX:=xQ (M2.ext);go_wp2;exact bodyPost_ret (v:= .tuple #[.slice (some ⟨w2,0,none⟩) 0 0,.bool false]) (by simp[results,results136,go_sem, *]) rfl ⟨_,rfl,by have:=HX.out;exact .alloc this _⟩
theorem aIj (aA aB:Int)(p:OA)(n a:Nat)(j:List Nat)(W:Nat)(r:List Int×List Sl2)(w:World)(h0:0<W)
  (HV:xB 41 #[aH aA aB p n a] w true)
  (HN:xC 180 #[aH aA aB p n a,(),(-1:Int)] w fun w' e w''=> ∃q c,e= .returned (.slice q W c)∧w''.ownsRow w' TI 1 (.slice q W c) W (ivs (bN j))∧Ext w' w'')
  (HS:Hid (∀w' q c,Ext w w'→Sl w' q W c 1 (ivs (bN j))→U 181 #[aH aA aB p n a,.slice q W c] w' (jN r.2 w'))):
  U 136 #[aH aA aB p n a] w (rV (some r) w):=by
 have t0:((W:Int)==0)=false:=by simp;omega
 go_enter func136,ntmps136;have ME:=(((Mem.start w).c0 TH3 #[aA,aB,.slice p n a]).made0 TI 1 (w.heap.size+1) (by simp))
 go_wp2_with fail;refine Ω (HV _ ME.ext) fun w1 h=>?_
 have M1:=(ME.adv h)
 clear ME h;obtain⟨b,d,f⟩:=(M1.bk 1).tri;go_wp2_with fail;clear b d f;refine(HN _ M1.ext).mono ?_;rintro e w2 ⟨qw,cw,rfl,g,i⟩;have M2:=(M1.call i g)
 clear M1 i g;obtain⟨b,d,f⟩:=(M2.bk 2).tri;go_wp2_with fail;clear b d f;have HH:=xQ (HS _ qw cw M2.ext (M2.sq 0));refine HH.out.mono ?_;rintro e w9 ⟨q9,c9,rfl,o9,k⟩;have HX:=xQ (M2.ext);go_wp2;exact bodyPost_ret (v:= .tuple #[.slice q9 r.2.length c9,.bool true]) (by simp[results,results136,go_sem, *]) rfl ⟨q9,c9,rfl,bD o9 HX.out.sz,HX.out.trans k⟩
theorem aBx (aA aB:Int)(p:OA)(n a:Nat)(xs:List Int)(w:World)(hS:Sl w p n a 1 (ivs xs))(b:aO aA aB xs=true):
  U 136 #[aH aA aB p n a] w (rV (jM aA xs) w):=by
 have hl:=hS.ilen;subst hl;have hg:=lS b;have HV: ∀w',Ext w w'→U 41 #[aH aA aB p xs.length a] w' (Z (.bool true) w'):=fun w' hy=>by have:=iC aA aB p xs.length a xs w' (hS.ext hy);rwa[b]at this
 unfold jM;cases hn:dR aA (bS xs)with
 |none=>refine aLl aA aB p xs.length a w HV (fun w' hy=> ?_);have:=tK aA aB p xs.length a xs w' (hS.ext hy) b;rw[hn]at this;exact this
 |some u=>
  obtain⟨hu,d⟩:=lU ((mC aA _).2 u hn);obtain⟨k1,k2,k3⟩:=lY hg hu;refine aIj aA aB p xs.length a (dO aA xs.length 12 u) _ (cP xs u (dO aA xs.length 12 u).tail) w k1 HV (fun w' hy=> ?_) (fun w' q c hy hL=>aAo aA aB p xs.length a xs q _ c u w' (hS.ext hy) b hu d hL);have:=tK aA aB p xs.length a xs w' (hS.ext hy) b;rw[hn]at this;refine this.mono fun e w'' h=> ?_
  obtain⟨q,c,h1,h2,h3⟩:=h;simp only[nD,aTk]at h1 h2;exact⟨q,c,h1,h2,h3⟩
def cV (aA aB:Int)(xs:List Int)(id:Int):List Int×Int:=
 match nR aA aB xs id with
 |none=>(xs,-1)
 |some r=>(r.1,(r.2:Int))
theorem aDi (aA aB id:Int)(p:OA)(n a:Nat)(xs:List Int)(w:World)(g:Hid (xs.length=n))
  (HV:xB 41 #[aH aA aB p n a] w true)
  (HC:xC 136 #[aH aA aB p n a] w fun w' e w''=> ∃v,e= .returned (.tuple #[v,.bool false])∧Ext w' w'')
  (HL:xC 100 #[aH aA aB p n a] w fun w' e w''=> ∃q c,e= .returned (aH aA aB q n c)∧w''.ownsRow w' TI 1 (.slice q n c) n (ivs xs)∧Ext w' w''):
  U 101 #[aH aA aB p n a,id] w (dE aA aB xs (-1) w):=by
 go_enter func101,ntmps101;go_wp2_with fail;refine Ω (HV _ (((Mem.start w).c0 TH3 #[aA,aB,.slice p n a]).c1 TH3 #[(),(),((),())]).ext) fun w1 j=>?_
 have M1:=((((Mem.start w).c0 TH3 #[aA,aB,.slice p n a]).c1 TH3 #[(),(),((),())]).adv j)
 clear j;obtain⟨b,d,f⟩:=(M1.bk 1).tri;go_wp2_with fail;clear b d f;refine(HC _ M1.ext).mono ?_;rintro e w2 ⟨v,rfl,k⟩;have M2:=(M1.adv k)
 clear M1 k;obtain⟨b,d,f⟩:=(M2.bk 1).tri;go_wp2_with fail;clear b d f;refine(HL _ M2.ext).mono ?_;rintro e w3 ⟨q0,c0,rfl,h,l⟩;have M3:=(M2.call l h)
 clear M2 l h;obtain⟨z0,m,z1,o,z2,r⟩:=(M3.bk 1).trif;go_wp2;clear z0 m z1 o z2 r;have M4:=(((M3.st 1 0 (I aA)).st 1 1 (I aB)).st 1 2 (.slice q0 n c0))
 generalize i:World.setCell _ _ _=wz;rw[i]at M4;clear i M3;obtain⟨s,t,u⟩:=(M4.bk 1).tri;exact bodyPost_ret (v:= .tuple #[.agg #[aA,aB,.slice q0 n c0],(-1:Int)]) (by simp[results,results101,go_sem, *]) rfl (fL g.out (M4.ow 0) M4.ext)
theorem aI3 (aA aB id:Int)(p:OA)(n a K:Nat)(xs ys zs:List Int)(sl:List Sl2)(w:World)(h:Hid (xs.length=n))
  (HV:xB 41 #[aH aA aB p n a] w true)
  (HC:xC 136 #[aH aA aB p n a] w fun w' e w''=> ∃q c,e= .returned (.tuple #[.slice q K c,.bool true])∧w''.ownsRow w' TSL 2 (.slice q K c) K (sl.flatMap aL)∧Ext w' w'')
  (HR:Hid (∀w' q c,Ext w w'→Sl w' q K c 2 (sl.flatMap aL)→U 137 #[aH aA aB p n a,.slice q K c] w' fun e w''=> ∃q c,e= .returned (.tuple #[aH aA aB q n c,K])∧w''.ownsRow w' TI 1 (.slice q n c) n (ivs ys)∧Ext w' w''))
  (HP:Hid (∀w' q c,Ext w w'→Sl w' q n c 1 (ivs ys)→U 138 #[aH aA aB q n c,(),id] w' fun e w''=> ∃q c,e= .returned (.tuple #[aH aA aB q n c,.bool false])∧w''.ownsRow w' TI 1 (.slice q n c) n (ivs zs)∧Ext w' w''))
  (HL:xC 100 #[aH aA aB p n a] w fun w' e w''=> ∃q c,e= .returned (aH aA aB q n c)∧w''.ownsRow w' TI 1 (.slice q n c) n (ivs xs)∧Ext w' w''):
  U 101 #[aH aA aB p n a,id] w (dE aA aB xs (-1) w):=by
 go_enter func101,ntmps101;go_wp2_with fail;refine Ω (HV _ (((Mem.start w).c0 TH3 #[aA,aB,.slice p n a]).c1 TH3 #[(),(),((),())]).ext) fun w1 o=>?_
 have M1:=((((Mem.start w).c0 TH3 #[aA,aB,.slice p n a]).c1 TH3 #[(),(),((),())]).adv o)
 clear o;obtain⟨b,d,f⟩:=(M1.bk 1).tri;go_wp2_with fail;clear b d f;refine(HC _ M1.ext).mono ?_;rintro e w2 ⟨qs,cs,rfl,i,r⟩;have M2:=(M1.call r i)
 clear M1 r i;obtain⟨b,d,f⟩:=(M2.bk 2).tri;go_wp2_with fail;clear b d f;refine(HR _ qs cs M2.ext (M2.sq 0)).mono ?_;rintro e w3 ⟨q1,c1,rfl,j,s⟩;have M3:=(M2.call s j)
 clear M2 s j;go_wp2_with fail;refine(HP _ q1 c1 (M3.c0 TH3 #[aA,aB,.slice q1 n c1]).ext ((M3.c0 TH3 #[aA,aB,.slice q1 n c1]).sq 1)).mono ?_;rintro e w4 ⟨q2,c2,rfl,k,t⟩;have M4:=((M3.c0 TH3 #[aA,aB,.slice q1 n c1]).call t k)
 clear M3 t k;have g:=M4.hi 5;obtain⟨b,d,f⟩:=(M4.bk 5).tri;go_wp2_with fail;clear b d f;refine(HL _ (M4.c0 TH3 #[aA,aB,.slice q2 n c2]).ext).mono ?_;rintro e w5 ⟨q0,c0,rfl,l,u⟩;have M5:=((M4.c0 TH3 #[aA,aB,.slice q2 n c2]).call u l)
 clear M4 g u l;obtain⟨z0,x,z1,y,z2,z⟩:=(M5.bk 6).trif;go_wp2;clear z0 x z1 y z2 z;have M6:=(((M5.st 6 0 (I aA)).st 6 1 (I aB)).st 6 2 (.slice q0 n c0))
 generalize m:World.setCell _ _ _=wz;rw[m]at M6;clear m M5;obtain⟨aa,ab,ad⟩:=(M6.bk 6).tri;exact bodyPost_ret (v:= .tuple #[.agg #[aA,aB,.slice q0 n c0],(-1:Int)]) (by simp[results,results101,go_sem, *]) rfl (fL h.out (M6.ow 0) M6.ext)
theorem aFr (aA aB id:Int)(p:OA)(n a K:Nat)(ys zs:List Int)(sl:List Sl2)(w:World)(g:Hid (zs.length=n))
  (HV:xB 41 #[aH aA aB p n a] w true)
  (HC:xC 136 #[aH aA aB p n a] w fun w' e w''=> ∃q c,e= .returned (.tuple #[.slice q K c,.bool true])∧w''.ownsRow w' TSL 2 (.slice q K c) K (sl.flatMap aL)∧Ext w' w'')
  (HR:Hid (∀w' q c,Ext w w'→Sl w' q K c 2 (sl.flatMap aL)→U 137 #[aH aA aB p n a,.slice q K c] w' fun e w''=> ∃q c,e= .returned (.tuple #[aH aA aB q n c,K])∧w''.ownsRow w' TI 1 (.slice q n c) n (ivs ys)∧Ext w' w''))
  (HP:Hid (∀w' q c,Ext w w'→Sl w' q n c 1 (ivs ys)→U 138 #[aH aA aB q n c,(),id] w' fun e w''=> ∃q c,e= .returned (.tuple #[aH aA aB q n c,.bool true])∧w''.ownsRow w' TI 1 (.slice q n c) n (ivs zs)∧Ext w' w'')):
  U 101 #[aH aA aB p n a,id] w (dE aA aB zs (K:Int) w):=by
 go_enter func101,ntmps101;go_wp2_with fail;refine Ω (HV _ (((Mem.start w).c0 TH3 #[aA,aB,.slice p n a]).c1 TH3 #[(),(),((),())]).ext) fun w1 l=>?_
 have M1:=((((Mem.start w).c0 TH3 #[aA,aB,.slice p n a]).c1 TH3 #[(),(),((),())]).adv l)
 clear l;obtain⟨b,d,f⟩:=(M1.bk 1).tri;go_wp2_with fail;clear b d f;refine(HC _ M1.ext).mono ?_;rintro e w2 ⟨qs,cs,rfl,h,m⟩;have M2:=(M1.call m h)
 clear M1 m h;obtain⟨b,d,f⟩:=(M2.bk 2).tri;go_wp2_with fail;clear b d f;refine(HR _ qs cs M2.ext (M2.sq 0)).mono ?_;rintro e w3 ⟨q1,c1,rfl,i,o⟩;have M3:=(M2.call o i)
 clear M2 o i;go_wp2_with fail;refine(HP _ q1 c1 (M3.c0 TH3 #[aA,aB,.slice q1 n c1]).ext ((M3.c0 TH3 #[aA,aB,.slice q1 n c1]).sq 1)).mono ?_;rintro e w4 ⟨q2,c2,rfl,j,r⟩;have M4:=((M3.c0 TH3 #[aA,aB,.slice q1 n c1]).call r j)
 clear M3 r j;have s:=M4.hi 4;obtain⟨z0,t,z1,u,z2,x⟩:=(M4.bk 4).trif;go_wp2;clear z0 t z1 u z2 x;have M5:=((((M4.st 4 0 (I aA)).st 4 1 (I aB)).st 4 2 (.slice q2 n c2)).bn TH3 #[aA,aB,.slice q2 n c2] w4)
 generalize k:World.alloc _ _=wz;rw[k]at M5;clear k M4;obtain⟨y,z,aa⟩:=(M5.bk 5).tri;exact bodyPost_ret (v:= .tuple #[.agg #[aA,aB,.slice q2 n c2],K]) (by simp[results,results101,go_sem, *]) rfl (fL g.out (M5.ow 1) M5.ext)
theorem nZ (aA aB:Int)(xs:List Int)(id:Int):(dH aA aB xs id).1.length=xs.length:=by unfold dH;split<;>simp
theorem aFo (aA aB id:Int)(p:OA)(n a:Nat)(xs:List Int)(w:World)(hS:Sl w p n a 1 (ivs xs))(b:aO aA aB xs=true):
  U 101 #[aH aA aB p n a,id] w (dE aA aB (cV aA aB xs id).1 (cV aA aB xs id).2 w):=by
 have hl:=hS.ilen;subst hl;obtain⟨g1,g2,g3,g4,g5,g6,g7⟩:=cO (dC b);have HV: ∀w',Ext w w'→U 41 #[aH aA aB p xs.length a] w' (Z (.bool true) w'):=fun w' hy=>by have:=iC aA aB p xs.length a xs w' (hS.ext hy);rwa[b]at this
 have HL:=fun(w':World) (hy:Ext w w')=>iG aA aB p xs.length a xs w' (by omega) (hS.ext hy)
 have HC:=fun(w':World) (hy:Ext w w')=>aBx aA aB p xs.length a xs w' (hS.ext hy) b
 cases hr:jM aA xs with
 |none=>
  have e:cV aA aB xs id=(xs,-1):=by unfold cV nR;rw[hr]
  rw[e];rw[hr]at HC;exact aDi aA aB id p xs.length a xs w rfl HV HC HL
 |some r=>
  rw[hr]at HC;obtain⟨f1,f2,f3,f4,f5⟩:=rP b hr;have HR: ∀w' q c,Ext w w'→Sl w' q r.2.length c 2 (r.2.flatMap aL)→U 137 #[aH aA aB p xs.length a,.slice q r.2.length c] w' fun e w''=> ∃q c,e= .returned (.tuple #[aH aA aB q xs.length c,(r.2.length:Int)])∧w''.ownsRow w' TI 1 (.slice q xs c) xs.length (ivs r.1)∧Ext w' w'':=fun w' q c hy hL=>by have:=uP aA aB p xs.length a xs q r.2.length c r.2 w' (by omega) (hS.ext hy) hL b;rw[f1]at this;unfold dE at this;dsimp only at this;rw[f3]at this;exact this
  have HP: ∀w' q c,Ext w w'→Sl w' q xs.length c 1 (ivs r.1)→U 138 #[aH aA aB q xs.length c,(),id] w' fun e w''=> ∃q c,e= .returned (.tuple #[aH aA aB q xs.length c,.bool (dH aA aB r.1 id).2])∧w''.ownsRow w' TI 1 (.slice q xs c) xs.length (ivs (dH aA aB r.1 id).1)∧Ext w' w'':=fun w' q c hy hL=>by have:=aHe aA aB id q xs.length c r.1 w' hL f2;unfold dF at this;rw[nZ,f3]at this;exact this
  cases hb:(dH aA aB r.1 id).2 with
  |false=>
   have e:cV aA aB xs id=(xs,-1):=by simp[cV,nR,hr,hb]
   rw[e];rw[hb]at HP;exact aI3 aA aB id p xs.length a r.2.length xs r.1 (dH aA aB r.1 id).1 r.2 w rfl HV HC HR HP HL
  |true=>
   have e:cV aA aB xs id=((dH aA aB r.1 id).1,(r.2.length:Int)):=by simp[cV,nR,hr,hb]
   rw[e];rw[hb]at HP;exact aFr aA aB id p xs.length a r.2.length r.1 (dH aA aB r.1 id).1 r.2 w (show _=_ by rw[nZ,f3]) HV HC HR HP
end
def iX:Nat→Nat
 |0=>0
 |n+1=>(n+1)%2+iX ((n+1)/2)
decreasing_by omega
theorem uX (n:Nat):iX n=n%2+iX (n/2):=by
 cases n with
 |zero=>rw[iX]
 |succ n=>rw[iX]
theorem yX: ∀(f S:Nat),S.testBit f=false→ ∀k,(S+2 ^ f).testBit k=(S.testBit k || decide (k=f)):=by
 intro f;induction f with
 |zero=>
  intro S h k;rw[aUv]at h;have h0:S%2=0:=by simp at h;omega
  cases k with
  |zero=>rw[aUv,aUv];simp;omega
  |succ k=>rw[aV6,aV6,show(S+2 ^ 0)/2=S/2 by simp;omega];simp
 |succ f ih=>
  intro S h k;rw[aV6]at h;have e:(S+2 ^ (f+1))/2=S/2+2 ^ f:=by rw[Nat.pow_succ];omega
  cases k with
  |zero=>rw[aUv,aUv];simp[Nat.pow_succ]<;>omega
  |succ k=>rw[aV6,aV6,e,ih _ h];simp
theorem aA0: ∀(f S:Nat),S.testBit f=false→iX (S+2 ^ f)=iX S+1:=by
 intro f;induction f with
 |zero=>
  intro S h;rw[aUv]at h;have h0:S%2=0:=by simp at h;omega
  rw[uX (S+2 ^ 0),uX S,show(S+2 ^ 0)/2=S/2 by simp;omega];simp;omega
 |succ f ih=>
  intro S h;rw[aV6]at h;have e:(S+2 ^ (f+1))/2=S/2+2 ^ f:=by rw[Nat.pow_succ];omega
  rw[uX (S+2 ^ (f+1)),uX S,e,ih _ h];have:(S+2 ^ (f+1))%2=S%2:=by rw[Nat.pow_succ];omega
  omega
theorem aN3: ∀(t S:Nat),S.testBit t=true→ ∃R,S=R+2 ^ t∧R.testBit t=false:=by
 intro t;induction t with
 |zero=>
  intro S h;rw[aUv]at h;have h0:S%2=1:=by simpa using h
  exact⟨S-1,by simp;omega,by rw[aUv];simp;omega⟩
 |succ t ih=>intro S h;rw[aV6]at h;obtain⟨R,h1,h2⟩:=ih _ h;refine⟨2*R+S%2,by rw[Nat.pow_succ];omega,?_⟩;rw[aV6,show(2*R+S%2)/2=R by omega];exact h2
theorem yW {t S:Nat}(h:S.testBit t=true):2 ^ t≤S∧(∀k,(S-2 ^ t).testBit k=(S.testBit k&& !decide (k=t)))∧iX S=iX (S-2 ^ t)+1:=by
 obtain⟨R,rfl,h2⟩:=aN3 t S h;rw[aV9];refine⟨Nat.le_add_left _ _,fun k=> ?_,aA0 _ _ h2⟩;rw[yX _ _ h2];by_cases hk:k=t
 ·subst hk;simp[h2]
 simp[hk]
def dK (S f t:Nat):Nat:=S-2 ^ t+2 ^ f
theorem fM {S f t:Nat}(ht:S.testBit t=true)(hf:S.testBit f=false)(k:Nat):(dK S f t).testBit k=(decide (k=f) || (S.testBit k&& !decide (k=t))):=by obtain⟨a,b,c⟩:=yW ht;unfold dK;rw[yX _ _ (by rw[b,hf];rfl),b];cases S.testBit k<;>cases decide (k=f)<;>cases decide (k=t)<;>rfl
theorem aIz {S f t:Nat}(ht:S.testBit t=true)(hf:S.testBit f=false):iX (dK S f t)=iX S:=by obtain⟨a,b,c⟩:=yW ht;unfold dK;rw[aA0 _ _ (by rw[b,hf];rfl),c]
theorem aKs {a b:Nat}(h: ∀k,a.testBit k=b.testBit k):a=b:=aVe h
theorem aR3 {n a:Nat}(h: ∀k,n≤k→a.testBit k=false):a<2 ^ n:=Nat.lt_pow_two_of_testBit a h
theorem xA {n a:Nat}(h:a<2 ^ n){k:Nat}(hk:n≤k):a.testBit k=false:=Nat.testBit_lt_two_pow (aT1 h (aTg (by omega) hk))
theorem vA {n S f t:Nat}(hS:S<2 ^ n)(a:f<n)(ht:S.testBit t=true)(hf:S.testBit f=false):dK S f t<2 ^ n:=by
 refine aR3 fun k hk=> ?_
 rw[fM ht hf,xA hS hk];have:k≠f:=by omega
 simp[this]
theorem aJ0 {S f t:Nat}(ht:S.testBit t=true)(hf:S.testBit f=false):dK (dK S f t) t f=S:=by
 have a:f≠t:=fun e=>by subst e;rw[ht]at hf;cases hf
 refine aKs fun k=> ?_
 rw[fM (by rw[fM ht hf];simp) (by rw[fM ht hf];simp[Ne.symm a]),fM ht hf];by_cases h1:k=t
 ·subst h1;simp[ht]
 by_cases h2:k=f
 ·subst h2;simp[h1,hf]
 simp[h1,h2]
def kR (p:Nat→Bool):Nat→Nat
 |0=>0
 |k+1=>kR p k+(if p k then 2 ^ k else 0)
theorem sD (p:Nat→Bool)(k:Nat):kR p k<2 ^ k:=by
 induction k with
 |zero=>simp[kR]
 |succ k ih=>unfold kR;rw[Nat.pow_succ];split<;>omega
theorem aOd (p:Nat→Bool)(k j:Nat):(kR p k).testBit j=(decide (j<k)&&p j):=by
 induction k with
 |zero=>simp[kR]
 |succ k ih=>
  have hk:(kR p k).testBit k=false:=xA (sD p k) (aT2 _);unfold kR;cases hp:p k with
  |false=>
   simp only[Bool.false_eq_true,if_false,Nat.add_zero];rw[ih];by_cases h:j=k
   ·subst h;simp[hp]
   have:(j<k+1)↔j<k:=by omega
   simp[this]
  |true=>
   simp only[if_true];rw[yX _ _ hk,ih];by_cases h:j=k
   ·subst h;simp[hp]
   have:(j<k+1)↔j<k:=by omega
   simp[this,h]
theorem aLo (p:Nat→Bool)(k:Nat):iX (kR p k)=((List.range k).filter p).length:=by
 induction k with
 |zero=>simp[kR,iX]
 |succ k ih=>
  have hk:(kR p k).testBit k=false:=xA (sD p k) (aT2 _);rw[aUl,aU5,aTa,←ih,show kR p (k+1)=kR p k+(if p k then 2 ^ k else 0)from rfl];cases hp:p k with
  |false=>simp[hp]
  |true=>simp only[if_true];rw[aA0 _ _ hk];simp[hp]
def aM (xs:List Int):Nat:=kR (dM xs) xs.length
theorem fJ (xs:List Int)(k:Nat):(aM xs).testBit k=dM xs k:=by
 unfold aM;rw[aOd];by_cases h:k<xs.length
 ·simp[h]
 have:dM xs k=false:=by unfold dM;rw[aUi (by omega)];rfl
 rw[this];simp
theorem pU (xs:List Int):aM xs<2 ^ xs.length:=sD _ _
theorem aF5 (xs:List Int):iX (aM xs)=(bS xs).length:=aLo _ _
section
def fA (aA:Int)(n S:Nat):List (Nat×Nat):=(List.range n).flatMap fun f=>if S.testBit f then []else((aT aA n f).filter (fun t=>S.testBit t)).map (fun t=>(f,t))
theorem gI {aA:Int}{n S:Nat}{e:Nat×Nat}:e∈fA aA n S↔e.1<n∧e.2<n∧e.2∈aT aA n e.1∧S.testBit e.1=false∧S.testBit e.2=true:=by
 obtain⟨f,t⟩:=e;simp only[fA,List.mem_flatMap,aTo];constructor
 ·rintro⟨a,ha,hm⟩;cases hb:S.testBit a with
  |true=>rw[hb]at hm;simp at hm
  |false=>rw[hb]at hm;simp only[Bool.false_eq_true,if_false,List.mem_map,aU0]at hm;obtain⟨x,⟨h1,h2⟩,h3⟩:=hm;injection h3 with h3 h4;subst h3 h4;exact⟨ha,(cE.1 h1).1,h1,hb,h2⟩
 rintro⟨h1,h2,h3,h4,h5⟩;refine⟨f,h1,?_⟩;rw[h4];simp only[Bool.false_eq_true,if_false,List.mem_map,aU0];exact⟨t,⟨h3,h5⟩,rfl⟩
def eD (c f t:Nat):Nat:=if f=c then t else c
def iN (M c S f t:Nat):Nat:=eD c f t*M+dK S f t
def qA (aA:Int)(n M s:Nat):List Nat:=(fA aA n (s%M)).map (fun e=>iN M (s/M) (s%M) e.1 e.2)
def aB8 (aA:Int)(n M s:Nat):List Nat:=(List.range n).flatMap fun h=>if(s%M).testBit h then((aT aA n h).filter (fun f=> !(s%M).testBit f)).map (fun f=>iN M (s/M) (s%M) f h)else []
def uH (aA:Int)(n M s v:Nat):Prop:= ∃f t,f<n∧t<n∧t∈aT aA n f∧(s%M).testBit f=false∧(s%M).testBit t=true∧v=iN M (s/M) (s%M) f t
theorem rT {aA:Int}{n M s v:Nat}:v∈qA aA n M s↔uH aA n M s v:=by
 unfold qA uH;rw[List.mem_map];constructor
 ·rintro⟨⟨f,t⟩,h,rfl⟩;obtain⟨h1,h2,h3,h4,h5⟩:=gI.1 h;exact⟨f,t,h1,h2,h3,h4,h5,rfl⟩
 rintro⟨f,t,h1,h2,h3,h4,h5,rfl⟩;exact⟨(f,t),gI.2 ⟨h1,h2,h3,h4,h5⟩,rfl⟩
theorem oY {aA:Int}{n M s v:Nat}:v∈aB8 aA n M s↔uH aA n M s v:=by
 unfold aB8 uH;rw[List.mem_flatMap];constructor
 ·rintro⟨h,hh,hm⟩;rw[aTo]at hh;cases hb:(s%M).testBit h with
  |false=>rw[hb]at hm;simp at hm
  |true=>rw[hb]at hm;simp only[if_true,List.mem_map,aU0,Bool.not_eq_true']at hm;obtain⟨f,⟨h1,h2⟩,rfl⟩:=hm;exact⟨f,h,(cE.1 h1).1,hh,iK hh h1,h2,hb,rfl⟩
 rintro⟨f,t,h1,h2,h3,h4,h5,rfl⟩;refine⟨t,aTo.2 h2,?_⟩;rw[h5];simp only[if_true,List.mem_map,aU0,Bool.not_eq_true'];exact⟨f,⟨iK h1 h3,h4⟩,rfl⟩
structure aBz (n M s:Nat):Prop where
 car:s/M<n
 set:s%M<2 ^ n
 occ:(s%M).testBit (s/M)=false
theorem nO {M c S:Nat}(h:S<M):(c*M+S)/M=c:=by rw[Nat.mul_comm,Nat.mul_add_div (by omega),Nat.div_eq_of_lt h,Nat.add_zero]
theorem jA {M c S:Nat}(h:S<M):(c*M+S)%M=S:=by rw[Nat.mul_comm,Nat.mul_add_mod,Nat.mod_eq_of_lt h]
theorem aHt {n c f t:Nat}(hc:c<n)(ht:t<n):eD c f t<n:=by unfold eD;split<;>omega
theorem nB {aA:Int}{n M s v:Nat}(hM:2 ^ n≤M)(hS:s%M<2 ^ n)(h:uH aA n M s v): ∃f t,f<n∧t<n∧t∈aT aA n f∧(s%M).testBit f=false∧(s%M).testBit t=true∧v/M=eD (s/M) f t∧v%M=dK (s%M) f t∧dK (s%M) f t<2 ^ n:=by obtain⟨f,t,h1,h2,h3,h4,h5,rfl⟩:=h;have hl:=vA hS h1 h5 h4;exact⟨f,t,h1,h2,h3,h4,h5,nO (by omega),jA (by omega),hl⟩
theorem aKn {aA:Int}{n M s v:Nat}(hM:2 ^ n≤M)(hc:s/M<n)(hS:s%M<2 ^ n)(h:uH aA n M s v):v/M<n∧v%M<2 ^ n:=by obtain⟨f,t,h1,h2,h3,h4,h5,h6,h7,h8⟩:=nB hM hS h;exact⟨by rw[h6];exact aHt hc h2,by rw[h7];exact h8⟩
theorem vO {aA:Int}{n M s v:Nat}(hM:2 ^ n≤M)(hs:aBz n M s)(h:uH aA n M s v):aBz n M v:=by
 obtain⟨a,b⟩:=aKn hM hs.car hs.set h;obtain⟨f,t,h1,h2,h3,h4,h5,h6,h7,h8⟩:=nB hM hs.set h;refine⟨a,b,?_⟩;rw[h6,h7,fM h5 h4];unfold eD;have c:f≠t:=fun e=>by subst e;rw[h5]at h4;cases h4
 split
 ·simp[Ne.symm c]
 have:=hs.occ;have h9:s/M≠f:=fun e=>by omega
 simp[this,h9]
theorem sP {aA:Int}{n M s v:Nat}(hM:2 ^ n≤M)(hS:s%M<2 ^ n)(h:uH aA n M s v):iX (v%M)=iX (s%M):=by obtain⟨f,t,h1,h2,h3,h4,h5,h6,h7,h8⟩:=nB hM hS h;rw[h7,aIz h5 h4]
theorem aD1 {aA:Int}{n M s v:Nat}(hM:2 ^ n≤M)(hs:aBz n M s)(h:uH aA n M s v):uH aA n M v s:=by
 obtain⟨f,t,h1,h2,h3,h4,h5,h6,h7,h8⟩:=nB hM hs.set h;have b:f≠t:=fun e=>by subst e;rw[h5]at h4;cases h4
 refine⟨t,f,h2,h1,iK h1 h3,by rw[h7,fM h5 h4];simp[Ne.symm b],by rw[h7,fM h5 h4];simp,?_⟩;have a:eD (v/M) t f=s/M:=by
  rw[h6];unfold eD;by_cases hf:f=s/M
  ·simp[hf]
  have ht: ¬t=s/M:=fun e=>by have:=hs.occ;rw[←e,h5]at this;cases this
  simp[hf,ht]
 unfold iN;rw[a,h7,aJ0 h5 h4];rw[Nat.mul_comm];exact(aVc s M).symm
def aRz:List ((Int×Nat)×List Nat):= [
 ((2,4),[0,0,0,0,1,0,2,3,1,2,0,3,5,4,4,0]),
 ((2,6),[0,0,0,0,0,0,1,0,2,3,3,4,1,2,0,3,5,4,5,4,4,0,5,6,7,8,6,7,0,8,9,8,8,7,9,0]),
 ((3,6),[0,0,0,0,0,0,1,0,5,2,3,4,7,6,0,8,7,8,1,2,3,0,3,4,5,4,5,4,0,6,9,8,9,8,7,0]),
 ((3,9),[0,0,0,0,0,0,0,0,0,1,0,5,2,3,4,3,4,5,7,6,0,8,7,8,9,8,9,1,2,3,0,3,4,5,4,5,5,4,5,4,0,6,5,6,7,9,8,9,8,7,0,9,8,9,7,8,9,6,7,8,0,8,9,9,8,9,8,7,8,9,0,9,13,12,11,12,11,10,11,10,0]),
 ((4,8),[0,0,0,0,0,0,0,0,1,0,5,6,2,3,4,5,7,6,0,10,8,7,8,9,13,12,11,0,14,13,12,13,1,2,3,4,0,3,4,5,5,4,5,6,4,0,6,7,9,8,9,10,8,7,0,11,15,14,13,14,14,13,12,0]),
 ((4,12),[0,0,0,0,0,0,0,0,0,0,0,0,1,0,5,6,2,3,4,5,3,4,5,6,7,6,0,10,8,7,8,9,9,8,9,10,13,12,11,0,14,13,12,13,15,14,13,14,1,2,3,4,0,3,4,5,5,4,5,6,5,4,5,6,4,0,6,7,5,6,7,8,9,8,9,10,8,7,0,11,9,8,9,10,15,14,13,14,14,13,12,0,15,14,13,14,7,8,9,10,6,7,8,9,0,8,9,10,9,8,9,10,8,7,8,9,9,0,9,10,13,12,11,12,12,11,10,11,11,10,0,12,17,16,15,16,16,15,14,15,15,14,13,0])]
def pot (aA:Int)(n c h:Nat):Nat:=((aRz.find? (fun g=>g.1==(aA,n))).map (fun g=>g.2.getD (c*n+h) 0)).getD 0
def aSp (aA:Int)(n:Nat):Bool:=(List.range n).all fun c=>(List.range n).all fun h=>decide (pot aA n c h≤60)&&(c==0 || c==h || (aT aA n h).any fun t=>decide (pot aA n (if t=c then h else c) t<pot aA n c h))
theorem aQx:(kN.all fun g=>aSp g.1 g.2)=true:=by decide+kernel
theorem zZ {aA:Int}{n c h:Nat}(hg:(aA,n)∈kN)(hc:c<n)(hh:h<n):pot aA n c h≤60∧(c≠0→c≠h→ ∃t,t∈aT aA n h∧pot aA n (if t=c then h else c) t<pot aA n c h):=by
 have h1:=aTp.1 aQx _ hg;have h2:=aTp.1 (aTp.1 h1 c (aTo.2 hc)) h (aTo.2 hh);simp only[aTd,Bool.or_eq_true,decide_eq_true_eq,beq_iff_eq,List.any_eq_true]at h2;refine⟨h2.1,fun a b=> ?_⟩;rcases h2.2 with(h3|h3)|⟨t,h3,h4⟩
 ·exact absurd h3 a
 ·exact absurd h3 b
 exact⟨t,h3,h4⟩
def zE (n many:Nat):List Nat:=(List.range (2 ^ n)).filter (fun s=> !s.testBit 0&&decide (iX s=many))
theorem kT {n many s:Nat}:s∈zE n many↔s<2 ^ n∧s.testBit 0=false∧iX s=many:=by simp[zE]
section
variable {aA:Int} {n many:Nat} {D:List Int}
abbrev MM:Nat:=4096
abbrev NN:Nat:=49152
abbrev fT (aA:Int)(n many:Nat)(D:List Int):Prop:=vW (aB8 aA n MM) (zE n many) NN D
theorem jV (hn:n≤12):2 ^ n≤MM:=aTg (n:=2) (by omega) hn
theorem qX (hn:n≤12){s:Nat}(h:aBz n MM s):s<NN:=by have h1:=h.car;have h2:=aVc s MM;have h3:s%MM<MM:=Nat.mod_lt _ (by decide);show s<49152;have:s/4096<n:=h1;omega
theorem aS2 {s:Nat}(h:s<NN):s/MM<12:=by have:s<49152:=h;show s/4096<12;omega
theorem aKo (c:4≤n)(hn:n≤12)(hD:fT aA n many D): ∀(k s:Nat),s<NN→D.getD s 0=k→aBz n MM s∧iX (s%MM)=many:=by
 intro k;induction k with
 |zero=>intro s hs h0;have hm:=(hD.zero s hs).1 (by omega);obtain⟨h1,h2,h3⟩:=kT.1 hm;have h4:=jV hn;have h5:s%MM=s:=Nat.mod_eq_of_lt (by omega);have h6:s/MM=0:=Nat.div_eq_of_lt (by omega);exact⟨⟨by rw[h6];omega,by rw[h5];exact h1,by rw[h5,h6];exact h2⟩,by rw[h5];exact h3⟩
 |succ k ih=>intro s hs h0;obtain⟨u,hu,hv,hd⟩:=hD.back s hs (by omega);obtain⟨a,b⟩:=ih u hu (by omega);have he:=oY.1 hv;exact⟨vO (jV hn) a he,by rw[sP (jV hn) a.set he];exact b⟩
theorem aD5 (b:4≤n)(hn:n≤12)(hD:fT aA n many D){s v:Nat}(hs:aBz n MM s)(he:uH aA n MM s v):(0≤D.getD s 0↔0≤D.getD v 0)∧(0≤D.getD s 0→D.getD s 0≤D.getD v 0+1∧D.getD v 0≤D.getD s 0+1):=by
 have hv:=vO (jV hn) hs he;have a:=aD1 (jV hn) hs he;have l1:=qX hn hs;have l2:=qX hn hv;have e1:=fun h=>hD.edge s v l1 h (oY.2 he)
 have e2:=fun h=>hD.edge v s l2 h (oY.2 a)
 exact⟨⟨fun h=>(e1 h).1,fun h=>(e2 h).1⟩,fun h=>⟨(e2 (e1 h).1).2,(e1 h).2⟩⟩
theorem aQ6 (hg:(aA,n)∈kN)(i:4≤n)(hn:n≤12)(hD:fT aA n many D): ∀(P s h:Nat),pot aA n (s/MM) h≤P→aBz n MM s→iX (s%MM)=many→(s%MM).testBit h=true→0≤D.getD s 0∧D.getD s 0≤pot aA n (s/MM) h:=by
 intro P;induction P with
 |zero=>
  intro s h hP hs hm hh;by_cases h0:s/MM=0
  ·have h1:s=s%MM:=by have:=aVc s MM;rw[h0]at this;omega
   have:D.getD s 0=0:=(hD.zero s (qX hn hs)).2 (kT.2 ⟨by rw[h1];exact hs.set,by rw[h1,←h0];exact hs.occ,by rw[h1];exact hm⟩);rw[this];exact⟨Int.le_refl _,by omega⟩
  have c:h<n:=by
   rcases Nat.lt_or_ge h n with h1|h1
   ·exact h1
   rw[xA hs.set h1]at hh;cases hh
  obtain⟨t,ht,d⟩:=(zZ hg hs.car c).2 h0 (fun e=>by rw[←e,hs.occ]at hh;cases hh);omega
 |succ P ih=>
  intro s h hP hs hm hh;by_cases h0:s/MM=0
  ·have h1:s=s%MM:=by have:=aVc s MM;rw[h0]at this;omega
   have:D.getD s 0=0:=(hD.zero s (qX hn hs)).2 (kT.2 ⟨by rw[h1];exact hs.set,by rw[h1,←h0];exact hs.occ,by rw[h1];exact hm⟩);rw[this];exact⟨Int.le_refl _,by omega⟩
  have c:h<n:=by
   rcases Nat.lt_or_ge h n with h1|h1
   ·exact h1
   rw[xA hs.set h1]at hh;cases hh
  obtain⟨t,ht,d⟩:=(zZ hg hs.car c).2 h0 (fun e=>by rw[←e,hs.occ]at hh;cases hh);have g:=(cE.1 ht).1;cases hb:(s%MM).testBit t with
  |true=>
   have f:t≠s/MM:=fun e=>by rw[e,hs.occ]at hb;cases hb
   rw[if_neg f]at d;obtain⟨a,b⟩:=ih s t (by omega) hs hm hb;exact⟨a,by omega⟩
  |false=>
   have he:uH aA n MM s (iN MM (s/MM) (s%MM) t h):=⟨t,h,g,c,iK c ht,hb,hh,rfl⟩
   obtain⟨f',t',k1,k2,k3,k4,k5,k6,k7,k8⟩:=nB (jV hn) hs.set he;have hl:=vA hs.set g hh hb;have e1:iN MM (s/MM) (s%MM) t h/MM=eD (s/MM) t h:=nO (aT1 hl (jV hn));have e2:iN MM (s/MM) (s%MM) t h%MM=dK (s%MM) t h:=jA (aT1 hl (jV hn));have j:=vO (jV hn) hs he;have k:=sP (jV hn) hs.set he;have f:t≠h:=fun e=>by subst e;rw[hh]at hb;cases hb
   have hp:pot aA n (iN MM (s/MM) (s%MM) t h/MM) t=pot aA n (if t=s/MM then h else s/MM) t:=by rw[e1];rfl
   obtain⟨a,b⟩:=ih _ t (by rw[hp];omega) j (by rw[k];exact hm) (by rw[e2,fM hh hb];simp);rw[hp]at b;obtain⟨c1,c2⟩:=aD5 i hn hD hs he;have c3:=c1.2 a;have:=c2 c3;exact⟨c3,by omega⟩
theorem aRl {adj:Nat→List Nat}{src:List Nat}{N:Nat}{D E:List Int}(hD:vW adj src N D)(hE:vW adj src N E): ∀(k v:Nat),v<N→D.getD v 0=k→0≤E.getD v 0∧E.getD v 0≤k:=by
 intro k;induction k with
 |zero=>intro v hv h;have:E.getD v 0=0:=(hE.zero v hv).2 ((hD.zero v hv).1 (by omega));rw[this];simp
 |succ k ih=>intro v hv h;obtain⟨u,hu,hm,hd⟩:=hD.back v hv (by omega);obtain⟨a,b⟩:=ih u hu (by omega);obtain⟨c,d⟩:=hE.edge u v hu a hm;exact⟨c,by omega⟩
theorem aD3 {adj:Nat→List Nat}{src:List Nat}{N:Nat}{D E:List Int}(hD:vW adj src N D)(hE:vW adj src N E){v:Nat}(hv:v<N):(0≤D.getD v 0↔0≤E.getD v 0)∧(0≤D.getD v 0→D.getD v 0=E.getD v 0):=by
 have h1: ∀(A B:List Int),vW adj src N A→vW adj src N B→0≤A.getD v 0→0≤B.getD v 0∧B.getD v 0≤A.getD v 0:=by intro A B hA hB h;obtain⟨k,hk⟩:=aU8 h;have:=aRl hA hB k v hv hk;rw[hk];exact this
 refine⟨⟨fun h=>(h1 D E hD hE h).1,fun h=>(h1 E D hE hD h).1⟩,fun h=> ?_⟩;obtain⟨a,b⟩:=h1 D E hD hE h;obtain⟨c,d⟩:=h1 E D hE hD a;omega
def kH (N:Nat)(src:List Nat):List Int:=src.foldl (fun A v=>A.set v 0) (List.replicate N (-1))
theorem aIn (N:Nat)(src:List Nat)(v:Nat):kH N (src++ [v])=(kH N src).set v 0:=by simp[kH]
theorem aCa (N:Nat)(src:List Nat):(kH N src).length=N:=by
 unfold kH
 suffices h: ∀(l:List Nat) (A:List Int),(l.foldl (fun A v=>A.set v 0) A).length=A.length by rw[h];simp
 intro l;induction l with
 |nil=>intro A;rfl
 |cons x l ih=>intro A;simp only[List.foldl_cons];rw[ih];simp
theorem aCb (N:Nat)(src:List Nat)(v:Nat)(hv:v<N):(v∈src→(kH N src).getD v 0=0)∧(v∉src→(kH N src).getD v 0= -1):=by
 unfold kH
 suffices h: ∀(l:List Nat) (A:List Int),A.length=N→(v∈l→(l.foldl (fun A v=>A.set v 0) A).getD v 0=0)∧(v∉l→(l.foldl (fun A v=>A.set v 0) A).getD v 0=A.getD v 0) by obtain⟨a,b⟩:=h src (List.replicate N (-1)) (by simp);exact⟨a,fun h=>by rw[b h];simp[List.getD,hv]⟩
 intro l;induction l with
 |nil=>intro A _;simp
 |cons x l ih=>
  intro A hA;simp only[List.foldl_cons];obtain⟨a,b⟩:=ih (A.set x 0) (by simpa using hA);constructor
  ·intro hm;by_cases hl:v∈l
   ·exact a hl
   have:v=x:=by simpa[hl]using hm
   subst this;rw[b hl,cS (by omega)]
  intro hm;have h1:v≠x:=fun e=>hm (by simp[e])
  have h2:v∉l:=fun e=>hm (by simp[e])
  rw[b h2,bZ (Ne.symm h1)]
theorem Inv.begin {adj:Nat→List Nat}{src:List Nat}{N:Nat}(hb: ∀v∈src,v<N)(a:src.Nodup):Inv adj src N 0 (kH N src,src):=by
 have h0: ∀v∈src,(kH N src).getD v 0=0:=fun v hv=>(aCb N src v (hb v hv)).1 hv
 refine⟨aCa _ _,hb,fun v hv=> ?_,a,?_,?_,?_,fun v hv=>⟨hv,h0 v hv⟩,fun i u hi=>absurd hi (by omega)⟩
 ·by_cases hm:v∈src
  ·rw[h0 v hm];simp[hm]
  rw[(aCb N src v hv).2 hm];simp[hm]
 ·refine List.pairwise_iff_getElem.2 fun i j hi hj _=> ?_
  dsimp only;rw[h0 _ (List.getElem_mem hi),h0 _ (List.getElem_mem hj)];exact Int.le_refl _
 ·intro u hu v hv;dsimp only;rw[h0 v hv,h0 u (aT4 hu)];omega
 intro v hv;dsimp only;rw[h0 v hv];exact hv
theorem vU (hn:n≤12): ∀u v,u<NN→v∈aB8 aA n MM u→v<NN:=by intro u v hu hv;obtain⟨f,t,h1,h2,h3,h4,h5,rfl⟩:=oY.1 hv;have hc:eD (u/MM) f t<12:=aHt (aS2 hu) (by omega);have hS:u%MM<2 ^ 12:=Nat.mod_lt _ (by decide);have:=vA hS (by omega:f<12) h5 h4;show eD (u/MM) f t*4096+dK (u%MM) f t<49152;omega
theorem aKa (hn:n≤12): ∀v∈zE n many,v<NN:=fun v hv=>by
 have:=(kT.1 hv).1;have h:=jV hn;have h2:(MM:Nat)<NN:=by decide
 omega
theorem zD:(zE n many).Nodup:=List.Pairwise.filter _ List.nodup_range
end
end
end Go.Proofs.YtbgkcehffiogcabGreatDoor
