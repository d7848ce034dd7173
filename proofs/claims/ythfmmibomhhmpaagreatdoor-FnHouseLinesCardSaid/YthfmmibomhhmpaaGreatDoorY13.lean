/-
  Texts of this proof, packed (@packed).
-/
import Derived.Test.YthfmmibomhhmpaaGreatDoorY12
namespace Go.Proofs.YthfmmibomhhmpaaGreatDoor
open Go.RowKit
set_option linter.unusedSimpArgs false
set_option linter.unusedVariables false
set_option maxHeartbeats 8000000
set_option maxRecDepth 100000
section
open Go.Proofs.Tryz
theorem lI {aA:Int}{n:Nat}(hg:(aA,n)∈jW){u:Nat}(hu:u<n):0<(dK aA n 12 u).length∧(dK aA n 12 u).length≤6∧((dK aA n 12 u).length:Int)=aZ aA u 0+1:=by have g:=cA hg hu;have h:=nZ hg 12 u hu (by have:=g.2.1;omega);have:=g.1;have:=g.2.1;omega
theorem aE1 {aA aB:Int}{xs:List Int}(a:aN aA aB xs=true){x y:Nat}(hx:x<xs.length)(hy:y∈aU aA xs.length x):dS aA aB xs (x:Int) (y:Int)=1:=by obtain⟨h1,h2⟩:=bZ.1 hy;unfold dS;rw[if_pos ⟨a,⟨by omega,by omega⟩,by omega,by omega⟩];exact h2
theorem zJ (aA aB:Int)(p:OA)(n a:Nat)(xs:List Int)(lq:OA)(m lc u:Nat)(w:World)(hS:Sl w p n a 1 (ivs xs))(f:aN aA aB xs=true)(hu:u<n)(i:xs.getD u 0=0)
  (hL:Sl w lq m lc 1 (ivs (bK (dK aA n 12 u)))):
  U 147 #[aH aA aB p n a,.slice lq m lc] w (gH (cO xs u (dK aA n 12 u).tail).2 w):=by
 have hl:=hS.ilen;subst hl;have hg:=lA f;obtain⟨g1,g2,g3,g4,g5,g6,g7⟩:=cG (cY f);obtain⟨k1,k2,k3⟩:=lI hg hu;have hm:=hL.ilen;rw[aU1]at hm;obtain⟨pb,po,rfl,o,q⟩:=hS.rd (by omega);obtain⟨b,g,rfl,hb,hc⟩:=hL.rd (by omega);have c: ∀(k x:Nat),(dK aA xs.length 12 u)[k]? =some x→w.cell? ⟨b,g+k,none⟩=some (I x):=by intro k x hx;have hk:=(aT9.1 hx).1;rw[hc k (by omega)];simp[ivs,bK,hx]
 have d:=xX aA xs.length 12 u;have j:w.cell? ⟨b,g,none⟩=some (I u):=c 0 u (by rw[d];rfl);have l:w.cell? ⟨pb,po+u,none⟩=some (I 0):=by rw[q u (by omega)];rw[aTb,aT6 hu]at i;simp only[Option.getD_some]at i;simp[ivs,hu,i]
 have HV: ∀w',Ext w w'→U 25 #[aH aA aB (some ⟨pb,po,none⟩) xs.length a] w' (O (.bool true) w'):=fun w' hy=>by have:=gM aA aB _ xs.length a xs w' (hS.ext hy);rwa[f]at this
 have HI: ∀w,U 27 #[u,(),((xs.length:Int)-1:Int)] w fun e w'=>e= .returned (.bool true)∧w=w':=fun w=>by have:=tV (u:Int) 0 ((xs.length:Int)-1) w;rwa[show decide ((0:Int)≤(u:Int)∧(u:Int)≤(xs.length:Int)-1)=true by simp;omega]at this
 have HW: ∀w',Ext w w'→U 184 #[aH aA aB (some ⟨pb,po,none⟩) xs.length a,.slice (some ⟨b,g,none⟩) m lc] w' (O (.bool true) w'):=fun w' hy=>
  aKp aA aB _ xs.length a b g m lc (dK aA xs.length 12 u) w' g5 g6 (by omega) (by omega) hm (aT4 hb hy.sz) (fun k x hx=>(hy.cells.1 _ _ hb).trans (c k x hx)) u ((hy.cells.1 _ _ hb).trans j)
   (fun k x y hx hxy w2 hy2=>by
    have h2:=wD hg 12 u k x y hu hx hxy;have r:=aJf hg 12 u x hu (aT7 hx);have:=aCp aA aB (x:Int) (y:Int) _ xs.length a xs w2 (hS.ext (hy.trans hy2));rw[aE1 f r h2.2]at this
    exact this) (fun w2 hy2=>HV w2 (hy.trans hy2)) HI
 exact aNj aA aB pb po xs.length a xs b g m lc u (dK aA xs.length 12 u).tail (dK aA xs.length 12 u) w g5 g6 (by omega) (by omega) d hm hb o f rfl hu i (uQ hg 12 u hu) c j l HW
  (fun w' hy=>(gQ aA aB _ xs.length a xs w' (by omega) (hS.ext hy)).mono fun e w'' h=>h)
def mN (aA:Int)(n:Nat):Option Nat→List Nat
 |none=> []
 |some u=>dK aA n 12 u
theorem aBg {aA:Int}{n:Nat}(hg:(aA,n)∈jW){l:List Nat}(hl: ∀x∈l,x<n){u:Nat}(hu:u<n):
  ((mN aA n (dM aA l)).length=0∨(dK aA n 12 u).length<(mN aA n (dM aA l)).length→dM aA (l++ [u])=some u)∧
  (¬((mN aA n (dM aA l)).length=0∨(dK aA n 12 u).length<(mN aA n (dM aA l)).length)→dM aA (l++ [u])=dM aA l):=by
 obtain⟨k1,k2,k3⟩:=lI hg hu;rw[aCz];cases h:dM aA l with
 |none=>simp[mN,pA]
 |some v=>
  obtain⟨m1,m2,m3⟩:=lI hg (hl v ((lM aA l).2 v h));simp only[mN,pA];constructor
  ·intro hc;rw[if_pos (by omega)]
  intro hc;rw[if_neg (by omega)]
theorem aH1 (aA aB:Int)(p:OA)(n a:Nat)(fr:List Nat)(F:Nat)(w:World)(hg:Hid ((aA,n)∈jW))(hn:n≤12)(hF:Hid (fr.length=F))(ag:F≤12)(s:Hid (∀x∈fr,x<n))
  (HF:xC 163 #[aH aA aB p n a] w fun w' e w''=> ∃q c,e= .returned (.slice q F c)∧w''.ownsRow w' TI 1 (.slice q F c) F (ivs (bK fr))∧Ext w' w'')
  (m:Hid (∀(u:Nat),u<n→ ∀w',Ext w w'→U 183 #[aH aA aB p n a,u,(),(-1:Int)] w' (bC (bK (dK aA n 12 u)) w'))):
  U 146 #[aH aA aB p n a,(),(-1:Int)] w (bC (bK (mN aA n (dM aA fr))) w):=by
 go_enter func146,ntmps146;have ME:=(((Mem.start w).c0 TH3 #[aA,aB,.slice p n a]).made0 TI 1 (w.heap.size+1) (by simp))
 go_wp2_with fail;refine(HF _ ME.ext).mono ?_;rintro e w1 ⟨q1,c1,rfl,t,z⟩;have M1:=(ME.call z t)
 clear ME z t;go_wp2;go_loopw [7,9] (fun v i wr=> ∃(k:Nat) (qb:OA) (l lb:Nat),k≤F∧i=I k∧v= .slice qb l lb∧l=(mN aA n (dM aA (fr.take k))).length∧Mem w wr [aJ w TI 1 (qb) (l) (lb) (ivs (bK (mN aA n (dM aA (fr.take k))))),aJ w TI 1 (q1) (F) (c1) (ivs (bK fr)),aI w w TH3 #[aA,aB,.slice p n a]]) (fun _ i _=>F-(intOf i).toNat)
 case atStart=>exact⟨0,some ⟨w.heap.size+1,0,none⟩,0,0,aTd _,rfl,rfl,rfl,(M1.pick [1,0,2] (by decide) rfl)⟩
 case round=>
  clear M1;obtain⟨k,qb,l,lb,hk,rfl,rfl,hl,hM⟩:=hrel;have HM:=hM;have b:=xQ hl;clear hM hl;by_cases hlt:k<F
  ·obtain⟨u,hu⟩: ∃u,fr[k]? =some u:=⟨_,aT6 (by rw[hF.out];exact hlt)⟩
   have j:u<n:=s.out u (aT7 hu);obtain⟨gf,rfl,aj,ad⟩:=HM.so 1;have cu:wr.cell? ⟨gf,k,none⟩=some (I u):=by have:=(HM.ow 1).cellAt k (by omega);rw[this];simp[ivs,bK,hu]
   obtain⟨d,f⟩:=aBg hg.out (l:=fr.take k) (fun x hx=>s.out x (aUl hx)) j;rw[←bA hu,←b.out]at d f;obtain⟨k1,k2,k3⟩:=lI hg.out j;obtain⟨W,hW⟩: ∃W,W=(dK aA n 12 u).length:=⟨_,rfl⟩
   rw[←hW]at k1 k2 d f;have o:=xQ d;have aa:=xQ f;have g:=xQ hW;have HC:=xQ (fun w' (hx:Ext w w')=>m u j w' hx);clear hu d f hW k3;have i1:=aVt k;have i2:=aVu k F;go_wp2;refine rL (gl [gEq (.agg #[aA,aB,.slice p n a]),gEq (.slice (some ⟨gf,0,none⟩) F c1),gEq (k:Int),gEq (.pointer (some ⟨gf,k,none⟩)),gEq (u:Int),gEq (I 0),gEq (-1:Int),(fun v w'=> ∃q c,v= .slice q (W) c∧w'.ownsRow wr TI 1 (.slice q (W) c) (W) (ivs (bK (dK aA n 12 u))))]) 8 9 [(0,some 20),(1,some 21),(2,some 22),(3,some 23),(4,some 24),(5,some 25),(6,some 26),(7,some 27)] ?steps ?fin (hG:=(kK (aX (bB _) (aX (bB _) (aX (bB _) (aX (bB _) (aX (bB _) (aX (bB _) (aX (bB _) (aX (fun v w w' ⟨q,c,he,ho⟩ hx=>⟨q,c,he,aW ho hx⟩) (mU)))))))))))
   case steps=>
    refine sC [] rfl (fun wi hx=> ?_) ?_
    ·intro K hK;have hX:=hx.of_drew;obtain⟨ab,ah,ai⟩:=((HM.bk 2).ext hX).tri;go_simp;exact hK _ _ ⟨.agg #[aA,aB,.slice p n a],rfl,rfl,Ext.refl _⟩
    refine sS0 [] (sS0 [] (sS2 [(1,some 21),(2,some 22)] ?_));refine sC [(3,some 23)] rfl (fun wi hx=> ?_) ?_
    ·intro v3 h3 K hK;obtain rfl:=h3;have hX:=hx.of_drew;have ab:wi.cell? ⟨gf,k,none⟩=some (I u):=(hX.cells.1 _ _ ad).trans cu;go_simp;exact hK _ _ ⟨I u,rfl,rfl,Ext.refl _⟩
    refine sS0 [] (sS0 [] ?_);refine sC [(0,some 20),(4,some 24),(5,some 25),(6,some 26)] rfl (fun wi hx=> ?_) StepsL.nil
    ·intro v0 h0 v4 h4 v5 h5 v6 h6 K hK;subst h0 h4 h5 h6;have hX:=hx.of_drew;go_wp2_with fail;refine(HC _ (HM.ext.trans hX)).mono ?_;rintro e w5 ⟨q5,c5,rfl,o5,af⟩;have ae:(bK (dK aA n 12 u)).length=W:=by rw[g.out];simp[bK]
     rw[ae]at o5⊢;go_simp;exact hK _ _ ⟨.slice q5 (W) c5,rfl,⟨q5,c5,rfl,bM o5 (by have:=hX.sz;simpa using this)⟩,af⟩
   case fin=>
    intro wi hx v0 h0 v1 h1 v2 h2 v3 h3 v4 h4 v5 h5 v6 h6 v7 h7;subst h0 h1 h2 h3 h4 h5 h6;obtain⟨q7,c7,rfl,y⟩:=h7;have hX:Ext wr wi:=hx.of_drew;have M1:=(show Mem w wi [aJ w TI 1 (q7) (W) (c7) (ivs (bK (dK aA n 12 u))),aJ w TI 1 (qb) (l) (lb) (ivs (bK (mN aA n (dM aA (fr.take k))))),aJ w TI 1 (some ⟨gf,0,none⟩) (F) (c1) (ivs (bK fr)),aI w w TH3 #[aA,aB,.slice p n a]]from HM.ownNew hX y (aT5 _))
    clear HM;try go_frame
    refine wpAny_ready (rs:= [8]) (by kernel_rfl) (by simp) ?_;refine AllReady.cons rfl (fun K hK=> ?_) AllReady.nil;go_simp;refine hK _ _ ?_;clear hK K;refine wpAny_done (by kernel_rfl) ?_ _;try go_frame
    clear hx hX cu y HC;by_cases h0:l=0
    ·have hn:=xQ (o (.inl h0));have t1:((l:Int)==0)=true:=by simp[h0]
     clear h0;go_wp2;go_roundw
     case rel=>exact⟨k+1,q7,W,c7,by omega,by go_num,rfl,by rw[hn.out];exact g.out,by rw[hn.out];exact(M1.pick [0,2,3] (by decide) rfl)⟩
     case measure=>simp[intOf];omega
    have t1:((l:Int)==0)=false:=by simp[h0]
    by_cases h1:W<l
    ·have hn:=xQ (o (.inr h1));go_wp2;go_roundw
     case rel=>exact⟨k+1,q7,W,c7,by omega,by go_num,rfl,by rw[hn.out];exact g.out,by rw[hn.out];exact(M1.pick [0,2,3] (by decide) rfl)⟩
     case measure=>simp[intOf];omega
    have hn:=xQ (aa (fun h=>h.elim h0 h1));go_wp2;go_roundw
    case rel=>exact⟨k+1,qb,l,lb,by omega,by go_num,rfl,by rw[hn.out];exact b.out,by rw[hn.out];exact(M1.pick [1,2,3] (by decide) rfl)⟩
    case measure=>simp[intOf];omega
  obtain rfl:F=k:=by omega
  have r:Hid (fr.take F=fr):=by show _=_;rw[aTa (by rw[hF.out];omega)]
  go_wp2;go_ret;rw[r.out]at b HM;exact dO (by rw[aU1];exact b.out.symm) (HM.ow 0) HM.ext
theorem sG (aA aB:Int)(p:OA)(n a:Nat)(xs:List Int)(w:World)(hS:Sl w p n a 1 (ivs xs))(b:aN aA aB xs=true):
  U 146 #[aH aA aB p n a,(),(-1:Int)] w (bC (bK (mN aA n (dM aA (bP xs)))) w):=by
 have hl:=hS.ilen;subst hl;obtain⟨g1,g2,g3,g4,g5,g6,g7⟩:=cG (cY b);have d:(bP xs).length≤12:=by unfold bP;exact aTg (aUb _ _) (by simp;omega)
 refine aH1 aA aB p xs.length a (bP xs) _ w (lA b) g6 rfl d (fun x hx=>(lC hx).1) (fun w' hy=> ?_) (fun u hu w' hy=>aC8 aA aB p xs.length a u xs w' (hS.ext hy) b hu);have:=aHd aA aB p xs.length a xs w' (hS.ext hy);rw[b,if_pos rfl,uG]at this;refine this.mono fun e w'' h=> ?_
 obtain⟨q,c,h1,h2,h3⟩:=h;rw[aU1]at h1 h2;exact⟨q,c,h1,h2,h3⟩
def rB (r:Option (List Int×List Sl2))(w:World)(e:Ending)(w':World):Prop:=
 match r with
 |none=> ∃v,e= .returned (.tuple #[v,.bool false])∧Ext w w'
 |some r=> ∃q c,e= .returned (.tuple #[.slice q r.2.length c,.bool true])∧w'.ownsRow w.heap.size TSL 2 (.slice q r.2.length c) r.2.length (r.2.flatMap aM)∧Ext w w'
theorem aL5 (aA aB:Int)(p:OA)(n a:Nat)(w:World)
  (HV:xB 25 #[aH aA aB p n a] w true)
  (HN:xC 146 #[aH aA aB p n a,(),(-1:Int)] w fun w' e w''=> ∃q c,e= .returned (.slice q 0 c)∧w''.ownsRow w' TI 1 (.slice q 0 c) 0 []∧Ext w' w''):
  U 111 #[aH aA aB p n a] w (rB none w):=by
 go_enter func111,ntmps111;have ME:=(((Mem.start w).c0 TH3 #[aA,aB,.slice p n a]).made0 TI 1 (w.heap.size+1) (by simp))
 go_wp2_with fail;refine Z (HV _ ME.ext) fun w1 d=>?_
 have M1:=(ME.adv d)
 clear ME d;have g:=(M1.bk 1).tri;go_wp2_with fail;clear g;refine(HN _ M1.ext).mono ?_;rintro e w2 ⟨qw,cw,rfl,b,f⟩;have M2:=(M1.call f b)
 clear M1 f b;have HX:=xQ (M2.ext);go_wp2;exact bodyPost_ret (v:= .tuple #[.slice (some ⟨w2,0,none⟩) 0 0,.bool false]) (by simp[results,results111,go_sem, *]) rfl ⟨_,rfl,by have:=HX.out;exact .alloc this _⟩
theorem aHk (aA aB:Int)(p:OA)(n a:Nat)(h:List Nat)(W:Nat)(r:List Int×List Sl2)(w:World)(h0:0<W)
  (HV:xB 25 #[aH aA aB p n a] w true)
  (HN:xC 146 #[aH aA aB p n a,(),(-1:Int)] w fun w' e w''=> ∃q c,e= .returned (.slice q W c)∧w''.ownsRow w' TI 1 (.slice q W c) W (ivs (bK h))∧Ext w' w'')
  (HS:Hid (∀w' q c,Ext w w'→Sl w' q W c 1 (ivs (bK h))→U 147 #[aH aA aB p n a,.slice q W c] w' (gH r.2 w'))):
  U 111 #[aH aA aB p n a] w (rB (some r) w):=by
 have t0:((W:Int)==0)=false:=by simp;omega
 go_enter func111,ntmps111;have ME:=(((Mem.start w).c0 TH3 #[aA,aB,.slice p n a]).made0 TI 1 (w.heap.size+1) (by simp))
 go_wp2_with fail;refine Z (HV _ ME.ext) fun w1 f=>?_
 have M1:=(ME.adv f)
 clear ME f;have b:=(M1.bk 1).tri;go_wp2_with fail;clear b;refine(HN _ M1.ext).mono ?_;rintro e w2 ⟨qw,cw,rfl,d,g⟩;have M2:=(M1.call g d)
 clear M1 g d;have b:=(M2.bk 2).tri;go_wp2_with fail;clear b;have HH:=xQ (HS _ qw cw M2.ext (M2.sq 0));refine HH.out.mono ?_;rintro e w9 ⟨q9,c9,rfl,o9,i⟩;have HX:=xQ (M2.ext);go_wp2;exact bodyPost_ret (v:= .tuple #[.slice q9 r.2.length c9,.bool true]) (by simp[results,results111,go_sem, *]) rfl ⟨q9,c9,rfl,bM o9 HX.out.sz,HX.out.trans i⟩
theorem aAu (aA aB:Int)(p:OA)(n a:Nat)(xs:List Int)(w:World)(hS:Sl w p n a 1 (ivs xs))(b:aN aA aB xs=true):
  U 111 #[aH aA aB p n a] w (rB (jA aA xs) w):=by
 have hl:=hS.ilen;subst hl;have hg:=lA b;have HV: ∀w',Ext w w'→U 25 #[aH aA aB p xs.length a] w' (O (.bool true) w'):=fun w' hy=>by have:=gM aA aB p xs.length a xs w' (hS.ext hy);rwa[b]at this
 unfold jA;cases hn:dM aA (bP xs)with
 |none=>refine aL5 aA aB p xs.length a w HV (fun w' hy=> ?_);have:=sG aA aB p xs.length a xs w' (hS.ext hy) b;rw[hn]at this;exact this
 |some u=>
  obtain⟨hu,d⟩:=lC ((lM aA _).2 u hn);obtain⟨k1,k2,k3⟩:=lI hg hu;refine aHk aA aB p xs.length a (dK aA xs.length 12 u) _ (cO xs u (dK aA xs.length 12 u).tail) w k1 HV (fun w' hy=> ?_) (fun w' q c hy hL=>zJ aA aB p xs.length a xs q _ c u w' (hS.ext hy) b hu d hL);have:=sG aA aB p xs.length a xs w' (hS.ext hy) b;rw[hn]at this;refine this.mono fun e w'' h=> ?_
  obtain⟨q,c,h1,h2,h3⟩:=h;simp only[mN,aU1]at h1 h2;exact⟨q,c,h1,h2,h3⟩
def cN (aA aB:Int)(xs:List Int)(id:Int):List Int×Int:=
 match nA aA aB xs id with
 |none=>(xs,-1)
 |some r=>(r.1,(r.2:Int))
theorem aCb (aA aB id:Int)(p:OA)(n a:Nat)(xs:List Int)(w:World)(d:Hid (xs.length=n))
  (HV:xB 25 #[aH aA aB p n a] w true)
  (HC:xC 111 #[aH aA aB p n a] w fun w' e w''=> ∃v,e= .returned (.tuple #[v,.bool false])∧Ext w' w'')
  (HL:xC 48 #[aH aA aB p n a] w fun w' e w''=> ∃q c,e= .returned (aH aA aB q n c)∧w''.ownsRow w' TI 1 (.slice q n c) n (ivs xs)∧Ext w' w''):
  U 74 #[aH aA aB p n a,id] w (dA aA aB xs (-1) w):=by
 go_enter func74,ntmps74;go_wp2_with fail;refine Z (HV _ (((Mem.start w).c0 TH3 #[aA,aB,.slice p n a]).c1 TH3 #[(),(),((),())]).ext) fun w1 h=>?_
 have M1:=((((Mem.start w).c0 TH3 #[aA,aB,.slice p n a]).c1 TH3 #[(),(),((),())]).adv h)
 clear h;have b:=(M1.bk 1).tri;go_wp2_with fail;clear b;refine(HC _ M1.ext).mono ?_;rintro e w2 ⟨v,rfl,i⟩;have M2:=(M1.adv i)
 clear M1 i;have b:=(M2.bk 1).tri;go_wp2_with fail;clear b;refine(HL _ M2.ext).mono ?_;rintro e w3 ⟨q0,c0,rfl,f,j⟩;have M3:=(M2.call j f)
 clear M2 j f;have z_:=(M3.bk 1).trif;go_wp2;clear z_;have M4:=(((M3.st 1 0 (I aA)).st 1 1 (I aB)).st 1 2 (.slice q0 n c0))
 generalize g:World.setCell _ _ _=wz;rw[g]at M4;clear g M3;have k:=(M4.bk 1).tri;exact bodyPost_ret (v:= .tuple #[.agg #[aA,aB,.slice q0 n c0],(-1:Int)]) (by simp[results,results74,go_sem, *]) rfl (fE d.out (M4.ow 0) M4.ext)
theorem aGw (aA aB id:Int)(p:OA)(n a K:Nat)(xs ys zs:List Int)(sl:List Sl2)(w:World)(f:Hid (xs.length=n))
  (HV:xB 25 #[aH aA aB p n a] w true)
  (HC:xC 111 #[aH aA aB p n a] w fun w' e w''=> ∃q c,e= .returned (.tuple #[.slice q K c,.bool true])∧w''.ownsRow w' TSL 2 (.slice q K c) K (sl.flatMap aM)∧Ext w' w'')
  (HR:Hid (∀w' q c,Ext w w'→Sl w' q K c 2 (sl.flatMap aM)→U 112 #[aH aA aB p n a,.slice q K c] w' fun e w''=> ∃q c,e= .returned (.tuple #[aH aA aB q n c,K])∧w''.ownsRow w' TI 1 (.slice q n c) n (ivs ys)∧Ext w' w''))
  (HP:Hid (∀w' q c,Ext w w'→Sl w' q n c 1 (ivs ys)→U 113 #[aH aA aB q n c,(),id] w' fun e w''=> ∃q c,e= .returned (.tuple #[aH aA aB q n c,.bool false])∧w''.ownsRow w' TI 1 (.slice q n c) n (ivs zs)∧Ext w' w''))
  (HL:xC 48 #[aH aA aB p n a] w fun w' e w''=> ∃q c,e= .returned (aH aA aB q n c)∧w''.ownsRow w' TI 1 (.slice q n c) n (ivs xs)∧Ext w' w''):
  U 74 #[aH aA aB p n a,id] w (dA aA aB xs (-1) w):=by
 go_enter func74,ntmps74;go_wp2_with fail;refine Z (HV _ (((Mem.start w).c0 TH3 #[aA,aB,.slice p n a]).c1 TH3 #[(),(),((),())]).ext) fun w1 l=>?_
 have M1:=((((Mem.start w).c0 TH3 #[aA,aB,.slice p n a]).c1 TH3 #[(),(),((),())]).adv l)
 clear l;have b:=(M1.bk 1).tri;go_wp2_with fail;clear b;refine(HC _ M1.ext).mono ?_;rintro e w2 ⟨qs,cs,rfl,g,m⟩;have M2:=(M1.call m g)
 clear M1 m g;have b:=(M2.bk 2).tri;go_wp2_with fail;clear b;refine(HR _ qs cs M2.ext (M2.sq 0)).mono ?_;rintro e w3 ⟨q1,c1,rfl,h,o⟩;have M3:=(M2.call o h)
 clear M2 o h;go_wp2_with fail;refine(HP _ q1 c1 (M3.c0 TH3 #[aA,aB,.slice q1 n c1]).ext ((M3.c0 TH3 #[aA,aB,.slice q1 n c1]).sq 1)).mono ?_;rintro e w4 ⟨q2,c2,rfl,i,r⟩;have M4:=((M3.c0 TH3 #[aA,aB,.slice q1 n c1]).call r i)
 clear M3 r i;have d:=M4.hi 5;have b:=(M4.bk 5).tri;go_wp2_with fail;clear b;refine(HL _ (M4.c0 TH3 #[aA,aB,.slice q2 n c2]).ext).mono ?_;rintro e w5 ⟨q0,c0,rfl,j,s⟩;have M5:=((M4.c0 TH3 #[aA,aB,.slice q2 n c2]).call s j)
 clear M4 d s j;have z_:=(M5.bk 6).trif;go_wp2;clear z_;have M6:=(((M5.st 6 0 (I aA)).st 6 1 (I aB)).st 6 2 (.slice q0 n c0))
 generalize k:World.setCell _ _ _=wz;rw[k]at M6;clear k M5;have t:=(M6.bk 6).tri;exact bodyPost_ret (v:= .tuple #[.agg #[aA,aB,.slice q0 n c0],(-1:Int)]) (by simp[results,results74,go_sem, *]) rfl (fE f.out (M6.ow 0) M6.ext)
theorem aEd (aA aB id:Int)(p:OA)(n a K:Nat)(ys zs:List Int)(sl:List Sl2)(w:World)(d:Hid (zs.length=n))
  (HV:xB 25 #[aH aA aB p n a] w true)
  (HC:xC 111 #[aH aA aB p n a] w fun w' e w''=> ∃q c,e= .returned (.tuple #[.slice q K c,.bool true])∧w''.ownsRow w' TSL 2 (.slice q K c) K (sl.flatMap aM)∧Ext w' w'')
  (HR:Hid (∀w' q c,Ext w w'→Sl w' q K c 2 (sl.flatMap aM)→U 112 #[aH aA aB p n a,.slice q K c] w' fun e w''=> ∃q c,e= .returned (.tuple #[aH aA aB q n c,K])∧w''.ownsRow w' TI 1 (.slice q n c) n (ivs ys)∧Ext w' w''))
  (HP:Hid (∀w' q c,Ext w w'→Sl w' q n c 1 (ivs ys)→U 113 #[aH aA aB q n c,(),id] w' fun e w''=> ∃q c,e= .returned (.tuple #[aH aA aB q n c,.bool true])∧w''.ownsRow w' TI 1 (.slice q n c) n (ivs zs)∧Ext w' w'')):
  U 74 #[aH aA aB p n a,id] w (dA aA aB zs (K:Int) w):=by
 go_enter func74,ntmps74;go_wp2_with fail;refine Z (HV _ (((Mem.start w).c0 TH3 #[aA,aB,.slice p n a]).c1 TH3 #[(),(),((),())]).ext) fun w1 j=>?_
 have M1:=((((Mem.start w).c0 TH3 #[aA,aB,.slice p n a]).c1 TH3 #[(),(),((),())]).adv j)
 clear j;have b:=(M1.bk 1).tri;go_wp2_with fail;clear b;refine(HC _ M1.ext).mono ?_;rintro e w2 ⟨qs,cs,rfl,f,k⟩;have M2:=(M1.call k f)
 clear M1 k f;have b:=(M2.bk 2).tri;go_wp2_with fail;clear b;refine(HR _ qs cs M2.ext (M2.sq 0)).mono ?_;rintro e w3 ⟨q1,c1,rfl,g,l⟩;have M3:=(M2.call l g)
 clear M2 l g;go_wp2_with fail;refine(HP _ q1 c1 (M3.c0 TH3 #[aA,aB,.slice q1 n c1]).ext ((M3.c0 TH3 #[aA,aB,.slice q1 n c1]).sq 1)).mono ?_;rintro e w4 ⟨q2,c2,rfl,h,m⟩;have M4:=((M3.c0 TH3 #[aA,aB,.slice q1 n c1]).call m h)
 clear M3 m h;have o:=M4.hi 4;have z_:=(M4.bk 4).trif;go_wp2;clear z_;have M5:=((((M4.st 4 0 (I aA)).st 4 1 (I aB)).st 4 2 (.slice q2 n c2)).bn TH3 #[aA,aB,.slice q2 n c2] w4)
 generalize i:World.alloc _ _=wz;rw[i]at M5;clear i M4;have r:=(M5.bk 5).tri;exact bodyPost_ret (v:= .tuple #[.agg #[aA,aB,.slice q2 n c2],K]) (by simp[results,results74,go_sem, *]) rfl (fE d.out (M5.ow 1) M5.ext)
theorem nI (aA aB:Int)(xs:List Int)(id:Int):(dE aA aB xs id).1.length=xs.length:=by unfold dE;split<;>simp
theorem aEa (aA aB id:Int)(p:OA)(n a:Nat)(xs:List Int)(w:World)(hS:Sl w p n a 1 (ivs xs))(b:aN aA aB xs=true):
  U 74 #[aH aA aB p n a,id] w (dA aA aB (cN aA aB xs id).1 (cN aA aB xs id).2 w):=by
 have hl:=hS.ilen;subst hl;obtain⟨g1,g2,g3,g4,g5,g6,g7⟩:=cG (cY b);have HV: ∀w',Ext w w'→U 25 #[aH aA aB p xs.length a] w' (O (.bool true) w'):=fun w' hy=>by have:=gM aA aB p xs.length a xs w' (hS.ext hy);rwa[b]at this
 have HL:=fun(w':World) (hy:Ext w w')=>gQ aA aB p xs.length a xs w' (by omega) (hS.ext hy)
 have HC:=fun(w':World) (hy:Ext w w')=>aAu aA aB p xs.length a xs w' (hS.ext hy) b
 cases hr:jA aA xs with
 |none=>
  have e:cN aA aB xs id=(xs,-1):=by unfold cN nA;rw[hr]
  rw[e];rw[hr]at HC;exact aCb aA aB id p xs.length a xs w rfl HV HC HL
 |some r=>
  rw[hr]at HC;obtain⟨f1,f2,f3,f4,f5⟩:=qX b hr;have HR: ∀w' q c,Ext w w'→Sl w' q r.2.length c 2 (r.2.flatMap aM)→U 112 #[aH aA aB p xs.length a,.slice q r.2.length c] w' fun e w''=> ∃q c,e= .returned (.tuple #[aH aA aB q xs.length c,(r.2.length:Int)])∧w''.ownsRow w' TI 1 (.slice q xs c) xs.length (ivs r.1)∧Ext w' w'':=fun w' q c hy hL=>by have:=tK aA aB p xs.length a xs q r.2.length c r.2 w' (by omega) (hS.ext hy) hL b;rw[f1]at this;unfold dA at this;dsimp only at this;rw[f3]at this;exact this
  have HP: ∀w' q c,Ext w w'→Sl w' q xs.length c 1 (ivs r.1)→U 113 #[aH aA aB q xs.length c,(),id] w' fun e w''=> ∃q c,e= .returned (.tuple #[aH aA aB q xs.length c,.bool (dE aA aB r.1 id).2])∧w''.ownsRow w' TI 1 (.slice q xs c) xs.length (ivs (dE aA aB r.1 id).1)∧Ext w' w'':=fun w' q c hy hL=>by have:=aG4 aA aB id q xs.length c r.1 w' hL f2;unfold dB at this;rw[nI,f3]at this;exact this
  cases hb:(dE aA aB r.1 id).2 with
  |false=>
   have e:cN aA aB xs id=(xs,-1):=by simp[cN,nA,hr,hb]
   rw[e];rw[hb]at HP;exact aGw aA aB id p xs.length a r.2.length xs r.1 (dE aA aB r.1 id).1 r.2 w rfl HV HC HR HP HL
  |true=>
   have e:cN aA aB xs id=((dE aA aB r.1 id).1,(r.2.length:Int)):=by simp[cN,nA,hr,hb]
   rw[e];rw[hb]at HP;exact aEd aA aB id p xs.length a r.2.length r.1 (dE aA aB r.1 id).1 r.2 w (show _=_ by rw[nI,f3]) HV HC HR HP
end
def iN:Nat→Nat
 |0=>0
 |n+1=>(n+1)%2+iN ((n+1)/2)
decreasing_by omega
theorem tO (n:Nat):iN n=n%2+iN (n/2):=by
 cases n with
 |zero=>rw[iN]
 |succ n=>rw[iN]
theorem xU: ∀(f S:Nat),S.testBit f=false→ ∀k,(S+2 ^ f).testBit k=(S.testBit k || decide (k=f)):=by
 intro f;induction f with
 |zero=>
  intro S h k;rw[aV3]at h;have h0:S%2=0:=by simp at h;omega
  cases k with
  |zero=>rw[aV3,aV3];simp;omega
  |succ k=>rw[aVa,aVa,show(S+2 ^ 0)/2=S/2 by simp;omega];simp
 |succ f ih=>
  intro S h k;rw[aVa]at h;have e:(S+2 ^ (f+1))/2=S/2+2 ^ f:=by rw[Nat.pow_succ];omega
  cases k with
  |zero=>rw[aV3,aV3];simp[Nat.pow_succ]<;>omega
  |succ k=>rw[aVa,aVa,e,ih _ h];simp
theorem yS: ∀(f S:Nat),S.testBit f=false→iN (S+2 ^ f)=iN S+1:=by
 intro f;induction f with
 |zero=>
  intro S h;rw[aV3]at h;have h0:S%2=0:=by simp at h;omega
  rw[tO (S+2 ^ 0),tO S,show(S+2 ^ 0)/2=S/2 by simp;omega];simp;omega
 |succ f ih=>
  intro S h;rw[aVa]at h;have e:(S+2 ^ (f+1))/2=S/2+2 ^ f:=by rw[Nat.pow_succ];omega
  rw[tO (S+2 ^ (f+1)),tO S,e,ih _ h];have:(S+2 ^ (f+1))%2=S%2:=by rw[Nat.pow_succ];omega
  omega
theorem aMn: ∀(t S:Nat),S.testBit t=true→ ∃R,S=R+2 ^ t∧R.testBit t=false:=by
 intro t;induction t with
 |zero=>
  intro S h;rw[aV3]at h;have h0:S%2=1:=by simpa using h
  exact⟨S-1,by simp;omega,by rw[aV3];simp;omega⟩
 |succ t ih=>intro S h;rw[aVa]at h;obtain⟨R,h1,h2⟩:=ih _ h;refine⟨2*R+S%2,by rw[Nat.pow_succ];omega,?_⟩;rw[aVa,show(2*R+S%2)/2=R by omega];exact h2
theorem xT {t S:Nat}(h:S.testBit t=true):2 ^ t≤S∧(∀k,(S-2 ^ t).testBit k=(S.testBit k&& !decide (k=t)))∧iN S=iN (S-2 ^ t)+1:=by
 obtain⟨R,rfl,h2⟩:=aMn t S h;rw[aVd];refine⟨Nat.le_add_left _ _,fun k=> ?_,yS _ _ h2⟩;rw[xU _ _ h2];by_cases hk:k=t
 ·subst hk;simp[h2]
 simp[hk]
def dH (S f t:Nat):Nat:=S-2 ^ t+2 ^ f
theorem fG {S f t:Nat}(ht:S.testBit t=true)(hf:S.testBit f=false)(k:Nat):(dH S f t).testBit k=(decide (k=f) || (S.testBit k&& !decide (k=t))):=by obtain⟨a,b,c⟩:=xT ht;unfold dH;rw[xU _ _ (by rw[b,hf];rfl),b];cases S.testBit k<;>cases decide (k=f)<;>cases decide (k=t)<;>rfl
theorem aI7 {S f t:Nat}(ht:S.testBit t=true)(hf:S.testBit f=false):iN (dH S f t)=iN S:=by obtain⟨a,b,c⟩:=xT ht;unfold dH;rw[yS _ _ (by rw[b,hf];rfl),c]
theorem aK4 {a b:Nat}(h: ∀k,a.testBit k=b.testBit k):a=b:=aVg h
theorem aQv {n a:Nat}(h: ∀k,n≤k→a.testBit k=false):a<2 ^ n:=Nat.lt_pow_two_of_testBit a h
theorem vY {n a:Nat}(h:a<2 ^ n){k:Nat}(hk:n≤k):a.testBit k=false:=Nat.testBit_lt_two_pow (aT4 h (aTl (by omega) hk))
theorem tR {n S f t:Nat}(hS:S<2 ^ n)(a:f<n)(ht:S.testBit t=true)(hf:S.testBit f=false):dH S f t<2 ^ n:=by
 refine aQv fun k hk=> ?_
 rw[fG ht hf,vY hS hk];have:k≠f:=by omega
 simp[this]
theorem aI8 {S f t:Nat}(ht:S.testBit t=true)(hf:S.testBit f=false):dH (dH S f t) t f=S:=by
 have a:f≠t:=fun e=>by subst e;rw[ht]at hf;cases hf
 refine aK4 fun k=> ?_
 rw[fG (by rw[fG ht hf];simp) (by rw[fG ht hf];simp[Ne.symm a]),fG ht hf];by_cases h1:k=t
 ·subst h1;simp[ht]
 by_cases h2:k=f
 ·subst h2;simp[h1,hf]
 simp[h1,h2]
def kA (p:Nat→Bool):Nat→Nat
 |0=>0
 |k+1=>kA p k+(if p k then 2 ^ k else 0)
theorem rF (p:Nat→Bool)(k:Nat):kA p k<2 ^ k:=by
 induction k with
 |zero=>simp[kA]
 |succ k ih=>unfold kA;rw[Nat.pow_succ];split<;>omega
theorem aNx (p:Nat→Bool)(k j:Nat):(kA p k).testBit j=(decide (j<k)&&p j):=by
 induction k with
 |zero=>simp[kA]
 |succ k ih=>
  have hk:(kA p k).testBit k=false:=vY (rF p k) (aT5 _);unfold kA;cases hp:p k with
  |false=>
   simp only[Bool.false_eq_true,if_false,Nat.add_zero];rw[ih];by_cases h:j=k
   ·subst h;simp[hp]
   have:(j<k+1)↔j<k:=by omega
   simp[this]
  |true=>
   simp only[if_true];rw[xU _ _ hk,ih];by_cases h:j=k
   ·subst h;simp[hp]
   have:(j<k+1)↔j<k:=by omega
   simp[this,h]
theorem aL8 (p:Nat→Bool)(k:Nat):iN (kA p k)=((List.range k).filter p).length:=by
 induction k with
 |zero=>simp[kA,iN]
 |succ k ih=>
  have hk:(kA p k).testBit k=false:=vY (rF p k) (aT5 _);rw[aUt,aU2,aTc,←ih,show kA p (k+1)=kA p k+(if p k then 2 ^ k else 0)from rfl];cases hp:p k with
  |false=>simp[hp]
  |true=>simp only[if_true];rw[yS _ _ hk];simp[hp]
def aO (xs:List Int):Nat:=kA (dC xs) xs.length
theorem fC (xs:List Int)(k:Nat):(aO xs).testBit k=dC xs k:=by
 unfold aO;rw[aNx];by_cases h:k<xs.length
 ·simp[h]
 have:dC xs k=false:=by unfold dC;rw[aUn (by omega)];rfl
 rw[this];simp
theorem pH (xs:List Int):aO xs<2 ^ xs.length:=rF _ _
theorem aDs (xs:List Int):iN (aO xs)=(bP xs).length:=aL8 _ _
section
def eV (aA:Int)(n S:Nat):List (Nat×Nat):=(List.range n).flatMap fun f=>if S.testBit f then []else((aU aA n f).filter (fun t=>S.testBit t)).map (fun t=>(f,t))
theorem fX {aA:Int}{n S:Nat}{e:Nat×Nat}:e∈eV aA n S↔e.1<n∧e.2<n∧e.2∈aU aA n e.1∧S.testBit e.1=false∧S.testBit e.2=true:=by
 obtain⟨f,t⟩:=e;simp only[eV,List.mem_flatMap,aTq];constructor
 ·rintro⟨a,ha,hm⟩;cases hb:S.testBit a with
  |true=>rw[hb]at hm;simp at hm
  |false=>rw[hb]at hm;simp only[Bool.false_eq_true,if_false,List.mem_map,aTs]at hm;obtain⟨x,⟨h1,h2⟩,h3⟩:=hm;injection h3 with h3 h4;subst h3 h4;exact⟨ha,(bZ.1 h1).1,h1,hb,h2⟩
 rintro⟨h1,h2,h3,h4,h5⟩;refine⟨f,h1,?_⟩;rw[h4];simp only[Bool.false_eq_true,if_false,List.mem_map,aTs];exact⟨t,⟨h3,h5⟩,rfl⟩
def eB (c f t:Nat):Nat:=if f=c then t else c
def iE (M c S f t:Nat):Nat:=eB c f t*M+dH S f t
def pK (aA:Int)(n M s:Nat):List Nat:=(eV aA n (s%M)).map (fun e=>iE M (s/M) (s%M) e.1 e.2)
def aA3 (aA:Int)(n M s:Nat):List Nat:=(List.range n).flatMap fun h=>if(s%M).testBit h then((aU aA n h).filter (fun f=> !(s%M).testBit f)).map (fun f=>iE M (s/M) (s%M) f h)else []
def tB (aA:Int)(n M s v:Nat):Prop:= ∃f t,f<n∧t<n∧t∈aU aA n f∧(s%M).testBit f=false∧(s%M).testBit t=true∧v=iE M (s/M) (s%M) f t
theorem qZ {aA:Int}{n M s v:Nat}:v∈pK aA n M s↔tB aA n M s v:=by
 unfold pK tB;rw[List.mem_map];constructor
 ·rintro⟨⟨f,t⟩,h,rfl⟩;obtain⟨h1,h2,h3,h4,h5⟩:=fX.1 h;exact⟨f,t,h1,h2,h3,h4,h5,rfl⟩
 rintro⟨f,t,h1,h2,h3,h4,h5,rfl⟩;exact⟨(f,t),fX.2 ⟨h1,h2,h3,h4,h5⟩,rfl⟩
theorem oL {aA:Int}{n M s v:Nat}:v∈aA3 aA n M s↔tB aA n M s v:=by
 unfold aA3 tB;rw[List.mem_flatMap];constructor
 ·rintro⟨h,hh,hm⟩;rw[aTq]at hh;cases hb:(s%M).testBit h with
  |false=>rw[hb]at hm;simp at hm
  |true=>rw[hb]at hm;simp only[if_true,List.mem_map,aTs,Bool.not_eq_true']at hm;obtain⟨f,⟨h1,h2⟩,rfl⟩:=hm;exact⟨f,h,(bZ.1 h1).1,hh,gZ hh h1,h2,hb,rfl⟩
 rintro⟨f,t,h1,h2,h3,h4,h5,rfl⟩;refine⟨t,aTq.2 h2,?_⟩;rw[h5];simp only[if_true,List.mem_map,aTs,Bool.not_eq_true'];exact⟨f,⟨gZ h1 h3,h4⟩,rfl⟩
structure aAw (n M s:Nat):Prop where
 car:s/M<n
 set:s%M<2 ^ n
 occ:(s%M).testBit (s/M)=false
theorem mW {M c S:Nat}(h:S<M):(c*M+S)/M=c:=by rw[Nat.mul_comm,Nat.mul_add_div (by omega),Nat.div_eq_of_lt h,Nat.add_zero]
theorem iR {M c S:Nat}(h:S<M):(c*M+S)%M=S:=by rw[Nat.mul_comm,Nat.mul_add_mod,Nat.mod_eq_of_lt h]
theorem aGm {n c f t:Nat}(hc:c<n)(ht:t<n):eB c f t<n:=by unfold eB;split<;>omega
theorem mK {aA:Int}{n M s v:Nat}(hM:2 ^ n≤M)(hS:s%M<2 ^ n)(h:tB aA n M s v): ∃f t,f<n∧t<n∧t∈aU aA n f∧(s%M).testBit f=false∧(s%M).testBit t=true∧v/M=eB (s/M) f t∧v%M=dH (s%M) f t∧dH (s%M) f t<2 ^ n:=by obtain⟨f,t,h1,h2,h3,h4,h5,rfl⟩:=h;have hl:=tR hS h1 h5 h4;exact⟨f,t,h1,h2,h3,h4,h5,mW (by omega),iR (by omega),hl⟩
theorem aJz {aA:Int}{n M s v:Nat}(hM:2 ^ n≤M)(hc:s/M<n)(hS:s%M<2 ^ n)(h:tB aA n M s v):v/M<n∧v%M<2 ^ n:=by obtain⟨f,t,h1,h2,h3,h4,h5,h6,h7,h8⟩:=mK hM hS h;exact⟨by rw[h6];exact aGm hc h2,by rw[h7];exact h8⟩
theorem uI {aA:Int}{n M s v:Nat}(hM:2 ^ n≤M)(hs:aAw n M s)(h:tB aA n M s v):aAw n M v:=by
 obtain⟨a,b⟩:=aJz hM hs.car hs.set h;obtain⟨f,t,h1,h2,h3,h4,h5,h6,h7,h8⟩:=mK hM hs.set h;refine⟨a,b,?_⟩;rw[h6,h7,fG h5 h4];unfold eB;have c:f≠t:=fun e=>by subst e;rw[h5]at h4;cases h4
 split
 ·simp[Ne.symm c]
 have:=hs.occ;have h9:s/M≠f:=fun e=>by omega
 simp[this,h9]
theorem rT {aA:Int}{n M s v:Nat}(hM:2 ^ n≤M)(hS:s%M<2 ^ n)(h:tB aA n M s v):iN (v%M)=iN (s%M):=by obtain⟨f,t,h1,h2,h3,h4,h5,h6,h7,h8⟩:=mK hM hS h;rw[h7,aI7 h5 h4]
theorem aBt {aA:Int}{n M s v:Nat}(hM:2 ^ n≤M)(hs:aAw n M s)(h:tB aA n M s v):tB aA n M v s:=by
 obtain⟨f,t,h1,h2,h3,h4,h5,h6,h7,h8⟩:=mK hM hs.set h;have b:f≠t:=fun e=>by subst e;rw[h5]at h4;cases h4
 refine⟨t,f,h2,h1,gZ h1 h3,by rw[h7,fG h5 h4];simp[Ne.symm b],by rw[h7,fG h5 h4];simp,?_⟩;have a:eB (v/M) t f=s/M:=by
  rw[h6];unfold eB;by_cases hf:f=s/M
  ·simp[hf]
  have ht: ¬t=s/M:=fun e=>by have:=hs.occ;rw[←e,h5]at this;cases this
  simp[hf,ht]
 unfold iE;rw[a,h7,aI8 h5 h4];rw[Nat.mul_comm];exact(aVb s M).symm
def aRz:List ((Int×Nat)×List Nat):= [
 ((2,4),[0,0,0,0,1,0,2,3,1,2,0,3,5,4,4,0]),
 ((2,6),[0,0,0,0,0,0,1,0,2,3,3,4,1,2,0,3,5,4,5,4,4,0,5,6,7,8,6,7,0,8,9,8,8,7,9,0]),
 ((3,6),[0,0,0,0,0,0,1,0,5,2,3,4,7,6,0,8,7,8,1,2,3,0,3,4,5,4,5,4,0,6,9,8,9,8,7,0]),
 ((3,9),[0,0,0,0,0,0,0,0,0,1,0,5,2,3,4,3,4,5,7,6,0,8,7,8,9,8,9,1,2,3,0,3,4,5,4,5,5,4,5,4,0,6,5,6,7,9,8,9,8,7,0,9,8,9,7,8,9,6,7,8,0,8,9,9,8,9,8,7,8,9,0,9,13,12,11,12,11,10,11,10,0]),
 ((4,8),[0,0,0,0,0,0,0,0,1,0,5,6,2,3,4,5,7,6,0,10,8,7,8,9,13,12,11,0,14,13,12,13,1,2,3,4,0,3,4,5,5,4,5,6,4,0,6,7,9,8,9,10,8,7,0,11,15,14,13,14,14,13,12,0]),
 ((4,12),[0,0,0,0,0,0,0,0,0,0,0,0,1,0,5,6,2,3,4,5,3,4,5,6,7,6,0,10,8,7,8,9,9,8,9,10,13,12,11,0,14,13,12,13,15,14,13,14,1,2,3,4,0,3,4,5,5,4,5,6,5,4,5,6,4,0,6,7,5,6,7,8,9,8,9,10,8,7,0,11,9,8,9,10,15,14,13,14,14,13,12,0,15,14,13,14,7,8,9,10,6,7,8,9,0,8,9,10,9,8,9,10,8,7,8,9,9,0,9,10,13,12,11,12,12,11,10,11,11,10,0,12,17,16,15,16,16,15,14,15,15,14,13,0])]
def pot (aA:Int)(n c h:Nat):Nat:=((aRz.find? (fun g=>g.1==(aA,n))).map (fun g=>g.2.getD (c*n+h) 0)).getD 0
def aSq (aA:Int)(n:Nat):Bool:=(List.range n).all fun c=>(List.range n).all fun h=>decide (pot aA n c h≤60)&&(c==0 || c==h || (aU aA n h).any fun t=>decide (pot aA n (if t=c then h else c) t<pot aA n c h))
theorem aQn:(jW.all fun g=>aSq g.1 g.2)=true:=by decide+kernel
theorem yR {aA:Int}{n c h:Nat}(hg:(aA,n)∈jW)(hc:c<n)(hh:h<n):pot aA n c h≤60∧(c≠0→c≠h→ ∃t,t∈aU aA n h∧pot aA n (if t=c then h else c) t<pot aA n c h):=by
 have h1:=aU6.1 aQn _ hg;have h2:=aU6.1 (aU6.1 h1 c (aTq.2 hc)) h (aTq.2 hh);simp only[aTf,Bool.or_eq_true,decide_eq_true_eq,beq_iff_eq,List.any_eq_true]at h2;refine⟨h2.1,fun a b=> ?_⟩;rcases h2.2 with(h3|h3)|⟨t,h3,h4⟩
 ·exact absurd h3 a
 ·exact absurd h3 b
 exact⟨t,h3,h4⟩
def yD (n many:Nat):List Nat:=(List.range (2 ^ n)).filter (fun s=> !s.testBit 0&&decide (iN s=many))
theorem kG {n many s:Nat}:s∈yD n many↔s<2 ^ n∧s.testBit 0=false∧iN s=many:=by simp[yD]
section
variable {aA:Int} {n many:Nat} {D:List Int}
abbrev MM:Nat:=4096
abbrev NN:Nat:=49152
abbrev fO (aA:Int)(n many:Nat)(D:List Int):Prop:=uP (aA3 aA n MM) (yD n many) NN D
theorem jF (hn:n≤12):2 ^ n≤MM:=aTl (n:=2) (by omega) hn
theorem qI (hn:n≤12){s:Nat}(h:aAw n MM s):s<NN:=by have h1:=h.car;have h2:=aVb s MM;have h3:s%MM<MM:=Nat.mod_lt _ (by decide);show s<49152;have:s/4096<n:=h1;omega
theorem aS2 {s:Nat}(h:s<NN):s/MM<12:=by have:s<49152:=h;show s/4096<12;omega
theorem aK1 (c:4≤n)(hn:n≤12)(hD:fO aA n many D): ∀(k s:Nat),s<NN→D.getD s 0=k→aAw n MM s∧iN (s%MM)=many:=by
 intro k;induction k with
 |zero=>intro s hs h0;have hm:=(hD.zero s hs).1 (by omega);obtain⟨h1,h2,h3⟩:=kG.1 hm;have h4:=jF hn;have h5:s%MM=s:=Nat.mod_eq_of_lt (by omega);have h6:s/MM=0:=Nat.div_eq_of_lt (by omega);exact⟨⟨by rw[h6];omega,by rw[h5];exact h1,by rw[h5,h6];exact h2⟩,by rw[h5];exact h3⟩
 |succ k ih=>intro s hs h0;obtain⟨u,hu,hv,hd⟩:=hD.back s hs (by omega);obtain⟨a,b⟩:=ih u hu (by omega);have he:=oL.1 hv;exact⟨uI (jF hn) a he,by rw[rT (jF hn) a.set he];exact b⟩
theorem aC0 (b:4≤n)(hn:n≤12)(hD:fO aA n many D){s v:Nat}(hs:aAw n MM s)(he:tB aA n MM s v):(0≤D.getD s 0↔0≤D.getD v 0)∧(0≤D.getD s 0→D.getD s 0≤D.getD v 0+1∧D.getD v 0≤D.getD s 0+1):=by
 have hv:=uI (jF hn) hs he;have a:=aBt (jF hn) hs he;have l1:=qI hn hs;have l2:=qI hn hv;have e1:=fun h=>hD.edge s v l1 h (oL.2 he)
 have e2:=fun h=>hD.edge v s l2 h (oL.2 a)
 exact⟨⟨fun h=>(e1 h).1,fun h=>(e2 h).1⟩,fun h=>⟨(e2 (e1 h).1).2,(e1 h).2⟩⟩
theorem aPw (hg:(aA,n)∈jW)(i:4≤n)(hn:n≤12)(hD:fO aA n many D): ∀(P s h:Nat),pot aA n (s/MM) h≤P→aAw n MM s→iN (s%MM)=many→(s%MM).testBit h=true→0≤D.getD s 0∧D.getD s 0≤pot aA n (s/MM) h:=by
 intro P;induction P with
 |zero=>
  intro s h hP hs hm hh;by_cases h0:s/MM=0
  ·have h1:s=s%MM:=by have:=aVb s MM;rw[h0]at this;omega
   have:D.getD s 0=0:=(hD.zero s (qI hn hs)).2 (kG.2 ⟨by rw[h1];exact hs.set,by rw[h1,←h0];exact hs.occ,by rw[h1];exact hm⟩);rw[this];exact⟨Int.le_refl _,by omega⟩
  have c:h<n:=by
   rcases Nat.lt_or_ge h n with h1|h1
   ·exact h1
   rw[vY hs.set h1]at hh;cases hh
  obtain⟨t,ht,d⟩:=(yR hg hs.car c).2 h0 (fun e=>by rw[←e,hs.occ]at hh;cases hh);omega
 |succ P ih=>
  intro s h hP hs hm hh;by_cases h0:s/MM=0
  ·have h1:s=s%MM:=by have:=aVb s MM;rw[h0]at this;omega
   have:D.getD s 0=0:=(hD.zero s (qI hn hs)).2 (kG.2 ⟨by rw[h1];exact hs.set,by rw[h1,←h0];exact hs.occ,by rw[h1];exact hm⟩);rw[this];exact⟨Int.le_refl _,by omega⟩
  have c:h<n:=by
   rcases Nat.lt_or_ge h n with h1|h1
   ·exact h1
   rw[vY hs.set h1]at hh;cases hh
  obtain⟨t,ht,d⟩:=(yR hg hs.car c).2 h0 (fun e=>by rw[←e,hs.occ]at hh;cases hh);have g:=(bZ.1 ht).1;cases hb:(s%MM).testBit t with
  |true=>
   have f:t≠s/MM:=fun e=>by rw[e,hs.occ]at hb;cases hb
   rw[if_neg f]at d;obtain⟨a,b⟩:=ih s t (by omega) hs hm hb;exact⟨a,by omega⟩
  |false=>
   have he:tB aA n MM s (iE MM (s/MM) (s%MM) t h):=⟨t,h,g,c,gZ c ht,hb,hh,rfl⟩
   obtain⟨f',t',k1,k2,k3,k4,k5,k6,k7,k8⟩:=mK (jF hn) hs.set he;have hl:=tR hs.set g hh hb;have e1:iE MM (s/MM) (s%MM) t h/MM=eB (s/MM) t h:=mW (aT4 hl (jF hn));have e2:iE MM (s/MM) (s%MM) t h%MM=dH (s%MM) t h:=iR (aT4 hl (jF hn));have j:=uI (jF hn) hs he;have k:=rT (jF hn) hs.set he;have f:t≠h:=fun e=>by subst e;rw[hh]at hb;cases hb
   have hp:pot aA n (iE MM (s/MM) (s%MM) t h/MM) t=pot aA n (if t=s/MM then h else s/MM) t:=by rw[e1];rfl
   obtain⟨a,b⟩:=ih _ t (by rw[hp];omega) j (by rw[k];exact hm) (by rw[e2,fG hh hb];simp);rw[hp]at b;obtain⟨c1,c2⟩:=aC0 i hn hD hs he;have c3:=c1.2 a;have:=c2 c3;exact⟨c3,by omega⟩
theorem aRh {adj:Nat→List Nat}{src:List Nat}{N:Nat}{D E:List Int}(hD:uP adj src N D)(hE:uP adj src N E): ∀(k v:Nat),v<N→D.getD v 0=k→0≤E.getD v 0∧E.getD v 0≤k:=by
 intro k;induction k with
 |zero=>intro v hv h;have:E.getD v 0=0:=(hE.zero v hv).2 ((hD.zero v hv).1 (by omega));rw[this];simp
 |succ k ih=>intro v hv h;obtain⟨u,hu,hm,hd⟩:=hD.back v hv (by omega);obtain⟨a,b⟩:=ih u hu (by omega);obtain⟨c,d⟩:=hE.edge u v hu a hm;exact⟨c,by omega⟩
theorem aBy {adj:Nat→List Nat}{src:List Nat}{N:Nat}{D E:List Int}(hD:uP adj src N D)(hE:uP adj src N E){v:Nat}(hv:v<N):(0≤D.getD v 0↔0≤E.getD v 0)∧(0≤D.getD v 0→D.getD v 0=E.getD v 0):=by
 have h1: ∀(A B:List Int),uP adj src N A→uP adj src N B→0≤A.getD v 0→0≤B.getD v 0∧B.getD v 0≤A.getD v 0:=by intro A B hA hB h;obtain⟨k,hk⟩:=aTw h;have:=aRh hA hB k v hv hk;rw[hk];exact this
 refine⟨⟨fun h=>(h1 D E hD hE h).1,fun h=>(h1 E D hE hD h).1⟩,fun h=> ?_⟩;obtain⟨a,b⟩:=h1 D E hD hE h;obtain⟨c,d⟩:=h1 E D hE hD a;omega
def jP (N:Nat)(src:List Nat):List Int:=src.foldl (fun A v=>A.set v 0) (List.replicate N (-1))
theorem aHq (N:Nat)(src:List Nat)(v:Nat):jP N (src++ [v])=(jP N src).set v 0:=by simp[jP]
theorem aB6 (N:Nat)(src:List Nat):(jP N src).length=N:=by
 unfold jP
 suffices h: ∀(l:List Nat) (A:List Int),(l.foldl (fun A v=>A.set v 0) A).length=A.length by rw[h];simp
 intro l;induction l with
 |nil=>intro A;rfl
 |cons x l ih=>intro A;simp only[List.foldl_cons];rw[ih];simp
theorem aB7 (N:Nat)(src:List Nat)(v:Nat)(hv:v<N):(v∈src→(jP N src).getD v 0=0)∧(v∉src→(jP N src).getD v 0= -1):=by
 unfold jP
 suffices h: ∀(l:List Nat) (A:List Int),A.length=N→(v∈l→(l.foldl (fun A v=>A.set v 0) A).getD v 0=0)∧(v∉l→(l.foldl (fun A v=>A.set v 0) A).getD v 0=A.getD v 0) by obtain⟨a,b⟩:=h src (List.replicate N (-1)) (by simp);exact⟨a,fun h=>by rw[b h];simp[List.getD,hv]⟩
 intro l;induction l with
 |nil=>intro A _;simp
 |cons x l ih=>
  intro A hA;simp only[List.foldl_cons];obtain⟨a,b⟩:=ih (A.set x 0) (by simpa using hA);constructor
  ·intro hm;by_cases hl:v∈l
   ·exact a hl
   have:v=x:=by simpa[hl]using hm
   subst this;rw[b hl,cP (by omega)]
  intro hm;have h1:v≠x:=fun e=>hm (by simp[e])
  have h2:v∉l:=fun e=>hm (by simp[e])
  rw[b h2,bU (Ne.symm h1)]
theorem Inv.begin {adj:Nat→List Nat}{src:List Nat}{N:Nat}(hb: ∀v∈src,v<N)(a:src.Nodup):Inv adj src N 0 (jP N src,src):=by
 have h0: ∀v∈src,(jP N src).getD v 0=0:=fun v hv=>(aB7 N src v (hb v hv)).1 hv
 refine⟨aB6 _ _,hb,fun v hv=> ?_,a,?_,?_,?_,fun v hv=>⟨hv,h0 v hv⟩,fun i u hi=>absurd hi (by omega)⟩
 ·by_cases hm:v∈src
  ·rw[h0 v hm];simp[hm]
  rw[(aB7 N src v hv).2 hm];simp[hm]
 ·refine List.pairwise_iff_getElem.2 fun i j hi hj _=> ?_
  dsimp only;rw[h0 _ (List.getElem_mem hi),h0 _ (List.getElem_mem hj)];exact Int.le_refl _
 ·intro u hu v hv;dsimp only;rw[h0 v hv,h0 u (aT7 hu)];omega
 intro v hv;dsimp only;rw[h0 v hv];exact hv
theorem uO (hn:n≤12): ∀u v,u<NN→v∈aA3 aA n MM u→v<NN:=by intro u v hu hv;obtain⟨f,t,h1,h2,h3,h4,h5,rfl⟩:=oL.1 hv;have hc:eB (u/MM) f t<12:=aGm (aS2 hu) (by omega);have hS:u%MM<2 ^ 12:=Nat.mod_lt _ (by decide);have:=tR hS (by omega:f<12) h5 h4;show eB (u/MM) f t*4096+dH (u%MM) f t<49152;omega
theorem aJi (hn:n≤12): ∀v∈yD n many,v<NN:=fun v hv=>by
 have:=(kG.1 hv).1;have h:=jF hn;have h2:(MM:Nat)<NN:=by decide
 omega
theorem yC:(yD n many).Nodup:=List.Pairwise.filter _ List.nodup_range
end
end
end Go.Proofs.YthfmmibomhhmpaaGreatDoor
