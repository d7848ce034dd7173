/-
  Texts of this proof, packed (@packed).
-/
import Derived.Test.YtbgkcehffiogcacGreatDoorQ12
namespace Go.Proofs.YtbgkcehffiogcacGreatDoor
open Go.RowKit
set_option linter.unusedSimpArgs false
set_option linter.unusedVariables false
set_option maxHeartbeats 8000000
set_option maxRecDepth 100000
def cI:List Int→Nat→List Nat→List Int×List Sl2
 |xs,_,[]=>(xs,[])
 |xs,a,b::l=>if xs.getD b 0=0 then cI xs b l else((cI ((xs.set a (xs.getD b 0)).set b 0) b l).1,((b:Int),(a:Int))::(cI ((xs.set a (xs.getD b 0)).set b 0) b l).2)
theorem rI {xs:List Int}{a b:Nat}{l:List Nat}(h:xs.getD b 0=0):cI xs a (b::l)=cI xs b l:=by rw[cI,if_pos h]
theorem pH {xs:List Int}{a b:Nat}{l:List Nat}(h: ¬xs.getD b 0=0):cI xs a (b::l)=((cI ((xs.set a (xs.getD b 0)).set b 0) b l).1,((b:Int),(a:Int))::(cI ((xs.set a (xs.getD b 0)).set b 0) b l).2):=by rw[cI,if_neg h]
def nQ (aA:Int)(n:Nat):Nat→List Nat→Prop
 |_,[]=>True
 |a,b::l=>b∈aS aA n a∧nQ aA n b l
theorem cQ {aA aB:Int}{xs:List Int}(h:aO aA aB xs=true):kN aA aB xs.length=true:=by unfold aO at h;rw[aRy]at h;exact h.1
theorem pI {aA aB:Int}{xs:List Int}(h:aO aA aB xs=true)(b:Nat):0≤xs.getD b 0:=by
 unfold aO at h;rw[aRy]at h;have h1:=((fK _ _).1 h.2).1;rw[aRw];cases hx:xs[b]? with
 |none=>simp
 |some x=>exact(h1 x (aRs hx)).1
theorem aEu {aA aB:Int}{xs:List Int}{a b:Nat}(h:aO aA aB xs=true)(ha:a<xs.length)(h0:xs.getD a 0=0)(hb:b∈aS aA xs.length a):bF aA aB xs (b:Int) (a:Int)=decide (0<xs.getD b 0):=by
 obtain⟨h1,h2⟩:=bU.1 hb;have h3:dM aA aB xs (b:Int) (a:Int)=1:=by unfold dM;rw[if_pos ⟨h,⟨by omega,by omega⟩,by omega,by omega⟩,yN];exact h2
 unfold bF;rw[h3];simp only[aTr,h0];simp
theorem aCg {aA aB:Int}{xs:List Int}{a b:Nat}(h:aO aA aB xs=true)(ha:a<xs.length)(h0:xs.getD a 0=0)(hb:b∈aS aA xs.length a)(hx: ¬xs.getD b 0=0):bF aA aB xs (b:Int) (a:Int)=true∧bI aA aB xs (b:Int) (a:Int)=(xs.set a (xs.getD b 0)).set b 0:=by
 have h1:=aEu h ha h0 hb;have h2:decide (0<xs.getD b 0)=true:=by have:=pI h b;simp only[decide_eq_true_eq];omega
 rw[h2]at h1;exact⟨h1,by unfold bI;rw[if_pos h1];simp only[aTr]⟩
theorem aNr {aA aB:Int}{xs:List Int}{a b:Nat}(h:aO aA aB xs=true)(ha:a<xs.length)(h0:xs.getD a 0=0)(hb:b∈aS aA xs.length a)(hx:xs.getD b 0=0):bF aA aB xs (b:Int) (a:Int)=false:=by rw[aEu h ha h0 hb,hx];rfl
theorem uD {aA aB:Int}{xs:List Int}{a b:Nat}(h:aO aA aB xs=true)(ha:a<xs.length)(h0:xs.getD a 0=0)(hb:b∈aS aA xs.length a)(hx: ¬xs.getD b 0=0):
  aO aA aB ((xs.set a (xs.getD b 0)).set b 0)=true∧((xs.set a (xs.getD b 0)).set b 0).length=xs.length∧((xs.set a (xs.getD b 0)).set b 0).getD b 0=0:=by
 obtain⟨h1,h2⟩:=aCg h ha h0 hb hx;refine⟨by rw[←h2];exact iW _ _ h,by simp,?_⟩;have hl:=(bU.1 hb).1;rw[aRw,aSf (by simp;exact hl)];rfl
theorem zM {aA aB:Int}: ∀(l:List Nat) (xs:List Int) (a:Nat),aO aA aB xs=true→a<xs.length→xs.getD a 0=0→nQ aA xs.length a l→
  bD aA aB xs (cI xs a l).2=((cI xs a l).1,(cI xs a l).2.length)∧aO aA aB (cI xs a l).1=true∧(cI xs a l).1.length=xs.length∧(cI xs a l).2.length≤l.length∧(cI xs a l).1.getD ((a::l).getLast (by simp)) 0=0:=by
 intro l;induction l with
 |nil=>intro xs a h ha h0 _;exact⟨rfl,h,rfl,aRp _,by simpa[cI]using h0⟩
 |cons b l ih=>
  intro xs a h ha h0 hs;obtain⟨hb,d⟩:=hs;have c:=(bU.1 hb).1;by_cases hx:xs.getD b 0=0
  ·rw[rI hx];obtain⟨i1,i2,i3,i4,i5⟩:=ih xs b h c hx d;exact⟨i1,i2,i3,by simp;omega,by simpa using i5⟩
  obtain⟨n1,n2,n3⟩:=uD h ha h0 hb hx;obtain⟨d1,d2⟩:=aCg h ha h0 hb hx;obtain⟨i1,i2,i3,i4,i5⟩:=ih _ b n1 (by rw[n2];exact c) n3 (by rw[n2];exact d);rw[pH hx];refine⟨?_,i2,by rw[i3,n2],by simp only[aSo];omega,by simpa using i5⟩;dsimp only;rw[eQ d1,d2,i1];rfl
theorem tH {aA:Int}{n:Nat}(h:(aA,n)∈jI): ∀(f u:Nat),u<n→nQ aA n u (dH aA n f u).tail:=by
 intro f;induction f with
 |zero=>intro u _;exact trivial
 |succ f ih=>
  intro u hu;unfold dH;by_cases h0:u=0
  ·rw[if_pos h0];exact trivial
  rw[if_neg h0];obtain⟨h1,h2,_⟩:=(bV h hu).2.2.2.1 h0;have:=ih (lT aA n u) h1;have hh:=tI aA n f (lT aA n u);simp only[List.tail_cons];cases hw:dH aA n f (lT aA n u)with
  |nil=>rw[hw]at hh;simp at hh
  |cons x l=>rw[hw]at hh this;simp at hh;subst hh;exact⟨h2,this⟩
theorem wH (aA:Int)(n f u:Nat):dH aA n f u=u::(dH aA n f u).tail:=by
 have hh:=tI aA n f u;cases hw:dH aA n f u with
 |nil=>rw[hw]at hh;simp at hh
 |cons x l=>rw[hw]at hh;simp at hh;subst hh;rfl
theorem aLk {aA:Int}{n:Nat}(h:(aA,n)∈jI): ∀(f u:Nat),u<n→aX aA u 0≤f→(dH aA n f u).getLast? =some 0:=by
 intro f;induction f with
 |zero=>intro u hu ha;have g:=bV h hu;have:u=0:=g.2.2.1.1 (by have:=g.1;simp at ha;omega);subst this;rfl
 |succ f ih=>
  intro u hu ha;unfold dH;by_cases h0:u=0
  ·rw[if_pos h0];simp[h0]
  rw[if_neg h0];obtain⟨h1,h2,h3⟩:=(bV h hu).2.2.2.1 h0;have:=ih (lT aA n u) h1 (by rw[h3];simp at ha;omega);rw[List.getLast?_cons,this];rfl
def bP (xs:List Int):List Nat:=(List.range xs.length).filter (cX xs)
theorem yE (xs:List Int):mS xs=(bP xs).map (fun(k:Nat)=>(k:Int)):=by
 unfold mS bP;generalize xs.length=k;induction k with
 |zero=>rfl
 |succ k ih=>rw[aTc,aSl,aSq,fP,ih];congr 1;cases h:cX xs k<;>simp[h]
theorem kK {xs:List Int}{u:Nat}(h:u∈bP xs):u<xs.length∧xs.getD u 0=0:=by unfold bP at h;rw[aSi]at h;refine⟨by simpa using h.1,?_⟩;have h2:=h.2;unfold cX at h2;rw[aRw,eq_of_beq h2];rfl
def oA (aA:Int)(best:Option Nat)(u:Nat):Option Nat:=
 match best with
 |none=>some u
 |some v=>if aX aA u 0<aX aA v 0 then some u else some v
def dI (aA:Int)(l:List Nat):Option Nat:=l.foldl (oA aA) none
theorem aBs (aA:Int)(l:List Nat)(u:Nat):dI aA (l++ [u])=oA aA (dI aA l) u:=by simp[dI]
theorem kT (aA:Int)(l:List Nat):(dI aA l=none↔l= [])∧ ∀u,dI aA l=some u→u∈l:=by
 suffices h: ∀(l pre:List Nat) (b:Option Nat),(b=none↔pre= [])→(∀u,b=some u→u∈pre)→((l.foldl (oA aA) b=none↔pre++l= [])∧ ∀u,l.foldl (oA aA) b=some u→u∈pre++l)from by simpa[dI]using h l [] none (by simp) (by simp)
 intro l;induction l with
 |nil=>intro pre b h1 h2;simpa using⟨h1,h2⟩
 |cons x l ih=>
  intro pre b h1 h2
  have:=ih (pre++ [x]) (oA aA b x) (by
   unfold oA;cases b with
   |none=>simp
   |some v=>simp;split<;>simp) (by
   intro u hu;unfold oA at hu;cases b with
   |none=>simp at hu;simp[hu]
   |some v=>
    simp only at hu;split at hu
    ·injection hu with hu;simp[hu]
    ·injection hu with hu;subst hu;exact aSr _ (h2 v rfl))
  simpa using this
def iJ (aA:Int)(xs:List Int):Option (List Int×List Sl2):=(dI aA (bP xs)).map (fun u=>cI xs u (dH aA xs.length 12 u).tail)
def mJ (aA aB:Int)(xs:List Int)(id:Int):Option (List Int×Nat):=
 match iJ aA xs with
 |none=>none
 |some r=>if(cZ aA aB r.1 id).2 then some ((cZ aA aB r.1 id).1,r.2.length)else none
theorem kI {aA aB:Int}{xs:List Int}(h:aO aA aB xs=true):(aA,xs.length)∈jI:=by obtain⟨h1,h2,h3,h4,h5,h6,h7⟩:=cE (cQ h);exact rK h1 h2 h3 h4 h7
theorem pQ {aA aB:Int}{xs:List Int}(h:aO aA aB xs=true){r:List Int×List Sl2}(hr:iJ aA xs=some r):
  bD aA aB xs r.2=(r.1,r.2.length)∧aO aA aB r.1=true∧r.1.length=xs.length∧r.2.length≤5∧r.1.getD 0 0=0:=by
 unfold iJ at hr;cases hn:dI aA (bP xs)with
 |none=>rw[hn]at hr;simp at hr
 |some u=>
  rw[hn]at hr;simp at hr;subst hr;obtain⟨hu,h0⟩:=kK ((kT aA _).2 u hn);have hg:=kI h;have g:=bV hg hu;obtain⟨f1,f2,f3,f4,f5⟩:=zM _ xs u h hu h0 (tH hg 12 u hu);have hl:=nE hg 12 u hu (by have:=g.2.1;omega);have hw:=aLk hg 12 u hu (by have:=g.2.1;omega);refine⟨f1,f2,f3,?_,?_⟩
  ·have:=g.2.1;rw[List.length_tail]at f4;omega
  have hc:=wH aA xs.length 12 u;rw[hc,List.getLast?_eq_some_getLast (by simp)]at hw;injection hw with hw;rw[hw]at f5;exact f5
section
open Go.Proofs.Tryz
theorem aJa (aA aB:Int)(p:OA)(n cap:Nat)(b a m c2:Nat)(ws:List Nat)(w:World)(ah:4≤n)(hn:n≤12)(ag:0<m)(hm:m≤12)(h:Hid (ws.length=m))(hb:b<w.heap.size)
  (HS:Hid (∀(k x:Nat),ws[k]? =some x→w.cell? ⟨b,a+k,none⟩=some (I x))) (x0:Nat) (c0:w.cell? ⟨b,a,none⟩=some (I x0))
  (HA:Hid (∀(k x y:Nat),ws[k]? =some x→ws[k+1]? =some y→ ∀w',Ext w w'→U 143 #[aH aA aB p n cap,x,y] w' (O (I 1) w')))
  (HV:xB 48 #[aH aA aB p n cap] w true)
  (HI:Hid (∀w,U 50 #[x0,(),((n:Int)-1:Int)] w fun e w'=>e= .returned (.bool true)∧w=w')):
  U 170 #[aH aA aB p n cap,.slice (some ⟨b,a,none⟩) m c2] w (O (.bool true) w):=by
 go_enter func170,ntmps170;go_wp2;go_loopw [5] (fun i wr=> ∃k:Nat,1≤k∧k≤m∧i=I k∧Ext w wr∧Blk wr w TH3 #[aA,aB,.slice p n cap]) (fun i _=>m-(intOf i).toNat)
 case atStart=>exact⟨1,aRp _,by omega,rfl,by exact .alloc (.refl _) _,Blk.new _ _ _⟩
 case round=>
  obtain⟨k,af,hk,rfl,hE,hB⟩:=hrel;have HB:=xQ hB;clear hB;have l:b<wr:=aRo hb hE.sz;by_cases hlt:k<m
  ·obtain⟨x,hx⟩: ∃x,ws[k-1]? =some x:=⟨_,aRq (by rw[h.out];omega)⟩
   obtain⟨y,hy⟩: ∃y,ws[k]? =some y:=⟨_,aRq (by rw[h.out];omega)⟩
   have HK:=xQ (HA (k-1) x y hx (by rw[show k-1+1=k by omega];exact hy));have ca:wr.cell? ⟨b,a+(k-1),none⟩=some (I x):=(hE.cells.1 _ _ hb).trans (HS (k-1) x hx);have cb:wr.cell? ⟨b,a+k,none⟩=some (I y):=(hE.cells.1 _ _ hb).trans (HS k y hy);clear hx hy c0;have i1:(0:Int)≤(k:Int):=by omega
   have i2:(k:Int)<(m:Int):=by omega
   have i3:(k:Int)-1<(m:Int):=by omega
   have i4:((k:Int)-1).toNat=k-1:=by omega
   have i5:(1:Int)≤(k:Int):=by omega
   go_wp2;refine rL (gl [gEq (.agg #[aA,aB,.slice p n cap]),gEq (.slice (some ⟨b,a,none⟩) m c2),gEq (k:Int),gEq ((k:Int)-1:Int),gEq (.pointer (some ⟨b,a+(k-1),none⟩)),gEq (x:Int),gEq (.slice (some ⟨b,a,none⟩) m c2),gEq (k:Int),gEq (.pointer (some ⟨b,a+k,none⟩)),gEq (y:Int),gEq (I 1),gEq (.bool false)]) 12 12 [(0,some 12),(1,some 13),(2,some 14),(3,some 15),(4,some 16),(5,some 17),(6,some 18),(7,some 19),(8,some 20),(9,some 21),(10,some 22),(11,some 23)] ?steps ?fin
   case steps=>
    refine sC [] rfl (fun wi hx=> ?_) ?_
    ·intro K hK;have hX:=hx.of_drew;obtain⟨c,t,u⟩:=(HB.out.ext hX).tri;go_simp;exact hK _ _ ⟨.agg #[aA,aB,.slice p n cap],rfl,rfl,Ext.refl _⟩
    refine sS0 [] (sS0 [] ?_);refine sC [(2,some 14)] rfl (fun wi hx=> ?_) ?_
    ·intro v2 h2 K hK;obtain rfl:=h2;have ai:IntKind.i64.wrap ((k:Int)-1)=(k:Int)-1:=aRr _ (by omega);go_simp;exact hK _ _ ⟨I ((k:Int)-1),rfl,rfl,Ext.refl _⟩
    refine sS2 [(1,some 13),(3,some 15)] ?_;refine sC [(4,some 16)] rfl (fun wi hx=> ?_) ?_
    ·intro v4 h4 K hK;obtain rfl:=h4;have hX:=hx.of_drew;have c:wi.cell? ⟨b,a+(k-1),none⟩=some (I x):=(hX.cells.1 _ _ l).trans ca;go_simp;exact hK _ _ ⟨I x,rfl,rfl,Ext.refl _⟩
    refine sS0 [] (sS0 [] (sS2 [(6,some 18),(7,some 19)] ?_));refine sC [(8,some 20)] rfl (fun wi hx=> ?_) ?_
    ·intro v8 h8 K hK;obtain rfl:=h8;have hX:=hx.of_drew;have c:wi.cell? ⟨b,a+k,none⟩=some (I y):=(hX.cells.1 _ _ l).trans cb;go_simp;exact hK _ _ ⟨I y,rfl,rfl,Ext.refl _⟩
    refine sC [(0,some 12),(5,some 17),(9,some 21)] rfl (fun wi hx=> ?_) ?_
    ·intro v0 h0 v5 h5 v9 h9 K hK;subst h0 h5 h9;go_wp2_with fail;refine Z (HK _ (hE.trans hx.of_drew)) fun w5 o=>?_
     go_simp;exact hK _ _ ⟨I 1,rfl,rfl,o⟩
    exact sS1 [(10,some 22)] StepsL.nil
   case fin=>
    intro wi hx v0 h0 v1 h1 v2 h2 v3 h3 v4 h4 v5 h5 v6 h6 v7 h7 v8 h8 v9 h9 r d s f;subst h0 h1 h2 h3 h4 h5 h6 h7 h8 h9;obtain rfl:=d;obtain rfl:=f;refine wpAny_done (by kernel_rfl) ?_ _;go_frame;have g:=hx.of_drew;go_wp2;go_roundw
    case rel=>exact⟨k+1,by omega,by omega,by go_num,hE.trans g,HB.out.ext g⟩
    case measure=>simp[intOf];omega
  obtain rfl:m=k:=by omega
  have q:=(hE.cells.1 _ _ hb).trans c0;clear c0;have c0:=q;clear q;have i2:(0:Int)<(m:Int):=by omega
  have i6:IntKind.i64.wrap ((n:Int)-1)=(n:Int)-1:=aRr _ (by omega);go_wp2;refine rL (gl [gEq (.agg #[aA,aB,.slice p n cap]),gEq (.bool true),gEq (.bool true),gEq (.slice (some ⟨b,a,none⟩) m c2),gEq (m:Int),gEq (.bool true),gEq (.bool true),gEq (.bool true),gEq (.slice (some ⟨b,a,none⟩) m c2),gEq (.pointer (some ⟨b,a,none⟩)),gEq (x0:Int),gEq (.pointer (some ⟨w,2,none⟩)),gEq (.slice p n cap),gEq (n:Int),gEq ((n:Int)-1:Int),gEq (.bool true),gEq (.bool true),gEq (.bool true)]) 18 18 [(0,some 24),(1,some 25),(2,some 26),(3,some 27),(4,some 28),(5,some 29),(6,some 30),(7,some 31),(8,some 32),(9,some 33),(10,some 34),(11,some 35),(12,some 36),(13,some 37),(14,some 38),(15,some 39),(16,some 40),(17,some 4)] ?steps ?fin
  case steps=>
   refine sC [] rfl (fun wi hx=> ?_) ?_
   ·intro K hK;have hX:=hx.of_drew;obtain⟨c,t,u⟩:=(HB.out.ext hX).tri;go_simp;exact hK _ _ ⟨.agg #[aA,aB,.slice p n cap],rfl,rfl,Ext.refl _⟩
   refine sC [(0,some 24)] rfl (fun wi hx=> ?_) ?_
   ·intro v0 h0 K hK;obtain rfl:=h0;go_wp2_with fail;refine Z (HV _ (hE.trans hx.of_drew)) fun w5 o=>?_
    go_simp;exact hK _ _ ⟨.bool true,rfl,rfl,o⟩
   refine sS1 [(1,some 25)] (sS1 [(2,some 26)] (sS2 [(2,some 26),(3,some 27)] (sS2 [(2,some 26),(4,some 28)] (sS2 [(2,some 26),(5,some 29)] (sS1 [(6,some 30)] (sS1 [(7,some 31)] (sS2 [(7,some 31),(8,some 32)] ?_)))))));refine sC [(7,some 31),(9,some 33)] rfl (fun wi hx=> ?_) ?_
   ·intro v7 h7 v9 h9 K hK;subst h7 h9;have hX:=hx.of_drew;have c:wi.cell? ⟨b,a,none⟩=some (I x0):=(hX.cells.1 _ _ l).trans c0;go_simp;exact hK _ _ ⟨I x0,rfl,rfl,Ext.refl _⟩
   refine sS1 [(7,some 31)] ?_;refine sC [(7,some 31),(11,some 35)] rfl (fun wi hx=> ?_) ?_
   ·intro v7 h7 s f K hK;obtain rfl:=h7;obtain rfl:=f;have hX:=hx.of_drew;have c:=(HB.out.ext hX).cl 2;go_simp;exact hK _ _ ⟨.slice p n cap,rfl,rfl,Ext.refl _⟩
   refine sS2 [(7,some 31),(12,some 36)] (sS2 [(7,some 31),(13,some 37)] ?_);refine sC [(7,some 31),(10,some 34),(14,some 38)] rfl (fun wi hx=> ?_) ?_
   ·intro v7 h7 r d ae j K hK;obtain rfl:=h7;obtain rfl:=d;obtain rfl:=j;go_wp2_with fail;refine(HI _).mono ?_;rintro e w5 ⟨rfl,rfl⟩;go_simp;exact hK _ _ ⟨.bool true,rfl,rfl,Ext.refl _⟩
   exact sS2 [(7,some 31),(15,some 39)] (sS1 [(16,some 40)] StepsL.nil)
  case fin=>intro wi hx v0 h0 v1 h1 v2 h2 v3 h3 v4 h4 v5 h5 v6 h6 v7 h7 v8 h8 v9 h9 r d s f aj v ak z ae j al aa am ab an ad;subst h0 h1 h2 h3 h4 h5 h6 h7 h8 h9;obtain rfl:=d;obtain rfl:=f;obtain rfl:=v;obtain rfl:=z;obtain rfl:=j;obtain rfl:=aa;obtain rfl:=ab;obtain rfl:=ad;refine wpAny_done (by kernel_rfl) ?_ _;go_frame;have g:=hx.of_drew;go_wp2;go_ret;exact⟨rfl,hE.trans g⟩
theorem nU (a b:Int): ∀u∈aM (a,b),u.oneCell'=true:=by intro u hu;simp[aM]at hu;rcases hu with rfl|rfl<;>rfl
theorem aM3 (aA aB:Int)(pb po:Nat)(n cap:Nat)(xs:List Int)(b d m c2 u:Nat)(p ws:List Nat)(w:World)(b3:4≤n)(hn:n≤12)(b2:0<m)(hm:m≤12)(bc:Hid (ws=u::p))(a5:Hid (ws.length=m))(hb:b<w.heap.size)(bm:pb<w.heap.size)
  (bl:Hid (aO aA aB xs=true))(a2:Hid (xs.length=n))(hu:u<n)(bp:Hid (xs.getD u 0=0))(bo:Hid (nQ aA n u p))
  (HS:Hid (∀(k x:Nat),ws[k]? =some x→w.cell? ⟨b,d+k,none⟩=some (I x))) (bf:w.cell? ⟨b,d,none⟩=some (I u)) (be:w.cell? ⟨pb,po+u,none⟩=some (I 0))
  (HW:xB 170 #[aH aA aB (some ⟨pb,po,none⟩) n cap,.slice (some ⟨b,d,none⟩) m c2] w true)
  (HL:xC 65 #[aH aA aB (some ⟨pb,po,none⟩) n cap] w fun w' e w''=> ∃q c,e= .returned (aH aA aB q n c)∧w''.ownsRow w' TI 1 (.slice q n c) n (ivs xs)∧Ext w' w''):
  U 138 #[aH aA aB (some ⟨pb,po,none⟩) n cap,.slice (some ⟨b,d,none⟩) m c2] w (iK (cI xs u p).2 w):=by
 have j1:(0:Int)≤(u:Int):=by omega
 have j2:(u:Int)<(n:Int):=by omega
 go_enter func138,ntmps138;go_wp2;have ME:=(((Mem.start w).c0 TH3 #[aA,aB,.slice (some ⟨pb,po,none⟩) n cap]).made0 TSL 2 (w.heap.size+1) (by simp))
 have X0:=xQ (show Ext w ((w.alloc (.cells #[aA,aB,.slice (some ⟨pb,po,none⟩) n cap] TH3)).alloc (.cells #[] TSL))from ME.ext);refine rL (gl [gEq (.agg #[aA,aB,.slice (some ⟨pb,po,none⟩) n cap]),gEq (.slice (some ⟨b,d,none⟩) m c2),gEq (.bool true),gEq (.bool false),gEq (.bool false),gEq (.pointer (some ⟨w,2,none⟩)),gEq (.slice (some ⟨pb,po,none⟩) n cap),gEq (.slice (some ⟨b,d,none⟩) m c2),gEq (.pointer (some ⟨b,d,none⟩)),gEq (u:Int),gEq (.pointer (some ⟨pb,po+u,none⟩)),gEq (I 0),gEq (.bool false),gEq (.bool false)]) 14 14 [(0,some 12),(1,some 13),(2,some 14),(3,some 15),(4,some 16),(5,some 17),(6,some 18),(7,some 19),(8,some 20),(9,some 21),(10,some 22),(11,some 23),(12,some 24),(13,some 25)] ?steps ?fin
 case steps=>
  refine sC [] rfl (fun wi hx=> ?_) ?_
  ·intro K hK;have hX:Ext ((w.alloc (.cells #[aA,aB,.slice (some ⟨pb,po,none⟩) n cap] TH3)).alloc (.cells #[] TSL)) wi:=by exact .trans (.drew (.refl _)) hx
   obtain⟨aa,bx,bz⟩:=((ME.bk 1).ext hX).tri;go_simp;exact hK _ _ ⟨.agg #[aA,aB,.slice (some ⟨pb,po,none⟩) n cap],rfl,rfl,Ext.refl _⟩
  refine sS0 [] ?_;refine sC [(0,some 12),(1,some 13)] rfl (fun wi hx=> ?_) ?_
  ·intro v0 h0 v1 h1 K hK;subst h0 h1;have hX:Ext w wi:=by exact .trans (.drew (.alloc (.alloc (.refl _) _) _)) hx
   go_wp2_with fail;refine Z (HW _ hX) fun w5 ag=>?_
   go_simp;exact hK _ _ ⟨.bool true,rfl,rfl,ag⟩
  refine sS1 [(2,some 14)] (sS1 [(3,some 15)] (sS1 [(4,some 16)] ?_));refine sC [(4,some 16),(5,some 17)] rfl (fun wi hx=> ?_) ?_
  ·intro v4 h4 v5 h5 K hK;subst h4 h5;have hX:Ext ((w.alloc (.cells #[aA,aB,.slice (some ⟨pb,po,none⟩) n cap] TH3)).alloc (.cells #[] TSL)) wi:=by exact .trans (.drew (.refl _)) hx
   have aa:=((ME.bk 1).ext hX).cl 2;go_simp;exact hK _ _ ⟨.slice (some ⟨pb,po,none⟩) n cap,rfl,rfl,Ext.refl _⟩
  refine sS1 [(4,some 16)] (sS2 [(4,some 16),(7,some 19)] ?_);refine sC [(4,some 16),(8,some 20)] rfl (fun wi hx=> ?_) ?_
  ·intro v4 h4 v8 h8 K hK;subst h4 h8;have hX:Ext ((w.alloc (.cells #[aA,aB,.slice (some ⟨pb,po,none⟩) n cap] TH3)).alloc (.cells #[] TSL)) wi:=by exact .trans (.drew (.refl _)) hx
   have aa:wi.cell? ⟨b,d,none⟩=some (I u):=(X0.out.trans hX).cells.1 _ _ hb |>.trans bf;go_simp;exact hK _ _ ⟨I u,rfl,rfl,Ext.refl _⟩
  refine sS3 [(4,some 16),(6,some 18),(9,some 21)] ?_;refine sC [(4,some 16),(10,some 22)] rfl (fun wi hx=> ?_) ?_
  ·intro v4 h4 bb ab K hK;obtain rfl:=h4;obtain rfl:=ab;have hX:Ext ((w.alloc (.cells #[aA,aB,.slice (some ⟨pb,po,none⟩) n cap] TH3)).alloc (.cells #[] TSL)) wi:=by exact .trans (.drew (.refl _)) hx
   have aa:wi.cell? ⟨pb,po+u,none⟩=some (I 0):=(X0.out.trans hX).cells.1 _ _ bm |>.trans be;go_simp;exact hK _ _ ⟨I 0,rfl,rfl,Ext.refl _⟩
  exact sS2 [(4,some 16),(11,some 23)] (sS2 [(4,some 16),(12,some 24)] StepsL.nil)
 case fin=>
  intro wi hx v0 h0 v1 h1 v2 h2 v3 h3 v4 h4 v5 h5 v6 h6 v7 h7 v8 h8 v9 h9 bb ab b5 bg b6 bh b7 bi;subst h0 h1 h2 h3 h4 h5 h6 h7 h8 h9;obtain rfl:=ab;obtain rfl:=bg;obtain rfl:=bh;obtain rfl:=bi;refine wpAny_done (by kernel_rfl) ?_ _;try go_frame
  have hX:Ext ((w.alloc (.cells #[aA,aB,.slice (some ⟨pb,po,none⟩) n cap] TH3)).alloc (.cells #[] TSL)) wi:=hx.of_drew;have M1:=(ME.adv hX)
  clear ME X0 hx hX;obtain⟨c0,c1,c2⟩:=(M1.bk 1).tri;go_wp2_with fail;clear c0 c1 c2;refine(HL _ M1.ext).mono ?_;rintro e w2 ⟨q0,c0,rfl,a4,a7⟩;have M2:=(M1.call a7 a4)
  clear M1 a7 a4 HW;have ax:=xQ (M2.c0 TH3 #[aA,aB,.slice q0 n c0]);go_wp2;go_loopw [5,7] (fun v i wr=> ∃(k x:Nat) (rest:List Nat) (ys:List Int) (q:OA) (c:Nat) (q5:OA) (l lc:Nat) (sl:List Sl2),1≤k∧k≤m∧i=I k∧v= .slice q5 l lc∧l=sl.length∧l≤k∧ws.drop (k-1)=x::rest∧aO aA aB ys=true∧ys.length=n∧x<n∧ys.getD x 0=0∧nQ aA n x rest∧sl++(cI ys x rest).2=(cI xs u p).2∧Mem w wr [aJ w w2 TH3 #[aA,aB,.slice q n c],aI w TI 1 (q) (n) (c) (ivs ys),aI w TSL 2 (q5) (l) (lc) (sl.flatMap aM),aJ w w TH3 #[aA,aB,.slice (some ⟨pb,po,none⟩) n cap]]) (fun _ i _=>m-(intOf i).toNat)
  case atStart=>exact⟨1,u,p,xs,q0,c0,some ⟨w.heap.size+1,0,none⟩,0,0,[],aRp _,by omega,rfl,rfl,rfl,by omega,by rw[bc.out];rfl,bl.out,a2.out,hu,bp.out,bo.out,rfl,ax.out⟩
  case round=>
   clear ax M2;obtain⟨k,x,rest,ys,q,c,q5,l,lc,sl,b0,hk,rfl,rfl,hl,b1,ay,ak,a3,au,a6,am,al,hM⟩:=hrel;have ae:=xQ ay;have j:=xQ ak;have f:=xQ a3;have ap:=xQ a6;have t:=xQ am;have s:=xQ al;have ao:=xQ hl;have HM:=hM;clear ay ak a3 a6 am al hM hl;by_cases hlt:k<m
   ·obtain⟨y,rest',o⟩: ∃y rest',rest=y::rest':=by
     have h1:=congrArg List.length ae.out;rw[aTg,a5.out]at h1;cases rest with
     |nil=>simp at h1;omega
     |cons y r=>exact⟨y,r,rfl⟩
    subst o;have a9:ws[k-1]? =some x:=by have:=congrArg (fun z=>z[0]?) ae.out;simpa using this
    have ad:ws.drop k=y::rest':=by have:=congrArg List.tail ae.out;rw[List.tail_drop,show k-1+1=k by omega]at this;exact this
    have ba:ws[k]? =some y:=by have:=congrArg (fun z=>z[0]?) ad;simpa using this
    have ai:=xQ ad;have aq:y∈aS aA n x:=t.out.1;have a8:y<n:=(bU.1 aq).1;have an:=xQ aq;have ah:=HM.ext;have ca:wr.cell? ⟨b,d+(k-1),none⟩=some (I x):=(ah.cells.1 _ _ hb).trans (HS (k-1) x a9);have cb:wr.cell? ⟨b,d+k,none⟩=some (I y):=(ah.cells.1 _ _ hb).trans (HS k y ba);have aw:b<wr:=aRo hb ah.sz;clear ad aq a9 ba ah;have i1:(0:Int)≤(k:Int):=by omega
    have i2:(k:Int)<(m:Int):=by omega
    have i3:(k:Int)-1<(m:Int):=by omega
    have i4:((k:Int)-1).toNat=k-1:=by omega
    have i5:(1:Int)≤(k:Int):=by omega
    go_wp2;refine rL (gl [gEq (.slice (some ⟨b,d,none⟩) m c2),gEq (k:Int),gEq (.pointer (some ⟨b,d+k,none⟩)),gEq (y:Int),gEq (.slice (some ⟨b,d,none⟩) m c2),gEq (k:Int),gEq ((k:Int)-1:Int),gEq (.pointer (some ⟨b,d+(k-1),none⟩)),gEq (x:Int),gEq (.agg #[y,x]),aQz wr TSL #[(),()]]) 11 12 [(0,some 35),(1,some 36),(2,some 37),(3,some 38),(4,some 39),(5,some 40),(6,some 41),(7,some 42),(8,some 43),(9,some 44),(10,some 8)] ?steps ?fin
    case steps=>
     refine sS0 [] (sS0 [] (sS2 [(0,some 35),(1,some 36)] ?_));refine sC [(2,some 37)] rfl (fun wi hx=> ?_) ?_
     ·intro v2 h2 K hK;obtain rfl:=h2;have hX:=hx.of_drew;have aa:wi.cell? ⟨b,d+k,none⟩=some (I y):=(hX.cells.1 _ _ aw).trans cb;go_simp;exact hK _ _ ⟨I y,rfl,rfl,Ext.refl _⟩
     refine sS0 [] (sS0 [] ?_);refine sC [(5,some 40)] rfl (fun wi hx=> ?_) ?_
     ·intro v5 h5 K hK;obtain rfl:=h5;have b4:IntKind.i64.wrap ((k:Int)-1)=(k:Int)-1:=aRr _ (by omega);go_simp;exact hK _ _ ⟨I ((k:Int)-1),rfl,rfl,Ext.refl _⟩
     refine sS2 [(4,some 39),(6,some 41)] ?_;refine sC [(7,some 42)] rfl (fun wi hx=> ?_) ?_
     ·intro v7 h7 K hK;obtain rfl:=h7;have hX:=hx.of_drew;have aa:wi.cell? ⟨b,d+(k-1),none⟩=some (I x):=(hX.cells.1 _ _ aw).trans ca;go_simp;exact hK _ _ ⟨I x,rfl,rfl,Ext.refl _⟩
     refine sS2 [(3,some 38),(8,some 43)] ?_;refine sC [] rfl (fun wi hx=> ?_) StepsL.nil
     ·intro K hK;go_simp;exact hK _ _ ⟨.pointer (some ⟨wi,0,none⟩),rfl,⟨wi.heap.size,rfl,by have:=hx.sz;simp at this;omega,Blk.new _ _ _⟩,(Ext.refl _).alloc _⟩
    case fin=>
     intro wi hx v0 h0 v1 h1 v2 h2 v3 h3 v4 h4 v5 h5 v6 h6 v7 h7 v8 h8 v9 h9 bb ab;subst h0 h1 h2 h3 h4 h5 h6 h7 h8 h9;obtain⟨af,rfl,aj,av⟩:=ab;have hX:Ext wr wi:=hx.of_drew;have M1:=(show Mem w wi [aJ w (af) TSL #[(),()],aJ w w2 TH3 #[aA,aB,.slice q n c],aI w TI 1 (q) (n) (c) (ivs ys),aI w TSL 2 (q5) (l) (lc) (sl.flatMap aM),aJ w w TH3 #[aA,aB,.slice (some ⟨pb,po,none⟩) n cap]]from HM.blkOf hX av aj)
     clear HM hx hX ca cb av aj;try go_frame
     have z0:=(M1.bk 0).cl 0;have bv:=(M1.bk 0).frozen 0;have z1:=(M1.bk 0).cl 1;have bw:=(M1.bk 0).frozen 1;refine wpAny_ready (rs:= [11]) (by kernel_rfl) (by simp) ?_;refine AllReady.cons rfl (fun K hK=> ?_) AllReady.nil;go_simp;refine hK _ _ ?_;clear hK K z0 bv z1 bw;have M2:=((M1.st 0 0 (I y)).st 0 1 (I x))
     generalize ((wi.setCell ⟨af,0,none⟩ (I y)).setCell ⟨af,1,none⟩ (I x))=w4 at M2⊢;clear M1;refine wpAny_done (by kernel_rfl) ?_ _;try go_frame
     obtain⟨g,h⟩:=M2.nq 0 1;obtain⟨n0,n1,n2⟩:=(M2.bk 1).tri;have s0:=(M2.bk 0).cl 0;have s1:=(M2.bk 0).cl 1;have HD:=xQ (fun w' (hx:Ext w4 w')=>mK aA aB (y:Int) (x:Int) q n c ys w' ((M2.sq 2).ext hx) j.out);go_wp2_with fail;refine(HD _ (by exact .refl _)).mono ?_;rintro e w5 ⟨q6,c6,rfl,ar,ag⟩;have a1:(bI aA aB ys (y:Int) (x:Int)).length=n:=by rw[dB,f.out]
     rw[a1]at ar⊢;clear a1 HD g h n0 n1 n2 s0 s1;have M3:=(M2.call ag ar)
     clear M2 ag ar;have bq:=M3.hi 1;have br:=M3.hi 2;by_cases hy0:ys.getD y 0=0
     ·have hm:bF aA aB ys (y:Int) (x:Int)=false:=by have:=aNr j (by rw[f.out];exact au) ap (by rw[f.out];exact an.out) hy0;exact this
      have hr:=xQ (rI (a:=x) (l:=rest') hy0);have bd:=xQ hy0;clear hy0;rw[hm];clear hm;go_wp2;go_roundw
      case rel=>exact⟨k+1,y,rest',ys,q,c,q5,l,lc,sl,by omega,by omega,by go_num,rfl,ao.out,by omega,by rw[aU4];exact ai.out,j.out,f.out,a8,bd.out,t.out.2,by rw[←s.out,hr.out],((M3.c0 TH3 #[aA,aB,.slice q6 n c6]).pick [3,4,5,6] (by decide) rfl)⟩
      case measure=>simp[intOf];omega
     obtain⟨hm,hd⟩:=aCg j (by rw[f.out];exact au) ap (by rw[f.out];exact an.out) hy0;obtain⟨n1,n2,n3⟩:=uD j (by rw[f.out];exact au) ap (by rw[f.out];exact an.out) hy0;have hr:=xQ (pH (a:=x) (l:=rest') hy0);rw[hd]at M3;rw[hm];clear hm hd hy0;generalize (ys.set x (ys.getD y 0)).set y 0=zs at*;have N1:=xQ n1;have N2:=xQ n2;have N3:=xQ n3;clear n1 n2 n3;obtain⟨g,h⟩:=M3.nq 1 2;obtain⟨n0,bs,n1,bt,n2,bu⟩:=(M3.bk 2).trif;have s0:=(M3.bk 1).cl 0;have s1:=(M3.bk 1).cl 1;go_wp2_with (at_builtin;go_loud (refine cG sX rfl _ _ rfl (((((M3.store (i:=2) rfl 0 (I aA)).store (i:=2) rfl 1 (I aB)).store (i:=2) rfl 2 (.slice q6 n c6)).bn TH3 #[aA,aB,.slice q6 n c6] w5).adv ((Ext.refl _).alloc (.cells #[y,x] TSL))) 5 rfl rfl (aM ((y:Int),(x:Int))) rfl (eJ _ _ _ 1 2 _ (by simp) (by simp) (by simp[maxLen])) (nU _ _) (by omega) ?_;intro q7 c7 w6 M6));clear g h n0 bs n1 bt n2 bu s0 s1;have M7:=(show Mem w w6 [aJ w w5 TH3 #[aA,aB,.slice q6 n c6],aI w TI 1 (q6) (n) (c6) (ivs zs),aJ w (af) TSL #[y,x],aJ w w2 TH3 #[aA,aB,.slice q6 n c6],aI w TI 1 (q) (n) (c) (ivs ys),aI w TSL 2 (q7) (l+1) (c7) (sl.flatMap aM++aM ((y:Int),(x:Int))),aJ w w TH3 #[aA,aB,.slice (some ⟨pb,po,none⟩) n cap]]from M6)
     clear M6 M3;have a0:Hid (sl.flatMap aM++aM ((y:Int),(x:Int))=(sl++ [((y:Int),(x:Int))]).flatMap aM):=by show _=_;rw[aSk];simp
     rw[a0.out]at M7;clear a0;go_wp2;go_roundw
     case rel=>exact⟨k+1,y,rest',zs,q6,c6,q7,l+1,c7,sl++ [((y:Int),(x:Int))],by omega,by omega,by go_num,rfl,by rw[aRx,←ao.out];rfl,by omega,by rw[aU4];exact ai.out,N1.out,by rw[N2.out,f.out],a8,N3.out,t.out.2,by rw[←s.out,hr.out];simp,(M7.pick [3,1,5,6] (by decide) rfl)⟩
     case measure=>simp[intOf];omega
   obtain rfl:m=k:=by omega
   have o:rest= []:=by
    have h1:=congrArg List.length ae.out;rw[aTg,a5.out]at h1;cases rest with
    |nil=>rfl
    |cons y r=>simp at h1;omega
   subst o;have az:Hid (sl=(cI xs u p).2):=by show _=_;rw[←s.out];simp[cI]
   go_wp2;go_ret;have bj:=ao.out;subst bj;rw[←az.out];exact⟨q5,lc,rfl,HM.ow 2,HM.ext⟩
theorem kQ {aA:Int}{n:Nat}(hg:(aA,n)∈jI){u:Nat}(hu:u<n):0<(dH aA n 12 u).length∧(dH aA n 12 u).length≤6∧((dH aA n 12 u).length:Int)=aX aA u 0+1:=by have g:=bV hg hu;have h:=nE hg 12 u hu (by have:=g.2.1;omega);have:=g.1;have:=g.2.1;omega
theorem aCs {aA aB:Int}{xs:List Int}(a:aO aA aB xs=true){x y:Nat}(hx:x<xs.length)(hy:y∈aS aA xs.length x):dM aA aB xs (x:Int) (y:Int)=1:=by obtain⟨h1,h2⟩:=bU.1 hy;unfold dM;rw[if_pos ⟨a,⟨by omega,by omega⟩,by omega,by omega⟩];exact h2
theorem xZ (aA aB:Int)(p:OA)(n cap:Nat)(xs:List Int)(lq:OA)(m lc u:Nat)(w:World)(hS:Sl w p n cap 1 (ivs xs))(d:aO aA aB xs=true)(hu:u<n)(g:xs.getD u 0=0)
  (hL:Sl w lq m lc 1 (ivs (bG (dH aA n 12 u)))):
  U 138 #[aH aA aB p n cap,.slice lq m lc] w (iK (cI xs u (dH aA n 12 u).tail).2 w):=by
 have hl:=hS.ilen;subst hl;have hg:=kI d;obtain⟨g1,g2,g3,g4,g5,g6,g7⟩:=cE (cQ d);obtain⟨k1,k2,k3⟩:=kQ hg hu;have hm:=hL.ilen;rw[aSg]at hm;obtain⟨pb,po,rfl,l,o⟩:=hS.rd (by omega);obtain⟨b,f,rfl,hb,hc⟩:=hL.rd (by omega);have a: ∀(k x:Nat),(dH aA xs.length 12 u)[k]? =some x→w.cell? ⟨b,f+k,none⟩=some (I x):=by intro k x hx;have hk:=(aRt.1 hx).1;rw[hc k (by omega)];simp[ivs,bG,hx]
 have c:=wH aA xs.length 12 u;have i:w.cell? ⟨b,f,none⟩=some (I u):=a 0 u (by rw[c];rfl);have j:w.cell? ⟨pb,po+u,none⟩=some (I 0):=by rw[o u (by omega)];rw[aRw,aRq hu]at g;simp only[Option.getD_some]at g;simp[ivs,hu,g]
 have HV: ∀w',Ext w w'→U 48 #[aH aA aB (some ⟨pb,po,none⟩) xs.length cap] w' (O (.bool true) w'):=fun w' hy=>by have:=gJ aA aB _ xs.length cap xs w' (hS.ext hy);rwa[d]at this
 have HI: ∀w,U 50 #[u,(),((xs.length:Int)-1:Int)] w fun e w'=>e= .returned (.bool true)∧w=w':=fun w=>by have:=sK (u:Int) 0 ((xs.length:Int)-1) w;rwa[show decide ((0:Int)≤(u:Int)∧(u:Int)≤(xs.length:Int)-1)=true by simp;omega]at this
 have HW: ∀w',Ext w w'→U 170 #[aH aA aB (some ⟨pb,po,none⟩) xs.length cap,.slice (some ⟨b,f,none⟩) m lc] w' (O (.bool true) w'):=fun w' hy=>
  aJa aA aB _ xs.length cap b f m lc (dH aA xs.length 12 u) w' g5 g6 (by omega) (by omega) hm (aRo hb hy.sz) (fun k x hx=>(hy.cells.1 _ _ hb).trans (a k x hx)) u ((hy.cells.1 _ _ hb).trans i)
   (fun k x y hx hxy w2 hy2=>by
    have h2:=uM hg 12 u k x y hu hx hxy;have q:=aI3 hg 12 u x hu (aRs hx);have:=aBk aA aB (x:Int) (y:Int) _ xs.length cap xs w2 (hS.ext (hy.trans hy2));rw[aCs d q h2.2]at this
    exact this) (fun w2 hy2=>HV w2 (hy.trans hy2)) HI
 exact aM3 aA aB pb po xs.length cap xs b f m lc u (dH aA xs.length 12 u).tail (dH aA xs.length 12 u) w g5 g6 (by omega) (by omega) c hm hb l d rfl hu g (tH hg 12 u hu) a i j HW
  (fun w' hy=>(fW aA aB _ xs.length cap xs w' (by omega) (hS.ext hy)).mono fun e w'' h=>h)
def lR (aA:Int)(n:Nat):Option Nat→List Nat
 |none=> []
 |some u=>dH aA n 12 u
theorem aA6 {aA:Int}{n:Nat}(hg:(aA,n)∈jI){l:List Nat}(hl: ∀x∈l,x<n){u:Nat}(hu:u<n):
  ((lR aA n (dI aA l)).length=0∨(dH aA n 12 u).length<(lR aA n (dI aA l)).length→dI aA (l++ [u])=some u)∧
  (¬((lR aA n (dI aA l)).length=0∨(dH aA n 12 u).length<(lR aA n (dI aA l)).length)→dI aA (l++ [u])=dI aA l):=by
 obtain⟨k1,k2,k3⟩:=kQ hg hu;rw[aBs];cases h:dI aA l with
 |none=>simp[lR,oA]
 |some v=>
  obtain⟨m1,m2,m3⟩:=kQ hg (hl v ((kT aA l).2 v h));simp only[lR,oA];constructor
  ·intro hc;rw[if_pos (by omega)]
  intro hc;rw[if_neg (by omega)]
theorem aFs (aA aB:Int)(p:OA)(n cap:Nat)(fr:List Nat)(F:Nat)(w:World)(hg:Hid ((aA,n)∈jI))(hn:n≤12)(hF:Hid (fr.length=F))(af:F≤12)(r:Hid (∀x∈fr,x<n))
  (HF:xC 144 #[aH aA aB p n cap] w fun w' e w''=> ∃q c,e= .returned (.slice q F c)∧w''.ownsRow w' TI 1 (.slice q F c) F (ivs (bG fr))∧Ext w' w'')
  (j:Hid (∀(u:Nat),u<n→ ∀w',Ext w w'→U 169 #[aH aA aB p n cap,u,(),(-1:Int)] w' (bA (bG (dH aA n 12 u)) w'))):
  U 137 #[aH aA aB p n cap,(),(-1:Int)] w (bA (bG (lR aA n (dI aA fr))) w):=by
 go_enter func137,ntmps137;have ME:=(((Mem.start w).c0 TH3 #[aA,aB,.slice p n cap]).made0 TI 1 (w.heap.size+1) (by simp))
 go_wp2_with fail;refine(HF _ ME.ext).mono ?_;rintro e w1 ⟨q1,c1,rfl,s,y⟩;have M1:=(ME.call y s)
 clear ME y s;go_wp2;go_loopw [7,9] (fun v i wr=> ∃(k:Nat) (qb:OA) (l lb:Nat),k≤F∧i=I k∧v= .slice qb l lb∧l=(lR aA n (dI aA (fr.take k))).length∧Mem w wr [aI w TI 1 (qb) (l) (lb) (ivs (bG (lR aA n (dI aA (fr.take k))))),aI w TI 1 (q1) (F) (c1) (ivs (bG fr)),aJ w w TH3 #[aA,aB,.slice p n cap]]) (fun _ i _=>F-(intOf i).toNat)
 case atStart=>exact⟨0,some ⟨w.heap.size+1,0,none⟩,0,0,aRv _,rfl,rfl,rfl,(M1.pick [1,0,2] (by decide) rfl)⟩
 case round=>
  clear M1;obtain⟨k,qb,l,lb,hk,rfl,rfl,hl,hM⟩:=hrel;have HM:=hM;have a:=xQ hl;clear hM hl;by_cases hlt:k<F
  ·obtain⟨u,hu⟩: ∃u,fr[k]? =some u:=⟨_,aRq (by rw[hF.out];exact hlt)⟩
   have g:u<n:=r.out u (aRs hu);obtain⟨gf,rfl,ai,ab⟩:=HM.so 1;have cu:wr.cell? ⟨gf,k,none⟩=some (I u):=by have:=(HM.ow 1).cellAt k (by omega);rw[this];simp[ivs,bG,hu]
   obtain⟨b,d⟩:=aA6 hg.out (l:=fr.take k) (fun x hx=>r.out x (aTi hx)) g;rw[←aY hu,←a.out]at b d;obtain⟨k1,k2,k3⟩:=kQ hg.out g;obtain⟨W,hW⟩: ∃W,W=(dH aA n 12 u).length:=⟨_,rfl⟩
   rw[←hW]at k1 k2 b d;have m:=xQ b;have z:=xQ d;have f:=xQ hW;have HC:=xQ (fun w' (hx:Ext w w')=>j u g w' hx);clear hu b d hW k3;have i1:(0:Int)≤(k:Int):=by omega
   have i2:(k:Int)<(F:Int):=by omega
   go_wp2;refine rL (gl [gEq (.agg #[aA,aB,.slice p n cap]),gEq (.slice (some ⟨gf,0,none⟩) F c1),gEq (k:Int),gEq (.pointer (some ⟨gf,k,none⟩)),gEq (u:Int),gEq (I 0),gEq (-1:Int),(fun v w'=> ∃q c,v= .slice q (W) c∧w'.ownsRow wr TI 1 (.slice q (W) c) (W) (ivs (bG (dH aA n 12 u))))]) 8 9 [(0,some 20),(1,some 21),(2,some 22),(3,some 23),(4,some 24),(5,some 25),(6,some 26),(7,some 27)] ?steps ?fin (hG:=(lH (bC (bH _) (bC (bH _) (bC (bH _) (bC (bH _) (bC (bH _) (bC (bH _) (bC (bH _) (bC (fun v w w' ⟨q,c,he,ho⟩ hx=>⟨q,c,he,aZ ho hx⟩) (oG)))))))))))
   case steps=>
    refine sC [] rfl (fun wi hx=> ?_) ?_
    ·intro K hK;have hX:=hx.of_drew;obtain⟨aa,ag,ah⟩:=((HM.bk 2).ext hX).tri;go_simp;exact hK _ _ ⟨.agg #[aA,aB,.slice p n cap],rfl,rfl,Ext.refl _⟩
    refine sS0 [] (sS0 [] (sS2 [(1,some 21),(2,some 22)] ?_));refine sC [(3,some 23)] rfl (fun wi hx=> ?_) ?_
    ·intro v3 h3 K hK;obtain rfl:=h3;have hX:=hx.of_drew;have aa:wi.cell? ⟨gf,k,none⟩=some (I u):=(hX.cells.1 _ _ ab).trans cu;go_simp;exact hK _ _ ⟨I u,rfl,rfl,Ext.refl _⟩
    refine sS0 [] (sS0 [] ?_);refine sC [(0,some 20),(4,some 24),(5,some 25),(6,some 26)] rfl (fun wi hx=> ?_) StepsL.nil
    ·intro v0 h0 v4 h4 v5 h5 v6 h6 K hK;subst h0 h4 h5 h6;have hX:=hx.of_drew;go_wp2_with fail;refine(HC _ (HM.ext.trans hX)).mono ?_;rintro e w5 ⟨q5,c5,rfl,o5,ae⟩;have ad:(bG (dH aA n 12 u)).length=W:=by rw[f.out];simp[bG]
     rw[ad]at o5⊢;go_simp;exact hK _ _ ⟨.slice q5 (W) c5,rfl,⟨q5,c5,rfl,bJ o5 (by have:=hX.sz;simpa using this)⟩,ae⟩
   case fin=>
    intro wi hx v0 h0 v1 h1 v2 h2 v3 h3 v4 h4 v5 h5 v6 h6 v7 h7;subst h0 h1 h2 h3 h4 h5 h6;obtain⟨q7,c7,rfl,t⟩:=h7;have hX:Ext wr wi:=hx.of_drew;have M1:=(show Mem w wi [aI w TI 1 (q7) (W) (c7) (ivs (bG (dH aA n 12 u))),aI w TI 1 (qb) (l) (lb) (ivs (bG (lR aA n (dI aA (fr.take k))))),aI w TI 1 (some ⟨gf,0,none⟩) (F) (c1) (ivs (bG fr)),aJ w w TH3 #[aA,aB,.slice p n cap]]from HM.ownNew hX t (aRp _))
    clear HM;try go_frame
    refine wpAny_ready (rs:= [8]) (by kernel_rfl) (by simp) ?_;refine AllReady.cons rfl (fun K hK=> ?_) AllReady.nil;go_simp;refine hK _ _ ?_;clear hK K;refine wpAny_done (by kernel_rfl) ?_ _;try go_frame
    clear hx hX cu t HC;by_cases h0:l=0
    ·have hn:=xQ (m (.inl h0));have t1:((l:Int)==0)=true:=by simp[h0]
     clear h0;go_wp2;go_roundw
     case rel=>exact⟨k+1,q7,W,c7,by omega,by go_num,rfl,by rw[hn.out];exact f.out,by rw[hn.out];exact(M1.pick [0,2,3] (by decide) rfl)⟩
     case measure=>simp[intOf];omega
    have t1:((l:Int)==0)=false:=by simp[h0]
    by_cases h1:W<l
    ·have hn:=xQ (m (.inr h1));go_wp2;go_roundw
     case rel=>exact⟨k+1,q7,W,c7,by omega,by go_num,rfl,by rw[hn.out];exact f.out,by rw[hn.out];exact(M1.pick [0,2,3] (by decide) rfl)⟩
     case measure=>simp[intOf];omega
    have hn:=xQ (z (fun h=>h.elim h0 h1));go_wp2;go_roundw
    case rel=>exact⟨k+1,qb,l,lb,by omega,by go_num,rfl,by rw[hn.out];exact a.out,by rw[hn.out];exact(M1.pick [1,2,3] (by decide) rfl)⟩
    case measure=>simp[intOf];omega
  obtain rfl:F=k:=by omega
  have o:Hid (fr.take F=fr):=by show _=_;rw[aRu (by rw[hF.out];omega)]
  go_wp2;go_ret;rw[o.out]at a HM;exact dG (by rw[aSg];exact a.out.symm) (HM.ow 0) HM.ext
theorem qX (aA aB:Int)(p:OA)(n cap:Nat)(xs:List Int)(w:World)(hS:Sl w p n cap 1 (ivs xs))(a:aO aA aB xs=true):
  U 137 #[aH aA aB p n cap,(),(-1:Int)] w (bA (bG (lR aA n (dI aA (bP xs)))) w):=by
 have hl:=hS.ilen;subst hl;obtain⟨g1,g2,g3,g4,g5,g6,g7⟩:=cE (cQ a);have b:(bP xs).length≤12:=by unfold bP;exact aRz (aSt _ _) (by simp;omega)
 refine aFs aA aB p xs.length cap (bP xs) _ w (kI a) g6 rfl b (fun x hx=>(kK hx).1) (fun w' hy=> ?_) (fun u hu w' hy=>aB0 aA aB p xs.length cap u xs w' (hS.ext hy) a hu);have:=aG1 aA aB p xs.length cap xs w' (hS.ext hy);rw[a,if_pos rfl,yE]at this;refine this.mono fun e w'' h=> ?_
 obtain⟨q,c,h1,h2,h3⟩:=h;rw[aSg]at h1 h2;exact⟨q,c,h1,h2,h3⟩
end
end Go.Proofs.YtbgkcehffiogcacGreatDoor
