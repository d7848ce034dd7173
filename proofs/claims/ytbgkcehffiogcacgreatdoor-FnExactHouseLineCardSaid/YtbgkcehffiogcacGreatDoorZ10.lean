/-
  Texts of this proof, packed (@packed).
-/
import Derived.Test.YtbgkcehffiogcacGreatDoorZ9
namespace Go.Proofs.YtbgkcehffiogcacGreatDoor
open Go.RowKit
set_option linter.unusedSimpArgs false
set_option linter.unusedVariables false
set_option maxHeartbeats 8000000
set_option maxRecDepth 100000
def cG:List Int→Nat→List Nat→List Int×List Sl2
 |xs,_,[]=>(xs,[])
 |xs,a,b::l=>if xs.getD b 0=0 then cG xs b l else((cG ((xs.set a (xs.getD b 0)).set b 0) b l).1,((b:Int),(a:Int))::(cG ((xs.set a (xs.getD b 0)).set b 0) b l).2)
theorem qW {xs:List Int}{a b:Nat}{l:List Nat}(h:xs.getD b 0=0):cG xs a (b::l)=cG xs b l:=by rw[cG,if_pos h]
theorem oX {xs:List Int}{a b:Nat}{l:List Nat}(h: ¬xs.getD b 0=0):cG xs a (b::l)=((cG ((xs.set a (xs.getD b 0)).set b 0) b l).1,((b:Int),(a:Int))::(cG ((xs.set a (xs.getD b 0)).set b 0) b l).2):=by rw[cG,if_neg h]
def nH (aA:Int)(n:Nat):Nat→List Nat→Prop
 |_,[]=>True
 |a,b::l=>b∈aR aA n a∧nH aA n b l
theorem cP {aA aB:Int}{xs:List Int}(h:aO aA aB xs=true):kF aA aB xs.length=true:=by unfold aO at h;rw[aQv]at h;exact h.1
theorem oY {aA aB:Int}{xs:List Int}(h:aO aA aB xs=true)(b:Nat):0≤xs.getD b 0:=by
 unfold aO at h;rw[aQv]at h;have h1:=((fG _ _).1 h.2).1;rw[aQs];cases hx:xs[b]? with
 |none=>simp
 |some x=>exact(h1 x (aQq hx)).1
theorem aEc {aA aB:Int}{xs:List Int}{a b:Nat}(h:aO aA aB xs=true)(ha:a<xs.length)(h0:xs.getD a 0=0)(hb:b∈aR aA xs.length a):bD aA aB xs (b:Int) (a:Int)=decide (0<xs.getD b 0):=by
 obtain⟨h1,h2⟩:=bU.1 hb;have h3:dI aA aB xs (b:Int) (a:Int)=1:=by unfold dI;rw[if_pos ⟨h,⟨by omega,by omega⟩,by omega,by omega⟩,xX];exact h2
 unfold bD;rw[h3];simp only[aSo,h0];simp
theorem aBy {aA aB:Int}{xs:List Int}{a b:Nat}(h:aO aA aB xs=true)(ha:a<xs.length)(h0:xs.getD a 0=0)(hb:b∈aR aA xs.length a)(hx: ¬xs.getD b 0=0):bD aA aB xs (b:Int) (a:Int)=true∧bH aA aB xs (b:Int) (a:Int)=(xs.set a (xs.getD b 0)).set b 0:=by
 have h1:=aEc h ha h0 hb;have h2:decide (0<xs.getD b 0)=true:=by have:=oY h b;simp only[decide_eq_true_eq];omega
 rw[h2]at h1;exact⟨h1,by unfold bH;rw[if_pos h1];simp only[aSo]⟩
theorem aN0 {aA aB:Int}{xs:List Int}{a b:Nat}(h:aO aA aB xs=true)(ha:a<xs.length)(h0:xs.getD a 0=0)(hb:b∈aR aA xs.length a)(hx:xs.getD b 0=0):bD aA aB xs (b:Int) (a:Int)=false:=by rw[aEc h ha h0 hb,hx];rfl
theorem tS {aA aB:Int}{xs:List Int}{a b:Nat}(h:aO aA aB xs=true)(ha:a<xs.length)(h0:xs.getD a 0=0)(hb:b∈aR aA xs.length a)(hx: ¬xs.getD b 0=0):
  aO aA aB ((xs.set a (xs.getD b 0)).set b 0)=true∧((xs.set a (xs.getD b 0)).set b 0).length=xs.length∧((xs.set a (xs.getD b 0)).set b 0).getD b 0=0:=by
 obtain⟨h1,h2⟩:=aBy h ha h0 hb hx;refine⟨by rw[←h2];exact iP _ _ h,by simp,?_⟩;have hl:=(bU.1 hb).1;rw[aQs,aRa (by simp;exact hl)];rfl
theorem yW {aA aB:Int}: ∀(l:List Nat) (xs:List Int) (a:Nat),aO aA aB xs=true→a<xs.length→xs.getD a 0=0→nH aA xs.length a l→
  bA aA aB xs (cG xs a l).2=((cG xs a l).1,(cG xs a l).2.length)∧aO aA aB (cG xs a l).1=true∧(cG xs a l).1.length=xs.length∧(cG xs a l).2.length≤l.length∧(cG xs a l).1.getD ((a::l).getLast (by simp)) 0=0:=by
 intro l;induction l with
 |nil=>intro xs a h ha h0 _;exact⟨rfl,h,rfl,aQn _,by simpa[cG]using h0⟩
 |cons b l ih=>
  intro xs a h ha h0 hs;obtain⟨hb,d⟩:=hs;have c:=(bU.1 hb).1;by_cases hx:xs.getD b 0=0
  ·rw[qW hx];obtain⟨i1,i2,i3,i4,i5⟩:=ih xs b h c hx d;exact⟨i1,i2,i3,by simp;omega,by simpa using i5⟩
  obtain⟨n1,n2,n3⟩:=tS h ha h0 hb hx;obtain⟨d1,d2⟩:=aBy h ha h0 hb hx;obtain⟨i1,i2,i3,i4,i5⟩:=ih _ b n1 (by rw[n2];exact c) n3 (by rw[n2];exact d);rw[oX hx];refine⟨?_,i2,by rw[i3,n2],by simp only[aRm];omega,by simpa using i5⟩;dsimp only;rw[eL d1,d2,i1];rfl
theorem sV {aA:Int}{n:Nat}(h:(aA,n)∈jB): ∀(f u:Nat),u<n→nH aA n u (dD aA n f u).tail:=by
 intro f;induction f with
 |zero=>intro u _;exact trivial
 |succ f ih=>
  intro u hu;unfold dD;by_cases h0:u=0
  ·rw[if_pos h0];exact trivial
  rw[if_neg h0];obtain⟨h1,h2,_⟩:=(bV h hu).2.2.2.1 h0;have:=ih (lJ aA n u) h1;have hh:=sW aA n f (lJ aA n u);simp only[List.tail_cons];cases hw:dD aA n f (lJ aA n u)with
  |nil=>rw[hw]at hh;simp at hh
  |cons x l=>rw[hw]at hh this;simp at hh;subst hh;exact⟨h2,this⟩
theorem vT (aA:Int)(n f u:Nat):dD aA n f u=u::(dD aA n f u).tail:=by
 have hh:=sW aA n f u;cases hw:dD aA n f u with
 |nil=>rw[hw]at hh;simp at hh
 |cons x l=>rw[hw]at hh;simp at hh;subst hh;rfl
theorem aKw {aA:Int}{n:Nat}(h:(aA,n)∈jB): ∀(f u:Nat),u<n→aX aA u 0≤f→(dD aA n f u).getLast? =some 0:=by
 intro f;induction f with
 |zero=>intro u hu ha;have g:=bV h hu;have:u=0:=g.2.2.1.1 (by have:=g.1;simp at ha;omega);subst this;rfl
 |succ f ih=>
  intro u hu ha;unfold dD;by_cases h0:u=0
  ·rw[if_pos h0];simp[h0]
  rw[if_neg h0];obtain⟨h1,h2,h3⟩:=(bV h hu).2.2.2.1 h0;have:=ih (lJ aA n u) h1 (by rw[h3];simp at ha;omega);rw[List.getLast?_cons,this];rfl
def bP (xs:List Int):List Nat:=(List.range xs.length).filter (cV xs)
theorem xM (xs:List Int):mH xs=(bP xs).map (fun(k:Nat)=>(k:Int)):=by
 unfold mH bP;generalize xs.length=k;induction k with
 |zero=>rfl
 |succ k ih=>rw[aS7,aRj,aRp,fL,ih];congr 1;cases h:cV xs k<;>simp[h]
theorem kD {xs:List Int}{u:Nat}(h:u∈bP xs):u<xs.length∧xs.getD u 0=0:=by unfold bP at h;rw[aRf]at h;refine⟨by simpa using h.1,?_⟩;have h2:=h.2;unfold cV at h2;rw[aQs,eq_of_beq h2];rfl
def nR (aA:Int)(best:Option Nat)(u:Nat):Option Nat:=
 match best with
 |none=>some u
 |some v=>if aX aA u 0<aX aA v 0 then some u else some v
def dE (aA:Int)(l:List Nat):Option Nat:=l.foldl (nR aA) none
theorem aBa (aA:Int)(l:List Nat)(u:Nat):dE aA (l++ [u])=nR aA (dE aA l) u:=by simp[dE]
theorem kK (aA:Int)(l:List Nat):(dE aA l=none↔l= [])∧ ∀u,dE aA l=some u→u∈l:=by
 suffices h: ∀(l pre:List Nat) (b:Option Nat),(b=none↔pre= [])→(∀u,b=some u→u∈pre)→((l.foldl (nR aA) b=none↔pre++l= [])∧ ∀u,l.foldl (nR aA) b=some u→u∈pre++l)from by simpa[dE]using h l [] none (by simp) (by simp)
 intro l;induction l with
 |nil=>intro pre b h1 h2;simpa using⟨h1,h2⟩
 |cons x l ih=>
  intro pre b h1 h2
  have:=ih (pre++ [x]) (nR aA b x) (by
   unfold nR;cases b with
   |none=>simp
   |some v=>simp;split<;>simp) (by
   intro u hu;unfold nR at hu;cases b with
   |none=>simp at hu;simp[hu]
   |some v=>
    simp only at hu;split at hu
    ·injection hu with hu;simp[hu]
    ·injection hu with hu;subst hu;exact aRo _ (h2 v rfl))
  simpa using this
def iC (aA:Int)(xs:List Int):Option (List Int×List Sl2):=(dE aA (bP xs)).map (fun u=>cG xs u (dD aA xs.length 12 u).tail)
def lY (aA aB:Int)(xs:List Int)(id:Int):Option (List Int×Nat):=
 match iC aA xs with
 |none=>none
 |some r=>if(cW aA aB r.1 id).2 then some ((cW aA aB r.1 id).1,r.2.length)else none
theorem kA {aA aB:Int}{xs:List Int}(h:aO aA aB xs=true):(aA,xs.length)∈jB:=by obtain⟨h1,h2,h3,h4,h5,h6,h7⟩:=cC (cP h);exact qY h1 h2 h3 h4 h7
theorem pG {aA aB:Int}{xs:List Int}(h:aO aA aB xs=true){r:List Int×List Sl2}(hr:iC aA xs=some r):
  bA aA aB xs r.2=(r.1,r.2.length)∧aO aA aB r.1=true∧r.1.length=xs.length∧r.2.length≤5∧r.1.getD 0 0=0:=by
 unfold iC at hr;cases hn:dE aA (bP xs)with
 |none=>rw[hn]at hr;simp at hr
 |some u=>
  rw[hn]at hr;simp at hr;subst hr;obtain⟨hu,h0⟩:=kD ((kK aA _).2 u hn);have hg:=kA h;have g:=bV hg hu;obtain⟨f1,f2,f3,f4,f5⟩:=yW _ xs u h hu h0 (sV hg 12 u hu);have hl:=mT hg 12 u hu (by have:=g.2.1;omega);have hw:=aKw hg 12 u hu (by have:=g.2.1;omega);refine⟨f1,f2,f3,?_,?_⟩
  ·have:=g.2.1;rw[List.length_tail]at f4;omega
  have hc:=vT aA xs.length 12 u;rw[hc,List.getLast?_eq_some_getLast (by simp)]at hw;injection hw with hw;rw[hw]at f5;exact f5
section
open Go.Proofs.Tryz
theorem aIl (aA aB:Int)(p:OA)(n cap:Nat)(b a m c2:Nat)(ws:List Nat)(w:World)(ah:4≤n)(hn:n≤12)(ag:0<m)(hm:m≤12)(h:Hid (ws.length=m))(hb:b<w.heap.size)
  (HS:Hid (∀(k x:Nat),ws[k]? =some x→w.cell? ⟨b,a+k,none⟩=some (I x))) (x0:Nat) (c0:w.cell? ⟨b,a,none⟩=some (I x0))
  (HA:Hid (∀(k x y:Nat),ws[k]? =some x→ws[k+1]? =some y→ ∀w',Ext w w'→U 143 #[aH aA aB p n cap,x,y] w' (O (I 1) w')))
  (HV:xB 48 #[aH aA aB p n cap] w true)
  (HI:Hid (∀w,U 50 #[x0,(),((n:Int)-1:Int)] w fun e w'=>e= .returned (.bool true)∧w=w')):
  U 170 #[aH aA aB p n cap,.slice (some ⟨b,a,none⟩) m c2] w (O (.bool true) w):=by
 go_enter func170,ntmps170;go_wp2;go_loopw [5] (fun i wr=> ∃k:Nat,1≤k∧k≤m∧i=I k∧Ext w wr∧Blk wr w TH3 #[aA,aB,.slice p n cap]) (fun i _=>m-(intOf i).toNat)
 case atStart=>exact⟨1,aQn _,by omega,rfl,by exact .alloc (.refl _) _,Blk.new _ _ _⟩
 case round=>
  obtain⟨k,af,hk,rfl,hE,hB⟩:=hrel;have HB:=xQ hB;clear hB;have l:b<wr:=aQm hb hE.sz;by_cases hlt:k<m
  ·obtain⟨x,hx⟩: ∃x,ws[k-1]? =some x:=⟨_,aQo (by rw[h.out];omega)⟩
   obtain⟨y,hy⟩: ∃y,ws[k]? =some y:=⟨_,aQo (by rw[h.out];omega)⟩
   have HK:=xQ (HA (k-1) x y hx (by rw[show k-1+1=k by omega];exact hy));have ca:wr.cell? ⟨b,a+(k-1),none⟩=some (I x):=(hE.cells.1 _ _ hb).trans (HS (k-1) x hx);have cb:wr.cell? ⟨b,a+k,none⟩=some (I y):=(hE.cells.1 _ _ hb).trans (HS k y hy);clear hx hy c0;have i1:(0:Int)≤(k:Int):=by omega
   have i2:(k:Int)<(m:Int):=by omega
   have i3:(k:Int)-1<(m:Int):=by omega
   have i4:((k:Int)-1).toNat=k-1:=by omega
   have i5:(1:Int)≤(k:Int):=by omega
   go_wp2;refine rL (gl [gEq (.agg #[aA,aB,.slice p n cap]),gEq (.slice (some ⟨b,a,none⟩) m c2),gEq (k:Int),gEq ((k:Int)-1:Int),gEq (.pointer (some ⟨b,a+(k-1),none⟩)),gEq (x:Int),gEq (.slice (some ⟨b,a,none⟩) m c2),gEq (k:Int),gEq (.pointer (some ⟨b,a+k,none⟩)),gEq (y:Int),gEq (I 1),gEq (.bool false)]) 12 12 [(0,some 12),(1,some 13),(2,some 14),(3,some 15),(4,some 16),(5,some 17),(6,some 18),(7,some 19),(8,some 20),(9,some 21),(10,some 22),(11,some 23)] ?steps ?fin
   case steps=>
    refine sC [] rfl (fun wi hx=> ?_) ?_
    ·intro K hK;have hX:=hx.of_drew;obtain⟨c,t,u⟩:=(HB.out.ext hX).tri;go_simp;exact hK _ _ ⟨.agg #[aA,aB,.slice p n cap],rfl,rfl,Ext.refl _⟩
    refine sS0 [] (sS0 [] ?_);refine sC [(2,some 14)] rfl (fun wi hx=> ?_) ?_
    ·intro v2 h2 K hK;obtain rfl:=h2;have ai:IntKind.i64.wrap ((k:Int)-1)=(k:Int)-1:=aQp _ (by omega);go_simp;exact hK _ _ ⟨I ((k:Int)-1),rfl,rfl,Ext.refl _⟩
    refine sS2 [(1,some 13),(3,some 15)] ?_;refine sC [(4,some 16)] rfl (fun wi hx=> ?_) ?_
    ·intro v4 h4 K hK;obtain rfl:=h4;have hX:=hx.of_drew;have c:wi.cell? ⟨b,a+(k-1),none⟩=some (I x):=(hX.cells.1 _ _ l).trans ca;go_simp;exact hK _ _ ⟨I x,rfl,rfl,Ext.refl _⟩
    refine sS0 [] (sS0 [] (sS2 [(6,some 18),(7,some 19)] ?_));refine sC [(8,some 20)] rfl (fun wi hx=> ?_) ?_
    ·intro v8 h8 K hK;obtain rfl:=h8;have hX:=hx.of_drew;have c:wi.cell? ⟨b,a+k,none⟩=some (I y):=(hX.cells.1 _ _ l).trans cb;go_simp;exact hK _ _ ⟨I y,rfl,rfl,Ext.refl _⟩
    refine sC [(0,some 12),(5,some 17),(9,some 21)] rfl (fun wi hx=> ?_) ?_
    ·intro v0 h0 v5 h5 v9 h9 K hK;subst h0 h5 h9;go_wp2_with fail;refine Z (HK _ (hE.trans hx.of_drew)) fun w5 o=>?_
     go_simp;exact hK _ _ ⟨I 1,rfl,rfl,o⟩
    exact sS1 [(10,some 22)] StepsL.nil
   case fin=>
    intro wi hx v0 h0 v1 h1 v2 h2 v3 h3 v4 h4 v5 h5 v6 h6 v7 h7 v8 h8 v9 h9 r d s f;subst h0 h1 h2 h3 h4 h5 h6 h7 h8 h9;obtain rfl:=d;obtain rfl:=f;refine wpAny_done (by kernel_rfl) ?_ _;go_frame;have g:=hx.of_drew;go_wp2;go_roundw
    case rel=>exact⟨k+1,by omega,by omega,by go_num,hE.trans g,HB.out.ext g⟩
    case measure=>simp[intOf];omega
  obtain rfl:m=k:=by omega
  have q:=(hE.cells.1 _ _ hb).trans c0;clear c0;have c0:=q;clear q;have i2:(0:Int)<(m:Int):=by omega
  have i6:IntKind.i64.wrap ((n:Int)-1)=(n:Int)-1:=aQp _ (by omega);go_wp2;refine rL (gl [gEq (.agg #[aA,aB,.slice p n cap]),gEq (.bool true),gEq (.bool true),gEq (.slice (some ⟨b,a,none⟩) m c2),gEq (m:Int),gEq (.bool true),gEq (.bool true),gEq (.bool true),gEq (.slice (some ⟨b,a,none⟩) m c2),gEq (.pointer (some ⟨b,a,none⟩)),gEq (x0:Int),gEq (.pointer (some ⟨w,2,none⟩)),gEq (.slice p n cap),gEq (n:Int),gEq ((n:Int)-1:Int),gEq (.bool true),gEq (.bool true),gEq (.bool true)]) 18 18 [(0,some 24),(1,some 25),(2,some 26),(3,some 27),(4,some 28),(5,some 29),(6,some 30),(7,some 31),(8,some 32),(9,some 33),(10,some 34),(11,some 35),(12,some 36),(13,some 37),(14,some 38),(15,some 39),(16,some 40),(17,some 4)] ?steps ?fin
  case steps=>
   refine sC [] rfl (fun wi hx=> ?_) ?_
   ·intro K hK;have hX:=hx.of_drew;obtain⟨c,t,u⟩:=(HB.out.ext hX).tri;go_simp;exact hK _ _ ⟨.agg #[aA,aB,.slice p n cap],rfl,rfl,Ext.refl _⟩
   refine sC [(0,some 24)] rfl (fun wi hx=> ?_) ?_
   ·intro v0 h0 K hK;obtain rfl:=h0;go_wp2_with fail;refine Z (HV _ (hE.trans hx.of_drew)) fun w5 o=>?_
    go_simp;exact hK _ _ ⟨.bool true,rfl,rfl,o⟩
   refine sS1 [(1,some 25)] (sS1 [(2,some 26)] (sS2 [(2,some 26),(3,some 27)] (sS2 [(2,some 26),(4,some 28)] (sS2 [(2,some 26),(5,some 29)] (sS1 [(6,some 30)] (sS1 [(7,some 31)] (sS2 [(7,some 31),(8,some 32)] ?_)))))));refine sC [(7,some 31),(9,some 33)] rfl (fun wi hx=> ?_) ?_
   ·intro v7 h7 v9 h9 K hK;subst h7 h9;have hX:=hx.of_drew;have c:wi.cell? ⟨b,a,none⟩=some (I x0):=(hX.cells.1 _ _ l).trans c0;go_simp;exact hK _ _ ⟨I x0,rfl,rfl,Ext.refl _⟩
   refine sS1 [(7,some 31)] ?_;refine sC [(7,some 31),(11,some 35)] rfl (fun wi hx=> ?_) ?_
   ·intro v7 h7 s f K hK;obtain rfl:=h7;obtain rfl:=f;have hX:=hx.of_drew;have c:=(HB.out.ext hX).cl 2;go_simp;exact hK _ _ ⟨.slice p n cap,rfl,rfl,Ext.refl _⟩
   refine sS2 [(7,some 31),(12,some 36)] (sS2 [(7,some 31),(13,some 37)] ?_);refine sC [(7,some 31),(10,some 34),(14,some 38)] rfl (fun wi hx=> ?_) ?_
   ·intro v7 h7 r d ae j K hK;obtain rfl:=h7;obtain rfl:=d;obtain rfl:=j;go_wp2_with fail;refine(HI _).mono ?_;rintro e w5 ⟨rfl,rfl⟩;go_simp;exact hK _ _ ⟨.bool true,rfl,rfl,Ext.refl _⟩
   exact sS2 [(7,some 31),(15,some 39)] (sS1 [(16,some 40)] StepsL.nil)
  case fin=>intro wi hx v0 h0 v1 h1 v2 h2 v3 h3 v4 h4 v5 h5 v6 h6 v7 h7 v8 h8 v9 h9 r d s f aj v ak z ae j al aa am ab an ad;subst h0 h1 h2 h3 h4 h5 h6 h7 h8 h9;obtain rfl:=d;obtain rfl:=f;obtain rfl:=v;obtain rfl:=z;obtain rfl:=j;obtain rfl:=aa;obtain rfl:=ab;obtain rfl:=ad;refine wpAny_done (by kernel_rfl) ?_ _;go_frame;have g:=hx.of_drew;go_wp2;go_ret;exact⟨rfl,hE.trans g⟩
end
section
open Go
structure Item where
 adr:Nat→Prop
 ok:World→Prop
structure Item.Good (it:Item) (B:Nat):Prop where
 lt: ∀w,it.ok w→ ∀g,it.adr g→B≤g∧g<w.heap.size
 stay: ∀w w',it.ok w→w.heap.size≤w'.heap.size→(∀g,it.adr g→w'.heap[g]? =w.heap[g]?)→it.ok w'
def aJ (B g:Nat)(t:TypeId)(cs:Array Value):Item:=⟨fun x=>g=x,fun w=>B≤g∧Blk w g t cs⟩
def aI (B:Nat)(e:TypeId)(sz:Nat)(q:OA)(n c:Nat)(xs:List Value):Item:=⟨fun x=>(Value.slice q n c).ownBlock=some x,fun w=>w.ownsRow B e sz (.slice q n c) n xs⟩
theorem aAe (B g:Nat)(t:TypeId)(cs:Array Value):(aJ B g t cs).Good B:=
 ⟨fun w h g' hg=>by obtain rfl:g=g':=hg;exact⟨h.1,h.2.lt⟩,fun w w' h _ hs=>⟨h.1,(hs g rfl).trans h.2⟩⟩
theorem rS {w w':World}{B n sz:Nat}{e:TypeId}{v:Value}{xs:List Value}(h:w.ownsRow B e sz v n xs)(hs: ∀g,v.ownBlock=some g→w'.heap[g]? =w.heap[g]?):w'.ownsRow B e sz v n xs:=by
 refine⟨h.1,?_⟩;rcases h.2 with h2|⟨g,a,b,h1,h3,h4,h5⟩
 ·exact .inl h2
 refine .inr ⟨g,a,b,h1,h3,?_,h5⟩;rw[hs g (by rw[h1];rfl)];exact h4
theorem jY (B:Nat)(e:TypeId)(sz:Nat)(q:OA)(n c:Nat)(xs:List Value):(aI B e sz q n c xs).Good B:=
 ⟨fun w h g hg=>aSl h g hg,fun w w' h _ hs=>rS h hs⟩
theorem eM {w:World}{B B' n sz:Nat}{e:TypeId}{v:Value}{xs:List Value}(h:w.ownsRow B e sz v n xs)(hb:B'≤B):w.ownsRow B' e sz v n xs:=by
 refine⟨h.1,?_⟩;rcases h.2 with h2|⟨g,a,b,e1,c,r⟩
 ·exact .inl h2
 exact .inr ⟨g,a,b,e1,aQy hb c,r⟩
structure RowD where
 q:Option Addr
 n:Nat
 c:Nat
 xs:List Value
abbrev RowD.v (r:RowD):Value:= .slice r.q r.n r.c
def aCe (B:Nat)(eo ei:TypeId)(sz:Nat)(q:OA)(c:Nat)(rows:List RowD)(w:World):Prop:=
 w.ownsRow B eo 1 (.slice q rows.length c) rows.length (rows.map RowD.v)∧ ∀r∈rows,w.ownsRow B ei sz r.v r.n r.xs
def iE (B:Nat)(ei:TypeId)(sz:Nat)(rows:List RowD):Item:=⟨fun x=> ∃r∈rows,r.v.ownBlock=some x,fun w=> ∀r∈rows,w.ownsRow B ei sz r.v r.n r.xs⟩
theorem wF (B:Nat)(ei:TypeId)(sz:Nat)(rows:List RowD):(iE B ei sz rows).Good B:=
 ⟨fun w h g ⟨r,hr,hg⟩=>aSl (h r hr) g hg,fun w w' h _ hs r hr=>rS (h r hr) (fun g hg=>hs g ⟨r,hr,hg⟩)⟩
def qJ (B:Nat)(eo ei:TypeId)(sz:Nat)(q:OA)(c:Nat)(rows:List RowD):Item:=⟨fun x=>(Value.slice q rows.length c).ownBlock=some x∨ ∃r∈rows,r.v.ownBlock=some x,aCe B eo ei sz q c rows⟩
theorem aG6 (B:Nat)(eo ei:TypeId)(sz:Nat)(q:OA)(c:Nat)(rows:List RowD):(qJ B eo ei sz q c rows).Good B:=
 ⟨fun w h g hg=>by
  rcases hg with hg|⟨r,hr,hg⟩
  ·exact aSl h.1 g hg
  ·exact aSl (h.2 r hr) g hg,
  fun w w' h _ hs=>⟨rS h.1 (fun g hg=>hs g (.inl hg)),fun r hr=>rS (h.2 r hr) (fun g hg=>hs g (.inr ⟨r,hr,hg⟩))⟩⟩
structure Mem (w0 w:World) (L:List Item):Prop where
 ext:Ext w0 w
 good: ∀it∈L,it.Good w0.heap.size
 ok: ∀it∈L,it.ok w
 apart:L.Pairwise (fun a b=> ∀g,a.adr g→ ¬b.adr g)
section
variable {w0 w w':World} {L:List Item}
theorem Mem.start (w:World):Mem w w []:=⟨Ext.refl w,fun _ h=>absurd h (by simp),fun _ h=>absurd h (by simp),List.Pairwise.nil⟩
theorem Mem.of (h:Ext w0 w):Mem w0 w []:=⟨h,fun _ h=>absurd h (by simp),fun _ h=>absurd h (by simp),List.Pairwise.nil⟩
theorem Mem.adv (h:Mem w0 w L)(hx:Ext w w'):Mem w0 w' L:=
 ⟨h.ext.trans hx,h.good,fun it hi=>(h.good it hi).stay w w' (h.ok it hi) hx.sz (fun g hg=>hx.block g ((h.good it hi).lt w (h.ok it hi) g hg).2),h.apart⟩
theorem Mem.cons {it:Item}(h:Mem w0 w L)(hg:it.Good w0)(ho:it.ok w)(hn: ∀g,it.adr g→ ∀j∈L,¬j.adr g):Mem w0 w (it::L):=
 ⟨h.ext,fun x hx=>by
  rcases aR5.1 hx with rfl|hx
  ·exact hg
  ·exact h.good x hx,fun x hx=>by
  rcases aR5.1 hx with rfl|hx
  ·exact ho
  ·exact h.ok x hx,List.Pairwise.cons (fun j hj g hg'=>hn g hg' j hj) h.apart⟩
theorem Mem.new {it:Item}(h:Mem w0 w L)(hx:Ext w w')(hg:it.Good w0)(ho:it.ok w')(hn: ∀g,it.adr g→w.heap.size≤g):Mem w0 w' (it::L):=by refine(h.adv hx).cons hg ho (fun g hg' j hj e=> ?_);have h1:=hn g hg';have h2:=((h.good j hj).lt w (h.ok j hj) g e).2;omega
theorem Mem.blkOf {g:Nat}{t:TypeId}{cs:Array Value}(h:Mem w0 w L)(hx:Ext w w')(hb:Blk w' g t cs)(hg:w.heap.size≤g):Mem w0 w' (aJ w0 g t cs::L):=
 h.new hx (aAe _ _ _ _) ⟨aQy h.ext.sz hg,hb⟩ (fun g' hg'=>by obtain rfl:g=g':=hg';exact hg)
theorem Mem.blkNew (h:Mem w0 w L)(t:TypeId)(cs:Array Value)(g:Nat)(hg:w.heap.size=g):Mem w0 (w.alloc (.cells cs t)) (aJ w0 g t cs::L):=by subst hg;exact h.blkOf ((Ext.refl w).alloc _) (Blk.new _ _ _) (aQn _)
theorem Mem.ownNew {b n c sz:Nat}{e:TypeId}{q:OA}{xs:List Value}(h:Mem w0 w L)(hx:Ext w w')(ho:w'.ownsRow b e sz (.slice q n c) n xs)(hb:w.heap.size≤b):Mem w0 w' (aI w0 e sz q n c xs::L):=
 h.new hx (jY _ _ _ _ _ _ _) (eM ho (aQy h.ext.sz hb)) (fun g hg=>aQy hb (aSl ho g hg).1)
theorem Mem.blkOwn {b n c sz g:Nat}{e t:TypeId}{q:OA}{xs:List Value}{cs:Array Value}(h:Mem w0 w L)(hx:Ext w w')(hb:Blk w' g t cs)(hg:w.heap.size≤g)(ho:w'.ownsRow b e sz (.slice q n c) n xs)(d:w.heap.size≤b)(ht:e≠t):Mem w0 w' (aI w0 e sz q n c xs::aJ w0 g t cs::L):=by
 refine(h.blkOf hx hb hg).cons (jY _ _ _ _ _ _ _) (eM ho (aQy h.ext.sz d)) (fun g' hg' j hj e'=> ?_);replace hg':(Value.slice q n c).ownBlock=some g':=hg';have h1:=(aSl ho g' hg').1;rcases aR5.1 hj with rfl|hj
 ·obtain rfl:g=g':=e';rcases ho.2 with⟨h2,_⟩|⟨g2,cap',cur,h2,_,h3,_⟩
  ·rw[h2]at hg';cases hg'
  rw[h2]at hg';injection hg' with hg';have a:g2=g:=hg';subst a;unfold Blk at hb;rw[hb]at h3;injection h3 with h3;injection h3 with _ h3;exact ht h3.symm
 have h2:=((h.good j hj).lt w (h.ok j hj) g' e').2;omega
theorem Mem.call {n c sz:Nat}{e:TypeId}{q:OA}{xs:List Value}(h:Mem w0 w L)(hx:Ext w w')(ho:w'.ownsRow w e sz (.slice q n c) n xs):Mem w0 w' (aI w0 e sz q n c xs::L):=h.ownNew hx ho (aQn _)
theorem Mem.nestNew {b c sz:Nat}{eo ei:TypeId}{q:OA}{rows:List RowD}(h:Mem w0 w L)(hx:Ext w w')(ho:aCe b eo ei sz q c rows w')(hb:w.heap.size≤b):Mem w0 w' (qJ w0 eo ei sz q c rows::L):=
 h.new hx (aG6 _ _ _ _ _ _ _) ⟨eM ho.1 (aQy h.ext.sz hb),fun r hr=>eM (ho.2 r hr) (aQy h.ext.sz hb)⟩ (fun g hg=>by
  rcases hg with hg|⟨r,hr,hg⟩
  ·exact aQy hb (aSl ho.1 g hg).1
  ·exact aQy hb (aSl (ho.2 r hr) g hg).1)
theorem Mem.made0 (h:Mem w0 w L)(e:TypeId)(sz g:Nat)(hg:w.heap.size=g):Mem w0 (w.alloc (.cells #[] e)) (aI w0 e sz (some ⟨g,0,none⟩) 0 0 []::L):=by subst hg;exact h.ownNew ((Ext.refl w).alloc _) (aRu (base:=w.heap.size) w #[] 0 (aQn _) (by simp[maxLen]) (by simp)) (aQn _)
theorem aOe {w:World}{e:TypeId}{sz g n:Nat}{cs:Array Value}{B:Nat}(h:Blk w g e cs)(hn:cs.size=n*sz)(hm:n≤maxLen)(hb:B≤g):w.ownsRow B e sz (.slice (some ⟨g,0,none⟩) n n) n cs.toList:=
 ⟨by simpa using hn,.inr ⟨g,n,cs,rfl,hb,h,aQn _,hm,hn,by rw[aQu (by simp;omega)]⟩⟩
theorem Mem.lit (h:Mem w0 w L)(e:TypeId)(sz n g:Nat)(cs:Array Value)(hg:w.heap.size=g)(hn:cs.size=n*sz)(hm:n≤maxLen):Mem w0 (w.alloc (.cells cs e)) (aI w0 e sz (some ⟨g,0,none⟩) n n cs.toList::L):=by subst hg;exact h.ownNew ((Ext.refl w).alloc _) (aOe (Blk.new w e cs) hn hm (aQn _)) (aQn _)
theorem Mem.blk {i g B:Nat}{t:TypeId}{cs:Array Value}(h:Mem w0 w L)(hi:L[i]? =some (aJ B g t cs)):Blk w g t cs:=(h.ok _ (aQq hi)).2
theorem Mem.own {i B n c sz:Nat}{e:TypeId}{q:OA}{xs:List Value}(h:Mem w0 w L)(hi:L[i]? =some (aI B e sz q n c xs)):w.ownsRow B e sz (.slice q n c) n xs:=h.ok _ (aQq hi)
theorem Mem.nest {i B c sz:Nat}{eo ei:TypeId}{q:OA}{rows:List RowD}(h:Mem w0 w L)(hi:L[i]? =some (qJ B eo ei sz q c rows)):aCe B eo ei sz q c rows w:=h.ok _ (aQq hi)
theorem Mem.sl {i B n c sz:Nat}{e:TypeId}{q:OA}{xs:List Value}(h:Mem w0 w L)(hi:L[i]? =some (aI B e sz q n c xs)):Sl w q n c sz xs:=Sl.own (h.own hi)
theorem Mem.lt {i g:Nat}{it:Item}(h:Mem w0 w L)(hi:L[i]? =some it) (hg:it.adr g):w0.heap.size≤g∧g<w.heap.size:=(h.good _ (aQq hi)).lt w (h.ok _ (aQq hi)) g hg
theorem Mem.ne {i j g g':Nat}{a b:Item}(h:Mem w0 w L)(c:i<j)(hi:L[i]? =some a) (hj:L[j]? =some b) (ha:a.adr g) (hb:b.adr g'):g≠g':=by rintro rfl;obtain⟨d,rfl⟩:=aQr.1 hi;obtain⟨e,rfl⟩:=aQr.1 hj;exact List.pairwise_iff_getElem.1 h.apart i j d e c g ha hb
theorem Mem.sub {L':List Item}(h:Mem w0 w L)(hs:L'.Sublist L):Mem w0 w L':=
 ⟨h.ext,fun x hx=>h.good x (hs.subset hx),fun x hx=>h.ok x (hs.subset hx),h.apart.sublist hs⟩
theorem Mem.far {i j:Nat}{a b:Item}(h:Mem w0 w L)(d:i≠j)(hi:L[i]? =some a) (hj:L[j]? =some b): ∀g,a.adr g→ ¬b.adr g:=by
 intro g ha hb;rcases Nat.lt_or_gt_of_ne d with e|c
 ·exact h.ne e hi hj ha hb rfl
 exact h.ne c hj hi hb ha rfl
theorem Mem.pick {L':List Item}(h:Mem w0 w L)(is:List Nat)(hd:is.Nodup)(hl:is.map (fun i=>L[i]?)=L'.map some):Mem w0 w L':=by
 have f:is.length=L'.length:=by have:=congrArg List.length hl;simpa using this
 have d: ∀k,(hk:k<L'.length)→L[is[k]'(by omega)]? =some L'[k]:=by intro k hk;have:=congrArg (fun z=>z[k]?) hl;simp only[aR6]at this;rw[aQo (by omega:k<is.length),aQo hk]at this;simpa using this
 have c: ∀x∈L',x∈L:=fun x hx=>by obtain⟨k,hk,rfl⟩:=aS2 hx;exact aQq (d k hk)
 refine⟨h.ext,fun x hx=>h.good x (c x hx),fun x hx=>h.ok x (c x hx),List.pairwise_iff_getElem.2 fun a b ha hb hab=> ?_⟩
 exact h.far (fun e=>by
  have:=(List.getElem_inj hd).1 e
  omega) (d a ha) (d b hb)
theorem Mem.join {a b it:Item}(h:Mem w0 w (a::b::L))(hg:it.Good w0)(ho:it.ok w)(hn: ∀g,it.adr g→a.adr g∨b.adr g):Mem w0 w (it::L):=by
 have hp:=List.pairwise_cons.1 h.apart;have c:=List.pairwise_cons.1 hp.2;have h2:Mem w0 w L:=⟨h.ext,fun x hx=>h.good x (by simp[hx]),fun x hx=>h.ok x (by simp[hx]),c.2⟩
 refine h2.cons hg ho (fun g hg' j hj=> ?_);rcases hn g hg' with h3|h3
 ·exact hp.1 j (by simp[hj]) g h3
 exact c.1 j hj g h3
theorem Mem.rowsAdd {B sz c n:Nat}{e:TypeId}{q:OA}{xs:List Value}{rows:List RowD}(hB:B=w0.heap.size)(h:Mem w0 w (aI B e sz q n c xs::iE B e sz rows::L)):Mem w0 w (iE B e sz (rows++ [⟨q,n,c,xs⟩])::L):=by
 subst hB;refine h.join (wF _ _ _ _) (fun r hr=> ?_) (fun g ⟨r,hr,hg⟩=> ?_)
 ·rcases aR7.1 hr with hr|hr
  ·exact h.ok (iE w0 e sz rows) (by simp) r hr
  obtain rfl:=aRd.1 hr;exact h.own (i:=0) rfl
 rcases aR7.1 hr with hr|hr
 ·exact .inr ⟨r,hr,hg⟩
 obtain rfl:=aRd.1 hr;exact .inl hg
theorem Mem.rows0 {B sz:Nat}{e:TypeId}(hB:B=w0.heap.size)(h:Mem w0 w L):Mem w0 w (iE B e sz []::L):=by subst hB;exact h.cons (wF _ _ _ _) (fun r hr=>by cases hr) (fun g ⟨r,hr,hg⟩=>by cases hr)
theorem Mem.turn {i:Nat}{it d:Item}{row:Option Nat}(h:Mem w0 w L)(hi:L[i]? =some it) (hr: ∀g,row=some g→it.adr g) (hg:d.Good w0) (c:w.grownBy w' row) (ho:d.ok w') (o: ∀g,d.adr g→it.adr g∨g=w.heap.size):Mem w0 w' (L.set i d):=by
 obtain⟨q,p⟩:=aQr.1 hi;have f:=aQq hi;have m: ∀j,(hj:j<L.length)→j≠i→ ∀g,L[j].adr g→ ¬it.adr g:=by intro j hj l g hg' e;exact h.far l (aQo hj) hi g hg' e
 have hE:Ext w0 w':=h.ext.grown c (fun k hk=>((h.good it f).lt w (h.ok it f) k (hr k hk)).1);refine⟨hE,fun x hx=> ?_,fun x hx=> ?_,?_⟩
 ·rcases aRy hx with hx|rfl
  ·exact h.good x hx
  exact hg
 ·obtain⟨j,hj,rfl⟩:=aS2 hx;rw[aS8]at hj;by_cases hji:i=j
  ·subst hji;rw[List.getElem_set_self];exact ho
  rw[List.getElem_set_ne hji];have hm:=List.getElem_mem hj;refine(h.good _ hm).stay w w' (h.ok _ hm) c.size (fun g hg'=> ?_);exact c.block g ((h.good _ hm).lt w (h.ok _ hm) g hg').2 (fun e=>m j hj (Ne.symm hji) g hg' (hr g e.symm))
 refine List.pairwise_iff_getElem.2 fun a b ha hb hab g hga hgb=> ?_
 rw[aS8]at ha hb;have n: ∀j,(hj:j<L.length)→j≠i→ ∀g,L[j].adr g→ ¬d.adr g:=by
  intro j hj l g hg' e;have hm:=List.getElem_mem hj;rcases o g e with h1|h1
  ·exact m j hj l g hg' h1
  have:=((h.good _ hm).lt w (h.ok _ hm) g hg').2;omega
 by_cases hai:i=a
 ·subst hai;rw[List.getElem_set_self]at hga;rw[List.getElem_set_ne (by omega)]at hgb;exact n b hb (by omega) g hgb hga
 rw[List.getElem_set_ne hai]at hga;by_cases hbi:i=b
 ·subst hbi;rw[List.getElem_set_self]at hgb;exact n a ha (by omega) g hga hgb
 rw[List.getElem_set_ne hbi]at hgb;exact List.pairwise_iff_getElem.1 h.apart a b ha hb hab g hga hgb
theorem aA1 (w:World)(g k:Nat)(u:Value):w.grownBy (w.setCell ⟨g,k,none⟩ u) (some g):=
 ((ExtR.refl g w).setCell (p:=⟨g,k,none⟩) (.inl rfl) u:ExtR g w _)
theorem Mem.store {i g B:Nat}{t:TypeId}{cs:Array Value}(h:Mem w0 w L)(hi:L[i]? =some (aJ B g t cs)) (k:Nat) (u:Value):Mem w0 (w.setCell ⟨g,k,none⟩ u) (L.set i (aJ w0 g t (cs.setIfInBounds k u))):=
 h.turn hi (fun g' e=>by injection e) (aAe _ _ _ _) (aA1 w g k u) ⟨(h.lt hi rfl).1,(h.blk hi).set k u⟩ (fun g' e=> .inl e)
theorem Mem.ostore {i g n c sz:Nat}{e:TypeId}{xs:List Value}(h:Mem w0 w L)(hi:L[i]? =some (aI w0 e sz (some ⟨g,0,none⟩) n c xs)) (k:Nat) (u:Value):Mem w0 (w.setCell ⟨g,k,none⟩ u) (L.set i (aI w0 e sz (some ⟨g,0,none⟩) n c (xs.set k u))):=
 h.turn hi (fun g' e=>e) (jY _ _ _ _ _ _ _) (aA1 w g k u) ((h.own hi).stored k u).1 (fun g' e=> .inl e)
theorem Mem.app {i n c sz n' c':Nat}{e:TypeId}{q q':OA}{xs a:List Value}(h:Mem w0 w L)(hi:L[i]? =some (aI w0 e sz q n c xs)) (ho:w'.ownsRow w0 e sz (.slice q' n' c') n' a) (hg:w.grownBy w' (Value.slice q n c).ownBlock)
  (b:(Value.slice q' n' c').ownBlock=(Value.slice q n c).ownBlock∨(Value.slice q' n' c').ownBlock=some w):Mem w0 w' (L.set i (aI w0 e sz q' n' c' a)):=
 h.turn hi (fun g e=>e) (jY _ _ _ _ _ _ _) hg ho (fun g e=>by
  have e':(Value.slice q' n' c').ownBlock=some g:=e;rcases b with h1|h1
  ·exact .inl (by show(Value.slice q n c).ownBlock=some g;rw[←h1];exact e')
  ·rw[h1]at e';injection e' with e';exact .inr e'.symm)
theorem Mem.some {i n c sz B:Nat}{e:TypeId}{q:OA}{xs:List Value}(h:Mem w0 w L)(hi:L[i]? =Option.some (aI B e sz q n c xs)) (hn:0<n): ∃g,q=Option.some ⟨g,0,none⟩∧w0.heap.size≤g∧g<w.heap.size:=by
 rcases(h.own hi).2 with⟨h1,h2⟩|⟨g,cap',cur,h1,h3⟩
 ·omega
 injection h1 with e1 e2 e3;subst e1;have:=h.lt hi (g:=g) rfl;exact⟨g,rfl,this.1,this.2⟩
end
section
variable {P:Program} {w0 w:World} {L:List Item} {ops:Array Oper} {rest:List Oper} {o:Oper} {a:Act} {Q:Exit→Act→World→Prop}
theorem aD8 (w:World){t e ty:TypeId}{sz:Nat}(E:ElT P t e sz){i:Nat}{q:OA}{n c:Nat}{xs:List Value}(h:Mem w0 w L)(hi:L[i]? =some (aI w0 e sz q n c xs))
  (p:OA) (m d:Nat) (news:List Value) (hs:Sl w p m d sz news) (h1: ∀u∈news,u.oneCell'=true) (hn:n+m≤1099511627776):
  ∃q' c' w',(Builtin.append_ #[t,t] ty #[.slice q n c,.slice p m d]).run P w= .ok (.slice q' (n+m) c') w'∧Mem w0 w' (L.set i (aI w0 e sz q' (n+m) c' (xs++news))):=by
 obtain⟨l,z,a,hz,aa,v,ab⟩:=E.info;have f:=h.own hi;have r: ∀ad:Addr,p=some ad∨m=0→(∀j u,news[j]? =some u→w.cell? (ad.add j)=some u)→ ∃q' c' w',(Builtin.append_ #[t,t] ty #[.slice q n c,.slice (some ad) m d]).run P w= .ok (.slice q' (n+m) c') w'∧Mem w0 w' (L.set i (aI w0 e sz q' (n+m) c' (xs++news))):=by
  intro ad _ k;have s:(n+m)*l.bytes≤140737488355328:=by have:(n+m)*l.bytes≤(n+m)*64:=Nat.mul_le_mul_left _ v;omega
  obtain⟨v',w',o,h2,h3,_,h5⟩:=run_append_own_at (P:=P) w w0 t ty e l z sz l.bytes E.ht a hz aa rfl ab E.pos (.slice q n c) n xs f ad m d news hs.len k h1 (by unfold maxLen;omega) s h.ext.sz;obtain⟨q',c',rfl⟩:=oQ h2;exact⟨q',c',w',o,h.app hi h2 h3 h5⟩
 by_cases hm:0<m
 ·obtain⟨b,ae,rfl,hb,hc⟩:=hs.rd hm;refine r ⟨b,ae,none⟩ (.inl rfl) (fun j u hu=> ?_);have hj:j<m*sz:=by rw[←hs.len];exact(aQr.1 hu).1
  rw[lW,hc j hj];exact hu
 have x:m=0:=by omega
 subst x;have y:news= []:=List.length_eq_zero_iff.1 (by rw[hs.len];omega);subst y;cases p with
 |some ad=>exact r ad (.inl rfl) (fun j u hu=>by simp at hu)
 |none=>
  refine⟨q,c,w,?_,h.app hi (by simpa using f) (aRt w _) (.inl rfl)⟩;rcases f.2 with⟨h2,h3⟩|⟨g,cap',cur,h2,_,_,hnc,_⟩
  ·injection h2 with e1 e2 e3;subst e1 e2 e3;simp[Builtin.append_,run_underlying E.ht,sizeOf,typeInfo,a,Builtin.lenOf,Builtin.firstCells]
  injection h2 with e1 e2 e3;subst e1 e3;simp[Builtin.append_,run_underlying E.ht,sizeOf,typeInfo,a,Builtin.lenOf,Builtin.firstCells,hnc,storeCells]
theorem aHg {K:Act→World→Prop}{t e:TypeId}{sz:Nat}(E:ElT P t e sz)(s x:Operand)
  (ho:o.op= .call {callee:= .builtin .append,args:=#[s,x],argTypes:=#[t,t]})
  (h:Mem w0 w L)(i:Nat){q:OA}{n c:Nat}{xs:List Value}(hi:L[i]? =some (aI w0 e sz q n c xs)) (hs:a.eval s= .slice q n c)
  {p:OA} {m d:Nat} (news:List Value) (hx:a.eval x= .slice p m d) (hr:Sl w p m d sz news) (h1: ∀u∈news,u.oneCell'=true) (hn:n+m≤1099511627776)
  (hk: ∀q' c' w',Mem w0 w' (L.set i (aI w0 e sz q' (n+m) c' (xs++news)))→K (a.put o.dst (.slice q' (n+m) c')) w'):o.wp P a w K Q:=by
 obtain⟨q',c',w',b,h2⟩:=aD8 (P:=P) (ty:=o.type) w E h hi p m d news hr h1 hn;unfold Oper.wp execOp;simp only[ho,resolve,invoke,builtin,Sem.run_bind,Sem.run_pure,Result.andThen_ok,List.map_toArray,aSk,List.map_nil,hs,hx,b];exact hk q' c' w' h2
theorem cH {t e:TypeId}{sz:Nat}(E:ElT P t e sz)(b:o.guard=none)(s x:Operand)
  (ho:o.op= .call {callee:= .builtin .append,args:=#[s,x],argTypes:=#[t,t]})
  (h:Mem w0 w L)(i:Nat){q:OA}{n c:Nat}{xs:List Value}(hi:L[i]? =some (aI w0 e sz q n c xs)) (hs:a.eval s= .slice q n c)
  {p:OA} {m d:Nat} (news:List Value) (hx:a.eval x= .slice p m d) (hr:Sl w p m d sz news) (h1: ∀u∈news,u.oneCell'=true) (hn:n+m≤1099511627776)
  (hk: ∀q' c' w',Mem w0 w' (L.set i (aI w0 e sz q' (n+m) c' (xs++news)))→wpList P ops Q rest (a.put o.dst (.slice q' (n+m) c')) w'):wpList P ops Q (o::rest) a w:=
 wpList_plain b fun _ hK=>aHg E s x ho h i hi hs news hx hr h1 hn fun q' c' w' h2=>hK _ _ (hk q' c' w' h2)
theorem fZ {K:Act→World→Prop}{E0:Prop}{t e:TypeId}{sz:Nat}(E:ElT P t e sz)(b:o.guard=none)(s x:Operand)
  (ho:o.op= .call {callee:= .builtin .append,args:=#[s,x],argTypes:=#[t,t]})
  (h:Mem w0 w L)(i:Nat){q:OA}{n c:Nat}{xs:List Value}(hi:L[i]? =some (aI w0 e sz q n c xs)) (hs:a.eval s= .slice q n c)
  {p:OA} {m d:Nat} (news:List Value) (hx:a.eval x= .slice p m d) (hr:Sl w p m d sz news) (h1: ∀u∈news,u.oneCell'=true) (hn:n+m≤1099511627776)
  (hk: ∀q' c' w',Mem w0 w' (L.set i (aI w0 e sz q' (n+m) c' (xs++news)))→K (a.put o.dst (.slice q' (n+m) c')) w'):
  if Region.wanted o (yielded ops a.tmps)=true then Oper.wp P o a w K Q else E0:=by
 have hw:Region.wanted o (yielded ops a.tmps)=true:=by simp[Region.wanted,b]
 rw[if_pos hw];exact aHg E s x ho h i hi hs news hx hr h1 hn hk
end
theorem eH (w:World)(cs:Array Value)(t:TypeId)(n sz g:Nat)(hg:w.heap.size=g)(h:cs.size=n*sz)(hn:n≤maxLen):Sl (w.alloc (.cells cs t)) (some ⟨g,0,none⟩) n n sz cs.toList:=by subst hg;exact⟨by simpa using h,aQn _,hn,fun _=>⟨w.heap.size,0,rfl,by simp,fun k hk=>by rw[aRq,(Blk.new w t cs).cell k];simp⟩⟩
theorem Mem.st {w0 w:World}{L L':List Item}{g B:Nat}{t:TypeId}{cs a:Array Value}(h:Mem w0 w L)(i k:Nat)(u:Value)(hi:L[i]? =Option.some (aJ B g t cs):=by exact rfl) (hc:cs.setIfInBounds k u=a:=by first|(simp only[aR1,aQz,aR0];exact rfl)|exact rfl) (hl:L.set i (aJ w0 g t a)=L':=by first|(simp only[aQz,aR0];exact rfl)|exact rfl):Mem w0 (w.setCell ⟨g,k,none⟩ u) L':=by subst hc hl;exact h.store hi k u
theorem Mem.hi {w0 w:World}{L:List Item}(h:Mem w0 w L)(i:Nat){g:Nat}{it:Item}(hi:L[i]? =Option.some it:=by exact rfl) (hg:it.adr g:=by exact rfl):g<w.heap.size:=(h.lt hi hg).2
theorem Mem.b1 (w:World){t0:TypeId}{c0:Array Value}:Mem w (w.alloc (.cells c0 t0)) [aJ w w t0 c0]:=(Mem.start w).blkNew t0 c0 w (by simp)
theorem Mem.b2 (w:World){t0 t1:TypeId}{c0 c1:Array Value}:Mem w ((w.alloc (.cells c0 t0)).alloc (.cells c1 t1)) [aJ w (w.heap.size+1) t1 c1,aJ w w t0 c0]:=((Mem.start w).blkNew t0 c0 w (by simp)).blkNew t1 c1 (w.heap.size+1) (by simp)
theorem Mem.b3 (w:World){t0 t1 t2:TypeId}{c0 c1 c2:Array Value}:Mem w (((w.alloc (.cells c0 t0)).alloc (.cells c1 t1)).alloc (.cells c2 t2)) [aJ w (w.heap.size+1+1) t2 c2,aJ w (w.heap.size+1) t1 c1,aJ w w t0 c0]:=(((Mem.start w).blkNew t0 c0 w (by simp)).blkNew t1 c1 (w.heap.size+1) (by simp)).blkNew t2 c2 (w.heap.size+1+1) (by simp)
theorem Mem.b3t (w:World){t0 t1 t2:TypeId}{c0 c1 c2:Array Value}:Mem w (((w.alloc (.cells c0 t0)).alloc (.cells c1 t1)).alloc (.cells c2 t2)) [aJ w (w.heap.size+2) t2 c2,aJ w (w.heap.size+1) t1 c1,aJ w w t0 c0]:=(((Mem.start w).blkNew t0 c0 w (by simp)).blkNew t1 c1 (w.heap.size+1) (by simp)).blkNew t2 c2 (w.heap.size+2) (by simp)
theorem Mem.b4 (w:World){t0 t1 t2 t3:TypeId}{c0 c1 c2 c3:Array Value}:Mem w ((((w.alloc (.cells c0 t0)).alloc (.cells c1 t1)).alloc (.cells c2 t2)).alloc (.cells c3 t3)) [aJ w (w.heap.size+1+1+1) t3 c3,aJ w (w.heap.size+1+1) t2 c2,aJ w (w.heap.size+1) t1 c1,aJ w w t0 c0]:=((((Mem.start w).blkNew t0 c0 w (by simp)).blkNew t1 c1 (w.heap.size+1) (by simp)).blkNew t2 c2 (w.heap.size+1+1) (by simp)).blkNew t3 c3 (w.heap.size+1+1+1) (by simp)
theorem Mem.b4t (w:World){t0 t1 t2 t3:TypeId}{c0 c1 c2 c3:Array Value}:Mem w ((((w.alloc (.cells c0 t0)).alloc (.cells c1 t1)).alloc (.cells c2 t2)).alloc (.cells c3 t3)) [aJ w (w.heap.size+3) t3 c3,aJ w (w.heap.size+2) t2 c2,aJ w (w.heap.size+1) t1 c1,aJ w w t0 c0]:=((((Mem.start w).blkNew t0 c0 w (by simp)).blkNew t1 c1 (w.heap.size+1) (by simp)).blkNew t2 c2 (w.heap.size+2) (by simp)).blkNew t3 c3 (w.heap.size+3) (by simp)
theorem Mem.nq {w0 w:World}{L:List Item}(h:Mem w0 w L)(i j:Nat){g g':Nat}{a b:Item}(c:i<j:=by omega)(hi:L[i]? =Option.some a:=by exact rfl) (hj:L[j]? =Option.some b:=by exact rfl) (ha:a.adr g:=by exact rfl) (hb:b.adr g':=by exact rfl): ¬g=g'∧ ¬g'=g:=⟨h.ne c hi hj ha hb,fun e=>h.ne c hi hj ha hb e.symm⟩
theorem Mem.bk {w0 w:World}{L:List Item}(h:Mem w0 w L)(i:Nat){g B:Nat}{t:TypeId}{cs:Array Value}(hi:L[i]? =Option.some (aJ B g t cs):=by exact rfl):Blk w g t cs:=h.blk hi
theorem Mem.ow {w0 w:World}{L:List Item}(h:Mem w0 w L)(i:Nat){B n c sz:Nat}{e:TypeId}{q:OA}{xs:List Value}(hi:L[i]? =Option.some (aI B e sz q n c xs):=by exact rfl):w.ownsRow B e sz (.slice q n c) n xs:=h.own hi
theorem Mem.sq {w0 w:World}{L:List Item}(h:Mem w0 w L)(i:Nat){B n c sz:Nat}{e:TypeId}{q:OA}{xs:List Value}(hi:L[i]? =Option.some (aI B e sz q n c xs):=by exact rfl):Sl w q n c sz xs:=h.sl hi
theorem Mem.so {w0 w:World}{L:List Item}(h:Mem w0 w L)(i:Nat){n c sz B:Nat}{e:TypeId}{q:OA}{xs:List Value}(hi:L[i]? =Option.some (aI B e sz q n c xs):=by exact rfl) (hn:0<n:=by omega): ∃g,q=Option.some ⟨g,0,none⟩∧w0.heap.size≤g∧g<w.heap.size:=h.some hi hn
theorem Mem.bn {w0 w:World}{L:List Item}(h:Mem w0 w L)(t:TypeId)(cs:Array Value)(g:Nat)(hg:w.heap.size=g:=by first|exact rfl|simp):Mem w0 (w.alloc (.cells cs t)) (aJ w0 g t cs::L):=h.blkNew t cs g hg
theorem Mem.c0 {w0 v:World}{L:List Item}(h:Mem w0 v L)(t:TypeId)(cs:Array Value):Mem w0 (v.alloc (.cells cs t)) (aJ w0 v t cs::L):=h.blkNew t cs _ rfl
theorem Mem.c1 {w0 v:World}{o:Obj}{L:List Item}(h:Mem w0 (v.alloc o) L)(t:TypeId)(cs:Array Value):Mem w0 ((v.alloc o).alloc (.cells cs t)) (aJ w0 (v.heap.size+1) t cs::L):=h.blkNew t cs _ (by simp)
theorem Mem.c2 {w0 v:World}{o o':Obj}{L:List Item}(h:Mem w0 ((v.alloc o).alloc o') L)(t:TypeId)(cs:Array Value):Mem w0 (((v.alloc o).alloc o').alloc (.cells cs t)) (aJ w0 (v.heap.size+1+1) t cs::L):=h.blkNew t cs _ (by simp)
theorem Mem.st1 {P:Program}{f:FuncId}{s:Array Value}{w0 w:World}{L:List Item}{v:Value}{K:Ending→World→Prop}(M:Mem w0 w L)(H:Mem w0 w L→Calls P f s w (O v w))(k: ∀w',Mem w0 w' L→K (.returned v) w'):Calls P f s w K:=(H M).mono (by rintro e w' ⟨rfl,hx⟩;exact k w' (M.adv hx))
theorem Mem.st2 {P:Program}{f:FuncId}{s:Array Value}{w0 w:World}{L:List Item}{F:OA→Nat→Value}{ty:TypeId}{n sz:Nat}{xs:List Value}{K:Ending→World→Prop}(M:Mem w0 w L)(H:Mem w0 w L→Calls P f s w fun e w'=> ∃q c,e= .returned (F q c)∧w'.ownsRow w ty sz (.slice q n c) n xs∧Ext w w')(k: ∀w' q c,Mem w0 w' (aI w0 ty sz q n c xs::L)→K (.returned (F q c)) w'):Calls P f s w K:=(H M).mono (by rintro e w' ⟨q,c,rfl,ho,hx⟩;exact k w' q c (M.call hx ho))
end
end Go.Proofs.YtbgkcehffiogcacGreatDoor
