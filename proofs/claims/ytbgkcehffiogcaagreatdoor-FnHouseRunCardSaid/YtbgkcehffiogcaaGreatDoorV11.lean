/-
  Texts of this proof, packed (@packed).
-/
import Derived.Test.YtbgkcehffiogcaaGreatDoorV4
import Derived.Test.YtbgkcehffiogcaaGreatDoorV10
namespace Go.Proofs.YtbgkcehffiogcaaGreatDoor
open Go.RowKit
set_option linter.unusedSimpArgs false
set_option linter.unusedVariables false
set_option maxHeartbeats 8000000
set_option maxRecDepth 100000
def bW:List Int→Nat→List Nat→List Int×List Sl2
 |xs,_,[]=>(xs,[])
 |xs,a,b::l=>if xs.getD b 0=0 then bW xs b l else((bW ((xs.set a (xs.getD b 0)).set b 0) b l).1,((b:Int),(a:Int))::(bW ((xs.set a (xs.getD b 0)).set b 0) b l).2)
theorem oO {xs:List Int}{a b:Nat}{l:List Nat}(h:xs.getD b 0=0):bW xs a (b::l)=bW xs b l:=by rw[bW,if_pos h]
theorem mX {xs:List Int}{a b:Nat}{l:List Nat}(h: ¬xs.getD b 0=0):bW xs a (b::l)=((bW ((xs.set a (xs.getD b 0)).set b 0) b l).1,((b:Int),(a:Int))::(bW ((xs.set a (xs.getD b 0)).set b 0) b l).2):=by rw[bW,if_neg h]
def lQ (aA:Int)(n:Nat):Nat→List Nat→Prop
 |_,[]=>True
 |a,b::l=>b∈aR aA n a∧lQ aA n b l
theorem cC {aA aB:Int}{xs:List Int}(h:aN aA aB xs=true):fC aA aB xs.length=true:=by unfold aN at h;rw[aKg]at h;exact h.1
theorem mZ {aA aB:Int}{xs:List Int}(h:aN aA aB xs=true)(b:Nat):0≤xs.getD b 0:=by
 unfold aN at h;rw[aKg]at h;have h1:=((eP _ _).1 h.2).1;rw[aK6];cases hx:xs[b]? with
 |none=>simp
 |some x=>exact(h1 x (aK5 hx)).1
theorem zO {aA aB:Int}{xs:List Int}{a b:Nat}(h:aN aA aB xs=true)(ha:a<xs.length)(h0:xs.getD a 0=0)(hb:b∈aR aA xs.length a):aX aA aB xs (b:Int) (a:Int)=decide (0<xs.getD b 0):=by
 obtain⟨h1,h2⟩:=bM.1 hb;have h3:cS aA aB xs (b:Int) (a:Int)=1:=by unfold cS;rw[if_pos ⟨h,⟨by omega,by omega⟩,by omega,by omega⟩,tV];exact h2
 unfold aX;rw[h3];simp only[aLm,h0];simp
theorem xA {aA aB:Int}{xs:List Int}{a b:Nat}(h:aN aA aB xs=true)(ha:a<xs.length)(h0:xs.getD a 0=0)(hb:b∈aR aA xs.length a)(hx: ¬xs.getD b 0=0):aX aA aB xs (b:Int) (a:Int)=true∧bD aA aB xs (b:Int) (a:Int)=(xs.set a (xs.getD b 0)).set b 0:=by
 have h1:=zO h ha h0 hb;have h2:decide (0<xs.getD b 0)=true:=by have:=mZ h b;simp only[decide_eq_true_eq];omega
 rw[h2]at h1;exact⟨h1,by unfold bD;rw[if_pos h1];simp only[aLm]⟩
theorem aH4 {aA aB:Int}{xs:List Int}{a b:Nat}(h:aN aA aB xs=true)(ha:a<xs.length)(h0:xs.getD a 0=0)(hb:b∈aR aA xs.length a)(hx:xs.getD b 0=0):aX aA aB xs (b:Int) (a:Int)=false:=by rw[zO h ha h0 hb,hx];rfl
theorem qN {aA aB:Int}{xs:List Int}{a b:Nat}(h:aN aA aB xs=true)(ha:a<xs.length)(h0:xs.getD a 0=0)(hb:b∈aR aA xs.length a)(hx: ¬xs.getD b 0=0):
  aN aA aB ((xs.set a (xs.getD b 0)).set b 0)=true∧((xs.set a (xs.getD b 0)).set b 0).length=xs.length∧((xs.set a (xs.getD b 0)).set b 0).getD b 0=0:=by
 obtain⟨h1,h2⟩:=xA h ha h0 hb hx;refine⟨by rw[←h2];exact gK _ _ h,by simp,?_⟩;have hl:=(bM.1 hb).1;rw[aK6,aK7 (by simp;exact hl)];rfl
theorem uK {aA aB:Int}: ∀(l:List Nat) (xs:List Int) (a:Nat),aN aA aB xs=true→a<xs.length→xs.getD a 0=0→lQ aA xs.length a l→
  aV aA aB xs (bW xs a l).2=((bW xs a l).1,(bW xs a l).2.length)∧aN aA aB (bW xs a l).1=true∧(bW xs a l).1.length=xs.length∧(bW xs a l).2.length≤l.length∧(bW xs a l).1.getD ((a::l).getLast (by simp)) 0=0:=by
 intro l;induction l with
 |nil=>intro xs a h ha h0 _;exact⟨rfl,h,rfl,aK1 _,by simpa[bW]using h0⟩
 |cons b l ih=>
  intro xs a h ha h0 hs;obtain⟨hb,d⟩:=hs;have c:=(bM.1 hb).1;by_cases hx:xs.getD b 0=0
  ·rw[oO hx];obtain⟨i1,i2,i3,i4,i5⟩:=ih xs b h c hx d;exact⟨i1,i2,i3,by simp;omega,by simpa using i5⟩
  obtain⟨n1,n2,n3⟩:=qN h ha h0 hb hx;obtain⟨d1,d2⟩:=xA h ha h0 hb hx;obtain⟨i1,i2,i3,i4,i5⟩:=ih _ b n1 (by rw[n2];exact c) n3 (by rw[n2];exact d);rw[mX hx];refine⟨?_,i2,by rw[i3,n2],by simp only[aLs];omega,by simpa using i5⟩;dsimp only;rw[dR d1,d2,i1];rfl
theorem pW {aA:Int}{n:Nat}(h:(aA,n)∈gZ): ∀(f u:Nat),u<n→lQ aA n u (cM aA n f u).tail:=by
 intro f;induction f with
 |zero=>intro u _;exact trivial
 |succ f ih=>
  intro u hu;unfold cM;by_cases h0:u=0
  ·rw[if_pos h0];exact trivial
  rw[if_neg h0];obtain⟨h1,h2,_⟩:=(bP h hu).2.2.2.1 h0;have:=ih (jV aA n u) h1;have hh:=pX aA n f (jV aA n u);simp only[List.tail_cons];cases hw:cM aA n f (jV aA n u)with
  |nil=>rw[hw]at hh;simp at hh
  |cons x l=>rw[hw]at hh this;simp at hh;subst hh;exact⟨h2,this⟩
theorem sG (aA:Int)(n f u:Nat):cM aA n f u=u::(cM aA n f u).tail:=by
 have hh:=pX aA n f u;cases hw:cM aA n f u with
 |nil=>rw[hw]at hh;simp at hh
 |cons x l=>rw[hw]at hh;simp at hh;subst hh;rfl
theorem aF8 {aA:Int}{n:Nat}(h:(aA,n)∈gZ): ∀(f u:Nat),u<n→aU aA u 0≤f→(cM aA n f u).getLast? =some 0:=by
 intro f;induction f with
 |zero=>intro u hu ha;have g:=bP h hu;have:u=0:=g.2.2.1.1 (by have:=g.1;simp at ha;omega);subst this;rfl
 |succ f ih=>
  intro u hu ha;unfold cM;by_cases h0:u=0
  ·rw[if_pos h0];simp[h0]
  rw[if_neg h0];obtain⟨h1,h2,h3⟩:=(bP h hu).2.2.2.1 h0;have:=ih (jV aA n u) h1 (by rw[h3];simp at ha;omega);rw[List.getLast?_cons,this];rfl
def bG (xs:List Int):List Nat:=(List.range xs.length).filter (cL xs)
theorem tM (xs:List Int):oG xs=(bG xs).map (fun(k:Nat)=>(k:Int)):=by
 unfold oG bG;generalize xs.length=k;induction k with
 |zero=>rfl
 |succ k ih=>rw[aLg,aKy,aLd,eR,ih];congr 1;cases h:cL xs k<;>simp[h]
theorem iT {xs:List Int}{u:Nat}(h:u∈bG xs):u<xs.length∧xs.getD u 0=0:=by unfold bG at h;rw[aKq]at h;refine⟨by simpa using h.1,?_⟩;have h2:=h.2;unfold cL at h2;rw[aK6,eq_of_beq h2];rfl
def lY (aA:Int)(best:Option Nat)(u:Nat):Option Nat:=
 match best with
 |none=>some u
 |some v=>if aU aA u 0<aU aA v 0 then some u else some v
def cO (aA:Int)(l:List Nat):Option Nat:=l.foldl (lY aA) none
theorem wP (aA:Int)(l:List Nat)(u:Nat):cO aA (l++ [u])=lY aA (cO aA l) u:=by simp[cO]
theorem jC (aA:Int)(l:List Nat):(cO aA l=none↔l= [])∧ ∀u,cO aA l=some u→u∈l:=by
 suffices h: ∀(l pre:List Nat) (b:Option Nat),(b=none↔pre= [])→(∀u,b=some u→u∈pre)→((l.foldl (lY aA) b=none↔pre++l= [])∧ ∀u,l.foldl (lY aA) b=some u→u∈pre++l)from by simpa[cO]using h l [] none (by simp) (by simp)
 intro l;induction l with
 |nil=>intro pre b h1 h2;simpa using⟨h1,h2⟩
 |cons x l ih=>
  intro pre b h1 h2
  have:=ih (pre++ [x]) (lY aA b x) (by
   unfold lY;cases b with
   |none=>simp
   |some v=>simp;split<;>simp) (by
   intro u hu;unfold lY at hu;cases b with
   |none=>simp at hu;simp[hu]
   |some v=>
    simp only at hu;split at hu
    ·injection hu with hu;simp[hu]
    ·injection hu with hu;subst hu;exact aKz _ (h2 v rfl))
  simpa using this
def fY (aA:Int)(xs:List Int):Option (List Int×List Sl2):=(cO aA (bG xs)).map (fun u=>bW xs u (cM aA xs.length 12 u).tail)
def kK (aA aB:Int)(xs:List Int)(id:Int):Option (List Int×Nat):=
 match fY aA xs with
 |none=>none
 |some r=>if(cH aA aB r.1 id).2 then some ((cH aA aB r.1 id).1,r.2.length)else none
theorem iS {aA aB:Int}{xs:List Int}(h:aN aA aB xs=true):(aA,xs.length)∈gZ:=by obtain⟨h1,h2,h3,h4,h5,h6,h7⟩:=bZ (cC h);exact oP h1 h2 h3 h4 h7
theorem nD {aA aB:Int}{xs:List Int}(h:aN aA aB xs=true){r:List Int×List Sl2}(hr:fY aA xs=some r):
  aV aA aB xs r.2=(r.1,r.2.length)∧aN aA aB r.1=true∧r.1.length=xs.length∧r.2.length≤5∧r.1.getD 0 0=0:=by
 unfold fY at hr;cases hn:cO aA (bG xs)with
 |none=>rw[hn]at hr;simp at hr
 |some u=>
  rw[hn]at hr;simp at hr;subst hr;obtain⟨hu,h0⟩:=iT ((jC aA _).2 u hn);have hg:=iS h;have g:=bP hg hu;obtain⟨f1,f2,f3,f4,f5⟩:=uK _ xs u h hu h0 (pW hg 12 u hu);have hl:=kW hg 12 u hu (by have:=g.2.1;omega);have hw:=aF8 hg 12 u hu (by have:=g.2.1;omega);refine⟨f1,f2,f3,?_,?_⟩
  ·have:=g.2.1;rw[List.length_tail]at f4;omega
  have hc:=sG aA xs.length 12 u;rw[hc,List.getLast?_eq_some_getLast (by simp)]at hw;injection hw with hw;rw[hw]at f5;exact f5
section
open Go.Proofs.Tryz
theorem aDf (aA aB:Int)(p:OA)(n c:Nat)(b a m c2:Nat)(ws:List Nat)(w:World)(ai:4≤n)(hn:n≤12)(ah:0<m)(hm:m≤12)(j:Hid (ws.length=m))(hb:b<w.heap.size)
  (HS:Hid (∀(k x:Nat),ws[k]? =some x→w.cell? ⟨b,a+k,none⟩=some (I x))) (x0:Nat) (c0:w.cell? ⟨b,a,none⟩=some (I x0))
  (HA:Hid (∀(k x y:Nat),ws[k]? =some x→ws[k+1]? =some y→ ∀w',Ext w w'→U 132 #[aH aA aB p n c,x,y] w' (O (I 1) w')))
  (HV:xB 29 #[aH aA aB p n c] w true)
  (HI:Hid (∀w,U 31 #[x0,(),((n:Int)-1:Int)] w fun e w'=>e= .returned (.bool true)∧w=w')):
  U 159 #[aH aA aB p n c,.slice (some ⟨b,a,none⟩) m c2] w (O (.bool true) w):=by
 go_enter func159,ntmps159;go_wp2;go_loopw [5] (fun i wr=> ∃k:Nat,1≤k∧k≤m∧i=I k∧Ext w wr∧Blk wr w TH3 #[aA,aB,.slice p n c]) (fun i _=>m-(intOf i).toNat)
 case atStart=>exact⟨1,aK1 _,by omega,rfl,by exact .alloc (.refl _) _,Blk.new _ _ _⟩
 case round=>
  obtain⟨k,ag,hk,rfl,hE,hB⟩:=hrel;have HB:=xQ hB;clear hB;have o:b<wr:=aK0 hb hE.sz;by_cases hlt:k<m
  ·obtain⟨x,hx⟩: ∃x,ws[k-1]? =some x:=⟨_,aK2 (by rw[j.out];omega)⟩
   obtain⟨y,hy⟩: ∃y,ws[k]? =some y:=⟨_,aK2 (by rw[j.out];omega)⟩
   have HK:=xQ (HA (k-1) x y hx (by rw[show k-1+1=k by omega];exact hy));have ca:wr.cell? ⟨b,a+(k-1),none⟩=some (I x):=(hE.cells.1 _ _ hb).trans (HS (k-1) x hx);have cb:wr.cell? ⟨b,a+k,none⟩=some (I y):=(hE.cells.1 _ _ hb).trans (HS k y hy);clear hx hy c0;have i1:(0:Int)≤(k:Int):=by omega
   have i2:(k:Int)<(m:Int):=by omega
   have i3:(k:Int)-1<(m:Int):=by omega
   have i4:((k:Int)-1).toNat=k-1:=by omega
   have i5:(1:Int)≤(k:Int):=by omega
   go_wp2;refine rL (gl [gEq (.agg #[aA,aB,.slice p n c]),gEq (.slice (some ⟨b,a,none⟩) m c2),gEq (k:Int),gEq ((k:Int)-1:Int),gEq (.pointer (some ⟨b,a+(k-1),none⟩)),gEq (x:Int),gEq (.slice (some ⟨b,a,none⟩) m c2),gEq (k:Int),gEq (.pointer (some ⟨b,a+k,none⟩)),gEq (y:Int),gEq (I 1),gEq (.bool false)]) 12 12 [(0,some 12),(1,some 13),(2,some 14),(3,some 15),(4,some 16),(5,some 17),(6,some 18),(7,some 19),(8,some 20),(9,some 21),(10,some 22),(11,some 23)] ?steps ?fin
   case steps=>
    refine sC [] rfl (fun wi hx=> ?_) ?_
    ·intro K hK;have hX:=hx.of_drew;obtain⟨d,u,v⟩:=(HB.out.ext hX).tri;go_simp;exact hK _ _ ⟨.agg #[aA,aB,.slice p n c],rfl,rfl,Ext.refl _⟩
    refine sS0 [] (sS0 [] ?_);refine sC [(2,some 14)] rfl (fun wi hx=> ?_) ?_
    ·intro v2 h2 K hK;obtain rfl:=h2;have aj:IntKind.i64.wrap ((k:Int)-1)=(k:Int)-1:=aK3 _ (by omega);go_simp;exact hK _ _ ⟨I ((k:Int)-1),rfl,rfl,Ext.refl _⟩
    refine sS2 [(1,some 13),(3,some 15)] ?_;refine sC [(4,some 16)] rfl (fun wi hx=> ?_) ?_
    ·intro v4 h4 K hK;obtain rfl:=h4;have hX:=hx.of_drew;have d:wi.cell? ⟨b,a+(k-1),none⟩=some (I x):=(hX.cells.1 _ _ o).trans ca;go_simp;exact hK _ _ ⟨I x,rfl,rfl,Ext.refl _⟩
    refine sS0 [] (sS0 [] (sS2 [(6,some 18),(7,some 19)] ?_));refine sC [(8,some 20)] rfl (fun wi hx=> ?_) ?_
    ·intro v8 h8 K hK;obtain rfl:=h8;have hX:=hx.of_drew;have d:wi.cell? ⟨b,a+k,none⟩=some (I y):=(hX.cells.1 _ _ o).trans cb;go_simp;exact hK _ _ ⟨I y,rfl,rfl,Ext.refl _⟩
    refine sC [(0,some 12),(5,some 17),(9,some 21)] rfl (fun wi hx=> ?_) ?_
    ·intro v0 h0 v5 h5 v9 h9 K hK;subst h0 h5 h9;go_wp2_with fail;refine Z (HK _ (hE.trans hx.of_drew)) fun w5 q=>?_
     go_simp;exact hK _ _ ⟨I 1,rfl,rfl,q⟩
    exact sS1 [(10,some 22)] StepsL.nil
   case fin=>
    intro wi hx v0 h0 v1 h1 v2 h2 v3 h3 v4 h4 v5 h5 v6 h6 v7 h7 v8 h8 v9 h9 s f t g;subst h0 h1 h2 h3 h4 h5 h6 h7 h8 h9;obtain rfl:=f;obtain rfl:=g;refine wpAny_done (by kernel_rfl) ?_ _;go_frame;have h:=hx.of_drew;go_wp2;go_roundw
    case rel=>exact⟨k+1,by omega,by omega,by go_num,hE.trans h,HB.out.ext h⟩
    case measure=>simp[intOf];omega
  obtain rfl:m=k:=by omega
  have r:=(hE.cells.1 _ _ hb).trans c0;clear c0;have c0:=r;clear r;have i2:(0:Int)<(m:Int):=by omega
  have i6:IntKind.i64.wrap ((n:Int)-1)=(n:Int)-1:=aK3 _ (by omega);go_wp2;refine rL (gl [gEq (.agg #[aA,aB,.slice p n c]),gEq (.bool true),gEq (.bool true),gEq (.slice (some ⟨b,a,none⟩) m c2),gEq (m:Int),gEq (.bool true),gEq (.bool true),gEq (.bool true),gEq (.slice (some ⟨b,a,none⟩) m c2),gEq (.pointer (some ⟨b,a,none⟩)),gEq (x0:Int),gEq (.pointer (some ⟨w,2,none⟩)),gEq (.slice p n c),gEq (n:Int),gEq ((n:Int)-1:Int),gEq (.bool true),gEq (.bool true),gEq (.bool true)]) 18 18 [(0,some 24),(1,some 25),(2,some 26),(3,some 27),(4,some 28),(5,some 29),(6,some 30),(7,some 31),(8,some 32),(9,some 33),(10,some 34),(11,some 35),(12,some 36),(13,some 37),(14,some 38),(15,some 39),(16,some 40),(17,some 4)] ?steps ?fin
  case steps=>
   refine sC [] rfl (fun wi hx=> ?_) ?_
   ·intro K hK;have hX:=hx.of_drew;obtain⟨d,u,v⟩:=(HB.out.ext hX).tri;go_simp;exact hK _ _ ⟨.agg #[aA,aB,.slice p n c],rfl,rfl,Ext.refl _⟩
   refine sC [(0,some 24)] rfl (fun wi hx=> ?_) ?_
   ·intro v0 h0 K hK;obtain rfl:=h0;go_wp2_with fail;refine Z (HV _ (hE.trans hx.of_drew)) fun w5 q=>?_
    go_simp;exact hK _ _ ⟨.bool true,rfl,rfl,q⟩
   refine sS1 [(1,some 25)] (sS1 [(2,some 26)] (sS2 [(2,some 26),(3,some 27)] (sS2 [(2,some 26),(4,some 28)] (sS2 [(2,some 26),(5,some 29)] (sS1 [(6,some 30)] (sS1 [(7,some 31)] (sS2 [(7,some 31),(8,some 32)] ?_)))))));refine sC [(7,some 31),(9,some 33)] rfl (fun wi hx=> ?_) ?_
   ·intro v7 h7 v9 h9 K hK;subst h7 h9;have hX:=hx.of_drew;have d:wi.cell? ⟨b,a,none⟩=some (I x0):=(hX.cells.1 _ _ o).trans c0;go_simp;exact hK _ _ ⟨I x0,rfl,rfl,Ext.refl _⟩
   refine sS1 [(7,some 31)] ?_;refine sC [(7,some 31),(11,some 35)] rfl (fun wi hx=> ?_) ?_
   ·intro v7 h7 t g K hK;obtain rfl:=h7;obtain rfl:=g;have hX:=hx.of_drew;have d:=(HB.out.ext hX).cl 2;go_simp;exact hK _ _ ⟨.slice p n c,rfl,rfl,Ext.refl _⟩
   refine sS2 [(7,some 31),(12,some 36)] (sS2 [(7,some 31),(13,some 37)] ?_);refine sC [(7,some 31),(10,some 34),(14,some 38)] rfl (fun wi hx=> ?_) ?_
   ·intro v7 h7 s f af l K hK;obtain rfl:=h7;obtain rfl:=f;obtain rfl:=l;go_wp2_with fail;refine(HI _).mono ?_;rintro e w5 ⟨rfl,rfl⟩;go_simp;exact hK _ _ ⟨.bool true,rfl,rfl,Ext.refl _⟩
   exact sS2 [(7,some 31),(15,some 39)] (sS1 [(16,some 40)] StepsL.nil)
  case fin=>intro wi hx v0 h0 v1 h1 v2 h2 v3 h3 v4 h4 v5 h5 v6 h6 v7 h7 v8 h8 v9 h9 s f t g ak z al aa af l am ab an ad ao ae;subst h0 h1 h2 h3 h4 h5 h6 h7 h8 h9;obtain rfl:=f;obtain rfl:=g;obtain rfl:=z;obtain rfl:=aa;obtain rfl:=l;obtain rfl:=ab;obtain rfl:=ad;obtain rfl:=ae;refine wpAny_done (by kernel_rfl) ?_ _;go_frame;have h:=hx.of_drew;go_wp2;go_ret;exact⟨rfl,hE.trans h⟩
theorem lS (a b:Int): ∀u∈aK (a,b),u.oneCell'=true:=by intro u hu;simp[aK]at hu;rcases hu with rfl|rfl<;>rfl
theorem aFo (aA aB:Int)(pb po:Nat)(n d:Nat)(xs:List Int)(b f m c2 u:Nat)(s ws:List Nat)(w:World)(b4:4≤n)(hn:n≤12)(b3:0<m)(hm:m≤12)(bd:Hid (ws=u::s))(a6:Hid (ws.length=m))(hb:b<w.heap.size)(bo:pb<w.heap.size)
  (bm:Hid (aN aA aB xs=true))(a3:Hid (xs.length=n))(hu:u<n)(bq:Hid (xs.getD u 0=0))(bp:Hid (lQ aA n u s))
  (HS:Hid (∀(k x:Nat),ws[k]? =some x→w.cell? ⟨b,f+k,none⟩=some (I x))) (bg:w.cell? ⟨b,f,none⟩=some (I u)) (bf:w.cell? ⟨pb,po+u,none⟩=some (I 0))
  (HW:xB 159 #[aH aA aB (some ⟨pb,po,none⟩) n d,.slice (some ⟨b,f,none⟩) m c2] w true)
  (HL:xC 54 #[aH aA aB (some ⟨pb,po,none⟩) n d] w fun w' e w''=> ∃q c,e= .returned (aH aA aB q n c)∧w''.ownsRow w' TI 1 (.slice q n c) n (ivs xs)∧Ext w' w''):
  U 127 #[aH aA aB (some ⟨pb,po,none⟩) n d,.slice (some ⟨b,f,none⟩) m c2] w (eL (bW xs u s).2 w):=by
 have j1:(0:Int)≤(u:Int):=by omega
 have j2:(u:Int)<(n:Int):=by omega
 go_enter func127,ntmps127;go_wp2;have ME:=(((Mem.start w).c0 TH3 #[aA,aB,.slice (some ⟨pb,po,none⟩) n d]).made0 TSL 2 (w.heap.size+1) (by simp))
 have X0:=xQ (show Ext w ((w.alloc (.cells #[aA,aB,.slice (some ⟨pb,po,none⟩) n d] TH3)).alloc (.cells #[] TSL))from ME.ext);refine rL (gl [gEq (.agg #[aA,aB,.slice (some ⟨pb,po,none⟩) n d]),gEq (.slice (some ⟨b,f,none⟩) m c2),gEq (.bool true),gEq (.bool false),gEq (.bool false),gEq (.pointer (some ⟨w,2,none⟩)),gEq (.slice (some ⟨pb,po,none⟩) n d),gEq (.slice (some ⟨b,f,none⟩) m c2),gEq (.pointer (some ⟨b,f,none⟩)),gEq (u:Int),gEq (.pointer (some ⟨pb,po+u,none⟩)),gEq (I 0),gEq (.bool false),gEq (.bool false)]) 14 14 [(0,some 12),(1,some 13),(2,some 14),(3,some 15),(4,some 16),(5,some 17),(6,some 18),(7,some 19),(8,some 20),(9,some 21),(10,some 22),(11,some 23),(12,some 24),(13,some 25)] ?steps ?fin
 case steps=>
  refine sC [] rfl (fun wi hx=> ?_) ?_
  ·intro K hK;have hX:Ext ((w.alloc (.cells #[aA,aB,.slice (some ⟨pb,po,none⟩) n d] TH3)).alloc (.cells #[] TSL)) wi:=by exact .trans (.drew (.refl _)) hx
   obtain⟨ab,bz,b0⟩:=((ME.bk 1).ext hX).tri;go_simp;exact hK _ _ ⟨.agg #[aA,aB,.slice (some ⟨pb,po,none⟩) n d],rfl,rfl,Ext.refl _⟩
  refine sS0 [] ?_;refine sC [(0,some 12),(1,some 13)] rfl (fun wi hx=> ?_) ?_
  ·intro v0 h0 v1 h1 K hK;subst h0 h1;have hX:Ext w wi:=by exact .trans (.drew (.alloc (.alloc (.refl _) _) _)) hx
   go_wp2_with fail;refine Z (HW _ hX) fun w5 ah=>?_
   go_simp;exact hK _ _ ⟨.bool true,rfl,rfl,ah⟩
  refine sS1 [(2,some 14)] (sS1 [(3,some 15)] (sS1 [(4,some 16)] ?_));refine sC [(4,some 16),(5,some 17)] rfl (fun wi hx=> ?_) ?_
  ·intro v4 h4 v5 h5 K hK;subst h4 h5;have hX:Ext ((w.alloc (.cells #[aA,aB,.slice (some ⟨pb,po,none⟩) n d] TH3)).alloc (.cells #[] TSL)) wi:=by exact .trans (.drew (.refl _)) hx
   have ab:=((ME.bk 1).ext hX).cl 2;go_simp;exact hK _ _ ⟨.slice (some ⟨pb,po,none⟩) n d,rfl,rfl,Ext.refl _⟩
  refine sS1 [(4,some 16)] (sS2 [(4,some 16),(7,some 19)] ?_);refine sC [(4,some 16),(8,some 20)] rfl (fun wi hx=> ?_) ?_
  ·intro v4 h4 v8 h8 K hK;subst h4 h8;have hX:Ext ((w.alloc (.cells #[aA,aB,.slice (some ⟨pb,po,none⟩) n d] TH3)).alloc (.cells #[] TSL)) wi:=by exact .trans (.drew (.refl _)) hx
   have ab:wi.cell? ⟨b,f,none⟩=some (I u):=(X0.out.trans hX).cells.1 _ _ hb |>.trans bg;go_simp;exact hK _ _ ⟨I u,rfl,rfl,Ext.refl _⟩
  refine sS3 [(4,some 16),(6,some 18),(9,some 21)] ?_;refine sC [(4,some 16),(10,some 22)] rfl (fun wi hx=> ?_) ?_
  ·intro v4 h4 bc ad K hK;obtain rfl:=h4;obtain rfl:=ad;have hX:Ext ((w.alloc (.cells #[aA,aB,.slice (some ⟨pb,po,none⟩) n d] TH3)).alloc (.cells #[] TSL)) wi:=by exact .trans (.drew (.refl _)) hx
   have ab:wi.cell? ⟨pb,po+u,none⟩=some (I 0):=(X0.out.trans hX).cells.1 _ _ bo |>.trans bf;go_simp;exact hK _ _ ⟨I 0,rfl,rfl,Ext.refl _⟩
  exact sS2 [(4,some 16),(11,some 23)] (sS2 [(4,some 16),(12,some 24)] StepsL.nil)
 case fin=>
  intro wi hx v0 h0 v1 h1 v2 h2 v3 h3 v4 h4 v5 h5 v6 h6 v7 h7 v8 h8 v9 h9 bc ad b6 bh b7 bi b8 bj;subst h0 h1 h2 h3 h4 h5 h6 h7 h8 h9;obtain rfl:=ad;obtain rfl:=bh;obtain rfl:=bi;obtain rfl:=bj;refine wpAny_done (by kernel_rfl) ?_ _;try go_frame
  have hX:Ext ((w.alloc (.cells #[aA,aB,.slice (some ⟨pb,po,none⟩) n d] TH3)).alloc (.cells #[] TSL)) wi:=hx.of_drew;have M1:=(ME.adv hX)
  clear ME X0 hx hX;obtain⟨c0,c1,c2⟩:=(M1.bk 1).tri;go_wp2_with fail;clear c0 c1 c2;refine(HL _ M1.ext).mono ?_;rintro e w2 ⟨q0,c0,rfl,a5,a8⟩;have M2:=(M1.call a8 a5)
  clear M1 a8 a5 HW;have ay:=xQ (M2.c0 TH3 #[aA,aB,.slice q0 n c0]);go_wp2;go_loopw [5,7] (fun v i wr=> ∃(k x:Nat) (rest:List Nat) (ys:List Int) (q:OA) (c:Nat) (q5:OA) (l lc:Nat) (sl:List Sl2),1≤k∧k≤m∧i=I k∧v= .slice q5 l lc∧l=sl.length∧l≤k∧ws.drop (k-1)=x::rest∧aN aA aB ys=true∧ys.length=n∧x<n∧ys.getD x 0=0∧lQ aA n x rest∧sl++(bW ys x rest).2=(bW xs u s).2∧Mem w wr [aI w w2 TH3 #[aA,aB,.slice q n c],aJ w TI 1 (q) (n) (c) (ivs ys),aJ w TSL 2 (q5) (l) (lc) (sl.flatMap aK),aI w w TH3 #[aA,aB,.slice (some ⟨pb,po,none⟩) n d]]) (fun _ i _=>m-(intOf i).toNat)
  case atStart=>exact⟨1,u,s,xs,q0,c0,some ⟨w.heap.size+1,0,none⟩,0,0,[],aK1 _,by omega,rfl,rfl,rfl,by omega,by rw[bd.out];rfl,bm.out,a3.out,hu,bq.out,bp.out,rfl,ay.out⟩
  case round=>
   clear ay M2;obtain⟨k,x,rest,ys,q,c,q5,l,lc,sl,b1,hk,rfl,rfl,hl,b2,az,al,a4,av,a7,an,am,hM⟩:=hrel;have af:=xQ az;have o:=xQ al;have g:=xQ a4;have aq:=xQ a7;have aa:=xQ an;have t:=xQ am;have ap:=xQ hl;have HM:=hM;clear az al a4 a7 an am hM hl;by_cases hlt:k<m
   ·obtain⟨y,rest',p⟩: ∃y rest',rest=y::rest':=by
     have h1:=congrArg List.length af.out;rw[aL7,a6.out]at h1;cases rest with
     |nil=>simp at h1;omega
     |cons y r=>exact⟨y,r,rfl⟩
    subst p;have ba:ws[k-1]? =some x:=by have:=congrArg (fun z=>z[0]?) af.out;simpa using this
    have ae:ws.drop k=y::rest':=by have:=congrArg List.tail af.out;rw[List.tail_drop,show k-1+1=k by omega]at this;exact this
    have bb:ws[k]? =some y:=by have:=congrArg (fun z=>z[0]?) ae;simpa using this
    have aj:=xQ ae;have ar:y∈aR aA n x:=aa.out.1;have a9:y<n:=(bM.1 ar).1;have ao:=xQ ar;have ai:=HM.ext;have ca:wr.cell? ⟨b,f+(k-1),none⟩=some (I x):=(ai.cells.1 _ _ hb).trans (HS (k-1) x ba);have cb:wr.cell? ⟨b,f+k,none⟩=some (I y):=(ai.cells.1 _ _ hb).trans (HS k y bb);have ax:b<wr:=aK0 hb ai.sz;clear ae ar ba bb ai;have i1:(0:Int)≤(k:Int):=by omega
    have i2:(k:Int)<(m:Int):=by omega
    have i3:(k:Int)-1<(m:Int):=by omega
    have i4:((k:Int)-1).toNat=k-1:=by omega
    have i5:(1:Int)≤(k:Int):=by omega
    go_wp2;refine rL (gl [gEq (.slice (some ⟨b,f,none⟩) m c2),gEq (k:Int),gEq (.pointer (some ⟨b,f+k,none⟩)),gEq (y:Int),gEq (.slice (some ⟨b,f,none⟩) m c2),gEq (k:Int),gEq ((k:Int)-1:Int),gEq (.pointer (some ⟨b,f+(k-1),none⟩)),gEq (x:Int),gEq (.agg #[y,x]),aEs wr TSL #[(),()]]) 11 12 [(0,some 35),(1,some 36),(2,some 37),(3,some 38),(4,some 39),(5,some 40),(6,some 41),(7,some 42),(8,some 43),(9,some 44),(10,some 8)] ?steps ?fin
    case steps=>
     refine sS0 [] (sS0 [] (sS2 [(0,some 35),(1,some 36)] ?_));refine sC [(2,some 37)] rfl (fun wi hx=> ?_) ?_
     ·intro v2 h2 K hK;obtain rfl:=h2;have hX:=hx.of_drew;have ab:wi.cell? ⟨b,f+k,none⟩=some (I y):=(hX.cells.1 _ _ ax).trans cb;go_simp;exact hK _ _ ⟨I y,rfl,rfl,Ext.refl _⟩
     refine sS0 [] (sS0 [] ?_);refine sC [(5,some 40)] rfl (fun wi hx=> ?_) ?_
     ·intro v5 h5 K hK;obtain rfl:=h5;have b5:IntKind.i64.wrap ((k:Int)-1)=(k:Int)-1:=aK3 _ (by omega);go_simp;exact hK _ _ ⟨I ((k:Int)-1),rfl,rfl,Ext.refl _⟩
     refine sS2 [(4,some 39),(6,some 41)] ?_;refine sC [(7,some 42)] rfl (fun wi hx=> ?_) ?_
     ·intro v7 h7 K hK;obtain rfl:=h7;have hX:=hx.of_drew;have ab:wi.cell? ⟨b,f+(k-1),none⟩=some (I x):=(hX.cells.1 _ _ ax).trans ca;go_simp;exact hK _ _ ⟨I x,rfl,rfl,Ext.refl _⟩
     refine sS2 [(3,some 38),(8,some 43)] ?_;refine sC [] rfl (fun wi hx=> ?_) StepsL.nil
     ·intro K hK;go_simp;exact hK _ _ ⟨.pointer (some ⟨wi,0,none⟩),rfl,⟨wi.heap.size,rfl,by have:=hx.sz;simp at this;omega,Blk.new _ _ _⟩,(Ext.refl _).alloc _⟩
    case fin=>
     intro wi hx v0 h0 v1 h1 v2 h2 v3 h3 v4 h4 v5 h5 v6 h6 v7 h7 v8 h8 v9 h9 bc ad;subst h0 h1 h2 h3 h4 h5 h6 h7 h8 h9;obtain⟨ag,rfl,ak,aw⟩:=ad;have hX:Ext wr wi:=hx.of_drew;have M1:=(show Mem w wi [aI w (ag) TSL #[(),()],aI w w2 TH3 #[aA,aB,.slice q n c],aJ w TI 1 (q) (n) (c) (ivs ys),aJ w TSL 2 (q5) (l) (lc) (sl.flatMap aK),aI w w TH3 #[aA,aB,.slice (some ⟨pb,po,none⟩) n d]]from HM.blkOf hX aw ak)
     clear HM hx hX ca cb aw ak;try go_frame
     have z0:=(M1.bk 0).cl 0;have bw:=(M1.bk 0).frozen 0;have z1:=(M1.bk 0).cl 1;have bx:=(M1.bk 0).frozen 1;refine wpAny_ready (rs:= [11]) (by kernel_rfl) (by simp) ?_;refine AllReady.cons rfl (fun K hK=> ?_) AllReady.nil;go_simp;refine hK _ _ ?_;clear hK K z0 bw z1 bx;have M2:=((M1.st 0 0 (I y)).st 0 1 (I x))
     generalize ((wi.setCell ⟨ag,0,none⟩ (I y)).setCell ⟨ag,1,none⟩ (I x))=w4 at M2⊢;clear M1;refine wpAny_done (by kernel_rfl) ?_ _;try go_frame
     obtain⟨h,j⟩:=M2.nq 0 1;obtain⟨n0,n1,n2⟩:=(M2.bk 1).tri;have s0:=(M2.bk 0).cl 0;have s1:=(M2.bk 0).cl 1;have HD:=xQ (fun w' (hx:Ext w4 w')=>kL aA aB (y:Int) (x:Int) q n c ys w' ((M2.sq 2).ext hx) o.out);go_wp2_with fail;refine(HD _ (by exact .refl _)).mono ?_;rintro e w5 ⟨q6,c6,rfl,au,ah⟩;have a2:(bD aA aB ys (y:Int) (x:Int)).length=n:=by rw[cJ,g.out]
     rw[a2]at au⊢;clear a2 HD h j n0 n1 n2 s0 s1;have M3:=(M2.call ah au)
     clear M2 ah au;have br:=M3.hi 1;have bs:=M3.hi 2;by_cases hy0:ys.getD y 0=0
     ·have hm:aX aA aB ys (y:Int) (x:Int)=false:=by have:=aH4 o (by rw[g.out];exact av) aq (by rw[g.out];exact ao.out) hy0;exact this
      have hr:=xQ (oO (a:=x) (l:=rest') hy0);have be:=xQ hy0;clear hy0;rw[hm];clear hm;go_wp2;go_roundw
      case rel=>exact⟨k+1,y,rest',ys,q,c,q5,l,lc,sl,by omega,by omega,by go_num,rfl,ap.out,by omega,by rw[aM0];exact aj.out,o.out,g.out,a9,be.out,aa.out.2,by rw[←t.out,hr.out],((M3.c0 TH3 #[aA,aB,.slice q6 n c6]).pick [3,4,5,6] (by decide) rfl)⟩
      case measure=>simp[intOf];omega
     obtain⟨hm,hd⟩:=xA o (by rw[g.out];exact av) aq (by rw[g.out];exact ao.out) hy0;obtain⟨n1,n2,n3⟩:=qN o (by rw[g.out];exact av) aq (by rw[g.out];exact ao.out) hy0;have hr:=xQ (mX (a:=x) (l:=rest') hy0);rw[hd]at M3;rw[hm];clear hm hd hy0;generalize (ys.set x (ys.getD y 0)).set y 0=zs at*;have N1:=xQ n1;have N2:=xQ n2;have N3:=xQ n3;clear n1 n2 n3;obtain⟨h,j⟩:=M3.nq 1 2;obtain⟨n0,bt,n1,bu,n2,bv⟩:=(M3.bk 2).trif;have s0:=(M3.bk 1).cl 0;have s1:=(M3.bk 1).cl 1;go_wp2_with (at_builtin;go_loud (refine cI nU rfl _ _ rfl (((((M3.store (i:=2) rfl 0 (I aA)).store (i:=2) rfl 1 (I aB)).store (i:=2) rfl 2 (.slice q6 n c6)).bn TH3 #[aA,aB,.slice q6 n c6] w5).adv ((Ext.refl _).alloc (.cells #[y,x] TSL))) 5 rfl rfl (aK ((y:Int),(x:Int))) rfl (dO _ _ _ 1 2 _ (by simp) (by simp) (by simp[maxLen])) (lS _ _) (by omega) ?_;intro q7 c7 w6 M6));clear h j n0 bt n1 bu n2 bv s0 s1;have M7:=(show Mem w w6 [aI w w5 TH3 #[aA,aB,.slice q6 n c6],aJ w TI 1 (q6) (n) (c6) (ivs zs),aI w (ag) TSL #[y,x],aI w w2 TH3 #[aA,aB,.slice q6 n c6],aJ w TI 1 (q) (n) (c) (ivs ys),aJ w TSL 2 (q7) (l+1) (c7) (sl.flatMap aK++aK ((y:Int),(x:Int))),aI w w TH3 #[aA,aB,.slice (some ⟨pb,po,none⟩) n d]]from M6)
     clear M6 M3;have a1:Hid (sl.flatMap aK++aK ((y:Int),(x:Int))=(sl++ [((y:Int),(x:Int))]).flatMap aK):=by show _=_;rw[aL1];simp
     rw[a1.out]at M7;clear a1;go_wp2;go_roundw
     case rel=>exact⟨k+1,y,rest',zs,q6,c6,q7,l+1,c7,sl++ [((y:Int),(x:Int))],by omega,by omega,by go_num,rfl,by rw[aKa,←ap.out];rfl,by omega,by rw[aM0];exact aj.out,N1.out,by rw[N2.out,g.out],a9,N3.out,aa.out.2,by rw[←t.out,hr.out];simp,(M7.pick [3,1,5,6] (by decide) rfl)⟩
     case measure=>simp[intOf];omega
   obtain rfl:m=k:=by omega
   have p:rest= []:=by
    have h1:=congrArg List.length af.out;rw[aL7,a6.out]at h1;cases rest with
    |nil=>rfl
    |cons y r=>simp at h1;omega
   subst p;have a0:Hid (sl=(bW xs u s).2):=by show _=_;rw[←t.out];simp[bW]
   go_wp2;go_ret;have bl:=ap.out;subst bl;rw[←a0.out];exact⟨q5,lc,rfl,HM.ow 2,HM.ext⟩
abbrev aMe (w:World)(p:Option Addr)(xs:List Int)(c:Nat):Item:=aJ w.heap.size TI 1 p xs.length c (ivs xs)
abbrev aMg (r:aO)(p:Option Addr)(c:Nat)(q:Option Addr)(d:Nat):Array Value:=#[.int .i64 r.aA,.int .i64 r.aB,.slice p r.cells.length c,.int .i64 r.free,.int .i64 r.step,.int .i64 r.aE,.int .i64 r.aF,.int .i64 r.aC,.int .i64 r.aG,.slice q r.vs.length d]
theorem iX {aA:Int}{n:Nat}(hg:(aA,n)∈gZ){u:Nat}(hu:u<n):0<(cM aA n 12 u).length∧(cM aA n 12 u).length≤6∧((cM aA n 12 u).length:Int)=aU aA u 0+1:=by have g:=bP hg hu;have h:=kW hg 12 u hu (by have:=g.2.1;omega);have:=g.1;have:=g.2.1;omega
theorem xM {aA aB:Int}{xs:List Int}(a:aN aA aB xs=true){x y:Nat}(hx:x<xs.length)(hy:y∈aR aA xs.length x):cS aA aB xs (x:Int) (y:Int)=1:=by obtain⟨h1,h2⟩:=bM.1 hy;unfold cS;rw[if_pos ⟨a,⟨by omega,by omega⟩,by omega,by omega⟩];exact h2
theorem tH (aA aB:Int)(p:OA)(n a:Nat)(xs:List Int)(lq:OA)(m lc u:Nat)(w:World)(hS:Sl w p n a 1 (ivs xs))(f:aN aA aB xs=true)(hu:u<n)(i:xs.getD u 0=0)
  (hL:Sl w lq m lc 1 (ivs (bA (cM aA n 12 u)))):
  U 127 #[aH aA aB p n a,.slice lq m lc] w (eL (bW xs u (cM aA n 12 u).tail).2 w):=by
 have hl:=hS.ilen;subst hl;have hg:=iS f;obtain⟨g1,g2,g3,g4,g5,g6,g7⟩:=bZ (cC f);obtain⟨k1,k2,k3⟩:=iX hg hu;have hm:=hL.ilen;rw[aLh]at hm;obtain⟨pb,po,rfl,o,q⟩:=hS.rd (by omega);obtain⟨b,g,rfl,hb,hc⟩:=hL.rd (by omega);have c: ∀(k x:Nat),(cM aA xs.length 12 u)[k]? =some x→w.cell? ⟨b,g+k,none⟩=some (I x):=by intro k x hx;have hk:=(aK4.1 hx).1;rw[hc k (by omega)];simp[ivs,bA,hx]
 have d:=sG aA xs.length 12 u;have j:w.cell? ⟨b,g,none⟩=some (I u):=c 0 u (by rw[d];rfl);have l:w.cell? ⟨pb,po+u,none⟩=some (I 0):=by rw[q u (by omega)];rw[aK6,aK2 hu]at i;simp only[Option.getD_some]at i;simp[ivs,hu,i]
 have HV: ∀w',Ext w w'→U 29 #[aH aA aB (some ⟨pb,po,none⟩) xs.length a] w' (O (.bool true) w'):=fun w' hy=>by have:=fM aA aB _ xs.length a xs w' (hS.ext hy);rwa[f]at this
 have HI: ∀w,U 31 #[u,(),((xs.length:Int)-1:Int)] w fun e w'=>e= .returned (.bool true)∧w=w':=fun w=>by have:=pH (u:Int) 0 ((xs.length:Int)-1) w;rwa[show decide ((0:Int)≤(u:Int)∧(u:Int)≤(xs.length:Int)-1)=true by simp;omega]at this
 have HW: ∀w',Ext w w'→U 159 #[aH aA aB (some ⟨pb,po,none⟩) xs.length a,.slice (some ⟨b,g,none⟩) m lc] w' (O (.bool true) w'):=fun w' hy=>
  aDf aA aB _ xs.length a b g m lc (cM aA xs.length 12 u) w' g5 g6 (by omega) (by omega) hm (aK0 hb hy.sz) (fun k x hx=>(hy.cells.1 _ _ hb).trans (c k x hx)) u ((hy.cells.1 _ _ hb).trans j)
   (fun k x y hx hxy w2 hy2=>by
    have h2:=qY hg 12 u k x y hu hx hxy;have r:=aCh hg 12 u x hu (aK5 hx);have:=wG aA aB (x:Int) (y:Int) _ xs.length a xs w2 (hS.ext (hy.trans hy2));rw[xM f r h2.2]at this
    exact this) (fun w2 hy2=>HV w2 (hy.trans hy2)) HI
 exact aFo aA aB pb po xs.length a xs b g m lc u (cM aA xs.length 12 u).tail (cM aA xs.length 12 u) w g5 g6 (by omega) (by omega) d hm hb o f rfl hu i (pW hg 12 u hu) c j l HW
  (fun w' hy=>(eT aA aB _ xs.length a xs w' (by omega) (hS.ext hy)).mono fun e w'' h=>h)
def jU (aA:Int)(n:Nat):Option Nat→List Nat
 |none=> []
 |some u=>cM aA n 12 u
theorem vE {aA:Int}{n:Nat}(hg:(aA,n)∈gZ){l:List Nat}(hl: ∀x∈l,x<n){u:Nat}(hu:u<n):
  ((jU aA n (cO aA l)).length=0∨(cM aA n 12 u).length<(jU aA n (cO aA l)).length→cO aA (l++ [u])=some u)∧
  (¬((jU aA n (cO aA l)).length=0∨(cM aA n 12 u).length<(jU aA n (cO aA l)).length)→cO aA (l++ [u])=cO aA l):=by
 obtain⟨k1,k2,k3⟩:=iX hg hu;rw[wP];cases h:cO aA l with
 |none=>simp[jU,lY]
 |some v=>
  obtain⟨m1,m2,m3⟩:=iX hg (hl v ((jC aA l).2 v h));simp only[jU,lY];constructor
  ·intro hc;rw[if_pos (by omega)]
  intro hc;rw[if_neg (by omega)]
theorem aAd (aA aB:Int)(p:OA)(n a:Nat)(fr:List Nat)(F:Nat)(w:World)(hg:Hid ((aA,n)∈gZ))(hn:n≤12)(hF:Hid (fr.length=F))(ag:F≤12)(s:Hid (∀x∈fr,x<n))
  (HF:xC 157 #[aH aA aB p n a] w fun w' e w''=> ∃q c,e= .returned (.slice q F c)∧w''.ownsRow w' TI 1 (.slice q F c) F (ivs (bA fr))∧Ext w' w'')
  (m:Hid (∀(u:Nat),u<n→ ∀w',Ext w w'→U 158 #[aH aA aB p n a,u,(),(-1:Int)] w' (bI (bA (cM aA n 12 u)) w'))):
  U 126 #[aH aA aB p n a,(),(-1:Int)] w (bI (bA (jU aA n (cO aA fr))) w):=by
 go_enter func126,ntmps126;have ME:=(((Mem.start w).c0 TH3 #[aA,aB,.slice p n a]).made0 TI 1 (w.heap.size+1) (by simp))
 go_wp2_with fail;refine(HF _ ME.ext).mono ?_;rintro e w1 ⟨q1,c1,rfl,t,z⟩;have M1:=(ME.call z t)
 clear ME z t;go_wp2;go_loopw [7,9] (fun v i wr=> ∃(k:Nat) (qb:OA) (l lb:Nat),k≤F∧i=I k∧v= .slice qb l lb∧l=(jU aA n (cO aA (fr.take k))).length∧Mem w wr [aJ w TI 1 (qb) (l) (lb) (ivs (bA (jU aA n (cO aA (fr.take k))))),aJ w TI 1 (q1) (F) (c1) (ivs (bA fr)),aI w w TH3 #[aA,aB,.slice p n a]]) (fun _ i _=>F-(intOf i).toNat)
 case atStart=>exact⟨0,some ⟨w.heap.size+1,0,none⟩,0,0,aK8 _,rfl,rfl,rfl,(M1.pick [1,0,2] (by decide) rfl)⟩
 case round=>
  clear M1;obtain⟨k,qb,l,lb,hk,rfl,rfl,hl,hM⟩:=hrel;have HM:=hM;have b:=xQ hl;clear hM hl;by_cases hlt:k<F
  ·obtain⟨u,hu⟩: ∃u,fr[k]? =some u:=⟨_,aK2 (by rw[hF.out];exact hlt)⟩
   have j:u<n:=s.out u (aK5 hu);obtain⟨gf,rfl,aj,ad⟩:=HM.so 1;have cu:wr.cell? ⟨gf,k,none⟩=some (I u):=by have:=(HM.ow 1).cellAt k (by omega);rw[this];simp[ivs,bA,hu]
   obtain⟨d,f⟩:=vE hg.out (l:=fr.take k) (fun x hx=>s.out x (aLj hx)) j;rw[←bE hu,←b.out]at d f;obtain⟨k1,k2,k3⟩:=iX hg.out j;obtain⟨W,hW⟩: ∃W,W=(cM aA n 12 u).length:=⟨_,rfl⟩
   rw[←hW]at k1 k2 d f;have o:=xQ d;have aa:=xQ f;have g:=xQ hW;have HC:=xQ (fun w' (hx:Ext w w')=>m u j w' hx);clear hu d f hW k3;have i1:(0:Int)≤(k:Int):=by omega
   have i2:(k:Int)<(F:Int):=by omega
   go_wp2;refine rL (gl [gEq (.agg #[aA,aB,.slice p n a]),gEq (.slice (some ⟨gf,0,none⟩) F c1),gEq (k:Int),gEq (.pointer (some ⟨gf,k,none⟩)),gEq (u:Int),gEq (I 0),gEq (-1:Int),(fun v w'=> ∃q c,v= .slice q (W) c∧w'.ownsRow wr TI 1 (.slice q (W) c) (W) (ivs (bA (cM aA n 12 u))))]) 8 9 [(0,some 20),(1,some 21),(2,some 22),(3,some 23),(4,some 24),(5,some 25),(6,some 26),(7,some 27)] ?steps ?fin (hG:=(kP (aW (bJ _) (aW (bJ _) (aW (bJ _) (aW (bJ _) (aW (bJ _) (aW (bJ _) (aW (bJ _) (aW (fun v w w' ⟨q,c,he,ho⟩ hx=>⟨q,c,he,aY ho hx⟩) (nA)))))))))))
   case steps=>
    refine sC [] rfl (fun wi hx=> ?_) ?_
    ·intro K hK;have hX:=hx.of_drew;obtain⟨ab,ah,ai⟩:=((HM.bk 2).ext hX).tri;go_simp;exact hK _ _ ⟨.agg #[aA,aB,.slice p n a],rfl,rfl,Ext.refl _⟩
    refine sS0 [] (sS0 [] (sS2 [(1,some 21),(2,some 22)] ?_));refine sC [(3,some 23)] rfl (fun wi hx=> ?_) ?_
    ·intro v3 h3 K hK;obtain rfl:=h3;have hX:=hx.of_drew;have ab:wi.cell? ⟨gf,k,none⟩=some (I u):=(hX.cells.1 _ _ ad).trans cu;go_simp;exact hK _ _ ⟨I u,rfl,rfl,Ext.refl _⟩
    refine sS0 [] (sS0 [] ?_);refine sC [(0,some 20),(4,some 24),(5,some 25),(6,some 26)] rfl (fun wi hx=> ?_) StepsL.nil
    ·intro v0 h0 v4 h4 v5 h5 v6 h6 K hK;subst h0 h4 h5 h6;have hX:=hx.of_drew;go_wp2_with fail;refine(HC _ (HM.ext.trans hX)).mono ?_;rintro e w5 ⟨q5,c5,rfl,o5,af⟩;have ae:(bA (cM aA n 12 u)).length=W:=by rw[g.out];simp[bA]
     rw[ae]at o5⊢;go_simp;exact hK _ _ ⟨.slice q5 (W) c5,rfl,⟨q5,c5,rfl,bF o5 (by have:=hX.sz;simpa using this)⟩,af⟩
   case fin=>
    intro wi hx v0 h0 v1 h1 v2 h2 v3 h3 v4 h4 v5 h5 v6 h6 v7 h7;subst h0 h1 h2 h3 h4 h5 h6;obtain⟨q7,c7,rfl,y⟩:=h7;have hX:Ext wr wi:=hx.of_drew;have M1:=(show Mem w wi [aJ w TI 1 (q7) (W) (c7) (ivs (bA (cM aA n 12 u))),aJ w TI 1 (qb) (l) (lb) (ivs (bA (jU aA n (cO aA (fr.take k))))),aJ w TI 1 (some ⟨gf,0,none⟩) (F) (c1) (ivs (bA fr)),aI w w TH3 #[aA,aB,.slice p n a]]from HM.ownNew hX y (aK1 _))
    clear HM;try go_frame
    refine wpAny_ready (rs:= [8]) (by kernel_rfl) (by simp) ?_;refine AllReady.cons rfl (fun K hK=> ?_) AllReady.nil;go_simp;refine hK _ _ ?_;clear hK K;refine wpAny_done (by kernel_rfl) ?_ _;try go_frame
    clear hx hX cu y HC;by_cases h0:l=0
    ·have hn:=xQ (o (.inl h0));have t1:((l:Int)==0)=true:=by simp[h0]
     clear h0;go_wp2;go_roundw
     case rel=>exact⟨k+1,q7,W,c7,by omega,by go_num,rfl,by rw[hn.out];exact g.out,by rw[hn.out];exact(M1.pick [0,2,3] (by decide) rfl)⟩
     case measure=>simp[intOf];omega
    have t1:((l:Int)==0)=false:=by simp[h0]
    by_cases h1:W<l
    ·have hn:=xQ (o (.inr h1));go_wp2;go_roundw
     case rel=>exact⟨k+1,q7,W,c7,by omega,by go_num,rfl,by rw[hn.out];exact g.out,by rw[hn.out];exact(M1.pick [0,2,3] (by decide) rfl)⟩
     case measure=>simp[intOf];omega
    have hn:=xQ (aa (fun h=>h.elim h0 h1));go_wp2;go_roundw
    case rel=>exact⟨k+1,qb,l,lb,by omega,by go_num,rfl,by rw[hn.out];exact b.out,by rw[hn.out];exact(M1.pick [1,2,3] (by decide) rfl)⟩
    case measure=>simp[intOf];omega
  obtain rfl:F=k:=by omega
  have r:Hid (fr.take F=fr):=by show _=_;rw[aKb (by rw[hF.out];omega)]
  go_wp2;go_ret;rw[r.out]at b HM;exact dL (by rw[aLh];exact b.out.symm) (HM.ow 0) HM.ext
theorem oF (aA aB:Int)(p:OA)(n a:Nat)(xs:List Int)(w:World)(hS:Sl w p n a 1 (ivs xs))(b:aN aA aB xs=true):
  U 126 #[aH aA aB p n a,(),(-1:Int)] w (bI (bA (jU aA n (cO aA (bG xs)))) w):=by
 have hl:=hS.ilen;subst hl;obtain⟨g1,g2,g3,g4,g5,g6,g7⟩:=bZ (cC b);have d:(bG xs).length≤12:=by unfold bG;exact aK9 (aL6 _ _) (by simp;omega)
 refine aAd aA aB p xs.length a (bG xs) _ w (iS b) g6 rfl d (fun x hx=>(iT hx).1) (fun w' hy=> ?_) (fun u hu w' hy=>vX aA aB p xs.length a u xs w' (hS.ext hy) b hu);have:=aFq aA aB p xs.length a xs w' (hS.ext hy);rw[b,if_pos rfl,tM]at this;refine this.mono fun e w'' h=> ?_
 obtain⟨q,c,h1,h2,h3⟩:=h;rw[aLh]at h1 h2;exact⟨q,c,h1,h2,h3⟩
end
end Go.Proofs.YtbgkcehffiogcaaGreatDoor
