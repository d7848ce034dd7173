/-
  Texts of this proof, packed (@packed).
-/
import Derived.Test.YthfmmibomhhmpaaGreatDoorY8
namespace Go.Proofs.YthfmmibomhhmpaaGreatDoor
open Go.RowKit
set_option linter.unusedSimpArgs false
set_option linter.unusedVariables false
set_option maxHeartbeats 8000000
set_option maxRecDepth 100000
section
open Go.Proofs.Tryz
theorem bN {aA aB:Int}{xs:List Int}(h:aN aA aB xs=true):2≤aA∧aA≤4∧2≤aB∧aB≤3∧4≤xs.length∧xs.length≤12∧(xs.length:Int)=aA*aB∧(∀x∈xs,0≤x∧x≤99)∧(xs.filter (fun x=>decide (0<x))).Nodup:=by simp only[aN,aTf]at h;obtain⟨h1,h2,h3,h4,h5,h6,h7⟩:=cG h.1;obtain⟨q1,_,q3⟩:=(eI _ _).1 h.2;exact⟨h1,h2,h3,h4,h5,h6,h7,q1,q3⟩
theorem mC (aA aB:Int)(p:OA)(n a:Nat)(xs:List Int)(w:World)(hE:Env w)(hS:Sl w p n a 1 (ivs xs)):
  U 29 #[aH aA aB p n a] w (O (str (eA aA aB xs)) w):=by
 have hl:=hS.ilen;cases h:aN aA aB xs with
 |true=>obtain⟨h1,h2,h3,h4,h5,h6,h7,h8,h9⟩:=bN h;unfold eA;rw[if_pos h,hl];exact xL aA aB p n a xs w hE h1 h2 (by omega) h8 hS (fun w' hx=>by rw[←h];exact gU aA aB p n a xs w' (hS.ext hx))
 |false=>unfold eA;rw[if_neg (by simp[h])];exact vM aA aB p n a w (fun w' hx=>by rw[←h];exact gU aA aB p n a xs w' (hS.ext hx))
theorem aC4 (w:World)(hE:Env w):U 11 #[] w (O (.bool true) w):=by
 have HE:=xQ hE;have T1:Hid (∀w p,Env w→Sl w p 4 4 1 (ivs [0,7,0,0])→U 29 #[aH 2 2 p 4 4] w (O (str [46,44,55,47,46,44,46]) w)):=fun w p hE hS=>by
  have:=mC 2 2 p 4 4 [0,7,0,0] w hE hS;have e:eA 2 2 [0,7,0,0]= [46,44,55,47,46,44,46]:=by simp[eA,aN,iC,eE,aV,dJ,eY,fU]
  rwa[e]at this
 have T2:Hid (∀w,Env w→U 29 #[aH 0 0 none 0 0] w (O (str []) w)):=fun w hE=>by
  have:=mC 0 0 none 0 0 [] w hE (Sl.nil w 1);have e:eA 0 0 []= []:=by simp[eA,aN,iC]
  rwa[e]at this
 clear hE;go_enter func11,ntmps11;go_wp2_with fail;refine Z (T1 _ _ (HE.out.ext (by exact .alloc (.refl _) _)) (Sl.new w #[iv 0,iv 7,iv 0,iv 0] _ 4 rfl (by unfold maxLen;omega))) fun w1 h1=>?_
 go_wp2_with fail;refine Z (T2 _ (HE.out.ext (by exact .trans (.alloc (.refl _) _) h1))) fun w2 h2=>?_
 go_wp2;go_ret;exact⟨rfl,by exact .trans (.trans (.alloc (.refl _) _) h1) h2⟩
theorem aBj (a b:Int)(w:World)(h0:0≤a)(h1:a≤1000)(h2:0≤b)(h3:b≤1000):U 209 #[a,b] w (O (I (rZ a b)) w):=by go_enter func209,ntmps209;go_wp2;go_ret;exact⟨eS (by unfold rZ;omega),by exact .refl _⟩
theorem aFd (aA a b:Int)(w:World)(h0:0≤a)(h1:a≤100)(h2:0≤b)(h3:b≤100)(h4:2≤aA)(h5:aA≤4):U 187 #[aA,a,b] w (O (I (aZ aA a b)) w):=by
 have q0: ¬(aA=0):=by omega
 have r1:a.tmod aA=a%aA:=IntWalk.rem_in _ _ h0;have r2:b.tmod aA=b%aA:=IntWalk.rem_in _ _ h2;have d1:IntKind.i64.wrap (a.tdiv aA)=a/aA:=aVe _ _ (by omega);have d2:IntKind.i64.wrap (b.tdiv aA)=b/aA:=aVe _ _ (by omega);have e1:=Int.emod_nonneg a q0;have e2:=Int.emod_nonneg b q0;have e3:=Int.emod_lt_of_pos a (show 0<aA by omega);have e4:=Int.emod_lt_of_pos b (show 0<aA by omega);have e5:=Int.ediv_nonneg h0 (show 0≤aA by omega);have e6:=Int.ediv_nonneg h2 (show 0≤aA by omega);have e7:=Int.ediv_le_self aA h0;have e8:=Int.ediv_le_self aA h2;have s1:IntKind.i64.wrap (rZ (a%aA) (b%aA)+rZ (a/aA) (b/aA))=aZ aA a b:=aT8 _ (by unfold rZ;omega);go_enter func187,ntmps187;go_wp2;refine rL (gl [gEq (a:Int),gEq (aA:Int),gEq (a%aA:Int),gEq (b:Int),gEq (aA:Int),gEq (b%aA:Int),gEq (rZ (a%aA) (b%aA):Int),gEq (a:Int),gEq (aA:Int),gEq (a/aA:Int),gEq (b:Int),gEq (aA:Int),gEq (b/aA:Int),gEq (rZ (a/aA) (b/aA):Int),gEq (aZ aA a b:Int)]) 15 16 [(0,some 7),(1,some 8),(2,some 9),(3,some 10),(4,some 11),(5,some 12),(6,some 13),(7,some 14),(8,some 15),(9,some 16),(10,some 17),(11,some 18),(12,some 19),(13,some 20),(14,some 21)] ?steps ?fin
 case steps=>
  refine sS0 [] (sS0 [] (sS2 [(0,some 7),(1,some 8)] (sS0 [] (sS0 [] (sS2 [(3,some 10),(4,some 11)] ?_)))));refine sC [(2,some 9),(5,some 12)] rfl (fun wi hx=> ?_) ?_
  ·intro v2 h2 v5 h5 K hK;subst h2 h5;go_wp2_with fail;refine Z (aBj (a%aA) (b%aA) _ (by omega) (by omega) (by omega) (by omega)) fun w2 d=>?_
   go_simp;exact hK _ _ ⟨I (rZ (a%aA) (b%aA)),rfl,rfl,d⟩
  refine sS0 [] (sS0 [] (sS2 [(7,some 14),(8,some 15)] (sS0 [] (sS0 [] (sS2 [(10,some 17),(11,some 18)] ?_)))));refine sC [(9,some 16),(12,some 19)] rfl (fun wi hx=> ?_) ?_
  ·intro v9 h9 j c K hK;obtain rfl:=h9;obtain rfl:=c;go_wp2_with fail;refine Z (aBj (a/aA) (b/aA) _ (by omega) (by omega) (by omega) (by omega)) fun w2 d=>?_
   go_simp;exact hK _ _ ⟨I (rZ (a/aA) (b/aA)),rfl,rfl,d⟩
  exact sS2 [(6,some 13),(13,some 20)] StepsL.nil
 case fin=>intro wi hx v0 h0 v1 h1 v2 h2 v3 h3 v4 h4 v5 h5 v6 h6 v7 h7 v8 h8 v9 h9 k f l g j c m h n i;subst h0 h1 h2 h3 h4 h5 h6 h7 h8 h9;obtain rfl:=f;obtain rfl:=g;obtain rfl:=c;obtain rfl:=h;obtain rfl:=i;refine wpAny_ready (rs:= [15]) (by kernel_rfl) (by simp) ?_;refine AllReady.cons rfl (fun K hK=> ?_) AllReady.nil;go_simp;refine hK _ _ ?_;clear hK K;refine wpAny_done (by kernel_rfl) ?_ _;go_wp2;go_ret;exact⟨rfl,by exact .trans (.drew (.refl _)) hx⟩
theorem tV (n lo hi:Int)(w:World):U 27 #[n,lo,hi] w fun e w'=>e= .returned (.bool (decide (lo≤n∧n≤hi)))∧w=w':=by
 by_cases h:lo≤n∧n≤hi
 ·rw[decide_eq_true h];exact oF n lo hi w h.1 h.2
 rw[decide_eq_false h];exact xP n lo hi w (by omega)
def dS (aA aB:Int)(xs:List Int)(a b:Int):Int:=if aN aA aB xs=true∧(0≤a∧a<xs.length)∧0≤b∧b<xs.length then aZ aA a b else -1
theorem aHm (aA aB a b:Int)(p:OA)(n c:Nat)(w:World)(HV:xB 25 #[aH aA aB p n c] w false):
  U 151 #[aH aA aB p n c,a,b] w (O (I (-1)) w):=by
 go_enter func151,ntmps151;go_wp2_with fail;refine Z (HV _ (by exact .alloc (.refl _) _)) fun w1 d=>?_
 have X1:Ext w w1:=by exact .trans (.alloc (.refl _) _) d
 clear d;go_wp2;go_ret;exact⟨rfl,by exact X1⟩
theorem aNp (aA aB a b:Int)(p:OA)(n c:Nat)(ba bb:Bool)(R:Int)(w:World)(f:4≤n)(hn:n≤12)(HV:xB 25 #[aH aA aB p n c] w true)
  (HA:Hid (∀w,U 27 #[a,(),((n:Int)-1:Int)] w fun e w'=>e= .returned (.bool ba)∧w=w'))
  (HB:Hid (∀w,U 27 #[b,(),((n:Int)-1:Int)] w fun e w'=>e= .returned (.bool bb)∧w=w'))
  (HP:Hid (ba=true→bb=true→ ∀w,U 187 #[aA,a,b] w (O (I R) w))):
  U 151 #[aH aA aB p n c,a,b] w fun e w'=>e= .returned (I (if ba&&bb then R else -1))∧Ext w w':=by
 go_enter func151,ntmps151;go_wp2_with fail;refine Z (HV _ (by exact .alloc (.refl _) _)) fun w1 d=>?_
 have B1:=xQ ((Blk.new w 25 #[aA,aB,.slice p n c]).ext d);have X1:Ext w w1:=by exact .trans (.alloc (.refl _) _) d
 clear d;have c_:=B1.out.tri;cases ba
 ·go_wp2_with ((go_at_call 27;(with_reducible refine(HA _).mono ?_);rintro e w' ⟨rfl,rfl⟩));go_ret;exact⟨rfl,by exact X1⟩
 cases bb
 ·go_wp2_with fail;refine(HA _).mono ?_;rintro e w' ⟨rfl,rfl⟩;go_wp2_with fail;refine(HB _).mono ?_;rintro e w' ⟨rfl,rfl⟩;go_wp2;go_ret;exact⟨rfl,by exact X1⟩
 go_wp2_with fail;refine(HA _).mono ?_;rintro e w' ⟨rfl,rfl⟩;go_wp2_with fail;refine(HB _).mono ?_;rintro e w' ⟨rfl,rfl⟩;go_wp2_with fail;refine Z (HP (by simp) (by simp) _) fun w' hp=>?_
 go_wp2;go_ret;exact⟨rfl,by exact .trans X1 hp⟩
theorem aCp (aA aB a b:Int)(p:OA)(n c:Nat)(xs:List Int)(w:World)(hS:Sl w p n c 1 (ivs xs)):
  U 151 #[aH aA aB p n c,a,b] w (O (I (dS aA aB xs a b)) w):=by
 have hl:=hS.ilen;have HV:=fun(w':World) (hx:Ext w w')=>gM aA aB p n c xs w' (hS.ext hx)
 unfold dS;cases hok:aN aA aB xs with
 |false=>rw[hok]at HV;simpa using aHm aA aB a b p n c w HV
 |true=>
  rw[hok]at HV;obtain⟨g1,g2,g3,g4,g5,g6,g7,g8,g9⟩:=bN hok
  have:=aNp aA aB a b p n c (decide (0≤a∧a≤(n:Int)-1)) (decide (0≤b∧b≤(n:Int)-1)) (aZ aA a b) w (by omega) (by omega) HV (fun w=>tV _ _ _ w) (fun w=>tV _ _ _ w)
   (fun h1 h2 w=>by simp at h1 h2;exact aFd aA a b w h1.1 (by omega) h2.1 (by omega) (by omega) (by omega))
  refine this.mono fun e w' ⟨he,hx⟩=>⟨?_,hx⟩
  rw[he];apply eS;have e1:(decide (0≤a∧a≤(n:Int)-1)&&decide (0≤b∧b≤(n:Int)-1))=decide ((0≤a∧a<xs.length)∧0≤b∧b<xs.length):=by rw[Bool.eq_iff_iff];simp;omega
  rw[e1];by_cases h:(0≤a∧a<xs.length)∧0≤b∧b<xs.length
  ·rw[decide_eq_true h,if_pos rfl,if_pos ⟨rfl,h⟩]
  rw[decide_eq_false h,if_neg (by simp),if_neg (fun hh=>h hh.2)]
abbrev TH3:TypeId:=25
theorem Blk.cells3 {w:World}{g:Nat}{t:TypeId}{a b c:Value}(h:Blk w g t #[a,b,c]):w.cell? ⟨g,0,none⟩=some a∧w.cell? ⟨g,1,none⟩=some b∧w.cell? ⟨g,2,none⟩=some c:=⟨h.cell 0,h.cell 1,h.cell 2⟩
theorem rW {wr w2:World}{B n:Nat}{v:Value}{xs:List Value}{ob:Obj}{t e:TypeId}{sz:Nat}{cs:Array Value}(ho:wr.ownsRow (B+1) e sz v n xs)(hg:(wr.alloc ob).grownBy w2 v.ownBlock)(h:Blk wr B t cs):Blk w2 B t cs:=
 (h.alloc ob).grown hg (fun hh=>by have:=ho.lt B hh.symm;omega)
def kN (aA:Int)(n:Nat)(a:Int):List Int:=fZ (fun b=>decide (aZ aA a b=1)) n
theorem aNo (aA aB a:Int)(p:OA)(n f:Nat)(w:World)(hn:n≤12)
  (HC:Hid (∀(k:Nat),k<n→ ∀w',Ext w w'→U 151 #[aH aA aB p n f,a,k] w' (O (I (aZ aA a k)) w'))):
  U 208 #[aH aA aB p n f,a] w (bC (kN aA n a) w):=by
 go_enter func208,ntmps208;go_wp2;go_loopw [5,6] (fun v i wr=> ∃(k:Nat) (q:OA) (m c:Nat),k≤n∧i=I k∧v= .slice q m c∧m≤k∧wr.ownsRow (w.heap.size+1) TI 1 (.slice q m c) m (ivs (fZ (fun b=>decide (aZ aA a b=1)) k))∧Ext w wr∧Blk wr w TH3 #[aA,aB,.slice p n f]) (fun _ i _=>n-(intOf i).toNat)
 case atStart=>refine⟨0,_,0,0,aTd _,rfl,rfl,aT5 _,?_,by exact .alloc (.alloc (.refl _) _) _,(Blk.new w _ _).alloc _⟩;have ho:((w.alloc (.cells #[aA,aB,.slice p n f] TH3)).alloc (.cells #[] TI)).ownsRow (w.heap.size+1) TI 1 (.slice (some ⟨(w.alloc (.cells #[aA,aB,.slice p n f] TH3)).heap.size,0,none⟩) 0 0) 0 []:=aU5 _ #[] 0 (by simp) (by simp[maxLen]) rfl;simpa[fZ]using ho
 case round=>
  obtain⟨k,q,m,c,hk,rfl,rfl,aa,o,j,hB⟩:=hrel;have HO:=xQ o;have HB:=xQ hB;clear o hB;obtain⟨b0,b1,b2⟩:=HB.out.cells3;by_cases hlt:k<n
  ·go_wp2_with fail;refine Z (HC k hlt _ j) fun w1 h1=>?_
   have h:=xQ (aW HO h1);have r:=xQ (HB.out.ext h1);have l:=xQ (j.trans h1);have z:(w:Nat)<w1:=r.out.lt;clear h1 b0 b1 b2 HO HB j;by_cases hx0:aZ aA a k=1
   ·have t0:(aZ aA a k==1)=true:=by simp[hx0]
    have d:Hid (fZ (fun b=>decide (aZ aA a b=1)) (k+1)=fZ (fun b=>decide (aZ aA a b=1)) k++ [(k:Int)]):=by show _=_;rw[fZ,if_pos (by simpa using hx0)]
    clear hx0;go_wp2_with (at_builtin;refine cW fY rfl _ _ rfl (w.heap.size+1) _ _ _ rfl (h.out.alloc _) _ _ (k:Int) _ rfl (by simp) (by omega) (by first|(simp;done)|(simp;omega)) ?_;intro p' t w2 g s;have x:=xQ g;have y:Ext w w2:=Ext.own (l.out.alloc _) (h.out.alloc _) s (by omega);have u:=xQ (rW h s r.out);clear g s);go_roundw
    case rel=>exact⟨k+1,p',m+1,t,by omega,by go_num,rfl,by omega,by rw[d.out];exact x.out,y,u.out⟩
    case measure=>simp[intOf];omega
   have t0:(aZ aA a k==1)=false:=by simp[hx0]
   have d:Hid (fZ (fun b=>decide (aZ aA a b=1)) (k+1)=fZ (fun b=>decide (aZ aA a b=1)) k):=by show _=_;rw[fZ,if_neg (by simpa using hx0),aTv]
   clear hx0;go_wp2;go_roundw
   case rel=>exact⟨k+1,q,m,c,by omega,by go_num,rfl,by omega,by rw[d.out];exact h.out,l.out,r.out⟩
   case measure=>simp[intOf];omega
  have d:Hid (fZ (fun b=>decide (aZ aA a b=1)) k=kN aA n a):=by show _=_;unfold kN;rw[show k=n by omega]
  go_wp2;go_ret;exact dO (by rw[←d.out];have:=HO.out.1;simpa using this) (by rw[←d.out];exact bM HO (Nat.le_succ _)) j
theorem aHl (aA aB a:Int)(p:OA)(n b:Nat)(xs:List Int)(w:World)(hS:Sl w p n b 1 (ivs xs))(c:aN aA aB xs=true)(h0:0≤a)(h1:a<n):
  U 208 #[aH aA aB p n b,a] w (bC (kN aA n a) w):=by
 have hl:=hS.ilen;obtain⟨g1,g2,g3,g4,g5,g6,g7,g8,g9⟩:=bN c;refine aNo aA aB a p n b w (by omega) (fun k hk w' hx=> ?_);have:=aCp aA aB a k p n b xs w' (hS.ext hx);unfold dS at this;rwa[if_pos ⟨c,by omega,by omega⟩]at this
def zH (x:Int):Nat→List Int→Int
 |_,[]=> -1
 |b,y::ys=>if y=x then(b:Int)else zH x (b+1) ys
def pV (xs:List Int)(x:Int):Int:=zH x 0 xs
theorem aP6 {x:Int}: ∀(xs:List Int) (k b:Nat),xs[k]? =some x→x∉xs.take k→zH x b xs=((b+k:Nat):Int):=by
 intro xs;induction xs with
 |nil=>intro k b h;simp at h
 |cons y ys ih=>
  intro k b h hn;unfold zH;cases k with
  |zero=>simp at h;rw[if_pos h];rfl
  |succ k=>simp only[aVi]at h;simp only[List.take_succ_cons,aTi,not_or]at hn;rw[if_neg (fun e=>hn.1 e.symm),ih k (b+1) h hn.2];congr 1;omega
theorem aJ0 {x:Int}: ∀(xs:List Int) (b:Nat),x∉xs→zH x b xs= -1:=by
 intro xs;induction xs with
 |nil=>intro b _;rfl
 |cons y ys ih=>intro b hn;simp only[aTi,not_or]at hn;unfold zH;rw[if_neg (fun e=>hn.1 e.symm),ih _ hn.2]
theorem uB {xs:List Int}{x:Int}{k:Nat}(h:xs[k]? =some x) (hn:x∉xs.take k):pV xs x=k:=by unfold pV;rw[aP6 xs k 0 h hn];simp
theorem vN {xs:List Int}{x:Int}(h:x∉xs):pV xs x= -1:=aJ0 xs 0 h
def jH (aA aB:Int)(xs:List Int)(id:Int):Int:=if aN aA aB xs=true∧1≤id then pV xs id else -1
theorem aA8 (aA aB id:Int)(p:OA)(n a:Nat)(b:Bool)(w:World)(hb:b=false∨b=true∧id<1)(HV:xB 25 #[aH aA aB p n a] w b):
  U 148 #[aH aA aB p n a,id] w (O (I (-1)) w):=by
 rcases hb with rfl|⟨rfl,hi⟩
 all_goals
  go_enter func148,ntmps148;go_wp2_with fail;refine Z (HV _ (by exact .alloc (.refl _) _)) fun w1 c=>?_
  go_wp2;go_ret;exact⟨rfl,by exact .trans (.alloc (.refl _) _) c⟩
theorem aCi (aA aB id:Int)(p:OA)(n c:Nat)(xs:List Int)(w:World)(hn:n≤12)(hi:1≤id)(HS:Hid (Sl w p n c 1 (ivs xs)))(HV:xB 25 #[aH aA aB p n c] w true):
  U 148 #[aH aA aB p n c,id] w (O (I (pV xs id)) w):=by
 have hl:=xQ HS.out.ilen;go_enter func148,ntmps148;go_wp2_with fail;refine Z (HV _ (by exact .alloc (.refl _) _)) fun w1 d=>?_
 have hB:=(Blk.new w TH3 #[aA,aB,.slice p n c]).ext d;have X1:=xQ (show Ext w w1 by exact .trans (.alloc (.refl _) _) d);have f:=xQ (HS.out.ext X1.out);obtain⟨b0,b1,b2⟩:=hB.cells3;clear d hB HS;go_wp2;go_loop [5] (fun i=> ∃k:Nat,k≤n∧i=I k∧id∉xs.take k) (fun i=>n-(intOf i).toNat)
 case atStart=>exact⟨0,aTd _,rfl,by simp⟩
 case round=>
  obtain⟨k,hk,rfl,hc⟩:=hrel;have HC:=xQ hc;clear hc;by_cases hlt:k<n
  ·obtain⟨b,j,y,rfl,hx,hb,g⟩:=f.out.int_at hlt;have HX:=xQ hx;clear hx;by_cases hy:y=id
   ·have t1:(y==id)=true:=by simp[hy]
    have a:Hid (pV xs id=k):=uB (by rw[HX.out,hy]) HC.out;clear hy;go_wp2;go_ret;exact⟨eS a.out.symm,X1.out⟩
   have t1:(y==id)=false:=by simp[hy]
   have a:Hid (id∉xs.take (k+1)):=by show _∉_;rw[bA HX.out,aTn,aTp];exact fun h=>h.elim HC (fun e=>hy e.symm)
   clear hy;go_wp2;go_round
   case rel=>exact⟨k+1,by omega,by go_num,a.out⟩
   case measure=>simp[intOf];omega
  have a:Hid (pV xs id= -1):=vN (by have:=HC.out;rwa[aTa (by rw[hl.out];omega)]at this);go_wp2;go_ret;exact⟨eS a.out.symm,X1.out⟩
theorem uV (aA aB id:Int)(p:OA)(n a:Nat)(xs:List Int)(w:World)(hS:Sl w p n a 1 (ivs xs)):
  U 148 #[aH aA aB p n a,id] w (O (I (jH aA aB xs id)) w):=by
 have hl:=hS.ilen;have HV:=fun(w':World) (hx:Ext w w')=>gM aA aB p n a xs w' (hS.ext hx)
 unfold jH;by_cases h:aN aA aB xs=true∧1≤id
 ·rw[if_pos h];rw[h.1]at HV;obtain⟨g1,g2,g3,g4,g5,g6,g7,g8,g9⟩:=bN h.1;exact aCi aA aB id p n a xs w (by omega) h.2 hS HV
 rw[if_neg h]
 exact aA8 aA aB id p n a _ w (by cases hh:aN aA aB xs with
  |false=>exact .inl rfl
  |true=>exact .inr ⟨rfl,by have: ¬1≤id:=fun k=>h ⟨hh,k⟩;omega⟩) HV
end
section
theorem sX {w:World}{g:Nat}{a:Array Value}{e:TypeId}(hg:w.heap[g]? =some (.cells a e (0,0))):Ext w (w.setRow g a):=
 ⟨rfl,rfl,rfl,by simp[World.setRow],fun k hk=>by
  by_cases h:k=g
  ·subst h;rw[setRow_heap w k a a e _ hg,hg]
  ·exact setRow_other w g k _ h⟩
section
variable {P:Program} (w:World)
theorem xI {t e ty:TypeId}{sz:Nat}(E:ElT P t e sz)(base g n:Nat)(cs:Array Value)(hB:Blk w g e cs)(hb:base≤g)(a:cs.size=n*sz)(p:OA)(m c:Nat)(news:List Value)(hs:Sl w p m c sz news)
  (h1: ∀u∈news,u.oneCell'=true)(hn:n+m≤1099511627776):
  ∃p' cap' w',(Builtin.append_ #[t,t] ty #[.slice (some ⟨g,0,none⟩) n n,.slice p m c]).run P w= .ok (.slice p' (n+m) cap') w'∧w'.ownsRow base e sz (.slice p' (n+m) cap') (n+m) (cs.toList++news)∧Ext w w':=by
 obtain⟨i,z,hi,hz,q,v,aa⟩:=E.info;have d:w.ownsRow base e sz (.slice (some ⟨g,0,none⟩) n n) n cs.toList:=⟨by simpa using a,.inr ⟨g,n,cs,rfl,hb,hB,aT5 _,by unfold maxLen;omega,a,by rw[aTa (by simp;omega)]⟩⟩
 by_cases hm:m=0
 ·subst hm;have l:news= []:=aU7 (by simpa using hs.len);subst l;cases p with
  |none=>refine⟨some ⟨g,0,none⟩,n,w,?_,by simpa using d,Ext.refl w⟩;simp[Builtin.append_,run_underlying E.ht,sizeOf,typeInfo,hi,Builtin.lenOf,Builtin.firstCells,storeCells]
  |some ad=>
   have hr:=run_append_room (P:=P) w t ty e i E.ht hi g n n cs hB ad 0 c [] (by simp) (by simp) (by simp) (by omega) (by rw[a,q];simp);have e1:(List.take (n*i.size) cs.toList++ []++List.drop (n*i.size+([]:List Value).length) cs.toList).toArray=cs:=by simp
   rw[e1]at hr;refine⟨some ⟨g,0,none⟩,n,w.setRow g cs,hr,?_,sX hB⟩;have h2:=d.kept (w':=w.setRow g cs) (row:=none) ⟨rfl,rfl,rfl,(sX hB).sz,fun k hk _=>(sX hB).block k hk⟩ (by simp[Value.ownBlock]);simpa using h2
 obtain⟨b,r,rfl,_,hc⟩:=hs.rd (by omega);have f: ∀j u,news[j]? =some u→w.cell? ((⟨b,r,none⟩:Addr).add j)=some u:=by intro j u hu;rw[lT,hc j (by rw[←hs.len];exact(aT9.1 hu).1)];exact hu
 have s:(n+m)*i.bytes≤140737488355328:=by have:(n+m)*i.bytes≤(n+m)*64:=Nat.mul_le_mul_left _ v;omega
 have o: ∀j u,cs.toList[j]? =some u→w.cell? ((⟨g,0,none⟩:Addr).add j)=some u:=d.cells (g:=g) rfl;have hr:=run_append_grow (P:=P) w t ty e i z E.ht hi hz ⟨g,0,none⟩ n n cs.toList (by simpa[q]using a) o ⟨b,r,none⟩ m c news (by rw[q];exact hs.len) f (by omega) (by omega) (growslice_fits (by omega) s);have y:=grownCap_ge w (n+m) n e;have x:grownCap w (n+m) n e≤maxLen:=grownCap_le_maxLen w (n+m) n e (by unfold maxLen;omega);have h:(cs.toList++news).length=(n+m)*sz:=by rw[aTc,hs.len,Nat.add_mul];simp[a]
 refine⟨_,_,_,hr,⟨h,.inr ⟨w.heap.size,_,_,rfl,?_,heap_alloc_new w.drew _,y,x,?_,?_⟩⟩,(Ext.refl w).drew.alloc _⟩
 ·have:=hB.lt;omega
 ·simp only[Array.size_append,List.size_toArray,size_zeroCells,aa,hs.len,a,←Nat.add_mul];congr 1;omega
 simp only[Array.toList_append,aTx];rw[←aTx,←h];exact List.take_left
theorem xW {o:Oper}{a:Act}{K:Act→World→Prop}{Q:Exit→Act→World→Prop}{t e:TypeId}{sz:Nat}(E:ElT P t e sz)(s x:Operand)
  (ho:o.op= .call {callee:= .builtin .append,args:=#[s,x],argTypes:=#[t,t]})
  (base g n:Nat)(cs:Array Value)(hs:a.eval s= .slice (some ⟨g,0,none⟩) n n)(hB:Blk w g e cs)(hb:base≤g)(d:cs.size=n*sz)
  (p:OA)(m c:Nat)(news:List Value)(hx:a.eval x= .slice p m c)(hr:Sl w p m c sz news)(h1: ∀u∈news,u.oneCell'=true)
  (hn:n+m≤1099511627776)
  (h: ∀p' cap' w',w'.ownsRow base e sz (.slice p' (n+m) cap') (n+m) (cs.toList++news)→Ext w w'→K (a.put o.dst (.slice p' (n+m) cap')) w'):o.wp P a w K Q:=by
 obtain⟨p',cap',w',b,h2,h3⟩:=xI (ty:=o.type) w E base g n cs hB hb d p m c news hr h1 hn;unfold Oper.wp execOp;simp only[ho,resolve,invoke,builtin,Sem.run_bind,Sem.run_pure,Result.andThen_ok,List.map_toArray,aUp,List.map_nil,hs,hx,b];exact h p' cap' w' h2 h3
theorem uT {b:Array Oper}{i:Nat}{o:Oper}{a:Act}{G:Nat→Value→World→Prop}{t e:TypeId}{sz:Nat}(E:ElT P t e sz)(f:o.guard=none)(s x:Operand)
  (ho:o.op= .call {callee:= .builtin .append,args:=#[s,x],argTypes:=#[t,t]})
  (base g n:Nat)(cs:Array Value)(hs:a.eval s= .slice (some ⟨g,0,none⟩) n n)(hB:Blk w g e cs)(hb:base≤g)(d:cs.size=n*sz)
  (p:OA)(m c:Nat)(news:List Value)(hx:a.eval x= .slice p m c)(hr:Sl w p m c sz news)(h1: ∀u∈news,u.oneCell'=true)
  (hn:n+m≤1099511627776)(h: ∀p' cap' w',w'.ownsRow base e sz (.slice p' (n+m) cap') (n+m) (cs.toList++news)→G i (.slice p' (n+m) cap') w'):
  rA P b G Ext i o w a:=by
 intro K hK;have hw:Region.wanted o (yielded b a.tmps)=true:=by simp[Region.wanted,f]
 rw[if_pos hw];exact xW w E s x ho base g n cs hs hB hb d p m c news hx hr h1 hn (fun p' cap' w' h2 h3=>hK _ _ ⟨_,rfl,h p' cap' w' h2,h3⟩)
end
end
section
open Go.Proofs.Tryz
theorem dV {w:World}{B n:Nat}{q:OA}{a:Nat}{xs:List Value}{g:Nat}{t:TypeId}{cs:Array Value}(ho:w.ownsRow B TI 1 (.slice q n a) n xs)(hb:Blk w g t cs)(ht:t≠TI):(Value.slice q n a).ownBlock≠some g:=by
 intro he;rcases ho.2 with⟨h1,h2⟩|⟨g',cap',cur,h1,hb',hg,hn,hm,hs,ht'⟩
 ·injection h1 with e1;subst e1;simp[Value.ownBlock]at he
 injection h1 with e1 e2 e3;subst e1;simp[Value.ownBlock]at he;subst he;unfold Blk at hb;rw[hb]at hg;injection hg with e;injection e with e1 e2;exact ht e2
theorem gQ (aA aB:Int)(p:OA)(n a:Nat)(xs:List Int)(w:World)(hn:n≤1099511627776)(hS:Sl w p n a 1 (ivs xs)):
  U 48 #[aH aA aB p n a] w (dN aA aB xs w):=by
 have hl:=xQ hS.ilen;have HS:=xQ hS;clear hS;go_enter func48,ntmps48;go_wp2;refine rL (gl [gEq (.pointer (some ⟨w,0,none⟩)),gEq aA,gEq (.pointer (some ⟨w,1,none⟩)),gEq aB,aDr (w.heap.size+2) TI #[] 0,gEq (.pointer (some ⟨w,2,none⟩)),gEq (.slice p n a),(fun v w'=> ∃q c,v= .slice q n c∧w'.ownsRow (w.heap.size+2) TI 1 (.slice q n c) n (ivs xs)),(fun v w'=> ∃q c,v=aH aA aB q n c∧w'.ownsRow (w.heap.size+2) TI 1 (.slice q n c) n (ivs xs))]) 9 10 [(0,some 3),(1,some 4),(2,some 5),(3,some 6),(4,some 7),(5,some 8),(6,some 9),(7,some 10),(8,some 11)] ?steps ?fin (hG:=(kK (aX (bB _) (aX (bB _) (aX (bB _) (aX (bB _) (aX (aBq _ _ _ _) (aX (bB _) (aX (bB _) (aX (fun v w w' ⟨q,c,he,ho⟩ hx=>⟨q,c,he,aW ho hx⟩) (aX (fun v w w' ⟨q,c,he,ho⟩ hx=>⟨q,c,he,aW ho hx⟩) (mU))))))))))))
 case steps=>
  refine sS0 [] ?_;refine sC [(0,some 3)] rfl (fun wi hx=> ?_) ?_
  ·intro v0 h0 K hK;obtain rfl:=h0;have B:=(Blk.new w TH3 #[aA,aB,.slice p n a]).ext (by exact .trans (.drew (.alloc (.refl _) _)) hx:Ext (w.alloc (.cells #[aA,aB,.slice p n a] TH3)) wi);have c0:=B.cl 0;go_simp;exact hK _ _ ⟨I aA,rfl,rfl,Ext.refl _⟩
  refine sS0 [] ?_;refine sC [(2,some 5)] rfl (fun wi hx=> ?_) ?_
  ·intro v2 h2 K hK;obtain rfl:=h2;have B:=(Blk.new w TH3 #[aA,aB,.slice p n a]).ext (by exact .trans (.drew (.alloc (.refl _) _)) hx:Ext (w.alloc (.cells #[aA,aB,.slice p n a] TH3)) wi);have c1:=B.cl 1;go_simp;exact hK _ _ ⟨I aB,rfl,rfl,Ext.refl _⟩
  refine sC [] rfl (fun wi hx=> ?_) ?_
  ·intro K hK;go_simp;exact hK _ _ ⟨.slice (some ⟨wi,0,none⟩) 0 0,rfl,⟨wi.heap.size,rfl,by have:=hx.sz;simp at this;omega,Blk.new _ _ _⟩,(Ext.refl _).alloc _⟩
  refine sS0 [] ?_;refine sC [(5,some 8)] rfl (fun wi hx=> ?_) ?_
  ·intro v5 h5 K hK;obtain rfl:=h5;have B:=(Blk.new w TH3 #[aA,aB,.slice p n a]).ext (by exact .trans (.drew (.alloc (.refl _) _)) hx:Ext (w.alloc (.cells #[aA,aB,.slice p n a] TH3)) wi);have c2:=B.cl 2;go_simp;exact hK _ _ ⟨.slice p n a,rfl,rfl,Ext.refl _⟩
  refine sC [(4,some 7),(6,some 9)] rfl (fun wi hx=> ?_) ?_
  ·intro v4 h4 v6 h6;obtain⟨g4,rfl,e,B4⟩:=h4;obtain rfl:=h6;refine uT _ fY rfl (.tmp 7) (.tmp 9) rfl (w.heap.size+2) g4 0 #[] rfl B4 e (by simp) p n a (ivs xs) rfl (HS.out.ext (Ext.trans (by exact .drew (.alloc (.alloc (.refl _) _) _)) hx)) (rN _) (by omega) (fun p' cap' w' h2=>⟨p',cap',by rw[aUf],by simpa using h2⟩)
  refine sC [(1,some 4),(3,some 6),(7,some 10)] rfl (fun wi hx=> ?_) StepsL.nil
  ·intro v1 h1 v3 h3 v7 h7 K hK;subst h1 h3;obtain⟨q7,c7,rfl,b⟩:=h7;go_simp;exact hK _ _ ⟨aH aA aB q7 n c7,rfl,⟨q7,c7,rfl,b⟩,Ext.refl _⟩
 case fin=>
  intro wi hx v0 h0 v1 h1 v2 h2 v3 h3 v4 h4 v5 h5 v6 h6 v7 h7 v8 h8;subst h0 h1 h2 h3;obtain⟨g4,rfl,e,B4⟩:=h4;subst h5 h6;obtain⟨q7,c7,rfl,b⟩:=h7;obtain⟨q8,c8,rfl,f⟩:=h8;have BZ:Blk wi (w.heap.size+1) TH3 #[(),(),((),())]:=by have:=(Blk.new (w.alloc (.cells #[aA,aB,.slice p n a] TH3)) TH3 #[(),(),((),())]).ext hx.of_drew;simpa using this
  obtain⟨z0,h,z1,i,z2,j⟩:=BZ.trif;have z1:w.heap.size+1<wi.heap.size:=BZ.lt;have g:Ext w wi:=Ext.trans (by exact .drew (.alloc (.alloc (.refl _) _) _)) hx;clear b hx;refine wpAny_ready (rs:= [9]) (by kernel_rfl) (by simp) ?_;refine AllReady.cons rfl (fun K hK=> ?_) AllReady.nil;go_simp;refine hK _ _ ?_;clear hK K;refine wpAny_done (by kernel_rfl) ?_ _;go_wp2;have hY:=((BZ.set 0 (I aA)).set 1 (I aB)).set 2 (.slice q8 n c8);generalize d:World.setCell _ _ _=w3;rw[d]at hY;have hR:ExtR (w.heap.size+1) wi w3:=by rw[←d];exact(((ExtR.refl (w.heap.size+1) wi).setCell (p:=⟨w.heap.size+1,0,none⟩) (.inl rfl) _).setCell (p:=⟨w.heap.size+1,1,none⟩) (.inl rfl) _).setCell (p:=⟨w.heap.size+1,2,none⟩) (.inl rfl) _
  clear d z0 z1 z2 h i j;simp only[aTm,aTk,aTj]at hY;have y_:=hY.tri;exact bodyPost_ret (v:=aH aA aB q8 n c8) (by simp[results,results48,go_sem, *]) rfl (tM hl.out (bM (f.kept hR (.inr (dV f BZ (by decide)))) (by omega)) (ExtR.new g hR (by omega)))
abbrev TSL:TypeId:=99
abbrev eK (f t:Int):Value:= .agg #[f,t]
def bH (aA aB:Int)(xs:List Int)(f t:Int):Bool:=decide (dS aA aB xs f t=1)&&decide (0<xs.getD f.toNat 0)&&decide (xs.getD t.toNat 0=0)
theorem kM {aA aB:Int}{xs:List Int}{a b:Int}(h:dS aA aB xs a b=1):aN aA aB xs=true∧0≤a∧a<xs.length∧0≤b∧b<xs.length∧aZ aA a b=1:=by
 unfold dS at h;split at h
 ·rename_i hh;exact⟨hh.1,hh.2.1.1,hh.2.1.2,hh.2.2.1,hh.2.2.2,h⟩
 omega
theorem Blk.cells2 {w:World}{g:Nat}{t:TypeId}{a b:Value}(h:Blk w g t #[a,b]):w.cell? ⟨g,0,none⟩=some a∧w.cell? ⟨g,1,none⟩=some b:=⟨h.cell 0,h.cell 1⟩
theorem aKq (aA aB f t:Int)(p:OA)(n a:Nat)(A:Int)(w:World)(hA:(A==1)=false)
  (HC:xC 151 #[aH aA aB p n a,f,t] w fun w' e w''=>e= .returned (I A)∧Ext w' w''):
  U 119 #[aH aA aB p n a,eK f t] w (O (.bool false) w):=by
 go_enter func119,ntmps119;go_wp2_with fail;refine Z (HC _ (by exact .alloc (.alloc (.refl _) _) _)) fun w1 b=>?_
 have B1:=xQ (show Blk w1 w TH3 #[aA,aB,.slice p n a]from((Blk.new w TH3 #[aA,aB,.slice p n a]).alloc _).ext b);have S1:=xQ (show Blk w1 (w.heap.size+1) TSL #[f,t] by have:=(Blk.new (w.alloc (.cells #[aA,aB,.slice p n a] TH3)) TSL #[f,t]).ext b;simpa using this);have X1:Ext w w1:=by exact .trans (.alloc (.alloc (.refl _) _) _) b
 clear b;go_wp2;go_ret;exact⟨rfl,by exact X1⟩
theorem aN9 (aA aB:Int)(p:OA)(n c:Nat)(i j:Nat)(x y:Int)(xs:List Int)(w:World)(hn:n≤12)(hi:i<n)(hj:j<n)(HX:Hid (xs[i]? =some x)) (HY:Hid (xs[j]? =some y)) (HS:Hid (Sl w p n c 1 (ivs xs)))
  (HC:xC 151 #[aH aA aB p n c,i,j] w fun w' e w''=>e= .returned (I 1)∧Ext w' w''):
  U 119 #[aH aA aB p n c,eK (i:Int) (j:Int)] w fun e w'=>e= .returned (.bool (decide (0<x)&&decide (y=0)))∧Ext w w':=by
 obtain⟨b,f,x',l,hx,hb,o⟩:=HS.out.int_at hi;obtain⟨b2,r,y',g,hy,_,q⟩:=HS.out.int_at hj;rw[l]at g;injection g with g;injection g with e1 e2;subst e1 e2;have k:=xQ l;clear l;obtain rfl:x=x':=by have:=HX.out.symm.trans hx;injection this
 obtain rfl:y=y':=by have:=HY.out.symm.trans hy;injection this
 clear hx hy;have a1:=aVt i;have a2:=aVt j;have a3:=aVu i n;have a4:=aVu j n;have h:=xQ o;have m:=xQ q;clear o q;by_cases h0:0<x
 ·have d0:decide (0<x)=true:=by simp[h0]
  by_cases h1:y=0
  ·have d1:(y==0)=true:=by simp[h1]
   have d:Hid ((decide (0<x)&&decide (y=0))=true):=by show _=_;simp[h0,h1]
   clear h1;go_enter func119,ntmps119;go_wp2_with fail;refine Z (HC _ (by exact .alloc (.alloc (.refl _) _) _)) fun w1 a=>?_
   have B1:=xQ (show Blk w1 w TH3 #[aA,aB,.slice p n c]from((Blk.new w TH3 #[aA,aB,.slice p n c]).alloc _).ext a);have S1:=xQ (show Blk w1 (w.heap.size+1) TSL #[i,j] by have:=(Blk.new (w.alloc (.cells #[aA,aB,.slice p n c] TH3)) TSL #[i,j]).ext a;simpa using this);have X1:Ext w w1:=by exact .trans (.alloc (.alloc (.refl _) _) _) a
   clear a;obtain⟨c0,c1,c2⟩:=B1.out.cells3;rw[k.out]at c2;obtain⟨s0,s1⟩:=S1.out.cells2;have g1:w1.cell? ⟨b,f+i,none⟩=some (iv x):=(X1.cells.1 _ _ hb).trans h.out;have g2:w1.cell? ⟨b,f+j,none⟩=some (iv y):=(X1.cells.1 _ _ hb).trans m.out;go_wp2;go_ret;exact⟨aT d.out.symm,by exact X1⟩
  have d1:(y==0)=false:=by simp[h1]
  have d:Hid ((decide (0<x)&&decide (y=0))=false):=by show _=_;simp[h1]
  clear h1;go_enter func119,ntmps119;go_wp2_with fail;refine Z (HC _ (by exact .alloc (.alloc (.refl _) _) _)) fun w1 a=>?_
  have B1:=xQ (show Blk w1 w TH3 #[aA,aB,.slice p n c]from((Blk.new w TH3 #[aA,aB,.slice p n c]).alloc _).ext a);have S1:=xQ (show Blk w1 (w.heap.size+1) TSL #[i,j] by have:=(Blk.new (w.alloc (.cells #[aA,aB,.slice p n c] TH3)) TSL #[i,j]).ext a;simpa using this);have X1:Ext w w1:=by exact .trans (.alloc (.alloc (.refl _) _) _) a
  clear a;obtain⟨c0,c1,c2⟩:=B1.out.cells3;rw[k.out]at c2;obtain⟨s0,s1⟩:=S1.out.cells2;have g1:w1.cell? ⟨b,f+i,none⟩=some (iv x):=(X1.cells.1 _ _ hb).trans h.out;have g2:w1.cell? ⟨b,f+j,none⟩=some (iv y):=(X1.cells.1 _ _ hb).trans m.out;go_wp2;go_ret;exact⟨aT d.out.symm,by exact X1⟩
 have d0:decide (0<x)=false:=by simp[h0]
 have d:Hid ((decide (0<x)&&decide (y=0))=false):=by show _=_;simp[h0]
 go_enter func119,ntmps119;go_wp2_with fail;refine Z (HC _ (by exact .alloc (.alloc (.refl _) _) _)) fun w1 a=>?_
 have B1:=xQ (show Blk w1 w TH3 #[aA,aB,.slice p n c]from((Blk.new w TH3 #[aA,aB,.slice p n c]).alloc _).ext a);have S1:=xQ (show Blk w1 (w.heap.size+1) TSL #[i,j] by have:=(Blk.new (w.alloc (.cells #[aA,aB,.slice p n c] TH3)) TSL #[i,j]).ext a;simpa using this);have X1:Ext w w1:=by exact .trans (.alloc (.alloc (.refl _) _) _) a
 clear a;obtain⟨c0,c1,c2⟩:=B1.out.cells3;rw[k.out]at c2;obtain⟨s0,s1⟩:=S1.out.cells2;have g1:w1.cell? ⟨b,f+i,none⟩=some (iv x):=(X1.cells.1 _ _ hb).trans h.out;go_wp2;go_ret;exact⟨aT d.out.symm,by exact X1⟩
theorem aGx (aA aB f t:Int)(p:OA)(n a:Nat)(xs:List Int)(w:World)(hS:Sl w p n a 1 (ivs xs)):
  U 119 #[aH aA aB p n a,eK f t] w (O (.bool (bH aA aB xs f t)) w):=by
 have hl:=hS.ilen;have HC:=fun(w':World) (hx:Ext w w')=>aCp aA aB f t p n a xs w' (hS.ext hx)
 unfold bH;by_cases h:dS aA aB xs f t=1
 ·obtain⟨k1,k2,k3,k4,k5,k6⟩:=kM h;obtain⟨g1,g2,g3,g4,g5,g6,g7,g8,g9⟩:=bN k1;rw[h]at HC;have hx:xs[f.toNat]? =some (xs.getD f.toNat 0):=by rw[aTb,aT6 (by omega)];rfl
  have hy:xs[t.toNat]? =some (xs.getD t.toNat 0):=by rw[aTb,aT6 (by omega)];rfl
  have ef:((f.toNat:Nat):Int)=f:=by omega
  have et:((t.toNat:Nat):Int)=t:=by omega
  have:=aN9 aA aB p n a f.toNat t.toNat _ _ xs w (by omega) (by omega) (by omega) hx hy hS (by rw[ef,et];exact HC);rw[ef,et]at this;rw[decide_eq_true h,Bool.true_and];exact this
 have:=aKq aA aB f t p n a _ w (by simpa using h) HC;rw[decide_eq_false h,Bool.false_and,Bool.false_and];exact this
end
end Go.Proofs.YthfmmibomhhmpaaGreatDoor
