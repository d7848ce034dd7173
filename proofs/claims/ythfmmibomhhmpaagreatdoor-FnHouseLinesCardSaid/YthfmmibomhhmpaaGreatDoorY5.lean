/-
  Texts of this proof, packed (@packed).
-/
import Derived.WalkLawsBesides
import Derived.Test.YthfmmibomhhmpaaGreatDoorY3
namespace Go.Proofs.YthfmmibomhhmpaaGreatDoor
set_option linter.unusedSimpArgs false
set_option linter.unusedVariables false
set_option maxHeartbeats 8000000
set_option maxRecDepth 100000
def eZ (val:Int)(s:List Int×List Nat)(v:Nat):List Int×List Nat:=
 if s.1.getD v 0<0 then(s.1.set v val,s.2++ [v])else s
def bS (val:Int)(s:List Int×List Nat)(vs:List Nat):List Int×List Nat:=vs.foldl (eZ val) s
theorem eG (a:Int)(s:List Int×List Nat)(vs:List Nat)(v:Nat):bS a s (vs++ [v])=eZ a (bS a s vs) v:=by simp[bS]
def pS (adj:Nat→List Nat)(src:List Nat):Nat→Nat→Prop
 |0,v=>v∈src
 |d+1,v=> ∃u,pS adj src d u∧v∈adj u
structure Inv (adj:Nat→List Nat) (src:List Nat) (N k:Nat) (s:List Int×List Nat):Prop where
 len:s.1.length=N
 bd: ∀v∈s.2,v<N
 mem: ∀v,v<N→(0≤s.1.getD v 0↔v∈s.2)
 nodup:s.2.Nodup
 mono:s.2.Pairwise (fun a b=>s.1.getD a 0≤s.1.getD b 0)
 near: ∀u,s.2[k]? =some u→ ∀v∈s.2,s.1.getD v 0≤s.1.getD u 0+1
 sound: ∀v∈s.2,pS adj src (s.1.getD v 0).toNat v
 src: ∀v∈src,v∈s.2∧s.1.getD v 0=0
 done: ∀i u,i<k→s.2[i]? =some u→ ∀v∈adj u,v∈s.2∧s.1.getD v 0≤s.1.getD u 0+1
structure Mid (adj:Nat→List Nat) (src:List Nat) (N k u:Nat) (ws:List Nat) (s0 s:List Int×List Nat):Prop where
 len:s.1.length=N
 bd: ∀v∈s.2,v<N
 mem: ∀v,v<N→(0≤s.1.getD v 0↔v∈s.2)
 nodup:s.2.Nodup
 mono:s.2.Pairwise (fun a b=>s.1.getD a 0≤s.1.getD b 0)
 near: ∀v∈s.2,s.1.getD v 0≤s.1.getD u 0+1
 sound: ∀v∈s.2,pS adj src (s.1.getD v 0).toNat v
 pre: ∃r,s.2=s0.2++r
 same: ∀v∈s0.2,s.1.getD v 0=s0.1.getD v 0
 seen: ∀v∈ws,v∈s.2
theorem cP {l:List Int}{v:Nat}{x:Int}(h:v<l.length):(l.set v x).getD v 0=x:=by simp[List.getD,h]
theorem bU {l:List Int}{v w:Nat}{x:Int}(h:v≠w):(l.set v x).getD w 0=l.getD w 0:=by simp[List.getD,aV2 h]
theorem Mid.step {adj:Nat→List Nat}{src:List Nat}{N k u w:Nat}{ws:List Nat}{s0 s:List Int×List Nat}(h:Mid adj src N k u ws s0 s)(hu:u∈s0.2)(hw:w∈adj u)(i:w<N)(f:s0.1.getD u 0=s.1.getD u 0):
  Mid adj src N k u (ws++ [w]) s0 (eZ (s0.1.getD u 0+1) s w):=by
 have g:u∈s.2:=by obtain⟨r,hr⟩:=h.pre;rw[hr];exact aU8 _ hu
 have n:0≤s.1.getD u 0:=(h.mem u (h.bd u g)).2 g;unfold eZ;by_cases hc:s.1.getD w 0<0
 ·rw[if_pos hc];have j:w∉s.2:=fun hm=>by have:=(h.mem w i).2 hm;omega
  have d: ∀v∈s.2,w≠v:=fun v hv e=>j (by rw[e];exact hv)
  have m:w<s.1.length:=by rw[h.len];exact i
  have c:=cP (x:=s0.1.getD u 0+1) m;refine⟨by simp[h.len],?_,?_,?_,?_,?_,?_,?_,?_,?_⟩
  ·intro v hv;rcases aTn.1 hv with hv|hv
   ·exact h.bd v hv
   simp at hv;rw[hv];exact i
  ·intro v hv;by_cases e:w=v
   ·subst e;dsimp only;rw[c];exact⟨fun _=>by simp,fun _=>by omega⟩
   dsimp only;rw[bU e,h.mem v hv];simp;intro e2;exact absurd e2.symm e
  ·dsimp only;rw[List.nodup_append];refine⟨h.nodup,by simp,fun a ha b hb=> ?_⟩;simp at hb;subst hb;exact fun e=>j (by rw[←e];exact ha)
  ·dsimp only;rw[List.pairwise_append];refine⟨?_,by simp,?_⟩
   ·refine h.mono.imp_of_mem ?_;intro a b ha hb l;rw[bU (d a ha),bU (d b hb)];exact l
   intro a ha b hb;simp at hb;subst hb;rw[c,bU (d a ha),f];exact h.near a ha
  ·intro v hv;dsimp only at hv⊢;rw[bU (d u g)];rcases aTn.1 hv with hv|hv
   ·rw[bU (d v hv)];exact h.near v hv
   simp at hv;subst hv;rw[c,f];exact Int.le_refl _
  ·intro v hv;dsimp only at hv⊢;rcases aTn.1 hv with hv|hv
   ·rw[bU (d v hv)];exact h.sound v hv
   simp at hv;subst hv;rw[c,f];have e:(s.1.getD u 0+1).toNat=(s.1.getD u 0).toNat+1:=by omega
   rw[e];exact⟨u,h.sound u g,hw⟩
  ·obtain⟨r,hr⟩:=h.pre;exact⟨r++ [w],by dsimp only;rw[hr,List.append_assoc]⟩
  ·intro v hv;have:v∈s.2:=by obtain⟨r,hr⟩:=h.pre;rw[hr];exact aU8 _ hv
   dsimp only;rw[bU (d v this)];exact h.same v hv
  intro v hv;dsimp only;rcases aTn.1 hv with hv|hv
  ·exact aU8 _ (h.seen v hv)
  simp at hv;subst hv;simp
 rw[if_neg hc]
 exact⟨h.len,h.bd,h.mem,h.nodup,h.mono,h.near,h.sound,h.pre,h.same,fun v hv=>by
  rcases aTn.1 hv with hv|hv
  ·exact h.seen v hv
  ·simp at hv;subst hv;exact(h.mem v i).1 (by omega)⟩
theorem Inv.mid {adj:Nat→List Nat}{src:List Nat}{N k u:Nat}{s:List Int×List Nat}(h:Inv adj src N k s)(hu:s.2[k]? =some u):Mid adj src N k u [] s s:=
 ⟨h.len,h.bd,h.mem,h.nodup,h.mono,h.near u hu,h.sound,⟨[],by simp⟩,fun _ _=>rfl,fun v hv=>by cases hv⟩
theorem Mid.many {adj:Nat→List Nat}{src:List Nat}{N k u:Nat}{s0:List Int×List Nat}(hu:u∈s0.2): ∀(vs ws:List Nat) (s:List Int×List Nat),Mid adj src N k u ws s0 s→(∀v∈vs,v∈adj u∧v<N)→Mid adj src N k u (ws++vs) s0 (bS (s0.1.getD u 0+1) s vs):=by
 intro vs;induction vs with
 |nil=>intro ws s h _;simpa[bS]using h
 |cons v vs ih=>intro ws s h hv;have h1:=h.step hu (hv v (by simp)).1 (hv v (by simp)).2 (h.same u hu).symm;have:=ih (ws++ [v]) _ h1 (fun x hx=>hv x (by simp[hx]));simpa[bS]using this
theorem Inv.step {adj:Nat→List Nat}{src:List Nat}{N k u:Nat}{s:List Int×List Nat}(h:Inv adj src N k s)(hu:s.2[k]? =some u) (ha: ∀v∈adj u,v<N):Inv adj src N (k+1) (bS (s.1.getD u 0+1) s (adj u)):=by
 have n:u∈s.2:=aT7 hu;have m:=Mid.many n (adj u) [] s (h.mid hu) (fun v hv=>⟨hv,ha v hv⟩);rw[aUx]at m;obtain⟨r,hr⟩:=m.pre;have hk:k<s.2.length:=(aT9.1 hu).1;refine⟨m.len,m.bd,m.mem,m.nodup,m.mono,?_,m.sound,?_,?_⟩
 ·intro u' c v hv;have h1:=m.near v hv;have o:(bS (s.1.getD u 0+1) s (adj u)).1.getD u 0≤(bS (s.1.getD u 0+1) s (adj u)).1.getD u' 0:=by
   obtain⟨g,e'⟩:=aT9.1 c;have l:(bS (s.1.getD u 0+1) s (adj u)).2[k]? =some u:=by rw[hr,aTr hk];exact hu
   obtain⟨j,e2⟩:=aT9.1 l;have:=List.pairwise_iff_getElem.1 m.mono k (k+1) j g (by omega);rw[e',e2]at this;exact this
  omega
 ·intro v hv;obtain⟨a,b⟩:=h.src v hv;exact⟨by rw[hr];exact aU8 _ a,by rw[m.same v a];exact b⟩
 intro i u' hi c v hv;by_cases hik:i<k
 ·have f:i<s.2.length:=by omega
  rw[hr,aTr f]at c;obtain⟨a,b⟩:=h.done i u' hik c v hv;have d:u'∈s.2:=aT7 c;exact⟨by rw[hr];exact aU8 _ a,by rw[m.same v a,m.same u' d];exact b⟩
 obtain rfl:i=k:=by omega
 rw[hr,aTr hk,hu]at c;injection c with c;subst c;have e:=m.seen v hv;exact⟨e,m.near v e⟩
theorem qJ: ∀ {N:Nat} {l:List Nat},l.Nodup→(∀v∈l,v<N)→l.length≤N:=by
 intro N;induction N with
 |zero=>
  intro l _ hb;cases l with
  |nil=>simp
  |cons a l=>exact absurd (hb a (by simp)) (by omega)
 |succ N ih=>
  intro l h hb
  have h1:=ih (h.erase N) (fun v hv=>by
   have:=h.mem_erase_iff.1 hv;have:=hb v this.2
   omega)
  rw[List.length_erase]at h1;split at h1<;>omega
theorem Inv.qlen {adj:Nat→List Nat}{src:List Nat}{N k:Nat}{s:List Int×List Nat}(h:Inv adj src N k s):s.2.length≤N:=qJ h.nodup h.bd
theorem Inv.far {adj:Nat→List Nat}{src:List Nat}{N k:Nat}{s:List Int×List Nat}(h:Inv adj src N k s)(hk:s.2.length≤k): ∀d v,pS adj src d v→v∈s.2∧s.1.getD v 0≤d:=by
 intro d;induction d with
 |zero=>intro v hv;obtain⟨a,b⟩:=h.src v hv;exact⟨a,by omega⟩
 |succ d ih=>rintro v ⟨u,hu,hv⟩;obtain⟨a,b⟩:=ih u hu;obtain⟨i,hi,e⟩:=aUe a;obtain⟨c1,c2⟩:=h.done i u (by omega) (by rw[aT6 hi,e]) v hv;exact⟨c1,by omega⟩
structure uP (adj:Nat→List Nat) (src:List Nat) (N:Nat) (D:List Int):Prop where
 len:D.length=N
 zero: ∀v,v<N→(D.getD v 0=0↔v∈src)
 edge: ∀u v,u<N→0≤D.getD u 0→v∈adj u→0≤D.getD v 0∧D.getD v 0≤D.getD u 0+1
 back: ∀v,v<N→0<D.getD v 0→ ∃u,u<N∧v∈adj u∧D.getD u 0=D.getD v 0-1
theorem Inv.dist {adj:Nat→List Nat}{src:List Nat}{N k:Nat}{s:List Int×List Nat}(h:Inv adj src N k s)(hk:s.2.length≤k):uP adj src N s.1:=by
 have hb: ∀v,v<N→0<s.1.getD v 0→ ∃u,u∈s.2∧v∈adj u∧s.1.getD u 0=s.1.getD v 0-1:=by
  intro v hv h0;have f:=(h.mem v hv).1 (by omega);have hw:=h.sound v f;obtain⟨d,hd⟩: ∃d,(s.1.getD v 0).toNat=d+1:=⟨(s.1.getD v 0).toNat-1,by omega⟩
  rw[hd]at hw;obtain⟨u,hu,g⟩:=hw;obtain⟨a,b⟩:=h.far hk d u hu;obtain⟨i,hi,e⟩:=aUe a;obtain⟨_,c⟩:=h.done i u (by omega) (by rw[aT6 hi,e]) v g;exact⟨u,a,g,by omega⟩
 refine⟨h.len,?_,?_,?_⟩
 ·intro v hv;constructor
  ·intro e;have f:=(h.mem v hv).1 (by omega);have:=h.sound v f;rw[e]at this;exact this
  intro hm;exact(h.src v hm).2
 ·intro u v hu h0 hv;have j:=(h.mem u hu).1 h0;obtain⟨i,hi,e⟩:=aUe j;obtain⟨a,b⟩:=h.done i u (by omega) (by rw[aT6 hi,e]) v hv;exact⟨(h.mem v (h.bd v a)).2 a,b⟩
 intro v hv h0;obtain⟨u,a,b,c⟩:=hb v hv h0;exact⟨u,h.bd u a,b,c⟩
def rZ (a b:Int):Int:=max (a-b) (b-a)
def aZ (aA a b:Int):Int:=rZ (a%aA) (b%aA)+rZ (a/aA) (b/aA)
def aU (aA:Int)(n a:Nat):List Nat:=(List.range n).filter (fun b=>decide (aZ aA a b=1))
theorem aBs (a b:Int):rZ a b=rZ b a:=by unfold rZ;omega
theorem aA1 (aA a b:Int):aZ aA a b=aZ aA b a:=by unfold aZ;rw[aBs (a%aA),aBs (a/aA)]
theorem bZ {aA:Int}{n a b:Nat}:b∈aU aA n a↔b<n∧aZ aA a b=1:=by simp[aU]
theorem gZ {aA:Int}{n a b:Nat}(ha:a<n)(h:b∈aU aA n a):a∈aU aA n b:=by rw[bZ]at h⊢;exact⟨ha,by rw[aA1];exact h.2⟩
section
open Go.RowKit
def eE:List Int→List Int→Bool
 |_,[]=>true
 |seen,x::xs=>decide (0≤x∧x≤99)&& !(decide (0<x)&&seen.contains x)&&eE (seen++ [x]) xs
def iC (aA aB:Int)(n:Nat):Bool:=decide (2≤aA∧aA≤4∧2≤aB∧aB≤3∧(n:Int)=aA*aB)
def aN (aA aB:Int)(xs:List Int):Bool:=iC aA aB xs.length&&eE [] xs
theorem uN (a:List Int)(x:Int)(xs:List Int):eE a (x::xs)=(decide (0≤x∧x≤99)&& !(decide (0<x)&&a.contains x)&&eE (a++ [x]) xs):=rfl
theorem zY {xs:List Int}{k:Nat}{x:Int}(h:xs[k]? =some x):eE (xs.take k) (xs.drop k)=(decide (0≤x∧x≤99)&& !(decide (0<x)&&(xs.take k).contains x)&&eE (xs.take (k+1)) (xs.drop (k+1))):=by rw[rU h,bA h,uN]
theorem wX {xs:List Int}{k:Nat}(h:xs.length≤k):eE (xs.take k) (xs.drop k)=true:=by rw[aUr h];rfl
theorem eI: ∀(xs seen:List Int),eE seen xs=true↔(∀x∈xs,0≤x∧x≤99)∧(∀x∈xs,0<x→x∉seen)∧(xs.filter (fun x=>decide (0<x))).Nodup:=by
 intro xs;induction xs with
 |nil=>intro seen;simp[eE]
 |cons x xs ih=>
  intro seen;rw[uN,aTf,aTf,ih];simp only[decide_eq_true_eq,Bool.not_eq_true',Bool.and_eq_false_iff,decide_eq_false_iff_not,List.contains_eq_mem,aTi,aTn,List.not_mem_nil,or_false];constructor
  ·rintro⟨⟨h1,h2⟩,h3,h4,h5⟩;refine⟨?_,?_,?_⟩
   ·rintro y (rfl|hy)
    ·exact h1
    exact h3 y hy
   ·rintro y (rfl|hy) h0
    ·rcases h2 with h2|h2
     ·omega
     exact h2
    exact fun h=>h4 y hy h0 (.inl h)
   by_cases h0:0<x
   ·rw[aV6 (by simpa using h0),List.nodup_cons];refine⟨fun hm=> ?_,h5⟩;have:=aTs.1 hm;exact h4 x this.1 h0 (.inr rfl)
   rw[aV7 (by simpa using h0)];exact h5
  rintro⟨h1,h2,h3⟩;refine⟨⟨h1 x (.inl rfl),?_⟩,fun y hy=>h1 y (.inr hy),?_,?_⟩
  ·by_cases h0:0<x
   ·exact .inr (h2 x (.inl rfl) h0)
   exact .inl h0
  ·intro y hy h0 h;rcases h with h|rfl
   ·exact h2 y (.inr hy) h0 h
   rw[aV6 (by simpa using h0),List.nodup_cons]at h3;exact h3.1 (aTs.2 ⟨hy,by simpa using h0⟩)
  by_cases h0:0<x
  ·rw[aV6 (by simpa using h0),List.nodup_cons]at h3;exact h3.2
  rw[aV7 (by simpa using h0)]at h3;exact h3
theorem cG {aA aB:Int}{n:Nat}(h:iC aA aB n=true):2≤aA∧aA≤4∧2≤aB∧aB≤3∧4≤n∧n≤12∧(n:Int)=aA*aB:=by
 simp only[iC,decide_eq_true_eq]at h;obtain⟨h1,h2,h3,h4,h5⟩:=h;have hw:aA=2∨aA=3∨aA=4:=by omega
 have hd:aB=2∨aB=3:=by omega
 refine⟨h1,h2,h3,h4,?_,?_,h5⟩
 ·rcases hw with rfl|rfl|rfl<;>rcases hd with rfl|rfl<;>omega
 rcases hw with rfl|rfl|rfl<;>rcases hd with rfl|rfl<;>omega
theorem aB4 {aA aB:Int}{n:Nat}(hs:iC aA aB n=false):aA<2∨2≤aA∧4<aA∨2≤aA∧aA≤4∧aB<2∨2≤aA∧aA≤4∧2≤aB∧3<aB∨2≤aA∧aA≤4∧2≤aB∧aB≤3∧0≤aA*aB∧aA*aB≤12∧((n:Int)!=aA*aB)=true:=by
 simp only[iC,decide_eq_false_iff_not]at hs;by_cases a1:2≤aA
 ·by_cases a2:aA≤4
  ·by_cases a3:2≤aB
   ·by_cases a4:aB≤3
    ·refine .inr (.inr (.inr (.inr ⟨a1,a2,a3,a4,?_,?_,?_⟩)))
     ·exact Int.mul_nonneg (by omega) (by omega)
     ·have:=Int.mul_le_mul a2 a4 (by omega) (by omega);omega
     simp only[bne_iff_ne,ne_eq];exact fun e=>hs ⟨a1,a2,a3,a4,e⟩
    exact .inr (.inr (.inr (.inl ⟨a1,a2,a3,by omega⟩)))
   exact .inr (.inr (.inl ⟨a1,a2,by omega⟩))
  exact .inr (.inl ⟨a1,by omega⟩)
 exact .inl (by omega)
def tE (xs:List Int)(cs:Array Value):Prop:=cs.size=100∧ ∀j:Nat,j<100→cs[j]? =some (.bool (decide (0<j)&&xs.contains (j:Int)))
theorem aE8:tE [] (Array.replicate 100 (.bool false)):=⟨by simp,fun j hj=>by rw[Array.getElem?_replicate,if_pos hj];simp⟩
theorem aE7 {xs:List Int}{cs:Array Value}(h:tE xs cs)(x:Int)(h0:0≤x)(h1:x≤99)(hx:0<x→xs.contains x=false):tE (xs++ [x]) (cs.setIfInBounds x.toNat (.bool (decide (0<x)))):=by
 refine⟨by simpa using h.1,fun j hj=> ?_⟩;rw[Array.getElem?_setIfInBounds];by_cases e:x.toNat=j
 ·subst e;rw[if_pos rfl,if_pos (by rw[h.1];exact hj)];have:((x.toNat:Nat):Int)=x:=by omega
  rw[this];simp
 rw[if_neg e,h.2 j hj];have a:((j:Int)==x)=false:=by rw[beq_eq_false_iff_ne];omega
 rw[beq_eq_false_iff_ne]at a;simp[List.contains_eq_mem,aTn,a]
end
section
open Go.RowKit Go.Proofs.Tryz
abbrev aH (aA aB:Int)(p:OA)(n cap:Nat):Value:= .agg #[aA,aB,.slice p n cap]
theorem aIl (aA aB:Int)(p:OA)(n a:Nat)(w:World)(hn:n≤9223372036854775807)
  (h:aA<2∨2≤aA∧4<aA∨2≤aA∧aA≤4∧aB<2∨2≤aA∧aA≤4∧2≤aB∧3<aB∨2≤aA∧aA≤4∧2≤aB∧aB≤3∧0≤aA*aB∧aA*aB≤12∧((n:Int)!=aA*aB)=true):
  U 42 #[aH aA aB p n a] w (O (.bool false) w):=by
 rcases h with h|⟨h0,h⟩|⟨h0,h1,h⟩|⟨h0,h1,h2,h⟩|⟨h0,h1,h2,h3,h4,h5,h⟩
 all_goals
  go_enter func42,ntmps42;go_wp2;go_ret;exact⟨rfl,by exact .alloc (.refl _) _⟩
theorem aMv:tE [] Tryz.zeroCells118:=⟨by kernel_rfl,by
 have e:Tryz.zeroCells118=Array.replicate 100 (.bool false):=by kernel_rfl
 rw[e];exact aE8.2⟩
theorem aFr (aA aB:Int)(p:OA)(n f:Nat)(xs:List Int)(w:World)(h0:2≤aA)(h1:aA≤4)(h2:2≤aB)(h3:aB≤3)(h4:0≤aA*aB)(h5:aA*aB≤12)(h6:((n:Int)!=aA*aB)=false)(hn:n≤12)
  (HS:Hid (Sl w p n f 1 (ivs xs))):
  U 42 #[aH aA aB p n f] w (O (.bool (eE [] xs)) w):=by
 go_enter func42,ntmps42;go_wp2;clear h4 h5 h6;go_loopw [38] (fun i wr=> ∃(k:Nat) (cs:Array Value),k≤n∧i=I k∧Blk wr (w.heap.size+1) 118 cs∧tE (xs.take k) cs∧eE [] xs=eE (xs.take k) (xs.drop k)∧Ext w wr) (fun i _=>n-(intOf i).toNat)
 case atStart=>exact⟨0,_,aTd _,rfl,by have:=Blk.new (w.alloc (.cells #[aA,aB,.slice p n f] 25)) 118 Tryz.zeroCells118;simpa using this,aMv,rfl,by exact .alloc (.alloc (.refl _) _) _⟩
 case round=>
  obtain⟨k,cs,hk,rfl,hb,ht,d,hE⟩:=hrel;have HB:=xQ hb;have HT:=xQ ht;by_cases hlt:k<n
  ·obtain⟨b,t,x,rfl,hx,o,m⟩:=(HS.out.ext hE).int_at hlt;have a:=xQ (d.trans (zY hx));have HX:=xQ hx;clear d hx hb ht;by_cases hr:0≤x∧x≤99
   ·obtain⟨g,h⟩:=hr;have l:wr.cell? ⟨w.heap.size+1,x.toNat,none⟩=some (.bool (decide (0<x)&&(xs.take k).contains x)):=by
     rw[HB.out.cell,HT.out.2 x.toNat (by omega)];congr 2;rw[show((x.toNat:Nat):Int)=x by omega];congr 1;simp
    have r:wr.frozen? ⟨w.heap.size+1,x.toNat,none⟩=false:=HB.out.frozen _;have q:x<100:=by omega
    cases hs:(decide (0<x)&&(xs.take k).contains x)with
    |true=>rw[hs]at l;have c:=xQ hs;clear hs;go_wp2;go_ret;exact⟨aT (by rw[a.out,c.out];simp),hE⟩
    |false=>
     rw[hs]at l;have c:=xQ hs;clear hs;go_wp2;go_roundw
     case rel=>
      refine⟨k+1,_,by omega,by go_num,HB.out.set _ _,?_,?_,xE⟩
      ·rw[bA HX.out];refine aE7 HT x g h (fun h0=> ?_);have:=c.out;simpa[h0]using this
      rw[a.out,c.out];simp[g,h]
     case measure=>simp[intOf];omega
   have j:eE [] xs=false:=by rw[a.out];simp[hr]
   have HF:=xQ j;clear j;by_cases g:x<0
   ·go_wp2;go_ret;exact⟨aT HF.out.symm,hE⟩
   have h:99<x:=by omega
   have s:0≤x:=by omega
   go_wp2;go_ret;exact⟨aT HF.out.symm,hE⟩
  have a:=xQ (d.trans (wX (by have:=HS.out.ilen;omega)));clear d hb ht;go_wp2;go_ret;exact⟨aT a.out.symm,hE⟩
theorem gU (aA aB:Int)(p:OA)(n a:Nat)(xs:List Int)(w:World)(hS:Sl w p n a 1 (ivs xs)):
  U 42 #[aH aA aB p n a] w (O (.bool (aN aA aB xs)) w):=by
 have hl:=hS.ilen;unfold aN;rw[hl];cases hs:iC aA aB n with
 |true=>obtain⟨h1,h2,h3,h4,h5,h6,h7⟩:=cG hs;rw[Bool.true_and];exact aFr aA aB p n a xs w h1 h2 h3 h4 (by omega) (by omega) (by simp[h7]) h6 hS
 |false=>rw[Bool.false_and];exact aIl aA aB p n a w hS.bd (aB4 hs)
theorem rH {f:FuncId}{a:Array Value}{w:World}{n:Nat}{v:Value}(h:U f a (w.drewN n) fun e w'=>e= .returned v∧w.drewN n=w'):
  U f a (w.drewN n) fun e w'=>e= .returned v∧ ∃m,w'=w.drewN m:=h.mono fun _ _ ⟨he,hm⟩=>⟨he,n,hm.symm⟩
theorem oF (n lo hi:Int)(w:World)(h:lo≤n)(h2:n≤hi):U 27 #[n,lo,hi] w fun e w'=>e= .returned (.bool true)∧w=w':=by go_enter func27,ntmps27;go_wp2;go_ret;exact⟨rfl,rfl⟩
theorem xP (n lo hi:Int)(w:World)(h:n<lo∨lo≤n∧hi<n):U 27 #[n,lo,hi] w fun e w'=>e= .returned (.bool false)∧w=w':=by
 rcases h with h|⟨h,h2⟩
 all_goals
  go_enter func27,ntmps27;go_wp2;go_ret;exact⟨aT (by first|rfl|(simp;omega)),rfl⟩
theorem rM (p:OA)(n c:Nat)(xs:List Int)(x:Int)(w:World)(hS:Sl w p n c 1 (ivs xs)):
  U 54 #[.slice p n c,x] w fun e w'=>e= .returned (.bool (xs.contains x))∧w=w':=by
 have hn:=hS.bd;have hl:=xQ hS.ilen;have HS:=xQ hS;clear hS;go_enter func54,ntmps54;go_wp2;go_loop [5] (fun i=> ∃k:Nat,k≤n∧i=I k∧(xs.take k).contains x=false) (fun i=>n-(intOf i).toNat)
 case atStart=>exact⟨0,aTd _,rfl,by simp⟩
 case round=>
  obtain⟨k,hk,rfl,hc⟩:=hrel;have HC:=xQ hc;clear hc;by_cases hlt:k<n
  ·obtain⟨b,f,y,rfl,hx,hb,d⟩:=HS.out.int_at hlt;have HX:=xQ hx;clear hx;by_cases hy:y=x
   ·have t1:(y==x)=true:=by simp[hy]
    have a:Hid (xs.contains x=true):=by show _=_;rw[List.contains_eq_mem];simp;rw[←hy];exact aT7 HX.out
    clear hy;go_wp2;go_ret;exact⟨aT (by simpa using a.out.symm),rfl⟩
   have t1:(y==x)=false:=by simp[hy]
   have a:Hid ((xs.take (k+1)).contains x=false):=by have:=HC.out;show _=_;rw[bA HX.out];simp only[List.contains_eq_mem,decide_eq_false_iff_not,aTn,aTp,not_or]at this⊢;exact⟨this,fun e=>hy e.symm⟩
   clear hy;go_wp2;go_round
   case rel=>exact⟨k+1,by omega,by go_num,a.out⟩
   case measure=>simp[intOf];omega
  have a:Hid (xs.contains x=false):=by have:=HC.out;rw[aTa (by rw[hl.out];omega)]at this;exact this
  go_wp2;go_ret;exact⟨aT (by simpa using a.out.symm),rfl⟩
theorem aH4 (aA aB:Int)(p:OA)(n a:Nat)(w:World)(hn:n≤9223372036854775807)
  (h:aA<2∨2≤aA∧4<aA∨2≤aA∧aA≤4∧aB<2∨2≤aA∧aA≤4∧2≤aB∧3<aB∨2≤aA∧aA≤4∧2≤aB∧aB≤3∧0≤aA*aB∧aA*aB≤12∧((n:Int)!=aA*aB)=true):
  U 25 #[aH aA aB p n a] w (O (.bool false) w):=by
 rcases h with h|⟨h0,h⟩|⟨h0,h1,h⟩|⟨h0,h1,h2,h⟩|⟨h0,h1,h2,h3,h4,h5,h⟩
 all_goals
  go_enter func25,ntmps25;go_wp2_with go_in;go_ret;exact⟨rfl,by exact .alloc (.refl _) _⟩
theorem aEh (aA aB:Int)(p:OA)(n c:Nat)(xs:List Int)(w:World)(h0:2≤aA)(h1:aA≤4)(h2:2≤aB)(h3:aB≤3)(h4:0≤aA*aB)(h5:aA*aB≤12)(h6:((n:Int)!=aA*aB)=false)(hn:n≤12)
  (HS:Hid (Sl w p n c 1 (ivs xs))):
  U 25 #[aH aA aB p n c] w (O (.bool (eE [] xs)) w):=by
 have t:=HS.out.le;have j:=HS.out.mx;unfold maxLen at j;go_enter func25,ntmps25;go_wp2_with go_in;clear h4 h5 h6;go_loopw [3] (fun i wr=> ∃k:Nat,k≤n∧i=I k∧eE [] xs=eE (xs.take k) (xs.drop k)∧Ext w wr∧w.heap.size<wr.heap.size∧wr.cell? ⟨w,2,none⟩=some (.slice p n c)) (fun i _=>n-(intOf i).toNat)
 case atStart=>exact⟨0,aTd _,rfl,rfl,by exact .alloc (.refl _) _,by simp,by simp⟩
 case round=>
  obtain⟨k,hk,rfl,f,hE,l,h⟩:=hrel;by_cases hlt:k<n
  ·have r:=aQh (HS.out.ext hE) (m:=k) hk;obtain⟨b,g,x,rfl,hx,u,s⟩:=(HS.out.ext hE).int_at hlt;have a:=xQ (f.trans (zY hx));have i1:=aVt k;have i2:=aVu k n;have i3:=aVv k n;have i4:=aVv k c;have HX:=xQ hx;have HK:=xQ r;clear f hx r;by_cases hr:0≤x∧x≤99
   ·obtain⟨o,q⟩:=hr;have HI:Hid (∀w,U 27 #[x,(),I 99] w fun e w'=>e= .returned (.bool true)∧w=w'):=fun w=>oF x 0 99 w o q
    by_cases hp:0<x
    ·have hd:decide (0<x)=true:=by simp[hp]
     cases hs:(xs.take k).contains x with
     |true=>
      have HH:Hid (∀m,U 54 #[.slice (some ⟨b,g,none⟩) k c,x] (wr.drewN m) fun e w'=>e= .returned (.bool true)∧wr.drewN m=w'):=fun m=>by have:=rM (some ⟨b,g,none⟩) k c (xs.take k) x (wr.drewN m) (HK.out.ext (Ext.drewN (Ext.refl _) _));rwa[hs]at this
      have d:Hid (eE [] xs=false):=by show _=_;rw[a.out,hs];simp[hp]
      clear hs;go_wp2;go_quiet ((first|(go_at_call 27;exact rH (HI _))|(go_at_call 54;exact rH (HH _))));go_wp2;go_ret;exact⟨aT d.out.symm,by exact .drewN hE _⟩
     |false=>
      have HH:Hid (∀m,U 54 #[.slice (some ⟨b,g,none⟩) k c,x] (wr.drewN m) fun e w'=>e= .returned (.bool false)∧wr.drewN m=w'):=fun m=>by have:=rM (some ⟨b,g,none⟩) k c (xs.take k) x (wr.drewN m) (HK.out.ext (Ext.drewN (Ext.refl _) _));rwa[hs]at this
      have d:Hid (eE [] xs=eE (xs.take (k+1)) (xs.drop (k+1))):=by show _=_;rw[a.out,hs];simp[o,q]
      clear hs;go_wp2;go_quiet ((first|(go_at_call 27;exact rH (HI _))|(go_at_call 54;exact rH (HH _))));go_wp2;go_roundw
      case rel=>exact⟨k+1,by omega,by go_num,d.out,by exact .drewN hE _,l,h⟩
      case measure=>simp[intOf];omega
    have hd:decide (0<x)=false:=by simp[hp]
    have d:Hid (eE [] xs=eE (xs.take (k+1)) (xs.drop (k+1))):=by show _=_;rw[a.out];simp[o,q,hp]
    go_wp2;go_quiet ((go_at_call 27;exact rH (HI _)));go_wp2;go_roundw
    case rel=>first|exact⟨k+1,by omega,by go_num,d.out,xE,l,h⟩|((repeat apply Exists.intro);exact⟨⟨k+1,by omega,by go_num,d.out,by exact .drewN hE _,l,h⟩,rfl⟩)
    case measure=>simp[intOf];omega
   have HI:Hid (∀w,U 27 #[x,(),I 99] w fun e w'=>e= .returned (.bool false)∧w=w'):=fun w=>xP x 0 99 w (by omega)
   have d:Hid (eE [] xs=false):=by show _=_;rw[a.out];simp[hr]
   clear hr;go_wp2;go_quiet ((go_at_call 27;exact rH (HI _)));go_wp2;go_ret;exact⟨aT d.out.symm,by exact .drewN hE _⟩
  have a:=xQ (f.trans (wX (by have:=HS.out.ilen;omega)));clear f;go_wp2;go_ret;exact⟨aT a.out.symm,by exact hE⟩
theorem gM (aA aB:Int)(p:OA)(n a:Nat)(xs:List Int)(w:World)(hS:Sl w p n a 1 (ivs xs)):
  U 25 #[aH aA aB p n a] w (O (.bool (aN aA aB xs)) w):=by
 have hl:=hS.ilen;unfold aN;rw[hl];cases hs:iC aA aB n with
 |true=>obtain⟨h1,h2,h3,h4,h5,h6,h7⟩:=cG hs;rw[Bool.true_and];exact aEh aA aB p n a xs w h1 h2 h3 h4 (by omega) (by omega) (by simp[h7]) h6 hS
 |false=>rw[Bool.false_and];exact aH4 aA aB p n a w hS.bd (aB4 hs)
def bJ (f s p c:Int):Bool:=decide (0≤f∧f<1440∧1≤s∧s≤1440∧0≤p∧p≤99∧0≤c∧c≤99)
def dI (i p a:Int):Bool:=decide (0≤i∧i≤9999∧0≤p∧p≤9999∧i≤a∧a≤9999)
def fT (f s m:Int):Int:=if m≤f then 0 else(m-f+s-1)/s
def nK (f s p c m:Int):Int:=m/1440*c+min (fT f s (m%1440)*p) c
def cF (f s p c i pd a now:Int):Int:=if bJ f s p c&&dI i pd a&&decide (a≤now∧now≤9999)then max (nK f s p c (now-i)-pd) 0 else -1
def lN (f s p c i pd a now:Int):Bool:=
 decide (cF f s p c i pd a now=0) || (decide (0≤cF f s p c i pd a now)&&decide (now-a≤15)&&decide (cF f s p c i pd a a=0))
abbrev aS (f s p c:Int):Value:= .agg #[f,s,p,c]
abbrev bX (i p a:Int):Value:= .agg #[i,p,a]
theorem iU {f s p c:Int}(h:bJ f s p c=true):0≤f∧f<1440∧1≤s∧s≤1440∧0≤p∧p≤99∧0≤c∧c≤99:=by simpa[bJ]using h
theorem fJ {i p a:Int}(h:dI i p a=true):0≤i∧i≤9999∧0≤p∧p≤9999∧i≤a∧a≤9999:=by simpa[dI]using h
theorem jX {f s m:Int}(h0:0≤f)(h1:1≤s)(hm:m≤9999):0≤fT f s m∧fT f s m≤9999:=by
 unfold fT;split
 ·omega
 refine⟨Int.ediv_nonneg (by omega) (by omega),?_⟩;have:(m-f+s-1)/s≤m-f:=by
  apply Int.ediv_le_of_le_mul (by omega);have:(m-f)*s≥(m-f)*1:=Int.mul_le_mul_of_nonneg_left h1 (by omega);have h2:(m-f)*s=(m-f-1)*s+s:=by rw[Int.sub_mul (m-f) 1 s];omega
  have h3:(m-f-1)*s≥(m-f-1)*1:=Int.mul_le_mul_of_nonneg_left h1 (by omega);omega
 omega
theorem aDt {f s m:Int}(h1:1≤s):(max (m-f) 0+s-1)/s=fT f s m:=by
 unfold fT;split
 ·rw[show max (m-f) 0=0 by omega];exact Int.ediv_eq_zero_of_lt (by omega) (by omega)
 rw[show max (m-f) 0=m-f by omega]
theorem vT {x p:Int}(hx:0≤x)(a:x≤9999)(h0:0≤p)(h1:p≤99):0≤x*p∧x*p≤989901:=by refine⟨Int.mul_nonneg hx h0,?_⟩;have:=Int.mul_le_mul a h1 h0 (by omega);omega
theorem qS {f s p c m:Int}(h:bJ f s p c=true)(h0:0≤m)(h1:m≤9999):0≤nK f s p c m∧nK f s p c m≤693:=by obtain⟨a1,a2,a3,a4,a5,a6,a7,a8⟩:=iU h;obtain⟨b1,b2⟩:=jX (m:=m%1440) a1 a3 (by omega);obtain⟨d1,d2⟩:=vT b1 b2 a5 a6;unfold nK;have e1:0≤m/1440*c:=Int.mul_nonneg (by omega) a7;have e2:m/1440*c≤6*99:=Int.mul_le_mul (by omega) a8 a7 (by omega);omega
theorem aD6 (f s p c:Int)(w:World):U 43 #[aS f s p c] w (O (.bool (bJ f s p c)) w):=by
 by_cases c1:0≤f
 ·by_cases c2:f<1440
  ·by_cases c3:1≤s
   ·by_cases c4:s≤1440
    ·by_cases c5:0≤p
     ·by_cases c6:p≤99
      ·by_cases c7:0≤c
       ·by_cases c8:c≤99
        ·go_enter func43,ntmps43;go_wp2;go_ret;exact⟨aT (by simp[bJ];omega),by exact .alloc (.refl _) _⟩
        go_enter func43,ntmps43;go_wp2;go_ret;exact⟨aT (by simp[bJ];omega),by exact .alloc (.refl _) _⟩
       go_enter func43,ntmps43;go_wp2;go_ret;exact⟨aT (by simp[bJ];omega),by exact .alloc (.refl _) _⟩
      go_enter func43,ntmps43;go_wp2;go_ret;exact⟨aT (by simp[bJ];omega),by exact .alloc (.refl _) _⟩
     go_enter func43,ntmps43;go_wp2;go_ret;exact⟨aT (by simp[bJ];omega),by exact .alloc (.refl _) _⟩
    go_enter func43,ntmps43;go_wp2;go_ret;exact⟨aT (by simp[bJ];omega),by exact .alloc (.refl _) _⟩
   go_enter func43,ntmps43;go_wp2;go_ret;exact⟨aT (by simp[bJ];omega),by exact .alloc (.refl _) _⟩
  go_enter func43,ntmps43;go_wp2;go_ret;exact⟨aT (by simp[bJ];omega),by exact .alloc (.refl _) _⟩
 go_enter func43,ntmps43;go_wp2;go_ret;exact⟨aT (by simp[bJ];omega),by exact .alloc (.refl _) _⟩
theorem yE (f s p c:Int)(w:World):U 26 #[aS f s p c] w (O (.bool (bJ f s p c)) w):=by
 by_cases c1:0≤f
 ·by_cases c2:f<1440
  ·by_cases c3:1≤s
   ·by_cases c4:s≤1440
    ·by_cases c5:0≤p
     ·by_cases c6:p≤99
      ·by_cases c7:0≤c
       ·by_cases c8:c≤99
        ·go_enter func26,ntmps26;go_wp2_with go_in;go_ret;exact⟨aT (by simp[bJ];omega),by exact .alloc (.refl _) _⟩
        go_enter func26,ntmps26;go_wp2_with go_in;go_ret;exact⟨aT (by simp[bJ];omega),by exact .alloc (.refl _) _⟩
       go_enter func26,ntmps26;go_wp2_with go_in;go_ret;exact⟨aT (by simp[bJ];omega),by exact .alloc (.refl _) _⟩
      go_enter func26,ntmps26;go_wp2_with go_in;go_ret;exact⟨aT (by simp[bJ];omega),by exact .alloc (.refl _) _⟩
     go_enter func26,ntmps26;go_wp2_with go_in;go_ret;exact⟨aT (by simp[bJ];omega),by exact .alloc (.refl _) _⟩
    go_enter func26,ntmps26;go_wp2_with go_in;go_ret;exact⟨aT (by simp[bJ];omega),by exact .alloc (.refl _) _⟩
   go_enter func26,ntmps26;go_wp2_with go_in;go_ret;exact⟨aT (by simp[bJ];omega),by exact .alloc (.refl _) _⟩
  go_enter func26,ntmps26;go_wp2_with go_in;go_ret;exact⟨aT (by simp[bJ];omega),by exact .alloc (.refl _) _⟩
 go_enter func26,ntmps26;go_wp2_with go_in;go_ret;exact⟨aT (by simp[bJ];omega),by exact .alloc (.refl _) _⟩
theorem aOp (i p a:Int)(w:World):U 45 #[bX i p a] w (O (.bool (dI i p a)) w):=by
 by_cases c1:0≤i
 ·by_cases c2:i≤9999
  ·by_cases c3:0≤p
   ·by_cases c4:p≤9999
    ·by_cases c5:i≤a
     ·by_cases c6:a≤9999
      ·go_enter func45,ntmps45;go_wp2;go_ret;exact⟨aT (by simp[dI];omega),by exact .alloc (.refl _) _⟩
      go_enter func45,ntmps45;go_wp2;go_ret;exact⟨aT (by simp[dI];omega),by exact .alloc (.refl _) _⟩
     go_enter func45,ntmps45;go_wp2;go_ret;exact⟨aT (by simp[dI];omega),by exact .alloc (.refl _) _⟩
    go_enter func45,ntmps45;go_wp2;go_ret;exact⟨aT (by simp[dI];omega),by exact .alloc (.refl _) _⟩
   go_enter func45,ntmps45;go_wp2;go_ret;exact⟨aT (by simp[dI];omega),by exact .alloc (.refl _) _⟩
  go_enter func45,ntmps45;go_wp2;go_ret;exact⟨aT (by simp[dI];omega),by exact .alloc (.refl _) _⟩
 go_enter func45,ntmps45;go_wp2;go_ret;exact⟨aT (by simp[dI];omega),by exact .alloc (.refl _) _⟩
theorem aN7 (i p a:Int)(w:World):U 28 #[bX i p a] w (O (.bool (dI i p a)) w):=by
 by_cases c1:0≤i
 ·by_cases c2:i≤9999
  ·by_cases c3:0≤p
   ·by_cases c4:p≤9999
    ·by_cases c5:i≤a
     ·by_cases c6:a≤9999
      ·go_enter func28,ntmps28;go_wp2_with go_in;go_ret;exact⟨aT (by simp[dI];omega),by exact .alloc (.refl _) _⟩
      go_enter func28,ntmps28;go_wp2_with go_in;go_ret;exact⟨aT (by simp[dI];omega),by exact .alloc (.refl _) _⟩
     go_enter func28,ntmps28;go_wp2_with go_in;go_ret;exact⟨aT (by simp[dI];omega),by exact .alloc (.refl _) _⟩
    go_enter func28,ntmps28;go_wp2_with go_in;go_ret;exact⟨aT (by simp[dI];omega),by exact .alloc (.refl _) _⟩
   go_enter func28,ntmps28;go_wp2_with go_in;go_ret;exact⟨aT (by simp[dI];omega),by exact .alloc (.refl _) _⟩
  go_enter func28,ntmps28;go_wp2_with go_in;go_ret;exact⟨aT (by simp[dI];omega),by exact .alloc (.refl _) _⟩
 go_enter func28,ntmps28;go_wp2_with go_in;go_ret;exact⟨aT (by simp[dI];omega),by exact .alloc (.refl _) _⟩
theorem aP0 (f s p c m:Int)(w:World)(h:bJ f s p c=true)(h0:0≤m)(h1:m≤9999):U 110 #[aS f s p c,m] w (O (I (fT f s m)) w):=by
 obtain⟨a1,a2,a3,a4,a5,a6,a7,a8⟩:=iU h;have HT:Hid (∀w,U 43 #[aS f s p c] w (O (.bool true) w)):=fun w=>by rw[←h];exact aD6 f s p c w
 have HB:=xQ (jX (m:=m) a1 a3 h1);clear h;by_cases hm:m≤f
 ·have hf:Hid (fT f s m=0):=if_pos hm;go_enter func110,ntmps110;go_wp2_with fail;refine Z (HT _) fun w1 a=>?_
  have b:=a.cells.1;go_wp2;go_ret;exact⟨eS hf.out.symm,by exact .trans (.alloc (.refl _) _) a⟩
 have hf:Hid (fT f s m=(m-f+s-1)/s):=if_neg hm;go_enter func110,ntmps110;go_wp2_with fail;refine Z (HT _) fun w1 a=>?_
 have b:=a.cells.1;go_wp2;go_ret;exact⟨eS hf.out.symm,by exact .trans (.alloc (.refl _) _) a⟩
theorem aNl (f s p c m:Int)(w:World)(h:bJ f s p c=true)(h0:0≤m)(h1:m≤9999):U 194 #[aS f s p c,m] w (O (I (fT f s m)) w):=by
 obtain⟨a1,a2,a3,a4,a5,a6,a7,a8⟩:=iU h;have HT:Hid (∀w,U 26 #[aS f s p c] w (O (.bool true) w)):=fun w=>by rw[←h];exact yE f s p c w
 have hf:=xQ (aDt (f:=f) (m:=m) a3);clear h;go_enter func194,ntmps194;go_wp2_with (first|(go_at_call 26;refine Z (HT _) fun w1 a=>?_;have b:=a.cells.1)|go_in);all_goals go_ret
 all_goals exact⟨eS (by rw[←hf.out];congr 1;omega),by exact .trans (.alloc (.refl _) _) a⟩
theorem aSb (f s p c m:Int)(w:World)(h:bJ f s p c=true)(h0:0≤m)(h1:m≤9999):U 72 #[aS f s p c,m] w (O (I (nK f s p c m)) w):=by
 obtain⟨a1,a2,a3,a4,a5,a6,a7,a8⟩:=iU h;have HT:Hid (∀w,U 43 #[aS f s p c] w (O (.bool true) w)):=fun w=>by rw[←h];exact aD6 f s p c w
 obtain⟨q,hq⟩: ∃q,q=fT f s (m%1440):=⟨_,rfl⟩
 have g:0≤q∧q≤9999:=by rw[hq];exact jX a1 a3 (by omega)
 obtain⟨q2,d⟩: ∃q,q=fT f s m:=⟨_,rfl⟩
 have j:0≤q2∧q2≤9999:=by rw[d];exact jX a1 a3 (by omega)
 have HF:Hid (∀w,U 110 #[aS f s p c,(m%1440:Int)] w (O (I q) w)):=fun w=>by rw[hq];exact aP0 f s p c _ w h (by omega) (by omega)
 have k:Hid (∀w,U 110 #[aS f s p c,m] w (O (I q2) w)):=fun w=>by rw[d];exact aP0 f s p c _ w h (by omega) (by omega)
 have b:nK f s p c m=m/1440*c+min (q*p) c:=by rw[hq];rfl
 rw[b];obtain⟨b1,b2⟩:=vT g.1 g.2 a5 a6;have b3:0≤m/1440*c:=Int.mul_nonneg (by omega) a7;have b4:m/1440*c≤6*99:=Int.mul_le_mul (by omega) a8 a7 (by omega);clear hq d b h;go_enter func72,ntmps72;go_wp2_with fail;refine Z (HT _) fun w1 a=>?_
 have n:(w:Nat)<w1:=aT4 (by simp) a.sz;have e0:w1.cell? ⟨w,0,none⟩=some (I f):=by rw[a.cells.1 _ _ (by simp)];simp
 have e1:w1.cell? ⟨w,1,none⟩=some (I s):=by rw[a.cells.1 _ _ (by simp)];simp
 have e2:w1.cell? ⟨w,2,none⟩=some (I p):=by rw[a.cells.1 _ _ (by simp)];simp
 have e3:w1.cell? ⟨w,3,none⟩=some (I c):=by rw[a.cells.1 _ _ (by simp)];simp
 go_wp2_with fail;have hq:=aVe m 1440 ⟨h0,by omega,by omega⟩;have hr:=IntWalk.rem_in m 1440 h0;have i:=aVw (m%1440);have k1:=aVw (q*p);have k2:=aVw (m/1440*c);have k3:=aVw (m/1440*c+c);have k4:=aVw (m/1440*c+q*p)
 go_region_held3 (fun w'=>w'.cell? ⟨w,0,none⟩=some (I f)∧w'.cell? ⟨w,1,none⟩=some (I s)∧w'.cell? ⟨w,2,none⟩=some (I p)∧w'.cell? ⟨w,3,none⟩=some (I c)) (go_keep)
  ((go_at_call 110;refine Z (HF _) fun w2 h2=>?_;(try replace h2:=h2.of_drew);have l:=h2.cells.1;have o:(w:Nat)<w2:=aT4 (by assumption) h2.sz))
 all_goals clear hq hr i k1 k2 k3 k4
 all_goals go_wp2
 all_goals go_ret
 all_goals exact⟨eS (by first|omega|(rw[aT8 _ (by omega)];omega)),by exact .trans (.trans (.alloc (.refl _) _) a) h2⟩
theorem aRx (f s p c m:Int)(w:World)(h:bJ f s p c=true)(h0:0≤m)(h1:m≤9999):U 164 #[aS f s p c,m] w (O (I (nK f s p c m)) w):=by
 obtain⟨a1,a2,a3,a4,a5,a6,a7,a8⟩:=iU h;have HT:Hid (∀w,U 26 #[aS f s p c] w (O (.bool true) w)):=fun w=>by rw[←h];exact yE f s p c w
 obtain⟨q,hq⟩: ∃q,q=fT f s (m%1440):=⟨_,rfl⟩
 have g:0≤q∧q≤9999:=by rw[hq];exact jX a1 a3 (by omega)
 obtain⟨q2,d⟩: ∃q,q=fT f s m:=⟨_,rfl⟩
 have k:0≤q2∧q2≤9999:=by rw[d];exact jX a1 a3 (by omega)
 have HF:Hid (∀w,U 194 #[aS f s p c,(m%1440:Int)] w (O (I q) w)):=fun w=>by rw[hq];exact aNl f s p c _ w h (by omega) (by omega)
 have i:Hid (∀w,U 194 #[aS f s p c,m] w (O (I q2) w)):=fun w=>by rw[d];exact aNl f s p c _ w h (by omega) (by omega)
 have b:nK f s p c m=m/1440*c+min (q*p) c:=by rw[hq];rfl
 rw[b];obtain⟨b1,b2⟩:=vT g.1 g.2 a5 a6;have b3:0≤m/1440*c:=Int.mul_nonneg (by omega) a7;have b4:m/1440*c≤6*99:=Int.mul_le_mul (by omega) a8 a7 (by omega);clear hq d b h;go_enter func164,ntmps164;go_wp2_with fail;refine Z (i _) fun w1 a=>?_
 have n:(w:Nat)<w1:=aT4 (by simp) a.sz;have e0:w1.cell? ⟨w,0,none⟩=some (I f):=by rw[a.cells.1 _ _ (by simp)];simp
 have e1:w1.cell? ⟨w,1,none⟩=some (I s):=by rw[a.cells.1 _ _ (by simp)];simp
 have e2:w1.cell? ⟨w,2,none⟩=some (I p):=by rw[a.cells.1 _ _ (by simp)];simp
 have e3:w1.cell? ⟨w,3,none⟩=some (I c):=by rw[a.cells.1 _ _ (by simp)];simp
 go_wp2_with fail;have hq:=aVe m 1440 ⟨h0,by omega,by omega⟩;have hr:=IntWalk.rem_in m 1440 h0;have j:=aVw (m%1440);have k1:=aVw (q*p);have k2:=aVw (m/1440*c);have k3:=aVw (m/1440*c+c);have k4:=aVw (m/1440*c+q*p)
 go_region_held3 (fun w'=>w'.cell? ⟨w,0,none⟩=some (I f)∧w'.cell? ⟨w,1,none⟩=some (I s)∧w'.cell? ⟨w,2,none⟩=some (I p)∧w'.cell? ⟨w,3,none⟩=some (I c)) (go_keep)
  ((go_at_call 194;refine Z (HF _) fun w2 h2=>?_;(try replace h2:=h2.of_drew);have l:=h2.cells.1;have o:(w:Nat)<w2:=aT4 (by assumption) h2.sz))
 all_goals clear hq hr j k1 k2 k3 k4
 all_goals go_wp2
 all_goals go_ret
 all_goals exact⟨eS (by first|omega|(rw[aT8 _ (by omega)];omega)),by exact .trans (.trans (.alloc (.refl _) _) a) h2⟩
end
end Go.Proofs.YthfmmibomhhmpaaGreatDoor
