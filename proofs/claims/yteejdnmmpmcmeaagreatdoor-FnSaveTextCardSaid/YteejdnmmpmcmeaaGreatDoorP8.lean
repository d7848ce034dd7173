/-
  Texts of this proof, packed (@packed).
-/
import Derived.Lib.CountLaws
import Derived.Lib.SplitLaws
import Derived.RegionTactic
import Derived.Test.YteejdnmmpmcmeaaGreatDoorP1
import Derived.Test.YteejdnmmpmcmeaaGreatDoorP5
import Derived.Test.YteejdnmmpmcmeaaGreatDoorP7
namespace Go.Proofs.YteejdnmmpmcmeaaGreatDoor
open Go.RowKit
set_option linter.unusedVariables false
def aL (c:UInt8):List UInt8→List (List UInt8)
 | []=> [[]]
 |x::xs=>if x=c then []::aL c xs else match aL c xs with
  | []=> [[x]]
  |p::ps=>(x::p)::ps
theorem eH (c:UInt8)(l:List UInt8):aL c l≠ []:=by
 cases l with
 |nil=>simp[aL]
 |cons x xs=>unfold aL;split
             ·simp
             ·split<;>simp
theorem xW (c:UInt8): ∀(l:List UInt8),aL c (l++ [c])=aL c l++ [[]]:=by
 intro l
 induction l with
 |nil=>simp[aL]
 |cons x xs ih=>
  rw[List.cons_append]
  unfold aL
  by_cases h:x=c
  ·rw[if_pos h,if_pos h,ih];rfl
  ·rw[if_neg h,if_neg h,ih]
   cases hq:aL c xs with
   |nil=>exact absurd hq (eH c xs)
   |cons p ps=>rfl
theorem tY (c:UInt8)(x:UInt8)(hx:x≠c): ∀(l:List UInt8) (A:List (List UInt8)) (p:List UInt8),aL c l=A++ [p]→aL c (l++ [x])=A++ [p++ [x]]:=by
 intro l
 induction l with
 |nil=>
  intro A p h
  simp only[aL,List.nil_append]at h⊢
  have:A= []∧p= []:=by
   cases A with
   |nil=>simpa using h.symm
   |cons a A=>simp at h
  obtain⟨rfl,rfl⟩:=this
  simp[hx]
 |cons y ys ih=>
  intro A p h
  rw[List.cons_append]
  unfold aL at h⊢
  by_cases hy:y=c
  ·rw[if_pos hy]at h⊢
   cases A with
   |nil=>
    simp at h
    exact absurd h.2 (eH c ys)
   |cons a A=>
    simp only[List.cons_append,List.cons.injEq]at h
    rw[ih A p h.2,←h.1];rfl
  ·rw[if_neg hy]at h⊢
   cases hq:aL c ys with
   |nil=>exact absurd hq (eH c ys)
   |cons q qs=>
    rw[hq]at h
    simp only at h
    cases A with
    |nil=>
     simp only[List.nil_append,List.cons.injEq]at h
     obtain⟨rfl,rfl⟩:=h
     rw[ih [] q (by simpa using hq)];rfl
    |cons a A=>
     simp only[List.cons_append,List.cons.injEq]at h
     obtain⟨rfl,rfl⟩:=h
     rw[ih (q::A) p (by simpa using hq)];rfl
abbrev iQ (ls:List (List UInt8)):List Value:=ls.map str
theorem nY (s:ByteArray)(a b:Nat)(l:List UInt8)(h:(s.data.toList.take b).drop a=l):Value.string (s.extract a b)=str l:=by
 have:s.extract a b=⟨l.toArray⟩:=by
  apply ByteArray.ext
  apply Array.toList_inj.1
  rw[Lib.extract_data]
  show _=l
  rw[←h,List.drop_take]
 rw[this]
theorem aJz:(Tryz.prog.info? 9).map (fun i=>(i.zero,i.size,i.bytes))=some (some (.string ⟨#[]⟩),1,16):=by kernel_rfl
set_option maxRecDepth 100000 in
set_option maxHeartbeats 1000000 in
theorem oT (s:ByteArray)(c:UInt8)(ci:Int)(hci:ci=(c.toNat:Int))(w:World)(hs:s.size≤1099511627776):
  Calls Tryz.prog 81 #[.string s,.int .u8 ci] w fun e w'=> ∃v,e= .returned v∧w'.ownsRow w.heap.size 9 1 v (aL c s.data.toList).length (iQ (aL c s.data.toList))∧Ext w w':=by
 obtain⟨i0,hi,hz0,hz1,hz2⟩:=info_parts aJz
 have HC:=xQ hci
 clear hci
 go_enter Tryz.func81,Tryz.ntmps81
 go_wp2
 go_loopw [5,6,7] (fun v fr i wr=> ∃(k f:Nat) (A:List (List UInt8)) (p:List UInt8),k≤s.size∧f≤k∧A.length≤k∧fr= .int .i64 f∧i= .int .i64 k∧aL c (s.data.toList.take k)=A++ [p]∧p=(s.data.toList.take k).drop f∧
   wr.ownsRow w.heap.size 9 1 v A.length (iQ A)∧Ext w wr) (fun _ _ i _=>s.size-(intOf i).toNat)
 case atStart=>exact⟨0,0,[],[],Nat.zero_le _,Nat.le_refl _,Nat.le_refl _,rfl,rfl,by simp[aL],by simp,World.ownsRow_made _ #[] 0 (Nat.le_refl _) (by simp[maxLen]) rfl,(Ext.refl _).alloc _⟩
 case round=>
  obtain⟨k,f,A,p,hk,hf,hAk,rfl,rfl,hcut,hp,hown,hE⟩:=hrel
  have HCUT:=xQ hcut
  have HP:=xQ hp
  have hsz:=hE.sz
  clear hcut hp
  by_cases hlt:k<s.size
  ·by_cases hc:s[k]=c
   ·have hb:((s[k].toNat:Int)==ci)=true:=by rw[HC.out,hc];simp
    have HCC:=xQ hc
    clear hc
    go_wp2_with (at_builtin;refine wpList_append_own _ rfl _ _ 77 rfl w.heap.size 9 i0 (.string ⟨#[]⟩) 1 16 Tryz.underlying77 hi hz0 hz1 hz2 rfl (by decide) _ _ _ rfl (hown.alloc _) ⟨wr.heap.size,0,none⟩ 1 1 [.string (s.extract f k)] rfl rfl ?c1 ?c2 ?c3 ?c4 ?c5 ?_)
    case c1=>exact cell_one_new _ _ _
    case c2=>intro u hu;simp at hu;subst hu;rfl
    case c3=>unfold maxLen;omega
    case c4=>omega
    case c5=>simp;omega
    intro v' w1 hown' hgrow _
    have hE':Ext w w1:=(hE.alloc _).grown hgrow (fun q hq=>(hown.lt q hq).1)
    clear hgrow hown
    go_wp2
    go_roundw
    case rel=>
     refine⟨k+1,k+1,A++ [p],[],by omega,Nat.le_refl _,by simp;omega,by go_num,by go_num,?_,?_,?_,hE'⟩
     ·rw[iI s k hlt,HCC.out,xW,HCUT.out]
     ·rw[List.drop_eq_nil_of_le (by simp;omega)]
     ·have:=hown'
      rw[nY s f k p HP.out.symm]at this
      simpa[iQ]using this
    case measure=>simp[intOf];omega
   ·have hb:((s[k].toNat:Int)==ci)=false:=by
     rw[HC.out,beq_eq_false_iff_ne];intro e;exact hc (UInt8.toNat_inj.1 (by omega))
    go_wp2
    go_roundw
    case rel=>
     refine⟨k+1,f,A,p++ [s[k]],by omega,by omega,by omega,by go_num,by go_num,?_,?_,hown,hE⟩
     ·rw[iI s k hlt];exact tY c _ hc _ A p HCUT.out
     ·rw[iI s k hlt,HP.out,List.drop_append_of_le_length (by simp;omega)]
    case measure=>simp[intOf];omega
  ·obtain rfl:k=s.size:=by omega
   have e:s.data.toList.take s.size=s.data.toList:=List.take_of_length_le (by simp)
   have HE:=xQ e
   clear e
   go_wp2_with (at_builtin;refine wpList_append_own _ rfl _ _ 77 rfl w.heap.size 9 i0 (.string ⟨#[]⟩) 1 16 Tryz.underlying77 hi hz0 hz1 hz2 rfl (by decide) _ _ _ rfl (hown.alloc _) ⟨wr.heap.size,0,none⟩ 1 1 [.string (s.extract f s.size)] rfl rfl ?d1 ?d2 ?d3 ?d4 ?d5 ?_)
   case d1=>exact cell_one_new _ _ _
   case d2=>intro u hu;simp at hu;subst hu;rfl
   case d3=>unfold maxLen;omega
   case d4=>omega
   case d5=>simp;omega
   intro v' w1 hown' hgrow _
   have hE':Ext w w1:=(hE.alloc _).grown hgrow (fun q hq=>(hown.lt q hq).1)
   clear hgrow hown
   go_wp2
   go_ret
   refine⟨_,rfl,?_,hE'⟩
   have:=hown'
   rw[nY s f s.size p HP.out.symm]at this
   rw[←HE.out,HCUT.out]
   simpa[iQ]using this
theorem oV (c:UInt8): ∀l:List UInt8,(Lib.index l [c]= -1∧aL c l= [l]∧c∉l)∨ ∃i:Nat,Lib.index l [c]=i∧i<l.length∧aL c l=l.take i::aL c (l.drop (i+1))∧c∉l.take i:=by
 intro l
 induction l with
 |nil=>exact .inl ⟨rfl,rfl,by simp⟩
 |cons b l ih=>
  by_cases hb:b=c
  ·subst hb
   refine .inr ⟨0,?_,by simp,by simp[aL],by simp⟩
   unfold Lib.index
   rw[if_pos (by simp[List.isPrefixOf])];rfl
  ·have hp:([c]:List UInt8).isPrefixOf (b::l)=false:=by simp[List.isPrefixOf];exact fun e=>hb e.symm
   rcases ih with⟨h1,h2,h3⟩|⟨i,h1,h2,h3,h4⟩
   ·refine .inl ⟨?_,?_,?_⟩
    ·unfold Lib.index;rw[hp,h1];rfl
    ·unfold aL;rw[if_neg hb,h2]
    ·simp[h3];exact fun e=>hb e.symm
   ·refine .inr ⟨i+1,?_,by simp;omega,?_,?_⟩
    ·unfold Lib.index;rw[hp,h1]
     simp only[Bool.false_eq_true,if_false]
     rw[if_neg (by simp)];rfl
    ·have e:aL c (b::l)=match aL c l with| []=> [[b]]|p::ps=>(b::p)::ps:=by
      rw[aL,if_neg hb]<;>rfl
     rw[e,h3];rfl
    ·simp[h4];exact fun e=>hb e.symm
theorem aFn (c:UInt8): ∀(k:Nat) (s:ByteArray),Lib.countB s ⟨#[c]⟩=k→(Lib.splitB ⟨#[c]⟩ 0 k s).map (fun b=>b.data.toList)=aL c s.data.toList:=by
 intro k
 induction k with
 |zero=>
  intro s hk
  rw[Lib.splitB_zero]
  rcases oV c s.data.toList with⟨h1,h2,h3⟩|⟨i,h1,h2,h3,h4⟩
  ·rw[h2];rfl
  ·have:=Lib.countB_hit s ⟨#[c]⟩ i (Nat.le_refl 1) h1
   omega
 |succ k ih=>
  intro s hk
  rcases oV c s.data.toList with⟨h1,h2,h3⟩|⟨i,h1,h2,h3,h4⟩
  ·have:=Lib.countB_miss s ⟨#[c]⟩ h1
   omega
  ·have hc:=Lib.countB_hit s ⟨#[c]⟩ i (Nat.le_refl 1) h1
   have hr:=ih (s.extract (i+1) s.size) (by
    have e:s.extract (i+1) s.size=s.extract (i+(⟨#[c]⟩:ByteArray).size) s.size:=rfl
    rw[e];omega)
   rw[Lib.splitB_hit ⟨#[c]⟩ 0 k s i h1,List.map_cons]
   have e2:s.extract (i+(⟨#[c]⟩:ByteArray).size) s.size=s.extract (i+1) s.size:=rfl
   rw[e2,hr,h3]
   congr 1
   ·rw[Lib.extract_data];simp
   ·congr 1
    rw[Lib.extract_data]
    rw[List.take_of_length_le (by simp)]
theorem aDa (b:ByteArray):Value.string b=str b.data.toList:=rfl
theorem rL (s:ByteArray)(c:UInt8)(w:World)(hs:s.size<4294967281)(hE:Env w):
  Calls Tryz.prog 85 #[.string s,.string ⟨#[c]⟩] w fun e w'=> ∃v,e= .returned v∧w'.ownsRow w.heap.size 9 1 v (aL c s.data.toList).length (iQ (aL c s.data.toList))∧Ext w w':=by
 obtain⟨m,hm⟩:=hE.mx
 refine(Tryz.strings_Split s ⟨#[c]⟩ m w hs hm (Nat.le_refl 1)).mono ?_
 rintro e w' ⟨rfl,rfl⟩
 have hq:=aFn c _ s rfl
 have hl:(aL c s.data.toList).length=Lib.countB s ⟨#[c]⟩+1:=by
  rw[←hq,List.length_map];exact Lib.splitB_all ⟨#[c]⟩ (Nat.le_refl 1) 0 _ s rfl
 have hv:(Lib.splitB ⟨#[c]⟩ 0 (Lib.countB s ⟨#[c]⟩) s).map Value.string=iQ (aL c s.data.toList):=by
  rw[←hq,iQ,List.map_map];rfl
 refine⟨_,rfl,?_,(Ext.refl _).alloc _⟩
 rw[hv,←hl]
 have:=Lib.countB_le ⟨#[c]⟩ (Nat.le_refl 1) _ s (Nat.le_refl _)
 have h2:=World.ownsRow_lit (e:=9) (size:=1) (base:=w.heap.size) w (iQ (aL c s.data.toList)).toArray (aL c s.data.toList).length (Nat.le_refl _) (by unfold maxLen;omega) (by simp[iQ])
 simpa using h2
theorem aJ2: ∀(k n:Nat),n≤k→(Lib.decDigits n).all cQ=true∧(n≤9223372036854775807→gC (Lib.decDigits n)=n)∧(1≤n→(Lib.decDigits n).head? ≠some 48):=by
 intro k
 induction k with
 |zero=>
  intro n h
  obtain rfl:n=0:=by omega
  rw[eT 0 (by omega)]
  exact⟨by decide,fun _=>by decide,fun h=>by omega⟩
 |succ k ih=>
  intro n h
  by_cases h10:n<10
  ·rw[eT n h10]
   have e:(UInt8.ofNat (48+n)).toNat=48+n:=by simp;omega
   refine⟨?_,fun _=> ?_,fun h1 hh=> ?_⟩
   ·simp[cQ];omega
   ·simp[gC];omega
   ·simp at hh
    have:=congrArg UInt8.toNat hh
    simp at this;omega
  ·obtain⟨i1,i2,i3⟩:=ih (n/10) (by omega)
   rw[kI n h10]
   have e:(UInt8.ofNat (48+n%10)).toNat=48+n%10:=by simp;omega
   refine⟨?_,fun hb=> ?_,fun h1=> ?_⟩
   ·simp only[List.all_append,i1,List.all_cons,List.all_nil,Bool.and_true,Bool.true_and,cQ,e];simp;omega
   ·rw[oQ,i2 (by omega),e];omega
   ·have hp:=pR (n/10)
    cases hd:Lib.decDigits (n/10)with
    |nil=>rw[hd]at hp;simp at hp
    |cons x xs=>
     have:=i3 (by omega)
     rw[hd]at this
     simpa using this
theorem aKy: ∀(k n:Nat),n<10 ^ (k+1)→(Lib.decDigits n).length≤k+1:=by
 intro k
 induction k with
 |zero=>intro n h;rw[eT n (by simpa using h)];simp
 |succ k ih=>
  intro n h
  by_cases h10:n<10
  ·rw[eT n h10];simp
  ·rw[kI n h10,List.length_append]
   have:=ih (n/10) (by rw[Nat.pow_succ]at h;omega)
   simp;omega
theorem kE (m n:Nat)(h:n<10 ^ m)(hm:1≤m)(hm2:m≤5):bQ m (Lib.decDigits n)=some (n:Int):=by
 obtain⟨k,rfl⟩: ∃k,m=k+1:=⟨m-1,by omega⟩
 have hb:n≤99999:=by
  have:10 ^ (k+1)≤10 ^ 5:=Nat.pow_le_pow_right (by omega) hm2
  omega
 obtain⟨a1,a2,a3⟩:=aJ2 n n (Nat.le_refl _)
 rw[pV (pR n) (aKy k n h) ?_ a1,a2 (by omega)]
 by_cases h0:n=0
 ·left;subst h0;rw[eT 0 (by omega)];simp
 ·right;exact a3 (by omega)
theorem gU (n:Nat)(c:UInt8)(hc:cQ c=false):c∉Lib.decDigits n:=by
 intro h
 have:=(aJ2 n n (Nat.le_refl _)).1
 rw[List.all_eq_true]at this
 rw[this c h]at hc;simp at hc
theorem mI (c:UInt8): ∀l:List UInt8,c∉l→aL c l= [l]:=by
 intro l
 induction l with
 |nil=>intro _;rfl
 |cons x xs ih=>
  intro h
  have e:aL c (x::xs)=match aL c xs with| []=> [[x]]|p::ps=>(x::p)::ps:=by
   rw[aL,if_neg (by intro e;exact h (by simp[e]))]<;>rfl
  rw[e,ih (by intro q;exact h (by simp[q]))]
theorem lJ (c:UInt8): ∀(a b:List UInt8),c∉a→aL c (a++c::b)=a::aL c b:=by
 intro a b
 induction a with
 |nil=>intro _;simp[aL]
 |cons x xs ih=>
  intro h
  have e:aL c (x::(xs++c::b))=match aL c (xs++c::b)with| []=> [[x]]|p::ps=>(x::p)::ps:=by
   rw[aL,if_neg (by intro e;exact h (by simp[e]))]<;>rfl
  rw[List.cons_append,e,ih (by intro q;exact h (by simp[q]))]
def fE (c:UInt8):List UInt8→List UInt8
 | []=> []
 |x::xs=>if x=c then []else x::fE c xs
def iG (c:UInt8):List UInt8→List UInt8
 | []=> []
 |x::xs=>if x=c then xs else iG c xs
theorem hU (c:UInt8): ∀(a b:List UInt8),c∉a→fE c (a++c::b)=a∧iG c (a++c::b)=b:=by
 intro a b
 induction a with
 |nil=>intro _;simp[fE,iG]
 |cons x xs ih=>
  intro h
  obtain⟨i1,i2⟩:=ih (fun q=>h (by simp[q]))
  have hx:x≠c:=fun q=>h (by simp[q])
  simp[fE,iG,hx,i1,i2]
theorem aGr (c:UInt8): ∀(l:List UInt8),(aL c l)[0]? =some (fE c l):=by
 intro l
 induction l with
 |nil=>rfl
 |cons x xs ih=>
  by_cases h:x=c
  ·rw[aL,if_pos h,fE,if_pos h]<;>rfl
  ·have e:aL c (x::xs)=match aL c xs with| []=> [[x]]|p::ps=>(x::p)::ps:=by rw[aL,if_neg h]<;>rfl
   rw[e,fE,if_neg h]
   cases hq:aL c xs with
   |nil=>exact absurd hq (eH c xs)
   |cons p ps=>rw[hq]at ih;simpa using ih
theorem zE (c:UInt8): ∀(l:List UInt8),c∈l→ ∃a b,l=a++c::b∧c∉a:=by
 intro l
 induction l with
 |nil=>intro h;simp at h
 |cons x xs ih=>
  intro h
  by_cases hx:x=c
  ·exact⟨[],xs,by simp[hx],by simp⟩
  ·obtain⟨a,b,e,ha⟩:=ih (by rcases List.mem_cons.1 h with h|h;exact absurd h.symm hx;exact h)
   exact⟨x::a,b,by simp[e],by simp[ha];exact fun q=>hx q.symm⟩
abbrev aFi:=Int×Int×Int
theorem cY {w:World}{base g n cap:Nat}{e:TypeId}{ps:List (List UInt8)}(h:w.ownsRow base e 1 (.slice (some ⟨g,0,none⟩) n cap) n (iQ ps))(j:Nat)(hj:j<n)(p:List UInt8)(hp:ps[j]? =some p):w.cell? ⟨g,j,none⟩=some (str p):=by
 rw[h.cellAt j (by omega)];simp[iQ,hp]
theorem dZ (c:UInt8): ∀(l:List UInt8),(∀p∈aL c l,p.length≤l.length)∧(aL c l).length≤l.length+1:=by
 intro l
 induction l with
 |nil=>simp[aL]
 |cons x xs ih=>
  by_cases h:x=c
  ·have e:aL c (x::xs)= []::aL c xs:=by rw[aL,if_pos h]
   rw[e]
   refine⟨fun p hp=> ?_,by simp;exact ih.2⟩
   rcases List.mem_cons.1 hp with rfl|hp
   ·simp
   ·have:=ih.1 p hp;simp;omega
  ·have e:aL c (x::xs)=match aL c xs with| []=> [[x]]|p::ps=>(x::p)::ps:=by rw[aL,if_neg h]<;>rfl
   rw[e]
   cases hq:aL c xs with
   |nil=>exact absurd hq (eH c xs)
   |cons q qs=>
    rw[hq]at ih
    refine⟨fun p hp=> ?_,by have:=ih.2;simp at this⊢;omega⟩
    rcases List.mem_cons.1 hp with rfl|hp
    ·have:=ih.1 q (by simp);simp;omega
    ·have:=ih.1 p (by simp[hp]);simp;omega
theorem nS (q:List UInt8)(m:Nat)(hm:1≤m∧m≤5)(hq:q.length≤maxLen)(w:World):Calls Tryz.prog 97 #[str q,.int .i64 m] w fun e w'=>e= .returned (.tuple #[.int .i64 ((bQ m q).getD 0),.bool (bQ m q).isSome])∧w=w':=
 vD ⟨q.toArray⟩ m w hm (by simpa[ByteArray.size]using hq)
theorem tH (c:UInt8): ∀l:List UInt8,c∉l→fE c l=l∧iG c l= []:=by
 intro l
 induction l with
 |nil=>intro _;exact⟨rfl,rfl⟩
 |cons x xs ih=>
  intro h
  have hx:x≠c:=fun q=>h (by simp[q])
  obtain⟨i1,i2⟩:=ih (fun q=>h (by simp[q]))
  simp[fE,iG,hx,i1,i2]
theorem aCi (c:UInt8)(a b:List UInt8)(h:c∉a):Lib.index (a++c::b) [c]=a.length:=by
 rcases oV c (a++c::b)with⟨h1,h2,h3⟩|⟨i,h1,h2,h3,h4⟩
 ·exact absurd (by simp) h3
 ·have e:=aGr c (a++c::b)
  rw[h3,(hU c a b h).1]at e
  simp only[List.getElem?_cons_zero,Option.some.injEq]at e
  have:=congrArg List.length e
  simp at this h2
  rw[h1];omega
theorem aKt (c:UInt8)(l:List UInt8):(Lib.cut l [c]).1=fE c l∧(Lib.cut l [c]).2.1=iG c l:=by
 by_cases h:c∈l
 ·obtain⟨a,b,rfl,ha⟩:=zE c l h
  unfold Lib.cut
  rw[aCi c a b ha,if_pos (by omega),(hU c a b ha).1,(hU c a b ha).2]
  simp
 ·have e:Lib.index l [c]= -1:=by
   rcases oV c l with⟨h1,_⟩|⟨i,h1,h2,h3,h4⟩
   ·exact h1
   ·exfalso
    have e2:=mI c l h
    rw[h3]at e2
    have:=congrArg List.length e2
    simp at this
    exact absurd this (eH c _)
  unfold Lib.cut
  rw[e,if_neg (by omega),(tH c l h).1,(tH c l h).2]
  exact⟨rfl,rfl⟩
theorem aJ3 (l:List UInt8)(c:UInt8)(w:World)(hs:l.length<4294967281)(hE:Env w):
  Calls Tryz.prog 96 #[str l,.string ⟨#[c]⟩] w fun e w'=>e= .returned (.tuple #[str (fE c l),str (iG c l),.bool (Lib.cut l [c]).2.2])∧Ext w w':=by
 obtain⟨m,hm⟩:=hE.mx
 refine(Tryz.strings_Cut ⟨l.toArray⟩ ⟨#[c]⟩ m w (by simpa[ByteArray.size]using hs) hm).mono ?_
 rintro e w' ⟨rfl,n,rfl⟩
 obtain⟨c1,c2⟩:=aKt c l
 refine⟨?_,(Ext.refl _).drewN _⟩
 show Ending.returned (.tuple #[.string ⟨(Lib.cut l [c]).1.toArray⟩,.string ⟨(Lib.cut l [c]).2.1.toArray⟩,.bool (Lib.cut l [c]).2.2])=_
 rw[c1,c2]
theorem aAq (l:List UInt8)(n:Nat):(((⟨l.toArray⟩:ByteArray).extract 0 n).toList)=l.take n:=by
 rw[Lib.toList_data,Lib.extract_data];simp
theorem rC (l:List UInt8)(n:Nat):Value.string ((⟨l.toArray⟩:ByteArray).extract 0 n)=str (l.take n):=by
 rw[aDa,←Lib.toList_data,aAq]
/-! ### slices of structs -/
theorem Rd.at {α:Type}{f:α→List Value}{w:World}{b off n cap sz:Nat}{xs:List α}(hf: ∀a,(f a).length=sz)(h:Rd w (.slice (some ⟨b,off,none⟩) n cap) n sz (xs.flatMap f)){k:Nat}{a:α}(hk:xs[k]? =some a) (hn:xs.length=n) (j:Nat) (hj:j<sz):
  w.cell? ⟨b,off+k*sz+j,none⟩=(f a)[j]? :=by
 rcases h.2 with⟨h1,_⟩|⟨b',off',cap',h1,_,_,_,h2⟩
 ·simp at h1
 ·simp only[Value.slice.injEq,Option.some.injEq,Addr.mk.injEq,and_true,true_and]at h1
  obtain⟨⟨rfl,rfl⟩,rfl⟩:=h1
  have hkn:k<n:=by rw[←hn];exact(List.getElem?_eq_some_iff.1 hk).1
  have hlt:k*sz+j<n*sz:=by
   have:(k+1)*sz≤n*sz:=Nat.mul_le_mul_right sz hkn
   rw[Nat.succ_mul]at this;omega
  rw[Nat.add_assoc,h2 _ hlt,jR f sz hf xs k a hk j hj]
def mH (d:aFi):List Value:= [.int .i64 d.1,.int .i64 d.2.1,.int .i64 d.2.2]
abbrev RdDeeds (w:World)(v:Value)(ds:List aFi):Prop:=Rd w v ds.length 3 (ds.flatMap mH)
theorem RdDeeds.at {w:World}{b off n cap:Nat}{ds:List aFi}(h:Rd w (.slice (some ⟨b,off,none⟩) n cap) n 3 (ds.flatMap mH))(hn:ds.length=n){k:Nat}{d:aFi}(hk:ds[k]? =some d):
  w.cell? ⟨b,off+k*3,none⟩=some (.int .i64 d.1)∧w.cell? ⟨b,off+k*3+1,none⟩=some (.int .i64 d.2.1)∧w.cell? ⟨b,off+k*3+2,none⟩=some (.int .i64 d.2.2):=
 ⟨h.at (f:=mH) (fun _=>rfl) hk hn 0 (by omega),h.at (f:=mH) (fun _=>rfl) hk hn 1 (by omega),h.at (f:=mH) (fun _=>rfl) hk hn 2 (by omega)⟩
/-! ### the text -/
/-! ### a builder while the world grows -/
theorem Ext.gb {w w':World}(h:Ext w w'):w.grownBy w' none:=⟨h.os,h.tape,h.output,h.size,fun k hk _=>h.block k hk⟩
theorem pS {T e:TypeId}{B b:Nat}{p:Value}{bs:List Value}{w w':World}(h:Lib.BuilderAtF T e B b p bs w)(hx:Ext w w'):Lib.BuilderAtF T e B b p bs w':=by
 have hlt:=h.lt
 obtain⟨hB,v,hh,hown,hne⟩:=h
 exact⟨hB,v,by rw[hx.block b hlt];exact hh,hown.kept hx.gb (by cases v.ownBlock<;>simp),hne⟩
theorem oG {T e:TypeId}{B b:Nat}{bs:List Value}{w w':World}(h:Lib.IsBuilderF T e B b bs w)(hx:Ext w w'):Lib.IsBuilderF T e B b bs w':=
 h.elim (fun q=> .inl (pS q hx)) (fun q=> .inr (pS q hx))
theorem gS {w wr w':World}{B:Nat}(h:Ext w wr)(hb:Below B wr w')(hB:w.heap.size≤B):Ext w w':=Below.trans h (Below.mono hb hB)
theorem jJ (a b:List UInt8):Lib.byteCells (a++b)=Lib.byteCells a++Lib.strCells ⟨b.toArray⟩:=by
 simp[Lib.byteCells,Lib.strCells]
def dG (x:Int):List UInt8:=if x=0 then [46]else Lib.decDigits x.toNat
def cK (aA:Int)(k:Nat):List UInt8:=if k=0 then []else if(k:Int)%aA=0 then [47]else [44]
def aS (aA:Int)(xs:List Int):Nat→List UInt8
 |0=> []
 |k+1=>aS aA xs k++cK aA k++dG (xs[k]?.getD 0)
def bO (aA aB:Int)(xs:List Int):List UInt8:=if aR aA aB xs then aS aA xs xs.length else []
theorem aD2 (x:Int)(h:x≤99):(dG x).length≤21:=by
 unfold dG;split
 ·simp
 ·exact dT _ (by omega)
theorem lP (aA:Int)(xs:List Int)(h: ∀x∈xs,x≤99): ∀k,(aS aA xs k).length≤22*k:=by
 intro k
 induction k with
 |zero=>simp[aS]
 |succ k ih=>
  have h1:(dG (xs[k]?.getD 0)).length≤21:=by
   refine aD2 _ ?_
   cases hx:xs[k]? with
   |none=>simp
   |some x=>exact h x (List.mem_of_getElem? hx)
  have h2:(cK aA k).length≤1:=by unfold cK;split;simp;split<;>simp
  simp only[aS,List.length_append];omega
theorem nV {aA:Int}{xs:List Int}{k:Nat}{x:Int}(h:xs[k]? =some x):aS aA xs (k+1)=aS aA xs k++cK aA k++dG x:=by
 simp[aS,h]
theorem iA (a:List UInt8)(c:UInt8)(ci:Int)(hc:ci=(c.toNat:Int)):Lib.byteCells (a++ [c])=Lib.byteCells a++ [.int .u8 ci]:=by
 subst hc;simp[Lib.byteCells]
set_option maxRecDepth 100000 in
set_option maxHeartbeats 1000000 in
theorem rZ (aA aB:Int)(p:Option Addr)(n cap:Nat)(w:World)(HV:Hid (∀w',Ext w w'→Calls Tryz.prog 61 #[aJ aA aB p n cap] w' fun e w''=>e= .returned (.bool false)∧Ext w' w'')):
  Calls Tryz.prog 68 #[aJ aA aB p n cap] w fun e w'=>e= .returned (str [])∧Ext w w':=by
 go_enter Tryz.func68,Tryz.ntmps68
 go_wp2_with fail
 refine(HV.out _ (by exact .alloc (.refl _) _)).mono ?_
 rintro e w1 ⟨rfl,h1⟩
 go_wp2
 go_ret
 exact⟨rfl,by exact .trans (.alloc (.refl _) _) h1⟩
set_option maxRecDepth 100000 in
set_option maxHeartbeats 1000000 in
theorem tV (aA aB:Int)(p:Option Addr)(n cap:Nat)(xs:List Int)(w:World)(hE0:Env w)(h0:2≤aA)(h1:aA≤4)(hn:n≤12)(hc: ∀x∈xs,0≤x∧x≤99)(HS:Hid (Sl w p n cap 1 (ivs xs)))
  (HV:Hid (∀w',Ext w w'→Calls Tryz.prog 61 #[aJ aA aB p n cap] w' fun e w''=>e= .returned (.bool true)∧Ext w' w'')):
  Calls Tryz.prog 68 #[aJ aA aB p n cap] w fun e w'=>e= .returned (str (aS aA xs n))∧Ext w w':=by
 have HE0:=xQ hE0
 have HC:=xQ hc
 clear hE0 hc
 go_enter Tryz.func68,Tryz.ntmps68
 go_wp2_with fail
 refine(HV.out _ (by exact .alloc (.refl _) _)).mono ?_
 rintro e w1 ⟨rfl,h1'⟩
 have hz1:w.heap.size<w1.heap.size:=Nat.lt_of_lt_of_le (by simp) h1'.sz
 have ea:w1.cell? ⟨w.heap.size,0,none⟩=some (.int .i64 aA):=by rw[h1'.cells.1 _ _ (by simp)];simp
 have eb:w1.cell? ⟨w.heap.size,2,none⟩=some (.slice p n cap):=by rw[h1'.cells.1 _ _ (by simp)];simp
 have hx1:Ext w w1:=by exact .trans (.alloc (.refl _) _) h1'
 go_wp2
 go_loopw [12] (fun i wr=> ∃(k:Nat),k≤n∧i= .int .i64 k∧Lib.IsBuilderF 118 5 w1.heap.size w1.heap.size (Lib.byteCells (aS aA xs k)) wr∧Ext w1 wr∧w1.heap.size<wr.heap.size) (fun i _=>n-(intOf i).toNat)
 case atStart=>exact⟨0,Nat.zero_le _,rfl,.inl ⟨Nat.le_refl _,.slice none 0 0,by rw[heap_alloc_new],World.ownsRowF_nil _ _ _ _,by simp[Value.ownBlock]⟩,(Ext.refl _).alloc _,by simp⟩
 case round=>
  obtain⟨k,hk,rfl,hbu,hE,hsw⟩:=hrel
  have HBU:=xQ hbu
  clear hbu
  have hEw:Ext w wr:=hx1.trans hE
  have ea2:wr.cell? ⟨w.heap.size,0,none⟩=some (.int .i64 aA):=(hE.cells.1 _ _ hz1).trans ea
  have hbl:(Lib.byteCells (aS aA xs k)).length≤300:=by
   have:=lP aA xs (fun x hx=>(HC.out x hx).2) k
   simp[Lib.byteCells];omega
  by_cases hlt:k<n
  ·obtain⟨b,off,x,rfl,hx,hbs,hcell⟩:=(HS.out.ext hEw).int_at hlt
   obtain⟨hx0,hx1'⟩:=HC.out x (List.mem_of_getElem? hx)
   have HX:=xQ hx
   clear hx
   have hfin:=xQ (nV (aA:=aA) HX.out)
   by_cases hk0:k=0
   ·have k1:((k:Int)==0)=true:=by simp[hk0]
    have hsep:Hid (cK aA k= []):=by show _=_;simp[cK,hk0]
    clear hk0
    by_cases hz:x=0
    ·have z1:(x==0)=true:=by simp[hz]
     have hacc:Hid (aS aA xs (k+1)=aS aA xs k++ [46]):=by show _=_;rw[hfin.out,hsep.out,List.append_nil];simp[dG,hz]
     clear hz
     go_wp2_with fail
     refine(jT w1.heap.size w1.heap.size (Lib.byteCells (aS aA xs k)) 46 _ HBU.out (by simp[Lib.byteCells]at hbl⊢;omega) (by omega)).mono ?_
     rintro e w3 ⟨rfl,h2,h3,_⟩
     have HB3:Hid (Lib.IsBuilderF 118 5 w1.heap.size w1.heap.size (Lib.byteCells (aS aA xs (k+1))) w3):=by rw[hacc.out,iA _ 46 46 rfl];exact .inr h2
     have hE3:Ext w1 w3:=gS hE h3 (Nat.le_refl _)
     have hs3:w1.heap.size<w3.heap.size:=Nat.lt_of_lt_of_le hsw h3.size
     clear h2 h3
     go_wp2
     go_roundw
     case rel=>exact⟨k+1,by omega,by go_num,HB3.out,hE3,hs3⟩
     case measure=>simp[intOf];omega
    ·have z1:(x==0)=false:=by simp[hz]
     have hacc:Hid (aS aA xs (k+1)=aS aA xs k++Lib.decDigits x.toNat):=by show _=_;rw[hfin.out,hsep.out,List.append_nil];simp[dG,hz]
     clear hz
     have hdl:(Lib.decDigits x.toNat).length≤21:=dT _ (by omega)
     go_wp2_with fail
     refine(yQ x _ hx0 (by omega) (HE0.out.ext (hx1.trans hE))).mono ?_
     rintro e w3 ⟨rfl,h3'⟩
     have HB2:=xQ (oG HBU.out h3')
     have hs3':w1.heap.size<w3.heap.size:=Nat.lt_of_lt_of_le hsw h3'.sz
     go_wp2_with fail
     refine(lQ w1.heap.size w1.heap.size (Lib.byteCells (aS aA xs k)) _ _ HB2.out (by simp[Lib.byteCells,ByteArray.size]at hbl⊢;omega) (by omega)).mono ?_
     rintro e w4 ⟨rfl,h2,h3,_⟩
     have HB3:Hid (Lib.IsBuilderF 118 5 w1.heap.size w1.heap.size (Lib.byteCells (aS aA xs (k+1))) w4):=by rw[hacc.out,jJ];exact .inr h2
     have hE3:Ext w1 w4:=gS (Ext.trans hE h3') h3 (Nat.le_refl _)
     have hs3:w1.heap.size<w4.heap.size:=Nat.lt_of_lt_of_le hs3' h3.size
     clear h2 h3
     go_wp2
     go_roundw
     case rel=>exact⟨k+1,by omega,by go_num,HB3.out,hE3,hs3⟩
     case measure=>simp[intOf];omega
   ·have k1:((k:Int)==0)=false:=by simp;omega
    by_cases hm:(k:Int)%aA=0
    ·have k2:((k:Int)%aA==0)=true:=by simp[hm]
     have hsep:Hid (cK aA k= [47]):=by show _=_;simp[cK,hk0,hm]
     clear hk0 hm
     go_wp2_with fail
     refine(jT w1.heap.size w1.heap.size (Lib.byteCells (aS aA xs k)) 47 _ HBU.out (by omega) (by omega)).mono ?_
     rintro e w2 ⟨rfl,h2,h3,_⟩
     have HBS:Hid (Lib.IsBuilderF 118 5 w1.heap.size w1.heap.size (Lib.byteCells (aS aA xs k++ [47])) w2):=by rw[iA _ 47 47 rfl];exact .inr h2
     have hE2:Ext w1 w2:=gS hE h3 (Nat.le_refl _)
     have hs2:w1.heap.size<w2.heap.size:=Nat.lt_of_lt_of_le hsw h3.size
     clear h2 h3
     by_cases hz:x=0
     ·have z1:(x==0)=true:=by simp[hz]
      have hacc:Hid (aS aA xs (k+1)=aS aA xs k++ [47]++ [46]):=by show _=_;rw[hfin.out,hsep.out];simp[dG,hz]
      clear hz
      go_wp2_with fail
      refine(jT w1.heap.size w1.heap.size (Lib.byteCells (aS aA xs k++ [47])) 46 _ HBS.out (by simp[Lib.byteCells]at hbl⊢;omega) (by omega)).mono ?_
      rintro e w3 ⟨rfl,h2,h3,_⟩
      have HB3:Hid (Lib.IsBuilderF 118 5 w1.heap.size w1.heap.size (Lib.byteCells (aS aA xs (k+1))) w3):=by rw[hacc.out,iA _ 46 46 rfl];exact .inr h2
      have hE3:Ext w1 w3:=gS hE2 h3 (Nat.le_refl _)
      have hs3:w1.heap.size<w3.heap.size:=Nat.lt_of_lt_of_le hs2 h3.size
      clear h2 h3
      go_wp2
      go_roundw
      case rel=>exact⟨k+1,by omega,by go_num,HB3.out,hE3,hs3⟩
      case measure=>simp[intOf];omega
     ·have z1:(x==0)=false:=by simp[hz]
      have hacc:Hid (aS aA xs (k+1)=aS aA xs k++ [47]++Lib.decDigits x.toNat):=by show _=_;rw[hfin.out,hsep.out];simp[dG,hz]
      clear hz
      have hdl:(Lib.decDigits x.toNat).length≤21:=dT _ (by omega)
      go_wp2_with fail
      refine(yQ x _ hx0 (by omega) (HE0.out.ext (hx1.trans hE2))).mono ?_
      rintro e w3 ⟨rfl,h3'⟩
      have HB2:=xQ (oG HBS.out h3')
      have hs3':w1.heap.size<w3.heap.size:=Nat.lt_of_lt_of_le hs2 h3'.sz
      go_wp2_with fail
      refine(lQ w1.heap.size w1.heap.size (Lib.byteCells (aS aA xs k++ [47])) _ _ HB2.out (by simp[Lib.byteCells,ByteArray.size]at hbl⊢;omega) (by omega)).mono ?_
      rintro e w4 ⟨rfl,h2,h3,_⟩
      have HB3:Hid (Lib.IsBuilderF 118 5 w1.heap.size w1.heap.size (Lib.byteCells (aS aA xs (k+1))) w4):=by rw[hacc.out,jJ];exact .inr h2
      have hE3:Ext w1 w4:=gS (Ext.trans hE2 h3') h3 (Nat.le_refl _)
      have hs3:w1.heap.size<w4.heap.size:=Nat.lt_of_lt_of_le hs3' h3.size
      clear h2 h3
      go_wp2
      go_roundw
      case rel=>exact⟨k+1,by omega,by go_num,HB3.out,hE3,hs3⟩
      case measure=>simp[intOf];omega
    ·have k2:((k:Int)%aA==0)=false:=by simp[hm]
     have hsep:Hid (cK aA k= [44]):=by show _=_;simp[cK,hk0,hm]
     clear hk0 hm
     go_wp2_with fail
     refine(jT w1.heap.size w1.heap.size (Lib.byteCells (aS aA xs k)) 44 _ HBU.out (by omega) (by omega)).mono ?_
     rintro e w2 ⟨rfl,h2,h3,_⟩
     have HBS:Hid (Lib.IsBuilderF 118 5 w1.heap.size w1.heap.size (Lib.byteCells (aS aA xs k++ [44])) w2):=by rw[iA _ 44 44 rfl];exact .inr h2
     have hE2:Ext w1 w2:=gS hE h3 (Nat.le_refl _)
     have hs2:w1.heap.size<w2.heap.size:=Nat.lt_of_lt_of_le hsw h3.size
     clear h2 h3
     by_cases hz:x=0
     ·have z1:(x==0)=true:=by simp[hz]
      have hacc:Hid (aS aA xs (k+1)=aS aA xs k++ [44]++ [46]):=by show _=_;rw[hfin.out,hsep.out];simp[dG,hz]
      clear hz
      go_wp2_with fail
      refine(jT w1.heap.size w1.heap.size (Lib.byteCells (aS aA xs k++ [44])) 46 _ HBS.out (by simp[Lib.byteCells]at hbl⊢;omega) (by omega)).mono ?_
      rintro e w3 ⟨rfl,h2,h3,_⟩
      have HB3:Hid (Lib.IsBuilderF 118 5 w1.heap.size w1.heap.size (Lib.byteCells (aS aA xs (k+1))) w3):=by rw[hacc.out,iA _ 46 46 rfl];exact .inr h2
      have hE3:Ext w1 w3:=gS hE2 h3 (Nat.le_refl _)
      have hs3:w1.heap.size<w3.heap.size:=Nat.lt_of_lt_of_le hs2 h3.size
      clear h2 h3
      go_wp2
      go_roundw
      case rel=>exact⟨k+1,by omega,by go_num,HB3.out,hE3,hs3⟩
      case measure=>simp[intOf];omega
     ·have z1:(x==0)=false:=by simp[hz]
      have hacc:Hid (aS aA xs (k+1)=aS aA xs k++ [44]++Lib.decDigits x.toNat):=by show _=_;rw[hfin.out,hsep.out];simp[dG,hz]
      clear hz
      have hdl:(Lib.decDigits x.toNat).length≤21:=dT _ (by omega)
      go_wp2_with fail
      refine(yQ x _ hx0 (by omega) (HE0.out.ext (hx1.trans hE2))).mono ?_
      rintro e w3 ⟨rfl,h3'⟩
      have HB2:=xQ (oG HBS.out h3')
      have hs3':w1.heap.size<w3.heap.size:=Nat.lt_of_lt_of_le hs2 h3'.sz
      go_wp2_with fail
      refine(lQ w1.heap.size w1.heap.size (Lib.byteCells (aS aA xs k++ [44])) _ _ HB2.out (by simp[Lib.byteCells,ByteArray.size]at hbl⊢;omega) (by omega)).mono ?_
      rintro e w4 ⟨rfl,h2,h3,_⟩
      have HB3:Hid (Lib.IsBuilderF 118 5 w1.heap.size w1.heap.size (Lib.byteCells (aS aA xs (k+1))) w4):=by rw[hacc.out,jJ];exact .inr h2
      have hE3:Ext w1 w4:=gS (Ext.trans hE2 h3') h3 (Nat.le_refl _)
      have hs3:w1.heap.size<w4.heap.size:=Nat.lt_of_lt_of_le hs3' h3.size
      clear h2 h3
      go_wp2
      go_roundw
      case rel=>exact⟨k+1,by omega,by go_num,HB3.out,hE3,hs3⟩
      case measure=>simp[intOf];omega
  ·obtain rfl:k=n:=by omega
   go_wp2_with fail
   refine(Tryz.Builder_String_any_f w1.heap.size w1.heap.size (aS aA xs k) _ HBU.out (by omega)).mono ?_
   rintro e w2 ⟨rfl,h2,h3⟩
   have hE2:Ext w w2:=gS hEw h3 (by omega)
   clear h2 h3
   go_wp2
   go_ret
   exact⟨rfl,hE2⟩
theorem cN {aA aB:Int}{xs:List Int}(h:aR aA aB xs=true):2≤aA∧aA≤4∧2≤aB∧aB≤3∧4≤xs.length∧xs.length≤12∧(xs.length:Int)=aA*aB∧(∀x∈xs,0≤x∧x≤99)∧(xs.filter (fun x=>decide (0<x))).Nodup:=by
 simp only[aR,Bool.and_eq_true]at h
 obtain⟨h1,h2,h3,h4,h5,h6,h7⟩:=cG h.1
 obtain⟨q1,_,q3⟩:=(eI _ _).1 h.2
 exact⟨h1,h2,h3,h4,h5,h6,h7,q1,q3⟩
theorem kH (aA aB:Int)(p:Option Addr)(n cap:Nat)(xs:List Int)(w:World)(hE:Env w)(hS:Sl w p n cap 1 (ivs xs)):
  Calls Tryz.prog 68 #[aJ aA aB p n cap] w fun e w'=>e= .returned (str (bO aA aB xs))∧Ext w w':=by
 have hl:=hS.ilen
 cases h:aR aA aB xs with
 |true=>
  obtain⟨h1,h2,h3,h4,h5,h6,h7,h8,h9⟩:=cN h
  unfold bO
  rw[if_pos h,hl]
  exact tV aA aB p n cap xs w hE h1 h2 (by omega) h8 hS (fun w' hx=>by rw[←h];exact rY aA aB p n cap xs w' (hS.ext hx))
 |false=>
  unfold bO
  rw[if_neg (by simp[h])]
  exact rZ aA aB p n cap w (fun w' hx=>by rw[←h];exact rY aA aB p n cap xs w' (hS.ext hx))
set_option maxRecDepth 100000 in
set_option maxHeartbeats 1000000 in
theorem pC (w:World)(hE:Env w):Calls Tryz.prog 18 #[] w fun e w'=>e= .returned (.bool true)∧Ext w w':=by
 have HE:=xQ hE
 have T1:Hid (∀w p,Env w→Sl w p 4 4 1 (ivs [0,7,0,0])→Calls Tryz.prog 68 #[aJ 2 2 p 4 4] w fun e w'=>e= .returned (str [46,44,55,47,46,44,46])∧Ext w w'):=fun w p hE hS=>by
  have:=kH 2 2 p 4 4 [0,7,0,0] w hE hS
  have e:bO 2 2 [0,7,0,0]= [46,44,55,47,46,44,46]:=by
   simp[bO,aR,fK,dL,aS,cK,dG,eT]
  rwa[e]at this
 have T2:Hid (∀w,Env w→Calls Tryz.prog 68 #[aJ 0 0 none 0 0] w fun e w'=>e= .returned (str [])∧Ext w w'):=fun w hE=>by
  have:=kH 0 0 none 0 0 [] w hE (Sl.nil w 1)
  have e:bO 0 0 []= []:=by simp[bO,aR,fK]
  rwa[e]at this
 clear hE
 go_enter Tryz.func18,Tryz.ntmps18
 go_wp2_with fail
 refine(T1.out _ _ (HE.out.ext (by exact .alloc (.refl _) _)) (Sl.new w #[iv 0,iv 7,iv 0,iv 0] _ 4 rfl (by unfold maxLen;omega))).mono ?_
 rintro e w1 ⟨rfl,h1⟩
 go_wp2_with fail
 refine(T2.out _ (HE.out.ext (by exact .trans (.alloc (.refl _) _) h1))).mono ?_
 rintro e w2 ⟨rfl,h2⟩
 go_wp2
 go_ret
 exact⟨rfl,by exact .trans (.trans (.alloc (.refl _) _) h1) h2⟩
end Go.Proofs.YteejdnmmpmcmeaaGreatDoor
