/-
  Texts of this proof, packed (@packed).
-/
import Derived.Lib.CountLaws
import Derived.Lib.SplitLaws
import Derived.Test.YtbgkcehffiogcaaGreatDoorY7
namespace Go.Proofs.YtbgkcehffiogcaaGreatDoor
open Go.RowKit
set_option linter.unusedSimpArgs false
set_option linter.unusedVariables false
set_option maxHeartbeats 8000000
set_option maxRecDepth 100000
section
open Go.Proofs.Tryz
def aI6 (l:List UInt8):Bool:=l.all eD
def aCh (l:List UInt8):Int:=if l.all eD then kU l else 0
theorem vF {l:List UInt8}(h:l.all eD=true):aCh l=kU l:=if_pos h
theorem rP {l:List UInt8}(h:l.all eD=false):aCh l=0:=if_neg (by simp[h])
theorem aFx {a b:Int}{c d:Bool}(h:a=b)(k:c=d):Ending.returned (.tuple #[a,.bool c])= .returned (.tuple #[b,.bool d]):=by rw[h,k]
theorem kA (s:ByteArray)(m:Int)(w:World)(hm:1≤m∧m≤5)(h:s.size<1∨1≤s.size∧m<(s.size:Int)∧s.size≤9223372036854775807∨1<s.size∧(s.size:Int)≤m∧ ∀h:0<s.size,((s[0].toNat:Int)==48)=true):
  U 85 #[.string s,m] w fun e w'=>e= .returned (.tuple #[(),.bool false])∧w=w':=by
 rcases h with h|⟨h,h',h2⟩|⟨h,h',h0⟩
 ·go_enter func85,ntmps85;go_wp2;go_ret2;exact⟨rfl,rfl⟩
 ·go_enter func85,ntmps85;go_wp2;go_ret2;exact⟨rfl,rfl⟩
 have hp:0<s.size:=by omega
 have a:=h0 hp;clear h0;go_enter func85,ntmps85;go_wp2;go_ret2;exact⟨rfl,rfl⟩
theorem vQ (s:ByteArray)(m:Int)(w:World)(hm:1≤m∧m≤5)(h1:1≤s.size)(h4:(s.size:Int)≤m)(hz:s.size≤1∨1<s.size∧ ∀h:0<s.size,((s[0].toNat:Int)==48)=false):
  U 85 #[.string s,m] w fun e w'=>e= .returned (.tuple #[(aCh s.data.toList:Int),.bool (aI6 s.data.toList)])∧w=w':=by
 have hp:0<s.size:=by omega
 rcases hz with hz|⟨hz,h0⟩
 all_goals
  try (have b:=h0 hp)
  try clear h0
  go_enter func85,ntmps85;go_wp2;go_loop [6,7] (fun n i=> ∃k:Nat,k≤s.size∧i=I k∧n=I (kU (s.data.toList.take k))∧(s.data.toList.take k).all eD=true) (fun _ i=>s.size-(intOf i).toNat)
  case atStart=>exact⟨0,aQ1 _,rfl,rfl,by simp⟩
  case round=>
   obtain⟨k,hk,rfl,rfl,a⟩:=hrel;have hb:=aDh _ a (by simp;omega);have HA:=xQ a;clear a;by_cases hlt:k<s.size
   ·have HS:Hid (kU (s.data.toList.take (k+1))=kU (s.data.toList.take k)*10+((s[k].toNat:Int)-48)):=by rw[iX s k hlt,tY];show _=_;omega
    rcases(show(s[k].toNat:Int)<48∨48≤(s[k].toNat:Int)∧57<(s[k].toNat:Int)∨48≤(s[k].toNat:Int)∧(s[k].toNat:Int)≤57 by omega)with hc|⟨hc0,hc⟩|⟨hc0,hc⟩
    ·go_wp2;go_ret2;exact⟨aFx (rP (pZ s k hlt (lG (.inl hc)))).symm (pZ s k hlt (lG (.inl hc))).symm,rfl⟩
    ·go_wp2;go_ret2;exact⟨aFx (rP (pZ s k hlt (lG (.inr hc)))).symm (pZ s k hlt (lG (.inr hc))).symm,rfl⟩
    go_wp2;go_round
    case rel=>exact⟨k+1,by omega,by go_num,by rw[HS.out],qZ s k hlt HA (aDs hc0 hc)⟩
    case measure=>simp[intOf];omega
   have e:s.data.toList.take k=s.data.toList:=aQ2 (by simp;omega);have HE:=xQ e;clear e;go_wp2;go_ret2;exact⟨aFx (by rw[vF (by rw[←HE.out];exact HA.out),HE.out]) (by rw[aI6,←HE.out];exact HA.out.symm),rfl⟩
theorem wR (s:ByteArray)(m:Nat)(w:World)(hm:1≤m∧m≤5)(hs:s.size≤maxLen):
  U 85 #[.string s,m] w fun e w'=>e= .returned (.tuple #[((dK m s.data.toList).getD 0:Int),.bool (dK m s.data.toList).isSome])∧w=w':=by
 unfold maxLen at hs;by_cases h1:s.size<1
 ·rw[jN (by rw[bY];omega)];exact kA s m w (by omega) (.inl h1)
 by_cases h4:m<s.size
 ·rw[jN (by rw[bY];omega)];exact kA s m w (by omega) (.inr (.inl ⟨by omega,by omega,hs⟩))
 by_cases h0:1<s.size∧s.data.toList.head? =some 48
 ·rw[oL (by rw[bY];omega) h0.2];exact kA s m w (by omega) (.inr (.inr ⟨h0.1,by omega,fun h=>(vV s h).1 h0.2⟩))
 refine(vQ s m w (by omega) (by omega) (by omega) ?_).mono ?_
 ·by_cases hq:s.size≤1
  ·exact .inl hq
  refine .inr ⟨by omega,fun h=> ?_⟩;rw[←Bool.not_eq_true,←vV s h];intro e;exact h0 ⟨by omega,e⟩
 rintro e w' ⟨rfl,rfl⟩;cases ha:s.data.toList.all eD with
 |true=>rw[vF ha,rC (by rw[bY];omega) (by rw[bY];omega) (by rw[bY];by_cases hq:s.size≤1;exact .inl hq;exact .inr (fun e=>h0 ⟨by omega,e⟩)) ha,aI6,ha];exact⟨rfl,rfl⟩
 |false=>rw[rP ha,oW ha,aI6,ha];exact⟨rfl,rfl⟩
def cI (c:UInt8):List UInt8→List (List UInt8)
 | []=> [[]]
 |x::xs=>if x=c then []::cI c xs else match cI c xs with
  | []=> [[x]]
  |p::ps=>(x::p)::ps
theorem kI (c:UInt8)(l:List UInt8):cI c l≠ []:=by
 cases l with
 |nil=>simp[cI]
 |cons x xs=>unfold cI;split
             ·simp
             split<;>simp
theorem zL (c:UInt8): ∀(l:List UInt8),cI c (l++ [c])=cI c l++ [[]]:=by
 intro l;induction l with
 |nil=>simp[cI]
 |cons x xs ih=>
  rw[aRl];unfold cI;by_cases h:x=c
  ·rw[if_pos h,if_pos h,ih];rfl
  rw[if_neg h,if_neg h,ih];cases hq:cI c xs with
  |nil=>exact absurd hq (kI c xs)
  |cons p ps=>rfl
theorem vS (c:UInt8)(x:UInt8)(hx:x≠c): ∀(l:List UInt8) (A:List (List UInt8)) (p:List UInt8),cI c l=A++ [p]→cI c (l++ [x])=A++ [p++ [x]]:=by
 intro l;induction l with
 |nil=>
  intro A p h;simp only[cI,aRs]at h⊢;have:A= []∧p= []:=by
   cases A with
   |nil=>simpa using h.symm
   |cons a A=>simp at h
  obtain⟨rfl,rfl⟩:=this;simp[hx]
 |cons y ys ih=>
  intro A p h;rw[aRl];unfold cI at h⊢;by_cases hy:y=c
  ·rw[if_pos hy]at h⊢;cases A with
   |nil=>simp at h;exact absurd h.2 (kI c ys)
   |cons a A=>simp only[aRl,List.cons.injEq]at h;rw[ih A p h.2,←h.1];rfl
  rw[if_neg hy]at h⊢;cases hq:cI c ys with
  |nil=>exact absurd hq (kI c ys)
  |cons q qs=>
   rw[hq]at h;simp only at h;cases A with
   |nil=>simp only[aRs,List.cons.injEq]at h;obtain⟨rfl,rfl⟩:=h;rw[ih [] q (by simpa using hq)];rfl
   |cons a A=>simp only[aRl,List.cons.injEq]at h;obtain⟨rfl,rfl⟩:=h;rw[ih (q::A) p (by simpa using hq)];rfl
abbrev gK (ls:List (List UInt8)):List Value:=ls.map str
theorem pJ (s:ByteArray)(a b:Nat)(l:List UInt8)(h:(s.data.toList.take b).drop a=l):Value.string (s.extract a b)=str l:=by
 have:s.extract a b=⟨l.toArray⟩:=by apply ByteArray.ext;apply Array.toList_inj.1;rw[Lib.extract_data];show _=l;rw[←h,List.drop_take]
 rw[this]
theorem aO1:(prog.info? 9).map (fun i=>(i.zero,i.size,i.bytes))=some (some (.string ⟨#[]⟩),1,16):=by kernel_rfl
theorem tZ (s:ByteArray)(c:UInt8)(ci:Int)(l:ci=(c.toNat:Int))(w:World)(hs:s.size≤1099511627776):
  U 118 #[.string s,.int .u8 ci] w fun e w'=> ∃v,e= .returned v∧w'.ownsRow w 9 1 v (cI c s.data.toList).length (gK (cI c s.data.toList))∧Ext w w':=by
 obtain⟨i0,hi,m,n,o⟩:=info_parts aO1;have HC:=xQ l;clear l;go_enter func118,ntmps118;go_wp2
 go_loopw [5,6,7] (fun v fr i wr=> ∃(k f:Nat) (A:List (List UInt8)) (p:List UInt8),k≤s.size∧f≤k∧A.length≤k∧fr=I f∧i=I k∧cI c (s.data.toList.take k)=A++ [p]∧p=(s.data.toList.take k).drop f∧
   wr.ownsRow w 9 1 v A.length (gK A)∧Ext w wr) (fun _ _ i _=>s.size-(intOf i).toNat)
 case atStart=>exact⟨0,0,[],[],aQ1 _,aPv _,aPv _,rfl,rfl,by simp[cI],by simp,aR0 _ #[] 0 (aPv _) (by simp[maxLen]) rfl,(Ext.refl _).alloc _⟩
 case round=>
  obtain⟨k,f,A,p,hk,hf,t,rfl,rfl,h,hp,b,hE⟩:=hrel;have g:=xQ h;have HP:=xQ hp;have x:=hE.sz;clear h hp;by_cases hlt:k<s.size
  ·by_cases hc:s[k]=c
   ·have hb:((s[k].toNat:Int)==ci)=true:=by rw[HC.out,hc];simp
    have r:=xQ hc;clear hc;go_wp2_with (at_builtin;refine wpList_append_own _ rfl _ _ 150 rfl w 9 i0 (.string ⟨#[]⟩) 1 16 underlying150 hi m n o rfl (by decide) _ _ _ rfl (b.alloc _) ⟨wr,0,none⟩ 1 1 [.string (s.extract f k)] rfl rfl ?c1 ?c2 ?c3 ?c4 ?c5 ?_)
    case c1=>exact cell_one_new _ _ _
    case c2=>intro u hu;simp at hu;subst hu;rfl
    case c3=>unfold maxLen;omega
    case c4=>omega
    case c5=>simp;omega
    intro v' w1 d a _;have j:Ext w w1:=(hE.alloc _).grown a (fun q hq=>(b.lt q hq).1);clear a b;go_wp2;go_roundw
    case rel=>
     refine⟨k+1,k+1,A++ [p],[],by omega,aPv _,by simp;omega,by go_num,by go_num,?_,?_,?_,j⟩
     ·rw[iX s k hlt,r.out,zL,g.out]
     ·rw[aR5 (by simp;omega)]
     have:=d;rw[pJ s f k p HP.out.symm]at this;simpa[gK]using this
    case measure=>simp[intOf];omega
   have hb:((s[k].toNat:Int)==ci)=false:=by rw[HC.out,beq_eq_false_iff_ne];intro e;exact hc (UInt8.toNat_inj.1 (by omega))
   go_wp2;go_roundw
   case rel=>
    refine⟨k+1,f,A,p++ [s[k]],by omega,by omega,by omega,by go_num,by go_num,?_,?_,b,hE⟩
    ·rw[iX s k hlt];exact vS c _ hc _ A p g.out
    rw[iX s k hlt,HP.out,List.drop_append_of_le_length (by simp;omega)]
   case measure=>simp[intOf];omega
  obtain rfl:k=s.size:=by omega
  have e:s.data.toList.take s.size=s.data.toList:=aQ2 (by simp);have HE:=xQ e;clear e;go_wp2_with (at_builtin;refine wpList_append_own _ rfl _ _ 150 rfl w 9 i0 (.string ⟨#[]⟩) 1 16 underlying150 hi m n o rfl (by decide) _ _ _ rfl (b.alloc _) ⟨wr,0,none⟩ 1 1 [.string (s.extract f s.size)] rfl rfl ?d1 ?d2 ?d3 ?d4 ?d5 ?_)
  case d1=>exact cell_one_new _ _ _
  case d2=>intro u hu;simp at hu;subst hu;rfl
  case d3=>unfold maxLen;omega
  case d4=>omega
  case d5=>simp;omega
  intro v' w1 d a _;have j:Ext w w1:=(hE.alloc _).grown a (fun q hq=>(b.lt q hq).1);clear a b;go_wp2;go_ret;refine⟨_,rfl,?_,j⟩;have:=d;rw[pJ s f s.size p HP.out.symm]at this;rw[←HE.out,g.out];simpa[gK]using this
end
theorem qF (c:UInt8): ∀l:List UInt8,(Lib.index l [c]= -1∧cI c l= [l]∧c∉l)∨ ∃i:Nat,Lib.index l [c]=i∧i<l.length∧cI c l=l.take i::cI c (l.drop (i+1))∧c∉l.take i:=by
 intro l;induction l with
 |nil=>exact .inl ⟨rfl,rfl,by simp⟩
 |cons b l ih=>
  by_cases hb:b=c
  ·subst hb;refine .inr ⟨0,?_,by simp,by simp[cI],by simp⟩;unfold Lib.index;rw[if_pos (by simp[List.isPrefixOf])];rfl
  have hp:([c]:List UInt8).isPrefixOf (b::l)=false:=by simp[List.isPrefixOf];exact fun e=>hb e.symm
  rcases ih with⟨h1,h2,h3⟩|⟨i,h1,h2,h3,h4⟩
  ·refine .inl ⟨?_,?_,?_⟩
   ·unfold Lib.index;rw[hp,h1];rfl
   ·unfold cI;rw[if_neg hb,h2]
   simp[h3];exact fun e=>hb e.symm
  refine .inr ⟨i+1,?_,by simp;omega,?_,?_⟩
  ·unfold Lib.index;rw[hp,h1];simp only[Bool.false_eq_true,if_false];rw[if_neg (by simp)];rfl
  ·have e:cI c (b::l)=match cI c l with| []=> [[b]]|p::ps=>(b::p)::ps:=by
    rw[cI,if_neg hb]<;>rfl
   rw[e,h3];rfl
  simp[h4];exact fun e=>hb e.symm
theorem aIg (c:UInt8): ∀(k:Nat) (s:ByteArray),Lib.countB s ⟨#[c]⟩=k→(Lib.splitB ⟨#[c]⟩ 0 k s).map (fun b=>b.data.toList)=cI c s.data.toList:=by
 intro k;induction k with
 |zero=>
  intro s hk;rw[Lib.splitB_zero];rcases qF c s.data.toList with⟨h1,h2,h3⟩|⟨i,h1,h2,h3,h4⟩
  ·rw[h2];rfl
  have:=Lib.countB_hit s ⟨#[c]⟩ i (aPv 1) h1;omega
 |succ k ih=>
  intro s hk;rcases qF c s.data.toList with⟨h1,h2,h3⟩|⟨i,h1,h2,h3,h4⟩
  ·have:=Lib.countB_miss s ⟨#[c]⟩ h1;omega
  have hc:=Lib.countB_hit s ⟨#[c]⟩ i (aPv 1) h1
  have hr:=ih (s.extract (i+1) s.size) (by
   have e:s.extract (i+1) s.size=s.extract (i+(⟨#[c]⟩:ByteArray).size) s.size:=rfl
   rw[e];omega)
  rw[Lib.splitB_hit ⟨#[c]⟩ 0 k s i h1,aRr];have e2:s.extract (i+(⟨#[c]⟩:ByteArray).size) s.size=s.extract (i+1) s.size:=rfl;rw[e2,hr,h3];congr 1
  ·rw[Lib.extract_data];simp
  congr 1;rw[Lib.extract_data];rw[aQ2 (by simp)]
theorem wE (b:ByteArray):Value.string b=str b.data.toList:=rfl
theorem aIh (s:ByteArray)(c:UInt8)(w:World)(hs:s.size<4294967281)(hE:Env w):
  U 123 #[.string s,.string ⟨#[c]⟩] w fun e w'=> ∃v,e= .returned v∧w'.ownsRow w 9 1 v (cI c s.data.toList).length (gK (cI c s.data.toList))∧Ext w w':=by
 obtain⟨m,hm⟩:=hE.mx;refine(Tryz.strings_Split s ⟨#[c]⟩ m w hs hm (aPv 1)).mono ?_;rintro e w' ⟨rfl,rfl⟩;have hq:=aIg c _ s rfl;have hl:(cI c s.data.toList).length=Lib.countB s ⟨#[c]⟩+1:=by rw[←hq,aRe];exact Lib.splitB_all ⟨#[c]⟩ (aPv 1) 0 _ s rfl
 have hv:(Lib.splitB ⟨#[c]⟩ 0 (Lib.countB s ⟨#[c]⟩) s).map Value.string=gK (cI c s.data.toList):=by rw[←hq,gK,List.map_map];rfl
 refine⟨_,rfl,?_,(Ext.refl _).alloc _⟩;rw[hv,←hl];have:=Lib.countB_le ⟨#[c]⟩ (aPv 1) _ s (aPv _);have h2:=World.ownsRow_lit (e:=9) (size:=1) (base:=w.heap.size) w (gK (cI c s.data.toList)).toArray (cI c s.data.toList).length (aPv _) (by unfold maxLen;omega) (by simp[gK]);simpa using h2
theorem aN4: ∀(k n:Nat),n≤k→(Lib.decDigits n).all eD=true∧(n≤9223372036854775807→kU (Lib.decDigits n)=n)∧(1≤n→(Lib.decDigits n).head? ≠some 48):=by
 intro k;induction k with
 |zero=>
  intro n h;obtain rfl:n=0:=by omega
  rw[fA 0 (by omega)];exact⟨by decide,fun _=>by decide,fun h=>by omega⟩
 |succ k ih=>
  intro n h;by_cases h10:n<10
  ·rw[fA n h10];have e:(UInt8.ofNat (48+n)).toNat=48+n:=by simp;omega
   refine⟨?_,fun _=> ?_,fun h1 hh=> ?_⟩
   ·simp[eD];omega
   ·simp[kU];omega
   simp at hh;have:=congrArg UInt8.toNat hh;simp at this;omega
  obtain⟨i1,i2,i3⟩:=ih (n/10) (by omega);rw[lC n h10];have e:(UInt8.ofNat (48+n%10)).toNat=48+n%10:=by simp;omega
  refine⟨?_,fun hb=> ?_,fun h1=> ?_⟩
  ·simp only[List.all_append,i1,List.all_cons,List.all_nil,Bool.and_true,Bool.true_and,eD,e];simp;omega
  ·rw[tY,i2 (by omega),e];omega
  have hp:=qW (n/10);cases hd:Lib.decDigits (n/10)with
  |nil=>rw[hd]at hp;simp at hp
  |cons x xs=>have:=i3 (by omega);rw[hd]at this;simpa using this
theorem aPg: ∀(k n:Nat),n<10 ^ (k+1)→(Lib.decDigits n).length≤k+1:=by
 intro k;induction k with
 |zero=>intro n h;rw[fA n (by simpa using h)];simp
 |succ k ih=>
  intro n h;by_cases h10:n<10
  ·rw[fA n h10];simp
  rw[lC n h10,aQ3];have:=ih (n/10) (by rw[Nat.pow_succ]at h;omega);simp;omega
theorem sF (m n:Nat)(h:n<10 ^ m)(hm:1≤m)(a:m≤5):dK m (Lib.decDigits n)=some (n:Int):=by
 obtain⟨k,rfl⟩: ∃k,m=k+1:=⟨m-1,by omega⟩
 have hb:n≤99999:=by have:10 ^ (k+1)≤10 ^ 5:=aQ6 (by omega) a;omega
 obtain⟨a1,a2,a3⟩:=aN4 n n (aPv _);rw[rC (qW n) (aPg k n h) ?_ a1,a2 (by omega)];by_cases h0:n=0
 ·left;subst h0;rw[fA 0 (by omega)];simp
 right;exact a3 (by omega)
theorem mO (n:Nat)(c:UInt8)(hc:eD c=false):c∉Lib.decDigits n:=by intro h;have:=(aN4 n n (aPv _)).1;rw[aQz]at this;rw[this c h]at hc;simp at hc
theorem qL (c:UInt8): ∀l:List UInt8,c∉l→cI c l= [l]:=by
 intro l;induction l with
 |nil=>intro _;rfl
 |cons x xs ih=>
  intro h;have e:cI c (x::xs)=match cI c xs with| []=> [[x]]|p::ps=>(x::p)::ps:=by rw[cI,if_neg (by intro e;exact h (by simp[e]))]<;>rfl
  rw[e,ih (by intro q;exact h (by simp[q]))]
theorem mP (c:UInt8): ∀(a b:List UInt8),c∉a→cI c (a++c::b)=a::cI c b:=by
 intro a b;induction a with
 |nil=>intro _;simp[cI]
 |cons x xs ih=>
  intro h;have e:cI c (x::(xs++c::b))=match cI c (xs++c::b)with| []=> [[x]]|p::ps=>(x::p)::ps:=by rw[cI,if_neg (by intro e;exact h (by simp[e]))]<;>rfl
  rw[aRl,e,ih (by intro q;exact h (by simp[q]))]
def iN (p:List UInt8):Option Int:=
 if p= [105,110]then some 0 else if p= [112,97,121]then some 1 else if p= [111,117,116]then some 2 else if p= [119,97,105,116]then some 3 else if p= [115,108,105,100,101]then some 4 else none
theorem mJ {p:List UInt8}{k:Int}(h:iN p=some k):0≤k∧k≤4∧p=bM k:=by
 unfold iN at h
 repeat' split at h
 all_goals simp at h
 all_goals subst h;simp_all [bM]
theorem mK (k:Int)(h:0≤k∧k≤4):iN (bM k)=some k:=by rcases(show k=0∨k=1∨k=2∨k=3∨k=4 by omega)with rfl|rfl|rfl|rfl|rfl<;>decide
def bS (l:List UInt8):Option (Int×Int×Int):=
 match cI 32 l with
 | [p,q]=>match iN p,dK 4 q with
   |some k,some a=>if aT k a 0=l then some (k,a,0)else none
   |_,_=>none
 | [p,q,r]=>match iN p,dK 4 q,dK 4 r with
   |some k,some a,some b=>if aT k a b=l then some (k,a,b)else none
   |_,_,_=>none
 |_=>none
def iY (ps:List (List UInt8)):Int×Int×Int:=
 match ps with
 | []=>(-1,0,0)
 | [p]=>((iN p).getD (-1),0,0)
 | [p,q]=>((iN p).getD (-1),(dK 4 q).getD (-1),0)
 |p::q::r::_=>((iN p).getD (-1),(dK 4 q).getD (-1),(dK 4 r).getD (-1))
def lN (l:List UInt8):Option (Int×Int×Int):=
 if l≠ []∧aT (iY (cI 32 l)).1 (iY (cI 32 l)).2.1 (iY (cI 32 l)).2.2=l then some (iY (cI 32 l))else none
theorem tA {k a b:Int}(h:eU k a b=true):0≤k∧k≤4∧0≤a∧a≤9999∧0≤b∧b≤9999∧(iI k=true∨b=0):=by simp[eU]at h;obtain⟨⟨h1,h2,h3,h4,h5,h6⟩,h7⟩:=h;exact⟨h1,h2,h3,h4,h5,h6,by cases hk:iI k<;>simp_all⟩
theorem pL {k a b:Int}(h:aT k a b≠ []):eU k a b=true:=by
 unfold aT at h;split at h
 ·assumption
 simp at h
theorem aAc (k:Int):(32:UInt8)∉bM k:=by
 unfold bM
 repeat' split
 all_goals decide
theorem aEn {k a b:Int}(h:eU k a b=true):cI 32 (aT k a b)=if iI k then [bM k,Lib.decDigits a.toNat,Lib.decDigits b.toNat]else [bM k,Lib.decDigits a.toNat]:=by
 unfold aT;rw[if_pos h];split
 ·have e:bM k++ [32]++Lib.decDigits a.toNat++([32]++Lib.decDigits b.toNat)=bM k++32::(Lib.decDigits a.toNat++32::Lib.decDigits b.toNat):=by simp
  rw[e,mP _ _ _ (aAc k),mP _ _ _ (mO _ _ (by decide)),qL _ _ (mO _ _ (by decide))]
 have e:bM k++ [32]++Lib.decDigits a.toNat++ []=bM k++32::Lib.decDigits a.toNat:=by simp
 rw[e,mP _ _ _ (aAc k),qL _ _ (mO _ _ (by decide))]
theorem tT {a:Int}(h0:0≤a)(h1:a≤9999):dK 4 (Lib.decDigits a.toNat)=some a:=by rw[sF 4 a.toNat (by omega) (by omega) (by omega)];congr 1;omega
theorem mQ {k a b:Int}(h:eU k a b=true):bS (aT k a b)=some (k,a,b):=by
 obtain⟨h1,h2,h3,h4,h5,h6,h7⟩:=tA h;unfold bS;rw[aEn h];cases hk:iI k with
 |true=>simp[mK k ⟨h1,h2⟩,tT h3 h4,tT h5 h6]
 |false=>
  obtain rfl:b=0:=by simpa[hk]using h7
  simp[mK k ⟨h1,h2⟩,tT h3 h4]
theorem aEm {k a b:Int}(h:eU k a b=true):aT k a b≠ []:=by unfold aT;rw[if_pos h];simp
theorem yO {k a b:Int}(h:eU k a b=true):lN (aT k a b)=some (k,a,b):=by
 obtain⟨h1,h2,h3,h4,h5,h6,h7⟩:=tA h;have e:iY (cI 32 (aT k a b))=(k,a,b):=by
  rw[aEn h];cases hk:iI k with
  |true=>simp[iY,mK k ⟨h1,h2⟩,tT h3 h4,tT h5 h6]
  |false=>
   obtain rfl:b=0:=by simpa[hk]using h7
   simp[iY,mK k ⟨h1,h2⟩,tT h3 h4]
 unfold lN;rw[e,if_pos ⟨aEm h,rfl⟩]
theorem yZ {l:List UInt8}{k a b:Int}(h:bS l=some (k,a,b)):aT k a b=l∧eU k a b=true:=by
 have c:aT k a b=l∧0≤k∧k≤4∧l≠ []:=by
  have d: ∀p q,cI 32 l=p::q:: []∨(∃r,cI 32 l= [p,q,r])→l≠ []:=by rintro p q h rfl;rcases h with h|⟨r,h⟩<;>simp[cI]at h
  unfold bS at h;split at h
  ·rename_i p q hc;have:=d p q (.inl hc);split at h
   ·rename_i k' a' hk ha;split at h
    ·rename_i ht;simp only[aR3,aQt]at h;obtain⟨rfl,rfl,rfl⟩:=h;exact⟨ht,(mJ hk).1,(mJ hk).2.1,this⟩
    simp at h
   simp at h
  ·rename_i p q r hc;have:=d p q (.inr ⟨r,hc⟩);split at h
   ·rename_i k' a' b' hk ha hb;split at h
    ·rename_i ht;simp only[aR3,aQt]at h;obtain⟨rfl,rfl,rfl⟩:=h;exact⟨ht,(mJ hk).1,(mJ hk).2.1,this⟩
    simp at h
   simp at h
  simp at h
 exact⟨c.1,pL (by rw[c.1];exact c.2.2.2)⟩
theorem aCx (l:List UInt8):lN l=bS l:=by
 cases h:lN l with
 |some d=>
  obtain⟨k,a,b⟩:=d;unfold lN at h;split at h
  ·rename_i hc;simp only[aR3]at h;rw[h]at hc;have ho:=pL (by rw[hc.2];exact hc.1);rw[←hc.2,mQ ho]
  simp at h
 |none=>
  cases h2:bS l with
  |none=>rfl
  |some d=>obtain⟨k,a,b⟩:=d;obtain⟨e,ho⟩:=yZ h2;rw[←e,yO ho]at h;simp at h
def dC (c:UInt8):List UInt8→List UInt8
 | []=> []
 |x::xs=>if x=c then []else x::dC c xs
def iA (c:UInt8):List UInt8→List UInt8
 | []=> []
 |x::xs=>if x=c then xs else iA c xs
theorem eJ (c:UInt8): ∀(a b:List UInt8),c∉a→dC c (a++c::b)=a∧iA c (a++c::b)=b:=by
 intro a b;induction a with
 |nil=>intro _;simp[dC,iA]
 |cons x xs ih=>
  intro h;obtain⟨i1,i2⟩:=ih (fun q=>h (by simp[q]));have hx:x≠c:=fun q=>h (by simp[q])
  simp[dC,iA,hx,i1,i2]
theorem aAu (c:UInt8): ∀(l:List UInt8),(cI c l)[0]? =some (dC c l):=by
 intro l;induction l with
 |nil=>rfl
 |cons x xs ih=>
  by_cases h:x=c
  ·rw[cI,if_pos h,dC,if_pos h]<;>rfl
  have e:cI c (x::xs)=match cI c xs with| []=> [[x]]|p::ps=>(x::p)::ps:=by rw[cI,if_neg h]<;>rfl
  rw[e,dC,if_neg h];cases hq:cI c xs with
  |nil=>exact absurd hq (kI c xs)
  |cons p ps=>rw[hq]at ih;simpa using ih
theorem oH (c:UInt8): ∀(l:List UInt8),(dC c l).length≤l.length∧(iA c l).length≤l.length:=by
 intro l;induction l with
 |nil=>simp[dC,iA]
 |cons x xs ih=>simp only[dC,iA];split<;>simp<;>omega
def iK (c:UInt8)(l:List UInt8):Option Nat:=if c∈l then some (dC c l).length else none
theorem sI (c:UInt8)(a b:List UInt8)(h:c∉a):iK c (a++c::b)=some a.length:=by unfold iK;rw[if_pos (by simp),(eJ c a b h).1]
theorem uL (c:UInt8): ∀(l:List UInt8),c∈l→ ∃a b,l=a++c::b∧c∉a:=by
 intro l;induction l with
 |nil=>intro h;simp at h
 |cons x xs ih=>
  intro h;by_cases hx:x=c
  ·exact⟨[],xs,by simp[hx],by simp⟩
  obtain⟨a,b,e,ha⟩:=ih (by rcases aQd.1 h with h|h;exact absurd h.symm hx;exact h);exact⟨x::a,b,by simp[e],by simp[ha];exact fun q=>hx q.symm⟩
theorem eW {c:UInt8}{l:List UInt8}{e:Nat}(h:iK c l=some e):e<l.length∧l[e]? =some c∧c∉l.take e:=by
 unfold iK at h;split at h
 ·rename_i hm;obtain⟨a,b,rfl,ha⟩:=uL c l hm;rw[(eJ c a b ha).1]at h;simp only[aR3]at h;subst h;simp[ha]
 simp at h
abbrev dZ:=Int×Int×Int
def bX (l:List UInt8):Option (Int×dZ×Nat):=
 match iK 59 l with
 |none=>none
 |some e=>
  match dK 2 (dC 58 (dC 35 (l.take e))),bS (iA 58 (dC 35 (l.take e)))with
  |some n,some d=>if aY n d.1 d.2.1 d.2.2=l.take (e+1)then some (n,d,e+1)else none
  |_,_=>none
def fE (l:List UInt8):Option (Int×dZ×Nat):=
 match iK 59 l with
 |none=>none
 |some e=>
  match cI 58 (dC 35 (l.take e))with
  | [f,r]=>match bS r with
    |some d=>if aY ((dK 4 f).getD (-1)) d.1 d.2.1 d.2.2=l.take (e+1)then some ((dK 4 f).getD (-1),d,e+1)else none
    |none=>none
  |_=>none
theorem yE {k a b:Int}(h:eU k a b=true):(35:UInt8)∉aT k a b∧(58:UInt8)∉aT k a b∧(59:UInt8)∉aT k a b:=by
 have hn: ∀c:UInt8,c=35∨c=58∨c=59→c∉bM k:=by
  intro c hc;unfold bM
  repeat' split
  all_goals rcases hc with rfl|rfl|rfl<;>decide
 have hd: ∀c:UInt8,c=35∨c=58∨c=59→ ∀n,c∉Lib.decDigits n:=by intro c hc n;exact mO n c (by rcases hc with rfl|rfl|rfl<;>decide)
 have d: ∀c:UInt8,c=35∨c=58∨c=59→c∉aT k a b:=by
  intro c hc;have h1:=hn c hc;have h2:=hd c hc;have h3:c≠32:=by rcases hc with rfl|rfl|rfl<;>decide
  unfold aT;rw[if_pos h];split
  ·simp[h1,h2,h3]
  simp[h1,h2,h3]
 exact⟨d _ (by simp),d _ (by simp),d _ (by simp)⟩
theorem gZ {n k a b:Int}(h:aY n k a b≠ []):1≤n∧n≤99∧eU k a b=true∧
  aY n k a b=Lib.decDigits n.toNat++58::aT k a b++35::Lib.decDigits (lK (Lib.decDigits n.toNat++ [58]++aT k a b)).toNat++ [59]:=by
 unfold aY vW at h⊢;split at h
 ·rename_i hc;refine⟨hc.1,hc.2.1,pL hc.2.2,?_⟩;rw[if_pos hc];simp[nO]
 simp at h
theorem aEk {n k a b:Int}(h:aY n k a b≠ []): ∃F:List UInt8,aY n k a b=F++ [59]∧(59:UInt8)∉F∧dC 35 F=Lib.decDigits n.toNat++58::aT k a b:=by
 obtain⟨h1,h2,ho,e⟩:=gZ h;obtain⟨d1,d2,d3⟩:=yE ho;refine⟨Lib.decDigits n.toNat++58::aT k a b++35::Lib.decDigits (lK (Lib.decDigits n.toNat++ [58]++aT k a b)).toNat,e,?_,?_⟩
 ·have q1:=mO n.toNat 59 (by decide);have q2:=mO (lK (Lib.decDigits n.toNat++ [58]++aT k a b)).toNat 59 (by decide);simp only[aQf,aQd,not_or];exact⟨⟨q1,by decide,d3⟩,by decide,q2⟩
 refine(eJ 35 _ _ ?_).1;have q1:=mO n.toNat 35 (by decide);simp only[aQf,aQd,not_or];exact⟨q1,by decide,d1⟩
theorem aA6 (m:Nat)(hm:2≤m)(a:m≤5){n:Int}(h0:1≤n)(h1:n≤99):dK m (Lib.decDigits n.toNat)=some n:=by
 have:n.toNat<10 ^ m:=by have:10 ^ 2≤10 ^ m:=aQ6 (by omega) hm;omega
 rw[sF m n.toNat this (by omega) a];congr 1;omega
theorem lR {n k a b:Int}(h:aY n k a b≠ [])(R:List UInt8):bX (aY n k a b++R)=some (n,(k,a,b),(aY n k a b).length)∧
  fE (aY n k a b++R)=some (n,(k,a,b),(aY n k a b).length):=by
 obtain⟨h1,h2,ho,_⟩:=gZ h;obtain⟨F,e,hF,hc⟩:=aEk h;obtain⟨d1,d2,d3⟩:=yE ho;have hp:iK 59 (aY n k a b++R)=some F.length:=by rw[e];simp only[aQp,List.singleton_append];exact sI 59 F R hF
 have ht:(aY n k a b++R).take F.length=F:=by rw[e];simp
 have d:(aY n k a b++R).take (F.length+1)=aY n k a b:=by
  have:F.length+1=(aY n k a b).length:=by rw[e];simp
  rw[this];simp
 have hl:F.length+1=(aY n k a b).length:=by rw[e];simp
 have c:=mO n.toNat 58 (by decide);constructor
 ·unfold bX;rw[hp];simp only[ht,d,hc];rw[(eJ 58 _ _ c).1,(eJ 58 _ _ c).2,aA6 2 (by omega) (by omega) h1 h2,mQ ho];simp[hl]
 unfold fE;rw[hp];simp only[ht,d,hc];rw[mP 58 _ _ c,qL 58 _ d2];simp only[mQ ho,aA6 4 (by omega) (by omega) h1 h2];simp[hl]
theorem aHl {l:List UInt8}{e:Nat}(h:iK 59 l=some e):l.take (e+1)≠ []:=by have:=eW h;intro q;have:=congrArg List.length q;rw[aQl,List.length_nil]at this;omega
theorem lS {l:List UInt8}{n k a b:Int}{m:Nat}(h:bX l=some (n,(k,a,b),m)):aY n k a b≠ []∧l=aY n k a b++l.drop m∧m=(aY n k a b).length:=by
 unfold bX at h;split at h
 ·simp at h
 rename_i e hp;split at h
 ·rename_i n' d hn hd;split at h
  ·rename_i ht;simp only[aR3,aQt]at h;obtain⟨rfl,rfl,rfl⟩:=h;have:=eW hp;refine⟨by rw[ht];exact aHl hp,by rw[ht];simp,by rw[ht];simp;omega⟩
  simp at h
 simp at h
theorem rB {l:List UInt8}{n k a b:Int}{m:Nat}(h:fE l=some (n,(k,a,b),m)):aY n k a b≠ []∧l=aY n k a b++l.drop m∧m=(aY n k a b).length:=by
 unfold fE at h;split at h
 ·simp at h
 rename_i e hp;split at h
 ·split at h
  ·split at h
   ·rename_i ht;simp only[aR3,aQt]at h;obtain⟨rfl,rfl,rfl⟩:=h;have:=eW hp;refine⟨by rw[ht];exact aHl hp,by rw[ht];simp,by rw[ht];simp;omega⟩
   simp at h
  simp at h
 simp at h
theorem tN (l:List UInt8):fE l=bX l:=by
 cases h:fE l with
 |some x=>obtain⟨n,⟨k,a,b⟩,m⟩:=x;obtain⟨h1,h2,h3⟩:=rB h;rw[h2,(lR h1 _).1,h3]
 |none=>
  cases h2:bX l with
  |none=>rfl
  |some x=>obtain⟨n,⟨k,a,b⟩,m⟩:=x;obtain⟨q1,q2,q3⟩:=lS h2;rw[q2,(lR q1 _).2]at h;simp at h
section
open Go.Proofs.Tryz
def rdV:Option (Int×Int×Int)→Value
 |some (k,a,b)=> .tuple #[cF k a b,.bool true]
 |none=> .tuple #[cF 0 0 0,.bool false]
def mC (o:Option (Int×Int×Int))(w:World)(e:Ending)(w':World):Prop:=e= .returned (rdV o)∧Ext w w'
theorem bI {w:World}{base g n a:Nat}{e:TypeId}{ps:List (List UInt8)}(h:w.ownsRow base e 1 (.slice (some ⟨g,0,none⟩) n a) n (gK ps))(j:Nat)(hj:j<n)(p:List UInt8)(hp:ps[j]? =some p):w.cell? ⟨g,j,none⟩=some (str p):=by rw[h.cellAt j (by omega)];simp[gK,hp]
theorem sP (l:List UInt8)(w:World)(ps:List (List UInt8))(b:0<ps.length)(hl:ps.length<2∨2≤ps.length∧3<ps.length)
  (HS:Hid (∀w,Env w→U 123 #[str l,.string ⟨#[32]⟩] w fun e w'=> ∃v,e= .returned v∧w'.ownsRow w 9 1 v ps.length (gK ps)∧Ext w w'))(HE:Hid (Env w)):
  U 86 #[str l] w (mC none w):=by
 rcases hl with hl|⟨h,hl⟩
 all_goals
  go_enter func86,ntmps86;go_wp2_with fail;refine(HS _ (HE.out.ext xE)).mono ?_;rintro e w1 ⟨v,rfl,a,h1⟩;obtain⟨g,c,rfl⟩:=aQk a b;obtain⟨d,f⟩:=h1.cells;clear a;go_wp2;exact bodyPost_ret (v:=rdV none) (by simp[results,results86,go_sem, *];rfl) rfl ⟨rfl,xE⟩
theorem xO (l:List UInt8)(w:World)(p q:List UInt8)(n1:(p== [105,110])=false)(n2:(p== [112,97,121])=false)(n3:(p== [111,117,116])=false)(n4:(p== [119,97,105,116])=false)(n5:(p== [115,108,105,100,101])=false)
  (HS:Hid (∀w,Env w→U 123 #[str l,.string ⟨#[32]⟩] w fun e w'=> ∃v,e= .returned v∧w'.ownsRow w 9 1 v 2 (gK [p,q])∧Ext w w'))(HE:Hid (Env w)):
  U 86 #[str l] w (mC none w):=by
 all_goals
  go_enter func86,ntmps86;go_wp2_with fail;refine(HS _ (HE.out.ext xE)).mono ?_;rintro e w1 ⟨v,rfl,a,h1⟩;obtain⟨g,b,rfl⟩:=aQk a (by omega);have e0:=bI a 0 (by omega) _ rfl;have hg:=(a.lt g rfl).2;obtain⟨c,d⟩:=h1.cells;have f:(w:Nat)<w1:=aPu (by simp) h1.sz;clear a;go_wp2;exact bodyPost_ret (v:=rdV none) (by simp[results,results86,go_sem, *];rfl) rfl ⟨rfl,xE⟩
theorem aDz (l:List UInt8)(w:World)(p q:List UInt8)(k:Int)(hk:p= [105,110]∧k=0∨p= [112,97,121]∧k=1∨p= [111,117,116]∧k=2∨p= [119,97,105,116]∧k=3∨p= [115,108,105,100,101]∧k=4)
  (HS:Hid (∀w,Env w→U 123 #[str l,.string ⟨#[32]⟩] w fun e w'=> ∃v,e= .returned v∧w'.ownsRow w 9 1 v 2 (gK [p,q])∧Ext w w'))(HE:Hid (Env w))
  (HR:Hid (∀w,U 85 #[str q,I 4] w fun e w'=>e= .returned (.tuple #[(),.bool false])∧w=w')):
  U 86 #[str l] w (mC none w):=by
 rcases hk with⟨rfl,rfl⟩|⟨rfl,rfl⟩|⟨rfl,rfl⟩|⟨rfl,rfl⟩|⟨rfl,rfl⟩
 all_goals
  go_enter func86,ntmps86;go_wp2_with fail;refine(HS _ (HE.out.ext xE)).mono ?_;rintro e w1 ⟨v,rfl,a,h1⟩;obtain⟨g,b,rfl⟩:=aQk a (by omega);have e0:=bI a 0 (by omega) _ rfl;have e1:=bI a 1 (by omega) _ rfl;have hg:=(a.lt g rfl).2;obtain⟨c,d⟩:=h1.cells;have f:(w:Nat)<w1:=aPu (by simp) h1.sz;clear a;go_wp2_with fail;refine(HR _).mono ?_;rintro e w2 ⟨rfl,rfl⟩;go_wp2;exact bodyPost_ret (v:=rdV none) (by simp[results,results86,go_sem, *];rfl) rfl ⟨rfl,xE⟩
theorem xM (l:List UInt8)(w:World)(p q r:List UInt8)(n1:(p== [105,110])=false)(n2:(p== [112,97,121])=false)(n3:(p== [111,117,116])=false)(n4:(p== [119,97,105,116])=false)(n5:(p== [115,108,105,100,101])=false)
  (HS:Hid (∀w,Env w→U 123 #[str l,.string ⟨#[32]⟩] w fun e w'=> ∃v,e= .returned v∧w'.ownsRow w 9 1 v 3 (gK [p,q,r])∧Ext w w'))(HE:Hid (Env w)):
  U 86 #[str l] w (mC none w):=by
 all_goals
  go_enter func86,ntmps86;go_wp2_with fail;refine(HS _ (HE.out.ext xE)).mono ?_;rintro e w1 ⟨v,rfl,a,h1⟩;obtain⟨g,b,rfl⟩:=aQk a (by omega);have e0:=bI a 0 (by omega) _ rfl;have hg:=(a.lt g rfl).2;obtain⟨c,d⟩:=h1.cells;have f:(w:Nat)<w1:=aPu (by simp) h1.sz;clear a;go_wp2;exact bodyPost_ret (v:=rdV none) (by simp[results,results86,go_sem, *];rfl) rfl ⟨rfl,xE⟩
theorem aDy (l:List UInt8)(w:World)(p q r:List UInt8)(k:Int)(hk:p= [105,110]∧k=0∨p= [112,97,121]∧k=1∨p= [111,117,116]∧k=2∨p= [119,97,105,116]∧k=3∨p= [115,108,105,100,101]∧k=4)
  (HS:Hid (∀w,Env w→U 123 #[str l,.string ⟨#[32]⟩] w fun e w'=> ∃v,e= .returned v∧w'.ownsRow w 9 1 v 3 (gK [p,q,r])∧Ext w w'))(HE:Hid (Env w))
  (HR:Hid (∀w,U 85 #[str q,I 4] w fun e w'=>e= .returned (.tuple #[(),.bool false])∧w=w')):
  U 86 #[str l] w (mC none w):=by
 rcases hk with⟨rfl,rfl⟩|⟨rfl,rfl⟩|⟨rfl,rfl⟩|⟨rfl,rfl⟩|⟨rfl,rfl⟩
 all_goals
  go_enter func86,ntmps86;go_wp2_with fail;refine(HS _ (HE.out.ext xE)).mono ?_;rintro e w1 ⟨v,rfl,a,h1⟩;obtain⟨g,b,rfl⟩:=aQk a (by omega);have e0:=bI a 0 (by omega) _ rfl;have e1:=bI a 1 (by omega) _ rfl;have hg:=(a.lt g rfl).2;obtain⟨c,d⟩:=h1.cells;have f:(w:Nat)<w1:=aPu (by simp) h1.sz;clear a;go_wp2_with fail;refine(HR _).mono ?_;rintro e w2 ⟨rfl,rfl⟩;go_wp2;exact bodyPost_ret (v:=rdV none) (by simp[results,results86,go_sem, *];rfl) rfl ⟨rfl,xE⟩
theorem aDx (l:List UInt8)(w:World)(p q r:List UInt8)(k a:Int)(hk:p= [105,110]∧k=0∨p= [112,97,121]∧k=1∨p= [111,117,116]∧k=2∨p= [119,97,105,116]∧k=3∨p= [115,108,105,100,101]∧k=4)
  (HS:Hid (∀w,Env w→U 123 #[str l,.string ⟨#[32]⟩] w fun e w'=> ∃v,e= .returned v∧w'.ownsRow w 9 1 v 3 (gK [p,q,r])∧Ext w w'))(HE:Hid (Env w))
  (HR:Hid (∀w,U 85 #[str q,I 4] w fun e w'=>e= .returned (.tuple #[a,.bool true])∧w=w'))
  (c:Hid (∀w,U 85 #[str r,I 4] w fun e w'=>e= .returned (.tuple #[(),.bool false])∧w=w')):
  U 86 #[str l] w (mC none w):=by
 rcases hk with⟨rfl,rfl⟩|⟨rfl,rfl⟩|⟨rfl,rfl⟩|⟨rfl,rfl⟩|⟨rfl,rfl⟩
 all_goals
  go_enter func86,ntmps86;go_wp2_with fail;refine(HS _ (HE.out.ext xE)).mono ?_;rintro e w1 ⟨v,rfl,b,h1⟩;obtain⟨g,d,rfl⟩:=aQk b (by omega);have e0:=bI b 0 (by omega) _ rfl;have e1:=bI b 1 (by omega) _ rfl;have e2:=bI b 2 (by omega) _ rfl;have hg:=(b.lt g rfl).2;obtain⟨f,h⟩:=h1.cells;have i:(w:Nat)<w1:=aPu (by simp) h1.sz;clear b;go_wp2_with fail;refine(HR _).mono ?_;rintro e w2 ⟨rfl,rfl⟩;go_wp2_with fail;refine(c _).mono ?_;rintro e w2 ⟨rfl,rfl⟩;go_wp2;exact bodyPost_ret (v:=rdV none) (by simp[results,results86,go_sem, *];rfl) rfl ⟨rfl,xE⟩
theorem aBu (l:List UInt8)(w:World)(p q t:List UInt8)(k a:Int)(hk:p= [105,110]∧k=0∨p= [112,97,121]∧k=1∨p= [111,117,116]∧k=2∨p= [119,97,105,116]∧k=3∨p= [115,108,105,100,101]∧k=4)(ht:(t==l)=true)
  (HS:Hid (∀w,Env w→U 123 #[str l,.string ⟨#[32]⟩] w fun e w'=> ∃v,e= .returned v∧w'.ownsRow w 9 1 v 2 (gK [p,q])∧Ext w w'))(HE:Hid (Env w))
  (HR:Hid (∀w,U 85 #[str q,I 4] w fun e w'=>e= .returned (.tuple #[a,.bool true])∧w=w'))
  (HD:Hid (∀w,Env w→U 124 #[cF k a 0] w (O (str t) w))):
  U 86 #[str l] w (mC (some (k,a,0)) w):=by
 rcases hk with⟨rfl,rfl⟩|⟨rfl,rfl⟩|⟨rfl,rfl⟩|⟨rfl,rfl⟩|⟨rfl,rfl⟩
 all_goals
  go_enter func86,ntmps86;go_wp2_with fail;refine(HS _ (HE.out.ext xE)).mono ?_;rintro e w1 ⟨v,rfl,b,h1⟩;obtain⟨g,c,rfl⟩:=aQk b (by omega);have e0:=bI b 0 (by omega) _ rfl;have e1:=bI b 1 (by omega) _ rfl;have hg:=(b.lt g rfl).2;obtain⟨d,i⟩:=h1.cells;have n:(w:Nat)<w1:=aPu (by simp) h1.sz;clear b;go_wp2_with fail;refine(HR _).mono ?_;rintro e w2 ⟨rfl,rfl⟩;go_wp2_with fail;refine Z (HD _ (HE.out.ext xE)) fun w2 h2=>?_
  obtain⟨f,j⟩:=h2.cells;have hw:=(h1.alloc (.cells #[_,_,_] 44)).trans h2;obtain⟨h,m⟩:=hw.cells;go_wp2;exact bodyPost_ret (v:=rdV (some (_,a,0))) (by simp[results,results86,go_sem, *];rfl) rfl ⟨rfl,xE⟩
theorem aBw (l:List UInt8)(w:World)(p q t:List UInt8)(k a:Int)(hk:p= [105,110]∧k=0∨p= [112,97,121]∧k=1∨p= [111,117,116]∧k=2∨p= [119,97,105,116]∧k=3∨p= [115,108,105,100,101]∧k=4)(ht:(t==l)=false)
  (HS:Hid (∀w,Env w→U 123 #[str l,.string ⟨#[32]⟩] w fun e w'=> ∃v,e= .returned v∧w'.ownsRow w 9 1 v 2 (gK [p,q])∧Ext w w'))(HE:Hid (Env w))
  (HR:Hid (∀w,U 85 #[str q,I 4] w fun e w'=>e= .returned (.tuple #[a,.bool true])∧w=w'))
  (HD:Hid (∀w,Env w→U 124 #[cF k a 0] w (O (str t) w))):
  U 86 #[str l] w (mC (none) w):=by
 rcases hk with⟨rfl,rfl⟩|⟨rfl,rfl⟩|⟨rfl,rfl⟩|⟨rfl,rfl⟩|⟨rfl,rfl⟩
 all_goals
  go_enter func86,ntmps86;go_wp2_with fail;refine(HS _ (HE.out.ext xE)).mono ?_;rintro e w1 ⟨v,rfl,b,h1⟩;obtain⟨g,c,rfl⟩:=aQk b (by omega);have e0:=bI b 0 (by omega) _ rfl;have e1:=bI b 1 (by omega) _ rfl;have hg:=(b.lt g rfl).2;obtain⟨d,i⟩:=h1.cells;have n:(w:Nat)<w1:=aPu (by simp) h1.sz;clear b;go_wp2_with fail;refine(HR _).mono ?_;rintro e w2 ⟨rfl,rfl⟩;go_wp2_with fail;refine Z (HD _ (HE.out.ext xE)) fun w2 h2=>?_
  obtain⟨f,j⟩:=h2.cells;have hw:=(h1.alloc (.cells #[_,_,_] 44)).trans h2;obtain⟨h,m⟩:=hw.cells;go_wp2;exact bodyPost_ret (v:=rdV none) (by simp[results,results86,go_sem, *];rfl) rfl ⟨rfl,xE⟩
theorem aBt (l:List UInt8)(w:World)(p q r t:List UInt8)(k a b:Int)(hk:p= [105,110]∧k=0∨p= [112,97,121]∧k=1∨p= [111,117,116]∧k=2∨p= [119,97,105,116]∧k=3∨p= [115,108,105,100,101]∧k=4)(ht:(t==l)=true)
  (HS:Hid (∀w,Env w→U 123 #[str l,.string ⟨#[32]⟩] w fun e w'=> ∃v,e= .returned v∧w'.ownsRow w 9 1 v 3 (gK [p,q,r])∧Ext w w'))(HE:Hid (Env w))
  (HR:Hid (∀w,U 85 #[str q,I 4] w fun e w'=>e= .returned (.tuple #[a,.bool true])∧w=w'))
  (d:Hid (∀w,U 85 #[str r,I 4] w fun e w'=>e= .returned (.tuple #[b,.bool true])∧w=w'))
  (HD:Hid (∀w,Env w→U 124 #[cF k a b] w (O (str t) w))):
  U 86 #[str l] w (mC (some (k,a,b)) w):=by
 rcases hk with⟨rfl,rfl⟩|⟨rfl,rfl⟩|⟨rfl,rfl⟩|⟨rfl,rfl⟩|⟨rfl,rfl⟩
 all_goals
  go_enter func86,ntmps86;go_wp2_with fail;refine(HS _ (HE.out.ext xE)).mono ?_;rintro e w1 ⟨v,rfl,c,h1⟩;obtain⟨g,f,rfl⟩:=aQk c (by omega);have e0:=bI c 0 (by omega) _ rfl;have e1:=bI c 1 (by omega) _ rfl;have e2:=bI c 2 (by omega) _ rfl;have hg:=(c.lt g rfl).2;obtain⟨h,m⟩:=h1.cells;have s:(w:Nat)<w1:=aPu (by simp) h1.sz;clear c;go_wp2_with fail;refine(HR _).mono ?_;rintro e w2 ⟨rfl,rfl⟩;go_wp2_with fail;refine(d _).mono ?_;rintro e w2 ⟨rfl,rfl⟩;go_wp2_with fail;refine Z (HD _ (HE.out.ext xE)) fun w2 h2=>?_
  obtain⟨i,n⟩:=h2.cells;have hw:=(h1.alloc (.cells #[_,_,_] 44)).trans h2;obtain⟨j,o⟩:=hw.cells;go_wp2;exact bodyPost_ret (v:=rdV (some (_,a,b))) (by simp[results,results86,go_sem, *];rfl) rfl ⟨rfl,xE⟩
theorem aBv (l:List UInt8)(w:World)(p q r t:List UInt8)(k a b:Int)(hk:p= [105,110]∧k=0∨p= [112,97,121]∧k=1∨p= [111,117,116]∧k=2∨p= [119,97,105,116]∧k=3∨p= [115,108,105,100,101]∧k=4)(ht:(t==l)=false)
  (HS:Hid (∀w,Env w→U 123 #[str l,.string ⟨#[32]⟩] w fun e w'=> ∃v,e= .returned v∧w'.ownsRow w 9 1 v 3 (gK [p,q,r])∧Ext w w'))(HE:Hid (Env w))
  (HR:Hid (∀w,U 85 #[str q,I 4] w fun e w'=>e= .returned (.tuple #[a,.bool true])∧w=w'))
  (d:Hid (∀w,U 85 #[str r,I 4] w fun e w'=>e= .returned (.tuple #[b,.bool true])∧w=w'))
  (HD:Hid (∀w,Env w→U 124 #[cF k a b] w (O (str t) w))):
  U 86 #[str l] w (mC (none) w):=by
 rcases hk with⟨rfl,rfl⟩|⟨rfl,rfl⟩|⟨rfl,rfl⟩|⟨rfl,rfl⟩|⟨rfl,rfl⟩
 all_goals
  go_enter func86,ntmps86;go_wp2_with fail;refine(HS _ (HE.out.ext xE)).mono ?_;rintro e w1 ⟨v,rfl,c,h1⟩;obtain⟨g,f,rfl⟩:=aQk c (by omega);have e0:=bI c 0 (by omega) _ rfl;have e1:=bI c 1 (by omega) _ rfl;have e2:=bI c 2 (by omega) _ rfl;have hg:=(c.lt g rfl).2;obtain⟨h,m⟩:=h1.cells;have s:(w:Nat)<w1:=aPu (by simp) h1.sz;clear c;go_wp2_with fail;refine(HR _).mono ?_;rintro e w2 ⟨rfl,rfl⟩;go_wp2_with fail;refine(d _).mono ?_;rintro e w2 ⟨rfl,rfl⟩;go_wp2_with fail;refine Z (HD _ (HE.out.ext xE)) fun w2 h2=>?_
  obtain⟨i,n⟩:=h2.cells;have hw:=(h1.alloc (.cells #[_,_,_] 44)).trans h2;obtain⟨j,o⟩:=hw.cells;go_wp2;exact bodyPost_ret (v:=rdV none) (by simp[results,results86,go_sem, *];rfl) rfl ⟨rfl,xE⟩
end
theorem yG (c:UInt8): ∀(l:List UInt8),(∀p∈cI c l,p.length≤l.length)∧(cI c l).length≤l.length+1:=by
 intro l;induction l with
 |nil=>simp[cI]
 |cons x xs ih=>
  by_cases h:x=c
  ·have e:cI c (x::xs)= []::cI c xs:=by rw[cI,if_pos h]
   rw[e];refine⟨fun p hp=> ?_,by simp;exact ih.2⟩;rcases aQd.1 hp with rfl|hp
   ·simp
   have:=ih.1 p hp;simp;omega
  have e:cI c (x::xs)=match cI c xs with| []=> [[x]]|p::ps=>(x::p)::ps:=by rw[cI,if_neg h]<;>rfl
  rw[e];cases hq:cI c xs with
  |nil=>exact absurd hq (kI c xs)
  |cons q qs=>
   rw[hq]at ih;refine⟨fun p hp=> ?_,by have:=ih.2;simp at this⊢;omega⟩;rcases aQd.1 hp with rfl|hp
   ·have:=ih.1 q (by simp);simp;omega
   have:=ih.1 p (by simp[hp]);simp;omega
theorem oZ {p:List UInt8}(h:iN p=none):(p== [105,110])=false∧(p== [112,97,121])=false∧(p== [111,117,116])=false∧(p== [119,97,105,116])=false∧(p== [115,108,105,100,101])=false:=by
 unfold iN at h
 repeat' split at h
 all_goals simp_all
theorem eX {p:List UInt8}{k:Int}(h:iN p=some k):p= [105,110]∧k=0∨p= [112,97,121]∧k=1∨p= [111,117,116]∧k=2∨p= [119,97,105,116]∧k=3∨p= [115,108,105,100,101]∧k=4:=by
 unfold iN at h
 repeat' split at h
 all_goals simp_all
theorem uW (q:List UInt8)(m:Nat)(hm:1≤m∧m≤5)(hq:q.length≤maxLen)(w:World):U 85 #[str q,m] w fun e w'=>e= .returned (.tuple #[((dK m q).getD 0:Int),.bool (dK m q).isSome])∧w=w':=
 wR ⟨q.toArray⟩ m w hm (by simpa[ByteArray.size]using hq)
theorem aBz (l:List UInt8)(w:World)(hs:l.length<4294967281)(hE:Env w):U 86 #[str l] w (mC (bS l) w):=by
 have hS: ∀w,Env w→U 123 #[str l,.string ⟨#[32]⟩] w fun e w'=> ∃v,e= .returned v∧w'.ownsRow w 9 1 v (cI 32 l).length (gK (cI 32 l))∧Ext w w':=
  fun w hE=>aIh ⟨l.toArray⟩ 32 w (by simpa[ByteArray.size]using hs) hE
 have d:=yG 32 l;have c: ∀q∈cI 32 l,∀o,dK 4 q=o→Hid (∀w,U 85 #[str q,I 4] w fun e w'=>e= .returned (.tuple #[(o.getD 0:Int),.bool o.isSome])∧w=w'):=by intro q hq o ho w;subst ho;exact uW q 4 (by omega) (by have:=d.1 q hq;unfold maxLen;omega) w
 rcases hc:cI 32 l with _|⟨p,_|⟨q,_|⟨r,_|⟨x,rest⟩⟩⟩⟩
 ·exact absurd hc (kI 32 l)
 ·rw[hc]at hS;have e:bS l=none:=by unfold bS;rw[hc]
  rw[e];exact sP l w [p] (by simp) (.inl (by simp)) hS hE
 ·rw[hc]at hS c;cases hk:iN p with
  |none=>
   obtain⟨n1,n2,n3,n4,n5⟩:=oZ hk;have e:bS l=none:=by unfold bS;rw[hc];simp[hk]
   rw[e];exact xO l w p q n1 n2 n3 n4 n5 hS hE
  |some k=>
   cases hq:dK 4 q with
   |none=>
    have e:bS l=none:=by unfold bS;rw[hc];simp[hk,hq]
    rw[e];exact aDz l w p q k (eX hk) hS hE (c q (by simp) _ hq)
   |some a=>
    by_cases ht:aT k a 0=l
    ·skip;have e:bS l=some (k,a,0):=by unfold bS;rw[hc];simp[hk,hq,ht]
     rw[e];exact aBu l w p q (aT k a 0) k a (eX hk) (by simp[ht]) hS hE (c q (by simp) _ hq) (fun w h=>nJ k a 0 w h)
    skip;have e:bS l=none:=by unfold bS;rw[hc];simp[hk,hq,ht]
    rw[e];exact aBw l w p q (aT k a 0) k a (eX hk) (by simp[ht]) hS hE (c q (by simp) _ hq) (fun w h=>nJ k a 0 w h)
 ·rw[hc]at hS c;cases hk:iN p with
  |none=>
   obtain⟨n1,n2,n3,n4,n5⟩:=oZ hk;have e:bS l=none:=by unfold bS;rw[hc];simp[hk]
   rw[e];exact xM l w p q r n1 n2 n3 n4 n5 hS hE
  |some k=>
   cases hq:dK 4 q with
   |none=>
    have e:bS l=none:=by unfold bS;rw[hc];simp[hk,hq]
    rw[e];exact aDy l w p q r k (eX hk) hS hE (c q (by simp) _ hq)
   |some a=>
    cases hr:dK 4 r with
    |none=>
     have e:bS l=none:=by unfold bS;rw[hc];simp[hk,hq,hr]
     rw[e];exact aDx l w p q r k a (eX hk) hS hE (c q (by simp) _ hq) (c r (by simp) _ hr)
    |some b=>
     by_cases ht:aT k a b=l
     ·skip;have e:bS l=some (k,a,b):=by unfold bS;rw[hc];simp[hk,hq,hr,ht]
      rw[e];exact aBt l w p q r (aT k a b) k a b (eX hk) (by simp[ht]) hS hE (c q (by simp) _ hq) (c r (by simp) _ hr) (fun w h=>nJ k a b w h)
     skip;have e:bS l=none:=by unfold bS;rw[hc];simp[hk,hq,hr,ht]
     rw[e];exact aBv l w p q r (aT k a b) k a b (eX hk) (by simp[ht]) hS hE (c q (by simp) _ hq) (c r (by simp) _ hr) (fun w h=>nJ k a b w h)
 rw[hc]at hS;have e:bS l=none:=by unfold bS;rw[hc]
 rw[e];exact sP l w (p::q::r::x::rest) (by simp) (.inr (by simp)) hS hE
end Go.Proofs.YtbgkcehffiogcaaGreatDoor
