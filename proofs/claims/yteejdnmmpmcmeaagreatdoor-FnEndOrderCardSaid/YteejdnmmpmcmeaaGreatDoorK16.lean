/-
  Texts of this proof, packed (@packed).
-/
import Derived.Test.YteejdnmmpmcmeaaGreatDoorK4
import Derived.Test.YteejdnmmpmcmeaaGreatDoorK15
namespace Go.Proofs.YteejdnmmpmcmeaaGreatDoor
open Go.RowKit
set_option linter.unusedVariables false
set_option linter.unusedSimpArgs false
theorem rowN_eq (m:Nat→Bool)(f k:Nat):rowN m f k=((List.range k).filter m).map (fun(t:Nat)=>((f:Int),(t:Int))):=by
 induction k with
 |zero=>rfl
 |succ k ih=>
  rw[List.range_succ,List.filter_append,List.map_append,show rowN m f (k+1)=rowN m f k++(if m k then [((f:Int),(k:Int))]else [])from rfl,ih]
  cases h:m k<;>simp[h]
theorem rowsN_eq (m:Nat→Nat→Bool)(n k:Nat):rowsN m n k=(List.range k).flatMap (fun f=>((List.range n).filter (m f)).map (fun(t:Nat)=>((f:Int),(t:Int)))):=by
 induction k with
 |zero=>rfl
 |succ k ih=>
  rw[List.range_succ,List.flatMap_append,show rowsN m n (k+1)=rowsN m n k++rowN (m k) k n from rfl,ih,rowN_eq]
  simp
theorem isFree_iff {xs:List Int}{k:Nat}(hk:k<xs.length):isFree xs k=decide (xs.getD k 0=0):=by
 unfold isFree
 rw[List.getD_eq_getElem?_getD,List.getElem?_eq_getElem hk]
 simp
 rfl
theorem may_bits {wide deep:Int}{xs:List Int}(h:hallOk wide deep xs=true){f t:Nat}(hf:f<xs.length)(ht:t<xs.length):
  slideMay wide deep xs (f:Int) (t:Int)=(!(freeSet xs).testBit f&&(decide (t∈besideN wide xs.length f)&&(freeSet xs).testBit t)):=by
 have h1:cellsApart wide deep xs (f:Int) (t:Int)=apart wide f t:=by
  unfold cellsApart;rw[if_pos ⟨h,⟨by omega,by omega⟩,by omega,by omega⟩]
 have h2:=hall_nonneg h f
 unfold slideMay
 rw[h1,freeSet_bit,freeSet_bit,isFree_iff hf,isFree_iff ht]
 simp only[Int.toNat_natCast]
 have h3:decide (t∈besideN wide xs.length f)=decide (apart wide f t=1):=by
  have:t∈besideN wide xs.length f↔apart wide f t=1:=by rw[besideN_mem];exact⟨fun h=>h.2,fun h=>⟨ht,h⟩⟩
  simp[this]
 have h4:decide (0<xs.getD f 0)= !decide (xs.getD f 0=0):=by
  by_cases h0:xs.getD f 0=0
  ·rw[h0];rfl
  ·have:0<xs.getD f 0:=by omega
   simp only[h0,this];rfl
 rw[h3,h4]
 cases decide (apart wide f t=1)<;>cases decide (xs.getD f 0=0)<;>rfl
theorem slides_edges {wide deep:Int}{xs:List Int}(h:hallOk wide deep xs=true):slidesAll wide deep xs=(edgesS wide xs.length (freeSet xs)).map (fun e=>((e.1:Int),(e.2:Int))):=by
 unfold slidesAll edgesS
 rw[rowsN_eq,List.map_flatMap]
 have key: ∀l:List Nat,(∀f∈l,f<xs.length)→l.flatMap (fun(f:Nat)=>((List.range xs.length).filter (fun(t:Nat)=>slideMay wide deep xs f t)).map (fun(t:Nat)=>((f:Int),(t:Int))))=l.flatMap (fun a=>(if(freeSet xs).testBit a then []else((besideN wide xs.length a).filter (fun t=>(freeSet xs).testBit t)).map (fun t=>(a,t))).map (fun e=>((e.1:Int),(e.2:Int)))):=by
  intro l
  induction l with
  |nil=>intro _;rfl
  |cons f l ih=>
   intro hl
   have hf:=hl f (by simp)
   rw[List.flatMap_cons,List.flatMap_cons,ih (fun x hx=>hl x (by simp[hx]))]
   congr 1
   have e1:(List.range xs.length).filter (fun(t:Nat)=>slideMay wide deep xs f t)=(List.range xs.length).filter (fun(t:Nat)=>(!(freeSet xs).testBit f&&(decide (t∈besideN wide xs.length f)&&(freeSet xs).testBit t))):=
    List.filter_congr (fun t ht=>may_bits h hf (List.mem_range.1 ht))
   rw[e1]
   cases hb:(freeSet xs).testBit f with
   |true=>simp
   |false=>
    simp only[Bool.not_false,Bool.true_and,Bool.false_eq_true,if_false,List.map_map]
    have e2:(List.range xs.length).filter (fun(t:Nat)=>decide (t∈besideN wide xs.length f)&&(freeSet xs).testBit t)=(besideN wide xs.length f).filter (fun t=>(freeSet xs).testBit t):=by
     have:besideN wide xs.length f=(List.range xs.length).filter (fun t=>decide (t∈besideN wide xs.length f)):=by
      conv=>lhs;unfold besideN
      refine List.filter_congr (fun t ht=> ?_)
      have:t∈besideN wide xs.length f↔apart wide f t=1:=by rw[besideN_mem];exact⟨fun h=>h.2,fun h=>⟨List.mem_range.1 ht,h⟩⟩
      simp[this]
     conv=>rhs;rw[this]
     rw[List.filter_filter]
     refine List.filter_congr (fun t _=> ?_)
     rw[Bool.and_comm]
    rw[e2]
    rfl
 exact key _ (fun f hf=>List.mem_range.1 hf)
theorem edge_hall {wide deep:Int}{xs:List Int}(h:hallOk wide deep xs=true){f t:Nat}(he:(f,t)∈edgesS wide xs.length (freeSet xs)):
  slideMay wide deep xs (f:Int) (t:Int)=true∧slideDo wide deep xs (f:Int) (t:Int)=(xs.set t (xs.getD f 0)).set f 0∧freeSet (slideDo wide deep xs (f:Int) (t:Int))=moveS (freeSet xs) f t∧ ∀c id,xs[c]? =some id→id≠0→(slideDo wide deep xs (f:Int) (t:Int))[carAt c f t]? =some id:=by
 obtain⟨h1,h2,h3,h4,h5⟩:=edgesS_mem.1 he
 dsimp only at h1 h2 h3 h4 h5
 have hm:slideMay wide deep xs (f:Int) (t:Int)=true:=by rw[may_bits h h1 h2,h4,h5];simp[h3]
 have hd:slideDo wide deep xs (f:Int) (t:Int)=(xs.set t (xs.getD f 0)).set f 0:=by unfold slideDo;rw[if_pos hm];simp only[Int.toNat_natCast]
 have hne:f≠t:=fun e=>by subst e;rw[h5]at h4;cases h4
 have hf0:xs.getD f 0≠0:=by
  intro e;rw[freeSet_bit,isFree_iff h1,e]at h4;simp at h4
 refine⟨hm,hd,?_,?_⟩
 ·refine bits_eq fun k=> ?_
  rw[moveS_bit h5 h4,freeSet_bit,freeSet_bit,hd]
  by_cases hk:k<xs.length
  ·rw[isFree_iff (by simpa using hk),isFree_iff hk]
   by_cases k1:k=f
   ·subst k1
    rw[List.getD_eq_getElem?_getD,List.getElem?_set_self (by simpa using hk)];simp
   ·by_cases k2:k=t
    ·subst k2
     rw[List.getD_eq_getElem?_getD,List.getElem?_set_ne (Ne.symm k1),List.getElem?_set_self hk]
     have e:(some (xs.getD f 0)).getD 0=xs.getD f 0:=rfl
     rw[e]
     have hf1: ¬xs[f]?.getD 0=0:=by rw[←List.getD_eq_getElem?_getD];exact hf0
     simp[hf1,k1]
    ·rw[List.getD_eq_getElem?_getD,List.getElem?_set_ne (Ne.symm k1),List.getElem?_set_ne (Ne.symm k2),←List.getD_eq_getElem?_getD]
     simp[k1,k2]
  ·have e1:isFree ((xs.set t (xs.getD f 0)).set f 0) k=false:=by unfold isFree;rw[List.getElem?_eq_none (by simp;omega)];rfl
   have e2:isFree xs k=false:=by unfold isFree;rw[List.getElem?_eq_none (by omega)];rfl
   rw[e1,e2]
   have:k≠f:=by omega
   simp[this]
 ·intro c id hc h0
  rw[hd]
  obtain⟨hcl,hce⟩:=List.getElem?_eq_some_iff.1 hc
  unfold carAt
  by_cases hcf:f=c
  ·rw[if_pos hcf,List.getElem?_set_ne (by omega),List.getElem?_set_self h2,hcf,List.getD_eq_getElem?_getD,hc];rfl
  ·rw[if_neg hcf]
   have hct:t≠c:=by
    rintro rfl
    rw[freeSet_bit,isFree_iff h2,List.getD_eq_getElem?_getD,hc]at h5
    simp at h5;exact h0 h5
   rw[List.getElem?_set_ne hcf,List.getElem?_set_ne hct,hc]
def pickE (wide:Int)(n:Nat)(dd:Nat→Nat→Int)(s:Nat×Nat):Option (Nat×Nat):=(edgesS wide n s.2).find? (fun e=>decide (dd (carAt s.1 e.1 e.2) (moveS s.2 e.1 e.2)=dd s.1 s.2-1))
def nextE (s e:Nat×Nat):Nat×Nat:=(carAt s.1 e.1 e.2,moveS s.2 e.1 e.2)
def gP (wide:Int)(n:Nat)(dd:Nat→Nat→Int)(s:Nat×Nat):Nat→Nat×Nat
 |0=>s
 |j+1=>match pickE wide n dd (gP wide n dd s j)with
  |none=>gP wide n dd s j
  |some e=>nextE (gP wide n dd s j) e
def edgeP (wide:Int)(n:Nat)(dd:Nat→Nat→Int)(s:Nat×Nat)(j:Nat):Nat×Nat:=(pickE wide n dd (gP wide n dd s j)).getD (0,0)
def ddOf (D:List Int)(c S:Nat):Int:=D.getD (c*MM+S) 0
structure PtOk (n many:Nat) (s:Nat×Nat):Prop where
 car:s.1<n
 set:s.2<2 ^ n
 occ:s.2.testBit s.1=false
 many:popc s.2=many
section
variable {wide:Int} {n many:Nat} {D:List Int}
theorem pt_code (hn:n≤12){s:Nat×Nat}(h:PtOk n many s):StOk n MM (s.1*MM+s.2)∧(s.1*MM+s.2)/MM=s.1∧(s.1*MM+s.2)%MM=s.2:=by
 have hl:s.2<MM:=Nat.lt_of_lt_of_le h.set (n_pow hn)
 have e1:(s.1*MM+s.2)/MM=s.1:=code_div hl
 have e2:(s.1*MM+s.2)%MM=s.2:=code_mod hl
 exact⟨⟨by rw[e1];exact h.car,by rw[e2];exact h.set,by rw[e1,e2];exact h.occ⟩,e1,e2⟩
theorem pt_edge (hn:n≤12){s e:Nat×Nat}(h:PtOk n many s)(he:e∈edgesS wide n s.2):Edge wide n MM (s.1*MM+s.2) ((nextE s e).1*MM+(nextE s e).2)∧PtOk n many (nextE s e):=by
 obtain⟨h1,h2,h3,h4,h5⟩:=edgesS_mem.1 he
 obtain⟨a,b,c⟩:=pt_code hn h
 have hE:Edge wide n MM (s.1*MM+s.2) ((nextE s e).1*MM+(nextE s e).2):=⟨e.1,e.2,h1,h2,h3,by rw[c];exact h4,by rw[c];exact h5,by rw[b,c];rfl⟩
 have hl:=moveS_lt h.set h1 h5 h4
 have k:=edge_ok (n_pow hn) a hE
 have k2:=edge_popc (n_pow hn) a.set hE
 have hl2:(nextE s e).2<MM:=Nat.lt_of_lt_of_le hl (n_pow hn)
 have e1:=k.car;have e2:=k.set;have e3:=k.occ
 rw[code_div hl2]at e1
 rw[code_mod hl2]at e2
 rw[code_div hl2,code_mod hl2]at e3
 rw[code_mod hl2,c,h.many]at k2
 exact⟨hE,e1,e2,e3,k2⟩
theorem pick_some (hn0:4≤n)(hn:n≤12)(hD:DistB wide n many D){s:Nat×Nat}(h:PtOk n many s)(h0:0<ddOf D s.1 s.2): ∃e,pickE wide n (ddOf D) s=some e∧e∈edgesS wide n s.2∧ddOf D (nextE s e).1 (nextE s e).2=ddOf D s.1 s.2-1∧PtOk n many (nextE s e):=by
 obtain⟨a,b,c⟩:=pt_code hn h
 obtain⟨u,hu,hm,hd⟩:=hD.back _ (ok_lt hn a) h0
 have h0':D.getD (s.1*MM+s.2) 0=ddOf D s.1 s.2:=rfl
 obtain⟨k,hk⟩:=Int.eq_ofNat_of_zero_le (show 0≤D.getD u 0 by rw[hd,h0'];omega)
 obtain⟨u1,u2⟩:=dist_ok hn0 hn hD k u hu hk
 obtain⟨f,t,h1,h2,h3,h4,h5,h6⟩:=edge_symm (n_pow hn) u1 (adjB_mem.1 hm)
 rw[b,c]at h6
 rw[c]at h4 h5
 have he:(f,t)∈edgesS wide n s.2:=edgesS_mem.2 ⟨h1,h2,h3,h4,h5⟩
 have hp:(fun e:Nat×Nat=>decide (ddOf D (carAt s.1 e.1 e.2) (moveS s.2 e.1 e.2)=ddOf D s.1 s.2-1)) (f,t)=true:=by
  simp only[decide_eq_true_eq]
  show D.getD (nextS MM s.1 s.2 f t) 0=_
  rw[←h6,hd,h0']
 cases hf:pickE wide n (ddOf D) s with
 |none=>
  unfold pickE at hf
  have:=List.find?_eq_none.1 hf _ he
  exact absurd hp this
 |some e=>
  unfold pickE at hf
  have h7:=List.find?_some hf
  have h8:=List.mem_of_find?_eq_some hf
  simp only[decide_eq_true_eq]at h7
  exact⟨e,rfl,h8,h7,(pt_edge hn h h8).2⟩
theorem gP_succ {dd:Nat→Nat→Int}{s:Nat×Nat}{j:Nat}{e:Nat×Nat}(h:pickE wide n dd (gP wide n dd s j)=some e):gP wide n dd s (j+1)=nextE (gP wide n dd s j) e:=by
 rw[gP,h]
theorem gP_facts (hn0:4≤n)(hn:n≤12)(hD:DistB wide n many D){s:Nat×Nat}(h:PtOk n many s){d:Nat}(hd:ddOf D s.1 s.2=d): ∀j,j≤d→PtOk n many (gP wide n (ddOf D) s j)∧ddOf D (gP wide n (ddOf D) s j).1 (gP wide n (ddOf D) s j).2=(d:Int)-j:=by
 intro j
 induction j with
 |zero=>intro _;exact⟨h,by show ddOf D s.1 s.2=_;rw[hd];simp⟩
 |succ j ih=>
  intro hj
  obtain⟨a,b⟩:=ih (by omega)
  obtain⟨e,h1,h2,h3,h4⟩:=pick_some hn0 hn hD a (by rw[b];omega)
  rw[gP_succ h1]
  exact⟨h4,by rw[h3,b];omega⟩
theorem edgeP_facts (hn0:4≤n)(hn:n≤12)(hD:DistB wide n many D){s:Nat×Nat}(h:PtOk n many s){d:Nat}(hd:ddOf D s.1 s.2=d){j:Nat}(hj:j<d):pickE wide n (ddOf D) (gP wide n (ddOf D) s j)=some (edgeP wide n (ddOf D) s j)∧edgeP wide n (ddOf D) s j∈edgesS wide n (gP wide n (ddOf D) s j).2∧gP wide n (ddOf D) s (j+1)=nextE (gP wide n (ddOf D) s j) (edgeP wide n (ddOf D) s j):=by
 obtain⟨a,b⟩:=gP_facts hn0 hn hD h hd j (by omega)
 obtain⟨e,h1,h2,h3,h4⟩:=pick_some hn0 hn hD a (by rw[b];omega)
 have he:edgeP wide n (ddOf D) s j=e:=by unfold edgeP;rw[h1];rfl
 rw[he]
 exact⟨h1,h2,gP_succ h1⟩
theorem gP_end (hn0:4≤n)(hn:n≤12)(hD:DistB wide n many D){s:Nat×Nat}(h:PtOk n many s){d:Nat}(hd:ddOf D s.1 s.2=d){j:Nat}(hj:j≤d):(gP wide n (ddOf D) s j).1=0↔j=d:=by
 obtain⟨a,b⟩:=gP_facts hn0 hn hD h hd j hj
 obtain⟨k1,k2,k3⟩:=pt_code hn a
 have hz:=hD.zero _ (ok_lt hn k1)
 have hb:D.getD ((gP wide n (ddOf D) s j).1*MM+(gP wide n (ddOf D) s j).2) 0=(d:Int)-j:=b
 rw[hb,srcS_mem]at hz
 constructor
 ·intro h0
  have:=hz.2 (by
   rw[h0,Nat.zero_mul,Nat.zero_add]
   exact⟨a.set,by have:=a.occ;rw[h0]at this;exact this,a.many⟩)
  omega
 ·intro e
  have h1:=(hz.1 (by omega)).1
  have hp:=n_pow hn
  have h2:=Nat.div_eq_of_lt (Nat.lt_of_lt_of_le h1 hp)
  rw[k2]at h2
  exact h2
theorem pick_same (hn0:4≤n)(hn:n≤12){E:List Int}(hD:DistB wide n many D)(hE:DistB wide n many E){s:Nat×Nat}(h:PtOk n many s)(h0:0<ddOf D s.1 s.2):pickE wide n (ddOf D) s=pickE wide n (ddOf E) s:=by
 unfold pickE
 have same: ∀s:Nat×Nat,PtOk n many s→(0≤ddOf D s.1 s.2↔0≤ddOf E s.1 s.2)∧(0≤ddOf D s.1 s.2→ddOf D s.1 s.2=ddOf E s.1 s.2):=fun s hs=>dist_same hD hE (ok_lt hn (pt_code hn hs).1)
 have h1:=(same s h).2 (by omega)
 have key: ∀l:List (Nat×Nat),(∀e∈l,e∈edgesS wide n s.2)→l.find? (fun e=>decide (ddOf D (carAt s.1 e.1 e.2) (moveS s.2 e.1 e.2)=ddOf D s.1 s.2-1))=l.find? (fun e=>decide (ddOf E (carAt s.1 e.1 e.2) (moveS s.2 e.1 e.2)=ddOf E s.1 s.2-1)):=by
  intro l
  induction l with
  |nil=>intro _;rfl
  |cons e l ih=>
   intro hl
   have hp:=(pt_edge hn h (hl e (by simp))).2
   obtain⟨a,b⟩:=same _ hp
   have hh:decide (ddOf D (carAt s.1 e.1 e.2) (moveS s.2 e.1 e.2)=ddOf D s.1 s.2-1)=decide (ddOf E (carAt s.1 e.1 e.2) (moveS s.2 e.1 e.2)=ddOf E s.1 s.2-1):=by
    have a':0≤ddOf D (carAt s.1 e.1 e.2) (moveS s.2 e.1 e.2)↔0≤ddOf E (carAt s.1 e.1 e.2) (moveS s.2 e.1 e.2):=a
    have b':0≤ddOf D (carAt s.1 e.1 e.2) (moveS s.2 e.1 e.2)→ddOf D (carAt s.1 e.1 e.2) (moveS s.2 e.1 e.2)=ddOf E (carAt s.1 e.1 e.2) (moveS s.2 e.1 e.2):=b
    rw[←h1]
    by_cases hc:0≤ddOf D (carAt s.1 e.1 e.2) (moveS s.2 e.1 e.2)
    ·rw[b' hc]
    ·have hc2: ¬0≤ddOf E (carAt s.1 e.1 e.2) (moveS s.2 e.1 e.2):=fun x=>hc (a'.2 x)
     have d1: ¬(ddOf D (carAt s.1 e.1 e.2) (moveS s.2 e.1 e.2)=ddOf D s.1 s.2-1):=by omega
     have d2: ¬(ddOf E (carAt s.1 e.1 e.2) (moveS s.2 e.1 e.2)=ddOf D s.1 s.2-1):=by omega
     simp only[d1,d2]
   rw[List.find?_cons,List.find?_cons,hh,ih (fun x hx=>hl x (by simp[hx]))]
 exact key _ (fun e he=>he)
theorem gP_same (hn0:4≤n)(hn:n≤12){E:List Int}(hD:DistB wide n many D)(hE:DistB wide n many E){s:Nat×Nat}(h:PtOk n many s){d:Nat}(hd:ddOf D s.1 s.2=d): ∀j,j≤d→gP wide n (ddOf D) s j=gP wide n (ddOf E) s j:=by
 intro j
 induction j with
 |zero=>intro _;rfl
 |succ j ih=>
  intro hj
  have e:=ih (by omega)
  obtain⟨a,b⟩:=gP_facts hn0 hn hD h hd j (by omega)
  have p:=pick_same hn0 hn hD hE a (by rw[b];omega)
  rw[gP,gP,←e,p]
theorem edgeP_same (hn0:4≤n)(hn:n≤12){E:List Int}(hD:DistB wide n many D)(hE:DistB wide n many E){s:Nat×Nat}(h:PtOk n many s){d:Nat}(hd:ddOf D s.1 s.2=d){j:Nat}(hj:j<d):edgeP wide n (ddOf D) s j=edgeP wide n (ddOf E) s j:=by
 obtain⟨a,b⟩:=gP_facts hn0 hn hD h hd j (by omega)
 unfold edgeP
 rw[←gP_same hn0 hn hD hE h hd j (by omega),pick_same hn0 hn hD hE a (by rw[b];omega)]
end
end Go.Proofs.YteejdnmmpmcmeaaGreatDoor

namespace Go.Proofs.YteejdnmmpmcmeaaGreatDoor
open Go.RowKit
set_option linter.unusedVariables false
set_option linter.unusedSimpArgs false
def bfsAll (adj:Nat→List Nat):Nat→Nat→List Int×List Nat→List Int×List Nat
 |0,_,s=>s
 |m+1,k,s=>match s.2[k]? with
  |none=>s
  |some u=>bfsAll adj m (k+1) (expand (s.1.getD u 0+1) s (adj u))
theorem bfsAll_dist {adj:Nat→List Nat}{src:List Nat}{N:Nat}(ha: ∀u v,u<N→v∈adj u→v<N): ∀(m k:Nat) (s:List Int×List Nat),Inv adj src N k s→N≤k+m→Dist adj src N (bfsAll adj m k s).1:=by
 intro m
 induction m with
 |zero=>intro k s hI hk;exact hI.dist (Nat.le_trans hI.qlen (by omega))
 |succ m ih=>
  intro k s hI hk
  rw[bfsAll]
  cases hu:s.2[k]? with
  |none=>exact hI.dist (by rw[List.getElem?_eq_none_iff]at hu;exact hu)
  |some u=>exact ih (k+1) _ (hI.step hu (fun v hv=>ha _ v (hI.bd _ (List.mem_of_getElem? hu)) hv)) (by omega)
def distL (wide:Int)(n many:Nat):List Int:=(bfsAll (adjB wide n MM) NN 0 (seedD NN (srcS n many),srcS n many)).1
theorem distL_ok {wide:Int}{n many:Nat}(hn:n≤12):DistB wide n many (distL wide n many):=
 bfsAll_dist (adjB_bd hn) _ _ _ (Inv.begin (srcS_bd hn) srcS_nodup) (by omega)
abbrev castE (e:Nat×Nat):Sl2:=((e.1:Int),(e.2:Int))
def wayE (wide:Int)(n:Nat)(dd:Nat→Nat→Int)(s:Nat×Nat)(j:Nat):List Sl2:=(List.range j).map (fun i=>castE (edgeP wide n dd s i))
theorem wayE_len (wide:Int)(n:Nat)(dd:Nat→Nat→Int)(s:Nat×Nat)(j:Nat):(wayE wide n dd s j).length=j:=by simp[wayE]
theorem wayE_succ (wide:Int)(n:Nat)(dd:Nat→Nat→Int)(s:Nat×Nat)(j:Nat):wayE wide n dd s (j+1)=wayE wide n dd s j++ [castE (edgeP wide n dd s j)]:=by
 simp[wayE,List.range_succ]
def ddH (wide:Int)(xs:List Int):Nat→Nat→Int:=ddOf (distL wide xs.length (freeN xs).length)
def bringOf (wide:Int)(xs:List Int)(c:Nat):Option (List Sl2):=
 if ddH wide xs c (freeSet xs)<0 then none else some (wayE wide xs.length (ddH wide xs) (c,freeSet xs) (ddH wide xs c (freeSet xs)).toNat)
theorem hall_pt {xs:List Int}{c:Nat}{id:Int}(hc:xs[c]? =some id) (h0:id≠0):PtOk xs.length (freeN xs).length (c,freeSet xs):=by
 obtain⟨hl,he⟩:=List.getElem?_eq_some_iff.1 hc
 refine⟨hl,freeSet_lt xs,?_,freeSet_popc xs⟩
 show(freeSet xs).testBit c=false
 rw[freeSet_bit,isFree_iff hl,List.getD_eq_getElem?_getD,hc]
 simpa using h0
section
variable {wide deep:Int} {xs:List Int} {c:Nat} {id:Int} {D:List Int}
theorem way_hall (h:hallOk wide deep xs=true)(hc:xs[c]? =some id) (h0:id≠0) (hD:DistB wide xs.length (freeN xs).length D) {d:Nat} (hd:ddOf D c (freeSet xs)=d):
  ∀j,j≤d→ ∃ys,slideRun wide deep xs (wayE wide xs.length (ddOf D) (c,freeSet xs) j)=(ys,j)∧hallOk wide deep ys=true∧ys.length=xs.length∧freeSet ys=(gP wide xs.length (ddOf D) (c,freeSet xs) j).2∧ys[(gP wide xs.length (ddOf D) (c,freeSet xs) j).1]? =some id:=by
 obtain⟨b1,b2,b3,b4,b5,b6,b7⟩:=shape_bd (hall_shape h)
 have hp:=hall_pt hc h0
 intro j
 induction j with
 |zero=>intro _;exact⟨xs,rfl,h,rfl,rfl,hc⟩
 |succ j ih=>
  intro hj
  obtain⟨ys,h1,h2,h3,h4,h5⟩:=ih (by omega)
  obtain⟨e1,e2,e3⟩:=edgeP_facts b5 b6 hD hp hd (show j<d by omega)
  have hw:=wayE_succ wide xs.length (ddOf D) (c,freeSet xs) j
  generalize edgeP wide xs.length (ddOf D) (c,freeSet xs) j=e at*
  obtain⟨f,t⟩:=e
  rw[←h4,←h3]at e2
  obtain⟨m1,m2,m3,m4⟩:=edge_hall h2 e2
  refine⟨slideDo wide deep ys (f:Int) (t:Int),?_,slideDo_ok _ _ h2,by rw[slideDo_len,h3],?_,?_⟩
  ·rw[hw,slideRun_snoc _ _ _ (by rw[h1,wayE_len]),h1,wayE_len]
   dsimp only
   rw[if_pos m1]
  ·rw[m3,e3,h4];rfl
  ·rw[e3];exact m4 _ _ h5 h0
theorem dd_nonneg (h:hallOk wide deep xs=true)(hc:xs[c]? =some id) (h0:id≠0) (hD:DistB wide xs.length (freeN xs).length D):(freeN xs≠ []→0≤ddOf D c (freeSet xs)∧ddOf D c (freeSet xs)≤60)∧(c=0→ddOf D c (freeSet xs)=0)∧(freeN xs= []→c≠0→ddOf D c (freeSet xs)<0):=by
 obtain⟨b1,b2,b3,b4,b5,b6,b7⟩:=shape_bd (hall_shape h)
 have hp:=hall_pt hc h0
 obtain⟨k1,k2,k3⟩:=pt_code b6 hp
 refine⟨fun hf=> ?_,fun hc0=> ?_,fun hf hc0=> ?_⟩
 ·obtain⟨u,hu⟩:=List.exists_mem_of_ne_nil _ hf
  obtain⟨u1,u2⟩:=freeN_mem hu
  have hb:(freeSet xs).testBit u=true:=by rw[freeSet_bit,isFree_iff u1,u2];rfl
  have hg:=hall_grid h
  obtain⟨a,b⟩:=dist_pot hg b5 b6 hD _ _ u (Nat.le_refl _) k1 (by rw[k3];exact hp.many) (by rw[k3];exact hb)
  rw[k2]at b
  exact⟨a,Int.le_trans b (by have:=(pot_step hg hp.car u1).1;exact_mod_cast this)⟩
 ·subst hc0
  refine(hD.zero _ (ok_lt b6 k1)).2 (srcS_mem.2 ?_)
  rw[Nat.zero_mul,Nat.zero_add]
  exact⟨hp.set,hp.occ,hp.many⟩
 ·rcases Int.lt_or_le (ddOf D c (freeSet xs)) 0 with hlt|hge
  ·exact hlt
  ·exfalso
   rcases Int.lt_or_eq_of_le hge with h1|h1
   ·obtain⟨e,e1,e2,_⟩:=pick_some b5 b6 hD hp h1
    obtain⟨_,g2,_,_,g5⟩:=edgesS_mem.1 e2
    have hm:e.2∈freeN xs:=by
     unfold freeN
     rw[List.mem_filter]
     exact⟨List.mem_range.2 g2,by rw[←freeSet_bit];exact g5⟩
    rw[hf]at hm;cases hm
   ·have hz:=(hD.zero _ (ok_lt b6 k1)).1 h1.symm
    have h2:=(srcS_mem.1 hz).1
    have h3:=Nat.div_eq_of_lt (Nat.lt_of_lt_of_le h2 (n_pow b6))
    rw[k2]at h3
    exact hc0 h3
theorem way_same (h:hallOk wide deep xs=true)(hc:xs[c]? =some id) (h0:id≠0) (hD:DistB wide xs.length (freeN xs).length D):
  (0≤ddOf D c (freeSet xs)↔0≤ddH wide xs c (freeSet xs))∧(0≤ddOf D c (freeSet xs)→ddOf D c (freeSet xs)=ddH wide xs c (freeSet xs)∧wayE wide xs.length (ddOf D) (c,freeSet xs) (ddOf D c (freeSet xs)).toNat=wayE wide xs.length (ddH wide xs) (c,freeSet xs) (ddH wide xs c (freeSet xs)).toNat):=by
 obtain⟨b1,b2,b3,b4,b5,b6,b7⟩:=shape_bd (hall_shape h)
 have hp:=hall_pt hc h0
 have hE:=distL_ok (wide:=wide) (many:=(freeN xs).length) b6
 obtain⟨s1,s2⟩:=dist_same hD hE (ok_lt b6 (pt_code b6 hp).1)
 refine⟨s1,fun h1=> ?_⟩
 have e1:ddOf D c (freeSet xs)=ddH wide xs c (freeSet xs):=s2 h1
 refine⟨e1,?_⟩
 obtain⟨d,hd⟩:=Int.eq_ofNat_of_zero_le h1
 rw[←e1,hd]
 unfold wayE
 refine List.map_congr_left fun i hi=> ?_
 have:=List.mem_range.1 hi
 rw[edgeP_same b5 b6 hD hE hp hd (show i<d by simpa using this)]
 rfl
theorem bringOf_eq (h:hallOk wide deep xs=true)(hc:xs[c]? =some id) (h0:id≠0) (hD:DistB wide xs.length (freeN xs).length D):bringOf wide xs c=if ddOf D c (freeSet xs)<0 then none else some (wayE wide xs.length (ddOf D) (c,freeSet xs) (ddOf D c (freeSet xs)).toNat):=by
 obtain⟨a,b⟩:=way_same h hc h0 hD
 unfold bringOf
 by_cases h1:0≤ddOf D c (freeSet xs)
 ·rw[if_neg (by have:=a.1 h1;omega),if_neg (by omega),(b h1).2]
 ·rw[if_pos (by have:=fun x=>h1 (a.2 x);omega),if_pos (by omega)]
theorem bring_facts (h:hallOk wide deep xs=true)(hc:xs[c]? =some id) (h0:id≠0):(bringOf wide xs c=none↔freeN xs= []∧c≠0)∧ ∀l,bringOf wide xs c=some l→l.length≤60∧ ∃ys,slideRun wide deep xs l=(ys,l.length)∧hallOk wide deep ys=true∧ys.length=xs.length∧ys[0]? =some id:=by
 obtain⟨b1,b2,b3,b4,b5,b6,b7⟩:=shape_bd (hall_shape h)
 have hE:=distL_ok (wide:=wide) (many:=(freeN xs).length) b6
 obtain⟨n1,n2,n3⟩:=dd_nonneg h hc h0 hE
 have e:ddH wide xs c (freeSet xs)=ddOf (distL wide xs.length (freeN xs).length) c (freeSet xs):=rfl
 constructor
 ·unfold bringOf
  rw[e]
  constructor
  ·intro hn
   by_cases hf:freeN xs= []
   ·refine⟨hf,fun hc0=> ?_⟩
    rw[n2 hc0]at hn;simp at hn
   ·rw[if_neg (by have:=(n1 hf).1;omega)]at hn;cases hn
  ·rintro⟨hf,hc0⟩
   rw[if_pos (n3 hf hc0)]
 ·intro l hl
  unfold bringOf at hl
  rw[e]at hl
  by_cases h1:ddOf (distL wide xs.length (freeN xs).length) c (freeSet xs)<0
  ·rw[if_pos h1]at hl;cases hl
  ·rw[if_neg h1]at hl
   injection hl with hl
   obtain⟨d,hd⟩:=Int.eq_ofNat_of_zero_le (show 0≤ddOf (distL wide xs.length (freeN xs).length) c (freeSet xs) by omega)
   have hlen:l.length=d:=by rw[←hl,wayE_len,hd];rfl
   have hd60:d≤60:=by
    by_cases hf:freeN xs= []
    ·by_cases hc0:c=0
     ·have:=n2 hc0;omega
     ·exact absurd (n3 hf hc0) h1
    ·have:=(n1 hf).2;omega
   refine⟨by omega,?_⟩
   obtain⟨ys,w1,w2,w3,w4,w5⟩:=way_hall h hc h0 hE hd d (Nat.le_refl _)
   have hz:=(gP_end b5 b6 hE (hall_pt hc h0) hd (Nat.le_refl d)).2 rfl
   rw[hz]at w5
   refine⟨ys,?_,w2,w3,w5⟩
   rw[hlen,←w1,←hl,hd];rfl
end
def fetchDo (wide deep:Int)(xs:List Int)(id:Int):Option (List Int×Nat):=
 if id<1∨id∉xs then none else(bringOf wide xs (idxI xs id).toNat).map (fun l=>((slideRun wide deep xs l).1.set 0 0,l.length))
/-! the other search: its states, coded by 2^n -/
section
variable {wide:Int} {n many:Nat} {D:List Int}
end
end Go.Proofs.YteejdnmmpmcmeaaGreatDoor

namespace Go.Proofs.YteejdnmmpmcmeaaGreatDoor
open Go.RowKit
set_option linter.unusedVariables false
set_option linter.unusedSimpArgs false
set_option maxRecDepth 100000 in
set_option maxHeartbeats 4000000 in
theorem l2Bits_any (S:Nat)(w:World)(hS:S≤1099511627776):Calls Tryz.prog 234 #[.int .i64 (S:Int)] w fun e w'=>e= .returned (.int .i64 (popc S:Int))∧w=w':=by
 go_enter Tryz.func234,Tryz.ntmps234
 go_wp2
 go_loopw [0,3] (fun v i wr=> ∃(T c:Nat),v= .int .i64 (T:Int)∧i= .int .i64 (c:Int)∧c+popc T=popc S∧T≤S∧c+T≤2*S∧w=wr) (fun v _ _=>(intOf v).toNat)
 case atStart=>exact⟨S,0,rfl,rfl,by omega,Nat.le_refl _,by omega,rfl⟩
 case round=>
  obtain⟨T,c,rfl,rfl,h1,h2,h3,rfl⟩:=hrel
  by_cases h0:0<T
  ·have t0:decide ((0:Int)<(T:Int))=true:=by simp;omega
   have t1:(T:Int).tmod 2=((T%2:Nat):Int):=rfl
   have t2:(T:Int).tdiv 2=((T/2:Nat):Int):=rfl
   have hp:=popc_eq T
   have hw:IntKind.i64.wrap ((c:Int)+((T%2:Nat):Int))=(c:Int)+((T%2:Nat):Int):=IntWalk.i64_in _ (by omega)
   have HP:=Lib.hid hp
   have H1:=Lib.hid h1
   clear hp h1
   go_wp2
   go_roundw
   case rel=>exact⟨T/2,c+T%2,by first|rfl|go_num,by first|rfl|go_num,by have:=HP.out;have:=H1.out;omega,by omega,by omega,by trivial⟩
   case measure=>simp[intOf];omega
  ·have t0:decide ((0:Int)<(T:Int))=false:=by simp;omega
   have hc:Hid (c=popc S):=by show _=_;rw[←h1,show T=0 by omega];simp[popc]
   clear h1
   go_wp2
   go_ret
   exact⟨by rw[hc.out];rfl,rfl⟩
def freeS (fr:List Nat):Nat:=fr.foldl (fun a f=>a+2 ^ f) 0
theorem fold_le: ∀(l:List Nat) (a:Nat),(∀f∈l,f<12)→l.foldl (fun a f=>a+2 ^ f) a≤a+l.length*4096:=by
 intro l
 induction l with
 |nil=>intro a _;simp
 |cons f l ih=>
  intro a h
  have h1:=ih (a+2 ^ f) (fun x hx=>h x (by simp[hx]))
  have h2:2 ^ f≤4096:=Nat.le_trans (Nat.pow_le_pow_right (by omega) (show f≤11 by have:=h f (by simp);omega)) (by decide)
  rw[List.foldl_cons,List.length_cons,Nat.succ_mul]
  omega
theorem fold_bd {fr:List Nat}(h: ∀f∈fr,f<12)(k:Nat):(fr.take k).foldl (fun a f=>a+2 ^ f) 0≤k*4096:=by
 have h1:=fold_le (fr.take k) 0 (fun f hf=>h f (List.mem_of_mem_take hf))
 have h2:(fr.take k).length≤k:=by rw[List.length_take];omega
 have h3:=Nat.mul_le_mul_right 4096 h2
 omega
theorem freeS_eq (xs:List Int):freeS (freeN xs)=freeSet xs:=by
 unfold freeS freeN freeSet
 generalize xs.length=k
 induction k with
 |zero=>rfl
 |succ k ih=>
  rw[List.range_succ,List.filter_append,List.foldl_append,ih,show setN (isFree xs) (k+1)=setN (isFree xs) k+(if isFree xs k then 2 ^ k else 0)from rfl]
  cases h:isFree xs k<;>simp[h]
set_option maxRecDepth 100000 in
set_option maxHeartbeats 4000000 in
theorem specFree_o (wide deep:Int)(p:Option Addr)(n cap:Nat)(fr:List Nat)(F:Nat)(w:World)(hF:Hid (fr.length=F))(hF12:F≤12)(hfr:Hid (∀x∈fr,x<12))
  (HF:Hid (∀w',Ext w w'→Calls Tryz.prog 79 #[hallV wide deep p n cap] w' fun e w''=> ∃q c,e= .returned (.slice q F c)∧w''.ownsRow w'.heap.size TI 1 (.slice q F c) F (ivs (natI fr))∧Ext w' w'')):
  Calls Tryz.prog 217 #[hallV wide deep p n cap] w fun e w'=>e= .returned (.int .i64 (freeS fr:Int))∧Ext w w':=by
 go_enter Tryz.func217,Tryz.ntmps217
 go_wp2_with fail
 refine(HF.out _ (((Mem.start w).blkNew TH3 #[.int .i64 wide,.int .i64 deep,.slice p n cap] (w.heap.size) (by simp))).ext).mono ?_
 rintro e w1 ⟨q1,c1,rfl,ho1,hx1⟩
 have M1:=Lib.hid (show Mem w w1 [ownI w.heap.size TI 1 (q1) (F) (c1) (ivs (natI fr)),blkI w.heap.size (w.heap.size) TH3 #[.int .i64 wide,.int .i64 deep,.slice p n cap]]from(((Mem.start w).blkNew TH3 #[.int .i64 wide,.int .i64 deep,.slice p n cap] (w.heap.size) (by simp))).call hx1 ho1)
 have lt1_1:w.heap.size<w1.heap.size:=(M1.out.lt (i:=1) rfl rfl).2
 clear hx1 ho1
 go_wp2
 go_loopw [3,5] (fun v i wr=> ∃(k T:Nat),k≤F∧i= .int .i64 (k:Int)∧v= .int .i64 (T:Int)∧T=(fr.take k).foldl (fun a f=>a+2 ^ f) 0∧w1=wr) (fun _ i _=>F-(intOf i).toNat)
 case atStart=>exact⟨0,0,Nat.zero_le _,rfl,rfl,rfl,rfl⟩
 case round=>
  obtain⟨k,T,hk,rfl,rfl,hT,rfl⟩:=hrel
  have HT:=Lib.hid hT
  have hTb:T≤12*4096:=by have:=fold_bd hfr.out k;rw[hT];have:k≤12:=by omega
                         omega
  clear hT
  by_cases hlt:k<F
  ·obtain⟨f,hf⟩: ∃f,fr[k]? =some f:=⟨_,List.getElem?_eq_getElem (by rw[hF.out];exact hlt)⟩
   have hfn:f<12:=hfr.out f (List.mem_of_getElem? hf)
   obtain⟨gf,rfl,hf1,hf2⟩:=M1.out.some (i:=0) rfl (by omega)
   have cu:w1.cell? ⟨gf,k,none⟩=some (.int .i64 (f:Int)):=by have:=(M1.out.own (i:=0) rfl).cellAt k (by omega);rw[this];simp[ivs,natI,hf]
   have hn:=Lib.hid (show(fr.take (k+1)).foldl (fun a f=>a+2 ^ f) 0=T+2 ^ f by rw[take_snocL hf,List.foldl_append,←HT.out];rfl)
   clear hf
   have i1:(0:Int)≤(k:Int):=by omega
   have i2:(k:Int)<(F:Int):=by omega
   obtain⟨P,hP⟩: ∃P:Nat,P=2 ^ f:=⟨_,rfl⟩
   have hPb:P≤2048:=by rw[hP];exact Nat.le_trans (Nat.pow_le_pow_right (by omega) (show f≤11 by omega)) (by decide)
   have hsh:(2:Int) ^ f=(P:Int):=by rw[hP];simp
   have hw1:IntKind.i64.wrap (P:Int)=(P:Int):=IntWalk.i64_in _ (by omega)
   have hw2:IntKind.i64.wrap ((T:Int)+(P:Int))=(T:Int)+(P:Int):=IntWalk.i64_in _ (by omega)
   rw[←hP]at hn
   clear hP
   go_wp2
   go_roundw
   case rel=>exact⟨k+1,T+P,by omega,by go_num,by first|rfl|go_num,hn.out.symm,by trivial⟩
   case measure=>simp[intOf];omega
  ·obtain rfl:F=k:=by omega
   have hfin:Hid ((T:Int)=((freeS fr:Nat):Int)):=by
    show _=_
    rw[HT.out,List.take_of_length_le (by rw[hF.out];omega)];rfl
   go_wp2
   go_ret
   exact⟨by rw[hfin.out];rfl,M1.out.ext⟩
theorem hallFree_any (wide deep:Int)(p:Option Addr)(n cap:Nat)(xs:List Int)(w:World)(hS:Sl w p n cap 1 (ivs xs))(hok:hallOk wide deep xs=true):
  Calls Tryz.prog 79 #[hallV wide deep p n cap] w fun e w'=> ∃q c,e= .returned (.slice q (freeN xs).length c)∧w'.ownsRow w.heap.size TI 1 (.slice q (freeN xs).length c) (freeN xs).length (ivs (natI (freeN xs)))∧Ext w w':=by
 have:=specHf wide deep p n cap xs w hS
 rw[hok,if_pos rfl,freeL_eq]at this
 refine this.mono fun e w'' h=> ?_
 obtain⟨q,c,h1,h2,h3⟩:=h
 rw[List.length_map]at h1 h2
 exact⟨q,c,h1,h2,h3⟩
theorem free_len {wide deep:Int}{xs:List Int}(hok:hallOk wide deep xs=true):(freeN xs).length≤12:=by
 obtain⟨g1,g2,g3,g4,g5,g6,g7⟩:=shape_bd (hall_shape hok)
 unfold freeN
 exact Nat.le_trans (List.length_filter_le _ _) (by simp;omega)
theorem l2Free_any (wide deep:Int)(p:Option Addr)(n cap:Nat)(xs:List Int)(w:World)(hS:Sl w p n cap 1 (ivs xs))(hok:hallOk wide deep xs=true):
  Calls Tryz.prog 217 #[hallV wide deep p n cap] w fun e w'=>e= .returned (.int .i64 (freeSet xs:Int))∧Ext w w':=by
 have hl:=hS.ilen
 obtain⟨g1,g2,g3,g4,g5,g6,g7⟩:=shape_bd (hall_shape hok)
 rw[←freeS_eq]
 exact specFree_o wide deep p n cap (freeN xs) _ w rfl (free_len hok) (fun x hx=>by have:=(freeN_mem hx).1;omega) (fun w' hy=>hallFree_any wide deep p n cap xs w' (hS.ext hy) hok)
end Go.Proofs.YteejdnmmpmcmeaaGreatDoor

namespace Go.Proofs.YteejdnmmpmcmeaaGreatDoor
open Go.RowKit
set_option linter.unusedVariables false
set_option linter.unusedSimpArgs false
abbrev TSS:TypeId:=23
theorem elSS:ElT Tryz.prog 205 TSS 1:=
 ⟨Tryz.underlying205,by
  obtain⟨i,hi,h0,h1,h2⟩:=info_parts (show(Tryz.prog.info? TSS).map (fun i=>(i.zero,i.size,i.bytes))=some (some (.slice none 0 0),1,24) by kernel_rfl)
  exact⟨i,_,hi,h0,h1,by omega,rfl⟩,by omega⟩
def BesRows (wide:Int)(n k:Nat)(rows:List RowD):Prop:=rows.length=k∧ ∀(j:Nat) (r:RowD),rows[j]? =some r→r.n=(besideN wide n j).length∧r.xs=ivs (natI (besideN wide n j))
def RetNest (wide:Int)(n:Nat)(w:World)(e:Ending)(w':World):Prop:=
 ∃q c rows,e= .returned (.slice q n c)∧BesRows wide n n rows∧NestOk w.heap.size TSS TI 1 q c rows w'∧Ext w w'
theorem besRows_add {wide:Int}{n k:Nat}{rows:List RowD}{q:Option Addr}{c:Nat}(h:BesRows wide n k rows):BesRows wide n (k+1) (rows++ [⟨q,(besideN wide n k).length,c,ivs (natI (besideN wide n k))⟩]):=by
 refine⟨by rw[List.length_append,h.1];rfl,fun j r hj=> ?_⟩
 by_cases hk:j<k
 ·rw[List.getElem?_append_left (by rw[h.1];exact hk)]at hj;exact h.2 j r hj
 ·have hl:=(List.getElem?_eq_some_iff.1 hj).1
  rw[List.length_append,h.1]at hl
  simp at hl
  obtain rfl:j=k:=by omega
  rw[List.getElem?_append_right (by rw[h.1];exact Nat.le_refl _),h.1,Nat.sub_self]at hj
  simp at hj
  subst hj
  exact⟨rfl,by simp[ivs,natI]⟩
set_option maxRecDepth 100000 in
set_option maxHeartbeats 4000000 in
theorem specBes_o (wide deep:Int)(p:Option Addr)(n cap:Nat)(w:World)(hn:n≤12)
  (HC:Hid (∀(k:Nat),k<n→ ∀w',Ext w w'→Calls Tryz.prog 241 #[hallV wide deep p n cap,.int .i64 (k:Int)] w' (RetInts (natI (besideN wide n k)) w'))):
  Calls Tryz.prog 235 #[hallV wide deep p n cap] w (RetNest wide n w):=by
 go_enter Tryz.func235,Tryz.ntmps235
 have ME:=Lib.hid (show Mem w ((w.alloc (.cells #[.int .i64 wide,.int .i64 deep,.slice p n cap] TH3)).alloc (.cells #[] TSS)) [ownI w.heap.size TSS 1 (some ⟨w.heap.size+1,0,none⟩) (0) (0) ([]),blkI w.heap.size (w.heap.size) TH3 #[.int .i64 wide,.int .i64 deep,.slice p n cap]]from((((Mem.start w).blkNew TH3 #[.int .i64 wide,.int .i64 deep,.slice p n cap] (w.heap.size) (by simp))).made0 TSS 1 (w.heap.size+1) (by simp)))
 go_wp2
 go_loopw [3,4] (fun v i wr=> ∃(k:Nat) (q:Option Addr) (c:Nat) (rows:List RowD),k≤n∧i= .int .i64 (k:Int)∧v= .slice q k c∧BesRows wide n k rows∧Mem w wr [rowsI w.heap.size TI 1 rows,ownI w.heap.size TSS 1 (q) (k) (c) (rows.map RowD.v),blkI w.heap.size (w.heap.size) TH3 #[.int .i64 wide,.int .i64 deep,.slice p n cap]]) (fun _ i _=>n-(intOf i).toNat)
 case atStart=>exact⟨0,some ⟨w.heap.size+1,0,none⟩,0,[],Nat.zero_le _,rfl,rfl,⟨rfl,fun j r h=>by simp at h⟩,ME.out.rows0 rfl⟩
 case round=>
  clear ME
  obtain⟨k,q,c,rows,hk,rfl,rfl,hrows,hM⟩:=hrel
  have HM:=Lib.hid hM
  have HR:=Lib.hid hrows
  clear hM hrows
  have lt0:=(HM.out.lt (i:=2) rfl rfl).2
  obtain⟨c0,c1,c2⟩:=((HM.out.blk (i:=2) rfl)).tri
  by_cases hlt:k<n
  ·go_wp2_with fail
   clear c0 c1 c2
   refine(HC.out k hlt _ HM.out.ext).mono ?_
   rintro e w2 ⟨q2,c2,rfl,o2,hx2⟩
   rw[List.length_map]at o2⊢
   have M2:=Lib.hid (HM.out.call hx2 o2)
   have M3:=Lib.hid (M2.out.rowsAdd rfl)
   have hR2:=Lib.hid (besRows_add (q:=q2) (c:=c2) HR.out)
   clear o2 hx2 M2 HM HR
   go_wp2_with (at_builtin;go_loud (refine wpList_appM elSS rfl _ _ rfl (M3.out.adv ((Ext.refl _).alloc (.cells #[.slice q2 (besideN wide n k).length c2] TSS))) 1 rfl rfl [.slice q2 (besideN wide n k).length c2] rfl (sl_lit _ _ _ 1 1 _ (by first|rfl|simp) (by first|rfl|simp) (by simp[maxLen])) (fun u hu=>by obtain rfl:=List.mem_singleton.1 hu;rfl) (by omega) ?_;intro q7 c7 w6 M6))
   have M7:=Lib.hid (show Mem w w6 [rowsI w.heap.size TI 1 (rows++ [⟨q2,(besideN wide n k).length,c2,ivs (natI (besideN wide n k))⟩]),ownI w.heap.size TSS 1 q7 (k+1) c7 ((rows++ [⟨q2,(besideN wide n k).length,c2,ivs (natI (besideN wide n k))⟩]:List RowD).map RowD.v),blkI w.heap.size (w.heap.size) TH3 #[.int .i64 wide,.int .i64 deep,.slice p n cap]]from by rw[List.map_append];exact M6)
   clear M6 M3
   go_wp2
   go_roundw
   case rel=>exact⟨k+1,q7,c7,_,by omega,by go_num,rfl,hR2.out,M7.out⟩
   case measure=>simp[intOf];omega
  ·obtain rfl:n=k:=by omega
   go_wp2
   go_ret
   have hl:=HR.out.1
   have h1:=HM.out.own (i:=1) rfl
   refine⟨q,c,rows,rfl,HR.out,⟨?_,fun r hr=>HM.out.ok (rowsI w.heap.size TI 1 rows) (by simp) r hr⟩,HM.out.ext⟩
   rw[hl];exact h1
theorem l2Beside_any (wide deep:Int)(p:Option Addr)(n cap:Nat)(xs:List Int)(w:World)(hS:Sl w p n cap 1 (ivs xs))(hok:hallOk wide deep xs=true):
  Calls Tryz.prog 235 #[hallV wide deep p n cap] w (RetNest wide n w):=by
 have hl:=hS.ilen
 obtain⟨g1,g2,g3,g4,g5,g6,g7⟩:=shape_bd (hall_shape hok)
 exact specBes_o wide deep p n cap w (by omega) (fun k hk w' hx=>by
  have:=specCb wide deep k p n cap xs w' (hS.ext hx) hok (by omega) (by omega)
  rwa[besideL_N]at this)
end Go.Proofs.YteejdnmmpmcmeaaGreatDoor

namespace Go.Proofs.YteejdnmmpmcmeaaGreatDoor
open Go.RowKit
theorem bit_div (S h:Nat):S.testBit h=decide (S/2 ^ h%2=1):=by exact Nat.testBit_eq_decide_div_mod_eq
def leftAt (k:Nat):List Int:=List.replicate k (-1)++List.replicate (NN-k) 0
theorem leftAt_set {k:Nat}(h:k<NN):(leftAt k).set k (-1)=leftAt (k+1):=by
 unfold leftAt
 obtain⟨m,hm⟩: ∃m,NN-k=m+1:=⟨NN-k-1,by omega⟩
 rw[hm,show NN-(k+1)=m by omega,List.replicate_succ]
 rw[List.set_append_right _ _ (by rw[List.length_replicate];exact Nat.le_refl _),List.length_replicate,Nat.sub_self,List.set_cons_zero,List.replicate_succ',List.append_assoc]
 rfl
theorem leftAt_get {k:Nat}(h:k<NN):(leftAt k)[k]? =some 0:=by
 unfold leftAt
 rw[List.getElem?_append_right (by rw[List.length_replicate];exact Nat.le_refl _),List.length_replicate,Nat.sub_self]
 rw[List.getElem?_replicate,if_pos (by omega)]
def srcUpto (many m:Nat):List Nat:=(List.range m).filter (fun s=> !s.testBit 0&&decide (popc s=many))
theorem leftAt_end (many:Nat):leftAt NN=seedD NN (srcUpto many 0):=by
 unfold leftAt seedD srcUpto
 rw[Nat.sub_self,List.replicate_zero,List.append_nil]
 rfl
theorem srcUpto_two {many m:Nat}(hm:m%2=0):srcUpto many (m+2)=srcUpto many m++(if popc m=many then [m]else []):=by
 unfold srcUpto
 rw[List.range_succ,List.range_succ,List.filter_append,List.filter_append,List.append_assoc]
 have h0:m.testBit 0=false:=by rw[Nat.testBit_zero];simp;omega
 have h1:(m+1).testBit 0=true:=by rw[Nat.testBit_zero];simp;omega
 congr 1
 by_cases hp:popc m=many
 ·simp only[List.filter_cons,List.filter_nil,h0,h1];simp[hp]
 ·simp only[List.filter_cons,List.filter_nil,h0,h1];simp[hp]
theorem srcUpto_len (many m:Nat):(srcUpto many m).length≤m:=by
 unfold srcUpto;exact Nat.le_trans (List.length_filter_le _ _) (by simp)
def fB (wide:Int)(n M s h:Nat):List Nat:=if(s%M).testBit h then((besideN wide n h).filter (fun f=> !(s%M).testBit f)).map (fun f=>nextS M (s/M) (s%M) f h)else []
def partH (wide:Int)(n M s h:Nat):List Nat:=(List.range h).flatMap (fB wide n M s)
def partJ (wide:Int)(n M s h j:Nat):List Nat:=(((besideN wide n h).take j).filter (fun f=> !(s%M).testBit f)).map (fun f=>nextS M (s/M) (s%M) f h)
theorem partH_all (wide:Int)(n M s:Nat):partH wide n M s n=adjB wide n M s:=rfl
theorem partH_succ (wide:Int)(n M s h:Nat):partH wide n M s (h+1)=partH wide n M s h++fB wide n M s h:=by
 unfold partH;rw[List.range_succ,List.flatMap_append];simp
theorem fB_no {wide:Int}{n M s h:Nat}(hb:(s%M).testBit h=false):fB wide n M s h= []:=by unfold fB;rw[hb];rfl
theorem fB_yes {wide:Int}{n M s h:Nat}(hb:(s%M).testBit h=true):fB wide n M s h=partJ wide n M s h (besideN wide n h).length:=by unfold fB partJ;rw[if_pos hb,List.take_length]
theorem partJ_zero (wide:Int)(n M s h:Nat):partJ wide n M s h 0= []:=rfl
theorem partJ_no {wide:Int}{n M s h j f:Nat}(hj:(besideN wide n h)[j]? =some f) (hb:(s%M).testBit f=true):partJ wide n M s h (j+1)=partJ wide n M s h j:=by
 unfold partJ;rw[take_snocL hj,List.filter_append];simp[hb]
theorem partJ_yes {wide:Int}{n M s h j f:Nat}(hj:(besideN wide n h)[j]? =some f) (hb:(s%M).testBit f=false):partJ wide n M s h (j+1)=partJ wide n M s h j++ [nextS M (s/M) (s%M) f h]:=by
 unfold partJ;rw[take_snocL hj,List.filter_append];simp[hb]
theorem partHJ_adj {wide:Int}{n M s h j:Nat}(hh:h<n)(hb:(s%M).testBit h=true): ∀v∈partH wide n M s h++partJ wide n M s h j,v∈adjB wide n M s:=by
 intro v hv
 rw[←partH_all]
 unfold partH
 rw[List.mem_flatMap]
 rcases List.mem_append.1 hv with hv|hv
 ·unfold partH at hv
  obtain⟨a,ha,hm⟩:=List.mem_flatMap.1 hv
  exact⟨a,List.mem_range.2 (by have:=List.mem_range.1 ha;omega),hm⟩
 ·refine⟨h,List.mem_range.2 hh,?_⟩
  rw[fB_yes hb]
  unfold partJ at hv⊢
  obtain⟨f,hf,rfl⟩:=List.mem_map.1 hv
  obtain⟨h1,h2⟩:=List.mem_filter.1 hf
  exact List.mem_map.2 ⟨f,List.mem_filter.2 ⟨by rw[List.take_length];exact List.mem_of_mem_take h1,h2⟩,rfl⟩
theorem partH_adj {wide:Int}{n M s h:Nat}(hh:h≤n): ∀v∈partH wide n M s h,v∈adjB wide n M s:=by
 intro v hv
 rw[←partH_all]
 unfold partH at hv⊢
 obtain⟨a,ha,hm⟩:=List.mem_flatMap.1 hv
 exact List.mem_flatMap.2 ⟨a,List.mem_range.2 (by have:=List.mem_range.1 ha;omega),hm⟩
theorem mid_part {adj:Nat→List Nat}{src:List Nat}{N k u:Nat}{D:List Int}{Q:List Nat}(h:Inv adj src N k (D,Q))(hu:Q[k]? =some u) (ha: ∀v∈adj u,v<N) {vs:List Nat} (hv: ∀v∈vs,v∈adj u) {D2:List Int} {Q2:List Nat} (he:(D2,Q2)=expand (D.getD u 0+1) (D,Q) vs):
  Mid adj src N k u vs (D,Q) (D2,Q2):=by
 rw[he]
 have:=Mid.many (List.mem_of_getElem? hu) vs [] (D,Q) (h.mid hu) (fun v hv'=>⟨hv v hv',ha v (hv v hv')⟩)
 simpa using this
end Go.Proofs.YteejdnmmpmcmeaaGreatDoor

