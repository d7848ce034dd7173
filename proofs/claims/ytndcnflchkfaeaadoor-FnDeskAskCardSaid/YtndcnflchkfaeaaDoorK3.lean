/-
  Texts of this proof, packed (@packed).
-/
import Derived.Maps.AppendAt
import Derived.Test.YtndcnflchkfaeaaDoorK1
import Derived.Test.YtndcnflchkfaeaaDoorK2
namespace Go.Proofs.YtndcnflchkfaeaaDoor
open Go.RowKit
set_option linter.unusedVariables false
set_option linter.unusedSimpArgs false
structure DeskD where
 places:Int
 taken:List Visit4
 row:List Visit4
def deskFits (p:Int)(T:List Visit4)(b:Visit4):Bool:=decide (T.length<7)&&decide (booksMost (T++ [b])≤p)
def idAt (T:List Visit4)(k:Nat):Int:=match T[k]? with|some b=>b.1|none=>0
def idsUp (T:List Visit4):Bool:=(List.range T.length).all (fun k=>decide (k+1<T.length→idAt T k<idAt T (k+1)))
def rowOk1 (p:Int)(T:List Visit4)(R:List Visit4)(k:Nat):Bool:=match R[k]? with|some b=>bookOk b&&noBook b.1 (R.take k)&&noBook b.1 T&& !deskFits p T b|none=>true
def rowGo (p:Int)(T R:List Visit4):Bool:=(List.range R.length).all (rowOk1 p T R)
def deskValid (d:DeskD):Bool:=decide (1≤d.places∧d.places≤7)&&booksOk d.taken&&decide (booksMost d.taken≤d.places)&&decide (d.row.length≤5)&&idsUp d.taken&&rowGo d.places d.taken d.row
structure DOk (p:Int) (T R:List Visit4):Prop where
 pl:1≤p∧p≤7
 ok:booksOk T=true
 fit:Fits p T
 up:(T.map (·.1)).Pairwise (·< ·)
 rlen:R.length≤5
 rok: ∀b∈R,bookOk b=true
 rnd:(R.map (·.1)).Nodup
 far: ∀b∈R,∀c∈T,b.1≠c.1
 wait: ∀b∈R,deskFits p T b=false
theorem noBook_iff {id:Int}{bs:List Visit4}:noBook id bs=true↔ ∀c∈bs,id≠c.1:=by
 simp only[noBook,Bool.not_eq_true',List.any_eq_false,beq_iff_eq]
 exact⟨fun h c hc e=>h c hc e.symm,fun h c hc e=>h c hc e.symm⟩
theorem idsUp_iff {T:List Visit4}:idsUp T=true↔(T.map (·.1)).Pairwise (·< ·):=by
 simp only[idsUp,List.all_eq_true,List.mem_range,decide_eq_true_eq]
 constructor
 ·intro h
  rw[List.pairwise_iff_getElem]
  have key: ∀j,∀i,i<j→j<T.length→idAt T i<idAt T j:=by
   intro j
   induction j with
   |zero=>intro i hi _;omega
   |succ j ih=>
    intro i hi hj
    have h1:=h j (by omega) hj
    by_cases e:i=j
    ·subst e;exact h1
    ·have:=ih i (by omega) (by omega);omega
  intro i j hi hj hij
  rw[List.length_map]at hi hj
  have:=key j i hij hj
  simpa[idAt,List.getElem?_eq_getElem hi,List.getElem?_eq_getElem hj]using this
 ·intro h k hk hk1
  have:=List.pairwise_iff_getElem.1 h k (k+1) (by simpa using hk) (by simpa using hk1) (by omega)
  simpa[idAt,List.getElem?_eq_getElem hk,List.getElem?_eq_getElem hk1]using this
theorem rowGo_iff {p:Int}{T R:List Visit4}:rowGo p T R=true↔(∀b∈R,bookOk b=true)∧(R.map (·.1)).Nodup∧(∀b∈R,∀c∈T,b.1≠c.1)∧(∀b∈R,deskFits p T b=false):=by
 simp only[rowGo,List.all_eq_true,List.mem_range]
 have hR: ∀k,(hk:k<R.length)→R[k]? =some R[k]:=fun k hk=>List.getElem?_eq_getElem hk
 constructor
 ·intro h
  have h': ∀k,(hk:k<R.length)→bookOk R[k]=true∧noBook R[k].1 (R.take k)=true∧noBook R[k].1 T=true∧deskFits p T R[k]=false:=by
   intro k hk
   have:=h k hk
   simp only[rowOk1,hR k hk,Bool.and_eq_true,Bool.not_eq_true']at this
   exact⟨this.1.1.1,this.1.1.2,this.1.2,this.2⟩
  refine⟨?_,?_,?_,?_⟩
  ·intro b hb;obtain⟨k,hk,rfl⟩:=List.getElem_of_mem hb;exact(h' k hk).1
  ·rw[List.Nodup,List.pairwise_iff_getElem]
   intro i j hi hj hij
   rw[List.length_map]at hi hj
   have:=noBook_iff.1 (h' j hj).2.1 R[i] (List.mem_take_iff_getElem.2 ⟨i,by omega,rfl⟩)
   simp only[List.getElem_map]
   exact fun e=>this e.symm
  ·intro b hb;obtain⟨k,hk,rfl⟩:=List.getElem_of_mem hb;exact noBook_iff.1 (h' k hk).2.2.1
  ·intro b hb;obtain⟨k,hk,rfl⟩:=List.getElem_of_mem hb;exact(h' k hk).2.2.2
 ·rintro⟨h1,h2,h3,h4⟩ k hk
  have hm:=List.getElem_mem hk
  simp only[rowOk1,hR k hk,Bool.and_eq_true,Bool.not_eq_true']
  refine⟨⟨⟨h1 _ hm,noBook_iff.2 ?_⟩,noBook_iff.2 (h3 _ hm)⟩,h4 _ hm⟩
  intro c hc e
  obtain⟨i,hi,rfl⟩:=List.mem_take_iff_getElem.1 hc
  have:=List.pairwise_iff_getElem.1 h2 i k (by simp;omega) (by simpa using hk) (by omega)
  simp only[List.getElem_map]at this
  exact this e.symm
theorem desk_iff {d:DeskD}:deskValid d=true↔DOk d.places d.taken d.row:=by
 simp only[deskValid,Bool.and_eq_true,decide_eq_true_eq,idsUp_iff,rowGo_iff]
 constructor
 ·rintro⟨⟨⟨⟨⟨h1,h2⟩,h3⟩,h4⟩,h5⟩,h6,h7,h8,h9⟩
  exact⟨h1,h2,(most_fits h2 (by omega)).1 h3,h5,h4,h6,h7,h8,h9⟩
 ·intro h
  exact⟨⟨⟨⟨⟨h.pl,h.ok⟩,(most_fits h.ok (by have:=h.pl;omega)).2 h.fit⟩,h.rlen⟩,h.up⟩,h.rok,h.rnd,h.far,h.wait⟩
theorem booksOk_add {T:List Visit4}{b:Visit4}(h:booksOk T=true)(hl:T.length<7)(hb:bookOk b=true)(hf: ∀c∈T,b.1≠c.1):booksOk (T++ [b])=true:=by
 rw[booksOk_iff]at h⊢
 refine⟨by simp;omega,?_,?_⟩
 ·intro x hx
  rcases List.mem_append.1 hx with hx|hx
  ·exact h.2.1 x hx
  ·obtain rfl:=List.mem_singleton.1 hx;exact hb
 ·rw[List.map_append,List.map_cons,List.map_nil,List.nodup_append]
  refine⟨h.2.2,by simp,?_⟩
  intro x hx y hy e
  obtain rfl:=List.mem_singleton.1 hy
  obtain⟨c,hc,rfl⟩:=List.mem_map.1 hx
  exact hf c hc e.symm
theorem fits_iff {p:Int}{T:List Visit4}{b:Visit4}(hp:0≤p)(h:booksOk T=true)(hb:bookOk b=true)(hf: ∀c∈T,b.1≠c.1):deskFits p T b=true↔T.length<7∧Fits p (T++ [b]):=by
 simp only[deskFits,Bool.and_eq_true,decide_eq_true_eq]
 constructor
 ·rintro⟨h1,h2⟩;exact⟨h1,(most_fits (booksOk_add h h1 hb hf) hp).1 h2⟩
 ·rintro⟨h1,h2⟩;exact⟨h1,(most_fits (booksOk_add h h1 hb hf) hp).2 h2⟩
def putBook (T:List Visit4)(b:Visit4):List Visit4:=T.takeWhile (fun c=>decide (c.1<b.1))++b::T.dropWhile (fun c=>decide (c.1<b.1))
theorem put_perm (T:List Visit4)(b:Visit4):(putBook T b).Perm (T++ [b]):=by
 unfold putBook
 have h:(T.takeWhile (fun c=>decide (c.1<b.1))++b::T.dropWhile (fun c=>decide (c.1<b.1))).Perm (b::(T.takeWhile (fun c=>decide (c.1<b.1))++T.dropWhile (fun c=>decide (c.1<b.1)))):=List.perm_middle
 rw[List.takeWhile_append_dropWhile]at h
 exact h.trans (List.perm_append_singleton b T).symm
theorem takeWhile_mem {α:Type}{p:α→Bool}: ∀ {l:List α} {x:α},x∈l.takeWhile p→p x=true
 |a::l,x,h=>by
  by_cases ha:p a=true
  ·rw[List.takeWhile_cons_of_pos ha]at h
   rcases List.mem_cons.1 h with rfl|h
   ·exact ha
   ·exact takeWhile_mem h
  ·rw[List.takeWhile_cons_of_neg ha]at h;simp at h
theorem put_up {T:List Visit4}{b:Visit4}(h:(T.map (·.1)).Pairwise (·< ·))(hf: ∀c∈T,b.1≠c.1):((putBook T b).map (·.1)).Pairwise (·< ·):=by
 have ht: ∀x∈T.takeWhile (fun c=>decide (c.1<b.1)),x.1<b.1:=fun x hx=>by
  have:=takeWhile_mem hx;simpa using this
 have hd: ∀x∈T.dropWhile (fun c=>decide (c.1<b.1)),b.1<x.1:=by
  clear ht
  induction T with
  |nil=>intro x hx;simp at hx
  |cons a T ih=>
   intro x hx
   rw[List.map_cons,List.pairwise_cons]at h
   by_cases ha:a.1<b.1
   ·rw[List.dropWhile_cons_of_pos (by simpa using ha)]at hx
    exact ih h.2 (fun c hc=>hf c (by simp[hc])) x hx
   ·rw[List.dropWhile_cons_of_neg (by simpa using ha)]at hx
    have h1:=hf a (by simp)
    rcases List.mem_cons.1 hx with rfl|hx
    ·omega
    ·have:=h.1 x.1 (List.mem_map_of_mem hx);omega
 have hs:=h
 rw[←List.takeWhile_append_dropWhile (p:=fun c=>decide (c.1<b.1)) (l:=T),List.map_append,List.pairwise_append]at hs
 rw[putBook,List.map_append,List.map_cons,List.pairwise_append,List.pairwise_cons]
 refine⟨hs.1,⟨?_,hs.2.1⟩,?_⟩
 ·intro y hy;obtain⟨x,hx,rfl⟩:=List.mem_map.1 hy;exact hd x hx
 ·intro x hx y hy
  obtain⟨u,hu,rfl⟩:=List.mem_map.1 hx
  rcases List.mem_cons.1 hy with rfl|hy
  ·exact ht u hu
  ·obtain⟨v,hv,rfl⟩:=List.mem_map.1 hy
   have:=ht u hu;have:=hd v hv;omega
theorem put_mem {T:List Visit4}{b x:Visit4}:x∈putBook T b↔x∈T∨x=b:=by
 rw[(put_perm T b).mem_iff];simp
theorem fits_less {p:Int}{T T':List Visit4}{c:Visit4}(hp:0≤p)(hT:booksOk T=true)(hT':booksOk T'=true)(hs: ∃S,T.Perm S∧S.Sublist T')(hc:bookOk c=true)(hf: ∀x∈T',c.1≠x.1)(h:deskFits p T c=false):deskFits p T' c=false:=by
 obtain⟨S,hS,hsub⟩:=hs
 have hf1: ∀x∈T,c.1≠x.1:=fun x hx=>hf x (hsub.subset (hS.mem_iff.1 hx))
 cases hq:deskFits p T' c with
 |false=>rfl
 |true=>
  obtain⟨h1,h2⟩:=(fits_iff hp hT' hc hf).1 hq
  have:=(fits_iff hp hT hc hf1).2 ⟨by rw[hS.length_eq];exact Nat.lt_of_le_of_lt hsub.length_le h1,fits_perm (hS.symm.append (List.Perm.refl [c])) (fits_sub ((List.append_sublist_append_right [c]).2 hsub) h2)⟩
  rw[h]at this;simp at this
theorem put_less {T:List Visit4}{b:Visit4}: ∃S,T.Perm S∧S.Sublist (putBook T b):=by
 refine⟨T,List.Perm.refl _,?_⟩
 rw[putBook]
 have h2:=(List.append_sublist_append_left (T.takeWhile (fun c=>decide (c.1<b.1)))).2 (List.sublist_cons_self b (T.dropWhile (fun c=>decide (c.1<b.1))))
 rw[List.takeWhile_append_dropWhile]at h2
 exact h2
theorem dok_take {p:Int}{T:List Visit4}{b:Visit4}{R:List Visit4}(hp:1≤p∧p≤7)(hT:booksOk T=true)(hup:(T.map (·.1)).Pairwise (·< ·))(hb:bookOk b=true)(hf: ∀c∈T,b.1≠c.1)(hfit:deskFits p T b=true):
  booksOk (putBook T b)=true∧Fits p (putBook T b)∧((putBook T b).map (·.1)).Pairwise (·< ·):=by
 obtain⟨h1,h2⟩:=(fits_iff (by omega) hT hb hf).1 hfit
 exact⟨by rw[booksOk_perm (put_perm T b)];exact booksOk_add hT h1 hb hf,fits_perm (put_perm T b).symm h2,put_up hup hf⟩
def hasId (id:Int)(bs:List Visit4):Bool:= !noBook id bs
def deskAsk (d:DeskD)(b:Visit4):DeskD×Int:=
 if deskValid d=true then
  if bookOk b=false∨noBook b.1 d.taken=false∨noBook b.1 d.row=false then(d,0)
  else if deskFits d.places d.taken b=true then(⟨d.places,putBook d.taken b,d.row⟩,1)
  else if d.row.length=5 then(d,0)else(⟨d.places,d.taken,d.row++ [b]⟩,2)
 else(⟨0,[],[]⟩,0)
theorem ask_ok {d:DeskD}{b:Visit4}(hd:deskValid d=true):deskValid (deskAsk d b).1=true:=by
 unfold deskAsk
 rw[if_pos hd]
 have h:=desk_iff.1 hd
 split
 ·exact hd
 ·next hn=>
  have hb:bookOk b=true:=by cases h:bookOk b<;>simp_all
  have hft: ∀c∈d.taken,b.1≠c.1:=noBook_iff.1 (by cases h:noBook b.1 d.taken<;>simp_all)
  have hfr: ∀c∈d.row,b.1≠c.1:=noBook_iff.1 (by cases h:noBook b.1 d.row<;>simp_all)
  split
  ·next hfit=>
   obtain⟨h1,h2,h3⟩:=dok_take (R:=d.row) h.pl h.ok h.up hb hft hfit
   refine desk_iff.2 ⟨h.pl,h1,h2,h3,h.rlen,h.rok,h.rnd,?_,?_⟩
   ·intro x hx c hc
    rcases put_mem.1 hc with hc|rfl
    ·exact h.far x hx c hc
    ·exact fun e=>hfr x hx e.symm
   ·intro x hx
    refine fits_less (by have:=h.pl;show(0:Int)≤d.places;omega) h.ok h1 put_less (h.rok x hx) ?_ (h.wait x hx)
    intro c hc
    rcases put_mem.1 hc with hc|rfl
    ·exact h.far x hx c hc
    ·exact fun e=>hfr x hx e.symm
  ·next hfit=>
   split
   ·exact hd
   ·next hr=>
    have:=h.rlen
    refine desk_iff.2 ⟨h.pl,h.ok,h.fit,h.up,by simp;omega,?_,?_,?_,?_⟩
    ·intro x hx
     rcases List.mem_append.1 hx with hx|hx
     ·exact h.rok x hx
     ·obtain rfl:=List.mem_singleton.1 hx;exact hb
    ·simp only[List.map_append,List.map_cons,List.map_nil]
     rw[List.nodup_append]
     refine⟨h.rnd,by simp,?_⟩
     intro x hx y hy e
     obtain rfl:=List.mem_singleton.1 hy
     obtain⟨c,hc,rfl⟩:=List.mem_map.1 hx
     exact hfr c hc e.symm
    ·intro x hx
     rcases List.mem_append.1 hx with hx|hx
     ·exact h.far x hx
     ·obtain rfl:=List.mem_singleton.1 hx;exact hft
    ·intro x hx
     rcases List.mem_append.1 hx with hx|hx
     ·exact h.wait x hx
     ·obtain rfl:=List.mem_singleton.1 hx
      simpa using hfit
def freeStep (p:Int)(s:List Visit4×List Visit4×List Int)(b:Visit4):List Visit4×List Visit4×List Int:=
 if deskFits p s.1 b=true then(putBook s.1 b,s.2.1,s.2.2++ [b.1])else(s.1,s.2.1++ [b],s.2.2)
def freeRun (p:Int)(T R:List Visit4):List Visit4×List Visit4×List Int:=R.foldl (freeStep p) (T,[],[])
def idxOf (id:Int)(bs:List Visit4):Option Nat:=bs.findIdx? (fun b=>b.1==id)
def deskFree (d:DeskD)(id:Int):DeskD×List Int:=
 if deskValid d=true then
  match idxOf id d.row with
  |some i=>(⟨d.places,d.taken,d.row.eraseIdx i⟩,[])
  |none=>match idxOf id d.taken with
   |none=>(d,[])
   |some i=>(⟨d.places,(freeRun d.places (d.taken.eraseIdx i) d.row).1,(freeRun d.places (d.taken.eraseIdx i) d.row).2.1⟩,(freeRun d.places (d.taken.eraseIdx i) d.row).2.2)
 else(⟨0,[],[]⟩,[])
structure FInv (p:Int) (T0:List Visit4) (seen:List Visit4) (rest:List Visit4) (s:List Visit4×List Visit4×List Int):Prop where
 ok:booksOk s.1=true
 fit:Fits p s.1
 up:(s.1.map (·.1)).Pairwise (·< ·)
 mem: ∀x,x∈s.1↔x∈T0∨(x∈seen∧x.1∈s.2.2)
 row:s.2.1=seen.filter (fun b=> !s.2.2.contains b.1)
 got: ∀i∈s.2.2,∃b∈seen,b.1=i
 wait: ∀b∈s.2.1,deskFits p s.1 b=false
theorem free_go {p:Int}{T0:List Visit4}(hp:1≤p∧p≤7): ∀(rest seen:List Visit4) (s:List Visit4×List Visit4×List Int),(∀b∈seen++rest,bookOk b=true)→((seen++rest).map (·.1)).Nodup→(∀b∈seen++rest,∀c∈T0,b.1≠c.1)→FInv p T0 seen rest s→FInv p T0 (seen++rest) [] (rest.foldl (freeStep p) s):=by
 intro rest
 induction rest with
 |nil=>intro seen s _ _ _ h;rw[List.append_nil,List.foldl_nil];exact h
 |cons b rest ih=>
  intro seen s h1 h2 h3 h
  rw[List.foldl_cons]
  have hbok:=h1 b (by simp)
  have hne: ∀c∈seen,c.1≠b.1:=by
   intro c hc
   rw[List.map_append,List.nodup_append]at h2
   exact h2.2.2 c.1 (List.mem_map_of_mem hc) b.1 (by simp)
  have hf: ∀c∈s.1,b.1≠c.1:=by
   intro c hc
   rcases(h.mem c).1 hc with hc|⟨hc,_⟩
   ·exact h3 b (by simp) c hc
   ·exact fun e=>hne c hc e.symm
  have hgot:b.1∉s.2.2:=fun hc=>by
   obtain⟨c,hc,e⟩:=h.got _ hc
   exact hne c hc e
  have e:seen++b::rest=(seen++ [b])++rest:=by simp
  rw[e]at h1 h2 h3⊢
  refine ih (seen++ [b]) _ h1 h2 h3 ?_
  unfold freeStep
  split
  ·next hfit=>
   obtain⟨a1,a2,a3⟩:=dok_take (R:= []) hp h.ok h.up hbok hf hfit
   refine⟨a1,a2,a3,?_,?_,?_,?_⟩
   ·intro x
    simp only[put_mem,h.mem,List.mem_append,List.mem_singleton]
    constructor
    ·rintro((hx|⟨hx,hx2⟩)|rfl)
     ·exact .inl hx
     ·exact .inr ⟨.inl hx,.inl hx2⟩
     ·exact .inr ⟨.inr rfl,.inr rfl⟩
    ·rintro(hx|⟨hx|rfl,hx2|hx2⟩)
     ·exact .inl (.inl hx)
     ·exact .inl (.inr ⟨hx,hx2⟩)
     ·exact absurd hx2 (hne x hx)
     ·exact .inr rfl
     ·exact .inr rfl
   ·show s.2.1=_
    rw[h.row,List.filter_append]
    have e1: [b].filter (fun c=> !(s.2.2++ [b.1]).contains c.1)= []:=by simp
    rw[e1,List.append_nil]
    refine List.filter_congr (fun c hc=> ?_)
    have:=hne c hc
    simp[this]
   ·intro i hi
    rcases List.mem_append.1 hi with hi|hi
    ·obtain⟨c,hc,e⟩:=h.got i hi;exact⟨c,by simp[hc],e⟩
    ·obtain rfl:=List.mem_singleton.1 hi;exact⟨b,by simp,rfl⟩
   ·intro c hc
    have hcs:c∈seen:=by rw[h.row]at hc;exact(List.mem_filter.1 hc).1
    have hcg:c.1∉s.2.2:=by rw[h.row]at hc;have:=(List.mem_filter.1 hc).2;simpa using this
    refine fits_less (by omega) h.ok a1 put_less (h1 c (by simp[hcs])) ?_ (h.wait c hc)
    intro x hx
    rcases put_mem.1 hx with hx|rfl
    ·rcases(h.mem x).1 hx with hx|⟨hx,hx2⟩
     ·exact h3 c (by simp[hcs]) x hx
     ·exact fun e=>hcg (by rw[e];exact hx2)
    ·exact hne c hcs
  ·next hfit=>
   refine⟨h.ok,h.fit,h.up,?_,?_,?_,?_⟩
   ·intro x
    simp only[h.mem,List.mem_append,List.mem_singleton]
    constructor
    ·rintro(hx|⟨hx,hx2⟩)
     ·exact .inl hx
     ·exact .inr ⟨.inl hx,hx2⟩
    ·rintro(hx|⟨hx|rfl,hx2⟩)
     ·exact .inl hx
     ·exact .inr ⟨hx,hx2⟩
     ·exact absurd hx2 hgot
   ·show s.2.1++ [b]=_
    rw[List.filter_append,←h.row]
    simp[hgot]
   ·intro i hi
    obtain⟨c,hc,e⟩:=h.got i hi;exact⟨c,by simp[hc],e⟩
   ·intro c hc
    rcases List.mem_append.1 hc with hc|hc
    ·exact h.wait c hc
    ·obtain rfl:=List.mem_singleton.1 hc;simpa using hfit
theorem dok_erase {p:Int}{T R:List Visit4}(h:DOk p T R)(i:Nat):DOk p T (R.eraseIdx i):=
 ⟨h.pl,h.ok,h.fit,h.up,by have:=(List.eraseIdx_sublist R i).length_le;have:=h.rlen;omega,fun b hb=>h.rok b ((List.eraseIdx_sublist R i).subset hb),h.rnd.sublist ((List.eraseIdx_sublist R i).map _),fun b hb=>h.far b ((List.eraseIdx_sublist R i).subset hb),fun b hb=>h.wait b ((List.eraseIdx_sublist R i).subset hb)⟩
theorem free_inv {p:Int}{T R:List Visit4}(h:DOk p T R)(i:Nat):FInv p (T.eraseIdx i) R [] (freeRun p (T.eraseIdx i) R):=by
 have hs:=List.eraseIdx_sublist T i
 have:=free_go (p:=p) (T0:=T.eraseIdx i) h.pl R [] (T.eraseIdx i,[],[]) (by simpa using h.rok) (by simpa using h.rnd) (fun b hb c hc=>h.far b (by simpa using hb) c (hs.subset hc))
  ⟨booksOk_sub hs h.ok,fits_sub hs h.fit,h.up.sublist (hs.map _),fun x=>by simp,rfl,fun i h=>absurd h (by simp),fun b h=>absurd h (by simp)⟩
 simpa[freeRun]using this
theorem free_ok {d:DeskD}{id:Int}(hd:deskValid d=true):deskValid (deskFree d id).1=true:=by
 unfold deskFree
 rw[if_pos hd]
 have h:=desk_iff.1 hd
 cases idxOf id d.row with
 |some i=>exact desk_iff.2 (dok_erase h i)
 |none=>
  cases idxOf id d.taken with
  |none=>exact hd
  |some i=>
   have F:=free_inv h i
   have hs:=List.eraseIdx_sublist d.taken i
   have hsub:(freeRun d.places (d.taken.eraseIdx i) d.row).2.1.Sublist d.row:=by rw[F.row];exact List.filter_sublist
   refine desk_iff.2 ⟨h.pl,F.ok,F.fit,F.up,Nat.le_trans hsub.length_le h.rlen,fun b hb=>h.rok b (hsub.subset hb),h.rnd.sublist (hsub.map _),?_,F.wait⟩
   intro b hb c hc
   rcases(F.mem c).1 hc with hc|⟨hc,hc2⟩
   ·exact h.far b (hsub.subset hb) c (hs.subset hc)
   ·intro e
    have hb':b∈(freeRun d.places (d.taken.eraseIdx i) d.row).2.1:=hb
    rw[F.row]at hb'
    have:=(List.mem_filter.1 hb').2
    rw[e]at this
    simp at this
    exact this hc2
end Go.Proofs.YtndcnflchkfaeaaDoor

namespace Go.Proofs.YtndcnflchkfaeaaDoor
open Go Go.RowKit
set_option linter.unusedVariables false
structure Item where
 adr:Nat→Prop
 ok:World→Prop
structure Item.Good (it:Item) (B:Nat):Prop where
 lt: ∀w,it.ok w→ ∀g,it.adr g→B≤g∧g<w.heap.size
 stay: ∀w w',it.ok w→w.heap.size≤w'.heap.size→(∀g,it.adr g→w'.heap[g]? =w.heap[g]?)→it.ok w'
def blkI (B g:Nat)(t:TypeId)(cs:Array Value):Item:=⟨fun x=>g=x,fun w=>B≤g∧Blk w g t cs⟩
def ownI (B:Nat)(e:TypeId)(sz:Nat)(q:Option Addr)(n c:Nat)(xs:List Value):Item:=⟨fun x=>(Value.slice q n c).ownBlock=some x,fun w=>w.ownsRow B e sz (.slice q n c) n xs⟩
theorem blkI_good (B g:Nat)(t:TypeId)(cs:Array Value):(blkI B g t cs).Good B:=
 ⟨fun w h g' hg=>by obtain rfl:g=g':=hg;exact⟨h.1,h.2.lt⟩,fun w w' h _ hs=>⟨h.1,(hs g rfl).trans h.2⟩⟩
theorem own_stay {w w':World}{B n sz:Nat}{e:TypeId}{v:Value}{xs:List Value}(h:w.ownsRow B e sz v n xs)(hs: ∀g,v.ownBlock=some g→w'.heap[g]? =w.heap[g]?):w'.ownsRow B e sz v n xs:=by
 refine⟨h.1,?_⟩
 rcases h.2 with h2|⟨g,cap,cur,h1,h3,h4,h5⟩
 ·exact .inl h2
 ·refine .inr ⟨g,cap,cur,h1,h3,?_,h5⟩
  rw[hs g (by rw[h1];rfl)];exact h4
theorem ownI_good (B:Nat)(e:TypeId)(sz:Nat)(q:Option Addr)(n c:Nat)(xs:List Value):(ownI B e sz q n c xs).Good B:=
 ⟨fun w h g hg=>World.ownsRow.lt h g hg,fun w w' h _ hs=>own_stay h hs⟩
theorem own_low {w:World}{B B' n sz:Nat}{e:TypeId}{v:Value}{xs:List Value}(h:w.ownsRow B e sz v n xs)(hb:B'≤B):w.ownsRow B' e sz v n xs:=by
 refine⟨h.1,?_⟩
 rcases h.2 with h2|⟨g,cap',cur,e1,hb',r⟩
 ·exact .inl h2
 ·exact .inr ⟨g,cap',cur,e1,Nat.le_trans hb hb',r⟩
structure RowD where
 q:Option Addr
 n:Nat
 c:Nat
 xs:List Value
abbrev RowD.v (r:RowD):Value:= .slice r.q r.n r.c
structure Mem (w0 w:World) (L:List Item):Prop where
 ext:Ext w0 w
 good: ∀it∈L,it.Good w0.heap.size
 ok: ∀it∈L,it.ok w
 apart:L.Pairwise (fun a b=> ∀g,a.adr g→ ¬b.adr g)
section
variable {w0 w w':World} {L:List Item}
theorem Mem.start (w:World):Mem w w []:=⟨Ext.refl w,fun _ h=>absurd h (by simp),fun _ h=>absurd h (by simp),List.Pairwise.nil⟩
theorem Mem.of (h:Ext w0 w):Mem w0 w []:=⟨h,fun _ h=>absurd h (by simp),fun _ h=>absurd h (by simp),List.Pairwise.nil⟩
theorem Mem.adv (h:Mem w0 w L)(hx:Ext w w'):Mem w0 w' L:=
 ⟨h.ext.trans hx,h.good,fun it hi=>(h.good it hi).stay w w' (h.ok it hi) hx.sz (fun g hg=>hx.block g ((h.good it hi).lt w (h.ok it hi) g hg).2),h.apart⟩
theorem Mem.cons {it:Item}(h:Mem w0 w L)(hg:it.Good w0.heap.size)(ho:it.ok w)(hn: ∀g,it.adr g→ ∀j∈L,¬j.adr g):Mem w0 w (it::L):=
 ⟨h.ext,fun x hx=>by
  rcases List.mem_cons.1 hx with rfl|hx
  ·exact hg
  ·exact h.good x hx,fun x hx=>by
  rcases List.mem_cons.1 hx with rfl|hx
  ·exact ho
  ·exact h.ok x hx,List.Pairwise.cons (fun j hj g hg'=>hn g hg' j hj) h.apart⟩
theorem Mem.new {it:Item}(h:Mem w0 w L)(hx:Ext w w')(hg:it.Good w0.heap.size)(ho:it.ok w')(hn: ∀g,it.adr g→w.heap.size≤g):Mem w0 w' (it::L):=by
 refine(h.adv hx).cons hg ho (fun g hg' j hj e=> ?_)
 have h1:=hn g hg'
 have h2:=((h.good j hj).lt w (h.ok j hj) g e).2
 omega
theorem Mem.blkOf {g:Nat}{t:TypeId}{cs:Array Value}(h:Mem w0 w L)(hx:Ext w w')(hb:Blk w' g t cs)(hg:w.heap.size≤g):Mem w0 w' (blkI w0.heap.size g t cs::L):=
 h.new hx (blkI_good _ _ _ _) ⟨Nat.le_trans h.ext.sz hg,hb⟩ (fun g' hg'=>by obtain rfl:g=g':=hg';exact hg)
theorem Mem.blkNew (h:Mem w0 w L)(t:TypeId)(cs:Array Value)(g:Nat)(hg:w.heap.size=g):Mem w0 (w.alloc (.cells cs t)) (blkI w0.heap.size g t cs::L):=by
 subst hg
 exact h.blkOf ((Ext.refl w).alloc _) (Blk.new _ _ _) (Nat.le_refl _)
theorem Mem.ownNew {b n c sz:Nat}{e:TypeId}{q:Option Addr}{xs:List Value}(h:Mem w0 w L)(hx:Ext w w')(ho:w'.ownsRow b e sz (.slice q n c) n xs)(hb:w.heap.size≤b):Mem w0 w' (ownI w0.heap.size e sz q n c xs::L):=
 h.new hx (ownI_good _ _ _ _ _ _ _) (own_low ho (Nat.le_trans h.ext.sz hb)) (fun g hg=>Nat.le_trans hb (World.ownsRow.lt ho g hg).1)
theorem Mem.call {n c sz:Nat}{e:TypeId}{q:Option Addr}{xs:List Value}(h:Mem w0 w L)(hx:Ext w w')(ho:w'.ownsRow w.heap.size e sz (.slice q n c) n xs):Mem w0 w' (ownI w0.heap.size e sz q n c xs::L):=h.ownNew hx ho (Nat.le_refl _)
theorem Mem.made0 (h:Mem w0 w L)(e:TypeId)(sz g:Nat)(hg:w.heap.size=g):Mem w0 (w.alloc (.cells #[] e)) (ownI w0.heap.size e sz (some ⟨g,0,none⟩) 0 0 []::L):=by
 subst hg
 exact h.ownNew ((Ext.refl w).alloc _) (World.ownsRow_made (base:=w.heap.size) w #[] 0 (Nat.le_refl _) (by simp[maxLen]) (by simp)) (Nat.le_refl _)
theorem own_lit {w:World}{e:TypeId}{sz g n:Nat}{cs:Array Value}{B:Nat}(h:Blk w g e cs)(hn:cs.size=n*sz)(hm:n≤maxLen)(hb:B≤g):w.ownsRow B e sz (.slice (some ⟨g,0,none⟩) n n) n cs.toList:=
 ⟨by simpa using hn,.inr ⟨g,n,cs,rfl,hb,h,Nat.le_refl _,hm,hn,by rw[List.take_of_length_le (by simp;omega)]⟩⟩
theorem Mem.lit (h:Mem w0 w L)(e:TypeId)(sz n g:Nat)(cs:Array Value)(hg:w.heap.size=g)(hn:cs.size=n*sz)(hm:n≤maxLen):Mem w0 (w.alloc (.cells cs e)) (ownI w0.heap.size e sz (some ⟨g,0,none⟩) n n cs.toList::L):=by
 subst hg
 exact h.ownNew ((Ext.refl w).alloc _) (own_lit (Blk.new w e cs) hn hm (Nat.le_refl _)) (Nat.le_refl _)
theorem Mem.blk {i g B:Nat}{t:TypeId}{cs:Array Value}(h:Mem w0 w L)(hi:L[i]? =some (blkI B g t cs)):Blk w g t cs:=(h.ok _ (List.mem_of_getElem? hi)).2
theorem Mem.own {i B n c sz:Nat}{e:TypeId}{q:Option Addr}{xs:List Value}(h:Mem w0 w L)(hi:L[i]? =some (ownI B e sz q n c xs)):w.ownsRow B e sz (.slice q n c) n xs:=h.ok _ (List.mem_of_getElem? hi)
theorem Mem.sl {i B n c sz:Nat}{e:TypeId}{q:Option Addr}{xs:List Value}(h:Mem w0 w L)(hi:L[i]? =some (ownI B e sz q n c xs)):Sl w q n c sz xs:=Sl.own (h.own hi)
theorem Mem.lt {i g:Nat}{it:Item}(h:Mem w0 w L)(hi:L[i]? =some it) (hg:it.adr g):w0.heap.size≤g∧g<w.heap.size:=(h.good _ (List.mem_of_getElem? hi)).lt w (h.ok _ (List.mem_of_getElem? hi)) g hg
theorem Mem.ne {i j g g':Nat}{a b:Item}(h:Mem w0 w L)(hij:i<j)(hi:L[i]? =some a) (hj:L[j]? =some b) (ha:a.adr g) (hb:b.adr g'):g≠g':=by
 rintro rfl
 obtain⟨hil,rfl⟩:=List.getElem?_eq_some_iff.1 hi
 obtain⟨hjl,rfl⟩:=List.getElem?_eq_some_iff.1 hj
 exact List.pairwise_iff_getElem.1 h.apart i j hil hjl hij g ha hb
theorem Mem.far {i j:Nat}{a b:Item}(h:Mem w0 w L)(hij:i≠j)(hi:L[i]? =some a) (hj:L[j]? =some b): ∀g,a.adr g→ ¬b.adr g:=by
 intro g ha hb
 rcases Nat.lt_or_gt_of_ne hij with hlt|hgt
 ·exact h.ne hlt hi hj ha hb rfl
 ·exact h.ne hgt hj hi hb ha rfl
theorem Mem.pick {L':List Item}(h:Mem w0 w L)(is:List Nat)(hd:is.Nodup)(hl:is.map (fun i=>L[i]?)=L'.map some):Mem w0 w L':=by
 have hlen:is.length=L'.length:=by have:=congrArg List.length hl;simpa using this
 have hat: ∀k,(hk:k<L'.length)→L[is[k]'(by omega)]? =some L'[k]:=by
  intro k hk
  have:=congrArg (fun z=>z[k]?) hl
  simp only[List.getElem?_map]at this
  rw[List.getElem?_eq_getElem (by omega:k<is.length),List.getElem?_eq_getElem hk]at this
  simpa using this
 have hmem: ∀x∈L',x∈L:=fun x hx=>by
  obtain⟨k,hk,rfl⟩:=List.getElem_of_mem hx
  exact List.mem_of_getElem? (hat k hk)
 refine⟨h.ext,fun x hx=>h.good x (hmem x hx),fun x hx=>h.ok x (hmem x hx),List.pairwise_iff_getElem.2 fun a b ha hb hab=> ?_⟩
 exact h.far (fun e=>by
  have:=(List.getElem_inj hd).1 e
  omega) (hat a ha) (hat b hb)
theorem Mem.turn {i:Nat}{it it':Item}{row:Option Nat}(h:Mem w0 w L)(hi:L[i]? =some it) (hr: ∀g,row=some g→it.adr g) (hg:it'.Good w0.heap.size) (hgrow:w.grownBy w' row) (ho:it'.ok w') (hat: ∀g,it'.adr g→it.adr g∨g=w.heap.size):Mem w0 w' (L.set i it'):=by
 obtain⟨hil,hie⟩:=List.getElem?_eq_some_iff.1 hi
 have hmem:=List.mem_of_getElem? hi
 have far: ∀j,(hj:j<L.length)→j≠i→ ∀g,L[j].adr g→ ¬it.adr g:=by
  intro j hj hne g hg' e
  exact h.far hne (List.getElem?_eq_getElem hj) hi g hg' e
 have hE:Ext w0 w':=h.ext.grown hgrow (fun k hk=>((h.good it hmem).lt w (h.ok it hmem) k (hr k hk)).1)
 refine⟨hE,fun x hx=> ?_,fun x hx=> ?_,?_⟩
 ·rcases List.mem_or_eq_of_mem_set hx with hx|rfl
  ·exact h.good x hx
  ·exact hg
 ·obtain⟨j,hj,rfl⟩:=List.getElem_of_mem hx
  rw[List.length_set]at hj
  by_cases hji:i=j
  ·subst hji;rw[List.getElem_set_self];exact ho
  ·rw[List.getElem_set_ne hji]
   have hm:=List.getElem_mem hj
   refine(h.good _ hm).stay w w' (h.ok _ hm) hgrow.size (fun g hg'=> ?_)
   exact hgrow.block g ((h.good _ hm).lt w (h.ok _ hm) g hg').2 (fun e=>far j hj (Ne.symm hji) g hg' (hr g e.symm))
 ·refine List.pairwise_iff_getElem.2 fun a b ha hb hab g hga hgb=> ?_
  rw[List.length_set]at ha hb
  have key: ∀j,(hj:j<L.length)→j≠i→ ∀g,L[j].adr g→ ¬it'.adr g:=by
   intro j hj hne g hg' e
   have hm:=List.getElem_mem hj
   rcases hat g e with h1|h1
   ·exact far j hj hne g hg' h1
   ·have:=((h.good _ hm).lt w (h.ok _ hm) g hg').2
    omega
  by_cases hai:i=a
  ·subst hai
   rw[List.getElem_set_self]at hga
   rw[List.getElem_set_ne (by omega)]at hgb
   exact key b hb (by omega) g hgb hga
  ·rw[List.getElem_set_ne hai]at hga
   by_cases hbi:i=b
   ·subst hbi
    rw[List.getElem_set_self]at hgb
    exact key a ha (by omega) g hga hgb
   ·rw[List.getElem_set_ne hbi]at hgb
    exact List.pairwise_iff_getElem.1 h.apart a b ha hb hab g hga hgb
theorem grown_set (w:World)(g k:Nat)(u:Value):w.grownBy (w.setCell ⟨g,k,none⟩ u) (some g):=
 ((ExtR.refl g w).setCell (p:=⟨g,k,none⟩) (.inl rfl) u:ExtR g w _)
theorem Mem.store {i g B:Nat}{t:TypeId}{cs:Array Value}(h:Mem w0 w L)(hi:L[i]? =some (blkI B g t cs)) (k:Nat) (u:Value):Mem w0 (w.setCell ⟨g,k,none⟩ u) (L.set i (blkI w0.heap.size g t (cs.setIfInBounds k u))):=
 h.turn hi (fun g' e=>by injection e) (blkI_good _ _ _ _) (grown_set w g k u) ⟨(h.lt hi rfl).1,(h.blk hi).set k u⟩ (fun g' e=> .inl e)
theorem Mem.ostore {i g n c sz:Nat}{e:TypeId}{xs:List Value}(h:Mem w0 w L)(hi:L[i]? =some (ownI w0.heap.size e sz (some ⟨g,0,none⟩) n c xs)) (k:Nat) (u:Value):Mem w0 (w.setCell ⟨g,k,none⟩ u) (L.set i (ownI w0.heap.size e sz (some ⟨g,0,none⟩) n c (xs.set k u))):=
 h.turn hi (fun g' e=>e) (ownI_good _ _ _ _ _ _ _) (grown_set w g k u) ((h.own hi).stored k u).1 (fun g' e=> .inl e)
theorem Mem.app {i n c sz n' c':Nat}{e:TypeId}{q q':Option Addr}{xs xs':List Value}(h:Mem w0 w L)(hi:L[i]? =some (ownI w0.heap.size e sz q n c xs)) (ho:w'.ownsRow w0.heap.size e sz (.slice q' n' c') n' xs') (hg:w.grownBy w' (Value.slice q n c).ownBlock)
  (hat:(Value.slice q' n' c').ownBlock=(Value.slice q n c).ownBlock∨(Value.slice q' n' c').ownBlock=some w.heap.size):Mem w0 w' (L.set i (ownI w0.heap.size e sz q' n' c' xs')):=
 h.turn hi (fun g e=>e) (ownI_good _ _ _ _ _ _ _) hg ho (fun g e=>by
  have e':(Value.slice q' n' c').ownBlock=some g:=e
  rcases hat with h1|h1
  ·exact .inl (by show(Value.slice q n c).ownBlock=some g;rw[←h1];exact e')
  ·rw[h1]at e';injection e' with e';exact .inr e'.symm)
theorem Mem.some {i n c sz B:Nat}{e:TypeId}{q:Option Addr}{xs:List Value}(h:Mem w0 w L)(hi:L[i]? =Option.some (ownI B e sz q n c xs)) (hn:0<n): ∃g,q=Option.some ⟨g,0,none⟩∧w0.heap.size≤g∧g<w.heap.size:=by
 rcases(h.own hi).2 with⟨h1,h2⟩|⟨g,cap',cur,h1,h3⟩
 ·omega
 ·injection h1 with e1 e2 e3
  subst e1
  have:=h.lt hi (g:=g) rfl
  exact⟨g,rfl,this.1,this.2⟩
end
section
variable {P:Program} {w0 w:World} {L:List Item} {ops:Array Oper} {rest:List Oper} {o:Oper} {a:Act} {Q:Exit→Act→World→Prop}
theorem run_appM (w:World){t e ty:TypeId}{sz:Nat}(E:ElT P t e sz){i:Nat}{q:Option Addr}{n c:Nat}{xs:List Value}(h:Mem w0 w L)(hi:L[i]? =some (ownI w0.heap.size e sz q n c xs))
  (p:Option Addr) (m d:Nat) (news:List Value) (hs:Sl w p m d sz news) (h1: ∀u∈news,u.oneCell'=true) (hn:n+m≤1099511627776):
  ∃q' c' w',(Builtin.append_ #[t,t] ty #[.slice q n c,.slice p m d]).run P w= .ok (.slice q' (n+m) c') w'∧Mem w0 w' (L.set i (ownI w0.heap.size e sz q' (n+m) c' (xs++news))):=by
 obtain⟨inf,z,hinf,hz,hsz,hby,hzs⟩:=E.info
 have hown:=h.own hi
 have key: ∀ad:Addr,p=some ad∨m=0→(∀j u,news[j]? =some u→w.cell? (ad.add j)=some u)→ ∃q' c' w',(Builtin.append_ #[t,t] ty #[.slice q n c,.slice (some ad) m d]).run P w= .ok (.slice q' (n+m) c') w'∧Mem w0 w' (L.set i (ownI w0.heap.size e sz q' (n+m) c' (xs++news))):=by
  intro ad _ hcells
  have hbb:(n+m)*inf.bytes≤140737488355328:=by
   have:(n+m)*inf.bytes≤(n+m)*64:=Nat.mul_le_mul_left _ hby
   omega
  obtain⟨v',w',hrun,h2,h3,_,h5⟩:=run_append_own_at (P:=P) w w0.heap.size t ty e inf z sz inf.bytes E.ht hinf hz hsz rfl hzs E.pos (.slice q n c) n xs hown ad m d news hs.len hcells h1 (by unfold maxLen;omega) hbb h.ext.sz
  obtain⟨q',c',rfl⟩:=own_form h2
  exact⟨q',c',w',hrun,h.app hi h2 h3 h5⟩
 by_cases hm:0<m
 ·obtain⟨b,off,rfl,hb,hc⟩:=hs.rd hm
  refine key ⟨b,off,none⟩ (.inl rfl) (fun j u hu=> ?_)
  have hj:j<m*sz:=by rw[←hs.len];exact(List.getElem?_eq_some_iff.1 hu).1
  rw[addr_add,hc j hj];exact hu
 ·have hm0:m=0:=by omega
  subst hm0
  have hnl:news= []:=List.length_eq_zero_iff.1 (by rw[hs.len];omega)
  subst hnl
  cases p with
  |some ad=>exact key ad (.inl rfl) (fun j u hu=>by simp at hu)
  |none=>
   refine⟨q,c,w,?_,h.app hi (by simpa using hown) (World.grownBy.refl w _) (.inl rfl)⟩
   rcases hown.2 with⟨h2,h3⟩|⟨g,cap',cur,h2,_,_,hnc,_⟩
   ·injection h2 with e1 e2 e3
    subst e1 e2 e3
    simp[Builtin.append_,run_underlying E.ht,sizeOf,typeInfo,hinf,Builtin.lenOf,Builtin.firstCells]
   ·injection h2 with e1 e2 e3
    subst e1 e3
    simp[Builtin.append_,run_underlying E.ht,sizeOf,typeInfo,hinf,Builtin.lenOf,Builtin.firstCells,hnc,storeCells]
theorem wp_appM {K:Act→World→Prop}{t e:TypeId}{sz:Nat}(E:ElT P t e sz)(s x:Operand)
  (ho:o.op= .call {callee:= .builtin .append,args:=#[s,x],argTypes:=#[t,t]})
  (h:Mem w0 w L)(i:Nat){q:Option Addr}{n c:Nat}{xs:List Value}(hi:L[i]? =some (ownI w0.heap.size e sz q n c xs)) (hs:a.eval s= .slice q n c)
  {p:Option Addr} {m d:Nat} (news:List Value) (hx:a.eval x= .slice p m d) (hr:Sl w p m d sz news) (h1: ∀u∈news,u.oneCell'=true) (hn:n+m≤1099511627776)
  (hk: ∀q' c' w',Mem w0 w' (L.set i (ownI w0.heap.size e sz q' (n+m) c' (xs++news)))→K (a.put o.dst (.slice q' (n+m) c')) w'):o.wp P a w K Q:=by
 obtain⟨q',c',w',hrun,h2⟩:=run_appM (P:=P) (ty:=o.type) w E h hi p m d news hr h1 hn
 unfold Oper.wp execOp
 simp only[ho,resolve,invoke,builtin,Sem.run_bind,Sem.run_pure,Result.andThen_ok,List.map_toArray,List.map_cons,List.map_nil,hs,hx,hrun]
 exact hk q' c' w' h2
theorem wpList_appM {t e:TypeId}{sz:Nat}(E:ElT P t e sz)(hgd:o.guard=none)(s x:Operand)
  (ho:o.op= .call {callee:= .builtin .append,args:=#[s,x],argTypes:=#[t,t]})
  (h:Mem w0 w L)(i:Nat){q:Option Addr}{n c:Nat}{xs:List Value}(hi:L[i]? =some (ownI w0.heap.size e sz q n c xs)) (hs:a.eval s= .slice q n c)
  {p:Option Addr} {m d:Nat} (news:List Value) (hx:a.eval x= .slice p m d) (hr:Sl w p m d sz news) (h1: ∀u∈news,u.oneCell'=true) (hn:n+m≤1099511627776)
  (hk: ∀q' c' w',Mem w0 w' (L.set i (ownI w0.heap.size e sz q' (n+m) c' (xs++news)))→wpList P ops Q rest (a.put o.dst (.slice q' (n+m) c')) w'):wpList P ops Q (o::rest) a w:=
 wpList_plain hgd fun _ hK=>wp_appM E s x ho h i hi hs news hx hr h1 hn fun q' c' w' h2=>hK _ _ (hk q' c' w' h2)
theorem step_appM {K:Act→World→Prop}{E0:Prop}{t e:TypeId}{sz:Nat}(E:ElT P t e sz)(hgd:o.guard=none)(s x:Operand)
  (ho:o.op= .call {callee:= .builtin .append,args:=#[s,x],argTypes:=#[t,t]})
  (h:Mem w0 w L)(i:Nat){q:Option Addr}{n c:Nat}{xs:List Value}(hi:L[i]? =some (ownI w0.heap.size e sz q n c xs)) (hs:a.eval s= .slice q n c)
  {p:Option Addr} {m d:Nat} (news:List Value) (hx:a.eval x= .slice p m d) (hr:Sl w p m d sz news) (h1: ∀u∈news,u.oneCell'=true) (hn:n+m≤1099511627776)
  (hk: ∀q' c' w',Mem w0 w' (L.set i (ownI w0.heap.size e sz q' (n+m) c' (xs++news)))→K (a.put o.dst (.slice q' (n+m) c')) w'):
  if Region.wanted o (yielded ops a.tmps)=true then Oper.wp P o a w K Q else E0:=by
 have hw:Region.wanted o (yielded ops a.tmps)=true:=by simp[Region.wanted,hgd]
 rw[if_pos hw]
 exact wp_appM E s x ho h i hi hs news hx hr h1 hn hk
end
theorem sl_lit (w:World)(cs:Array Value)(t:TypeId)(n sz g:Nat)(hg:w.heap.size=g)(h:cs.size=n*sz)(hn:n≤maxLen):Sl (w.alloc (.cells cs t)) (some ⟨g,0,none⟩) n n sz cs.toList:=by
 subst hg
 exact⟨by simpa using h,Nat.le_refl _,hn,fun _=>⟨w.heap.size,0,rfl,by simp,fun k hk=>by rw[Nat.zero_add,(Blk.new w t cs).cell k];simp⟩⟩
end Go.Proofs.YtndcnflchkfaeaaDoor

