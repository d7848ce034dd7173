/-
  Texts of this proof, packed (@packed).
-/
import Derived.Deep.AppendLies
import Derived.Deep.RegionLaw
import Derived.Maps.AppendAt
import Derived.RegionTactic
import Derived.Sort.OwnSortedInts
import Derived.Test.YtbgkcehffiogcabGreatDoorXS
import Derived.Test.YtbgkcehffiogcabGreatDoorX2
namespace Go.Proofs.YtbgkcehffiogcabGreatDoor
open Go.RowKit
set_option linter.unusedSimpArgs false
set_option linter.unusedVariables false
set_option maxHeartbeats 8000000
set_option maxRecDepth 100000
abbrev TI:TypeId:=3
def eO (aA aB:Int)(xs:List Int)(w:World)(e:Ending)(w':World):Prop:=
 ∃p cap,e= .returned (aH aA aB p xs.length cap)∧w'.ownsRow w.heap.size TI 1 (.slice p xs.length cap) xs.length (ivs xs)∧Ext w w'
theorem aM1 (n:Nat):(madeCells (I 0).cells (n*1)).toList=ivs (List.replicate n 0):=by apply List.ext_getElem<;>simp[madeCells,Value.cells,Nat.mod_one]
theorem Blk.three {w:World}{g:Nat}{t:TypeId}{a b c:Value}(h:Blk w g t #[a,b,c]):w.cell? ⟨g,0,none⟩=some a∧w.cell? ⟨g,1,none⟩=some b∧w.cell? ⟨g,2,none⟩=some c∧w.frozen? ⟨g,0,none⟩=false∧w.frozen? ⟨g,1,none⟩=false∧w.frozen? ⟨g,2,none⟩=false:=
 ⟨h.cell 0,h.cell 1,h.cell 2,h.frozen 0,h.frozen 1,h.frozen 2⟩
theorem zR {aA aB:Int}{p:OA}{n a:Nat}{xs:List Int}{w w':World}(hn:xs.length=n)(ho:w'.ownsRow w TI 1 (.slice p n a) n (ivs xs))(hx:Ext w w'):eO aA aB xs w (.returned (aH aA aB p n a)) w':=by subst hn;exact⟨p,a,rfl,ho,hx⟩
section
section
variable {P:Program} (w:World)
theorem aBj {t e ty:TypeId}{sz:Nat}(E:ElT P t e sz)(base:Nat)(v:Value)(n:Nat)(xs:List Value)(d:w.ownsRow base e sz v n xs)(p:OA)(m c:Nat)(news:List Value)(hs:Sl w p m c sz news)
  (h1: ∀u∈news,u.oneCell'=true)(hn:n+m≤1099511627776)(l:base≤w.heap.size):
  ∃p' cap' w',(Builtin.append_ #[t,t] ty #[v,.slice p m c]).run P w= .ok (.slice p' (n+m) cap') w'∧w'.ownsRow base e sz (.slice p' (n+m) cap') (n+m) (xs++news)∧w.grownBy w' v.ownBlock:=by
 obtain⟨i,z,hi,hz,x,s,y⟩:=E.info;cases p with
 |none=>
  have hm:m=0:=by
   rcases Nat.eq_zero_or_pos m with h0|h0
   ·exact h0
   obtain⟨b,aa,h,_⟩:=hs.rd h0;cases h
  subst hm;have a:news= []:=aTr (by simpa using hs.len);subst a;obtain⟨q,k,rfl⟩:=qW d;refine⟨q,k,w,?_,by simpa using d,aUh w _⟩;rcases d.2 with⟨h2,h3⟩|⟨g,cap',cur,h2,_,_,hnc,_⟩
  ·injection h2 with e1 e2 e3;subst e1 e2 e3;simp[Builtin.append_,run_underlying E.ht,sizeOf,typeInfo,hi,Builtin.lenOf,Builtin.firstCells]
  injection h2 with e1 e2 e3;subst e1 e3;simp[Builtin.append_,run_underlying E.ht,sizeOf,typeInfo,hi,Builtin.lenOf,Builtin.firstCells,hnc,storeCells]
 |some ad=>
  have f: ∀j u,news[j]? =some u→w.cell? (ad.add j)=some u:=by
   intro j u hu;rcases Nat.eq_zero_or_pos m with h0|h0
   ·subst h0;have a:news= []:=aTr (by simpa using hs.len);subst a;simp at hu
   obtain⟨b,aa,h,_,hc⟩:=hs.rd h0;injection h with h;subst h;rw[oZ,hc j (by rw[←hs.len];exact(aT6.1 hu).1)];exact hu
  have r:(n+m)*i.bytes≤140737488355328:=by have:(n+m)*i.bytes≤(n+m)*64:=Nat.mul_le_mul_left _ s;omega
  obtain⟨v',w',o,h2,h3,_,_⟩:=run_append_own_at (P:=P) w base t ty e i z sz i.bytes E.ht hi hz x rfl y E.pos v n xs d ad m c news hs.len f h1 (by unfold maxLen;omega) r l;obtain⟨q,k,rfl⟩:=qW h2;exact⟨q,k,w',o,h2,h3⟩
theorem aDb {o:Oper}{a:Act}{K:Act→World→Prop}{Q:Exit→Act→World→Prop}{t e:TypeId}{sz:Nat}(E:ElT P t e sz)(s x:Operand)
  (ho:o.op= .call {callee:= .builtin .append,args:=#[s,x],argTypes:=#[t,t]})
  (base:Nat)(v:Value)(n:Nat)(xs:List Value)(hs:a.eval s=v)(d:w.ownsRow base e sz v n xs)
  (p:OA)(m c:Nat)(news:List Value)(hx:a.eval x= .slice p m c)(hr:Sl w p m c sz news)(h1: ∀u∈news,u.oneCell'=true)
  (hn:n+m≤1099511627776)(b:base≤w.heap.size)
  (h: ∀p' cap' w',w'.ownsRow base e sz (.slice p' (n+m) cap') (n+m) (xs++news)→w.grownBy w' v.ownBlock→K (a.put o.dst (.slice p' (n+m) cap')) w'):o.wp P a w K Q:=by
 obtain⟨p',cap',w',f,h2,h3⟩:=aBj (ty:=o.type) w E base v n xs d p m c news hr h1 hn b;unfold Oper.wp execOp;simp only[ho,resolve,invoke,builtin,Sem.run_bind,Sem.run_pure,Result.andThen_ok,List.map_toArray,aUn,List.map_nil,hs,hx,f];exact h p' cap' w' h2 h3
theorem fO {f:Array Oper}{o:Oper}{a:Act}{K:Act→World→Prop}{Q:Exit→Act→World→Prop}{E0:Prop}{t e:TypeId}{sz:Nat}(E:ElT P t e sz)(g:o.guard=none)(s x:Operand)
  (ho:o.op= .call {callee:= .builtin .append,args:=#[s,x],argTypes:=#[t,t]})
  (base:Nat)(v:Value)(n:Nat)(xs:List Value)(hs:a.eval s=v)(d:w.ownsRow base e sz v n xs)
  (p:OA)(m c:Nat)(news:List Value)(hx:a.eval x= .slice p m c)(hr:Sl w p m c sz news)(h1: ∀u∈news,u.oneCell'=true)
  (hn:n+m≤1099511627776)(b:base≤w.heap.size)
  (h: ∀p' cap' w',w'.ownsRow base e sz (.slice p' (n+m) cap') (n+m) (xs++news)→w.grownBy w' v.ownBlock→K (a.put o.dst (.slice p' (n+m) cap')) w'):
  if Region.wanted o (yielded f a.tmps)=true then Oper.wp P o a w K Q else E0:=by
 have hw:Region.wanted o (yielded f a.tmps)=true:=by simp[Region.wanted,g]
 rw[if_pos hw];exact aDb w E s x ho base v n xs hs d p m c news hx hr h1 hn b h
end
theorem pO (xs:List Int): ∀u∈ivs xs,u.oneCell'=true:=by intro u hu;obtain⟨x,_,rfl⟩:=List.mem_map.1 hu;rfl
end
section
open Go.Proofs.Tryz
def bY (xs:List Int)(w:World)(e:Ending)(w':World):Prop:=
 ∃p cap,e= .returned (.slice p xs.length cap)∧w'.ownsRow w.heap.size TI 1 (.slice p xs.length cap) xs.length (ivs xs)∧Ext w w'
theorem eV {p:OA}{n a:Nat}{xs:List Int}{w w':World}(hn:xs.length=n)(ho:w'.ownsRow w TI 1 (.slice p n a) n (ivs xs))(hx:Ext w w'):bY xs w (.returned (.slice p n a)) w':=by subst hn;exact⟨p,a,rfl,ho,hx⟩
theorem aKg: ∀(xs:List Int) (k:Nat) (x:Int),(∀y∈xs.take k,y<x)→(∀y,xs[k]? =some y→ ¬y<x)→nK x xs=xs.take k++x::xs.drop k:=by
 intro xs;induction xs with
 |nil=>intro k x _ _;simp[nK]
 |cons y ys ih=>
  intro k x h1 h2;cases k with
  |zero=>have:=h2 y rfl;simp[nK,this]
  |succ k=>have h3:y<x:=h1 y (by simp);rw[nK,if_pos h3,ih k x (fun z hz=>h1 z (by simp[hz])) (fun z hz=>h2 z (by simpa using hz))];simp
theorem aP1 (x:Int)(xs:List Int):(nK x xs).length=xs.length+1:=(oU x xs).length_eq
theorem aQn {w:World}{b c n a k:Nat}{xs:List Int}(h:Sl w (some ⟨b,c,none⟩) n a 1 (ivs xs))(hk:k≤n):Sl w (some ⟨b,c+k,none⟩) (n-k) (a-k) 1 (ivs (xs.drop k)):=by have hl:=h.ilen;have f:=h.le;have g:=h.mx;refine⟨by simp;omega,by omega,by omega,fun h0=> ?_⟩;obtain⟨b',d,e,hb,hc⟩:=h.rd (by omega);injection e with e;injection e with e1 e2;subst e1 e2;refine⟨_,_,rfl,hb,fun j hj=> ?_⟩;rw[Nat.add_assoc,hc (k+j) (by omega)];simp
theorem aQm (w:World)(p:OA){c:Nat}(hc:c≤maxLen):Sl w p 0 c 1 (ivs []):=⟨by simp,aT8 _,hc,fun h=>absurd h (by omega)⟩
theorem aEb (p:OA)(n m:Nat)(xs:List Int)(x:Int)(w:World)(hn:n≤1000000)(hS:Sl w p n m 1 (ivs xs)):
  U 79 #[.slice p n m,x] w (bY (nK x xs) w):=by
 have hl:=xQ hS.ilen;have ae:=hS.le;have ad:=hS.mx;unfold maxLen at ad;have HS:=xQ hS;clear hS;go_enter func79,ntmps79;go_wp2;go_loopw [5,6] (fun v i wr=> ∃(k:Nat) (q:OA) (c:Nat),k≤n∧i=I k∧v= .slice q k c∧wr.ownsRow w TI 1 (.slice q k c) k (ivs (xs.take k))∧(∀y∈xs.take k,y<x)∧Ext w wr) (fun _ i _=>n-(intOf i).toNat)
 case atStart=>exact⟨0,_,0,aT8 _,rfl,rfl,aUc _ #[] 0 (aT2 _) (by simp[maxLen]) rfl,by simp,by exact .alloc (.refl _) _⟩
 case round=>
  obtain⟨k,q,c,hk,rfl,rfl,r,o,hE⟩:=hrel;have HO:=xQ r;have HL:=xQ o;have ah:=hE.sz;clear r o;by_cases hlt:k<n
  ·obtain⟨b,ai,y,rfl,hx,hb,ab⟩:=(HS.out.ext hE).int_at hlt;have HX:=xQ hx;clear hx;by_cases hy:y<x
   ·have d:Hid (∀z∈xs.take (k+1),z<x):=by
     show∀z∈xs.take (k+1),z<x;rw[aZ HX.out];intro z hz;rcases aTi.1 hz with h|h
     ·exact HL z h
     simp at h;omega
    go_wp2_with (at_builtin;refine cW gJ rfl _ _ rfl w _ _ _ rfl (HO.out.alloc _) _ _ y _ rfl (by simp) (by omega) (by simp;omega) ?_;intro p' aa w1 a g;have j:=xQ a;have f:Ext w w1:=Ext.own (hE.alloc _) (HO.out.alloc _) g (aT2 _);clear a g);go_roundw
    case rel=>exact⟨k+1,p',aa,by omega,by go_num,rfl,by rw[aZ HX.out];exact j.out,d.out,f⟩
    case measure=>simp[intOf];omega
   have d:Hid (nK x xs=xs.take k++x::xs.drop k):=aKg xs k x HL (fun z hz=>by rw[HX.out]at hz;injection hz with hz;subst hz;exact hy);have i1:(0:Int)≤(k:Int):=by omega
   have i2:(k:Int)≤(n:Int):=by omega
   have ag: ¬m=k:=by omega
   go_wp2
   go_region_law ((first
    |(refine fO _ gJ (by rfl) _ _ (by rfl) w _ k (ivs (xs.take k)) (by rfl) (by first|exact HO.out|exact HO.out.alloc _|exact(HO.out.alloc _).drew|exact HO.out.drew.alloc _|exact HO.out.drew) _ 1 1 [iv x] (by rfl) (by first|exact Sl.new wr #[iv x] _ 1 rfl (by decide)|exact(Sl.new wr #[iv x] _ 1 rfl (by decide)).ext (Ext.drew (Ext.refl _))|exact Sl.new wr.drew #[iv x] _ 1 rfl (by decide)) (pO [x]) (by omega) (by simp;omega) ?_
      intro p1 c1 w1 a g;have f:Ext w w1:=Ext.own (by exact .drew (.alloc hE _)) (by first|exact HO.out|exact HO.out.alloc _|exact(HO.out.alloc _).drew|exact HO.out.drew.alloc _|exact HO.out.drew) g (aT2 _);have j:=xQ a;have u:=xQ (HS.out.ext f);have af:=f.sz
      clear a g)
    |(refine fO _ gJ (by rfl) _ _ (by rfl) w _ (k+1) (ivs (xs.take k)++ [iv x]) (by rfl) j _ (n-k) (m-k) (ivs (xs.drop k)) (by rfl) (aQn u (by omega)) (pO _) (by omega) (by omega) ?_
      intro p2 c2 w2 e l;have t:Ext w w2:=Ext.own f j l (aT2 _);have s:=xQ e
      clear e l)))
   all_goals go_wp2
   all_goals go_ret
   all_goals exact eV (by rw[d.out];simp;rw[hl.out];omega) (by rw[d.out];simpa using s.out) t
  obtain rfl:k=n:=by omega
  have d:Hid (nK x xs=xs++ [x]):=by have:=aKg xs k x HL (fun z hz=>by rw[aUi (by rw[hl.out];exact aT2 _)]at hz;cases hz);show _=_;rw[this,aT7 (by rw[hl.out];exact aT2 _),aUf (by rw[hl.out];exact aT2 _)]
  have i1:(0:Int)≤(k:Int):=by omega
  go_wp2
  go_region_law ((first
   |(refine fO _ gJ (by rfl) _ _ (by rfl) w _ k (ivs (xs.take k)) (by rfl) (by first|exact HO.out|exact HO.out.alloc _|exact(HO.out.alloc _).drew|exact HO.out.drew.alloc _|exact HO.out.drew) _ 1 1 [iv x] (by rfl) (by first|exact Sl.new wr #[iv x] _ 1 rfl (by decide)|exact(Sl.new wr #[iv x] _ 1 rfl (by decide)).ext (Ext.drew (Ext.refl _))|exact Sl.new wr.drew #[iv x] _ 1 rfl (by decide)) (pO [x]) (by omega) (by simp;omega) ?_
     intro p1 c1 w1 a g;have f:Ext w w1:=Ext.own (by exact .drew (.alloc hE _)) (by first|exact HO.out|exact HO.out.alloc _|exact(HO.out.alloc _).drew|exact HO.out.drew.alloc _|exact HO.out.drew) g (aT2 _);have j:=xQ a;have u:=xQ (HS.out.ext f);have af:=f.sz
     clear a g)
   |(refine fO _ gJ (by rfl) _ _ (by rfl) w _ (k+1) (ivs (xs.take k)++ [iv x]) (by rfl) j _ 0 _ (ivs []) (by rfl) (aQm _ _ (by unfold maxLen;omega)) (pO _) (by omega) (by omega) ?_
     intro p2 c2 w2 e l;have t:Ext w w2:=Ext.own f j l (aT2 _);have s:=xQ e
     clear e l)))
  all_goals go_wp2
  all_goals go_ret
  all_goals exact eV (by rw[d.out];simp;rw[hl.out]) (by rw[d.out];have:=s.out;rw[aT7 (by rw[hl.out];exact aT2 _)]at this;simpa using this) t
theorem aGi (xs:List Int):(xs.mergeSort fun x y=>decide (x≤y))=gZ xs:=by refine pG (List.mergeSort_perm _ _) ?_;have:=List.pairwise_mergeSort (le:=fun x y:Int=>decide (x≤y)) (fun a b c h1 h2=>by simp at*;omega) (fun a b=>by simp;omega) xs;simpa using this
theorem aO7 (B:Nat)(p:OA)(n a:Nat)(xs:List Int)(w:World)(h:w.ownsRow B TI 1 (.slice p n a) n (ivs xs))(hn:n≤1000000):
  U 81 #[.slice p n a] w fun e w'=>e= .returned (.tuple #[])∧w'.ownsRow B TI 1 (.slice p n a) n (ivs (gZ xs))∧w.grownBy w' (Value.slice p n a).ownBlock:=by
 have hl:xs.length=n:=by have:=h.1;simpa using this
 subst hl;by_cases h0:xs.length=0
 ·obtain rfl:xs= []:=aTr h0;refine(Tryz.slices_Sort_int_none p a w).mono ?_;rintro e w' ⟨rfl,rfl⟩;exact⟨rfl,h,aUh _ _⟩
 rcases h.2 with⟨h1,h2⟩|⟨g,cap',cur,h1,hb,hg,hnc,hm,hs,ht⟩
 ·exact absurd h2 h0
 injection h1 with e1 e2 e3;subst e1 e3;refine(Tryz.slices_Sort_int g 0 a xs w (Go.holds_of_blockI hg (by simpa using ht)) (aU9.1 hg).1 (by omega)).mono ?_;rintro e w' ⟨rfl,k,os,rfl⟩;rw[aGi];exact⟨rfl,Go.ownsRow_sortedI (aC7 xs) hb hg hnc hm hs,Go.grownBy_sortedI _⟩
theorem aP {w w':World}{B n sz:Nat}{e:TypeId}{v:Value}{xs:List Value}(ho:w.ownsRow B e sz v n xs)(h:Ext w w'):w'.ownsRow B e sz v n xs:=
 ho.kept (row:=none) ⟨h.os,h.tape,h.output,h.size,fun k hk _=>h.block k hk⟩ (by cases v.ownBlock<;>simp)
theorem bD {w:World}{B B' n sz:Nat}{e:TypeId}{v:Value}{xs:List Value}(h:w.ownsRow B e sz v n xs)(hb:B'≤B):w.ownsRow B' e sz v n xs:=by
 refine⟨h.1,?_⟩;rcases h.2 with h2|⟨g,a,b,e1,c,r⟩
 ·exact .inl h2
 exact .inr ⟨g,a,b,e1,aTb hb c,r⟩
theorem aIf (aA aB:Int)(p:OA)(n a:Nat)(w:World)(HV:xB 41 #[aH aA aB p n a] w false):
  U 40 #[aH aA aB p n a] w (bY [] w):=by
 go_enter func40,ntmps40;go_wp2_with fail;refine Ω (HV _ (by exact .alloc (.alloc (.refl _) _) _)) fun w1 h1=>?_
 go_wp2;go_ret;have ho:((w.alloc (.cells #[aA,aB,.slice p n a] 24)).alloc (.cells #[] TI)).ownsRow w TI 1 (.slice (some ⟨(w.alloc (.cells #[aA,aB,.slice p n a] 24)).heap.size,0,none⟩) 0 0) 0 []:=aUc _ #[] 0 (by simp) (by simp[maxLen]) rfl;exact eV rfl (by simpa using aP ho h1) (by exact .trans (.alloc (.alloc (.refl _) _) _) h1)
theorem aLh (aA aB:Int)(p:OA)(n d:Nat)(xs:List Int)(w:World)(hn:n≤12)(HS:Hid (Sl w p n d 1 (ivs xs)))(HV:xB 41 #[aH aA aB p n d] w true):
  U 40 #[aH aA aB p n d] w (bY (iL xs) w):=by
 have hl:=xQ HS.out.ilen;go_enter func40,ntmps40;go_wp2_with fail;refine Ω (HV _ (by exact .alloc (.alloc (.refl _) _) _)) fun w1 h1=>?_
 have ho:((w.alloc (.cells #[aA,aB,.slice p n d] 24)).alloc (.cells #[] TI)).ownsRow w TI 1 (.slice (some ⟨(w.alloc (.cells #[aA,aB,.slice p n d] 24)).heap.size,0,none⟩) 0 0) 0 []:=aUc _ #[] 0 (by simp) (by simp[maxLen]) rfl;have l:=xQ (aP ho h1);have t:(w:Nat)<w1:=aT1 (by first|(simp;omega)|simp) h1.sz;have eb:w1.cell? ⟨w,2,none⟩=some (.slice p n d):=by rw[h1.cells.1 _ _ (by simp;omega)];simp
 have s:Ext w w1:=by exact .trans (.alloc (.alloc (.refl _) _) _) h1
 clear ho;go_wp2;go_loopw [3,4] (fun v i wr=> ∃(k:Nat) (q:OA) (m c:Nat),k≤n∧i=I k∧v= .slice q m c∧m≤k∧wr.ownsRow w TI 1 (.slice q m c) m (ivs (gZ (eG (xs.take k))))∧Ext w1 wr) (fun _ i _=>n-(intOf i).toNat)
 case atStart=>exact⟨0,_,0,0,aT8 _,rfl,rfl,aT2 _,by simpa[eG,gZ]using l.out,Ext.refl _⟩
 case round=>
  obtain⟨k,q,m,c,hk,rfl,rfl,u,h,hE⟩:=hrel;have HO:=xQ h;have j:=s.trans hE;have ec:wr.cell? ⟨w,2,none⟩=some (.slice p n d):=(hE.cells.1 _ _ t).trans eb;clear h;by_cases hlt:k<n
  ·obtain⟨b,y,x,rfl,hx,hb,r⟩:=(HS.out.ext j).int_at hlt;have HX:=xQ hx;clear hx;by_cases hx0:0<x
   ·have a:Hid (gZ (eG (xs.take (k+1)))=nK x (gZ (eG (xs.take k)))):=by
     show _=_;rw[aZ HX.out,nT,if_pos hx0,zM]
    have HC:Hid (∀w',Ext wr w'→U 79 #[.slice q m c,x] w' (bY (nK x (gZ (eG (xs.take k)))) w')):=fun w' hx=>aEb q m c _ x w' (by omega) ((Sl.own HO.out).ext hx)
    have g:(nK x (gZ (eG (xs.take k)))).length=m+1:=by rw[aP1];have:=HO.out.1;simp at this;omega
    have f:=xQ g;clear g;go_wp2_with fail;refine(HC _ (by exact .refl _)).mono ?_;rintro e w2 ⟨q2,c2,rfl,h2,h3⟩;have o:Hid (w2.ownsRow w TI 1 (.slice q2 (m+1) c2) (m+1) (ivs (gZ (eG (xs.take (k+1)))))):=by rw[a.out,←f.out];exact bD h2 j.sz
    rw[f.out];clear h2;go_wp2;go_roundw
    case rel=>exact⟨k+1,q2,m+1,c2,by omega,by go_num,rfl,by omega,o.out,by exact .trans hE h3⟩
    case measure=>simp[intOf];omega
   have a:Hid (gZ (eG (xs.take (k+1)))=gZ (eG (xs.take k))):=by show _=_;rw[aZ HX.out,nT,if_neg hx0,aTy]
   go_wp2;go_roundw
   case rel=>exact⟨k+1,q,m,c,by omega,by go_num,rfl,by omega,by rw[a.out];exact HO.out,hE⟩
   case measure=>simp[intOf];omega
  have a:Hid (gZ (eG (xs.take k))=iL xs):=by show _=_;rw[aT7 (by rw[hl.out];omega)];rfl
  go_wp2;go_ret;exact eV (by rw[←a.out];have:=HO.out.1;simpa using this) (by rw[←a.out];exact HO.out) j
theorem aJj (aA aB:Int)(p:OA)(n a:Nat)(w:World)(HV:xB 45 #[aH aA aB p n a] w false):
  U 47 #[aH aA aB p n a] w (bY [] w):=by
 go_enter func47,ntmps47;go_wp2_with fail;refine Ω (HV _ (by exact .alloc (.refl _) _)) fun w1 h1=>?_
 go_wp2;go_ret;exact eV rfl (aTl _ _ _ _) (by exact .trans (.alloc (.refl _) _) h1)
theorem aMn (aA aB:Int)(p:OA)(n f:Nat)(xs:List Int)(w:World)(hn:n≤12)(HS:Hid (Sl w p n f 1 (ivs xs)))(HV:xB 45 #[aH aA aB p n f] w true):
  U 47 #[aH aA aB p n f] w (bY (iL xs) w):=by
 have hl:=xQ HS.out.ilen;go_enter func47,ntmps47;go_wp2_with fail;refine Ω (HV _ (by exact .alloc (.refl _) _)) fun w1 h1=>?_
 have eb:w1.cell? ⟨w,2,none⟩=some (.slice p n f):=by rw[h1.cells.1 _ _ (by simp)];simp
 have h:Ext w w1:=by exact .trans (.alloc (.refl _) _) h1
 go_wp2;go_loopw [3,12] (fun v i wr=> ∃(k:Nat) (q:OA) (m c:Nat),k≤n∧i=I k∧v= .slice q m c∧m≤k∧wr.ownsRow w1 TI 1 (.slice q m c) m (ivs (eG (xs.take k)))∧Ext w1 wr) (fun _ i _=>n-(intOf i).toNat)
 case atStart=>exact⟨0,none,0,0,aT8 _,rfl,rfl,aT2 _,aTl _ _ _ _,Ext.refl _⟩
 case round=>
  obtain⟨k,q,m,c,hk,rfl,rfl,aa,g,hE⟩:=hrel;have HO:=xQ g;have o:=h.trans hE;have ab:=hE.sz;have z:=h.sz;clear g;by_cases hlt:k<n
  ·obtain⟨b,ad,x,rfl,hx,hb,y⟩:=(HS.out.ext o).int_at hlt;have HX:=xQ hx;clear hx;by_cases hx0:0<x
   ·have a:Hid (eG (xs.take (k+1))=eG (xs.take k)++ [x]):=by
     show _=_;rw[aZ HX.out,nT,if_pos hx0]
    go_wp2_with (at_builtin;refine cW gJ rfl _ _ rfl w1 _ _ _ rfl (HO.out.alloc _) _ _ x _ rfl (by simp) (by omega) (by simp;omega) ?_;intro p' l w2 d r;have s:=xQ d;have t:Ext w1 w2:=Ext.own (hE.alloc _) (HO.out.alloc _) r (aT2 _);clear d r);go_roundw
    case rel=>exact⟨k+1,p',m+1,l,by omega,by go_num,rfl,by omega,by rw[a.out];exact s.out,t⟩
    case measure=>simp[intOf];omega
   have a:Hid (eG (xs.take (k+1))=eG (xs.take k)):=by show _=_;rw[aZ HX.out,nT,if_neg hx0,aTy]
   go_wp2;go_roundw
   case rel=>exact⟨k+1,q,m,c,by omega,by go_num,rfl,by omega,by rw[a.out];exact HO.out,hE⟩
   case measure=>simp[intOf];omega
  have a:Hid (gZ (eG (xs.take k))=iL xs):=by show _=_;rw[aT7 (by rw[hl.out];omega)];rfl
  go_wp2_with fail;refine(aO7 w1 q m c _ _ HO (by omega)).mono ?_;rintro e w2 ⟨rfl,h2,h3⟩;have u:Ext w w2:=o.own HO h3 (by omega);have j:=xQ h2;clear h2 h3;go_wp2;go_ret;exact eV (by rw[←a.out];have:=j.out.1;simpa using this) (by rw[←a.out];exact bD j h.sz) u
theorem aRw (aA aB:Int)(p:OA)(n a:Nat)(xs:List Int)(w:World)(hS:Sl w p n a 1 (ivs xs)):U 40 #[aH aA aB p n a] w (bY (if aO aA aB xs then iL xs else []) w):=by
 have hl:=hS.ilen;cases h:aO aA aB xs with
 |true=>
  have h2:kU aA aB n=true:=by simp only[aO,aTd]at h;rw[←hl];exact h.1
  rw[if_pos rfl];exact aLh aA aB p n a xs w (cO h2).2.2.2.2.2.1 hS (fun w' hx=>by rw[←h];exact iC aA aB p n a xs w' (hS.ext hx))
 |false=>rw[if_neg (by simp)];exact aIf aA aB p n a w (fun w' hx=>by rw[←h];exact iC aA aB p n a xs w' (hS.ext hx))
theorem aSc (aA aB:Int)(p:OA)(n a:Nat)(xs:List Int)(w:World)(hS:Sl w p n a 1 (ivs xs)):U 47 #[aH aA aB p n a] w (bY (if aO aA aB xs then iL xs else []) w):=by
 have hl:=hS.ilen;cases h:aO aA aB xs with
 |true=>
  have h2:kU aA aB n=true:=by simp only[aO,aTd]at h;rw[←hl];exact h.1
  rw[if_pos rfl];exact aMn aA aB p n a xs w (cO h2).2.2.2.2.2.1 hS (fun w' hx=>by rw[←h];exact gS aA aB p n a xs w' (hS.ext hx))
 |false=>rw[if_neg (by simp)];exact aJj aA aB p n a w (fun w' hx=>by rw[←h];exact gS aA aB p n a xs w' (hS.ext hx))
def iD (f:Nat→Bool):Nat→List Int
 |0=> []
 |k+1=>iD f k++(if f k then [(k:Int)]else [])
def dM (xs:List Int)(k:Nat):Bool:=xs[k]? ==some 0
def tN (xs:List Int):List Int:=iD (dM xs) xs.length
theorem aKf {wr w2:World}{B o n:Nat}{v u:Value}{xs:List Value}{ob:Obj}(ho:wr.ownsRow (B+1) TI 1 v n xs)(hg:(wr.alloc ob).grownBy w2 v.ownBlock)(hb:B<wr.heap.size)(hc:wr.cell? ⟨B,o,none⟩=some u):w2.cell? ⟨B,o,none⟩=some u:=by rw[World.cell?_of_block (w:=wr.alloc ob) (hg.block B (by simp;omega) (fun e=>by have:=ho.lt B e.symm;omega))];rw[((Ext.refl wr).alloc ob).cells.1 B o hb];exact hc
theorem aIe (aA aB:Int)(p:OA)(n a:Nat)(w:World)(HV:xB 41 #[aH aA aB p n a] w false):
  U 211 #[aH aA aB p n a] w (bY [] w):=by
 go_enter func211,ntmps211;go_wp2_with fail;refine Ω (HV _ (by exact .alloc (.alloc (.refl _) _) _)) fun w1 h1=>?_
 have ho:((w.alloc (.cells #[aA,aB,.slice p n a] 24)).alloc (.cells #[] TI)).ownsRow (w.heap.size+1) TI 1 (.slice (some ⟨(w.alloc (.cells #[aA,aB,.slice p n a] 24)).heap.size,0,none⟩) 0 0) 0 []:=aUc _ #[] 0 (by simp) (by simp[maxLen]) rfl;have b:=xQ (aP ho h1);clear ho;go_wp2;go_ret;exact eV (xs:= []) rfl (by simpa using bD b (Nat.le_succ _)) (by exact .trans (.alloc (.alloc (.refl _) _) _) h1)
theorem aLg (aA aB:Int)(p:OA)(n d:Nat)(xs:List Int)(w:World)(hn:n≤12)(HS:Hid (Sl w p n d 1 (ivs xs)))(HV:xB 41 #[aH aA aB p n d] w true):
  U 211 #[aH aA aB p n d] w (bY (tN xs) w):=by
 have hl:=xQ HS.out.ilen;go_enter func211,ntmps211;go_wp2_with fail;refine Ω (HV _ (by exact .alloc (.alloc (.refl _) _) _)) fun w1 h1=>?_
 have ho:((w.alloc (.cells #[aA,aB,.slice p n d] 24)).alloc (.cells #[] TI)).ownsRow (w.heap.size+1) TI 1 (.slice (some ⟨(w.alloc (.cells #[aA,aB,.slice p n d] 24)).heap.size,0,none⟩) 0 0) 0 []:=aUc _ #[] 0 (by simp) (by simp[maxLen]) rfl;have s:=xQ (aP ho h1);clear ho;have ab:(w:Nat)<w1:=aT1 (by first|(simp;omega)|simp) h1.sz;have eb:w1.cell? ⟨w,2,none⟩=some (.slice p n d):=by rw[h1.cells.1 _ _ (by first|(simp;done)|(simp;omega))];simp
 have aa:Ext w w1:=by exact .trans (.alloc (.alloc (.refl _) _) _) h1
 go_wp2;go_loopw [3,4] (fun v i wr=> ∃(k:Nat) (q:OA) (m c:Nat),k≤n∧i=I k∧v= .slice q m c∧m≤k∧wr.ownsRow (w.heap.size+1) TI 1 (.slice q m c) m (ivs (iD (dM xs) k))∧Ext w wr∧wr.cell? ⟨w,2,none⟩=some (.slice p n d)∧w.heap.size<wr.heap.size) (fun _ i _=>n-(intOf i).toNat)
 case atStart=>exact⟨0,_,0,0,aT8 _,rfl,rfl,aT2 _,by simpa[iD]using s.out,aa,eb,ab⟩
 case round=>
  obtain⟨k,q,m,c,hk,rfl,rfl,ad,j,g,ec,l⟩:=hrel;have HO:=xQ j;clear j;by_cases hlt:k<n
  ·obtain⟨b,ae,x,rfl,hx,hb,z⟩:=(HS.out.ext g).int_at hlt;have HX:=xQ hx;clear hx;by_cases hx0:x=0
   ·have t0:(x==0)=true:=by simp[hx0]
    have a:Hid (iD (dM xs) (k+1)=iD (dM xs) k++ [(k:Int)]):=by show _=_;rw[iD,if_pos (by unfold dM;rw[HX.out,hx0];rfl)]
    clear hx0;go_wp2_with (at_builtin;refine cW gJ rfl _ _ rfl (w.heap.size+1) _ _ _ rfl (HO.out.alloc _) _ _ (k:Int) _ rfl (by simp) (by omega) (by simp;omega) ?_;intro p' o w2 f h;have t:=xQ f;have y:Ext w w2:=Ext.own (g.alloc _) (HO.out.alloc _) h (by omega);have u:=aKf HO h l ec;have r:(w:Nat)<w2:=aT1 l (by have:=h.size;simp at this;omega);clear f h);go_roundw
    case rel=>exact⟨k+1,p',m+1,o,by omega,by go_num,rfl,by omega,by rw[a.out];exact t.out,y,u,r⟩
    case measure=>simp[intOf];omega
   have t0:(x==0)=false:=by simp[hx0]
   have a:Hid (iD (dM xs) (k+1)=iD (dM xs) k):=by show _=_;rw[iD,if_neg (by unfold dM;rw[HX.out];simp[hx0]),aTy]
   clear hx0;go_wp2;go_roundw
   case rel=>exact⟨k+1,q,m,c,by omega,by go_num,rfl,by omega,by rw[a.out];exact HO.out,g,ec,l⟩
   case measure=>simp[intOf];omega
  have a:Hid (iD (dM xs) k=tN xs):=by show _=_;unfold tN;rw[hl.out,show k=n by omega]
  go_wp2;go_ret;exact eV (by rw[←a.out];have:=HO.out.1;simpa using this) (by rw[←a.out];exact bD HO (Nat.le_succ _)) g
theorem aNy (aA aB:Int)(p:OA)(n a:Nat)(xs:List Int)(w:World)(hS:Sl w p n a 1 (ivs xs)):U 211 #[aH aA aB p n a] w (bY (if aO aA aB xs then tN xs else []) w):=by
 have hl:=hS.ilen;cases h:aO aA aB xs with
 |true=>
  have hb:n≤12:=by unfold aO at h;rw[aTd]at h;have:=cO h.1;omega
  simpa using aLg aA aB p n a xs w hb hS (fun w' hx=>by have:=iC aA aB p n a xs w' (hS.ext hx);rwa[h]at this)
 |false=>simpa using aIe aA aB p n a w (fun w' hx=>by have:=iC aA aB p n a xs w' (hS.ext hx);rwa[h]at this)
set_option maxRecDepth 100000 in set_option maxHeartbeats 1000000 in
theorem aJi (aA aB:Int)(p:OA)(n a:Nat)(w:World)(HV:xB 45 #[aH aA aB p n a] w false):
  U 199 #[aH aA aB p n a] w (bY [] w):=by
 go_enter func199,ntmps199;go_wp2_with fail;refine Ω (HV _ (by exact .alloc (.refl _) _)) fun w1 h1=>?_
 go_wp2;go_ret;exact eV (xs:= []) rfl (aTl _ _ _ _) (by exact .trans (.alloc (.refl _) _) h1)
set_option maxRecDepth 100000 in set_option maxHeartbeats 1000000 in
theorem aMm (aA aB:Int)(p:OA)(n d:Nat)(xs:List Int)(w:World)(hn:n≤12)(HS:Hid (Sl w p n d 1 (ivs xs)))(HV:xB 45 #[aH aA aB p n d] w true):
  U 199 #[aH aA aB p n d] w (bY (tN xs) w):=by
 have hl:=xQ HS.out.ilen;go_enter func199,ntmps199;go_wp2_with fail;refine Ω (HV _ (by exact .alloc (.refl _) _)) fun w1 h1=>?_
 have aa:(w:Nat)<w1:=aT1 (by first|(simp;omega)|simp) h1.sz;have eb:w1.cell? ⟨w,2,none⟩=some (.slice p n d):=by rw[h1.cells.1 _ _ (by first|(simp;done)|(simp;omega))];simp
 have z:Ext w w1:=by exact .trans (.alloc (.refl _) _) h1
 go_wp2;go_loopw [3,12] (fun v i wr=> ∃(k:Nat) (q:OA) (m c:Nat),k≤n∧i=I k∧v= .slice q m c∧m≤k∧wr.ownsRow (w.heap.size+1) TI 1 (.slice q m c) m (ivs (iD (dM xs) k))∧Ext w wr∧wr.cell? ⟨w,2,none⟩=some (.slice p n d)∧w.heap.size<wr.heap.size) (fun _ i _=>n-(intOf i).toNat)
 case atStart=>exact⟨0,_,0,0,aT8 _,rfl,rfl,aT2 _,aTl _ _ _ _,z,eb,aa⟩
 case round=>
  obtain⟨k,q,m,c,hk,rfl,rfl,ab,j,g,ec,l⟩:=hrel;have HO:=xQ j;clear j;by_cases hlt:k<n
  ·obtain⟨b,ad,x,rfl,hx,hb,y⟩:=(HS.out.ext g).int_at hlt;have HX:=xQ hx;clear hx;by_cases hx0:x=0
   ·have t0:(x==0)=true:=by simp[hx0]
    have a:Hid (iD (dM xs) (k+1)=iD (dM xs) k++ [(k:Int)]):=by show _=_;rw[iD,if_pos (by unfold dM;rw[HX.out,hx0];rfl)]
    clear hx0;go_wp2_with (at_builtin;refine cW gJ rfl _ _ rfl (w.heap.size+1) _ _ _ rfl (HO.out.alloc _) _ _ (k:Int) _ rfl (by simp) (by omega) (by simp;omega) ?_;intro p' o w2 f h;have s:=xQ f;have u:Ext w w2:=Ext.own (g.alloc _) (HO.out.alloc _) h (by omega);have t:=aKf HO h l ec;have r:(w:Nat)<w2:=aT1 l (by have:=h.size;simp at this;omega);clear f h);go_roundw
    case rel=>exact⟨k+1,p',m+1,o,by omega,by go_num,rfl,by omega,by rw[a.out];exact s.out,u,t,r⟩
    case measure=>simp[intOf];omega
   have t0:(x==0)=false:=by simp[hx0]
   have a:Hid (iD (dM xs) (k+1)=iD (dM xs) k):=by show _=_;rw[iD,if_neg (by unfold dM;rw[HX.out];simp[hx0]),aTy]
   clear hx0;go_wp2;go_roundw
   case rel=>exact⟨k+1,q,m,c,by omega,by go_num,rfl,by omega,by rw[a.out];exact HO.out,g,ec,l⟩
   case measure=>simp[intOf];omega
  have a:Hid (iD (dM xs) k=tN xs):=by show _=_;unfold tN;rw[hl.out,show k=n by omega]
  go_wp2;go_ret;exact eV (by rw[←a.out];have:=HO.out.1;simpa using this) (by rw[←a.out];exact bD HO (Nat.le_succ _)) g
theorem aSb (aA aB:Int)(p:OA)(n a:Nat)(xs:List Int)(w:World)(hS:Sl w p n a 1 (ivs xs)):U 199 #[aH aA aB p n a] w (bY (if aO aA aB xs then tN xs else []) w):=by
 have hl:=hS.ilen;cases h:aO aA aB xs with
 |true=>
  have hb:n≤12:=by unfold aO at h;rw[aTd]at h;have:=cO h.1;omega
  simpa using aMm aA aB p n a xs w hb hS (fun w' hx=>by have:=gS aA aB p n a xs w' (hS.ext hx);rwa[h]at this)
 |false=>simpa using aJi aA aB p n a w (fun w' hx=>by have:=gS aA aB p n a xs w' (hS.ext hx);rwa[h]at this)
end
end Go.Proofs.YtbgkcehffiogcabGreatDoor
