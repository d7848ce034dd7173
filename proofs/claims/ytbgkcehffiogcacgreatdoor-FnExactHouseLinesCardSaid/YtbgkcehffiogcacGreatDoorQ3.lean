/-
  Texts of this proof, packed (@packed).
-/
import Derived.Deep.AppendLies
import Derived.Deep.RegionLaw
import Derived.Maps.AppendAt
import Derived.RegionTactic
import Derived.Sort.OwnSortedInts
import Derived.Test.YtbgkcehffiogcacGreatDoorQS
import Derived.Test.YtbgkcehffiogcacGreatDoorQ2
namespace Go.Proofs.YtbgkcehffiogcacGreatDoor
open Go.RowKit
set_option linter.unusedSimpArgs false
set_option linter.unusedVariables false
set_option maxHeartbeats 8000000
set_option maxRecDepth 100000
section
section
variable {P:Program} (w:World)
theorem zB {t e ty:TypeId}{sz:Nat}(E:ElT P t e sz)(base:Nat)(v:Value)(n:Nat)(xs:List Value)(d:w.ownsRow base e sz v n xs)(p:OA)(m c:Nat)(news:List Value)(hs:Sl w p m c sz news)
  (h1: ∀u∈news,u.oneCell'=true)(hn:n+m≤1099511627776)(l:base≤w.heap.size):
  ∃p' cap' w',(Builtin.append_ #[t,t] ty #[v,.slice p m c]).run P w= .ok (.slice p' (n+m) cap') w'∧w'.ownsRow base e sz (.slice p' (n+m) cap') (n+m) (xs++news)∧w.grownBy w' v.ownBlock:=by
 obtain⟨i,z,hi,hz,x,s,y⟩:=E.info;cases p with
 |none=>
  have hm:m=0:=by
   rcases Nat.eq_zero_or_pos m with h0|h0
   ·exact h0
   obtain⟨b,aa,h,_⟩:=hs.rd h0;cases h
  subst hm;have a:news= []:=aSb (by simpa using hs.len);subst a;obtain⟨q,k,rfl⟩:=oZ d;refine⟨q,k,w,?_,by simpa using d,aSv w _⟩;rcases d.2 with⟨h2,h3⟩|⟨g,cap',cur,h2,_,_,hnc,_⟩
  ·injection h2 with e1 e2 e3;subst e1 e2 e3;simp[Builtin.append_,run_underlying E.ht,sizeOf,typeInfo,hi,Builtin.lenOf,Builtin.firstCells]
  injection h2 with e1 e2 e3;subst e1 e3;simp[Builtin.append_,run_underlying E.ht,sizeOf,typeInfo,hi,Builtin.lenOf,Builtin.firstCells,hnc,storeCells]
 |some ad=>
  have f: ∀j u,news[j]? =some u→w.cell? (ad.add j)=some u:=by
   intro j u hu;rcases Nat.eq_zero_or_pos m with h0|h0
   ·subst h0;have a:news= []:=aSb (by simpa using hs.len);subst a;simp at hu
   obtain⟨b,aa,h,_,hc⟩:=hs.rd h0;injection h with h;subst h;rw[mH,hc j (by rw[←hs.len];exact(aRt.1 hu).1)];exact hu
  have r:(n+m)*i.bytes≤140737488355328:=by have:(n+m)*i.bytes≤(n+m)*64:=Nat.mul_le_mul_left _ s;omega
  obtain⟨v',w',o,h2,h3,_,_⟩:=run_append_own_at (P:=P) w base t ty e i z sz i.bytes E.ht hi hz x rfl y E.pos v n xs d ad m c news hs.len f h1 (by unfold maxLen;omega) r l;obtain⟨q,k,rfl⟩:=oZ h2;exact⟨q,k,w',o,h2,h3⟩
theorem aAz {o:Oper}{a:Act}{K:Act→World→Prop}{Q:Exit→Act→World→Prop}{t e:TypeId}{sz:Nat}(E:ElT P t e sz)(s x:Operand)
  (ho:o.op= .call {callee:= .builtin .append,args:=#[s,x],argTypes:=#[t,t]})
  (base:Nat)(v:Value)(n:Nat)(xs:List Value)(hs:a.eval s=v)(d:w.ownsRow base e sz v n xs)
  (p:OA)(m c:Nat)(news:List Value)(hx:a.eval x= .slice p m c)(hr:Sl w p m c sz news)(h1: ∀u∈news,u.oneCell'=true)
  (hn:n+m≤1099511627776)(b:base≤w.heap.size)
  (h: ∀p' cap' w',w'.ownsRow base e sz (.slice p' (n+m) cap') (n+m) (xs++news)→w.grownBy w' v.ownBlock→K (a.put o.dst (.slice p' (n+m) cap')) w'):o.wp P a w K Q:=by
 obtain⟨p',cap',w',f,h2,h3⟩:=zB (ty:=o.type) w E base v n xs d p m c news hr h1 hn b;unfold Oper.wp execOp;simp only[ho,resolve,invoke,builtin,Sem.run_bind,Sem.run_pure,Result.andThen_ok,List.map_toArray,aTn,List.map_nil,hs,hx,f];exact h p' cap' w' h2 h3
theorem jP {f:Array Oper}{o:Oper}{a:Act}{K:Act→World→Prop}{Q:Exit→Act→World→Prop}{E0:Prop}{t e:TypeId}{sz:Nat}(E:ElT P t e sz)(g:o.guard=none)(s x:Operand)
  (ho:o.op= .call {callee:= .builtin .append,args:=#[s,x],argTypes:=#[t,t]})
  (base:Nat)(v:Value)(n:Nat)(xs:List Value)(hs:a.eval s=v)(d:w.ownsRow base e sz v n xs)
  (p:OA)(m c:Nat)(news:List Value)(hx:a.eval x= .slice p m c)(hr:Sl w p m c sz news)(h1: ∀u∈news,u.oneCell'=true)
  (hn:n+m≤1099511627776)(b:base≤w.heap.size)
  (h: ∀p' cap' w',w'.ownsRow base e sz (.slice p' (n+m) cap') (n+m) (xs++news)→w.grownBy w' v.ownBlock→K (a.put o.dst (.slice p' (n+m) cap')) w'):
  if Region.wanted o (yielded f a.tmps)=true then Oper.wp P o a w K Q else E0:=by
 have hw:Region.wanted o (yielded f a.tmps)=true:=by simp[Region.wanted,g]
 rw[if_pos hw];exact aAz w E s x ho base v n xs hs d p m c news hx hr h1 hn b h
end
theorem qM (xs:List Int): ∀u∈ivs xs,u.oneCell'=true:=by intro u hu;obtain⟨x,_,rfl⟩:=List.mem_map.1 hu;rfl
end
section
open Go.Proofs.Tryz
def bA (xs:List Int)(w:World)(e:Ending)(w':World):Prop:=
 ∃p cap,e= .returned (.slice p xs.length cap)∧w'.ownsRow w.heap.size TI 1 (.slice p xs.length cap) xs.length (ivs xs)∧Ext w w'
theorem dG {p:OA}{n cap:Nat}{xs:List Int}{w w':World}(hn:xs.length=n)(ho:w'.ownsRow w TI 1 (.slice p n cap) n (ivs xs))(hx:Ext w w'):bA xs w (.returned (.slice p n cap)) w':=by subst hn;exact⟨p,cap,rfl,ho,hx⟩
theorem aIc: ∀(xs:List Int) (k:Nat) (x:Int),(∀y∈xs.take k,y<x)→(∀y,xs[k]? =some y→ ¬y<x)→mA x xs=xs.take k++x::xs.drop k:=by
 intro xs;induction xs with
 |nil=>intro k x _ _;simp[mA]
 |cons y ys ih=>
  intro k x h1 h2;cases k with
  |zero=>have:=h2 y rfl;simp[mA,this]
  |succ k=>have h3:y<x:=h1 y (by simp);rw[mA,if_pos h3,ih k x (fun z hz=>h1 z (by simp[hz])) (fun z hz=>h2 z (by simpa using hz))];simp
theorem aN2 (x:Int)(xs:List Int):(mA x xs).length=xs.length+1:=(nI x xs).length_eq
theorem aOx {w:World}{b a n cap k:Nat}{xs:List Int}(h:Sl w (some ⟨b,a,none⟩) n cap 1 (ivs xs))(hk:k≤n):Sl w (some ⟨b,a+k,none⟩) (n-k) (cap-k) 1 (ivs (xs.drop k)):=by have hl:=h.ilen;have d:=h.le;have f:=h.mx;refine⟨by simp;omega,by omega,by omega,fun h0=> ?_⟩;obtain⟨b',c,e,hb,hc⟩:=h.rd (by omega);injection e with e;injection e with e1 e2;subst e1 e2;refine⟨_,_,rfl,hb,fun j hj=> ?_⟩;rw[Nat.add_assoc,hc (k+j) (by omega)];simp
theorem aOw (w:World)(p:OA){c:Nat}(hc:c≤maxLen):Sl w p 0 c 1 (ivs []):=⟨by simp,aRv _,hc,fun h=>absurd h (by omega)⟩
theorem aBx (p:OA)(n cap:Nat)(xs:List Int)(x:Int)(w:World)(hn:n≤1000000)(hS:Sl w p n cap 1 (ivs xs)):
  U 98 #[.slice p n cap,x] w (bA (mA x xs) w):=by
 have hl:=xQ hS.ilen;have ad:=hS.le;have ab:=hS.mx;unfold maxLen at ab;have HS:=xQ hS;clear hS;go_enter func98,ntmps98;go_wp2;go_loopw [5,6] (fun v i wr=> ∃(k:Nat) (q:OA) (c:Nat),k≤n∧i=I k∧v= .slice q k c∧wr.ownsRow w TI 1 (.slice q k c) k (ivs (xs.take k))∧(∀y∈xs.take k,y<x)∧Ext w wr) (fun _ i _=>n-(intOf i).toNat)
 case atStart=>exact⟨0,_,0,aRv _,rfl,rfl,aSw _ #[] 0 (aRp _) (by simp[maxLen]) rfl,by simp,by exact .alloc (.refl _) _⟩
 case round=>
  obtain⟨k,q,c,hk,rfl,rfl,o,m,hE⟩:=hrel;have HO:=xQ o;have HL:=xQ m;have ag:=hE.sz;clear o m;by_cases hlt:k<n
  ·obtain⟨b,ah,y,rfl,hx,hb,aa⟩:=(HS.out.ext hE).int_at hlt;have HX:=xQ hx;clear hx;by_cases hy:y<x
   ·have d:Hid (∀z∈xs.take (k+1),z<x):=by
     show∀z∈xs.take (k+1),z<x;rw[aY HX.out];intro z hz;rcases aSa.1 hz with h|h
     ·exact HL z h
     simp at h;omega
    go_wp2_with (at_builtin;refine cM fQ rfl _ _ rfl w _ _ _ rfl (HO.out.alloc _) _ _ y _ rfl (by simp) (by omega) (by simp;omega) ?_;intro p' u w1 a g;have j:=xQ a;have f:Ext w w1:=Ext.own (hE.alloc _) (HO.out.alloc _) g (aRp _);clear a g);go_roundw
    case rel=>exact⟨k+1,p',u,by omega,by go_num,rfl,by rw[aY HX.out];exact j.out,d.out,f⟩
    case measure=>simp[intOf];omega
   have d:Hid (mA x xs=xs.take k++x::xs.drop k):=aIc xs k x HL (fun z hz=>by rw[HX.out]at hz;injection hz with hz;subst hz;exact hy);have i1:(0:Int)≤(k:Int):=by omega
   have i2:(k:Int)≤(n:Int):=by omega
   have af: ¬cap=k:=by omega
   go_wp2
   go_region_law ((first
    |(refine jP _ fQ (by rfl) _ _ (by rfl) w _ k (ivs (xs.take k)) (by rfl) (by first|exact HO.out|exact HO.out.alloc _|exact(HO.out.alloc _).drew|exact HO.out.drew.alloc _|exact HO.out.drew) _ 1 1 [iv x] (by rfl) (by first|exact Sl.new wr #[iv x] _ 1 rfl (by decide)|exact(Sl.new wr #[iv x] _ 1 rfl (by decide)).ext (Ext.drew (Ext.refl _))|exact Sl.new wr.drew #[iv x] _ 1 rfl (by decide)) (qM [x]) (by omega) (by simp;omega) ?_
      intro p1 c1 w1 a g;have f:Ext w w1:=Ext.own (by exact .drew (.alloc hE _)) (by first|exact HO.out|exact HO.out.alloc _|exact(HO.out.alloc _).drew|exact HO.out.drew.alloc _|exact HO.out.drew) g (aRp _);have j:=xQ a;have t:=xQ (HS.out.ext f);have ae:=f.sz
      clear a g)
    |(refine jP _ fQ (by rfl) _ _ (by rfl) w _ (k+1) (ivs (xs.take k)++ [iv x]) (by rfl) j _ (n-k) (cap-k) (ivs (xs.drop k)) (by rfl) (aOx t (by omega)) (qM _) (by omega) (by omega) ?_
      intro p2 c2 w2 e l;have s:Ext w w2:=Ext.own f j l (aRp _);have r:=xQ e
      clear e l)))
   all_goals go_wp2
   all_goals go_ret
   all_goals exact dG (by rw[d.out];simp;rw[hl.out];omega) (by rw[d.out];simpa using r.out) s
  obtain rfl:k=n:=by omega
  have d:Hid (mA x xs=xs++ [x]):=by have:=aIc xs k x HL (fun z hz=>by rw[aSu (by rw[hl.out];exact aRp _)]at hz;cases hz);show _=_;rw[this,aRu (by rw[hl.out];exact aRp _),aT7 (by rw[hl.out];exact aRp _)]
  have i1:(0:Int)≤(k:Int):=by omega
  go_wp2
  go_region_law ((first
   |(refine jP _ fQ (by rfl) _ _ (by rfl) w _ k (ivs (xs.take k)) (by rfl) (by first|exact HO.out|exact HO.out.alloc _|exact(HO.out.alloc _).drew|exact HO.out.drew.alloc _|exact HO.out.drew) _ 1 1 [iv x] (by rfl) (by first|exact Sl.new wr #[iv x] _ 1 rfl (by decide)|exact(Sl.new wr #[iv x] _ 1 rfl (by decide)).ext (Ext.drew (Ext.refl _))|exact Sl.new wr.drew #[iv x] _ 1 rfl (by decide)) (qM [x]) (by omega) (by simp;omega) ?_
     intro p1 c1 w1 a g;have f:Ext w w1:=Ext.own (by exact .drew (.alloc hE _)) (by first|exact HO.out|exact HO.out.alloc _|exact(HO.out.alloc _).drew|exact HO.out.drew.alloc _|exact HO.out.drew) g (aRp _);have j:=xQ a;have t:=xQ (HS.out.ext f);have ae:=f.sz
     clear a g)
   |(refine jP _ fQ (by rfl) _ _ (by rfl) w _ (k+1) (ivs (xs.take k)++ [iv x]) (by rfl) j _ 0 _ (ivs []) (by rfl) (aOw _ _ (by unfold maxLen;omega)) (qM _) (by omega) (by omega) ?_
     intro p2 c2 w2 e l;have s:Ext w w2:=Ext.own f j l (aRp _);have r:=xQ e
     clear e l)))
  all_goals go_wp2
  all_goals go_ret
  all_goals exact dG (by rw[d.out];simp;rw[hl.out]) (by rw[d.out];have:=r.out;rw[aRu (by rw[hl.out];exact aRp _)]at this;simpa using this) s
theorem aDz (xs:List Int):(xs.mergeSort fun x y=>decide (x≤y))=fT xs:=by refine nT (List.mergeSort_perm _ _) ?_;have:=List.pairwise_mergeSort (le:=fun x y:Int=>decide (x≤y)) (fun a b c h1 h2=>by simp at*;omega) (fun a b=>by simp;omega) xs;simpa using this
theorem aMc (B:Nat)(p:OA)(n cap:Nat)(xs:List Int)(w:World)(h:w.ownsRow B TI 1 (.slice p n cap) n (ivs xs))(hn:n≤1000000):
  U 115 #[.slice p n cap] w fun e w'=>e= .returned (.tuple #[])∧w'.ownsRow B TI 1 (.slice p n cap) n (ivs (fT xs))∧w.grownBy w' (Value.slice p n cap).ownBlock:=by
 have hl:xs.length=n:=by have:=h.1;simpa using this
 subst hl;by_cases h0:xs.length=0
 ·obtain rfl:xs= []:=aSb h0;refine(Tryz.slices_Sort_int_none p cap w).mono ?_;rintro e w' ⟨rfl,rfl⟩;exact⟨rfl,h,aSv _ _⟩
 rcases h.2 with⟨h1,h2⟩|⟨g,cap',cur,h1,hb,hg,hnc,hm,hs,ht⟩
 ·exact absurd h2 h0
 injection h1 with e1 e2 e3;subst e1 e3;refine(Tryz.slices_Sort_int g 0 cap xs w (Go.holds_of_blockI hg (by simpa using ht)) (aSz.1 hg).1 (by omega)).mono ?_;rintro e w' ⟨rfl,k,os,rfl⟩;rw[aDz];exact⟨rfl,Go.ownsRow_sortedI (zW xs) hb hg hnc hm hs,Go.grownBy_sortedI _⟩
theorem aZ {w w':World}{B n sz:Nat}{e:TypeId}{v:Value}{xs:List Value}(ho:w.ownsRow B e sz v n xs)(h:Ext w w'):w'.ownsRow B e sz v n xs:=
 ho.kept (row:=none) ⟨h.os,h.tape,h.output,h.size,fun k hk _=>h.block k hk⟩ (by cases v.ownBlock<;>simp)
theorem bJ {w:World}{B B' n sz:Nat}{e:TypeId}{v:Value}{xs:List Value}(h:w.ownsRow B e sz v n xs)(hb:B'≤B):w.ownsRow B' e sz v n xs:=by
 refine⟨h.1,?_⟩;rcases h.2 with h2|⟨g,a,b,e1,c,r⟩
 ·exact .inl h2
 exact .inr ⟨g,a,b,e1,aRz hb c,r⟩
theorem aG3 (aA aB:Int)(p:OA)(n cap:Nat)(w:World)(HV:xB 48 #[aH aA aB p n cap] w false):
  U 47 #[aH aA aB p n cap] w (bA [] w):=by
 go_enter func47,ntmps47;go_wp2_with fail;refine Z (HV _ (by exact .alloc (.alloc (.refl _) _) _)) fun w1 h1=>?_
 go_wp2;go_ret;have ho:((w.alloc (.cells #[aA,aB,.slice p n cap] 31)).alloc (.cells #[] TI)).ownsRow w TI 1 (.slice (some ⟨(w.alloc (.cells #[aA,aB,.slice p n cap] 31)).heap.size,0,none⟩) 0 0) 0 []:=aSw _ #[] 0 (by simp) (by simp[maxLen]) rfl;exact dG rfl (by simpa using aZ ho h1) (by exact .trans (.alloc (.alloc (.refl _) _) _) h1)
theorem aJn (aA aB:Int)(p:OA)(n cap:Nat)(xs:List Int)(w:World)(hn:n≤12)(HS:Hid (Sl w p n cap 1 (ivs xs)))(HV:xB 48 #[aH aA aB p n cap] w true):
  U 47 #[aH aA aB p n cap] w (bA (dY xs) w):=by
 have hl:=xQ HS.out.ilen;go_enter func47,ntmps47;go_wp2_with fail;refine Z (HV _ (by exact .alloc (.alloc (.refl _) _) _)) fun w1 h1=>?_
 have ho:((w.alloc (.cells #[aA,aB,.slice p n cap] 31)).alloc (.cells #[] TI)).ownsRow w TI 1 (.slice (some ⟨(w.alloc (.cells #[aA,aB,.slice p n cap] 31)).heap.size,0,none⟩) 0 0) 0 []:=aSw _ #[] 0 (by simp) (by simp[maxLen]) rfl;have j:=xQ (aZ ho h1);have s:(w:Nat)<w1:=aRo (by first|(simp;omega)|simp) h1.sz;have eb:w1.cell? ⟨w,2,none⟩=some (.slice p n cap):=by rw[h1.cells.1 _ _ (by simp;omega)];simp
 have r:Ext w w1:=by exact .trans (.alloc (.alloc (.refl _) _) _) h1
 clear ho;go_wp2;go_loopw [3,4] (fun v i wr=> ∃(k:Nat) (q:OA) (m c:Nat),k≤n∧i=I k∧v= .slice q m c∧m≤k∧wr.ownsRow w TI 1 (.slice q m c) m (ivs (fT (dP (xs.take k))))∧Ext w1 wr) (fun _ i _=>n-(intOf i).toNat)
 case atStart=>exact⟨0,_,0,0,aRv _,rfl,rfl,aRp _,by simpa[dP,fT]using j.out,Ext.refl _⟩
 case round=>
  obtain⟨k,q,m,c,hk,rfl,rfl,t,g,hE⟩:=hrel;have HO:=xQ g;have h:=r.trans hE;have ec:wr.cell? ⟨w,2,none⟩=some (.slice p n cap):=(hE.cells.1 _ _ s).trans eb;clear g;by_cases hlt:k<n
  ·obtain⟨b,u,x,rfl,hx,hb,o⟩:=(HS.out.ext h).int_at hlt;have HX:=xQ hx;clear hx;by_cases hx0:0<x
   ·have a:Hid (fT (dP (xs.take (k+1)))=mA x (fT (dP (xs.take k)))):=by
     show _=_;rw[aY HX.out,mL,if_pos hx0,wR]
    have HC:Hid (∀w',Ext wr w'→U 98 #[.slice q m c,x] w' (bA (mA x (fT (dP (xs.take k)))) w')):=fun w' hx=>aBx q m c _ x w' (by omega) ((Sl.own HO.out).ext hx)
    have f:(mA x (fT (dP (xs.take k)))).length=m+1:=by rw[aN2];have:=HO.out.1;simp at this;omega
    have d:=xQ f;clear f;go_wp2_with fail;refine(HC _ (by exact .refl _)).mono ?_;rintro e w2 ⟨q2,c2,rfl,h2,h3⟩;have l:Hid (w2.ownsRow w TI 1 (.slice q2 (m+1) c2) (m+1) (ivs (fT (dP (xs.take (k+1)))))):=by rw[a.out,←d.out];exact bJ h2 h.sz
    rw[d.out];clear h2;go_wp2;go_roundw
    case rel=>exact⟨k+1,q2,m+1,c2,by omega,by go_num,rfl,by omega,l.out,by exact .trans hE h3⟩
    case measure=>simp[intOf];omega
   have a:Hid (fT (dP (xs.take (k+1)))=fT (dP (xs.take k))):=by show _=_;rw[aY HX.out,mL,if_neg hx0,aSe]
   go_wp2;go_roundw
   case rel=>exact⟨k+1,q,m,c,by omega,by go_num,rfl,by omega,by rw[a.out];exact HO.out,hE⟩
   case measure=>simp[intOf];omega
  have a:Hid (fT (dP (xs.take k))=dY xs):=by show _=_;rw[aRu (by rw[hl.out];omega)];rfl
  go_wp2;go_ret;exact dG (by rw[←a.out];have:=HO.out.1;simpa using this) (by rw[←a.out];exact HO.out) h
theorem aHe (aA aB:Int)(p:OA)(n cap:Nat)(w:World)(HV:xB 72 #[aH aA aB p n cap] w false):
  U 74 #[aH aA aB p n cap] w (bA [] w):=by
 go_enter func74,ntmps74;go_wp2_with fail;refine Z (HV _ (by exact .alloc (.refl _) _)) fun w1 h1=>?_
 go_wp2;go_ret;exact dG rfl (aS4 _ _ _ _) (by exact .trans (.alloc (.refl _) _) h1)
theorem aKq (aA aB:Int)(p:OA)(n cap:Nat)(xs:List Int)(w:World)(hn:n≤12)(HS:Hid (Sl w p n cap 1 (ivs xs)))(HV:xB 72 #[aH aA aB p n cap] w true):
  U 74 #[aH aA aB p n cap] w (bA (dY xs) w):=by
 have hl:=xQ HS.out.ilen;go_enter func74,ntmps74;go_wp2_with fail;refine Z (HV _ (by exact .alloc (.refl _) _)) fun w1 h1=>?_
 have eb:w1.cell? ⟨w,2,none⟩=some (.slice p n cap):=by rw[h1.cells.1 _ _ (by simp)];simp
 have g:Ext w w1:=by exact .trans (.alloc (.refl _) _) h1
 go_wp2;go_loopw [3,12] (fun v i wr=> ∃(k:Nat) (q:OA) (m c:Nat),k≤n∧i=I k∧v= .slice q m c∧m≤k∧wr.ownsRow w1 TI 1 (.slice q m c) m (ivs (dP (xs.take k)))∧Ext w1 wr) (fun _ i _=>n-(intOf i).toNat)
 case atStart=>exact⟨0,none,0,0,aRv _,rfl,rfl,aRp _,aS4 _ _ _ _,Ext.refl _⟩
 case round=>
  obtain⟨k,q,m,c,hk,rfl,rfl,z,f,hE⟩:=hrel;have HO:=xQ f;have l:=g.trans hE;have aa:=hE.sz;have y:=g.sz;clear f;by_cases hlt:k<n
  ·obtain⟨b,ab,x,rfl,hx,hb,u⟩:=(HS.out.ext l).int_at hlt;have HX:=xQ hx;clear hx;by_cases hx0:0<x
   ·have a:Hid (dP (xs.take (k+1))=dP (xs.take k)++ [x]):=by
     show _=_;rw[aY HX.out,mL,if_pos hx0]
    go_wp2_with (at_builtin;refine cM fQ rfl _ _ rfl w1 _ _ _ rfl (HO.out.alloc _) _ _ x _ rfl (by simp) (by omega) (by simp;omega) ?_;intro p' j w2 d o;have r:=xQ d;have s:Ext w1 w2:=Ext.own (hE.alloc _) (HO.out.alloc _) o (aRp _);clear d o);go_roundw
    case rel=>exact⟨k+1,p',m+1,j,by omega,by go_num,rfl,by omega,by rw[a.out];exact r.out,s⟩
    case measure=>simp[intOf];omega
   have a:Hid (dP (xs.take (k+1))=dP (xs.take k)):=by show _=_;rw[aY HX.out,mL,if_neg hx0,aSe]
   go_wp2;go_roundw
   case rel=>exact⟨k+1,q,m,c,by omega,by go_num,rfl,by omega,by rw[a.out];exact HO.out,hE⟩
   case measure=>simp[intOf];omega
  have a:Hid (fT (dP (xs.take k))=dY xs):=by show _=_;rw[aRu (by rw[hl.out];omega)];rfl
  go_wp2_with fail;refine(aMc w1 q m c _ _ HO (by omega)).mono ?_;rintro e w2 ⟨rfl,h2,h3⟩;have t:Ext w w2:=l.own HO h3 (by omega);have h:=xQ h2;clear h2 h3;go_wp2;go_ret;exact dG (by rw[←a.out];have:=h.out.1;simpa using this) (by rw[←a.out];exact bJ h g.sz) t
theorem aQc (aA aB:Int)(p:OA)(n cap:Nat)(xs:List Int)(w:World)(hS:Sl w p n cap 1 (ivs xs)):U 47 #[aH aA aB p n cap] w (bA (if aO aA aB xs then dY xs else []) w):=by
 have hl:=hS.ilen;cases h:aO aA aB xs with
 |true=>
  have h2:kN aA aB n=true:=by simp only[aO,aRy]at h;rw[←hl];exact h.1
  rw[if_pos rfl];exact aJn aA aB p n cap xs w (cE h2).2.2.2.2.2.1 hS (fun w' hx=>by rw[←h];exact gJ aA aB p n cap xs w' (hS.ext hx))
 |false=>rw[if_neg (by simp)];exact aG3 aA aB p n cap w (fun w' hx=>by rw[←h];exact gJ aA aB p n cap xs w' (hS.ext hx))
theorem aNg (aA aB:Int)(p:OA)(n cap:Nat)(xs:List Int)(w:World)(hS:Sl w p n cap 1 (ivs xs)):U 74 #[aH aA aB p n cap] w (bA (if aO aA aB xs then dY xs else []) w):=by
 have hl:=hS.ilen;cases h:aO aA aB xs with
 |true=>
  have h2:kN aA aB n=true:=by simp only[aO,aRy]at h;rw[←hl];exact h.1
  rw[if_pos rfl];exact aKq aA aB p n cap xs w (cE h2).2.2.2.2.2.1 hS (fun w' hx=>by rw[←h];exact fY aA aB p n cap xs w' (hS.ext hx))
 |false=>rw[if_neg (by simp)];exact aHe aA aB p n cap w (fun w' hx=>by rw[←h];exact fY aA aB p n cap xs w' (hS.ext hx))
end
section
section
variable {P:Program} {l:List Oper} {Q:Exit→Act→World→Prop} {md:Region.Mode} {S:World→Prop}
theorem eE {i:Nat}{oi:Oper}{v:Value}{d:Nat}{b:Array Bool}{a:Act}{w:World}(hi:l[i]? =some oi)
  (hs:Region.noSelect l.toArray=true) (hf:Region.free md l.toArray b i=true) (hr:(Region.ready md l.toArray b).contains i=true)
  (hQ: ∀c a w,Q (.panic c) (a.put oi.dst v) w→Q (.panic c) a w) (hw:Region.wanted oi (yielded l.toArray a.tmps)=true) (hy: ∀w,S w→(execOp a.eval oi).run P w= .ok (.value v) w) (hS:S w)
  (h:wpAnyH P md l.toArray Q S d (b.setIfInBounds i true) (a.put oi.dst v) w):wpAnyH P md l.toArray Q S (d+1) b a w:=
 wpAnyH_take (by simpa using hi) hs hf hr hQ (.inl ⟨hw,hy⟩) hS h
theorem lB {i:Nat}{oi:Oper}{d:Nat}{b:Array Bool}{a:Act}{w:World}(hi:l[i]? =some oi)
  (hs:Region.noSelect l.toArray=true) (hf:Region.free md l.toArray b i=true) (hr:(Region.ready md l.toArray b).contains i=true)
  (hQ: ∀c a w,Q (.panic c) (a.put oi.dst undef) w→Q (.panic c) a w) (hw:Region.wanted oi (yielded l.toArray a.tmps)=false) (hS:S w)
  (h:wpAnyH P md l.toArray Q S d (b.setIfInBounds i true) (a.put oi.dst undef) w):wpAnyH P md l.toArray Q S (d+1) b a w:=
 wpAnyH_take (by simpa using hi) hs hf hr hQ (.inr ⟨hw,rfl⟩) hS h
theorem aOh {c:Nat}{b:Array Bool}{a:Act}{w:World}{i:Nat}{o:Oper}(ho:l[i]? =some o)
  (h: ∀K':Act→World→Prop,Shut (∀a w,S w→(S w→wpAnyH P md l.toArray Q S c (b.setIfInBounds i true) a w)→K' a w)→if Region.wanted o (yielded l.toArray a.tmps)=true then Oper.wp P o a w K' Q else K' (a.put o.dst undef) w):
  AllReadyH P md l.toArray Q S c b a w [i]:=AllReadyH.cons (by simpa using ho) h AllReadyH.nil
end
end
end Go.Proofs.YtbgkcehffiogcacGreatDoor
