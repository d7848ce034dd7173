/-
  Texts of this proof, packed (@packed).
-/
import Derived.Deep.AppendLies
import Derived.Deep.RegionLaw
import Derived.Maps.AppendAt
import Derived.RegionTactic
import Derived.Sort.OwnSortedInts
import Derived.Test.YtbgkcehffiogcacGreatDoorZS
import Derived.Test.YtbgkcehffiogcacGreatDoorZ2
namespace Go.Proofs.YtbgkcehffiogcacGreatDoor
open Go.RowKit
set_option linter.unusedSimpArgs false
set_option linter.unusedVariables false
set_option maxHeartbeats 8000000
set_option maxRecDepth 100000
def lP (x:Int):List Int→List Int
 | []=> [x]
 |y::ys=>if y<x then y::lP x ys else x::y::ys
def fO (xs:List Int):List Int:=xs.foldl (fun acc x=>lP x acc) []
def dK (xs:List Int):List Int:=xs.filter (fun x=>decide (0<x))
def dQ (xs:List Int):List Int:=fO (dK xs)
theorem mY (x:Int): ∀xs,List.Perm (lP x xs) (x::xs):=by
 intro xs;induction xs with
 |nil=>exact List.Perm.refl _
 |cons y ys ih=>
  unfold lP;split
  ·exact(List.Perm.cons y ih).trans (List.Perm.swap x y ys)
  exact List.Perm.refl _
theorem uM (x:Int): ∀xs,xs.Pairwise (·≤ ·)→(lP x xs).Pairwise (·≤ ·):=by
 intro xs;induction xs with
 |nil=>intro _;simp[lP]
 |cons y ys ih=>
  intro h;rw[List.pairwise_cons]at h;unfold lP;split
  ·rename_i hlt;rw[List.pairwise_cons];refine⟨fun z hz=> ?_,ih h.2⟩;rcases aR5.1 ((mY x ys).mem_iff.1 hz)with rfl|hz
   ·omega
   exact h.1 z hz
  rename_i hge;rw[List.pairwise_cons,List.pairwise_cons];refine⟨fun z hz=> ?_,h⟩;rcases aR5.1 hz with rfl|hz
  ·omega
  have:=h.1 z hz;omega
theorem wE (xs:List Int)(x:Int):fO (xs++ [x])=lP x (fO xs):=by simp[fO,List.foldl_append]
theorem aCz (xs:List Int):List.Perm (fO xs) xs∧(fO xs).Pairwise (·≤ ·):=by
 suffices h: ∀(n:Nat) (xs:List Int),xs.length=n→List.Perm (fO xs) xs∧(fO xs).Pairwise (·≤ ·)from h _ xs rfl
 intro n;induction n with
 |zero=>intro xs h;obtain rfl:=aR8 h;simp[fO]
 |succ n ih=>
  intro xs h;have a:xs≠ []:=by intro e;rw[e]at h;simp at h
  rw[←List.dropLast_concat_getLast a,wE];obtain⟨h1,h2⟩:=ih xs.dropLast (by simp[h]);refine⟨?_,uM _ _ h2⟩;exact(mY _ _).trans ((List.Perm.cons _ h1).trans (List.perm_append_singleton _ _).symm)
theorem gM (xs:List Int):List.Perm (fO xs) xs:=(aCz xs).1
theorem kV (xs:List Int):(fO xs).Pairwise (·≤ ·):=(aCz xs).2
theorem zG (xs:List Int):(fO xs).length=xs.length:=(gM xs).length_eq
theorem mA (xs:List Int)(x:Int):dK (xs++ [x])=dK xs++(if 0<x then [x]else []):=by unfold dK;rw[aRj];congr 1;by_cases h:0<x<;>simp[h]
theorem jX (xs:List Int):(dK xs).length≤xs.length:=aRr _ _
theorem iQ (xs:List Int):(dQ xs).length=(dK xs).length:=zG _
theorem nK {xs ys:List Int}(h:List.Perm ys xs)(hs:ys.Pairwise (·≤ ·)):ys=fO xs:=
 List.Perm.eq_of_pairwise (fun a b _ _ h1 h2=>Int.le_antisymm h1 h2) hs (kV xs) (h.trans (gM xs).symm)
abbrev aP:=Int×Int×Int×Int
def aE (v:aP):List Value:= [.int .i64 v.1,.int .i64 v.2.1,.int .i64 v.2.2.1,.int .i64 v.2.2.2]
structure aM where
 aA:Int
 aB:Int
 cells:List Int
 free:Int
 step:Int
 aD:Int
 aF:Int
 aC:Int
 aG:Int
 vs:List aP
def eY (aC:Int)(v:aP):Bool:=dB v.2.1 v.2.2.1 v.2.2.2&&decide (v.2.2.2≤aC)
def bW (aC:Int):List Int→List aP→Bool
 | [],[]=>true
 |c::cs,v::vs=>decide (v.1=c)&&eY aC v&&bW aC cs vs
 |_,_=>false
def qT (h:aM):Bool:=decide (0≤h.aC∧h.aC≤9999∧0≤h.aG∧h.aG≤99999)
def aT (h:aM):Bool:=aO h.aA h.aB h.cells&&bN h.free h.step h.aD h.aF&&qT h&&bW h.aC (dQ h.cells) h.vs
theorem uD {aC:Int}{cs:List Int}{vs:List aP}{k:Nat}{c:Int}{v:aP}(hc:cs[k]? =some c) (hv:vs[k]? =some v):
  bW aC (cs.drop k) (vs.drop k)=(decide (v.1=c)&&eY aC v&&bW aC (cs.drop (k+1)) (vs.drop (k+1))):=by
 rw[qC hc,qC hv];rfl
theorem jG {aC:Int}: ∀ {cs:List Int} {vs:List aP},bW aC cs vs=true→vs.map (·.1)=cs∧ ∀v∈vs,eY aC v=true:=by
 intro cs;induction cs with
 |nil=>intro vs h;cases vs with
  |nil=>simp
  |cons v vs=>simp[bW]at h
 |cons c cs ih=>
  intro vs h;cases vs with
  |nil=>simp[bW]at h
  |cons v vs=>
   simp only[bW,aQv,decide_eq_true_eq]at h;obtain⟨⟨h1,h2⟩,h3⟩:=h;obtain⟨i1,i2⟩:=ih h3;refine⟨by simp[h1,i1],fun x hx=> ?_⟩;rcases aR5.1 hx with rfl|hx
   ·exact h2
   exact i2 x hx
theorem uC {aC:Int}{cs:List Int}{vs:List aP}(h:cs.length≠vs.length):bW aC cs vs=false:=by
 cases hh:bW aC cs vs with
 |false=>rfl
 |true=>have:=congrArg List.length (jG hh).1;simp at this;omega
def dS (id:Int)(vs:List aP):Option aP:=vs.find? (fun v=>v.1==id)
def cS (h:aM)(id:Int):Option (Int×Int×Int):=if aT h then(dS id h.vs).map (·.2)else none
def aZ (h:aM)(id:Int):Int:=match cS h id with
 |some s=>cA h.free h.step h.aD h.aF s.1 s.2.1 s.2.2 h.aC
 |none=> -1
def dL (h:aM)(id:Int):Bool:=match cS h id with
 |some s=>lN h.free h.step h.aD h.aF s.1 s.2.1 s.2.2 h.aC
 |none=>false
def pD (h:aM)(v:aP):Int:=cA h.free h.step h.aD h.aF v.2.1 v.2.2.1 v.2.2.2 h.aC
def vN (h:aM)(vs:List aP):Int:=vs.foldl (fun a v=>a+pD h v) 0
def iZ (h:aM):Int:=if aT h then vN h h.vs else -1
def dG (h:aM):List Int:=if aT h then
  (if(0:Int)∈h.cells then dQ h.cells else h.cells.headD 0::(dQ h.cells).filter (fun x=>x !=h.cells.headD 0))else []
abbrev TI:TypeId:=3
def dW (aA aB:Int)(xs:List Int)(w:World)(e:Ending)(w':World):Prop:=
 ∃p cap,e= .returned (aH aA aB p xs.length cap)∧w'.ownsRow w.heap.size TI 1 (.slice p xs.length cap) xs.length (ivs xs)∧Ext w w'
theorem aJg (n:Nat):(madeCells (I 0).cells (n*1)).toList=ivs (List.replicate n 0):=by apply List.ext_getElem<;>simp[madeCells,Value.cells,Nat.mod_one]
theorem Blk.three {w:World}{g:Nat}{t:TypeId}{a b c:Value}(h:Blk w g t #[a,b,c]):w.cell? ⟨g,0,none⟩=some a∧w.cell? ⟨g,1,none⟩=some b∧w.cell? ⟨g,2,none⟩=some c∧w.frozen? ⟨g,0,none⟩=false∧w.frozen? ⟨g,1,none⟩=false∧w.frozen? ⟨g,2,none⟩=false:=
 ⟨h.cell 0,h.cell 1,h.cell 2,h.frozen 0,h.frozen 1,h.frozen 2⟩
theorem wG {aA aB:Int}{p:OA}{n cap:Nat}{xs:List Int}{w w':World}(hn:xs.length=n)(ho:w'.ownsRow w TI 1 (.slice p n cap) n (ivs xs))(hx:Ext w w'):dW aA aB xs w (.returned (aH aA aB p n cap)) w':=by subst hn;exact⟨p,cap,rfl,ho,hx⟩
section
section
variable {P:Program} (w:World)
theorem yL {t e ty:TypeId}{sz:Nat}(E:ElT P t e sz)(base:Nat)(v:Value)(n:Nat)(xs:List Value)(d:w.ownsRow base e sz v n xs)(p:OA)(m c:Nat)(news:List Value)(hs:Sl w p m c sz news)
  (h1: ∀u∈news,u.oneCell'=true)(hn:n+m≤1099511627776)(l:base≤w.heap.size):
  ∃p' cap' w',(Builtin.append_ #[t,t] ty #[v,.slice p m c]).run P w= .ok (.slice p' (n+m) cap') w'∧w'.ownsRow base e sz (.slice p' (n+m) cap') (n+m) (xs++news)∧w.grownBy w' v.ownBlock:=by
 obtain⟨i,z,hi,hz,x,s,y⟩:=E.info;cases p with
 |none=>
  have hm:m=0:=by
   rcases Nat.eq_zero_or_pos m with h0|h0
   ·exact h0
   obtain⟨b,aa,h,_⟩:=hs.rd h0;cases h
  subst hm;have a:news= []:=aR8 (by simpa using hs.len);subst a;obtain⟨q,k,rfl⟩:=oQ d;refine⟨q,k,w,?_,by simpa using d,aRt w _⟩;rcases d.2 with⟨h2,h3⟩|⟨g,cap',cur,h2,_,_,hnc,_⟩
  ·injection h2 with e1 e2 e3;subst e1 e2 e3;simp[Builtin.append_,run_underlying E.ht,sizeOf,typeInfo,hi,Builtin.lenOf,Builtin.firstCells]
  injection h2 with e1 e2 e3;subst e1 e3;simp[Builtin.append_,run_underlying E.ht,sizeOf,typeInfo,hi,Builtin.lenOf,Builtin.firstCells,hnc,storeCells]
 |some ad=>
  have f: ∀j u,news[j]? =some u→w.cell? (ad.add j)=some u:=by
   intro j u hu;rcases Nat.eq_zero_or_pos m with h0|h0
   ·subst h0;have a:news= []:=aR8 (by simpa using hs.len);subst a;simp at hu
   obtain⟨b,aa,h,_,hc⟩:=hs.rd h0;injection h with h;subst h;rw[lW,hc j (by rw[←hs.len];exact(aQr.1 hu).1)];exact hu
  have r:(n+m)*i.bytes≤140737488355328:=by have:(n+m)*i.bytes≤(n+m)*64:=Nat.mul_le_mul_left _ s;omega
  obtain⟨v',w',o,h2,h3,_,_⟩:=run_append_own_at (P:=P) w base t ty e i z sz i.bytes E.ht hi hz x rfl y E.pos v n xs d ad m c news hs.len f h1 (by unfold maxLen;omega) r l;obtain⟨q,k,rfl⟩:=oQ h2;exact⟨q,k,w',o,h2,h3⟩
theorem aAh {o:Oper}{a:Act}{K:Act→World→Prop}{Q:Exit→Act→World→Prop}{t e:TypeId}{sz:Nat}(E:ElT P t e sz)(s x:Operand)
  (ho:o.op= .call {callee:= .builtin .append,args:=#[s,x],argTypes:=#[t,t]})
  (base:Nat)(v:Value)(n:Nat)(xs:List Value)(hs:a.eval s=v)(d:w.ownsRow base e sz v n xs)
  (p:OA)(m c:Nat)(news:List Value)(hx:a.eval x= .slice p m c)(hr:Sl w p m c sz news)(h1: ∀u∈news,u.oneCell'=true)
  (hn:n+m≤1099511627776)(b:base≤w.heap.size)
  (h: ∀p' cap' w',w'.ownsRow base e sz (.slice p' (n+m) cap') (n+m) (xs++news)→w.grownBy w' v.ownBlock→K (a.put o.dst (.slice p' (n+m) cap')) w'):o.wp P a w K Q:=by
 obtain⟨p',cap',w',f,h2,h3⟩:=yL (ty:=o.type) w E base v n xs d p m c news hr h1 hn b;unfold Oper.wp execOp;simp only[ho,resolve,invoke,builtin,Sem.run_bind,Sem.run_pure,Result.andThen_ok,List.map_toArray,aSk,List.map_nil,hs,hx,f];exact h p' cap' w' h2 h3
theorem jI {f:Array Oper}{o:Oper}{a:Act}{K:Act→World→Prop}{Q:Exit→Act→World→Prop}{E0:Prop}{t e:TypeId}{sz:Nat}(E:ElT P t e sz)(g:o.guard=none)(s x:Operand)
  (ho:o.op= .call {callee:= .builtin .append,args:=#[s,x],argTypes:=#[t,t]})
  (base:Nat)(v:Value)(n:Nat)(xs:List Value)(hs:a.eval s=v)(d:w.ownsRow base e sz v n xs)
  (p:OA)(m c:Nat)(news:List Value)(hx:a.eval x= .slice p m c)(hr:Sl w p m c sz news)(h1: ∀u∈news,u.oneCell'=true)
  (hn:n+m≤1099511627776)(b:base≤w.heap.size)
  (h: ∀p' cap' w',w'.ownsRow base e sz (.slice p' (n+m) cap') (n+m) (xs++news)→w.grownBy w' v.ownBlock→K (a.put o.dst (.slice p' (n+m) cap')) w'):
  if Region.wanted o (yielded f a.tmps)=true then Oper.wp P o a w K Q else E0:=by
 have hw:Region.wanted o (yielded f a.tmps)=true:=by simp[Region.wanted,g]
 rw[if_pos hw];exact aAh w E s x ho base v n xs hs d p m c news hx hr h1 hn b h
end
theorem pY (xs:List Int): ∀u∈ivs xs,u.oneCell'=true:=by intro u hu;obtain⟨x,_,rfl⟩:=List.mem_map.1 hu;rfl
end
section
open Go.Proofs.Tryz
def aY (xs:List Int)(w:World)(e:Ending)(w':World):Prop:=
 ∃p cap,e= .returned (.slice p xs.length cap)∧w'.ownsRow w.heap.size TI 1 (.slice p xs.length cap) xs.length (ivs xs)∧Ext w w'
theorem dC {p:OA}{n cap:Nat}{xs:List Int}{w w':World}(hn:xs.length=n)(ho:w'.ownsRow w TI 1 (.slice p n cap) n (ivs xs))(hx:Ext w w'):aY xs w (.returned (.slice p n cap)) w':=by subst hn;exact⟨p,cap,rfl,ho,hx⟩
theorem aHp: ∀(xs:List Int) (k:Nat) (x:Int),(∀y∈xs.take k,y<x)→(∀y,xs[k]? =some y→ ¬y<x)→lP x xs=xs.take k++x::xs.drop k:=by
 intro xs;induction xs with
 |nil=>intro k x _ _;simp[lP]
 |cons y ys ih=>
  intro k x h1 h2;cases k with
  |zero=>have:=h2 y rfl;simp[lP,this]
  |succ k=>have h3:y<x:=h1 y (by simp);rw[lP,if_pos h3,ih k x (fun z hz=>h1 z (by simp[hz])) (fun z hz=>h2 z (by simpa using hz))];simp
theorem aMc (x:Int)(xs:List Int):(lP x xs).length=xs.length+1:=(mY x xs).length_eq
theorem aO3 {w:World}{b a n cap k:Nat}{xs:List Int}(h:Sl w (some ⟨b,a,none⟩) n cap 1 (ivs xs))(hk:k≤n):Sl w (some ⟨b,a+k,none⟩) (n-k) (cap-k) 1 (ivs (xs.drop k)):=by have hl:=h.ilen;have d:=h.le;have f:=h.mx;refine⟨by simp;omega,by omega,by omega,fun h0=> ?_⟩;obtain⟨b',c,e,hb,hc⟩:=h.rd (by omega);injection e with e;injection e with e1 e2;subst e1 e2;refine⟨_,_,rfl,hb,fun j hj=> ?_⟩;rw[Nat.add_assoc,hc (k+j) (by omega)];simp
theorem aO2 (w:World)(p:OA){c:Nat}(hc:c≤maxLen):Sl w p 0 c 1 (ivs []):=⟨by simp,aQt _,hc,fun h=>absurd h (by omega)⟩
theorem aBf (p:OA)(n cap:Nat)(xs:List Int)(x:Int)(w:World)(hn:n≤1000000)(hS:Sl w p n cap 1 (ivs xs)):
  U 98 #[.slice p n cap,x] w (aY (lP x xs) w):=by
 have hl:=xQ hS.ilen;have ad:=hS.le;have ab:=hS.mx;unfold maxLen at ab;have HS:=xQ hS;clear hS;go_enter func98,ntmps98;go_wp2;go_loopw [5,6] (fun v i wr=> ∃(k:Nat) (q:OA) (c:Nat),k≤n∧i=I k∧v= .slice q k c∧wr.ownsRow w TI 1 (.slice q k c) k (ivs (xs.take k))∧(∀y∈xs.take k,y<x)∧Ext w wr) (fun _ i _=>n-(intOf i).toNat)
 case atStart=>exact⟨0,_,0,aQt _,rfl,rfl,aRu _ #[] 0 (aQn _) (by simp[maxLen]) rfl,by simp,by exact .alloc (.refl _) _⟩
 case round=>
  obtain⟨k,q,c,hk,rfl,rfl,o,m,hE⟩:=hrel;have HO:=xQ o;have HL:=xQ m;have ag:=hE.sz;clear o m;by_cases hlt:k<n
  ·obtain⟨b,ah,y,rfl,hx,hb,aa⟩:=(HS.out.ext hE).int_at hlt;have HX:=xQ hx;clear hx;by_cases hy:y<x
   ·have d:Hid (∀z∈xs.take (k+1),z<x):=by
     show∀z∈xs.take (k+1),z<x;rw[bC HX.out];intro z hz;rcases aR7.1 hz with h|h
     ·exact HL z h
     simp at h;omega
    go_wp2_with (at_builtin;refine cL fM rfl _ _ rfl w _ _ _ rfl (HO.out.alloc _) _ _ y _ rfl (by simp) (by omega) (by simp;omega) ?_;intro p' u w1 a g;have j:=xQ a;have f:Ext w w1:=Ext.own (hE.alloc _) (HO.out.alloc _) g (aQn _);clear a g);go_roundw
    case rel=>exact⟨k+1,p',u,by omega,by go_num,rfl,by rw[bC HX.out];exact j.out,d.out,f⟩
    case measure=>simp[intOf];omega
   have d:Hid (lP x xs=xs.take k++x::xs.drop k):=aHp xs k x HL (fun z hz=>by rw[HX.out]at hz;injection hz with hz;subst hz;exact hy);have i1:(0:Int)≤(k:Int):=by omega
   have i2:(k:Int)≤(n:Int):=by omega
   have af: ¬cap=k:=by omega
   go_wp2
   go_region_law ((first
    |(refine jI _ fM (by rfl) _ _ (by rfl) w _ k (ivs (xs.take k)) (by rfl) (by first|exact HO.out|exact HO.out.alloc _|exact(HO.out.alloc _).drew|exact HO.out.drew.alloc _|exact HO.out.drew) _ 1 1 [iv x] (by rfl) (by first|exact Sl.new wr #[iv x] _ 1 rfl (by decide)|exact(Sl.new wr #[iv x] _ 1 rfl (by decide)).ext (Ext.drew (Ext.refl _))|exact Sl.new wr.drew #[iv x] _ 1 rfl (by decide)) (pY [x]) (by omega) (by simp;omega) ?_
      intro p1 c1 w1 a g;have f:Ext w w1:=Ext.own (by exact .drew (.alloc hE _)) (by first|exact HO.out|exact HO.out.alloc _|exact(HO.out.alloc _).drew|exact HO.out.drew.alloc _|exact HO.out.drew) g (aQn _);have j:=xQ a;have t:=xQ (HS.out.ext f);have ae:=f.sz
      clear a g)
    |(refine jI _ fM (by rfl) _ _ (by rfl) w _ (k+1) (ivs (xs.take k)++ [iv x]) (by rfl) j _ (n-k) (cap-k) (ivs (xs.drop k)) (by rfl) (aO3 t (by omega)) (pY _) (by omega) (by omega) ?_
      intro p2 c2 w2 e l;have s:Ext w w2:=Ext.own f j l (aQn _);have r:=xQ e
      clear e l)))
   all_goals go_wp2
   all_goals go_ret
   all_goals exact dC (by rw[d.out];simp;rw[hl.out];omega) (by rw[d.out];simpa using r.out) s
  obtain rfl:k=n:=by omega
  have d:Hid (lP x xs=xs++ [x]):=by have:=aHp xs k x HL (fun z hz=>by rw[aRs (by rw[hl.out];exact aQn _)]at hz;cases hz);show _=_;rw[this,aQu (by rw[hl.out];exact aQn _),aS4 (by rw[hl.out];exact aQn _)]
  have i1:(0:Int)≤(k:Int):=by omega
  go_wp2
  go_region_law ((first
   |(refine jI _ fM (by rfl) _ _ (by rfl) w _ k (ivs (xs.take k)) (by rfl) (by first|exact HO.out|exact HO.out.alloc _|exact(HO.out.alloc _).drew|exact HO.out.drew.alloc _|exact HO.out.drew) _ 1 1 [iv x] (by rfl) (by first|exact Sl.new wr #[iv x] _ 1 rfl (by decide)|exact(Sl.new wr #[iv x] _ 1 rfl (by decide)).ext (Ext.drew (Ext.refl _))|exact Sl.new wr.drew #[iv x] _ 1 rfl (by decide)) (pY [x]) (by omega) (by simp;omega) ?_
     intro p1 c1 w1 a g;have f:Ext w w1:=Ext.own (by exact .drew (.alloc hE _)) (by first|exact HO.out|exact HO.out.alloc _|exact(HO.out.alloc _).drew|exact HO.out.drew.alloc _|exact HO.out.drew) g (aQn _);have j:=xQ a;have t:=xQ (HS.out.ext f);have ae:=f.sz
     clear a g)
   |(refine jI _ fM (by rfl) _ _ (by rfl) w _ (k+1) (ivs (xs.take k)++ [iv x]) (by rfl) j _ 0 _ (ivs []) (by rfl) (aO2 _ _ (by unfold maxLen;omega)) (pY _) (by omega) (by omega) ?_
     intro p2 c2 w2 e l;have s:Ext w w2:=Ext.own f j l (aQn _);have r:=xQ e
     clear e l)))
  all_goals go_wp2
  all_goals go_ret
  all_goals exact dC (by rw[d.out];simp;rw[hl.out]) (by rw[d.out];have:=r.out;rw[aQu (by rw[hl.out];exact aQn _)]at this;simpa using this) s
theorem aDh (xs:List Int):(xs.mergeSort fun x y=>decide (x≤y))=fO xs:=by refine nK (List.mergeSort_perm _ _) ?_;have:=List.pairwise_mergeSort (le:=fun x y:Int=>decide (x≤y)) (fun a b c h1 h2=>by simp at*;omega) (fun a b=>by simp;omega) xs;simpa using this
theorem aLo (B:Nat)(p:OA)(n cap:Nat)(xs:List Int)(w:World)(h:w.ownsRow B TI 1 (.slice p n cap) n (ivs xs))(hn:n≤1000000):
  U 115 #[.slice p n cap] w fun e w'=>e= .returned (.tuple #[])∧w'.ownsRow B TI 1 (.slice p n cap) n (ivs (fO xs))∧w.grownBy w' (Value.slice p n cap).ownBlock:=by
 have hl:xs.length=n:=by have:=h.1;simpa using this
 subst hl;by_cases h0:xs.length=0
 ·obtain rfl:xs= []:=aR8 h0;refine(Tryz.slices_Sort_int_none p cap w).mono ?_;rintro e w' ⟨rfl,rfl⟩;exact⟨rfl,h,aRt _ _⟩
 rcases h.2 with⟨h1,h2⟩|⟨g,cap',cur,h1,hb,hg,hnc,hm,hs,ht⟩
 ·exact absurd h2 h0
 injection h1 with e1 e2 e3;subst e1 e3;refine(Tryz.slices_Sort_int g 0 cap xs w (Go.holds_of_blockI hg (by simpa using ht)) (aRx.1 hg).1 (by omega)).mono ?_;rintro e w' ⟨rfl,k,os,rfl⟩;rw[aDh];exact⟨rfl,Go.ownsRow_sortedI (zG xs) hb hg hnc hm hs,Go.grownBy_sortedI _⟩
theorem bB {w w':World}{B n sz:Nat}{e:TypeId}{v:Value}{xs:List Value}(ho:w.ownsRow B e sz v n xs)(h:Ext w w'):w'.ownsRow B e sz v n xs:=
 ho.kept (row:=none) ⟨h.os,h.tape,h.output,h.size,fun k hk _=>h.block k hk⟩ (by cases v.ownBlock<;>simp)
theorem bI {w:World}{B B' n sz:Nat}{e:TypeId}{v:Value}{xs:List Value}(h:w.ownsRow B e sz v n xs)(hb:B'≤B):w.ownsRow B' e sz v n xs:=by
 refine⟨h.1,?_⟩;rcases h.2 with h2|⟨g,a,b,e1,c,r⟩
 ·exact .inl h2
 exact .inr ⟨g,a,b,e1,aQy hb c,r⟩
theorem aFk (aA aB:Int)(p:OA)(n cap:Nat)(w:World)(HV:xB 48 #[aH aA aB p n cap] w false):
  U 47 #[aH aA aB p n cap] w (aY [] w):=by
 go_enter func47,ntmps47;go_wp2_with fail;refine Z (HV _ (by exact .alloc (.alloc (.refl _) _) _)) fun w1 h1=>?_
 go_wp2;go_ret;have ho:((w.alloc (.cells #[aA,aB,.slice p n cap] 31)).alloc (.cells #[] TI)).ownsRow w TI 1 (.slice (some ⟨(w.alloc (.cells #[aA,aB,.slice p n cap] 31)).heap.size,0,none⟩) 0 0) 0 []:=aRu _ #[] 0 (by simp) (by simp[maxLen]) rfl;exact dC rfl (by simpa using bB ho h1) (by exact .trans (.alloc (.alloc (.refl _) _) _) h1)
theorem aIx (aA aB:Int)(p:OA)(n cap:Nat)(xs:List Int)(w:World)(hn:n≤12)(HS:Hid (Sl w p n cap 1 (ivs xs)))(HV:xB 48 #[aH aA aB p n cap] w true):
  U 47 #[aH aA aB p n cap] w (aY (dQ xs) w):=by
 have hl:=xQ HS.out.ilen;go_enter func47,ntmps47;go_wp2_with fail;refine Z (HV _ (by exact .alloc (.alloc (.refl _) _) _)) fun w1 h1=>?_
 have ho:((w.alloc (.cells #[aA,aB,.slice p n cap] 31)).alloc (.cells #[] TI)).ownsRow w TI 1 (.slice (some ⟨(w.alloc (.cells #[aA,aB,.slice p n cap] 31)).heap.size,0,none⟩) 0 0) 0 []:=aRu _ #[] 0 (by simp) (by simp[maxLen]) rfl;have j:=xQ (bB ho h1);have s:(w:Nat)<w1:=aQm (by first|(simp;omega)|simp) h1.sz;have eb:w1.cell? ⟨w,2,none⟩=some (.slice p n cap):=by rw[h1.cells.1 _ _ (by simp;omega)];simp
 have r:Ext w w1:=by exact .trans (.alloc (.alloc (.refl _) _) _) h1
 clear ho;go_wp2;go_loopw [3,4] (fun v i wr=> ∃(k:Nat) (q:OA) (m c:Nat),k≤n∧i=I k∧v= .slice q m c∧m≤k∧wr.ownsRow w TI 1 (.slice q m c) m (ivs (fO (dK (xs.take k))))∧Ext w1 wr) (fun _ i _=>n-(intOf i).toNat)
 case atStart=>exact⟨0,_,0,0,aQt _,rfl,rfl,aQn _,by simpa[dK,fO]using j.out,Ext.refl _⟩
 case round=>
  obtain⟨k,q,m,c,hk,rfl,rfl,t,g,hE⟩:=hrel;have HO:=xQ g;have h:=r.trans hE;have ec:wr.cell? ⟨w,2,none⟩=some (.slice p n cap):=(hE.cells.1 _ _ s).trans eb;clear g;by_cases hlt:k<n
  ·obtain⟨b,u,x,rfl,hx,hb,o⟩:=(HS.out.ext h).int_at hlt;have HX:=xQ hx;clear hx;by_cases hx0:0<x
   ·have a:Hid (fO (dK (xs.take (k+1)))=lP x (fO (dK (xs.take k)))):=by
     show _=_;rw[bC HX.out,mA,if_pos hx0,wE]
    have HC:Hid (∀w',Ext wr w'→U 98 #[.slice q m c,x] w' (aY (lP x (fO (dK (xs.take k)))) w')):=fun w' hx=>aBf q m c _ x w' (by omega) ((Sl.own HO.out).ext hx)
    have f:(lP x (fO (dK (xs.take k)))).length=m+1:=by rw[aMc];have:=HO.out.1;simp at this;omega
    have d:=xQ f;clear f;go_wp2_with fail;refine(HC _ (by exact .refl _)).mono ?_;rintro e w2 ⟨q2,c2,rfl,h2,h3⟩;have l:Hid (w2.ownsRow w TI 1 (.slice q2 (m+1) c2) (m+1) (ivs (fO (dK (xs.take (k+1)))))):=by rw[a.out,←d.out];exact bI h2 h.sz
    rw[d.out];clear h2;go_wp2;go_roundw
    case rel=>exact⟨k+1,q2,m+1,c2,by omega,by go_num,rfl,by omega,l.out,by exact .trans hE h3⟩
    case measure=>simp[intOf];omega
   have a:Hid (fO (dK (xs.take (k+1)))=fO (dK (xs.take k))):=by show _=_;rw[bC HX.out,mA,if_neg hx0,aRi]
   go_wp2;go_roundw
   case rel=>exact⟨k+1,q,m,c,by omega,by go_num,rfl,by omega,by rw[a.out];exact HO.out,hE⟩
   case measure=>simp[intOf];omega
  have a:Hid (fO (dK (xs.take k))=dQ xs):=by show _=_;rw[aQu (by rw[hl.out];omega)];rfl
  go_wp2;go_ret;exact dC (by rw[←a.out];have:=HO.out.1;simpa using this) (by rw[←a.out];exact HO.out) h
theorem aGs (aA aB:Int)(p:OA)(n cap:Nat)(w:World)(HV:xB 72 #[aH aA aB p n cap] w false):
  U 74 #[aH aA aB p n cap] w (aY [] w):=by
 go_enter func74,ntmps74;go_wp2_with fail;refine Z (HV _ (by exact .alloc (.refl _) _)) fun w1 h1=>?_
 go_wp2;go_ret;exact dC rfl (aR9 _ _ _ _) (by exact .trans (.alloc (.refl _) _) h1)
theorem aK0 (aA aB:Int)(p:OA)(n cap:Nat)(xs:List Int)(w:World)(hn:n≤12)(HS:Hid (Sl w p n cap 1 (ivs xs)))(HV:xB 72 #[aH aA aB p n cap] w true):
  U 74 #[aH aA aB p n cap] w (aY (dQ xs) w):=by
 have hl:=xQ HS.out.ilen;go_enter func74,ntmps74;go_wp2_with fail;refine Z (HV _ (by exact .alloc (.refl _) _)) fun w1 h1=>?_
 have eb:w1.cell? ⟨w,2,none⟩=some (.slice p n cap):=by rw[h1.cells.1 _ _ (by simp)];simp
 have g:Ext w w1:=by exact .trans (.alloc (.refl _) _) h1
 go_wp2;go_loopw [3,12] (fun v i wr=> ∃(k:Nat) (q:OA) (m c:Nat),k≤n∧i=I k∧v= .slice q m c∧m≤k∧wr.ownsRow w1 TI 1 (.slice q m c) m (ivs (dK (xs.take k)))∧Ext w1 wr) (fun _ i _=>n-(intOf i).toNat)
 case atStart=>exact⟨0,none,0,0,aQt _,rfl,rfl,aQn _,aR9 _ _ _ _,Ext.refl _⟩
 case round=>
  obtain⟨k,q,m,c,hk,rfl,rfl,z,f,hE⟩:=hrel;have HO:=xQ f;have l:=g.trans hE;have aa:=hE.sz;have y:=g.sz;clear f;by_cases hlt:k<n
  ·obtain⟨b,ab,x,rfl,hx,hb,u⟩:=(HS.out.ext l).int_at hlt;have HX:=xQ hx;clear hx;by_cases hx0:0<x
   ·have a:Hid (dK (xs.take (k+1))=dK (xs.take k)++ [x]):=by
     show _=_;rw[bC HX.out,mA,if_pos hx0]
    go_wp2_with (at_builtin;refine cL fM rfl _ _ rfl w1 _ _ _ rfl (HO.out.alloc _) _ _ x _ rfl (by simp) (by omega) (by simp;omega) ?_;intro p' j w2 d o;have r:=xQ d;have s:Ext w1 w2:=Ext.own (hE.alloc _) (HO.out.alloc _) o (aQn _);clear d o);go_roundw
    case rel=>exact⟨k+1,p',m+1,j,by omega,by go_num,rfl,by omega,by rw[a.out];exact r.out,s⟩
    case measure=>simp[intOf];omega
   have a:Hid (dK (xs.take (k+1))=dK (xs.take k)):=by show _=_;rw[bC HX.out,mA,if_neg hx0,aRi]
   go_wp2;go_roundw
   case rel=>exact⟨k+1,q,m,c,by omega,by go_num,rfl,by omega,by rw[a.out];exact HO.out,hE⟩
   case measure=>simp[intOf];omega
  have a:Hid (fO (dK (xs.take k))=dQ xs):=by show _=_;rw[aQu (by rw[hl.out];omega)];rfl
  go_wp2_with fail;refine(aLo w1 q m c _ _ HO (by omega)).mono ?_;rintro e w2 ⟨rfl,h2,h3⟩;have t:Ext w w2:=l.own HO h3 (by omega);have h:=xQ h2;clear h2 h3;go_wp2;go_ret;exact dC (by rw[←a.out];have:=h.out.1;simpa using this) (by rw[←a.out];exact bI h g.sz) t
theorem aPc (aA aB:Int)(p:OA)(n cap:Nat)(xs:List Int)(w:World)(hS:Sl w p n cap 1 (ivs xs)):U 47 #[aH aA aB p n cap] w (aY (if aO aA aB xs then dQ xs else []) w):=by
 have hl:=hS.ilen;cases h:aO aA aB xs with
 |true=>
  have h2:kF aA aB n=true:=by simp only[aO,aQv]at h;rw[←hl];exact h.1
  rw[if_pos rfl];exact aIx aA aB p n cap xs w (cC h2).2.2.2.2.2.1 hS (fun w' hx=>by rw[←h];exact gE aA aB p n cap xs w' (hS.ext hx))
 |false=>rw[if_neg (by simp)];exact aFk aA aB p n cap w (fun w' hx=>by rw[←h];exact gE aA aB p n cap xs w' (hS.ext hx))
theorem aMq (aA aB:Int)(p:OA)(n cap:Nat)(xs:List Int)(w:World)(hS:Sl w p n cap 1 (ivs xs)):U 74 #[aH aA aB p n cap] w (aY (if aO aA aB xs then dQ xs else []) w):=by
 have hl:=hS.ilen;cases h:aO aA aB xs with
 |true=>
  have h2:kF aA aB n=true:=by simp only[aO,aQv]at h;rw[←hl];exact h.1
  rw[if_pos rfl];exact aK0 aA aB p n cap xs w (cC h2).2.2.2.2.2.1 hS (fun w' hx=>by rw[←h];exact fT aA aB p n cap xs w' (hS.ext hx))
 |false=>rw[if_neg (by simp)];exact aGs aA aB p n cap w (fun w' hx=>by rw[←h];exact fT aA aB p n cap xs w' (hS.ext hx))
def fL (f:Nat→Bool):Nat→List Int
 |0=> []
 |k+1=>fL f k++(if f k then [(k:Int)]else [])
theorem aD4 (f:Nat→Bool)(k:Nat)(x:Int):x∈fL f k↔ ∃j:Nat,j<k∧f j=true∧x=(j:Int):=by
 induction k with
 |zero=>simp[fL]
 |succ k ih=>
  unfold fL;rw[aR7,ih];constructor
  ·rintro(⟨j,h1,h2,h3⟩|h)
   ·exact⟨j,by omega,h2,h3⟩
   by_cases hf:f k=true
   ·rw[if_pos hf]at h;simp at h;exact⟨k,by omega,hf,h⟩
   rw[if_neg hf]at h;simp at h
  rintro⟨j,h1,h2,h3⟩;by_cases hj:j<k
  ·exact .inl ⟨j,hj,h2,h3⟩
  obtain rfl:j=k:=by omega
  right;rw[if_pos h2];simpa using h3
def cV (xs:List Int)(k:Nat):Bool:=xs[k]? ==some 0
def mH (xs:List Int):List Int:=fL (cV xs) xs.length
theorem aA4 (xs:List Int):mH xs= []↔(0:Int)∉xs:=by
 rw[List.eq_nil_iff_forall_not_mem];constructor
 ·intro h hm;obtain⟨k,hk,e⟩:=aS2 hm;exact h (k:Int) ((aD4 _ _ _).2 ⟨k,hk,by simp[cV,hk,e],rfl⟩)
 intro h x hx;obtain⟨j,h1,h2,h3⟩:=(aD4 _ _ _).1 hx;simp[cV,h1]at h2;exact h (by rw[←h2];exact List.getElem_mem h1)
theorem rT {wr w2:World}{B o n:Nat}{v u:Value}{xs:List Value}{ob:Obj}(ho:wr.ownsRow (B+1) TI 1 v n xs)(hg:(wr.alloc ob).grownBy w2 v.ownBlock)(hb:B<wr.heap.size)(hc:wr.cell? ⟨B,o,none⟩=some u):w2.cell? ⟨B,o,none⟩=some u:=by rw[World.cell?_of_block (w:=wr.alloc ob) (hg.block B (by simp;omega) (fun e=>by have:=ho.lt B e.symm;omega))];rw[((Ext.refl wr).alloc ob).cells.1 B o hb];exact hc
theorem aFh (aA aB:Int)(p:OA)(n cap:Nat)(w:World)(HV:xB 48 #[aH aA aB p n cap] w false):
  U 144 #[aH aA aB p n cap] w (aY [] w):=by
 go_enter func144,ntmps144;go_wp2_with fail;refine Z (HV _ (by exact .alloc (.alloc (.refl _) _) _)) fun w1 h1=>?_
 have ho:((w.alloc (.cells #[aA,aB,.slice p n cap] 31)).alloc (.cells #[] TI)).ownsRow (w.heap.size+1) TI 1 (.slice (some ⟨(w.alloc (.cells #[aA,aB,.slice p n cap] 31)).heap.size,0,none⟩) 0 0) 0 []:=aRu _ #[] 0 (by simp) (by simp[maxLen]) rfl;have a:=xQ (bB ho h1);clear ho;go_wp2;go_ret;exact dC (xs:= []) rfl (by simpa using bI a (Nat.le_succ _)) (by exact .trans (.alloc (.alloc (.refl _) _) _) h1)
theorem aIv (aA aB:Int)(p:OA)(n cap:Nat)(xs:List Int)(w:World)(hn:n≤12)(HS:Hid (Sl w p n cap 1 (ivs xs)))(HV:xB 48 #[aH aA aB p n cap] w true):
  U 144 #[aH aA aB p n cap] w (aY (mH xs) w):=by
 have hl:=xQ HS.out.ilen;go_enter func144,ntmps144;go_wp2_with fail;refine Z (HV _ (by exact .alloc (.alloc (.refl _) _) _)) fun w1 h1=>?_
 have ho:((w.alloc (.cells #[aA,aB,.slice p n cap] 31)).alloc (.cells #[] TI)).ownsRow (w.heap.size+1) TI 1 (.slice (some ⟨(w.alloc (.cells #[aA,aB,.slice p n cap] 31)).heap.size,0,none⟩) 0 0) 0 []:=aRu _ #[] 0 (by simp) (by simp[maxLen]) rfl;have r:=xQ (bB ho h1);clear ho;have aa:(w:Nat)<w1:=aQm (by first|(simp;omega)|simp) h1.sz;have eb:w1.cell? ⟨w,2,none⟩=some (.slice p n cap):=by rw[h1.cells.1 _ _ (by first|(simp;done)|(simp;omega))];simp
 have z:Ext w w1:=by exact .trans (.alloc (.alloc (.refl _) _) _) h1
 go_wp2;go_loopw [3,4] (fun v i wr=> ∃(k:Nat) (q:OA) (m c:Nat),k≤n∧i=I k∧v= .slice q m c∧m≤k∧wr.ownsRow (w.heap.size+1) TI 1 (.slice q m c) m (ivs (fL (cV xs) k))∧Ext w wr∧wr.cell? ⟨w,2,none⟩=some (.slice p n cap)∧w.heap.size<wr.heap.size) (fun _ i _=>n-(intOf i).toNat)
 case atStart=>exact⟨0,_,0,0,aQt _,rfl,rfl,aQn _,by simpa[fL]using r.out,z,eb,aa⟩
 case round=>
  obtain⟨k,q,m,c,hk,rfl,rfl,ab,h,f,ec,j⟩:=hrel;have HO:=xQ h;clear h;by_cases hlt:k<n
  ·obtain⟨b,ad,x,rfl,hx,hb,y⟩:=(HS.out.ext f).int_at hlt;have HX:=xQ hx;clear hx;by_cases hx0:x=0
   ·have t0:(x==0)=true:=by simp[hx0]
    have a:Hid (fL (cV xs) (k+1)=fL (cV xs) k++ [(k:Int)]):=by show _=_;rw[fL,if_pos (by unfold cV;rw[HX.out,hx0];rfl)]
    clear hx0;go_wp2_with (at_builtin;refine cL fM rfl _ _ rfl (w.heap.size+1) _ _ _ rfl (HO.out.alloc _) _ _ (k:Int) _ rfl (by simp) (by omega) (by simp;omega) ?_;intro p' l w2 d g;have s:=xQ d;have u:Ext w w2:=Ext.own (f.alloc _) (HO.out.alloc _) g (by omega);have t:=rT HO g j ec;have o:(w:Nat)<w2:=aQm j (by have:=g.size;simp at this;omega);clear d g);go_roundw
    case rel=>exact⟨k+1,p',m+1,l,by omega,by go_num,rfl,by omega,by rw[a.out];exact s.out,u,t,o⟩
    case measure=>simp[intOf];omega
   have t0:(x==0)=false:=by simp[hx0]
   have a:Hid (fL (cV xs) (k+1)=fL (cV xs) k):=by show _=_;rw[fL,if_neg (by unfold cV;rw[HX.out];simp[hx0]),aRi]
   clear hx0;go_wp2;go_roundw
   case rel=>exact⟨k+1,q,m,c,by omega,by go_num,rfl,by omega,by rw[a.out];exact HO.out,f,ec,j⟩
   case measure=>simp[intOf];omega
  have a:Hid (fL (cV xs) k=mH xs):=by show _=_;unfold mH;rw[hl.out,show k=n by omega]
  go_wp2;go_ret;exact dC (by rw[←a.out];have:=HO.out.1;simpa using this) (by rw[←a.out];exact bI HO (Nat.le_succ _)) f
theorem aFi (aA aB:Int)(p:OA)(n cap:Nat)(xs:List Int)(w:World)(hS:Sl w p n cap 1 (ivs xs)):U 144 #[aH aA aB p n cap] w (aY (if aO aA aB xs then mH xs else []) w):=by
 have hl:=hS.ilen;cases h:aO aA aB xs with
 |true=>
  have hb:n≤12:=by unfold aO at h;rw[aQv]at h;have:=cC h.1;omega
  simpa using aIv aA aB p n cap xs w hb hS (fun w' hx=>by have:=gE aA aB p n cap xs w' (hS.ext hx);rwa[h]at this)
 |false=>simpa using aFh aA aB p n cap w (fun w' hx=>by have:=gE aA aB p n cap xs w' (hS.ext hx);rwa[h]at this)
set_option maxRecDepth 100000 in set_option maxHeartbeats 1000000 in
theorem aGq (aA aB:Int)(p:OA)(n cap:Nat)(w:World)(HV:xB 72 #[aH aA aB p n cap] w false):
  U 189 #[aH aA aB p n cap] w (aY [] w):=by
 go_enter func189,ntmps189;go_wp2_with fail;refine Z (HV _ (by exact .alloc (.refl _) _)) fun w1 h1=>?_
 go_wp2;go_ret;exact dC (xs:= []) rfl (aR9 _ _ _ _) (by exact .trans (.alloc (.refl _) _) h1)
set_option maxRecDepth 100000 in set_option maxHeartbeats 1000000 in
theorem aJy (aA aB:Int)(p:OA)(n cap:Nat)(xs:List Int)(w:World)(hn:n≤12)(HS:Hid (Sl w p n cap 1 (ivs xs)))(HV:xB 72 #[aH aA aB p n cap] w true):
  U 189 #[aH aA aB p n cap] w (aY (mH xs) w):=by
 have hl:=xQ HS.out.ilen;go_enter func189,ntmps189;go_wp2_with fail;refine Z (HV _ (by exact .alloc (.refl _) _)) fun w1 h1=>?_
 have z:(w:Nat)<w1:=aQm (by first|(simp;omega)|simp) h1.sz;have eb:w1.cell? ⟨w,2,none⟩=some (.slice p n cap):=by rw[h1.cells.1 _ _ (by first|(simp;done)|(simp;omega))];simp
 have y:Ext w w1:=by exact .trans (.alloc (.refl _) _) h1
 go_wp2;go_loopw [3,12] (fun v i wr=> ∃(k:Nat) (q:OA) (m c:Nat),k≤n∧i=I k∧v= .slice q m c∧m≤k∧wr.ownsRow (w.heap.size+1) TI 1 (.slice q m c) m (ivs (fL (cV xs) k))∧Ext w wr∧wr.cell? ⟨w,2,none⟩=some (.slice p n cap)∧w.heap.size<wr.heap.size) (fun _ i _=>n-(intOf i).toNat)
 case atStart=>exact⟨0,_,0,0,aQt _,rfl,rfl,aQn _,aR9 _ _ _ _,y,eb,z⟩
 case round=>
  obtain⟨k,q,m,c,hk,rfl,rfl,aa,h,f,ec,j⟩:=hrel;have HO:=xQ h;clear h;by_cases hlt:k<n
  ·obtain⟨b,ab,x,rfl,hx,hb,u⟩:=(HS.out.ext f).int_at hlt;have HX:=xQ hx;clear hx;by_cases hx0:x=0
   ·have t0:(x==0)=true:=by simp[hx0]
    have a:Hid (fL (cV xs) (k+1)=fL (cV xs) k++ [(k:Int)]):=by show _=_;rw[fL,if_pos (by unfold cV;rw[HX.out,hx0];rfl)]
    clear hx0;go_wp2_with (at_builtin;refine cL fM rfl _ _ rfl (w.heap.size+1) _ _ _ rfl (HO.out.alloc _) _ _ (k:Int) _ rfl (by simp) (by omega) (by simp;omega) ?_;intro p' l w2 d g;have r:=xQ d;have t:Ext w w2:=Ext.own (f.alloc _) (HO.out.alloc _) g (by omega);have s:=rT HO g j ec;have o:(w:Nat)<w2:=aQm j (by have:=g.size;simp at this;omega);clear d g);go_roundw
    case rel=>exact⟨k+1,p',m+1,l,by omega,by go_num,rfl,by omega,by rw[a.out];exact r.out,t,s,o⟩
    case measure=>simp[intOf];omega
   have t0:(x==0)=false:=by simp[hx0]
   have a:Hid (fL (cV xs) (k+1)=fL (cV xs) k):=by show _=_;rw[fL,if_neg (by unfold cV;rw[HX.out];simp[hx0]),aRi]
   clear hx0;go_wp2;go_roundw
   case rel=>exact⟨k+1,q,m,c,by omega,by go_num,rfl,by omega,by rw[a.out];exact HO.out,f,ec,j⟩
   case measure=>simp[intOf];omega
  have a:Hid (fL (cV xs) k=mH xs):=by show _=_;unfold mH;rw[hl.out,show k=n by omega]
  go_wp2;go_ret;exact dC (by rw[←a.out];have:=HO.out.1;simpa using this) (by rw[←a.out];exact bI HO (Nat.le_succ _)) f
theorem aPs (aA aB:Int)(p:OA)(n cap:Nat)(xs:List Int)(w:World)(hS:Sl w p n cap 1 (ivs xs)):U 189 #[aH aA aB p n cap] w (aY (if aO aA aB xs then mH xs else []) w):=by
 have hl:=hS.ilen;cases h:aO aA aB xs with
 |true=>
  have hb:n≤12:=by unfold aO at h;rw[aQv]at h;have:=cC h.1;omega
  simpa using aJy aA aB p n cap xs w hb hS (fun w' hx=>by have:=fT aA aB p n cap xs w' (hS.ext hx);rwa[h]at this)
 |false=>simpa using aGq aA aB p n cap w (fun w' hx=>by have:=fT aA aB p n cap xs w' (hS.ext hx);rwa[h]at this)
end
end Go.Proofs.YtbgkcehffiogcacGreatDoor
