/-
  Texts of this proof, packed (@packed).
-/
import Derived.Deep.AppendLies
import Derived.Deep.RegionLaw
import Derived.Laws.AppendOwn
import Derived.Maps.AppendAt
import Derived.Test.YtpelpnfhbepokaaGreatDoorV2
namespace Go.Proofs.YtpelpnfhbepokaaGreatDoor
open Go Go.RowKit
set_option linter.unusedVariables false
section
variable {P:Program} {ops:Array Oper} {Q:Exit→Act→World→Prop} {md:Region.Mode} {G:Nat→Value→World→Prop} {Rd st:Nat} {X:World→World→Prop}
abbrev zC (P:Program)(ops:Array Oper)(G:Nat→Value→World→Prop)(X:World→World→Prop)(Rd st kk:Nat)(i:Nat)(o:Oper)(w:World)(a:Act):Prop:=tK P ops G X (fun k w=>Rand w Rd k) st kk i o w a
abbrev StepsLX (P:Program)(md:Region.Mode)(ops:Array Oper)(G:Nat→Value→World→Prop)(X:World→World→Prop)(Rd st:Nat)(top:Nat)(a0:Act)(W:World)(l:List Nat):Prop:=StepsLT P md ops G X (fun k w=>Rand w Rd k) st top a0 W l
theorem StepsLX.nil {a:Nat}{a0:Act}{W:World}:StepsLX P md ops G X Rd st a a0 W []:=StepsLT.nil
theorem StepsLX.cons {a:Nat}{a0:Act}{W:World}{i:Nat}{o:Oper}{ps:List (Nat×Option Tmp)}{is:List Nat}(ho:ops[i]? =some o) (hp:eQ ops i=ps)
  (h: ∀w kk,X W w→Rand w Rd kk→kk≤a→ForV G w ps a0 (zC P ops G X Rd st kk i o w)) (hs:StepsLX P md ops G X Rd st a a0 W is):StepsLX P md ops G X Rd st a a0 W (i::is):=StepsLT.cons ho hp h hs
theorem sCx {a:Nat}{a0:Act}{W:World}{i:Nat}{o:Oper}{is:List Nat}(ps:List (Nat×Option Tmp))(ho:ops[i]? =some o) (h: ∀w kk,X W w→Rand w Rd kk→kk≤a→ForV G w ps a0 (zC P ops G X Rd st kk i o w)) (hs:StepsLX P md ops G X Rd st a a0 W is) (hp:eQ ops i=ps:=by kernel_rfl):StepsLX P md ops G X Rd st a a0 W (i::is):=StepsLX.cons ho hp h hs
theorem sG {id n:Nat}{a0:Act}{w W:World}(G:Nat→Value→World→Prop)(X:World→World→Prop)(Rd k0 st:Nat)(m:Nat)(hm:P.follows .mixedOrders=true)(hn:a0.tmps.size=n)(j:mU .any ops n=true)(r:sJ .any ops=true)(ht:mD .any ops m m=true)
  (l:Rand w Rd k0)(d: ∀w,X w w)(q: ∀a b c,X a b→X b c→X a c)(hG: ∀i v w w',G i v w→X w w'→G i v w')(hW:W=w.drew){k:Nat}(o:ops.size=k)(g:m≤k){ls:List (Nat×Option Tmp)}(f:iR ops m=ls){ir:List Nat}(e:List.range m=ir)
  (hs:StepsLX P .any ops G X Rd st (k0+st*k) a0 W ir){tl:Array Bool}(p:fA m (k-m)=tl)(he: ∀w,X W w→Rand w Rd (k0+st*m)→ForV G w ls a0 (fun a=>wpAny P .any ops Q (k-m) tl a w)):
  (Code.region id ops true).wp P Q a0 w:=
 sH G X (fun k w=>Rand w Rd k) k0 st m m hm hn j r ht (fun _ _ h=>h.mono (Nat.le_add_right _ _)) (by subst hW;exact l.drew) d q hG hW o g (fun h=>absurd h (Nat.lt_irrefl _)) (fun h=>absurd h (Nat.lt_irrefl _)) (fun h=>absurd h (Nat.lt_irrefl _)) f e hs p he
end
def lM (X:World→World→Prop)(g:Value→World→Prop):Prop:= ∀v w w',g v w→X w w'→g v w'
def aGd (n:Int):Value→World→Prop:=fun v _=> ∃x:Int,v= .int .i64 x∧0≤x∧x<n
def rM:Value→World→Prop:=fun v _=> ∃x:Int,v= .int .i64 x
theorem aB2 {X:World→World→Prop}{l:List (Value→World→Prop)}(h: ∀g∈l,lM X g): ∀i v w w',gl l i v w→X w w'→gl l i v w':=by
 intro i v w w' hg hx;unfold gl at*;rw[List.getD_eq_getElem?_getD]at*;cases hi:l[i]? with
 |none=>rw[hi]at hg;exact hg
 |some g=>rw[hi]at hg;simp only[Option.getD_some]at*;exact h g (List.mem_of_getElem? hi) _ _ _ hg hx
theorem oC {X:World→World→Prop}(u:Value):lM X (gEq u):=fun _ _ _ h _=>h
theorem pE {X:World→World→Prop}:lM X rM:=fun _ _ _ h _=>h
theorem aDn {X:World→World→Prop}:lM X (fun _ _=>True):=fun _ _ _ h _=>h
def aIx:Value→World→Prop:=fun v _=> ∃b:Bool,v= .bool b
theorem sQ {X:World→World→Prop}:lM X aIx:=fun _ _ _ h _=>h
theorem aEc {X:World→World→Prop}: ∀g∈([]:List (Value→World→Prop)),lM X g:=fun _ h=>by cases h
theorem eR {X:World→World→Prop}{g:Value→World→Prop}{l:List (Value→World→Prop)}(h:lM X g)(k: ∀g∈l,lM X g): ∀g'∈g::l,lM X g':=fun g' h'=>by
 rcases List.mem_cons.1 h' with rfl|h'
 ·exact h
 exact k g' h'
section
variable {P:Program} {ops:Array Oper} {Q:Exit→Act→World→Prop} {md:Region.Mode} {G:Nat→Value→World→Prop} {Rd st:Nat}
abbrev oH (P:Program)(ops:Array Oper)(G:Nat→Value→World→Prop)(Rd st kk:Nat)(i:Nat)(o:Oper)(w:World)(a:Act):Prop:=zC P ops G (ExtR Rd) Rd st kk i o w a
abbrev StepsLR (P:Program)(md:Region.Mode)(ops:Array Oper)(G:Nat→Value→World→Prop)(Rd st:Nat)(top:Nat)(a0:Act)(W:World)(l:List Nat):Prop:=StepsLX P md ops G (ExtR Rd) Rd st top a0 W l
theorem StepsLR.nil {a:Nat}{a0:Act}{W:World}:StepsLR P md ops G Rd st a a0 W []:=StepsLX.nil
theorem StepsLR.cons {a:Nat}{a0:Act}{W:World}{i:Nat}{o:Oper}{ps:List (Nat×Option Tmp)}{is:List Nat}(ho:ops[i]? =some o) (hp:eQ ops i=ps) (h: ∀w kk,ExtR Rd W w→Rand w Rd kk→kk≤a→ForV G w ps a0 (oH P ops G Rd st kk i o w)) (hs:StepsLR P md ops G Rd st a a0 W is):StepsLR P md ops G Rd st a a0 W (i::is):=StepsLX.cons ho hp h hs
theorem sCr {a:Nat}{a0:Act}{W:World}{i:Nat}{o:Oper}{is:List Nat}(ps:List (Nat×Option Tmp))(ho:ops[i]? =some o) (h: ∀w kk,ExtR Rd W w→Rand w Rd kk→kk≤a→ForV G w ps a0 (oH P ops G Rd st kk i o w)) (hs:StepsLR P md ops G Rd st a a0 W is) (hp:eQ ops i=ps:=by kernel_rfl):StepsLR P md ops G Rd st a a0 W (i::is):=StepsLR.cons ho hp h hs
theorem sSr0 {a:Nat}{a0:Act}{W:World}{i:Nat}{o:Oper}{is:List Nat}(ps:List (Nat×Option Tmp))(hs:StepsLR P md ops G Rd st a a0 W is)(ho:ops[i]? =some o:=by exact rfl) (hp:eQ ops i=ps:=by kernel_rfl) (h: ∀w kk,ExtR Rd W w→Rand w Rd kk→kk≤a→ForV G w ps a0 (oH P ops G Rd st kk i o w):=by intro wi kk hx hr b K hK;go_simp;exact hK _ _ ⟨_,rfl,rfl,(fX hr (Ext.refl _))⟩):StepsLR P md ops G Rd st a a0 W (i::is):=StepsLR.cons ho hp h hs
theorem sSr1 {a:Nat}{a0:Act}{W:World}{i:Nat}{o:Oper}{is:List Nat}(ps:List (Nat×Option Tmp))(hs:StepsLR P md ops G Rd st a a0 W is)(ho:ops[i]? =some o:=by exact rfl) (hp:eQ ops i=ps:=by kernel_rfl) (h: ∀w kk,ExtR Rd W w→Rand w Rd kk→kk≤a→ForV G w ps a0 (oH P ops G Rd st kk i o w):=by intro wi kk hx hr b v0 h0 K hK;obtain rfl:=h0;go_simp;exact hK _ _ ⟨_,rfl,rfl,(fX hr (Ext.refl _))⟩):StepsLR P md ops G Rd st a a0 W (i::is):=StepsLR.cons ho hp h hs
theorem sSr2 {a:Nat}{a0:Act}{W:World}{i:Nat}{o:Oper}{is:List Nat}(ps:List (Nat×Option Tmp))(hs:StepsLR P md ops G Rd st a a0 W is)(ho:ops[i]? =some o:=by exact rfl) (hp:eQ ops i=ps:=by kernel_rfl) (h: ∀w kk,ExtR Rd W w→Rand w Rd kk→kk≤a→ForV G w ps a0 (oH P ops G Rd st kk i o w):=by intro wi kk hx hr b v0 h0 v1 h1 K hK;obtain rfl:=h0;obtain rfl:=h1;go_simp;exact hK _ _ ⟨_,rfl,rfl,(fX hr (Ext.refl _))⟩):StepsLR P md ops G Rd st a a0 W (i::is):=StepsLR.cons ho hp h hs
theorem sSr3 {a:Nat}{a0:Act}{W:World}{i:Nat}{o:Oper}{is:List Nat}(ps:List (Nat×Option Tmp))(hs:StepsLR P md ops G Rd st a a0 W is)(ho:ops[i]? =some o:=by exact rfl) (hp:eQ ops i=ps:=by kernel_rfl) (h: ∀w kk,ExtR Rd W w→Rand w Rd kk→kk≤a→ForV G w ps a0 (oH P ops G Rd st kk i o w):=by intro wi kk hx hr b v0 h0 v1 h1 v2 h2 K hK;obtain rfl:=h0;obtain rfl:=h1;obtain rfl:=h2;go_simp;exact hK _ _ ⟨_,rfl,rfl,(fX hr (Ext.refl _))⟩):StepsLR P md ops G Rd st a a0 W (i::is):=StepsLR.cons ho hp h hs
theorem nD {id n:Nat}{a0:Act}{w W:World}(G:Nat→Value→World→Prop)(Rd k0 st:Nat)(m:Nat)(hm:P.follows .mixedOrders=true)(hn:a0.tmps.size=n)(e:mU .any ops n=true)(l:sJ .any ops=true)(ht:mD .any ops m m=true)
  (f:Rand w Rd k0)(hG: ∀i v w w',G i v w→ExtR Rd w w'→G i v w')(hW:W=w.drew){k:Nat}(g:ops.size=k)(d:m≤k){ls:List (Nat×Option Tmp)}(c:iR ops m=ls){ir:List Nat}(b:List.range m=ir)
  (hs:StepsLR P .any ops G Rd st (k0+st*k) a0 W ir){tl:Array Bool}(j:fA m (k-m)=tl)(he: ∀w,ExtR Rd W w→Rand w Rd (k0+st*m)→ForV G w ls a0 (fun a=>wpAny P .any ops Q (k-m) tl a w)):
  (Code.region id ops true).wp P Q a0 w:=
 sG G (ExtR Rd) Rd k0 st m hm hn e l ht f (fun w=>ExtR.refl Rd w) (fun _ _ _ h k=>h.trans k) hG hW g d c b hs j he
end
abbrev lN (Rd:Nat)(g:Value→World→Prop):Prop:=lM (ExtR Rd) g
theorem uP {Rd:Nat}{l:List (Value→World→Prop)}(h: ∀g∈l,lN Rd g): ∀i v w w',gl l i v w→ExtR Rd w w'→gl l i v w':=aB2 h
theorem dY {Rd:Nat}(u:Value):lN Rd (gEq u):=oC u
theorem kQ {Rd:Nat}(n:Int):lN Rd (aGd n):=fun _ _ _ h _=>h
theorem fJ {Rd:Nat}:lN Rd rM:=pE
theorem yR {Rd:Nat}: ∀g∈([]:List (Value→World→Prop)),lN Rd g:=aEc
theorem bU {Rd:Nat}{g:Value→World→Prop}{l:List (Value→World→Prop)}(h:lN Rd g)(k: ∀g∈l,lN Rd g): ∀g'∈g::l,lN Rd g':=eR h k
theorem aDm {Rd lo:Nat}(hl:Rd<lo)(t:TypeId)(cs:Array Value):lN Rd (aKb lo t cs):=fun _ _ _ ⟨g,h1,h2,h3⟩ hx=>⟨g,h1,h2,h3.grown hx (fun e=>by injection e with e;omega)⟩
theorem aDl {Rd lo:Nat}(hl:Rd<lo)(t:TypeId)(cs:Array Value)(n:Nat):lN Rd (aKa lo t cs n):=fun _ _ _ ⟨g,h1,h2,h3⟩ hx=>⟨g,h1,h2,h3.grown hx (fun e=>by injection e with e;omega)⟩
theorem fX {Rd st k:Nat}{w w':World}(hr:Rand w Rd k)(hx:Ext w w'):ExtR Rd w w'∧Rand w' Rd (k+st):=⟨hx.r Rd,(hr.ext hx).mono (Nat.le_add_right k st)⟩
end Go.Proofs.YtpelpnfhbepokaaGreatDoor
namespace Go.Proofs.YtpelpnfhbepokaaGreatDoor
open Go.RowKit
set_option linter.unusedVariables false
structure Chg (B T:Nat) (w w':World):Prop where
 os:w'.os=w.os
 tape:w'.tape=w.tape
 output:w'.output=w.output
 size:w.heap.size≤w'.heap.size
 block: ∀i,i<w.heap.size→(i<B∨T≤i)→w'.heap[i]? =w.heap[i]?
theorem Ext.chg {w w':World}(h:Ext w w')(B T:Nat):Chg B T w w':=⟨h.os,h.tape,h.output,h.size,fun i hi _=>h.block i hi⟩
theorem Chg.trans {B T:Nat}{a b c:World}(h:Chg B T a b)(k:Chg B T b c):Chg B T a c:=
 ⟨k.os.trans h.os,k.tape.trans h.tape,k.output.trans h.output,Nat.le_trans h.size k.size,fun i hi hh=>(k.block i (Nat.lt_of_lt_of_le hi h.size) hh).trans (h.block i hi hh)⟩
theorem Chg.mono {B T B' T':Nat}{a b:World}(h:Chg B T a b)(hB:B'≤B)(hT:T≤T'):Chg B' T' a b:=
 ⟨h.os,h.tape,h.output,h.size,fun i hi hh=>h.block i hi (by omega)⟩
theorem Chg.ext {B T:Nat}{a b c:World}(h:Ext a b)(k:Chg B T b c)(hB:a.heap.size≤B):Ext a c:=
 ⟨k.os.trans h.os,k.tape.trans h.tape,k.output.trans h.output,Nat.le_trans h.size k.size,fun i hi=>(k.block i (Nat.lt_of_lt_of_le hi h.size) (.inl (Nat.lt_of_lt_of_le hi hB))).trans (h.block i hi)⟩
theorem Chg.of_grown {B T:Nat}{w w':World}{row:Option Nat}(h:w.grownBy w' row)(hr: ∀g,row=some g→B≤g∧g<T):Chg B T w w':=
 ⟨h.os,h.tape,h.output,h.size,fun i hi hh=>h.block i hi (fun e=>by have:=hr i e.symm;omega)⟩
def OwnT (w:World)(B T:Nat)(e:TypeId)(sz:Nat)(p:OA)(n cap:Nat)(xs:List Value):Prop:=
 T≤w.heap.size∧((n=0∧cap=0∧xs= [])∨(w.ownsRow B e sz (.slice p n cap) n xs∧ ∀g,(Value.slice p n cap).ownBlock=some g→g<T))
theorem OwnT.of {w:World}{B:Nat}{e:TypeId}{sz n a:Nat}{p:OA}{xs:List Value}(h:w.ownsRow B e sz (.slice p n a) n xs):OwnT w B w.heap.size e sz p n a xs:=
 ⟨Nat.le_refl _,.inr ⟨h,fun g hg=>(h.lt g hg).2⟩⟩
theorem OwnT.zero (w:World)(B:Nat)(e:TypeId)(sz:Nat)(p:OA):OwnT w B w.heap.size e sz p 0 0 []:=⟨Nat.le_refl _,.inl ⟨rfl,rfl,rfl⟩⟩
theorem OwnT.base {w:World}{B T:Nat}{e:TypeId}{sz n a:Nat}{p:OA}{xs:List Value}(h:OwnT w B T e sz p n a xs){B':Nat}(h1:B'≤B):OwnT w B' T e sz p n a xs:=by
 refine⟨h.1,?_⟩;rcases h.2 with h|⟨h,k⟩
 ·exact .inl h
 refine .inr ⟨⟨h.1,?_⟩,k⟩;rcases h.2 with h2|⟨g,b,c,e1,hb,r⟩
 ·exact .inl h2
 exact .inr ⟨g,b,c,e1,Nat.le_trans h1 hb,r⟩
theorem OwnT.chg {w w':World}{B T B' T':Nat}{e:TypeId}{sz n a:Nat}{p:OA}{xs:List Value}(h:OwnT w B T e sz p n a xs)(hc:Chg B' T' w w')(hd:T≤B'∨T'≤B):OwnT w' B T e sz p n a xs:=by
 refine⟨Nat.le_trans h.1 hc.size,?_⟩;rcases h.2 with h2|⟨h2,k⟩
 ·exact .inl h2
 refine .inr ⟨⟨h2.1,?_⟩,k⟩;rcases h2.2 with h3|⟨g,b,c,h1,hb,hg,hn,hm,hs,ht⟩
 ·exact .inl h3
 have d:(Value.slice p n a).ownBlock=some g:=by rw[h1];rfl
 have h4:=k g d;exact .inr ⟨g,b,c,h1,hb,(hc.block g (Array.getElem?_eq_some_iff.1 hg).1 (by omega)).trans hg,hn,hm,hs,ht⟩
theorem OwnT.ext {w w':World}{B T:Nat}{e:TypeId}{sz n a:Nat}{p:OA}{xs:List Value}(h:OwnT w B T e sz p n a xs)(hx:Ext w w'):OwnT w' B T e sz p n a xs:=h.chg (hx.chg T T) (.inl (Nat.le_refl _))
theorem Sl.chg {w w':World}{B T n a sz:Nat}{p:OA}{cs:List Value}(hs:Sl w p n a sz cs)(h:Chg B T w w')(hp:0<n→ ∀b off,p=some ⟨b,off,none⟩→b<B∨T≤b):Sl w' p n a sz cs:=
 ⟨hs.len,hs.le,hs.mx,fun h0=>by
  obtain⟨b,off,rfl,h1,h2⟩:=hs.rd h0
  exact⟨b,off,rfl,Nat.lt_of_lt_of_le h1 h.size,fun k hk=>(World.cell?_of_block (h.block b h1 (hp h0 b off rfl))).trans (h2 k hk)⟩⟩
structure ElT (P:Program) (t e:TypeId) (sz:Nat):Prop where
 ht:P.underlying t=some (.slice e)
 info: ∃i z,P.info? e=some i∧i.zero=some z∧i.size=sz∧i.bytes≤64∧z.cells.size=sz
 pos:0<sz
theorem lS {w:World}{base sz n:Nat}{e:TypeId}{v:Value}{xs:List Value}(h:w.ownsRow base e sz v n xs): ∃p cap,v= .slice p n cap:=by
 rcases h.2 with⟨h1,h2⟩|⟨g,cap,_,h1,_⟩
 ·exact⟨none,0,by rw[h1,h2]⟩
 exact⟨_,cap,h1⟩
theorem Ext.own {a b c:World}{base sz n:Nat}{e:TypeId}{v:Value}{xs:List Value}(h:Ext a b)(ho:b.ownsRow base e sz v n xs)(hg:b.grownBy c v.ownBlock)(hb:a.heap.size≤base):Ext a c:=
 h.grown hg (fun q hq=>Nat.le_trans hb (ho.lt q hq).1)
section
variable {P:Program} {w:World} {ops:Array Oper} {rest:List Oper} {o:Oper} {a:Act} {Q:Exit→Act→World→Prop}
theorem iZ {α:Type}{t e:TypeId}{sz:Nat}(E:ElT P t e sz){f:α→List Value}(hf: ∀a,(f a).length=sz)(h1: ∀a,∀u∈f a,u.oneCell'=true)(q:o.guard=none)(s x:Operand)
  (ho:o.op= .call {callee:= .builtin .append,args:=#[s,x],argTypes:=#[t,t]})
  (base:Nat)(v:Value)(n:Nat)(xs:List α)(hs:a.eval s=v)(k:w.ownsRow base e sz v n (xs.flatMap f))
  (b g:Nat)(y:α)(c:Nat)(hx:a.eval x= .slice (some ⟨b,g,none⟩) 1 c)(hc: ∀j u,(f y)[j]? =some u→w.cell? ⟨b,g+j,none⟩=some u)
  (hn:n≤1099511627776) (d:base≤w.heap.size)
  (h: ∀p' cap' w',w'.ownsRow base e sz (.slice p' (n+1) cap') (n+1) ((xs++ [y]).flatMap f)→w.grownBy w' v.ownBlock→wpList P ops Q rest (a.put o.dst (.slice p' (n+1) cap')) w'):wpList P ops Q (o::rest) a w:=by
 obtain⟨i,z,hi,hz,r,m,aa⟩:=E.info;refine wpList_append_own w q s x t ho base e i z sz i.bytes E.ht hi hz r rfl aa E.pos v n _ hs k ⟨b,g,none⟩ 1 c (f y) hx (by rw[hf];omega) (fun j u hu=>by rw[jQ];exact hc j u hu) (h1 y) (by unfold maxLen;omega) ?_ d ?_
 ·have:(n+1)*i.bytes≤(n+1)*64:=Nat.mul_le_mul_left _ m;omega
 intro v' w' h2 h3 _;obtain⟨p,l,rfl⟩:=lS h2;exact h p l w' (by rw[List.flatMap_append];simpa using h2) h3
theorem cI (E:ElT P 23 3 1)(i:o.guard=none)(s x:Operand)
  (ho:o.op= .call {callee:= .builtin .append,args:=#[s,x],argTypes:=#[23,23]})
  (base:Nat)(v:Value)(n:Nat)(xs:List Int)(hs:a.eval s=v)(g:w.ownsRow base 3 1 v n (ivs xs))
  (b e:Nat)(y:Int)(c:Nat)(hx:a.eval x= .slice (some ⟨b,e,none⟩) 1 c)(hc:w.cell? ⟨b,e,none⟩=some (iv y))
  (hn:n≤1099511627776)(d:base≤w.heap.size)
  (h: ∀p' cap' w',w'.ownsRow base 3 1 (.slice p' (n+1) cap') (n+1) (ivs (xs++ [y]))→w.grownBy w' v.ownBlock→wpList P ops Q rest (a.put o.dst (.slice p' (n+1) cap')) w'):wpList P ops Q (o::rest) a w:=by
 refine iZ E (f:=fun x=> [iv x]) (fun _=>rfl) (fun _ u hu=>by simp at hu;subst hu;rfl) i s x ho base v n xs hs (by rw[uH];exact g) b e y c hx (fun j u hu=> ?_) hn d (fun p' cap' w' h2 h3=>h p' cap' w' (by rw[uH]at h2;exact h2) h3)
 match j,hu with
 |0,hu=>simp at hu;subst hu;exact hc
end
theorem eV:ElT Tryz.prog 23 3 1:=
 ⟨Tryz.underlying23,by
  obtain⟨i,hi,h0,h1,h2⟩:=info_parts (show(Tryz.prog.info? 3).map (fun i=>(i.zero,i.size,i.bytes))=some (some (.int .i64 0),1,8) by kernel_rfl)
  exact⟨i,_,hi,h0,h1,by omega,rfl⟩,Nat.one_pos⟩
end Go.Proofs.YtpelpnfhbepokaaGreatDoor
namespace Go.Proofs.YtpelpnfhbepokaaGreatDoor
open Go.RowKit
set_option linter.unusedVariables false
section
variable {P:Program} (w:World)
theorem vI {t e ty:TypeId}{sz:Nat}(E:ElT P t e sz)(base:Nat)(v:Value)(n:Nat)(xs:List Value)(d:w.ownsRow base e sz v n xs)(p:OA)(m c:Nat)(news:List Value)(hs:Sl w p m c sz news)
  (h1: ∀u∈news,u.oneCell'=true)(hn:n+m≤1099511627776)(l:base≤w.heap.size):
  ∃p' cap' w',(Builtin.append_ #[t,t] ty #[v,.slice p m c]).run P w= .ok (.slice p' (n+m) cap') w'∧w'.ownsRow base e sz (.slice p' (n+m) cap') (n+m) (xs++news)∧w.grownBy w' v.ownBlock:=by
 obtain⟨i,z,hi,hz,x,s,y⟩:=E.info;cases p with
 |none=>
  have hm:m=0:=by
   rcases Nat.eq_zero_or_pos m with h0|h0
   ·exact h0
   obtain⟨b,aa,h,_⟩:=hs.rd h0;cases h
  subst hm;have a:news= []:=List.eq_nil_of_length_eq_zero (by simpa using hs.len);subst a;obtain⟨q,k,rfl⟩:=lS d;refine⟨q,k,w,?_,by simpa using d,World.grownBy.refl w _⟩;rcases d.2 with⟨h2,h3⟩|⟨g,cap',cur,h2,_,_,hnc,_⟩
  ·injection h2 with e1 e2 e3;subst e1 e2 e3;simp[Builtin.append_,run_underlying E.ht,sizeOf,typeInfo,hi,Builtin.lenOf,Builtin.firstCells]
  injection h2 with e1 e2 e3;subst e1 e3;simp[Builtin.append_,run_underlying E.ht,sizeOf,typeInfo,hi,Builtin.lenOf,Builtin.firstCells,hnc,storeCells]
 |some ad=>
  have f: ∀j u,news[j]? =some u→w.cell? (ad.add j)=some u:=by
   intro j u hu;rcases Nat.eq_zero_or_pos m with h0|h0
   ·subst h0;have a:news= []:=List.eq_nil_of_length_eq_zero (by simpa using hs.len);subst a;simp at hu
   obtain⟨b,aa,h,_,hc⟩:=hs.rd h0;injection h with h;subst h;rw[jQ,hc j (by rw[←hs.len];exact(List.getElem?_eq_some_iff.1 hu).1)];exact hu
  have r:(n+m)*i.bytes≤140737488355328:=by have:(n+m)*i.bytes≤(n+m)*64:=Nat.mul_le_mul_left _ s;omega
  obtain⟨v',w',o,h2,h3,_,_⟩:=run_append_own_at (P:=P) w base t ty e i z sz i.bytes E.ht hi hz x rfl y E.pos v n xs d ad m c news hs.len f h1 (by unfold maxLen;omega) r l;obtain⟨q,k,rfl⟩:=lS h2;exact⟨q,k,w',o,h2,h3⟩
theorem xG {o:Oper}{a:Act}{K:Act→World→Prop}{Q:Exit→Act→World→Prop}{t e:TypeId}{sz:Nat}(E:ElT P t e sz)(s x:Operand)
  (ho:o.op= .call {callee:= .builtin .append,args:=#[s,x],argTypes:=#[t,t]})
  (base:Nat)(v:Value)(n:Nat)(xs:List Value)(hs:a.eval s=v)(d:w.ownsRow base e sz v n xs)
  (p:OA)(m c:Nat)(news:List Value)(hx:a.eval x= .slice p m c)(hr:Sl w p m c sz news)(h1: ∀u∈news,u.oneCell'=true)
  (hn:n+m≤1099511627776)(b:base≤w.heap.size)
  (h: ∀p' cap' w',w'.ownsRow base e sz (.slice p' (n+m) cap') (n+m) (xs++news)→w.grownBy w' v.ownBlock→K (a.put o.dst (.slice p' (n+m) cap')) w'):o.wp P a w K Q:=by
 obtain⟨p',cap',w',f,h2,h3⟩:=vI (ty:=o.type) w E base v n xs d p m c news hr h1 hn b;unfold Oper.wp execOp;simp only[ho,resolve,invoke,builtin,Sem.run_bind,Sem.run_pure,Result.andThen_ok,List.map_toArray,List.map_cons,List.map_nil,hs,hx,f];exact h p' cap' w' h2 h3
theorem iP {f:Array Oper}{o:Oper}{a:Act}{K:Act→World→Prop}{Q:Exit→Act→World→Prop}{E0:Prop}{t e:TypeId}{sz:Nat}(E:ElT P t e sz)(g:o.guard=none)(s x:Operand)
  (ho:o.op= .call {callee:= .builtin .append,args:=#[s,x],argTypes:=#[t,t]})
  (base:Nat)(v:Value)(n:Nat)(xs:List Value)(hs:a.eval s=v)(d:w.ownsRow base e sz v n xs)
  (p:OA)(m c:Nat)(news:List Value)(hx:a.eval x= .slice p m c)(hr:Sl w p m c sz news)(h1: ∀u∈news,u.oneCell'=true)
  (hn:n+m≤1099511627776)(b:base≤w.heap.size)
  (h: ∀p' cap' w',w'.ownsRow base e sz (.slice p' (n+m) cap') (n+m) (xs++news)→w.grownBy w' v.ownBlock→K (a.put o.dst (.slice p' (n+m) cap')) w'):
  if Region.wanted o (yielded f a.tmps)=true then Oper.wp P o a w K Q else E0:=by
 have hw:Region.wanted o (yielded f a.tmps)=true:=by simp[Region.wanted,g]
 rw[if_pos hw];exact xG w E s x ho base v n xs hs d p m c news hx hr h1 hn b h
end
theorem oB (xs:List Int): ∀u∈ivs xs,u.oneCell'=true:=by intro u hu;obtain⟨x,_,rfl⟩:=List.mem_map.1 hu;rfl
end Go.Proofs.YtpelpnfhbepokaaGreatDoor
