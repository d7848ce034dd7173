/- Lemmas (@packed). -/
import Derived.Deep.AppendLies
import Derived.Deep.RegionLaw
import Derived.Laws.AppendOwn
import Derived.Maps.AppendAt
import Derived.Test.YthfmmibomhhmpabGreatDoorZ1
namespace Go.Proofs.YthfmmibomhhmpabGreatDoor
open Go.RowKit Go.Proofs.Tryz
set_option linter.all false
variable{f:FuncId}{xs:List Value}{n Rd R T g a c B' T' lo g' k i:Nat}{p q:OA}{o o':Obj}{row:Option Nat}{P:Program}{t0 t1 t t2 t3:TypeId}{a0 a1 a2:Value}{w0 w' b:World}(u:Value)(w:World)(B:Nat)(e:TypeId)(sz:Nat)
section
open Go
section
variable {P:Program} {ops:Array Oper} {Q:Exit→Act→World→Prop} {md:Region.Mode} {G:Nat→Value→World→Prop} {Rd st:Nat} {X:World→World→Prop}
abbrev aH7 (P:Program)(ops:Array Oper)(G:Nat→Value→World→Prop)(X:World→World→Prop)(Rd st kk:Nat)(i:Nat)(o:Oper)(w:World)(a:Act):Prop:=aAu P ops G X (fun k w=>Rand w Rd k) st kk i o w a
abbrev StepsLX (P:Program)(md:Region.Mode)(ops:Array Oper)(G:Nat→Value→World→Prop)(X:World→World→Prop)(Rd st:Nat)(top:Nat)(a0:Act)(W:World)(l:List Nat):Prop:=StepsLT P md ops G X (fun k w=>Rand w Rd k) st top a0 W l
theorem StepsLX.nil {a:Nat}{a0:Act}{W:World}:StepsLX P md ops G X Rd st a a0 W []:=StepsLT.nil
theorem StepsLX.cons {a:Nat}{a0:Act}{W:World}{i:Nat}{o:Oper}{ps:List (Nat×Option Tmp)}{is:List Nat}(ho:ops[i]? =some o) (hp:gM ops i=ps)
  (h: ∀w kk,X W w→Rand w Rd kk→kk≤a→ForV G w ps a0 (aH7 P ops G X Rd st kk i o w)) (hs:StepsLX P md ops G X Rd st a a0 W is):StepsLX P md ops G X Rd st a a0 W (i::is):=StepsLT.cons ho hp h hs
theorem sCx {a:Nat}{a0:Act}{W:World}{i:Nat}{o:Oper}{is:List Nat}(ps:List (Nat×Option Tmp))(ho:ops[i]? =some o) (h: ∀w kk,X W w→Rand w Rd kk→kk≤a→ForV G w ps a0 (aH7 P ops G X Rd st kk i o w)) (hs:StepsLX P md ops G X Rd st a a0 W is) (hp:gM ops i=ps:=by kernel_rfl):StepsLX P md ops G X Rd st a a0 W (i::is):=StepsLX.cons ho hp h hs
theorem sI {id n:Nat}{a0:Act}{w W:World}(G:Nat→Value→World→Prop)(X:World→World→Prop)(Rd k0 st:Nat)(m:Nat)(hm:P.follows .mixedOrders=true)(hn:a0.tmps.size=n)(j:qA .any ops n=true)(r:xF .any ops=true)(ht:oP .any ops m m=true)
  (l:Rand w Rd k0)(d: ∀w,X w w)(q: ∀a b c,X a b→X b c→X a c)(hG: ∀i v w w',G i v w→X w w'→G i v w')(hW:W=w.drew){k:Nat}(o:ops.size=k)(g:m≤k){ls:List (Nat×Option Tmp)}(f:sY ops m=ls){ir:List Nat}(e:List.range m=ir)
  (hs:StepsLX P .any ops G X Rd st (k0+st*k) a0 W ir){tl:Array Bool}(p:iD m (k-m)=tl)(he: ∀w,X W w→Rand w Rd (k0+st*m)→ForV G w ls a0 (fun a=>wpAny P .any ops Q (k-m) tl a w)):
  (Code.region id ops true).wp P Q a0 w:=
 sJ G X (fun k w=>Rand w Rd k) k0 st m m hm hn j r ht (fun _ _ h=>h.mono (Nat.le_add_right _ _)) (by subst hW;exact l.drew) d q hG hW o g (fun h=>absurd h (Nat.lt_irrefl _)) (fun h=>absurd h (Nat.lt_irrefl _)) (fun h=>absurd h (Nat.lt_irrefl _)) f e hs p he
end
def pP (X:World→World→Prop)(g:Value→World→Prop):Prop:= ∀v w w',g v w→X w w'→g v w'
def aM1 (n:Int):Value→World→Prop:=fun v _=> ∃x:Int,v= .int .i64 x∧0≤x∧x<n
def zD:Value→World→Prop:=fun v _=> ∃x:Int,v= .int .i64 x
theorem aCa {X:World→World→Prop}{l:List (Value→World→Prop)}(h: ∀g∈l,pP X g): ∀i v w w',gl l i v w→X w w'→gl l i v w':=by
 intro i v w w' hg hx;unfold gl at*;rw[aW7]at*;cases hi:l[i]? with
 |none=>rw[hi]at hg;exact hg
 |some g=>rw[hi]at hg;simp only[Option.getD_some]at*;exact h g (aW1 hi) _ _ _ hg hx
theorem lE {X:World→World→Prop}:pP X (gEq u):=fun _ _ _ h _=>h
theorem vZ {X:World→World→Prop}:pP X zD:=fun _ _ _ h _=>h
theorem aM4 {X:World→World→Prop}:pP X (fun _ _=>True):=fun _ _ _ h _=>h
def aSd:Value→World→Prop:=fun v _=> ∃b:Bool,v= .bool b
theorem aA7 {X:World→World→Prop}:pP X aSd:=fun _ _ _ h _=>h
theorem aGv {X:World→World→Prop}: ∀g∈([]:List (Value→World→Prop)),pP X g:=fun _ h=>by cases h
theorem eB {X:World→World→Prop}{g:Value→World→Prop}{l:List (Value→World→Prop)}(h:pP X g)(k: ∀g∈l,pP X g): ∀g'∈g::l,pP X g':=fun g' h'=>by
 rcases aWd.1 h' with rfl|h'
 ·exact h
 exact k g' h'
section
variable {P:Program} {ops:Array Oper} {Q:Exit→Act→World→Prop} {md:Region.Mode} {G:Nat→Value→World→Prop} {Rd st:Nat}
abbrev uM (P:Program)(ops:Array Oper)(G:Nat→Value→World→Prop)(Rd st kk:Nat)(i:Nat)(o:Oper)(w:World)(a:Act):Prop:=aH7 P ops G (ExtR Rd) Rd st kk i o w a
abbrev StepsLR (P:Program)(md:Region.Mode)(ops:Array Oper)(G:Nat→Value→World→Prop)(Rd st:Nat)(top:Nat)(a0:Act)(W:World)(l:List Nat):Prop:=StepsLX P md ops G (ExtR Rd) Rd st top a0 W l
theorem StepsLR.nil {a:Nat}{a0:Act}{W:World}:StepsLR P md ops G Rd st a a0 W []:=StepsLX.nil
theorem StepsLR.cons {a:Nat}{a0:Act}{W:World}{i:Nat}{o:Oper}{ps:List (Nat×Option Tmp)}{is:List Nat}(ho:ops[i]? =some o) (hp:gM ops i=ps) (h: ∀w kk,ExtR Rd W w→Rand w Rd kk→kk≤a→ForV G w ps a0 (uM P ops G Rd st kk i o w)) (hs:StepsLR P md ops G Rd st a a0 W is):StepsLR P md ops G Rd st a a0 W (i::is):=StepsLX.cons ho hp h hs
theorem sCr {a:Nat}{a0:Act}{W:World}{i:Nat}{o:Oper}{is:List Nat}(ps:List (Nat×Option Tmp))(ho:ops[i]? =some o) (h: ∀w kk,ExtR Rd W w→Rand w Rd kk→kk≤a→ForV G w ps a0 (uM P ops G Rd st kk i o w)) (hs:StepsLR P md ops G Rd st a a0 W is) (hp:gM ops i=ps:=by kernel_rfl):StepsLR P md ops G Rd st a a0 W (i::is):=StepsLR.cons ho hp h hs
theorem sSr0 {a:Nat}{a0:Act}{W:World}{i:Nat}{o:Oper}{is:List Nat}(ps:List (Nat×Option Tmp))(hs:StepsLR P md ops G Rd st a a0 W is)(ho:ops[i]? =some o:=by exact rfl) (hp:gM ops i=ps:=by kernel_rfl) (h: ∀w kk,ExtR Rd W w→Rand w Rd kk→kk≤a→ForV G w ps a0 (uM P ops G Rd st kk i o w):=by intro wi kk hx hr b K hK;go_simp;exact hK _ _ ⟨_,rfl,rfl,(kN hr (Ext.refl _))⟩):StepsLR P md ops G Rd st a a0 W (i::is):=StepsLR.cons ho hp h hs
theorem sSr1 {a:Nat}{a0:Act}{W:World}{i:Nat}{o:Oper}{is:List Nat}(ps:List (Nat×Option Tmp))(hs:StepsLR P md ops G Rd st a a0 W is)(ho:ops[i]? =some o:=by exact rfl) (hp:gM ops i=ps:=by kernel_rfl) (h: ∀w kk,ExtR Rd W w→Rand w Rd kk→kk≤a→ForV G w ps a0 (uM P ops G Rd st kk i o w):=by intro wi kk hx hr b v0 h0 K hK;obtain rfl:=h0;go_simp;exact hK _ _ ⟨_,rfl,rfl,(kN hr (Ext.refl _))⟩):StepsLR P md ops G Rd st a a0 W (i::is):=StepsLR.cons ho hp h hs
theorem sSr2 {a:Nat}{a0:Act}{W:World}{i:Nat}{o:Oper}{is:List Nat}(ps:List (Nat×Option Tmp))(hs:StepsLR P md ops G Rd st a a0 W is)(ho:ops[i]? =some o:=by exact rfl) (hp:gM ops i=ps:=by kernel_rfl) (h: ∀w kk,ExtR Rd W w→Rand w Rd kk→kk≤a→ForV G w ps a0 (uM P ops G Rd st kk i o w):=by intro wi kk hx hr b v0 h0 v1 h1 K hK;subst h0 h1;go_simp;exact hK _ _ ⟨_,rfl,rfl,(kN hr (Ext.refl _))⟩):StepsLR P md ops G Rd st a a0 W (i::is):=StepsLR.cons ho hp h hs
theorem sSr3 {a:Nat}{a0:Act}{W:World}{i:Nat}{o:Oper}{is:List Nat}(ps:List (Nat×Option Tmp))(hs:StepsLR P md ops G Rd st a a0 W is)(ho:ops[i]? =some o:=by exact rfl) (hp:gM ops i=ps:=by kernel_rfl) (h: ∀w kk,ExtR Rd W w→Rand w Rd kk→kk≤a→ForV G w ps a0 (uM P ops G Rd st kk i o w):=by intro wi kk hx hr b v0 h0 v1 h1 v2 h2 K hK;subst h0 h1 h2;go_simp;exact hK _ _ ⟨_,rfl,rfl,(kN hr (Ext.refl _))⟩):StepsLR P md ops G Rd st a a0 W (i::is):=StepsLR.cons ho hp h hs
theorem zV {id n:Nat}{a0:Act}{w W:World}(G:Nat→Value→World→Prop)(Rd k0 st:Nat)(m:Nat)(hm:P.follows .mixedOrders=true)(hn:a0.tmps.size=n)(e:qA .any ops n=true)(l:xF .any ops=true)(ht:oP .any ops m m=true)
  (f:Rand w Rd k0)(hG: ∀i v w w',G i v w→ExtR Rd w w'→G i v w')(hW:W=w.drew){k:Nat}(g:ops.size=k)(d:m≤k){ls:List (Nat×Option Tmp)}(c:sY ops m=ls){ir:List Nat}(b:List.range m=ir)
  (hs:StepsLR P .any ops G Rd st (k0+st*k) a0 W ir){tl:Array Bool}(j:iD m (k-m)=tl)(he: ∀w,ExtR Rd W w→Rand w Rd (k0+st*m)→ForV G w ls a0 (fun a=>wpAny P .any ops Q (k-m) tl a w)):
  (Code.region id ops true).wp P Q a0 w:=
 sI G (ExtR Rd) Rd k0 st m hm hn e l ht f (fun w=>ExtR.refl Rd w) (fun _ _ _ h k=>h.trans k) hG hW g d c b hs j he
end
abbrev pQ (Rd:Nat)(g:Value→World→Prop):Prop:=pP (ExtR Rd) g
theorem aJ9 {l:List (Value→World→Prop)}(h: ∀g∈l,pQ Rd g): ∀i v w w',gl l i v w→ExtR Rd w w'→gl l i v w':=aCa h
theorem iM:pQ Rd (gEq u):=lE u
theorem oJ (n:Int):pQ Rd (aM1 n):=fun _ _ _ h _=>h
theorem jB:pQ Rd zD:=vZ
theorem aMw: ∀g∈([]:List (Value→World→Prop)),pQ Rd g:=aGv
theorem cR {g:Value→World→Prop}{l:List (Value→World→Prop)}(h:pQ Rd g)(k: ∀g∈l,pQ Rd g): ∀g'∈g::l,pQ Rd g':=eB h k
theorem aM3 (hl:Rd<lo)(t:TypeId)(cs:Array Value):pQ Rd (aJa lo t cs):=fun _ _ _ ⟨g,h1,h2,h3⟩ hx=>⟨g,h1,h2,h3.grown hx (fun e=>by injection e with e;omega)⟩
theorem aM2 (hl:Rd<lo)(t:TypeId)(cs:Array Value)(n:Nat):pQ Rd (aDn lo t cs n):=fun _ _ _ ⟨g,h1,h2,h3⟩ hx=>⟨g,h1,h2,h3.grown hx (fun e=>by injection e with e;omega)⟩
theorem kN {st:Nat}{w:World}(hr:Rand w Rd k)(hx:Ext w w'):ExtR Rd w w'∧Rand w' Rd (k+st):=⟨hx.r Rd,(hr.ext hx).mono (Nat.le_add_right k st)⟩
end
structure Chg (B T:Nat) (w w':World):Prop where
 os:w'.os=w.os
 tape:w'.tape=w.tape
 output:w'.output=w.output
 size:w.heap.size≤w'.heap.size
 block: ∀i,i<w.heap.size→(i<B∨T≤i)→w'.heap[i]? =w.heap[i]?
theorem Chg.refl (T:Nat)(w:World):Chg B T w w:=⟨rfl,rfl,rfl,aVz _,fun _ _ _=>rfl⟩
theorem Ext.chg {w:World}(h:Ext w w')(B T:Nat):Chg B T w w':=⟨h.os,h.tape,h.output,h.size,fun i hi _=>h.block i hi⟩
theorem Chg.trans {B:Nat}{a c:World}(h:Chg B T a b)(k:Chg B T b c):Chg B T a c:=
 ⟨k.os.trans h.os,k.tape.trans h.tape,k.output.trans h.output,aW8 h.size k.size,fun i hi hh=>(k.block i (aVy hi h.size) hh).trans (h.block i hi hh)⟩
theorem Chg.mono {B:Nat}{a:World}(h:Chg B T a b)(hB:B'≤B)(hT:T≤T'):Chg B' T' a b:=
 ⟨h.os,h.tape,h.output,h.size,fun i hi hh=>h.block i hi (by omega)⟩
theorem Chg.ext {B:Nat}{a c:World}(h:Ext a b)(k:Chg B T b c)(hB:a.heap.size≤B):Ext a c:=
 ⟨k.os.trans h.os,k.tape.trans h.tape,k.output.trans h.output,aW8 h.size k.size,fun i hi=>(k.block i (aVy hi h.size) (.inl (aVy hi hB))).trans (h.block i hi)⟩
theorem Chg.of_grown {B:Nat}{w:World}(h:w.grownBy w' row)(hr: ∀g,row=some g→B≤g∧g<T):Chg B T w w':=
 ⟨h.os,h.tape,h.output,h.size,fun i hi hh=>h.block i hi (fun e=>by have:=hr i e.symm;omega)⟩
def OwnT (w:World)(B T:Nat)(e:TypeId)(sz:Nat)(p:OA)(n cap:Nat)(xs:List Value):Prop:=
 T≤w.heap.size∧((n=0∧cap=0∧xs= [])∨(w.ownsRow B e sz (.slice p n cap) n xs∧ ∀g,(Value.slice p n cap).ownBlock=some g→g<T))
theorem OwnT.of {w:World}{B:Nat}{e:TypeId}{sz:Nat}(h:w.ownsRow B e sz (.slice p n a) n xs):OwnT w B w e sz p n a xs:=
 ⟨aVz _,.inr ⟨h,fun g hg=>(h.lt g hg).2⟩⟩
theorem OwnT.zero (p:OA):OwnT w B w e sz p 0 0 []:=⟨aVz _,.inl ⟨rfl,rfl,rfl⟩⟩
theorem OwnT.sl {w:World}{B:Nat}{e:TypeId}{sz:Nat}(h:OwnT w B T e sz p n a xs):Sl w p n a sz xs:=by
 rcases h.2 with⟨rfl,rfl,rfl⟩|h
 ·exact⟨by simp,aVz _,aW6 _,fun h=>absurd h (by omega)⟩
 exact Sl.own h.1
theorem OwnT.top {w:World}{B:Nat}{e:TypeId}{sz:Nat}(h:OwnT w B T e sz p n a xs)(h1:T≤T')(h2:T'≤w.heap.size):OwnT w B T' e sz p n a xs:=by
 refine⟨h2,?_⟩;rcases h.2 with h|⟨h,k⟩
 ·exact .inl h
 exact .inr ⟨h,fun g hg=>aVy (k g hg) h1⟩
theorem OwnT.base {w:World}{B:Nat}{e:TypeId}{sz:Nat}(h:OwnT w B T e sz p n a xs)(h1:B'≤B):OwnT w B' T e sz p n a xs:=by
 refine⟨h.1,?_⟩;rcases h.2 with h|⟨h,k⟩
 ·exact .inl h
 refine .inr ⟨⟨h.1,?_⟩,k⟩;rcases h.2 with h2|⟨g,b,c,e1,hb,r⟩
 ·exact .inl h2
 exact .inr ⟨g,b,c,e1,aW8 h1 hb,r⟩
theorem OwnT.chg {w:World}{B:Nat}{e:TypeId}{sz:Nat}(h:OwnT w B T e sz p n a xs)(hc:Chg B' T' w w')(hd:T≤B'∨T'≤B):OwnT w' B T e sz p n a xs:=by
 refine⟨aW8 h.1 hc.size,?_⟩;rcases h.2 with h2|⟨h2,k⟩
 ·exact .inl h2
 refine .inr ⟨⟨h2.1,?_⟩,k⟩;rcases h2.2 with h3|⟨g,b,c,h1,hb,hg,hn,hm,hs,ht⟩
 ·exact .inl h3
 have d:(Value.slice p n a).ownBlock=some g:=by rw[h1];rfl
 have h4:=k g d;exact .inr ⟨g,b,c,h1,hb,(hc.block g (aX6.1 hg).1 (by omega)).trans hg,hn,hm,hs,ht⟩
theorem OwnT.ext {w:World}{B:Nat}{e:TypeId}{sz:Nat}(h:OwnT w B T e sz p n a xs)(hx:Ext w w'):OwnT w' B T e sz p n a xs:=h.chg (hx.chg T T) (.inl (aVz _))
theorem Sl.chg {w:World}{B sz:Nat}{cs:List Value}(hs:Sl w p n a sz cs)(h:Chg B T w w')(hp:0<n→ ∀b off,p=some ⟨b,off,none⟩→b<B∨T≤b):Sl w' p n a sz cs:=
 ⟨hs.len,hs.le,hs.mx,fun h0=>by
  obtain⟨b,off,rfl,h1,h2⟩:=hs.rd h0
  exact⟨b,off,rfl,aVy h1 h.size,fun k hk=>(World.cell?_of_block (h.block b h1 (hp h0 b off rfl))).trans (h2 k hk)⟩⟩
section
structure ElT (P:Program) (t e:TypeId) (sz:Nat):Prop where
 ht:P.underlying t=some (.slice e)
 info: ∃i z,P.info? e=some i∧i.zero=some z∧i.size=sz∧i.bytes≤64∧z.cells.size=sz
 pos:0<sz
theorem pW {w:World}{base sz:Nat}{e:TypeId}{v:Value}(h:w.ownsRow base e sz v n xs): ∃p cap,v= .slice p n cap:=by
 rcases h.2 with⟨h1,h2⟩|⟨g,cap,_,h1,_⟩
 ·exact⟨none,0,by rw[h1,h2]⟩
 exact⟨_,cap,h1⟩
theorem Ext.own {a c:World}{base sz:Nat}{e:TypeId}{v:Value}(h:Ext a b)(ho:b.ownsRow base e sz v n xs)(hg:b.grownBy c v.ownBlock)(hb:a.heap.size≤base):Ext a c:=
 h.grown hg (fun q hq=>aW8 hb (ho.lt q hq).1)
section
variable {P:Program} {w:World} {ops:Array Oper} {rest:List Oper} {o:Oper} {a:Act} {Q:Exit→Act→World→Prop}
theorem jV {α:Type}{t e:TypeId}{sz:Nat}(E:ElT P t e sz){f:α→List Value}(hf: ∀a,(f a).length=sz)(h1: ∀a,∀u∈f a,u.oneCell'=true)(q:o.guard=none)(s x:Operand)
  (ho:o.op= .call {callee:= .builtin .append,args:=#[s,x],argTypes:=#[t,t]})
  (base:Nat)(v:Value)(n:Nat)(xs:List α)(hs:a.eval s=v)(k:w.ownsRow base e sz v n (xs.flatMap f))
  (b g:Nat)(y:α)(c:Nat)(hx:a.eval x= .slice (some ⟨b,g,none⟩) 1 c)(hc: ∀j u,(f y)[j]? =some u→w.cell? ⟨b,g+j,none⟩=some u)
  (hn:n≤1099511627776) (d:base≤w.heap.size)
  (h: ∀p' cap' w',w'.ownsRow base e sz (.slice p' (n+1) cap') (n+1) ((xs++ [y]).flatMap f)→w.grownBy w' v.ownBlock→wpList P ops Q rest (a.put o.dst (.slice p' (n+1) cap')) w'):wpList P ops Q (o::rest) a w:=by
 obtain⟨i,z,hi,hz,r,m,aa⟩:=E.info;refine wpList_append_own w q s x t ho base e i z sz i.bytes E.ht hi hz r rfl aa E.pos v n _ hs k ⟨b,g,none⟩ 1 c (f y) hx (by rw[hf];omega) (fun j u hu=>by rw[lU];exact hc j u hu) (h1 y) (by unfold maxLen;omega) ?_ d ?_
 ·have:(n+1)*i.bytes≤(n+1)*64:=Nat.mul_le_mul_left _ m;omega
 intro v' w' h2 h3 _;obtain⟨p,l,rfl⟩:=pW h2;exact h p l w' (by rw[aX4];simpa using h2) h3
theorem dB (E:ElT P 25 3 1)(i:o.guard=none)(s x:Operand)
  (ho:o.op= .call {callee:= .builtin .append,args:=#[s,x],argTypes:=#[25,25]})
  (base:Nat)(v:Value)(n:Nat)(xs:List Int)(hs:a.eval s=v)(g:w.ownsRow base 3 1 v n (ivs xs))
  (b e:Nat)(y:Int)(c:Nat)(hx:a.eval x= .slice (some ⟨b,e,none⟩) 1 c)(hc:w.cell? ⟨b,e,none⟩=some (iv y))
  (hn:n≤1099511627776)(d:base≤w.heap.size)
  (h: ∀p' cap' w',w'.ownsRow base 3 1 (.slice p' (n+1) cap') (n+1) (ivs (xs++ [y]))→w.grownBy w' v.ownBlock→wpList P ops Q rest (a.put o.dst (.slice p' (n+1) cap')) w'):wpList P ops Q (o::rest) a w:=by
 refine jV E (f:=fun x=> [iv x]) (fun _=>rfl) (fun _ u hu=>by simp at hu;subst hu;rfl) i s x ho base v n xs hs (by rw[aBz];exact g) b e y c hx (fun j u hu=> ?_) hn d (fun p' cap' w' h2 h3=>h p' cap' w' (by rw[aBz]at h2;exact h2) h3)
 match j,hu with
 |0,hu=>simp at hu;subst hu;exact hc
end
theorem iA:ElT prog 25 3 1:=
 ⟨underlying25,by
  obtain⟨i,hi,h0,h1,h2⟩:=info_parts (show(prog.info? 3).map (fun i=>(i.zero,i.size,i.bytes))=some (some (I 0),1,8) by kernel_rfl)
  exact⟨i,_,hi,h0,h1,by omega,rfl⟩,Nat.one_pos⟩
end
section
section
variable {P:Program} (w:World)
theorem aD9 {t e ty:TypeId}{sz:Nat}(E:ElT P t e sz)(base:Nat)(v:Value)(n:Nat)(xs:List Value)(d:w.ownsRow base e sz v n xs)(p:OA)(m c:Nat)(news:List Value)(hs:Sl w p m c sz news)
  (h1: ∀u∈news,u.oneCell'=true)(hn:n+m≤1099511627776)(l:base≤w.heap.size):
  ∃p' cap' w',(Builtin.append_ #[t,t] ty #[v,.slice p m c]).run P w= .ok (.slice p' (n+m) cap') w'∧w'.ownsRow base e sz (.slice p' (n+m) cap') (n+m) (xs++news)∧w.grownBy w' v.ownBlock:=by
 obtain⟨i,z,hi,hz,x,s,y⟩:=E.info;cases p with
 |none=>
  have hm:m=0:=by
   rcases Nat.eq_zero_or_pos m with h0|h0
   ·exact h0
   obtain⟨b,aa,h,_⟩:=hs.rd h0;cases h
  subst hm;have a:news= []:=aWv (by simpa using hs.len);subst a;obtain⟨q,k,rfl⟩:=pW d;refine⟨q,k,w,?_,by simpa using d,aXk w _⟩;rcases d.2 with⟨h2,h3⟩|⟨g,cap',cur,h2,_,_,hnc,_⟩
  ·injection h2 with e1 e2 e3;subst e1 e2 e3;simp[Builtin.append_,run_underlying E.ht,sizeOf,typeInfo,hi,Builtin.lenOf,Builtin.firstCells]
  injection h2 with e1 e2 e3;subst e1 e3;simp[Builtin.append_,run_underlying E.ht,sizeOf,typeInfo,hi,Builtin.lenOf,Builtin.firstCells,hnc,storeCells]
 |some ad=>
  have f: ∀j u,news[j]? =some u→w.cell? (ad.add j)=some u:=by
   intro j u hu;rcases Nat.eq_zero_or_pos m with h0|h0
   ·subst h0;have a:news= []:=aWv (by simpa using hs.len);subst a;simp at hu
   obtain⟨b,aa,h,_,hc⟩:=hs.rd h0;injection h with h;subst h;rw[lU,hc j (by rw[←hs.len];exact(aW3.1 hu).1)];exact hu
  have r:(n+m)*i.bytes≤140737488355328:=by have:(n+m)*i.bytes≤(n+m)*64:=Nat.mul_le_mul_left _ s;omega
  obtain⟨v',w',o,h2,h3,_,_⟩:=run_append_own_at (P:=P) w base t ty e i z sz i.bytes E.ht hi hz x rfl y E.pos v n xs d ad m c news hs.len f h1 (by unfold maxLen;omega) r l;obtain⟨q,k,rfl⟩:=pW h2;exact⟨q,k,w',o,h2,h3⟩
theorem aF5 {o:Oper}{a:Act}{K:Act→World→Prop}{Q:Exit→Act→World→Prop}{t e:TypeId}{sz:Nat}(E:ElT P t e sz)(s x:Operand)
  (ho:o.op= .call {callee:= .builtin .append,args:=#[s,x],argTypes:=#[t,t]})
  (base:Nat)(v:Value)(n:Nat)(xs:List Value)(hs:a.eval s=v)(d:w.ownsRow base e sz v n xs)
  (p:OA)(m c:Nat)(news:List Value)(hx:a.eval x= .slice p m c)(hr:Sl w p m c sz news)(h1: ∀u∈news,u.oneCell'=true)
  (hn:n+m≤1099511627776)(b:base≤w.heap.size)
  (h: ∀p' cap' w',w'.ownsRow base e sz (.slice p' (n+m) cap') (n+m) (xs++news)→w.grownBy w' v.ownBlock→K (a.put o.dst (.slice p' (n+m) cap')) w'):o.wp P a w K Q:=by
 obtain⟨p',cap',w',f,h2,h3⟩:=aD9 (ty:=o.type) w E base v n xs d p m c news hr h1 hn b;unfold Oper.wp execOp;simp only[ho,resolve,invoke,builtin,Sem.run_bind,Sem.run_pure,Result.andThen_ok,List.map_toArray,aXl,List.map_nil,hs,hx,f];exact h p' cap' w' h2 h3
theorem gG {f:Array Oper}{o:Oper}{a:Act}{K:Act→World→Prop}{Q:Exit→Act→World→Prop}{E0:Prop}{t e:TypeId}{sz:Nat}(E:ElT P t e sz)(g:o.guard=none)(s x:Operand)
  (ho:o.op= .call {callee:= .builtin .append,args:=#[s,x],argTypes:=#[t,t]})
  (base:Nat)(v:Value)(n:Nat)(xs:List Value)(hs:a.eval s=v)(d:w.ownsRow base e sz v n xs)
  (p:OA)(m c:Nat)(news:List Value)(hx:a.eval x= .slice p m c)(hr:Sl w p m c sz news)(h1: ∀u∈news,u.oneCell'=true)
  (hn:n+m≤1099511627776)(b:base≤w.heap.size)
  (h: ∀p' cap' w',w'.ownsRow base e sz (.slice p' (n+m) cap') (n+m) (xs++news)→w.grownBy w' v.ownBlock→K (a.put o.dst (.slice p' (n+m) cap')) w'):
  if Region.wanted o (yielded f a.tmps)=true then Oper.wp P o a w K Q else E0:=by
 have hw:Region.wanted o (yielded f a.tmps)=true:=by simp[Region.wanted,g]
 rw[if_pos hw];exact aF5 w E s x ho base v n xs hs d p m c news hx hr h1 hn b h
end
theorem rD (xs:List Int): ∀u∈ivs xs,u.oneCell'=true:=by intro u hu;obtain⟨x,_,rfl⟩:=List.mem_map.1 hu;rfl
end
section
open Go
structure Item where
 adr:Nat→Prop
 ok:World→Prop
structure Item.Good (it:Item) (B:Nat):Prop where
 lt: ∀w,it.ok w→ ∀g,it.adr g→B≤g∧g<w.heap.size
 stay: ∀w w',it.ok w→w.heap.size≤w'.heap.size→(∀g,it.adr g→w'.heap[g]? =w.heap[g]?)→it.ok w'
def aI (B g:Nat)(t:TypeId)(cs:Array Value):Item:=⟨fun x=>g=x,fun w=>B≤g∧Blk w g t cs⟩
def aJ (B:Nat)(e:TypeId)(sz:Nat)(q:OA)(n c:Nat)(xs:List Value):Item:=⟨fun x=>(Value.slice q n c).ownBlock=some x,fun w=>w.ownsRow B e sz (.slice q n c) n xs⟩
theorem qI (g:Nat)(t:TypeId)(cs:Array Value):(aI B g t cs).Good B:=
 ⟨fun w h g' hg=>by obtain rfl:g=g':=hg;exact⟨h.1,h.2.lt⟩,fun w w' h _ hs=>⟨h.1,(hs g rfl).trans h.2⟩⟩
theorem mW {w:World}{B sz:Nat}{e:TypeId}{v:Value}(h:w.ownsRow B e sz v n xs)(hs: ∀g,v.ownBlock=some g→w'.heap[g]? =w.heap[g]?):w'.ownsRow B e sz v n xs:=by
 refine⟨h.1,?_⟩;rcases h.2 with h2|⟨g,a,b,h1,h3,h4,h5⟩
 ·exact .inl h2
 refine .inr ⟨g,a,b,h1,h3,?_,h5⟩;rw[hs g (by rw[h1];rfl)];exact h4
theorem eQ (q:OA)(n c:Nat)(xs:List Value):(aJ B e sz q n c xs).Good B:=
 ⟨fun w h g hg=>aWw h g hg,fun w w' h _ hs=>mW h hs⟩
theorem dX {w:World}{B sz:Nat}{e:TypeId}{v:Value}(h:w.ownsRow B e sz v n xs)(hb:B'≤B):w.ownsRow B' e sz v n xs:=by
 refine⟨h.1,?_⟩;rcases h.2 with h2|⟨g,a,b,e1,c,r⟩
 ·exact .inl h2
 exact .inr ⟨g,a,b,e1,aW8 hb c,r⟩
structure RowD where
 q:Option Addr
 n:Nat
 c:Nat
 xs:List Value
abbrev RowD.v (r:RowD):Value:= .slice r.q r.n r.c
def zL (B:Nat)(eo ei:TypeId)(sz:Nat)(q:OA)(c:Nat)(rows:List RowD)(w:World):Prop:=
 w.ownsRow B eo 1 (.slice q rows.length c) rows.length (rows.map RowD.v)∧ ∀r∈rows,w.ownsRow B ei sz r.v r.n r.xs
def iQ (B:Nat)(ei:TypeId)(sz:Nat)(rows:List RowD):Item:=⟨fun x=> ∃r∈rows,r.v.ownBlock=some x,fun w=> ∀r∈rows,w.ownsRow B ei sz r.v r.n r.xs⟩
theorem qU (ei:TypeId)(sz:Nat)(rows:List RowD):(iQ B ei sz rows).Good B:=
 ⟨fun w h g ⟨r,hr,hg⟩=>aWw (h r hr) g hg,fun w w' h _ hs r hr=>mW (h r hr) (fun g hg=>hs g ⟨r,hr,hg⟩)⟩
def rW (B:Nat)(eo ei:TypeId)(sz:Nat)(q:OA)(c:Nat)(rows:List RowD):Item:=⟨fun x=>(Value.slice q rows.length c).ownBlock=some x∨ ∃r∈rows,r.v.ownBlock=some x,zL B eo ei sz q c rows⟩
theorem aBr (eo ei:TypeId)(sz:Nat)(q:OA)(c:Nat)(rows:List RowD):(rW B eo ei sz q c rows).Good B:=
 ⟨fun w h g hg=>by
  rcases hg with hg|⟨r,hr,hg⟩
  ·exact aWw h.1 g hg
  ·exact aWw (h.2 r hr) g hg,
  fun w w' h _ hs=>⟨mW h.1 (fun g hg=>hs g (.inl hg)),fun r hr=>mW (h.2 r hr) (fun g hg=>hs g (.inr ⟨r,hr,hg⟩))⟩⟩
structure Mem (w0 w:World) (L:List Item):Prop where
 ext:Ext w0 w
 good: ∀it∈L,it.Good w0.heap.size
 ok: ∀it∈L,it.ok w
 apart:L.Pairwise (fun a b=> ∀g,a.adr g→ ¬b.adr g)
section
variable {w0 w w':World} {L:List Item}
theorem Mem.start (w:World):Mem w w []:=⟨Ext.refl w,fun _ h=>absurd h (by simp),fun _ h=>absurd h (by simp),List.Pairwise.nil⟩
theorem Mem.of (h:Ext w0 w):Mem w0 w []:=⟨h,fun _ h=>absurd h (by simp),fun _ h=>absurd h (by simp),List.Pairwise.nil⟩
theorem Mem.adv (h:Mem w0 w L)(hx:Ext w w'):Mem w0 w' L:=
 ⟨h.ext.trans hx,h.good,fun it hi=>(h.good it hi).stay w w' (h.ok it hi) hx.sz (fun g hg=>hx.block g ((h.good it hi).lt w (h.ok it hi) g hg).2),h.apart⟩
theorem Mem.cons {it:Item}(h:Mem w0 w L)(hg:it.Good w0)(ho:it.ok w)(hn: ∀g,it.adr g→ ∀j∈L,¬j.adr g):Mem w0 w (it::L):=
 ⟨h.ext,fun x hx=>by
  rcases aWd.1 hx with rfl|hx
  ·exact hg
  ·exact h.good x hx,fun x hx=>by
  rcases aWd.1 hx with rfl|hx
  ·exact ho
  ·exact h.ok x hx,List.Pairwise.cons (fun j hj g hg'=>hn g hg' j hj) h.apart⟩
theorem Mem.new {it:Item}(h:Mem w0 w L)(hx:Ext w w')(hg:it.Good w0)(ho:it.ok w')(hn: ∀g,it.adr g→w.heap.size≤g):Mem w0 w' (it::L):=by refine(h.adv hx).cons hg ho (fun g hg' j hj e=> ?_);have h1:=hn g hg';have h2:=((h.good j hj).lt w (h.ok j hj) g e).2;omega
theorem Mem.blkOf {g:Nat}{t:TypeId}{cs:Array Value}(h:Mem w0 w L)(hx:Ext w w')(hb:Blk w' g t cs)(hg:w.heap.size≤g):Mem w0 w' (aI w0 g t cs::L):=
 h.new hx (qI _ _ _ _) ⟨aW8 h.ext.sz hg,hb⟩ (fun g' hg'=>by obtain rfl:g=g':=hg';exact hg)
theorem Mem.blkNew (h:Mem w0 w L)(t:TypeId)(cs:Array Value)(g:Nat)(hg:w.heap.size=g):Mem w0 (w.alloc (.cells cs t)) (aI w0 g t cs::L):=by subst hg;exact h.blkOf ((Ext.refl w).alloc _) (Blk.new _ _ _) (aVz _)
theorem Mem.ownNew {b n c sz:Nat}{e:TypeId}{q:OA}{xs:List Value}(h:Mem w0 w L)(hx:Ext w w')(ho:w'.ownsRow b e sz (.slice q n c) n xs)(hb:w.heap.size≤b):Mem w0 w' (aJ w0 e sz q n c xs::L):=
 h.new hx (eQ _ _ _ _ _ _ _) (dX ho (aW8 h.ext.sz hb)) (fun g hg=>aW8 hb (aWw ho g hg).1)
theorem Mem.blkOwn {b n c sz g:Nat}{e t:TypeId}{q:OA}{xs:List Value}{cs:Array Value}(h:Mem w0 w L)(hx:Ext w w')(hb:Blk w' g t cs)(hg:w.heap.size≤g)(ho:w'.ownsRow b e sz (.slice q n c) n xs)(d:w.heap.size≤b)(ht:e≠t):Mem w0 w' (aJ w0 e sz q n c xs::aI w0 g t cs::L):=by
 refine(h.blkOf hx hb hg).cons (eQ _ _ _ _ _ _ _) (dX ho (aW8 h.ext.sz d)) (fun g' hg' j hj e'=> ?_);replace hg':(Value.slice q n c).ownBlock=some g':=hg';have h1:=(aWw ho g' hg').1;rcases aWd.1 hj with rfl|hj
 ·obtain rfl:g=g':=e';rcases ho.2 with⟨h2,_⟩|⟨g2,cap',cur,h2,_,h3,_⟩
  ·rw[h2]at hg';cases hg'
  rw[h2]at hg';injection hg' with hg';have a:g2=g:=hg';subst a;unfold Blk at hb;rw[hb]at h3;injection h3 with h3;injection h3 with _ h3;exact ht h3.symm
 have h2:=((h.good j hj).lt w (h.ok j hj) g' e').2;omega
theorem Mem.call {n c sz:Nat}{e:TypeId}{q:OA}{xs:List Value}(h:Mem w0 w L)(hx:Ext w w')(ho:w'.ownsRow w e sz (.slice q n c) n xs):Mem w0 w' (aJ w0 e sz q n c xs::L):=h.ownNew hx ho (aVz _)
theorem Mem.nestNew {b c sz:Nat}{eo ei:TypeId}{q:OA}{rows:List RowD}(h:Mem w0 w L)(hx:Ext w w')(ho:zL b eo ei sz q c rows w')(hb:w.heap.size≤b):Mem w0 w' (rW w0 eo ei sz q c rows::L):=
 h.new hx (aBr _ _ _ _ _ _ _) ⟨dX ho.1 (aW8 h.ext.sz hb),fun r hr=>dX (ho.2 r hr) (aW8 h.ext.sz hb)⟩ (fun g hg=>by
  rcases hg with hg|⟨r,hr,hg⟩
  ·exact aW8 hb (aWw ho.1 g hg).1
  ·exact aW8 hb (aWw (ho.2 r hr) g hg).1)
theorem Mem.made0 (h:Mem w0 w L)(e:TypeId)(sz g:Nat)(hg:w.heap.size=g):Mem w0 (w.alloc (.cells #[] e)) (aJ w0 e sz (some ⟨g,0,none⟩) 0 0 []::L):=by subst hg;exact h.ownNew ((Ext.refl w).alloc _) (aX7 (base:=w.heap.size) w #[] 0 (aVz _) (by simp[maxLen]) (by simp)) (aVz _)
theorem aMt {w:World}{e:TypeId}{sz g n:Nat}{cs:Array Value}{B:Nat}(h:Blk w g e cs)(hn:cs.size=n*sz)(hm:n≤maxLen)(hb:B≤g):w.ownsRow B e sz (.slice (some ⟨g,0,none⟩) n n) n cs.toList:=
 ⟨by simpa using hn,.inr ⟨g,n,cs,rfl,hb,h,aVz _,hm,hn,by rw[aW4 (by simp;omega)]⟩⟩
theorem Mem.lit (h:Mem w0 w L)(e:TypeId)(sz n g:Nat)(cs:Array Value)(hg:w.heap.size=g)(hn:cs.size=n*sz)(hm:n≤maxLen):Mem w0 (w.alloc (.cells cs e)) (aJ w0 e sz (some ⟨g,0,none⟩) n n cs.toList::L):=by subst hg;exact h.ownNew ((Ext.refl w).alloc _) (aMt (Blk.new w e cs) hn hm (aVz _)) (aVz _)
theorem Mem.blk {i g B:Nat}{t:TypeId}{cs:Array Value}(h:Mem w0 w L)(hi:L[i]? =some (aI B g t cs)):Blk w g t cs:=(h.ok _ (aW1 hi)).2
theorem Mem.own {i B n c sz:Nat}{e:TypeId}{q:OA}{xs:List Value}(h:Mem w0 w L)(hi:L[i]? =some (aJ B e sz q n c xs)):w.ownsRow B e sz (.slice q n c) n xs:=h.ok _ (aW1 hi)
theorem Mem.nest {i B c sz:Nat}{eo ei:TypeId}{q:OA}{rows:List RowD}(h:Mem w0 w L)(hi:L[i]? =some (rW B eo ei sz q c rows)):zL B eo ei sz q c rows w:=h.ok _ (aW1 hi)
theorem Mem.sl {i B n c sz:Nat}{e:TypeId}{q:OA}{xs:List Value}(h:Mem w0 w L)(hi:L[i]? =some (aJ B e sz q n c xs)):Sl w q n c sz xs:=Sl.own (h.own hi)
theorem Mem.lt {i g:Nat}{it:Item}(h:Mem w0 w L)(hi:L[i]? =some it) (hg:it.adr g):w0.heap.size≤g∧g<w.heap.size:=(h.good _ (aW1 hi)).lt w (h.ok _ (aW1 hi)) g hg
theorem Mem.ne {i j g g':Nat}{a b:Item}(h:Mem w0 w L)(c:i<j)(hi:L[i]? =some a) (hj:L[j]? =some b) (ha:a.adr g) (hb:b.adr g'):g≠g':=by rintro rfl;obtain⟨d,rfl⟩:=aW3.1 hi;obtain⟨e,rfl⟩:=aW3.1 hj;exact List.pairwise_iff_getElem.1 h.apart i j d e c g ha hb
theorem Mem.sub {L':List Item}(h:Mem w0 w L)(hs:L'.Sublist L):Mem w0 w L':=
 ⟨h.ext,fun x hx=>h.good x (hs.subset hx),fun x hx=>h.ok x (hs.subset hx),h.apart.sublist hs⟩
theorem Mem.far {i j:Nat}{a b:Item}(h:Mem w0 w L)(d:i≠j)(hi:L[i]? =some a) (hj:L[j]? =some b): ∀g,a.adr g→ ¬b.adr g:=by
 intro g ha hb;rcases Nat.lt_or_gt_of_ne d with e|c
 ·exact h.ne e hi hj ha hb rfl
 exact h.ne c hj hi hb ha rfl
theorem Mem.pick {L':List Item}(h:Mem w0 w L)(is:List Nat)(hd:is.Nodup)(hl:is.map (fun i=>L[i]?)=L'.map some):Mem w0 w L':=by
 have f:is.length=L'.length:=by have:=congrArg List.length hl;simpa using this
 have d: ∀k,(hk:k<L'.length)→L[is[k]'(by omega)]? =some L'[k]:=by intro k hk;have:=congrArg (fun z=>z[k]?) hl;simp only[aWp]at this;rw[aW0 (by omega:k<is.length),aW0 hk]at this;simpa using this
 have c: ∀x∈L',x∈L:=fun x hx=>by obtain⟨k,hk,rfl⟩:=aXi hx;exact aW1 (d k hk)
 refine⟨h.ext,fun x hx=>h.good x (c x hx),fun x hx=>h.ok x (c x hx),List.pairwise_iff_getElem.2 fun a b ha hb hab=> ?_⟩
 exact h.far (fun e=>by
  have:=(List.getElem_inj hd).1 e
  omega) (d a ha) (d b hb)
theorem Mem.join {a b it:Item}(h:Mem w0 w (a::b::L))(hg:it.Good w0)(ho:it.ok w)(hn: ∀g,it.adr g→a.adr g∨b.adr g):Mem w0 w (it::L):=by
 have hp:=List.pairwise_cons.1 h.apart;have c:=List.pairwise_cons.1 hp.2;have h2:Mem w0 w L:=⟨h.ext,fun x hx=>h.good x (by simp[hx]),fun x hx=>h.ok x (by simp[hx]),c.2⟩
 refine h2.cons hg ho (fun g hg' j hj=> ?_);rcases hn g hg' with h3|h3
 ·exact hp.1 j (by simp[hj]) g h3
 exact c.1 j hj g h3
theorem Mem.rowsAdd {B sz c n:Nat}{e:TypeId}{q:OA}{xs:List Value}{rows:List RowD}(hB:B=w0.heap.size)(h:Mem w0 w (aJ B e sz q n c xs::iQ B e sz rows::L)):Mem w0 w (iQ B e sz (rows++ [⟨q,n,c,xs⟩])::L):=by
 subst hB;refine h.join (qU _ _ _ _) (fun r hr=> ?_) (fun g ⟨r,hr,hg⟩=> ?_)
 ·rcases aWh.1 hr with hr|hr
  ·exact h.ok (iQ w0 e sz rows) (by simp) r hr
  obtain rfl:=aWq.1 hr;exact h.own (i:=0) rfl
 rcases aWh.1 hr with hr|hr
 ·exact .inr ⟨r,hr,hg⟩
 obtain rfl:=aWq.1 hr;exact .inl hg
theorem Mem.rows0 {B sz:Nat}{e:TypeId}(hB:B=w0.heap.size)(h:Mem w0 w L):Mem w0 w (iQ B e sz []::L):=by subst hB;exact h.cons (qU _ _ _ _) (fun r hr=>by cases hr) (fun g ⟨r,hr,hg⟩=>by cases hr)
theorem Mem.turn {i:Nat}{it d:Item}{row:Option Nat}(h:Mem w0 w L)(hi:L[i]? =some it) (hr: ∀g,row=some g→it.adr g) (hg:d.Good w0) (c:w.grownBy w' row) (ho:d.ok w') (o: ∀g,d.adr g→it.adr g∨g=w.heap.size):Mem w0 w' (L.set i d):=by
 obtain⟨q,p⟩:=aW3.1 hi;have f:=aW1 hi;have m: ∀j,(hj:j<L.length)→j≠i→ ∀g,L[j].adr g→ ¬it.adr g:=by intro j hj l g hg' e;exact h.far l (aW0 hj) hi g hg' e
 have hE:Ext w0 w':=h.ext.grown c (fun k hk=>((h.good it f).lt w (h.ok it f) k (hr k hk)).1);refine⟨hE,fun x hx=> ?_,fun x hx=> ?_,?_⟩
 ·rcases aXa hx with hx|rfl
  ·exact h.good x hx
  exact hg
 ·obtain⟨j,hj,rfl⟩:=aXi hx;rw[aXf]at hj;by_cases hji:i=j
  ·subst hji;rw[List.getElem_set_self];exact ho
  rw[List.getElem_set_ne hji];have hm:=List.getElem_mem hj;refine(h.good _ hm).stay w w' (h.ok _ hm) c.size (fun g hg'=> ?_);exact c.block g ((h.good _ hm).lt w (h.ok _ hm) g hg').2 (fun e=>m j hj (Ne.symm hji) g hg' (hr g e.symm))
 refine List.pairwise_iff_getElem.2 fun a b ha hb hab g hga hgb=> ?_
 rw[aXf]at ha hb;have n: ∀j,(hj:j<L.length)→j≠i→ ∀g,L[j].adr g→ ¬d.adr g:=by
  intro j hj l g hg' e;have hm:=List.getElem_mem hj;rcases o g e with h1|h1
  ·exact m j hj l g hg' h1
  have:=((h.good _ hm).lt w (h.ok _ hm) g hg').2;omega
 by_cases hai:i=a
 ·subst hai;rw[List.getElem_set_self]at hga;rw[List.getElem_set_ne (by omega)]at hgb;exact n b hb (by omega) g hgb hga
 rw[List.getElem_set_ne hai]at hga;by_cases hbi:i=b
 ·subst hbi;rw[List.getElem_set_self]at hgb;exact n a ha (by omega) g hga hgb
 rw[List.getElem_set_ne hbi]at hgb;exact List.pairwise_iff_getElem.1 h.apart a b ha hb hab g hga hgb
theorem uE (w:World)(g k:Nat)(u:Value):w.grownBy (w.setCell ⟨g,k,none⟩ u) (some g):=
 ((ExtR.refl g w).setCell (p:=⟨g,k,none⟩) (.inl rfl) u:ExtR g w _)
theorem Mem.store {i g B:Nat}{t:TypeId}{cs:Array Value}(h:Mem w0 w L)(hi:L[i]? =some (aI B g t cs)) (k:Nat) (u:Value):Mem w0 (w.setCell ⟨g,k,none⟩ u) (L.set i (aI w0 g t (cs.setIfInBounds k u))):=
 h.turn hi (fun g' e=>by injection e) (qI _ _ _ _) (uE w g k u) ⟨(h.lt hi rfl).1,(h.blk hi).set k u⟩ (fun g' e=> .inl e)
theorem Mem.ostore {i g n c sz:Nat}{e:TypeId}{xs:List Value}(h:Mem w0 w L)(hi:L[i]? =some (aJ w0 e sz (some ⟨g,0,none⟩) n c xs)) (k:Nat) (u:Value):Mem w0 (w.setCell ⟨g,k,none⟩ u) (L.set i (aJ w0 e sz (some ⟨g,0,none⟩) n c (xs.set k u))):=
 h.turn hi (fun g' e=>e) (eQ _ _ _ _ _ _ _) (uE w g k u) ((h.own hi).stored k u).1 (fun g' e=> .inl e)
theorem Mem.app {i n c sz n' c':Nat}{e:TypeId}{q q':OA}{xs a:List Value}(h:Mem w0 w L)(hi:L[i]? =some (aJ w0 e sz q n c xs)) (ho:w'.ownsRow w0 e sz (.slice q' n' c') n' a) (hg:w.grownBy w' (Value.slice q n c).ownBlock)
  (b:(Value.slice q' n' c').ownBlock=(Value.slice q n c).ownBlock∨(Value.slice q' n' c').ownBlock=some w):Mem w0 w' (L.set i (aJ w0 e sz q' n' c' a)):=
 h.turn hi (fun g e=>e) (eQ _ _ _ _ _ _ _) hg ho (fun g e=>by
  have e':(Value.slice q' n' c').ownBlock=some g:=e;rcases b with h1|h1
  ·exact .inl (by show(Value.slice q n c).ownBlock=some g;rw[←h1];exact e')
  ·rw[h1]at e';injection e' with e';exact .inr e'.symm)
theorem Mem.some {i n c sz B:Nat}{e:TypeId}{q:OA}{xs:List Value}(h:Mem w0 w L)(hi:L[i]? =Option.some (aJ B e sz q n c xs)) (hn:0<n): ∃g,q=Option.some ⟨g,0,none⟩∧w0.heap.size≤g∧g<w.heap.size:=by
 rcases(h.own hi).2 with⟨h1,h2⟩|⟨g,cap',cur,h1,h3⟩
 ·omega
 injection h1 with e1 e2 e3;subst e1;have:=h.lt hi (g:=g) rfl;exact⟨g,rfl,this.1,this.2⟩
end
section
variable {P:Program} {w0 w:World} {L:List Item} {ops:Array Oper} {rest:List Oper} {o:Oper} {a:Act} {Q:Exit→Act→World→Prop}
theorem aI1 (w:World){t e ty:TypeId}{sz:Nat}(E:ElT P t e sz){i:Nat}{q:OA}{n c:Nat}{xs:List Value}(h:Mem w0 w L)(hi:L[i]? =some (aJ w0 e sz q n c xs))
  (p:OA) (m d:Nat) (news:List Value) (hs:Sl w p m d sz news) (h1: ∀u∈news,u.oneCell'=true) (hn:n+m≤1099511627776):
  ∃q' c' w',(Builtin.append_ #[t,t] ty #[.slice q n c,.slice p m d]).run P w= .ok (.slice q' (n+m) c') w'∧Mem w0 w' (L.set i (aJ w0 e sz q' (n+m) c' (xs++news))):=by
 obtain⟨l,z,a,hz,aa,v,ab⟩:=E.info;have f:=h.own hi;have r: ∀ad:Addr,p=some ad∨m=0→(∀j u,news[j]? =some u→w.cell? (ad.add j)=some u)→ ∃q' c' w',(Builtin.append_ #[t,t] ty #[.slice q n c,.slice (some ad) m d]).run P w= .ok (.slice q' (n+m) c') w'∧Mem w0 w' (L.set i (aJ w0 e sz q' (n+m) c' (xs++news))):=by
  intro ad _ k;have s:(n+m)*l.bytes≤140737488355328:=by have:(n+m)*l.bytes≤(n+m)*64:=Nat.mul_le_mul_left _ v;omega
  obtain⟨v',w',o,h2,h3,_,h5⟩:=run_append_own_at (P:=P) w w0 t ty e l z sz l.bytes E.ht a hz aa rfl ab E.pos (.slice q n c) n xs f ad m d news hs.len k h1 (by unfold maxLen;omega) s h.ext.sz;obtain⟨q',c',rfl⟩:=pW h2;exact⟨q',c',w',o,h.app hi h2 h3 h5⟩
 by_cases hm:0<m
 ·obtain⟨b,ae,rfl,hb,hc⟩:=hs.rd hm;refine r ⟨b,ae,none⟩ (.inl rfl) (fun j u hu=> ?_);have hj:j<m*sz:=by rw[←hs.len];exact(aW3.1 hu).1
  rw[lU,hc j hj];exact hu
 have x:m=0:=by omega
 subst x;have y:news= []:=List.length_eq_zero_iff.1 (by rw[hs.len];omega);subst y;cases p with
 |some ad=>exact r ad (.inl rfl) (fun j u hu=>by simp at hu)
 |none=>
  refine⟨q,c,w,?_,h.app hi (by simpa using f) (aXk w _) (.inl rfl)⟩;rcases f.2 with⟨h2,h3⟩|⟨g,cap',cur,h2,_,_,hnc,_⟩
  ·injection h2 with e1 e2 e3;subst e1 e2 e3;simp[Builtin.append_,run_underlying E.ht,sizeOf,typeInfo,a,Builtin.lenOf,Builtin.firstCells]
  injection h2 with e1 e2 e3;subst e1 e3;simp[Builtin.append_,run_underlying E.ht,sizeOf,typeInfo,a,Builtin.lenOf,Builtin.firstCells,hnc,storeCells]
theorem aMh {K:Act→World→Prop}{t e:TypeId}{sz:Nat}(E:ElT P t e sz)(s x:Operand)
  (ho:o.op= .call {callee:= .builtin .append,args:=#[s,x],argTypes:=#[t,t]})
  (h:Mem w0 w L)(i:Nat){q:OA}{n c:Nat}{xs:List Value}(hi:L[i]? =some (aJ w0 e sz q n c xs)) (hs:a.eval s= .slice q n c)
  {p:OA} {m d:Nat} (news:List Value) (hx:a.eval x= .slice p m d) (hr:Sl w p m d sz news) (h1: ∀u∈news,u.oneCell'=true) (hn:n+m≤1099511627776)
  (hk: ∀q' c' w',Mem w0 w' (L.set i (aJ w0 e sz q' (n+m) c' (xs++news)))→K (a.put o.dst (.slice q' (n+m) c')) w'):o.wp P a w K Q:=by
 obtain⟨q',c',w',b,h2⟩:=aI1 (P:=P) (ty:=o.type) w E h hi p m d news hr h1 hn;unfold Oper.wp execOp;simp only[ho,resolve,invoke,builtin,Sem.run_bind,Sem.run_pure,Result.andThen_ok,List.map_toArray,aXl,List.map_nil,hs,hx,b];exact hk q' c' w' h2
theorem dN {t e:TypeId}{sz:Nat}(E:ElT P t e sz)(b:o.guard=none)(s x:Operand)
  (ho:o.op= .call {callee:= .builtin .append,args:=#[s,x],argTypes:=#[t,t]})
  (h:Mem w0 w L)(i:Nat){q:OA}{n c:Nat}{xs:List Value}(hi:L[i]? =some (aJ w0 e sz q n c xs)) (hs:a.eval s= .slice q n c)
  {p:OA} {m d:Nat} (news:List Value) (hx:a.eval x= .slice p m d) (hr:Sl w p m d sz news) (h1: ∀u∈news,u.oneCell'=true) (hn:n+m≤1099511627776)
  (hk: ∀q' c' w',Mem w0 w' (L.set i (aJ w0 e sz q' (n+m) c' (xs++news)))→wpList P ops Q rest (a.put o.dst (.slice q' (n+m) c')) w'):wpList P ops Q (o::rest) a w:=
 wpList_plain b fun _ hK=>aMh E s x ho h i hi hs news hx hr h1 hn fun q' c' w' h2=>hK _ _ (hk q' c' w' h2)
theorem jX {K:Act→World→Prop}{E0:Prop}{t e:TypeId}{sz:Nat}(E:ElT P t e sz)(b:o.guard=none)(s x:Operand)
  (ho:o.op= .call {callee:= .builtin .append,args:=#[s,x],argTypes:=#[t,t]})
  (h:Mem w0 w L)(i:Nat){q:OA}{n c:Nat}{xs:List Value}(hi:L[i]? =some (aJ w0 e sz q n c xs)) (hs:a.eval s= .slice q n c)
  {p:OA} {m d:Nat} (news:List Value) (hx:a.eval x= .slice p m d) (hr:Sl w p m d sz news) (h1: ∀u∈news,u.oneCell'=true) (hn:n+m≤1099511627776)
  (hk: ∀q' c' w',Mem w0 w' (L.set i (aJ w0 e sz q' (n+m) c' (xs++news)))→K (a.put o.dst (.slice q' (n+m) c')) w'):
  if Region.wanted o (yielded ops a.tmps)=true then Oper.wp P o a w K Q else E0:=by
 have hw:Region.wanted o (yielded ops a.tmps)=true:=by simp[Region.wanted,b]
 rw[if_pos hw];exact aMh E s x ho h i hi hs news hx hr h1 hn hk
end
theorem fC (cs:Array Value)(t:TypeId)(n sz g:Nat)(hg:w.heap.size=g)(h:cs.size=n*sz)(hn:n≤maxLen):Sl (w.alloc (.cells cs t)) (some ⟨g,0,none⟩) n n sz cs.toList:=by subst hg;exact⟨by simpa using h,aVz _,hn,fun _=>⟨w.heap.size,0,rfl,by simp,fun k hk=>by rw[aWz,(Blk.new w t cs).cell k];simp⟩⟩
theorem Mem.st {w:World}{L L':List Item}{B:Nat}{cs a:Array Value}(h:Mem w0 w L)(i k:Nat)(u:Value)(hi:L[i]? =Option.some (aI B g t cs):=by exact rfl)(hc:cs.setIfInBounds k u=a:=by first|(simp only[aWg,aWe,aWf];exact rfl)|exact rfl)(hl:L.set i (aI w0 g t a)=L':=by first|(simp only[aWe,aWf];exact rfl)|exact rfl):Mem w0 (w.setCell ⟨g,k,none⟩ u) L':=by subst hc hl;exact h.store hi k u
theorem Mem.hi {w:World}{L:List Item}(h:Mem w0 w L)(i:Nat){it:Item}(hi:L[i]? =Option.some it:=by exact rfl)(hg:it.adr g:=by exact rfl):g<w.heap.size:=(h.lt hi hg).2
theorem Mem.b1 {c0:Array Value}:Mem w (w.alloc (.cells c0 t0)) [aI w w t0 c0]:=(Mem.start w).blkNew t0 c0 w (by simp)
theorem Mem.b2 {c0 c1:Array Value}:Mem w ((w.alloc (.cells c0 t0)).alloc (.cells c1 t1)) [aI w (w.heap.size+1) t1 c1,aI w w t0 c0]:=((Mem.start w).blkNew t0 c0 w (by simp)).blkNew t1 c1 (w.heap.size+1) (by simp)
theorem Mem.b3 {c0 c1 c2:Array Value}:Mem w (((w.alloc (.cells c0 t0)).alloc (.cells c1 t1)).alloc (.cells c2 t2)) [aI w (w.heap.size+1+1) t2 c2,aI w (w.heap.size+1) t1 c1,aI w w t0 c0]:=(((Mem.start w).blkNew t0 c0 w (by simp)).blkNew t1 c1 (w.heap.size+1) (by simp)).blkNew t2 c2 (w.heap.size+1+1) (by simp)
theorem Mem.b3t {c0 c1 c2:Array Value}:Mem w (((w.alloc (.cells c0 t0)).alloc (.cells c1 t1)).alloc (.cells c2 t2)) [aI w (w.heap.size+2) t2 c2,aI w (w.heap.size+1) t1 c1,aI w w t0 c0]:=(((Mem.start w).blkNew t0 c0 w (by simp)).blkNew t1 c1 (w.heap.size+1) (by simp)).blkNew t2 c2 (w.heap.size+2) (by simp)
theorem Mem.b4 {c0 c1 c2 c3:Array Value}:Mem w ((((w.alloc (.cells c0 t0)).alloc (.cells c1 t1)).alloc (.cells c2 t2)).alloc (.cells c3 t3)) [aI w (w.heap.size+1+1+1) t3 c3,aI w (w.heap.size+1+1) t2 c2,aI w (w.heap.size+1) t1 c1,aI w w t0 c0]:=((((Mem.start w).blkNew t0 c0 w (by simp)).blkNew t1 c1 (w.heap.size+1) (by simp)).blkNew t2 c2 (w.heap.size+1+1) (by simp)).blkNew t3 c3 (w.heap.size+1+1+1) (by simp)
theorem Mem.b4t {c0 c1 c2 c3:Array Value}:Mem w ((((w.alloc (.cells c0 t0)).alloc (.cells c1 t1)).alloc (.cells c2 t2)).alloc (.cells c3 t3)) [aI w (w.heap.size+3) t3 c3,aI w (w.heap.size+2) t2 c2,aI w (w.heap.size+1) t1 c1,aI w w t0 c0]:=((((Mem.start w).blkNew t0 c0 w (by simp)).blkNew t1 c1 (w.heap.size+1) (by simp)).blkNew t2 c2 (w.heap.size+2) (by simp)).blkNew t3 c3 (w.heap.size+3) (by simp)
theorem Mem.nq {w:World}{L:List Item}(h:Mem w0 w L)(i j:Nat){a b:Item}(c:i<j:=by omega)(hi:L[i]? =Option.some a:=by exact rfl)(hj:L[j]? =Option.some b:=by exact rfl)(ha:a.adr g:=by exact rfl)(hb:b.adr g':=by exact rfl): ¬g=g'∧ ¬g'=g:=⟨h.ne c hi hj ha hb,fun e=>h.ne c hi hj ha hb e.symm⟩
theorem Mem.bk {w:World}{L:List Item}(h:Mem w0 w L)(i:Nat){B:Nat}{cs:Array Value}(hi:L[i]? =Option.some (aI B g t cs):=by exact rfl):Blk w g t cs:=h.blk hi
theorem Mem.ow {w:World}{L:List Item}(h:Mem w0 w L)(i:Nat){B sz:Nat}{e:TypeId}(hi:L[i]? =Option.some (aJ B e sz q n c xs):=by exact rfl):w.ownsRow B e sz (.slice q n c) n xs:=h.own hi
theorem Mem.sq {w:World}{L:List Item}(h:Mem w0 w L)(i:Nat){B sz:Nat}{e:TypeId}(hi:L[i]? =Option.some (aJ B e sz q n c xs):=by exact rfl):Sl w q n c sz xs:=h.sl hi
theorem Mem.so {w:World}{L:List Item}(h:Mem w0 w L)(i:Nat){sz B:Nat}{e:TypeId}(hi:L[i]? =Option.some (aJ B e sz q n c xs):=by exact rfl)(hn:0<n:=by omega): ∃g,q=Option.some ⟨g,0,none⟩∧w0.heap.size≤g∧g<w.heap.size:=h.some hi hn
theorem Mem.bn {w:World}{L:List Item}(h:Mem w0 w L)(t:TypeId)(cs:Array Value)(g:Nat)(hg:w.heap.size=g:=by first|exact rfl|simp):Mem w0 (w.alloc (.cells cs t)) (aI w0 g t cs::L):=h.blkNew t cs g hg
theorem Mem.c0 {v:World}{L:List Item}(h:Mem w0 v L)(t:TypeId)(cs:Array Value):Mem w0 (v.alloc (.cells cs t)) (aI w0 v t cs::L):=h.blkNew t cs _ rfl
theorem Mem.c1 {v:World}{L:List Item}(h:Mem w0 (v.alloc o) L)(t:TypeId)(cs:Array Value):Mem w0 ((v.alloc o).alloc (.cells cs t)) (aI w0 (v.heap.size+1) t cs::L):=h.blkNew t cs _ (by simp)
theorem Mem.c2 {v:World}{L:List Item}(h:Mem w0 ((v.alloc o).alloc o') L)(t:TypeId)(cs:Array Value):Mem w0 (((v.alloc o).alloc o').alloc (.cells cs t)) (aI w0 (v.heap.size+1+1) t cs::L):=h.blkNew t cs _ (by simp)
theorem Mem.st1 {s:Array Value}{w:World}{L:List Item}{v:Value}{K:Ending→World→Prop}(M:Mem w0 w L)(H:Mem w0 w L→Calls P f s w (Z v w))(k: ∀w',Mem w0 w' L→K (.returned v) w'):Calls P f s w K:=(H M).mono (by rintro e w' ⟨rfl,hx⟩;exact k w' (M.adv hx))
theorem Mem.st2 {s:Array Value}{w:World}{L:List Item}{F:OA→Nat→Value}{ty:TypeId}{sz:Nat}{K:Ending→World→Prop}(M:Mem w0 w L)(H:Mem w0 w L→Calls P f s w fun e w'=> ∃q c,e= .returned (F q c)∧w'.ownsRow w ty sz (.slice q n c) n xs∧Ext w w')(k: ∀w' q c,Mem w0 w' (aJ w0 ty sz q n c xs::L)→K (.returned (F q c)) w'):Calls P f s w K:=(H M).mono (by rintro e w' ⟨q,c,rfl,ho,hx⟩;exact k w' q c (M.call hx ho))
end
section
open Go
theorem aBj {w:World}(h:Rand w R k)(hg:w.grownBy w' row)(hr: ∀g,row=some g→R<g):Rand w' R k:=by have hl:=h.lt;exact h.below ⟨hg.os,hg.tape,hg.output,hg.size,fun i hi=>hg.block i (by omega) (fun e=>by have:=hr i e.symm;omega)⟩
structure MemR (R:Nat) (w0 w:World) (L:List Item):Prop where
 old:R<w0.heap.size
 ext:ExtR R w0 w
 good: ∀it∈L,it.Good w0.heap.size
 ok: ∀it∈L,it.ok w
 apart:L.Pairwise (fun a b=> ∀g,a.adr g→ ¬b.adr g)
section
variable {R:Nat} {w0 w w':World} {L:List Item}
theorem MemR.start (R:Nat)(w:World)(h:R<w.heap.size):MemR R w w []:=⟨h,ExtR.refl R w,fun _ h=>absurd h (by simp),fun _ h=>absurd h (by simp),List.Pairwise.nil⟩
theorem MemR.of (hR:R<w0.heap.size)(h:ExtR R w0 w):MemR R w0 w []:=⟨hR,h,fun _ h=>absurd h (by simp),fun _ h=>absurd h (by simp),List.Pairwise.nil⟩
theorem MemR.adv (h:MemR R w0 w L)(hx:Ext w w'):MemR R w0 w' L:=
 ⟨h.old,h.ext.ext hx,h.good,fun it hi=>(h.good it hi).stay w w' (h.ok it hi) hx.sz (fun g hg=>hx.block g ((h.good it hi).lt w (h.ok it hi) g hg).2),h.apart⟩
theorem MemR.cons {it:Item}(h:MemR R w0 w L)(hg:it.Good w0)(ho:it.ok w)(hn: ∀g,it.adr g→ ∀j∈L,¬j.adr g):MemR R w0 w (it::L):=
 ⟨h.old,h.ext,fun x hx=>by
  rcases aWd.1 hx with rfl|hx
  ·exact hg
  ·exact h.good x hx,fun x hx=>by
  rcases aWd.1 hx with rfl|hx
  ·exact ho
  ·exact h.ok x hx,List.Pairwise.cons (fun j hj g hg'=>hn g hg' j hj) h.apart⟩
theorem MemR.new {it:Item}(h:MemR R w0 w L)(hx:Ext w w')(hg:it.Good w0)(ho:it.ok w')(hn: ∀g,it.adr g→w.heap.size≤g):MemR R w0 w' (it::L):=by refine(h.adv hx).cons hg ho (fun g hg' j hj e=> ?_);have h1:=hn g hg';have h2:=((h.good j hj).lt w (h.ok j hj) g e).2;omega
theorem MemR.blkOf {g:Nat}{t:TypeId}{cs:Array Value}(h:MemR R w0 w L)(hx:Ext w w')(hb:Blk w' g t cs)(hg:w.heap.size≤g):MemR R w0 w' (aI w0 g t cs::L):=
 h.new hx (qI _ _ _ _) ⟨aW8 h.ext.sz hg,hb⟩ (fun g' hg'=>by obtain rfl:g=g':=hg';exact hg)
theorem MemR.blkNew (h:MemR R w0 w L)(t:TypeId)(cs:Array Value)(g:Nat)(hg:w.heap.size=g):MemR R w0 (w.alloc (.cells cs t)) (aI w0 g t cs::L):=by subst hg;exact h.blkOf ((Ext.refl w).alloc _) (Blk.new _ _ _) (aVz _)
theorem MemR.ownNew {b n c sz:Nat}{e:TypeId}{q:OA}{xs:List Value}(h:MemR R w0 w L)(hx:Ext w w')(ho:w'.ownsRow b e sz (.slice q n c) n xs)(hb:w.heap.size≤b):MemR R w0 w' (aJ w0 e sz q n c xs::L):=
 h.new hx (eQ _ _ _ _ _ _ _) (dX ho (aW8 h.ext.sz hb)) (fun g hg=>aW8 hb (aWw ho g hg).1)
theorem MemR.blkOwn {b n c sz g:Nat}{e t:TypeId}{q:OA}{xs:List Value}{cs:Array Value}(h:MemR R w0 w L)(hx:Ext w w')(hb:Blk w' g t cs)(hg:w.heap.size≤g)(ho:w'.ownsRow b e sz (.slice q n c) n xs)(d:w.heap.size≤b)(ht:e≠t):MemR R w0 w' (aJ w0 e sz q n c xs::aI w0 g t cs::L):=by
 refine(h.blkOf hx hb hg).cons (eQ _ _ _ _ _ _ _) (dX ho (aW8 h.ext.sz d)) (fun g' hg' j hj e'=> ?_);replace hg':(Value.slice q n c).ownBlock=some g':=hg';have h1:=(aWw ho g' hg').1;rcases aWd.1 hj with rfl|hj
 ·obtain rfl:g=g':=e';rcases ho.2 with⟨h2,_⟩|⟨g2,cap',cur,h2,_,h3,_⟩
  ·rw[h2]at hg';cases hg'
  rw[h2]at hg';injection hg' with hg';have a:g2=g:=hg';subst a;unfold Blk at hb;rw[hb]at h3;injection h3 with h3;injection h3 with _ h3;exact ht h3.symm
 have h2:=((h.good j hj).lt w (h.ok j hj) g' e').2;omega
theorem MemR.call {n c sz:Nat}{e:TypeId}{q:OA}{xs:List Value}(h:MemR R w0 w L)(hx:Ext w w')(ho:w'.ownsRow w e sz (.slice q n c) n xs):MemR R w0 w' (aJ w0 e sz q n c xs::L):=h.ownNew hx ho (aVz _)
theorem MemR.nestNew {b c sz:Nat}{eo ei:TypeId}{q:OA}{rows:List RowD}(h:MemR R w0 w L)(hx:Ext w w')(ho:zL b eo ei sz q c rows w')(hb:w.heap.size≤b):MemR R w0 w' (rW w0 eo ei sz q c rows::L):=
 h.new hx (aBr _ _ _ _ _ _ _) ⟨dX ho.1 (aW8 h.ext.sz hb),fun r hr=>dX (ho.2 r hr) (aW8 h.ext.sz hb)⟩ (fun g hg=>by
  rcases hg with hg|⟨r,hr,hg⟩
  ·exact aW8 hb (aWw ho.1 g hg).1
  ·exact aW8 hb (aWw (ho.2 r hr) g hg).1)
theorem MemR.made0 (h:MemR R w0 w L)(e:TypeId)(sz g:Nat)(hg:w.heap.size=g):MemR R w0 (w.alloc (.cells #[] e)) (aJ w0 e sz (some ⟨g,0,none⟩) 0 0 []::L):=by subst hg;exact h.ownNew ((Ext.refl w).alloc _) (aX7 (base:=w.heap.size) w #[] 0 (aVz _) (by simp[maxLen]) (by simp)) (aVz _)
theorem MemR.lit (h:MemR R w0 w L)(e:TypeId)(sz n g:Nat)(cs:Array Value)(hg:w.heap.size=g)(hn:cs.size=n*sz)(hm:n≤maxLen):MemR R w0 (w.alloc (.cells cs e)) (aJ w0 e sz (some ⟨g,0,none⟩) n n cs.toList::L):=by subst hg;exact h.ownNew ((Ext.refl w).alloc _) (aMt (Blk.new w e cs) hn hm (aVz _)) (aVz _)
theorem MemR.blk {i g B:Nat}{t:TypeId}{cs:Array Value}(h:MemR R w0 w L)(hi:L[i]? =some (aI B g t cs)):Blk w g t cs:=(h.ok _ (aW1 hi)).2
theorem MemR.own {i B n c sz:Nat}{e:TypeId}{q:OA}{xs:List Value}(h:MemR R w0 w L)(hi:L[i]? =some (aJ B e sz q n c xs)):w.ownsRow B e sz (.slice q n c) n xs:=h.ok _ (aW1 hi)
theorem MemR.nest {i B c sz:Nat}{eo ei:TypeId}{q:OA}{rows:List RowD}(h:MemR R w0 w L)(hi:L[i]? =some (rW B eo ei sz q c rows)):zL B eo ei sz q c rows w:=h.ok _ (aW1 hi)
theorem MemR.sl {i B n c sz:Nat}{e:TypeId}{q:OA}{xs:List Value}(h:MemR R w0 w L)(hi:L[i]? =some (aJ B e sz q n c xs)):Sl w q n c sz xs:=Sl.own (h.own hi)
theorem MemR.lt {i g:Nat}{it:Item}(h:MemR R w0 w L)(hi:L[i]? =some it) (hg:it.adr g):w0.heap.size≤g∧g<w.heap.size:=(h.good _ (aW1 hi)).lt w (h.ok _ (aW1 hi)) g hg
theorem MemR.ne {i j g g':Nat}{a b:Item}(h:MemR R w0 w L)(c:i<j)(hi:L[i]? =some a) (hj:L[j]? =some b) (ha:a.adr g) (hb:b.adr g'):g≠g':=by rintro rfl;obtain⟨d,rfl⟩:=aW3.1 hi;obtain⟨e,rfl⟩:=aW3.1 hj;exact List.pairwise_iff_getElem.1 h.apart i j d e c g ha hb
theorem MemR.sub {L':List Item}(h:MemR R w0 w L)(hs:L'.Sublist L):MemR R w0 w L':=
 ⟨h.old,h.ext,fun x hx=>h.good x (hs.subset hx),fun x hx=>h.ok x (hs.subset hx),h.apart.sublist hs⟩
theorem MemR.far {i j:Nat}{a b:Item}(h:MemR R w0 w L)(d:i≠j)(hi:L[i]? =some a) (hj:L[j]? =some b): ∀g,a.adr g→ ¬b.adr g:=by
 intro g ha hb;rcases Nat.lt_or_gt_of_ne d with e|c
 ·exact h.ne e hi hj ha hb rfl
 exact h.ne c hj hi hb ha rfl
theorem MemR.pick {L':List Item}(h:MemR R w0 w L)(is:List Nat)(hd:is.Nodup)(hl:is.map (fun i=>L[i]?)=L'.map some):MemR R w0 w L':=by
 have f:is.length=L'.length:=by have:=congrArg List.length hl;simpa using this
 have d: ∀k,(hk:k<L'.length)→L[is[k]'(by omega)]? =some L'[k]:=by intro k hk;have:=congrArg (fun z=>z[k]?) hl;simp only[aWp]at this;rw[aW0 (by omega:k<is.length),aW0 hk]at this;simpa using this
 have c: ∀x∈L',x∈L:=fun x hx=>by obtain⟨k,hk,rfl⟩:=aXi hx;exact aW1 (d k hk)
 refine⟨h.old,h.ext,fun x hx=>h.good x (c x hx),fun x hx=>h.ok x (c x hx),List.pairwise_iff_getElem.2 fun a b ha hb hab=> ?_⟩
 exact h.far (fun e=>by
  have:=(List.getElem_inj hd).1 e
  omega) (d a ha) (d b hb)
theorem MemR.join {a b it:Item}(h:MemR R w0 w (a::b::L))(hg:it.Good w0)(ho:it.ok w)(hn: ∀g,it.adr g→a.adr g∨b.adr g):MemR R w0 w (it::L):=by
 have hp:=List.pairwise_cons.1 h.apart;have c:=List.pairwise_cons.1 hp.2;have h2:MemR R w0 w L:=⟨h.old,h.ext,fun x hx=>h.good x (by simp[hx]),fun x hx=>h.ok x (by simp[hx]),c.2⟩
 refine h2.cons hg ho (fun g hg' j hj=> ?_);rcases hn g hg' with h3|h3
 ·exact hp.1 j (by simp[hj]) g h3
 exact c.1 j hj g h3
theorem MemR.rowsAdd {B sz c n:Nat}{e:TypeId}{q:OA}{xs:List Value}{rows:List RowD}(hB:B=w0.heap.size)(h:MemR R w0 w (aJ B e sz q n c xs::iQ B e sz rows::L)):MemR R w0 w (iQ B e sz (rows++ [⟨q,n,c,xs⟩])::L):=by
 subst hB;refine h.join (qU _ _ _ _) (fun r hr=> ?_) (fun g ⟨r,hr,hg⟩=> ?_)
 ·rcases aWh.1 hr with hr|hr
  ·exact h.ok (iQ w0 e sz rows) (by simp) r hr
  obtain rfl:=aWq.1 hr;exact h.own (i:=0) rfl
 rcases aWh.1 hr with hr|hr
 ·exact .inr ⟨r,hr,hg⟩
 obtain rfl:=aWq.1 hr;exact .inl hg
theorem MemR.rows0 {B sz:Nat}{e:TypeId}(hB:B=w0.heap.size)(h:MemR R w0 w L):MemR R w0 w (iQ B e sz []::L):=by subst hB;exact h.cons (qU _ _ _ _) (fun r hr=>by cases hr) (fun g ⟨r,hr,hg⟩=>by cases hr)
theorem MemR.turn {i:Nat}{it d:Item}{row:Option Nat}(h:MemR R w0 w L)(hi:L[i]? =some it) (hr: ∀g,row=some g→it.adr g) (hg:d.Good w0) (c:w.grownBy w' row) (ho:d.ok w') (o: ∀g,d.adr g→it.adr g∨g=w.heap.size):MemR R w0 w' (L.set i d):=by
 obtain⟨q,p⟩:=aW3.1 hi;have f:=aW1 hi;have m: ∀j,(hj:j<L.length)→j≠i→ ∀g,L[j].adr g→ ¬it.adr g:=by intro j hj l g hg' e;exact h.far l (aW0 hj) hi g hg' e
 have hE:ExtR R w0 w':=h.ext.grown c (fun k hk=> .inl ((h.good it f).lt w (h.ok it f) k (hr k hk)).1);refine⟨h.old,hE,fun x hx=> ?_,fun x hx=> ?_,?_⟩
 ·rcases aXa hx with hx|rfl
  ·exact h.good x hx
  exact hg
 ·obtain⟨j,hj,rfl⟩:=aXi hx;rw[aXf]at hj;by_cases hji:i=j
  ·subst hji;rw[List.getElem_set_self];exact ho
  rw[List.getElem_set_ne hji];have hm:=List.getElem_mem hj;refine(h.good _ hm).stay w w' (h.ok _ hm) c.size (fun g hg'=> ?_);exact c.block g ((h.good _ hm).lt w (h.ok _ hm) g hg').2 (fun e=>m j hj (Ne.symm hji) g hg' (hr g e.symm))
 refine List.pairwise_iff_getElem.2 fun a b ha hb hab g hga hgb=> ?_
 rw[aXf]at ha hb;have n: ∀j,(hj:j<L.length)→j≠i→ ∀g,L[j].adr g→ ¬d.adr g:=by
  intro j hj l g hg' e;have hm:=List.getElem_mem hj;rcases o g e with h1|h1
  ·exact m j hj l g hg' h1
  have:=((h.good _ hm).lt w (h.ok _ hm) g hg').2;omega
 by_cases hai:i=a
 ·subst hai;rw[List.getElem_set_self]at hga;rw[List.getElem_set_ne (by omega)]at hgb;exact n b hb (by omega) g hgb hga
 rw[List.getElem_set_ne hai]at hga;by_cases hbi:i=b
 ·subst hbi;rw[List.getElem_set_self]at hgb;exact n a ha (by omega) g hga hgb
 rw[List.getElem_set_ne hbi]at hgb;exact List.pairwise_iff_getElem.1 h.apart a b ha hb hab g hga hgb
theorem MemR.store {i g B:Nat}{t:TypeId}{cs:Array Value}(h:MemR R w0 w L)(hi:L[i]? =some (aI B g t cs)) (k:Nat) (u:Value):MemR R w0 (w.setCell ⟨g,k,none⟩ u) (L.set i (aI w0 g t (cs.setIfInBounds k u))):=
 h.turn hi (fun g' e=>by injection e) (qI _ _ _ _) (uE w g k u) ⟨(h.lt hi rfl).1,(h.blk hi).set k u⟩ (fun g' e=> .inl e)
theorem MemR.ostore {i g n c sz:Nat}{e:TypeId}{xs:List Value}(h:MemR R w0 w L)(hi:L[i]? =some (aJ w0 e sz (some ⟨g,0,none⟩) n c xs)) (k:Nat) (u:Value):MemR R w0 (w.setCell ⟨g,k,none⟩ u) (L.set i (aJ w0 e sz (some ⟨g,0,none⟩) n c (xs.set k u))):=
 h.turn hi (fun g' e=>e) (eQ _ _ _ _ _ _ _) (uE w g k u) ((h.own hi).stored k u).1 (fun g' e=> .inl e)
theorem MemR.app {i n c sz n' c':Nat}{e:TypeId}{q q':OA}{xs a:List Value}(h:MemR R w0 w L)(hi:L[i]? =some (aJ w0 e sz q n c xs)) (ho:w'.ownsRow w0 e sz (.slice q' n' c') n' a) (hg:w.grownBy w' (Value.slice q n c).ownBlock)
  (b:(Value.slice q' n' c').ownBlock=(Value.slice q n c).ownBlock∨(Value.slice q' n' c').ownBlock=some w):MemR R w0 w' (L.set i (aJ w0 e sz q' n' c' a)):=
 h.turn hi (fun g e=>e) (eQ _ _ _ _ _ _ _) hg ho (fun g e=>by
  have e':(Value.slice q' n' c').ownBlock=some g:=e;rcases b with h1|h1
  ·exact .inl (by show(Value.slice q n c).ownBlock=some g;rw[←h1];exact e')
  ·rw[h1]at e';injection e' with e';exact .inr e'.symm)
theorem MemR.some {i n c sz B:Nat}{e:TypeId}{q:OA}{xs:List Value}(h:MemR R w0 w L)(hi:L[i]? =Option.some (aJ B e sz q n c xs)) (hn:0<n): ∃g,q=Option.some ⟨g,0,none⟩∧w0.heap.size≤g∧g<w.heap.size:=by
 rcases(h.own hi).2 with⟨h1,h2⟩|⟨g,cap',cur,h1,h3⟩
 ·omega
 injection h1 with e1 e2 e3;subst e1;have:=h.lt hi (g:=g) rfl;exact⟨g,rfl,this.1,this.2⟩
end
section
variable {P:Program} {R:Nat} {w0 w:World} {L:List Item} {ops:Array Oper} {rest:List Oper} {o:Oper} {a:Act} {Q:Exit→Act→World→Prop}
theorem aQx (w:World){t e ty:TypeId}{sz:Nat}(E:ElT P t e sz){i:Nat}{q:OA}{n c:Nat}{xs:List Value}(h:MemR R w0 w L)(hi:L[i]? =some (aJ w0 e sz q n c xs))
  (p:OA) (m d:Nat) (news:List Value) (hs:Sl w p m d sz news) (h1: ∀u∈news,u.oneCell'=true) (hn:n+m≤1099511627776):
  ∃q' c' w',(Builtin.append_ #[t,t] ty #[.slice q n c,.slice p m d]).run P w= .ok (.slice q' (n+m) c') w'∧MemR R w0 w' (L.set i (aJ w0 e sz q' (n+m) c' (xs++news)))∧(∀k,Rand w R k→Rand w' R k):=by
 obtain⟨o,z,a,hz,ab,x,ae⟩:=E.info;have f:=h.own hi;have s: ∀ad:Addr,p=some ad∨m=0→(∀j u,news[j]? =some u→w.cell? (ad.add j)=some u)→ ∃q' c' w',(Builtin.append_ #[t,t] ty #[.slice q n c,.slice (some ad) m d]).run P w= .ok (.slice q' (n+m) c') w'∧MemR R w0 w' (L.set i (aJ w0 e sz q' (n+m) c' (xs++news)))∧(∀k,Rand w R k→Rand w' R k):=by
  intro ad _ l;have v:(n+m)*o.bytes≤140737488355328:=by have:(n+m)*o.bytes≤(n+m)*64:=Nat.mul_le_mul_left _ x;omega
  obtain⟨v',w',r,h2,h3,_,h5⟩:=run_append_own_at (P:=P) w w0 t ty e o z sz o.bytes E.ht a hz ab rfl ae E.pos (.slice q n c) n xs f ad m d news hs.len l h1 (by unfold maxLen;omega) v h.ext.sz;obtain⟨q',c',rfl⟩:=pW h2;exact⟨q',c',w',r,h.app hi h2 h3 h5,fun k hr=>aBj hr h3 (fun g hg=>by have h7:=(h.lt hi (g:=g) hg).1;have h8:=h.old;omega)⟩
 by_cases hm:0<m
 ·obtain⟨b,af,rfl,hb,hc⟩:=hs.rd hm;refine s ⟨b,af,none⟩ (.inl rfl) (fun j u hu=> ?_);have hj:j<m*sz:=by rw[←hs.len];exact(aW3.1 hu).1
  rw[lU,hc j hj];exact hu
 have y:m=0:=by omega
 subst y;have aa:news= []:=List.length_eq_zero_iff.1 (by rw[hs.len];omega);subst aa;cases p with
 |some ad=>exact s ad (.inl rfl) (fun j u hu=>by simp at hu)
 |none=>
  refine⟨q,c,w,?_,h.app hi (by simpa using f) (aXk w _) (.inl rfl),fun k hr=>hr⟩;rcases f.2 with⟨h2,h3⟩|⟨g,cap',cur,h2,_,_,hnc,_⟩
  ·injection h2 with e1 e2 e3;subst e1 e2 e3;simp[Builtin.append_,run_underlying E.ht,sizeOf,typeInfo,a,Builtin.lenOf,Builtin.firstCells]
  injection h2 with e1 e2 e3;subst e1 e3;simp[Builtin.append_,run_underlying E.ht,sizeOf,typeInfo,a,Builtin.lenOf,Builtin.firstCells,hnc,storeCells]
theorem aT7 {K:Act→World→Prop}{t e:TypeId}{sz:Nat}(E:ElT P t e sz)(s x:Operand)
  (ho:o.op= .call {callee:= .builtin .append,args:=#[s,x],argTypes:=#[t,t]})
  (h:MemR R w0 w L)(i:Nat){q:OA}{n c:Nat}{xs:List Value}(hi:L[i]? =some (aJ w0 e sz q n c xs)) (hs:a.eval s= .slice q n c)
  {p:OA} {m d:Nat} (news:List Value) (hx:a.eval x= .slice p m d) (hr:Sl w p m d sz news) (h1: ∀u∈news,u.oneCell'=true) (hn:n+m≤1099511627776)
  (hk: ∀q' c' w',MemR R w0 w' (L.set i (aJ w0 e sz q' (n+m) c' (xs++news)))→(∀k,Rand w R k→Rand w' R k)→K (a.put o.dst (.slice q' (n+m) c')) w'):o.wp P a w K Q:=by
 obtain⟨q',c',w',b,h2,h9⟩:=aQx (P:=P) (ty:=o.type) w E h hi p m d news hr h1 hn;unfold Oper.wp execOp;simp only[ho,resolve,invoke,builtin,Sem.run_bind,Sem.run_pure,Result.andThen_ok,List.map_toArray,aXl,List.map_nil,hs,hx,b];exact hk q' c' w' h2 h9
theorem mR {t e:TypeId}{sz:Nat}(E:ElT P t e sz)(b:o.guard=none)(s x:Operand)
  (ho:o.op= .call {callee:= .builtin .append,args:=#[s,x],argTypes:=#[t,t]})
  (h:MemR R w0 w L)(i:Nat){q:OA}{n c:Nat}{xs:List Value}(hi:L[i]? =some (aJ w0 e sz q n c xs)) (hs:a.eval s= .slice q n c)
  {p:OA} {m d:Nat} (news:List Value) (hx:a.eval x= .slice p m d) (hr:Sl w p m d sz news) (h1: ∀u∈news,u.oneCell'=true) (hn:n+m≤1099511627776)
  (hk: ∀q' c' w',MemR R w0 w' (L.set i (aJ w0 e sz q' (n+m) c' (xs++news)))→(∀k,Rand w R k→Rand w' R k)→wpList P ops Q rest (a.put o.dst (.slice q' (n+m) c')) w'):wpList P ops Q (o::rest) a w:=
 wpList_plain b fun _ hK=>aT7 E s x ho h i hi hs news hx hr h1 hn fun q' c' w' h2 h9=>hK _ _ (hk q' c' w' h2 h9)
end
section
variable {R:Nat} {w0 w w':World} {L:List Item}
theorem MemR.pickd (h:MemR R w0 w L)(hx:ExtR R w w'):MemR R w0 w' L:=
 ⟨h.old,h.ext.trans hx,h.good,fun it hi=>(h.good it hi).stay w w' (h.ok it hi) hx.sz (fun g hg=>by
  have h1:=(h.good it hi).lt w (h.ok it hi) g hg;have h2:=h.old
  exact hx.block g h1.2 (fun e=>by injection e with e;omega)),h.apart⟩
theorem MemR.made {it:Item}(h:MemR R w0 w L)(hx:ExtR R w w')(hg:it.Good w0)(ho:it.ok w')(hn: ∀g,it.adr g→w.heap.size≤g):MemR R w0 w' (it::L):=by refine(h.pickd hx).cons hg ho (fun g hg' j hj e=> ?_);have h1:=hn g hg';have h2:=((h.good j hj).lt w (h.ok j hj) g e).2;omega
theorem MemR.blkR {g:Nat}{t:TypeId}{cs:Array Value}(h:MemR R w0 w L)(hx:ExtR R w w')(hb:Blk w' g t cs)(hg:w.heap.size≤g):MemR R w0 w' (aI w0 g t cs::L):=
 h.made hx (qI _ _ _ _) ⟨aW8 h.ext.sz hg,hb⟩ (fun g' hg'=>by obtain rfl:g=g':=hg';exact hg)
theorem MemR.callR {n c sz:Nat}{e:TypeId}{q:OA}{xs:List Value}(h:MemR R w0 w L)(hx:ExtR R w w')(ho:w'.ownsRow w e sz (.slice q n c) n xs):MemR R w0 w' (aJ w0 e sz q n c xs::L):=
 h.made hx (eQ _ _ _ _ _ _ _) (dX ho h.ext.sz) (fun g hg=>(aWw ho g hg).1)
theorem MemR.own2 {e1 e2:TypeId}{s1 s2 n1 n2 c1 c2:Nat}{q1 q2:OA}{a b:List Value}(h:MemR R w0 w L)(hx:ExtR R w w')(h1:w'.ownsRow w e1 s1 (.slice q1 n1 c1) n1 a)(h2:w'.ownsRow w e2 s2 (.slice q2 n2 c2) n2 b)(ht:e1≠e2):
  MemR R w0 w' (aJ w0 e1 s1 q1 n1 c1 a::aJ w0 e2 s2 q2 n2 c2 b::L):=by
 refine(h.callR hx h2).cons (eQ _ _ _ _ _ _ _) (dX h1 h.ext.sz) (fun g hg' j hj e=> ?_);replace hg':(Value.slice q1 n1 c1).ownBlock=Option.some g:=hg';have a1:=(aWw h1 g hg').1;rcases aWd.1 hj with rfl|hj
 ·have e':(Value.slice q2 n2 c2).ownBlock=Option.some g:=e;rcases h1.2 with⟨b1,_⟩|⟨g1,cap1,cur1,b1,_,b3,_⟩
  ·rw[b1]at hg';cases hg'
  rcases h2.2 with⟨d1,_⟩|⟨g2,cap2,cur2,d1,_,d3,_⟩
  ·rw[d1]at e';cases e'
  rw[b1]at hg';rw[d1]at e';injection hg' with hg';injection e' with e';have x1:g1=g:=hg';have x2:g2=g:=e';subst x1;rw[x2]at d3;rw[d3]at b3;injection b3 with b3;injection b3 with _ b3;exact ht b3.symm
 have h4:=((h.good j hj).lt w (h.ok j hj) g e).2;omega
theorem MemR.own2blk {e1 e2 t:TypeId}{s1 s2 n1 n2 c1 c2 g:Nat}{q1 q2:OA}{d a:List Value}{cs:Array Value}(h:MemR R w0 w L)(hx:ExtR R w w')(h1:w'.ownsRow w e1 s1 (.slice q1 n1 c1) n1 d)(h2:w'.ownsRow w e2 s2 (.slice q2 n2 c2) n2 a)(hb:Blk w' g t cs)(hg:w.heap.size≤g)(ht:e1≠e2)(t1:e1≠t)(t2:e2≠t):
  MemR R w0 w' (aJ w0 e1 s1 q1 n1 c1 d::aJ w0 e2 s2 q2 n2 c2 a::aI w0 g t cs::L):=by
 have b: ∀ {e:TypeId} {s n c:Nat} {q:OA} {xs:List Value},w'.ownsRow w e s (.slice q n c) n xs→e≠t→(Value.slice q n c).ownBlock≠Option.some g:=by
  intro e s n c q xs ho f he;rcases ho.2 with⟨b1,_⟩|⟨g1,cap1,cur1,b1,_,b3,_⟩
  ·rw[b1]at he;cases he
  rw[b1]at he;injection he with he;have x1:g1=g:=he;subst x1;unfold Blk at hb;rw[hb]at b3;injection b3 with b3;injection b3 with _ b3;exact f b3.symm
 have H:=h.own2 hx h1 h2 ht;have p1:=List.pairwise_cons.1 H.apart;have p2:=List.pairwise_cons.1 p1.2;have HB:=h.blkR hx hb hg
 have H2:MemR R w0 w' (aJ w0 e2 s2 q2 n2 c2 a::aI w0 g t cs::L):=HB.cons (eQ _ _ _ _ _ _ _) (dX h2 h.ext.sz) (fun g' hg' j hj e=>by
  rcases aWd.1 hj with rfl|hj
  ·obtain rfl:g=g':=e;exact b h2 t2 hg'
  ·exact p2.1 j hj g' hg' e)
 exact H2.cons (eQ _ _ _ _ _ _ _) (dX h1 h.ext.sz) (fun g' hg' j hj e=>by
  rcases aWd.1 hj with rfl|hj
  ·exact p1.1 _ (by simp) g' hg' e
  ·rcases aWd.1 hj with rfl|hj
   ·obtain rfl:g=g':=e;exact b h1 t1 hg'
   ·exact p1.1 j (by simp[hj]) g' hg' e)
end
theorem MemR.hi {w:World}{L:List Item}(h:MemR R w0 w L)(i:Nat){it:Item}(hi:L[i]? =Option.some it:=by exact rfl)(hg:it.adr g:=by exact rfl):g<w.heap.size:=(h.lt hi hg).2
theorem MemR.nq {w:World}{L:List Item}(h:MemR R w0 w L)(i j:Nat){a b:Item}(c:i<j:=by omega)(hi:L[i]? =Option.some a:=by exact rfl)(hj:L[j]? =Option.some b:=by exact rfl)(ha:a.adr g:=by exact rfl)(hb:b.adr g':=by exact rfl): ¬g=g'∧ ¬g'=g:=⟨h.ne c hi hj ha hb,fun e=>h.ne c hi hj ha hb e.symm⟩
theorem MemR.bk {w:World}{L:List Item}(h:MemR R w0 w L)(i:Nat){B:Nat}{cs:Array Value}(hi:L[i]? =Option.some (aI B g t cs):=by exact rfl):Blk w g t cs:=h.blk hi
theorem MemR.ow {w:World}{L:List Item}(h:MemR R w0 w L)(i:Nat){B sz:Nat}{e:TypeId}(hi:L[i]? =Option.some (aJ B e sz q n c xs):=by exact rfl):w.ownsRow B e sz (.slice q n c) n xs:=h.own hi
theorem MemR.sq {w:World}{L:List Item}(h:MemR R w0 w L)(i:Nat){B sz:Nat}{e:TypeId}(hi:L[i]? =Option.some (aJ B e sz q n c xs):=by exact rfl):Sl w q n c sz xs:=h.sl hi
theorem MemR.so {w:World}{L:List Item}(h:MemR R w0 w L)(i:Nat){sz B:Nat}{e:TypeId}(hi:L[i]? =Option.some (aJ B e sz q n c xs):=by exact rfl)(hn:0<n:=by omega): ∃g,q=Option.some ⟨g,0,none⟩∧w0.heap.size≤g∧g<w.heap.size:=h.some hi hn
theorem MemR.bn {w:World}{L:List Item}(h:MemR R w0 w L)(t:TypeId)(cs:Array Value)(g:Nat)(hg:w.heap.size=g:=by first|exact rfl|simp):MemR R w0 (w.alloc (.cells cs t)) (aI w0 g t cs::L):=h.blkNew t cs g hg
theorem MemR.c0 {v:World}{L:List Item}(h:MemR R w0 v L)(t:TypeId)(cs:Array Value):MemR R w0 (v.alloc (.cells cs t)) (aI w0 v t cs::L):=h.blkNew t cs _ rfl
theorem MemR.c1 {v:World}{L:List Item}(h:MemR R w0 (v.alloc o) L)(t:TypeId)(cs:Array Value):MemR R w0 ((v.alloc o).alloc (.cells cs t)) (aI w0 (v.heap.size+1) t cs::L):=h.blkNew t cs _ (by simp)
theorem MemR.c2 {v:World}{L:List Item}(h:MemR R w0 ((v.alloc o).alloc o') L)(t:TypeId)(cs:Array Value):MemR R w0 (((v.alloc o).alloc o').alloc (.cells cs t)) (aI w0 (v.heap.size+1+1) t cs::L):=h.blkNew t cs _ (by simp)
end
section
open Go
theorem Mem.put3 {w:World}{L:List Item}{B:Nat}(h:Mem w0 w L)(hi:L[i]? =Option.some (aI B g t #[a0,a1,a2]))(b0 b1 b2:Value):Mem w0 (((w.setCell ⟨g,0,none⟩ b0).setCell ⟨g,1,none⟩ b1).setCell ⟨g,2,none⟩ b2) (L.set i (aI w0 g t #[b0,b1,b2])):=by
 have hl:i<L.length:=(aW3.1 hi).1;have h0:Mem w0 (w.setCell ⟨g,0,none⟩ b0) (L.set i (aI w0 g t #[b0,a1,a2])):=by have:=h.store (i:=i) hi 0 b0;simpa[aX1]using this
 have i0:(L.set i (aI w0 g t #[b0,a1,a2]))[i]? =Option.some (aI w0 g t #[b0,a1,a2]):=by rw[aWa hl]
 have h1:Mem w0 ((w.setCell ⟨g,0,none⟩ b0).setCell ⟨g,1,none⟩ b1) (L.set i (aI w0 g t #[b0,b1,a2])):=by have:=h0.store (i:=i) i0 1 b1;simpa[aX1]using this
 have i1:(L.set i (aI w0 g t #[b0,b1,a2]))[i]? =Option.some (aI w0 g t #[b0,b1,a2]):=by rw[aWa hl]
 have h2:Mem w0 (((w.setCell ⟨g,0,none⟩ b0).setCell ⟨g,1,none⟩ b1).setCell ⟨g,2,none⟩ b2) (L.set i (aI w0 g t #[b0,b1,b2])):=by have:=h1.store (i:=i) i1 2 b2;simpa[aX1]using this
 have i2:(L.set i (aI w0 g t #[b0,b1,b2]))[i]? =Option.some (aI w0 g t #[b0,b1,b2]):=by rw[aWa hl]
 exact h2
theorem Mem.put10 {w:World}{L:List Item}{B:Nat}{a3 a4 a5 a6 a7 a8 a9:Value}(h:Mem w0 w L)(hi:L[i]? =Option.some (aI B g t #[a0,a1,a2,a3,a4,a5,a6,a7,a8,a9]))(b0 b1 b2 b3 b4 b5 b6 b7 b8 b9:Value):Mem w0 ((((((((((w.setCell ⟨g,0,none⟩ b0).setCell ⟨g,1,none⟩ b1).setCell ⟨g,2,none⟩ b2).setCell ⟨g,3,none⟩ b3).setCell ⟨g,4,none⟩ b4).setCell ⟨g,5,none⟩ b5).setCell ⟨g,6,none⟩ b6).setCell ⟨g,7,none⟩ b7).setCell ⟨g,8,none⟩ b8).setCell ⟨g,9,none⟩ b9) (L.set i (aI w0 g t #[b0,b1,b2,b3,b4,b5,b6,b7,b8,b9])):=by
 have hl:i<L.length:=(aW3.1 hi).1;have h0:Mem w0 (w.setCell ⟨g,0,none⟩ b0) (L.set i (aI w0 g t #[b0,a1,a2,a3,a4,a5,a6,a7,a8,a9])):=by have:=h.store (i:=i) hi 0 b0;simpa[aX1]using this
 have i0:(L.set i (aI w0 g t #[b0,a1,a2,a3,a4,a5,a6,a7,a8,a9]))[i]? =Option.some (aI w0 g t #[b0,a1,a2,a3,a4,a5,a6,a7,a8,a9]):=by rw[aWa hl]
 have h1:Mem w0 ((w.setCell ⟨g,0,none⟩ b0).setCell ⟨g,1,none⟩ b1) (L.set i (aI w0 g t #[b0,b1,a2,a3,a4,a5,a6,a7,a8,a9])):=by have:=h0.store (i:=i) i0 1 b1;simpa[aX1]using this
 have i1:(L.set i (aI w0 g t #[b0,b1,a2,a3,a4,a5,a6,a7,a8,a9]))[i]? =Option.some (aI w0 g t #[b0,b1,a2,a3,a4,a5,a6,a7,a8,a9]):=by rw[aWa hl]
 have h2:Mem w0 (((w.setCell ⟨g,0,none⟩ b0).setCell ⟨g,1,none⟩ b1).setCell ⟨g,2,none⟩ b2) (L.set i (aI w0 g t #[b0,b1,b2,a3,a4,a5,a6,a7,a8,a9])):=by have:=h1.store (i:=i) i1 2 b2;simpa[aX1]using this
 have i2:(L.set i (aI w0 g t #[b0,b1,b2,a3,a4,a5,a6,a7,a8,a9]))[i]? =Option.some (aI w0 g t #[b0,b1,b2,a3,a4,a5,a6,a7,a8,a9]):=by rw[aWa hl]
 have h3:Mem w0 ((((w.setCell ⟨g,0,none⟩ b0).setCell ⟨g,1,none⟩ b1).setCell ⟨g,2,none⟩ b2).setCell ⟨g,3,none⟩ b3) (L.set i (aI w0 g t #[b0,b1,b2,b3,a4,a5,a6,a7,a8,a9])):=by have:=h2.store (i:=i) i2 3 b3;simpa[aX1]using this
 have i3:(L.set i (aI w0 g t #[b0,b1,b2,b3,a4,a5,a6,a7,a8,a9]))[i]? =Option.some (aI w0 g t #[b0,b1,b2,b3,a4,a5,a6,a7,a8,a9]):=by rw[aWa hl]
 have h4:Mem w0 (((((w.setCell ⟨g,0,none⟩ b0).setCell ⟨g,1,none⟩ b1).setCell ⟨g,2,none⟩ b2).setCell ⟨g,3,none⟩ b3).setCell ⟨g,4,none⟩ b4) (L.set i (aI w0 g t #[b0,b1,b2,b3,b4,a5,a6,a7,a8,a9])):=by have:=h3.store (i:=i) i3 4 b4;simpa[aX1]using this
 have i4:(L.set i (aI w0 g t #[b0,b1,b2,b3,b4,a5,a6,a7,a8,a9]))[i]? =Option.some (aI w0 g t #[b0,b1,b2,b3,b4,a5,a6,a7,a8,a9]):=by rw[aWa hl]
 have h5:Mem w0 ((((((w.setCell ⟨g,0,none⟩ b0).setCell ⟨g,1,none⟩ b1).setCell ⟨g,2,none⟩ b2).setCell ⟨g,3,none⟩ b3).setCell ⟨g,4,none⟩ b4).setCell ⟨g,5,none⟩ b5) (L.set i (aI w0 g t #[b0,b1,b2,b3,b4,b5,a6,a7,a8,a9])):=by have:=h4.store (i:=i) i4 5 b5;simpa[aX1]using this
 have i5:(L.set i (aI w0 g t #[b0,b1,b2,b3,b4,b5,a6,a7,a8,a9]))[i]? =Option.some (aI w0 g t #[b0,b1,b2,b3,b4,b5,a6,a7,a8,a9]):=by rw[aWa hl]
 have h6:Mem w0 (((((((w.setCell ⟨g,0,none⟩ b0).setCell ⟨g,1,none⟩ b1).setCell ⟨g,2,none⟩ b2).setCell ⟨g,3,none⟩ b3).setCell ⟨g,4,none⟩ b4).setCell ⟨g,5,none⟩ b5).setCell ⟨g,6,none⟩ b6) (L.set i (aI w0 g t #[b0,b1,b2,b3,b4,b5,b6,a7,a8,a9])):=by have:=h5.store (i:=i) i5 6 b6;simpa[aX1]using this
 have i6:(L.set i (aI w0 g t #[b0,b1,b2,b3,b4,b5,b6,a7,a8,a9]))[i]? =Option.some (aI w0 g t #[b0,b1,b2,b3,b4,b5,b6,a7,a8,a9]):=by rw[aWa hl]
 have h7:Mem w0 ((((((((w.setCell ⟨g,0,none⟩ b0).setCell ⟨g,1,none⟩ b1).setCell ⟨g,2,none⟩ b2).setCell ⟨g,3,none⟩ b3).setCell ⟨g,4,none⟩ b4).setCell ⟨g,5,none⟩ b5).setCell ⟨g,6,none⟩ b6).setCell ⟨g,7,none⟩ b7) (L.set i (aI w0 g t #[b0,b1,b2,b3,b4,b5,b6,b7,a8,a9])):=by have:=h6.store (i:=i) i6 7 b7;simpa[aX1]using this
 have i7:(L.set i (aI w0 g t #[b0,b1,b2,b3,b4,b5,b6,b7,a8,a9]))[i]? =Option.some (aI w0 g t #[b0,b1,b2,b3,b4,b5,b6,b7,a8,a9]):=by rw[aWa hl]
 have h8:Mem w0 (((((((((w.setCell ⟨g,0,none⟩ b0).setCell ⟨g,1,none⟩ b1).setCell ⟨g,2,none⟩ b2).setCell ⟨g,3,none⟩ b3).setCell ⟨g,4,none⟩ b4).setCell ⟨g,5,none⟩ b5).setCell ⟨g,6,none⟩ b6).setCell ⟨g,7,none⟩ b7).setCell ⟨g,8,none⟩ b8) (L.set i (aI w0 g t #[b0,b1,b2,b3,b4,b5,b6,b7,b8,a9])):=by have:=h7.store (i:=i) i7 8 b8;simpa[aX1]using this
 have i8:(L.set i (aI w0 g t #[b0,b1,b2,b3,b4,b5,b6,b7,b8,a9]))[i]? =Option.some (aI w0 g t #[b0,b1,b2,b3,b4,b5,b6,b7,b8,a9]):=by rw[aWa hl]
 have h9:Mem w0 ((((((((((w.setCell ⟨g,0,none⟩ b0).setCell ⟨g,1,none⟩ b1).setCell ⟨g,2,none⟩ b2).setCell ⟨g,3,none⟩ b3).setCell ⟨g,4,none⟩ b4).setCell ⟨g,5,none⟩ b5).setCell ⟨g,6,none⟩ b6).setCell ⟨g,7,none⟩ b7).setCell ⟨g,8,none⟩ b8).setCell ⟨g,9,none⟩ b9) (L.set i (aI w0 g t #[b0,b1,b2,b3,b4,b5,b6,b7,b8,b9])):=by have:=h8.store (i:=i) i8 9 b9;simpa[aX1]using this
 have i9:(L.set i (aI w0 g t #[b0,b1,b2,b3,b4,b5,b6,b7,b8,b9]))[i]? =Option.some (aI w0 g t #[b0,b1,b2,b3,b4,b5,b6,b7,b8,b9]):=by rw[aWa hl]
 exact h9
end
end Go.Proofs.YthfmmibomhhmpabGreatDoor
