/- Lemmas (@packed). -/
import Derived.WalkLawsBesides
import Derived.Test.YthfmmibomhhmpabGreatDoorZ2
namespace Go.Proofs.YthfmmibomhhmpabGreatDoor
open Go.Proofs.Tryz
set_option linter.all false
set_option maxHeartbeats 8000000
set_option maxRecDepth 100000
variable{aD:Int}{cs l:List Int}{L:List Item}{src:List Nat}{k N g R B u:Nat}{t:TypeId}{a0 a1 a2 v:Value}{w' w0:World}(xs:List Int)(x n lo hi aA aB f s p c m i pd a b now:Int)(w:World)(d1 d2:Int)
section
open Go Go.RowKit
theorem MemR.put3 {w:World}{i:Nat}(h:MemR R w0 w L)(hi:L[i]? =Option.some (aI B g t #[a0,a1,a2]))(b0 b1 b2:Value):MemR R w0 (((w.setCell ⟨g,0,none⟩ b0).setCell ⟨g,1,none⟩ b1).setCell ⟨g,2,none⟩ b2) (L.set i (aI w0 g t #[b0,b1,b2])):=by
 have hl:i<L.length:=(aW3.1 hi).1;have h0:MemR R w0 (w.setCell ⟨g,0,none⟩ b0) (L.set i (aI w0 g t #[b0,a1,a2])):=by have:=h.store (i:=i) hi 0 b0;simpa[aX1]using this
 have i0:(L.set i (aI w0 g t #[b0,a1,a2]))[i]? =Option.some (aI w0 g t #[b0,a1,a2]):=by rw[aWa hl]
 have h1:MemR R w0 ((w.setCell ⟨g,0,none⟩ b0).setCell ⟨g,1,none⟩ b1) (L.set i (aI w0 g t #[b0,b1,a2])):=by have:=h0.store (i:=i) i0 1 b1;simpa[aX1]using this
 have i1:(L.set i (aI w0 g t #[b0,b1,a2]))[i]? =Option.some (aI w0 g t #[b0,b1,a2]):=by rw[aWa hl]
 have h2:MemR R w0 (((w.setCell ⟨g,0,none⟩ b0).setCell ⟨g,1,none⟩ b1).setCell ⟨g,2,none⟩ b2) (L.set i (aI w0 g t #[b0,b1,b2])):=by have:=h1.store (i:=i) i1 2 b2;simpa[aX1]using this
 have i2:(L.set i (aI w0 g t #[b0,b1,b2]))[i]? =Option.some (aI w0 g t #[b0,b1,b2]):=by rw[aWa hl]
 exact h2
theorem MemR.put10 {w:World}{i:Nat}{a3 a4 a5 a6 a7 a8 a9:Value}(h:MemR R w0 w L)(hi:L[i]? =Option.some (aI B g t #[a0,a1,a2,a3,a4,a5,a6,a7,a8,a9]))(b0 b1 b2 b3 b4 b5 b6 b7 b8 b9:Value):MemR R w0 ((((((((((w.setCell ⟨g,0,none⟩ b0).setCell ⟨g,1,none⟩ b1).setCell ⟨g,2,none⟩ b2).setCell ⟨g,3,none⟩ b3).setCell ⟨g,4,none⟩ b4).setCell ⟨g,5,none⟩ b5).setCell ⟨g,6,none⟩ b6).setCell ⟨g,7,none⟩ b7).setCell ⟨g,8,none⟩ b8).setCell ⟨g,9,none⟩ b9) (L.set i (aI w0 g t #[b0,b1,b2,b3,b4,b5,b6,b7,b8,b9])):=by
 have hl:i<L.length:=(aW3.1 hi).1;have h0:MemR R w0 (w.setCell ⟨g,0,none⟩ b0) (L.set i (aI w0 g t #[b0,a1,a2,a3,a4,a5,a6,a7,a8,a9])):=by have:=h.store (i:=i) hi 0 b0;simpa[aX1]using this
 have i0:(L.set i (aI w0 g t #[b0,a1,a2,a3,a4,a5,a6,a7,a8,a9]))[i]? =Option.some (aI w0 g t #[b0,a1,a2,a3,a4,a5,a6,a7,a8,a9]):=by rw[aWa hl]
 have h1:MemR R w0 ((w.setCell ⟨g,0,none⟩ b0).setCell ⟨g,1,none⟩ b1) (L.set i (aI w0 g t #[b0,b1,a2,a3,a4,a5,a6,a7,a8,a9])):=by have:=h0.store (i:=i) i0 1 b1;simpa[aX1]using this
 have i1:(L.set i (aI w0 g t #[b0,b1,a2,a3,a4,a5,a6,a7,a8,a9]))[i]? =Option.some (aI w0 g t #[b0,b1,a2,a3,a4,a5,a6,a7,a8,a9]):=by rw[aWa hl]
 have h2:MemR R w0 (((w.setCell ⟨g,0,none⟩ b0).setCell ⟨g,1,none⟩ b1).setCell ⟨g,2,none⟩ b2) (L.set i (aI w0 g t #[b0,b1,b2,a3,a4,a5,a6,a7,a8,a9])):=by have:=h1.store (i:=i) i1 2 b2;simpa[aX1]using this
 have i2:(L.set i (aI w0 g t #[b0,b1,b2,a3,a4,a5,a6,a7,a8,a9]))[i]? =Option.some (aI w0 g t #[b0,b1,b2,a3,a4,a5,a6,a7,a8,a9]):=by rw[aWa hl]
 have h3:MemR R w0 ((((w.setCell ⟨g,0,none⟩ b0).setCell ⟨g,1,none⟩ b1).setCell ⟨g,2,none⟩ b2).setCell ⟨g,3,none⟩ b3) (L.set i (aI w0 g t #[b0,b1,b2,b3,a4,a5,a6,a7,a8,a9])):=by have:=h2.store (i:=i) i2 3 b3;simpa[aX1]using this
 have i3:(L.set i (aI w0 g t #[b0,b1,b2,b3,a4,a5,a6,a7,a8,a9]))[i]? =Option.some (aI w0 g t #[b0,b1,b2,b3,a4,a5,a6,a7,a8,a9]):=by rw[aWa hl]
 have h4:MemR R w0 (((((w.setCell ⟨g,0,none⟩ b0).setCell ⟨g,1,none⟩ b1).setCell ⟨g,2,none⟩ b2).setCell ⟨g,3,none⟩ b3).setCell ⟨g,4,none⟩ b4) (L.set i (aI w0 g t #[b0,b1,b2,b3,b4,a5,a6,a7,a8,a9])):=by have:=h3.store (i:=i) i3 4 b4;simpa[aX1]using this
 have i4:(L.set i (aI w0 g t #[b0,b1,b2,b3,b4,a5,a6,a7,a8,a9]))[i]? =Option.some (aI w0 g t #[b0,b1,b2,b3,b4,a5,a6,a7,a8,a9]):=by rw[aWa hl]
 have h5:MemR R w0 ((((((w.setCell ⟨g,0,none⟩ b0).setCell ⟨g,1,none⟩ b1).setCell ⟨g,2,none⟩ b2).setCell ⟨g,3,none⟩ b3).setCell ⟨g,4,none⟩ b4).setCell ⟨g,5,none⟩ b5) (L.set i (aI w0 g t #[b0,b1,b2,b3,b4,b5,a6,a7,a8,a9])):=by have:=h4.store (i:=i) i4 5 b5;simpa[aX1]using this
 have i5:(L.set i (aI w0 g t #[b0,b1,b2,b3,b4,b5,a6,a7,a8,a9]))[i]? =Option.some (aI w0 g t #[b0,b1,b2,b3,b4,b5,a6,a7,a8,a9]):=by rw[aWa hl]
 have h6:MemR R w0 (((((((w.setCell ⟨g,0,none⟩ b0).setCell ⟨g,1,none⟩ b1).setCell ⟨g,2,none⟩ b2).setCell ⟨g,3,none⟩ b3).setCell ⟨g,4,none⟩ b4).setCell ⟨g,5,none⟩ b5).setCell ⟨g,6,none⟩ b6) (L.set i (aI w0 g t #[b0,b1,b2,b3,b4,b5,b6,a7,a8,a9])):=by have:=h5.store (i:=i) i5 6 b6;simpa[aX1]using this
 have i6:(L.set i (aI w0 g t #[b0,b1,b2,b3,b4,b5,b6,a7,a8,a9]))[i]? =Option.some (aI w0 g t #[b0,b1,b2,b3,b4,b5,b6,a7,a8,a9]):=by rw[aWa hl]
 have h7:MemR R w0 ((((((((w.setCell ⟨g,0,none⟩ b0).setCell ⟨g,1,none⟩ b1).setCell ⟨g,2,none⟩ b2).setCell ⟨g,3,none⟩ b3).setCell ⟨g,4,none⟩ b4).setCell ⟨g,5,none⟩ b5).setCell ⟨g,6,none⟩ b6).setCell ⟨g,7,none⟩ b7) (L.set i (aI w0 g t #[b0,b1,b2,b3,b4,b5,b6,b7,a8,a9])):=by have:=h6.store (i:=i) i6 7 b7;simpa[aX1]using this
 have i7:(L.set i (aI w0 g t #[b0,b1,b2,b3,b4,b5,b6,b7,a8,a9]))[i]? =Option.some (aI w0 g t #[b0,b1,b2,b3,b4,b5,b6,b7,a8,a9]):=by rw[aWa hl]
 have h8:MemR R w0 (((((((((w.setCell ⟨g,0,none⟩ b0).setCell ⟨g,1,none⟩ b1).setCell ⟨g,2,none⟩ b2).setCell ⟨g,3,none⟩ b3).setCell ⟨g,4,none⟩ b4).setCell ⟨g,5,none⟩ b5).setCell ⟨g,6,none⟩ b6).setCell ⟨g,7,none⟩ b7).setCell ⟨g,8,none⟩ b8) (L.set i (aI w0 g t #[b0,b1,b2,b3,b4,b5,b6,b7,b8,a9])):=by have:=h7.store (i:=i) i7 8 b8;simpa[aX1]using this
 have i8:(L.set i (aI w0 g t #[b0,b1,b2,b3,b4,b5,b6,b7,b8,a9]))[i]? =Option.some (aI w0 g t #[b0,b1,b2,b3,b4,b5,b6,b7,b8,a9]):=by rw[aWa hl]
 have h9:MemR R w0 ((((((((((w.setCell ⟨g,0,none⟩ b0).setCell ⟨g,1,none⟩ b1).setCell ⟨g,2,none⟩ b2).setCell ⟨g,3,none⟩ b3).setCell ⟨g,4,none⟩ b4).setCell ⟨g,5,none⟩ b5).setCell ⟨g,6,none⟩ b6).setCell ⟨g,7,none⟩ b7).setCell ⟨g,8,none⟩ b8).setCell ⟨g,9,none⟩ b9) (L.set i (aI w0 g t #[b0,b1,b2,b3,b4,b5,b6,b7,b8,b9])):=by have:=h8.store (i:=i) i8 9 b9;simpa[aX1]using this
 have i9:(L.set i (aI w0 g t #[b0,b1,b2,b3,b4,b5,b6,b7,b8,b9]))[i]? =Option.some (aI w0 g t #[b0,b1,b2,b3,b4,b5,b6,b7,b8,b9]):=by rw[aWa hl]
 exact h9
end
section
open Go.RowKit
def Code (w:World)(v:Value):Prop:= ∃(p:OA) (n cap:Nat) (bs:List Int),v= .slice p n cap∧Sl w p n cap 1 (bs.map (Value.int .u8))∧ ∀x∈bs,0≤x∧x≤255
theorem Code.ext {w:World}(h:Code w v)(hx:Ext w w'):Code w' v:=by obtain⟨p,n,a,bs,h1,h2,h3⟩:=h;exact⟨p,n,a,bs,h1,h2.ext hx,h3⟩
def aUf (w:World)(e:Ending)(w':World):Prop:= ∃R,e= .returned (.pointer (some ⟨R,0,none⟩))∧w.heap.size≤R∧Rand w' R 0∧Ext w w'
theorem aI4 {w:World}{p:OA}{n a:Nat}{bs:List Int}(h:Sl w p n a 1 (bs.map (Value.int .u8)))(hn:n≤2000)(hb: ∀x∈bs,0≤x∧x≤255)(hp:0<n→ ∀b off,p=some ⟨b,off,none⟩→b<w.heap.size):
  Rand (w.alloc (.cells #[.slice p n a,()] 79)) w 0:=
 ⟨p,n,a,0,bs,Blk.new _ _ _,by omega,by omega,h.ext ((Ext.refl w).alloc _),hn,hb,fun h0 b off e=>by have:=hp h0 b off e;omega⟩
theorem aA1 (v:Value)(w:World)(hc:Code w v):U 17 #[v] w (aUf w):=by
 obtain⟨p,n,c,bs,rfl,h,hb⟩:=hc;have hp:0<n→ ∃b off,p=some ⟨b,off,none⟩∧b<w.heap.size:=fun h0=>by obtain⟨b,off,e,h1,_⟩:=h.rd h0;exact⟨b,off,e,h1⟩
 have g:=h.le;have a:=h.mx;have f:=h.bd;unfold maxLen at a;have H:=xQ h;by_cases hn:2000<n
 ·obtain⟨b,off,rfl,d⟩:=hp (by omega);go_enter func17,ntmps17;go_wp2;go_ret;exact⟨_,rfl,aVz _,aI4 (by simpa using aFs H (m:=2000) (by omega)) (by omega) (fun x hx=>hb x (aXq hx)) (fun _ b' off' e=>by injection e with e;injection e with e;omega),by exact .alloc (.refl _) _⟩
 go_enter func17,ntmps17;go_wp2;go_ret;exact⟨_,rfl,aVz _,aI4 H (by omega) hb (fun h0 b' off' e=>by obtain⟨b,off,e2,h3⟩:=hp h0;rw[e2]at e;injection e with e;injection e with e;omega),by exact .alloc (.refl _) _⟩
def aT6 (R k:Nat)(n:Int)(w:World)(e:Ending)(w':World):Prop:= ∃t:Bool,e= .returned (.bool t)∧Rand w' R (k+1)∧ExtR R w w'
theorem aFx (R k:Nat)(n:Int)(w:World)(hr:Rand w R k)(hk:k≤1099511627775)(hn:0≤n)(b:n≤1000000):
  U 23 #[.pointer (some ⟨R,0,none⟩),n] w (aT6 R k n w):=by
 by_cases h0:0<n
 ·go_enter func23,ntmps23;go_wp2_with fail;refine(cP R (k) (n) _ (hr) (by omega)).mono ?_;rintro e w1 ⟨a,rfl,a0,a1,r1,x1⟩;replace a1:a<n:=by omega
  go_wp2;go_ret;exact⟨_,rfl,r1,x1⟩
 go_enter func23,ntmps23;go_wp2;go_ret;exact⟨_,rfl,hr.mono (by omega),ExtR.refl _ _⟩
theorem ExtR.blk {w:World}{cs:Array Value}(h:ExtR R w w')(hb:Blk w g t cs)(a:g≠R):Blk w' g t cs:=hb.grown h (fun e=>a (by injection e))
section
open Go.ChangeShapes Go.WideShapes Go.ChangeAt
variable {H:Type} {enc:TypeId×Value→H} {w:World} {base:Nat} {spare:Nat→Bool} {held:Bool} {b0:Nat} {r:Reach} {v:Value} {d:DataW H} {p:List MemPlace}
theorem aOe (hv:Value.okWide prog w r b0 22 v)(h:DataW.Trod enc prog w base spare held 22 v d p): ∃u:Unit,Code w v:=by
 obtain⟨a0,i,g,rfl⟩:=okWide_slice underlying22 hv;obtain⟨f,hh⟩:=h
 obtain⟨xs,q,c,b,hS,hg⟩:=aRc (α:=Int) (fun x=> [.int .u8 x]) (fun x=>0≤x∧x≤255) 1 underlying22 (by kernel_rfl) (by omega) (fun _=>rfl) (fun n cs y hy=>by
  obtain⟨a,rfl,_,ha⟩:=DataW.trod_int underlying5 hy
  exact⟨a,rfl,bounds_u8 ha⟩) (by simpa[Value.cells]using hh)
 refine⟨(),q,_,c,xs,b,?_,hg⟩;have e:xs.flatMap (fun x=> [Value.int .u8 x])=xs.map (Value.int .u8):=by
  clear hS hg b;induction xs with
  |nil=>rfl
  |cons x xs ih=>simp_all
 rw[←e];exact hS
end
end
def fT (val:Int)(s:List Int×List Nat)(v:Nat):List Int×List Nat:=
 if s.1.getD v 0<0 then(s.1.set v val,s.2++ [v])else s
def bY (val:Int)(s:List Int×List Nat)(vs:List Nat):List Int×List Nat:=vs.foldl (fT val) s
theorem eT (s:List Int×List Nat)(vs:List Nat)(v:Nat):bY a s (vs++ [v])=fT a (bY a s vs) v:=by simp[bY]
def rZ (adj:Nat→List Nat)(src:List Nat):Nat→Nat→Prop
 |0,v=>v∈src
 |d+1,v=> ∃u,rZ adj src d u∧v∈adj u
structure Inv (adj:Nat→List Nat) (src:List Nat) (N k:Nat) (s:List Int×List Nat):Prop where
 len:s.1.length=N
 bd: ∀v∈s.2,v<N
 mem: ∀v,v<N→(0≤s.1.getD v 0↔v∈s.2)
 nodup:s.2.Nodup
 mono:s.2.Pairwise (fun a b=>s.1.getD a 0≤s.1.getD b 0)
 near: ∀u,s.2[k]? =some u→ ∀v∈s.2,s.1.getD v 0≤s.1.getD u 0+1
 sound: ∀v∈s.2,rZ adj src (s.1.getD v 0).toNat v
 src: ∀v∈src,v∈s.2∧s.1.getD v 0=0
 done: ∀i u,i<k→s.2[i]? =some u→ ∀v∈adj u,v∈s.2∧s.1.getD v 0≤s.1.getD u 0+1
structure Mid (adj:Nat→List Nat) (src:List Nat) (N k u:Nat) (ws:List Nat) (s0 s:List Int×List Nat):Prop where
 len:s.1.length=N
 bd: ∀v∈s.2,v<N
 mem: ∀v,v<N→(0≤s.1.getD v 0↔v∈s.2)
 nodup:s.2.Nodup
 mono:s.2.Pairwise (fun a b=>s.1.getD a 0≤s.1.getD b 0)
 near: ∀v∈s.2,s.1.getD v 0≤s.1.getD u 0+1
 sound: ∀v∈s.2,rZ adj src (s.1.getD v 0).toNat v
 pre: ∃r,s.2=s0.2++r
 same: ∀v∈s0.2,s.1.getD v 0=s0.1.getD v 0
 seen: ∀v∈ws,v∈s.2
theorem cX {v:Nat}{x:Int}(h:v<l.length):(l.set v x).getD v 0=x:=by simp[List.getD,h]
theorem cF {v w:Nat}{x:Int}(h:v≠w):(l.set v x).getD w 0=l.getD w 0:=by simp[List.getD,aXr h]
theorem Mid.step {adj:Nat→List Nat}{w:Nat}{ws:List Nat}{s0 s:List Int×List Nat}(h:Mid adj src N k u ws s0 s)(hu:u∈s0.2)(hw:w∈adj u)(i:w<N)(f:s0.1.getD u 0=s.1.getD u 0):
  Mid adj src N k u (ws++ [w]) s0 (fT (s0.1.getD u 0+1) s w):=by
 have g:u∈s.2:=by obtain⟨r,hr⟩:=h.pre;rw[hr];exact aX9 _ hu
 have n:0≤s.1.getD u 0:=(h.mem u (h.bd u g)).2 g;unfold fT;by_cases hc:s.1.getD w 0<0
 ·rw[if_pos hc];have j:w∉s.2:=fun hm=>by have:=(h.mem w i).2 hm;omega
  have d: ∀v∈s.2,w≠v:=fun v hv e=>j (by rw[e];exact hv)
  have m:w<s.1.length:=by rw[h.len];exact i
  have c:=cX (x:=s0.1.getD u 0+1) m;refine⟨by simp[h.len],?_,?_,?_,?_,?_,?_,?_,?_,?_⟩
  ·intro v hv;rcases aWh.1 hv with hv|hv
   ·exact h.bd v hv
   simp at hv;rw[hv];exact i
  ·intro v hv;by_cases e:w=v
   ·subst e;dsimp only;rw[c];exact⟨fun _=>by simp,fun _=>by omega⟩
   dsimp only;rw[cF e,h.mem v hv];simp;intro e2;exact absurd e2.symm e
  ·dsimp only;rw[List.nodup_append];refine⟨h.nodup,by simp,fun a ha b hb=> ?_⟩;simp at hb;subst hb;exact fun e=>j (by rw[←e];exact ha)
  ·dsimp only;rw[List.pairwise_append];refine⟨?_,by simp,?_⟩
   ·refine h.mono.imp_of_mem ?_;intro a b ha hb l;rw[cF (d a ha),cF (d b hb)];exact l
   intro a ha b hb;simp at hb;subst hb;rw[c,cF (d a ha),f];exact h.near a ha
  ·intro v hv;dsimp only at hv⊢;rw[cF (d u g)];rcases aWh.1 hv with hv|hv
   ·rw[cF (d v hv)];exact h.near v hv
   simp at hv;subst hv;rw[c,f];exact Int.le_refl _
  ·intro v hv;dsimp only at hv⊢;rcases aWh.1 hv with hv|hv
   ·rw[cF (d v hv)];exact h.sound v hv
   simp at hv;subst hv;rw[c,f];have e:(s.1.getD u 0+1).toNat=(s.1.getD u 0).toNat+1:=by omega
   rw[e];exact⟨u,h.sound u g,hw⟩
  ·obtain⟨r,hr⟩:=h.pre;exact⟨r++ [w],by dsimp only;rw[hr,List.append_assoc]⟩
  ·intro v hv;have:v∈s.2:=by obtain⟨r,hr⟩:=h.pre;rw[hr];exact aX9 _ hv
   dsimp only;rw[cF (d v this)];exact h.same v hv
  intro v hv;dsimp only;rcases aWh.1 hv with hv|hv
  ·exact aX9 _ (h.seen v hv)
  simp at hv;subst hv;simp
 rw[if_neg hc]
 exact⟨h.len,h.bd,h.mem,h.nodup,h.mono,h.near,h.sound,h.pre,h.same,fun v hv=>by
  rcases aWh.1 hv with hv|hv
  ·exact h.seen v hv
  ·simp at hv;subst hv;exact(h.mem v i).1 (by omega)⟩
theorem Inv.mid {adj:Nat→List Nat}{s:List Int×List Nat}(h:Inv adj src N k s)(hu:s.2[k]? =some u):Mid adj src N k u [] s s:=
 ⟨h.len,h.bd,h.mem,h.nodup,h.mono,h.near u hu,h.sound,⟨[],by simp⟩,fun _ _=>rfl,fun v hv=>by cases hv⟩
theorem Mid.many {adj:Nat→List Nat}{s0:List Int×List Nat}(hu:u∈s0.2): ∀(vs ws:List Nat) (s:List Int×List Nat),Mid adj src N k u ws s0 s→(∀v∈vs,v∈adj u∧v<N)→Mid adj src N k u (ws++vs) s0 (bY (s0.1.getD u 0+1) s vs):=by
 intro vs;induction vs with
 |nil=>intro ws s h _;simpa[bY]using h
 |cons v vs ih=>intro ws s h hv;have h1:=h.step hu (hv v (by simp)).1 (hv v (by simp)).2 (h.same u hu).symm;have:=ih (ws++ [v]) _ h1 (fun x hx=>hv x (by simp[hx]));simpa[bY]using this
theorem Inv.step {adj:Nat→List Nat}{u:Nat}{s:List Int×List Nat}(h:Inv adj src N k s)(hu:s.2[k]? =some u)(ha: ∀v∈adj u,v<N):Inv adj src N (k+1) (bY (s.1.getD u 0+1) s (adj u)):=by
 have n:u∈s.2:=aW1 hu;have m:=Mid.many n (adj u) [] s (h.mid hu) (fun v hv=>⟨hv,ha v hv⟩);rw[aXz]at m;obtain⟨r,hr⟩:=m.pre;have hk:k<s.2.length:=(aW3.1 hu).1;refine⟨m.len,m.bd,m.mem,m.nodup,m.mono,?_,m.sound,?_,?_⟩
 ·intro u' c v hv;have h1:=m.near v hv;have o:(bY (s.1.getD u 0+1) s (adj u)).1.getD u 0≤(bY (s.1.getD u 0+1) s (adj u)).1.getD u' 0:=by
   obtain⟨g,e'⟩:=aW3.1 c;have l:(bY (s.1.getD u 0+1) s (adj u)).2[k]? =some u:=by rw[hr,aWl hk];exact hu
   obtain⟨j,e2⟩:=aW3.1 l;have:=List.pairwise_iff_getElem.1 m.mono k (k+1) j g (by omega);rw[e',e2]at this;exact this
  omega
 ·intro v hv;obtain⟨a,b⟩:=h.src v hv;exact⟨by rw[hr];exact aX9 _ a,by rw[m.same v a];exact b⟩
 intro i u' hi c v hv;by_cases hik:i<k
 ·have f:i<s.2.length:=by omega
  rw[hr,aWl f]at c;obtain⟨a,b⟩:=h.done i u' hik c v hv;have d:u'∈s.2:=aW1 c;exact⟨by rw[hr];exact aX9 _ a,by rw[m.same v a,m.same u' d];exact b⟩
 obtain rfl:i=k:=by omega
 rw[hr,aWl hk,hu]at c;injection c with c;subst c;have e:=m.seen v hv;exact⟨e,m.near v e⟩
theorem sQ: ∀ {N:Nat} {l:List Nat},l.Nodup→(∀v∈l,v<N)→l.length≤N:=by
 intro N;induction N with
 |zero=>
  intro l _ hb;cases l with
  |nil=>simp
  |cons a l=>exact absurd (hb a (by simp)) (by omega)
 |succ N ih=>
  intro l h hb
  have h1:=ih (h.erase N) (fun v hv=>by
   have:=h.mem_erase_iff.1 hv;have:=hb v this.2
   omega)
  rw[List.length_erase]at h1;split at h1<;>omega
theorem Inv.qlen {adj:Nat→List Nat}{s:List Int×List Nat}(h:Inv adj src N k s):s.2.length≤N:=sQ h.nodup h.bd
theorem Inv.far {adj:Nat→List Nat}{s:List Int×List Nat}(h:Inv adj src N k s)(hk:s.2.length≤k): ∀d v,rZ adj src d v→v∈s.2∧s.1.getD v 0≤d:=by
 intro d;induction d with
 |zero=>intro v hv;obtain⟨a,b⟩:=h.src v hv;exact⟨a,by omega⟩
 |succ d ih=>rintro v ⟨u,hu,hv⟩;obtain⟨a,b⟩:=ih u hu;obtain⟨i,hi,e⟩:=aXi a;obtain⟨c1,c2⟩:=h.done i u (by omega) (by rw[aW0 hi,e]) v hv;exact⟨c1,by omega⟩
structure yD (adj:Nat→List Nat) (src:List Nat) (N:Nat) (D:List Int):Prop where
 len:D.length=N
 zero: ∀v,v<N→(D.getD v 0=0↔v∈src)
 edge: ∀u v,u<N→0≤D.getD u 0→v∈adj u→0≤D.getD v 0∧D.getD v 0≤D.getD u 0+1
 back: ∀v,v<N→0<D.getD v 0→ ∃u,u<N∧v∈adj u∧D.getD u 0=D.getD v 0-1
theorem Inv.dist {adj:Nat→List Nat}{s:List Int×List Nat}(h:Inv adj src N k s)(hk:s.2.length≤k):yD adj src N s.1:=by
 have hb: ∀v,v<N→0<s.1.getD v 0→ ∃u,u∈s.2∧v∈adj u∧s.1.getD u 0=s.1.getD v 0-1:=by
  intro v hv h0;have f:=(h.mem v hv).1 (by omega);have hw:=h.sound v f;obtain⟨d,hd⟩: ∃d,(s.1.getD v 0).toNat=d+1:=⟨(s.1.getD v 0).toNat-1,by omega⟩
  rw[hd]at hw;obtain⟨u,hu,g⟩:=hw;obtain⟨a,b⟩:=h.far hk d u hu;obtain⟨i,hi,e⟩:=aXi a;obtain⟨_,c⟩:=h.done i u (by omega) (by rw[aW0 hi,e]) v g;exact⟨u,a,g,by omega⟩
 refine⟨h.len,?_,?_,?_⟩
 ·intro v hv;constructor
  ·intro e;have f:=(h.mem v hv).1 (by omega);have:=h.sound v f;rw[e]at this;exact this
  intro hm;exact(h.src v hm).2
 ·intro u v hu h0 hv;have j:=(h.mem u hu).1 h0;obtain⟨i,hi,e⟩:=aXi j;obtain⟨a,b⟩:=h.done i u (by omega) (by rw[aW0 hi,e]) v hv;exact⟨(h.mem v (h.bd v a)).2 a,b⟩
 intro v hv h0;obtain⟨u,a,b,c⟩:=hb v hv h0;exact⟨u,h.bd u a,b,c⟩
def uT (a b:Int):Int:=max (a-b) (b-a)
def bE (aA a b:Int):Int:=uT (a%aA) (b%aA)+uT (a/aA) (b/aA)
def aU (aA:Int)(n a:Nat):List Nat:=(List.range n).filter (fun b=>decide (bE aA a b=1))
theorem aEv:uT a b=uT b a:=by unfold uT;omega
theorem aCt:bE aA a b=bE aA b a:=by unfold bE;rw[aEv (a%aA),aEv (a/aA)]
theorem cH {aA:Int}{n a b:Nat}:b∈aU aA n a↔b<n∧bE aA a b=1:=by simp[aU]
theorem jD {aA:Int}{n a b:Nat}(ha:a<n)(h:b∈aU aA n a):a∈aU aA n b:=by rw[cH]at h⊢;exact⟨ha,by rw[aCt];exact h.2⟩
section
open Go.RowKit
def eN:List Int→List Int→Bool
 |_,[]=>true
 |seen,x::xs=>decide (0≤x∧x≤99)&& !(decide (0<x)&&seen.contains x)&&eN (seen++ [x]) xs
def iU (aA aB:Int)(n:Nat):Bool:=decide (2≤aA∧aA≤4∧2≤aB∧aB≤3∧(n:Int)=aA*aB)
def aO (aA aB:Int)(xs:List Int):Bool:=iU aA aB xs.length&&eN [] xs
theorem yA (a:List Int)(x:Int)(xs:List Int):eN a (x::xs)=(decide (0≤x∧x≤99)&& !(decide (0<x)&&a.contains x)&&eN (a++ [x]) xs):=rfl
theorem aCp {xs:List Int}{x:Int}(h:xs[k]? =some x):eN (xs.take k) (xs.drop k)=(decide (0≤x∧x≤99)&& !(decide (0<x)&&(xs.take k).contains x)&&eN (xs.take (k+1)) (xs.drop (k+1))):=by rw[uI h,aX h,yA]
theorem aAb {xs:List Int}(h:xs.length≤k):eN (xs.take k) (xs.drop k)=true:=by rw[aXd h];rfl
theorem fW: ∀(xs seen:List Int),eN seen xs=true↔(∀x∈xs,0≤x∧x≤99)∧(∀x∈xs,0<x→x∉seen)∧(xs.filter (fun x=>decide (0<x))).Nodup:=by
 intro xs;induction xs with
 |nil=>intro seen;simp[eN]
 |cons x xs ih=>
  intro seen;rw[yA,aWc,aWc,ih];simp only[decide_eq_true_eq,Bool.not_eq_true',Bool.and_eq_false_iff,decide_eq_false_iff_not,List.contains_eq_mem,aWd,aWh,List.not_mem_nil,or_false];constructor
  ·rintro⟨⟨h1,h2⟩,h3,h4,h5⟩;refine⟨?_,?_,?_⟩
   ·rintro y (rfl|hy)
    ·exact h1
    exact h3 y hy
   ·rintro y (rfl|hy) h0
    ·rcases h2 with h2|h2
     ·omega
     exact h2
    exact fun h=>h4 y hy h0 (.inl h)
   by_cases h0:0<x
   ·rw[aY3 (by simpa using h0),List.nodup_cons];refine⟨fun hm=> ?_,h5⟩;have:=aWy.1 hm;exact h4 x this.1 h0 (.inr rfl)
   rw[aY4 (by simpa using h0)];exact h5
  rintro⟨h1,h2,h3⟩;refine⟨⟨h1 x (.inl rfl),?_⟩,fun y hy=>h1 y (.inr hy),?_,?_⟩
  ·by_cases h0:0<x
   ·exact .inr (h2 x (.inl rfl) h0)
   exact .inl h0
  ·intro y hy h0 h;rcases h with h|rfl
   ·exact h2 y (.inr hy) h0 h
   rw[aY3 (by simpa using h0),List.nodup_cons]at h3;exact h3.1 (aWy.2 ⟨hy,by simpa using h0⟩)
  by_cases h0:0<x
  ·rw[aY3 (by simpa using h0),List.nodup_cons]at h3;exact h3.2
  rw[aY4 (by simpa using h0)]at h3;exact h3
theorem cQ {aA aB:Int}{n:Nat}(h:iU aA aB n=true):2≤aA∧aA≤4∧2≤aB∧aB≤3∧4≤n∧n≤12∧(n:Int)=aA*aB:=by
 simp only[iU,decide_eq_true_eq]at h;obtain⟨h1,h2,h3,h4,h5⟩:=h;have hw:aA=2∨aA=3∨aA=4:=by omega
 have hd:aB=2∨aB=3:=by omega
 refine⟨h1,h2,h3,h4,?_,?_,h5⟩
 ·rcases hw with rfl|rfl|rfl<;>rcases hd with rfl|rfl<;>omega
 rcases hw with rfl|rfl|rfl<;>rcases hd with rfl|rfl<;>omega
theorem aE1 {aA aB:Int}{n:Nat}(hs:iU aA aB n=false):aA<2∨2≤aA∧4<aA∨2≤aA∧aA≤4∧aB<2∨2≤aA∧aA≤4∧2≤aB∧3<aB∨2≤aA∧aA≤4∧2≤aB∧aB≤3∧0≤aA*aB∧aA*aB≤12∧((n:Int)!=aA*aB)=true:=by
 simp only[iU,decide_eq_false_iff_not]at hs;by_cases a1:2≤aA
 ·by_cases a2:aA≤4
  ·by_cases a3:2≤aB
   ·by_cases a4:aB≤3
    ·refine .inr (.inr (.inr (.inr ⟨a1,a2,a3,a4,?_,?_,?_⟩)))
     ·exact Int.mul_nonneg (by omega) (by omega)
     ·have:=Int.mul_le_mul a2 a4 (by omega) (by omega);omega
     simp only[bne_iff_ne,ne_eq];exact fun e=>hs ⟨a1,a2,a3,a4,e⟩
    exact .inr (.inr (.inr (.inl ⟨a1,a2,a3,by omega⟩)))
   exact .inr (.inr (.inl ⟨a1,a2,by omega⟩))
  exact .inr (.inl ⟨a1,by omega⟩)
 exact .inl (by omega)
def wI (xs:List Int)(cs:Array Value):Prop:=cs.size=100∧ ∀j:Nat,j<100→cs[j]? =some (.bool (decide (0<j)&&xs.contains (j:Int)))
theorem aHd:wI [] (Array.replicate 100 (.bool false)):=⟨by simp,fun j hj=>by rw[Array.getElem?_replicate,if_pos hj];simp⟩
theorem aHc {xs:List Int}{cs:Array Value}(h:wI xs cs)(x:Int)(h0:0≤x)(h1:x≤99)(hx:0<x→xs.contains x=false):wI (xs++ [x]) (cs.setIfInBounds x.toNat (.bool (decide (0<x)))):=by
 refine⟨by simpa using h.1,fun j hj=> ?_⟩;rw[Array.getElem?_setIfInBounds];by_cases e:x.toNat=j
 ·subst e;rw[if_pos rfl,if_pos (by rw[h.1];exact hj)];have:((x.toNat:Nat):Int)=x:=by omega
  rw[this];simp
 rw[if_neg e,h.2 j hj];have a:((j:Int)==x)=false:=by rw[beq_eq_false_iff_ne];omega
 rw[beq_eq_false_iff_ne]at a;simp[List.contains_eq_mem,aWh,a]
abbrev aH (aA aB:Int)(p:OA)(n cap:Nat):Value:= .agg #[aA,aB,.slice p n cap]
theorem aLm (p:OA)(n a:Nat)(w:World)(hn:n≤9223372036854775807)(h:aA<2∨2≤aA∧4<aA∨2≤aA∧aA≤4∧aB<2∨2≤aA∧aA≤4∧2≤aB∧3<aB∨2≤aA∧aA≤4∧2≤aB∧aB≤3∧0≤aA*aB∧aA*aB≤12∧((n:Int)!=aA*aB)=true):
  U 34 #[aH aA aB p n a] w (Z (.bool false) w):=by
 rcases h with h|⟨h0,h⟩|⟨h0,h1,h⟩|⟨h0,h1,h2,h⟩|⟨h0,h1,h2,h3,h4,h5,h⟩
 all_goals
  go_enter func34,ntmps34;go_wp2;go_ret;exact⟨rfl,by exact .alloc (.refl _) _⟩
theorem aPp:wI [] Tryz.zeroCells105:=⟨by kernel_rfl,by
 have e:Tryz.zeroCells105=Array.replicate 100 (.bool false):=by kernel_rfl
 rw[e];exact aHd.2⟩
theorem aIv (p:OA)(n f:Nat)(xs:List Int)(w:World)(h0:2≤aA)(h1:aA≤4)(h2:2≤aB)(h3:aB≤3)(h4:0≤aA*aB)(h5:aA*aB≤12)(h6:((n:Int)!=aA*aB)=false)(hn:n≤12)(HS:Hid (Sl w p n f 1 (ivs xs))):
  U 34 #[aH aA aB p n f] w (Z (.bool (eN [] xs)) w):=by
 go_enter func34,ntmps34;go_wp2;clear h4 h5 h6;go_loopw [38] (fun i wr=> ∃(k:Nat) (cs:Array Value),k≤n∧i=I k∧Blk wr (w.heap.size+1) 105 cs∧wI (xs.take k) cs∧eN [] xs=eN (xs.take k) (xs.drop k)∧Ext w wr) (fun i _=>n-(intOf i).toNat)
 case atStart=>exact⟨0,_,aW6 _,rfl,by have:=Blk.new (w.alloc (.cells #[aA,aB,.slice p n f] 27)) 105 Tryz.zeroCells105;simpa using this,aPp,rfl,by exact .alloc (.alloc (.refl _) _) _⟩
 case round=>
  obtain⟨k,cs,hk,rfl,hb,ht,d,hE⟩:=hrel;have HB:=xQ hb;have HT:=xQ ht;by_cases hlt:k<n
  ·obtain⟨b,t,x,rfl,hx,o,m⟩:=(HS.out.ext hE).int_at hlt;have a:=xQ (d.trans (aCp hx));have HX:=xQ hx;clear d hx hb ht;by_cases hr:0≤x∧x≤99
   ·obtain⟨g,h⟩:=hr;have l:wr.cell? ⟨w.heap.size+1,x.toNat,none⟩=some (.bool (decide (0<x)&&(xs.take k).contains x)):=by
     rw[HB.out.cell,HT.out.2 x.toNat (by omega)];congr 2;rw[show((x.toNat:Nat):Int)=x by omega];congr 1;simp
    have r:wr.frozen? ⟨w.heap.size+1,x.toNat,none⟩=false:=HB.out.frozen _;have q:x<100:=by omega
    cases hs:(decide (0<x)&&(xs.take k).contains x)with
    |true=>rw[hs]at l;have c:=xQ hs;clear hs;go_wp2;go_ret;exact⟨aT (by rw[a.out,c.out];simp),hE⟩
    |false=>
     rw[hs]at l;have c:=xQ hs;clear hs;go_wp2;go_roundw
     case rel=>
      refine⟨k+1,_,by omega,by go_num,HB.out.set _ _,?_,?_,xE⟩
      ·rw[aX HX.out];refine aHc HT x g h (fun h0=> ?_);have:=c.out;simpa[h0]using this
      rw[a.out,c.out];simp[g,h]
     case measure=>simp[intOf];omega
   have j:eN [] xs=false:=by rw[a.out];simp[hr]
   have HF:=xQ j;clear j;by_cases g:x<0
   ·go_wp2;go_ret;exact⟨aT HF.out.symm,hE⟩
   have h:99<x:=by omega
   have s:0≤x:=by omega
   go_wp2;go_ret;exact⟨aT HF.out.symm,hE⟩
  have a:=xQ (d.trans (aAb (by have:=HS.out.ilen;omega)));clear d hb ht;go_wp2;go_ret;exact⟨aT a.out.symm,hE⟩
theorem iK (p:OA)(n a:Nat)(xs:List Int)(w:World)(hS:Sl w p n a 1 (ivs xs)):
  U 34 #[aH aA aB p n a] w (Z (.bool (aO aA aB xs)) w):=by
 have hl:=hS.ilen;unfold aO;rw[hl];cases hs:iU aA aB n with
 |true=>obtain⟨h1,h2,h3,h4,h5,h6,h7⟩:=cQ hs;rw[Bool.true_and];exact aIv aA aB p n a xs w h1 h2 h3 h4 (by omega) (by omega) (by simp[h7]) h6 hS
 |false=>rw[Bool.false_and];exact aLm aA aB p n a w hS.bd (aE1 hs)
theorem tU {f:FuncId}{a:Array Value}{w:World}{n:Nat}(h:U f a (w.drewN n) fun e w'=>e= .returned v∧w.drewN n=w'):
  U f a (w.drewN n) fun e w'=>e= .returned v∧ ∃m,w'=w.drewN m:=h.mono fun _ _ ⟨he,hm⟩=>⟨he,n,hm.symm⟩
theorem qD (h:lo≤n)(h2:n≤hi):U 32 #[n,lo,hi] w fun e w'=>e= .returned (.bool true)∧w=w':=by go_enter func32,ntmps32;go_wp2;go_ret;exact⟨rfl,rfl⟩
theorem aAp (h:n<lo∨lo≤n∧hi<n):U 32 #[n,lo,hi] w fun e w'=>e= .returned (.bool false)∧w=w':=by
 rcases h with h|⟨h,h2⟩
 all_goals
  go_enter func32,ntmps32;go_wp2;go_ret;exact⟨aT (by first|rfl|(simp;omega)),rfl⟩
theorem aEi (p:OA)(n c:Nat)(xs:List Int)(x:Int)(w:World)(hS:Sl w p n c 1 (ivs xs)):
  U 65 #[.slice p n c,x] w fun e w'=>e= .returned (.bool (xs.contains x))∧w=w':=by
 have hn:=hS.bd;have hl:=xQ hS.ilen;have HS:=xQ hS;go_enter func65,ntmps65;go_wp2;go_loop [5] (fun i=> ∃k:Nat,k≤n∧i=I k∧(xs.take k).contains x=false) (fun i=>n-(intOf i).toNat)
 case atStart=>exact⟨0,aW6 _,rfl,by simp⟩
 case round=>
  obtain⟨k,hk,rfl,hc⟩:=hrel;have HC:=xQ hc;by_cases hlt:k<n
  ·obtain⟨b,f,y,rfl,hx,hb,d⟩:=HS.out.int_at hlt;have HX:=xQ hx;by_cases hy:y=x
   ·have t1:(y==x)=true:=by simp[hy]
    have a:Hid (xs.contains x=true):=by show _=_;rw[List.contains_eq_mem];simp;rw[←hy];exact aW1 HX.out
    go_wp2;go_ret;exact⟨aT (by simpa using a.out.symm),rfl⟩
   have t1:(y==x)=false:=by simp[hy]
   have a:Hid ((xs.take (k+1)).contains x=false):=by have:=HC.out;show _=_;rw[aX HX.out];simp only[List.contains_eq_mem,decide_eq_false_iff_not,aWh,aWq,not_or]at this⊢;exact⟨this,fun e=>hy e.symm⟩
   go_wp2;go_round
   case rel=>exact⟨k+1,by omega,by go_num,a.out⟩
   case measure=>simp[intOf];omega
  have a:Hid (xs.contains x=false):=by have:=HC.out;rw[aW4 (by rw[hl.out];omega)]at this;exact this
  go_wp2;go_ret;exact⟨aT (by simpa using a.out.symm),rfl⟩
theorem aK6 (p:OA)(n a:Nat)(w:World)(hn:n≤9223372036854775807)(h:aA<2∨2≤aA∧4<aA∨2≤aA∧aA≤4∧aB<2∨2≤aA∧aA≤4∧2≤aB∧3<aB∨2≤aA∧aA≤4∧2≤aB∧aB≤3∧0≤aA*aB∧aA*aB≤12∧((n:Int)!=aA*aB)=true):
  U 30 #[aH aA aB p n a] w (Z (.bool false) w):=by
 rcases h with h|⟨h0,h⟩|⟨h0,h1,h⟩|⟨h0,h1,h2,h⟩|⟨h0,h1,h2,h3,h4,h5,h⟩
 all_goals
  go_enter func30,ntmps30;go_wp2_with go_in;go_ret;exact⟨rfl,by exact .alloc (.refl _) _⟩
theorem aHq (p:OA)(n c:Nat)(xs:List Int)(w:World)(h0:2≤aA)(h1:aA≤4)(h2:2≤aB)(h3:aB≤3)(h4:0≤aA*aB)(h5:aA*aB≤12)(h6:((n:Int)!=aA*aB)=false)(hn:n≤12)(HS:Hid (Sl w p n c 1 (ivs xs))):
  U 30 #[aH aA aB p n c] w (Z (.bool (eN [] xs)) w):=by
 have t:=HS.out.le;have h:=HS.out.mx;unfold maxLen at h;go_enter func30,ntmps30;go_wp2_with go_in;go_loopw [3] (fun i wr=> ∃k:Nat,k≤n∧i=I k∧eN [] xs=eN (xs.take k) (xs.drop k)∧Ext w wr∧w.heap.size<wr.heap.size∧wr.cell? ⟨w,2,none⟩=some (.slice p n c)) (fun i _=>n-(intOf i).toNat)
 case atStart=>exact⟨0,aW6 _,rfl,rfl,by exact .alloc (.refl _) _,by simp,by simp⟩
 case round=>
  obtain⟨k,hk,rfl,q,hE,j,g⟩:=hrel;by_cases hlt:k<n
  ·have r:=aTd (HS.out.ext hE) (m:=k) hk;obtain⟨b,f,x,rfl,hx,u,s⟩:=(HS.out.ext hE).int_at hlt;have a:=xQ (q.trans (aCp hx));have i1:=aYp k;have i2:=aYq k n;have i3:=aYr k n;have i4:=aYr k c;have HX:=xQ hx;have HK:=xQ r;by_cases hr:0≤x∧x≤99
   ·obtain⟨l,o⟩:=hr;have HI:Hid (∀w,U 32 #[x,(),I 99] w fun e w'=>e= .returned (.bool true)∧w=w'):=fun w=>qD x 0 99 w l o
    by_cases hp:0<x
    ·have hd:decide (0<x)=true:=by simp[hp]
     cases hs:(xs.take k).contains x with
     |true=>
      have HH:Hid (∀m,U 65 #[.slice (some ⟨b,f,none⟩) k c,x] (wr.drewN m) fun e w'=>e= .returned (.bool true)∧wr.drewN m=w'):=fun m=>by have:=aEi (some ⟨b,f,none⟩) k c (xs.take k) x (wr.drewN m) (HK.out.ext (Ext.drewN (Ext.refl _) _));rwa[hs]at this
      have d:Hid (eN [] xs=false):=by show _=_;rw[a.out,hs];simp[hp]
      go_wp2;go_quiet ((first|(go_at_call 32;exact tU (HI _))|(go_at_call 65;exact tU (HH _))));go_wp2;go_ret;exact⟨aT d.out.symm,by exact .drewN hE _⟩
     |false=>
      have HH:Hid (∀m,U 65 #[.slice (some ⟨b,f,none⟩) k c,x] (wr.drewN m) fun e w'=>e= .returned (.bool false)∧wr.drewN m=w'):=fun m=>by have:=aEi (some ⟨b,f,none⟩) k c (xs.take k) x (wr.drewN m) (HK.out.ext (Ext.drewN (Ext.refl _) _));rwa[hs]at this
      have d:Hid (eN [] xs=eN (xs.take (k+1)) (xs.drop (k+1))):=by show _=_;rw[a.out,hs];simp[l,o]
      go_wp2;go_quiet ((first|(go_at_call 32;exact tU (HI _))|(go_at_call 65;exact tU (HH _))));go_wp2;go_roundw
      case rel=>exact⟨k+1,by omega,by go_num,d.out,by exact .drewN hE _,j,g⟩
      case measure=>simp[intOf];omega
    have hd:decide (0<x)=false:=by simp[hp]
    have d:Hid (eN [] xs=eN (xs.take (k+1)) (xs.drop (k+1))):=by show _=_;rw[a.out];simp[l,o,hp]
    go_wp2;go_quiet ((go_at_call 32;exact tU (HI _)));go_wp2;go_roundw
    case rel=>first|exact⟨k+1,by omega,by go_num,d.out,xE,j,g⟩|((repeat apply Exists.intro);exact⟨⟨k+1,by omega,by go_num,d.out,by exact .drewN hE _,j,g⟩,rfl⟩)
    case measure=>simp[intOf];omega
   have HI:Hid (∀w,U 32 #[x,(),I 99] w fun e w'=>e= .returned (.bool false)∧w=w'):=fun w=>aAp x 0 99 w (by omega)
   have d:Hid (eN [] xs=false):=by show _=_;rw[a.out];simp[hr]
   go_wp2;go_quiet ((go_at_call 32;exact tU (HI _)));go_wp2;go_ret;exact⟨aT d.out.symm,by exact .drewN hE _⟩
  have a:=xQ (q.trans (aAb (by have:=HS.out.ilen;omega)));go_wp2;go_ret;exact⟨aT a.out.symm,by exact hE⟩
theorem iJ (p:OA)(n a:Nat)(xs:List Int)(w:World)(hS:Sl w p n a 1 (ivs xs)):
  U 30 #[aH aA aB p n a] w (Z (.bool (aO aA aB xs)) w):=by
 have hl:=hS.ilen;unfold aO;rw[hl];cases hs:iU aA aB n with
 |true=>obtain⟨h1,h2,h3,h4,h5,h6,h7⟩:=cQ hs;rw[Bool.true_and];exact aHq aA aB p n a xs w h1 h2 h3 h4 (by omega) (by omega) (by simp[h7]) h6 hS
 |false=>rw[Bool.false_and];exact aK6 aA aB p n a w hS.bd (aE1 hs)
def bP (f s p c:Int):Bool:=decide (0≤f∧f<1440∧1≤s∧s≤1440∧0≤p∧p≤99∧0≤c∧c≤99)
def dV (i p a:Int):Bool:=decide (0≤i∧i≤9999∧0≤p∧p≤9999∧i≤a∧a≤9999)
def hU (f s m:Int):Int:=if m≤f then 0 else(m-f+s-1)/s
def qH (f s p c m:Int):Int:=m/1440*c+min (hU f s (m%1440)*p) c
def cY (f s p c i pd a now:Int):Int:=if bP f s p c&&dV i pd a&&decide (a≤now∧now≤9999)then max (qH f s p c (now-i)-pd) 0 else -1
def oF (f s p c i pd a now:Int):Bool:=
 decide (cY f s p c i pd a now=0) || (decide (0≤cY f s p c i pd a now)&&decide (now-a≤15)&&decide (cY f s p c i pd a a=0))
abbrev aR (f s p c:Int):Value:= .agg #[f,s,p,c]
abbrev cK (i p a:Int):Value:= .agg #[i,p,a]
theorem jW {f s p c:Int}(h:bP f s p c=true):0≤f∧f<1440∧1≤s∧s≤1440∧0≤p∧p≤99∧0≤c∧c≤99:=by simpa[bP]using h
theorem iT {i p a:Int}(h:dV i p a=true):0≤i∧i≤9999∧0≤p∧p≤9999∧i≤a∧a≤9999:=by simpa[dV]using h
theorem lF {f s m:Int}(h0:0≤f)(h1:1≤s)(hm:m≤9999):0≤hU f s m∧hU f s m≤9999:=by
 unfold hU;split
 ·omega
 refine⟨Int.ediv_nonneg (by omega) (by omega),?_⟩;have:(m-f+s-1)/s≤m-f:=by
  apply Int.ediv_le_of_le_mul (by omega);have:(m-f)*s≥(m-f)*1:=Int.mul_le_mul_of_nonneg_left h1 (by omega);have h2:(m-f)*s=(m-f-1)*s+s:=by rw[Int.sub_mul (m-f) 1 s];omega
  have h3:(m-f-1)*s≥(m-f-1)*1:=Int.mul_le_mul_of_nonneg_left h1 (by omega);omega
 omega
theorem aGx {f s m:Int}(h1:1≤s):(max (m-f) 0+s-1)/s=hU f s m:=by
 unfold hU;split
 ·rw[show max (m-f) 0=0 by omega];exact Int.ediv_eq_zero_of_lt (by omega) (by omega)
 rw[show max (m-f) 0=m-f by omega]
theorem zE {x p:Int}(hx:0≤x)(a:x≤9999)(h0:0≤p)(h1:p≤99):0≤x*p∧x*p≤989901:=by refine⟨Int.mul_nonneg hx h0,?_⟩;have:=Int.mul_le_mul a h1 h0 (by omega);omega
theorem xU {f s p c m:Int}(h:bP f s p c=true)(h0:0≤m)(h1:m≤9999):0≤qH f s p c m∧qH f s p c m≤693:=by obtain⟨a1,a2,a3,a4,a5,a6,a7,a8⟩:=jW h;obtain⟨b1,b2⟩:=lF (m:=m%1440) a1 a3 (by omega);obtain⟨d1,d2⟩:=zE b1 b2 a5 a6;unfold qH;have e1:0≤m/1440*c:=Int.mul_nonneg (by omega) a7;have e2:m/1440*c≤6*99:=Int.mul_le_mul (by omega) a8 a7 (by omega);omega
theorem aG7:U 35 #[aR f s p c] w (Z (.bool (bP f s p c)) w):=by
 by_cases c1:0≤f
 ·by_cases c2:f<1440
  ·by_cases c3:1≤s
   ·by_cases c4:s≤1440
    ·by_cases c5:0≤p
     ·by_cases c6:p≤99
      ·by_cases c7:0≤c
       ·by_cases c8:c≤99
        ·go_enter func35,ntmps35;go_wp2;go_ret;exact⟨aT (by simp[bP];omega),by exact .alloc (.refl _) _⟩
        go_enter func35,ntmps35;go_wp2;go_ret;exact⟨aT (by simp[bP];omega),by exact .alloc (.refl _) _⟩
       go_enter func35,ntmps35;go_wp2;go_ret;exact⟨aT (by simp[bP];omega),by exact .alloc (.refl _) _⟩
      go_enter func35,ntmps35;go_wp2;go_ret;exact⟨aT (by simp[bP];omega),by exact .alloc (.refl _) _⟩
     go_enter func35,ntmps35;go_wp2;go_ret;exact⟨aT (by simp[bP];omega),by exact .alloc (.refl _) _⟩
    go_enter func35,ntmps35;go_wp2;go_ret;exact⟨aT (by simp[bP];omega),by exact .alloc (.refl _) _⟩
   go_enter func35,ntmps35;go_wp2;go_ret;exact⟨aT (by simp[bP];omega),by exact .alloc (.refl _) _⟩
  go_enter func35,ntmps35;go_wp2;go_ret;exact⟨aT (by simp[bP];omega),by exact .alloc (.refl _) _⟩
 go_enter func35,ntmps35;go_wp2;go_ret;exact⟨aT (by simp[bP];omega),by exact .alloc (.refl _) _⟩
theorem aB2:U 31 #[aR f s p c] w (Z (.bool (bP f s p c)) w):=by
 by_cases c1:0≤f
 ·by_cases c2:f<1440
  ·by_cases c3:1≤s
   ·by_cases c4:s≤1440
    ·by_cases c5:0≤p
     ·by_cases c6:p≤99
      ·by_cases c7:0≤c
       ·by_cases c8:c≤99
        ·go_enter func31,ntmps31;go_wp2_with go_in;go_ret;exact⟨aT (by simp[bP];omega),by exact .alloc (.refl _) _⟩
        go_enter func31,ntmps31;go_wp2_with go_in;go_ret;exact⟨aT (by simp[bP];omega),by exact .alloc (.refl _) _⟩
       go_enter func31,ntmps31;go_wp2_with go_in;go_ret;exact⟨aT (by simp[bP];omega),by exact .alloc (.refl _) _⟩
      go_enter func31,ntmps31;go_wp2_with go_in;go_ret;exact⟨aT (by simp[bP];omega),by exact .alloc (.refl _) _⟩
     go_enter func31,ntmps31;go_wp2_with go_in;go_ret;exact⟨aT (by simp[bP];omega),by exact .alloc (.refl _) _⟩
    go_enter func31,ntmps31;go_wp2_with go_in;go_ret;exact⟨aT (by simp[bP];omega),by exact .alloc (.refl _) _⟩
   go_enter func31,ntmps31;go_wp2_with go_in;go_ret;exact⟨aT (by simp[bP];omega),by exact .alloc (.refl _) _⟩
  go_enter func31,ntmps31;go_wp2_with go_in;go_ret;exact⟨aT (by simp[bP];omega),by exact .alloc (.refl _) _⟩
 go_enter func31,ntmps31;go_wp2_with go_in;go_ret;exact⟨aT (by simp[bP];omega),by exact .alloc (.refl _) _⟩
theorem aRr (p a:Int)(w:World):U 37 #[cK i p a] w (Z (.bool (dV i p a)) w):=by
 by_cases c1:0≤i
 ·by_cases c2:i≤9999
  ·by_cases c3:0≤p
   ·by_cases c4:p≤9999
    ·by_cases c5:i≤a
     ·by_cases c6:a≤9999
      ·go_enter func37,ntmps37;go_wp2;go_ret;exact⟨aT (by simp[dV];omega),by exact .alloc (.refl _) _⟩
      go_enter func37,ntmps37;go_wp2;go_ret;exact⟨aT (by simp[dV];omega),by exact .alloc (.refl _) _⟩
     go_enter func37,ntmps37;go_wp2;go_ret;exact⟨aT (by simp[dV];omega),by exact .alloc (.refl _) _⟩
    go_enter func37,ntmps37;go_wp2;go_ret;exact⟨aT (by simp[dV];omega),by exact .alloc (.refl _) _⟩
   go_enter func37,ntmps37;go_wp2;go_ret;exact⟨aT (by simp[dV];omega),by exact .alloc (.refl _) _⟩
  go_enter func37,ntmps37;go_wp2;go_ret;exact⟨aT (by simp[dV];omega),by exact .alloc (.refl _) _⟩
 go_enter func37,ntmps37;go_wp2;go_ret;exact⟨aT (by simp[dV];omega),by exact .alloc (.refl _) _⟩
theorem aQ1 (p a:Int)(w:World):U 33 #[cK i p a] w (Z (.bool (dV i p a)) w):=by
 by_cases c1:0≤i
 ·by_cases c2:i≤9999
  ·by_cases c3:0≤p
   ·by_cases c4:p≤9999
    ·by_cases c5:i≤a
     ·by_cases c6:a≤9999
      ·go_enter func33,ntmps33;go_wp2_with go_in;go_ret;exact⟨aT (by simp[dV];omega),by exact .alloc (.refl _) _⟩
      go_enter func33,ntmps33;go_wp2_with go_in;go_ret;exact⟨aT (by simp[dV];omega),by exact .alloc (.refl _) _⟩
     go_enter func33,ntmps33;go_wp2_with go_in;go_ret;exact⟨aT (by simp[dV];omega),by exact .alloc (.refl _) _⟩
    go_enter func33,ntmps33;go_wp2_with go_in;go_ret;exact⟨aT (by simp[dV];omega),by exact .alloc (.refl _) _⟩
   go_enter func33,ntmps33;go_wp2_with go_in;go_ret;exact⟨aT (by simp[dV];omega),by exact .alloc (.refl _) _⟩
  go_enter func33,ntmps33;go_wp2_with go_in;go_ret;exact⟨aT (by simp[dV];omega),by exact .alloc (.refl _) _⟩
 go_enter func33,ntmps33;go_wp2_with go_in;go_ret;exact⟨aT (by simp[dV];omega),by exact .alloc (.refl _) _⟩
theorem aS1 (h:bP f s p c=true)(h0:0≤m)(h1:m≤9999):U 211 #[aR f s p c,m] w (Z (I (hU f s m)) w):=by
 obtain⟨a1,a2,a3,a4,a5,a6,a7,a8⟩:=jW h;have HT:Hid (∀w,U 35 #[aR f s p c] w (Z (.bool true) w)):=fun w=>by rw[←h];exact aG7 f s p c w
 have HB:=xQ (lF (m:=m) a1 a3 h1);by_cases hm:m≤f
 ·have hf:Hid (hU f s m=0):=if_pos hm;go_enter func211,ntmps211;go_wp2_with fail;refine Ω (HT _) fun w1 a=>?_
  have b:=a.cells.1;go_wp2;go_ret;exact⟨fI hf.out.symm,by exact .trans (.alloc (.refl _) _) a⟩
 have hf:Hid (hU f s m=(m-f+s-1)/s):=if_neg hm;go_enter func211,ntmps211;go_wp2_with fail;refine Ω (HT _) fun w1 a=>?_
 have b:=a.cells.1;go_wp2;go_ret;exact⟨fI hf.out.symm,by exact .trans (.alloc (.refl _) _) a⟩
theorem aQg (h:bP f s p c=true)(h0:0≤m)(h1:m≤9999):U 218 #[aR f s p c,m] w (Z (I (hU f s m)) w):=by
 obtain⟨a1,a2,a3,a4,a5,a6,a7,a8⟩:=jW h;have HT:Hid (∀w,U 31 #[aR f s p c] w (Z (.bool true) w)):=fun w=>by rw[←h];exact aB2 f s p c w
 have hf:=xQ (aGx (f:=f) (m:=m) a3);go_enter func218,ntmps218;go_wp2_with (first|(go_at_call 31;refine Ω (HT _) fun w1 a=>?_;have b:=a.cells.1)|go_in);all_goals go_ret
 all_goals exact⟨fI (by rw[←hf.out];congr 1;omega),by exact .trans (.alloc (.refl _) _) a⟩
theorem aV7 (h:bP f s p c=true)(h0:0≤m)(h1:m≤9999):U 187 #[aR f s p c,m] w (Z (I (qH f s p c m)) w):=by
 obtain⟨a1,a2,a3,a4,a5,a6,a7,a8⟩:=jW h;have HT:Hid (∀w,U 35 #[aR f s p c] w (Z (.bool true) w)):=fun w=>by rw[←h];exact aG7 f s p c w
 obtain⟨q,hq⟩: ∃q,q=hU f s (m%1440):=⟨_,rfl⟩
 have g:0≤q∧q≤9999:=by rw[hq];exact lF a1 a3 (by omega)
 obtain⟨q2,d⟩: ∃q,q=hU f s m:=⟨_,rfl⟩
 have j:0≤q2∧q2≤9999:=by rw[d];exact lF a1 a3 (by omega)
 have HF:Hid (∀w,U 211 #[aR f s p c,(m%1440:Int)] w (Z (I q) w)):=fun w=>by rw[hq];exact aS1 f s p c _ w h (by omega) (by omega)
 have k:Hid (∀w,U 211 #[aR f s p c,m] w (Z (I q2) w)):=fun w=>by rw[d];exact aS1 f s p c _ w h (by omega) (by omega)
 have b:qH f s p c m=m/1440*c+min (q*p) c:=by rw[hq];rfl
 rw[b];obtain⟨b1,b2⟩:=zE g.1 g.2 a5 a6;have b3:0≤m/1440*c:=Int.mul_nonneg (by omega) a7;have b4:m/1440*c≤6*99:=Int.mul_le_mul (by omega) a8 a7 (by omega);clear hq d b h;go_enter func187,ntmps187;go_wp2_with fail;refine Ω (HT _) fun w1 a=>?_
 have n:(w:Nat)<w1:=aVy (by simp) a.sz;have e0:w1.cell? ⟨w,0,none⟩=some (I f):=by rw[a.cells.1 _ _ (by simp)];simp
 have e1:w1.cell? ⟨w,1,none⟩=some (I s):=by rw[a.cells.1 _ _ (by simp)];simp
 have e2:w1.cell? ⟨w,2,none⟩=some (I p):=by rw[a.cells.1 _ _ (by simp)];simp
 have e3:w1.cell? ⟨w,3,none⟩=some (I c):=by rw[a.cells.1 _ _ (by simp)];simp
 go_wp2_with fail;have hq:=aY9 m 1440 ⟨h0,by omega,by omega⟩;have hr:=IntWalk.rem_in m 1440 h0;have i:=aYs (m%1440);have k1:=aYs (q*p);have k2:=aYs (m/1440*c);have k3:=aYs (m/1440*c+c);have k4:=aYs (m/1440*c+q*p)
 go_region_held3 (fun w'=>w'.cell? ⟨w,0,none⟩=some (I f)∧w'.cell? ⟨w,1,none⟩=some (I s)∧w'.cell? ⟨w,2,none⟩=some (I p)∧w'.cell? ⟨w,3,none⟩=some (I c)) (go_keep)
  ((go_at_call 211;refine Ω (HF _) fun w2 h2=>?_;(try replace h2:=h2.of_drew);have l:=h2.cells.1;have o:(w:Nat)<w2:=aVy (by assumption) h2.sz))
 all_goals clear hq hr i k1 k2 k3 k4
 all_goals go_wp2
 all_goals go_ret
 all_goals exact⟨fI (by first|omega|(rw[aW2 _ (by omega)];omega)),by exact .trans (.trans (.alloc (.refl _) _) a) h2⟩
theorem aUr (h:bP f s p c=true)(h0:0≤m)(h1:m≤9999):U 198 #[aR f s p c,m] w (Z (I (qH f s p c m)) w):=by
 obtain⟨a1,a2,a3,a4,a5,a6,a7,a8⟩:=jW h;have HT:Hid (∀w,U 31 #[aR f s p c] w (Z (.bool true) w)):=fun w=>by rw[←h];exact aB2 f s p c w
 obtain⟨q,hq⟩: ∃q,q=hU f s (m%1440):=⟨_,rfl⟩
 have g:0≤q∧q≤9999:=by rw[hq];exact lF a1 a3 (by omega)
 obtain⟨q2,d⟩: ∃q,q=hU f s m:=⟨_,rfl⟩
 have k:0≤q2∧q2≤9999:=by rw[d];exact lF a1 a3 (by omega)
 have HF:Hid (∀w,U 218 #[aR f s p c,(m%1440:Int)] w (Z (I q) w)):=fun w=>by rw[hq];exact aQg f s p c _ w h (by omega) (by omega)
 have i:Hid (∀w,U 218 #[aR f s p c,m] w (Z (I q2) w)):=fun w=>by rw[d];exact aQg f s p c _ w h (by omega) (by omega)
 have b:qH f s p c m=m/1440*c+min (q*p) c:=by rw[hq];rfl
 rw[b];obtain⟨b1,b2⟩:=zE g.1 g.2 a5 a6;have b3:0≤m/1440*c:=Int.mul_nonneg (by omega) a7;have b4:m/1440*c≤6*99:=Int.mul_le_mul (by omega) a8 a7 (by omega);clear hq d b h;go_enter func198,ntmps198;go_wp2_with fail;refine Ω (i _) fun w1 a=>?_
 have n:(w:Nat)<w1:=aVy (by simp) a.sz;have e0:w1.cell? ⟨w,0,none⟩=some (I f):=by rw[a.cells.1 _ _ (by simp)];simp
 have e1:w1.cell? ⟨w,1,none⟩=some (I s):=by rw[a.cells.1 _ _ (by simp)];simp
 have e2:w1.cell? ⟨w,2,none⟩=some (I p):=by rw[a.cells.1 _ _ (by simp)];simp
 have e3:w1.cell? ⟨w,3,none⟩=some (I c):=by rw[a.cells.1 _ _ (by simp)];simp
 go_wp2_with fail;have hq:=aY9 m 1440 ⟨h0,by omega,by omega⟩;have hr:=IntWalk.rem_in m 1440 h0;have j:=aYs (m%1440);have k1:=aYs (q*p);have k2:=aYs (m/1440*c);have k3:=aYs (m/1440*c+c);have k4:=aYs (m/1440*c+q*p)
 go_region_held3 (fun w'=>w'.cell? ⟨w,0,none⟩=some (I f)∧w'.cell? ⟨w,1,none⟩=some (I s)∧w'.cell? ⟨w,2,none⟩=some (I p)∧w'.cell? ⟨w,3,none⟩=some (I c)) (go_keep)
  ((go_at_call 218;refine Ω (HF _) fun w2 h2=>?_;(try replace h2:=h2.of_drew);have l:=h2.cells.1;have o:(w:Nat)<w2:=aVy (by assumption) h2.sz))
 all_goals clear hq hr j k1 k2 k3 k4
 all_goals go_wp2
 all_goals go_ret
 all_goals exact⟨fI (by first|omega|(rw[aW2 _ (by omega)];omega)),by exact .trans (.trans (.alloc (.refl _) _) a) h2⟩
theorem aLi (h:bP f s p c=true)(h2:dV i pd a=true)(h3:a≤now)(h4:now≤9999):U 153 #[aR f s p c,cK i pd a,now] w (Z (I (cY f s p c i pd a now)) w):=by
 obtain⟨b1,b2,b3,b4,b5,b6⟩:=iT h2;have HT:Hid (∀w,U 35 #[aR f s p c] w (Z (.bool true) w)):=fun w=>by rw[←h];exact aG7 f s p c w
 have HS:Hid (∀w,U 37 #[cK i pd a] w (Z (.bool true) w)):=fun w=>by rw[←h2];exact aRr i pd a w
 obtain⟨q,hq⟩: ∃q,q=qH f s p c (now-i):=⟨_,rfl⟩
 have o:0≤q∧q≤693:=by rw[hq];exact xU h (by omega) (by omega)
 have HF:Hid (∀w,U 187 #[aR f s p c,(now-i:Int)] w (Z (I q) w)):=fun w=>by rw[hq];exact aV7 f s p c _ w h (by omega) (by omega)
 have j:cY f s p c i pd a now=max (q-pd) 0:=by rw[hq];simp[cY,h,h2,h3,h4]
 rw[j];clear hq j h h2;go_enter func153,ntmps153;go_wp2_with fail;refine Ω (HT _) fun w1 b=>?_
 have k:(w:Nat)<w1:=aVy (by simp;omega) b.sz;have l:w.heap.size+1<w1.heap.size:=aVy (by simp) b.sz;have e0:w1.cell? ⟨w,0,none⟩=some (I f):=by rw[b.cells.1 _ _ (by simp;omega)];simp
 have e1:w1.cell? ⟨w,1,none⟩=some (I s):=by rw[b.cells.1 _ _ (by simp;omega)];simp
 have e2:w1.cell? ⟨w,2,none⟩=some (I p):=by rw[b.cells.1 _ _ (by simp;omega)];simp
 have e3:w1.cell? ⟨w,3,none⟩=some (I c):=by rw[b.cells.1 _ _ (by simp;omega)];simp
 have g0:w1.cell? ⟨w.heap.size+1,0,none⟩=some (I i):=by rw[b.cells.1 _ _ (by simp)];simp
 have g1:w1.cell? ⟨w.heap.size+1,1,none⟩=some (I pd):=by rw[b.cells.1 _ _ (by simp)];simp
 have g2:w1.cell? ⟨w.heap.size+1,2,none⟩=some (I a):=by rw[b.cells.1 _ _ (by simp)];simp
 go_wp2_with (first|(go_at_call 37;refine Ω (HS _) fun w2 g=>?_;have m:=g.cells.1;have r:(w:Nat)<w2:=aVy k g.sz;have t:w.heap.size+1<w2.heap.size:=aVy l g.sz)|go_in);have k1:=aYs (now-i);have k2:=aYs (q-pd)
 go_region_held3 (fun w'=>w'.cell? ⟨w,0,none⟩=some (I f)∧w'.cell? ⟨w,1,none⟩=some (I s)∧w'.cell? ⟨w,2,none⟩=some (I p)∧w'.cell? ⟨w,3,none⟩=some (I c)∧w'.cell? ⟨w.heap.size+1,0,none⟩=some (I i)∧w'.cell? ⟨w.heap.size+1,1,none⟩=some (I pd)) (go_keep)
  ((go_at_call 187;refine Ω (HF _) fun w3 d=>?_;(try replace d:=d.of_drew);have n:=d.cells.1;have u:(w:Nat)<w3:=aVy (by assumption) d.sz;have v:w.heap.size+1<w3.heap.size:=aVy (by assumption) d.sz))
 all_goals clear k1 k2
 all_goals go_wp2
 all_goals go_ret
 all_goals exact⟨fI (by omega),by exact .trans (.trans (.trans (.alloc (.alloc (.refl _) _) _) b) g) d⟩
theorem aK2 (h:bP f s p c=true)(h2:dV i pd a=true)(h3:a≤now)(h4:now≤9999):U 166 #[aR f s p c,cK i pd a,now] w (Z (I (cY f s p c i pd a now)) w):=by
 obtain⟨b1,b2,b3,b4,b5,b6⟩:=iT h2;have HT:Hid (∀w,U 31 #[aR f s p c] w (Z (.bool true) w)):=fun w=>by rw[←h];exact aB2 f s p c w
 have HS:Hid (∀w,U 33 #[cK i pd a] w (Z (.bool true) w)):=fun w=>by rw[←h2];exact aQ1 i pd a w
 obtain⟨q,hq⟩: ∃q,q=qH f s p c (now-i):=⟨_,rfl⟩
 have o:0≤q∧q≤693:=by rw[hq];exact xU h (by omega) (by omega)
 have HF:Hid (∀w,U 198 #[aR f s p c,(now-i:Int)] w (Z (I q) w)):=fun w=>by rw[hq];exact aUr f s p c _ w h (by omega) (by omega)
 have j:cY f s p c i pd a now=max (q-pd) 0:=by rw[hq];simp[cY,h,h2,h3,h4]
 rw[j];clear hq j h h2;go_enter func166,ntmps166;go_wp2_with fail;refine Ω (HT _) fun w1 b=>?_
 have k:(w:Nat)<w1:=aVy (by simp;omega) b.sz;have l:w.heap.size+1<w1.heap.size:=aVy (by simp) b.sz;have e0:w1.cell? ⟨w,0,none⟩=some (I f):=by rw[b.cells.1 _ _ (by simp;omega)];simp
 have e1:w1.cell? ⟨w,1,none⟩=some (I s):=by rw[b.cells.1 _ _ (by simp;omega)];simp
 have e2:w1.cell? ⟨w,2,none⟩=some (I p):=by rw[b.cells.1 _ _ (by simp;omega)];simp
 have e3:w1.cell? ⟨w,3,none⟩=some (I c):=by rw[b.cells.1 _ _ (by simp;omega)];simp
 have g0:w1.cell? ⟨w.heap.size+1,0,none⟩=some (I i):=by rw[b.cells.1 _ _ (by simp)];simp
 have g1:w1.cell? ⟨w.heap.size+1,1,none⟩=some (I pd):=by rw[b.cells.1 _ _ (by simp)];simp
 have g2:w1.cell? ⟨w.heap.size+1,2,none⟩=some (I a):=by rw[b.cells.1 _ _ (by simp)];simp
 go_wp2_with (first|(go_at_call 33;refine Ω (HS _) fun w2 g=>?_;have m:=g.cells.1;have r:(w:Nat)<w2:=aVy k g.sz;have t:w.heap.size+1<w2.heap.size:=aVy l g.sz)|go_in);have k1:=aYs (now-i);have k2:=aYs (q-pd)
 go_region_held3 (fun w'=>w'.cell? ⟨w,0,none⟩=some (I f)∧w'.cell? ⟨w,1,none⟩=some (I s)∧w'.cell? ⟨w,2,none⟩=some (I p)∧w'.cell? ⟨w,3,none⟩=some (I c)∧w'.cell? ⟨w.heap.size+1,0,none⟩=some (I i)∧w'.cell? ⟨w.heap.size+1,1,none⟩=some (I pd)) (go_keep)
  ((go_at_call 198;refine Ω (HF _) fun w3 d=>?_;(try replace d:=d.of_drew);have n:=d.cells.1;have u:(w:Nat)<w3:=aVy (by assumption) d.sz;have v:w.heap.size+1<w3.heap.size:=aVy (by assumption) d.sz))
 all_goals clear k1 k2
 all_goals go_wp2
 all_goals go_ret
 all_goals exact⟨fI (by omega),by exact .trans (.trans (.trans (.alloc (.alloc (.refl _) _) _) b) g) d⟩
theorem aRy (w:World)(h0:0≤d1)(h2:0≤d2)(h3:a≤now)(h4:now≤9999)(h5:0≤a)(t1:(d1==0)=true)(HA:Hid (∀w,U 153 #[aR f s p c,cK i pd a,now] w (Z (I d1) w)))(HB:Hid (∀w,U 153 #[aR f s p c,cK i pd a,a] w (Z (I d2) w))):
  U 155 #[aR f s p c,cK i pd a,now] w (Z (.bool true) w):=by
 go_enter func155,ntmps155;go_wp2_with fail;refine Ω (HA _) fun w1 b=>?_
 have g:(w:Nat)<w1:=aVy (by simp;omega) b.sz;have h:w.heap.size+1<w1.heap.size:=aVy (by simp) b.sz;have d:=b.cells.1;go_wp2;go_ret;exact⟨aT (by first|rfl|(simp;omega)),by exact .trans (.alloc (.alloc (.refl _) _) _) b⟩
theorem aRx (w:World)(h0:0≤d1)(h2:0≤d2)(h3:a≤now)(h4:now≤9999)(h5:0≤a)(t1:(d1==0)=false)(t2:15<now-a)(t3:(d2==0)=true)(HA:Hid (∀w,U 153 #[aR f s p c,cK i pd a,now] w (Z (I d1) w)))(HB:Hid (∀w,U 153 #[aR f s p c,cK i pd a,a] w (Z (I d2) w))):
  U 155 #[aR f s p c,cK i pd a,now] w (Z (.bool false) w):=by
 go_enter func155,ntmps155;go_wp2_with fail;refine Ω (HA _) fun w1 b=>?_
 have g:(w:Nat)<w1:=aVy (by simp;omega) b.sz;have h:w.heap.size+1<w1.heap.size:=aVy (by simp) b.sz;have d:=b.cells.1;go_wp2;go_ret;exact⟨aT (by first|rfl|(simp;omega)),by exact .trans (.alloc (.alloc (.refl _) _) _) b⟩
theorem aRw (w:World)(h0:0≤d1)(h2:0≤d2)(h3:a≤now)(h4:now≤9999)(h5:0≤a)(t1:(d1==0)=false)(t2:now-a≤15)(t3:(d2==0)=true)(HA:Hid (∀w,U 153 #[aR f s p c,cK i pd a,now] w (Z (I d1) w)))(HB:Hid (∀w,U 153 #[aR f s p c,cK i pd a,a] w (Z (I d2) w))):
  U 155 #[aR f s p c,cK i pd a,now] w (Z (.bool true) w):=by
 go_enter func155,ntmps155;go_wp2_with fail;refine Ω (HA _) fun w1 b=>?_
 have g:(w:Nat)<w1:=aVy (by simp;omega) b.sz;have h:w.heap.size+1<w1.heap.size:=aVy (by simp) b.sz;have j:=b.cells.1;go_wp2_with fail;refine Ω (HB _) fun w2 d=>?_
 have l:=aVy g d.sz;have m:=aVy h d.sz;have k:=d.cells.1;go_wp2;go_ret;exact⟨aT (by first|rfl|(simp;omega)),by exact .trans (.trans (.alloc (.alloc (.refl _) _) _) b) d⟩
theorem aRv (w:World)(h0:0≤d1)(h2:0≤d2)(h3:a≤now)(h4:now≤9999)(h5:0≤a)(t1:(d1==0)=false)(t2:15<now-a)(t3:(d2==0)=false)(HA:Hid (∀w,U 153 #[aR f s p c,cK i pd a,now] w (Z (I d1) w)))(HB:Hid (∀w,U 153 #[aR f s p c,cK i pd a,a] w (Z (I d2) w))):
  U 155 #[aR f s p c,cK i pd a,now] w (Z (.bool false) w):=by
 go_enter func155,ntmps155;go_wp2_with fail;refine Ω (HA _) fun w1 b=>?_
 have g:(w:Nat)<w1:=aVy (by simp;omega) b.sz;have h:w.heap.size+1<w1.heap.size:=aVy (by simp) b.sz;have d:=b.cells.1;go_wp2;go_ret;exact⟨aT (by first|rfl|(simp;omega)),by exact .trans (.alloc (.alloc (.refl _) _) _) b⟩
theorem aRu (w:World)(h0:0≤d1)(h2:0≤d2)(h3:a≤now)(h4:now≤9999)(h5:0≤a)(t1:(d1==0)=false)(t2:now-a≤15)(t3:(d2==0)=false)(HA:Hid (∀w,U 153 #[aR f s p c,cK i pd a,now] w (Z (I d1) w)))(HB:Hid (∀w,U 153 #[aR f s p c,cK i pd a,a] w (Z (I d2) w))):
  U 155 #[aR f s p c,cK i pd a,now] w (Z (.bool false) w):=by
 go_enter func155,ntmps155;go_wp2_with fail;refine Ω (HA _) fun w1 b=>?_
 have g:(w:Nat)<w1:=aVy (by simp;omega) b.sz;have h:w.heap.size+1<w1.heap.size:=aVy (by simp) b.sz;have j:=b.cells.1;go_wp2_with fail;refine Ω (HB _) fun w2 d=>?_
 have l:=aVy g d.sz;have m:=aVy h d.sz;have k:=d.cells.1;go_wp2;go_ret;exact⟨aT (by first|rfl|(simp;omega)),by exact .trans (.trans (.alloc (.alloc (.refl _) _) _) b) d⟩
theorem aV2 (h:bP f s p c=true)(h2:dV i pd a=true)(h3:a≤now)(h4:now≤9999):U 155 #[aR f s p c,cK i pd a,now] w (Z (.bool (oF f s p c i pd a now)) w):=by
 obtain⟨b1,b2,b3,b4,b5,b6⟩:=iT h2;have e1:0≤cY f s p c i pd a now:=by unfold cY;rw[if_pos (by simp[h,h2,h3,h4])];omega
 have e2:0≤cY f s p c i pd a a:=by unfold cY;rw[if_pos (by simp[h,h2];omega)];omega
 have hr:oF f s p c i pd a now=(decide (cY f s p c i pd a now=0) || (decide (now-a≤15)&&decide (cY f s p c i pd a a=0))):=by simp[oF,e1]
 have hA:=fun w=>aLi f s p c i pd a now w h h2 h3 h4
 have hB:=fun w=>aLi f s p c i pd a a w h h2 (by omega) b6
 rw[hr];generalize cY f s p c i pd a now=d1 at*;generalize cY f s p c i pd a a=d2 at*;by_cases t1:d1=0
 ·rw[show(decide (d1=0) || (decide (now-a≤15)&&decide (d2=0)))=true by simp[t1]];exact aRy f s p c i pd a now d1 d2 w e1 e2 h3 h4 (by omega) (by simp[t1]) hA hB
 by_cases t2:now-a≤15
 ·by_cases t3:d2=0
  ·rw[show(decide (d1=0) || (decide (now-a≤15)&&decide (d2=0)))=true by simp[t2,t3]];exact aRw f s p c i pd a now d1 d2 w e1 e2 h3 h4 (by omega) (by simp[t1]) t2 (by simp[t3]) hA hB
  rw[show(decide (d1=0) || (decide (now-a≤15)&&decide (d2=0)))=false by simp[t1,t3]];exact aRu f s p c i pd a now d1 d2 w e1 e2 h3 h4 (by omega) (by simp[t1]) t2 (by simp[t3]) hA hB
 by_cases t3:d2=0
 ·rw[show(decide (d1=0) || (decide (now-a≤15)&&decide (d2=0)))=false by simp[t1,t2]];exact aRx f s p c i pd a now d1 d2 w e1 e2 h3 h4 (by omega) (by simp[t1]) (by omega) (by simp[t3]) hA hB
 rw[show(decide (d1=0) || (decide (now-a≤15)&&decide (d2=0)))=false by simp[t1,t2]];exact aRv f s p c i pd a now d1 d2 w e1 e2 h3 h4 (by omega) (by simp[t1]) (by omega) (by simp[t3]) hA hB
theorem aQb (w:World)(h0:0≤d1)(h2:0≤d2)(h3:a≤now)(h4:now≤9999)(h5:0≤a)(t1:(d1==0)=true)(HA:Hid (∀w,U 166 #[aR f s p c,cK i pd a,now] w (Z (I d1) w)))(HB:Hid (∀w,U 166 #[aR f s p c,cK i pd a,a] w (Z (I d2) w))):
  U 129 #[aR f s p c,cK i pd a,now] w (Z (.bool true) w):=by
 go_enter func129,ntmps129;go_wp2_with fail;refine Ω (HA _) fun w1 b=>?_
 have g:(w:Nat)<w1:=aVy (by simp;omega) b.sz;have h:w.heap.size+1<w1.heap.size:=aVy (by simp) b.sz;have j:=b.cells.1;go_wp2_with fail;refine Ω (HA _) fun w2 d=>?_
 have l:=aVy g d.sz;have m:=aVy h d.sz;have k:=d.cells.1;go_wp2;go_ret;exact⟨aT (by first|rfl|(simp;omega)),by exact .trans (.trans (.alloc (.alloc (.refl _) _) _) b) d⟩
theorem aQa (w:World)(h0:0≤d1)(h2:0≤d2)(h3:a≤now)(h4:now≤9999)(h5:0≤a)(t1:(d1==0)=false)(t2:15<now-a)(t3:(d2==0)=true)(HA:Hid (∀w,U 166 #[aR f s p c,cK i pd a,now] w (Z (I d1) w)))(HB:Hid (∀w,U 166 #[aR f s p c,cK i pd a,a] w (Z (I d2) w))):
  U 129 #[aR f s p c,cK i pd a,now] w (Z (.bool false) w):=by
 go_enter func129,ntmps129;go_wp2_with fail;refine Ω (HA _) fun w1 b=>?_
 have h:(w:Nat)<w1:=aVy (by simp;omega) b.sz;have j:w.heap.size+1<w1.heap.size:=aVy (by simp) b.sz;have m:=b.cells.1;go_wp2_with fail;refine Ω (HA _) fun w2 d=>?_
 have k:=aVy h d.sz;have l:=aVy j d.sz;have n:=d.cells.1;go_wp2_with fail;refine Ω (HB _) fun w3 g=>?_
 have q:=aVy k g.sz;have r:=aVy l g.sz;have o:=g.cells.1;go_wp2;go_ret;exact⟨aT (by first|rfl|(simp;omega)),by exact .trans (.trans (.trans (.alloc (.alloc (.refl _) _) _) b) d) g⟩
theorem aQ9 (w:World)(h0:0≤d1)(h2:0≤d2)(h3:a≤now)(h4:now≤9999)(h5:0≤a)(t1:(d1==0)=false)(t2:now-a≤15)(t3:(d2==0)=true)(HA:Hid (∀w,U 166 #[aR f s p c,cK i pd a,now] w (Z (I d1) w)))(HB:Hid (∀w,U 166 #[aR f s p c,cK i pd a,a] w (Z (I d2) w))):
  U 129 #[aR f s p c,cK i pd a,now] w (Z (.bool true) w):=by
 go_enter func129,ntmps129;go_wp2_with fail;refine Ω (HA _) fun w1 b=>?_
 have h:(w:Nat)<w1:=aVy (by simp;omega) b.sz;have j:w.heap.size+1<w1.heap.size:=aVy (by simp) b.sz;have m:=b.cells.1;go_wp2_with fail;refine Ω (HA _) fun w2 d=>?_
 have k:=aVy h d.sz;have l:=aVy j d.sz;have n:=d.cells.1;go_wp2_with fail;refine Ω (HB _) fun w3 g=>?_
 have q:=aVy k g.sz;have r:=aVy l g.sz;have o:=g.cells.1;go_wp2;go_ret;exact⟨aT (by first|rfl|(simp;omega)),by exact .trans (.trans (.trans (.alloc (.alloc (.refl _) _) _) b) d) g⟩
theorem aQ8 (w:World)(h0:0≤d1)(h2:0≤d2)(h3:a≤now)(h4:now≤9999)(h5:0≤a)(t1:(d1==0)=false)(t2:15<now-a)(t3:(d2==0)=false)(HA:Hid (∀w,U 166 #[aR f s p c,cK i pd a,now] w (Z (I d1) w)))(HB:Hid (∀w,U 166 #[aR f s p c,cK i pd a,a] w (Z (I d2) w))):
  U 129 #[aR f s p c,cK i pd a,now] w (Z (.bool false) w):=by
 go_enter func129,ntmps129;go_wp2_with fail;refine Ω (HA _) fun w1 b=>?_
 have h:(w:Nat)<w1:=aVy (by simp;omega) b.sz;have j:w.heap.size+1<w1.heap.size:=aVy (by simp) b.sz;have m:=b.cells.1;go_wp2_with fail;refine Ω (HA _) fun w2 d=>?_
 have k:=aVy h d.sz;have l:=aVy j d.sz;have n:=d.cells.1;go_wp2_with fail;refine Ω (HB _) fun w3 g=>?_
 have q:=aVy k g.sz;have r:=aVy l g.sz;have o:=g.cells.1;go_wp2;go_ret;exact⟨aT (by first|rfl|(simp;omega)),by exact .trans (.trans (.trans (.alloc (.alloc (.refl _) _) _) b) d) g⟩
theorem aQ7 (w:World)(h0:0≤d1)(h2:0≤d2)(h3:a≤now)(h4:now≤9999)(h5:0≤a)(t1:(d1==0)=false)(t2:now-a≤15)(t3:(d2==0)=false)(HA:Hid (∀w,U 166 #[aR f s p c,cK i pd a,now] w (Z (I d1) w)))(HB:Hid (∀w,U 166 #[aR f s p c,cK i pd a,a] w (Z (I d2) w))):
  U 129 #[aR f s p c,cK i pd a,now] w (Z (.bool false) w):=by
 go_enter func129,ntmps129;go_wp2_with fail;refine Ω (HA _) fun w1 b=>?_
 have h:(w:Nat)<w1:=aVy (by simp;omega) b.sz;have j:w.heap.size+1<w1.heap.size:=aVy (by simp) b.sz;have m:=b.cells.1;go_wp2_with fail;refine Ω (HA _) fun w2 d=>?_
 have k:=aVy h d.sz;have l:=aVy j d.sz;have n:=d.cells.1;go_wp2_with fail;refine Ω (HB _) fun w3 g=>?_
 have q:=aVy k g.sz;have r:=aVy l g.sz;have o:=g.cells.1;go_wp2;go_ret;exact⟨aT (by first|rfl|(simp;omega)),by exact .trans (.trans (.trans (.alloc (.alloc (.refl _) _) _) b) d) g⟩
theorem aUn (h:bP f s p c=true)(h2:dV i pd a=true)(h3:a≤now)(h4:now≤9999):U 129 #[aR f s p c,cK i pd a,now] w (Z (.bool (oF f s p c i pd a now)) w):=by
 obtain⟨b1,b2,b3,b4,b5,b6⟩:=iT h2;have e1:0≤cY f s p c i pd a now:=by unfold cY;rw[if_pos (by simp[h,h2,h3,h4])];omega
 have e2:0≤cY f s p c i pd a a:=by unfold cY;rw[if_pos (by simp[h,h2];omega)];omega
 have hr:oF f s p c i pd a now=(decide (cY f s p c i pd a now=0) || (decide (now-a≤15)&&decide (cY f s p c i pd a a=0))):=by simp[oF,e1]
 have hA:=fun w=>aK2 f s p c i pd a now w h h2 h3 h4
 have hB:=fun w=>aK2 f s p c i pd a a w h h2 (by omega) b6
 rw[hr];generalize cY f s p c i pd a now=d1 at*;generalize cY f s p c i pd a a=d2 at*;by_cases t1:d1=0
 ·rw[show(decide (d1=0) || (decide (now-a≤15)&&decide (d2=0)))=true by simp[t1]];exact aQb f s p c i pd a now d1 d2 w e1 e2 h3 h4 (by omega) (by simp[t1]) hA hB
 by_cases t2:now-a≤15
 ·by_cases t3:d2=0
  ·rw[show(decide (d1=0) || (decide (now-a≤15)&&decide (d2=0)))=true by simp[t2,t3]];exact aQ9 f s p c i pd a now d1 d2 w e1 e2 h3 h4 (by omega) (by simp[t1]) t2 (by simp[t3]) hA hB
  rw[show(decide (d1=0) || (decide (now-a≤15)&&decide (d2=0)))=false by simp[t1,t3]];exact aQ7 f s p c i pd a now d1 d2 w e1 e2 h3 h4 (by omega) (by simp[t1]) t2 (by simp[t3]) hA hB
 by_cases t3:d2=0
 ·rw[show(decide (d1=0) || (decide (now-a≤15)&&decide (d2=0)))=false by simp[t1,t2]];exact aQa f s p c i pd a now d1 d2 w e1 e2 h3 h4 (by omega) (by simp[t1]) (by omega) (by simp[t3]) hA hB
 rw[show(decide (d1=0) || (decide (now-a≤15)&&decide (d2=0)))=false by simp[t1,t2]];exact aQ8 f s p c i pd a now d1 d2 w e1 e2 h3 h4 (by omega) (by simp[t1]) (by omega) (by simp[t3]) hA hB
def oG (x:Int):List Int→List Int
 | []=> [x]
 |y::ys=>if y<x then y::oG x ys else x::y::ys
def iP (xs:List Int):List Int:=xs.foldl (fun acc x=>oG x acc) []
def eJ (xs:List Int):List Int:=xs.filter (fun x=>decide (0<x))
def jC (xs:List Int):List Int:=iP (eJ xs)
theorem qE: ∀xs,List.Perm (oG x xs) (x::xs):=by
 intro xs;induction xs with
 |nil=>exact List.Perm.refl _
 |cons y ys ih=>
  unfold oG;split
  ·exact(List.Perm.cons y ih).trans (List.Perm.swap x y ys)
  exact List.Perm.refl _
theorem aA2: ∀xs,xs.Pairwise (·≤ ·)→(oG x xs).Pairwise (·≤ ·):=by
 intro xs;induction xs with
 |nil=>intro _;simp[oG]
 |cons y ys ih=>
  intro h;rw[List.pairwise_cons]at h;unfold oG;split
  ·rename_i hlt;rw[List.pairwise_cons];refine⟨fun z hz=> ?_,ih h.2⟩;rcases aWd.1 ((qE x ys).mem_iff.1 hz)with rfl|hz
   ·omega
   exact h.1 z hz
  rename_i hge;rw[List.pairwise_cons,List.pairwise_cons];refine⟨fun z hz=> ?_,h⟩;rcases aWd.1 hz with rfl|hz
  ·omega
  have:=h.1 z hz;omega
theorem aB9:iP (xs++ [x])=oG x (iP xs):=by simp[iP,List.foldl_append]
theorem aHv:List.Perm (iP xs) xs∧(iP xs).Pairwise (·≤ ·):=by
 suffices h: ∀(n:Nat) (xs:List Int),xs.length=n→List.Perm (iP xs) xs∧(iP xs).Pairwise (·≤ ·)from h _ xs rfl
 intro n;induction n with
 |zero=>intro xs h;obtain rfl:=aWv h;simp[iP]
 |succ n ih=>
  intro xs h;have a:xs≠ []:=by intro e;rw[e]at h;simp at h
  rw[←List.dropLast_concat_getLast a,aB9];obtain⟨h1,h2⟩:=ih xs.dropLast (by simp[h]);refine⟨?_,aA2 _ _ h2⟩;exact(qE _ _).trans ((List.Perm.cons _ h1).trans (List.perm_append_singleton _ _).symm)
theorem kR:List.Perm (iP xs) xs:=(aHv xs).1
theorem nK:(iP xs).Pairwise (·≤ ·):=(aHv xs).2
theorem aE0:(iP xs).length=xs.length:=(kR xs).length_eq
theorem oV:eJ (xs++ [x])=eJ xs++(if 0<x then [x]else []):=by unfold eJ;rw[aX8];congr 1;by_cases h:0<x<;>simp[h]
theorem tV:(eJ xs).length≤xs.length:=aXc _ _
theorem rP:(jC xs).length=(eJ xs).length:=aE0 _
theorem qQ {xs ys:List Int}(h:List.Perm ys xs)(hs:ys.Pairwise (·≤ ·)):ys=iP xs:=
 List.Perm.eq_of_pairwise (fun a b _ _ h1 h2=>Int.le_antisymm h1 h2) hs (nK xs) (h.trans (kR xs).symm)
abbrev aV:=Int×Int×Int×Int
def aC (v:aV):List Value:= [.int .i64 v.1,.int .i64 v.2.1,.int .i64 v.2.2.1,.int .i64 v.2.2.2]
structure aQ where
 aA:Int
 aB:Int
 cells:List Int
 free:Int
 step:Int
 aE:Int
 aF:Int
 aD:Int
 aG:Int
 vs:List aV
def iH (aD:Int)(v:aV):Bool:=dV v.2.1 v.2.2.1 v.2.2.2&&decide (v.2.2.2≤aD)
def cM (aD:Int):List Int→List aV→Bool
 | [],[]=>true
 |c::cs,v::vs=>decide (v.1=c)&&iH aD v&&cM aD cs vs
 |_,_=>false
def yX (h:aQ):Bool:=decide (0≤h.aD∧h.aD≤9999∧0≤h.aG∧h.aG≤99999)
def bC (h:aQ):Bool:=aO h.aA h.aB h.cells&&bP h.free h.step h.aE h.aF&&yX h&&cM h.aD (jC h.cells) h.vs
def eR:aQ:=⟨0,0,[],0,0,0,0,0,0,[]⟩
theorem zQ {vs:List aV}{c:Int}{v:aV}(hc:cs[k]? =some c)(hv:vs[k]? =some v):
  cM aD (cs.drop k) (vs.drop k)=(decide (v.1=c)&&iH aD v&&cM aD (cs.drop (k+1)) (vs.drop (k+1))):=by
 rw[uI hc,uI hv];rfl
theorem nJ: ∀ {cs:List Int} {vs:List aV},cM aD cs vs=true→vs.map (·.1)=cs∧ ∀v∈vs,iH aD v=true:=by
 intro cs;induction cs with
 |nil=>intro vs h;cases vs with
  |nil=>simp
  |cons v vs=>simp[cM]at h
 |cons c cs ih=>
  intro vs h;cases vs with
  |nil=>simp[cM]at h
  |cons v vs=>
   simp only[cM,aWc,decide_eq_true_eq]at h;obtain⟨⟨h1,h2⟩,h3⟩:=h;obtain⟨i1,i2⟩:=ih h3;refine⟨by simp[h1,i1],fun x hx=> ?_⟩;rcases aWd.1 hx with rfl|hx
   ·exact h2
   exact i2 x hx
theorem zP {vs:List aV}(h:cs.length≠vs.length):cM aD cs vs=false:=by
 cases hh:cM aD cs vs with
 |false=>rfl
 |true=>have:=congrArg List.length (nJ hh).1;simp at this;omega
def iS (id:Int)(vs:List aV):Option aV:=vs.find? (fun v=>v.1==id)
def iL (h:aQ)(id:Int):Option (Int×Int×Int):=if bC h then(iS id h.vs).map (·.2)else none
def gI (h:aQ)(id:Int):Bool:=match iL h id with
 |some s=>oF h.free h.step h.aE h.aF s.1 s.2.1 s.2.2 h.aD
 |none=>false
abbrev TI:TypeId:=3
def eA (aA aB:Int)(xs:List Int)(w:World)(e:Ending)(w':World):Prop:=
 ∃p cap,e= .returned (aH aA aB p xs.length cap)∧w'.ownsRow w.heap.size TI 1 (.slice p xs.length cap) xs.length (ivs xs)∧Ext w w'
def dA (aA aB:Int):Int×Int×List Int:=if 2≤aA∧aA≤4∧2≤aB∧aB≤3 then(aA,aB,List.replicate (aA*aB).toNat 0)else(0,0,[])
theorem aEg (n:Nat):(madeCells (I 0).cells (n*1)).toList=ivs (List.replicate n 0):=by apply List.ext_getElem<;>simp[madeCells,Value.cells,Nat.mod_one]
theorem aKf (h:aA<2∨2≤aA∧4<aA∨2≤aA∧aA≤4∧aB<2∨2≤aA∧aA≤4∧2≤aB∧3<aB):
  U 120 #[aA,aB] w (eA 0 0 [] w):=by
 rcases h with h|⟨h0,h⟩|⟨h0,h1,h⟩|⟨h0,h1,h2,h⟩
 all_goals
  (try (have a:decide (aB≤3)=false:=by simp;omega));(try (have a:decide (aA≤4)=false:=by simp;omega));go_enter func120,ntmps120;go_wp2_with go_in;exact bodyPost_ret (v:=aH 0 0 none 0 0) (by simp[results,results120,go_sem]) rfl ⟨none,0,rfl,aW9 _ _ _ _,by exact .alloc (.refl _) _⟩
theorem Blk.three {w:World}{a b c:Value}(h:Blk w g t #[a,b,c]):w.cell? ⟨g,0,none⟩=some a∧w.cell? ⟨g,1,none⟩=some b∧w.cell? ⟨g,2,none⟩=some c∧w.frozen? ⟨g,0,none⟩=false∧w.frozen? ⟨g,1,none⟩=false∧w.frozen? ⟨g,2,none⟩=false:=
 ⟨h.cell 0,h.cell 1,h.cell 2,h.frozen 0,h.frozen 1,h.frozen 2⟩
theorem wV {aA aB:Int}{p:OA}{n a:Nat}{xs:List Int}{w:World}(hn:xs.length=n)(ho:w'.ownsRow w TI 1 (.slice p n a) n (ivs xs))(hx:Ext w w'):eA aA aB xs w (.returned (aH aA aB p n a)) w':=by subst hn;exact⟨p,a,rfl,ho,hx⟩
theorem aL2 {w:World}{n:Nat}{xs:List Value}{c0 c1 c2:Value}(h:w.ownsRow B TI 1 (.slice (some ⟨B+1,0,none⟩) n n) n xs):
  (((w.setCell ⟨B,0,none⟩ c0).setCell ⟨B,1,none⟩ c1).setCell ⟨B,2,none⟩ c2).ownsRow B TI 1 (.slice (some ⟨B+1,0,none⟩) n n) n xs:=by
 have hx:ExtR B w (((w.setCell ⟨B,0,none⟩ c0).setCell ⟨B,1,none⟩ c1).setCell ⟨B,2,none⟩ c2):=(((ExtR.refl B w).setCell (p:=⟨B,0,none⟩) (.inl rfl) _).setCell (p:=⟨B,1,none⟩) (.inl rfl) _).setCell (p:=⟨B,2,none⟩) (.inl rfl) _;exact h.kept hx (.inr (by simp[Value.ownBlock]))
theorem aNw (n:Nat)(w:World)(h0:2≤aA)(h1:aA≤4)(h2:2≤aB)(h3:aB≤3)(h4:0≤aA*aB)(h5:aA*aB≤12)(h6:aA*aB=(n:Int))(h7:n≤12):
  U 120 #[aA,aB] w (eA aA aB (List.replicate n 0) w):=by
 obtain⟨i0,hi,e,f,g⟩:=info_parts (show(prog.info? 3).map (fun i=>(i.zero,i.size,i.bytes))=some (some (I 0),1,8) by kernel_rfl);have q1:decide (aA≤4)=true:=by simp[h1]
 have q2:decide (aB≤3)=true:=by simp[h3]
 go_enter func120,ntmps120;go_wp2_with (first|go_in|(at_make;refine wpList_make_full _ rfl _ _ 25 rfl w 3 i0 (I 0) 1 underlying25 hi e f .i64 .i64 _ _ n rfl rfl (by first|rfl|exact h6) (by first|rfl|exact h6) (by rw[g];omega) (by unfold maxLen;omega) (by simp) ?_;intro w0 a b;have c:Ext _ w0:=(Ext.refl _).grown b (fun q hq=>by cases hq);obtain⟨p0,p1,p2,p3,p4,p5⟩:=((Blk.new w 27 #[(),(),((),())]).ext c).three;have hz:(w:Nat)<w0:=aVy (by simp) c.sz;rw[aEg]at a;have HO:=xQ a;have d:Hid (Ext w w0):=((Ext.refl w).alloc _).trans c;clear a b c));have hx:Ext w _:=(((d.out.setCell (p:=⟨w,0,none⟩) (aVz _) (I aA)).setCell (p:=⟨w,1,none⟩) (aVz _) (I aB)).setCell (p:=⟨w,2,none⟩) (aVz _) (.slice (some ⟨w.heap.size+1,0,none⟩) n n))
 exact aYw (v:=aH aA aB (some ⟨w.heap.size+1,0,none⟩) n n) (wV (by simp) (aL2 (by simpa using HO.out)) hx)
end
end Go.Proofs.YthfmmibomhhmpabGreatDoor
