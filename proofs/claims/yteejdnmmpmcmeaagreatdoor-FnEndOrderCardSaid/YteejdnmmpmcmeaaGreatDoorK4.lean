/-
  Texts of this proof, packed (@packed).
-/
import Derived.Test.YteejdnmmpmcmeaaGreatDoorK1
import Derived.Test.YteejdnmmpmcmeaaGreatDoorK2
import Derived.Test.YteejdnmmpmcmeaaGreatDoorK3
namespace Go.Proofs.YteejdnmmpmcmeaaGreatDoor
open Go Go.RowKit
set_option linter.unusedVariables false
theorem MemR.put10 {R:Nat}{w0 w:World}{L:List Item}{i g B:Nat}{t:TypeId}{a0 a1 a2 a3 a4 a5 a6 a7 a8 a9:Value}(h:MemR R w0 w L)(hi:L[i]? =Option.some (blkI B g t #[a0,a1,a2,a3,a4,a5,a6,a7,a8,a9])) (b0 b1 b2 b3 b4 b5 b6 b7 b8 b9:Value):MemR R w0 ((((((((((w.setCell ⟨g,0,none⟩ b0).setCell ⟨g,1,none⟩ b1).setCell ⟨g,2,none⟩ b2).setCell ⟨g,3,none⟩ b3).setCell ⟨g,4,none⟩ b4).setCell ⟨g,5,none⟩ b5).setCell ⟨g,6,none⟩ b6).setCell ⟨g,7,none⟩ b7).setCell ⟨g,8,none⟩ b8).setCell ⟨g,9,none⟩ b9) (L.set i (blkI w0.heap.size g t #[b0,b1,b2,b3,b4,b5,b6,b7,b8,b9])):=by
 have hl:i<L.length:=(List.getElem?_eq_some_iff.1 hi).1
 have h0:MemR R w0 (w.setCell ⟨g,0,none⟩ b0) (L.set i (blkI w0.heap.size g t #[b0,a1,a2,a3,a4,a5,a6,a7,a8,a9])):=by have:=h.store (i:=i) hi 0 b0;simpa[List.set_set]using this
 have i0:(L.set i (blkI w0.heap.size g t #[b0,a1,a2,a3,a4,a5,a6,a7,a8,a9]))[i]? =Option.some (blkI w0.heap.size g t #[b0,a1,a2,a3,a4,a5,a6,a7,a8,a9]):=by rw[List.getElem?_set_self hl]
 have h1:MemR R w0 ((w.setCell ⟨g,0,none⟩ b0).setCell ⟨g,1,none⟩ b1) (L.set i (blkI w0.heap.size g t #[b0,b1,a2,a3,a4,a5,a6,a7,a8,a9])):=by have:=h0.store (i:=i) i0 1 b1;simpa[List.set_set]using this
 have i1:(L.set i (blkI w0.heap.size g t #[b0,b1,a2,a3,a4,a5,a6,a7,a8,a9]))[i]? =Option.some (blkI w0.heap.size g t #[b0,b1,a2,a3,a4,a5,a6,a7,a8,a9]):=by rw[List.getElem?_set_self hl]
 have h2:MemR R w0 (((w.setCell ⟨g,0,none⟩ b0).setCell ⟨g,1,none⟩ b1).setCell ⟨g,2,none⟩ b2) (L.set i (blkI w0.heap.size g t #[b0,b1,b2,a3,a4,a5,a6,a7,a8,a9])):=by have:=h1.store (i:=i) i1 2 b2;simpa[List.set_set]using this
 have i2:(L.set i (blkI w0.heap.size g t #[b0,b1,b2,a3,a4,a5,a6,a7,a8,a9]))[i]? =Option.some (blkI w0.heap.size g t #[b0,b1,b2,a3,a4,a5,a6,a7,a8,a9]):=by rw[List.getElem?_set_self hl]
 have h3:MemR R w0 ((((w.setCell ⟨g,0,none⟩ b0).setCell ⟨g,1,none⟩ b1).setCell ⟨g,2,none⟩ b2).setCell ⟨g,3,none⟩ b3) (L.set i (blkI w0.heap.size g t #[b0,b1,b2,b3,a4,a5,a6,a7,a8,a9])):=by have:=h2.store (i:=i) i2 3 b3;simpa[List.set_set]using this
 have i3:(L.set i (blkI w0.heap.size g t #[b0,b1,b2,b3,a4,a5,a6,a7,a8,a9]))[i]? =Option.some (blkI w0.heap.size g t #[b0,b1,b2,b3,a4,a5,a6,a7,a8,a9]):=by rw[List.getElem?_set_self hl]
 have h4:MemR R w0 (((((w.setCell ⟨g,0,none⟩ b0).setCell ⟨g,1,none⟩ b1).setCell ⟨g,2,none⟩ b2).setCell ⟨g,3,none⟩ b3).setCell ⟨g,4,none⟩ b4) (L.set i (blkI w0.heap.size g t #[b0,b1,b2,b3,b4,a5,a6,a7,a8,a9])):=by have:=h3.store (i:=i) i3 4 b4;simpa[List.set_set]using this
 have i4:(L.set i (blkI w0.heap.size g t #[b0,b1,b2,b3,b4,a5,a6,a7,a8,a9]))[i]? =Option.some (blkI w0.heap.size g t #[b0,b1,b2,b3,b4,a5,a6,a7,a8,a9]):=by rw[List.getElem?_set_self hl]
 have h5:MemR R w0 ((((((w.setCell ⟨g,0,none⟩ b0).setCell ⟨g,1,none⟩ b1).setCell ⟨g,2,none⟩ b2).setCell ⟨g,3,none⟩ b3).setCell ⟨g,4,none⟩ b4).setCell ⟨g,5,none⟩ b5) (L.set i (blkI w0.heap.size g t #[b0,b1,b2,b3,b4,b5,a6,a7,a8,a9])):=by have:=h4.store (i:=i) i4 5 b5;simpa[List.set_set]using this
 have i5:(L.set i (blkI w0.heap.size g t #[b0,b1,b2,b3,b4,b5,a6,a7,a8,a9]))[i]? =Option.some (blkI w0.heap.size g t #[b0,b1,b2,b3,b4,b5,a6,a7,a8,a9]):=by rw[List.getElem?_set_self hl]
 have h6:MemR R w0 (((((((w.setCell ⟨g,0,none⟩ b0).setCell ⟨g,1,none⟩ b1).setCell ⟨g,2,none⟩ b2).setCell ⟨g,3,none⟩ b3).setCell ⟨g,4,none⟩ b4).setCell ⟨g,5,none⟩ b5).setCell ⟨g,6,none⟩ b6) (L.set i (blkI w0.heap.size g t #[b0,b1,b2,b3,b4,b5,b6,a7,a8,a9])):=by have:=h5.store (i:=i) i5 6 b6;simpa[List.set_set]using this
 have i6:(L.set i (blkI w0.heap.size g t #[b0,b1,b2,b3,b4,b5,b6,a7,a8,a9]))[i]? =Option.some (blkI w0.heap.size g t #[b0,b1,b2,b3,b4,b5,b6,a7,a8,a9]):=by rw[List.getElem?_set_self hl]
 have h7:MemR R w0 ((((((((w.setCell ⟨g,0,none⟩ b0).setCell ⟨g,1,none⟩ b1).setCell ⟨g,2,none⟩ b2).setCell ⟨g,3,none⟩ b3).setCell ⟨g,4,none⟩ b4).setCell ⟨g,5,none⟩ b5).setCell ⟨g,6,none⟩ b6).setCell ⟨g,7,none⟩ b7) (L.set i (blkI w0.heap.size g t #[b0,b1,b2,b3,b4,b5,b6,b7,a8,a9])):=by have:=h6.store (i:=i) i6 7 b7;simpa[List.set_set]using this
 have i7:(L.set i (blkI w0.heap.size g t #[b0,b1,b2,b3,b4,b5,b6,b7,a8,a9]))[i]? =Option.some (blkI w0.heap.size g t #[b0,b1,b2,b3,b4,b5,b6,b7,a8,a9]):=by rw[List.getElem?_set_self hl]
 have h8:MemR R w0 (((((((((w.setCell ⟨g,0,none⟩ b0).setCell ⟨g,1,none⟩ b1).setCell ⟨g,2,none⟩ b2).setCell ⟨g,3,none⟩ b3).setCell ⟨g,4,none⟩ b4).setCell ⟨g,5,none⟩ b5).setCell ⟨g,6,none⟩ b6).setCell ⟨g,7,none⟩ b7).setCell ⟨g,8,none⟩ b8) (L.set i (blkI w0.heap.size g t #[b0,b1,b2,b3,b4,b5,b6,b7,b8,a9])):=by have:=h7.store (i:=i) i7 8 b8;simpa[List.set_set]using this
 have i8:(L.set i (blkI w0.heap.size g t #[b0,b1,b2,b3,b4,b5,b6,b7,b8,a9]))[i]? =Option.some (blkI w0.heap.size g t #[b0,b1,b2,b3,b4,b5,b6,b7,b8,a9]):=by rw[List.getElem?_set_self hl]
 have h9:MemR R w0 ((((((((((w.setCell ⟨g,0,none⟩ b0).setCell ⟨g,1,none⟩ b1).setCell ⟨g,2,none⟩ b2).setCell ⟨g,3,none⟩ b3).setCell ⟨g,4,none⟩ b4).setCell ⟨g,5,none⟩ b5).setCell ⟨g,6,none⟩ b6).setCell ⟨g,7,none⟩ b7).setCell ⟨g,8,none⟩ b8).setCell ⟨g,9,none⟩ b9) (L.set i (blkI w0.heap.size g t #[b0,b1,b2,b3,b4,b5,b6,b7,b8,b9])):=by have:=h8.store (i:=i) i8 9 b9;simpa[List.set_set]using this
 have i9:(L.set i (blkI w0.heap.size g t #[b0,b1,b2,b3,b4,b5,b6,b7,b8,b9]))[i]? =Option.some (blkI w0.heap.size g t #[b0,b1,b2,b3,b4,b5,b6,b7,b8,b9]):=by rw[List.getElem?_set_self hl]
 exact h9
end Go.Proofs.YteejdnmmpmcmeaaGreatDoor

namespace Go.Proofs.YteejdnmmpmcmeaaGreatDoor
open Go.RowKit
set_option linter.unusedVariables false
def Code (w:World)(v:Value):Prop:= ∃(p:Option Addr) (n cap:Nat) (bs:List Int),v= .slice p n cap∧Sl w p n cap 1 (bs.map (Value.int .u8))∧ ∀x∈bs,0≤x∧x≤255
theorem Code.ext {w w':World}{v:Value}(h:Code w v)(hx:Ext w w'):Code w' v:=by
 obtain⟨p,n,cap,bs,h1,h2,h3⟩:=h
 exact⟨p,n,cap,bs,h1,h2.ext hx,h3⟩
def RetRand (w:World)(e:Ending)(w':World):Prop:= ∃R,e= .returned (.pointer (some ⟨R,0,none⟩))∧w.heap.size≤R∧Rand w' R 0∧Ext w w'
theorem rand_new {w:World}{p:Option Addr}{n cap:Nat}{bs:List Int}(h:Sl w p n cap 1 (bs.map (Value.int .u8)))(hn:n≤2000)(hb: ∀x∈bs,0≤x∧x≤255)(hp:0<n→ ∀b off,p=some ⟨b,off,none⟩→b<w.heap.size):
  Rand (w.alloc (.cells #[.slice p n cap,.int .i64 0] 113)) w.heap.size 0:=
 ⟨p,n,cap,0,bs,Blk.new _ _ _,by omega,by omega,h.ext ((Ext.refl w).alloc _),hn,hb,fun h0 b off e=>by have:=hp h0 b off e;omega⟩
set_option maxRecDepth 100000 in
set_option maxHeartbeats 1000000 in
theorem l20Open_any (v:Value)(w:World)(hc:Code w v):Calls Tryz.prog 60 #[v] w (RetRand w):=by
 obtain⟨p,n,cap,bs,rfl,h,hb⟩:=hc
 have hp:0<n→ ∃b off,p=some ⟨b,off,none⟩∧b<w.heap.size:=fun h0=>by
  obtain⟨b,off,e,h1,_⟩:=h.rd h0
  exact⟨b,off,e,h1⟩
 have hle:=h.le
 have hmx:=h.mx
 have hbd:=h.bd
 unfold maxLen at hmx
 have H:=Lib.hid h
 clear h
 by_cases hn:2000<n
 ·obtain⟨b,off,rfl,hb'⟩:=hp (by omega)
  go_enter Tryz.func60,Tryz.ntmps60
  go_wp2
  go_ret
  exact⟨_,rfl,Nat.le_refl _,rand_new (by simpa using sl_cut H.out (m:=2000) (by omega)) (by omega) (fun x hx=>hb x (List.mem_of_mem_take hx)) (fun _ b' off' e=>by injection e with e;injection e with e;omega),by exact .alloc (.refl _) _⟩
 ·go_enter Tryz.func60,Tryz.ntmps60
  go_wp2
  go_ret
  exact⟨_,rfl,Nat.le_refl _,rand_new H.out (by omega) hb (fun h0 b' off' e=>by obtain⟨b,off,e2,h3⟩:=hp h0;rw[e2]at e;injection e with e;injection e with e;omega),by exact .alloc (.refl _) _⟩
def RandBool (R k:Nat)(n:Int)(w:World)(e:Ending)(w':World):Prop:= ∃t:Bool,e= .returned (.bool t)∧Rand w' R (k+1)∧ExtR R w w'
set_option maxRecDepth 100000 in
set_option maxHeartbeats 1000000 in
theorem odd_any (R k:Nat)(n:Int)(w:World)(hr:Rand w R k)(hk:k≤1099511627775)(hn:0≤n)(hn2:n≤1000000):
  Calls Tryz.prog 118 #[.pointer (some ⟨R,0,none⟩),.int .i64 n] w (RandBool R k n w):=by
 by_cases h0:0<n
 ·go_enter Tryz.func118,Tryz.ntmps118
  go_wp2_with fail
  refine(pick_any R (k) (n) _ (hr) (by omega)).mono ?_
  rintro e w1 ⟨a,rfl,a0,a1,r1,x1⟩
  replace a1:a<n:=by omega
  go_wp2
  go_ret
  exact⟨_,rfl,r1,x1⟩
 ·go_enter Tryz.func118,Tryz.ntmps118
  go_wp2
  go_ret
  exact⟨_,rfl,hr.mono (by omega),ExtR.refl _ _⟩
theorem ExtR.blk {R g:Nat}{w w':World}{t:TypeId}{cs:Array Value}(h:ExtR R w w')(hb:Blk w g t cs)(hne:g≠R):Blk w' g t cs:=hb.grown h (fun e=>hne (by injection e))
section
open Go.ChangeShapes Go.WideShapes Go.ChangeAt
variable {H:Type} {enc:TypeId×Value→H} {w:World} {base:Nat} {spare:Nat→Bool} {held:Bool} {b0:Nat} {r:Reach} {v:Value} {d:DataW H} {p:List MemPlace}
set_option maxRecDepth 100000 in
theorem open_code (hv:Value.okWide Tryz.prog w r b0 22 v)(h:DataW.Trod enc Tryz.prog w base spare held 22 v d p): ∃u:Unit,Code w v:=by
 obtain⟨a0,len,cap,rfl⟩:=okWide_slice Tryz.underlying22 hv
 obtain⟨fuel,hh⟩:=h
 obtain⟨xs,q,c,hv',hS,hg⟩:=open_slc (α:=Int) (fun x=> [.int .u8 x]) (fun x=>0≤x∧x≤255) 1 Tryz.underlying22 (by kernel_rfl) (by omega) (fun _=>rfl) (fun n cs y hy=>by
  obtain⟨a,rfl,_,ha⟩:=DataW.trod_int Tryz.underlying5 hy
  exact⟨a,rfl,bounds_u8 ha⟩) (by simpa[Value.cells]using hh)
 refine⟨(),q,_,c,xs,hv',?_,hg⟩
 have e:xs.flatMap (fun x=> [Value.int .u8 x])=xs.map (Value.int .u8):=by
  clear hS hg hv'
  induction xs with
  |nil=>rfl
  |cons x xs ih=>simp_all
 rw[←e];exact hS
end
end Go.Proofs.YteejdnmmpmcmeaaGreatDoor

namespace Go.Proofs.YteejdnmmpmcmeaaGreatDoor
set_option linter.unusedVariables false
def relax (val:Int)(s:List Int×List Nat)(v:Nat):List Int×List Nat:=
 if s.1.getD v 0<0 then(s.1.set v val,s.2++ [v])else s
def expand (val:Int)(s:List Int×List Nat)(vs:List Nat):List Int×List Nat:=vs.foldl (relax val) s
theorem expand_snoc (val:Int)(s:List Int×List Nat)(vs:List Nat)(v:Nat):expand val s (vs++ [v])=relax val (expand val s vs) v:=by simp[expand]
def WalkN (adj:Nat→List Nat)(src:List Nat):Nat→Nat→Prop
 |0,v=>v∈src
 |d+1,v=> ∃u,WalkN adj src d u∧v∈adj u
structure Inv (adj:Nat→List Nat) (src:List Nat) (N k:Nat) (s:List Int×List Nat):Prop where
 len:s.1.length=N
 bd: ∀v∈s.2,v<N
 mem: ∀v,v<N→(0≤s.1.getD v 0↔v∈s.2)
 nodup:s.2.Nodup
 mono:s.2.Pairwise (fun a b=>s.1.getD a 0≤s.1.getD b 0)
 near: ∀u,s.2[k]? =some u→ ∀v∈s.2,s.1.getD v 0≤s.1.getD u 0+1
 sound: ∀v∈s.2,WalkN adj src (s.1.getD v 0).toNat v
 src: ∀v∈src,v∈s.2∧s.1.getD v 0=0
 done: ∀i u,i<k→s.2[i]? =some u→ ∀v∈adj u,v∈s.2∧s.1.getD v 0≤s.1.getD u 0+1
structure Mid (adj:Nat→List Nat) (src:List Nat) (N k u:Nat) (ws:List Nat) (s0 s:List Int×List Nat):Prop where
 len:s.1.length=N
 bd: ∀v∈s.2,v<N
 mem: ∀v,v<N→(0≤s.1.getD v 0↔v∈s.2)
 nodup:s.2.Nodup
 mono:s.2.Pairwise (fun a b=>s.1.getD a 0≤s.1.getD b 0)
 near: ∀v∈s.2,s.1.getD v 0≤s.1.getD u 0+1
 sound: ∀v∈s.2,WalkN adj src (s.1.getD v 0).toNat v
 pre: ∃r,s.2=s0.2++r
 same: ∀v∈s0.2,s.1.getD v 0=s0.1.getD v 0
 seen: ∀v∈ws,v∈s.2
theorem getD_set_self {l:List Int}{v:Nat}{x:Int}(h:v<l.length):(l.set v x).getD v 0=x:=by simp[List.getD,h]
theorem getD_set_ne {l:List Int}{v w:Nat}{x:Int}(h:v≠w):(l.set v x).getD w 0=l.getD w 0:=by simp[List.getD,List.getElem?_set_ne h]
theorem Mid.step {adj:Nat→List Nat}{src:List Nat}{N k u w:Nat}{ws:List Nat}{s0 s:List Int×List Nat}(h:Mid adj src N k u ws s0 s)(hu:u∈s0.2)(hw:w∈adj u)(hwN:w<N)(hval:s0.1.getD u 0=s.1.getD u 0):
  Mid adj src N k u (ws++ [w]) s0 (relax (s0.1.getD u 0+1) s w):=by
 have huS:u∈s.2:=by obtain⟨r,hr⟩:=h.pre;rw[hr];exact List.mem_append_left _ hu
 have hu0:0≤s.1.getD u 0:=(h.mem u (h.bd u huS)).2 huS
 unfold relax
 by_cases hc:s.1.getD w 0<0
 ·rw[if_pos hc]
  have hnw:w∉s.2:=fun hm=>by have:=(h.mem w hwN).2 hm;omega
  have hne: ∀v∈s.2,w≠v:=fun v hv e=>hnw (by rw[e];exact hv)
  have hwl:w<s.1.length:=by rw[h.len];exact hwN
  have hself:=getD_set_self (x:=s0.1.getD u 0+1) hwl
  refine⟨by simp[h.len],?_,?_,?_,?_,?_,?_,?_,?_,?_⟩
  ·intro v hv
   rcases List.mem_append.1 hv with hv|hv
   ·exact h.bd v hv
   ·simp at hv;rw[hv];exact hwN
  ·intro v hv
   by_cases e:w=v
   ·subst e
    dsimp only
    rw[hself]
    exact⟨fun _=>by simp,fun _=>by omega⟩
   ·dsimp only
    rw[getD_set_ne e,h.mem v hv]
    simp
    intro e2;exact absurd e2.symm e
  ·dsimp only
   rw[List.nodup_append]
   refine⟨h.nodup,by simp,fun a ha b hb=> ?_⟩
   simp at hb;subst hb
   exact fun e=>hnw (by rw[←e];exact ha)
  ·dsimp only
   rw[List.pairwise_append]
   refine⟨?_,by simp,?_⟩
   ·refine h.mono.imp_of_mem ?_
    intro a b ha hb hab
    rw[getD_set_ne (hne a ha),getD_set_ne (hne b hb)];exact hab
   ·intro a ha b hb
    simp at hb;subst hb
    rw[hself,getD_set_ne (hne a ha),hval]
    exact h.near a ha
  ·intro v hv
   dsimp only at hv⊢
   rw[getD_set_ne (hne u huS)]
   rcases List.mem_append.1 hv with hv|hv
   ·rw[getD_set_ne (hne v hv)];exact h.near v hv
   ·simp at hv;subst hv;rw[hself,hval];exact Int.le_refl _
  ·intro v hv
   dsimp only at hv⊢
   rcases List.mem_append.1 hv with hv|hv
   ·rw[getD_set_ne (hne v hv)];exact h.sound v hv
   ·simp at hv;subst hv
    rw[hself,hval]
    have e:(s.1.getD u 0+1).toNat=(s.1.getD u 0).toNat+1:=by omega
    rw[e]
    exact⟨u,h.sound u huS,hw⟩
  ·obtain⟨r,hr⟩:=h.pre
   exact⟨r++ [w],by dsimp only;rw[hr,List.append_assoc]⟩
  ·intro v hv
   have:v∈s.2:=by obtain⟨r,hr⟩:=h.pre;rw[hr];exact List.mem_append_left _ hv
   dsimp only
   rw[getD_set_ne (hne v this)];exact h.same v hv
  ·intro v hv
   dsimp only
   rcases List.mem_append.1 hv with hv|hv
   ·exact List.mem_append_left _ (h.seen v hv)
   ·simp at hv;subst hv;simp
 ·rw[if_neg hc]
  exact⟨h.len,h.bd,h.mem,h.nodup,h.mono,h.near,h.sound,h.pre,h.same,fun v hv=>by
   rcases List.mem_append.1 hv with hv|hv
   ·exact h.seen v hv
   ·simp at hv;subst hv;exact(h.mem v hwN).1 (by omega)⟩
theorem Inv.mid {adj:Nat→List Nat}{src:List Nat}{N k u:Nat}{s:List Int×List Nat}(h:Inv adj src N k s)(hu:s.2[k]? =some u):Mid adj src N k u [] s s:=
 ⟨h.len,h.bd,h.mem,h.nodup,h.mono,h.near u hu,h.sound,⟨[],by simp⟩,fun _ _=>rfl,fun v hv=>by cases hv⟩
theorem Mid.many {adj:Nat→List Nat}{src:List Nat}{N k u:Nat}{s0:List Int×List Nat}(hu:u∈s0.2): ∀(vs ws:List Nat) (s:List Int×List Nat),Mid adj src N k u ws s0 s→(∀v∈vs,v∈adj u∧v<N)→Mid adj src N k u (ws++vs) s0 (expand (s0.1.getD u 0+1) s vs):=by
 intro vs
 induction vs with
 |nil=>intro ws s h _;simpa[expand]using h
 |cons v vs ih=>
  intro ws s h hv
  have h1:=h.step hu (hv v (by simp)).1 (hv v (by simp)).2 (h.same u hu).symm
  have:=ih (ws++ [v]) _ h1 (fun x hx=>hv x (by simp[hx]))
  simpa[expand]using this
theorem Inv.step {adj:Nat→List Nat}{src:List Nat}{N k u:Nat}{s:List Int×List Nat}(h:Inv adj src N k s)(hu:s.2[k]? =some u) (ha: ∀v∈adj u,v<N):Inv adj src N (k+1) (expand (s.1.getD u 0+1) s (adj u)):=by
 have hum:u∈s.2:=List.mem_of_getElem? hu
 have m:=Mid.many hum (adj u) [] s (h.mid hu) (fun v hv=>⟨hv,ha v hv⟩)
 rw[List.nil_append]at m
 obtain⟨r,hr⟩:=m.pre
 have hk:k<s.2.length:=(List.getElem?_eq_some_iff.1 hu).1
 refine⟨m.len,m.bd,m.mem,m.nodup,m.mono,?_,m.sound,?_,?_⟩
 ·intro u' hu' v hv
  have h1:=m.near v hv
  have hle:(expand (s.1.getD u 0+1) s (adj u)).1.getD u 0≤(expand (s.1.getD u 0+1) s (adj u)).1.getD u' 0:=by
   obtain⟨hk',e'⟩:=List.getElem?_eq_some_iff.1 hu'
   have huk:(expand (s.1.getD u 0+1) s (adj u)).2[k]? =some u:=by rw[hr,List.getElem?_append_left hk];exact hu
   obtain⟨hk2,e2⟩:=List.getElem?_eq_some_iff.1 huk
   have:=List.pairwise_iff_getElem.1 m.mono k (k+1) hk2 hk' (by omega)
   rw[e',e2]at this
   exact this
  omega
 ·intro v hv
  obtain⟨a,b⟩:=h.src v hv
  exact⟨by rw[hr];exact List.mem_append_left _ a,by rw[m.same v a];exact b⟩
 ·intro i u' hi hu' v hv
  by_cases hik:i<k
  ·have hi':i<s.2.length:=by omega
   rw[hr,List.getElem?_append_left hi']at hu'
   obtain⟨a,b⟩:=h.done i u' hik hu' v hv
   have hu'm:u'∈s.2:=List.mem_of_getElem? hu'
   exact⟨by rw[hr];exact List.mem_append_left _ a,by rw[m.same v a,m.same u' hu'm];exact b⟩
  ·obtain rfl:i=k:=by omega
   rw[hr,List.getElem?_append_left hk,hu]at hu'
   injection hu' with hu'
   subst hu'
   have hvm:=m.seen v hv
   exact⟨hvm,m.near v hvm⟩
theorem nodup_bd: ∀ {N:Nat} {l:List Nat},l.Nodup→(∀v∈l,v<N)→l.length≤N:=by
 intro N
 induction N with
 |zero=>
  intro l _ hb
  cases l with
  |nil=>simp
  |cons a l=>exact absurd (hb a (by simp)) (by omega)
 |succ N ih=>
  intro l h hb
  have h1:=ih (h.erase N) (fun v hv=>by
   have:=(h.mem_erase_iff).1 hv
   have:=hb v this.2
   omega)
  rw[List.length_erase]at h1
  split at h1<;>omega
theorem Inv.qlen {adj:Nat→List Nat}{src:List Nat}{N k:Nat}{s:List Int×List Nat}(h:Inv adj src N k s):s.2.length≤N:=nodup_bd h.nodup h.bd
theorem Inv.far {adj:Nat→List Nat}{src:List Nat}{N k:Nat}{s:List Int×List Nat}(h:Inv adj src N k s)(hk:s.2.length≤k): ∀d v,WalkN adj src d v→v∈s.2∧s.1.getD v 0≤d:=by
 intro d
 induction d with
 |zero=>intro v hv;obtain⟨a,b⟩:=h.src v hv;exact⟨a,by omega⟩
 |succ d ih=>
  rintro v ⟨u,hu,hv⟩
  obtain⟨a,b⟩:=ih u hu
  obtain⟨i,hi,e⟩:=List.getElem_of_mem a
  obtain⟨c1,c2⟩:=h.done i u (by omega) (by rw[List.getElem?_eq_getElem hi,e]) v hv
  exact⟨c1,by omega⟩
structure Dist (adj:Nat→List Nat) (src:List Nat) (N:Nat) (D:List Int):Prop where
 len:D.length=N
 zero: ∀v,v<N→(D.getD v 0=0↔v∈src)
 edge: ∀u v,u<N→0≤D.getD u 0→v∈adj u→0≤D.getD v 0∧D.getD v 0≤D.getD u 0+1
 back: ∀v,v<N→0<D.getD v 0→ ∃u,u<N∧v∈adj u∧D.getD u 0=D.getD v 0-1
theorem Inv.dist {adj:Nat→List Nat}{src:List Nat}{N k:Nat}{s:List Int×List Nat}(h:Inv adj src N k s)(hk:s.2.length≤k):Dist adj src N s.1:=by
 have hb: ∀v,v<N→0<s.1.getD v 0→ ∃u,u∈s.2∧v∈adj u∧s.1.getD u 0=s.1.getD v 0-1:=by
  intro v hv h0
  have hvm:=(h.mem v hv).1 (by omega)
  have hw:=h.sound v hvm
  obtain⟨d,hd⟩: ∃d,(s.1.getD v 0).toNat=d+1:=⟨(s.1.getD v 0).toNat-1,by omega⟩
  rw[hd]at hw
  obtain⟨u,hu,hvu⟩:=hw
  obtain⟨a,b⟩:=h.far hk d u hu
  obtain⟨i,hi,e⟩:=List.getElem_of_mem a
  obtain⟨_,c⟩:=h.done i u (by omega) (by rw[List.getElem?_eq_getElem hi,e]) v hvu
  exact⟨u,a,hvu,by omega⟩
 refine⟨h.len,?_,?_,?_⟩
 ·intro v hv
  constructor
  ·intro e
   have hvm:=(h.mem v hv).1 (by omega)
   have:=h.sound v hvm
   rw[e]at this
   exact this
  ·intro hm;exact(h.src v hm).2
 ·intro u v hu h0 hv
  have hum:=(h.mem u hu).1 h0
  obtain⟨i,hi,e⟩:=List.getElem_of_mem hum
  obtain⟨a,b⟩:=h.done i u (by omega) (by rw[List.getElem?_eq_getElem hi,e]) v hv
  exact⟨(h.mem v (h.bd v a)).2 a,b⟩
 ·intro v hv h0
  obtain⟨u,a,b,c⟩:=hb v hv h0
  exact⟨u,h.bd u a,b,c⟩
end Go.Proofs.YteejdnmmpmcmeaaGreatDoor

namespace Go.Proofs.YteejdnmmpmcmeaaGreatDoor
set_option linter.unusedVariables false
def far1 (a b:Int):Int:=max (a-b) (b-a)
def apart (wide a b:Int):Int:=far1 (a%wide) (b%wide)+far1 (a/wide) (b/wide)
def besideN (wide:Int)(n a:Nat):List Nat:=(List.range n).filter (fun b=>decide (apart wide a b=1))
theorem far1_comm (a b:Int):far1 a b=far1 b a:=by unfold far1;omega
theorem apart_comm (wide a b:Int):apart wide a b=apart wide b a:=by unfold apart;rw[far1_comm (a%wide),far1_comm (a/wide)]
theorem besideN_mem {wide:Int}{n a b:Nat}:b∈besideN wide n a↔b<n∧apart wide a b=1:=by simp[besideN]
theorem besideN_symm {wide:Int}{n a b:Nat}(ha:a<n)(h:b∈besideN wide n a):a∈besideN wide n b:=by
 rw[besideN_mem]at h⊢
 exact⟨ha,by rw[apart_comm];exact h.2⟩
end Go.Proofs.YteejdnmmpmcmeaaGreatDoor

namespace Go.Proofs.YteejdnmmpmcmeaaGreatDoor
open Go.RowKit
set_option linter.unusedVariables false
def cellsOk:List Int→List Int→Bool
 |_,[]=>true
 |seen,x::xs=>decide (0≤x∧x≤99)&& !(decide (0<x)&&seen.contains x)&&cellsOk (seen++ [x]) xs
def shapeOk (wide deep:Int)(n:Nat):Bool:=decide (2≤wide∧wide≤4∧2≤deep∧deep≤3∧(n:Int)=wide*deep)
def hallOk (wide deep:Int)(xs:List Int):Bool:=shapeOk wide deep xs.length&&cellsOk [] xs
theorem cellsOk_cons (seen:List Int)(x:Int)(xs:List Int):cellsOk seen (x::xs)=(decide (0≤x∧x≤99)&& !(decide (0<x)&&seen.contains x)&&cellsOk (seen++ [x]) xs):=rfl
theorem cellsOk_at {xs:List Int}{k:Nat}{x:Int}(h:xs[k]? =some x):cellsOk (xs.take k) (xs.drop k)=(decide (0≤x∧x≤99)&& !(decide (0<x)&&(xs.take k).contains x)&&cellsOk (xs.take (k+1)) (xs.drop (k+1))):=by
 rw[drop_cons h,take_snocL h,cellsOk_cons]
theorem cellsOk_end {xs:List Int}{k:Nat}(h:xs.length≤k):cellsOk (xs.take k) (xs.drop k)=true:=by
 rw[List.drop_eq_nil_of_le h];rfl
theorem cellsOk_iff: ∀(xs seen:List Int),cellsOk seen xs=true↔(∀x∈xs,0≤x∧x≤99)∧(∀x∈xs,0<x→x∉seen)∧(xs.filter (fun x=>decide (0<x))).Nodup:=by
 intro xs
 induction xs with
 |nil=>intro seen;simp[cellsOk]
 |cons x xs ih=>
  intro seen
  rw[cellsOk_cons,Bool.and_eq_true,Bool.and_eq_true,ih]
  simp only[decide_eq_true_eq,Bool.not_eq_true',Bool.and_eq_false_iff,decide_eq_false_iff_not,List.contains_eq_mem,List.mem_cons,List.mem_append,List.not_mem_nil,or_false]
  constructor
  ·rintro⟨⟨h1,h2⟩,h3,h4,h5⟩
   refine⟨?_,?_,?_⟩
   ·rintro y (rfl|hy)
    ·exact h1
    ·exact h3 y hy
   ·rintro y (rfl|hy) h0
    ·rcases h2 with h2|h2
     ·omega
     ·exact h2
    ·exact fun h=>h4 y hy h0 (.inl h)
   ·by_cases h0:0<x
    ·rw[List.filter_cons_of_pos (by simpa using h0),List.nodup_cons]
     refine⟨fun hm=> ?_,h5⟩
     have:=List.mem_filter.1 hm
     exact h4 x this.1 h0 (.inr rfl)
    ·rw[List.filter_cons_of_neg (by simpa using h0)]
     exact h5
  ·rintro⟨h1,h2,h3⟩
   refine⟨⟨h1 x (.inl rfl),?_⟩,fun y hy=>h1 y (.inr hy),?_,?_⟩
   ·by_cases h0:0<x
    ·exact .inr (h2 x (.inl rfl) h0)
    ·exact .inl h0
   ·intro y hy h0 h
    rcases h with h|rfl
    ·exact h2 y (.inr hy) h0 h
    ·rw[List.filter_cons_of_pos (by simpa using h0),List.nodup_cons]at h3
     exact h3.1 (List.mem_filter.2 ⟨hy,by simpa using h0⟩)
   ·by_cases h0:0<x
    ·rw[List.filter_cons_of_pos (by simpa using h0),List.nodup_cons]at h3
     exact h3.2
    ·rw[List.filter_cons_of_neg (by simpa using h0)]at h3
     exact h3
theorem shape_bd {wide deep:Int}{n:Nat}(h:shapeOk wide deep n=true):2≤wide∧wide≤4∧2≤deep∧deep≤3∧4≤n∧n≤12∧(n:Int)=wide*deep:=by
 simp only[shapeOk,decide_eq_true_eq]at h
 obtain⟨h1,h2,h3,h4,h5⟩:=h
 have hw:wide=2∨wide=3∨wide=4:=by omega
 have hd:deep=2∨deep=3:=by omega
 refine⟨h1,h2,h3,h4,?_,?_,h5⟩
 ·rcases hw with rfl|rfl|rfl<;>rcases hd with rfl|rfl<;>omega
 ·rcases hw with rfl|rfl|rfl<;>rcases hd with rfl|rfl<;>omega
theorem shape_bad {wide deep:Int}{n:Nat}(hs:shapeOk wide deep n=false):wide<2∨2≤wide∧4<wide∨2≤wide∧wide≤4∧deep<2∨2≤wide∧wide≤4∧2≤deep∧3<deep∨2≤wide∧wide≤4∧2≤deep∧deep≤3∧0≤wide*deep∧wide*deep≤12∧((n:Int)!=wide*deep)=true:=by
 simp only[shapeOk,decide_eq_false_iff_not]at hs
 by_cases a1:2≤wide
 ·by_cases a2:wide≤4
  ·by_cases a3:2≤deep
   ·by_cases a4:deep≤3
    ·refine .inr (.inr (.inr (.inr ⟨a1,a2,a3,a4,?_,?_,?_⟩)))
     ·exact Int.mul_nonneg (by omega) (by omega)
     ·have:=Int.mul_le_mul a2 a4 (by omega) (by omega);omega
     ·simp only[bne_iff_ne,ne_eq];exact fun e=>hs ⟨a1,a2,a3,a4,e⟩
    ·exact .inr (.inr (.inr (.inl ⟨a1,a2,a3,by omega⟩)))
   ·exact .inr (.inr (.inl ⟨a1,a2,by omega⟩))
  ·exact .inr (.inl ⟨a1,by omega⟩)
 ·exact .inl (by omega)
def thereIs (xs:List Int)(cs:Array Value):Prop:=cs.size=100∧ ∀j:Nat,j<100→cs[j]? =some (.bool (decide (0<j)&&xs.contains (j:Int)))
theorem thereIs_nil:thereIs [] (Array.replicate 100 (.bool false)):=⟨by simp,fun j hj=>by rw[Array.getElem?_replicate,if_pos hj];simp⟩
theorem thereIs_set {xs:List Int}{cs:Array Value}(h:thereIs xs cs)(x:Int)(h0:0≤x)(h1:x≤99)(hx:0<x→xs.contains x=false):thereIs (xs++ [x]) (cs.setIfInBounds x.toNat (.bool (decide (0<x)))):=by
 refine⟨by simpa using h.1,fun j hj=> ?_⟩
 rw[Array.getElem?_setIfInBounds]
 by_cases e:x.toNat=j
 ·subst e
  rw[if_pos rfl,if_pos (by rw[h.1];exact hj)]
  have:((x.toNat:Nat):Int)=x:=by omega
  rw[this]
  simp
 ·rw[if_neg e,h.2 j hj]
  have hne:((j:Int)==x)=false:=by rw[beq_eq_false_iff_ne];omega
  rw[beq_eq_false_iff_ne]at hne
  simp[List.contains_eq_mem,List.mem_append,hne]
end Go.Proofs.YteejdnmmpmcmeaaGreatDoor

namespace Go.Proofs.YteejdnmmpmcmeaaGreatDoor
open Go.RowKit
set_option linter.unusedVariables false
abbrev hallV (wide deep:Int)(p:Option Addr)(n cap:Nat):Value:= .agg #[.int .i64 wide,.int .i64 deep,.slice p n cap]
set_option maxRecDepth 100000 in
set_option maxHeartbeats 1000000 in
theorem implHv_bad (wide deep:Int)(p:Option Addr)(n cap:Nat)(w:World)(hn:n≤9223372036854775807)
  (h:wide<2∨2≤wide∧4<wide∨2≤wide∧wide≤4∧deep<2∨2≤wide∧wide≤4∧2≤deep∧3<deep∨2≤wide∧wide≤4∧2≤deep∧deep≤3∧0≤wide*deep∧wide*deep≤12∧((n:Int)!=wide*deep)=true):
  Calls Tryz.prog 61 #[hallV wide deep p n cap] w fun e w'=>e= .returned (.bool false)∧Ext w w':=by
 rcases h with h|⟨h0,h⟩|⟨h0,h1,h⟩|⟨h0,h1,h2,h⟩|⟨h0,h1,h2,h3,h4,h5,h⟩
 all_goals
  go_enter Tryz.func61,Tryz.ntmps61
  go_wp2
  go_ret
  exact⟨rfl,by exact .alloc (.refl _) _⟩
theorem zc_there:thereIs [] Tryz.zeroCells114:=⟨by kernel_rfl,by
 have e:Tryz.zeroCells114=Array.replicate 100 (.bool false):=by kernel_rfl
 rw[e];exact thereIs_nil.2⟩
set_option maxRecDepth 100000 in
set_option maxHeartbeats 1000000 in
theorem implHv_main (wide deep:Int)(p:Option Addr)(n cap:Nat)(xs:List Int)(w:World)(h0:2≤wide)(h1:wide≤4)(h2:2≤deep)(h3:deep≤3)(h4:0≤wide*deep)(h5:wide*deep≤12)(h6:((n:Int)!=wide*deep)=false)(hn:n≤12)
  (HS:Hid (Sl w p n cap 1 (ivs xs))):
  Calls Tryz.prog 61 #[hallV wide deep p n cap] w fun e w'=>e= .returned (.bool (cellsOk [] xs))∧Ext w w':=by
 go_enter Tryz.func61,Tryz.ntmps61
 go_wp2
 clear h4 h5 h6
 go_loopw [38] (fun i wr=> ∃(k:Nat) (cs:Array Value),k≤n∧i= .int .i64 k∧Blk wr (w.heap.size+1) 114 cs∧thereIs (xs.take k) cs∧cellsOk [] xs=cellsOk (xs.take k) (xs.drop k)∧Ext w wr) (fun i _=>n-(intOf i).toNat)
 case atStart=>exact⟨0,_,Nat.zero_le _,rfl,by have:=Blk.new (w.alloc (.cells #[.int .i64 wide,.int .i64 deep,.slice p n cap] 25)) 114 Tryz.zeroCells114;simpa using this,zc_there,rfl,by exact .alloc (.alloc (.refl _) _) _⟩
 case round=>
  obtain⟨k,cs,hk,rfl,hb,ht,hok,hE⟩:=hrel
  have HB:=Lib.hid hb
  have HT:=Lib.hid ht
  by_cases hlt:k<n
  ·obtain⟨b,off,x,rfl,hx,hbs,hcell⟩:=(HS.out.ext hE).int_at hlt
   have hfin:=Lib.hid (hok.trans (cellsOk_at hx))
   have HX:=Lib.hid hx
   clear hok hx hb ht
   by_cases hr:0≤x∧x≤99
   ·obtain⟨hx0,hx1⟩:=hr
    have htc:wr.cell? ⟨w.heap.size+1,x.toNat,none⟩=some (.bool (decide (0<x)&&(xs.take k).contains x)):=by
     rw[HB.out.cell,HT.out.2 x.toNat (by omega)]
     congr 2
     rw[show((x.toNat:Nat):Int)=x by omega]
     congr 1
     simp
    have htf:wr.frozen? ⟨w.heap.size+1,x.toNat,none⟩=false:=HB.out.frozen _
    have hix:x<100:=by omega
    cases hs:(decide (0<x)&&(xs.take k).contains x)with
    |true=>
     rw[hs]at htc
     have HS2:=Lib.hid hs
     clear hs
     go_wp2
     go_ret
     exact⟨ret_bool (by rw[hfin.out,HS2.out];simp),hE⟩
    |false=>
     rw[hs]at htc
     have HS2:=Lib.hid hs
     clear hs
     go_wp2
     go_roundw
     case rel=>
      refine⟨k+1,_,by omega,by go_num,HB.out.set _ _,?_,?_,by(repeat' (first|exact Ext.refl _|(with_reducible assumption)|(with_reducible refine Ext.alloc ?_ _)|(with_reducible refine Ext.setCell ?_ (by first|exact Nat.le_refl _|(dsimp only;omega)|(simp;done)|(simp;omega)) _)|(with_reducible refine Ext.drew ?_)|(with_reducible refine Ext.drewN ?_ _)|(refine Ext.trans ?_ (by with_reducible assumption))))⟩
      ·rw[take_snocL HX.out]
       refine thereIs_set HT.out x hx0 hx1 (fun h0=> ?_)
       have:=HS2.out
       simpa[h0]using this
      ·rw[hfin.out,HS2.out]
       simp[hx0,hx1]
     case measure=>simp[intOf];omega
   ·have hfx:cellsOk [] xs=false:=by rw[hfin.out];simp[hr]
    have HF:=Lib.hid hfx
    clear hfx
    by_cases hx0:x<0
    ·go_wp2
     go_ret
     exact⟨ret_bool HF.out.symm,hE⟩
    ·have hx1:99<x:=by omega
     have hx2:0≤x:=by omega
     go_wp2
     go_ret
     exact⟨ret_bool HF.out.symm,hE⟩
  ·have hfin:=Lib.hid (hok.trans (cellsOk_end (by have:=HS.out.ilen;omega)))
   clear hok hb ht
   go_wp2
   go_ret
   exact⟨ret_bool hfin.out.symm,hE⟩
theorem implHv (wide deep:Int)(p:Option Addr)(n cap:Nat)(xs:List Int)(w:World)(hS:Sl w p n cap 1 (ivs xs)):
  Calls Tryz.prog 61 #[hallV wide deep p n cap] w fun e w'=>e= .returned (.bool (hallOk wide deep xs))∧Ext w w':=by
 have hl:=hS.ilen
 unfold hallOk
 rw[hl]
 cases hs:shapeOk wide deep n with
 |true=>
  obtain⟨h1,h2,h3,h4,h5,h6,h7⟩:=shape_bd hs
  rw[Bool.true_and]
  exact implHv_main wide deep p n cap xs w h1 h2 h3 h4 (by omega) (by omega) (by simp[h7]) h6 hS
 |false=>
  rw[Bool.false_and]
  exact implHv_bad wide deep p n cap w hS.bd (shape_bad hs)
end Go.Proofs.YteejdnmmpmcmeaaGreatDoor

namespace Go.Proofs.YteejdnmmpmcmeaaGreatDoor
open Go.RowKit
set_option linter.unusedVariables false
theorem quiet_l {f:FuncId}{args:Array Value}{w:World}{n:Nat}{v:Value}(h:Calls Tryz.prog f args (w.drewN n) fun e w'=>e= .returned v∧w.drewN n=w'):
  Calls Tryz.prog f args (w.drewN n) fun e w'=>e= .returned v∧ ∃m,w'=w.drewN m:=h.mono fun _ _ ⟨he,hm⟩=>⟨he,n,hm.symm⟩
set_option maxRecDepth 100000 in
set_option maxHeartbeats 1000000 in
theorem l1In_yes (n lo hi:Int)(w:World)(h:lo≤n)(h2:n≤hi):Calls Tryz.prog 66 #[.int .i64 n,.int .i64 lo,.int .i64 hi] w fun e w'=>e= .returned (.bool true)∧w=w':=by
 go_enter Tryz.func66,Tryz.ntmps66
 go_wp2
 go_ret
 exact⟨rfl,rfl⟩
set_option maxRecDepth 100000 in
set_option maxHeartbeats 1000000 in
theorem l1In_no (n lo hi:Int)(w:World)(h:n<lo∨lo≤n∧hi<n):Calls Tryz.prog 66 #[.int .i64 n,.int .i64 lo,.int .i64 hi] w fun e w'=>e= .returned (.bool false)∧w=w':=by
 rcases h with h|⟨h,h2⟩
 all_goals
  go_enter Tryz.func66,Tryz.ntmps66
  go_wp2
  go_ret
  exact⟨ret_bool (by first|rfl|(simp;omega)),rfl⟩
set_option maxRecDepth 100000 in
set_option maxHeartbeats 1000000 in
theorem l1Has_any (p:Option Addr)(n cap:Nat)(xs:List Int)(x:Int)(w:World)(hS:Sl w p n cap 1 (ivs xs)):
  Calls Tryz.prog 80 #[.slice p n cap,.int .i64 x] w fun e w'=>e= .returned (.bool (xs.contains x))∧w=w':=by
 have hn:=hS.bd
 have hl:=Lib.hid hS.ilen
 have HS:=Lib.hid hS
 clear hS
 go_enter Tryz.func80,Tryz.ntmps80
 go_wp2
 go_loop [5] (fun i=> ∃k:Nat,k≤n∧i= .int .i64 k∧(xs.take k).contains x=false) (fun i=>n-(intOf i).toNat)
 case atStart=>exact⟨0,Nat.zero_le _,rfl,by simp⟩
 case round=>
  obtain⟨k,hk,rfl,hc⟩:=hrel
  have HC:=Lib.hid hc
  clear hc
  by_cases hlt:k<n
  ·obtain⟨b,off,y,rfl,hx,hb,hcell⟩:=HS.out.int_at hlt
   have HX:=Lib.hid hx
   clear hx
   by_cases hy:y=x
   ·have t1:(y==x)=true:=by simp[hy]
    have hfin:Hid (xs.contains x=true):=by show _=_;rw[List.contains_eq_mem];simp;rw[←hy];exact List.mem_of_getElem? HX.out
    clear hy
    go_wp2
    go_ret
    exact⟨ret_bool (by simpa using hfin.out.symm),rfl⟩
   ·have t1:(y==x)=false:=by simp[hy]
    have hfin:Hid ((xs.take (k+1)).contains x=false):=by
     have:=HC.out
     show _=_
     rw[take_snocL HX.out]
     simp only[List.contains_eq_mem,decide_eq_false_iff_not,List.mem_append,List.mem_singleton,not_or]at this⊢
     exact⟨this,fun e=>hy e.symm⟩
    clear hy
    go_wp2
    go_round
    case rel=>exact⟨k+1,by omega,by go_num,hfin.out⟩
    case measure=>simp[intOf];omega
  ·have hfin:Hid (xs.contains x=false):=by
    have:=HC.out
    rw[List.take_of_length_le (by rw[hl.out];omega)]at this
    exact this
   go_wp2
   go_ret
   exact⟨ret_bool (by simpa using hfin.out.symm),rfl⟩
set_option maxRecDepth 100000 in
set_option maxHeartbeats 1000000 in
theorem specHv_bad (wide deep:Int)(p:Option Addr)(n cap:Nat)(w:World)(hn:n≤9223372036854775807)
  (h:wide<2∨2≤wide∧4<wide∨2≤wide∧wide≤4∧deep<2∨2≤wide∧wide≤4∧2≤deep∧3<deep∨2≤wide∧wide≤4∧2≤deep∧deep≤3∧0≤wide*deep∧wide*deep≤12∧((n:Int)!=wide*deep)=true):
  Calls Tryz.prog 64 #[hallV wide deep p n cap] w fun e w'=>e= .returned (.bool false)∧Ext w w':=by
 rcases h with h|⟨h0,h⟩|⟨h0,h1,h⟩|⟨h0,h1,h2,h⟩|⟨h0,h1,h2,h3,h4,h5,h⟩
 all_goals
  go_enter Tryz.func64,Tryz.ntmps64
  go_wp2_with go_in
  go_ret
  exact⟨rfl,by exact .alloc (.refl _) _⟩
set_option maxRecDepth 100000 in
set_option maxHeartbeats 1000000 in
theorem specHv_main (wide deep:Int)(p:Option Addr)(n cap:Nat)(xs:List Int)(w:World)(h0:2≤wide)(h1:wide≤4)(h2:2≤deep)(h3:deep≤3)(h4:0≤wide*deep)(h5:wide*deep≤12)(h6:((n:Int)!=wide*deep)=false)(hn:n≤12)
  (HS:Hid (Sl w p n cap 1 (ivs xs))):
  Calls Tryz.prog 64 #[hallV wide deep p n cap] w fun e w'=>e= .returned (.bool (cellsOk [] xs))∧Ext w w':=by
 have hncap:=HS.out.le
 have hcapm:=HS.out.mx
 unfold maxLen at hcapm
 go_enter Tryz.func64,Tryz.ntmps64
 go_wp2_with go_in
 clear h4 h5 h6
 go_loopw [3] (fun i wr=> ∃k:Nat,k≤n∧i= .int .i64 k∧cellsOk [] xs=cellsOk (xs.take k) (xs.drop k)∧Ext w wr∧w.heap.size<wr.heap.size∧wr.cell? ⟨w.heap.size,2,none⟩=some (.slice p n cap)) (fun i _=>n-(intOf i).toNat)
 case atStart=>exact⟨0,Nat.zero_le _,rfl,rfl,by exact .alloc (.refl _) _,by simp,by simp⟩
 case round=>
  obtain⟨k,hk,rfl,hok,hE,hsz,hc2⟩:=hrel
  by_cases hlt:k<n
  ·have hSk:=sl_cutI (HS.out.ext hE) (m:=k) hk
   obtain⟨b,off,x,rfl,hx,hbs,hcell⟩:=(HS.out.ext hE).int_at hlt
   have hfin:=Lib.hid (hok.trans (cellsOk_at hx))
   have i1:(0:Int)≤(k:Int):=by omega
   have i2:(k:Int)<(n:Int):=by omega
   have i3:(k:Int)≤(n:Int):=by omega
   have i4:(k:Int)≤(cap:Int):=by omega
   have HX:=Lib.hid hx
   have HK:=Lib.hid hSk
   clear hok hx hSk
   by_cases hr:0≤x∧x≤99
   ·obtain⟨hx0,hx1⟩:=hr
    have HI:Hid (∀w,Calls Tryz.prog 66 #[.int .i64 x,.int .i64 0,.int .i64 99] w fun e w'=>e= .returned (.bool true)∧w=w'):=fun w=>l1In_yes x 0 99 w hx0 hx1
    by_cases hp:0<x
    ·have hd:decide (0<x)=true:=by simp[hp]
     cases hs:(xs.take k).contains x with
     |true=>
      have HH:Hid (∀m,Calls Tryz.prog 80 #[.slice (some ⟨b,off,none⟩) k cap,.int .i64 x] (wr.drewN m) fun e w'=>e= .returned (.bool true)∧wr.drewN m=w'):=fun m=>by
       have:=l1Has_any (some ⟨b,off,none⟩) k cap (xs.take k) x (wr.drewN m) (HK.out.ext (Ext.drewN (Ext.refl _) _));rwa[hs]at this
      have hf2:Hid (cellsOk [] xs=false):=by show _=_;rw[hfin.out,hs];simp[hp]
      clear hs
      go_wp2
      go_quiet ((first|(go_at_call 66;exact quiet_l (HI.out _))|(go_at_call 80;exact quiet_l (HH.out _))))
      go_wp2
      go_ret
      exact⟨ret_bool hf2.out.symm,by exact .drewN hE _⟩
     |false=>
      have HH:Hid (∀m,Calls Tryz.prog 80 #[.slice (some ⟨b,off,none⟩) k cap,.int .i64 x] (wr.drewN m) fun e w'=>e= .returned (.bool false)∧wr.drewN m=w'):=fun m=>by
       have:=l1Has_any (some ⟨b,off,none⟩) k cap (xs.take k) x (wr.drewN m) (HK.out.ext (Ext.drewN (Ext.refl _) _));rwa[hs]at this
      have hf2:Hid (cellsOk [] xs=cellsOk (xs.take (k+1)) (xs.drop (k+1))):=by show _=_;rw[hfin.out,hs];simp[hx0,hx1]
      clear hs
      go_wp2
      go_quiet ((first|(go_at_call 66;exact quiet_l (HI.out _))|(go_at_call 80;exact quiet_l (HH.out _))))
      go_wp2
      go_roundw
      case rel=>exact⟨k+1,by omega,by go_num,hf2.out,by exact .drewN hE _,hsz,hc2⟩
      case measure=>simp[intOf];omega
    ·have hd:decide (0<x)=false:=by simp[hp]
     have hf2:Hid (cellsOk [] xs=cellsOk (xs.take (k+1)) (xs.drop (k+1))):=by show _=_;rw[hfin.out];simp[hx0,hx1,hp]
     go_wp2
     go_quiet ((go_at_call 66;exact quiet_l (HI.out _)))
     go_wp2
     go_roundw
     case rel=>first|exact⟨k+1,by omega,by go_num,hf2.out,by(repeat' (first|exact Ext.refl _|(with_reducible assumption)|(with_reducible refine Ext.alloc ?_ _)|(with_reducible refine Ext.setCell ?_ (by first|exact Nat.le_refl _|(dsimp only;omega)|(simp;done)|(simp;omega)) _)|(with_reducible refine Ext.drew ?_)|(with_reducible refine Ext.drewN ?_ _)|(refine Ext.trans ?_ (by with_reducible assumption)))),hsz,hc2⟩|((repeat apply Exists.intro);exact⟨⟨k+1,by omega,by go_num,hf2.out,by exact .drewN hE _,hsz,hc2⟩,rfl⟩)
     case measure=>simp[intOf];omega
   ·have HI:Hid (∀w,Calls Tryz.prog 66 #[.int .i64 x,.int .i64 0,.int .i64 99] w fun e w'=>e= .returned (.bool false)∧w=w'):=fun w=>l1In_no x 0 99 w (by omega)
    have hf2:Hid (cellsOk [] xs=false):=by show _=_;rw[hfin.out];simp[hr]
    clear hr
    go_wp2
    go_quiet ((go_at_call 66;exact quiet_l (HI.out _)))
    go_wp2
    go_ret
    exact⟨ret_bool hf2.out.symm,by exact .drewN hE _⟩
  ·have hfin:=Lib.hid (hok.trans (cellsOk_end (by have:=HS.out.ilen;omega)))
   clear hok
   go_wp2
   go_ret
   exact⟨ret_bool hfin.out.symm,by exact hE⟩
theorem specHv (wide deep:Int)(p:Option Addr)(n cap:Nat)(xs:List Int)(w:World)(hS:Sl w p n cap 1 (ivs xs)):
  Calls Tryz.prog 64 #[hallV wide deep p n cap] w fun e w'=>e= .returned (.bool (hallOk wide deep xs))∧Ext w w':=by
 have hl:=hS.ilen
 unfold hallOk
 rw[hl]
 cases hs:shapeOk wide deep n with
 |true=>
  obtain⟨h1,h2,h3,h4,h5,h6,h7⟩:=shape_bd hs
  rw[Bool.true_and]
  exact specHv_main wide deep p n cap xs w h1 h2 h3 h4 (by omega) (by omega) (by simp[h7]) h6 hS
 |false=>
  rw[Bool.false_and]
  exact specHv_bad wide deep p n cap w hS.bd (shape_bad hs)
end Go.Proofs.YteejdnmmpmcmeaaGreatDoor

