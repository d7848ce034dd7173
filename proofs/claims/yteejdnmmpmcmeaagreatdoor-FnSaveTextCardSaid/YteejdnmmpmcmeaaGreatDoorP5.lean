/-
  Texts of this proof, packed (@packed).
-/
import Derived.Test.YteejdnmmpmcmeaaGreatDoorP1
import Derived.Test.YteejdnmmpmcmeaaGreatDoorP2
import Derived.Test.YteejdnmmpmcmeaaGreatDoorP3
import Derived.Test.YteejdnmmpmcmeaaGreatDoorP4
namespace Go.Proofs.YteejdnmmpmcmeaaGreatDoor
open Go Go.RowKit
set_option linter.unusedVariables false
theorem Mem.put10 {w0 w:World}{L:List Item}{i g B:Nat}{t:TypeId}{a0 a1 a2 a3 a4 a5 a6 a7 a8 a9:Value}(h:Mem w0 w L)(hi:L[i]? =Option.some (aK B g t #[a0,a1,a2,a3,a4,a5,a6,a7,a8,a9])) (b0 b1 b2 b3 b4 b5 b6 b7 b8 b9:Value):Mem w0 ((((((((((w.setCell ⟨g,0,none⟩ b0).setCell ⟨g,1,none⟩ b1).setCell ⟨g,2,none⟩ b2).setCell ⟨g,3,none⟩ b3).setCell ⟨g,4,none⟩ b4).setCell ⟨g,5,none⟩ b5).setCell ⟨g,6,none⟩ b6).setCell ⟨g,7,none⟩ b7).setCell ⟨g,8,none⟩ b8).setCell ⟨g,9,none⟩ b9) (L.set i (aK w0.heap.size g t #[b0,b1,b2,b3,b4,b5,b6,b7,b8,b9])):=by
 have hl:i<L.length:=(List.getElem?_eq_some_iff.1 hi).1
 have h0:Mem w0 (w.setCell ⟨g,0,none⟩ b0) (L.set i (aK w0.heap.size g t #[b0,a1,a2,a3,a4,a5,a6,a7,a8,a9])):=by have:=h.store (i:=i) hi 0 b0;simpa[List.set_set]using this
 have i0:(L.set i (aK w0.heap.size g t #[b0,a1,a2,a3,a4,a5,a6,a7,a8,a9]))[i]? =Option.some (aK w0.heap.size g t #[b0,a1,a2,a3,a4,a5,a6,a7,a8,a9]):=by rw[List.getElem?_set_self hl]
 have h1:Mem w0 ((w.setCell ⟨g,0,none⟩ b0).setCell ⟨g,1,none⟩ b1) (L.set i (aK w0.heap.size g t #[b0,b1,a2,a3,a4,a5,a6,a7,a8,a9])):=by have:=h0.store (i:=i) i0 1 b1;simpa[List.set_set]using this
 have i1:(L.set i (aK w0.heap.size g t #[b0,b1,a2,a3,a4,a5,a6,a7,a8,a9]))[i]? =Option.some (aK w0.heap.size g t #[b0,b1,a2,a3,a4,a5,a6,a7,a8,a9]):=by rw[List.getElem?_set_self hl]
 have h2:Mem w0 (((w.setCell ⟨g,0,none⟩ b0).setCell ⟨g,1,none⟩ b1).setCell ⟨g,2,none⟩ b2) (L.set i (aK w0.heap.size g t #[b0,b1,b2,a3,a4,a5,a6,a7,a8,a9])):=by have:=h1.store (i:=i) i1 2 b2;simpa[List.set_set]using this
 have i2:(L.set i (aK w0.heap.size g t #[b0,b1,b2,a3,a4,a5,a6,a7,a8,a9]))[i]? =Option.some (aK w0.heap.size g t #[b0,b1,b2,a3,a4,a5,a6,a7,a8,a9]):=by rw[List.getElem?_set_self hl]
 have h3:Mem w0 ((((w.setCell ⟨g,0,none⟩ b0).setCell ⟨g,1,none⟩ b1).setCell ⟨g,2,none⟩ b2).setCell ⟨g,3,none⟩ b3) (L.set i (aK w0.heap.size g t #[b0,b1,b2,b3,a4,a5,a6,a7,a8,a9])):=by have:=h2.store (i:=i) i2 3 b3;simpa[List.set_set]using this
 have i3:(L.set i (aK w0.heap.size g t #[b0,b1,b2,b3,a4,a5,a6,a7,a8,a9]))[i]? =Option.some (aK w0.heap.size g t #[b0,b1,b2,b3,a4,a5,a6,a7,a8,a9]):=by rw[List.getElem?_set_self hl]
 have h4:Mem w0 (((((w.setCell ⟨g,0,none⟩ b0).setCell ⟨g,1,none⟩ b1).setCell ⟨g,2,none⟩ b2).setCell ⟨g,3,none⟩ b3).setCell ⟨g,4,none⟩ b4) (L.set i (aK w0.heap.size g t #[b0,b1,b2,b3,b4,a5,a6,a7,a8,a9])):=by have:=h3.store (i:=i) i3 4 b4;simpa[List.set_set]using this
 have i4:(L.set i (aK w0.heap.size g t #[b0,b1,b2,b3,b4,a5,a6,a7,a8,a9]))[i]? =Option.some (aK w0.heap.size g t #[b0,b1,b2,b3,b4,a5,a6,a7,a8,a9]):=by rw[List.getElem?_set_self hl]
 have h5:Mem w0 ((((((w.setCell ⟨g,0,none⟩ b0).setCell ⟨g,1,none⟩ b1).setCell ⟨g,2,none⟩ b2).setCell ⟨g,3,none⟩ b3).setCell ⟨g,4,none⟩ b4).setCell ⟨g,5,none⟩ b5) (L.set i (aK w0.heap.size g t #[b0,b1,b2,b3,b4,b5,a6,a7,a8,a9])):=by have:=h4.store (i:=i) i4 5 b5;simpa[List.set_set]using this
 have i5:(L.set i (aK w0.heap.size g t #[b0,b1,b2,b3,b4,b5,a6,a7,a8,a9]))[i]? =Option.some (aK w0.heap.size g t #[b0,b1,b2,b3,b4,b5,a6,a7,a8,a9]):=by rw[List.getElem?_set_self hl]
 have h6:Mem w0 (((((((w.setCell ⟨g,0,none⟩ b0).setCell ⟨g,1,none⟩ b1).setCell ⟨g,2,none⟩ b2).setCell ⟨g,3,none⟩ b3).setCell ⟨g,4,none⟩ b4).setCell ⟨g,5,none⟩ b5).setCell ⟨g,6,none⟩ b6) (L.set i (aK w0.heap.size g t #[b0,b1,b2,b3,b4,b5,b6,a7,a8,a9])):=by have:=h5.store (i:=i) i5 6 b6;simpa[List.set_set]using this
 have i6:(L.set i (aK w0.heap.size g t #[b0,b1,b2,b3,b4,b5,b6,a7,a8,a9]))[i]? =Option.some (aK w0.heap.size g t #[b0,b1,b2,b3,b4,b5,b6,a7,a8,a9]):=by rw[List.getElem?_set_self hl]
 have h7:Mem w0 ((((((((w.setCell ⟨g,0,none⟩ b0).setCell ⟨g,1,none⟩ b1).setCell ⟨g,2,none⟩ b2).setCell ⟨g,3,none⟩ b3).setCell ⟨g,4,none⟩ b4).setCell ⟨g,5,none⟩ b5).setCell ⟨g,6,none⟩ b6).setCell ⟨g,7,none⟩ b7) (L.set i (aK w0.heap.size g t #[b0,b1,b2,b3,b4,b5,b6,b7,a8,a9])):=by have:=h6.store (i:=i) i6 7 b7;simpa[List.set_set]using this
 have i7:(L.set i (aK w0.heap.size g t #[b0,b1,b2,b3,b4,b5,b6,b7,a8,a9]))[i]? =Option.some (aK w0.heap.size g t #[b0,b1,b2,b3,b4,b5,b6,b7,a8,a9]):=by rw[List.getElem?_set_self hl]
 have h8:Mem w0 (((((((((w.setCell ⟨g,0,none⟩ b0).setCell ⟨g,1,none⟩ b1).setCell ⟨g,2,none⟩ b2).setCell ⟨g,3,none⟩ b3).setCell ⟨g,4,none⟩ b4).setCell ⟨g,5,none⟩ b5).setCell ⟨g,6,none⟩ b6).setCell ⟨g,7,none⟩ b7).setCell ⟨g,8,none⟩ b8) (L.set i (aK w0.heap.size g t #[b0,b1,b2,b3,b4,b5,b6,b7,b8,a9])):=by have:=h7.store (i:=i) i7 8 b8;simpa[List.set_set]using this
 have i8:(L.set i (aK w0.heap.size g t #[b0,b1,b2,b3,b4,b5,b6,b7,b8,a9]))[i]? =Option.some (aK w0.heap.size g t #[b0,b1,b2,b3,b4,b5,b6,b7,b8,a9]):=by rw[List.getElem?_set_self hl]
 have h9:Mem w0 ((((((((((w.setCell ⟨g,0,none⟩ b0).setCell ⟨g,1,none⟩ b1).setCell ⟨g,2,none⟩ b2).setCell ⟨g,3,none⟩ b3).setCell ⟨g,4,none⟩ b4).setCell ⟨g,5,none⟩ b5).setCell ⟨g,6,none⟩ b6).setCell ⟨g,7,none⟩ b7).setCell ⟨g,8,none⟩ b8).setCell ⟨g,9,none⟩ b9) (L.set i (aK w0.heap.size g t #[b0,b1,b2,b3,b4,b5,b6,b7,b8,b9])):=by have:=h8.store (i:=i) i8 9 b9;simpa[List.set_set]using this
 have i9:(L.set i (aK w0.heap.size g t #[b0,b1,b2,b3,b4,b5,b6,b7,b8,b9]))[i]? =Option.some (aK w0.heap.size g t #[b0,b1,b2,b3,b4,b5,b6,b7,b8,b9]):=by rw[List.getElem?_set_self hl]
 exact h9
theorem MemR.put10 {R:Nat}{w0 w:World}{L:List Item}{i g B:Nat}{t:TypeId}{a0 a1 a2 a3 a4 a5 a6 a7 a8 a9:Value}(h:MemR R w0 w L)(hi:L[i]? =Option.some (aK B g t #[a0,a1,a2,a3,a4,a5,a6,a7,a8,a9])) (b0 b1 b2 b3 b4 b5 b6 b7 b8 b9:Value):MemR R w0 ((((((((((w.setCell ⟨g,0,none⟩ b0).setCell ⟨g,1,none⟩ b1).setCell ⟨g,2,none⟩ b2).setCell ⟨g,3,none⟩ b3).setCell ⟨g,4,none⟩ b4).setCell ⟨g,5,none⟩ b5).setCell ⟨g,6,none⟩ b6).setCell ⟨g,7,none⟩ b7).setCell ⟨g,8,none⟩ b8).setCell ⟨g,9,none⟩ b9) (L.set i (aK w0.heap.size g t #[b0,b1,b2,b3,b4,b5,b6,b7,b8,b9])):=by
 have hl:i<L.length:=(List.getElem?_eq_some_iff.1 hi).1
 have h0:MemR R w0 (w.setCell ⟨g,0,none⟩ b0) (L.set i (aK w0.heap.size g t #[b0,a1,a2,a3,a4,a5,a6,a7,a8,a9])):=by have:=h.store (i:=i) hi 0 b0;simpa[List.set_set]using this
 have i0:(L.set i (aK w0.heap.size g t #[b0,a1,a2,a3,a4,a5,a6,a7,a8,a9]))[i]? =Option.some (aK w0.heap.size g t #[b0,a1,a2,a3,a4,a5,a6,a7,a8,a9]):=by rw[List.getElem?_set_self hl]
 have h1:MemR R w0 ((w.setCell ⟨g,0,none⟩ b0).setCell ⟨g,1,none⟩ b1) (L.set i (aK w0.heap.size g t #[b0,b1,a2,a3,a4,a5,a6,a7,a8,a9])):=by have:=h0.store (i:=i) i0 1 b1;simpa[List.set_set]using this
 have i1:(L.set i (aK w0.heap.size g t #[b0,b1,a2,a3,a4,a5,a6,a7,a8,a9]))[i]? =Option.some (aK w0.heap.size g t #[b0,b1,a2,a3,a4,a5,a6,a7,a8,a9]):=by rw[List.getElem?_set_self hl]
 have h2:MemR R w0 (((w.setCell ⟨g,0,none⟩ b0).setCell ⟨g,1,none⟩ b1).setCell ⟨g,2,none⟩ b2) (L.set i (aK w0.heap.size g t #[b0,b1,b2,a3,a4,a5,a6,a7,a8,a9])):=by have:=h1.store (i:=i) i1 2 b2;simpa[List.set_set]using this
 have i2:(L.set i (aK w0.heap.size g t #[b0,b1,b2,a3,a4,a5,a6,a7,a8,a9]))[i]? =Option.some (aK w0.heap.size g t #[b0,b1,b2,a3,a4,a5,a6,a7,a8,a9]):=by rw[List.getElem?_set_self hl]
 have h3:MemR R w0 ((((w.setCell ⟨g,0,none⟩ b0).setCell ⟨g,1,none⟩ b1).setCell ⟨g,2,none⟩ b2).setCell ⟨g,3,none⟩ b3) (L.set i (aK w0.heap.size g t #[b0,b1,b2,b3,a4,a5,a6,a7,a8,a9])):=by have:=h2.store (i:=i) i2 3 b3;simpa[List.set_set]using this
 have i3:(L.set i (aK w0.heap.size g t #[b0,b1,b2,b3,a4,a5,a6,a7,a8,a9]))[i]? =Option.some (aK w0.heap.size g t #[b0,b1,b2,b3,a4,a5,a6,a7,a8,a9]):=by rw[List.getElem?_set_self hl]
 have h4:MemR R w0 (((((w.setCell ⟨g,0,none⟩ b0).setCell ⟨g,1,none⟩ b1).setCell ⟨g,2,none⟩ b2).setCell ⟨g,3,none⟩ b3).setCell ⟨g,4,none⟩ b4) (L.set i (aK w0.heap.size g t #[b0,b1,b2,b3,b4,a5,a6,a7,a8,a9])):=by have:=h3.store (i:=i) i3 4 b4;simpa[List.set_set]using this
 have i4:(L.set i (aK w0.heap.size g t #[b0,b1,b2,b3,b4,a5,a6,a7,a8,a9]))[i]? =Option.some (aK w0.heap.size g t #[b0,b1,b2,b3,b4,a5,a6,a7,a8,a9]):=by rw[List.getElem?_set_self hl]
 have h5:MemR R w0 ((((((w.setCell ⟨g,0,none⟩ b0).setCell ⟨g,1,none⟩ b1).setCell ⟨g,2,none⟩ b2).setCell ⟨g,3,none⟩ b3).setCell ⟨g,4,none⟩ b4).setCell ⟨g,5,none⟩ b5) (L.set i (aK w0.heap.size g t #[b0,b1,b2,b3,b4,b5,a6,a7,a8,a9])):=by have:=h4.store (i:=i) i4 5 b5;simpa[List.set_set]using this
 have i5:(L.set i (aK w0.heap.size g t #[b0,b1,b2,b3,b4,b5,a6,a7,a8,a9]))[i]? =Option.some (aK w0.heap.size g t #[b0,b1,b2,b3,b4,b5,a6,a7,a8,a9]):=by rw[List.getElem?_set_self hl]
 have h6:MemR R w0 (((((((w.setCell ⟨g,0,none⟩ b0).setCell ⟨g,1,none⟩ b1).setCell ⟨g,2,none⟩ b2).setCell ⟨g,3,none⟩ b3).setCell ⟨g,4,none⟩ b4).setCell ⟨g,5,none⟩ b5).setCell ⟨g,6,none⟩ b6) (L.set i (aK w0.heap.size g t #[b0,b1,b2,b3,b4,b5,b6,a7,a8,a9])):=by have:=h5.store (i:=i) i5 6 b6;simpa[List.set_set]using this
 have i6:(L.set i (aK w0.heap.size g t #[b0,b1,b2,b3,b4,b5,b6,a7,a8,a9]))[i]? =Option.some (aK w0.heap.size g t #[b0,b1,b2,b3,b4,b5,b6,a7,a8,a9]):=by rw[List.getElem?_set_self hl]
 have h7:MemR R w0 ((((((((w.setCell ⟨g,0,none⟩ b0).setCell ⟨g,1,none⟩ b1).setCell ⟨g,2,none⟩ b2).setCell ⟨g,3,none⟩ b3).setCell ⟨g,4,none⟩ b4).setCell ⟨g,5,none⟩ b5).setCell ⟨g,6,none⟩ b6).setCell ⟨g,7,none⟩ b7) (L.set i (aK w0.heap.size g t #[b0,b1,b2,b3,b4,b5,b6,b7,a8,a9])):=by have:=h6.store (i:=i) i6 7 b7;simpa[List.set_set]using this
 have i7:(L.set i (aK w0.heap.size g t #[b0,b1,b2,b3,b4,b5,b6,b7,a8,a9]))[i]? =Option.some (aK w0.heap.size g t #[b0,b1,b2,b3,b4,b5,b6,b7,a8,a9]):=by rw[List.getElem?_set_self hl]
 have h8:MemR R w0 (((((((((w.setCell ⟨g,0,none⟩ b0).setCell ⟨g,1,none⟩ b1).setCell ⟨g,2,none⟩ b2).setCell ⟨g,3,none⟩ b3).setCell ⟨g,4,none⟩ b4).setCell ⟨g,5,none⟩ b5).setCell ⟨g,6,none⟩ b6).setCell ⟨g,7,none⟩ b7).setCell ⟨g,8,none⟩ b8) (L.set i (aK w0.heap.size g t #[b0,b1,b2,b3,b4,b5,b6,b7,b8,a9])):=by have:=h7.store (i:=i) i7 8 b8;simpa[List.set_set]using this
 have i8:(L.set i (aK w0.heap.size g t #[b0,b1,b2,b3,b4,b5,b6,b7,b8,a9]))[i]? =Option.some (aK w0.heap.size g t #[b0,b1,b2,b3,b4,b5,b6,b7,b8,a9]):=by rw[List.getElem?_set_self hl]
 have h9:MemR R w0 ((((((((((w.setCell ⟨g,0,none⟩ b0).setCell ⟨g,1,none⟩ b1).setCell ⟨g,2,none⟩ b2).setCell ⟨g,3,none⟩ b3).setCell ⟨g,4,none⟩ b4).setCell ⟨g,5,none⟩ b5).setCell ⟨g,6,none⟩ b6).setCell ⟨g,7,none⟩ b7).setCell ⟨g,8,none⟩ b8).setCell ⟨g,9,none⟩ b9) (L.set i (aK w0.heap.size g t #[b0,b1,b2,b3,b4,b5,b6,b7,b8,b9])):=by have:=h8.store (i:=i) i8 9 b9;simpa[List.set_set]using this
 have i9:(L.set i (aK w0.heap.size g t #[b0,b1,b2,b3,b4,b5,b6,b7,b8,b9]))[i]? =Option.some (aK w0.heap.size g t #[b0,b1,b2,b3,b4,b5,b6,b7,b8,b9]):=by rw[List.getElem?_set_self hl]
 exact h9
end Go.Proofs.YteejdnmmpmcmeaaGreatDoor
namespace Go.Proofs.YteejdnmmpmcmeaaGreatDoor
open Go.RowKit
set_option linter.unusedVariables false
def Code (w:World)(v:Value):Prop:= ∃(p:Option Addr) (n cap:Nat) (bs:List Int),v= .slice p n cap∧Sl w p n cap 1 (bs.map (Value.int .u8))∧ ∀x∈bs,0≤x∧x≤255
theorem Code.ext {w w':World}{v:Value}(h:Code w v)(hx:Ext w w'):Code w' v:=by
 obtain⟨p,n,cap,bs,h1,h2,h3⟩:=h
 exact⟨p,n,cap,bs,h1,h2.ext hx,h3⟩
def aKe (w:World)(e:Ending)(w':World):Prop:= ∃R,e= .returned (.pointer (some ⟨R,0,none⟩))∧w.heap.size≤R∧Rand w' R 0∧Ext w w'
theorem aC1 {w:World}{p:Option Addr}{n cap:Nat}{bs:List Int}(h:Sl w p n cap 1 (bs.map (Value.int .u8)))(hn:n≤2000)(hb: ∀x∈bs,0≤x∧x≤255)(hp:0<n→ ∀b off,p=some ⟨b,off,none⟩→b<w.heap.size):
  Rand (w.alloc (.cells #[.slice p n cap,.int .i64 0] 113)) w.heap.size 0:=
 ⟨p,n,cap,0,bs,Blk.new _ _ _,by omega,by omega,h.ext ((Ext.refl w).alloc _),hn,hb,fun h0 b off e=>by have:=hp h0 b off e;omega⟩
set_option maxRecDepth 100000 in
set_option maxHeartbeats 1000000 in
theorem lG (v:Value)(w:World)(hc:Code w v):Calls Tryz.prog 60 #[v] w (aKe w):=by
 obtain⟨p,n,cap,bs,rfl,h,hb⟩:=hc
 have hp:0<n→ ∃b off,p=some ⟨b,off,none⟩∧b<w.heap.size:=fun h0=>by
  obtain⟨b,off,e,h1,_⟩:=h.rd h0
  exact⟨b,off,e,h1⟩
 have hle:=h.le
 have hmx:=h.mx
 have hbd:=h.bd
 unfold maxLen at hmx
 have H:=xQ h
 clear h
 by_cases hn:2000<n
 ·obtain⟨b,off,rfl,hb'⟩:=hp (by omega)
  go_enter Tryz.func60,Tryz.ntmps60
  go_wp2
  go_ret
  exact⟨_,rfl,Nat.le_refl _,aC1 (by simpa using aHt H.out (m:=2000) (by omega)) (by omega) (fun x hx=>hb x (List.mem_of_mem_take hx)) (fun _ b' off' e=>by injection e with e;injection e with e;omega),by exact .alloc (.refl _) _⟩
 ·go_enter Tryz.func60,Tryz.ntmps60
  go_wp2
  go_ret
  exact⟨_,rfl,Nat.le_refl _,aC1 H.out (by omega) hb (fun h0 b' off' e=>by obtain⟨b,off,e2,h3⟩:=hp h0;rw[e2]at e;injection e with e;injection e with e;omega),by exact .alloc (.refl _) _⟩
def aJd (R k:Nat)(n:Int)(w:World)(e:Ending)(w':World):Prop:= ∃t:Bool,e= .returned (.bool t)∧Rand w' R (k+1)∧ExtR R w w'
set_option maxRecDepth 100000 in
set_option maxHeartbeats 1000000 in
theorem aF7 (R k:Nat)(n:Int)(w:World)(hr:Rand w R k)(hk:k≤1099511627775)(hn:0≤n)(hn2:n≤1000000):
  Calls Tryz.prog 118 #[.pointer (some ⟨R,0,none⟩),.int .i64 n] w (aJd R k n w):=by
 by_cases h0:0<n
 ·go_enter Tryz.func118,Tryz.ntmps118
  go_wp2_with fail
  refine(bS R (k) (n) _ (hr) (by omega)).mono ?_
  rintro e w1 ⟨a,rfl,a0,a1,r1,x1⟩
  replace a1:a<n:=by omega
  go_wp2
  go_ret
  exact⟨_,rfl,r1,x1⟩
 ·go_enter Tryz.func118,Tryz.ntmps118
  go_wp2
  go_ret
  exact⟨_,rfl,hr.mono (by omega),ExtR.refl _ _⟩
theorem ExtR.blk {R g:Nat}{w w':World}{t:TypeId}{cs:Array Value}(h:ExtR R w w')(hb:Blk w g t cs)(hne:g≠R):Blk w' g t cs:=hb.grown h (fun e=>hne (by injection e))
section
open Go.ChangeShapes Go.WideShapes Go.ChangeAt
variable {H:Type} {enc:TypeId×Value→H} {w:World} {base:Nat} {spare:Nat→Bool} {held:Bool} {b0:Nat} {r:Reach} {v:Value} {d:DataW H} {p:List MemPlace}
set_option maxRecDepth 100000 in
theorem oP (hv:Value.okWide Tryz.prog w r b0 22 v)(h:DataW.Trod enc Tryz.prog w base spare held 22 v d p): ∃u:Unit,Code w v:=by
 obtain⟨a0,len,cap,rfl⟩:=okWide_slice Tryz.underlying22 hv
 obtain⟨fuel,hh⟩:=h
 obtain⟨xs,q,c,hv',hS,hg⟩:=aI8 (α:=Int) (fun x=> [.int .u8 x]) (fun x=>0≤x∧x≤255) 1 Tryz.underlying22 (by kernel_rfl) (by omega) (fun _=>rfl) (fun n cs y hy=>by
  obtain⟨a,rfl,_,ha⟩:=DataW.trod_int Tryz.underlying5 hy
  exact⟨a,rfl,bounds_u8 ha⟩) (by simpa[Value.cells]using hh)
 refine⟨(),q,_,c,xs,hv',?_,hg⟩
 have e:xs.flatMap (fun x=> [Value.int .u8 x])=xs.map (Value.int .u8):=by
  clear hS hg hv'
  induction xs with
  |nil=>rfl
  |cons x xs ih=>simp_all
 rw[←e];exact hS
end
end Go.Proofs.YteejdnmmpmcmeaaGreatDoor
namespace Go.Proofs.YteejdnmmpmcmeaaGreatDoor
set_option linter.unusedVariables false
def iM (val:Int)(s:List Int×List Nat)(v:Nat):List Int×List Nat:=
 if s.1.getD v 0<0 then(s.1.set v val,s.2++ [v])else s
def cO (val:Int)(s:List Int×List Nat)(vs:List Nat):List Int×List Nat:=vs.foldl (iM val) s
theorem iP (val:Int)(s:List Int×List Nat)(vs:List Nat)(v:Nat):cO val s (vs++ [v])=iM val (cO val s vs) v:=by simp[cO]
def zI (adj:Nat→List Nat)(src:List Nat):Nat→Nat→Prop
 |0,v=>v∈src
 |d+1,v=> ∃u,zI adj src d u∧v∈adj u
structure Inv (adj:Nat→List Nat) (src:List Nat) (N k:Nat) (s:List Int×List Nat):Prop where
 len:s.1.length=N
 bd: ∀v∈s.2,v<N
 mem: ∀v,v<N→(0≤s.1.getD v 0↔v∈s.2)
 nodup:s.2.Nodup
 mono:s.2.Pairwise (fun a b=>s.1.getD a 0≤s.1.getD b 0)
 near: ∀u,s.2[k]? =some u→ ∀v∈s.2,s.1.getD v 0≤s.1.getD u 0+1
 sound: ∀v∈s.2,zI adj src (s.1.getD v 0).toNat v
 src: ∀v∈src,v∈s.2∧s.1.getD v 0=0
 done: ∀i u,i<k→s.2[i]? =some u→ ∀v∈adj u,v∈s.2∧s.1.getD v 0≤s.1.getD u 0+1
structure Mid (adj:Nat→List Nat) (src:List Nat) (N k u:Nat) (ws:List Nat) (s0 s:List Int×List Nat):Prop where
 len:s.1.length=N
 bd: ∀v∈s.2,v<N
 mem: ∀v,v<N→(0≤s.1.getD v 0↔v∈s.2)
 nodup:s.2.Nodup
 mono:s.2.Pairwise (fun a b=>s.1.getD a 0≤s.1.getD b 0)
 near: ∀v∈s.2,s.1.getD v 0≤s.1.getD u 0+1
 sound: ∀v∈s.2,zI adj src (s.1.getD v 0).toNat v
 pre: ∃r,s.2=s0.2++r
 same: ∀v∈s0.2,s.1.getD v 0=s0.1.getD v 0
 seen: ∀v∈ws,v∈s.2
theorem cJ {l:List Int}{v:Nat}{x:Int}(h:v<l.length):(l.set v x).getD v 0=x:=by simp[List.getD,h]
theorem bL {l:List Int}{v w:Nat}{x:Int}(h:v≠w):(l.set v x).getD w 0=l.getD w 0:=by simp[List.getD,List.getElem?_set_ne h]
theorem Mid.step {adj:Nat→List Nat}{src:List Nat}{N k u w:Nat}{ws:List Nat}{s0 s:List Int×List Nat}(h:Mid adj src N k u ws s0 s)(hu:u∈s0.2)(hw:w∈adj u)(hwN:w<N)(hval:s0.1.getD u 0=s.1.getD u 0):
  Mid adj src N k u (ws++ [w]) s0 (iM (s0.1.getD u 0+1) s w):=by
 have huS:u∈s.2:=by obtain⟨r,hr⟩:=h.pre;rw[hr];exact List.mem_append_left _ hu
 have hu0:0≤s.1.getD u 0:=(h.mem u (h.bd u huS)).2 huS
 unfold iM
 by_cases hc:s.1.getD w 0<0
 ·rw[if_pos hc]
  have hnw:w∉s.2:=fun hm=>by have:=(h.mem w hwN).2 hm;omega
  have hne: ∀v∈s.2,w≠v:=fun v hv e=>hnw (by rw[e];exact hv)
  have hwl:w<s.1.length:=by rw[h.len];exact hwN
  have hself:=cJ (x:=s0.1.getD u 0+1) hwl
  refine⟨by simp[h.len],?_,?_,?_,?_,?_,?_,?_,?_,?_⟩
  ·intro v hv
   rcases List.mem_append.1 hv with hv|hv
   ·exact h.bd v hv
   ·simp at hv;rw[hv];exact hwN
  ·intro v hv
   by_cases e:w=v
   ·subst e
    dsimp only
    rw[hself]
    exact⟨fun _=>by simp,fun _=>by omega⟩
   ·dsimp only
    rw[bL e,h.mem v hv]
    simp
    intro e2;exact absurd e2.symm e
  ·dsimp only
   rw[List.nodup_append]
   refine⟨h.nodup,by simp,fun a ha b hb=> ?_⟩
   simp at hb;subst hb
   exact fun e=>hnw (by rw[←e];exact ha)
  ·dsimp only
   rw[List.pairwise_append]
   refine⟨?_,by simp,?_⟩
   ·refine h.mono.imp_of_mem ?_
    intro a b ha hb hab
    rw[bL (hne a ha),bL (hne b hb)];exact hab
   ·intro a ha b hb
    simp at hb;subst hb
    rw[hself,bL (hne a ha),hval]
    exact h.near a ha
  ·intro v hv
   dsimp only at hv⊢
   rw[bL (hne u huS)]
   rcases List.mem_append.1 hv with hv|hv
   ·rw[bL (hne v hv)];exact h.near v hv
   ·simp at hv;subst hv;rw[hself,hval];exact Int.le_refl _
  ·intro v hv
   dsimp only at hv⊢
   rcases List.mem_append.1 hv with hv|hv
   ·rw[bL (hne v hv)];exact h.sound v hv
   ·simp at hv;subst hv
    rw[hself,hval]
    have e:(s.1.getD u 0+1).toNat=(s.1.getD u 0).toNat+1:=by omega
    rw[e]
    exact⟨u,h.sound u huS,hw⟩
  ·obtain⟨r,hr⟩:=h.pre
   exact⟨r++ [w],by dsimp only;rw[hr,List.append_assoc]⟩
  ·intro v hv
   have:v∈s.2:=by obtain⟨r,hr⟩:=h.pre;rw[hr];exact List.mem_append_left _ hv
   dsimp only
   rw[bL (hne v this)];exact h.same v hv
  ·intro v hv
   dsimp only
   rcases List.mem_append.1 hv with hv|hv
   ·exact List.mem_append_left _ (h.seen v hv)
   ·simp at hv;subst hv;simp
 ·rw[if_neg hc]
  exact⟨h.len,h.bd,h.mem,h.nodup,h.mono,h.near,h.sound,h.pre,h.same,fun v hv=>by
   rcases List.mem_append.1 hv with hv|hv
   ·exact h.seen v hv
   ·simp at hv;subst hv;exact(h.mem v hwN).1 (by omega)⟩
theorem Inv.mid {adj:Nat→List Nat}{src:List Nat}{N k u:Nat}{s:List Int×List Nat}(h:Inv adj src N k s)(hu:s.2[k]? =some u):Mid adj src N k u [] s s:=
 ⟨h.len,h.bd,h.mem,h.nodup,h.mono,h.near u hu,h.sound,⟨[],by simp⟩,fun _ _=>rfl,fun v hv=>by cases hv⟩
theorem Mid.many {adj:Nat→List Nat}{src:List Nat}{N k u:Nat}{s0:List Int×List Nat}(hu:u∈s0.2): ∀(vs ws:List Nat) (s:List Int×List Nat),Mid adj src N k u ws s0 s→(∀v∈vs,v∈adj u∧v<N)→Mid adj src N k u (ws++vs) s0 (cO (s0.1.getD u 0+1) s vs):=by
 intro vs
 induction vs with
 |nil=>intro ws s h _;simpa[cO]using h
 |cons v vs ih=>
  intro ws s h hv
  have h1:=h.step hu (hv v (by simp)).1 (hv v (by simp)).2 (h.same u hu).symm
  have:=ih (ws++ [v]) _ h1 (fun x hx=>hv x (by simp[hx]))
  simpa[cO]using this
theorem Inv.step {adj:Nat→List Nat}{src:List Nat}{N k u:Nat}{s:List Int×List Nat}(h:Inv adj src N k s)(hu:s.2[k]? =some u) (ha: ∀v∈adj u,v<N):Inv adj src N (k+1) (cO (s.1.getD u 0+1) s (adj u)):=by
 have hum:u∈s.2:=List.mem_of_getElem? hu
 have m:=Mid.many hum (adj u) [] s (h.mid hu) (fun v hv=>⟨hv,ha v hv⟩)
 rw[List.nil_append]at m
 obtain⟨r,hr⟩:=m.pre
 have hk:k<s.2.length:=(List.getElem?_eq_some_iff.1 hu).1
 refine⟨m.len,m.bd,m.mem,m.nodup,m.mono,?_,m.sound,?_,?_⟩
 ·intro u' hu' v hv
  have h1:=m.near v hv
  have hle:(cO (s.1.getD u 0+1) s (adj u)).1.getD u 0≤(cO (s.1.getD u 0+1) s (adj u)).1.getD u' 0:=by
   obtain⟨hk',e'⟩:=List.getElem?_eq_some_iff.1 hu'
   have huk:(cO (s.1.getD u 0+1) s (adj u)).2[k]? =some u:=by rw[hr,List.getElem?_append_left hk];exact hu
   obtain⟨hk2,e2⟩:=List.getElem?_eq_some_iff.1 huk
   have:=List.pairwise_iff_getElem.1 m.mono k (k+1) hk2 hk' (by omega)
   rw[e',e2]at this
   exact this
  omega
 ·intro v hv
  obtain⟨a,b⟩:=h.src v hv
  exact⟨by rw[hr];exact List.mem_append_left _ a,by rw[m.same v a];exact b⟩
 ·intro i u' hi hu' v hv
  by_cases hik:i<k
  ·have hi':i<s.2.length:=by omega
   rw[hr,List.getElem?_append_left hi']at hu'
   obtain⟨a,b⟩:=h.done i u' hik hu' v hv
   have hu'm:u'∈s.2:=List.mem_of_getElem? hu'
   exact⟨by rw[hr];exact List.mem_append_left _ a,by rw[m.same v a,m.same u' hu'm];exact b⟩
  ·obtain rfl:i=k:=by omega
   rw[hr,List.getElem?_append_left hk,hu]at hu'
   injection hu' with hu'
   subst hu'
   have hvm:=m.seen v hv
   exact⟨hvm,m.near v hvm⟩
theorem vN: ∀ {N:Nat} {l:List Nat},l.Nodup→(∀v∈l,v<N)→l.length≤N:=by
 intro N
 induction N with
 |zero=>
  intro l _ hb
  cases l with
  |nil=>simp
  |cons a l=>exact absurd (hb a (by simp)) (by omega)
 |succ N ih=>
  intro l h hb
  have h1:=ih (h.erase N) (fun v hv=>by
   have:=(h.mem_erase_iff).1 hv
   have:=hb v this.2
   omega)
  rw[List.length_erase]at h1
  split at h1<;>omega
theorem Inv.qlen {adj:Nat→List Nat}{src:List Nat}{N k:Nat}{s:List Int×List Nat}(h:Inv adj src N k s):s.2.length≤N:=vN h.nodup h.bd
theorem Inv.far {adj:Nat→List Nat}{src:List Nat}{N k:Nat}{s:List Int×List Nat}(h:Inv adj src N k s)(hk:s.2.length≤k): ∀d v,zI adj src d v→v∈s.2∧s.1.getD v 0≤d:=by
 intro d
 induction d with
 |zero=>intro v hv;obtain⟨a,b⟩:=h.src v hv;exact⟨a,by omega⟩
 |succ d ih=>
  rintro v ⟨u,hu,hv⟩
  obtain⟨a,b⟩:=ih u hu
  obtain⟨i,hi,e⟩:=List.getElem_of_mem a
  obtain⟨c1,c2⟩:=h.done i u (by omega) (by rw[List.getElem?_eq_getElem hi,e]) v hv
  exact⟨c1,by omega⟩
structure uA (adj:Nat→List Nat) (src:List Nat) (N:Nat) (D:List Int):Prop where
 len:D.length=N
 zero: ∀v,v<N→(D.getD v 0=0↔v∈src)
 edge: ∀u v,u<N→0≤D.getD u 0→v∈adj u→0≤D.getD v 0∧D.getD v 0≤D.getD u 0+1
 back: ∀v,v<N→0<D.getD v 0→ ∃u,u<N∧v∈adj u∧D.getD u 0=D.getD v 0-1
theorem Inv.dist {adj:Nat→List Nat}{src:List Nat}{N k:Nat}{s:List Int×List Nat}(h:Inv adj src N k s)(hk:s.2.length≤k):uA adj src N s.1:=by
 have hb: ∀v,v<N→0<s.1.getD v 0→ ∃u,u∈s.2∧v∈adj u∧s.1.getD u 0=s.1.getD v 0-1:=by
  intro v hv h0
  have hvm:=(h.mem v hv).1 (by omega)
  have hw:=h.sound v hvm
  obtain⟨d,hd⟩: ∃d,(s.1.getD v 0).toNat=d+1:=⟨(s.1.getD v 0).toNat-1,by omega⟩
  rw[hd]at hw
  obtain⟨u,hu,hvu⟩:=hw
  obtain⟨a,b⟩:=h.far hk d u hu
  obtain⟨i,hi,e⟩:=List.getElem_of_mem a
  obtain⟨_,c⟩:=h.done i u (by omega) (by rw[List.getElem?_eq_getElem hi,e]) v hvu
  exact⟨u,a,hvu,by omega⟩
 refine⟨h.len,?_,?_,?_⟩
 ·intro v hv
  constructor
  ·intro e
   have hvm:=(h.mem v hv).1 (by omega)
   have:=h.sound v hvm
   rw[e]at this
   exact this
  ·intro hm;exact(h.src v hm).2
 ·intro u v hu h0 hv
  have hum:=(h.mem u hu).1 h0
  obtain⟨i,hi,e⟩:=List.getElem_of_mem hum
  obtain⟨a,b⟩:=h.done i u (by omega) (by rw[List.getElem?_eq_getElem hi,e]) v hv
  exact⟨(h.mem v (h.bd v a)).2 a,b⟩
 ·intro v hv h0
  obtain⟨u,a,b,c⟩:=hb v hv h0
  exact⟨u,h.bd u a,b,c⟩
def qZ (a b:Int):Int:=max (a-b) (b-a)
def bM (aA a b:Int):Int:=qZ (a%aA) (b%aA)+qZ (a/aA) (b/aA)
def aY (aA:Int)(n a:Nat):List Nat:=(List.range n).filter (fun b=>decide (bM aA a b=1))
theorem zA (a b:Int):qZ a b=qZ b a:=by unfold qZ;omega
theorem wS (aA a b:Int):bM aA a b=bM aA b a:=by unfold bM;rw[zA (a%aA),zA (a/aA)]
theorem cL {aA:Int}{n a b:Nat}:b∈aY aA n a↔b<n∧bM aA a b=1:=by simp[aY]
theorem fQ {aA:Int}{n a b:Nat}(ha:a<n)(h:b∈aY aA n a):a∈aY aA n b:=by
 rw[cL]at h⊢
 exact⟨ha,by rw[wS];exact h.2⟩
open Go.RowKit
def dL:List Int→List Int→Bool
 |_,[]=>true
 |seen,x::xs=>decide (0≤x∧x≤99)&& !(decide (0<x)&&seen.contains x)&&dL (seen++ [x]) xs
def fK (aA aB:Int)(n:Nat):Bool:=decide (2≤aA∧aA≤4∧2≤aB∧aB≤3∧(n:Int)=aA*aB)
def aR (aA aB:Int)(xs:List Int):Bool:=fK aA aB xs.length&&dL [] xs
theorem rD (seen:List Int)(x:Int)(xs:List Int):dL seen (x::xs)=(decide (0≤x∧x≤99)&& !(decide (0<x)&&seen.contains x)&&dL (seen++ [x]) xs):=rfl
theorem wO {xs:List Int}{k:Nat}{x:Int}(h:xs[k]? =some x):dL (xs.take k) (xs.drop k)=(decide (0≤x∧x≤99)&& !(decide (0<x)&&(xs.take k).contains x)&&dL (xs.take (k+1)) (xs.drop (k+1))):=by
 rw[pA h,bF h,rD]
theorem tJ {xs:List Int}{k:Nat}(h:xs.length≤k):dL (xs.take k) (xs.drop k)=true:=by
 rw[List.drop_eq_nil_of_le h];rfl
theorem eI: ∀(xs seen:List Int),dL seen xs=true↔(∀x∈xs,0≤x∧x≤99)∧(∀x∈xs,0<x→x∉seen)∧(xs.filter (fun x=>decide (0<x))).Nodup:=by
 intro xs
 induction xs with
 |nil=>intro seen;simp[dL]
 |cons x xs ih=>
  intro seen
  rw[rD,Bool.and_eq_true,Bool.and_eq_true,ih]
  simp only[decide_eq_true_eq,Bool.not_eq_true',Bool.and_eq_false_iff,decide_eq_false_iff_not,List.contains_eq_mem,List.mem_cons,List.mem_append,List.not_mem_nil,or_false]
  constructor
  ·rintro⟨⟨h1,h2⟩,h3,h4,h5⟩
   refine⟨?_,?_,?_⟩
   ·rintro y (rfl|hy)
    ·exact h1
    ·exact h3 y hy
   ·rintro y (rfl|hy) h0
    ·rcases h2 with h2|h2
     ·omega
     ·exact h2
    ·exact fun h=>h4 y hy h0 (.inl h)
   ·by_cases h0:0<x
    ·rw[List.filter_cons_of_pos (by simpa using h0),List.nodup_cons]
     refine⟨fun hm=> ?_,h5⟩
     have:=List.mem_filter.1 hm
     exact h4 x this.1 h0 (.inr rfl)
    ·rw[List.filter_cons_of_neg (by simpa using h0)]
     exact h5
  ·rintro⟨h1,h2,h3⟩
   refine⟨⟨h1 x (.inl rfl),?_⟩,fun y hy=>h1 y (.inr hy),?_,?_⟩
   ·by_cases h0:0<x
    ·exact .inr (h2 x (.inl rfl) h0)
    ·exact .inl h0
   ·intro y hy h0 h
    rcases h with h|rfl
    ·exact h2 y (.inr hy) h0 h
    ·rw[List.filter_cons_of_pos (by simpa using h0),List.nodup_cons]at h3
     exact h3.1 (List.mem_filter.2 ⟨hy,by simpa using h0⟩)
   ·by_cases h0:0<x
    ·rw[List.filter_cons_of_pos (by simpa using h0),List.nodup_cons]at h3
     exact h3.2
    ·rw[List.filter_cons_of_neg (by simpa using h0)]at h3
     exact h3
theorem cG {aA aB:Int}{n:Nat}(h:fK aA aB n=true):2≤aA∧aA≤4∧2≤aB∧aB≤3∧4≤n∧n≤12∧(n:Int)=aA*aB:=by
 simp only[fK,decide_eq_true_eq]at h
 obtain⟨h1,h2,h3,h4,h5⟩:=h
 have hw:aA=2∨aA=3∨aA=4:=by omega
 have hd:aB=2∨aB=3:=by omega
 refine⟨h1,h2,h3,h4,?_,?_,h5⟩
 ·rcases hw with rfl|rfl|rfl<;>rcases hd with rfl|rfl<;>omega
 ·rcases hw with rfl|rfl|rfl<;>rcases hd with rfl|rfl<;>omega
theorem yG {aA aB:Int}{n:Nat}(hs:fK aA aB n=false):aA<2∨2≤aA∧4<aA∨2≤aA∧aA≤4∧aB<2∨2≤aA∧aA≤4∧2≤aB∧3<aB∨2≤aA∧aA≤4∧2≤aB∧aB≤3∧0≤aA*aB∧aA*aB≤12∧((n:Int)!=aA*aB)=true:=by
 simp only[fK,decide_eq_false_iff_not]at hs
 by_cases a1:2≤aA
 ·by_cases a2:aA≤4
  ·by_cases a3:2≤aB
   ·by_cases a4:aB≤3
    ·refine .inr (.inr (.inr (.inr ⟨a1,a2,a3,a4,?_,?_,?_⟩)))
     ·exact Int.mul_nonneg (by omega) (by omega)
     ·have:=Int.mul_le_mul a2 a4 (by omega) (by omega);omega
     ·simp only[bne_iff_ne,ne_eq];exact fun e=>hs ⟨a1,a2,a3,a4,e⟩
    ·exact .inr (.inr (.inr (.inl ⟨a1,a2,a3,by omega⟩)))
   ·exact .inr (.inr (.inl ⟨a1,a2,by omega⟩))
  ·exact .inr (.inl ⟨a1,by omega⟩)
 ·exact .inl (by omega)
def qD (xs:List Int)(cs:Array Value):Prop:=cs.size=100∧ ∀j:Nat,j<100→cs[j]? =some (.bool (decide (0<j)&&xs.contains (j:Int)))
theorem aB8:qD [] (Array.replicate 100 (.bool false)):=⟨by simp,fun j hj=>by rw[Array.getElem?_replicate,if_pos hj];simp⟩
theorem aB7 {xs:List Int}{cs:Array Value}(h:qD xs cs)(x:Int)(h0:0≤x)(h1:x≤99)(hx:0<x→xs.contains x=false):qD (xs++ [x]) (cs.setIfInBounds x.toNat (.bool (decide (0<x)))):=by
 refine⟨by simpa using h.1,fun j hj=> ?_⟩
 rw[Array.getElem?_setIfInBounds]
 by_cases e:x.toNat=j
 ·subst e
  rw[if_pos rfl,if_pos (by rw[h.1];exact hj)]
  have:((x.toNat:Nat):Int)=x:=by omega
  rw[this]
  simp
 ·rw[if_neg e,h.2 j hj]
  have hne:((j:Int)==x)=false:=by rw[beq_eq_false_iff_ne];omega
  rw[beq_eq_false_iff_ne]at hne
  simp[List.contains_eq_mem,List.mem_append,hne]
abbrev aJ (aA aB:Int)(p:Option Addr)(n cap:Nat):Value:= .agg #[.int .i64 aA,.int .i64 aB,.slice p n cap]
set_option maxRecDepth 100000 in
set_option maxHeartbeats 1000000 in
theorem aEl (aA aB:Int)(p:Option Addr)(n cap:Nat)(w:World)(hn:n≤9223372036854775807)
  (h:aA<2∨2≤aA∧4<aA∨2≤aA∧aA≤4∧aB<2∨2≤aA∧aA≤4∧2≤aB∧3<aB∨2≤aA∧aA≤4∧2≤aB∧aB≤3∧0≤aA*aB∧aA*aB≤12∧((n:Int)!=aA*aB)=true):
  Calls Tryz.prog 61 #[aJ aA aB p n cap] w fun e w'=>e= .returned (.bool false)∧Ext w w':=by
 rcases h with h|⟨h0,h⟩|⟨h0,h1,h⟩|⟨h0,h1,h2,h⟩|⟨h0,h1,h2,h3,h4,h5,h⟩
 all_goals
  go_enter Tryz.func61,Tryz.ntmps61
  go_wp2
  go_ret
  exact⟨rfl,by exact .alloc (.refl _) _⟩
theorem aGw:qD [] Tryz.zeroCells114:=⟨by kernel_rfl,by
 have e:Tryz.zeroCells114=Array.replicate 100 (.bool false):=by kernel_rfl
 rw[e];exact aB8.2⟩
set_option maxRecDepth 100000 in
set_option maxHeartbeats 1000000 in
theorem aCl (aA aB:Int)(p:Option Addr)(n cap:Nat)(xs:List Int)(w:World)(h0:2≤aA)(h1:aA≤4)(h2:2≤aB)(h3:aB≤3)(h4:0≤aA*aB)(h5:aA*aB≤12)(h6:((n:Int)!=aA*aB)=false)(hn:n≤12)
  (HS:Hid (Sl w p n cap 1 (ivs xs))):
  Calls Tryz.prog 61 #[aJ aA aB p n cap] w fun e w'=>e= .returned (.bool (dL [] xs))∧Ext w w':=by
 go_enter Tryz.func61,Tryz.ntmps61
 go_wp2
 clear h4 h5 h6
 go_loopw [38] (fun i wr=> ∃(k:Nat) (cs:Array Value),k≤n∧i= .int .i64 k∧Blk wr (w.heap.size+1) 114 cs∧qD (xs.take k) cs∧dL [] xs=dL (xs.take k) (xs.drop k)∧Ext w wr) (fun i _=>n-(intOf i).toNat)
 case atStart=>exact⟨0,_,Nat.zero_le _,rfl,by have:=Blk.new (w.alloc (.cells #[.int .i64 aA,.int .i64 aB,.slice p n cap] 25)) 114 Tryz.zeroCells114;simpa using this,aGw,rfl,by exact .alloc (.alloc (.refl _) _) _⟩
 case round=>
  obtain⟨k,cs,hk,rfl,hb,ht,hok,hE⟩:=hrel
  have HB:=xQ hb
  have HT:=xQ ht
  by_cases hlt:k<n
  ·obtain⟨b,off,x,rfl,hx,hbs,hcell⟩:=(HS.out.ext hE).int_at hlt
   have hfin:=xQ (hok.trans (wO hx))
   have HX:=xQ hx
   clear hok hx hb ht
   by_cases hr:0≤x∧x≤99
   ·obtain⟨hx0,hx1⟩:=hr
    have htc:wr.cell? ⟨w.heap.size+1,x.toNat,none⟩=some (.bool (decide (0<x)&&(xs.take k).contains x)):=by
     rw[HB.out.cell,HT.out.2 x.toNat (by omega)]
     congr 2
     rw[show((x.toNat:Nat):Int)=x by omega]
     congr 1
     simp
    have htf:wr.frozen? ⟨w.heap.size+1,x.toNat,none⟩=false:=HB.out.frozen _
    have hix:x<100:=by omega
    cases hs:(decide (0<x)&&(xs.take k).contains x)with
    |true=>
     rw[hs]at htc
     have HS2:=xQ hs
     clear hs
     go_wp2
     go_ret
     exact⟨aX (by rw[hfin.out,HS2.out];simp),hE⟩
    |false=>
     rw[hs]at htc
     have HS2:=xQ hs
     clear hs
     go_wp2
     go_roundw
     case rel=>
      refine⟨k+1,_,by omega,by go_num,HB.out.set _ _,?_,?_,xE⟩
      ·rw[bF HX.out]
       refine aB7 HT.out x hx0 hx1 (fun h0=> ?_)
       have:=HS2.out
       simpa[h0]using this
      ·rw[hfin.out,HS2.out]
       simp[hx0,hx1]
     case measure=>simp[intOf];omega
   ·have hfx:dL [] xs=false:=by rw[hfin.out];simp[hr]
    have HF:=xQ hfx
    clear hfx
    by_cases hx0:x<0
    ·go_wp2
     go_ret
     exact⟨aX HF.out.symm,hE⟩
    ·have hx1:99<x:=by omega
     have hx2:0≤x:=by omega
     go_wp2
     go_ret
     exact⟨aX HF.out.symm,hE⟩
  ·have hfin:=xQ (hok.trans (tJ (by have:=HS.out.ilen;omega)))
   clear hok hb ht
   go_wp2
   go_ret
   exact⟨aX hfin.out.symm,hE⟩
theorem rY (aA aB:Int)(p:Option Addr)(n cap:Nat)(xs:List Int)(w:World)(hS:Sl w p n cap 1 (ivs xs)):
  Calls Tryz.prog 61 #[aJ aA aB p n cap] w fun e w'=>e= .returned (.bool (aR aA aB xs))∧Ext w w':=by
 have hl:=hS.ilen
 unfold aR
 rw[hl]
 cases hs:fK aA aB n with
 |true=>
  obtain⟨h1,h2,h3,h4,h5,h6,h7⟩:=cG hs
  rw[Bool.true_and]
  exact aCl aA aB p n cap xs w h1 h2 h3 h4 (by omega) (by omega) (by simp[h7]) h6 hS
 |false=>
  rw[Bool.false_and]
  exact aEl aA aB p n cap w hS.bd (yG hs)
theorem oL {f:FuncId}{args:Array Value}{w:World}{n:Nat}{v:Value}(h:Calls Tryz.prog f args (w.drewN n) fun e w'=>e= .returned v∧w.drewN n=w'):
  Calls Tryz.prog f args (w.drewN n) fun e w'=>e= .returned v∧ ∃m,w'=w.drewN m:=h.mono fun _ _ ⟨he,hm⟩=>⟨he,n,hm.symm⟩
set_option maxRecDepth 100000 in
set_option maxHeartbeats 1000000 in
theorem lZ (n lo hi:Int)(w:World)(h:lo≤n)(h2:n≤hi):Calls Tryz.prog 66 #[.int .i64 n,.int .i64 lo,.int .i64 hi] w fun e w'=>e= .returned (.bool true)∧w=w':=by
 go_enter Tryz.func66,Tryz.ntmps66
 go_wp2
 go_ret
 exact⟨rfl,rfl⟩
set_option maxRecDepth 100000 in
set_option maxHeartbeats 1000000 in
theorem uD (n lo hi:Int)(w:World)(h:n<lo∨lo≤n∧hi<n):Calls Tryz.prog 66 #[.int .i64 n,.int .i64 lo,.int .i64 hi] w fun e w'=>e= .returned (.bool false)∧w=w':=by
 rcases h with h|⟨h,h2⟩
 all_goals
  go_enter Tryz.func66,Tryz.ntmps66
  go_wp2
  go_ret
  exact⟨aX (by first|rfl|(simp;omega)),rfl⟩
set_option maxRecDepth 100000 in
set_option maxHeartbeats 1000000 in
theorem yN (p:Option Addr)(n cap:Nat)(xs:List Int)(x:Int)(w:World)(hS:Sl w p n cap 1 (ivs xs)):
  Calls Tryz.prog 80 #[.slice p n cap,.int .i64 x] w fun e w'=>e= .returned (.bool (xs.contains x))∧w=w':=by
 have hn:=hS.bd
 have hl:=xQ hS.ilen
 have HS:=xQ hS
 clear hS
 go_enter Tryz.func80,Tryz.ntmps80
 go_wp2
 go_loop [5] (fun i=> ∃k:Nat,k≤n∧i= .int .i64 k∧(xs.take k).contains x=false) (fun i=>n-(intOf i).toNat)
 case atStart=>exact⟨0,Nat.zero_le _,rfl,by simp⟩
 case round=>
  obtain⟨k,hk,rfl,hc⟩:=hrel
  have HC:=xQ hc
  clear hc
  by_cases hlt:k<n
  ·obtain⟨b,off,y,rfl,hx,hb,hcell⟩:=HS.out.int_at hlt
   have HX:=xQ hx
   clear hx
   by_cases hy:y=x
   ·have t1:(y==x)=true:=by simp[hy]
    have hfin:Hid (xs.contains x=true):=by show _=_;rw[List.contains_eq_mem];simp;rw[←hy];exact List.mem_of_getElem? HX.out
    clear hy
    go_wp2
    go_ret
    exact⟨aX (by simpa using hfin.out.symm),rfl⟩
   ·have t1:(y==x)=false:=by simp[hy]
    have hfin:Hid ((xs.take (k+1)).contains x=false):=by
     have:=HC.out
     show _=_
     rw[bF HX.out]
     simp only[List.contains_eq_mem,decide_eq_false_iff_not,List.mem_append,List.mem_singleton,not_or]at this⊢
     exact⟨this,fun e=>hy e.symm⟩
    clear hy
    go_wp2
    go_round
    case rel=>exact⟨k+1,by omega,by go_num,hfin.out⟩
    case measure=>simp[intOf];omega
  ·have hfin:Hid (xs.contains x=false):=by
    have:=HC.out
    rw[List.take_of_length_le (by rw[hl.out];omega)]at this
    exact this
   go_wp2
   go_ret
   exact⟨aX (by simpa using hfin.out.symm),rfl⟩
set_option maxRecDepth 100000 in
set_option maxHeartbeats 1000000 in
theorem aDj (aA aB:Int)(p:Option Addr)(n cap:Nat)(w:World)(hn:n≤9223372036854775807)
  (h:aA<2∨2≤aA∧4<aA∨2≤aA∧aA≤4∧aB<2∨2≤aA∧aA≤4∧2≤aB∧3<aB∨2≤aA∧aA≤4∧2≤aB∧aB≤3∧0≤aA*aB∧aA*aB≤12∧((n:Int)!=aA*aB)=true):
  Calls Tryz.prog 64 #[aJ aA aB p n cap] w fun e w'=>e= .returned (.bool false)∧Ext w w':=by
 rcases h with h|⟨h0,h⟩|⟨h0,h1,h⟩|⟨h0,h1,h2,h⟩|⟨h0,h1,h2,h3,h4,h5,h⟩
 all_goals
  go_enter Tryz.func64,Tryz.ntmps64
  go_wp2_with go_in
  go_ret
  exact⟨rfl,by exact .alloc (.refl _) _⟩
set_option maxRecDepth 100000 in
set_option maxHeartbeats 1000000 in
theorem aBi (aA aB:Int)(p:Option Addr)(n cap:Nat)(xs:List Int)(w:World)(h0:2≤aA)(h1:aA≤4)(h2:2≤aB)(h3:aB≤3)(h4:0≤aA*aB)(h5:aA*aB≤12)(h6:((n:Int)!=aA*aB)=false)(hn:n≤12)
  (HS:Hid (Sl w p n cap 1 (ivs xs))):
  Calls Tryz.prog 64 #[aJ aA aB p n cap] w fun e w'=>e= .returned (.bool (dL [] xs))∧Ext w w':=by
 have hncap:=HS.out.le
 have hcapm:=HS.out.mx
 unfold maxLen at hcapm
 go_enter Tryz.func64,Tryz.ntmps64
 go_wp2_with go_in
 clear h4 h5 h6
 go_loopw [3] (fun i wr=> ∃k:Nat,k≤n∧i= .int .i64 k∧dL [] xs=dL (xs.take k) (xs.drop k)∧Ext w wr∧w.heap.size<wr.heap.size∧wr.cell? ⟨w.heap.size,2,none⟩=some (.slice p n cap)) (fun i _=>n-(intOf i).toNat)
 case atStart=>exact⟨0,Nat.zero_le _,rfl,rfl,by exact .alloc (.refl _) _,by simp,by simp⟩
 case round=>
  obtain⟨k,hk,rfl,hok,hE,hsz,hc2⟩:=hrel
  by_cases hlt:k<n
  ·have hSk:=aJn (HS.out.ext hE) (m:=k) hk
   obtain⟨b,off,x,rfl,hx,hbs,hcell⟩:=(HS.out.ext hE).int_at hlt
   have hfin:=xQ (hok.trans (wO hx))
   have i1:(0:Int)≤(k:Int):=by omega
   have i2:(k:Int)<(n:Int):=by omega
   have i3:(k:Int)≤(n:Int):=by omega
   have i4:(k:Int)≤(cap:Int):=by omega
   have HX:=xQ hx
   have HK:=xQ hSk
   clear hok hx hSk
   by_cases hr:0≤x∧x≤99
   ·obtain⟨hx0,hx1⟩:=hr
    have HI:Hid (∀w,Calls Tryz.prog 66 #[.int .i64 x,.int .i64 0,.int .i64 99] w fun e w'=>e= .returned (.bool true)∧w=w'):=fun w=>lZ x 0 99 w hx0 hx1
    by_cases hp:0<x
    ·have hd:decide (0<x)=true:=by simp[hp]
     cases hs:(xs.take k).contains x with
     |true=>
      have HH:Hid (∀m,Calls Tryz.prog 80 #[.slice (some ⟨b,off,none⟩) k cap,.int .i64 x] (wr.drewN m) fun e w'=>e= .returned (.bool true)∧wr.drewN m=w'):=fun m=>by
       have:=yN (some ⟨b,off,none⟩) k cap (xs.take k) x (wr.drewN m) (HK.out.ext (Ext.drewN (Ext.refl _) _));rwa[hs]at this
      have hf2:Hid (dL [] xs=false):=by show _=_;rw[hfin.out,hs];simp[hp]
      clear hs
      go_wp2
      go_quiet ((first|(go_at_call 66;exact oL (HI.out _))|(go_at_call 80;exact oL (HH.out _))))
      go_wp2
      go_ret
      exact⟨aX hf2.out.symm,by exact .drewN hE _⟩
     |false=>
      have HH:Hid (∀m,Calls Tryz.prog 80 #[.slice (some ⟨b,off,none⟩) k cap,.int .i64 x] (wr.drewN m) fun e w'=>e= .returned (.bool false)∧wr.drewN m=w'):=fun m=>by
       have:=yN (some ⟨b,off,none⟩) k cap (xs.take k) x (wr.drewN m) (HK.out.ext (Ext.drewN (Ext.refl _) _));rwa[hs]at this
      have hf2:Hid (dL [] xs=dL (xs.take (k+1)) (xs.drop (k+1))):=by show _=_;rw[hfin.out,hs];simp[hx0,hx1]
      clear hs
      go_wp2
      go_quiet ((first|(go_at_call 66;exact oL (HI.out _))|(go_at_call 80;exact oL (HH.out _))))
      go_wp2
      go_roundw
      case rel=>exact⟨k+1,by omega,by go_num,hf2.out,by exact .drewN hE _,hsz,hc2⟩
      case measure=>simp[intOf];omega
    ·have hd:decide (0<x)=false:=by simp[hp]
     have hf2:Hid (dL [] xs=dL (xs.take (k+1)) (xs.drop (k+1))):=by show _=_;rw[hfin.out];simp[hx0,hx1,hp]
     go_wp2
     go_quiet ((go_at_call 66;exact oL (HI.out _)))
     go_wp2
     go_roundw
     case rel=>first|exact⟨k+1,by omega,by go_num,hf2.out,xE,hsz,hc2⟩|((repeat apply Exists.intro);exact⟨⟨k+1,by omega,by go_num,hf2.out,by exact .drewN hE _,hsz,hc2⟩,rfl⟩)
     case measure=>simp[intOf];omega
   ·have HI:Hid (∀w,Calls Tryz.prog 66 #[.int .i64 x,.int .i64 0,.int .i64 99] w fun e w'=>e= .returned (.bool false)∧w=w'):=fun w=>uD x 0 99 w (by omega)
    have hf2:Hid (dL [] xs=false):=by show _=_;rw[hfin.out];simp[hr]
    clear hr
    go_wp2
    go_quiet ((go_at_call 66;exact oL (HI.out _)))
    go_wp2
    go_ret
    exact⟨aX hf2.out.symm,by exact .drewN hE _⟩
  ·have hfin:=xQ (hok.trans (tJ (by have:=HS.out.ilen;omega)))
   clear hok
   go_wp2
   go_ret
   exact⟨aX hfin.out.symm,by exact hE⟩
theorem eY (aA aB:Int)(p:Option Addr)(n cap:Nat)(xs:List Int)(w:World)(hS:Sl w p n cap 1 (ivs xs)):
  Calls Tryz.prog 64 #[aJ aA aB p n cap] w fun e w'=>e= .returned (.bool (aR aA aB xs))∧Ext w w':=by
 have hl:=hS.ilen
 unfold aR
 rw[hl]
 cases hs:fK aA aB n with
 |true=>
  obtain⟨h1,h2,h3,h4,h5,h6,h7⟩:=cG hs
  rw[Bool.true_and]
  exact aBi aA aB p n cap xs w h1 h2 h3 h4 (by omega) (by omega) (by simp[h7]) h6 hS
 |false=>
  rw[Bool.false_and]
  exact aDj aA aB p n cap w hS.bd (yG hs)
end Go.Proofs.YteejdnmmpmcmeaaGreatDoor
