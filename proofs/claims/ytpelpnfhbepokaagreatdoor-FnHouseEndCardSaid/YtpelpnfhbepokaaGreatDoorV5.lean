/-
  Texts of this proof, packed (@packed).
-/
import Derived.Test.YtpelpnfhbepokaaGreatDoorV4
namespace Go.Proofs.YtpelpnfhbepokaaGreatDoor
open Go Go.RowKit
set_option linter.unusedVariables false
theorem Mem.put3 {w0 w:World}{L:List Item}{i g B:Nat}{t:TypeId}{a0 a1 a2:Value}(h:Mem w0 w L)(hi:L[i]? =Option.some (aI B g t #[a0,a1,a2])) (b0 b1 b2:Value):Mem w0 (((w.setCell ⟨g,0,none⟩ b0).setCell ⟨g,1,none⟩ b1).setCell ⟨g,2,none⟩ b2) (L.set i (aI w0.heap.size g t #[b0,b1,b2])):=by
 have hl:i<L.length:=(List.getElem?_eq_some_iff.1 hi).1;have h0:Mem w0 (w.setCell ⟨g,0,none⟩ b0) (L.set i (aI w0.heap.size g t #[b0,a1,a2])):=by have:=h.store (i:=i) hi 0 b0;simpa[List.set_set]using this
 have i0:(L.set i (aI w0.heap.size g t #[b0,a1,a2]))[i]? =Option.some (aI w0.heap.size g t #[b0,a1,a2]):=by rw[List.getElem?_set_self hl]
 have h1:Mem w0 ((w.setCell ⟨g,0,none⟩ b0).setCell ⟨g,1,none⟩ b1) (L.set i (aI w0.heap.size g t #[b0,b1,a2])):=by have:=h0.store (i:=i) i0 1 b1;simpa[List.set_set]using this
 have i1:(L.set i (aI w0.heap.size g t #[b0,b1,a2]))[i]? =Option.some (aI w0.heap.size g t #[b0,b1,a2]):=by rw[List.getElem?_set_self hl]
 have h2:Mem w0 (((w.setCell ⟨g,0,none⟩ b0).setCell ⟨g,1,none⟩ b1).setCell ⟨g,2,none⟩ b2) (L.set i (aI w0.heap.size g t #[b0,b1,b2])):=by have:=h1.store (i:=i) i1 2 b2;simpa[List.set_set]using this
 have i2:(L.set i (aI w0.heap.size g t #[b0,b1,b2]))[i]? =Option.some (aI w0.heap.size g t #[b0,b1,b2]):=by rw[List.getElem?_set_self hl]
 exact h2
theorem Mem.put10 {w0 w:World}{L:List Item}{i g B:Nat}{t:TypeId}{a0 a1 a2 a3 a4 a5 a6 a7 a8 a9:Value}(h:Mem w0 w L)(hi:L[i]? =Option.some (aI B g t #[a0,a1,a2,a3,a4,a5,a6,a7,a8,a9])) (b0 b1 b2 b3 b4 b5 b6 b7 b8 b9:Value):Mem w0 ((((((((((w.setCell ⟨g,0,none⟩ b0).setCell ⟨g,1,none⟩ b1).setCell ⟨g,2,none⟩ b2).setCell ⟨g,3,none⟩ b3).setCell ⟨g,4,none⟩ b4).setCell ⟨g,5,none⟩ b5).setCell ⟨g,6,none⟩ b6).setCell ⟨g,7,none⟩ b7).setCell ⟨g,8,none⟩ b8).setCell ⟨g,9,none⟩ b9) (L.set i (aI w0.heap.size g t #[b0,b1,b2,b3,b4,b5,b6,b7,b8,b9])):=by
 have hl:i<L.length:=(List.getElem?_eq_some_iff.1 hi).1;have h0:Mem w0 (w.setCell ⟨g,0,none⟩ b0) (L.set i (aI w0.heap.size g t #[b0,a1,a2,a3,a4,a5,a6,a7,a8,a9])):=by have:=h.store (i:=i) hi 0 b0;simpa[List.set_set]using this
 have i0:(L.set i (aI w0.heap.size g t #[b0,a1,a2,a3,a4,a5,a6,a7,a8,a9]))[i]? =Option.some (aI w0.heap.size g t #[b0,a1,a2,a3,a4,a5,a6,a7,a8,a9]):=by rw[List.getElem?_set_self hl]
 have h1:Mem w0 ((w.setCell ⟨g,0,none⟩ b0).setCell ⟨g,1,none⟩ b1) (L.set i (aI w0.heap.size g t #[b0,b1,a2,a3,a4,a5,a6,a7,a8,a9])):=by have:=h0.store (i:=i) i0 1 b1;simpa[List.set_set]using this
 have i1:(L.set i (aI w0.heap.size g t #[b0,b1,a2,a3,a4,a5,a6,a7,a8,a9]))[i]? =Option.some (aI w0.heap.size g t #[b0,b1,a2,a3,a4,a5,a6,a7,a8,a9]):=by rw[List.getElem?_set_self hl]
 have h2:Mem w0 (((w.setCell ⟨g,0,none⟩ b0).setCell ⟨g,1,none⟩ b1).setCell ⟨g,2,none⟩ b2) (L.set i (aI w0.heap.size g t #[b0,b1,b2,a3,a4,a5,a6,a7,a8,a9])):=by have:=h1.store (i:=i) i1 2 b2;simpa[List.set_set]using this
 have i2:(L.set i (aI w0.heap.size g t #[b0,b1,b2,a3,a4,a5,a6,a7,a8,a9]))[i]? =Option.some (aI w0.heap.size g t #[b0,b1,b2,a3,a4,a5,a6,a7,a8,a9]):=by rw[List.getElem?_set_self hl]
 have h3:Mem w0 ((((w.setCell ⟨g,0,none⟩ b0).setCell ⟨g,1,none⟩ b1).setCell ⟨g,2,none⟩ b2).setCell ⟨g,3,none⟩ b3) (L.set i (aI w0.heap.size g t #[b0,b1,b2,b3,a4,a5,a6,a7,a8,a9])):=by have:=h2.store (i:=i) i2 3 b3;simpa[List.set_set]using this
 have i3:(L.set i (aI w0.heap.size g t #[b0,b1,b2,b3,a4,a5,a6,a7,a8,a9]))[i]? =Option.some (aI w0.heap.size g t #[b0,b1,b2,b3,a4,a5,a6,a7,a8,a9]):=by rw[List.getElem?_set_self hl]
 have h4:Mem w0 (((((w.setCell ⟨g,0,none⟩ b0).setCell ⟨g,1,none⟩ b1).setCell ⟨g,2,none⟩ b2).setCell ⟨g,3,none⟩ b3).setCell ⟨g,4,none⟩ b4) (L.set i (aI w0.heap.size g t #[b0,b1,b2,b3,b4,a5,a6,a7,a8,a9])):=by have:=h3.store (i:=i) i3 4 b4;simpa[List.set_set]using this
 have i4:(L.set i (aI w0.heap.size g t #[b0,b1,b2,b3,b4,a5,a6,a7,a8,a9]))[i]? =Option.some (aI w0.heap.size g t #[b0,b1,b2,b3,b4,a5,a6,a7,a8,a9]):=by rw[List.getElem?_set_self hl]
 have h5:Mem w0 ((((((w.setCell ⟨g,0,none⟩ b0).setCell ⟨g,1,none⟩ b1).setCell ⟨g,2,none⟩ b2).setCell ⟨g,3,none⟩ b3).setCell ⟨g,4,none⟩ b4).setCell ⟨g,5,none⟩ b5) (L.set i (aI w0.heap.size g t #[b0,b1,b2,b3,b4,b5,a6,a7,a8,a9])):=by have:=h4.store (i:=i) i4 5 b5;simpa[List.set_set]using this
 have i5:(L.set i (aI w0.heap.size g t #[b0,b1,b2,b3,b4,b5,a6,a7,a8,a9]))[i]? =Option.some (aI w0.heap.size g t #[b0,b1,b2,b3,b4,b5,a6,a7,a8,a9]):=by rw[List.getElem?_set_self hl]
 have h6:Mem w0 (((((((w.setCell ⟨g,0,none⟩ b0).setCell ⟨g,1,none⟩ b1).setCell ⟨g,2,none⟩ b2).setCell ⟨g,3,none⟩ b3).setCell ⟨g,4,none⟩ b4).setCell ⟨g,5,none⟩ b5).setCell ⟨g,6,none⟩ b6) (L.set i (aI w0.heap.size g t #[b0,b1,b2,b3,b4,b5,b6,a7,a8,a9])):=by have:=h5.store (i:=i) i5 6 b6;simpa[List.set_set]using this
 have i6:(L.set i (aI w0.heap.size g t #[b0,b1,b2,b3,b4,b5,b6,a7,a8,a9]))[i]? =Option.some (aI w0.heap.size g t #[b0,b1,b2,b3,b4,b5,b6,a7,a8,a9]):=by rw[List.getElem?_set_self hl]
 have h7:Mem w0 ((((((((w.setCell ⟨g,0,none⟩ b0).setCell ⟨g,1,none⟩ b1).setCell ⟨g,2,none⟩ b2).setCell ⟨g,3,none⟩ b3).setCell ⟨g,4,none⟩ b4).setCell ⟨g,5,none⟩ b5).setCell ⟨g,6,none⟩ b6).setCell ⟨g,7,none⟩ b7) (L.set i (aI w0.heap.size g t #[b0,b1,b2,b3,b4,b5,b6,b7,a8,a9])):=by have:=h6.store (i:=i) i6 7 b7;simpa[List.set_set]using this
 have i7:(L.set i (aI w0.heap.size g t #[b0,b1,b2,b3,b4,b5,b6,b7,a8,a9]))[i]? =Option.some (aI w0.heap.size g t #[b0,b1,b2,b3,b4,b5,b6,b7,a8,a9]):=by rw[List.getElem?_set_self hl]
 have h8:Mem w0 (((((((((w.setCell ⟨g,0,none⟩ b0).setCell ⟨g,1,none⟩ b1).setCell ⟨g,2,none⟩ b2).setCell ⟨g,3,none⟩ b3).setCell ⟨g,4,none⟩ b4).setCell ⟨g,5,none⟩ b5).setCell ⟨g,6,none⟩ b6).setCell ⟨g,7,none⟩ b7).setCell ⟨g,8,none⟩ b8) (L.set i (aI w0.heap.size g t #[b0,b1,b2,b3,b4,b5,b6,b7,b8,a9])):=by have:=h7.store (i:=i) i7 8 b8;simpa[List.set_set]using this
 have i8:(L.set i (aI w0.heap.size g t #[b0,b1,b2,b3,b4,b5,b6,b7,b8,a9]))[i]? =Option.some (aI w0.heap.size g t #[b0,b1,b2,b3,b4,b5,b6,b7,b8,a9]):=by rw[List.getElem?_set_self hl]
 have h9:Mem w0 ((((((((((w.setCell ⟨g,0,none⟩ b0).setCell ⟨g,1,none⟩ b1).setCell ⟨g,2,none⟩ b2).setCell ⟨g,3,none⟩ b3).setCell ⟨g,4,none⟩ b4).setCell ⟨g,5,none⟩ b5).setCell ⟨g,6,none⟩ b6).setCell ⟨g,7,none⟩ b7).setCell ⟨g,8,none⟩ b8).setCell ⟨g,9,none⟩ b9) (L.set i (aI w0.heap.size g t #[b0,b1,b2,b3,b4,b5,b6,b7,b8,b9])):=by have:=h8.store (i:=i) i8 9 b9;simpa[List.set_set]using this
 have i9:(L.set i (aI w0.heap.size g t #[b0,b1,b2,b3,b4,b5,b6,b7,b8,b9]))[i]? =Option.some (aI w0.heap.size g t #[b0,b1,b2,b3,b4,b5,b6,b7,b8,b9]):=by rw[List.getElem?_set_self hl]
 exact h9
theorem MemR.put10 {R:Nat}{w0 w:World}{L:List Item}{i g B:Nat}{t:TypeId}{a0 a1 a2 a3 a4 a5 a6 a7 a8 a9:Value}(h:MemR R w0 w L)(hi:L[i]? =Option.some (aI B g t #[a0,a1,a2,a3,a4,a5,a6,a7,a8,a9])) (b0 b1 b2 b3 b4 b5 b6 b7 b8 b9:Value):MemR R w0 ((((((((((w.setCell ⟨g,0,none⟩ b0).setCell ⟨g,1,none⟩ b1).setCell ⟨g,2,none⟩ b2).setCell ⟨g,3,none⟩ b3).setCell ⟨g,4,none⟩ b4).setCell ⟨g,5,none⟩ b5).setCell ⟨g,6,none⟩ b6).setCell ⟨g,7,none⟩ b7).setCell ⟨g,8,none⟩ b8).setCell ⟨g,9,none⟩ b9) (L.set i (aI w0.heap.size g t #[b0,b1,b2,b3,b4,b5,b6,b7,b8,b9])):=by
 have hl:i<L.length:=(List.getElem?_eq_some_iff.1 hi).1;have h0:MemR R w0 (w.setCell ⟨g,0,none⟩ b0) (L.set i (aI w0.heap.size g t #[b0,a1,a2,a3,a4,a5,a6,a7,a8,a9])):=by have:=h.store (i:=i) hi 0 b0;simpa[List.set_set]using this
 have i0:(L.set i (aI w0.heap.size g t #[b0,a1,a2,a3,a4,a5,a6,a7,a8,a9]))[i]? =Option.some (aI w0.heap.size g t #[b0,a1,a2,a3,a4,a5,a6,a7,a8,a9]):=by rw[List.getElem?_set_self hl]
 have h1:MemR R w0 ((w.setCell ⟨g,0,none⟩ b0).setCell ⟨g,1,none⟩ b1) (L.set i (aI w0.heap.size g t #[b0,b1,a2,a3,a4,a5,a6,a7,a8,a9])):=by have:=h0.store (i:=i) i0 1 b1;simpa[List.set_set]using this
 have i1:(L.set i (aI w0.heap.size g t #[b0,b1,a2,a3,a4,a5,a6,a7,a8,a9]))[i]? =Option.some (aI w0.heap.size g t #[b0,b1,a2,a3,a4,a5,a6,a7,a8,a9]):=by rw[List.getElem?_set_self hl]
 have h2:MemR R w0 (((w.setCell ⟨g,0,none⟩ b0).setCell ⟨g,1,none⟩ b1).setCell ⟨g,2,none⟩ b2) (L.set i (aI w0.heap.size g t #[b0,b1,b2,a3,a4,a5,a6,a7,a8,a9])):=by have:=h1.store (i:=i) i1 2 b2;simpa[List.set_set]using this
 have i2:(L.set i (aI w0.heap.size g t #[b0,b1,b2,a3,a4,a5,a6,a7,a8,a9]))[i]? =Option.some (aI w0.heap.size g t #[b0,b1,b2,a3,a4,a5,a6,a7,a8,a9]):=by rw[List.getElem?_set_self hl]
 have h3:MemR R w0 ((((w.setCell ⟨g,0,none⟩ b0).setCell ⟨g,1,none⟩ b1).setCell ⟨g,2,none⟩ b2).setCell ⟨g,3,none⟩ b3) (L.set i (aI w0.heap.size g t #[b0,b1,b2,b3,a4,a5,a6,a7,a8,a9])):=by have:=h2.store (i:=i) i2 3 b3;simpa[List.set_set]using this
 have i3:(L.set i (aI w0.heap.size g t #[b0,b1,b2,b3,a4,a5,a6,a7,a8,a9]))[i]? =Option.some (aI w0.heap.size g t #[b0,b1,b2,b3,a4,a5,a6,a7,a8,a9]):=by rw[List.getElem?_set_self hl]
 have h4:MemR R w0 (((((w.setCell ⟨g,0,none⟩ b0).setCell ⟨g,1,none⟩ b1).setCell ⟨g,2,none⟩ b2).setCell ⟨g,3,none⟩ b3).setCell ⟨g,4,none⟩ b4) (L.set i (aI w0.heap.size g t #[b0,b1,b2,b3,b4,a5,a6,a7,a8,a9])):=by have:=h3.store (i:=i) i3 4 b4;simpa[List.set_set]using this
 have i4:(L.set i (aI w0.heap.size g t #[b0,b1,b2,b3,b4,a5,a6,a7,a8,a9]))[i]? =Option.some (aI w0.heap.size g t #[b0,b1,b2,b3,b4,a5,a6,a7,a8,a9]):=by rw[List.getElem?_set_self hl]
 have h5:MemR R w0 ((((((w.setCell ⟨g,0,none⟩ b0).setCell ⟨g,1,none⟩ b1).setCell ⟨g,2,none⟩ b2).setCell ⟨g,3,none⟩ b3).setCell ⟨g,4,none⟩ b4).setCell ⟨g,5,none⟩ b5) (L.set i (aI w0.heap.size g t #[b0,b1,b2,b3,b4,b5,a6,a7,a8,a9])):=by have:=h4.store (i:=i) i4 5 b5;simpa[List.set_set]using this
 have i5:(L.set i (aI w0.heap.size g t #[b0,b1,b2,b3,b4,b5,a6,a7,a8,a9]))[i]? =Option.some (aI w0.heap.size g t #[b0,b1,b2,b3,b4,b5,a6,a7,a8,a9]):=by rw[List.getElem?_set_self hl]
 have h6:MemR R w0 (((((((w.setCell ⟨g,0,none⟩ b0).setCell ⟨g,1,none⟩ b1).setCell ⟨g,2,none⟩ b2).setCell ⟨g,3,none⟩ b3).setCell ⟨g,4,none⟩ b4).setCell ⟨g,5,none⟩ b5).setCell ⟨g,6,none⟩ b6) (L.set i (aI w0.heap.size g t #[b0,b1,b2,b3,b4,b5,b6,a7,a8,a9])):=by have:=h5.store (i:=i) i5 6 b6;simpa[List.set_set]using this
 have i6:(L.set i (aI w0.heap.size g t #[b0,b1,b2,b3,b4,b5,b6,a7,a8,a9]))[i]? =Option.some (aI w0.heap.size g t #[b0,b1,b2,b3,b4,b5,b6,a7,a8,a9]):=by rw[List.getElem?_set_self hl]
 have h7:MemR R w0 ((((((((w.setCell ⟨g,0,none⟩ b0).setCell ⟨g,1,none⟩ b1).setCell ⟨g,2,none⟩ b2).setCell ⟨g,3,none⟩ b3).setCell ⟨g,4,none⟩ b4).setCell ⟨g,5,none⟩ b5).setCell ⟨g,6,none⟩ b6).setCell ⟨g,7,none⟩ b7) (L.set i (aI w0.heap.size g t #[b0,b1,b2,b3,b4,b5,b6,b7,a8,a9])):=by have:=h6.store (i:=i) i6 7 b7;simpa[List.set_set]using this
 have i7:(L.set i (aI w0.heap.size g t #[b0,b1,b2,b3,b4,b5,b6,b7,a8,a9]))[i]? =Option.some (aI w0.heap.size g t #[b0,b1,b2,b3,b4,b5,b6,b7,a8,a9]):=by rw[List.getElem?_set_self hl]
 have h8:MemR R w0 (((((((((w.setCell ⟨g,0,none⟩ b0).setCell ⟨g,1,none⟩ b1).setCell ⟨g,2,none⟩ b2).setCell ⟨g,3,none⟩ b3).setCell ⟨g,4,none⟩ b4).setCell ⟨g,5,none⟩ b5).setCell ⟨g,6,none⟩ b6).setCell ⟨g,7,none⟩ b7).setCell ⟨g,8,none⟩ b8) (L.set i (aI w0.heap.size g t #[b0,b1,b2,b3,b4,b5,b6,b7,b8,a9])):=by have:=h7.store (i:=i) i7 8 b8;simpa[List.set_set]using this
 have i8:(L.set i (aI w0.heap.size g t #[b0,b1,b2,b3,b4,b5,b6,b7,b8,a9]))[i]? =Option.some (aI w0.heap.size g t #[b0,b1,b2,b3,b4,b5,b6,b7,b8,a9]):=by rw[List.getElem?_set_self hl]
 have h9:MemR R w0 ((((((((((w.setCell ⟨g,0,none⟩ b0).setCell ⟨g,1,none⟩ b1).setCell ⟨g,2,none⟩ b2).setCell ⟨g,3,none⟩ b3).setCell ⟨g,4,none⟩ b4).setCell ⟨g,5,none⟩ b5).setCell ⟨g,6,none⟩ b6).setCell ⟨g,7,none⟩ b7).setCell ⟨g,8,none⟩ b8).setCell ⟨g,9,none⟩ b9) (L.set i (aI w0.heap.size g t #[b0,b1,b2,b3,b4,b5,b6,b7,b8,b9])):=by have:=h8.store (i:=i) i8 9 b9;simpa[List.set_set]using this
 have i9:(L.set i (aI w0.heap.size g t #[b0,b1,b2,b3,b4,b5,b6,b7,b8,b9]))[i]? =Option.some (aI w0.heap.size g t #[b0,b1,b2,b3,b4,b5,b6,b7,b8,b9]):=by rw[List.getElem?_set_self hl]
 exact h9
end Go.Proofs.YtpelpnfhbepokaaGreatDoor
namespace Go.Proofs.YtpelpnfhbepokaaGreatDoor
open Go.RowKit
set_option linter.unusedVariables false
set_option maxHeartbeats 8000000
set_option maxRecDepth 100000
def Code (w:World)(v:Value):Prop:= ∃(p:OA) (n cap:Nat) (bs:List Int),v= .slice p n cap∧Sl w p n cap 1 (bs.map (Value.int .u8))∧ ∀x∈bs,0≤x∧x≤255
theorem Code.ext {w w':World}{v:Value}(h:Code w v)(hx:Ext w w'):Code w' v:=by obtain⟨p,n,a,bs,h1,h2,h3⟩:=h;exact⟨p,n,a,bs,h1,h2.ext hx,h3⟩
def aKm (w:World)(e:Ending)(w':World):Prop:= ∃R,e= .returned (.pointer (some ⟨R,0,none⟩))∧w.heap.size≤R∧Rand w' R 0∧Ext w w'
theorem aA8 {w:World}{p:OA}{n a:Nat}{bs:List Int}(h:Sl w p n a 1 (bs.map (Value.int .u8)))(hn:n≤2000)(hb: ∀x∈bs,0≤x∧x≤255)(hp:0<n→ ∀b off,p=some ⟨b,off,none⟩→b<w.heap.size):
  Rand (w.alloc (.cells #[.slice p n a,()] 108)) w.heap.size 0:=
 ⟨p,n,a,0,bs,Blk.new _ _ _,by omega,by omega,h.ext ((Ext.refl w).alloc _),hn,hb,fun h0 b off e=>by have:=hp h0 b off e;omega⟩
theorem sM (v:Value)(w:World)(hc:Code w v):Calls Tryz.prog 33 #[v] w (aKm w):=by
 obtain⟨p,n,c,bs,rfl,h,hb⟩:=hc;have hp:0<n→ ∃b off,p=some ⟨b,off,none⟩∧b<w.heap.size:=fun h0=>by obtain⟨b,off,e,h1,_⟩:=h.rd h0;exact⟨b,off,e,h1⟩
 have g:=h.le;have a:=h.mx;have f:=h.bd;unfold maxLen at a;have H:=xQ h;clear h;by_cases hn:2000<n
 ·obtain⟨b,off,rfl,d⟩:=hp (by omega);go_enter Tryz.func33,Tryz.ntmps33;go_wp2;go_ret;exact⟨_,rfl,Nat.le_refl _,aA8 (by simpa using aHk H (m:=2000) (by omega)) (by omega) (fun x hx=>hb x (List.mem_of_mem_take hx)) (fun _ b' off' e=>by injection e with e;injection e with e;omega),by exact .alloc (.refl _) _⟩
 go_enter Tryz.func33,Tryz.ntmps33;go_wp2;go_ret;exact⟨_,rfl,Nat.le_refl _,aA8 H (by omega) hb (fun h0 b' off' e=>by obtain⟨b,off,e2,h3⟩:=hp h0;rw[e2]at e;injection e with e;injection e with e;omega),by exact .alloc (.refl _) _⟩
def aJi (R k:Nat)(n:Int)(w:World)(e:Ending)(w':World):Prop:= ∃t:Bool,e= .returned (.bool t)∧Rand w' R (k+1)∧ExtR R w w'
theorem aE9 (R k:Nat)(n:Int)(w:World)(hr:Rand w R k)(hk:k≤1099511627775)(hn:0≤n)(b:n≤1000000):
  Calls Tryz.prog 78 #[.pointer (some ⟨R,0,none⟩),n] w (aJi R k n w):=by
 by_cases h0:0<n
 ·go_enter Tryz.func78,Tryz.ntmps78;go_wp2_with fail;refine(cL R (k) (n) _ (hr) (by omega)).mono ?_;rintro e w1 ⟨a,rfl,a0,a1,r1,x1⟩;replace a1:a<n:=by omega
  go_wp2;go_ret;exact⟨_,rfl,r1,x1⟩
 go_enter Tryz.func78,Tryz.ntmps78;go_wp2;go_ret;exact⟨_,rfl,hr.mono (by omega),ExtR.refl _ _⟩
theorem ExtR.blk {R g:Nat}{w w':World}{t:TypeId}{cs:Array Value}(h:ExtR R w w')(hb:Blk w g t cs)(a:g≠R):Blk w' g t cs:=hb.grown h (fun e=>a (by injection e))
section
open Go.ChangeShapes Go.WideShapes Go.ChangeAt
variable {H:Type} {enc:TypeId×Value→H} {w:World} {base:Nat} {spare:Nat→Bool} {held:Bool} {b0:Nat} {r:Reach} {v:Value} {d:DataW H} {p:List MemPlace}
theorem aFm (hv:Value.okWide Tryz.prog w r b0 22 v)(h:DataW.Trod enc Tryz.prog w base spare held 22 v d p): ∃u:Unit,Code w v:=by
 obtain⟨a0,i,g,rfl⟩:=okWide_slice Tryz.underlying22 hv;obtain⟨f,hh⟩:=h
 obtain⟨xs,q,c,b,hS,hg⟩:=aI0 (α:=Int) (fun x=> [.int .u8 x]) (fun x=>0≤x∧x≤255) 1 Tryz.underlying22 (by kernel_rfl) (by omega) (fun _=>rfl) (fun n cs y hy=>by
  obtain⟨a,rfl,_,ha⟩:=DataW.trod_int Tryz.underlying5 hy
  exact⟨a,rfl,bounds_u8 ha⟩) (by simpa[Value.cells]using hh)
 refine⟨(),q,_,c,xs,b,?_,hg⟩;have e:xs.flatMap (fun x=> [Value.int .u8 x])=xs.map (Value.int .u8):=by
  clear hS hg b;induction xs with
  |nil=>rfl
  |cons x xs ih=>simp_all
 rw[←e];exact hS
end
end Go.Proofs.YtpelpnfhbepokaaGreatDoor
namespace Go.Proofs.YtpelpnfhbepokaaGreatDoor
set_option linter.unusedVariables false
def eF (val:Int)(s:List Int×List Nat)(v:Nat):List Int×List Nat:=
 if s.1.getD v 0<0 then(s.1.set v val,s.2++ [v])else s
def bL (val:Int)(s:List Int×List Nat)(vs:List Nat):List Int×List Nat:=vs.foldl (eF val) s
theorem dM (a:Int)(s:List Int×List Nat)(vs:List Nat)(v:Nat):bL a s (vs++ [v])=eF a (bL a s vs) v:=by simp[bL]
def mW (adj:Nat→List Nat)(src:List Nat):Nat→Nat→Prop
 |0,v=>v∈src
 |d+1,v=> ∃u,mW adj src d u∧v∈adj u
structure Inv (adj:Nat→List Nat) (src:List Nat) (N k:Nat) (s:List Int×List Nat):Prop where
 len:s.1.length=N
 bd: ∀v∈s.2,v<N
 mem: ∀v,v<N→(0≤s.1.getD v 0↔v∈s.2)
 nodup:s.2.Nodup
 mono:s.2.Pairwise (fun a b=>s.1.getD a 0≤s.1.getD b 0)
 near: ∀u,s.2[k]? =some u→ ∀v∈s.2,s.1.getD v 0≤s.1.getD u 0+1
 sound: ∀v∈s.2,mW adj src (s.1.getD v 0).toNat v
 src: ∀v∈src,v∈s.2∧s.1.getD v 0=0
 done: ∀i u,i<k→s.2[i]? =some u→ ∀v∈adj u,v∈s.2∧s.1.getD v 0≤s.1.getD u 0+1
structure Mid (adj:Nat→List Nat) (src:List Nat) (N k u:Nat) (ws:List Nat) (s0 s:List Int×List Nat):Prop where
 len:s.1.length=N
 bd: ∀v∈s.2,v<N
 mem: ∀v,v<N→(0≤s.1.getD v 0↔v∈s.2)
 nodup:s.2.Nodup
 mono:s.2.Pairwise (fun a b=>s.1.getD a 0≤s.1.getD b 0)
 near: ∀v∈s.2,s.1.getD v 0≤s.1.getD u 0+1
 sound: ∀v∈s.2,mW adj src (s.1.getD v 0).toNat v
 pre: ∃r,s.2=s0.2++r
 same: ∀v∈s0.2,s.1.getD v 0=s0.1.getD v 0
 seen: ∀v∈ws,v∈s.2
theorem cF {l:List Int}{v:Nat}{x:Int}(h:v<l.length):(l.set v x).getD v 0=x:=by simp[List.getD,h]
theorem bO {l:List Int}{v w:Nat}{x:Int}(h:v≠w):(l.set v x).getD w 0=l.getD w 0:=by simp[List.getD,List.getElem?_set_ne h]
theorem Mid.step {adj:Nat→List Nat}{src:List Nat}{N k u w:Nat}{ws:List Nat}{s0 s:List Int×List Nat}(h:Mid adj src N k u ws s0 s)(hu:u∈s0.2)(hw:w∈adj u)(i:w<N)(f:s0.1.getD u 0=s.1.getD u 0):
  Mid adj src N k u (ws++ [w]) s0 (eF (s0.1.getD u 0+1) s w):=by
 have g:u∈s.2:=by obtain⟨r,hr⟩:=h.pre;rw[hr];exact List.mem_append_left _ hu
 have n:0≤s.1.getD u 0:=(h.mem u (h.bd u g)).2 g;unfold eF;by_cases hc:s.1.getD w 0<0
 ·rw[if_pos hc];have j:w∉s.2:=fun hm=>by have:=(h.mem w i).2 hm;omega
  have d: ∀v∈s.2,w≠v:=fun v hv e=>j (by rw[e];exact hv)
  have m:w<s.1.length:=by rw[h.len];exact i
  have c:=cF (x:=s0.1.getD u 0+1) m;refine⟨by simp[h.len],?_,?_,?_,?_,?_,?_,?_,?_,?_⟩
  ·intro v hv;rcases List.mem_append.1 hv with hv|hv
   ·exact h.bd v hv
   simp at hv;rw[hv];exact i
  ·intro v hv;by_cases e:w=v
   ·subst e;dsimp only;rw[c];exact⟨fun _=>by simp,fun _=>by omega⟩
   dsimp only;rw[bO e,h.mem v hv];simp;intro e2;exact absurd e2.symm e
  ·dsimp only;rw[List.nodup_append];refine⟨h.nodup,by simp,fun a ha b hb=> ?_⟩;simp at hb;subst hb;exact fun e=>j (by rw[←e];exact ha)
  ·dsimp only;rw[List.pairwise_append];refine⟨?_,by simp,?_⟩
   ·refine h.mono.imp_of_mem ?_;intro a b ha hb l;rw[bO (d a ha),bO (d b hb)];exact l
   intro a ha b hb;simp at hb;subst hb;rw[c,bO (d a ha),f];exact h.near a ha
  ·intro v hv;dsimp only at hv⊢;rw[bO (d u g)];rcases List.mem_append.1 hv with hv|hv
   ·rw[bO (d v hv)];exact h.near v hv
   simp at hv;subst hv;rw[c,f];exact Int.le_refl _
  ·intro v hv;dsimp only at hv⊢;rcases List.mem_append.1 hv with hv|hv
   ·rw[bO (d v hv)];exact h.sound v hv
   simp at hv;subst hv;rw[c,f];have e:(s.1.getD u 0+1).toNat=(s.1.getD u 0).toNat+1:=by omega
   rw[e];exact⟨u,h.sound u g,hw⟩
  ·obtain⟨r,hr⟩:=h.pre;exact⟨r++ [w],by dsimp only;rw[hr,List.append_assoc]⟩
  ·intro v hv;have:v∈s.2:=by obtain⟨r,hr⟩:=h.pre;rw[hr];exact List.mem_append_left _ hv
   dsimp only;rw[bO (d v this)];exact h.same v hv
  intro v hv;dsimp only;rcases List.mem_append.1 hv with hv|hv
  ·exact List.mem_append_left _ (h.seen v hv)
  simp at hv;subst hv;simp
 rw[if_neg hc]
 exact⟨h.len,h.bd,h.mem,h.nodup,h.mono,h.near,h.sound,h.pre,h.same,fun v hv=>by
  rcases List.mem_append.1 hv with hv|hv
  ·exact h.seen v hv
  ·simp at hv;subst hv;exact(h.mem v i).1 (by omega)⟩
theorem Inv.mid {adj:Nat→List Nat}{src:List Nat}{N k u:Nat}{s:List Int×List Nat}(h:Inv adj src N k s)(hu:s.2[k]? =some u):Mid adj src N k u [] s s:=
 ⟨h.len,h.bd,h.mem,h.nodup,h.mono,h.near u hu,h.sound,⟨[],by simp⟩,fun _ _=>rfl,fun v hv=>by cases hv⟩
theorem Mid.many {adj:Nat→List Nat}{src:List Nat}{N k u:Nat}{s0:List Int×List Nat}(hu:u∈s0.2): ∀(vs ws:List Nat) (s:List Int×List Nat),Mid adj src N k u ws s0 s→(∀v∈vs,v∈adj u∧v<N)→Mid adj src N k u (ws++vs) s0 (bL (s0.1.getD u 0+1) s vs):=by
 intro vs;induction vs with
 |nil=>intro ws s h _;simpa[bL]using h
 |cons v vs ih=>intro ws s h hv;have h1:=h.step hu (hv v (by simp)).1 (hv v (by simp)).2 (h.same u hu).symm;have:=ih (ws++ [v]) _ h1 (fun x hx=>hv x (by simp[hx]));simpa[bL]using this
theorem Inv.step {adj:Nat→List Nat}{src:List Nat}{N k u:Nat}{s:List Int×List Nat}(h:Inv adj src N k s)(hu:s.2[k]? =some u) (ha: ∀v∈adj u,v<N):Inv adj src N (k+1) (bL (s.1.getD u 0+1) s (adj u)):=by
 have n:u∈s.2:=List.mem_of_getElem? hu;have m:=Mid.many n (adj u) [] s (h.mid hu) (fun v hv=>⟨hv,ha v hv⟩);rw[List.nil_append]at m;obtain⟨r,hr⟩:=m.pre;have hk:k<s.2.length:=(List.getElem?_eq_some_iff.1 hu).1;refine⟨m.len,m.bd,m.mem,m.nodup,m.mono,?_,m.sound,?_,?_⟩
 ·intro u' c v hv;have h1:=m.near v hv;have o:(bL (s.1.getD u 0+1) s (adj u)).1.getD u 0≤(bL (s.1.getD u 0+1) s (adj u)).1.getD u' 0:=by
   obtain⟨g,e'⟩:=List.getElem?_eq_some_iff.1 c;have l:(bL (s.1.getD u 0+1) s (adj u)).2[k]? =some u:=by rw[hr,List.getElem?_append_left hk];exact hu
   obtain⟨j,e2⟩:=List.getElem?_eq_some_iff.1 l;have:=List.pairwise_iff_getElem.1 m.mono k (k+1) j g (by omega);rw[e',e2]at this;exact this
  omega
 ·intro v hv;obtain⟨a,b⟩:=h.src v hv;exact⟨by rw[hr];exact List.mem_append_left _ a,by rw[m.same v a];exact b⟩
 intro i u' hi c v hv;by_cases hik:i<k
 ·have f:i<s.2.length:=by omega
  rw[hr,List.getElem?_append_left f]at c;obtain⟨a,b⟩:=h.done i u' hik c v hv;have d:u'∈s.2:=List.mem_of_getElem? c;exact⟨by rw[hr];exact List.mem_append_left _ a,by rw[m.same v a,m.same u' d];exact b⟩
 obtain rfl:i=k:=by omega
 rw[hr,List.getElem?_append_left hk,hu]at c;injection c with c;subst c;have e:=m.seen v hv;exact⟨e,m.near v e⟩
theorem nF: ∀ {N:Nat} {l:List Nat},l.Nodup→(∀v∈l,v<N)→l.length≤N:=by
 intro N;induction N with
 |zero=>
  intro l _ hb;cases l with
  |nil=>simp
  |cons a l=>exact absurd (hb a (by simp)) (by omega)
 |succ N ih=>
  intro l h hb
  have h1:=ih (h.erase N) (fun v hv=>by
   have:=h.mem_erase_iff.1 hv;have:=hb v this.2
   omega)
  rw[List.length_erase]at h1;split at h1<;>omega
theorem Inv.qlen {adj:Nat→List Nat}{src:List Nat}{N k:Nat}{s:List Int×List Nat}(h:Inv adj src N k s):s.2.length≤N:=nF h.nodup h.bd
theorem Inv.far {adj:Nat→List Nat}{src:List Nat}{N k:Nat}{s:List Int×List Nat}(h:Inv adj src N k s)(hk:s.2.length≤k): ∀d v,mW adj src d v→v∈s.2∧s.1.getD v 0≤d:=by
 intro d;induction d with
 |zero=>intro v hv;obtain⟨a,b⟩:=h.src v hv;exact⟨a,by omega⟩
 |succ d ih=>rintro v ⟨u,hu,hv⟩;obtain⟨a,b⟩:=ih u hu;obtain⟨i,hi,e⟩:=List.getElem_of_mem a;obtain⟨c1,c2⟩:=h.done i u (by omega) (by rw[List.getElem?_eq_getElem hi,e]) v hv;exact⟨c1,by omega⟩
structure qR (adj:Nat→List Nat) (src:List Nat) (N:Nat) (D:List Int):Prop where
 len:D.length=N
 zero: ∀v,v<N→(D.getD v 0=0↔v∈src)
 edge: ∀u v,u<N→0≤D.getD u 0→v∈adj u→0≤D.getD v 0∧D.getD v 0≤D.getD u 0+1
 back: ∀v,v<N→0<D.getD v 0→ ∃u,u<N∧v∈adj u∧D.getD u 0=D.getD v 0-1
theorem Inv.dist {adj:Nat→List Nat}{src:List Nat}{N k:Nat}{s:List Int×List Nat}(h:Inv adj src N k s)(hk:s.2.length≤k):qR adj src N s.1:=by
 have hb: ∀v,v<N→0<s.1.getD v 0→ ∃u,u∈s.2∧v∈adj u∧s.1.getD u 0=s.1.getD v 0-1:=by
  intro v hv h0;have f:=(h.mem v hv).1 (by omega);have hw:=h.sound v f;obtain⟨d,hd⟩: ∃d,(s.1.getD v 0).toNat=d+1:=⟨(s.1.getD v 0).toNat-1,by omega⟩
  rw[hd]at hw;obtain⟨u,hu,g⟩:=hw;obtain⟨a,b⟩:=h.far hk d u hu;obtain⟨i,hi,e⟩:=List.getElem_of_mem a;obtain⟨_,c⟩:=h.done i u (by omega) (by rw[List.getElem?_eq_getElem hi,e]) v g;exact⟨u,a,g,by omega⟩
 refine⟨h.len,?_,?_,?_⟩
 ·intro v hv;constructor
  ·intro e;have f:=(h.mem v hv).1 (by omega);have:=h.sound v f;rw[e]at this;exact this
  intro hm;exact(h.src v hm).2
 ·intro u v hu h0 hv;have j:=(h.mem u hu).1 h0;obtain⟨i,hi,e⟩:=List.getElem_of_mem j;obtain⟨a,b⟩:=h.done i u (by omega) (by rw[List.getElem?_eq_getElem hi,e]) v hv;exact⟨(h.mem v (h.bd v a)).2 a,b⟩
 intro v hv h0;obtain⟨u,a,b,c⟩:=hb v hv h0;exact⟨u,h.bd u a,b,c⟩
def oK (a b:Int):Int:=max (a-b) (b-a)
def aW (aA a b:Int):Int:=oK (a%aA) (b%aA)+oK (a/aA) (b/aA)
def aS (aA:Int)(n a:Nat):List Nat:=(List.range n).filter (fun b=>decide (aW aA a b=1))
theorem wS (a b:Int):oK a b=oK b a:=by unfold oK;omega
theorem uZ (aA a b:Int):aW aA a b=aW aA b a:=by unfold aW;rw[wS (a%aA),wS (a/aA)]
theorem bQ {aA:Int}{n a b:Nat}:b∈aS aA n a↔b<n∧aW aA a b=1:=by simp[aS]
theorem fK {aA:Int}{n a b:Nat}(ha:a<n)(h:b∈aS aA n a):a∈aS aA n b:=by rw[bQ]at h⊢;exact⟨ha,by rw[uZ];exact h.2⟩
open Go.RowKit
def dK:List Int→List Int→Bool
 |_,[]=>true
 |seen,x::xs=>decide (0≤x∧x≤99)&& !(decide (0<x)&&seen.contains x)&&dK (seen++ [x]) xs
def fN (aA aB:Int)(n:Nat):Bool:=decide (2≤aA∧aA≤4∧2≤aB∧aB≤3∧(n:Int)=aA*aB)
def aM (aA aB:Int)(xs:List Int):Bool:=fN aA aB xs.length&&dK [] xs
theorem qP (a:List Int)(x:Int)(xs:List Int):dK a (x::xs)=(decide (0≤x∧x≤99)&& !(decide (0<x)&&a.contains x)&&dK (a++ [x]) xs):=rfl
theorem uX {xs:List Int}{k:Nat}{x:Int}(h:xs[k]? =some x):dK (xs.take k) (xs.drop k)=(decide (0≤x∧x≤99)&& !(decide (0<x)&&(xs.take k).contains x)&&dK (xs.take (k+1)) (xs.drop (k+1))):=by rw[oF h,bA h,qP]
theorem sV {xs:List Int}{k:Nat}(h:xs.length≤k):dK (xs.take k) (xs.drop k)=true:=by rw[List.drop_eq_nil_of_le h];rfl
theorem dO: ∀(xs seen:List Int),dK seen xs=true↔(∀x∈xs,0≤x∧x≤99)∧(∀x∈xs,0<x→x∉seen)∧(xs.filter (fun x=>decide (0<x))).Nodup:=by
 intro xs;induction xs with
 |nil=>intro seen;simp[dK]
 |cons x xs ih=>
  intro seen;rw[qP,Bool.and_eq_true,Bool.and_eq_true,ih];simp only[decide_eq_true_eq,Bool.not_eq_true',Bool.and_eq_false_iff,decide_eq_false_iff_not,List.contains_eq_mem,List.mem_cons,List.mem_append,List.not_mem_nil,or_false];constructor
  ·rintro⟨⟨h1,h2⟩,h3,h4,h5⟩;refine⟨?_,?_,?_⟩
   ·rintro y (rfl|hy)
    ·exact h1
    exact h3 y hy
   ·rintro y (rfl|hy) h0
    ·rcases h2 with h2|h2
     ·omega
     exact h2
    exact fun h=>h4 y hy h0 (.inl h)
   by_cases h0:0<x
   ·rw[List.filter_cons_of_pos (by simpa using h0),List.nodup_cons];refine⟨fun hm=> ?_,h5⟩;have:=List.mem_filter.1 hm;exact h4 x this.1 h0 (.inr rfl)
   rw[List.filter_cons_of_neg (by simpa using h0)];exact h5
  rintro⟨h1,h2,h3⟩;refine⟨⟨h1 x (.inl rfl),?_⟩,fun y hy=>h1 y (.inr hy),?_,?_⟩
  ·by_cases h0:0<x
   ·exact .inr (h2 x (.inl rfl) h0)
   exact .inl h0
  ·intro y hy h0 h;rcases h with h|rfl
   ·exact h2 y (.inr hy) h0 h
   rw[List.filter_cons_of_pos (by simpa using h0),List.nodup_cons]at h3;exact h3.1 (List.mem_filter.2 ⟨hy,by simpa using h0⟩)
  by_cases h0:0<x
  ·rw[List.filter_cons_of_pos (by simpa using h0),List.nodup_cons]at h3;exact h3.2
  rw[List.filter_cons_of_neg (by simpa using h0)]at h3;exact h3
theorem bZ {aA aB:Int}{n:Nat}(h:fN aA aB n=true):2≤aA∧aA≤4∧2≤aB∧aB≤3∧4≤n∧n≤12∧(n:Int)=aA*aB:=by
 simp only[fN,decide_eq_true_eq]at h;obtain⟨h1,h2,h3,h4,h5⟩:=h;have hw:aA=2∨aA=3∨aA=4:=by omega
 have hd:aB=2∨aB=3:=by omega
 refine⟨h1,h2,h3,h4,?_,?_,h5⟩
 ·rcases hw with rfl|rfl|rfl<;>rcases hd with rfl|rfl<;>omega
 rcases hw with rfl|rfl|rfl<;>rcases hd with rfl|rfl<;>omega
theorem vZ {aA aB:Int}{n:Nat}(hs:fN aA aB n=false):aA<2∨2≤aA∧4<aA∨2≤aA∧aA≤4∧aB<2∨2≤aA∧aA≤4∧2≤aB∧3<aB∨2≤aA∧aA≤4∧2≤aB∧aB≤3∧0≤aA*aB∧aA*aB≤12∧((n:Int)!=aA*aB)=true:=by
 simp only[fN,decide_eq_false_iff_not]at hs;by_cases a1:2≤aA
 ·by_cases a2:aA≤4
  ·by_cases a3:2≤aB
   ·by_cases a4:aB≤3
    ·refine .inr (.inr (.inr (.inr ⟨a1,a2,a3,a4,?_,?_,?_⟩)))
     ·exact Int.mul_nonneg (by omega) (by omega)
     ·have:=Int.mul_le_mul a2 a4 (by omega) (by omega);omega
     simp only[bne_iff_ne,ne_eq];exact fun e=>hs ⟨a1,a2,a3,a4,e⟩
    exact .inr (.inr (.inr (.inl ⟨a1,a2,a3,by omega⟩)))
   exact .inr (.inr (.inl ⟨a1,a2,by omega⟩))
  exact .inr (.inl ⟨a1,by omega⟩)
 exact .inl (by omega)
def pK (xs:List Int)(cs:Array Value):Prop:=cs.size=100∧ ∀j:Nat,j<100→cs[j]? =some (.bool (decide (0<j)&&xs.contains (j:Int)))
theorem zJ:pK [] (Array.replicate 100 (.bool false)):=⟨by simp,fun j hj=>by rw[Array.getElem?_replicate,if_pos hj];simp⟩
theorem zI {xs:List Int}{cs:Array Value}(h:pK xs cs)(x:Int)(h0:0≤x)(h1:x≤99)(hx:0<x→xs.contains x=false):pK (xs++ [x]) (cs.setIfInBounds x.toNat (.bool (decide (0<x)))):=by
 refine⟨by simpa using h.1,fun j hj=> ?_⟩;rw[Array.getElem?_setIfInBounds];by_cases e:x.toNat=j
 ·subst e;rw[if_pos rfl,if_pos (by rw[h.1];exact hj)];have:((x.toNat:Nat):Int)=x:=by omega
  rw[this];simp
 rw[if_neg e,h.2 j hj];have a:((j:Int)==x)=false:=by rw[beq_eq_false_iff_ne];omega
 rw[beq_eq_false_iff_ne]at a;simp[List.contains_eq_mem,List.mem_append,a]
set_option maxHeartbeats 8000000
set_option maxRecDepth 100000
abbrev aH (aA aB:Int)(p:OA)(n cap:Nat):Value:= .agg #[aA,aB,.slice p n cap]
theorem aD4 (aA aB:Int)(p:OA)(n a:Nat)(w:World)(hn:n≤9223372036854775807)
  (h:aA<2∨2≤aA∧4<aA∨2≤aA∧aA≤4∧aB<2∨2≤aA∧aA≤4∧2≤aB∧3<aB∨2≤aA∧aA≤4∧2≤aB∧aB≤3∧0≤aA*aB∧aA*aB≤12∧((n:Int)!=aA*aB)=true):
  Calls Tryz.prog 53 #[aH aA aB p n a] w fun e w'=>e= .returned (.bool false)∧Ext w w':=by
 rcases h with h|⟨h0,h⟩|⟨h0,h1,h⟩|⟨h0,h1,h2,h⟩|⟨h0,h1,h2,h3,h4,h5,h⟩
 all_goals
  go_enter Tryz.func53,Tryz.ntmps53;go_wp2;go_ret;exact⟨rfl,by exact .alloc (.refl _) _⟩
theorem aGr:pK [] Tryz.zeroCells140:=⟨by kernel_rfl,by
 have e:Tryz.zeroCells140=Array.replicate 100 (.bool false):=by kernel_rfl
 rw[e];exact zJ.2⟩
theorem aAm (aA aB:Int)(p:OA)(n f:Nat)(xs:List Int)(w:World)(h0:2≤aA)(h1:aA≤4)(h2:2≤aB)(h3:aB≤3)(h4:0≤aA*aB)(h5:aA*aB≤12)(h6:((n:Int)!=aA*aB)=false)(hn:n≤12)
  (HS:Hid (Sl w p n f 1 (ivs xs))):
  Calls Tryz.prog 53 #[aH aA aB p n f] w fun e w'=>e= .returned (.bool (dK [] xs))∧Ext w w':=by
 go_enter Tryz.func53,Tryz.ntmps53;go_wp2;clear h4 h5 h6;go_loopw [38] (fun i wr=> ∃(k:Nat) (cs:Array Value),k≤n∧i= .int .i64 k∧Blk wr (w.heap.size+1) 140 cs∧pK (xs.take k) cs∧dK [] xs=dK (xs.take k) (xs.drop k)∧Ext w wr) (fun i _=>n-(intOf i).toNat)
 case atStart=>exact⟨0,_,Nat.zero_le _,rfl,by have:=Blk.new (w.alloc (.cells #[aA,aB,.slice p n f] 25)) 140 Tryz.zeroCells140;simpa using this,aGr,rfl,by exact .alloc (.alloc (.refl _) _) _⟩
 case round=>
  obtain⟨k,cs,hk,rfl,hb,ht,d,hE⟩:=hrel;have HB:=xQ hb;have HT:=xQ ht;by_cases hlt:k<n
  ·obtain⟨b,t,x,rfl,hx,o,m⟩:=(HS.out.ext hE).int_at hlt;have a:=xQ (d.trans (uX hx));have HX:=xQ hx;clear d hx hb ht;by_cases hr:0≤x∧x≤99
   ·obtain⟨g,h⟩:=hr;have l:wr.cell? ⟨w.heap.size+1,x.toNat,none⟩=some (.bool (decide (0<x)&&(xs.take k).contains x)):=by
     rw[HB.out.cell,HT.out.2 x.toNat (by omega)];congr 2;rw[show((x.toNat:Nat):Int)=x by omega];congr 1;simp
    have r:wr.frozen? ⟨w.heap.size+1,x.toNat,none⟩=false:=HB.out.frozen _;have q:x<100:=by omega
    cases hs:(decide (0<x)&&(xs.take k).contains x)with
    |true=>rw[hs]at l;have c:=xQ hs;clear hs;go_wp2;go_ret;exact⟨aR (by rw[a.out,c.out];simp),hE⟩
    |false=>
     rw[hs]at l;have c:=xQ hs;clear hs;go_wp2;go_roundw
     case rel=>
      refine⟨k+1,_,by omega,by go_num,HB.out.set _ _,?_,?_,xE⟩
      ·rw[bA HX.out];refine zI HT x g h (fun h0=> ?_);have:=c.out;simpa[h0]using this
      rw[a.out,c.out];simp[g,h]
     case measure=>simp[intOf];omega
   have j:dK [] xs=false:=by rw[a.out];simp[hr]
   have HF:=xQ j;clear j;by_cases g:x<0
   ·go_wp2;go_ret;exact⟨aR HF.out.symm,hE⟩
   have h:99<x:=by omega
   have s:0≤x:=by omega
   go_wp2;go_ret;exact⟨aR HF.out.symm,hE⟩
  have a:=xQ (d.trans (sV (by have:=HS.out.ilen;omega)));clear d hb ht;go_wp2;go_ret;exact⟨aR a.out.symm,hE⟩
theorem fI (aA aB:Int)(p:OA)(n a:Nat)(xs:List Int)(w:World)(hS:Sl w p n a 1 (ivs xs)):
  Calls Tryz.prog 53 #[aH aA aB p n a] w fun e w'=>e= .returned (.bool (aM aA aB xs))∧Ext w w':=by
 have hl:=hS.ilen;unfold aM;rw[hl];cases hs:fN aA aB n with
 |true=>obtain⟨h1,h2,h3,h4,h5,h6,h7⟩:=bZ hs;rw[Bool.true_and];exact aAm aA aB p n a xs w h1 h2 h3 h4 (by omega) (by omega) (by simp[h7]) h6 hS
 |false=>rw[Bool.false_and];exact aD4 aA aB p n a w hS.bd (vZ hs)
theorem nX {f:FuncId}{a:Array Value}{w:World}{n:Nat}{v:Value}(h:Calls Tryz.prog f a (w.drewN n) fun e w'=>e= .returned v∧w.drewN n=w'):
  Calls Tryz.prog f a (w.drewN n) fun e w'=>e= .returned v∧ ∃m,w'=w.drewN m:=h.mono fun _ _ ⟨he,hm⟩=>⟨he,n,hm.symm⟩
theorem lW (n lo hi:Int)(w:World)(h:lo≤n)(h2:n≤hi):Calls Tryz.prog 43 #[n,lo,hi] w fun e w'=>e= .returned (.bool true)∧w=w':=by go_enter Tryz.func43,Tryz.ntmps43;go_wp2;go_ret;exact⟨rfl,rfl⟩
theorem tH (n lo hi:Int)(w:World)(h:n<lo∨lo≤n∧hi<n):Calls Tryz.prog 43 #[n,lo,hi] w fun e w'=>e= .returned (.bool false)∧w=w':=by
 rcases h with h|⟨h,h2⟩
 all_goals
  go_enter Tryz.func43,Tryz.ntmps43;go_wp2;go_ret;exact⟨aR (by first|rfl|(simp;omega)),rfl⟩
theorem oA (p:OA)(n c:Nat)(xs:List Int)(x:Int)(w:World)(hS:Sl w p n c 1 (ivs xs)):
  Calls Tryz.prog 91 #[.slice p n c,x] w fun e w'=>e= .returned (.bool (xs.contains x))∧w=w':=by
 have hn:=hS.bd;have hl:=xQ hS.ilen;have HS:=xQ hS;clear hS;go_enter Tryz.func91,Tryz.ntmps91;go_wp2;go_loop [5] (fun i=> ∃k:Nat,k≤n∧i= .int .i64 k∧(xs.take k).contains x=false) (fun i=>n-(intOf i).toNat)
 case atStart=>exact⟨0,Nat.zero_le _,rfl,by simp⟩
 case round=>
  obtain⟨k,hk,rfl,hc⟩:=hrel;have HC:=xQ hc;clear hc;by_cases hlt:k<n
  ·obtain⟨b,f,y,rfl,hx,hb,d⟩:=HS.out.int_at hlt;have HX:=xQ hx;clear hx;by_cases hy:y=x
   ·have t1:(y==x)=true:=by simp[hy]
    have a:Hid (xs.contains x=true):=by show _=_;rw[List.contains_eq_mem];simp;rw[←hy];exact List.mem_of_getElem? HX.out
    clear hy;go_wp2;go_ret;exact⟨aR (by simpa using a.out.symm),rfl⟩
   have t1:(y==x)=false:=by simp[hy]
   have a:Hid ((xs.take (k+1)).contains x=false):=by have:=HC.out;show _=_;rw[bA HX.out];simp only[List.contains_eq_mem,decide_eq_false_iff_not,List.mem_append,List.mem_singleton,not_or]at this⊢;exact⟨this,fun e=>hy e.symm⟩
   clear hy;go_wp2;go_round
   case rel=>exact⟨k+1,by omega,by go_num,a.out⟩
   case measure=>simp[intOf];omega
  have a:Hid (xs.contains x=false):=by have:=HC.out;rw[List.take_of_length_le (by rw[hl.out];omega)]at this;exact this
  go_wp2;go_ret;exact⟨aR (by simpa using a.out.symm),rfl⟩
theorem aBt (aA aB:Int)(p:OA)(n a:Nat)(w:World)(hn:n≤9223372036854775807)
  (h:aA<2∨2≤aA∧4<aA∨2≤aA∧aA≤4∧aB<2∨2≤aA∧aA≤4∧2≤aB∧3<aB∨2≤aA∧aA≤4∧2≤aB∧aB≤3∧0≤aA*aB∧aA*aB≤12∧((n:Int)!=aA*aB)=true):
  Calls Tryz.prog 41 #[aH aA aB p n a] w fun e w'=>e= .returned (.bool false)∧Ext w w':=by
 rcases h with h|⟨h0,h⟩|⟨h0,h1,h⟩|⟨h0,h1,h2,h⟩|⟨h0,h1,h2,h3,h4,h5,h⟩
 all_goals
  go_enter Tryz.func41,Tryz.ntmps41;go_wp2_with go_in;go_ret;exact⟨rfl,by exact .alloc (.refl _) _⟩
theorem zP (aA aB:Int)(p:OA)(n c:Nat)(xs:List Int)(w:World)(h0:2≤aA)(h1:aA≤4)(h2:2≤aB)(h3:aB≤3)(h4:0≤aA*aB)(h5:aA*aB≤12)(h6:((n:Int)!=aA*aB)=false)(hn:n≤12)
  (HS:Hid (Sl w p n c 1 (ivs xs))):
  Calls Tryz.prog 41 #[aH aA aB p n c] w fun e w'=>e= .returned (.bool (dK [] xs))∧Ext w w':=by
 have t:=HS.out.le;have j:=HS.out.mx;unfold maxLen at j;go_enter Tryz.func41,Tryz.ntmps41;go_wp2_with go_in;clear h4 h5 h6;go_loopw [3] (fun i wr=> ∃k:Nat,k≤n∧i= .int .i64 k∧dK [] xs=dK (xs.take k) (xs.drop k)∧Ext w wr∧w.heap.size<wr.heap.size∧wr.cell? ⟨w.heap.size,2,none⟩=some (.slice p n c)) (fun i _=>n-(intOf i).toNat)
 case atStart=>exact⟨0,Nat.zero_le _,rfl,rfl,by exact .alloc (.refl _) _,by simp,by simp⟩
 case round=>
  obtain⟨k,hk,rfl,f,hE,l,h⟩:=hrel;by_cases hlt:k<n
  ·have r:=aJp (HS.out.ext hE) (m:=k) hk;obtain⟨b,g,x,rfl,hx,u,s⟩:=(HS.out.ext hE).int_at hlt;have a:=xQ (f.trans (uX hx));have i1:(0:Int)≤(k:Int):=by omega
   have i2:(k:Int)<(n:Int):=by omega
   have i3:(k:Int)≤(n:Int):=by omega
   have i4:(k:Int)≤(c:Int):=by omega
   have HX:=xQ hx;have HK:=xQ r;clear f hx r;by_cases hr:0≤x∧x≤99
   ·obtain⟨o,q⟩:=hr;have HI:Hid (∀w,Calls Tryz.prog 43 #[x,(),.int .i64 99] w fun e w'=>e= .returned (.bool true)∧w=w'):=fun w=>lW x 0 99 w o q
    by_cases hp:0<x
    ·have hd:decide (0<x)=true:=by simp[hp]
     cases hs:(xs.take k).contains x with
     |true=>
      have HH:Hid (∀m,Calls Tryz.prog 91 #[.slice (some ⟨b,g,none⟩) k c,x] (wr.drewN m) fun e w'=>e= .returned (.bool true)∧wr.drewN m=w'):=fun m=>by have:=oA (some ⟨b,g,none⟩) k c (xs.take k) x (wr.drewN m) (HK.out.ext (Ext.drewN (Ext.refl _) _));rwa[hs]at this
      have d:Hid (dK [] xs=false):=by show _=_;rw[a.out,hs];simp[hp]
      clear hs;go_wp2;go_quiet ((first|(go_at_call 43;exact nX (HI _))|(go_at_call 91;exact nX (HH _))));go_wp2;go_ret;exact⟨aR d.out.symm,by exact .drewN hE _⟩
     |false=>
      have HH:Hid (∀m,Calls Tryz.prog 91 #[.slice (some ⟨b,g,none⟩) k c,x] (wr.drewN m) fun e w'=>e= .returned (.bool false)∧wr.drewN m=w'):=fun m=>by have:=oA (some ⟨b,g,none⟩) k c (xs.take k) x (wr.drewN m) (HK.out.ext (Ext.drewN (Ext.refl _) _));rwa[hs]at this
      have d:Hid (dK [] xs=dK (xs.take (k+1)) (xs.drop (k+1))):=by show _=_;rw[a.out,hs];simp[o,q]
      clear hs;go_wp2;go_quiet ((first|(go_at_call 43;exact nX (HI _))|(go_at_call 91;exact nX (HH _))));go_wp2;go_roundw
      case rel=>exact⟨k+1,by omega,by go_num,d.out,by exact .drewN hE _,l,h⟩
      case measure=>simp[intOf];omega
    have hd:decide (0<x)=false:=by simp[hp]
    have d:Hid (dK [] xs=dK (xs.take (k+1)) (xs.drop (k+1))):=by show _=_;rw[a.out];simp[o,q,hp]
    go_wp2;go_quiet ((go_at_call 43;exact nX (HI _)));go_wp2;go_roundw
    case rel=>first|exact⟨k+1,by omega,by go_num,d.out,xE,l,h⟩|((repeat apply Exists.intro);exact⟨⟨k+1,by omega,by go_num,d.out,by exact .drewN hE _,l,h⟩,rfl⟩)
    case measure=>simp[intOf];omega
   have HI:Hid (∀w,Calls Tryz.prog 43 #[x,(),.int .i64 99] w fun e w'=>e= .returned (.bool false)∧w=w'):=fun w=>tH x 0 99 w (by omega)
   have d:Hid (dK [] xs=false):=by show _=_;rw[a.out];simp[hr]
   clear hr;go_wp2;go_quiet ((go_at_call 43;exact nX (HI _)));go_wp2;go_ret;exact⟨aR d.out.symm,by exact .drewN hE _⟩
  have a:=xQ (f.trans (sV (by have:=HS.out.ilen;omega)));clear f;go_wp2;go_ret;exact⟨aR a.out.symm,by exact hE⟩
theorem fV (aA aB:Int)(p:OA)(n a:Nat)(xs:List Int)(w:World)(hS:Sl w p n a 1 (ivs xs)):
  Calls Tryz.prog 41 #[aH aA aB p n a] w fun e w'=>e= .returned (.bool (aM aA aB xs))∧Ext w w':=by
 have hl:=hS.ilen;unfold aM;rw[hl];cases hs:fN aA aB n with
 |true=>obtain⟨h1,h2,h3,h4,h5,h6,h7⟩:=bZ hs;rw[Bool.true_and];exact zP aA aB p n a xs w h1 h2 h3 h4 (by omega) (by omega) (by simp[h7]) h6 hS
 |false=>rw[Bool.false_and];exact aBt aA aB p n a w hS.bd (vZ hs)
end Go.Proofs.YtpelpnfhbepokaaGreatDoor
