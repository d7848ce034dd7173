/-
  Texts of this proof, packed (@packed).
-/
import Derived.Deep.CutBlock
import Derived.Deep.RegionHeld3
import Derived.Deep.Slices
import Derived.Deep.Strs
import Derived.Lib.SmallJoins
import Derived.OpenShut
import Derived.ProofKit
import Derived.ShutString
import Derived.WalkKit
import Derived.Test.YtpelpnfhbepokaaGreatDoorU1
import Derived.Test.YtpelpnfhbepokaaGreatDoorU5
import Derived.Test.YtpelpnfhbepokaaGreatDoorU7
import Derived.Test.YtpelpnfhbepokaaGreatDoorU12
import Derived.Test.YtpelpnfhbepokaaGreatDoorU23
import Derived.Test.YtpelpnfhbepokaaGreatDoorU33
import Derived.Test.YtpelpnfhbepokaaGreatDoorU34
namespace Go.Proofs.YtpelpnfhbepokaaGreatDoor
open Go.RowKit
set_option linter.unusedVariables false
set_option maxHeartbeats 8000000
set_option maxRecDepth 100000
theorem kL (x:UInt8)(c:UInt8):((x.toNat:Int)==(c.toNat:Int))=decide (x=c):=by
 by_cases h:x=c
 ·simp[h]
 simp only[h,decide_false,beq_eq_false_iff_ne,ne_eq];intro q;exact h (UInt8.toNat_inj.1 (by omega))
theorem fJ (s:ByteArray)(k:Nat)(h:k<s.size):s.data.toList[k]? =some s[k]:=by rw[List.getElem?_eq_getElem (by simpa using h)];rfl
theorem oL {c:UInt8}{l:List UInt8}{e k:Nat}(h:gS c l=some e)(hk:k<e):l[k]? ≠some c:=by intro q;have:=(eP h).2.2;exact this (by rw[List.mem_take_iff_getElem];obtain⟨h1,h2⟩:=List.getElem?_eq_some_iff.1 q;exact⟨k,by omega,h2⟩)
theorem aH8 {c:UInt8}{l:List UInt8}{k:Nat}(h:gS c l=none):l[k]? ≠some c:=by intro q;have hm:=List.mem_of_getElem? q;unfold gS at h;rw[if_pos hm]at h;simp at h
theorem aDx (s:ByteArray)(w:World)(hs:s.size≤4294967280)(hp:gS 59 s.data.toList=none):
  Calls Tryz.prog 113 #[.string s] w (kE none w):=by
 have a:Hid (∀k (h:k<s.size),((s[k].toNat:Int)!=59)=true):=by intro k h;have:=aH8 (k:=k) hp;rw[fJ s k h]at this;rw[bne,show(59:Int)=((59:UInt8).toNat:Int)from rfl,kL];simpa using this
 go_enter Tryz.func113,Tryz.ntmps113;go_wp2;go_loop [5] (fun i=> ∃k:Nat,k≤s.size∧i= .int .i64 k) (fun i=>s.size-(intOf i).toNat)
 case atStart=>exact⟨0,Nat.zero_le _,rfl⟩
 case round=>
  obtain⟨k,hk,rfl⟩:=hrel;by_cases hlt:k<s.size
  ·have hb:=a k hlt;go_wp2;go_round
   case rel=>exact⟨k+1,by omega,by go_num⟩
   case measure=>simp[intOf];omega
  obtain rfl:k=s.size:=by omega
  go_wp2;exact bodyPost_ret (v:=reV none) (by simp[results,Tryz.results113,go_sem];rfl) rfl ⟨rfl,xE⟩
theorem aGw (s:ByteArray)(e n1 n2:Nat)(ps qs:List (List UInt8))(b:List UInt8)(w:World)(hs:s.size≤4294967280)(hp:gS 59 s.data.toList=some e)
  (h1:1≤n1)(hb:ps[0]? =some b) (h2:1≤n2) (o:((n2:Int)!=2)=true) (t:n2≤4294967281)
  (HC:Hid (∀w,Calls Tryz.prog 164 #[.string (s.extract 0 e),.int .u8 35] w fun q w'=> ∃v,q= .returned v∧w'.ownsRow w.heap.size 9 1 v n1 (eX ps)∧Ext w w'))
  (d:Hid (∀w,Calls Tryz.prog 164 #[str b,.int .u8 58] w fun q w'=> ∃v,q= .returned v∧w'.ownsRow w.heap.size 9 1 v n2 (eX qs)∧Ext w w')):
  Calls Tryz.prog 113 #[.string s] w (kE none w):=by
 have j:e<s.size:=by have:=(eP hp).1;rwa[bV]at this
 have c:Hid (∀k (h:k<e) (h2:k<s.size),((s[k].toNat:Int)!=59)=true):=by intro k h h2;have:=oL hp h;rw[fJ s k h2]at this;rw[bne,show(59:Int)=((59:UInt8).toNat:Int)from rfl,kL];simpa using this
 have f:((s[e].toNat:Int)!=59)=false:=by have:=(eP hp).2.1;rw[fJ s e j]at this;rw[bne,show(59:Int)=((59:UInt8).toNat:Int)from rfl,kL];simpa using this
 go_enter Tryz.func113,Tryz.ntmps113;go_wp2;go_loop [5] (fun i=> ∃k:Nat,k≤e∧i= .int .i64 k) (fun i=>e-(intOf i).toNat)
 case atStart=>exact⟨0,Nat.zero_le _,rfl⟩
 case round=>
  obtain⟨k,hk,rfl⟩:=hrel;by_cases hlt:k<e
  ·have l:k<s.size:=by omega
   have hb:=c k hlt l;clear f;go_wp2;go_round
   case rel=>exact⟨k+1,by omega,by go_num⟩
   case measure=>simp[intOf];omega
  obtain rfl:k=e:=by omega
  have x:((k:Int)==(s.size:Int))=false:=by simp;omega
  go_wp2_with fail;refine(HC _).mono ?_;rintro q w1 ⟨v,rfl,a,h1⟩;obtain⟨g,n,rfl⟩:=Joins.ownsRow_form a (by omega);have e0:=aU a 0 (by omega) _ hb;clear a;have u:0<n1:=by omega
  go_wp2_with fail;refine(d _).mono ?_;rintro q w2 ⟨v,rfl,a,h2⟩;obtain⟨g2,m,rfl⟩:=Joins.ownsRow_form a (by omega);clear a;replace h2:=h1.trans h2;clear h1 e0;obtain⟨p,r⟩:=h2.cells;go_wp2;exact bodyPost_ret (v:=reV none) (by simp[results,Tryz.results113,go_sem, *];rfl) rfl ⟨rfl,xE⟩
theorem aDy (s:ByteArray)(e n1:Nat)(ps:List (List UInt8))(b:List UInt8)(w:World)(hs:s.size≤4294967280)(hp:gS 59 s.data.toList=some e)
  (h1:1≤n1)(hb:ps[0]? =some b) (f r:List UInt8) (n:Int)
  (HC:Hid (∀w,Calls Tryz.prog 164 #[.string (s.extract 0 e),.int .u8 35] w fun q w'=> ∃v,q= .returned v∧w'.ownsRow w.heap.size 9 1 v n1 (eX ps)∧Ext w w'))
  (d:Hid (∀w,Calls Tryz.prog 164 #[str b,.int .u8 58] w fun q w'=> ∃v,q= .returned v∧w'.ownsRow w.heap.size 9 1 v 2 (eX [f,r])∧Ext w w'))
  (HR:Hid (∀w,Calls Tryz.prog 165 #[str f] w fun q w'=>q= .returned (.int .i64 n)∧w=w'))
  (HD:Hid (∀w,Calls Tryz.prog 166 #[str r] w fun q w'=>q= .returned (.tuple #[cI 0 0 0,.bool false])∧Ext w w')):
  Calls Tryz.prog 113 #[.string s] w (kE (none) w):=by
 have l:e<s.size:=by have:=(eP hp).1;rwa[bV]at this
 have c:Hid (∀k (h:k<e) (h2:k<s.size),((s[k].toNat:Int)!=59)=true):=by intro k h h2;have:=oL hp h;rw[fJ s k h2]at this;rw[bne,show(59:Int)=((59:UInt8).toNat:Int)from rfl,kL];simpa using this
 have j:((s[e].toNat:Int)!=59)=false:=by have:=(eP hp).2.1;rw[fJ s e l]at this;rw[bne,show(59:Int)=((59:UInt8).toNat:Int)from rfl,kL];simpa using this
 go_enter Tryz.func113,Tryz.ntmps113;go_wp2;go_loop [5] (fun i=> ∃k:Nat,k≤e∧i= .int .i64 k) (fun i=>e-(intOf i).toNat)
 case atStart=>exact⟨0,Nat.zero_le _,rfl⟩
 case round=>
  obtain⟨k,hk,rfl⟩:=hrel;by_cases hlt:k<e
  ·have m:k<s.size:=by omega
   have hb:=c k hlt m;clear j;go_wp2;go_round
   case rel=>exact⟨k+1,by omega,by go_num⟩
   case measure=>simp[intOf];omega
  obtain rfl:k=e:=by omega
  have z:((k:Int)==(s.size:Int))=false:=by simp;omega
  go_wp2_with fail;refine(HC _).mono ?_;rintro q w1 ⟨v,rfl,a,h1⟩;obtain⟨g,p,rfl⟩:=Joins.ownsRow_form a (by omega);have e0:=aU a 0 (by omega) _ hb;clear a;have y:0<n1:=by omega
  go_wp2_with fail;refine(d _).mono ?_;rintro q w2 ⟨v,rfl,a,h2⟩;obtain⟨g2,o,rfl⟩:=Joins.ownsRow_form a (by omega);have e1:=aU a 0 (by omega) _ rfl;have e2:=aU a 1 (by omega) _ rfl;have x:=(a.lt g2 rfl).2;clear a;replace h2:=h1.trans h2;clear h1 e0;go_wp2_with fail;refine(HR _).mono ?_;rintro q w3 ⟨rfl,rfl⟩;go_wp2_with fail;refine(HD _).mono ?_;rintro q w3 ⟨rfl,h3⟩;clear e1 e2;replace h3:=h2.trans h3;clear h2;obtain⟨t,u⟩:=h3.cells;have aa:w.heap.size<w3.heap.size:=Nat.lt_of_lt_of_le (by simp) h3.sz;go_wp2;go_quiet (fail);go_wp2;exact bodyPost_ret (v:=reV none) (by simp[results,Tryz.results113,go_sem, *];rfl) rfl ⟨rfl,xE⟩
theorem aJ2 (s:ByteArray)(e n1:Nat)(ps:List (List UInt8))(b:List UInt8)(w:World)(hs:s.size≤4294967280)(hp:gS 59 s.data.toList=some e)
  (h1:1≤n1)(hb:ps[0]? =some b) (f r t:List UInt8) (n k2 a b0:Int)
  (HC:Hid (∀w,Calls Tryz.prog 164 #[.string (s.extract 0 e),.int .u8 35] w fun q w'=> ∃v,q= .returned v∧w'.ownsRow w.heap.size 9 1 v n1 (eX ps)∧Ext w w'))
  (j:Hid (∀w,Calls Tryz.prog 164 #[str b,.int .u8 58] w fun q w'=> ∃v,q= .returned v∧w'.ownsRow w.heap.size 9 1 v 2 (eX [f,r])∧Ext w w'))
  (HR:Hid (∀w,Calls Tryz.prog 165 #[str f] w fun q w'=>q= .returned (.int .i64 n)∧w=w'))
  (HD:Hid (∀w,Calls Tryz.prog 166 #[str r] w fun q w'=>q= .returned (.tuple #[cI k2 a b0,.bool true])∧Ext w w'))
  (HT:Hid (∀w,Calls Tryz.prog 167 #[n,cI k2 a b0] w fun q w'=>q= .returned (str t)∧Ext w w')) (ah:t.length≤200) (u:(t==(s.extract 0 (e+1)).toList)=false):
  Calls Tryz.prog 113 #[.string s] w (kE (none) w):=by
 have m:e<s.size:=by have:=(eP hp).1;rwa[bV]at this
 have d:Hid (∀k (h:k<e) (h2:k<s.size),((s[k].toNat:Int)!=59)=true):=by intro k h h2;have:=oL hp h;rw[fJ s k h2]at this;rw[bne,show(59:Int)=((59:UInt8).toNat:Int)from rfl,kL];simpa using this
 have l:((s[e].toNat:Int)!=59)=false:=by have:=(eP hp).2.1;rw[fJ s e m]at this;rw[bne,show(59:Int)=((59:UInt8).toNat:Int)from rfl,kL];simpa using this
 go_enter Tryz.func113,Tryz.ntmps113;go_wp2;go_loop [5] (fun i=> ∃k:Nat,k≤e∧i= .int .i64 k) (fun i=>e-(intOf i).toNat)
 case atStart=>exact⟨0,Nat.zero_le _,rfl⟩
 case round=>
  obtain⟨k,hk,rfl⟩:=hrel;by_cases hlt:k<e
  ·have o:k<s.size:=by omega
   have hb:=d k hlt o;clear l;go_wp2;go_round
   case rel=>exact⟨k+1,by omega,by go_num⟩
   case measure=>simp[intOf];omega
  obtain rfl:k=e:=by omega
  have ag:((k:Int)==(s.size:Int))=false:=by simp;omega
  go_wp2_with fail;refine(HC _).mono ?_;rintro q w1 ⟨v,rfl,c,h1⟩;obtain⟨g,x,rfl⟩:=Joins.ownsRow_form c (by omega);have e0:=aU c 0 (by omega) _ hb;clear c;have af:0<n1:=by omega
  go_wp2_with fail;refine(j _).mono ?_;rintro q w2 ⟨v,rfl,c,h2⟩;obtain⟨g2,p,rfl⟩:=Joins.ownsRow_form c (by omega);have e1:=aU c 0 (by omega) _ rfl;have e2:=aU c 1 (by omega) _ rfl;have ae:=(c.lt g2 rfl).2;clear c;replace h2:=h1.trans h2;clear h1 e0;go_wp2_with fail;refine(HR _).mono ?_;rintro q w3 ⟨rfl,rfl⟩;go_wp2_with fail;refine(HD _).mono ?_;rintro q w3 ⟨rfl,h3⟩;clear e1 e2;replace h3:=h2.trans h3;clear h2;obtain⟨y,ab⟩:=h3.cells;have ai:w.heap.size<w3.heap.size:=Nat.lt_of_lt_of_le (by simp) h3.sz;go_wp2;have q1:IntKind.i64.wrap ((k:Int)+1)=(k:Int)+1:=IntWalk.i64_in _ (by omega);have q2:0≤(k:Int)+1:=by omega
  have q3:((k:Int)+1).toNat=k+1:=by omega
  have q4:(k:Int)+1≤(s.size:Int):=by omega
  have q5:k+1≤s.size:=by omega
  go_region_held3 (fun w'=>w'.cell? ⟨w3.heap.size,0,none⟩=some (.int .i64 k2)∧w'.cell? ⟨w3.heap.size,1,none⟩=some (.int .i64 a)∧w'.cell? ⟨w3.heap.size,2,none⟩=some (.int .i64 b0)) (go_keep)
   ((go_at_call 167;refine(HT _).mono ?_;rintro q w4 ⟨rfl,h4⟩;(try replace h4:=h4.of_drew);have aa:=h4.cells.1))
  clear q1 q2 q3 q4 q5;replace h4:=(h3.alloc (.cells #[k2,a,b0] 44)).trans h4;obtain⟨z,ad⟩:=h4.cells;have aj:w.heap.size<w4.heap.size:=Nat.lt_of_lt_of_le (by simp) h4.sz;go_wp2;exact bodyPost_ret (v:=reV none) (by simp[results,Tryz.results113,go_sem, *];rfl) rfl ⟨rfl,xE⟩
theorem aJ1 (s:ByteArray)(e n1:Nat)(ps:List (List UInt8))(b:List UInt8)(w:World)(hs:s.size≤4294967280)(hp:gS 59 s.data.toList=some e)
  (h1:1≤n1)(hb:ps[0]? =some b) (f r t:List UInt8) (n k2 a b0:Int)
  (HC:Hid (∀w,Calls Tryz.prog 164 #[.string (s.extract 0 e),.int .u8 35] w fun q w'=> ∃v,q= .returned v∧w'.ownsRow w.heap.size 9 1 v n1 (eX ps)∧Ext w w'))
  (j:Hid (∀w,Calls Tryz.prog 164 #[str b,.int .u8 58] w fun q w'=> ∃v,q= .returned v∧w'.ownsRow w.heap.size 9 1 v 2 (eX [f,r])∧Ext w w'))
  (HR:Hid (∀w,Calls Tryz.prog 165 #[str f] w fun q w'=>q= .returned (.int .i64 n)∧w=w'))
  (HD:Hid (∀w,Calls Tryz.prog 166 #[str r] w fun q w'=>q= .returned (.tuple #[cI k2 a b0,.bool true])∧Ext w w'))
  (HT:Hid (∀w,Calls Tryz.prog 167 #[n,cI k2 a b0] w fun q w'=>q= .returned (str t)∧Ext w w')) (ah:t.length≤200) (u:(t==(s.extract 0 (e+1)).toList)=true):
  Calls Tryz.prog 113 #[.string s] w (kE (some (n,(k2,a,b0),e+1)) w):=by
 have m:e<s.size:=by have:=(eP hp).1;rwa[bV]at this
 have d:Hid (∀k (h:k<e) (h2:k<s.size),((s[k].toNat:Int)!=59)=true):=by intro k h h2;have:=oL hp h;rw[fJ s k h2]at this;rw[bne,show(59:Int)=((59:UInt8).toNat:Int)from rfl,kL];simpa using this
 have l:((s[e].toNat:Int)!=59)=false:=by have:=(eP hp).2.1;rw[fJ s e m]at this;rw[bne,show(59:Int)=((59:UInt8).toNat:Int)from rfl,kL];simpa using this
 go_enter Tryz.func113,Tryz.ntmps113;go_wp2;go_loop [5] (fun i=> ∃k:Nat,k≤e∧i= .int .i64 k) (fun i=>e-(intOf i).toNat)
 case atStart=>exact⟨0,Nat.zero_le _,rfl⟩
 case round=>
  obtain⟨k,hk,rfl⟩:=hrel;by_cases hlt:k<e
  ·have o:k<s.size:=by omega
   have hb:=d k hlt o;clear l;go_wp2;go_round
   case rel=>exact⟨k+1,by omega,by go_num⟩
   case measure=>simp[intOf];omega
  obtain rfl:k=e:=by omega
  have ag:((k:Int)==(s.size:Int))=false:=by simp;omega
  go_wp2_with fail;refine(HC _).mono ?_;rintro q w1 ⟨v,rfl,c,h1⟩;obtain⟨g,x,rfl⟩:=Joins.ownsRow_form c (by omega);have e0:=aU c 0 (by omega) _ hb;clear c;have af:0<n1:=by omega
  go_wp2_with fail;refine(j _).mono ?_;rintro q w2 ⟨v,rfl,c,h2⟩;obtain⟨g2,p,rfl⟩:=Joins.ownsRow_form c (by omega);have e1:=aU c 0 (by omega) _ rfl;have e2:=aU c 1 (by omega) _ rfl;have ae:=(c.lt g2 rfl).2;clear c;replace h2:=h1.trans h2;clear h1 e0;go_wp2_with fail;refine(HR _).mono ?_;rintro q w3 ⟨rfl,rfl⟩;go_wp2_with fail;refine(HD _).mono ?_;rintro q w3 ⟨rfl,h3⟩;clear e1 e2;replace h3:=h2.trans h3;clear h2;obtain⟨y,ab⟩:=h3.cells;have ai:w.heap.size<w3.heap.size:=Nat.lt_of_lt_of_le (by simp) h3.sz;go_wp2;have q1:IntKind.i64.wrap ((k:Int)+1)=(k:Int)+1:=IntWalk.i64_in _ (by omega);have q2:0≤(k:Int)+1:=by omega
  have q3:((k:Int)+1).toNat=k+1:=by omega
  have q4:(k:Int)+1≤(s.size:Int):=by omega
  have q5:k+1≤s.size:=by omega
  go_region_held3 (fun w'=>w'.cell? ⟨w3.heap.size,0,none⟩=some (.int .i64 k2)∧w'.cell? ⟨w3.heap.size,1,none⟩=some (.int .i64 a)∧w'.cell? ⟨w3.heap.size,2,none⟩=some (.int .i64 b0)) (go_keep)
   ((go_at_call 167;refine(HT _).mono ?_;rintro q w4 ⟨rfl,h4⟩;(try replace h4:=h4.of_drew);have aa:=h4.cells.1))
  clear q1 q2 q3 q4 q5;replace h4:=(h3.alloc (.cells #[k2,a,b0] 44)).trans h4;obtain⟨z,ad⟩:=h4.cells;have aj:w.heap.size<w4.heap.size:=Nat.lt_of_lt_of_le (by simp) h4.sz;go_wp2;go_region;all_goals go_wp2
  all_goals exact bodyPost_ret (v:=reV (some (n,(k2,a,b0),k+1))) (by simp[results,Tryz.results113,go_sem, *];rfl) rfl ⟨rfl,xE⟩
theorem lU (s:ByteArray)(n:Nat):(s.extract 0 n).toList=s.data.toList.take n:=by rw[Lib.toList_data,Lib.extract_data];simp
theorem aAu (s:ByteArray)(n:Nat):Value.string (s.extract 0 n)=str (s.data.toList.take n):=by rw[uC,←Lib.toList_data,lU]
theorem uG (s:ByteArray)(w:World)(hs:s.size≤4294967280):Calls Tryz.prog 113 #[.string s] w (kE (bZ s.data.toList) w):=by
 rw[←rO];unfold eT;cases hp:gS 59 s.data.toList with
 |none=>exact aDx s w hs hp
 |some e=>
  simp only;have u:e<s.size:=by have:=(eP hp).1;rwa[bV]at this
  have y:(s.data.toList.take e).length≤s.size:=by simp;omega
  have hC: ∀w,Calls Tryz.prog 164 #[.string (s.extract 0 e),.int .u8 35] w fun q w'=> ∃v,q= .returned v∧w'.ownsRow w.heap.size 9 1 v (cE 35 (s.data.toList.take e)).length (eX (cE 35 (s.data.toList.take e)))∧Ext w w':=by intro w;rw[aAu];exact sD ⟨(s.data.toList.take e).toArray⟩ 35 35 rfl w (by simp only[ByteArray.size,List.size_toArray];omega)
  have j:=yT 35 (s.data.toList.take e);have t:=(mX 35 (s.data.toList.take e)).1;have g: ∀w,Calls Tryz.prog 164 #[str (dA 35 (s.data.toList.take e)),.int .u8 58] w fun q w'=> ∃v,q= .returned v∧w'.ownsRow w.heap.size 9 1 v (cE 58 (dA 35 (s.data.toList.take e))).length (eX (cE 58 (dA 35 (s.data.toList.take e))))∧Ext w w':=by intro w;exact sD ⟨(dA 35 (s.data.toList.take e)).toArray⟩ 58 58 rfl w (by simp only[ByteArray.size,List.size_toArray];omega)
  have l:1≤(cE 35 (s.data.toList.take e)).length:=by
   cases hq:cE 35 (s.data.toList.take e)with
   |nil=>exact absurd hq (jS _ _)
   |cons a b=>simp
  generalize hb:dA 35 (s.data.toList.take e)=b at*;have m:=vU 58 b;have i:(cE 58 b).length≠2→Calls Tryz.prog 113 #[.string s] w (kE none w):=by
   intro h;have n:1≤(cE 58 b).length:=by
    cases hq:cE 58 b with
    |nil=>exact absurd hq (jS _ _)
    |cons a c=>simp
   exact aGw s e _ _ _ (cE 58 b) b w hs hp l j n (by simp;omega) (by omega) hC g
  rcases hc:cE 58 b with _|⟨f,_|⟨r,_|⟨x,p⟩⟩⟩
  ·exact i (by simp[hc])
  ·exact i (by simp[hc])
  ·simp only;rw[hc]at g;have hf:=m.1 f (by simp[hc]);have hr:=m.1 r (by simp[hc]);have hR: ∀w,Calls Tryz.prog 165 #[str f] w fun q w'=>q= .returned (.int .i64 ((dE 4 f).getD (-1)))∧w=w':=fun w=>vA f (by unfold maxLen;omega) w
   have hD: ∀o,bO r=o→ ∀w,Calls Tryz.prog 166 #[str r] w fun q w'=>q= .returned (rdV o)∧Ext w w':=by intro o ho w;subst ho;exact zE r w (by omega)
   cases hd:bO r with
   |none=>exact aDy s e _ _ b w hs hp l j f r _ hC g hR (hD _ hd)
   |some d=>
    obtain⟨k,a,b0⟩:=d;have hT: ∀w,Calls Tryz.prog 167 #[((dE 4 f).getD (-1):Int),cI k a b0] w fun q w'=>q= .returned (str (bG ((dE 4 f).getD (-1)) k a b0))∧Ext w w':=fun w=>aGv _ k a b0 w
    by_cases ht:bG ((dE 4 f).getD (-1)) k a b0=s.data.toList.take (e+1)
    ·simp only[ht,if_true];exact aJ1 s e _ _ b w hs hp l j f r _ _ k a b0 hC g hR (hD _ hd) hT (jR _ k a b0) (by rw[lU,ht];simp)
    simp only[ht,if_false];exact aJ2 s e _ _ b w hs hp l j f r _ _ k a b0 hC g hR (hD _ hd) hT (jR _ k a b0) (by rw[lU];simpa using ht)
  exact i (by simp[hc])
theorem wE (l:List UInt8)(w:World)(hs:l.length≤4294967280):Calls Tryz.prog 113 #[str l] w (kE (bZ l) w):=
 uG ⟨l.toArray⟩ w (by simpa[ByteArray.size]using hs)
end Go.Proofs.YtpelpnfhbepokaaGreatDoor
namespace Go.Proofs.YtpelpnfhbepokaaGreatDoor
open Go.RowKit
set_option linter.unusedVariables false
theorem aJt:(Tryz.prog.info? 44).map (fun i=>(i.zero,i.size,i.bytes))=some (some (.agg #[(),(),()]),3,24):=by kernel_rfl
open Go.ChangeShapes Go.WideShapes Go.ChangeAt Go.Deep
def RdZ (w:World)(v:Value)(n sz:Nat)(cs:List Value):Prop:=
 (n=0∧cs= []∧ ∃p cap,v= .slice p 0 cap)∨(0<n∧ ∃b off cap,v= .slice (some ⟨b,off,none⟩) n cap∧b<w.heap.size∧Rd w v n sz cs)
theorem RdZ.ext {w w':World}{v:Value}{n sz:Nat}{cs:List Value}(h:RdZ w v n sz cs)(hx:Ext w w'):RdZ w' v n sz cs:=by
 rcases h with h|⟨h0,b,c,a,rfl,hb,h⟩
 ·exact .inl h
 exact .inr ⟨h0,b,c,a,rfl,Nat.lt_of_lt_of_le hb hx.sz,h.ext hx⟩
section
variable {H:Type} {enc:TypeId×Value→H} {w:World} {base:Nat} {spare:Nat→Bool} {held:Bool} {b0:Nat} {r:Reach} {v:Value} {d:DataW H} {p:List MemPlace}
end
end Go.Proofs.YtpelpnfhbepokaaGreatDoor
namespace Go.Proofs.YtpelpnfhbepokaaGreatDoor
open Go.RowKit
set_option linter.unusedVariables false
def oV:Nat→Int→List UInt8→List gY×Nat
 |0,_,_=>([],0)
 |f+1,first,l=>match bZ l with
  |none=>([],0)
  |some (n,d,m)=>if n=first then(d::(oV f (first+1) (l.drop m)).1,m+(oV f (first+1) (l.drop m)).2)else([],0)
def rj (first:Int)(l:List UInt8):List gY×Nat:=oV l.length first l
theorem eV {l:List UInt8}{n:Int}{d:gY}{m:Nat}(h:bZ l=some (n,d,m)):0<m∧m≤l.length∧1≤n∧n≤99:=by
 obtain⟨k,a,b⟩:=d;obtain⟨h1,h2,h3⟩:=nO h;obtain⟨q1,q2,_⟩:=jC h1;have:=congrArg List.length h2;rw[List.length_append]at this;have hp:(bG n k a b).length≠0:=fun e=>h1 (List.eq_nil_of_length_eq_zero e)
 omega
theorem jQ:bZ []=none:=by
 cases h:bZ []with
 |none=>rfl
 |some x=>obtain⟨n,d,m⟩:=x;have:=eV h;simp at this;omega
theorem aH2: ∀(f g:Nat) (first:Int) (l:List UInt8),l.length≤f→l.length≤g→oV f first l=oV g first l:=by
 intro f;induction f with
 |zero=>
  intro g first l hf hg
  obtain rfl:l= []:=List.eq_nil_of_length_eq_zero (by omega);cases g with
  |zero=>rfl
  |succ g=>simp[oV,jQ]
 |succ f ih=>
  intro g first l hf hg
  cases g with
  |zero=>obtain rfl:l= []:=List.eq_nil_of_length_eq_zero (by omega);simp[oV,jQ]
  |succ g=>
   simp only[oV];cases h:bZ l with
   |none=>rfl
   |some x=>obtain⟨n,d,m⟩:=x;obtain⟨h1,h2,_⟩:=eV h;simp only;rw[ih g (first+1) (l.drop m) (by simp;omega) (by simp;omega)]
theorem aLh {first:Int}{l:List UInt8}(h:bZ l=none):rj first l=([],0):=by
 unfold rj;cases l with
 |nil=>rfl
 |cons x xs=>simp[oV,h]
theorem aJh {first n:Int}{l:List UInt8}{d:gY}{m:Nat}(h:bZ l=some (n,d,m))(hn:n≠first):rj first l=([],0):=by
 unfold rj;cases l with
 |nil=>rw[jQ]at h;simp at h
 |cons x xs=>simp[oV,h,hn]
theorem aLg {first:Int}{l:List UInt8}{d:gY}{m:Nat}(h:bZ l=some (first,d,m)):rj first l=(d::(rj (first+1) (l.drop m)).1,m+(rj (first+1) (l.drop m)).2):=by
 obtain⟨h1,h2,_⟩:=eV h;have e:rj first l=oV ((l.length-1)+1) first l:=by unfold rj;congr 1;omega
 rw[e];simp only[oV,h,if_true];have e2:oV (l.length-1) (first+1) (l.drop m)=rj (first+1) (l.drop m):=aH2 _ _ _ _ (by simp;omega) (by simp);rw[e2]
theorem vV (w:World)(a b c:Value)(t:TypeId): ∀j u,[a,b,c][j]? =some u→(w.alloc (.cells #[a,b,c] t)).cell? ((⟨w.heap.size,0,none⟩:Addr).add j)=some u:=by
 intro j u h;rw[jZ,Nat.zero_add]
 match j,h with
 |0,h=>simp at h;subst h;simp
 |1,h=>simp at h;subst h;simp
 |2,h=>simp at h;subst h;simp
set_option maxHeartbeats 8000000
set_option maxRecDepth 100000
def aL2 (first:Int)(l:List UInt8)(w:World)(e:Ending)(w':World):Prop:=
 ∃v,e= .returned (.tuple #[v,.int .i64 (rj first l).2])∧w'.ownsRow w.heap.size 44 3 v (rj first l).1.length ((rj first l).1.flatMap eY)∧Ext w w'
def aFl (first:Int)(l:List UInt8)(A:List gY)(q:Nat):Prop:=
 q≤l.length∧A.length≤q∧(A.length=0∨(1≤first∧first+A.length≤100))∧rj first l=(A++(rj (first+A.length) (l.drop q)).1,q+(rj (first+A.length) (l.drop q)).2)
theorem uN (first:Int)(l:List UInt8):aFl first l [] 0:=⟨Nat.zero_le _,Nat.le_refl _,.inl rfl,by simp⟩
theorem rT {first:Int}{l:List UInt8}{A:List gY}{q:Nat}(h:aFl first l A q)(h1:bZ (l.drop q)=none):rj first l=(A,q):=by rw[h.2.2.2,aLh h1];simp
theorem uO {first n:Int}{l:List UInt8}{A:List gY}{q m:Nat}{d:gY}(h:aFl first l A q)(h1:bZ (l.drop q)=some (n,d,m))(hn:n≠first+A.length):rj first l=(A,q):=by rw[h.2.2.2,aJh h1 hn];simp
theorem xT {first:Int}{l:List UInt8}{A:List gY}{q m:Nat}{d:gY}(h:aFl first l A q)(h1:bZ (l.drop q)=some (first+A.length,d,m)):aFl first l (A++ [d]) (q+m):=by obtain⟨h2,h3,h4,h5⟩:=h;obtain⟨q1,q2,q3,q4⟩:=eV h1;rw[List.length_drop]at q2;refine⟨by omega,by simp;omega,.inr ⟨by rcases h4 with h4|h4<;>omega,by simp;omega⟩,?_⟩;rw[h5,aLg h1];simp[List.drop_drop,Int.add_assoc,Nat.add_assoc]
theorem qG {first:Int}{l:List UInt8}{A:List gY}{q n:Nat}{v:Value}{w w':World}(h:rj first l=(A,q))(hn:n=A.length)(ho:w'.ownsRow w.heap.size 44 3 v n (A.flatMap eY))(hE:Ext w w'):
  aL2 first l w (.returned (.tuple #[v,(q:Int)])) w':=⟨v,by rw[h],by rw[h];subst hn;exact ho,hE⟩
theorem qX (s:ByteArray)(q:Nat):Value.string (s.extract q s.size)=str (s.data.toList.drop q):=
 nX s q s.size _ (by rw[List.take_of_length_le (by rw[Array.length_toList];exact Nat.le_refl _)])
theorem tR {w:World}{base sz n:Nat}{e:TypeId}{v:Value}{xs:List Value}(h:w.ownsRow base e sz v n xs): ∃p cap,v= .slice p n cap:=by
 rcases h.2 with⟨h1,h2⟩|⟨g,cap,_,h1,_⟩
 ·exact⟨none,0,by rw[h1,h2]⟩
 exact⟨_,cap,h1⟩
theorem yE:(Tryz.prog.info? 44).map (fun i=>(i.zero,i.size,i.bytes))=some (some (.agg #[(),(),()]),3,24):=aJt
theorem aM9 (first:Int)(s:ByteArray)(w:World)(hs:s.size≤2147483648)(hB:B64 first):
  Calls Tryz.prog 61 #[first,.string s] w (aL2 first s.data.toList w):=by
 obtain⟨i0,hi,ab,ad,ae⟩:=info_parts yE;have y:s.data.toList.length=s.size:=by rw[Array.length_toList];rfl
 have HL:=xQ y;clear y;go_enter Tryz.func61,Tryz.ntmps61;go_wp2;go_loopw [6,7] (fun v q wr=> ∃(k:Nat) (A:List gY) (p:OA) (n cap:Nat),v= .slice p n cap∧n=A.length∧q= .int .i64 k∧aFl first s.data.toList A k∧wr.ownsRow w.heap.size 44 3 (.slice p n cap) n (A.flatMap eY)∧Ext w wr) (fun _ q _=>s.size-(intOf q).toNat)
 case atStart=>exact⟨0,[],_,0,0,rfl,rfl,rfl,uN _ _,World.ownsRow_made _ #[] 0 (Nat.le_refl _) (by simp[maxLen]) rfl,(Ext.refl _).alloc _⟩
 case round=>
  obtain⟨k,A,p,n,cap,rfl,hn,rfl,i,g,hE⟩:=hrel;have r:=xQ i;have ah:=hE.sz;have ag:n≤k:=by rw[hn];exact i.2.1
  have hk:k≤s.size:=by have:=i.1;rwa[HL.out]at this
  have af:n=0∨(1≤first∧first+n≤100):=by rw[hn];exact i.2.2.1
  have HN:=xQ hn;clear hn i;by_cases hlt:k<s.size
  ·have HS:Hid (∀w,Calls Tryz.prog 113 #[.string (s.extract k s.size)] w (kE (bZ (s.data.toList.drop k)) w)):=fun w=>by
    rw[qX];exact wE _ w (by rw[List.length_drop,HL.out];omega)
   cases hre:bZ (s.data.toList.drop k)with
   |none=>rw[hre]at HS;have f:=xQ (rT r hre);clear hre;go_wp2_with fail;refine(HS _).mono ?_;rintro e w1 ⟨rfl,h1⟩;have d:=g.kept h1.gb (by cases Value.ownBlock _<;>simp);unfold reV;go_wp2;exact bodyPost_ret (v:= .tuple #[.slice p n cap,(k:Int)]) (by simp[results,Tryz.results61,go_sem, *]) rfl (qG f.out HN (d.alloc _) xE)
   |some x=>
    obtain⟨z,⟨a,b,c⟩,m⟩:=x;rw[hre]at HS;obtain⟨r1,r2,r3,r4⟩:=eV hre;rw[List.length_drop,HL.out]at r2;have q1:IntKind.i64.wrap (first+(n:Int))=first+n:=IntWalk.i64_in _ (by unfold B64 at hB;omega)
    have q2:((m:Int)==0)=false:=by rw[beq_eq_false_iff_ne];omega
    have q3:IntKind.i64.wrap ((k:Int)+(m:Int))=(k:Int)+m:=IntWalk.i64_in _ (by omega);by_cases hz:z=first+n
    ·have f:=xQ (xT r (by rw[hre,hz,HN.out]));clear hre;have q4:(z !=first+(n:Int))=false:=by simp[hz]
     have HZ:=xQ hz;clear hz;go_wp2_with fail;refine(HS _).mono ?_;rintro e w1 ⟨rfl,h1⟩;have d:=g.kept h1.gb (by cases Value.ownBlock _<;>simp);unfold reV cI;go_wp2_with (at_builtin;refine wpList_append_own _ rfl _ _ 31 rfl w.heap.size 44 i0 (.agg #[(),(),()]) 3 24 Tryz.underlying31 hi ab ad ae rfl (by decide) _ _ _ rfl ((d.alloc _).alloc _) ⟨w1.heap.size+1,0,none⟩ 1 1 [.int .i64 a,.int .i64 b,.int .i64 c] rfl rfl ?c1 ?c2 ?c3 ?c4 ?c5 ?_)
     case c1=>intro j u h;have:=vV (w1.alloc (.cells #[a,b,c] 44)) (.int .i64 a) (.int .i64 b) (.int .i64 c) 44 j u h;simpa using this
     case c2=>intro u hu;simp at hu;rcases hu with rfl|rfl|rfl<;>rfl
     case c3=>unfold maxLen;omega
     case c4=>omega
     case c5=>have:=h1.sz;simp;omega
     intro v' w2 o l _;have aa:Ext w w2:=(((hE.trans h1).alloc _).alloc _).grown l (fun q hq=>(d.lt q hq).1);clear l g;obtain⟨p2,t,rfl⟩:=tR o;go_wp2;go_roundw
     case rel=>exact⟨k+m,A++ [(a,b,c)],p2,n+1,t,rfl,by simp[HN.out],by simp,f.out,by simpa[eY]using o,aa⟩
     case measure=>simp[intOf];omega
    have q4:(z !=first+(n:Int))=true:=by simpa using hz
    have f:=xQ (uO r hre (by rw[←HN.out];exact hz));clear hre;go_wp2_with fail;refine(HS _).mono ?_;rintro e w1 ⟨rfl,h1⟩;have d:=g.kept h1.gb (by cases Value.ownBlock _<;>simp);unfold reV cI;go_wp2;exact bodyPost_ret (v:= .tuple #[.slice p n cap,(k:Int)]) (by simp[results,Tryz.results61,go_sem, *]) rfl (qG f.out HN (d.alloc _) xE)
  obtain rfl:k=s.size:=by omega
  have f:=xQ (rT r (by rw[List.drop_eq_nil_of_le (by rw[HL.out];exact Nat.le_refl _)];exact jQ));go_wp2;exact bodyPost_ret (v:= .tuple #[.slice p n cap,(s.size:Int)]) (by simp[results,Tryz.results61,go_sem, *]) rfl (qG f.out HN g xE)
theorem aMo (first:Int)(s:ByteArray)(w:World)(hs:s.size≤2147483648)(hB:B64 first)(i:Env w):
  Calls Tryz.prog 32 #[first,.string s] w (aL2 first s.data.toList w):=by
 obtain⟨i0,hi,ad,ae,af⟩:=info_parts yE;have aa:s.data.toList.length=s.size:=by rw[Array.length_toList];rfl
 have HL:=xQ aa;clear aa;go_enter Tryz.func32,Tryz.ntmps32;go_wp2;go_loopw [6,7] (fun v q wr=> ∃(k:Nat) (A:List gY) (p:OA) (n cap:Nat),v= .slice p n cap∧n=A.length∧q= .int .i64 k∧aFl first s.data.toList A k∧wr.ownsRow w.heap.size 44 3 (.slice p n cap) n (A.flatMap eY)∧Ext w wr) (fun _ q _=>s.size-(intOf q).toNat)
 case atStart=>exact⟨0,[],none,0,0,rfl,rfl,rfl,uN _ _,World.ownsRow_nil _ _ _ _,Ext.refl _⟩
 case round=>
  obtain⟨k,A,p,n,cap,rfl,hn,rfl,l,g,hE⟩:=hrel;have t:=xQ l;have ai:=hE.sz;have ah:n≤k:=by rw[hn];exact l.2.1
  have hk:k≤s.size:=by have:=l.1;rwa[HL.out]at this
  have ag:n=0∨(1≤first∧first+n≤100):=by rw[hn];exact l.2.2.1
  have HN:=xQ hn;clear hn l;have HS:Hid (∀w,Env w→Calls Tryz.prog 74 #[.string (s.extract k s.size)] w (kE (bZ (s.data.toList.drop k)) w)):=fun w he=>by rw[qX];exact wT _ w (by rw[List.length_drop,HL.out];omega) he
  cases hre:bZ (s.data.toList.drop k)with
  |none=>rw[hre]at HS;have f:=xQ (rT t hre);clear hre;go_wp2_with fail;refine(HS _ (i.ext hE)).mono ?_;rintro e w1 ⟨rfl,h1⟩;have d:=g.kept h1.gb (by cases Value.ownBlock _<;>simp);unfold reV;go_wp2;exact bodyPost_ret (v:= .tuple #[.slice p n cap,(k:Int)]) (by simp[results,Tryz.results32,go_sem, *]) rfl (qG f.out HN (d.alloc _) xE)
  |some x=>
   obtain⟨z,⟨a,b,c⟩,m⟩:=x;rw[hre]at HS;obtain⟨r1,r2,r3,r4⟩:=eV hre;rw[List.length_drop,HL.out]at r2;have q1:IntKind.i64.wrap (first+(n:Int))=first+n:=IntWalk.i64_in _ (by unfold B64 at hB;omega)
   have q2:((m:Int)==0)=false:=by rw[beq_eq_false_iff_ne];omega
   have q3:IntKind.i64.wrap ((k:Int)+(m:Int))=(k:Int)+m:=IntWalk.i64_in _ (by omega);by_cases hz:z=first+n
   ·have f:=xQ (xT t (by rw[hre,hz,HN.out]));clear hre;have q4:(z !=first+(n:Int))=false:=by simp[hz]
    have HZ:=xQ hz;clear hz;go_wp2_with fail;refine(HS _ (i.ext hE)).mono ?_;rintro e w1 ⟨rfl,h1⟩;have d:=g.kept h1.gb (by cases Value.ownBlock _<;>simp);unfold reV cI;go_wp2_with (at_builtin;refine wpList_append_own _ rfl _ _ 31 rfl w.heap.size 44 i0 (.agg #[(),(),()]) 3 24 Tryz.underlying31 hi ad ae af rfl (by decide) _ _ _ rfl ((d.alloc _).alloc _) ⟨w1.heap.size+1,0,none⟩ 1 1 [.int .i64 a,.int .i64 b,.int .i64 c] rfl rfl ?c1 ?c2 ?c3 ?c4 ?c5 ?_)
    case c1=>intro j u h;have:=vV (w1.alloc (.cells #[a,b,c] 44)) (.int .i64 a) (.int .i64 b) (.int .i64 c) 44 j u h;simpa using this
    case c2=>intro u hu;simp at hu;rcases hu with rfl|rfl|rfl<;>rfl
    case c3=>unfold maxLen;omega
    case c4=>omega
    case c5=>have:=h1.sz;simp;omega
    intro v' w2 r o _;have ab:Ext w w2:=(((hE.trans h1).alloc _).alloc _).grown o (fun q hq=>(d.lt q hq).1);clear o g;obtain⟨p2,y,rfl⟩:=tR r;go_wp2;go_roundw
    case rel=>exact⟨k+m,A++ [(a,b,c)],p2,n+1,y,rfl,by simp[HN.out],by simp,f.out,by simpa[eY]using r,ab⟩
    case measure=>simp[intOf];omega
   have q4:(z !=first+(n:Int))=true:=by simpa using hz
   have f:=xQ (uO t hre (by rw[←HN.out];exact hz));clear hre;go_wp2_with fail;refine(HS _ (i.ext hE)).mono ?_;rintro e w1 ⟨rfl,h1⟩;have d:=g.kept h1.gb (by cases Value.ownBlock _<;>simp);unfold reV cI;go_wp2;exact bodyPost_ret (v:= .tuple #[.slice p n cap,(k:Int)]) (by simp[results,Tryz.results32,go_sem, *]) rfl (qG f.out HN (d.alloc _) xE)
set_option linter.unusedSimpArgs false
theorem aFs: ∀(f:Nat) (first:Int) (l:List UInt8),(oV f first l).1.length=0∨1≤first∧first+(oV f first l).1.length≤100
 |0,_,_=> .inl rfl
 |f+1,first,l=>by
  simp only[oV];cases h:bZ l with
  |none=>exact .inl rfl
  |some x=>
   obtain⟨n,d,m⟩:=x;obtain⟨_,_,h1,h2⟩:=eV h;dsimp only;by_cases hn:n=first
   ·rw[if_pos hn];subst hn;right;rcases aFs f (n+1) (l.drop m)with h3|⟨h3,h4⟩
    ·simp[h3];omega
    simp only[List.length_cons];omega
   rw[if_neg hn];exact .inl rfl
theorem aM5 (first:Int)(l:List UInt8):(rj first l).1.length≤99:=by
 have:=aFs l.length first l
 unfold rj;omega
def kG (h:aW)(first:Int)(l:List UInt8):aW×Nat:=if bU h=true then(nK h (rj first l).1,(rj first l).1.length)else(hZ,0)
def lV (r:aW×Nat)(w:World)(e:Ending)(w':World):Prop:=
 ∃pa ca qa da,e= .returned (.tuple #[cA r.1 pa r.1.cells.length ca qa r.1.vs.length da,r.2])∧w'.ownsRow w.heap.size TI 1 (.slice pa r.1.cells.length ca) r.1.cells.length (ivs r.1.cells)∧w'.ownsRow w.heap.size TV 4 (.slice qa r.1.vs.length da) r.1.vs.length (r.1.vs.flatMap aC)∧Ext w w'
theorem aLd (h r:aW)(p:OA)(cap:Nat)(q:OA)(c2:Nat)(first:Int)(b:ByteArray)(ds:List Dd3)(nd:Nat)(w:World)
  (d:xC 12 #[.agg #[h.aA,h.aB,.slice p h.cells.length cap,h.free,h.step,h.aE,h.aG,h.aD,h.aF,.slice q h.vs.length c2]] w fun w' e w''=>e= .returned (Value.bool false)∧Ext w' w''):
  Calls Tryz.prog 25 #[.agg #[h.aA,h.aB,.slice p h.cells.length cap,h.free,h.step,h.aE,h.aG,h.aD,h.aF,.slice q h.vs.length c2],first,.string b] w (lV (hZ,0) w):=by
 go_enter Tryz.func25,Tryz.ntmps25;go_wp2_with fail;refine(d _ (((Mem.start w).c0 aL #[h.aA,h.aB,.slice p h.cells.length cap,h.free,h.step,h.aE,h.aG,h.aD,h.aF,.slice q h.vs.length c2]).c1 aL zT).ext).mono ?_;rintro e w1 ⟨rfl,g⟩;have M1:=((((Mem.start w).c0 aL #[h.aA,h.aB,.slice p h.cells.length cap,h.free,h.step,h.aE,h.aG,h.aD,h.aF,.slice q h.vs.length c2]).c1 aL zT).adv g)
 have a:=M1.hi 0;have c:=M1.hi 1;clear g d;obtain⟨f0,j,f1,k,f2,l,f3,m,f4,n,f5,o,f6,s,f7,t,f8,u,f9,x⟩:=(M1.bk 0).tenf;go_wp2;clear f0 j f1 k f2 l f3 m f4 n f5 o f6 s f7 t f8 u f9 x a c;have M2:=(M1.put10 (i:=0) rfl (.int .i64 0) (.int .i64 0) (.slice none 0 0) (.int .i64 0) (.int .i64 0) (.int .i64 0) (.int .i64 0) (.int .i64 0) (.int .i64 0) (.slice none 0 0))
 generalize f:World.setCell _ _ _=wz;rw[f]at M2;clear f M1;obtain⟨y0,y1,y2,y3,y4,y5,y6,y7,y8,y9⟩:=(M2.bk 0).ten;exact bodyPost_ret (v:= .tuple #[.agg #[(),(),((),()),(),(),(),(),(),(),((),())],()]) (by simp[results,Tryz.results25,go_sem, *]) rfl (show lV (hZ,0) w _ _ from⟨none,0,none,0,rfl,World.ownsRow_nil _ _ _ _,World.ownsRow_nil _ _ _ _,M2.ext⟩)
theorem aMe (h r:aW)(p:OA)(cap:Nat)(q:OA)(c2:Nat)(first:Int)(b:ByteArray)(ds:List Dd3)(nd:Nat)(w:World)
  (u:xC 12 #[.agg #[h.aA,h.aB,.slice p h.cells.length cap,h.free,h.step,h.aE,h.aG,h.aD,h.aF,.slice q h.vs.length c2]] w fun w' e w''=>e= .returned (Value.bool true)∧Ext w' w'')
  (HJ:xC 61 #[first,.string b] w fun w' e w''=> ∃pj cj,e= .returned (.tuple #[.slice pj nd cj,.int .i64 (rj first b.data.toList).2])∧w''.ownsRow w'.heap.size TDd 3 (.slice pj nd cj) nd (ds.flatMap iF)∧Ext w' w'')
  (HR:Hid (∀pe ce w',Ext w w'→Sl w' pe nd ce 3 (ds.flatMap iF)→Calls Tryz.prog 9 #[.agg #[h.aA,h.aB,.slice p h.cells.length cap,h.free,h.step,h.aE,h.aG,h.aD,h.aF,.slice q h.vs.length c2],.slice pe nd ce] w' fun e w''=> ∃pa ca qa da ps cs,e= .returned (.tuple #[.agg #[r.aA,r.aB,.slice pa r.cells.length ca,r.free,r.step,r.aE,r.aG,r.aD,r.aF,.slice qa r.vs.length da],.slice ps nd cs])∧w''.ownsRow w'.heap.size TI 1 (.slice pa r.cells.length ca) r.cells.length (ivs r.cells)∧w''.ownsRow w'.heap.size TV 4 (.slice qa r.vs.length da) r.vs.length (r.vs.flatMap aC)∧Ext w' w'')):
  Calls Tryz.prog 25 #[.agg #[h.aA,h.aB,.slice p h.cells.length cap,h.free,h.step,h.aE,h.aG,h.aD,h.aF,.slice q h.vs.length c2],first,.string b] w (lV (r,nd) w):=by
 go_enter Tryz.func25,Tryz.ntmps25;go_wp2_with fail;refine(u _ (((Mem.start w).c0 aL #[h.aA,h.aB,.slice p h.cells.length cap,h.free,h.step,h.aE,h.aG,h.aD,h.aF,.slice q h.vs.length c2]).c1 aL zT).ext).mono ?_;rintro e w1 ⟨rfl,z⟩;have M1:=((((Mem.start w).c0 aL #[h.aA,h.aB,.slice p h.cells.length cap,h.free,h.step,h.aE,h.aG,h.aD,h.aF,.slice q h.vs.length c2]).c1 aL zT).adv z)
 have g:=M1.hi 0;have j:=M1.hi 1;clear z u;go_wp2_with fail;refine(HJ _ M1.ext).mono ?_;rintro e w2 ⟨pj,cj,rfl,x,aa⟩;have M2:=(M1.call aa x)
 clear M1 g j aa x HJ;have k:=M2.hi 1;have l:=M2.hi 2;obtain⟨am,an,ao,ap,aq,ar,au,av,aw,ax⟩:=(M2.bk 2).ten;go_wp2_with fail;clear am an ao ap aq ar au av aw ax;refine(HR _ _ _ M2.ext (M2.sq 0)).mono ?_;rintro e w8 ⟨p5,c5,q5,d5,ps,cs,rfl,ho,hq,hx⟩;have M3:=(M2.own2 hx ho hq (Nat.le_refl _) (by decide))
 clear M2 k l hx ho hq HR;have m:=M3.hi 3;have n:=M3.hi 4;go_upto_region 5 with fail;obtain⟨X5,f⟩: ∃a,a=w8.heap.size:=⟨_,rfl⟩
 rw[←f];have M4:=(M3.blkNew aL #[r.aA,r.aB,.slice p5 r.cells.length c5,r.free,r.step,r.aE,r.aG,r.aD,r.aF,.slice q5 r.vs.length d5] X5 f.symm)
 generalize World.alloc _ _=v2 at M4⊢;clear M3 m n f;have o:=M4.hi 0;have s:=M4.hi 4;have t:=M4.hi 5;obtain⟨v0,v1,v2,v3,v4,v5,v6,v7,v8,v9⟩:=(M4.bk 0).ten;obtain⟨f0,ab,f1,ad,f2,ae,f3,af,f4,ag,f5,ah,f6,ai,f7,aj,f8,ak,f9,al⟩:=(M4.bk 4).tenf;obtain⟨c,d⟩:=M4.nq 0 4;go_wp2;clear v0 v1 v2 v3 v4 v5 v6 v7 v8 v9 f0 ab f1 ad f2 ae f3 af f4 ag f5 ah f6 ai f7 aj f8 ak f9 al c d o s t;have M5:=(M4.put10 (i:=4) rfl (.int .i64 r.aA) (.int .i64 r.aB) (.slice p5 r.cells.length c5) (.int .i64 r.free) (.int .i64 r.step) (.int .i64 r.aE) (.int .i64 r.aG) (.int .i64 r.aD) (.int .i64 r.aF) (.slice q5 r.vs.length d5))
 generalize y:World.setCell _ _ _=wz;rw[y]at M5;clear y M4;obtain⟨y0,y1,y2,y3,y4,y5,y6,y7,y8,y9⟩:=(M5.bk 4).ten;exact bodyPost_ret (v:= .tuple #[.agg #[r.aA,r.aB,.slice p5 r.cells.length c5,r.free,r.step,r.aE,r.aG,r.aD,r.aF,.slice q5 r.vs.length d5],nd]) (by simp[results,Tryz.results25,go_sem, *]) rfl (show lV (r,nd) w _ _ from⟨p5,c5,q5,d5,rfl,(M5.ow 1),(M5.ow 2),M5.ext⟩)
theorem aDl (h:aW)(p:OA)(n cap:Nat)(q:OA)(m c2:Nat)(first:Int)(b:ByteArray)(w:World)(hi:IsHouse w h p n cap q m c2)(hs:b.size≤2147483648)(hB:B64 first):
  Calls Tryz.prog 25 #[cA h p n cap q m c2,first,.string b] w (lV (kG h first b.data.toList) w):=by
 have hl:=hi.clen;have c:=hi.vlen;subst hl c;have hv: ∀w',Ext w w'→Calls Tryz.prog 12 #[cA h p _ cap q _ c2] w' fun e w''=>e= .returned (Value.bool (bU h))∧Ext w' w'':=fun w' hx=>oG h p _ cap q _ c2 w' (hi.ext hx)
 unfold kG;by_cases hok:bU h=true
 ·rw[if_pos hok];rw[hok]at hv;have hd:=oS (rj first b.data.toList).1 h;have hq: ∀l,wP h l=(nK h l,eJ h l):=fun l=>by unfold wP;rw[if_pos hok]
  refine aMe h _ p cap q c2 first b (rj first b.data.toList).1 _ w hv (fun w' hx=>(aM9 first b w' hs hB).mono ?_) (fun pe ce w' hx hS=>(zM h p _ cap q _ c2 pe _ ce _ w' (hi.ext hx) hS (Nat.le_trans (aM5 _ _) (by omega))).mono ?_)
  ·rintro e w'' ⟨v,rfl,ho,a⟩;obtain⟨pj,cj,rfl⟩:=tR ho;exact⟨pj,cj,rfl,ho,a⟩
  rintro e w'' ⟨pa,ca,qa,da,ps,cs,rfl,o1,o2,_,a⟩;rw[hq]at o1 o2⊢;dsimp only at o1 o2⊢;rw[hd];exact⟨pa,ca,qa,da,ps,cs,rfl,o1,o2,a⟩
 rw[if_neg hok];rw[show bU h=false by simpa using hok]at hv;exact aLd h h p cap q c2 first b [] 0 w hv
theorem aLs (h r:aW)(p:OA)(cap:Nat)(q:OA)(c2:Nat)(first:Int)(b:ByteArray)(ds:List Dd3)(nd:Nat)(w:World)
  (d:xC 18 #[.agg #[h.aA,h.aB,.slice p h.cells.length cap,h.free,h.step,h.aE,h.aG,h.aD,h.aF,.slice q h.vs.length c2]] w fun w' e w''=>e= .returned (Value.bool false)∧Ext w' w''):
  Calls Tryz.prog 27 #[.agg #[h.aA,h.aB,.slice p h.cells.length cap,h.free,h.step,h.aE,h.aG,h.aD,h.aF,.slice q h.vs.length c2],first,.string b] w (lV (hZ,0) w):=by
 go_enter Tryz.func27,Tryz.ntmps27;go_wp2_with fail;refine(d _ (((Mem.start w).c0 aL #[h.aA,h.aB,.slice p h.cells.length cap,h.free,h.step,h.aE,h.aG,h.aD,h.aF,.slice q h.vs.length c2]).c1 aL zT).ext).mono ?_;rintro e w1 ⟨rfl,g⟩;have M1:=((((Mem.start w).c0 aL #[h.aA,h.aB,.slice p h.cells.length cap,h.free,h.step,h.aE,h.aG,h.aD,h.aF,.slice q h.vs.length c2]).c1 aL zT).adv g)
 have a:=M1.hi 0;have c:=M1.hi 1;clear g d;obtain⟨f0,j,f1,k,f2,l,f3,m,f4,n,f5,o,f6,s,f7,t,f8,u,f9,x⟩:=(M1.bk 0).tenf;go_wp2;clear f0 j f1 k f2 l f3 m f4 n f5 o f6 s f7 t f8 u f9 x a c;have M2:=(M1.put10 (i:=0) rfl (.int .i64 0) (.int .i64 0) (.slice none 0 0) (.int .i64 0) (.int .i64 0) (.int .i64 0) (.int .i64 0) (.int .i64 0) (.int .i64 0) (.slice none 0 0))
 generalize f:World.setCell _ _ _=wz;rw[f]at M2;clear f M1;obtain⟨y0,y1,y2,y3,y4,y5,y6,y7,y8,y9⟩:=(M2.bk 0).ten;exact bodyPost_ret (v:= .tuple #[.agg #[(),(),((),()),(),(),(),(),(),(),((),())],()]) (by simp[results,Tryz.results27,go_sem, *]) rfl (show lV (hZ,0) w _ _ from⟨none,0,none,0,rfl,World.ownsRow_nil _ _ _ _,World.ownsRow_nil _ _ _ _,M2.ext⟩)
theorem aMy (h r:aW)(p:OA)(cap:Nat)(q:OA)(c2:Nat)(first:Int)(b:ByteArray)(ds:List Dd3)(nd:Nat)(w:World)
  (u:xC 18 #[.agg #[h.aA,h.aB,.slice p h.cells.length cap,h.free,h.step,h.aE,h.aG,h.aD,h.aF,.slice q h.vs.length c2]] w fun w' e w''=>e= .returned (Value.bool true)∧Ext w' w'')
  (HJ:xC 32 #[first,.string b] w fun w' e w''=> ∃pj cj,e= .returned (.tuple #[.slice pj nd cj,.int .i64 (rj first b.data.toList).2])∧w''.ownsRow w'.heap.size TDd 3 (.slice pj nd cj) nd (ds.flatMap iF)∧Ext w' w'')
  (HR:Hid (∀pe ce w',Ext w w'→Sl w' pe nd ce 3 (ds.flatMap iF)→Calls Tryz.prog 8 #[.agg #[h.aA,h.aB,.slice p h.cells.length cap,h.free,h.step,h.aE,h.aG,h.aD,h.aF,.slice q h.vs.length c2],.slice pe nd ce] w' fun e w''=> ∃pa ca qa da ps cs,e= .returned (.tuple #[.agg #[r.aA,r.aB,.slice pa r.cells.length ca,r.free,r.step,r.aE,r.aG,r.aD,r.aF,.slice qa r.vs.length da],.slice ps nd cs])∧w''.ownsRow w'.heap.size TI 1 (.slice pa r.cells.length ca) r.cells.length (ivs r.cells)∧w''.ownsRow w'.heap.size TV 4 (.slice qa r.vs.length da) r.vs.length (r.vs.flatMap aC)∧Ext w' w'')):
  Calls Tryz.prog 27 #[.agg #[h.aA,h.aB,.slice p h.cells.length cap,h.free,h.step,h.aE,h.aG,h.aD,h.aF,.slice q h.vs.length c2],first,.string b] w (lV (r,nd) w):=by
 go_enter Tryz.func27,Tryz.ntmps27;go_wp2_with fail;refine(u _ (((Mem.start w).c0 aL #[h.aA,h.aB,.slice p h.cells.length cap,h.free,h.step,h.aE,h.aG,h.aD,h.aF,.slice q h.vs.length c2]).c1 aL zT).ext).mono ?_;rintro e w1 ⟨rfl,z⟩;have M1:=((((Mem.start w).c0 aL #[h.aA,h.aB,.slice p h.cells.length cap,h.free,h.step,h.aE,h.aG,h.aD,h.aF,.slice q h.vs.length c2]).c1 aL zT).adv z)
 have g:=M1.hi 0;have j:=M1.hi 1;clear z u;go_wp2_with fail;refine(HJ _ M1.ext).mono ?_;rintro e w2 ⟨pj,cj,rfl,x,aa⟩;have M2:=(M1.call aa x)
 clear M1 g j aa x HJ;have k:=M2.hi 1;have l:=M2.hi 2;obtain⟨am,an,ao,ap,aq,ar,au,av,aw,ax⟩:=(M2.bk 2).ten;go_wp2_with fail;clear am an ao ap aq ar au av aw ax;refine(HR _ _ _ M2.ext (M2.sq 0)).mono ?_;rintro e w8 ⟨p5,c5,q5,d5,ps,cs,rfl,ho,hq,hx⟩;have M3:=(M2.own2 hx ho hq (Nat.le_refl _) (by decide))
 clear M2 k l hx ho hq HR;have m:=M3.hi 3;have n:=M3.hi 4;go_upto_region 5 with fail;obtain⟨X5,f⟩: ∃a,a=w8.heap.size:=⟨_,rfl⟩
 rw[←f];have M4:=(M3.blkNew aL #[r.aA,r.aB,.slice p5 r.cells.length c5,r.free,r.step,r.aE,r.aG,r.aD,r.aF,.slice q5 r.vs.length d5] X5 f.symm)
 generalize World.alloc _ _=v2 at M4⊢;clear M3 m n f;have o:=M4.hi 0;have s:=M4.hi 4;have t:=M4.hi 5;obtain⟨v0,v1,v2,v3,v4,v5,v6,v7,v8,v9⟩:=(M4.bk 0).ten;obtain⟨f0,ab,f1,ad,f2,ae,f3,af,f4,ag,f5,ah,f6,ai,f7,aj,f8,ak,f9,al⟩:=(M4.bk 4).tenf;obtain⟨c,d⟩:=M4.nq 0 4;go_wp2;clear v0 v1 v2 v3 v4 v5 v6 v7 v8 v9 f0 ab f1 ad f2 ae f3 af f4 ag f5 ah f6 ai f7 aj f8 ak f9 al c d o s t;have M5:=(M4.put10 (i:=4) rfl (.int .i64 r.aA) (.int .i64 r.aB) (.slice p5 r.cells.length c5) (.int .i64 r.free) (.int .i64 r.step) (.int .i64 r.aE) (.int .i64 r.aG) (.int .i64 r.aD) (.int .i64 r.aF) (.slice q5 r.vs.length d5))
 generalize y:World.setCell _ _ _=wz;rw[y]at M5;clear y M4;obtain⟨y0,y1,y2,y3,y4,y5,y6,y7,y8,y9⟩:=(M5.bk 4).ten;exact bodyPost_ret (v:= .tuple #[.agg #[r.aA,r.aB,.slice p5 r.cells.length c5,r.free,r.step,r.aE,r.aG,r.aD,r.aF,.slice q5 r.vs.length d5],nd]) (by simp[results,Tryz.results27,go_sem, *]) rfl (show lV (r,nd) w _ _ from⟨p5,c5,q5,d5,rfl,(M5.ow 1),(M5.ow 2),M5.ext⟩)
theorem aEt (h:aW)(p:OA)(n cap:Nat)(q:OA)(m c2:Nat)(first:Int)(b:ByteArray)(w:World)(hi:IsHouse w h p n cap q m c2)(hs:b.size≤2147483648)(hB:B64 first)(c:Env w)(hE:BitTab w):
  Calls Tryz.prog 27 #[cA h p n cap q m c2,first,.string b] w (lV (kG h first b.data.toList) w):=by
 have hl:=hi.clen;have d:=hi.vlen;subst hl d;have hv: ∀w',Ext w w'→Calls Tryz.prog 18 #[cA h p _ cap q _ c2] w' fun e w''=>e= .returned (Value.bool (bU h))∧Ext w' w'':=fun w' hx=>oP h p _ cap q _ c2 w' (hi.ext hx)
 unfold kG;by_cases hok:bU h=true
 ·rw[if_pos hok];rw[hok]at hv;have hd:=oS (rj first b.data.toList).1 h;have hq: ∀l,wP h l=(nK h l,eJ h l):=fun l=>by unfold wP;rw[if_pos hok]
  refine aMy h _ p cap q c2 first b (rj first b.data.toList).1 _ w hv (fun w' hx=>(aMo first b w' hs hB (c.ext hx)).mono ?_) (fun pe ce w' hx hS=>(aAg h p _ cap q _ c2 pe _ ce _ w' (hi.ext hx) hS (Nat.le_trans (aM5 _ _) (by omega)) (hE.ext hx)).mono ?_)
  ·rintro e w'' ⟨v,rfl,ho,a⟩;obtain⟨pj,cj,rfl⟩:=tR ho;exact⟨pj,cj,rfl,ho,a⟩
  rintro e w'' ⟨pa,ca,qa,da,ps,cs,rfl,o1,o2,_,a⟩;rw[hq]at o1 o2⊢;dsimp only at o1 o2⊢;rw[hd];exact⟨pa,ca,qa,da,ps,cs,rfl,o1,o2,a⟩
 rw[if_neg hok];rw[show bU h=false by simpa using hok]at hv;exact aLs h h p cap q c2 first b [] 0 w hv
end Go.Proofs.YtpelpnfhbepokaaGreatDoor
