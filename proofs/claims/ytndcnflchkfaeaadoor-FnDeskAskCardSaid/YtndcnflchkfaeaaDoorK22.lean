/-
  Texts of this proof, packed (@packed).
-/
import Derived.BigQuiet
import Derived.Deep.QuietTactic
import Derived.Laws.BitsAllLaws
import Derived.Laws.BitsLemmas
import Derived.Test.YtndcnflchkfaeaaDoorK1
import Derived.Test.YtndcnflchkfaeaaDoorK5
import Derived.Test.YtndcnflchkfaeaaDoorK21
namespace Go.Proofs.YtndcnflchkfaeaaDoor
open Go.RowKit
set_option linter.unusedVariables false
set_option linter.unusedSimpArgs false
theorem take_has {bs:List Visit4}{k:Nat}{b:Visit4}{id:Int}(hb:bs[k]? =some b) (h:hasId id (bs.take k)=false) (hn: ¬b.1=id):hasId id (bs.take (k+1))=false:=by
 rw[hasId_no]at h⊢
 intro c hc
 rw[List.take_add_one,hb]at hc
 rcases List.mem_append.1 hc with hc|hc
 ·exact h c hc
 ·simp only[Option.toList_some,List.mem_singleton]at hc
  rw[hc];exact hn
set_option maxRecDepth 100000 in
set_option maxHeartbeats 1000000 in
theorem hasBook_w (q:Option Addr)(m c2:Nat)(bs:List Visit4)(id:Int)(w:World)(hS:Sl w q m c2 4 (bs.flatMap visitCells)):
  Calls Tryd.prog 18 #[.slice q m c2,.int .i64 id] w fun e w'=>e= .returned (.bool (hasId id bs))∧w=w':=by
 have hn:=hS.bd
 have hl:Hid (bs.length=m):=by
  have:=hS.len;rw[flat_len visitCells 4 (fun _=>rfl)]at this;exact(by omega:bs.length=m)
 have HS:=Lib.hid hS
 clear hS
 go_enter Tryd.func18,Tryd.ntmps18
 go_wp2
 go_loop [5] (fun i=> ∃k:Nat,k≤m∧i= .int .i64 (k:Int)∧hasId id (bs.take k)=false) (fun i=>m-(intOf i).toNat)
 case atStart=>exact⟨0,Nat.zero_le _,rfl,rfl⟩
 case round=>
  obtain⟨k,hk,rfl,hc⟩:=hrel
  have HC:=Lib.hid hc
  clear hc
  by_cases hlt:k<m
  ·obtain⟨b,off,x0,x1,x2,x3,rfl,hv,hb,g0,g1,g2,g3⟩:=visit_at HS.out hlt
   have HV:=Lib.hid hv
   clear hv
   have i1:(0:Int)≤(k:Int):=by omega
   have i2:(k:Int)<(m:Int):=by omega
   by_cases hy:x0=id
   ·have t1:(x0==id)=true:=by simp[hy]
    have hfin:Hid (hasId id bs=true):=by show _=_;rw[←hy];exact at_has HV.out
    clear hy
    go_wp2
    go_ret
    exact⟨ret_bool (by simpa using hfin.out.symm),rfl⟩
   ·have t1:(x0==id)=false:=by simp[hy]
    have hfin:Hid (hasId id (bs.take (k+1))=false):=take_has HV.out HC.out hy
    clear hy
    go_wp2
    go_round
    case rel=>exact⟨k+1,by omega,by go_num,hfin.out⟩
    case measure=>simp[intOf];omega
  ·have hfin:Hid (hasId id bs=false):=by
    have:=HC.out
    rw[List.take_of_length_le (by rw[hl.out];omega)]at this
    exact this
   go_wp2
   go_ret
   exact⟨ret_bool (by simpa using hfin.out.symm),rfl⟩
theorem hasBook_any (q:Option Addr)(m c2:Nat)(bs:List Visit4)(id:Int)(w:World)(hS:Sl w q m c2 4 (bs.flatMap visitCells)):
  Calls Tryd.prog 18 #[.slice q m c2,.int .i64 id] w fun e w'=>e= .returned (.bool (hasId id bs))∧Ext w w':=
 (hasBook_w q m c2 bs id w hS).mono fun e w' ⟨h,hw⟩=>⟨h,by rw[hw];exact Ext.refl _⟩
set_option maxRecDepth 100000 in
set_option maxHeartbeats 1000000 in
theorem sameBooks_any (p q:Option Addr)(n c1 c2:Nat)(bs:List Visit4)(w:World)(h1:Sl w p n c1 4 (bs.flatMap visitCells))(h2:Sl w q n c2 4 (bs.flatMap visitCells)):
  Calls Tryd.prog 24 #[.slice p n c1,.slice q n c2] w fun e w'=>e= .returned (.bool true)∧Ext w w':=by
 have hn:=h1.bd
 have H1:=Lib.hid h1
 have H2:=Lib.hid h2
 clear h1 h2
 go_enter Tryd.func24,Tryd.ntmps24
 go_wp2
 go_loopw [5] (fun i wr=> ∃k:Nat,k≤n∧i= .int .i64 (k:Int)∧Ext w wr) (fun i _=>n-(intOf i).toNat)
 case atStart=>exact⟨0,Nat.zero_le _,rfl,Ext.refl _⟩
 case round=>
  obtain⟨k,hk,rfl,hE⟩:=hrel
  by_cases hlt:k<n
  ·obtain⟨b,off,x0,x1,x2,x3,rfl,hv,hb,g0,g1,g2,g3⟩:=visit_at (H1.out.ext hE) hlt
   obtain⟨b2,off2,y0,y1,y2,y3,rfl,hv2,hb2,f0,f1,f2,f3⟩:=visit_at (H2.out.ext hE) hlt
   rw[hv]at hv2
   injection hv2 with hv2
   injection hv2 with e0 hv2
   injection hv2 with e1 hv2
   injection hv2 with e2 e3
   subst e0 e1 e2 e3
   clear hv
   have i1:(0:Int)≤(k:Int):=by omega
   have i2:(k:Int)<(n:Int):=by omega
   go_wp2
   go_quiet (fail)
   go_wp2
   go_roundw
   case rel=>exact⟨k+1,by omega,by go_num,by(repeat' (first|exact Ext.refl _|(with_reducible assumption)|(with_reducible refine Ext.alloc ?_ _)|(with_reducible refine Ext.setCell ?_ (by first|exact Nat.le_refl _|(dsimp only;omega)|(simp;done)|(simp;omega)) _)|(with_reducible refine Ext.drew ?_)|(with_reducible refine Ext.drewN ?_ _)|(refine Ext.trans ?_ (by with_reducible assumption))))⟩
   case measure=>simp[intOf];omega
  ·go_wp2
   go_ret
   exact⟨rfl,hE⟩
set_option maxRecDepth 100000 in
set_option maxHeartbeats 1000000 in
theorem sameBooks_nil (p q:Option Addr)(n c1 c2:Nat)(w:World):
  Calls Tryd.prog 24 #[.slice p 0 c1,.slice q n c2] w fun e w'=>e= .returned (.bool (decide (n=0)))∧Ext w w':=by
 by_cases hn:n=0
 ·subst hn
  go_enter Tryd.func24,Tryd.ntmps24
  go_wp2
  go_loopw [5] (fun i wr=>i= .int .i64 0∧Ext w wr) (fun i _=>0)
  case atStart=>exact⟨rfl,Ext.refl _⟩
  case round=>
   obtain⟨rfl,hE⟩:=hrel
   go_wp2
   go_ret
   exact⟨rfl,hE⟩
 ·have e1:((0:Int)==(n:Int))=false:=by simp;omega
  have e2:decide (n=0)=false:=by simp[hn]
  have e3:((0:Int)!=(n:Int))=true:=by simp;omega
  go_enter Tryd.func24,Tryd.ntmps24
  go_wp2
  go_ret
  exact⟨by rw[e2];rfl,Ext.refl _⟩
set_option maxRecDepth 100000 in
set_option maxHeartbeats 8000000 in
theorem sameDesk_any (P:Int)(q:Option Addr)(m c2:Nat)(q2:Option Addr)(m2 d2:Nat)(p:Option Addr)(c:Nat)(p2:Option Addr)(d:Nat)(T R:List Visit4)(w:World)(h1:Sl w q m c2 4 (T.flatMap visitCells))(h2:Sl w q2 m2 d2 4 (R.flatMap visitCells))(h3:Sl w p m c 4 (T.flatMap visitCells))(h4:Sl w p2 m2 d 4 (R.flatMap visitCells)):
  Calls Tryd.prog 17 #[deskV P q m c2 q2 m2 d2,deskV P p m c p2 m2 d] w fun e w'=>e= .returned (.bool true)∧Ext w w':=by
 have H1:=Lib.hid h1
 have H2:=Lib.hid h2
 have H3:=Lib.hid h3
 have H4:=Lib.hid h4
 clear h1 h2 h3 h4
 go_enter Tryd.func17,Tryd.ntmps17
 go_wp2_with fail
 refine(sameBooks_any q p m c2 c T _ (H1.out.ext (by(repeat' (first|exact Ext.refl _|(with_reducible assumption)|(with_reducible refine Ext.alloc ?_ _)|(with_reducible refine Ext.setCell ?_ (by first|exact Nat.le_refl _|(dsimp only;omega)|(simp;done)|(simp;omega)) _)|(with_reducible refine Ext.drew ?_)|(with_reducible refine Ext.drewN ?_ _)|(refine Ext.trans ?_ (by with_reducible assumption)))))) (H3.out.ext (by(repeat' (first|exact Ext.refl _|(with_reducible assumption)|(with_reducible refine Ext.alloc ?_ _)|(with_reducible refine Ext.setCell ?_ (by first|exact Nat.le_refl _|(dsimp only;omega)|(simp;done)|(simp;omega)) _)|(with_reducible refine Ext.drew ?_)|(with_reducible refine Ext.drewN ?_ _)|(refine Ext.trans ?_ (by with_reducible assumption))))))).mono ?_
 rintro e w1 ⟨rfl,x1⟩
 have M1:=Lib.hid ((((Mem.start w).blkNew TDk #[.int .i64 P,.slice q m c2,.slice q2 m2 d2] (w.heap.size) (by simp)).blkNew TDk #[.int .i64 P,.slice p m c,.slice p2 m2 d] (w.heap.size+1) (by simp)).adv x1)
 clear x1
 obtain⟨a0,a1,a2⟩:=(M1.out.blk (i:=1) rfl).tri
 obtain⟨b0,b1,b2⟩:=(M1.out.blk (i:=0) rfl).tri
 have X1:=Lib.hid M1.out.ext
 have la:=(M1.out.lt (i:=1) rfl rfl).2
 have lb:=(M1.out.lt (i:=0) rfl rfl).2
 clear M1
 go_wp2_with fail
 refine(sameBooks_any q2 p2 m2 d2 d R _ (H2.out.ext (by first|exact X1.out|exact X1.out.drew)) (H4.out.ext (by first|exact X1.out|exact X1.out.drew))).mono ?_
 rintro e w2 ⟨rfl,x2⟩
 have X2:=X1.out.trans x2
 go_wp2
 go_ret
 exact⟨rfl,X2⟩
theorem sameDesk_zero (P:Int)(q:Option Addr)(m c2:Nat)(q2:Option Addr)(m2 d2:Nat)(p p2:Option Addr)(c d:Nat)(w:World):
  Calls Tryd.prog 17 #[deskV 0 p 0 c p2 0 d,deskV P q m c2 q2 m2 d2] w fun e w'=>(∃t:Bool,e= .returned (.bool t))∧Ext w w':=by
 by_cases hP:0=P
 ·have e1:((0:Int)==P)=true:=by simp[←hP]
  subst hP
  go_enter Tryd.func17,Tryd.ntmps17
  go_wp2_with fail
  refine(sameBooks_nil p q m c c2 _).mono ?_
  rintro e w1 ⟨rfl,x1⟩
  have M1:=Lib.hid ((((Mem.start w).blkNew TDk #[.int .i64 0,.slice p 0 c,.slice p2 0 d] (w.heap.size) (by simp)).blkNew TDk #[.int .i64 0,.slice q m c2,.slice q2 m2 d2] (w.heap.size+1) (by simp)).adv x1)
  clear x1
  obtain⟨a0,a1,a2⟩:=(M1.out.blk (i:=1) rfl).tri
  obtain⟨b0,b1,b2⟩:=(M1.out.blk (i:=0) rfl).tri
  have X1:=Lib.hid M1.out.ext
  have la:=(M1.out.lt (i:=1) rfl rfl).2
  have lb:=(M1.out.lt (i:=0) rfl rfl).2
  clear M1
  by_cases hm:m=0
  ·have e2:decide (m=0)=true:=by simp[hm]
   rw[e2]
   go_wp2_with fail
   refine(sameBooks_nil p2 q2 m2 d d2 _).mono ?_
   rintro e w2 ⟨rfl,x2⟩
   have X2:=X1.out.trans x2
   go_wp2
   go_ret
   exact⟨⟨_,rfl⟩,X2⟩
  ·have e2:decide (m=0)=false:=by simp[hm]
   rw[e2]
   have X2:=X1.out
   go_wp2
   go_ret
   exact⟨⟨_,rfl⟩,X2⟩
 ·have e1:((0:Int)==P)=false:=by simpa using hP
  go_enter Tryd.func17,Tryd.ntmps17
  go_wp2
  go_ret
  exact⟨⟨_,rfl⟩,by(repeat' (first|exact Ext.refl _|(with_reducible assumption)|(with_reducible refine Ext.alloc ?_ _)|(with_reducible refine Ext.setCell ?_ (by first|exact Nat.le_refl _|(dsimp only;omega)|(simp;done)|(simp;omega)) _)|(with_reducible refine Ext.drew ?_)|(with_reducible refine Ext.drewN ?_ _)|(refine Ext.trans ?_ (by with_reducible assumption))))⟩
set_option maxRecDepth 100000 in
set_option maxHeartbeats 1000000 in
theorem ascend_any (p:Option Addr)(n c:Nat)(xs:List Int)(w:World)(hS:Sl w p n c 1 (ivs xs))(hup:xs.Pairwise (·< ·)):
  Calls Tryd.prog 30 #[.slice p n c] w fun e w'=>e= .returned (.bool true)∧Ext w w':=by
 have hn:=hS.bd
 have hl:=Lib.hid hS.ilen
 have HS:=Lib.hid hS
 have HU:=Lib.hid hup
 clear hS hup
 go_enter Tryd.func30,Tryd.ntmps30
 go_wp2
 go_loopw [3] (fun i wr=> ∃k:Nat,1≤k∧i= .int .i64 (k:Int)∧Ext w wr) (fun i _=>n-(intOf i).toNat)
 case atStart=>exact⟨1,by omega,rfl,Ext.refl _⟩
 case round=>
  obtain⟨k,hk,rfl,hE⟩:=hrel
  by_cases hlt:k<n
  ·obtain⟨j,rfl⟩: ∃j,k=j+1:=⟨k-1,by omega⟩
   obtain⟨b,off,x,rfl,hx,hb,hcell⟩:=(HS.out.ext hE).int_at (show j<n by omega)
   obtain⟨b2,off2,y,e2,hy,hb2,hcell2⟩:=(HS.out.ext hE).int_at hlt
   injection e2 with e2;injection e2 with e2 e3
   subst e2 e3
   have hxy:x<y:=by
    obtain⟨h1,h2⟩:=List.getElem?_eq_some_iff.1 hx
    obtain⟨h3,h4⟩:=List.getElem?_eq_some_iff.1 hy
    rw[←h2,←h4]
    exact List.pairwise_iff_getElem.1 HU.out j (j+1) h1 h3 (by omega)
   have t0:decide (y≤x)=false:=by simp;omega
   clear hx hy
   have i0:IntKind.i64.wrap ((j:Int)+1-1)=(j:Int):=by rw[IntWalk.i64_in _ (by omega)];omega
   have i1:(0:Int)≤(j:Int)+1:=by omega
   have i2:(j:Int)+1<(n:Int):=by omega
   have i3:(j:Int)<(n:Int):=by omega
   have i4:((j:Int)+1).toNat=j+1:=by omega
   go_wp2
   go_quiet (fail)
   go_wp2
   go_roundw
   case rel=>exact⟨j+1+1,by omega,by go_num,by(repeat' (first|exact Ext.refl _|(with_reducible assumption)|(with_reducible refine Ext.alloc ?_ _)|(with_reducible refine Ext.setCell ?_ (by first|exact Nat.le_refl _|(dsimp only;omega)|(simp;done)|(simp;omega)) _)|(with_reducible refine Ext.drew ?_)|(with_reducible refine Ext.drewN ?_ _)|(refine Ext.trans ?_ (by with_reducible assumption))))⟩
   case measure=>simp[intOf];omega
  ·go_wp2
   go_ret
   exact⟨rfl,hE⟩
end Go.Proofs.YtndcnflchkfaeaaDoor

namespace Go.Proofs.YtndcnflchkfaeaaDoor
open Go.RowKit
set_option linter.unusedVariables false
def Rand (w:World)(R k:Nat):Prop:= ∃(p:Option Addr) (n cap:Nat) (q:Int) (bs:List Int),
 Blk w R 80 #[.slice p n cap,.int .i64 q]∧0≤q∧q≤k∧Sl w p n cap 1 (bs.map (Value.int .u8))∧n≤2000∧(∀x∈bs,0≤x∧x≤255)∧(0<n→ ∀b off,p=some ⟨b,off,none⟩→b<R)
theorem Rand.mono {w:World}{R k k':Nat}(h:Rand w R k)(hk:k≤k'):Rand w R k':=by
 obtain⟨p,n,cap,q,bs,h1,h2,h3,h4⟩:=h
 exact⟨p,n,cap,q,bs,h1,h2,by omega,h4⟩
theorem Rand.below {w w':World}{R k:Nat}(h:Rand w R k)(hx:Below (R+1) w w'):Rand w' R k:=by
 obtain⟨p,n,cap,q,bs,h1,h2,h3,h4,h5,h6,h7⟩:=h
 refine⟨p,n,cap,q,bs,(hx.block R (Nat.lt_succ_self R)).trans h1,h2,h3,⟨h4.len,h4.le,h4.mx,fun h0=> ?_⟩,h5,h6,h7⟩
 obtain⟨b,off,rfl,hb,hc⟩:=h4.rd h0
 have hbR:=h7 h0 b off rfl
 exact⟨b,off,rfl,Nat.lt_of_lt_of_le hb hx.size,fun k hk=>(World.cell?_of_block (hx.block b (by omega))).trans (hc k hk)⟩
theorem Rand.alloc {w:World}{R k:Nat}(h:Rand w R k)(o:Obj):Rand (w.alloc o) R k:=by
 obtain⟨p,n,cap,q,bs,h1,h2⟩:=id h
 exact h.below (Below.alloc (Below.refl _ _) h1.lt o)
theorem Rand.setCell {w:World}{R k:Nat}(h:Rand w R k){p:Addr}(hp:R<p.block)(u:Value):Rand (w.setCell p u) R k:=h.below (Below.setCell (Below.refl _ _) hp u)
theorem Rand.drew {w:World}{R k:Nat}(h:Rand w R k):Rand w.drew R k:=h.below (Below.drew (Below.refl _ _))
theorem Rand.drewN {w:World}{R k:Nat}(h:Rand w R k)(n:Nat):Rand (w.drewN n) R k:=h.below (below_drewN (Below.refl _ _) n)
theorem Rand.ext {w w':World}{R k:Nat}(h:Rand w R k)(hx:Ext w w'):Rand w' R k:=by
 obtain⟨p,n,cap,q,bs,h1,h2,h3,h4,h5⟩:=h
 exact⟨p,n,cap,q,bs,h1.ext hx,h2,h3,h4.ext hx,h5⟩
theorem Rand.lt {w:World}{R k:Nat}(h:Rand w R k):R<w.heap.size:=by
 obtain⟨p,n,cap,q,bs,h1,_⟩:=h
 exact h1.lt
theorem Rand.grown {w w':World}{R k:Nat}{row:Option Nat}(h:Rand w R k)(hg:w.grownBy w' row)(hr:some R≠row)(hb: ∀b,row=some b→w.heap.size≤b):Rand w' R k:=
 h.ext ((Ext.refl w).grown hg hb)
theorem sl_u8_at {w:World}{p:Option Addr}{n cap:Nat}{xs:List Int}(h:Sl w p n cap 1 (xs.map (Value.int .u8))){k:Nat}(hk:k<n):
  ∃b off x,p=some ⟨b,off,none⟩∧x∈xs∧b<w.heap.size∧w.cell? ⟨b,off+k,none⟩=some (.int .u8 x):=by
 obtain⟨b,off,rfl,hb,hc⟩:=h.rd (by omega)
 have hl:xs.length=n:=by simpa using h.len
 have hkl:k<xs.length:=by rw[hl];exact hk
 have hx:xs[k]? =some (xs[k]'hkl):=List.getElem?_eq_getElem hkl
 refine⟨b,off,_,rfl,List.getElem_mem hkl,hb,?_⟩
 rw[hc k (by omega),List.getElem?_map,hx];rfl
theorem ofInt_i64 (a:Nat)(ha:a<9223372036854775808):(BitVec.ofInt 64 (a:Int)).toNat=a:=by
 rw[BitVec.ofInt_natCast,BitVec.toNat_ofNat];exact Nat.mod_eq_of_lt (by omega)
theorem xor_nonneg (x y:Int)(hx:0≤x)(hx2:x<9223372036854775808)(hy:0≤y)(hy2:y<9223372036854775808):0≤bits .xor .i64 x y∧bits .xor .i64 x y<9223372036854775808:=by
 obtain⟨a,rfl⟩:=Int.eq_ofNat_of_zero_le hx
 obtain⟨b,rfl⟩:=Int.eq_ofNat_of_zero_le hy
 have hxx:a ^^^ b<2 ^ 63:=Nat.xor_lt_two_pow (by omega) (by omega)
 have e:bits .xor .i64 (a:Int) (b:Int)=((a ^^^ b:Nat):Int):=by
  show IntKind.i64.wrap ((BitVec.ofInt 64 (a:Int) ^^^ BitVec.ofInt 64 (b:Int)).toNat:Int)=_
  rw[BitVec.toNat_xor,ofInt_i64 a (by omega),ofInt_i64 b (by omega),IntKind.wrap_i64]
  omega
 rw[e];omega
def RandInt (R k:Nat)(n:Int)(w:World)(e:Ending)(w':World):Prop:= ∃x:Int,e= .returned (.int .i64 x)∧0≤x∧(x<n∨x=0)∧Rand w' R (k+1)∧ExtR R w w'
theorem rand_step {w w':World}{R k:Nat}{p:Option Addr}{n cap:Nat}{q:Int}{bs:List Int}(hw:w'=w.setCell ⟨R,1,none⟩ (.int .i64 (q+1)))
  (h1:Blk w R 80 #[.slice p n cap,.int .i64 q])(h2:0≤q)(h3:q≤k)(h4:Sl w p n cap 1 (bs.map (Value.int .u8)))(h5:n≤2000)(h6: ∀x∈bs,0≤x∧x≤255)(h7:0<n→ ∀b off,p=some ⟨b,off,none⟩→b<R):
  Rand w' R (k+1)∧ExtR R w w':=by
 have hx:ExtR R w w':=by rw[hw];exact(ExtR.refl R w).setCell (p:=⟨R,1,none⟩) (.inl rfl) _
 refine⟨⟨p,n,cap,q+1,bs,by rw[hw];exact h1.set 1 _,by omega,by omega,hx.sl (b0:=0) h4 (fun h0 b off e=>by have:=h7 h0 b off e;omega),h5,h6,h7⟩,hx⟩
set_option maxRecDepth 100000 in
set_option maxHeartbeats 1000000 in
theorem pick_any (R k:Nat)(n:Int)(w:World)(hr:Rand w R k)(hk:k≤1099511627776):
  Calls Tryd.prog 52 #[.pointer (some ⟨R,0,none⟩),.int .i64 n] w (RandInt R k n w):=by
 obtain⟨p,m,cap,q,bs,h1,h2,h3,h4,h5,h6,h7'⟩:=hr
 have h7:0<m→ ∀b off,p=some ⟨b,off,none⟩→b≠R:=fun h0 b off e=>by have:=h7' h0 b off e;omega
 have c0:w.cell? ⟨R,0,none⟩=some (.slice p m cap):=h1.cell 0
 have c1:w.cell? ⟨R,1,none⟩=some (.int .i64 q):=h1.cell 1
 have f1:w.frozen? ⟨R,1,none⟩=false:=h1.frozen 1
 have HS:=Lib.hid (fun w' hw=>rand_step (w':=w') hw h1 h2 h3 h4 h5 h6 h7')
 by_cases hn:n<1
 ·clear h4 h6 h7
  go_enter Tryd.func52,Tryd.ntmps52
  go_wp2
  go_ret
  exact⟨0,rfl,by omega,.inr rfl,HS.out _ rfl⟩
 ·by_cases hm:m=0
  ·subst hm
   clear h4 h6 h7
   go_enter Tryd.func52,Tryd.ntmps52
   go_wp2
   go_ret
   exact⟨0,rfl,by omega,.inr rfl,HS.out _ rfl⟩
  ·by_cases hq:q<m
   ·obtain⟨b,off,x,rfl,hx,hb,hc⟩:=sl_u8_at h4 (k:=q.toNat) (by omega)
    obtain⟨x0,x1⟩:=h6 x hx
    have hbR:b≠R:=h7 (by omega) b off rfl
    have hl:=h4.le
    clear h4 h6 h7
    go_enter Tryd.func52,Tryd.ntmps52
    go_wp2
    go_ret
    exact⟨_,rfl,Int.emod_nonneg _ (by omega),.inl (Int.emod_lt_of_pos _ (by omega)),HS.out _ rfl⟩
   ·obtain⟨b,off,x,rfl,hx,hb,hc⟩:=sl_u8_at h4 (k:=(q%m).toNat) (by have:=Int.emod_lt_of_pos q (show(0:Int)<m by omega);have:=Int.emod_nonneg q (show(m:Int)≠0 by omega);omega)
    obtain⟨b2,off2,y,hp2,hy,hb2,hc2⟩:=sl_u8_at h4 (k:=((q*7+3)%m).toNat) (by have:=Int.emod_lt_of_pos (q*7+3) (show(0:Int)<m by omega);have:=Int.emod_nonneg (q*7+3) (show(m:Int)≠0 by omega);omega)
    simp only[Option.some.injEq,Addr.mk.injEq,and_true]at hp2
    obtain⟨rfl,rfl⟩:=hp2
    obtain⟨x0,x1⟩:=h6 x hx
    obtain⟨y0,y1⟩:=h6 y hy
    have hbR:b≠R:=h7 (by omega) b off rfl
    have hl:=h4.le
    have i1:0≤q%m:=Int.emod_nonneg _ (by omega)
    have i2:q%m<m:=Int.emod_lt_of_pos _ (by omega)
    have i3:0≤(q*7+3)%m:=Int.emod_nonneg _ (by omega)
    have i4:(q*7+3)%m<m:=Int.emod_lt_of_pos _ (by omega)
    have i5:0≤q/m:=Int.ediv_nonneg h2 (by omega)
    have i6:q/m≤q:=Int.ediv_le_self _ h2
    clear h4 h6 h7
    go_enter Tryd.func52,Tryd.ntmps52
    go_wp2
    go_quiet (fail)
    all_goals go_wp2
    all_goals go_ret
    have z0:0≤x*131+y*1117+q*29+q/m*53:=by omega
    have z1:x*131+y*1117+q*29+q/m*53<9223372036854775808:=by omega
    obtain⟨z2,z3⟩:=xor_nonneg (x*131+y*1117+q*29+q/m*53) ((x*131+y*1117+q*29+q/m*53)/64) z0 z1 (by omega) (by omega)
    refine⟨_,rfl,?_,.inl ?_,?_⟩
    ·rw[Int.tmod_eq_emod_of_nonneg z2];exact Int.emod_nonneg _ (by omega)
    ·rw[Int.tmod_eq_emod_of_nonneg z2];exact Int.emod_lt_of_pos _ (by omega)
    ·obtain⟨a1,a2⟩:=HS.out _ rfl
     exact⟨a1.ext (Ext.drewN (Ext.refl _) _),a2.drewN _⟩
end Go.Proofs.YtndcnflchkfaeaaDoor

namespace Go.Proofs.YtndcnflchkfaeaaDoor
open Go Go.RowKit
set_option linter.unusedVariables false
section
variable {P:Program} {ops:Array Oper} {Q:Exit→Act→World→Prop} {md:Region.Mode} {G:Nat→Value→World→Prop} {Rd st:Nat}
def StepAtR (P:Program)(ops:Array Oper)(G:Nat→Value→World→Prop)(Rd st kk:Nat)(i:Nat)(o:Oper)(w:World)(a:Act):Prop:=
 ∀K':Act→World→Prop,(∀a' w'',(∃v,a'=a.put o.dst v∧G i v w''∧ExtR Rd w w''∧Rand w'' Rd (kk+st))→K' a' w'')→if Region.wanted o (yielded ops a.tmps)=true then Oper.wp P o a w K' (fun _ _ _=>False)else K' (a.put o.dst undef) w
def StepsLR (P:Program)(md:Region.Mode)(ops:Array Oper)(G:Nat→Value→World→Prop)(Rd st:Nat)(top:Nat)(a0:Act)(W:World)(l:List Nat):Prop:=
 ∀i∈l,∀o,ops[i]? =some o→ ∀w kk,ExtR Rd W w→Rand w Rd kk→kk≤top→ForV G w (needD ops i) a0 (StepAtR P ops G Rd st kk i o w)
theorem StepsLR.nil {top:Nat}{a0:Act}{W:World}:StepsLR P md ops G Rd st top a0 W []:=fun _ h=>by cases h
theorem StepsLR.cons {top:Nat}{a0:Act}{W:World}{i:Nat}{o:Oper}{ps:List (Nat×Option Tmp)}{is:List Nat}(ho:ops[i]? =some o) (hp:needD ops i=ps)
  (h: ∀w kk,ExtR Rd W w→Rand w Rd kk→kk≤top→ForV G w ps a0 (StepAtR P ops G Rd st kk i o w)) (hs:StepsLR P md ops G Rd st top a0 W is):StepsLR P md ops G Rd st top a0 W (i::is):=by
 intro j hj o' ho' w kk hw hr hk
 rcases List.mem_cons.1 hj with rfl|hj
 ·rw[ho]at ho';cases ho';rw[hp];exact h w kk hw hr hk
 ·exact hs j hj o' ho' w kk hw hr hk
theorem step_ofR {n:Nat}(hok:linOk md ops n=true){a0:Act}{kk:Nat}(hn:a0.tmps.size=n){vals:Nat→Value}{w:World}{l:Nat→Prop}{a b:Act}{i:Nat}{o:Oper}(ho:ops[i]? =some o)
  (hpl: ∀e∈o.after,Region.binds md e=true→l e.on) (hni: ¬l i)
  (ha:FrI ops a0 vals l a) (hb:FrI ops a0 vals (fun j=>j∈(needD ops i).map (·.1)) b) (h:StepAtR P ops G Rd st kk i o w b) {K:Act→World→Prop}
  (hK: ∀v w'',G i v w''→ExtR Rd w w''∧Rand w'' Rd (kk+st)→K (a.put o.dst v) w''):wpOp P ops Q i K a w:=by
 obtain⟨hsel,hs⟩:=linOk_spec hok
 obtain⟨h1,h2⟩:=hs i o ho
 have hsel': ∀cs x,o.op≠ .select cs x:=fun cs x=>Region.noSelect_spec hsel i o cs x ho
 have hlook: ∀t∈o.looksAt ops,a.tmps[t]? =b.tmps[t]? :=fun t ht=>by
  by_cases hd: ∃j,dstOf ops j=some t
  ·obtain⟨j,hj⟩:=hd
   obtain⟨e,he,hbi,rfl⟩:=h2 t ht j hj
   rw[ha.mem _ _ hj (hpl e he hbi),hb.mem _ _ hj (needD_of ho hj ht)]
  ·rw[ha.out t fun j _ hj=>hd ⟨j,hj⟩,hb.out t fun j _ hj=>hd ⟨j,hj⟩]
 have hev:execOp a.eval o=execOp b.eval o:=execOp_congr o hsel' fun x hx=>by
  cases x with
  |tmp t=>
   have:=hlook t (List.mem_append_left _ (List.mem_filterMap.2 ⟨.tmp t,by simpa using hx,rfl⟩))
   simp only[Act.eval,Array.getD_eq_getD_getElem?,this]
  |_=>rfl
 have hwa:Region.wanted o (yielded ops a.tmps)=Region.wanted o (yielded ops b.tmps):=by
  unfold Region.wanted
  cases hg:o.guard with
  |none=>rfl
  |some gw=>
   obtain⟨g,want⟩:=gw
   have:yielded ops a.tmps g=yielded ops b.tmps g:=by
    unfold yielded
    cases ht:(ops[g]?).bind (·.dst)with
    |none=>rfl
    |some t=>
     have:=hlook t (by simp[Oper.looksAt,hg,ht])
     simp[this]
   simp only[this]
 have hst:=h (fun a' w'=> ∃v,a'=b.put o.dst v∧G i v w'∧ExtR Rd w w'∧Rand w' Rd (kk+st)) (fun a' w'' h=>h)
 have back: ∀u v:Value,b.put o.dst u=b.put o.dst v→a.put o.dst u=a.put o.dst v:=fun u v he=>by
  cases hd:o.dst with
  |none=>rfl
  |some d=>
   rw[hd]at he
   obtain⟨hlt,-⟩:=h1 d hd
   have e1:(b.tmps.setIfInBounds d u)[d]? =(b.tmps.setIfInBounds d v)[d]? :=by
    have:=congrArg Act.tmps he
    simp only[Act.put]at this
    rw[this]
   have hbs:d<b.tmps.size:=by rw[hb.size,hn];exact hlt
   simp[hbs]at e1
   rw[e1]
 refine wpOp_step ho fun K' hK'=> ?_
 rw[hwa]
 split
 ·rename_i hw
  rw[if_pos hw]at hst
  unfold Oper.wp at*
  rw[hev]
  generalize (execOp b.eval o).run P w=r at*
  cases r with
  |ok m w'=>
   cases m<;>simp only[Oper.upon]at hst⊢
   case value u=>
    obtain⟨v,he,hg,hr⟩:=hst
    rw[back _ _ he];exact hK' _ _ (hK v _ hg hr)
   case skip=>
    obtain⟨v,he,hg,hr⟩:=hst
    rw[back _ _ he];exact hK' _ _ (hK v _ hg hr)
   case defer d=>
    obtain⟨v,he,hg,hr⟩:=hst
    have:=congrArg Act.defers he
    cases hd:o.dst<;>simp[Act.put,hd]at this
   case enter f args=>
    refine Calls.mono hst fun e w'' he=> ?_
    cases e with
    |returned u=>
     obtain⟨v,he,hg,hr⟩:=he
     show K' _ _
     rw[back _ _ he];exact hK' _ _ (hK v _ hg hr)
    |panicked c=>exact he.elim
    |outgrown=>obtain⟨_,_,h⟩:=he;exact h.elim
   case row row args=>
    refine Rows.mono hst fun u w'' he=> ?_
    obtain⟨v,he,hg,hr⟩:=he
    rw[back _ _ he];exact hK' _ _ (hK v _ hg hr)
  |halt x w'=>
   cases x<;>simp only[Oper.upon]at hst
 ·rename_i hw
  rw[if_neg hw]at hst
  obtain⟨v,he,hg,hr⟩:=hst
  rw[back _ _ he];exact hK' _ _ (hK v _ hg hr)
theorem lin_anyR {n m:Nat}(hok:linOk md ops n=true)(hup:linUp md ops=true)(ht:tailOk md ops m=true)(hm:m≤ops.size){a0:Act}(hn:a0.tmps.size=n){W:World}{k0:Nat}(hG: ∀i v w w',G i v w→ExtR Rd w w'→G i v w')
  (hs:StepsLR P md ops G Rd st (k0+st*ops.size) a0 W (List.range m))(he: ∀w,ExtR Rd W w→Rand w Rd (k0+st*m)→ForV G w (headD ops m) a0 (fun a=>wpAny P md ops Q (ops.size-m) (tailListed m (ops.size-m)) a w)):
  ∀(fuel:Nat) (listed:Array Bool) (a:Act) (w:World) (vals:Nat→Value),listed.size=ops.size→(∀i o,ops[i]? =some o→listed.getD i false=true→ ∀e∈o.after,Region.binds md e=true→listed.getD e.on false=true)→
   (∀i,m≤i→listed.getD i false=false)→
   ExtR Rd W w→(∃j,j+fuel=ops.size∧Rand w Rd (k0+st*j))→FrI ops a0 vals (fun j=>listed.getD j false=true) a→(∀i,listed.getD i false=true→G i (vals i) w)→
   List.count false listed.toList=fuel→wpAny P md ops Q fuel listed a w:=by
 intro fuel
 -- all of the head have come up
 have fin: ∀(fuel:Nat) (listed:Array Bool) (a:Act) (w:World) (vals:Nat→Value),listed.size=ops.size→(∀i,m≤i→listed.getD i false=false)→ExtR Rd W w→(∃j,j+fuel=ops.size∧Rand w Rd (k0+st*j))→FrI ops a0 vals (fun j=>listed.getD j false=true) a→(∀i,listed.getD i false=true→G i (vals i) w)→
   List.count false listed.toList=fuel→(∀i,i<m→listed.getD i false=true)→wpAny P md ops Q fuel listed a w:=by
  intro fuel listed a w vals hsz hnt hR hRn hF hGv hcnt hall
  have e2l:listed.toList=List.replicate m true++List.replicate (ops.size-m) false:=by
   apply List.ext_getElem?
   intro i
   rw[Array.getElem?_toList]
   by_cases him:i<m
   ·have h1:=hall i him
    have h2:i<listed.size:=by omega
    simp[h2]at h1
    simp[h2,h1,List.getElem?_append,him]
   ·by_cases hio:i<listed.size
    ·have h1:=hnt i (by omega)
     simp[hio]at h1
     have h2:i-m<ops.size-m:=by omega
     rw[List.getElem?_append_right (by simp;omega)]
     simp[hio,h1,h2]
    ·rw[Array.getElem?_eq_none (by omega),List.getElem?_eq_none (by simp;omega)]
  have e2:listed=tailListed m (ops.size-m):=by
   unfold tailListed
   rw[←e2l]
  have e3:fuel=ops.size-m:=by
   rw[←hcnt,e2]
   simp[tailListed,List.count_append,List.count_replicate]
  have h:=he w hR (by
   obtain⟨j,hj,hr⟩:=hRn
   have:j=m:=by omega
   rw[this]at hr;exact hr)
  obtain⟨b,hb,hq⟩:=ForV.get hok hn (G:=G) (vals:=vals) (headD ops m) (fun _=>False) a0 (fun p hp=>by
   unfold headD at hp
   obtain⟨i,hi,rfl⟩:=List.mem_map.1 hp
   have:=List.mem_range.1 hi
   exact⟨⟨ops[i]'(by omega),Array.getElem?_eq_getElem _⟩,rfl⟩) (fun p hp=>by
   unfold headD at hp
   obtain⟨i,hi,rfl⟩:=List.mem_map.1 hp
   exact hGv i (hall i (List.mem_range.1 hi))) FrI.nil h
  have e1:a=b:=hF.eq (hb.congr (fun i=>by
   simp only[false_or,headD,List.map_map,List.mem_map,List.mem_range]
   constructor
   ·rintro⟨j,hj,rfl⟩;exact hall j hj
   ·intro hl
    refine⟨i,?_,rfl⟩
    rcases Nat.lt_or_ge i m with h'|h'
    ·exact h'
    ·rw[hnt i h']at hl;cases hl) (fun _ _=>rfl))
  rw[e1,e2,e3];exact hq
 induction fuel with
 |zero=>
  intro listed a w vals hsz hcl hnt hR hRn hF hGv hcnt
  refine fin 0 listed a w vals hsz hnt hR hRn hF hGv hcnt fun i hi=> ?_
  have hi':i<listed.size:=by omega
  cases hb:listed[i]with
  |true=>simp[hb,hi']
  |false=>
   have hmem:false∈listed.toList:=by
    rw[←hb];simp
   have:=List.count_pos_iff.2 hmem
   omega
 |succ fuel ih=>
  intro listed a w vals hsz hcl hnt hR hRn hF hGv hcnt
  by_cases hall: ∀i,i<m→listed.getD i false=true
  ·exact fin _ listed a w vals hsz hnt hR hRn hF hGv hcnt hall
  refine⟨fun h=> ?_,fun i hi=> ?_⟩
  ·exact absurd (fun i hi=>linUp_all hup listed hsz h i (by omega)) hall
  have him:i<m:=by
   rcases Nat.lt_or_ge i m with h|h
   ·exact h
   ·exact absurd (tail_all hup ht listed hm hcl hnt hi h) hall
  obtain⟨h0,o,ho,hpre⟩:=mem_ready.1 hi
  have hilt:i<ops.size:=(Array.getElem?_eq_some_iff.1 ho).1
  have hilt':i<listed.size:=by rw[hsz];exact hilt
  have hni: ¬listed.getD i false=true:=by
   intro h
   simp[hilt']at h h0
   rw[h0]at h;cases h
  obtain⟨jj,hjj,hr0⟩:=hRn
  have hstep:=hs i (List.mem_range.2 him) o ho w (k0+st*jj) hR hr0 (Nat.add_le_add_left (Nat.mul_le_mul_left st (by omega)) k0)
  have hlk: ∀p∈needD ops i,listed.getD p.1 false=true:=fun p hp=>by
   obtain⟨_,_,d,hd,hl⟩:=needD_mem ho hp
   obtain⟨e,he,hbd,hpe⟩:=((linOk_spec hok).2 i o ho).2 d hl p.1 hd
   have h3:=hpre e he hbd
   rwa[hpe]at h3
  obtain⟨b,hb,hst⟩:=ForV.get hok hn (G:=G) (vals:=vals) (needD ops i) (fun _=>False) a0 (fun p hp=>by
   obtain⟨h1,h2,_⟩:=needD_mem ho hp
   exact⟨⟨ops[p.1]'h1,Array.getElem?_eq_getElem _⟩,h2⟩) (fun p hp=>hGv _ (hlk p hp)) FrI.nil hstep
  refine step_ofR (vals:=vals) hok hn ho (fun e he hbd=>hpre e he hbd) hni hF (hb.congr (fun j=>by simp) (fun _ _=>rfl)) hst fun v w'' hg ⟨hr,hr2⟩=> ?_
  refine ih (listed.setIfInBounds i true) _ w'' (fun j=>if j=i then v else vals j) (by simpa using hsz) ?_ ?_ (hR.trans hr) ⟨jj+1,by omega,by rw[Nat.mul_succ,←Nat.add_assoc];exact hr2⟩ ?_ ?_ ?_
  ·intro j oj hoj hj e he hbd
   by_cases hji:j=i
   ·subst hji
    rw[ho]at hoj;cases hoj
    exact getD_set_true (hpre e he hbd)
   ·rw[Go.getD_set_ne false (Ne.symm hji)]at hj
    exact getD_set_true (hcl j oj hoj hj e he hbd)
  ·intro j hj
   rw[Go.getD_set_ne false (by omega)]
   exact hnt j hj
  ·refine(hF.put hok hn ho v (fun h=>absurd h hni)).congr (fun j=> ?_) (fun _ _=>rfl)
   by_cases hji:j=i
   ·subst hji;simp[hilt']
   ·rw[Go.getD_set_ne false (Ne.symm hji)];simp[hji]
  ·intro j hj
   by_cases hji:j=i
   ·subst hji;simp only[if_true];exact hg
   ·rw[Go.getD_set_ne false (Ne.symm hji)]at hj
    simp only[hji,if_false]
    exact hG _ _ _ _ (hGv j hj) hr
  ·have hli:listed[i]=false:=by
    cases hb':listed[i]with
    |false=>rfl
    |true=>exact absurd (by simp[hilt',hb']) hni
   have e1:(listed.setIfInBounds i true).toList=listed.toList.set i true:=by simp
   rw[e1]
   have hil:i<listed.toList.length:=by simpa using hilt'
   have hget:listed.toList[i]=false:=by simpa using hli
   rw[List.count_set hil]
   rw[hget]
   have e2:((false==false)=true):=rfl
   have e3: ¬((true==false)=true):=by decide
   rw[if_pos e2,if_neg e3]
   omega
theorem region_linR {id n:Nat}{a0:Act}{w W:World}(G:Nat→Value→World→Prop)(Rd k0 st:Nat)(m:Nat)(hm:P.follows .mixedOrders=true)(hn:a0.tmps.size=n)(hok:linOk .any ops n=true)(hup:linUp .any ops=true)(ht:tailOk .any ops m=true)
  (hr0:Rand w Rd k0)(hG: ∀i v w w',G i v w→ExtR Rd w w'→G i v w')(hW:W=w.drew){k:Nat}(hsz:ops.size=k)(hmk:m≤k){ls:List (Nat×Option Tmp)}(hls:headD ops m=ls){ir:List Nat}(hir:List.range m=ir)
  (hs:StepsLR P .any ops G Rd st (k0+st*k) a0 W ir){tl:Array Bool}(htl:tailListed m (k-m)=tl)(he: ∀w,ExtR Rd W w→Rand w Rd (k0+st*m)→ForV G w ls a0 (fun a=>wpAny P .any ops Q (k-m) tl a w)):
  (Code.region id ops true).wp P Q a0 w:=by
 subst hsz hls hir htl
 refine wp_region_any hm ?_
 have hW':W={w with drawn:=w.drawn+1}:=hW
 rw[←hW']
 refine lin_anyR hok hup ht hmk hn hG hs he ops.size (Array.replicate ops.size false) a0 W (fun _=>undef) (by simp) ?_ ?_ (ExtR.refl _ _) ⟨0,by omega,by subst hW;exact hr0.drew⟩ ?_ ?_ ?_
 ·intro i o ho hl
  have hi:=(Array.getElem?_eq_some_iff.1 ho).1
  simp[hi]at hl
 ·intro i _
  by_cases hi:i<ops.size<;>simp[hi]
 ·refine FrI.nil.congr (fun i=> ?_) (fun _ _=>rfl)
  constructor
  ·exact False.elim
  ·intro h
   by_cases hi:i<ops.size
   ·simp[hi]at h
   ·simp[hi]at h
 ·intro i h
  by_cases hi:i<ops.size
  ·simp[hi]at h
  ·simp[hi]at h
 ·simp
end
def GMonoR (Rd:Nat)(g:Value→World→Prop):Prop:= ∀v w w',g v w→ExtR Rd w w'→g v w'
theorem glR_mono {Rd:Nat}{l:List (Value→World→Prop)}(h: ∀g∈l,GMonoR Rd g): ∀i v w w',gl l i v w→ExtR Rd w w'→gl l i v w':=by
 intro i v w w' hg hx
 unfold gl at*
 rw[List.getD_eq_getElem?_getD]at*
 cases hi:l[i]? with
 |none=>rw[hi]at hg;exact hg
 |some g=>
  rw[hi]at hg
  simp only[Option.getD_some]at*
  exact h g (List.mem_of_getElem? hi) _ _ _ hg hx
theorem gEqR_mono {Rd:Nat}(u:Value):GMonoR Rd (gEq u):=fun _ _ _ h _=>h
theorem gLitR_mono {Rd lo:Nat}(hl:Rd<lo)(t:TypeId)(cs:Array Value)(n:Nat):GMonoR Rd (gLit lo t cs n):=fun _ _ _ ⟨g,h1,h2,h3⟩ hx=>⟨g,h1,h2,h3.grown hx (fun e=>by injection e with e;omega)⟩
def gNum (n:Int):Value→World→Prop:=fun v _=> ∃x:Int,v= .int .i64 x∧0≤x∧x<n
theorem gNumR_mono {Rd:Nat}(n:Int):GMonoR Rd (gNum n):=fun _ _ _ h _=>h
def gInt:Value→World→Prop:=fun v _=> ∃x:Int,v= .int .i64 x
theorem gIntR_mono {Rd:Nat}:GMonoR Rd gInt:=fun _ _ _ h _=>h
theorem glR_nil {Rd:Nat}: ∀g∈([]:List (Value→World→Prop)),GMonoR Rd g:=fun _ h=>by cases h
theorem glR_cons {Rd:Nat}{g:Value→World→Prop}{l:List (Value→World→Prop)}(h:GMonoR Rd g)(k: ∀g∈l,GMonoR Rd g): ∀g'∈g::l,GMonoR Rd g':=fun g' h'=>by
 rcases List.mem_cons.1 h' with rfl|h'
 ·exact h
 ·exact k g' h'
theorem randE {Rd st k:Nat}{w w':World}(hr:Rand w Rd k)(hx:Ext w w'):ExtR Rd w w'∧Rand w' Rd (k+st):=⟨hx.r Rd,(hr.ext hx).mono (Nat.le_add_right k st)⟩
end Go.Proofs.YtndcnflchkfaeaaDoor

