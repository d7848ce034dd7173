/-
  Texts of this proof, packed (@packed).
-/
import Derived.BigQuiet
import Derived.Deep.AppendLies
import Derived.Deep.QuietTactic
import Derived.Deep.RegionLaw
import Derived.Laws.AppendOwn
import Derived.Laws.BitsAllLaws
import Derived.Laws.BitsLemmas
import Derived.Maps.AppendAt
import Derived.RegionTactic
import Derived.Test.YteejdnmmpmcmeaaGreatDoorK1
namespace Go.Proofs.YteejdnmmpmcmeaaGreatDoor
open Go.RowKit
set_option linter.unusedVariables false
def Rand (w:World)(R k:Nat):Prop:= ∃(p:Option Addr) (n cap:Nat) (q:Int) (bs:List Int),
 Blk w R 113 #[.slice p n cap,.int .i64 q]∧0≤q∧q≤k∧Sl w p n cap 1 (bs.map (Value.int .u8))∧n≤2000∧(∀x∈bs,0≤x∧x≤255)∧(0<n→ ∀b off,p=some ⟨b,off,none⟩→b<R)
theorem Rand.mono {w:World}{R k k':Nat}(h:Rand w R k)(hk:k≤k'):Rand w R k':=by
 obtain⟨p,n,cap,q,bs,h1,h2,h3,h4⟩:=h
 exact⟨p,n,cap,q,bs,h1,h2,by omega,h4⟩
theorem Rand.below {w w':World}{R k:Nat}(h:Rand w R k)(hx:Below (R+1) w w'):Rand w' R k:=by
 obtain⟨p,n,cap,q,bs,h1,h2,h3,h4,h5,h6,h7⟩:=h
 refine⟨p,n,cap,q,bs,(hx.block R (Nat.lt_succ_self R)).trans h1,h2,h3,⟨h4.len,h4.le,h4.mx,fun h0=> ?_⟩,h5,h6,h7⟩
 obtain⟨b,off,rfl,hb,hc⟩:=h4.rd h0
 have hbR:=h7 h0 b off rfl
 exact⟨b,off,rfl,Nat.lt_of_lt_of_le hb hx.size,fun k hk=>(World.cell?_of_block (hx.block b (by omega))).trans (hc k hk)⟩
theorem Rand.alloc {w:World}{R k:Nat}(h:Rand w R k)(o:Obj):Rand (w.alloc o) R k:=by
 obtain⟨p,n,cap,q,bs,h1,h2⟩:=id h
 exact h.below (Below.alloc (Below.refl _ _) h1.lt o)
theorem Rand.setCell {w:World}{R k:Nat}(h:Rand w R k){p:Addr}(hp:R<p.block)(u:Value):Rand (w.setCell p u) R k:=h.below (Below.setCell (Below.refl _ _) hp u)
theorem Rand.drew {w:World}{R k:Nat}(h:Rand w R k):Rand w.drew R k:=h.below (Below.drew (Below.refl _ _))
theorem Rand.ext {w w':World}{R k:Nat}(h:Rand w R k)(hx:Ext w w'):Rand w' R k:=by
 obtain⟨p,n,cap,q,bs,h1,h2,h3,h4,h5⟩:=h
 exact⟨p,n,cap,q,bs,h1.ext hx,h2,h3,h4.ext hx,h5⟩
theorem Rand.lt {w:World}{R k:Nat}(h:Rand w R k):R<w.heap.size:=by
 obtain⟨p,n,cap,q,bs,h1,_⟩:=h
 exact h1.lt
theorem sl_u8_at {w:World}{p:Option Addr}{n cap:Nat}{xs:List Int}(h:Sl w p n cap 1 (xs.map (Value.int .u8))){k:Nat}(hk:k<n):
  ∃b off x,p=some ⟨b,off,none⟩∧x∈xs∧b<w.heap.size∧w.cell? ⟨b,off+k,none⟩=some (.int .u8 x):=by
 obtain⟨b,off,rfl,hb,hc⟩:=h.rd (by omega)
 have hl:xs.length=n:=by simpa using h.len
 have hkl:k<xs.length:=by rw[hl];exact hk
 have hx:xs[k]? =some (xs[k]'hkl):=List.getElem?_eq_getElem hkl
 refine⟨b,off,_,rfl,List.getElem_mem hkl,hb,?_⟩
 rw[hc k (by omega),List.getElem?_map,hx];rfl
theorem ofInt_i64 (a:Nat)(ha:a<9223372036854775808):(BitVec.ofInt 64 (a:Int)).toNat=a:=by
 rw[BitVec.ofInt_natCast,BitVec.toNat_ofNat];exact Nat.mod_eq_of_lt (by omega)
theorem xor_nonneg (x y:Int)(hx:0≤x)(hx2:x<9223372036854775808)(hy:0≤y)(hy2:y<9223372036854775808):0≤bits .xor .i64 x y∧bits .xor .i64 x y<9223372036854775808:=by
 obtain⟨a,rfl⟩:=Int.eq_ofNat_of_zero_le hx
 obtain⟨b,rfl⟩:=Int.eq_ofNat_of_zero_le hy
 have hxx:a ^^^ b<2 ^ 63:=Nat.xor_lt_two_pow (by omega) (by omega)
 have e:bits .xor .i64 (a:Int) (b:Int)=((a ^^^ b:Nat):Int):=by
  show IntKind.i64.wrap ((BitVec.ofInt 64 (a:Int) ^^^ BitVec.ofInt 64 (b:Int)).toNat:Int)=_
  rw[BitVec.toNat_xor,ofInt_i64 a (by omega),ofInt_i64 b (by omega),IntKind.wrap_i64]
  omega
 rw[e];omega
def RandInt (R k:Nat)(n:Int)(w:World)(e:Ending)(w':World):Prop:= ∃x:Int,e= .returned (.int .i64 x)∧0≤x∧(x<n∨x=0)∧Rand w' R (k+1)∧ExtR R w w'
theorem rand_step {w w':World}{R k:Nat}{p:Option Addr}{n cap:Nat}{q:Int}{bs:List Int}(hw:w'=w.setCell ⟨R,1,none⟩ (.int .i64 (q+1)))
  (h1:Blk w R 113 #[.slice p n cap,.int .i64 q])(h2:0≤q)(h3:q≤k)(h4:Sl w p n cap 1 (bs.map (Value.int .u8)))(h5:n≤2000)(h6: ∀x∈bs,0≤x∧x≤255)(h7:0<n→ ∀b off,p=some ⟨b,off,none⟩→b<R):
  Rand w' R (k+1)∧ExtR R w w':=by
 have hx:ExtR R w w':=by rw[hw];exact(ExtR.refl R w).setCell (p:=⟨R,1,none⟩) (.inl rfl) _
 refine⟨⟨p,n,cap,q+1,bs,by rw[hw];exact h1.set 1 _,by omega,by omega,hx.sl (b0:=0) h4 (fun h0 b off e=>by have:=h7 h0 b off e;omega),h5,h6,h7⟩,hx⟩
set_option maxRecDepth 100000 in
set_option maxHeartbeats 1000000 in
theorem pick_any (R k:Nat)(n:Int)(w:World)(hr:Rand w R k)(hk:k≤1099511627776):
  Calls Tryz.prog 104 #[.pointer (some ⟨R,0,none⟩),.int .i64 n] w (RandInt R k n w):=by
 obtain⟨p,m,cap,q,bs,h1,h2,h3,h4,h5,h6,h7'⟩:=hr
 have h7:0<m→ ∀b off,p=some ⟨b,off,none⟩→b≠R:=fun h0 b off e=>by have:=h7' h0 b off e;omega
 have c0:w.cell? ⟨R,0,none⟩=some (.slice p m cap):=h1.cell 0
 have c1:w.cell? ⟨R,1,none⟩=some (.int .i64 q):=h1.cell 1
 have f1:w.frozen? ⟨R,1,none⟩=false:=h1.frozen 1
 have HS:=Lib.hid (fun w' hw=>rand_step (w':=w') hw h1 h2 h3 h4 h5 h6 h7')
 by_cases hn:n<1
 ·clear h4 h6 h7
  go_enter Tryz.func104,Tryz.ntmps104
  go_wp2
  go_ret
  exact⟨0,rfl,by omega,.inr rfl,HS.out _ rfl⟩
 ·by_cases hm:m=0
  ·subst hm
   clear h4 h6 h7
   go_enter Tryz.func104,Tryz.ntmps104
   go_wp2
   go_ret
   exact⟨0,rfl,by omega,.inr rfl,HS.out _ rfl⟩
  ·by_cases hq:q<m
   ·obtain⟨b,off,x,rfl,hx,hb,hc⟩:=sl_u8_at h4 (k:=q.toNat) (by omega)
    obtain⟨x0,x1⟩:=h6 x hx
    have hbR:b≠R:=h7 (by omega) b off rfl
    have hl:=h4.le
    clear h4 h6 h7
    go_enter Tryz.func104,Tryz.ntmps104
    go_wp2
    go_ret
    exact⟨_,rfl,Int.emod_nonneg _ (by omega),.inl (Int.emod_lt_of_pos _ (by omega)),HS.out _ rfl⟩
   ·obtain⟨b,off,x,rfl,hx,hb,hc⟩:=sl_u8_at h4 (k:=(q%m).toNat) (by have:=Int.emod_lt_of_pos q (show(0:Int)<m by omega);have:=Int.emod_nonneg q (show(m:Int)≠0 by omega);omega)
    obtain⟨b2,off2,y,hp2,hy,hb2,hc2⟩:=sl_u8_at h4 (k:=((q*7+3)%m).toNat) (by have:=Int.emod_lt_of_pos (q*7+3) (show(0:Int)<m by omega);have:=Int.emod_nonneg (q*7+3) (show(m:Int)≠0 by omega);omega)
    simp only[Option.some.injEq,Addr.mk.injEq,and_true]at hp2
    obtain⟨rfl,rfl⟩:=hp2
    obtain⟨x0,x1⟩:=h6 x hx
    obtain⟨y0,y1⟩:=h6 y hy
    have hbR:b≠R:=h7 (by omega) b off rfl
    have hl:=h4.le
    have i1:0≤q%m:=Int.emod_nonneg _ (by omega)
    have i2:q%m<m:=Int.emod_lt_of_pos _ (by omega)
    have i3:0≤(q*7+3)%m:=Int.emod_nonneg _ (by omega)
    have i4:(q*7+3)%m<m:=Int.emod_lt_of_pos _ (by omega)
    have i5:0≤q/m:=Int.ediv_nonneg h2 (by omega)
    have i6:q/m≤q:=Int.ediv_le_self _ h2
    clear h4 h6 h7
    go_enter Tryz.func104,Tryz.ntmps104
    go_wp2
    go_quiet (fail)
    all_goals go_wp2
    all_goals go_ret
    have z0:0≤x*131+y*1117+q*29+q/m*53:=by omega
    have z1:x*131+y*1117+q*29+q/m*53<9223372036854775808:=by omega
    obtain⟨z2,z3⟩:=xor_nonneg (x*131+y*1117+q*29+q/m*53) ((x*131+y*1117+q*29+q/m*53)/64) z0 z1 (by omega) (by omega)
    refine⟨_,rfl,?_,.inl ?_,?_⟩
    ·rw[Int.tmod_eq_emod_of_nonneg z2];exact Int.emod_nonneg _ (by omega)
    ·rw[Int.tmod_eq_emod_of_nonneg z2];exact Int.emod_lt_of_pos _ (by omega)
    ·obtain⟨a1,a2⟩:=HS.out _ rfl
     exact⟨a1.ext (Ext.drewN (Ext.refl _) _),a2.drewN _⟩
end Go.Proofs.YteejdnmmpmcmeaaGreatDoor

namespace Go.Proofs.YteejdnmmpmcmeaaGreatDoor
open Go Go.RowKit
set_option linter.unusedVariables false
section
variable {P:Program} {ops:Array Oper} {Q:Exit→Act→World→Prop} {md:Region.Mode} {G:Nat→Value→World→Prop} {Rd st:Nat}
def StepAtR (P:Program)(ops:Array Oper)(G:Nat→Value→World→Prop)(Rd st kk:Nat)(i:Nat)(o:Oper)(w:World)(a:Act):Prop:=
 ∀K':Act→World→Prop,(∀a' w'',(∃v,a'=a.put o.dst v∧G i v w''∧ExtR Rd w w''∧Rand w'' Rd (kk+st))→K' a' w'')→if Region.wanted o (yielded ops a.tmps)=true then Oper.wp P o a w K' (fun _ _ _=>False)else K' (a.put o.dst undef) w
def StepsLR (P:Program)(md:Region.Mode)(ops:Array Oper)(G:Nat→Value→World→Prop)(Rd st:Nat)(top:Nat)(a0:Act)(W:World)(l:List Nat):Prop:=
 ∀i∈l,∀o,ops[i]? =some o→ ∀w kk,ExtR Rd W w→Rand w Rd kk→kk≤top→ForV G w (needD ops i) a0 (StepAtR P ops G Rd st kk i o w)
theorem StepsLR.nil {top:Nat}{a0:Act}{W:World}:StepsLR P md ops G Rd st top a0 W []:=fun _ h=>by cases h
theorem StepsLR.cons {top:Nat}{a0:Act}{W:World}{i:Nat}{o:Oper}{ps:List (Nat×Option Tmp)}{is:List Nat}(ho:ops[i]? =some o) (hp:needD ops i=ps)
  (h: ∀w kk,ExtR Rd W w→Rand w Rd kk→kk≤top→ForV G w ps a0 (StepAtR P ops G Rd st kk i o w)) (hs:StepsLR P md ops G Rd st top a0 W is):StepsLR P md ops G Rd st top a0 W (i::is):=by
 intro j hj o' ho' w kk hw hr hk
 rcases List.mem_cons.1 hj with rfl|hj
 ·rw[ho]at ho';cases ho';rw[hp];exact h w kk hw hr hk
 ·exact hs j hj o' ho' w kk hw hr hk
theorem step_ofR {n:Nat}(hok:linOk md ops n=true){a0:Act}{kk:Nat}(hn:a0.tmps.size=n){vals:Nat→Value}{w:World}{l:Nat→Prop}{a b:Act}{i:Nat}{o:Oper}(ho:ops[i]? =some o)
  (hpl: ∀e∈o.after,Region.binds md e=true→l e.on) (hni: ¬l i)
  (ha:FrI ops a0 vals l a) (hb:FrI ops a0 vals (fun j=>j∈(needD ops i).map (·.1)) b) (h:StepAtR P ops G Rd st kk i o w b) {K:Act→World→Prop}
  (hK: ∀v w'',G i v w''→ExtR Rd w w''∧Rand w'' Rd (kk+st)→K (a.put o.dst v) w''):wpOp P ops Q i K a w:=by
 obtain⟨hsel,hs⟩:=linOk_spec hok
 obtain⟨h1,h2⟩:=hs i o ho
 have hsel': ∀cs x,o.op≠ .select cs x:=fun cs x=>Region.noSelect_spec hsel i o cs x ho
 have hlook: ∀t∈o.looksAt ops,a.tmps[t]? =b.tmps[t]? :=fun t ht=>by
  by_cases hd: ∃j,dstOf ops j=some t
  ·obtain⟨j,hj⟩:=hd
   obtain⟨e,he,hbi,rfl⟩:=h2 t ht j hj
   rw[ha.mem _ _ hj (hpl e he hbi),hb.mem _ _ hj (needD_of ho hj ht)]
  ·rw[ha.out t fun j _ hj=>hd ⟨j,hj⟩,hb.out t fun j _ hj=>hd ⟨j,hj⟩]
 have hev:execOp a.eval o=execOp b.eval o:=execOp_congr o hsel' fun x hx=>by
  cases x with
  |tmp t=>
   have:=hlook t (List.mem_append_left _ (List.mem_filterMap.2 ⟨.tmp t,by simpa using hx,rfl⟩))
   simp only[Act.eval,Array.getD_eq_getD_getElem?,this]
  |_=>rfl
 have hwa:Region.wanted o (yielded ops a.tmps)=Region.wanted o (yielded ops b.tmps):=by
  unfold Region.wanted
  cases hg:o.guard with
  |none=>rfl
  |some gw=>
   obtain⟨g,want⟩:=gw
   have:yielded ops a.tmps g=yielded ops b.tmps g:=by
    unfold yielded
    cases ht:(ops[g]?).bind (·.dst)with
    |none=>rfl
    |some t=>
     have:=hlook t (by simp[Oper.looksAt,hg,ht])
     simp[this]
   simp only[this]
 have hst:=h (fun a' w'=> ∃v,a'=b.put o.dst v∧G i v w'∧ExtR Rd w w'∧Rand w' Rd (kk+st)) (fun a' w'' h=>h)
 have back: ∀u v:Value,b.put o.dst u=b.put o.dst v→a.put o.dst u=a.put o.dst v:=fun u v he=>by
  cases hd:o.dst with
  |none=>rfl
  |some d=>
   rw[hd]at he
   obtain⟨hlt,-⟩:=h1 d hd
   have e1:(b.tmps.setIfInBounds d u)[d]? =(b.tmps.setIfInBounds d v)[d]? :=by
    have:=congrArg Act.tmps he
    simp only[Act.put]at this
    rw[this]
   have hbs:d<b.tmps.size:=by rw[hb.size,hn];exact hlt
   simp[hbs]at e1
   rw[e1]
 refine wpOp_step ho fun K' hK'=> ?_
 rw[hwa]
 split
 ·rename_i hw
  rw[if_pos hw]at hst
  unfold Oper.wp at*
  rw[hev]
  generalize (execOp b.eval o).run P w=r at*
  cases r with
  |ok m w'=>
   cases m<;>simp only[Oper.upon]at hst⊢
   case value u=>
    obtain⟨v,he,hg,hr⟩:=hst
    rw[back _ _ he];exact hK' _ _ (hK v _ hg hr)
   case skip=>
    obtain⟨v,he,hg,hr⟩:=hst
    rw[back _ _ he];exact hK' _ _ (hK v _ hg hr)
   case defer d=>
    obtain⟨v,he,hg,hr⟩:=hst
    have:=congrArg Act.defers he
    cases hd:o.dst<;>simp[Act.put,hd]at this
   case enter f args=>
    refine Calls.mono hst fun e w'' he=> ?_
    cases e with
    |returned u=>
     obtain⟨v,he,hg,hr⟩:=he
     show K' _ _
     rw[back _ _ he];exact hK' _ _ (hK v _ hg hr)
    |panicked c=>exact he.elim
    |outgrown=>obtain⟨_,_,h⟩:=he;exact h.elim
   case row row args=>
    refine Rows.mono hst fun u w'' he=> ?_
    obtain⟨v,he,hg,hr⟩:=he
    rw[back _ _ he];exact hK' _ _ (hK v _ hg hr)
  |halt x w'=>
   cases x<;>simp only[Oper.upon]at hst
 ·rename_i hw
  rw[if_neg hw]at hst
  obtain⟨v,he,hg,hr⟩:=hst
  rw[back _ _ he];exact hK' _ _ (hK v _ hg hr)
theorem lin_anyR {n m:Nat}(hok:linOk md ops n=true)(hup:linUp md ops=true)(ht:tailOk md ops m=true)(hm:m≤ops.size){a0:Act}(hn:a0.tmps.size=n){W:World}{k0:Nat}(hG: ∀i v w w',G i v w→ExtR Rd w w'→G i v w')
  (hs:StepsLR P md ops G Rd st (k0+st*ops.size) a0 W (List.range m))(he: ∀w,ExtR Rd W w→Rand w Rd (k0+st*m)→ForV G w (headD ops m) a0 (fun a=>wpAny P md ops Q (ops.size-m) (tailListed m (ops.size-m)) a w)):
  ∀(fuel:Nat) (listed:Array Bool) (a:Act) (w:World) (vals:Nat→Value),listed.size=ops.size→(∀i o,ops[i]? =some o→listed.getD i false=true→ ∀e∈o.after,Region.binds md e=true→listed.getD e.on false=true)→
   (∀i,m≤i→listed.getD i false=false)→
   ExtR Rd W w→(∃j,j+fuel=ops.size∧Rand w Rd (k0+st*j))→FrI ops a0 vals (fun j=>listed.getD j false=true) a→(∀i,listed.getD i false=true→G i (vals i) w)→
   List.count false listed.toList=fuel→wpAny P md ops Q fuel listed a w:=by
 intro fuel
 -- all of the head have come up
 have fin: ∀(fuel:Nat) (listed:Array Bool) (a:Act) (w:World) (vals:Nat→Value),listed.size=ops.size→(∀i,m≤i→listed.getD i false=false)→ExtR Rd W w→(∃j,j+fuel=ops.size∧Rand w Rd (k0+st*j))→FrI ops a0 vals (fun j=>listed.getD j false=true) a→(∀i,listed.getD i false=true→G i (vals i) w)→
   List.count false listed.toList=fuel→(∀i,i<m→listed.getD i false=true)→wpAny P md ops Q fuel listed a w:=by
  intro fuel listed a w vals hsz hnt hR hRn hF hGv hcnt hall
  have e2l:listed.toList=List.replicate m true++List.replicate (ops.size-m) false:=by
   apply List.ext_getElem?
   intro i
   rw[Array.getElem?_toList]
   by_cases him:i<m
   ·have h1:=hall i him
    have h2:i<listed.size:=by omega
    simp[h2]at h1
    simp[h2,h1,List.getElem?_append,him]
   ·by_cases hio:i<listed.size
    ·have h1:=hnt i (by omega)
     simp[hio]at h1
     have h2:i-m<ops.size-m:=by omega
     rw[List.getElem?_append_right (by simp;omega)]
     simp[hio,h1,h2]
    ·rw[Array.getElem?_eq_none (by omega),List.getElem?_eq_none (by simp;omega)]
  have e2:listed=tailListed m (ops.size-m):=by
   unfold tailListed
   rw[←e2l]
  have e3:fuel=ops.size-m:=by
   rw[←hcnt,e2]
   simp[tailListed,List.count_append,List.count_replicate]
  have h:=he w hR (by
   obtain⟨j,hj,hr⟩:=hRn
   have:j=m:=by omega
   rw[this]at hr;exact hr)
  obtain⟨b,hb,hq⟩:=ForV.get hok hn (G:=G) (vals:=vals) (headD ops m) (fun _=>False) a0 (fun p hp=>by
   unfold headD at hp
   obtain⟨i,hi,rfl⟩:=List.mem_map.1 hp
   have:=List.mem_range.1 hi
   exact⟨⟨ops[i]'(by omega),Array.getElem?_eq_getElem _⟩,rfl⟩) (fun p hp=>by
   unfold headD at hp
   obtain⟨i,hi,rfl⟩:=List.mem_map.1 hp
   exact hGv i (hall i (List.mem_range.1 hi))) FrI.nil h
  have e1:a=b:=hF.eq (hb.congr (fun i=>by
   simp only[false_or,headD,List.map_map,List.mem_map,List.mem_range]
   constructor
   ·rintro⟨j,hj,rfl⟩;exact hall j hj
   ·intro hl
    refine⟨i,?_,rfl⟩
    rcases Nat.lt_or_ge i m with h'|h'
    ·exact h'
    ·rw[hnt i h']at hl;cases hl) (fun _ _=>rfl))
  rw[e1,e2,e3];exact hq
 induction fuel with
 |zero=>
  intro listed a w vals hsz hcl hnt hR hRn hF hGv hcnt
  refine fin 0 listed a w vals hsz hnt hR hRn hF hGv hcnt fun i hi=> ?_
  have hi':i<listed.size:=by omega
  cases hb:listed[i]with
  |true=>simp[hb,hi']
  |false=>
   have hmem:false∈listed.toList:=by
    rw[←hb];simp
   have:=List.count_pos_iff.2 hmem
   omega
 |succ fuel ih=>
  intro listed a w vals hsz hcl hnt hR hRn hF hGv hcnt
  by_cases hall: ∀i,i<m→listed.getD i false=true
  ·exact fin _ listed a w vals hsz hnt hR hRn hF hGv hcnt hall
  refine⟨fun h=> ?_,fun i hi=> ?_⟩
  ·exact absurd (fun i hi=>linUp_all hup listed hsz h i (by omega)) hall
  have him:i<m:=by
   rcases Nat.lt_or_ge i m with h|h
   ·exact h
   ·exact absurd (tail_all hup ht listed hm hcl hnt hi h) hall
  obtain⟨h0,o,ho,hpre⟩:=mem_ready.1 hi
  have hilt:i<ops.size:=(Array.getElem?_eq_some_iff.1 ho).1
  have hilt':i<listed.size:=by rw[hsz];exact hilt
  have hni: ¬listed.getD i false=true:=by
   intro h
   simp[hilt']at h h0
   rw[h0]at h;cases h
  obtain⟨jj,hjj,hr0⟩:=hRn
  have hstep:=hs i (List.mem_range.2 him) o ho w (k0+st*jj) hR hr0 (Nat.add_le_add_left (Nat.mul_le_mul_left st (by omega)) k0)
  have hlk: ∀p∈needD ops i,listed.getD p.1 false=true:=fun p hp=>by
   obtain⟨_,_,d,hd,hl⟩:=needD_mem ho hp
   obtain⟨e,he,hbd,hpe⟩:=((linOk_spec hok).2 i o ho).2 d hl p.1 hd
   have h3:=hpre e he hbd
   rwa[hpe]at h3
  obtain⟨b,hb,hst⟩:=ForV.get hok hn (G:=G) (vals:=vals) (needD ops i) (fun _=>False) a0 (fun p hp=>by
   obtain⟨h1,h2,_⟩:=needD_mem ho hp
   exact⟨⟨ops[p.1]'h1,Array.getElem?_eq_getElem _⟩,h2⟩) (fun p hp=>hGv _ (hlk p hp)) FrI.nil hstep
  refine step_ofR (vals:=vals) hok hn ho (fun e he hbd=>hpre e he hbd) hni hF (hb.congr (fun j=>by simp) (fun _ _=>rfl)) hst fun v w'' hg ⟨hr,hr2⟩=> ?_
  refine ih (listed.setIfInBounds i true) _ w'' (fun j=>if j=i then v else vals j) (by simpa using hsz) ?_ ?_ (hR.trans hr) ⟨jj+1,by omega,by rw[Nat.mul_succ,←Nat.add_assoc];exact hr2⟩ ?_ ?_ ?_
  ·intro j oj hoj hj e he hbd
   by_cases hji:j=i
   ·subst hji
    rw[ho]at hoj;cases hoj
    exact getD_set_true (hpre e he hbd)
   ·rw[Go.getD_set_ne false (Ne.symm hji)]at hj
    exact getD_set_true (hcl j oj hoj hj e he hbd)
  ·intro j hj
   rw[Go.getD_set_ne false (by omega)]
   exact hnt j hj
  ·refine(hF.put hok hn ho v (fun h=>absurd h hni)).congr (fun j=> ?_) (fun _ _=>rfl)
   by_cases hji:j=i
   ·subst hji;simp[hilt']
   ·rw[Go.getD_set_ne false (Ne.symm hji)];simp[hji]
  ·intro j hj
   by_cases hji:j=i
   ·subst hji;simp only[if_true];exact hg
   ·rw[Go.getD_set_ne false (Ne.symm hji)]at hj
    simp only[hji,if_false]
    exact hG _ _ _ _ (hGv j hj) hr
  ·have hli:listed[i]=false:=by
    cases hb':listed[i]with
    |false=>rfl
    |true=>exact absurd (by simp[hilt',hb']) hni
   have e1:(listed.setIfInBounds i true).toList=listed.toList.set i true:=by simp
   rw[e1]
   have hil:i<listed.toList.length:=by simpa using hilt'
   have hget:listed.toList[i]=false:=by simpa using hli
   rw[List.count_set hil]
   rw[hget]
   have e2:((false==false)=true):=rfl
   have e3: ¬((true==false)=true):=by decide
   rw[if_pos e2,if_neg e3]
   omega
theorem region_linR {id n:Nat}{a0:Act}{w W:World}(G:Nat→Value→World→Prop)(Rd k0 st:Nat)(m:Nat)(hm:P.follows .mixedOrders=true)(hn:a0.tmps.size=n)(hok:linOk .any ops n=true)(hup:linUp .any ops=true)(ht:tailOk .any ops m=true)
  (hr0:Rand w Rd k0)(hG: ∀i v w w',G i v w→ExtR Rd w w'→G i v w')(hW:W=w.drew){k:Nat}(hsz:ops.size=k)(hmk:m≤k){ls:List (Nat×Option Tmp)}(hls:headD ops m=ls){ir:List Nat}(hir:List.range m=ir)
  (hs:StepsLR P .any ops G Rd st (k0+st*k) a0 W ir){tl:Array Bool}(htl:tailListed m (k-m)=tl)(he: ∀w,ExtR Rd W w→Rand w Rd (k0+st*m)→ForV G w ls a0 (fun a=>wpAny P .any ops Q (k-m) tl a w)):
  (Code.region id ops true).wp P Q a0 w:=by
 subst hsz hls hir htl
 refine wp_region_any hm ?_
 have hW':W={w with drawn:=w.drawn+1}:=hW
 rw[←hW']
 refine lin_anyR hok hup ht hmk hn hG hs he ops.size (Array.replicate ops.size false) a0 W (fun _=>undef) (by simp) ?_ ?_ (ExtR.refl _ _) ⟨0,by omega,by subst hW;exact hr0.drew⟩ ?_ ?_ ?_
 ·intro i o ho hl
  have hi:=(Array.getElem?_eq_some_iff.1 ho).1
  simp[hi]at hl
 ·intro i _
  by_cases hi:i<ops.size<;>simp[hi]
 ·refine FrI.nil.congr (fun i=> ?_) (fun _ _=>rfl)
  constructor
  ·exact False.elim
  ·intro h
   by_cases hi:i<ops.size
   ·simp[hi]at h
   ·simp[hi]at h
 ·intro i h
  by_cases hi:i<ops.size
  ·simp[hi]at h
  ·simp[hi]at h
 ·simp
end
def GMonoR (Rd:Nat)(g:Value→World→Prop):Prop:= ∀v w w',g v w→ExtR Rd w w'→g v w'
theorem glR_mono {Rd:Nat}{l:List (Value→World→Prop)}(h: ∀g∈l,GMonoR Rd g): ∀i v w w',gl l i v w→ExtR Rd w w'→gl l i v w':=by
 intro i v w w' hg hx
 unfold gl at*
 rw[List.getD_eq_getElem?_getD]at*
 cases hi:l[i]? with
 |none=>rw[hi]at hg;exact hg
 |some g=>
  rw[hi]at hg
  simp only[Option.getD_some]at*
  exact h g (List.mem_of_getElem? hi) _ _ _ hg hx
theorem gEqR_mono {Rd:Nat}(u:Value):GMonoR Rd (gEq u):=fun _ _ _ h _=>h
theorem gBlkR_mono {Rd lo:Nat}(hl:Rd<lo)(t:TypeId)(cs:Array Value):GMonoR Rd (gBlk lo t cs):=fun _ _ _ ⟨g,h1,h2,h3⟩ hx=>⟨g,h1,h2,h3.grown hx (fun e=>by injection e with e;omega)⟩
theorem gLitR_mono {Rd lo:Nat}(hl:Rd<lo)(t:TypeId)(cs:Array Value)(n:Nat):GMonoR Rd (gLit lo t cs n):=fun _ _ _ ⟨g,h1,h2,h3⟩ hx=>⟨g,h1,h2,h3.grown hx (fun e=>by injection e with e;omega)⟩
def gNum (n:Int):Value→World→Prop:=fun v _=> ∃x:Int,v= .int .i64 x∧0≤x∧x<n
theorem gNumR_mono {Rd:Nat}(n:Int):GMonoR Rd (gNum n):=fun _ _ _ h _=>h
def gInt:Value→World→Prop:=fun v _=> ∃x:Int,v= .int .i64 x
theorem gIntR_mono {Rd:Nat}:GMonoR Rd gInt:=fun _ _ _ h _=>h
theorem glR_nil {Rd:Nat}: ∀g∈([]:List (Value→World→Prop)),GMonoR Rd g:=fun _ h=>by cases h
theorem glR_cons {Rd:Nat}{g:Value→World→Prop}{l:List (Value→World→Prop)}(h:GMonoR Rd g)(k: ∀g∈l,GMonoR Rd g): ∀g'∈g::l,GMonoR Rd g':=fun g' h'=>by
 rcases List.mem_cons.1 h' with rfl|h'
 ·exact h
 ·exact k g' h'
theorem randE {Rd st k:Nat}{w w':World}(hr:Rand w Rd k)(hx:Ext w w'):ExtR Rd w w'∧Rand w' Rd (k+st):=⟨hx.r Rd,(hr.ext hx).mono (Nat.le_add_right k st)⟩
end Go.Proofs.YteejdnmmpmcmeaaGreatDoor

namespace Go.Proofs.YteejdnmmpmcmeaaGreatDoor
open Go.RowKit
set_option linter.unusedVariables false
structure ElT (P:Program) (t e:TypeId) (sz:Nat):Prop where
 ht:P.underlying t=some (.slice e)
 info: ∃i z,P.info? e=some i∧i.zero=some z∧i.size=sz∧i.bytes≤64∧z.cells.size=sz
 pos:0<sz
theorem own_form {w:World}{base sz n:Nat}{e:TypeId}{v:Value}{xs:List Value}(h:w.ownsRow base e sz v n xs): ∃p cap,v= .slice p n cap:=by
 rcases h.2 with⟨h1,h2⟩|⟨g,cap,_,h1,_⟩
 ·exact⟨none,0,by rw[h1,h2]⟩
 ·exact⟨_,cap,h1⟩
theorem Ext.own {a b c:World}{base sz n:Nat}{e:TypeId}{v:Value}{xs:List Value}(h:Ext a b)(ho:b.ownsRow base e sz v n xs)(hg:b.grownBy c v.ownBlock)(hb:a.heap.size≤base):Ext a c:=
 h.grown hg (fun q hq=>Nat.le_trans hb (ho.lt q hq).1)
section
variable {P:Program} {w:World} {ops:Array Oper} {rest:List Oper} {o:Oper} {a:Act} {Q:Exit→Act→World→Prop}
theorem wpList_append_el {α:Type}{t e:TypeId}{sz:Nat}(E:ElT P t e sz){f:α→List Value}(hf: ∀a,(f a).length=sz)(h1: ∀a,∀u∈f a,u.oneCell'=true)(hgd:o.guard=none)(s x:Operand)
  (ho:o.op= .call {callee:= .builtin .append,args:=#[s,x],argTypes:=#[t,t]})
  (base:Nat)(v:Value)(n:Nat)(xs:List α)(hs:a.eval s=v)(hown:w.ownsRow base e sz v n (xs.flatMap f))
  (b off:Nat)(y:α)(c:Nat)(hx:a.eval x= .slice (some ⟨b,off,none⟩) 1 c)(hc: ∀j u,(f y)[j]? =some u→w.cell? ⟨b,off+j,none⟩=some u)
  (hn:n≤1099511627776) (hbase:base≤w.heap.size)
  (h: ∀p' cap' w',w'.ownsRow base e sz (.slice p' (n+1) cap') (n+1) ((xs++ [y]).flatMap f)→w.grownBy w' v.ownBlock→wpList P ops Q rest (a.put o.dst (.slice p' (n+1) cap')) w'):wpList P ops Q (o::rest) a w:=by
 obtain⟨i,z,hi,hz,hsz,hby,hzs⟩:=E.info
 refine wpList_append_own w hgd s x t ho base e i z sz i.bytes E.ht hi hz hsz rfl hzs E.pos v n _ hs hown ⟨b,off,none⟩ 1 c (f y) hx (by rw[hf];omega) (fun j u hu=>by rw[addr_add];exact hc j u hu) (h1 y) (by unfold maxLen;omega) ?_ hbase ?_
 ·have:(n+1)*i.bytes≤(n+1)*64:=Nat.mul_le_mul_left _ hby
  omega
 ·intro v' w' h2 h3 _
  obtain⟨p,cap,rfl⟩:=own_form h2
  exact h p cap w' (by rw[List.flatMap_append];simpa using h2) h3
theorem wpList_append_int (E:ElT P 23 3 1)(hgd:o.guard=none)(s x:Operand)
  (ho:o.op= .call {callee:= .builtin .append,args:=#[s,x],argTypes:=#[23,23]})
  (base:Nat)(v:Value)(n:Nat)(xs:List Int)(hs:a.eval s=v)(hown:w.ownsRow base 3 1 v n (ivs xs))
  (b off:Nat)(y:Int)(c:Nat)(hx:a.eval x= .slice (some ⟨b,off,none⟩) 1 c)(hc:w.cell? ⟨b,off,none⟩=some (iv y))
  (hn:n≤1099511627776)(hbase:base≤w.heap.size)
  (h: ∀p' cap' w',w'.ownsRow base 3 1 (.slice p' (n+1) cap') (n+1) (ivs (xs++ [y]))→w.grownBy w' v.ownBlock→wpList P ops Q rest (a.put o.dst (.slice p' (n+1) cap')) w'):wpList P ops Q (o::rest) a w:=by
 refine wpList_append_el E (f:=fun x=> [iv x]) (fun _=>rfl) (fun _ u hu=>by simp at hu;subst hu;rfl) hgd s x ho base v n xs hs (by rw[ivs_flat];exact hown) b off y c hx (fun j u hu=> ?_) hn hbase (fun p' cap' w' h2 h3=>h p' cap' w' (by rw[ivs_flat]at h2;exact h2) h3)
 match j,hu with
 |0,hu=>simp at hu;subst hu;exact hc
end
theorem elInt:ElT Tryz.prog 23 3 1:=
 ⟨Tryz.underlying23,by
  obtain⟨i,hi,h0,h1,h2⟩:=info_parts (show(Tryz.prog.info? 3).map (fun i=>(i.zero,i.size,i.bytes))=some (some (.int .i64 0),1,8) by kernel_rfl)
  exact⟨i,_,hi,h0,h1,by omega,rfl⟩,Nat.one_pos⟩
end Go.Proofs.YteejdnmmpmcmeaaGreatDoor

namespace Go.Proofs.YteejdnmmpmcmeaaGreatDoor
open Go.RowKit
set_option linter.unusedVariables false
section
variable {P:Program} (w:World)
theorem run_append_sl {t e ty:TypeId}{sz:Nat}(E:ElT P t e sz)(base:Nat)(v:Value)(n:Nat)(xs:List Value)(hown:w.ownsRow base e sz v n xs)(p:Option Addr)(m c:Nat)(news:List Value)(hs:Sl w p m c sz news)
  (h1: ∀u∈news,u.oneCell'=true)(hn:n+m≤1099511627776)(hbase:base≤w.heap.size):
  ∃p' cap' w',(Builtin.append_ #[t,t] ty #[v,.slice p m c]).run P w= .ok (.slice p' (n+m) cap') w'∧w'.ownsRow base e sz (.slice p' (n+m) cap') (n+m) (xs++news)∧w.grownBy w' v.ownBlock:=by
 obtain⟨i,z,hi,hz,hsz,hby,hzs⟩:=E.info
 cases p with
 |none=>
  have hm:m=0:=by
   rcases Nat.eq_zero_or_pos m with h0|h0
   ·exact h0
   ·obtain⟨b,off,h,_⟩:=hs.rd h0;cases h
  subst hm
  have hnews:news= []:=List.eq_nil_of_length_eq_zero (by simpa using hs.len)
  subst hnews
  obtain⟨q,cap,rfl⟩:=own_form hown
  refine⟨q,cap,w,?_,by simpa using hown,World.grownBy.refl w _⟩
  rcases hown.2 with⟨h2,h3⟩|⟨g,cap',cur,h2,_,_,hnc,_⟩
  ·injection h2 with e1 e2 e3
   subst e1 e2 e3
   simp[Builtin.append_,run_underlying E.ht,sizeOf,typeInfo,hi,Builtin.lenOf,Builtin.firstCells]
  ·injection h2 with e1 e2 e3
   subst e1 e3
   simp[Builtin.append_,run_underlying E.ht,sizeOf,typeInfo,hi,Builtin.lenOf,Builtin.firstCells,hnc,storeCells]
 |some ad=>
  have hcells: ∀j u,news[j]? =some u→w.cell? (ad.add j)=some u:=by
   intro j u hu
   rcases Nat.eq_zero_or_pos m with h0|h0
   ·subst h0
    have hnews:news= []:=List.eq_nil_of_length_eq_zero (by simpa using hs.len)
    subst hnews
    simp at hu
   ·obtain⟨b,off,h,_,hc⟩:=hs.rd h0
    injection h with h
    subst h
    rw[addr_add,hc j (by rw[←hs.len];exact(List.getElem?_eq_some_iff.1 hu).1)]
    exact hu
  have hbb:(n+m)*i.bytes≤140737488355328:=by
   have:(n+m)*i.bytes≤(n+m)*64:=Nat.mul_le_mul_left _ hby
   omega
  obtain⟨v',w',hrun,h2,h3,_,_⟩:=run_append_own_at (P:=P) w base t ty e i z sz i.bytes E.ht hi hz hsz rfl hzs E.pos v n xs hown ad m c news hs.len hcells h1 (by unfold maxLen;omega) hbb hbase
  obtain⟨q,cap,rfl⟩:=own_form h2
  exact⟨q,cap,w',hrun,h2,h3⟩
theorem wp_append_sl {o:Oper}{a:Act}{K:Act→World→Prop}{Q:Exit→Act→World→Prop}{t e:TypeId}{sz:Nat}(E:ElT P t e sz)(s x:Operand)
  (ho:o.op= .call {callee:= .builtin .append,args:=#[s,x],argTypes:=#[t,t]})
  (base:Nat)(v:Value)(n:Nat)(xs:List Value)(hs:a.eval s=v)(hown:w.ownsRow base e sz v n xs)
  (p:Option Addr)(m c:Nat)(news:List Value)(hx:a.eval x= .slice p m c)(hr:Sl w p m c sz news)(h1: ∀u∈news,u.oneCell'=true)
  (hn:n+m≤1099511627776)(hbase:base≤w.heap.size)
  (h: ∀p' cap' w',w'.ownsRow base e sz (.slice p' (n+m) cap') (n+m) (xs++news)→w.grownBy w' v.ownBlock→K (a.put o.dst (.slice p' (n+m) cap')) w'):o.wp P a w K Q:=by
 obtain⟨p',cap',w',hrun,h2,h3⟩:=run_append_sl (ty:=o.type) w E base v n xs hown p m c news hr h1 hn hbase
 unfold Oper.wp execOp
 simp only[ho,resolve,invoke,builtin,Sem.run_bind,Sem.run_pure,Result.andThen_ok,List.map_toArray,List.map_cons,List.map_nil,hs,hx,hrun]
 exact h p' cap' w' h2 h3
theorem step_append_sl {ops:Array Oper}{o:Oper}{a:Act}{K:Act→World→Prop}{Q:Exit→Act→World→Prop}{E0:Prop}{t e:TypeId}{sz:Nat}(E:ElT P t e sz)(hgd:o.guard=none)(s x:Operand)
  (ho:o.op= .call {callee:= .builtin .append,args:=#[s,x],argTypes:=#[t,t]})
  (base:Nat)(v:Value)(n:Nat)(xs:List Value)(hs:a.eval s=v)(hown:w.ownsRow base e sz v n xs)
  (p:Option Addr)(m c:Nat)(news:List Value)(hx:a.eval x= .slice p m c)(hr:Sl w p m c sz news)(h1: ∀u∈news,u.oneCell'=true)
  (hn:n+m≤1099511627776)(hbase:base≤w.heap.size)
  (h: ∀p' cap' w',w'.ownsRow base e sz (.slice p' (n+m) cap') (n+m) (xs++news)→w.grownBy w' v.ownBlock→K (a.put o.dst (.slice p' (n+m) cap')) w'):
  if Region.wanted o (yielded ops a.tmps)=true then Oper.wp P o a w K Q else E0:=by
 have hw:Region.wanted o (yielded ops a.tmps)=true:=by simp[Region.wanted,hgd]
 rw[if_pos hw]
 exact wp_append_sl w E s x ho base v n xs hs hown p m c news hx hr h1 hn hbase h
end
theorem ivs_one (xs:List Int): ∀u∈ivs xs,u.oneCell'=true:=by
 intro u hu
 obtain⟨x,_,rfl⟩:=List.mem_map.1 hu
 rfl
end Go.Proofs.YteejdnmmpmcmeaaGreatDoor

