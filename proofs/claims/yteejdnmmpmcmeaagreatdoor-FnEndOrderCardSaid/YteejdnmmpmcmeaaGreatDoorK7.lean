/-
  Texts of this proof, packed (@packed).
-/
import Derived.Deep.DeepCutAuto
import Derived.Deep.DeepFit
import Derived.Deep.RegionHeld3
import Derived.Handy
import Derived.Lib.CountLaws
import Derived.Lib.Hide
import Derived.Lib.ItoaLen
import Derived.Lib.ItoaMem
import Derived.Lib.SmallJoins
import Derived.Lib.SplitLaws
import Derived.RegionTactic
import Derived.Test.YteejdnmmpmcmeaaGreatDoorShelf
import Derived.Test.YteejdnmmpmcmeaaGreatDoorK1
import Derived.Test.YteejdnmmpmcmeaaGreatDoorK4
import Derived.Test.YteejdnmmpmcmeaaGreatDoorK6
namespace Go.Proofs.YteejdnmmpmcmeaaGreatDoor
open Go.RowKit
set_option linter.unusedVariables false
theorem gTab:Tryz.prog.globalNamed "internal/strconv.uint64pow10" =some 1:=by kernel_rfl
structure Env (w:World):Prop where
 tab:Lib.TabIs Tryz.prog w "internal/strconv.uint64pow10" .u64 Lib.pow10Tab
 mx: ∃m,w.cell? ⟨0,0,none⟩=some (.int .i64 m)
theorem Env.ext {w w':World}(h:Env w)(hb:Ext w w'):Env w' where
 tab:=Joins.var_stays gTab h.tab hb (Nat.le_refl _)
 mx:=by
  obtain⟨m,hm⟩:=h.mx
  exact⟨m,(hb.cells.1 _ _ (World.block_lt_of_cell? w _ hm)).trans hm⟩
theorem Env.start {w:World}(ht:Lib.TabIs Tryz.prog w "internal/strconv.uint64pow10" .u64 Lib.pow10Tab)(hS:w.ShapedOpen Tryz.prog):Env w where
 tab:=ht
 mx:=Tryz.laysM145.s1_3 w hS
abbrev str (l:List UInt8):Value:= .string ⟨l.toArray⟩
theorem itoa_nat (n:Nat):Lib.itoa (n:Int)=Lib.decDigits n:=by
 unfold Lib.itoa;rw[if_neg (by omega)];simp
theorem ext_grow (w:World)(os:Array Obj):Ext w (Sort.grow w os):=
 ⟨rfl,rfl,rfl,by simp,fun k hk=>by simp only[Sort.grow];rw[Array.getElem?_append_left hk]⟩
theorem itoa_any (n:Nat)(w:World)(hn:n≤9223372036854775807)(hE:Env w):
  Calls Tryz.prog 106 #[.int .i64 n] w fun e w'=>e= .returned (str (Lib.decDigits n))∧Ext w w':=by
 refine(Tryz.strconv_Itoa (n:Int) (by omega) (by omega) w hE.tab).mono ?_
 rintro e w' ⟨rfl,k,os,rfl⟩
 exact⟨by rw[itoa_nat],(Ext.drewN (Ext.refl w) k).trans (ext_grow _ _)⟩
theorem itoaI (n:Int)(w:World)(h0:0≤n)(hn:n≤9223372036854775807)(hE:Env w):
  Calls Tryz.prog 106 #[.int .i64 n] w fun e w'=>e= .returned (str (Lib.decDigits n.toNat))∧Ext w w':=by
 obtain⟨m,rfl⟩:=Int.eq_ofNat_of_zero_le h0
 exact itoa_any m w (by omega) hE
theorem decDigits_lt (n:Nat)(h:n<10):Lib.decDigits n= [UInt8.ofNat (48+n)]:=by rw[Lib.decDigits];simp[h]
theorem decDigits_len (n:Nat)(h:n≤9223372036854775807):(Lib.decDigits n).length≤21:=by
 rw[←itoa_nat];exact Lib.itoa_length_le _ (by omega) (by omega)
end Go.Proofs.YteejdnmmpmcmeaaGreatDoor

namespace Go.Proofs.YteejdnmmpmcmeaaGreatDoor
open Go.RowKit
set_option linter.unusedVariables false
abbrev deedV (k a b:Int):Value:= .agg #[.int .i64 k,.int .i64 a,.int .i64 b]
end Go.Proofs.YteejdnmmpmcmeaaGreatDoor

namespace Go.Proofs.YteejdnmmpmcmeaaGreatDoor
open Go.RowKit
set_option linter.unusedVariables false
/-! ### slices of structs -/
/-! ### the text -/
/-! ### a builder while the world grows -/
theorem Ext.gb {w w':World}(h:Ext w w'):w.grownBy w' none:=⟨h.os,h.tape,h.output,h.size,fun k hk _=>h.block k hk⟩
theorem builderAt_ext {T e:TypeId}{B b:Nat}{p:Value}{bs:List Value}{w w':World}(h:Lib.BuilderAtF T e B b p bs w)(hx:Ext w w'):Lib.BuilderAtF T e B b p bs w':=by
 have hlt:=h.lt
 obtain⟨hB,v,hh,hown,hne⟩:=h
 exact⟨hB,v,by rw[hx.block b hlt];exact hh,hown.kept hx.gb (by cases v.ownBlock<;>simp),hne⟩
theorem builder_ext {T e:TypeId}{B b:Nat}{bs:List Value}{w w':World}(h:Lib.IsBuilderF T e B b bs w)(hx:Ext w w'):Lib.IsBuilderF T e B b bs w':=
 h.elim (fun q=> .inl (builderAt_ext q hx)) (fun q=> .inr (builderAt_ext q hx))
theorem ext_below {w wr w':World}{B:Nat}(h:Ext w wr)(hb:Below B wr w')(hB:w.heap.size≤B):Ext w w':=Below.trans h (Below.mono hb hB)
end Go.Proofs.YteejdnmmpmcmeaaGreatDoor

namespace Go.Proofs.YteejdnmmpmcmeaaGreatDoor
open Go.RowKit
set_option linter.unusedVariables false
theorem byteCells_append (a b:List UInt8):Lib.byteCells (a++b)=Lib.byteCells a++Lib.strCells ⟨b.toArray⟩:=by
 simp[Lib.byteCells,Lib.strCells]
end Go.Proofs.YteejdnmmpmcmeaaGreatDoor

namespace Go.Proofs.YteejdnmmpmcmeaaGreatDoor
open Go.RowKit
set_option linter.unusedVariables false
def cellTok (x:Int):List UInt8:=if x=0 then [46]else Lib.decDigits x.toNat
def cellSep (wide:Int)(k:Nat):List UInt8:=if k=0 then []else if(k:Int)%wide=0 then [47]else [44]
def hallTextN (wide:Int)(xs:List Int):Nat→List UInt8
 |0=> []
 |k+1=>hallTextN wide xs k++cellSep wide k++cellTok (xs[k]?.getD 0)
def hallText (wide deep:Int)(xs:List Int):List UInt8:=if hallOk wide deep xs then hallTextN wide xs xs.length else []
theorem cellTok_len (x:Int)(h:x≤99):(cellTok x).length≤21:=by
 unfold cellTok;split
 ·simp
 ·exact decDigits_len _ (by omega)
theorem hallTextN_len (wide:Int)(xs:List Int)(h: ∀x∈xs,x≤99): ∀k,(hallTextN wide xs k).length≤22*k:=by
 intro k
 induction k with
 |zero=>simp[hallTextN]
 |succ k ih=>
  have h1:(cellTok (xs[k]?.getD 0)).length≤21:=by
   refine cellTok_len _ ?_
   cases hx:xs[k]? with
   |none=>simp
   |some x=>exact h x (List.mem_of_getElem? hx)
  have h2:(cellSep wide k).length≤1:=by unfold cellSep;split;simp;split<;>simp
  simp only[hallTextN,List.length_append];omega
theorem hallTextN_step {wide:Int}{xs:List Int}{k:Nat}{x:Int}(h:xs[k]? =some x):hallTextN wide xs (k+1)=hallTextN wide xs k++cellSep wide k++cellTok x:=by
 simp[hallTextN,h]
theorem byteCells_one (a:List UInt8)(c:UInt8)(ci:Int)(hc:ci=(c.toNat:Int)):Lib.byteCells (a++ [c])=Lib.byteCells a++ [.int .u8 ci]:=by
 subst hc;simp[Lib.byteCells]
set_option maxRecDepth 100000 in
set_option maxHeartbeats 1000000 in
theorem implHallText_bad (wide deep:Int)(p:Option Addr)(n cap:Nat)(w:World)(HV:Hid (∀w',Ext w w'→Calls Tryz.prog 61 #[hallV wide deep p n cap] w' fun e w''=>e= .returned (.bool false)∧Ext w' w'')):
  Calls Tryz.prog 68 #[hallV wide deep p n cap] w fun e w'=>e= .returned (str [])∧Ext w w':=by
 go_enter Tryz.func68,Tryz.ntmps68
 go_wp2_with fail
 refine(HV.out _ (by exact .alloc (.refl _) _)).mono ?_
 rintro e w1 ⟨rfl,h1⟩
 go_wp2
 go_ret
 exact⟨rfl,by exact .trans (.alloc (.refl _) _) h1⟩
set_option maxRecDepth 100000 in
set_option maxHeartbeats 1000000 in
theorem implHallText_ok (wide deep:Int)(p:Option Addr)(n cap:Nat)(xs:List Int)(w:World)(hE0:Env w)(h0:2≤wide)(h1:wide≤4)(hn:n≤12)(hc: ∀x∈xs,0≤x∧x≤99)(HS:Hid (Sl w p n cap 1 (ivs xs)))
  (HV:Hid (∀w',Ext w w'→Calls Tryz.prog 61 #[hallV wide deep p n cap] w' fun e w''=>e= .returned (.bool true)∧Ext w' w'')):
  Calls Tryz.prog 68 #[hallV wide deep p n cap] w fun e w'=>e= .returned (str (hallTextN wide xs n))∧Ext w w':=by
 have HE0:=Lib.hid hE0
 have HC:=Lib.hid hc
 clear hE0 hc
 go_enter Tryz.func68,Tryz.ntmps68
 go_wp2_with fail
 refine(HV.out _ (by exact .alloc (.refl _) _)).mono ?_
 rintro e w1 ⟨rfl,h1'⟩
 have hz1:w.heap.size<w1.heap.size:=Nat.lt_of_lt_of_le (by simp) h1'.sz
 have ea:w1.cell? ⟨w.heap.size,0,none⟩=some (.int .i64 wide):=by rw[h1'.cells.1 _ _ (by simp)];simp
 have eb:w1.cell? ⟨w.heap.size,2,none⟩=some (.slice p n cap):=by rw[h1'.cells.1 _ _ (by simp)];simp
 have hx1:Ext w w1:=by exact .trans (.alloc (.refl _) _) h1'
 go_wp2
 go_loopw [12] (fun i wr=> ∃(k:Nat),k≤n∧i= .int .i64 k∧Lib.IsBuilderF 118 5 w1.heap.size w1.heap.size (Lib.byteCells (hallTextN wide xs k)) wr∧Ext w1 wr∧w1.heap.size<wr.heap.size) (fun i _=>n-(intOf i).toNat)
 case atStart=>exact⟨0,Nat.zero_le _,rfl,.inl ⟨Nat.le_refl _,.slice none 0 0,by rw[heap_alloc_new],World.ownsRowF_nil _ _ _ _,by simp[Value.ownBlock]⟩,(Ext.refl _).alloc _,by simp⟩
 case round=>
  obtain⟨k,hk,rfl,hbu,hE,hsw⟩:=hrel
  have HBU:=Lib.hid hbu
  clear hbu
  have hEw:Ext w wr:=hx1.trans hE
  have ea2:wr.cell? ⟨w.heap.size,0,none⟩=some (.int .i64 wide):=(hE.cells.1 _ _ hz1).trans ea
  have hbl:(Lib.byteCells (hallTextN wide xs k)).length≤300:=by
   have:=hallTextN_len wide xs (fun x hx=>(HC.out x hx).2) k
   simp[Lib.byteCells];omega
  by_cases hlt:k<n
  ·obtain⟨b,off,x,rfl,hx,hbs,hcell⟩:=(HS.out.ext hEw).int_at hlt
   obtain⟨hx0,hx1'⟩:=HC.out x (List.mem_of_getElem? hx)
   have HX:=Lib.hid hx
   clear hx
   have hfin:=Lib.hid (hallTextN_step (wide:=wide) HX.out)
   by_cases hk0:k=0
   ·have k1:((k:Int)==0)=true:=by simp[hk0]
    have hsep:Hid (cellSep wide k= []):=by show _=_;simp[cellSep,hk0]
    clear hk0
    by_cases hz:x=0
    ·have z1:(x==0)=true:=by simp[hz]
     have hacc:Hid (hallTextN wide xs (k+1)=hallTextN wide xs k++ [46]):=by show _=_;rw[hfin.out,hsep.out,List.append_nil];simp[cellTok,hz]
     clear hz
     go_wp2_with fail
     refine(WriteByte_k w1.heap.size w1.heap.size (Lib.byteCells (hallTextN wide xs k)) 46 _ HBU.out (by simp[Lib.byteCells]at hbl⊢;omega) (by omega)).mono ?_
     rintro e w3 ⟨rfl,h2,h3,_⟩
     have HB3:Hid (Lib.IsBuilderF 118 5 w1.heap.size w1.heap.size (Lib.byteCells (hallTextN wide xs (k+1))) w3):=by rw[hacc.out,byteCells_one _ 46 46 rfl];exact .inr h2
     have hE3:Ext w1 w3:=ext_below hE h3 (Nat.le_refl _)
     have hs3:w1.heap.size<w3.heap.size:=Nat.lt_of_lt_of_le hsw h3.size
     clear h2 h3
     go_wp2
     go_roundw
     case rel=>exact⟨k+1,by omega,by go_num,HB3.out,hE3,hs3⟩
     case measure=>simp[intOf];omega
    ·have z1:(x==0)=false:=by simp[hz]
     have hacc:Hid (hallTextN wide xs (k+1)=hallTextN wide xs k++Lib.decDigits x.toNat):=by show _=_;rw[hfin.out,hsep.out,List.append_nil];simp[cellTok,hz]
     clear hz
     have hdl:(Lib.decDigits x.toNat).length≤21:=decDigits_len _ (by omega)
     go_wp2_with fail
     refine(itoaI x _ hx0 (by omega) (HE0.out.ext (hx1.trans hE))).mono ?_
     rintro e w3 ⟨rfl,h3'⟩
     have HB2:=Lib.hid (builder_ext HBU.out h3')
     have hs3':w1.heap.size<w3.heap.size:=Nat.lt_of_lt_of_le hsw h3'.sz
     go_wp2_with fail
     refine(WriteString_k w1.heap.size w1.heap.size (Lib.byteCells (hallTextN wide xs k)) _ _ HB2.out (by simp[Lib.byteCells,ByteArray.size]at hbl⊢;omega) (by omega)).mono ?_
     rintro e w4 ⟨rfl,h2,h3,_⟩
     have HB3:Hid (Lib.IsBuilderF 118 5 w1.heap.size w1.heap.size (Lib.byteCells (hallTextN wide xs (k+1))) w4):=by rw[hacc.out,byteCells_append];exact .inr h2
     have hE3:Ext w1 w4:=ext_below (Ext.trans hE h3') h3 (Nat.le_refl _)
     have hs3:w1.heap.size<w4.heap.size:=Nat.lt_of_lt_of_le hs3' h3.size
     clear h2 h3
     go_wp2
     go_roundw
     case rel=>exact⟨k+1,by omega,by go_num,HB3.out,hE3,hs3⟩
     case measure=>simp[intOf];omega
   ·have k1:((k:Int)==0)=false:=by simp;omega
    by_cases hm:(k:Int)%wide=0
    ·have k2:((k:Int)%wide==0)=true:=by simp[hm]
     have hsep:Hid (cellSep wide k= [47]):=by show _=_;simp[cellSep,hk0,hm]
     clear hk0 hm
     go_wp2_with fail
     refine(WriteByte_k w1.heap.size w1.heap.size (Lib.byteCells (hallTextN wide xs k)) 47 _ HBU.out (by omega) (by omega)).mono ?_
     rintro e w2 ⟨rfl,h2,h3,_⟩
     have HBS:Hid (Lib.IsBuilderF 118 5 w1.heap.size w1.heap.size (Lib.byteCells (hallTextN wide xs k++ [47])) w2):=by rw[byteCells_one _ 47 47 rfl];exact .inr h2
     have hE2:Ext w1 w2:=ext_below hE h3 (Nat.le_refl _)
     have hs2:w1.heap.size<w2.heap.size:=Nat.lt_of_lt_of_le hsw h3.size
     clear h2 h3
     by_cases hz:x=0
     ·have z1:(x==0)=true:=by simp[hz]
      have hacc:Hid (hallTextN wide xs (k+1)=hallTextN wide xs k++ [47]++ [46]):=by show _=_;rw[hfin.out,hsep.out];simp[cellTok,hz]
      clear hz
      go_wp2_with fail
      refine(WriteByte_k w1.heap.size w1.heap.size (Lib.byteCells (hallTextN wide xs k++ [47])) 46 _ HBS.out (by simp[Lib.byteCells]at hbl⊢;omega) (by omega)).mono ?_
      rintro e w3 ⟨rfl,h2,h3,_⟩
      have HB3:Hid (Lib.IsBuilderF 118 5 w1.heap.size w1.heap.size (Lib.byteCells (hallTextN wide xs (k+1))) w3):=by rw[hacc.out,byteCells_one _ 46 46 rfl];exact .inr h2
      have hE3:Ext w1 w3:=ext_below hE2 h3 (Nat.le_refl _)
      have hs3:w1.heap.size<w3.heap.size:=Nat.lt_of_lt_of_le hs2 h3.size
      clear h2 h3
      go_wp2
      go_roundw
      case rel=>exact⟨k+1,by omega,by go_num,HB3.out,hE3,hs3⟩
      case measure=>simp[intOf];omega
     ·have z1:(x==0)=false:=by simp[hz]
      have hacc:Hid (hallTextN wide xs (k+1)=hallTextN wide xs k++ [47]++Lib.decDigits x.toNat):=by show _=_;rw[hfin.out,hsep.out];simp[cellTok,hz]
      clear hz
      have hdl:(Lib.decDigits x.toNat).length≤21:=decDigits_len _ (by omega)
      go_wp2_with fail
      refine(itoaI x _ hx0 (by omega) (HE0.out.ext (hx1.trans hE2))).mono ?_
      rintro e w3 ⟨rfl,h3'⟩
      have HB2:=Lib.hid (builder_ext HBS.out h3')
      have hs3':w1.heap.size<w3.heap.size:=Nat.lt_of_lt_of_le hs2 h3'.sz
      go_wp2_with fail
      refine(WriteString_k w1.heap.size w1.heap.size (Lib.byteCells (hallTextN wide xs k++ [47])) _ _ HB2.out (by simp[Lib.byteCells,ByteArray.size]at hbl⊢;omega) (by omega)).mono ?_
      rintro e w4 ⟨rfl,h2,h3,_⟩
      have HB3:Hid (Lib.IsBuilderF 118 5 w1.heap.size w1.heap.size (Lib.byteCells (hallTextN wide xs (k+1))) w4):=by rw[hacc.out,byteCells_append];exact .inr h2
      have hE3:Ext w1 w4:=ext_below (Ext.trans hE2 h3') h3 (Nat.le_refl _)
      have hs3:w1.heap.size<w4.heap.size:=Nat.lt_of_lt_of_le hs3' h3.size
      clear h2 h3
      go_wp2
      go_roundw
      case rel=>exact⟨k+1,by omega,by go_num,HB3.out,hE3,hs3⟩
      case measure=>simp[intOf];omega
    ·have k2:((k:Int)%wide==0)=false:=by simp[hm]
     have hsep:Hid (cellSep wide k= [44]):=by show _=_;simp[cellSep,hk0,hm]
     clear hk0 hm
     go_wp2_with fail
     refine(WriteByte_k w1.heap.size w1.heap.size (Lib.byteCells (hallTextN wide xs k)) 44 _ HBU.out (by omega) (by omega)).mono ?_
     rintro e w2 ⟨rfl,h2,h3,_⟩
     have HBS:Hid (Lib.IsBuilderF 118 5 w1.heap.size w1.heap.size (Lib.byteCells (hallTextN wide xs k++ [44])) w2):=by rw[byteCells_one _ 44 44 rfl];exact .inr h2
     have hE2:Ext w1 w2:=ext_below hE h3 (Nat.le_refl _)
     have hs2:w1.heap.size<w2.heap.size:=Nat.lt_of_lt_of_le hsw h3.size
     clear h2 h3
     by_cases hz:x=0
     ·have z1:(x==0)=true:=by simp[hz]
      have hacc:Hid (hallTextN wide xs (k+1)=hallTextN wide xs k++ [44]++ [46]):=by show _=_;rw[hfin.out,hsep.out];simp[cellTok,hz]
      clear hz
      go_wp2_with fail
      refine(WriteByte_k w1.heap.size w1.heap.size (Lib.byteCells (hallTextN wide xs k++ [44])) 46 _ HBS.out (by simp[Lib.byteCells]at hbl⊢;omega) (by omega)).mono ?_
      rintro e w3 ⟨rfl,h2,h3,_⟩
      have HB3:Hid (Lib.IsBuilderF 118 5 w1.heap.size w1.heap.size (Lib.byteCells (hallTextN wide xs (k+1))) w3):=by rw[hacc.out,byteCells_one _ 46 46 rfl];exact .inr h2
      have hE3:Ext w1 w3:=ext_below hE2 h3 (Nat.le_refl _)
      have hs3:w1.heap.size<w3.heap.size:=Nat.lt_of_lt_of_le hs2 h3.size
      clear h2 h3
      go_wp2
      go_roundw
      case rel=>exact⟨k+1,by omega,by go_num,HB3.out,hE3,hs3⟩
      case measure=>simp[intOf];omega
     ·have z1:(x==0)=false:=by simp[hz]
      have hacc:Hid (hallTextN wide xs (k+1)=hallTextN wide xs k++ [44]++Lib.decDigits x.toNat):=by show _=_;rw[hfin.out,hsep.out];simp[cellTok,hz]
      clear hz
      have hdl:(Lib.decDigits x.toNat).length≤21:=decDigits_len _ (by omega)
      go_wp2_with fail
      refine(itoaI x _ hx0 (by omega) (HE0.out.ext (hx1.trans hE2))).mono ?_
      rintro e w3 ⟨rfl,h3'⟩
      have HB2:=Lib.hid (builder_ext HBS.out h3')
      have hs3':w1.heap.size<w3.heap.size:=Nat.lt_of_lt_of_le hs2 h3'.sz
      go_wp2_with fail
      refine(WriteString_k w1.heap.size w1.heap.size (Lib.byteCells (hallTextN wide xs k++ [44])) _ _ HB2.out (by simp[Lib.byteCells,ByteArray.size]at hbl⊢;omega) (by omega)).mono ?_
      rintro e w4 ⟨rfl,h2,h3,_⟩
      have HB3:Hid (Lib.IsBuilderF 118 5 w1.heap.size w1.heap.size (Lib.byteCells (hallTextN wide xs (k+1))) w4):=by rw[hacc.out,byteCells_append];exact .inr h2
      have hE3:Ext w1 w4:=ext_below (Ext.trans hE2 h3') h3 (Nat.le_refl _)
      have hs3:w1.heap.size<w4.heap.size:=Nat.lt_of_lt_of_le hs3' h3.size
      clear h2 h3
      go_wp2
      go_roundw
      case rel=>exact⟨k+1,by omega,by go_num,HB3.out,hE3,hs3⟩
      case measure=>simp[intOf];omega
  ·obtain rfl:k=n:=by omega
   go_wp2_with fail
   refine(Tryz.Builder_String_any_f w1.heap.size w1.heap.size (hallTextN wide xs k) _ HBU.out (by omega)).mono ?_
   rintro e w2 ⟨rfl,h2,h3⟩
   have hE2:Ext w w2:=ext_below hEw h3 (by omega)
   clear h2 h3
   go_wp2
   go_ret
   exact⟨rfl,hE2⟩
end Go.Proofs.YteejdnmmpmcmeaaGreatDoor

namespace Go.Proofs.YteejdnmmpmcmeaaGreatDoor
open Go.RowKit
set_option linter.unusedVariables false
theorem hallOk_parts {wide deep:Int}{xs:List Int}(h:hallOk wide deep xs=true):2≤wide∧wide≤4∧2≤deep∧deep≤3∧4≤xs.length∧xs.length≤12∧(xs.length:Int)=wide*deep∧(∀x∈xs,0≤x∧x≤99)∧(xs.filter (fun x=>decide (0<x))).Nodup:=by
 simp only[hallOk,Bool.and_eq_true]at h
 obtain⟨h1,h2,h3,h4,h5,h6,h7⟩:=shape_bd h.1
 obtain⟨q1,_,q3⟩:=(cellsOk_iff _ _).1 h.2
 exact⟨h1,h2,h3,h4,h5,h6,h7,q1,q3⟩
theorem implHallText (wide deep:Int)(p:Option Addr)(n cap:Nat)(xs:List Int)(w:World)(hE:Env w)(hS:Sl w p n cap 1 (ivs xs)):
  Calls Tryz.prog 68 #[hallV wide deep p n cap] w fun e w'=>e= .returned (str (hallText wide deep xs))∧Ext w w':=by
 have hl:=hS.ilen
 cases h:hallOk wide deep xs with
 |true=>
  obtain⟨h1,h2,h3,h4,h5,h6,h7,h8,h9⟩:=hallOk_parts h
  unfold hallText
  rw[if_pos h,hl]
  exact implHallText_ok wide deep p n cap xs w hE h1 h2 (by omega) h8 hS (fun w' hx=>by rw[←h];exact implHv wide deep p n cap xs w' (hS.ext hx))
 |false=>
  unfold hallText
  rw[if_neg (by simp[h])]
  exact implHallText_bad wide deep p n cap w (fun w' hx=>by rw[←h];exact implHv wide deep p n cap xs w' (hS.ext hx))
set_option maxRecDepth 100000 in
set_option maxHeartbeats 1000000 in
theorem alive_any (w:World)(hE:Env w):Calls Tryz.prog 18 #[] w fun e w'=>e= .returned (.bool true)∧Ext w w':=by
 have HE:=Lib.hid hE
 have T1:Hid (∀w p,Env w→Sl w p 4 4 1 (ivs [0,7,0,0])→Calls Tryz.prog 68 #[hallV 2 2 p 4 4] w fun e w'=>e= .returned (str [46,44,55,47,46,44,46])∧Ext w w'):=fun w p hE hS=>by
  have:=implHallText 2 2 p 4 4 [0,7,0,0] w hE hS
  have e:hallText 2 2 [0,7,0,0]= [46,44,55,47,46,44,46]:=by
   simp[hallText,hallOk,shapeOk,cellsOk,hallTextN,cellSep,cellTok,decDigits_lt]
  rwa[e]at this
 have T2:Hid (∀w,Env w→Calls Tryz.prog 68 #[hallV 0 0 none 0 0] w fun e w'=>e= .returned (str [])∧Ext w w'):=fun w hE=>by
  have:=implHallText 0 0 none 0 0 [] w hE (Sl.nil w 1)
  have e:hallText 0 0 []= []:=by simp[hallText,hallOk,shapeOk]
  rwa[e]at this
 clear hE
 go_enter Tryz.func18,Tryz.ntmps18
 go_wp2_with fail
 refine(T1.out _ _ (HE.out.ext (by exact .alloc (.refl _) _)) (Sl.new w #[iv 0,iv 7,iv 0,iv 0] _ 4 rfl (by unfold maxLen;omega))).mono ?_
 rintro e w1 ⟨rfl,h1⟩
 go_wp2_with fail
 refine(T2.out _ (HE.out.ext (by exact .trans (.alloc (.refl _) _) h1))).mono ?_
 rintro e w2 ⟨rfl,h2⟩
 go_wp2
 go_ret
 exact⟨rfl,by exact .trans (.trans (.alloc (.refl _) _) h1) h2⟩
end Go.Proofs.YteejdnmmpmcmeaaGreatDoor

namespace Go.Proofs.YteejdnmmpmcmeaaGreatDoor
open Go.RowKit
set_option linter.unusedVariables false
set_option linter.unusedSimpArgs false
set_option maxRecDepth 100000 in
set_option maxHeartbeats 1000000 in
theorem l1Far_any (a b:Int)(w:World)(h0:0≤a)(h1:a≤1000)(h2:0≤b)(h3:b≤1000):Calls Tryz.prog 242 #[.int .i64 a,.int .i64 b] w fun e w'=>e= .returned (.int .i64 (far1 a b))∧Ext w w':=by
 go_enter Tryz.func242,Tryz.ntmps242
 go_wp2
 go_ret
 exact⟨ret_int (by unfold far1;omega),by exact .refl _⟩
set_option maxRecDepth 100000 in
set_option maxHeartbeats 1000000 in
theorem l1Apart_any (wide a b:Int)(w:World)(h0:0≤a)(h1:a≤100)(h2:0≤b)(h3:b≤100)(h4:2≤wide)(h5:wide≤4):Calls Tryz.prog 236 #[.int .i64 wide,.int .i64 a,.int .i64 b] w fun e w'=>e= .returned (.int .i64 (apart wide a b))∧Ext w w':=by
 have q0: ¬(wide=0):=by omega
 have r1:a.tmod wide=a%wide:=IntWalk.rem_in _ _ h0
 have r2:b.tmod wide=b%wide:=IntWalk.rem_in _ _ h2
 have d1:IntKind.i64.wrap (a.tdiv wide)=a/wide:=IntWalk.i64_quo _ _ (by omega)
 have d2:IntKind.i64.wrap (b.tdiv wide)=b/wide:=IntWalk.i64_quo _ _ (by omega)
 have e1:=Int.emod_nonneg a q0
 have e2:=Int.emod_nonneg b q0
 have e3:=Int.emod_lt_of_pos a (show 0<wide by omega)
 have e4:=Int.emod_lt_of_pos b (show 0<wide by omega)
 have e5:=Int.ediv_nonneg h0 (show 0≤wide by omega)
 have e6:=Int.ediv_nonneg h2 (show 0≤wide by omega)
 have e7:=Int.ediv_le_self wide h0
 have e8:=Int.ediv_le_self wide h2
 have s1:IntKind.i64.wrap (far1 (a%wide) (b%wide)+far1 (a/wide) (b/wide))=apart wide a b:=IntWalk.i64_in _ (by unfold far1;omega)
 go_enter Tryz.func236,Tryz.ntmps236
 go_wp2
 refine region_lin (gl [gEq (.int .i64 (a)),gEq (.int .i64 (wide)),gEq (.int .i64 (a%wide)),gEq (.int .i64 (b)),gEq (.int .i64 (wide)),gEq (.int .i64 (b%wide)),gEq (.int .i64 (far1 (a%wide) (b%wide))),gEq (.int .i64 (a)),gEq (.int .i64 (wide)),gEq (.int .i64 (a/wide)),gEq (.int .i64 (b)),gEq (.int .i64 (wide)),gEq (.int .i64 (b/wide)),gEq (.int .i64 (far1 (a/wide) (b/wide))),gEq (.int .i64 (apart wide a b))]) 15 (by kernel_rfl) rfl (by kernel_rfl) (by kernel_rfl) (by kernel_rfl) (gl_mono (gl_cons (gEq_mono _) (gl_cons (gEq_mono _) (gl_cons (gEq_mono _) (gl_cons (gEq_mono _) (gl_cons (gEq_mono _) (gl_cons (gEq_mono _) (gl_cons (gEq_mono _) (gl_cons (gEq_mono _) (gl_cons (gEq_mono _) (gl_cons (gEq_mono _) (gl_cons (gEq_mono _) (gl_cons (gEq_mono _) (gl_cons (gEq_mono _) (gl_cons (gEq_mono _) (gl_cons (gEq_mono _) (gl_nil))))))))))))))))) (k:=16) (by kernel_rfl) (by decide) (ls:= [(0,some 7),(1,some 8),(2,some 9),(3,some 10),(4,some 11),(5,some 12),(6,some 13),(7,some 14),(8,some 15),(9,some 16),(10,some 17),(11,some 18),(12,some 19),(13,some 20),(14,some 21)]) (by kernel_rfl) (ir:= [0,1,2,3,4,5,6,7,8,9,10,11,12,13,14]) (by kernel_rfl) ?steps (tl:=#[true,true,true,true,true,true,true,true,true,true,true,true,true,true,true,false]) (by kernel_rfl) ?fin
 case steps=>
  refine StepsL.cons (ps:= []) rfl (by kernel_rfl) (fun wi hx=> ?_) ?_
  ·intro K hK
   go_simp
   exact hK _ _ ⟨.int .i64 (a),rfl,rfl,Ext.refl _⟩
  refine StepsL.cons (ps:= []) rfl (by kernel_rfl) (fun wi hx=> ?_) ?_
  ·intro K hK
   go_simp
   exact hK _ _ ⟨.int .i64 (wide),rfl,rfl,Ext.refl _⟩
  refine StepsL.cons (ps:= [(0,some 7),(1,some 8)]) rfl (by kernel_rfl) (fun wi hx=> ?_) ?_
  ·intro v0 h0 v1 h1 K hK
   obtain rfl:=h0
   obtain rfl:=h1
   go_simp
   exact hK _ _ ⟨.int .i64 (a%wide),rfl,rfl,Ext.refl _⟩
  refine StepsL.cons (ps:= []) rfl (by kernel_rfl) (fun wi hx=> ?_) ?_
  ·intro K hK
   go_simp
   exact hK _ _ ⟨.int .i64 (b),rfl,rfl,Ext.refl _⟩
  refine StepsL.cons (ps:= []) rfl (by kernel_rfl) (fun wi hx=> ?_) ?_
  ·intro K hK
   go_simp
   exact hK _ _ ⟨.int .i64 (wide),rfl,rfl,Ext.refl _⟩
  refine StepsL.cons (ps:= [(3,some 10),(4,some 11)]) rfl (by kernel_rfl) (fun wi hx=> ?_) ?_
  ·intro v3 h3 v4 h4 K hK
   obtain rfl:=h3
   obtain rfl:=h4
   go_simp
   exact hK _ _ ⟨.int .i64 (b%wide),rfl,rfl,Ext.refl _⟩
  refine StepsL.cons (ps:= [(2,some 9),(5,some 12)]) rfl (by kernel_rfl) (fun wi hx=> ?_) ?_
  ·intro v2 h2 v5 h5 K hK
   obtain rfl:=h2
   obtain rfl:=h5
   go_wp2_with fail
   refine(l1Far_any (a%wide) (b%wide) _ (by omega) (by omega) (by omega) (by omega)).mono ?_
   rintro e w2 ⟨rfl,hx2⟩
   go_simp
   exact hK _ _ ⟨.int .i64 (far1 (a%wide) (b%wide)),rfl,rfl,hx2⟩
  refine StepsL.cons (ps:= []) rfl (by kernel_rfl) (fun wi hx=> ?_) ?_
  ·intro K hK
   go_simp
   exact hK _ _ ⟨.int .i64 (a),rfl,rfl,Ext.refl _⟩
  refine StepsL.cons (ps:= []) rfl (by kernel_rfl) (fun wi hx=> ?_) ?_
  ·intro K hK
   go_simp
   exact hK _ _ ⟨.int .i64 (wide),rfl,rfl,Ext.refl _⟩
  refine StepsL.cons (ps:= [(7,some 14),(8,some 15)]) rfl (by kernel_rfl) (fun wi hx=> ?_) ?_
  ·intro v7 h7 v8 h8 K hK
   obtain rfl:=h7
   obtain rfl:=h8
   go_simp
   exact hK _ _ ⟨.int .i64 (a/wide),rfl,rfl,Ext.refl _⟩
  refine StepsL.cons (ps:= []) rfl (by kernel_rfl) (fun wi hx=> ?_) ?_
  ·intro K hK
   go_simp
   exact hK _ _ ⟨.int .i64 (b),rfl,rfl,Ext.refl _⟩
  refine StepsL.cons (ps:= []) rfl (by kernel_rfl) (fun wi hx=> ?_) ?_
  ·intro K hK
   go_simp
   exact hK _ _ ⟨.int .i64 (wide),rfl,rfl,Ext.refl _⟩
  refine StepsL.cons (ps:= [(10,some 17),(11,some 18)]) rfl (by kernel_rfl) (fun wi hx=> ?_) ?_
  ·intro v10 h10 v11 h11 K hK
   obtain rfl:=h10
   obtain rfl:=h11
   go_simp
   exact hK _ _ ⟨.int .i64 (b/wide),rfl,rfl,Ext.refl _⟩
  refine StepsL.cons (ps:= [(9,some 16),(12,some 19)]) rfl (by kernel_rfl) (fun wi hx=> ?_) ?_
  ·intro v9 h9 v12 h12 K hK
   obtain rfl:=h9
   obtain rfl:=h12
   go_wp2_with fail
   refine(l1Far_any (a/wide) (b/wide) _ (by omega) (by omega) (by omega) (by omega)).mono ?_
   rintro e w2 ⟨rfl,hx2⟩
   go_simp
   exact hK _ _ ⟨.int .i64 (far1 (a/wide) (b/wide)),rfl,rfl,hx2⟩
  refine StepsL.cons (ps:= [(6,some 13),(13,some 20)]) rfl (by kernel_rfl) (fun wi hx=> ?_) StepsL.nil
  ·intro v6 h6 v13 h13 K hK
   obtain rfl:=h6
   obtain rfl:=h13
   go_simp
   exact hK _ _ ⟨.int .i64 (apart wide a b),rfl,rfl,Ext.refl _⟩
 case fin=>
  intro wi hx v0 h0 v1 h1 v2 h2 v3 h3 v4 h4 v5 h5 v6 h6 v7 h7 v8 h8 v9 h9 v10 h10 v11 h11 v12 h12 v13 h13 v14 h14
  obtain rfl:=h0
  obtain rfl:=h1
  obtain rfl:=h2
  obtain rfl:=h3
  obtain rfl:=h4
  obtain rfl:=h5
  obtain rfl:=h6
  obtain rfl:=h7
  obtain rfl:=h8
  obtain rfl:=h9
  obtain rfl:=h10
  obtain rfl:=h11
  obtain rfl:=h12
  obtain rfl:=h13
  obtain rfl:=h14
  refine wpAny_ready (rs:= [15]) (by kernel_rfl) (by simp) ?_
  refine AllReady.cons rfl (fun K hK=> ?_) AllReady.nil
  go_simp
  refine hK _ _ ?_
  clear hK K
  refine wpAny_done (by kernel_rfl) ?_ _
  go_wp2
  go_ret
  exact⟨rfl,by exact .trans (.drew (.refl _)) hx⟩
theorem l1In_any (n lo hi:Int)(w:World):Calls Tryz.prog 66 #[.int .i64 n,.int .i64 lo,.int .i64 hi] w fun e w'=>e= .returned (.bool (decide (lo≤n∧n≤hi)))∧w=w':=by
 by_cases h:lo≤n∧n≤hi
 ·rw[decide_eq_true h];exact l1In_yes n lo hi w h.1 h.2
 ·rw[decide_eq_false h];exact l1In_no n lo hi w (by omega)
def cellsApart (wide deep:Int)(xs:List Int)(a b:Int):Int:=if hallOk wide deep xs=true∧(0≤a∧a<xs.length)∧0≤b∧b<xs.length then apart wide a b else -1
set_option maxRecDepth 100000 in
set_option maxHeartbeats 1000000 in
theorem specCa_bad (wide deep a b:Int)(p:Option Addr)(n cap:Nat)(w:World)(HV:Hid (∀w',Ext w w'→Calls Tryz.prog 64 #[hallV wide deep p n cap] w' fun e w''=>e= .returned (.bool false)∧Ext w' w'')):
  Calls Tryz.prog 218 #[hallV wide deep p n cap,.int .i64 a,.int .i64 b] w fun e w'=>e= .returned (.int .i64 (-1))∧Ext w w':=by
 go_enter Tryz.func218,Tryz.ntmps218
 go_wp2_with fail
 refine(HV.out _ (by exact .alloc (.refl _) _)).mono ?_
 rintro e w1 ⟨rfl,hh1⟩
 have B1:=Lib.hid ((Blk.new w 25 #[.int .i64 wide,.int .i64 deep,.slice p n cap]).ext hh1)
 have X1:Ext w w1:=by exact .trans (.alloc (.refl _) _) hh1
 have z1:w.heap.size<w1.heap.size:=B1.out.lt
 clear hh1
 obtain⟨c0,c1,c2⟩:=(B1.out).tri
 go_wp2
 go_ret
 exact⟨rfl,by exact X1⟩
set_option maxRecDepth 100000 in
set_option maxHeartbeats 1000000 in
theorem specCa_o (wide deep a b:Int)(p:Option Addr)(n cap:Nat)(ba bb:Bool)(R:Int)(w:World)(hn0:4≤n)(hn:n≤12)(HV:Hid (∀w',Ext w w'→Calls Tryz.prog 64 #[hallV wide deep p n cap] w' fun e w''=>e= .returned (.bool true)∧Ext w' w''))
  (HA:Hid (∀w,Calls Tryz.prog 66 #[.int .i64 a,.int .i64 0,.int .i64 ((n:Int)-1)] w fun e w'=>e= .returned (.bool ba)∧w=w'))
  (HB:Hid (∀w,Calls Tryz.prog 66 #[.int .i64 b,.int .i64 0,.int .i64 ((n:Int)-1)] w fun e w'=>e= .returned (.bool bb)∧w=w'))
  (HP:Hid (ba=true→bb=true→ ∀w,Calls Tryz.prog 236 #[.int .i64 wide,.int .i64 a,.int .i64 b] w fun e w'=>e= .returned (.int .i64 R)∧Ext w w')):
  Calls Tryz.prog 218 #[hallV wide deep p n cap,.int .i64 a,.int .i64 b] w fun e w'=>e= .returned (.int .i64 (if ba&&bb then R else -1))∧Ext w w':=by
 go_enter Tryz.func218,Tryz.ntmps218
 go_wp2_with fail
 refine(HV.out _ (by exact .alloc (.refl _) _)).mono ?_
 rintro e w1 ⟨rfl,hh1⟩
 have B1:=Lib.hid ((Blk.new w 25 #[.int .i64 wide,.int .i64 deep,.slice p n cap]).ext hh1)
 have X1:Ext w w1:=by exact .trans (.alloc (.refl _) _) hh1
 have z1:w.heap.size<w1.heap.size:=B1.out.lt
 clear hh1
 obtain⟨c0,c1,c2⟩:=(B1.out).tri
 cases ba
 ·go_wp2_with ((go_at_call 66;(with_reducible refine(HA.out _).mono ?_);rintro e w' ⟨rfl,rfl⟩))
  go_ret
  exact⟨rfl,by exact X1⟩
 ·cases bb
  ·go_wp2_with fail
   refine(HA.out _).mono ?_
   rintro e w' ⟨rfl,rfl⟩
   go_wp2_with fail
   refine(HB.out _).mono ?_
   rintro e w' ⟨rfl,rfl⟩
   go_wp2
   go_ret
   exact⟨rfl,by exact X1⟩
  ·go_wp2_with fail
   refine(HA.out _).mono ?_
   rintro e w' ⟨rfl,rfl⟩
   go_wp2_with fail
   refine(HB.out _).mono ?_
   rintro e w' ⟨rfl,rfl⟩
   go_wp2_with fail
   refine(HP.out (by simp) (by simp) _).mono ?_
   rintro e w' ⟨rfl,hp⟩
   go_wp2
   go_ret
   exact⟨rfl,by exact .trans X1 hp⟩
theorem specCa (wide deep a b:Int)(p:Option Addr)(n cap:Nat)(xs:List Int)(w:World)(hS:Sl w p n cap 1 (ivs xs)):
  Calls Tryz.prog 218 #[hallV wide deep p n cap,.int .i64 a,.int .i64 b] w fun e w'=>e= .returned (.int .i64 (cellsApart wide deep xs a b))∧Ext w w':=by
 have hl:=hS.ilen
 have HV:=fun(w':World) (hx:Ext w w')=>specHv wide deep p n cap xs w' (hS.ext hx)
 unfold cellsApart
 cases hok:hallOk wide deep xs with
 |false=>rw[hok]at HV;simpa using specCa_bad wide deep a b p n cap w HV
 |true=>
  rw[hok]at HV
  obtain⟨g1,g2,g3,g4,g5,g6,g7,g8,g9⟩:=hallOk_parts hok
  have:=specCa_o wide deep a b p n cap (decide (0≤a∧a≤(n:Int)-1)) (decide (0≤b∧b≤(n:Int)-1)) (apart wide a b) w (by omega) (by omega) HV (fun w=>l1In_any _ _ _ w) (fun w=>l1In_any _ _ _ w)
   (fun h1 h2 w=>by simp at h1 h2;exact l1Apart_any wide a b w h1.1 (by omega) h2.1 (by omega) (by omega) (by omega))
  refine this.mono fun e w' ⟨he,hx⟩=>⟨?_,hx⟩
  rw[he]
  apply ret_int
  have e1:(decide (0≤a∧a≤(n:Int)-1)&&decide (0≤b∧b≤(n:Int)-1))=decide ((0≤a∧a<xs.length)∧0≤b∧b<xs.length):=by
   rw[Bool.eq_iff_iff];simp;omega
  rw[e1]
  by_cases h:(0≤a∧a<xs.length)∧0≤b∧b<xs.length
  ·rw[decide_eq_true h,if_pos rfl,if_pos ⟨rfl,h⟩]
  ·rw[decide_eq_false h,if_neg (by simp),if_neg (fun hh=>h hh.2)]
end Go.Proofs.YteejdnmmpmcmeaaGreatDoor

namespace Go.Proofs.YteejdnmmpmcmeaaGreatDoor
open Go.RowKit
set_option linter.unusedVariables false
set_option linter.unusedSimpArgs false
abbrev TH3:TypeId:=25
theorem Blk.cells3 {w:World}{g:Nat}{t:TypeId}{a b c:Value}(h:Blk w g t #[a,b,c]):w.cell? ⟨g,0,none⟩=some a∧w.cell? ⟨g,1,none⟩=some b∧w.cell? ⟨g,2,none⟩=some c:=⟨h.cell 0,h.cell 1,h.cell 2⟩
theorem blk_far {wr w2:World}{B n:Nat}{v:Value}{xs:List Value}{ob:Obj}{t e:TypeId}{sz:Nat}{cs:Array Value}(ho:wr.ownsRow (B+1) e sz v n xs)(hg:(wr.alloc ob).grownBy w2 v.ownBlock)(h:Blk wr B t cs):Blk w2 B t cs:=
 (h.alloc ob).grown hg (fun hh=>by have:=ho.lt B hh.symm;omega)
def besideL (wide:Int)(n:Nat)(a:Int):List Int:=selN (fun b=>decide (apart wide a b=1)) n
set_option maxRecDepth 100000 in
set_option maxHeartbeats 1000000 in
theorem specCb_o (wide deep cell:Int)(p:Option Addr)(n cap:Nat)(w:World)(hn:n≤12)
  (HC:Hid (∀(k:Nat),k<n→ ∀w',Ext w w'→Calls Tryz.prog 218 #[hallV wide deep p n cap,.int .i64 cell,.int .i64 k] w' fun e w''=>e= .returned (.int .i64 (apart wide cell k))∧Ext w' w'')):
  Calls Tryz.prog 241 #[hallV wide deep p n cap,.int .i64 cell] w (RetInts (besideL wide n cell) w):=by
 go_enter Tryz.func241,Tryz.ntmps241
 go_wp2
 go_loopw [5,6] (fun v i wr=> ∃(k:Nat) (q:Option Addr) (m c:Nat),k≤n∧i= .int .i64 k∧v= .slice q m c∧m≤k∧wr.ownsRow (w.heap.size+1) TI 1 (.slice q m c) m (ivs (selN (fun b=>decide (apart wide cell b=1)) k))∧Ext w wr∧Blk wr w.heap.size TH3 #[.int .i64 wide,.int .i64 deep,.slice p n cap]) (fun _ i _=>n-(intOf i).toNat)
 case atStart=>
  refine⟨0,_,0,0,Nat.zero_le _,rfl,rfl,Nat.le_refl _,?_,by exact .alloc (.alloc (.refl _) _) _,(Blk.new w _ _).alloc _⟩
  have ho:((w.alloc (.cells #[.int .i64 wide,.int .i64 deep,.slice p n cap] TH3)).alloc (.cells #[] TI)).ownsRow (w.heap.size+1) TI 1 (.slice (some ⟨(w.alloc (.cells #[.int .i64 wide,.int .i64 deep,.slice p n cap] TH3)).heap.size,0,none⟩) 0 0) 0 []:=World.ownsRow_made _ #[] 0 (by simp) (by simp[maxLen]) rfl
  simpa[selN]using ho
 case round=>
  obtain⟨k,q,m,c,hk,rfl,rfl,hmk,hown,hEw,hB⟩:=hrel
  have HO:=Lib.hid hown
  have HB:=Lib.hid hB
  have hsz:w.heap.size<wr.heap.size:=hB.lt
  clear hown hB
  obtain⟨b0,b1,b2⟩:=HB.out.cells3
  by_cases hlt:k<n
  ·go_wp2_with fail
   refine(HC.out k hlt _ hEw).mono ?_
   rintro e w1 ⟨rfl,h1⟩
   have HO1:=Lib.hid (own_ext HO.out h1)
   have HB1:=Lib.hid (HB.out.ext h1)
   have hEw1:=Lib.hid (hEw.trans h1)
   have hsz1:w.heap.size<w1.heap.size:=HB1.out.lt
   clear h1 b0 b1 b2 HO HB hEw
   by_cases hx0:apart wide cell k=1
   ·have t0:(apart wide cell k==1)=true:=by simp[hx0]
    have hfin:Hid (selN (fun b=>decide (apart wide cell b=1)) (k+1)=selN (fun b=>decide (apart wide cell b=1)) k++ [(k:Int)]):=by
     show _=_;rw[selN,if_pos (by simpa using hx0)]
    clear hx0
    go_wp2_with (at_builtin;refine wpList_append_int elInt rfl _ _ rfl (w.heap.size+1) _ _ _ rfl (HO1.out.alloc _) _ _ (k:Int) _ rfl (by simp) (by omega) (by first|(simp;done)|(simp;omega)) ?_;intro p' cap' w2 hown1 hg1;have HO2:=Lib.hid hown1;have hE1:Ext w w2:=Ext.own (hEw1.out.alloc _) (HO1.out.alloc _) hg1 (by omega);have HB2:=Lib.hid (blk_far HO1.out hg1 HB1.out);clear hown1 hg1)
    go_roundw
    case rel=>exact⟨k+1,p',m+1,cap',by omega,by go_num,rfl,by omega,by rw[hfin.out];exact HO2.out,hE1,HB2.out⟩
    case measure=>simp[intOf];omega
   ·have t0:(apart wide cell k==1)=false:=by simp[hx0]
    have hfin:Hid (selN (fun b=>decide (apart wide cell b=1)) (k+1)=selN (fun b=>decide (apart wide cell b=1)) k):=by
     show _=_;rw[selN,if_neg (by simpa using hx0),List.append_nil]
    clear hx0
    go_wp2
    go_roundw
    case rel=>exact⟨k+1,q,m,c,by omega,by go_num,rfl,by omega,by rw[hfin.out];exact HO1.out,hEw1.out,HB1.out⟩
    case measure=>simp[intOf];omega
  ·have hfin:Hid (selN (fun b=>decide (apart wide cell b=1)) k=besideL wide n cell):=by
    show _=_;unfold besideL;rw[show k=n by omega]
   go_wp2
   go_ret
   exact ret_ints (by rw[←hfin.out];have:=HO.out.1;simpa using this) (by rw[←hfin.out];exact own_base HO.out (Nat.le_succ _)) hEw
theorem specCb (wide deep cell:Int)(p:Option Addr)(n cap:Nat)(xs:List Int)(w:World)(hS:Sl w p n cap 1 (ivs xs))(hok:hallOk wide deep xs=true)(h0:0≤cell)(h1:cell<n):
  Calls Tryz.prog 241 #[hallV wide deep p n cap,.int .i64 cell] w (RetInts (besideL wide n cell) w):=by
 have hl:=hS.ilen
 obtain⟨g1,g2,g3,g4,g5,g6,g7,g8,g9⟩:=hallOk_parts hok
 refine specCb_o wide deep cell p n cap w (by omega) (fun k hk w' hx=> ?_)
 have:=specCa wide deep cell k p n cap xs w' (hS.ext hx)
 unfold cellsApart at this
 rwa[if_pos ⟨hok,by omega,by omega⟩]at this
def idxGo (x:Int):Nat→List Int→Int
 |_,[]=> -1
 |b,y::ys=>if y=x then(b:Int)else idxGo x (b+1) ys
def idxI (xs:List Int)(x:Int):Int:=idxGo x 0 xs
theorem idxGo_at {x:Int}: ∀(xs:List Int) (k b:Nat),xs[k]? =some x→x∉xs.take k→idxGo x b xs=((b+k:Nat):Int):=by
 intro xs
 induction xs with
 |nil=>intro k b h;simp at h
 |cons y ys ih=>
  intro k b h hn
  unfold idxGo
  cases k with
  |zero=>simp at h;rw[if_pos h];rfl
  |succ k=>
   simp only[List.getElem?_cons_succ]at h
   simp only[List.take_succ_cons,List.mem_cons,not_or]at hn
   rw[if_neg (fun e=>hn.1 e.symm),ih k (b+1) h hn.2]
   congr 1;omega
theorem idxGo_none {x:Int}: ∀(xs:List Int) (b:Nat),x∉xs→idxGo x b xs= -1:=by
 intro xs
 induction xs with
 |nil=>intro b _;rfl
 |cons y ys ih=>
  intro b hn
  simp only[List.mem_cons,not_or]at hn
  unfold idxGo
  rw[if_neg (fun e=>hn.1 e.symm),ih _ hn.2]
theorem idxI_at {xs:List Int}{x:Int}{k:Nat}(h:xs[k]? =some x) (hn:x∉xs.take k):idxI xs x=k:=by
 unfold idxI;rw[idxGo_at xs k 0 h hn];simp
theorem idxI_none {xs:List Int}{x:Int}(h:x∉xs):idxI xs x= -1:=idxGo_none xs 0 h
def hallFind (wide deep:Int)(xs:List Int)(id:Int):Int:=if hallOk wide deep xs=true∧1≤id then idxI xs id else -1
set_option maxRecDepth 100000 in
set_option maxHeartbeats 1000000 in
theorem specHfind_bad (wide deep id:Int)(p:Option Addr)(n cap:Nat)(b:Bool)(w:World)(hb:b=false∨b=true∧id<1)(HV:Hid (∀w',Ext w w'→Calls Tryz.prog 64 #[hallV wide deep p n cap] w' fun e w''=>e= .returned (.bool b)∧Ext w' w'')):
  Calls Tryz.prog 215 #[hallV wide deep p n cap,.int .i64 id] w fun e w'=>e= .returned (.int .i64 (-1))∧Ext w w':=by
 rcases hb with rfl|⟨rfl,hi⟩
 all_goals
  go_enter Tryz.func215,Tryz.ntmps215
  go_wp2_with fail
  refine(HV.out _ (by exact .alloc (.refl _) _)).mono ?_
  rintro e w1 ⟨rfl,hh1⟩
  go_wp2
  go_ret
  exact⟨rfl,by exact .trans (.alloc (.refl _) _) hh1⟩
set_option maxRecDepth 100000 in
set_option maxHeartbeats 1000000 in
theorem specHfind_ok (wide deep id:Int)(p:Option Addr)(n cap:Nat)(xs:List Int)(w:World)(hn:n≤12)(hi:1≤id)(HS:Hid (Sl w p n cap 1 (ivs xs)))(HV:Hid (∀w',Ext w w'→Calls Tryz.prog 64 #[hallV wide deep p n cap] w' fun e w''=>e= .returned (.bool true)∧Ext w' w'')):
  Calls Tryz.prog 215 #[hallV wide deep p n cap,.int .i64 id] w fun e w'=>e= .returned (.int .i64 (idxI xs id))∧Ext w w':=by
 have hl:=Lib.hid HS.out.ilen
 go_enter Tryz.func215,Tryz.ntmps215
 go_wp2_with fail
 refine(HV.out _ (by exact .alloc (.refl _) _)).mono ?_
 rintro e w1 ⟨rfl,hh1⟩
 have hB:=(Blk.new w TH3 #[.int .i64 wide,.int .i64 deep,.slice p n cap]).ext hh1
 have X1:=Lib.hid (show Ext w w1 by exact .trans (.alloc (.refl _) _) hh1)
 have HS1:=Lib.hid (HS.out.ext X1.out)
 obtain⟨b0,b1,b2⟩:=hB.cells3
 have hsz:w.heap.size<w1.heap.size:=hB.lt
 clear hh1 hB HS
 go_wp2
 go_loop [5] (fun i=> ∃k:Nat,k≤n∧i= .int .i64 k∧id∉xs.take k) (fun i=>n-(intOf i).toNat)
 case atStart=>exact⟨0,Nat.zero_le _,rfl,by simp⟩
 case round=>
  obtain⟨k,hk,rfl,hc⟩:=hrel
  have HC:=Lib.hid hc
  clear hc
  by_cases hlt:k<n
  ·obtain⟨b,off,y,rfl,hx,hb,hcell⟩:=HS1.out.int_at hlt
   have HX:=Lib.hid hx
   clear hx
   by_cases hy:y=id
   ·have t1:(y==id)=true:=by simp[hy]
    have hfin:Hid (idxI xs id=k):=idxI_at (by rw[HX.out,hy]) HC.out
    clear hy
    go_wp2
    go_ret
    exact⟨ret_int hfin.out.symm,X1.out⟩
   ·have t1:(y==id)=false:=by simp[hy]
    have hfin:Hid (id∉xs.take (k+1)):=by
     show _∉_
     rw[take_snocL HX.out,List.mem_append,List.mem_singleton]
     exact fun h=>h.elim HC.out (fun e=>hy e.symm)
    clear hy
    go_wp2
    go_round
    case rel=>exact⟨k+1,by omega,by go_num,hfin.out⟩
    case measure=>simp[intOf];omega
  ·have hfin:Hid (idxI xs id= -1):=idxI_none (by have:=HC.out;rwa[List.take_of_length_le (by rw[hl.out];omega)]at this)
   go_wp2
   go_ret
   exact⟨ret_int hfin.out.symm,X1.out⟩
theorem specHfind (wide deep id:Int)(p:Option Addr)(n cap:Nat)(xs:List Int)(w:World)(hS:Sl w p n cap 1 (ivs xs)):
  Calls Tryz.prog 215 #[hallV wide deep p n cap,.int .i64 id] w fun e w'=>e= .returned (.int .i64 (hallFind wide deep xs id))∧Ext w w':=by
 have hl:=hS.ilen
 have HV:=fun(w':World) (hx:Ext w w')=>specHv wide deep p n cap xs w' (hS.ext hx)
 unfold hallFind
 by_cases h:hallOk wide deep xs=true∧1≤id
 ·rw[if_pos h]
  rw[h.1]at HV
  obtain⟨g1,g2,g3,g4,g5,g6,g7,g8,g9⟩:=hallOk_parts h.1
  exact specHfind_ok wide deep id p n cap xs w (by omega) h.2 hS HV
 ·rw[if_neg h]
  exact specHfind_bad wide deep id p n cap _ w (by cases hh:hallOk wide deep xs with
   |false=>exact .inl rfl
   |true=>exact .inr ⟨rfl,by have: ¬1≤id:=fun k=>h ⟨hh,k⟩;omega⟩) HV
end Go.Proofs.YteejdnmmpmcmeaaGreatDoor

