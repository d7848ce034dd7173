/-
  Texts of this proof, packed (@packed).
-/
import Derived.KernelRfl
import Derived.Shelf.Strings.OnBuilder
import Derived.Test.YteejdnmmpmcmeaaGreatDoorP1
import Derived.Test.YteejdnmmpmcmeaaGreatDoorP5
import Derived.Test.YteejdnmmpmcmeaaGreatDoorP7
import Derived.Test.YteejdnmmpmcmeaaGreatDoorP8
import Derived.Test.YteejdnmmpmcmeaaGreatDoorP24
namespace Go.Proofs.YteejdnmmpmcmeaaGreatDoor
open Go.RowKit
set_option linter.unusedVariables false
def jP:Go.Shelf.Ren:=⟨fun|156=>99|165=>134|166=>121|169=>122|240=>153|241=>171|276=>190|277=>204|n=>n,fun|0=>0|3=>3|4=>4|5=>5|9=>9|20=>20|31=>77|37=>22|70=>116|72=>118|75=>120|76=>122|80=>124|127=>147|164=>174|n=>n,fun|n=>n⟩
theorem aA6:Go.Proofs.Lays.n156 Tryz.prog jP:={
 mixed:=by kernel_rfl,
 f156:=Tryz.func99.trans (congrArg some (by kernel_rfl)),
 f165:=Tryz.func134.trans (congrArg some (by kernel_rfl)),
 f166:=Tryz.func121.trans (congrArg some (by kernel_rfl)),
 f169:=Tryz.func122.trans (congrArg some (by kernel_rfl)),
 f240:=Tryz.func153.trans (congrArg some (by kernel_rfl)),
 f241:=Tryz.func171.trans (congrArg some (by kernel_rfl)),
 f276:=Tryz.func190.trans (congrArg some (by kernel_rfl)),
 f277:=Tryz.func204.trans (congrArg some (by kernel_rfl)),
 t0:=Tryz.underlying0,
 a0:=Tryz.isAgg0,
 z0:=Tryz.sizeOf0,
 v0:=Tryz.zeroValue0,
 t3:=Tryz.underlying3,
 a3:=Tryz.isAgg3,
 z3:=Tryz.sizeOf3,
 v3:=Tryz.zeroValue3,
 t4:=Tryz.underlying4,
 a4:=Tryz.isAgg4,
 z4:=Tryz.sizeOf4,
 v4:=Tryz.zeroValue4,
 t9:=Tryz.underlying9,
 a9:=Tryz.isAgg9,
 z9:=Tryz.sizeOf9,
 v9:=Tryz.zeroValue9,
 t20:=Tryz.underlying20,
 a20:=Tryz.isAgg20,
 z20:=Tryz.sizeOf20,
 v20:=Tryz.zeroValue20,
 t31:=Tryz.underlying77,
 a31:=Tryz.isAgg77,
 z31:=Tryz.sizeOf77,
 v31:=Tryz.zeroValue77,
 t37:=Tryz.underlying22,
 a37:=Tryz.isAgg22,
 z37:=Tryz.sizeOf22,
 v37:=Tryz.zeroValue22,
 t70:=Tryz.underlying116,
 a70:=Tryz.isAgg116,
 z70:=Tryz.sizeOf116,
 v70:=Tryz.zeroValue116,
 t72:=Tryz.underlying118,
 a72:=Tryz.isAgg118,
 z72:=Tryz.sizeOf118,
 v72:=Tryz.zeroValue118,
 t75:=Tryz.underlying120,
 a75:=Tryz.isAgg120,
 z75:=Tryz.sizeOf120,
 v75:=Tryz.zeroValue120,
 t76:=Tryz.underlying122,
 a76:=Tryz.isAgg122,
 z76:=Tryz.sizeOf122,
 v76:=Tryz.zeroValue122,
 t127:=Tryz.underlying147,
 a127:=Tryz.isAgg147,
 z127:=Tryz.sizeOf147,
 v127:=Tryz.zeroValue147,
 t164:=Tryz.underlying174,
 a164:=Tryz.isAgg174,
 z164:=Tryz.sizeOf174,
 v164:=Tryz.zeroValue174}
theorem aIy:Go.Proofs.Builder.Extra Tryz.prog jP:={
 sizeBuilder:=by kernel_rfl
 liesBuilder:=by kernel_rfl
 t5:=Tryz.underlying5
 a5:=Tryz.isAgg5
 z5:=Tryz.sizeOf5
 v5:=Tryz.zeroValue5
 infoByte:=by kernel_rfl
 cellsByte:=by kernel_rfl
 sizeByte:=by kernel_rfl
 neB5:=by decide}
def jX (c:UInt8)(r:List (List UInt8)):List UInt8:=r.flatMap (fun y=>c::y)
def dQ (c:UInt8):List (List UInt8)→List UInt8
 | []=> []
 |x::r=>x++jX c r
theorem yP (c:UInt8)(xs:List (List UInt8)):Lib.join xs [c]=dQ c xs:=by
 cases xs with
 |nil=>rfl
 |cons x r=>
  rw[Lib.join_cons]
  show x++(r.map ([c]++ ·)).flatten=x++r.flatMap (fun y=>c::y)
  rw[List.flatMap_def]
  rfl
def mO (ps:List (List UInt8)):List Value:=ps.map str
theorem aCf (ps:List (List UInt8))(c:UInt8)(p:Option Addr)(n cap:Nat)(w:World)(hn:ps.length=n)(h0:0<n)(hS:Sl w p n cap 1 (mO ps))(hl:(dQ c ps).length≤140737488355328)(hn2:n≤1099511627776):
  Calls Tryz.prog 99 #[.slice p n cap,.string ⟨#[c]⟩] w fun e w'=>e= .returned (str (dQ c ps))∧Ext w w':=by
 obtain⟨b,off,rfl,hb,hc⟩:=hS.rd h0
 subst hn
 have hm:(ps.map (fun l=>(⟨l.toArray⟩:ByteArray))).map (·.data.toList)=ps:=by
  rw[List.map_map];exact(List.map_congr_left (fun x _=>by simp)).trans (List.map_id ps)
 have h:=Any.strings_Join aA6 aIy b off cap (ps.map (fun l=>(⟨l.toArray⟩:ByteArray))) ⟨#[c]⟩ w
  (fun j x hx=>by
   rw[List.getElem?_map]at hx
   obtain⟨y,hy,rfl⟩:=Option.map_eq_some_iff.1 hx
   have hj:j<ps.length:=(List.getElem?_eq_some_iff.1 hy).1
   rw[hc j (by omega)]
   simp[mO,hy])
  hb (by rw[List.length_map];omega) (by rw[List.length_map];exact hS.le) (by rw[hm];simpa[yP]using hl)
 rw[hm,List.length_map]at h
 refine h.mono ?_
 rintro e w' ⟨rfl,hx⟩
 exact⟨by rw[show(⟨#[c]⟩:ByteArray).data.toList= [c]from rfl,yP],hx⟩
set_option linter.unusedSimpArgs false
abbrev dec (x:Int):List UInt8:=Lib.decDigits x.toNat
def aT (xs:List Int):List UInt8:=dQ 44 (xs.map dec)
def bH (v:bC):List Int:= [v.1,v.2.1,v.2.2.1,v.2.2.2]
def dC (h:aV):List (List UInt8):=bO h.aA h.aB h.cells::aT [h.free,h.step,h.aD,h.aH]::dec h.aC::dec h.aI::h.vs.map (fun v=>aT (bH v))
def aU (h:aV):List UInt8:=if bN h then dQ 59 (dC h)else []
theorem lN (a b c d:Int):aT [a,b,c,d]=dec a++44::dec b++44::dec c++44::dec d:=by
 simp[aT,dQ,jX]
theorem mU (a:Int):aT [a]=dec a:=by simp[aT,dQ,jX]
theorem dK (x:Int)(h:x≤9223372036854775807):(dec x).length≤21:=dT _ (by omega)
theorem lW (a b c d:Int)(h1:a≤9223372036854775807)(h2:b≤9223372036854775807)(h3:c≤9223372036854775807)(h4:d≤9223372036854775807):(aT [a,b,c,d]).length≤90:=by
 rw[lN]
 have:=dK a h1;have:=dK b h2;have:=dK c h3;have:=dK d h4
 simp only[List.length_append,List.length_cons]
 omega
theorem aB9 (c:UInt8)(M:Nat): ∀r:List (List UInt8),(∀x∈r,x.length≤M)→(jX c r).length≤(M+1)*r.length:=by
 intro r
 induction r with
 |nil=>intro _;simp[jX]
 |cons x r ih=>
  intro h
  have h1:=h x (by simp)
  have h2:=ih (fun y hy=>h y (by simp[hy]))
  simp only[jX,List.flatMap_cons,List.length_append,List.length_cons]at h2⊢
  rw[Nat.mul_succ]
  omega
theorem aL5 (l:List UInt8)(m:Nat)(h:l.length≤m): ∃s:ByteArray,s=⟨l.toArray⟩∧s.size≤m:=⟨_,rfl,by simpa[ByteArray.size]using h⟩
theorem lL (a b:ByteArray)(x y:List UInt8)(h1:a=⟨x.toArray⟩)(h2:b=⟨y.toArray⟩):a++b=⟨(x++y).toArray⟩:=by
 rw[h1,h2];exact Go.WideShapes.bytes_inj (by simp[ByteArray.data_append])
theorem aL6 {a:ByteArray}{l:List UInt8}(h:a=⟨l.toArray⟩):Ending.returned (.string a)= .returned (str l):=by rw[h]
set_option maxRecDepth 100000 in
set_option maxHeartbeats 1000000 in
theorem rN (aA aB:Int)(p:Option Addr)(n cap:Nat)(w:World)(hn:n≤9223372036854775807)(HV:Hid (∀w',Ext w w'→Calls Tryz.prog 64 #[aJ aA aB p n cap] w' fun e w''=>e= .returned (.bool false)∧Ext w' w'')):
  Calls Tryz.prog 100 #[aJ aA aB p n cap] w fun e w'=>e= .returned (str [])∧Ext w w':=by
 by_cases h0:0<n
 ·have u1:(0:Int)<(n:Int):=by omega
  go_enter Tryz.func100,Tryz.ntmps100
  go_wp2
  refine wp_loop_rounds 1 ?_
  rw[rounds_succ]
  go_wp2_with fail
  refine(HV.out _ xE).mono ?_
  rintro e w1 ⟨rfl,h1⟩
  go_wp2
  go_ret
  exact⟨rfl,xE⟩
 ·obtain rfl:n=0:=by omega
  go_enter Tryz.func100,Tryz.ntmps100
  go_wp2
  go_rounds 1
  go_ret
  exact⟨rfl,xE⟩
set_option maxRecDepth 100000 in
set_option maxHeartbeats 1000000 in
theorem tO (aA aB:Int)(p:Option Addr)(n cap:Nat)(xs:List Int)(w:World)(h0:2≤aA)(h1:aA≤4)(hn:n≤12)(hc: ∀x∈xs,0≤x∧x≤99)(HS:Hid (Sl w p n cap 1 (ivs xs)))
  (HV:Hid (∀w',Ext w w'→Calls Tryz.prog 64 #[aJ aA aB p n cap] w' fun e w''=>e= .returned (.bool true)∧Ext w' w'')):
  Calls Tryz.prog 100 #[aJ aA aB p n cap] w fun e w'=>e= .returned (str (aS aA xs n))∧Ext w w':=by
 have HCC:=xQ hc
 clear hc
 go_enter Tryz.func100,Tryz.ntmps100
 go_wp2
 go_loopw [3,4] (fun o i wr=> ∃(k:Nat) (S:ByteArray),k≤n∧i= .int .i64 k∧o= .string S∧S=⟨(aS aA xs k).toArray⟩∧Ext w wr∧Blk wr w.heap.size 25 #[.int .i64 aA,.int .i64 aB,.slice p n cap]) (fun _ i _=>n-(intOf i).toNat)
 case atStart=>exact⟨0,_,Nat.zero_le _,rfl,rfl,rfl,xE,Blk.new _ _ _⟩
 case round=>
  obtain⟨k,S,hk,rfl,rfl,hS,hE,hB⟩:=hrel
  have hSz:S.size≤300:=by
   have:=lP aA xs (fun x hx=>(HCC.out x hx).2) k
   rw[hS];simp[ByteArray.size];omega
  have HSt:=xQ hS
  have HBr:=xQ hB
  have hszr:w.heap.size<wr.heap.size:=hB.lt
  clear hS hB
  by_cases hlt:k<n
  ·obtain⟨b,off,x,rfl,hx,hbs,hcell⟩:=(HS.out.ext hE).int_at hlt
   obtain⟨hx0,hx1⟩:=HCC.out x (List.mem_of_getElem? hx)
   have HX:=xQ hx
   have hfin:=xQ (nV (aA:=aA) hx)
   clear hx
   have i1:(0:Int)≤(k:Int):=by omega
   have i2:(k:Int)<(n:Int):=by omega
   obtain⟨r0,r1,r2⟩:=(HBr.out).tri
   have HNum:Hid (∀w,Calls Tryz.prog 102 #[.int .i64 x] w fun e w'=>e= .returned (str (Lib.decDigits x.toNat))∧Ext w w'):=fun w=>lY x w hx0 (by omega)
   obtain⟨tx,ex,mx⟩:=aL5 (Lib.decDigits x.toNat) 21 (dT _ (by omega))
   have HNum2:Hid (∀w,Calls Tryz.prog 102 #[.int .i64 x] w fun e w'=>e= .returned (.string tx)∧Ext w w'):=by rw[ex];exact HNum.out
   have HEx:=xQ ex
   clear ex HNum
   go_wp2_with fail
   refine(HV.out _ xE).mono ?_
   rintro e w1 ⟨rfl,hh1⟩
   have HB1:=xQ (HBr.out.ext hh1)
   have X1:Ext w w1:=hE.trans hh1
   have hcell1:w1.cell? ⟨b,off+k,none⟩=some (iv x):=by rw[hh1.cells.1 _ _ hbs];exact hcell
   have hbs1:b<w1.heap.size:=Nat.lt_of_lt_of_le hbs hh1.sz
   clear hh1 r0 r1 r2 HBr hcell hbs
   obtain⟨a0,a1,a2⟩:=(HB1.out).tri
   by_cases hk0:k=0
   ·by_cases hz:x=0
    ·have hsep:Hid (cK aA k= []):=by show _=_;simp[cK,hk0]
     have S1:Hid (S=⟨(aS aA xs k++cK aA k).toArray⟩):=by show _=_;rw[hsep.out,List.append_nil];exact HSt.out
     have f1:decide ((0:Int)<(k:Int))=false:=by simp[hk0]
     have f2:decide (0<k)=false:=by simp[hk0]
     have f3: ¬0<k:=by omega
     have z1:(x==0)=true:=by simp[hz]
     have hacc:Hid (S++⟨#[46]⟩=⟨(aS aA xs (k+1)).toArray⟩):=by show _=_;rw[hfin.out];exact lL _ _ _ _ S1.out (by simp[dG,hz])
     have q2: ¬9223372036854775807<S.size+1:=by omega
     clear hk0 hz
     go_wp2
     go_roundw
     case rel=>exact⟨k+1,_,by omega,by go_num,rfl,hacc.out,xE,HB1.out.ext xE⟩
     case measure=>simp[intOf];omega
    ·have hsep:Hid (cK aA k= []):=by show _=_;simp[cK,hk0]
     have S1:Hid (S=⟨(aS aA xs k++cK aA k).toArray⟩):=by show _=_;rw[hsep.out,List.append_nil];exact HSt.out
     have f1:decide ((0:Int)<(k:Int))=false:=by simp[hk0]
     have f2:decide (0<k)=false:=by simp[hk0]
     have f3: ¬0<k:=by omega
     have z1:(x==0)=false:=by simp[hz]
     have hacc:Hid (S++tx=⟨(aS aA xs (k+1)).toArray⟩):=by show _=_;rw[hfin.out];exact lL _ _ _ _ S1.out (by rw[HEx.out];simp[dG,hz])
     have q2: ¬9223372036854775807<S.size+tx.size:=by omega
     clear hk0 hz
     go_wp2_with fail
     refine(HNum2.out _).mono ?_
     rintro e w2 ⟨rfl,hh2⟩
     have HB2:=xQ (HB1.out.ext hh2)
     go_wp2
     go_roundw
     case rel=>exact⟨k+1,_,by omega,by go_num,rfl,hacc.out,xE,HB2.out⟩
     case measure=>simp[intOf];omega
   ·by_cases hmod:(k:Int)%aA=0
    ·by_cases hz:x=0
     ·have hsep:Hid (cK aA k= [47]):=by show _=_;simp[cK,hk0,hmod]
      have S1:Hid (S++⟨#[47]⟩=⟨(aS aA xs k++cK aA k).toArray⟩):=by show _=_;rw[hsep.out];exact lL _ _ _ _ HSt.out rfl
      have q1: ¬9223372036854775807<S.size+1:=by omega
      have f1:0<k:=by omega
      have f3:(0:Int)<(k:Int):=by omega
      have f2:((k:Int)%aA==0)=true:=by simp[hmod]
      have z1:(x==0)=true:=by simp[hz]
      have hacc:Hid (S++⟨#[47]⟩++⟨#[46]⟩=⟨(aS aA xs (k+1)).toArray⟩):=by show _=_;rw[hfin.out];exact lL _ _ _ _ S1.out (by simp[dG,hz])
      have q2: ¬9223372036854775807<S.size+1+1:=by omega
      clear hk0 hz hmod
      go_wp2
      go_roundw
      case rel=>exact⟨k+1,_,by omega,by go_num,rfl,hacc.out,xE,HB1.out.ext xE⟩
      case measure=>simp[intOf];omega
     ·have hsep:Hid (cK aA k= [47]):=by show _=_;simp[cK,hk0,hmod]
      have S1:Hid (S++⟨#[47]⟩=⟨(aS aA xs k++cK aA k).toArray⟩):=by show _=_;rw[hsep.out];exact lL _ _ _ _ HSt.out rfl
      have q1: ¬9223372036854775807<S.size+1:=by omega
      have f1:0<k:=by omega
      have f3:(0:Int)<(k:Int):=by omega
      have f2:((k:Int)%aA==0)=true:=by simp[hmod]
      have z1:(x==0)=false:=by simp[hz]
      have hacc:Hid (S++⟨#[47]⟩++tx=⟨(aS aA xs (k+1)).toArray⟩):=by show _=_;rw[hfin.out];exact lL _ _ _ _ S1.out (by rw[HEx.out];simp[dG,hz])
      have q2: ¬9223372036854775807<S.size+1+tx.size:=by omega
      clear hk0 hz hmod
      go_wp2_with fail
      refine(HNum2.out _).mono ?_
      rintro e w2 ⟨rfl,hh2⟩
      have HB2:=xQ (HB1.out.ext hh2)
      go_wp2
      go_roundw
      case rel=>exact⟨k+1,_,by omega,by go_num,rfl,hacc.out,xE,HB2.out⟩
      case measure=>simp[intOf];omega
    ·by_cases hz:x=0
     ·have hsep:Hid (cK aA k= [44]):=by show _=_;simp[cK,hk0,hmod]
      have S1:Hid (S++⟨#[44]⟩=⟨(aS aA xs k++cK aA k).toArray⟩):=by show _=_;rw[hsep.out];exact lL _ _ _ _ HSt.out rfl
      have q1: ¬9223372036854775807<S.size+1:=by omega
      have f1:0<k:=by omega
      have f3:(0:Int)<(k:Int):=by omega
      have f2:((k:Int)%aA==0)=false:=by simp[hmod]
      have z1:(x==0)=true:=by simp[hz]
      have hacc:Hid (S++⟨#[44]⟩++⟨#[46]⟩=⟨(aS aA xs (k+1)).toArray⟩):=by show _=_;rw[hfin.out];exact lL _ _ _ _ S1.out (by simp[dG,hz])
      have q2: ¬9223372036854775807<S.size+1+1:=by omega
      clear hk0 hz hmod
      go_wp2
      go_roundw
      case rel=>exact⟨k+1,_,by omega,by go_num,rfl,hacc.out,xE,HB1.out.ext xE⟩
      case measure=>simp[intOf];omega
     ·have hsep:Hid (cK aA k= [44]):=by show _=_;simp[cK,hk0,hmod]
      have S1:Hid (S++⟨#[44]⟩=⟨(aS aA xs k++cK aA k).toArray⟩):=by show _=_;rw[hsep.out];exact lL _ _ _ _ HSt.out rfl
      have q1: ¬9223372036854775807<S.size+1:=by omega
      have f1:0<k:=by omega
      have f3:(0:Int)<(k:Int):=by omega
      have f2:((k:Int)%aA==0)=false:=by simp[hmod]
      have z1:(x==0)=false:=by simp[hz]
      have hacc:Hid (S++⟨#[44]⟩++tx=⟨(aS aA xs (k+1)).toArray⟩):=by show _=_;rw[hfin.out];exact lL _ _ _ _ S1.out (by rw[HEx.out];simp[dG,hz])
      have q2: ¬9223372036854775807<S.size+1+tx.size:=by omega
      clear hk0 hz hmod
      go_wp2_with fail
      refine(HNum2.out _).mono ?_
      rintro e w2 ⟨rfl,hh2⟩
      have HB2:=xQ (HB1.out.ext hh2)
      go_wp2
      go_roundw
      case rel=>exact⟨k+1,_,by omega,by go_num,rfl,hacc.out,xE,HB2.out⟩
      case measure=>simp[intOf];omega
  ·have hkn:k=n:=by omega
   have hfin:Hid (S=⟨(aS aA xs n).toArray⟩):=by show _=_;rw[←hkn];exact HSt.out
   obtain⟨r0,r1,r2⟩:=(HBr.out).tri
   go_wp2
   go_ret
   exact⟨aL6 hfin.out,hE⟩
theorem qH (aA aB:Int)(p:Option Addr)(n cap:Nat)(xs:List Int)(w:World)(hS:Sl w p n cap 1 (ivs xs)):
  Calls Tryz.prog 100 #[aJ aA aB p n cap] w fun e w'=>e= .returned (str (bO aA aB xs))∧Ext w w':=by
 have hl:=hS.ilen
 cases h:aR aA aB xs with
 |true=>
  obtain⟨h1,h2,h3,h4,h5,h6,h7,h8,h9⟩:=cN h
  unfold bO
  rw[if_pos h,hl]
  exact tO aA aB p n cap xs w h1 h2 (by omega) h8 hS (fun w' hx=>by rw[←h];exact eY aA aB p n cap xs w' (hS.ext hx))
 |false=>
  unfold bO
  rw[if_neg (by simp[h])]
  exact rN aA aB p n cap w hS.bd (fun w' hx=>by rw[←h];exact eY aA aB p n cap xs w' (hS.ext hx))
theorem zM {h:aV}(hok:bN h=true):(h.vs.map (·.1)).Nodup∧h.vs.length≤12∧ ∀v∈h.vs,eV h.aC v=true:=by
 unfold bN at hok
 simp only[Bool.and_eq_true]at hok
 obtain⟨⟨⟨h1,h2⟩,h3⟩,h4⟩:=hok
 obtain⟨q1,q2⟩:=kA h4
 unfold aR at h1
 rw[Bool.and_eq_true]at h1
 have hc:=(eI _ _).1 h1.2
 have hb:=cG h1.1
 refine⟨?_,?_,q2⟩
 ·rw[q1];exact(iD _).nodup_iff.2 hc.2.2
 ·have:=congrArg List.length q1
  rw[List.length_map,nB]at this
  have:=oN h.cells
  omega
theorem aH3 (l:List UInt8):(⟨l.toArray⟩:ByteArray).size=l.length:=by simp[ByteArray.size]
theorem aKz:(⟨#[59]⟩:ByteArray).size=1:=rfl
theorem aL4:(⟨#[44]⟩:ByteArray).size=1:=rfl
theorem aBy {a:ByteArray}{l:List UInt8}(h:a=⟨l.toArray⟩):Ending.returned (.string a)= .returned (str l):=by rw[h]
theorem eD (l:List UInt8)(m:Nat)(h:l.length≤m): ∃s:ByteArray,s=⟨l.toArray⟩∧s.size≤m:=⟨_,rfl,by rw[aH3];exact h⟩
set_option maxRecDepth 100000 in
set_option maxHeartbeats 1000000 in
theorem uR (free step aD aH:Int)(w:World)(h0:0≤free)(h1:0≤step)(h2:0≤aD)(h3:0≤aH)(h4:free≤9223372036854775807)(h5:step≤9223372036854775807)(h6:aD≤9223372036854775807)(h7:aH≤9223372036854775807):
  Calls Tryz.prog 101 #[bD free step aD aH] w fun e w'=>e= .returned (str (aT [free,step,aD,aH]))∧Ext w w':=by
 obtain⟨s1,e1,l1⟩:=eD (dec free) 21 (dK _ h4)
 obtain⟨s2,e2,l2⟩:=eD (dec step) 21 (dK _ h5)
 obtain⟨s3,e3,l3⟩:=eD (dec aD) 21 (dK _ h6)
 obtain⟨s4,e4,l4⟩:=eD (dec aH) 21 (dK _ h7)
 have HN1:Hid (∀w,Calls Tryz.prog 102 #[.int .i64 free] w fun e w'=>e= .returned (.string s1)∧Ext w w'):=fun w=>by rw[e1];exact lY free w h0 h4
 have HN2:Hid (∀w,Calls Tryz.prog 102 #[.int .i64 step] w fun e w'=>e= .returned (.string s2)∧Ext w w'):=fun w=>by rw[e2];exact lY step w h1 h5
 have HN3:Hid (∀w,Calls Tryz.prog 102 #[.int .i64 aD] w fun e w'=>e= .returned (.string s3)∧Ext w w'):=fun w=>by rw[e3];exact lY aD w h2 h6
 have HN4:Hid (∀w,Calls Tryz.prog 102 #[.int .i64 aH] w fun e w'=>e= .returned (.string s4)∧Ext w w'):=fun w=>by rw[e4];exact lY aH w h3 h7
 have HF:Hid (s1++⟨#[44]⟩++s2++⟨#[44]⟩++s3++⟨#[44]⟩++s4=⟨(aT [free,step,aD,aH]).toArray⟩):=by
  show _=_
  rw[lN,e1,e2,e3,e4]
  apply Go.WideShapes.bytes_inj
  simp[ByteArray.data_append]
 clear e1 e2 e3 e4 h0 h1 h2 h3 h4 h5 h6 h7
 have q1: ¬9223372036854775807<s1.size+1:=by omega
 have q2: ¬9223372036854775807<s1.size+1+s2.size:=by omega
 have q3: ¬9223372036854775807<s1.size+1+s2.size+1:=by omega
 have q4: ¬9223372036854775807<s1.size+1+s2.size+1+s3.size:=by omega
 have q5: ¬9223372036854775807<s1.size+1+s2.size+1+s3.size+1:=by omega
 have q6: ¬9223372036854775807<s1.size+1+s2.size+1+s3.size+1+s4.size:=by omega
 have B0:Hid (Blk (w.alloc (.cells #[.int .i64 free,.int .i64 step,.int .i64 aD,.int .i64 aH] 27)) w.heap.size 27 #[.int .i64 free,.int .i64 step,.int .i64 aD,.int .i64 aH]):=Blk.new w _ _
 have X0:Hid (Ext w (w.alloc (.cells #[.int .i64 free,.int .i64 step,.int .i64 aD,.int .i64 aH] 27))):=(Ext.refl w).alloc _
 go_enter Tryz.func101,Tryz.ntmps101
 go_wp2
 go_region_held3 (fun w'=>w'.cell? ⟨w.heap.size,0,none⟩=some (.int .i64 free)∧w'.cell? ⟨w.heap.size,1,none⟩=some (.int .i64 step)∧w'.cell? ⟨w.heap.size,2,none⟩=some (.int .i64 aD)∧w'.cell? ⟨w.heap.size,3,none⟩=some (.int .i64 aH)) (first|(refine⟨?_,?_,?_,?_⟩<;>assumption)|go_keep)
  ((go_at_call 102;(first
    |((with_reducible refine(HN1.out _).mono ?_)
      rintro e w1 ⟨rfl,hh1⟩
      (try replace hh1:=hh1.of_drew)
      have B1:=xQ (B0.out.ext hh1)
      have X1:=xQ (X0.out.trans hh1)
      skip
      clear hh1
      have c1_0:w1.cell? ⟨w.heap.size,0,none⟩=some (.int .i64 free):=B1.out.cell 0
      have c1_1:w1.cell? ⟨w.heap.size,1,none⟩=some (.int .i64 step):=B1.out.cell 1
      have c1_2:w1.cell? ⟨w.heap.size,2,none⟩=some (.int .i64 aD):=B1.out.cell 2
      have c1_3:w1.cell? ⟨w.heap.size,3,none⟩=some (.int .i64 aH):=B1.out.cell 3)
    |((with_reducible refine(HN2.out _).mono ?_)
      rintro e w2 ⟨rfl,hh2⟩
      (try replace hh2:=hh2.of_drew)
      have B2:=xQ (B1.out.ext hh2)
      have X2:=xQ (X1.out.trans hh2)
      skip
      clear hh2
      have c2_0:w2.cell? ⟨w.heap.size,0,none⟩=some (.int .i64 free):=B2.out.cell 0
      have c2_1:w2.cell? ⟨w.heap.size,1,none⟩=some (.int .i64 step):=B2.out.cell 1
      have c2_2:w2.cell? ⟨w.heap.size,2,none⟩=some (.int .i64 aD):=B2.out.cell 2
      have c2_3:w2.cell? ⟨w.heap.size,3,none⟩=some (.int .i64 aH):=B2.out.cell 3)
    |((with_reducible refine(HN3.out _).mono ?_)
      rintro e w3 ⟨rfl,hh3⟩
      (try replace hh3:=hh3.of_drew)
      have B3:=xQ (B2.out.ext hh3)
      have X3:=xQ (X2.out.trans hh3)
      skip
      clear hh3
      have c3_0:w3.cell? ⟨w.heap.size,0,none⟩=some (.int .i64 free):=B3.out.cell 0
      have c3_1:w3.cell? ⟨w.heap.size,1,none⟩=some (.int .i64 step):=B3.out.cell 1
      have c3_2:w3.cell? ⟨w.heap.size,2,none⟩=some (.int .i64 aD):=B3.out.cell 2
      have c3_3:w3.cell? ⟨w.heap.size,3,none⟩=some (.int .i64 aH):=B3.out.cell 3)
    |((with_reducible refine(HN4.out _).mono ?_)
      rintro e w4 ⟨rfl,hh4⟩
      (try replace hh4:=hh4.of_drew)
      have B4:=xQ (B3.out.ext hh4)
      have X4:=xQ (X3.out.trans hh4)
      skip
      clear hh4
      have c4_0:w4.cell? ⟨w.heap.size,0,none⟩=some (.int .i64 free):=B4.out.cell 0
      have c4_1:w4.cell? ⟨w.heap.size,1,none⟩=some (.int .i64 step):=B4.out.cell 1
      have c4_2:w4.cell? ⟨w.heap.size,2,none⟩=some (.int .i64 aD):=B4.out.cell 2
      have c4_3:w4.cell? ⟨w.heap.size,3,none⟩=some (.int .i64 aH):=B4.out.cell 3))))
 all_goals go_wp2
 all_goals go_ret
 all_goals exact⟨aBy HF.out,X4.out⟩
set_option maxRecDepth 100000 in
set_option maxHeartbeats 1000000 in
theorem wZ (aA aB free step aD aH aC aI:Int)(p:Option Addr)(n cap:Nat)(q:Option Addr)(m c2:Nat)(w:World)(HV:Hid (∀w',Ext w w'→Calls Tryz.prog 17 #[.agg #[.int .i64 aA,.int .i64 aB,.slice p n cap,.int .i64 free,.int .i64 step,.int .i64 aD,.int .i64 aH,.int .i64 aC,.int .i64 aI,.slice q m c2]] w' fun e w''=>e= .returned (.bool false)∧Ext w' w'')):
  Calls Tryz.prog 47 #[.agg #[.int .i64 aA,.int .i64 aB,.slice p n cap,.int .i64 free,.int .i64 step,.int .i64 aD,.int .i64 aH,.int .i64 aC,.int .i64 aI,.slice q m c2]] w fun e w'=>e= .returned (str [])∧Ext w w':=by
 go_enter Tryz.func47,Tryz.ntmps47
 go_wp2_with fail
 refine(HV.out _ xE).mono ?_
 rintro e w1 ⟨rfl,hh1⟩
 go_wp2
 go_ret
 exact⟨rfl,xE⟩
theorem aJ8 (s1 s2 s3 s4:ByteArray)(p1 p2 p3 p4:List UInt8)(e1:s1=⟨p1.toArray⟩)(e2:s2=⟨p2.toArray⟩)(e3:s3=⟨p3.toArray⟩)(e4:s4=⟨p4.toArray⟩):
  s1++⟨#[59]⟩++s2++⟨#[59]⟩++s3++⟨#[59]⟩++s4=⟨(dQ 59 [p1,p2,p3,p4]).toArray⟩:=by
 rw[e1,e2,e3,e4]
 apply Go.WideShapes.bytes_inj
 simp[ByteArray.data_append,dQ,jX]
theorem aFk (S t1 t2 t3 t4:ByteArray)(a0 a1 a2 a3:Int)(P:List UInt8)(e0:S=⟨P.toArray⟩)(e1:t1=⟨(dec a0).toArray⟩)(e2:t2=⟨(dec a1).toArray⟩)(e3:t3=⟨(dec a2).toArray⟩)(e4:t4=⟨(dec a3).toArray⟩):
  S++⟨#[59]⟩++t1++⟨#[44]⟩++t2++⟨#[44]⟩++t3++⟨#[44]⟩++t4=⟨(P++59::aT [a0,a1,a2,a3]).toArray⟩:=by
 rw[e0,e1,e2,e3,e4,lN]
 apply Go.WideShapes.bytes_inj
 simp[ByteArray.data_append]
set_option maxRecDepth 100000 in
set_option maxHeartbeats 1000000 in
theorem zV (aA aB free step aD aH aC aI:Int)(p:Option Addr)(n cap:Nat)(q:Option Addr)(m c2:Nat)(w:World)(vs:List bC)(p1 p2 p3 p4:List UInt8)(l1:p1.length≤400)(l2:p2.length≤100)(l3:p3.length≤30)(l4:p4.length≤30)(hm:m≤12)(HS:Hid (Sl w q m c2 4 (vs.flatMap aE)))
  (HG:Hid (∀v∈vs,0≤v.1∧v.1≤99999∧0≤v.2.1∧v.2.1≤99999∧0≤v.2.2.1∧v.2.2.1≤99999∧0≤v.2.2.2∧v.2.2.2≤99999))
  (HV:Hid (∀w',Ext w w'→Calls Tryz.prog 17 #[.agg #[.int .i64 aA,.int .i64 aB,.slice p n cap,.int .i64 free,.int .i64 step,.int .i64 aD,.int .i64 aH,.int .i64 aC,.int .i64 aI,.slice q m c2]] w' fun e w''=>e= .returned (.bool true)∧Ext w' w''))
  (H1:Hid (∀w',Ext w w'→Calls Tryz.prog 100 #[aJ aA aB p n cap] w' fun e w''=>e= .returned (str p1)∧Ext w' w''))
  (H2:Hid (∀w',Calls Tryz.prog 101 #[bD free step aD aH] w' fun e w''=>e= .returned (str p2)∧Ext w' w''))
  (H3:Hid (∀w',Calls Tryz.prog 102 #[.int .i64 aC] w' fun e w''=>e= .returned (str p3)∧Ext w' w''))
  (H4:Hid (∀w',Calls Tryz.prog 102 #[.int .i64 aI] w' fun e w''=>e= .returned (str p4)∧Ext w' w'')):
  Calls Tryz.prog 47 #[.agg #[.int .i64 aA,.int .i64 aB,.slice p n cap,.int .i64 free,.int .i64 step,.int .i64 aD,.int .i64 aH,.int .i64 aC,.int .i64 aI,.slice q m c2]] w fun e w'=>e= .returned (str (dQ 59 ([p1,p2,p3,p4]++vs.map (fun v=>aT (bH v)))))∧Ext w w':=by
 obtain⟨s1,e1,m1⟩:=eD p1 400 l1
 obtain⟨s2,e2,m2⟩:=eD p2 100 l2
 obtain⟨s3,e3,m3⟩:=eD p3 30 l3
 obtain⟨s4,e4,m4⟩:=eD p4 30 l4
 have HN1:Hid (∀w',Ext w w'→Calls Tryz.prog 100 #[aJ aA aB p n cap] w' fun e w''=>e= .returned (.string s1)∧Ext w' w''):=by rw[e1];exact H1.out
 have HN2:Hid (∀w',Calls Tryz.prog 101 #[bD free step aD aH] w' fun e w''=>e= .returned (.string s2)∧Ext w' w''):=by rw[e2];exact H2.out
 have HN3:Hid (∀w',Calls Tryz.prog 102 #[.int .i64 aC] w' fun e w''=>e= .returned (.string s3)∧Ext w' w''):=by rw[e3];exact H3.out
 have HN4:Hid (∀w',Calls Tryz.prog 102 #[.int .i64 aI] w' fun e w''=>e= .returned (.string s4)∧Ext w' w''):=by rw[e4];exact H4.out
 have HF:=xQ (aJ8 s1 s2 s3 s4 p1 p2 p3 p4 e1 e2 e3 e4)
 have hl:Hid (vs.length=m):=by
  have:=HS.out.len;rw[fD aE 4 (fun _=>rfl)]at this;exact(by omega:vs.length=m)
 clear e1 e2 e3 e4 l1 l2 l3 l4 H1 H2 H3 H4
 have q1: ¬9223372036854775807<s1.size+1:=by omega
 have q2: ¬9223372036854775807<s1.size+1+s2.size:=by omega
 have q3: ¬9223372036854775807<s1.size+1+s2.size+1:=by omega
 have q4: ¬9223372036854775807<s1.size+1+s2.size+1+s3.size:=by omega
 have q5: ¬9223372036854775807<s1.size+1+s2.size+1+s3.size+1:=by omega
 have q6: ¬9223372036854775807<s1.size+1+s2.size+1+s3.size+1+s4.size:=by omega
 go_enter Tryz.func47,Tryz.ntmps47
 go_wp2_with fail
 refine(HV.out _ xE).mono ?_
 rintro e w0 ⟨rfl,hh0⟩
 have B0:Hid (Blk w0 w.heap.size 30 #[.int .i64 aA,.int .i64 aB,.slice p n cap,.int .i64 free,.int .i64 step,.int .i64 aD,.int .i64 aH,.int .i64 aC,.int .i64 aI,.slice q m c2]):=(Blk.new w _ _).ext hh0
 have X0:Hid (Ext w w0):=by show Ext w w0;exact xE
 clear hh0
 obtain⟨a0,a1,a2,a3,a4,a5,a6,a7,a8,a9⟩:=(B0.out).ten
 go_wp2
 go_region_held3 (fun w'=>w'.cell? ⟨w.heap.size,0,none⟩=some (.int .i64 aA)∧w'.cell? ⟨w.heap.size,1,none⟩=some (.int .i64 aB)∧w'.cell? ⟨w.heap.size,2,none⟩=some (.slice p n cap)∧w'.cell? ⟨w.heap.size,3,none⟩=some (.int .i64 free)∧w'.cell? ⟨w.heap.size,4,none⟩=some (.int .i64 step)∧w'.cell? ⟨w.heap.size,5,none⟩=some (.int .i64 aD)∧w'.cell? ⟨w.heap.size,6,none⟩=some (.int .i64 aH)∧w'.cell? ⟨w.heap.size,7,none⟩=some (.int .i64 aC)∧w'.cell? ⟨w.heap.size,8,none⟩=some (.int .i64 aI)∧w'.cell? ⟨w.heap.size,9,none⟩=some (.slice q m c2)) (first|(refine⟨?_,?_,?_,?_,?_,?_,?_,?_,?_,?_⟩<;>assumption)|go_keep)
  ((first
    |(go_at_call 100;(with_reducible refine(HN1.out _ (by first|exact X0.out|exact X0.out.drew)).mono ?_)
      rintro e w1 ⟨rfl,hh1⟩
      (try replace hh1:=hh1.of_drew)
      have B1:=xQ (B0.out.ext hh1)
      have X1:=xQ (X0.out.trans hh1)
      skip
      clear hh1
      have c1_0:w1.cell? ⟨w.heap.size,0,none⟩=some (.int .i64 aA):=B1.out.cell 0
      have c1_1:w1.cell? ⟨w.heap.size,1,none⟩=some (.int .i64 aB):=B1.out.cell 1
      have c1_2:w1.cell? ⟨w.heap.size,2,none⟩=some (.slice p n cap):=B1.out.cell 2
      have c1_3:w1.cell? ⟨w.heap.size,3,none⟩=some (.int .i64 free):=B1.out.cell 3
      have c1_4:w1.cell? ⟨w.heap.size,4,none⟩=some (.int .i64 step):=B1.out.cell 4
      have c1_5:w1.cell? ⟨w.heap.size,5,none⟩=some (.int .i64 aD):=B1.out.cell 5
      have c1_6:w1.cell? ⟨w.heap.size,6,none⟩=some (.int .i64 aH):=B1.out.cell 6
      have c1_7:w1.cell? ⟨w.heap.size,7,none⟩=some (.int .i64 aC):=B1.out.cell 7
      have c1_8:w1.cell? ⟨w.heap.size,8,none⟩=some (.int .i64 aI):=B1.out.cell 8
      have c1_9:w1.cell? ⟨w.heap.size,9,none⟩=some (.slice q m c2):=B1.out.cell 9)
    |(go_at_call 101;(with_reducible refine(HN2.out _).mono ?_)
      rintro e w2 ⟨rfl,hh2⟩
      (try replace hh2:=hh2.of_drew)
      have B2:=xQ (B1.out.ext hh2)
      have X2:=xQ (X1.out.trans hh2)
      skip
      clear hh2
      have c2_0:w2.cell? ⟨w.heap.size,0,none⟩=some (.int .i64 aA):=B2.out.cell 0
      have c2_1:w2.cell? ⟨w.heap.size,1,none⟩=some (.int .i64 aB):=B2.out.cell 1
      have c2_2:w2.cell? ⟨w.heap.size,2,none⟩=some (.slice p n cap):=B2.out.cell 2
      have c2_3:w2.cell? ⟨w.heap.size,3,none⟩=some (.int .i64 free):=B2.out.cell 3
      have c2_4:w2.cell? ⟨w.heap.size,4,none⟩=some (.int .i64 step):=B2.out.cell 4
      have c2_5:w2.cell? ⟨w.heap.size,5,none⟩=some (.int .i64 aD):=B2.out.cell 5
      have c2_6:w2.cell? ⟨w.heap.size,6,none⟩=some (.int .i64 aH):=B2.out.cell 6
      have c2_7:w2.cell? ⟨w.heap.size,7,none⟩=some (.int .i64 aC):=B2.out.cell 7
      have c2_8:w2.cell? ⟨w.heap.size,8,none⟩=some (.int .i64 aI):=B2.out.cell 8
      have c2_9:w2.cell? ⟨w.heap.size,9,none⟩=some (.slice q m c2):=B2.out.cell 9)
    |(go_at_call 102;(with_reducible refine(HN3.out _).mono ?_)
      rintro e w3 ⟨rfl,hh3⟩
      (try replace hh3:=hh3.of_drew)
      have B3:=xQ (B2.out.ext hh3)
      have X3:=xQ (X2.out.trans hh3)
      skip
      clear hh3
      have c3_0:w3.cell? ⟨w.heap.size,0,none⟩=some (.int .i64 aA):=B3.out.cell 0
      have c3_1:w3.cell? ⟨w.heap.size,1,none⟩=some (.int .i64 aB):=B3.out.cell 1
      have c3_2:w3.cell? ⟨w.heap.size,2,none⟩=some (.slice p n cap):=B3.out.cell 2
      have c3_3:w3.cell? ⟨w.heap.size,3,none⟩=some (.int .i64 free):=B3.out.cell 3
      have c3_4:w3.cell? ⟨w.heap.size,4,none⟩=some (.int .i64 step):=B3.out.cell 4
      have c3_5:w3.cell? ⟨w.heap.size,5,none⟩=some (.int .i64 aD):=B3.out.cell 5
      have c3_6:w3.cell? ⟨w.heap.size,6,none⟩=some (.int .i64 aH):=B3.out.cell 6
      have c3_7:w3.cell? ⟨w.heap.size,7,none⟩=some (.int .i64 aC):=B3.out.cell 7
      have c3_8:w3.cell? ⟨w.heap.size,8,none⟩=some (.int .i64 aI):=B3.out.cell 8
      have c3_9:w3.cell? ⟨w.heap.size,9,none⟩=some (.slice q m c2):=B3.out.cell 9)
    |(go_at_call 102;(with_reducible refine(HN4.out _).mono ?_)
      rintro e w4 ⟨rfl,hh4⟩
      (try replace hh4:=hh4.of_drew)
      have B4:=xQ (B3.out.ext hh4)
      have X4:=xQ (X3.out.trans hh4)
      skip
      clear hh4
      have c4_0:w4.cell? ⟨w.heap.size,0,none⟩=some (.int .i64 aA):=B4.out.cell 0
      have c4_1:w4.cell? ⟨w.heap.size,1,none⟩=some (.int .i64 aB):=B4.out.cell 1
      have c4_2:w4.cell? ⟨w.heap.size,2,none⟩=some (.slice p n cap):=B4.out.cell 2
      have c4_3:w4.cell? ⟨w.heap.size,3,none⟩=some (.int .i64 free):=B4.out.cell 3
      have c4_4:w4.cell? ⟨w.heap.size,4,none⟩=some (.int .i64 step):=B4.out.cell 4
      have c4_5:w4.cell? ⟨w.heap.size,5,none⟩=some (.int .i64 aD):=B4.out.cell 5
      have c4_6:w4.cell? ⟨w.heap.size,6,none⟩=some (.int .i64 aH):=B4.out.cell 6
      have c4_7:w4.cell? ⟨w.heap.size,7,none⟩=some (.int .i64 aC):=B4.out.cell 7
      have c4_8:w4.cell? ⟨w.heap.size,8,none⟩=some (.int .i64 aI):=B4.out.cell 8
      have c4_9:w4.cell? ⟨w.heap.size,9,none⟩=some (.slice q m c2):=B4.out.cell 9)))
 clear q1 q2 q3 q4 q5 q6
 clear c1_0 c1_1 c1_2 c1_3 c1_4 c1_5 c1_6 c1_7 c1_8 c1_9 c2_0 c2_1 c2_2 c2_3 c2_4 c2_5 c2_6 c2_7 c2_8 c2_9 c3_0 c3_1 c3_2 c3_3 c3_4 c3_5 c3_6 c3_7 c3_8 c3_9 c4_0 c4_1 c4_2 c4_3 c4_4 c4_5 c4_6 c4_7 c4_8 c4_9 a0 a1 a2 a3 a4 a5 a6 a7 a8 a9
 have b9:w4.cell? ⟨w.heap.size,9,none⟩=some (.slice q m c2):=B4.out.cell 9
 go_wp2
 clear b9
 go_loopw [3,4] (fun o i wr=> ∃(k:Nat) (S:ByteArray),k≤m∧i= .int .i64 k∧o= .string S∧S=⟨(dQ 59 ([p1,p2,p3,p4]++(vs.take k).map (fun v=>aT (bH v)))).toArray⟩∧S.size≤700+100*k∧Ext w wr∧Blk wr w.heap.size 30 #[.int .i64 aA,.int .i64 aB,.slice p n cap,.int .i64 free,.int .i64 step,.int .i64 aD,.int .i64 aH,.int .i64 aC,.int .i64 aI,.slice q m c2]) (fun _ i _=>m-(intOf i).toNat)
 case atStart=>exact⟨0,_,Nat.zero_le _,rfl,rfl,by rw[HF.out];simp,by simp only[ByteArray.size_append,aKz];omega,X4.out,B4.out⟩
 case round=>
  obtain⟨k,S,hk,rfl,rfl,hS,hSz,hE,hB⟩:=hrel
  have HSt:=xQ hS
  have HBr:=xQ hB
  have hszr:w.heap.size<wr.heap.size:=hB.lt
  clear X4 B4 hS hB HF
  by_cases hlt:k<m
  ·obtain⟨b,off,a0,a1,a2,a3,rfl,hv,hb,g0,g1,g2,g3⟩:=fR (HS.out.ext hE) hlt
   obtain⟨v0,v0',v1,v1',v2,v2',v3,v3'⟩:=HG.out _ (List.mem_of_getElem? hv)
   dsimp only at v0 v0' v1 v1' v2 v2' v3 v3'
   have hsn:Hid (dQ 59 ([p1,p2,p3,p4]++(vs.take (k+1)).map (fun v=>aT (bH v)))=dQ 59 ([p1,p2,p3,p4]++(vs.take k).map (fun v=>aT (bH v)))++59::aT [a0,a1,a2,a3]):=by
    show _=_
    rw[bF hv,List.map_append]
    simp[dQ,jX,bH]
   obtain⟨t1,e1,m1⟩:=eD (dec a0) 21 (dK _ (by omega))
   obtain⟨t2,e2,m2⟩:=eD (dec a1) 21 (dK _ (by omega))
   obtain⟨t3,e3,m3⟩:=eD (dec a2) 21 (dK _ (by omega))
   obtain⟨t4,e4,m4⟩:=eD (dec a3) 21 (dK _ (by omega))
   have HN5:Hid (∀w,Calls Tryz.prog 102 #[.int .i64 a0] w fun e w'=>e= .returned (.string t1)∧Ext w w'):=fun w=>by rw[e1];exact lY a0 w v0 (by omega)
   have HN6:Hid (∀w,Calls Tryz.prog 102 #[.int .i64 a1] w fun e w'=>e= .returned (.string t2)∧Ext w w'):=fun w=>by rw[e2];exact lY a1 w v1 (by omega)
   have HN7:Hid (∀w,Calls Tryz.prog 102 #[.int .i64 a2] w fun e w'=>e= .returned (.string t3)∧Ext w w'):=fun w=>by rw[e3];exact lY a2 w v2 (by omega)
   have HN8:Hid (∀w,Calls Tryz.prog 102 #[.int .i64 a3] w fun e w'=>e= .returned (.string t4)∧Ext w w'):=fun w=>by rw[e4];exact lY a3 w v3 (by omega)
   have hk12:S.size≤1900:=by omega
   have HSz:=xQ hSz
   have HV4:=xQ (aFk S t1 t2 t3 t4 a0 a1 a2 a3 _ HSt.out e1 e2 e3 e4)
   clear e1 e2 e3 e4 v0 v0' v1 v1' v2 v2' v3 v3' hv hSz
   have i1:(0:Int)≤(k:Int):=by omega
   have i2:(k:Int)<(m:Int):=by omega
   have r1: ¬9223372036854775807<S.size+1:=by omega
   have r2: ¬9223372036854775807<S.size+1+t1.size:=by omega
   have r3: ¬9223372036854775807<S.size+1+t1.size+1:=by omega
   have r4: ¬9223372036854775807<S.size+1+t1.size+1+t2.size:=by omega
   have r5: ¬9223372036854775807<S.size+1+t1.size+1+t2.size+1:=by omega
   have r6: ¬9223372036854775807<S.size+1+t1.size+1+t2.size+1+t3.size:=by omega
   have r7: ¬9223372036854775807<S.size+1+t1.size+1+t2.size+1+t3.size+1:=by omega
   have r8: ¬9223372036854775807<S.size+1+t1.size+1+t2.size+1+t3.size+1+t4.size:=by omega
   have B4:Hid (Blk (wr.alloc (.cells #[.int .i64 a0,.int .i64 a1,.int .i64 a2,.int .i64 a3] 38)) wr.heap.size 38 #[.int .i64 a0,.int .i64 a1,.int .i64 a2,.int .i64 a3]):=Blk.new wr _ _
   have X4:Hid (Ext w (wr.alloc (.cells #[.int .i64 a0,.int .i64 a1,.int .i64 a2,.int .i64 a3] 38))):=hE.alloc _
   have HB4:=xQ (HBr.out.alloc (.cells #[.int .i64 a0,.int .i64 a1,.int .i64 a2,.int .i64 a3] 38))
   have b9:wr.cell? ⟨w.heap.size,9,none⟩=some (.slice (some ⟨b,off,none⟩) m c2):=HBr.out.cell 9
   go_wp2
   go_region_held3 (fun w'=>w'.cell? ⟨wr.heap.size,0,none⟩=some (.int .i64 a0)∧w'.cell? ⟨wr.heap.size,1,none⟩=some (.int .i64 a1)∧w'.cell? ⟨wr.heap.size,2,none⟩=some (.int .i64 a2)∧w'.cell? ⟨wr.heap.size,3,none⟩=some (.int .i64 a3)) (first|(refine⟨?_,?_,?_,?_⟩<;>assumption)|go_keep)
  ((go_at_call 102;(first
      |((with_reducible refine(HN5.out _).mono ?_)
        rintro e w5 ⟨rfl,hh5⟩
        (try replace hh5:=hh5.of_drew)
        have B5:=xQ (B4.out.ext hh5)
        have X5:=xQ (X4.out.trans hh5)
        have HB5:=xQ (HB4.out.ext hh5)
        clear hh5
        have d1_0:w5.cell? ⟨wr.heap.size,0,none⟩=some (.int .i64 a0):=B5.out.cell 0
        have d1_1:w5.cell? ⟨wr.heap.size,1,none⟩=some (.int .i64 a1):=B5.out.cell 1
        have d1_2:w5.cell? ⟨wr.heap.size,2,none⟩=some (.int .i64 a2):=B5.out.cell 2
        have d1_3:w5.cell? ⟨wr.heap.size,3,none⟩=some (.int .i64 a3):=B5.out.cell 3)
      |((with_reducible refine(HN6.out _).mono ?_)
        rintro e w6 ⟨rfl,hh6⟩
        (try replace hh6:=hh6.of_drew)
        have B6:=xQ (B5.out.ext hh6)
        have X6:=xQ (X5.out.trans hh6)
        have HB6:=xQ (HB5.out.ext hh6)
        clear hh6
        have d2_0:w6.cell? ⟨wr.heap.size,0,none⟩=some (.int .i64 a0):=B6.out.cell 0
        have d2_1:w6.cell? ⟨wr.heap.size,1,none⟩=some (.int .i64 a1):=B6.out.cell 1
        have d2_2:w6.cell? ⟨wr.heap.size,2,none⟩=some (.int .i64 a2):=B6.out.cell 2
        have d2_3:w6.cell? ⟨wr.heap.size,3,none⟩=some (.int .i64 a3):=B6.out.cell 3)
      |((with_reducible refine(HN7.out _).mono ?_)
        rintro e w7 ⟨rfl,hh7⟩
        (try replace hh7:=hh7.of_drew)
        have B7:=xQ (B6.out.ext hh7)
        have X7:=xQ (X6.out.trans hh7)
        have HB7:=xQ (HB6.out.ext hh7)
        clear hh7
        have d3_0:w7.cell? ⟨wr.heap.size,0,none⟩=some (.int .i64 a0):=B7.out.cell 0
        have d3_1:w7.cell? ⟨wr.heap.size,1,none⟩=some (.int .i64 a1):=B7.out.cell 1
        have d3_2:w7.cell? ⟨wr.heap.size,2,none⟩=some (.int .i64 a2):=B7.out.cell 2
        have d3_3:w7.cell? ⟨wr.heap.size,3,none⟩=some (.int .i64 a3):=B7.out.cell 3)
      |((with_reducible refine(HN8.out _).mono ?_)
        rintro e w8 ⟨rfl,hh8⟩
        (try replace hh8:=hh8.of_drew)
        have B8:=xQ (B7.out.ext hh8)
        have X8:=xQ (X7.out.trans hh8)
        have HB8:=xQ (HB7.out.ext hh8)
        clear hh8
        have d4_0:w8.cell? ⟨wr.heap.size,0,none⟩=some (.int .i64 a0):=B8.out.cell 0
        have d4_1:w8.cell? ⟨wr.heap.size,1,none⟩=some (.int .i64 a1):=B8.out.cell 1
        have d4_2:w8.cell? ⟨wr.heap.size,2,none⟩=some (.int .i64 a2):=B8.out.cell 2
        have d4_3:w8.cell? ⟨wr.heap.size,3,none⟩=some (.int .i64 a3):=B8.out.cell 3))))
   clear d1_0 d1_1 d1_2 d1_3 d2_0 d2_1 d2_2 d2_3 d3_0 d3_1 d3_2 d3_3 d4_0 d4_1 d4_2 d4_3
   clear r1 r2 r3 r4 r5 r6 r7 r8
   go_wp2
   go_roundw
   case rel=>exact⟨k+1,_,by omega,by go_num,rfl,by rw[HV4.out,hsn.out],by have:=HSz.out;simp only[ByteArray.size_append,aKz,aL4];omega,X8.out,HB8.out⟩
   case measure=>simp[intOf];omega
  ·have hfin:Hid (dQ 59 ([p1,p2,p3,p4]++(vs.take k).map (fun v=>aT (bH v)))=dQ 59 ([p1,p2,p3,p4]++vs.map (fun v=>aT (bH v)))):=by
    show _=_;rw[List.take_of_length_le (by rw[hl.out];omega)]
   have b9:wr.cell? ⟨w.heap.size,9,none⟩=some (.slice q m c2):=HBr.out.cell 9
   go_wp2
   go_ret
   exact⟨aBy (by rw[HSt.out,hfin.out];rfl),hE⟩
theorem mZ {aA aB:Int}{xs:List Int}:(bO aA aB xs).length≤400:=by
 unfold bO
 cases h:aR aA aB xs with
 |false=>simp
 |true=>
  obtain⟨h1,h2,h3,h4,h5,h6,h7,h8,h9⟩:=cN h
  rw[if_pos rfl]
  have:=lP aA xs (fun x hx=>(h8 x hx).2) xs.length
  omega
theorem mY {h:aV}(hok:bN h=true):aR h.aA h.aB h.cells=true∧0≤h.free∧h.free≤1440∧0≤h.step∧h.step≤1440∧0≤h.aD∧h.aD≤99∧0≤h.aH∧h.aH≤99∧0≤h.aC∧h.aC≤9999∧0≤h.aI∧h.aI≤99999∧h.vs.length≤12∧
  ∀v∈h.vs,0≤v.1∧v.1≤99999∧0≤v.2.1∧v.2.1≤99999∧0≤v.2.2.1∧v.2.2.1≤99999∧0≤v.2.2.2∧v.2.2.2≤99999:=by
 have hv:=(zM hok).2
 unfold bN at hok
 simp only[Bool.and_eq_true]at hok
 obtain⟨⟨⟨h1,h2⟩,h3⟩,h4⟩:=hok
 have ht:=kB h2
 unfold jV at h3
 simp at h3
 obtain⟨q1,q2⟩:=kA h4
 obtain⟨_,_,_,_,_,_,_,hc,_⟩:=cN h1
 refine⟨h1,by omega,by omega,by omega,by omega,by omega,by omega,by omega,by omega,by omega,by omega,by omega,by omega,hv.1,fun v hm=> ?_⟩
 have a:=q2 v hm
 unfold eV at a
 rw[Bool.and_eq_true]at a
 have b:=jD a.1
 have c:v.1∈eM h.cells:=by rw[←q1];exact List.mem_map_of_mem hm
 have d:v.1∈dH h.cells:=(iD _).mem_iff.1 c
 have e:=hc v.1 (List.mem_filter.1 d).1
 omega
theorem jL (h:aV)(p:Option Addr)(n cap:Nat)(q:Option Addr)(m c2:Nat)(w:World)(hi:IsHouse w h p n cap q m c2):
  Calls Tryz.prog 47 #[cH h p n cap q m c2] w fun e w'=>e= .returned (str (aU h))∧Ext w w':=by
 have HV:=fun(w':World) (hx:Ext w w')=>lT h p n cap q m c2 w' (hi.ext hx)
 have hvl:=hi.vlen
 unfold aU
 cases hok:bN h with
 |false=>
  rw[hok]at HV
  simpa using wZ h.aA h.aB h.free h.step h.aD h.aH h.aC h.aI p n cap q m c2 w HV
 |true=>
  rw[hok]at HV
  obtain⟨g0,g1,g2,g3,g4,g5,g6,g7,g8,g9,g10,g11,g12,g13,g14⟩:=mY hok
  rw[if_pos rfl]
  have l3:=dK h.aC (by omega)
  have l4:=dK h.aI (by omega)
  have l2:=lW h.free h.step h.aD h.aH (by omega) (by omega) (by omega) (by omega)
  exact zV h.aA h.aB h.free h.step h.aD h.aH h.aC h.aI p n cap q m c2 w h.vs _ _ _ _ mZ (by omega) (by omega) (by omega) (by omega) hi.vs g14 HV
   (fun w' hx=>qH h.aA h.aB p n cap h.cells w' (hi.cells.ext hx)) (fun w'=>uR h.free h.step h.aD h.aH w' (by omega) (by omega) (by omega) (by omega) (by omega) (by omega) (by omega) (by omega))
   (fun w'=>lY h.aC w' (by omega) (by omega)) (fun w'=>lY h.aI w' (by omega) (by omega))
end Go.Proofs.YteejdnmmpmcmeaaGreatDoor
