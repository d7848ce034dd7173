/-
  Texts of this proof, packed (@packed).
-/
import Derived.KernelRfl
import Derived.Lib.ItoaLen
import Derived.Lib.ItoaMem
import Derived.Shelf.Strings.BuilderK
import Derived.Test.YtbgkcehffiogcaaGreatDoorY6
namespace Go.Proofs.YtbgkcehffiogcaaGreatDoor
open Go.RowKit
set_option linter.unusedSimpArgs false
set_option linter.unusedVariables false
set_option maxHeartbeats 8000000
set_option maxRecDepth 100000
section
open Go.Proofs.Tryz
def fO (f:Nat→Bool):Nat→List Int
 |0=> []
 |k+1=>fO f k++(if f k then [(k:Int)]else [])
def cW (xs:List Int)(k:Nat):Bool:=xs[k]? ==some 0
def qV (xs:List Int):List Int:=fO (cW xs) xs.length
theorem aHu {wr w2:World}{B o n:Nat}{v u:Value}{xs:List Value}{ob:Obj}(ho:wr.ownsRow (B+1) TI 1 v n xs)(hg:(wr.alloc ob).grownBy w2 v.ownBlock)(hb:B<wr.heap.size)(hc:wr.cell? ⟨B,o,none⟩=some u):w2.cell? ⟨B,o,none⟩=some u:=by rw[World.cell?_of_block (w:=wr.alloc ob) (hg.block B (by simp;omega) (fun e=>by have:=ho.lt B e.symm;omega))];rw[((Ext.refl wr).alloc ob).cells.1 B o hb];exact hc
theorem aFi (aA aB:Int)(p:OA)(n a:Nat)(w:World)(HV:xB 29 #[aH aA aB p n a] w false):
  U 157 #[aH aA aB p n a] w (bN [] w):=by
 go_enter func157,ntmps157;go_wp2_with fail;refine Z (HV _ (by exact .alloc (.alloc (.refl _) _) _)) fun w1 h1=>?_
 have ho:((w.alloc (.cells #[aA,aB,.slice p n a] 25)).alloc (.cells #[] TI)).ownsRow (w.heap.size+1) TI 1 (.slice (some ⟨(w.alloc (.cells #[aA,aB,.slice p n a] 25)).heap.size,0,none⟩) 0 0) 0 []:=aR0 _ #[] 0 (by simp) (by simp[maxLen]) rfl;have b:=xQ (aZ ho h1);clear ho;go_wp2;go_ret;exact dX (xs:= []) rfl (by simpa using bG b (Nat.le_succ _)) (by exact .trans (.alloc (.alloc (.refl _) _) _) h1)
theorem aIt (aA aB:Int)(p:OA)(n d:Nat)(xs:List Int)(w:World)(hn:n≤12)(HS:Hid (Sl w p n d 1 (ivs xs)))(HV:xB 29 #[aH aA aB p n d] w true):
  U 157 #[aH aA aB p n d] w (bN (qV xs) w):=by
 have hl:=xQ HS.out.ilen;go_enter func157,ntmps157;go_wp2_with fail;refine Z (HV _ (by exact .alloc (.alloc (.refl _) _) _)) fun w1 h1=>?_
 have ho:((w.alloc (.cells #[aA,aB,.slice p n d] 25)).alloc (.cells #[] TI)).ownsRow (w.heap.size+1) TI 1 (.slice (some ⟨(w.alloc (.cells #[aA,aB,.slice p n d] 25)).heap.size,0,none⟩) 0 0) 0 []:=aR0 _ #[] 0 (by simp) (by simp[maxLen]) rfl;have s:=xQ (aZ ho h1);clear ho;have ab:(w:Nat)<w1:=aPu (by first|(simp;omega)|simp) h1.sz;have eb:w1.cell? ⟨w,2,none⟩=some (.slice p n d):=by rw[h1.cells.1 _ _ (by first|(simp;done)|(simp;omega))];simp
 have aa:Ext w w1:=by exact .trans (.alloc (.alloc (.refl _) _) _) h1
 go_wp2;go_loopw [3,4] (fun v i wr=> ∃(k:Nat) (q:OA) (m c:Nat),k≤n∧i=I k∧v= .slice q m c∧m≤k∧wr.ownsRow (w.heap.size+1) TI 1 (.slice q m c) m (ivs (fO (cW xs) k))∧Ext w wr∧wr.cell? ⟨w,2,none⟩=some (.slice p n d)∧w.heap.size<wr.heap.size) (fun _ i _=>n-(intOf i).toNat)
 case atStart=>exact⟨0,_,0,0,aQ1 _,rfl,rfl,aPv _,by simpa[fO]using s.out,aa,eb,ab⟩
 case round=>
  obtain⟨k,q,m,c,hk,rfl,rfl,ad,j,g,ec,l⟩:=hrel;have HO:=xQ j;clear j;by_cases hlt:k<n
  ·obtain⟨b,ae,x,rfl,hx,hb,z⟩:=(HS.out.ext g).int_at hlt;have HX:=xQ hx;clear hx;by_cases hx0:x=0
   ·have t0:(x==0)=true:=by simp[hx0]
    have a:Hid (fO (cW xs) (k+1)=fO (cW xs) k++ [(k:Int)]):=by show _=_;rw[fO,if_pos (by unfold cW;rw[HX.out,hx0];rfl)]
    clear hx0;go_wp2_with (at_builtin;refine dL gH rfl _ _ rfl (w.heap.size+1) _ _ _ rfl (HO.out.alloc _) _ _ (k:Int) _ rfl (by simp) (by omega) (by simp;omega) ?_;intro p' o w2 f h;have t:=xQ f;have y:Ext w w2:=Ext.own (g.alloc _) (HO.out.alloc _) h (by omega);have u:=aHu HO h l ec;have r:(w:Nat)<w2:=aPu l (by have:=h.size;simp at this;omega);clear f h);go_roundw
    case rel=>exact⟨k+1,p',m+1,o,by omega,by go_num,rfl,by omega,by rw[a.out];exact t.out,y,u,r⟩
    case measure=>simp[intOf];omega
   have t0:(x==0)=false:=by simp[hx0]
   have a:Hid (fO (cW xs) (k+1)=fO (cW xs) k):=by show _=_;rw[fO,if_neg (by unfold cW;rw[HX.out];simp[hx0]),aQo]
   clear hx0;go_wp2;go_roundw
   case rel=>exact⟨k+1,q,m,c,by omega,by go_num,rfl,by omega,by rw[a.out];exact HO.out,g,ec,l⟩
   case measure=>simp[intOf];omega
  have a:Hid (fO (cW xs) k=qV xs):=by show _=_;unfold qV;rw[hl.out,show k=n by omega]
  go_wp2;go_ret;exact dX (by rw[←a.out];have:=HO.out.1;simpa using this) (by rw[←a.out];exact bG HO (Nat.le_succ _)) g
theorem aL1 (aA aB:Int)(p:OA)(n a:Nat)(xs:List Int)(w:World)(hS:Sl w p n a 1 (ivs xs)):U 157 #[aH aA aB p n a] w (bN (if aN aA aB xs then qV xs else []) w):=by
 have hl:=hS.ilen;cases h:aN aA aB xs with
 |true=>
  have hb:n≤12:=by unfold aN at h;rw[aQa]at h;have:=cM h.1;omega
  simpa using aIt aA aB p n a xs w hb hS (fun w' hx=>by have:=gS aA aB p n a xs w' (hS.ext hx);rwa[h]at this)
 |false=>simpa using aFi aA aB p n a w (fun w' hx=>by have:=gS aA aB p n a xs w' (hS.ext hx);rwa[h]at this)
set_option maxRecDepth 100000 in set_option maxHeartbeats 1000000 in
theorem aGs (aA aB:Int)(p:OA)(n a:Nat)(w:World)(HV:xB 41 #[aH aA aB p n a] w false):
  U 135 #[aH aA aB p n a] w (bN [] w):=by
 go_enter func135,ntmps135;go_wp2_with fail;refine Z (HV _ (by exact .alloc (.refl _) _)) fun w1 h1=>?_
 go_wp2;go_ret;exact dX (xs:= []) rfl (aQ8 _ _ _ _) (by exact .trans (.alloc (.refl _) _) h1)
set_option maxRecDepth 100000 in set_option maxHeartbeats 1000000 in
theorem aJs (aA aB:Int)(p:OA)(n d:Nat)(xs:List Int)(w:World)(hn:n≤12)(HS:Hid (Sl w p n d 1 (ivs xs)))(HV:xB 41 #[aH aA aB p n d] w true):
  U 135 #[aH aA aB p n d] w (bN (qV xs) w):=by
 have hl:=xQ HS.out.ilen;go_enter func135,ntmps135;go_wp2_with fail;refine Z (HV _ (by exact .alloc (.refl _) _)) fun w1 h1=>?_
 have aa:(w:Nat)<w1:=aPu (by first|(simp;omega)|simp) h1.sz;have eb:w1.cell? ⟨w,2,none⟩=some (.slice p n d):=by rw[h1.cells.1 _ _ (by first|(simp;done)|(simp;omega))];simp
 have z:Ext w w1:=by exact .trans (.alloc (.refl _) _) h1
 go_wp2;go_loopw [3,12] (fun v i wr=> ∃(k:Nat) (q:OA) (m c:Nat),k≤n∧i=I k∧v= .slice q m c∧m≤k∧wr.ownsRow (w.heap.size+1) TI 1 (.slice q m c) m (ivs (fO (cW xs) k))∧Ext w wr∧wr.cell? ⟨w,2,none⟩=some (.slice p n d)∧w.heap.size<wr.heap.size) (fun _ i _=>n-(intOf i).toNat)
 case atStart=>exact⟨0,_,0,0,aQ1 _,rfl,rfl,aPv _,aQ8 _ _ _ _,z,eb,aa⟩
 case round=>
  obtain⟨k,q,m,c,hk,rfl,rfl,ab,j,g,ec,l⟩:=hrel;have HO:=xQ j;clear j;by_cases hlt:k<n
  ·obtain⟨b,ad,x,rfl,hx,hb,y⟩:=(HS.out.ext g).int_at hlt;have HX:=xQ hx;clear hx;by_cases hx0:x=0
   ·have t0:(x==0)=true:=by simp[hx0]
    have a:Hid (fO (cW xs) (k+1)=fO (cW xs) k++ [(k:Int)]):=by show _=_;rw[fO,if_pos (by unfold cW;rw[HX.out,hx0];rfl)]
    clear hx0;go_wp2_with (at_builtin;refine dL gH rfl _ _ rfl (w.heap.size+1) _ _ _ rfl (HO.out.alloc _) _ _ (k:Int) _ rfl (by simp) (by omega) (by simp;omega) ?_;intro p' o w2 f h;have s:=xQ f;have u:Ext w w2:=Ext.own (g.alloc _) (HO.out.alloc _) h (by omega);have t:=aHu HO h l ec;have r:(w:Nat)<w2:=aPu l (by have:=h.size;simp at this;omega);clear f h);go_roundw
    case rel=>exact⟨k+1,p',m+1,o,by omega,by go_num,rfl,by omega,by rw[a.out];exact s.out,u,t,r⟩
    case measure=>simp[intOf];omega
   have t0:(x==0)=false:=by simp[hx0]
   have a:Hid (fO (cW xs) (k+1)=fO (cW xs) k):=by show _=_;rw[fO,if_neg (by unfold cW;rw[HX.out];simp[hx0]),aQo]
   clear hx0;go_wp2;go_roundw
   case rel=>exact⟨k+1,q,m,c,by omega,by go_num,rfl,by omega,by rw[a.out];exact HO.out,g,ec,l⟩
   case measure=>simp[intOf];omega
  have a:Hid (fO (cW xs) k=qV xs):=by show _=_;unfold qV;rw[hl.out,show k=n by omega]
  go_wp2;go_ret;exact dX (by rw[←a.out];have:=HO.out.1;simpa using this) (by rw[←a.out];exact bG HO (Nat.le_succ _)) g
theorem aP7 (aA aB:Int)(p:OA)(n a:Nat)(xs:List Int)(w:World)(hS:Sl w p n a 1 (ivs xs)):U 135 #[aH aA aB p n a] w (bN (if aN aA aB xs then qV xs else []) w):=by
 have hl:=hS.ilen;cases h:aN aA aB xs with
 |true=>
  have hb:n≤12:=by unfold aN at h;rw[aQa]at h;have:=cM h.1;omega
  simpa using aJs aA aB p n a xs w hb hS (fun w' hx=>by have:=fS aA aB p n a xs w' (hS.ext hx);rwa[h]at this)
 |false=>simpa using aGs aA aB p n a w (fun w' hx=>by have:=fS aA aB p n a xs w' (hS.ext hx);rwa[h]at this)
end
def uY:Go.Shelf.Ren:=⟨fun|166=>66|240=>100|276=>133|n=>n,fun|0=>0|3=>3|4=>4|5=>5|9=>9|20=>20|37=>22|70=>101|72=>103|75=>105|80=>110|164=>160|n=>n,fun|n=>n⟩
theorem aNx:Go.Proofs.Lays.n166 Tryz.prog uY:={
 mixed:=by kernel_rfl,
 f166:=Tryz.func66.trans (congrArg some (by kernel_rfl)),
 f240:=Tryz.func100.trans (congrArg some (by kernel_rfl)),
 f276:=Tryz.func133.trans (congrArg some (by kernel_rfl)),
 t0:=Tryz.underlying0,
 a0:=Tryz.isAgg0,
 z0:=Tryz.sizeOf0,
 v0:=Tryz.zeroValue0,
 t3:=Tryz.underlying3,
 a3:=Tryz.isAgg3,
 z3:=Tryz.sizeOf3,
 v3:=Tryz.zeroValue3,
 t4:=Tryz.underlying4,
 a4:=Tryz.isAgg4,
 z4:=Tryz.sizeOf4,
 v4:=Tryz.zeroValue4,
 t9:=Tryz.underlying9,
 a9:=Tryz.isAgg9,
 z9:=Tryz.sizeOf9,
 v9:=Tryz.zeroValue9,
 t20:=Tryz.underlying20,
 a20:=Tryz.isAgg20,
 z20:=Tryz.sizeOf20,
 v20:=Tryz.zeroValue20,
 t37:=Tryz.underlying22,
 a37:=Tryz.isAgg22,
 z37:=Tryz.sizeOf22,
 v37:=Tryz.zeroValue22,
 t70:=Tryz.underlying101,
 a70:=Tryz.isAgg101,
 z70:=Tryz.sizeOf101,
 v70:=Tryz.zeroValue101,
 t72:=Tryz.underlying103,
 a72:=Tryz.isAgg103,
 z72:=Tryz.sizeOf103,
 v72:=Tryz.zeroValue103,
 t75:=Tryz.underlying105,
 a75:=Tryz.isAgg105,
 z75:=Tryz.sizeOf105,
 v75:=Tryz.zeroValue105,
 t164:=Tryz.underlying160,
 a164:=Tryz.isAgg160,
 z164:=Tryz.sizeOf160,
 v164:=Tryz.zeroValue160}
theorem aMy:Go.Proofs.Builder.Extra Tryz.prog uY:={
 sizeBuilder:=by kernel_rfl
 liesBuilder:=by kernel_rfl
 t5:=Tryz.underlying5
 a5:=Tryz.isAgg5
 z5:=Tryz.sizeOf5
 v5:=Tryz.zeroValue5
 infoByte:=by kernel_rfl
 cellsByte:=by kernel_rfl
 sizeByte:=by kernel_rfl
 neB5:=by decide}
def uX:Go.Shelf.Ren:=⟨fun|167=>65|240=>100|276=>133|n=>n,fun|0=>0|3=>3|4=>4|5=>5|9=>9|20=>20|37=>22|70=>101|72=>103|75=>105|80=>110|164=>160|n=>n,fun|n=>n⟩
theorem aNw:Go.Proofs.Lays.n167 Tryz.prog uX:={
 mixed:=by kernel_rfl,
 f167:=Tryz.func65.trans (congrArg some (by kernel_rfl)),
 f240:=Tryz.func100.trans (congrArg some (by kernel_rfl)),
 f276:=Tryz.func133.trans (congrArg some (by kernel_rfl)),
 t0:=Tryz.underlying0,
 a0:=Tryz.isAgg0,
 z0:=Tryz.sizeOf0,
 v0:=Tryz.zeroValue0,
 t4:=Tryz.underlying4,
 a4:=Tryz.isAgg4,
 z4:=Tryz.sizeOf4,
 v4:=Tryz.zeroValue4,
 t5:=Tryz.underlying5,
 a5:=Tryz.isAgg5,
 z5:=Tryz.sizeOf5,
 v5:=Tryz.zeroValue5,
 t9:=Tryz.underlying9,
 a9:=Tryz.isAgg9,
 z9:=Tryz.sizeOf9,
 v9:=Tryz.zeroValue9,
 t20:=Tryz.underlying20,
 a20:=Tryz.isAgg20,
 z20:=Tryz.sizeOf20,
 v20:=Tryz.zeroValue20,
 t37:=Tryz.underlying22,
 a37:=Tryz.isAgg22,
 z37:=Tryz.sizeOf22,
 v37:=Tryz.zeroValue22,
 t70:=Tryz.underlying101,
 a70:=Tryz.isAgg101,
 z70:=Tryz.sizeOf101,
 v70:=Tryz.zeroValue101,
 t72:=Tryz.underlying103,
 a72:=Tryz.isAgg103,
 z72:=Tryz.sizeOf103,
 v72:=Tryz.zeroValue103,
 t75:=Tryz.underlying105,
 a75:=Tryz.isAgg105,
 z75:=Tryz.sizeOf105,
 v75:=Tryz.zeroValue105,
 t164:=Tryz.underlying160,
 a164:=Tryz.isAgg160,
 z164:=Tryz.sizeOf160,
 v164:=Tryz.zeroValue160}
theorem aMx:Go.Proofs.Builder.Extra Tryz.prog uX:={
 sizeBuilder:=by kernel_rfl
 liesBuilder:=by kernel_rfl
 t5:=Tryz.underlying5
 a5:=Tryz.isAgg5
 z5:=Tryz.sizeOf5
 v5:=Tryz.zeroValue5
 infoByte:=by kernel_rfl
 cellsByte:=by kernel_rfl
 sizeByte:=by kernel_rfl
 neB5:=by decide}
theorem mU (B b:Nat)(bs:List Value)(s:ByteArray)(w:World)(h:Lib.IsBuilderF 103 5 B b bs w)(hl:bs.length+s.size≤140737488355328)(hB:B≤w.heap.size):
  Calls Tryz.prog 66 #[.pointer (some ⟨b,0,none⟩),.string s] w fun e w'=>e= .returned (.tuple #[.int .i64 s.size,.nilIface])∧Lib.BuilderAtF 103 5 B b (.pointer (some ⟨b,0,none⟩)) (bs++Lib.strCells s) w'∧Below B w w'∧Lib.OthersKept 5 (some b) w w':=
 Any.Builder_WriteString_k aNx aMy B b bs s w h hl hB
theorem kS (B b:Nat)(bs:List Value)(c:Int)(w:World)(h:Lib.IsBuilderF 103 5 B b bs w)(hl:bs.length+1≤140737488355328)(hB:B≤w.heap.size):
  Calls Tryz.prog 65 #[.pointer (some ⟨b,0,none⟩),.int .u8 c] w fun e w'=>e= .returned .nilIface∧Lib.BuilderAtF 103 5 B b (.pointer (some ⟨b,0,none⟩)) (bs++ [.int .u8 c]) w'∧Below B w w'∧Lib.OthersKept 5 (some b) w w':=
 Any.Builder_WriteByte_k aNw aMx B b bs c w h hl hB
section
open Go.Proofs.Tryz
theorem aPo:prog.globalNamed "internal/strconv.uint64pow10" =some 1:=by kernel_rfl
structure Env (w:World):Prop where
 tab:Lib.TabIs prog w "internal/strconv.uint64pow10" .u64 Lib.pow10Tab
 mx: ∃m,w.cell? ⟨0,0,none⟩=some (.int .i64 m)
theorem Env.ext {w w':World}(h:Env w)(hb:Ext w w'):Env w' where
 tab:=Joins.var_stays aPo h.tab hb (aPv _)
 mx:=by obtain⟨m,hm⟩:=h.mx;exact⟨m,(hb.cells.1 _ _ (World.block_lt_of_cell? w _ hm)).trans hm⟩
theorem Env.start {w:World}(ht:Lib.TabIs prog w "internal/strconv.uint64pow10" .u64 Lib.pow10Tab)(hS:w.ShapedOpen prog):Env w where
 tab:=ht
 mx:=Tryz.laysM145.s1_3 w hS
abbrev str (l:List UInt8):Value:= .string ⟨l.toArray⟩
theorem iT {a b:List UInt8}(h:a=b):Ending.returned (str a)= .returned (str b):=by rw[h]
theorem aDr (n:Nat):Lib.itoa (n:Int)=Lib.decDigits n:=by unfold Lib.itoa;rw[if_neg (by omega)];simp
theorem aMz (w:World)(os:Array Obj):Ext w (Sort.grow w os):=
 ⟨rfl,rfl,rfl,by simp,fun k hk=>by simp only[Sort.grow];rw[Array.getElem?_append_left hk]⟩
theorem aLx (n:Nat)(w:World)(hn:n≤9223372036854775807)(hE:Env w):
  U 67 #[n] w (O (str (Lib.decDigits n)) w):=by
 refine(Tryz.strconv_Itoa (n:Int) (by omega) (by omega) w hE.tab).mono ?_;rintro e w' ⟨rfl,k,os,rfl⟩;exact⟨by rw[aDr],(Ext.drewN (Ext.refl w) k).trans (aMz _ _)⟩
theorem uZ (n:Int)(w:World)(h0:0≤n)(hn:n≤9223372036854775807)(hE:Env w):
  U 67 #[n] w (O (str (Lib.decDigits n.toNat)) w):=by
 obtain⟨m,rfl⟩:=aQi h0;exact aLx m w (by omega) hE
theorem aOl (x:Int)(W:World)(b:Nat)(h:W.cell? ⟨b,0,none⟩=some (.int .u8 x)):Sem.run prog (convert 22 9 (.slice (some ⟨b,0,none⟩) 1 1)) W= .ok (str [UInt8.ofNat x.toNat]) W:=
 run_convert_bytes_arg W 22 5 underlying22 underlying5 b 0 1 1 [x] rfl (fun i hi=>by
  obtain rfl:i=0:=by omega
  simpa using h) 9 underlying9
theorem fA (n:Nat)(h:n<10):Lib.decDigits n= [UInt8.ofNat (48+n)]:=by rw[Lib.decDigits];simp[h]
theorem lC (n:Nat)(h: ¬n<10):Lib.decDigits n=Lib.decDigits (n/10)++ [UInt8.ofNat (48+n%10)]:=by rw[Lib.decDigits];simp[h]
theorem cA (n:Nat)(h:n≤9223372036854775807):(Lib.decDigits n).length≤21:=by rw[←aDr];exact Lib.itoa_length_le _ (by omega) (by omega)
theorem qW (n:Nat):1≤(Lib.decDigits n).length:=by
 by_cases h:n<10
 ·rw[fA n h];simp
 rw[lC n h];simp
theorem xH (n:Int)(w:World)(h0:0≤n)(a:n<10):
  U 116 #[n] w (O (str (Lib.decDigits n.toNat)) w):=by
 have b:=aOl (48+n);have HD:Hid (Lib.decDigits n.toNat= [UInt8.ofNat (48+n).toNat]):=by rw[fA _ (by omega),show(48+n).toNat=48+n.toNat by omega];rfl
 go_enter func116,ntmps116;go_wp2_with fail;go_ret;exact⟨iT HD.out.symm,(Ext.refl _).alloc _⟩
theorem aGg (n:Int)(w:World)(h0:0≤n)(a:10≤n)(h:n≤9223372036854775807)(ih: ∀w,U 116 #[(n/10:Int)] w (O (str (Lib.decDigits (n/10).toNat)) w)):
  U 116 #[n] w (O (str (Lib.decDigits n.toNat)) w):=by
 have c:=aOl (48+n%10);have IH:Hid (∀w,U 116 #[(n/10:Int)] w (O (str (Lib.decDigits (n/10).toNat)) w)):=ih;have hq:=aS3 n 10 ⟨h0,h,by omega⟩;have hr:=IntWalk.rem_in n 10 h0;have d:IntKind.i64.wrap (n%10)=n%10:=aPx _ (by omega);have hs:IntKind.i64.wrap (48+n%10)=48+n%10:=aPx _ (by omega);have hc:IntKind.u8.wrap (48+n%10)=48+n%10:=IntWalk.u8_in _ (by omega);have hl:(Lib.decDigits (n/10).toNat).length≤21:=cA _ (by omega);have HD:Hid (Lib.decDigits n.toNat=Lib.decDigits (n/10).toNat++ [UInt8.ofNat (48+n%10).toNat]):=by show _=_;rw[lC _ (by omega),show(48+n%10).toNat=48+n.toNat%10 by omega,show(n/10).toNat=n.toNat/10 by omega]
 clear ih;go_enter func116,ntmps116;go_wp2_with fail;go_region_with (go_at_call 116;go_must (go_fit (IH _));rintro e w' ⟨rfl,h1⟩;have b:=h1.cells.1)
 all_goals go_wp2
 all_goals go_ret
 all_goals exact⟨iT HD.out.symm,xE⟩
theorem aBo (k:Nat): ∀(n:Int) (w:World),0≤n→n≤k→n≤9223372036854775807→
  U 116 #[n] w (O (str (Lib.decDigits n.toNat)) w):=by
 induction k with
 |zero=>intro n w h0 hk h;exact xH n w h0 (by omega)
 |succ k ih=>
  intro n w h0 hk h;by_cases h10:n<10
  ·exact xH n w h0 h10
  exact aGg n w h0 (by omega) h (fun w=>ih (n/10) w (by omega) (by omega) (by omega))
theorem aDp (n:Int)(w:World)(h0:0≤n)(h:n≤9223372036854775807):
  U 116 #[n] w (O (str (Lib.decDigits n.toNat)) w):=aBo n.toNat n w h0 (by omega) h
def bM (k:Int):List UInt8:=
 if k=0 then [105,110]else if k=1 then [112,97,121]else if k=2 then [111,117,116]else if k=3 then [119,97,105,116]else if k=4 then [115,108,105,100,101]else []
def iI (k:Int):Bool:=k==1 || k==4
def eU (k a b:Int):Bool:=decide (0≤k∧k≤4∧0≤a∧a≤9999∧0≤b∧b≤9999)&&(iI k || b==0)
def aT (k a b:Int):List UInt8:=
 if eU k a b then bM k++ [32]++Lib.decDigits a.toNat++(if iI k then [32]++Lib.decDigits b.toNat else [])else []
abbrev cF (k a b:Int):Value:= .agg #[k,a,b]
theorem oB (k a b:Int)(w:World)(h:a<0∨0≤a∧9999<a∨0≤a∧a≤9999∧b<0∨0≤a∧a≤9999∧0≤b∧9999<b∨0≤a∧a≤9999∧0≤b∧b≤9999∧(k==1)=false∧(k==4)=false∧(b !=0)=true
  ∨0≤a∧a≤9999∧0≤b∧b≤9999∧(k==1)=false∧(k==4)=false∧(b !=0)=false∧(k==0)=false∧(k==2)=false∧(k==3)=false):
  U 124 #[cF k a b] w (O (str []) w):=by
 rcases h with h|⟨h0,h⟩|⟨h0,h1,h⟩|⟨h0,h1,h2,h⟩|⟨h0,h1,h2,h3,h4,h5,h6⟩|⟨h0,h1,h2,h3,h4,h5,h6,h7,h8,h9⟩
 all_goals
  go_enter func124,ntmps124;go_wp2;go_ret;exact⟨rfl,xE⟩
theorem aBa (k a b:Int)(w:World)(h:(k==0)=false∧(k==1)=false∧(k==2)=false∧(k==3)=false∧(k==4)=false):
  U 79 #[cF k a b] w (O (str []) w):=by
 obtain⟨h0,h1,h2,h3,h4⟩:=h;go_enter func79,ntmps79;go_wp2;go_ret;exact⟨rfl,xE⟩
theorem yT (k a b:Int)(w:World)(hk:k=0∨k=1∨k=2∨k=3∨k=4)(h:a<0∨0≤a∧9999<a∨0≤a∧a≤9999∧b<0∨0≤a∧a≤9999∧0≤b∧9999<b):
  U 79 #[cF k a b] w (O (str []) w):=by
 rcases hk with rfl|rfl|rfl|rfl|rfl
 all_goals
  rcases h with h|⟨h0,h⟩|⟨h0,h1,h⟩|⟨h0,h1,h2,h⟩
  all_goals
   go_enter func79,ntmps79;go_wp2;go_ret;exact⟨rfl,xE⟩
theorem yS (k a b:Int)(w:World)(hk:k=0∨k=2∨k=3)(h0:0≤a)(h1:a≤9999)(h2:0≤b)(h3:b≤9999)(h4:(b !=0)=true):
  U 79 #[cF k a b] w (O (str []) w):=by
 rcases hk with rfl|rfl|rfl
 all_goals
  go_enter func79,ntmps79;go_wp2;go_ret;exact⟨rfl,xE⟩
theorem aC5 (k a:Int)(w:World)(hE:Env w)(hk:k=0∨k=2∨k=3)(h0:0≤a)(h1:a≤9999):
  U 124 #[cF k a 0] w (O (str (bM k++ [32]++Lib.decDigits a.toNat)) w):=by
 have hl:(Lib.decDigits a.toNat).length≤21:=cA _ (by omega);have HE:=xQ hE;clear hE;rcases hk with rfl|rfl|rfl
 all_goals
  go_enter func124,ntmps124;go_wp2_with fail;go_fit (uZ a _ h0 (by omega) (HE.out.ext xE));rintro e w1 ⟨rfl,h1⟩;go_wp2;go_ret;exact⟨iT (by simp[bM]),xE⟩
theorem aC4 (k a b:Int)(w:World)(hE:Env w)(hk:k=1∨k=4)(h0:0≤a)(h1:a≤9999)(h2:0≤b)(h3:b≤9999):
  U 124 #[cF k a b] w (O (str (bM k++ [32]++Lib.decDigits a.toNat++([32]++Lib.decDigits b.toNat))) w):=by
 have hl:(Lib.decDigits a.toNat).length≤21:=cA _ (by omega);have d:(Lib.decDigits b.toNat).length≤21:=cA _ (by omega);have HE:=xQ hE;clear hE;rcases hk with rfl|rfl
 all_goals
  go_enter func124,ntmps124;go_wp2_with fail;go_fit (uZ a _ h0 (by omega) (HE.out.ext xE));rintro e w1 ⟨rfl,h1⟩;have c:=h1.cells.1;go_wp2_with fail;go_fit (uZ b _ h2 (by omega) (HE.out.ext xE));rintro e w2 ⟨rfl,h2⟩;go_wp2;go_ret;exact⟨iT (by simp[bM]),xE⟩
theorem gW (k:Int)(w:World)(hk:k=0∨k=1∨k=2∨k=3∨k=4):U 114 #[k] w fun e w'=>e= .returned (str (bM k))∧w=w':=by
 rcases hk with rfl|rfl|rfl|rfl|rfl
 all_goals
  go_enter func114,ntmps114;go_wp2;go_ret;exact⟨iT (by simp[bM]),rfl⟩
theorem aB9 (k a:Int)(nm:List UInt8)(w:World)(t1:(k==1)=false)(t4:(k==4)=false)(h0:0≤a)(h1:a≤9999)(hN: ∀w,U 114 #[k] w fun e w'=>e= .returned (str nm)∧w=w')(he:nm.isEmpty=false)(hn:nm.length≤5):
  U 79 #[cF k a 0] w (O (str (nm++ [32]++Lib.decDigits a.toNat)) w):=by
 have hl:(Lib.decDigits a.toNat).length≤21:=cA _ (by omega);have c: ¬9223372036854775807<nm.length+1:=by omega
 have d: ¬9223372036854775807<nm.length+1+(Lib.decDigits a.toNat).length:=by omega
 all_goals
  have HN:=xQ hN;clear hN;go_enter func79,ntmps79;go_wp2_with (first|(go_at_call 114;refine(HN _).mono ?_;rintro e w1 ⟨rfl,rfl⟩)|go_in)
  go_region_held3 (fun w'=>w'.cell? ⟨w,0,none⟩=some (I k)∧w'.cell? ⟨w,1,none⟩=some (I a)) (go_keep)
   (first|(go_at_call 114;refine(HN _).mono ?_;rintro e w1 ⟨rfl,rfl⟩)|(go_at_call 116;refine Z (aDp a _ h0 (by omega)) fun w1 h1=>?_;have b:=h1.cells.1))
  all_goals go_wp2
  all_goals go_ret
  all_goals exact⟨iT (by simp),xE⟩
theorem aB8 (k a b:Int)(nm:List UInt8)(w:World)(hk:(k==1)=true∨(k==1)=false∧(k==4)=true)(h0:0≤a)(h1:a≤9999)(h2:0≤b)(h3:b≤9999)(hN: ∀w,U 114 #[k] w fun e w'=>e= .returned (str nm)∧w=w')(he:nm.isEmpty=false)(hn:nm.length≤5):
  U 79 #[cF k a b] w (O (str (nm++ [32]++Lib.decDigits a.toNat++([32]++Lib.decDigits b.toNat))) w):=by
 have hl:(Lib.decDigits a.toNat).length≤21:=cA _ (by omega);have d:(Lib.decDigits b.toNat).length≤21:=cA _ (by omega);have f: ¬9223372036854775807<nm.length+1:=by omega
 have g: ¬9223372036854775807<nm.length+1+(Lib.decDigits a.toNat).length:=by omega
 rcases hk with t1|⟨t1,t4⟩
 all_goals
  have HN:=xQ hN;clear hN;go_enter func79,ntmps79;go_wp2_with (first|(go_at_call 114;refine(HN _).mono ?_;rintro e w1 ⟨rfl,rfl⟩)|go_in)
  go_region_held3 (fun w'=>w'.cell? ⟨w,0,none⟩=some (I k)∧w'.cell? ⟨w,1,none⟩=some (I a)∧w'.cell? ⟨w,2,none⟩=some (I b)) (go_keep)
   (first|(go_at_call 114;refine(HN _).mono ?_;rintro e w1 ⟨rfl,rfl⟩)|(go_at_call 116;refine Z (aDp a _ h0 (by omega)) fun w1 h1=>?_;have c:=h1.cells.1))
  all_goals go_wp2_with (first|(go_at_call 116;refine(aDp b _ h2 (by omega)).mono ?_;rintro e w2 ⟨rfl,h2⟩)|go_in)
  all_goals go_ret
  all_goals exact⟨iT (by simp),xE⟩
theorem tB (k:Int)(hk:k=0∨k=1∨k=2∨k=3∨k=4):(bM k).isEmpty=false∧(bM k).length≤5:=by rcases hk with rfl|rfl|rfl|rfl|rfl<;>decide
theorem rX (k a b:Int)(w:World):U 79 #[cF k a b] w (O (str (aT k a b)) w):=by
 by_cases hk:k=0∨k=1∨k=2∨k=3∨k=4
 ·by_cases hr:0≤a∧a≤9999∧0≤b∧b≤9999
  ·obtain⟨h0,h1,h2,h3⟩:=hr;obtain⟨he,hn⟩:=tB k hk;by_cases ht:k=1∨k=4
   ·have e:aT k a b=bM k++ [32]++Lib.decDigits a.toNat++([32]++Lib.decDigits b.toNat):=by
     rcases ht with rfl|rfl<;>simp[aT,eU,iI,h0,h1,h2,h3]
    rw[e];exact aB8 k a b _ w (by simp;omega) h0 h1 h2 h3 (fun w=>gW k w hk) he hn
   have c:k=0∨k=2∨k=3:=by omega
   by_cases hb:b=0
   ·subst hb;have e:aT k a 0=bM k++ [32]++Lib.decDigits a.toNat:=by
     rcases c with rfl|rfl|rfl<;>simp[aT,eU,iI,h0,h1]
    rw[e];exact aB9 k a _ w (by simp;omega) (by simp;omega) h0 h1 (fun w=>gW k w hk) he hn
   have e:aT k a b= []:=by rcases c with rfl|rfl|rfl<;>simp[aT,eU,iI,hb]
   rw[e];exact yS k a b w c h0 h1 h2 h3 (by simp[hb])
  have e:aT k a b= []:=by unfold aT;rw[if_neg];simp[eU];omega
  rw[e];exact yT k a b w hk (by omega)
 have e:aT k a b= []:=by unfold aT;rw[if_neg];simp[eU];omega
 rw[e];exact aBa k a b w (by simp;omega)
theorem nJ (k a b:Int)(w:World)(hE:Env w):U 124 #[cF k a b] w (O (str (aT k a b)) w):=by
 by_cases hr:0≤a∧a≤9999∧0≤b∧b≤9999
 ·obtain⟨h0,h1,h2,h3⟩:=hr;by_cases ht:k=1∨k=4
  ·have e:aT k a b=bM k++ [32]++Lib.decDigits a.toNat++([32]++Lib.decDigits b.toNat):=by
    rcases ht with rfl|rfl<;>simp[aT,eU,iI,h0,h1,h2,h3]
   rw[e];exact aC4 k a b w hE ht h0 h1 h2 h3
  by_cases hb:b=0
  ·subst hb;by_cases hk:k=0∨k=2∨k=3
   ·have e:aT k a 0=bM k++ [32]++Lib.decDigits a.toNat:=by
     rcases hk with rfl|rfl|rfl<;>simp[aT,eU,iI,h0,h1]
    rw[e];exact aC5 k a w hE hk h0 h1
   have e:aT k a 0= []:=by unfold aT;rw[if_neg];simp[eU];omega
   rw[e];exact oB k a 0 w (.inr (.inr (.inr (.inr (.inr ⟨h0,h1,by omega,by omega,by simp;omega,by simp;omega,by simp,by simp;omega,by simp;omega,by simp;omega⟩)))))
  have e:aT k a b= []:=by unfold aT;rw[if_neg];simp[eU,iI];omega
  rw[e];exact oB k a b w (.inr (.inr (.inr (.inr (.inl ⟨h0,h1,h2,h3,by simp;omega,by simp;omega,by simp[hb]⟩)))))
 have e:aT k a b= []:=by unfold aT;rw[if_neg];simp[eU];omega
 rw[e];exact oB k a b w (by omega)
def lK (l:List UInt8):Int:=l.foldl (fun s c=>(7*s+(c.toNat:Int))%97) 1
theorem rV (l:List UInt8):0≤lK l∧lK l<97:=by
 unfold lK;have: ∀(l:List UInt8) (s:Int),0≤s∧s<97→0≤l.foldl (fun s c=>(7*s+(c.toNat:Int))%97) s∧l.foldl (fun s c=>(7*s+(c.toNat:Int))%97) s<97:=by
  intro l;induction l with
  |nil=>intro s h;exact h
  |cons c l ih=>intro s h;simp only[List.foldl_cons];apply ih;omega
 exact this l 1 (by omega)
theorem iX (s:ByteArray)(k:Nat)(h:k<s.size):s.data.toList.take (k+1)=s.data.toList.take k++ [s[k]]:=by rw[List.take_succ_eq_append_getElem (by simpa using h)];rfl
theorem zR (l:List UInt8)(c:UInt8):lK (l++ [c])=(7*lK l+(c.toNat:Int))%97:=by unfold lK;rw[List.foldl_append];rfl
theorem aIj (s:ByteArray)(w:World)(hs:s.size≤maxLen):
  U 152 #[.string s] w fun e w'=>e= .returned (I (lK s.data.toList))∧w=w':=by
 unfold maxLen at hs;go_enter func152,ntmps152;go_wp2;go_loop [3,4] (fun n i=> ∃k:Nat,k≤s.size∧i=I k∧n=I (lK (s.data.toList.take k))) (fun _ i=>s.size-(intOf i).toNat)
 case atStart=>exact⟨0,aQ1 _,rfl,rfl⟩
 case round=>
  obtain⟨k,hk,rfl,rfl⟩:=hrel;have hd:=rV (s.data.toList.take k);by_cases hlt:k<s.size
  ·have hc:(s[k].toNat:Int)<256:=by have:=s[k].toNat_lt;omega
   have HS:Hid (lK (s.data.toList.take (k+1))=(7*lK (s.data.toList.take k)+(s[k].toNat:Int))%97):=by rw[iX s k hlt];exact zR _ _
   go_wp2;go_round
   case rel=>exact⟨k+1,by omega,by go_num,by rw[HS.out]⟩
   case measure=>simp[intOf];omega
  go_wp2;go_ret;exact⟨eA (by rw[aQ2 (by simp;omega)]),rfl⟩
theorem aJh (s:ByteArray)(w:World)(hs:s.size≤maxLen):
  U 156 #[.string s] w fun e w'=>e= .returned (I (lK s.data.toList))∧w=w':=by
 unfold maxLen at hs;go_enter func156,ntmps156;go_wp2;go_loop [3,4] (fun n i=> ∃k:Nat,k≤s.size∧i=I k∧n=I (lK (s.data.toList.take k))) (fun _ i=>s.size-(intOf i).toNat)
 case atStart=>exact⟨0,aQ1 _,rfl,rfl⟩
 case round=>
  obtain⟨k,hk,rfl,rfl⟩:=hrel;have hd:=rV (s.data.toList.take k);by_cases hlt:k<s.size
  ·have hc:(s[k].toNat:Int)<256:=by have:=s[k].toNat_lt;omega
   have HS:Hid (lK (s.data.toList.take (k+1))=(7*lK (s.data.toList.take k)+(s[k].toNat:Int))%97):=by rw[iX s k hlt];exact zR _ _
   go_wp2;go_round
   case rel=>exact⟨k+1,by omega,by go_num,by rw[HS.out]⟩
   case measure=>simp[intOf];omega
  go_wp2;go_ret;exact⟨eA (by rw[aQ2 (by simp;omega)]),rfl⟩
theorem aF1 (l:List UInt8)(w:World)(hl:l.length≤maxLen):
  U 152 #[str l] w fun e w'=>e= .returned (I (lK l))∧w=w':=aIj ⟨l.toArray⟩ w (by simpa[ByteArray.size]using hl)
theorem aGi (l:List UInt8)(w:World)(hl:l.length≤maxLen):
  U 156 #[str l] w fun e w'=>e= .returned (I (lK l))∧w=w':=aJh ⟨l.toArray⟩ w (by simpa[ByteArray.size]using hl)
def nO (t:List UInt8):List UInt8:=t++ [35]++Lib.decDigits (lK t).toNat
def vW (n:Int)(t:List UInt8):List UInt8:=if 1≤n∧n≤99∧t≠ []then nO (Lib.decDigits n.toNat++ [58]++t)++ [59]else []
def aY (n k a b:Int):List UInt8:=vW n (aT k a b)
theorem vT (t:List UInt8):(Lib.decDigits (lK t).toNat).length≤21:=by have:=rV t;exact cA _ (by omega)
theorem jQ (k a b:Int):(aT k a b).length≤60:=by
 unfold aT;split
 ·rename_i h;simp[eU]at h;obtain⟨⟨h1,h2,h3,h4,h5,h6⟩,_⟩:=h;have e1:(bM k).length≤5:=(tB k (by omega)).2;have e2:=cA a.toNat (by omega);have e3:=cA b.toNat (by omega);split<;>simp<;>omega
 simp
theorem aDv (t:List UInt8)(w:World)(ht:t.length≤1000000)(hE:Env w):
  U 125 #[str t] w (O (str (nO t)) w):=by
 have hl:=vT t;have hb:=rV t;have HE:=xQ hE;clear hE;go_enter func125,ntmps125;go_wp2_with fail;refine(aGi t _ (by unfold maxLen;omega)).mono ?_;rintro e w1 ⟨rfl,rfl⟩;go_wp2_with fail;refine Z (uZ (lK t) _ (by omega) (by omega) HE.out) fun w1 h1=>?_
 go_wp2;go_ret;exact⟨iT rfl,xE⟩
theorem aC3 (n k a b:Int)(t:List UInt8)(w:World)(hE:Env w)(hD: ∀w,Env w→U 124 #[cF k a b] w (O (str t) w))(c:t.length≤60)
  (h:n<1∨1≤n∧99<n∨1≤n∧n≤99∧t.isEmpty=true):
  U 87 #[n,cF k a b] w (O (str []) w):=by
 have HE:=xQ hE;have HD:=xQ hD;clear hE hD;rcases h with h|⟨h0,h⟩|⟨h0,h1,h⟩
 all_goals
  go_enter func87,ntmps87;go_wp2_with fail;refine Z (HD _ (HE.out.ext xE)) fun w1 h1=>?_
  go_wp2;go_ret;exact⟨rfl,xE⟩
theorem aC2 (n k a b:Int)(t:List UInt8)(w:World)(hE:Env w)(hD: ∀w,Env w→U 124 #[cF k a b] w (O (str t) w))(f:t.length≤60)
  (h0:1≤n)(h1:n≤99)(h:t.isEmpty=false):
  U 87 #[n,cF k a b] w (O (str (nO (Lib.decDigits n.toNat++ [58]++t)++ [59])) w):=by
 have HE:=xQ hE;have HD:=xQ hD;clear hE hD;have hl:=cA n.toNat (by omega);have c:=vT (Lib.decDigits n.toNat++ [58]++t);obtain⟨r,hr⟩: ∃r,r=nO (Lib.decDigits n.toNat++ [58]++t):=⟨_,rfl⟩
 have d:r.length≤200:=by rw[hr];simp only[nO,aQ3,aRf,List.length_nil];omega
 have HW:Hid (∀w,Env w→U 125 #[.string (⟨(Lib.decDigits n.toNat).toArray⟩++⟨#[58]⟩++⟨t.toArray⟩)] w (O (str r) w)):=by intro w hE;rw[hr];exact aDv (Lib.decDigits n.toNat++ [58]++t) w (by simp;omega) hE
 rw[←hr];clear c hr;go_enter func87,ntmps87;go_wp2_with fail;refine Z (HD _ (HE.out.ext xE)) fun w1 h1=>?_
 go_wp2_with fail;refine Z (uZ n _ (by omega) (by omega) (HE.out.ext xE)) fun w2 h2=>?_
 go_wp2_with fail;refine Z (HW _ (HE.out.ext xE)) fun w3 h3=>?_
 go_wp2;go_ret;exact⟨iT rfl,xE⟩
theorem aJv (n k a b:Int)(w:World)(hE:Env w):U 87 #[n,cF k a b] w (O (str (aY n k a b)) w):=by
 unfold aY vW;split
 ·rename_i h;exact aC2 n k a b _ w hE (fun w h=>nJ k a b w h) (jQ k a b) h.1 h.2.1 (by simpa using h.2.2)
 rename_i h;refine aC3 n k a b _ w hE (fun w h=>nJ k a b w h) (jQ k a b) ?_;by_cases e:aT k a b= []<;>simp[e]at h⊢ <;>omega
theorem aB6 (n k a b:Int)(t:List UInt8)(w:World)(hD: ∀w,U 79 #[cF k a b] w (O (str t) w))(c:t.length≤60)
  (h:n<1∨1≤n∧99<n∨1≤n∧n≤99∧t.isEmpty=true):
  U 117 #[n,cF k a b] w (O (str []) w):=by
 have HD:=xQ hD;clear hD;rcases h with h|⟨h0,h⟩|⟨h0,h1,h⟩
 all_goals
  go_enter func117,ntmps117;go_wp2_with (first|(go_at_call 79;refine(HD _).mono ?_;rintro e w1 ⟨rfl,h1⟩)|go_in);go_ret;exact⟨rfl,xE⟩
theorem aB5 (n k a b:Int)(t:List UInt8)(w:World)(hD: ∀w,U 79 #[cF k a b] w (O (str t) w))(m:t.length≤60)
  (h0:1≤n)(h1:n≤99)(h:t.isEmpty=false):
  U 117 #[n,cF k a b] w (O (str (nO (Lib.decDigits n.toNat++ [58]++t)++ [59])) w):=by
 have HD:=xQ hD;clear hD;have hl:=cA n.toNat (by omega);have d:=vT (Lib.decDigits n.toNat++ [58]++t);have hb:=rV (Lib.decDigits n.toNat++ [58]++t);have j: ¬9223372036854775807<(Lib.decDigits n.toNat).length+1:=by omega
 have l: ¬9223372036854775807<(Lib.decDigits n.toNat).length+1+t.length:=by omega
 obtain⟨q,hq⟩: ∃q,q=Lib.decDigits n.toNat++ [58]++t:=⟨_,rfl⟩
 have i:q.length≤100:=by rw[hq];simp;omega
 rw[←hq]at d hb⊢;have HQ:=xQ hq;clear hq;go_enter func117,ntmps117;go_wp2_with (first|(go_at_call 79;refine Z (HD _) fun w1 h1=>?_;have g:=h1.cells.1)|go_in);go_upto_region 3 with fail;go_cut [5] (fun s5 wx=>s5=str q∧Ext w wx)
 case first=>
  have o:(w:Nat)<w1:=aPu (by simp) h1.sz
  go_region_held3 (fun w'=>w'.cell? ⟨w,0,none⟩=some (I k)∧w'.cell? ⟨w,1,none⟩=some (I a)∧w'.cell? ⟨w,2,none⟩=some (I b)) (go_keep)
   (first|(go_at_call 79;refine(HD _).mono ?_;rintro e w2 ⟨rfl,h2⟩;(try replace h2:=h2.of_drew);have c:=h2.cells.1;have f:(w:Nat)<w2:=aPu (by assumption) h2.sz)|(go_at_call 116;refine Z (aDp n _ (by omega) (by omega)) fun w2 h2=>?_;(try replace h2:=h2.of_drew);have c:=h2.cells.1;have f:(w:Nat)<w2:=aPu (by assumption) h2.sz))
  all_goals (go_wp2_with fail;go_meet;exact⟨by rw[HQ.out];rfl,xE⟩)
 case rest=>
  obtain⟨rfl,hx⟩:=hcut;go_wp2_with fail;refine(aF1 q _ (by unfold maxLen;omega)).mono ?_;rintro e w1 ⟨rfl,rfl⟩;go_wp2_with fail;refine Z (aDp (lK q) _ (by omega) (by omega)) fun w1 h1=>?_
  go_wp2;go_ret;exact⟨iT rfl,xE⟩
theorem zW (n k a b:Int)(w:World):U 117 #[n,cF k a b] w (O (str (aY n k a b)) w):=by
 unfold aY vW;split
 ·rename_i h;exact aB5 n k a b _ w (fun w=>rX k a b w) (jQ k a b) h.1 h.2.1 (by simpa using h.2.2)
 rename_i h;refine aB6 n k a b _ w (fun w=>rX k a b w) (jQ k a b) ?_;by_cases e:aT k a b= []<;>simp[e]at h⊢ <;>omega
def eD (c:UInt8):Bool:=decide (48≤(c.toNat:Int)∧(c.toNat:Int)≤57)
def kU (l:List UInt8):Int:=l.foldl (fun n c=>10*n+((c.toNat:Int)-48)) 0
def dK (m:Nat)(l:List UInt8):Option Int:=
 if 1≤l.length∧l.length≤m∧(l.length≤1∨l.head? ≠some 48)∧l.all eD=true then some (kU l)else none
theorem tY (l:List UInt8)(c:UInt8):kU (l++ [c])=10*kU l+((c.toNat:Int)-48):=by unfold kU;rw[List.foldl_append];rfl
theorem aDh (l:List UInt8)(h:l.all eD=true)(hl:l.length≤5):0≤kU l∧kU l≤99999:=by
 match l,hl with
 | [],_=>simp[kU]
 | [a],_=>simp[kU,eD]at h⊢;omega
 | [a,b],_=>simp[kU,eD]at h⊢;omega
 | [a,b,c],_=>simp[kU,eD]at h⊢;omega
 | [a,b,c,d],_=>simp[kU,eD]at h⊢;omega
 | [a,b,c,d,e],_=>simp[kU,eD]at h⊢;omega
 |_::_::_::_::_::_::_,hl=>simp at hl
theorem qZ (s:ByteArray)(k:Nat)(h:k<s.size)(ha:(s.data.toList.take k).all eD=true)(hc:eD s[k]=true):(s.data.toList.take (k+1)).all eD=true:=by rw[iX s k h];simp[ha,hc]
theorem pZ (s:ByteArray)(k:Nat)(h:k<s.size)(hc:eD s[k]=false):s.data.toList.all eD=false:=by rw[List.all_eq_false];exact⟨s[k],by rw[Array.mem_toList_iff];exact Array.getElem_mem (xs:=s.data) (i:=k) h,by simp[hc]⟩
theorem aK2 (s:ByteArray)(h:0<s.size):s.data.toList.head? =some s[0]:=by
 obtain⟨⟨l⟩⟩:=s;cases l with
 |nil=>simp[ByteArray.size]at h
 |cons a l=>rfl
theorem jN {m:Nat}{l:List UInt8}(h:l.length<1∨m<l.length):dK m l=none:=by unfold dK;rw[if_neg];omega
theorem oL {m:Nat}{l:List UInt8}(h:1<l.length)(h0:l.head? =some 48):dK m l=none:=by
 unfold dK;rw[if_neg];rintro⟨_,_,h1|h1,_⟩
 ·omega
 exact h1 h0
theorem oW {m:Nat}{l:List UInt8}(h:l.all eD=false):dK m l=none:=by unfold dK;rw[if_neg];simp[h]
theorem rC {m:Nat}{l:List UInt8}(h1:1≤l.length)(h2:l.length≤m)(h3:l.length≤1∨l.head? ≠some 48)(h4:l.all eD=true):dK m l=some (kU l):=by unfold dK;rw[if_pos ⟨h1,h2,h3,h4⟩]
theorem aDs {c:UInt8}(h0:48≤(c.toNat:Int))(h1:(c.toNat:Int)≤57):eD c=true:=by simp[eD];omega
theorem lG {c:UInt8}(h:(c.toNat:Int)<48∨57<(c.toNat:Int)):eD c=false:=by simp[eD];omega
def aH9 (l:List UInt8):Int:=if l.all eD then kU l else -1
theorem yD {l:List UInt8}(h:l.all eD=true):aH9 l=kU l:=if_pos h
theorem uJ {l:List UInt8}(h:l.all eD=false):aH9 l= -1:=if_neg (by simp[h])
theorem nZ (s:ByteArray)(w:World)(h:s.size<1∨4<s.size∧s.size≤9223372036854775807∨1<s.size∧s.size≤4∧ ∀h:0<s.size,((s[0].toNat:Int)==48)=true):
  U 119 #[.string s] w fun e w'=>e= .returned (I (-1))∧w=w':=by
 rcases h with h|⟨h,h'⟩|⟨h,h',h0⟩
 ·go_enter func119,ntmps119;go_wp2;go_ret;exact⟨rfl,rfl⟩
 ·go_enter func119,ntmps119;go_wp2;go_ret;exact⟨rfl,rfl⟩
 have hp:0<s.size:=by omega
 have a:=h0 hp;clear h0;go_enter func119,ntmps119;go_wp2;go_ret;exact⟨rfl,rfl⟩
theorem aDo (s:ByteArray)(w:World)(h1:1≤s.size)(h4:s.size≤4)(hz:s.size≤1∨1<s.size∧ ∀h:0<s.size,((s[0].toNat:Int)==48)=false):
  U 119 #[.string s] w fun e w'=>e= .returned (I (aH9 s.data.toList))∧w=w':=by
 have hp:0<s.size:=by omega
 rcases hz with hz|⟨hz,h0⟩
 all_goals
  try (have b:=h0 hp)
  try clear h0
  go_enter func119,ntmps119;go_wp2;go_loop [3,4] (fun n i=> ∃k:Nat,k≤s.size∧i=I k∧n=I (kU (s.data.toList.take k))∧(s.data.toList.take k).all eD=true) (fun _ i=>s.size-(intOf i).toNat)
  case atStart=>exact⟨0,aQ1 _,rfl,rfl,by simp⟩
  case round=>
   obtain⟨k,hk,rfl,rfl,a⟩:=hrel;have hb:=aDh _ a (by simp;omega);have HA:=xQ a;clear a;by_cases hlt:k<s.size
   ·have HS:Hid (kU (s.data.toList.take (k+1))=10*kU (s.data.toList.take k)+((s[k].toNat:Int)-48)):=by rw[iX s k hlt];exact tY _ _
    rcases(show(s[k].toNat:Int)<48∨48≤(s[k].toNat:Int)∧57<(s[k].toNat:Int)∨48≤(s[k].toNat:Int)∧(s[k].toNat:Int)≤57 by omega)with hc|⟨hc0,hc⟩|⟨hc0,hc⟩
    ·go_wp2;go_ret;exact⟨eA (uJ (pZ s k hlt (lG (.inl hc)))).symm,rfl⟩
    ·go_wp2;go_ret;exact⟨eA (uJ (pZ s k hlt (lG (.inr hc)))).symm,rfl⟩
    go_wp2;go_round
    case rel=>exact⟨k+1,by omega,by go_num,by rw[HS.out],qZ s k hlt HA (aDs hc0 hc)⟩
    case measure=>simp[intOf];omega
   have e:s.data.toList.take k=s.data.toList:=aQ2 (by simp;omega);have HE:=xQ e;clear e;go_wp2;go_ret;exact⟨eA (by rw[yD (by rw[←HE.out];exact HA.out),HE.out]),rfl⟩
theorem vV (s:ByteArray)(h:0<s.size):s.data.toList.head? =some 48↔((s[0].toNat:Int)==48)=true:=by
 rw[aK2 s h];simp only[aR3,beq_iff_eq];constructor
 ·intro e;rw[e];rfl
 intro e;exact UInt8.toNat_inj.1 (by show _=48;omega)
theorem bY (s:ByteArray):s.data.toList.length=s.size:=by simp
theorem aGf (s:ByteArray)(w:World)(hs:s.size≤maxLen):
  U 119 #[.string s] w fun e w'=>e= .returned (I ((dK 4 s.data.toList).getD (-1)))∧w=w':=by
 unfold maxLen at hs;by_cases h1:s.size<1
 ·rw[jN (by rw[bY];omega)];exact nZ s w (.inl h1)
 by_cases h4:4<s.size
 ·rw[jN (by rw[bY];omega)];exact nZ s w (.inr (.inl ⟨h4,hs⟩))
 by_cases h0:1<s.size∧s.data.toList.head? =some 48
 ·rw[oL (by rw[bY];omega) h0.2];exact nZ s w (.inr (.inr ⟨h0.1,by omega,fun h=>(vV s h).1 h0.2⟩))
 refine(aDo s w (by omega) (by omega) ?_).mono ?_
 ·by_cases hq:s.size≤1
  ·exact .inl hq
  refine .inr ⟨by omega,fun h=> ?_⟩;rw[←Bool.not_eq_true,←vV s h];intro e;exact h0 ⟨by omega,e⟩
 rintro e w' ⟨rfl,rfl⟩;refine⟨eA ?_,rfl⟩;cases ha:s.data.toList.all eD with
 |true=>rw[yD ha,rC (by rw[bY];omega) (by rw[bY];omega) (by rw[bY];by_cases hq:s.size≤1;exact .inl hq;exact .inr (fun e=>h0 ⟨by omega,e⟩)) ha];rfl
 |false=>rw[uJ ha,oW ha];rfl
end
end Go.Proofs.YtbgkcehffiogcaaGreatDoor
