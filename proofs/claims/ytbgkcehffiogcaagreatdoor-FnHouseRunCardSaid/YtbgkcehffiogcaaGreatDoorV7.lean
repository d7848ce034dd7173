/-
  Texts of this proof, packed (@packed).
-/
import Derived.KernelRfl
import Derived.Lib.CountLaws
import Derived.Lib.ItoaLen
import Derived.Lib.ItoaMem
import Derived.Lib.SplitLaws
import Derived.Shelf.Strings.BuilderK
import Derived.Test.YtbgkcehffiogcaaGreatDoorV6
namespace Go.Proofs.YtbgkcehffiogcaaGreatDoor
open Go.RowKit
set_option linter.unusedSimpArgs false
set_option linter.unusedVariables false
set_option maxHeartbeats 8000000
set_option maxRecDepth 100000
section
open Go.Proofs.Tryz
def eR (f:Nat→Bool):Nat→List Int
 |0=> []
 |k+1=>eR f k++(if f k then [(k:Int)]else [])
def cL (xs:List Int)(k:Nat):Bool:=xs[k]? ==some 0
def oG (xs:List Int):List Int:=eR (cL xs) xs.length
theorem aCq {wr w2:World}{B o n:Nat}{v u:Value}{xs:List Value}{ob:Obj}(ho:wr.ownsRow (B+1) TI 1 v n xs)(hg:(wr.alloc ob).grownBy w2 v.ownBlock)(hb:B<wr.heap.size)(hc:wr.cell? ⟨B,o,none⟩=some u):w2.cell? ⟨B,o,none⟩=some u:=by rw[World.cell?_of_block (w:=wr.alloc ob) (hg.block B (by simp;omega) (fun e=>by have:=ho.lt B e.symm;omega))];rw[((Ext.refl wr).alloc ob).cells.1 B o hb];exact hc
theorem aAn (aA aB:Int)(p:OA)(n a:Nat)(w:World)(HV:xB 29 #[aH aA aB p n a] w false):
  U 157 #[aH aA aB p n a] w (bI [] w):=by
 go_enter func157,ntmps157;go_wp2_with fail;refine Z (HV _ (by exact .alloc (.alloc (.refl _) _) _)) fun w1 h1=>?_
 have ho:((w.alloc (.cells #[aA,aB,.slice p n a] 25)).alloc (.cells #[] TI)).ownsRow (w.heap.size+1) TI 1 (.slice (some ⟨(w.alloc (.cells #[aA,aB,.slice p n a] 25)).heap.size,0,none⟩) 0 0) 0 []:=aLa _ #[] 0 (by simp) (by simp[maxLen]) rfl;have b:=xQ (aY ho h1);clear ho;go_wp2;go_ret;exact dL (xs:= []) rfl (by simpa using bF b (Nat.le_succ _)) (by exact .trans (.alloc (.alloc (.refl _) _) _) h1)
theorem aDm (aA aB:Int)(p:OA)(n d:Nat)(xs:List Int)(w:World)(hn:n≤12)(HS:Hid (Sl w p n d 1 (ivs xs)))(HV:xB 29 #[aH aA aB p n d] w true):
  U 157 #[aH aA aB p n d] w (bI (oG xs) w):=by
 have hl:=xQ HS.out.ilen;go_enter func157,ntmps157;go_wp2_with fail;refine Z (HV _ (by exact .alloc (.alloc (.refl _) _) _)) fun w1 h1=>?_
 have ho:((w.alloc (.cells #[aA,aB,.slice p n d] 25)).alloc (.cells #[] TI)).ownsRow (w.heap.size+1) TI 1 (.slice (some ⟨(w.alloc (.cells #[aA,aB,.slice p n d] 25)).heap.size,0,none⟩) 0 0) 0 []:=aLa _ #[] 0 (by simp) (by simp[maxLen]) rfl;have s:=xQ (aY ho h1);clear ho;have ab:(w:Nat)<w1:=aK0 (by first|(simp;omega)|simp) h1.sz;have eb:w1.cell? ⟨w,2,none⟩=some (.slice p n d):=by rw[h1.cells.1 _ _ (by first|(simp;done)|(simp;omega))];simp
 have aa:Ext w w1:=by exact .trans (.alloc (.alloc (.refl _) _) _) h1
 go_wp2;go_loopw [3,4] (fun v i wr=> ∃(k:Nat) (q:OA) (m c:Nat),k≤n∧i=I k∧v= .slice q m c∧m≤k∧wr.ownsRow (w.heap.size+1) TI 1 (.slice q m c) m (ivs (eR (cL xs) k))∧Ext w wr∧wr.cell? ⟨w,2,none⟩=some (.slice p n d)∧w.heap.size<wr.heap.size) (fun _ i _=>n-(intOf i).toNat)
 case atStart=>exact⟨0,_,0,0,aK8 _,rfl,rfl,aK1 _,by simpa[eR]using s.out,aa,eb,ab⟩
 case round=>
  obtain⟨k,q,m,c,hk,rfl,rfl,ad,j,g,ec,l⟩:=hrel;have HO:=xQ j;clear j;by_cases hlt:k<n
  ·obtain⟨b,ae,x,rfl,hx,hb,z⟩:=(HS.out.ext g).int_at hlt;have HX:=xQ hx;clear hx;by_cases hx0:x=0
   ·have t0:(x==0)=true:=by simp[hx0]
    have a:Hid (eR (cL xs) (k+1)=eR (cL xs) k++ [(k:Int)]):=by show _=_;rw[eR,if_pos (by unfold cL;rw[HX.out,hx0];rfl)]
    clear hx0;go_wp2_with (at_builtin;refine dA fH rfl _ _ rfl (w.heap.size+1) _ _ _ rfl (HO.out.alloc _) _ _ (k:Int) _ rfl (by simp) (by omega) (by simp;omega) ?_;intro p' o w2 f h;have t:=xQ f;have y:Ext w w2:=Ext.own (g.alloc _) (HO.out.alloc _) h (by omega);have u:=aCq HO h l ec;have r:(w:Nat)<w2:=aK0 l (by have:=h.size;simp at this;omega);clear f h);go_roundw
    case rel=>exact⟨k+1,p',m+1,o,by omega,by go_num,rfl,by omega,by rw[a.out];exact t.out,y,u,r⟩
    case measure=>simp[intOf];omega
   have t0:(x==0)=false:=by simp[hx0]
   have a:Hid (eR (cL xs) (k+1)=eR (cL xs) k):=by show _=_;rw[eR,if_neg (by unfold cL;rw[HX.out];simp[hx0]),aKr]
   clear hx0;go_wp2;go_roundw
   case rel=>exact⟨k+1,q,m,c,by omega,by go_num,rfl,by omega,by rw[a.out];exact HO.out,g,ec,l⟩
   case measure=>simp[intOf];omega
  have a:Hid (eR (cL xs) k=oG xs):=by show _=_;unfold oG;rw[hl.out,show k=n by omega]
  go_wp2;go_ret;exact dL (by rw[←a.out];have:=HO.out.1;simpa using this) (by rw[←a.out];exact bF HO (Nat.le_succ _)) g
theorem aFq (aA aB:Int)(p:OA)(n a:Nat)(xs:List Int)(w:World)(hS:Sl w p n a 1 (ivs xs)):U 157 #[aH aA aB p n a] w (bI (if aN aA aB xs then oG xs else []) w):=by
 have hl:=hS.ilen;cases h:aN aA aB xs with
 |true=>
  have hb:n≤12:=by unfold aN at h;rw[aKg]at h;have:=bZ h.1;omega
  simpa using aDm aA aB p n a xs w hb hS (fun w' hx=>by have:=fM aA aB p n a xs w' (hS.ext hx);rwa[h]at this)
 |false=>simpa using aAn aA aB p n a w (fun w' hx=>by have:=fM aA aB p n a xs w' (hS.ext hx);rwa[h]at this)
set_option maxRecDepth 100000 in set_option maxHeartbeats 1000000 in
theorem aBs (aA aB:Int)(p:OA)(n a:Nat)(w:World)(HV:xB 41 #[aH aA aB p n a] w false):
  U 135 #[aH aA aB p n a] w (bI [] w):=by
 go_enter func135,ntmps135;go_wp2_with fail;refine Z (HV _ (by exact .alloc (.refl _) _)) fun w1 h1=>?_
 go_wp2;go_ret;exact dL (xs:= []) rfl (aKi _ _ _ _) (by exact .trans (.alloc (.refl _) _) h1)
set_option maxRecDepth 100000 in set_option maxHeartbeats 1000000 in
theorem aEi (aA aB:Int)(p:OA)(n d:Nat)(xs:List Int)(w:World)(hn:n≤12)(HS:Hid (Sl w p n d 1 (ivs xs)))(HV:xB 41 #[aH aA aB p n d] w true):
  U 135 #[aH aA aB p n d] w (bI (oG xs) w):=by
 have hl:=xQ HS.out.ilen;go_enter func135,ntmps135;go_wp2_with fail;refine Z (HV _ (by exact .alloc (.refl _) _)) fun w1 h1=>?_
 have aa:(w:Nat)<w1:=aK0 (by first|(simp;omega)|simp) h1.sz;have eb:w1.cell? ⟨w,2,none⟩=some (.slice p n d):=by rw[h1.cells.1 _ _ (by first|(simp;done)|(simp;omega))];simp
 have z:Ext w w1:=by exact .trans (.alloc (.refl _) _) h1
 go_wp2;go_loopw [3,12] (fun v i wr=> ∃(k:Nat) (q:OA) (m c:Nat),k≤n∧i=I k∧v= .slice q m c∧m≤k∧wr.ownsRow (w.heap.size+1) TI 1 (.slice q m c) m (ivs (eR (cL xs) k))∧Ext w wr∧wr.cell? ⟨w,2,none⟩=some (.slice p n d)∧w.heap.size<wr.heap.size) (fun _ i _=>n-(intOf i).toNat)
 case atStart=>exact⟨0,_,0,0,aK8 _,rfl,rfl,aK1 _,aKi _ _ _ _,z,eb,aa⟩
 case round=>
  obtain⟨k,q,m,c,hk,rfl,rfl,ab,j,g,ec,l⟩:=hrel;have HO:=xQ j;clear j;by_cases hlt:k<n
  ·obtain⟨b,ad,x,rfl,hx,hb,y⟩:=(HS.out.ext g).int_at hlt;have HX:=xQ hx;clear hx;by_cases hx0:x=0
   ·have t0:(x==0)=true:=by simp[hx0]
    have a:Hid (eR (cL xs) (k+1)=eR (cL xs) k++ [(k:Int)]):=by show _=_;rw[eR,if_pos (by unfold cL;rw[HX.out,hx0];rfl)]
    clear hx0;go_wp2_with (at_builtin;refine dA fH rfl _ _ rfl (w.heap.size+1) _ _ _ rfl (HO.out.alloc _) _ _ (k:Int) _ rfl (by simp) (by omega) (by simp;omega) ?_;intro p' o w2 f h;have s:=xQ f;have u:Ext w w2:=Ext.own (g.alloc _) (HO.out.alloc _) h (by omega);have t:=aCq HO h l ec;have r:(w:Nat)<w2:=aK0 l (by have:=h.size;simp at this;omega);clear f h);go_roundw
    case rel=>exact⟨k+1,p',m+1,o,by omega,by go_num,rfl,by omega,by rw[a.out];exact s.out,u,t,r⟩
    case measure=>simp[intOf];omega
   have t0:(x==0)=false:=by simp[hx0]
   have a:Hid (eR (cL xs) (k+1)=eR (cL xs) k):=by show _=_;rw[eR,if_neg (by unfold cL;rw[HX.out];simp[hx0]),aKr]
   clear hx0;go_wp2;go_roundw
   case rel=>exact⟨k+1,q,m,c,by omega,by go_num,rfl,by omega,by rw[a.out];exact HO.out,g,ec,l⟩
   case measure=>simp[intOf];omega
  have a:Hid (eR (cL xs) k=oG xs):=by show _=_;unfold oG;rw[hl.out,show k=n by omega]
  go_wp2;go_ret;exact dL (by rw[←a.out];have:=HO.out.1;simpa using this) (by rw[←a.out];exact bF HO (Nat.le_succ _)) g
theorem aJf (aA aB:Int)(p:OA)(n a:Nat)(xs:List Int)(w:World)(hS:Sl w p n a 1 (ivs xs)):U 135 #[aH aA aB p n a] w (bI (if aN aA aB xs then oG xs else []) w):=by
 have hl:=hS.ilen;cases h:aN aA aB xs with
 |true=>
  have hb:n≤12:=by unfold aN at h;rw[aKg]at h;have:=bZ h.1;omega
  simpa using aEi aA aB p n a xs w hb hS (fun w' hx=>by have:=eV aA aB p n a xs w' (hS.ext hx);rwa[h]at this)
 |false=>simpa using aBs aA aB p n a w (fun w' hx=>by have:=eV aA aB p n a xs w' (hS.ext hx);rwa[h]at this)
end
def rG:Go.Shelf.Ren:=⟨fun|166=>66|240=>100|276=>133|n=>n,fun|0=>0|3=>3|4=>4|5=>5|9=>9|20=>20|37=>22|70=>101|72=>103|75=>105|80=>110|164=>160|n=>n,fun|n=>n⟩
theorem aIf:Go.Proofs.Lays.n166 Tryz.prog rG:={
 mixed:=by kernel_rfl,
 f166:=Tryz.func66.trans (congrArg some (by kernel_rfl)),
 f240:=Tryz.func100.trans (congrArg some (by kernel_rfl)),
 f276:=Tryz.func133.trans (congrArg some (by kernel_rfl)),
 t0:=Tryz.underlying0,
 a0:=Tryz.isAgg0,
 z0:=Tryz.sizeOf0,
 v0:=Tryz.zeroValue0,
 t3:=Tryz.underlying3,
 a3:=Tryz.isAgg3,
 z3:=Tryz.sizeOf3,
 v3:=Tryz.zeroValue3,
 t4:=Tryz.underlying4,
 a4:=Tryz.isAgg4,
 z4:=Tryz.sizeOf4,
 v4:=Tryz.zeroValue4,
 t9:=Tryz.underlying9,
 a9:=Tryz.isAgg9,
 z9:=Tryz.sizeOf9,
 v9:=Tryz.zeroValue9,
 t20:=Tryz.underlying20,
 a20:=Tryz.isAgg20,
 z20:=Tryz.sizeOf20,
 v20:=Tryz.zeroValue20,
 t37:=Tryz.underlying22,
 a37:=Tryz.isAgg22,
 z37:=Tryz.sizeOf22,
 v37:=Tryz.zeroValue22,
 t70:=Tryz.underlying101,
 a70:=Tryz.isAgg101,
 z70:=Tryz.sizeOf101,
 v70:=Tryz.zeroValue101,
 t72:=Tryz.underlying103,
 a72:=Tryz.isAgg103,
 z72:=Tryz.sizeOf103,
 v72:=Tryz.zeroValue103,
 t75:=Tryz.underlying105,
 a75:=Tryz.isAgg105,
 z75:=Tryz.sizeOf105,
 v75:=Tryz.zeroValue105,
 t164:=Tryz.underlying160,
 a164:=Tryz.isAgg160,
 z164:=Tryz.sizeOf160,
 v164:=Tryz.zeroValue160}
theorem aHh:Go.Proofs.Builder.Extra Tryz.prog rG:={
 sizeBuilder:=by kernel_rfl
 liesBuilder:=by kernel_rfl
 t5:=Tryz.underlying5
 a5:=Tryz.isAgg5
 z5:=Tryz.sizeOf5
 v5:=Tryz.zeroValue5
 infoByte:=by kernel_rfl
 cellsByte:=by kernel_rfl
 sizeByte:=by kernel_rfl
 neB5:=by decide}
def rF:Go.Shelf.Ren:=⟨fun|167=>65|240=>100|276=>133|n=>n,fun|0=>0|3=>3|4=>4|5=>5|9=>9|20=>20|37=>22|70=>101|72=>103|75=>105|80=>110|164=>160|n=>n,fun|n=>n⟩
theorem aIe:Go.Proofs.Lays.n167 Tryz.prog rF:={
 mixed:=by kernel_rfl,
 f167:=Tryz.func65.trans (congrArg some (by kernel_rfl)),
 f240:=Tryz.func100.trans (congrArg some (by kernel_rfl)),
 f276:=Tryz.func133.trans (congrArg some (by kernel_rfl)),
 t0:=Tryz.underlying0,
 a0:=Tryz.isAgg0,
 z0:=Tryz.sizeOf0,
 v0:=Tryz.zeroValue0,
 t4:=Tryz.underlying4,
 a4:=Tryz.isAgg4,
 z4:=Tryz.sizeOf4,
 v4:=Tryz.zeroValue4,
 t5:=Tryz.underlying5,
 a5:=Tryz.isAgg5,
 z5:=Tryz.sizeOf5,
 v5:=Tryz.zeroValue5,
 t9:=Tryz.underlying9,
 a9:=Tryz.isAgg9,
 z9:=Tryz.sizeOf9,
 v9:=Tryz.zeroValue9,
 t20:=Tryz.underlying20,
 a20:=Tryz.isAgg20,
 z20:=Tryz.sizeOf20,
 v20:=Tryz.zeroValue20,
 t37:=Tryz.underlying22,
 a37:=Tryz.isAgg22,
 z37:=Tryz.sizeOf22,
 v37:=Tryz.zeroValue22,
 t70:=Tryz.underlying101,
 a70:=Tryz.isAgg101,
 z70:=Tryz.sizeOf101,
 v70:=Tryz.zeroValue101,
 t72:=Tryz.underlying103,
 a72:=Tryz.isAgg103,
 z72:=Tryz.sizeOf103,
 v72:=Tryz.zeroValue103,
 t75:=Tryz.underlying105,
 a75:=Tryz.isAgg105,
 z75:=Tryz.sizeOf105,
 v75:=Tryz.zeroValue105,
 t164:=Tryz.underlying160,
 a164:=Tryz.isAgg160,
 z164:=Tryz.sizeOf160,
 v164:=Tryz.zeroValue160}
theorem aHg:Go.Proofs.Builder.Extra Tryz.prog rF:={
 sizeBuilder:=by kernel_rfl
 liesBuilder:=by kernel_rfl
 t5:=Tryz.underlying5
 a5:=Tryz.isAgg5
 z5:=Tryz.sizeOf5
 v5:=Tryz.zeroValue5
 infoByte:=by kernel_rfl
 cellsByte:=by kernel_rfl
 sizeByte:=by kernel_rfl
 neB5:=by decide}
theorem kT (B b:Nat)(bs:List Value)(s:ByteArray)(w:World)(h:Lib.IsBuilderF 103 5 B b bs w)(hl:bs.length+s.size≤140737488355328)(hB:B≤w.heap.size):
  Calls Tryz.prog 66 #[.pointer (some ⟨b,0,none⟩),.string s] w fun e w'=>e= .returned (.tuple #[.int .i64 s.size,.nilIface])∧Lib.BuilderAtF 103 5 B b (.pointer (some ⟨b,0,none⟩)) (bs++Lib.strCells s) w'∧Below B w w'∧Lib.OthersKept 5 (some b) w w':=
 Any.Builder_WriteString_k aIf aHh B b bs s w h hl hB
theorem jJ (B b:Nat)(bs:List Value)(c:Int)(w:World)(h:Lib.IsBuilderF 103 5 B b bs w)(hl:bs.length+1≤140737488355328)(hB:B≤w.heap.size):
  Calls Tryz.prog 65 #[.pointer (some ⟨b,0,none⟩),.int .u8 c] w fun e w'=>e= .returned .nilIface∧Lib.BuilderAtF 103 5 B b (.pointer (some ⟨b,0,none⟩)) (bs++ [.int .u8 c]) w'∧Below B w w'∧Lib.OthersKept 5 (some b) w w':=
 Any.Builder_WriteByte_k aIe aHg B b bs c w h hl hB
section
open Go.Proofs.Tryz
theorem aJu:prog.globalNamed "internal/strconv.uint64pow10" =some 1:=by kernel_rfl
structure Env (w:World):Prop where
 tab:Lib.TabIs prog w "internal/strconv.uint64pow10" .u64 Lib.pow10Tab
 mx: ∃m,w.cell? ⟨0,0,none⟩=some (.int .i64 m)
theorem Env.ext {w w':World}(h:Env w)(hb:Ext w w'):Env w' where
 tab:=Joins.var_stays aJu h.tab hb (aK1 _)
 mx:=by obtain⟨m,hm⟩:=h.mx;exact⟨m,(hb.cells.1 _ _ (World.block_lt_of_cell? w _ hm)).trans hm⟩
theorem Env.start {w:World}(ht:Lib.TabIs prog w "internal/strconv.uint64pow10" .u64 Lib.pow10Tab)(hS:w.ShapedOpen prog):Env w where
 tab:=ht
 mx:=Tryz.laysM145.s1_3 w hS
abbrev str (l:List UInt8):Value:= .string ⟨l.toArray⟩
theorem yZ (n:Nat):Lib.itoa (n:Int)=Lib.decDigits n:=by unfold Lib.itoa;rw[if_neg (by omega)];simp
theorem aHi (w:World)(os:Array Obj):Ext w (Sort.grow w os):=
 ⟨rfl,rfl,rfl,by simp,fun k hk=>by simp only[Sort.grow];rw[Array.getElem?_append_left hk]⟩
theorem aGh (n:Nat)(w:World)(hn:n≤9223372036854775807)(hE:Env w):
  U 67 #[n] w (O (str (Lib.decDigits n)) w):=by
 refine(Tryz.strconv_Itoa (n:Int) (by omega) (by omega) w hE.tab).mono ?_;rintro e w' ⟨rfl,k,os,rfl⟩;exact⟨by rw[yZ],(Ext.drewN (Ext.refl w) k).trans (aHi _ _)⟩
theorem aGi (n:Int)(w:World)(h0:0≤n)(hn:n≤9223372036854775807)(hE:Env w):
  U 67 #[n] w (O (str (Lib.decDigits n.toNat)) w):=by
 obtain⟨m,rfl⟩:=aKo h0;exact aGh m w (by omega) hE
theorem xL (n:Nat)(h:n<10):Lib.decDigits n= [UInt8.ofNat (48+n)]:=by rw[Lib.decDigits];simp[h]
theorem iW (n:Nat)(h:n≤9223372036854775807):(Lib.decDigits n).length≤21:=by rw[←yZ];exact Lib.itoa_length_le _ (by omega) (by omega)
end
abbrev kG (k a b:Int):Value:= .agg #[k,a,b]
abbrev aDc:=Int×Int×Int
/-! ### slices of structs -/
theorem Rd.at {α:Type}{f:α→List Value}{w:World}{b c n d sz:Nat}{xs:List α}(hf: ∀a,(f a).length=sz)(h:Rd w (.slice (some ⟨b,c,none⟩) n d) n sz (xs.flatMap f)){k:Nat}{a:α}(hk:xs[k]? =some a) (hn:xs.length=n) (j:Nat) (hj:j<sz):
  w.cell? ⟨b,c+k*sz+j,none⟩=(f a)[j]? :=by
 rcases h.2 with⟨h1,_⟩|⟨b',off',cap',h1,_,_,_,h2⟩
 ·simp at h1
 simp only[Value.slice.injEq,aM2,Addr.mk.injEq,and_true,true_and]at h1;obtain⟨⟨rfl,rfl⟩,rfl⟩:=h1;have e:k<n:=by rw[←hn];exact(aK4.1 hk).1
 have g:k*sz+j<n*sz:=by have:(k+1)*sz≤n*sz:=aLi sz e;rw[aLy]at this;omega
 rw[Nat.add_assoc,h2 _ g,dM f sz hf xs k a hk j hj]
def lK (d:aDc):List Value:= [.int .i64 d.1,.int .i64 d.2.1,.int .i64 d.2.2]
abbrev RdDeeds (w:World)(v:Value)(ds:List aDc):Prop:=Rd w v ds.length 3 (ds.flatMap lK)
theorem RdDeeds.at {w:World}{b c n e:Nat}{ds:List aDc}(h:Rd w (.slice (some ⟨b,c,none⟩) n e) n 3 (ds.flatMap lK))(hn:ds.length=n){k:Nat}{d:aDc}(hk:ds[k]? =some d):
  w.cell? ⟨b,c+k*3,none⟩=some (I d.1)∧w.cell? ⟨b,c+k*3+1,none⟩=some (I d.2.1)∧w.cell? ⟨b,c+k*3+2,none⟩=some (I d.2.2):=
 ⟨h.at (f:=lK) (fun _=>rfl) hk hn 0 (by omega),h.at (f:=lK) (fun _=>rfl) hk hn 1 (by omega),h.at (f:=lK) (fun _=>rfl) hk hn 2 (by omega)⟩
/-! ### the text -/
/-! ### a builder while the world grows -/
theorem Ext.gb {w w':World}(h:Ext w w'):w.grownBy w' none:=⟨h.os,h.tape,h.output,h.size,fun k hk _=>h.block k hk⟩
theorem oI {T e:TypeId}{B b:Nat}{p:Value}{bs:List Value}{w w':World}(h:Lib.BuilderAtF T e B b p bs w)(hx:Ext w w'):Lib.BuilderAtF T e B b p bs w':=by have c:=h.lt;obtain⟨hB,v,hh,a,d⟩:=h;exact⟨hB,v,by rw[hx.block b c];exact hh,a.kept hx.gb (by cases v.ownBlock<;>simp),d⟩
theorem nF {T e:TypeId}{B b:Nat}{bs:List Value}{w w':World}(h:Lib.IsBuilderF T e B b bs w)(hx:Ext w w'):Lib.IsBuilderF T e B b bs w':=
 h.elim (fun q=> .inl (oI q hx)) (fun q=> .inr (oI q hx))
theorem fX {w wr w':World}{B:Nat}(h:Ext w wr)(hb:Below B wr w')(hB:w.heap.size≤B):Ext w w':=Below.trans h (Below.mono hb hB)
theorem iU (a b:List UInt8):Lib.byteCells (a++b)=Lib.byteCells a++Lib.strCells ⟨b.toArray⟩:=by simp[Lib.byteCells,Lib.strCells]
section
open Go.Proofs.Tryz
def gJ (x:Int):List UInt8:=if x=0 then [46]else Lib.decDigits x.toNat
def iJ (aA:Int)(k:Nat):List UInt8:=if k=0 then []else if(k:Int)%aA=0 then [47]else [44]
def aZ (aA:Int)(xs:List Int):Nat→List UInt8
 |0=> []
 |k+1=>aZ aA xs k++iJ aA k++gJ (xs[k]?.getD 0)
def kD (aA aB:Int)(xs:List Int):List UInt8:=if aN aA aB xs then aZ aA xs xs.length else []
theorem zY (x:Int)(h:x≤99):(gJ x).length≤21:=by
 unfold gJ;split
 ·simp
 exact iW _ (by omega)
theorem uL (aA:Int)(xs:List Int)(h: ∀x∈xs,x≤99): ∀k,(aZ aA xs k).length≤22*k:=by
 intro k;induction k with
 |zero=>simp[aZ]
 |succ k ih=>
  have h1:(gJ (xs[k]?.getD 0)).length≤21:=by
   refine zY _ ?_;cases hx:xs[k]? with
   |none=>simp
   |some x=>exact h x (aK5 hx)
  have h2:(iJ aA k).length≤1:=by unfold iJ;split;simp;split<;>simp
  simp only[aZ,aKa];omega
theorem tI {aA:Int}{xs:List Int}{k:Nat}{x:Int}(h:xs[k]? =some x):aZ aA xs (k+1)=aZ aA xs k++iJ aA k++gJ x:=by simp[aZ,h]
theorem gI (a:List UInt8)(c:UInt8)(ci:Int)(hc:ci=(c.toNat:Int)):Lib.byteCells (a++ [c])=Lib.byteCells a++ [.int .u8 ci]:=by subst hc;simp[Lib.byteCells]
theorem qL (aA aB:Int)(p:OA)(n a:Nat)(w:World)(HV:xB 41 #[aH aA aB p n a] w false):
  U 33 #[aH aA aB p n a] w (O (str []) w):=by
 go_enter func33,ntmps33;go_wp2_with fail;refine Z (HV _ (by exact .alloc (.refl _) _)) fun w1 h1=>?_
 go_wp2;go_ret;exact⟨rfl,by exact .trans (.alloc (.refl _) _) h1⟩
theorem rX (aA aB:Int)(p:OA)(n u:Nat)(xs:List Int)(w:World)(ad:Env w)(h0:2≤aA)(h1:aA≤4)(hn:n≤12)(hc: ∀x∈xs,0≤x∧x≤99)(HS:Hid (Sl w p n u 1 (ivs xs)))
  (HV:xB 41 #[aH aA aB p n u] w true):
  U 33 #[aH aA aB p n u] w (O (str (aZ aA xs n)) w):=by
 have aa:=xQ ad;have HC:=xQ hc;clear ad hc;go_enter func33,ntmps33;go_wp2_with fail;refine Z (HV _ (by exact .alloc (.refl _) _)) fun w1 v=>?_
 have ai:(w:Nat)<w1:=aK0 (by simp) v.sz;have ea:w1.cell? ⟨w,0,none⟩=some (I aA):=by rw[v.cells.1 _ _ (by simp)];simp
 have eb:w1.cell? ⟨w,2,none⟩=some (.slice p n u):=by rw[v.cells.1 _ _ (by simp)];simp
 have z:Ext w w1:=by exact .trans (.alloc (.refl _) _) v
 go_wp2;go_loopw [12] (fun i wr=> ∃(k:Nat),k≤n∧i=I k∧Lib.IsBuilderF 103 5 w1 w1 (Lib.byteCells (aZ aA xs k)) wr∧Ext w1 wr∧w1.heap.size<wr.heap.size) (fun i _=>n-(intOf i).toNat)
 case atStart=>exact⟨0,aK8 _,rfl,.inl ⟨aK1 _,.slice none 0 0,by rw[heap_alloc_new],World.ownsRowF_nil _ _ _ _,by simp[Value.ownBlock]⟩,(Ext.refl _).alloc _,by simp⟩
 case round=>
  obtain⟨k,hk,rfl,af,hE,y⟩:=hrel;have s:=xQ af;clear af;have ae:Ext w wr:=z.trans hE;have ak:wr.cell? ⟨w,0,none⟩=some (I aA):=(hE.cells.1 _ _ ai).trans ea;have o:(Lib.byteCells (aZ aA xs k)).length≤300:=by have:=uL aA xs (fun x hx=>(HC x hx).2) k;simp[Lib.byteCells];omega
  by_cases hlt:k<n
  ·obtain⟨b,am,x,rfl,hx,al,ah⟩:=(HS.out.ext ae).int_at hlt;obtain⟨ab,aj⟩:=HC x (aK5 hx);have HX:=xQ hx;clear hx;have j:=xQ (tI (aA:=aA) HX.out);by_cases hk0:k=0
   ·have k1:((k:Int)==0)=true:=by simp[hk0]
    have c:Hid (iJ aA k= []):=by show _=_;simp[iJ,hk0]
    clear hk0;by_cases hz:x=0
    ·have z1:(x==0)=true:=by simp[hz]
     have a:Hid (aZ aA xs (k+1)=aZ aA xs k++ [46]):=by show _=_;rw[j.out,c.out,aKr];simp[gJ,hz]
     clear hz;go_wp2_with fail;refine(jJ w1 w1 (Lib.byteCells (aZ aA xs k)) 46 _ s (by simp[Lib.byteCells]at o⊢;omega) (by omega)).mono ?_;rintro e w3 ⟨rfl,h2,h3,_⟩;have d:Hid (Lib.IsBuilderF 103 5 w1 w1 (Lib.byteCells (aZ aA xs (k+1))) w3):=by rw[a.out,gI _ 46 46 rfl];exact .inr h2
     have g:Ext w1 w3:=fX hE h3 (aK1 _);have h:(w1:Nat)<w3:=aK0 y h3.size;clear h2 h3;go_wp2;go_roundw
     case rel=>exact⟨k+1,by omega,by go_num,d.out,g,h⟩
     case measure=>simp[intOf];omega
    have z1:(x==0)=false:=by simp[hz]
    have a:Hid (aZ aA xs (k+1)=aZ aA xs k++Lib.decDigits x.toNat):=by show _=_;rw[j.out,c.out,aKr];simp[gJ,hz]
    clear hz;have ag:(Lib.decDigits x.toNat).length≤21:=iW _ (by omega);go_wp2_with fail;refine Z (aGi x _ ab (by omega) (aa.out.ext (z.trans hE))) fun w3 f=>?_
    have q:=xQ (nF s f);have m:(w1:Nat)<w3:=aK0 y f.sz;go_wp2_with fail;refine(kT w1 w1 (Lib.byteCells (aZ aA xs k)) _ _ q (by simp[Lib.byteCells,ByteArray.size]at o⊢;omega) (by omega)).mono ?_;rintro e w4 ⟨rfl,h2,h3,_⟩;have d:Hid (Lib.IsBuilderF 103 5 w1 w1 (Lib.byteCells (aZ aA xs (k+1))) w4):=by rw[a.out,iU];exact .inr h2
    have g:Ext w1 w4:=fX (Ext.trans hE f) h3 (aK1 _);have h:(w1:Nat)<w4:=aK0 m h3.size;clear h2 h3;go_wp2;go_roundw
    case rel=>exact⟨k+1,by omega,by go_num,d.out,g,h⟩
    case measure=>simp[intOf];omega
   have k1:((k:Int)==0)=false:=by simp;omega
   by_cases hm:(k:Int)%aA=0
   ·have k2:((k:Int)%aA==0)=true:=by simp[hm]
    have c:Hid (iJ aA k= [47]):=by show _=_;simp[iJ,hk0,hm]
    clear hk0 hm;go_wp2_with fail;refine(jJ w1 w1 (Lib.byteCells (aZ aA xs k)) 47 _ s (by omega) (by omega)).mono ?_;rintro e w2 ⟨rfl,h2,h3,_⟩;have r:Hid (Lib.IsBuilderF 103 5 w1 w1 (Lib.byteCells (aZ aA xs k++ [47])) w2):=by rw[gI _ 47 47 rfl];exact .inr h2
    have l:Ext w1 w2:=fX hE h3 (aK1 _);have t:(w1:Nat)<w2:=aK0 y h3.size;clear h2 h3;by_cases hz:x=0
    ·have z1:(x==0)=true:=by simp[hz]
     have a:Hid (aZ aA xs (k+1)=aZ aA xs k++ [47]++ [46]):=by show _=_;rw[j.out,c.out];simp[gJ,hz]
     clear hz;go_wp2_with fail;refine(jJ w1 w1 (Lib.byteCells (aZ aA xs k++ [47])) 46 _ r (by simp[Lib.byteCells]at o⊢;omega) (by omega)).mono ?_;rintro e w3 ⟨rfl,h2,h3,_⟩;have d:Hid (Lib.IsBuilderF 103 5 w1 w1 (Lib.byteCells (aZ aA xs (k+1))) w3):=by rw[a.out,gI _ 46 46 rfl];exact .inr h2
     have g:Ext w1 w3:=fX l h3 (aK1 _);have h:(w1:Nat)<w3:=aK0 t h3.size;clear h2 h3;go_wp2;go_roundw
     case rel=>exact⟨k+1,by omega,by go_num,d.out,g,h⟩
     case measure=>simp[intOf];omega
    have z1:(x==0)=false:=by simp[hz]
    have a:Hid (aZ aA xs (k+1)=aZ aA xs k++ [47]++Lib.decDigits x.toNat):=by show _=_;rw[j.out,c.out];simp[gJ,hz]
    clear hz;have ag:(Lib.decDigits x.toNat).length≤21:=iW _ (by omega);go_wp2_with fail;refine Z (aGi x _ ab (by omega) (aa.out.ext (z.trans l))) fun w3 f=>?_
    have q:=xQ (nF r f);have m:(w1:Nat)<w3:=aK0 t f.sz;go_wp2_with fail;refine(kT w1 w1 (Lib.byteCells (aZ aA xs k++ [47])) _ _ q (by simp[Lib.byteCells,ByteArray.size]at o⊢;omega) (by omega)).mono ?_;rintro e w4 ⟨rfl,h2,h3,_⟩;have d:Hid (Lib.IsBuilderF 103 5 w1 w1 (Lib.byteCells (aZ aA xs (k+1))) w4):=by rw[a.out,iU];exact .inr h2
    have g:Ext w1 w4:=fX (Ext.trans l f) h3 (aK1 _);have h:(w1:Nat)<w4:=aK0 m h3.size;clear h2 h3;go_wp2;go_roundw
    case rel=>exact⟨k+1,by omega,by go_num,d.out,g,h⟩
    case measure=>simp[intOf];omega
   have k2:((k:Int)%aA==0)=false:=by simp[hm]
   have c:Hid (iJ aA k= [44]):=by show _=_;simp[iJ,hk0,hm]
   clear hk0 hm;go_wp2_with fail;refine(jJ w1 w1 (Lib.byteCells (aZ aA xs k)) 44 _ s (by omega) (by omega)).mono ?_;rintro e w2 ⟨rfl,h2,h3,_⟩;have r:Hid (Lib.IsBuilderF 103 5 w1 w1 (Lib.byteCells (aZ aA xs k++ [44])) w2):=by rw[gI _ 44 44 rfl];exact .inr h2
   have l:Ext w1 w2:=fX hE h3 (aK1 _);have t:(w1:Nat)<w2:=aK0 y h3.size;clear h2 h3;by_cases hz:x=0
   ·have z1:(x==0)=true:=by simp[hz]
    have a:Hid (aZ aA xs (k+1)=aZ aA xs k++ [44]++ [46]):=by show _=_;rw[j.out,c.out];simp[gJ,hz]
    clear hz;go_wp2_with fail;refine(jJ w1 w1 (Lib.byteCells (aZ aA xs k++ [44])) 46 _ r (by simp[Lib.byteCells]at o⊢;omega) (by omega)).mono ?_;rintro e w3 ⟨rfl,h2,h3,_⟩;have d:Hid (Lib.IsBuilderF 103 5 w1 w1 (Lib.byteCells (aZ aA xs (k+1))) w3):=by rw[a.out,gI _ 46 46 rfl];exact .inr h2
    have g:Ext w1 w3:=fX l h3 (aK1 _);have h:(w1:Nat)<w3:=aK0 t h3.size;clear h2 h3;go_wp2;go_roundw
    case rel=>exact⟨k+1,by omega,by go_num,d.out,g,h⟩
    case measure=>simp[intOf];omega
   have z1:(x==0)=false:=by simp[hz]
   have a:Hid (aZ aA xs (k+1)=aZ aA xs k++ [44]++Lib.decDigits x.toNat):=by show _=_;rw[j.out,c.out];simp[gJ,hz]
   clear hz;have ag:(Lib.decDigits x.toNat).length≤21:=iW _ (by omega);go_wp2_with fail;refine Z (aGi x _ ab (by omega) (aa.out.ext (z.trans l))) fun w3 f=>?_
   have q:=xQ (nF r f);have m:(w1:Nat)<w3:=aK0 t f.sz;go_wp2_with fail;refine(kT w1 w1 (Lib.byteCells (aZ aA xs k++ [44])) _ _ q (by simp[Lib.byteCells,ByteArray.size]at o⊢;omega) (by omega)).mono ?_;rintro e w4 ⟨rfl,h2,h3,_⟩;have d:Hid (Lib.IsBuilderF 103 5 w1 w1 (Lib.byteCells (aZ aA xs (k+1))) w4):=by rw[a.out,iU];exact .inr h2
   have g:Ext w1 w4:=fX (Ext.trans l f) h3 (aK1 _);have h:(w1:Nat)<w4:=aK0 m h3.size;clear h2 h3;go_wp2;go_roundw
   case rel=>exact⟨k+1,by omega,by go_num,d.out,g,h⟩
   case measure=>simp[intOf];omega
  obtain rfl:k=n:=by omega
  go_wp2_with fail;refine(Tryz.Builder_String_any_f w1 w1 (aZ aA xs k) _ s (by omega)).mono ?_;rintro e w2 ⟨rfl,h2,h3⟩;have l:Ext w w2:=fX ae h3 (by omega);clear h2 h3;go_wp2;go_ret;exact⟨rfl,l⟩
theorem bL {aA aB:Int}{xs:List Int}(h:aN aA aB xs=true):2≤aA∧aA≤4∧2≤aB∧aB≤3∧4≤xs.length∧xs.length≤12∧(xs.length:Int)=aA*aB∧(∀x∈xs,0≤x∧x≤99)∧(xs.filter (fun x=>decide (0<x))).Nodup:=by simp only[aN,aKg]at h;obtain⟨h1,h2,h3,h4,h5,h6,h7⟩:=bZ h.1;obtain⟨q1,_,q3⟩:=(eP _ _).1 h.2;exact⟨h1,h2,h3,h4,h5,h6,h7,q1,q3⟩
theorem pJ (aA aB:Int)(p:OA)(n a:Nat)(xs:List Int)(w:World)(hE:Env w)(hS:Sl w p n a 1 (ivs xs)):
  U 33 #[aH aA aB p n a] w (O (str (kD aA aB xs)) w):=by
 have hl:=hS.ilen;cases h:aN aA aB xs with
 |true=>obtain⟨h1,h2,h3,h4,h5,h6,h7,h8,h9⟩:=bL h;unfold kD;rw[if_pos h,hl];exact rX aA aB p n a xs w hE h1 h2 (by omega) h8 hS (fun w' hx=>by rw[←h];exact eV aA aB p n a xs w' (hS.ext hx))
 |false=>unfold kD;rw[if_neg (by simp[h])];exact qL aA aB p n a w (fun w' hx=>by rw[←h];exact eV aA aB p n a xs w' (hS.ext hx))
theorem aF0 (w:World)(hE:Env w):U 12 #[] w (O (.bool true) w):=by
 have HE:=xQ hE;have T1:Hid (∀w p,Env w→Sl w p 4 4 1 (ivs [0,7,0,0])→U 33 #[aH 2 2 p 4 4] w (O (str [46,44,55,47,46,44,46]) w)):=fun w p hE hS=>by
  have:=pJ 2 2 p 4 4 [0,7,0,0] w hE hS;have e:kD 2 2 [0,7,0,0]= [46,44,55,47,46,44,46]:=by simp[kD,aN,fC,dC,aZ,iJ,gJ,xL]
  rwa[e]at this
 have T2:Hid (∀w,Env w→U 33 #[aH 0 0 none 0 0] w (O (str []) w)):=fun w hE=>by
  have:=pJ 0 0 none 0 0 [] w hE (Sl.nil w 1);have e:kD 0 0 []= []:=by simp[kD,aN,fC]
  rwa[e]at this
 clear hE;go_enter func12,ntmps12;go_wp2_with fail;refine Z (T1 _ _ (HE.out.ext (by exact .alloc (.refl _) _)) (Sl.new w #[iv 0,iv 7,iv 0,iv 0] _ 4 rfl (by unfold maxLen;omega))) fun w1 h1=>?_
 go_wp2_with fail;refine Z (T2 _ (HE.out.ext (by exact .trans (.alloc (.refl _) _) h1))) fun w2 h2=>?_
 go_wp2;go_ret;exact⟨rfl,by exact .trans (.trans (.alloc (.refl _) _) h1) h2⟩
theorem vH (a b:Int)(w:World)(h0:0≤a)(h1:a≤1000)(h2:0≤b)(h3:b≤1000):U 189 #[a,b] w (O (I (oC a b)) w):=by go_enter func189,ntmps189;go_wp2;go_ret;exact⟨fE (by unfold oC;omega),by exact .refl _⟩
theorem yY (aA a b:Int)(w:World)(h0:0≤a)(h1:a≤100)(h2:0≤b)(h3:b≤100)(h4:2≤aA)(h5:aA≤4):U 163 #[aA,a,b] w (O (I (aU aA a b)) w):=by
 have q0: ¬(aA=0):=by omega
 have r1:a.tmod aA=a%aA:=IntWalk.rem_in _ _ h0;have r2:b.tmod aA=b%aA:=IntWalk.rem_in _ _ h2;have d1:IntKind.i64.wrap (a.tdiv aA)=a/aA:=aM7 _ _ (by omega);have d2:IntKind.i64.wrap (b.tdiv aA)=b/aA:=aM7 _ _ (by omega);have e1:=Int.emod_nonneg a q0;have e2:=Int.emod_nonneg b q0;have e3:=Int.emod_lt_of_pos a (show 0<aA by omega);have e4:=Int.emod_lt_of_pos b (show 0<aA by omega);have e5:=Int.ediv_nonneg h0 (show 0≤aA by omega);have e6:=Int.ediv_nonneg h2 (show 0≤aA by omega);have e7:=Int.ediv_le_self aA h0;have e8:=Int.ediv_le_self aA h2;have s1:IntKind.i64.wrap (oC (a%aA) (b%aA)+oC (a/aA) (b/aA))=aU aA a b:=aK3 _ (by unfold oC;omega);go_enter func163,ntmps163;go_wp2;refine rL (gl [gEq (a:Int),gEq (aA:Int),gEq (a%aA:Int),gEq (b:Int),gEq (aA:Int),gEq (b%aA:Int),gEq (oC (a%aA) (b%aA):Int),gEq (a:Int),gEq (aA:Int),gEq (a/aA:Int),gEq (b:Int),gEq (aA:Int),gEq (b/aA:Int),gEq (oC (a/aA) (b/aA):Int),gEq (aU aA a b:Int)]) 15 16 [(0,some 7),(1,some 8),(2,some 9),(3,some 10),(4,some 11),(5,some 12),(6,some 13),(7,some 14),(8,some 15),(9,some 16),(10,some 17),(11,some 18),(12,some 19),(13,some 20),(14,some 21)] ?steps ?fin
 case steps=>
  refine sS0 [] (sS0 [] (sS2 [(0,some 7),(1,some 8)] (sS0 [] (sS0 [] (sS2 [(3,some 10),(4,some 11)] ?_)))));refine sC [(2,some 9),(5,some 12)] rfl (fun wi hx=> ?_) ?_
  ·intro v2 h2 v5 h5 K hK;subst h2 h5;go_wp2_with fail;refine Z (vH (a%aA) (b%aA) _ (by omega) (by omega) (by omega) (by omega)) fun w2 d=>?_
   go_simp;exact hK _ _ ⟨I (oC (a%aA) (b%aA)),rfl,rfl,d⟩
  refine sS0 [] (sS0 [] (sS2 [(7,some 14),(8,some 15)] (sS0 [] (sS0 [] (sS2 [(10,some 17),(11,some 18)] ?_)))));refine sC [(9,some 16),(12,some 19)] rfl (fun wi hx=> ?_) ?_
  ·intro v9 h9 j c K hK;obtain rfl:=h9;obtain rfl:=c;go_wp2_with fail;refine Z (vH (a/aA) (b/aA) _ (by omega) (by omega) (by omega) (by omega)) fun w2 d=>?_
   go_simp;exact hK _ _ ⟨I (oC (a/aA) (b/aA)),rfl,rfl,d⟩
  exact sS2 [(6,some 13),(13,some 20)] StepsL.nil
 case fin=>intro wi hx v0 h0 v1 h1 v2 h2 v3 h3 v4 h4 v5 h5 v6 h6 v7 h7 v8 h8 v9 h9 k f l g j c m h n i;subst h0 h1 h2 h3 h4 h5 h6 h7 h8 h9;obtain rfl:=f;obtain rfl:=g;obtain rfl:=c;obtain rfl:=h;obtain rfl:=i;refine wpAny_ready (rs:= [15]) (by kernel_rfl) (by simp) ?_;refine AllReady.cons rfl (fun K hK=> ?_) AllReady.nil;go_simp;refine hK _ _ ?_;clear hK K;refine wpAny_done (by kernel_rfl) ?_ _;go_wp2;go_ret;exact⟨rfl,by exact .trans (.drew (.refl _)) hx⟩
theorem pH (n lo hi:Int)(w:World):U 31 #[n,lo,hi] w fun e w'=>e= .returned (.bool (decide (lo≤n∧n≤hi)))∧w=w':=by
 by_cases h:lo≤n∧n≤hi
 ·rw[decide_eq_true h];exact lG n lo hi w h.1 h.2
 rw[decide_eq_false h];exact rY n lo hi w (by omega)
def cS (aA aB:Int)(xs:List Int)(a b:Int):Int:=if aN aA aB xs=true∧(0≤a∧a<xs.length)∧0≤b∧b<xs.length then aU aA a b else -1
theorem aAu (aA aB a b:Int)(p:OA)(n c:Nat)(w:World)(HV:xB 29 #[aH aA aB p n c] w false):
  U 132 #[aH aA aB p n c,a,b] w (O (I (-1)) w):=by
 go_enter func132,ntmps132;go_wp2_with fail;refine Z (HV _ (by exact .alloc (.refl _) _)) fun w1 d=>?_
 have X1:Ext w w1:=by exact .trans (.alloc (.refl _) _) d
 clear d;go_wp2;go_ret;exact⟨rfl,by exact X1⟩
theorem aFu (aA aB a b:Int)(p:OA)(n c:Nat)(ba bb:Bool)(R:Int)(w:World)(f:4≤n)(hn:n≤12)(HV:xB 29 #[aH aA aB p n c] w true)
  (HA:Hid (∀w,U 31 #[a,(),((n:Int)-1:Int)] w fun e w'=>e= .returned (.bool ba)∧w=w'))
  (HB:Hid (∀w,U 31 #[b,(),((n:Int)-1:Int)] w fun e w'=>e= .returned (.bool bb)∧w=w'))
  (HP:Hid (ba=true→bb=true→ ∀w,U 163 #[aA,a,b] w (O (I R) w))):
  U 132 #[aH aA aB p n c,a,b] w fun e w'=>e= .returned (I (if ba&&bb then R else -1))∧Ext w w':=by
 go_enter func132,ntmps132;go_wp2_with fail;refine Z (HV _ (by exact .alloc (.refl _) _)) fun w1 d=>?_
 have B1:=xQ ((Blk.new w 25 #[aA,aB,.slice p n c]).ext d);have X1:Ext w w1:=by exact .trans (.alloc (.refl _) _) d
 clear d;obtain⟨c0,c1,c2⟩:=B1.out.tri;cases ba
 ·go_wp2_with ((go_at_call 31;(with_reducible refine(HA _).mono ?_);rintro e w' ⟨rfl,rfl⟩));go_ret;exact⟨rfl,by exact X1⟩
 cases bb
 ·go_wp2_with fail;refine(HA _).mono ?_;rintro e w' ⟨rfl,rfl⟩;go_wp2_with fail;refine(HB _).mono ?_;rintro e w' ⟨rfl,rfl⟩;go_wp2;go_ret;exact⟨rfl,by exact X1⟩
 go_wp2_with fail;refine(HA _).mono ?_;rintro e w' ⟨rfl,rfl⟩;go_wp2_with fail;refine(HB _).mono ?_;rintro e w' ⟨rfl,rfl⟩;go_wp2_with fail;refine Z (HP (by simp) (by simp) _) fun w' hp=>?_
 go_wp2;go_ret;exact⟨rfl,by exact .trans X1 hp⟩
theorem wG (aA aB a b:Int)(p:OA)(n c:Nat)(xs:List Int)(w:World)(hS:Sl w p n c 1 (ivs xs)):
  U 132 #[aH aA aB p n c,a,b] w (O (I (cS aA aB xs a b)) w):=by
 have hl:=hS.ilen;have HV:=fun(w':World) (hx:Ext w w')=>fM aA aB p n c xs w' (hS.ext hx)
 unfold cS;cases hok:aN aA aB xs with
 |false=>rw[hok]at HV;simpa using aAu aA aB a b p n c w HV
 |true=>
  rw[hok]at HV;obtain⟨g1,g2,g3,g4,g5,g6,g7,g8,g9⟩:=bL hok
  have:=aFu aA aB a b p n c (decide (0≤a∧a≤(n:Int)-1)) (decide (0≤b∧b≤(n:Int)-1)) (aU aA a b) w (by omega) (by omega) HV (fun w=>pH _ _ _ w) (fun w=>pH _ _ _ w)
   (fun h1 h2 w=>by simp at h1 h2;exact yY aA a b w h1.1 (by omega) h2.1 (by omega) (by omega) (by omega))
  refine this.mono fun e w' ⟨he,hx⟩=>⟨?_,hx⟩
  rw[he];apply fE;have e1:(decide (0≤a∧a≤(n:Int)-1)&&decide (0≤b∧b≤(n:Int)-1))=decide ((0≤a∧a<xs.length)∧0≤b∧b<xs.length):=by rw[Bool.eq_iff_iff];simp;omega
  rw[e1];by_cases h:(0≤a∧a<xs.length)∧0≤b∧b<xs.length
  ·rw[decide_eq_true h,if_pos rfl,if_pos ⟨rfl,h⟩]
  rw[decide_eq_false h,if_neg (by simp),if_neg (fun hh=>h hh.2)]
abbrev TH3:TypeId:=25
theorem Blk.cells3 {w:World}{g:Nat}{t:TypeId}{a b c:Value}(h:Blk w g t #[a,b,c]):w.cell? ⟨g,0,none⟩=some a∧w.cell? ⟨g,1,none⟩=some b∧w.cell? ⟨g,2,none⟩=some c:=⟨h.cell 0,h.cell 1,h.cell 2⟩
theorem nX {wr w2:World}{B n:Nat}{v:Value}{xs:List Value}{ob:Obj}{t e:TypeId}{sz:Nat}{cs:Array Value}(ho:wr.ownsRow (B+1) e sz v n xs)(hg:(wr.alloc ob).grownBy w2 v.ownBlock)(h:Blk wr B t cs):Blk w2 B t cs:=
 (h.alloc ob).grown hg (fun hh=>by have:=ho.lt B hh.symm;omega)
def iK (aA:Int)(n:Nat)(a:Int):List Int:=eR (fun b=>decide (aU aA a b=1)) n
theorem aFt (aA aB a:Int)(p:OA)(n f:Nat)(w:World)(hn:n≤12)
  (HC:Hid (∀(k:Nat),k<n→ ∀w',Ext w w'→U 132 #[aH aA aB p n f,a,k] w' (O (I (aU aA a k)) w'))):
  U 187 #[aH aA aB p n f,a] w (bI (iK aA n a) w):=by
 go_enter func187,ntmps187;go_wp2;go_loopw [5,6] (fun v i wr=> ∃(k:Nat) (q:OA) (m c:Nat),k≤n∧i=I k∧v= .slice q m c∧m≤k∧wr.ownsRow (w.heap.size+1) TI 1 (.slice q m c) m (ivs (eR (fun b=>decide (aU aA a b=1)) k))∧Ext w wr∧Blk wr w TH3 #[aA,aB,.slice p n f]) (fun _ i _=>n-(intOf i).toNat)
 case atStart=>refine⟨0,_,0,0,aK8 _,rfl,rfl,aK1 _,?_,by exact .alloc (.alloc (.refl _) _) _,(Blk.new w _ _).alloc _⟩;have ho:((w.alloc (.cells #[aA,aB,.slice p n f] TH3)).alloc (.cells #[] TI)).ownsRow (w.heap.size+1) TI 1 (.slice (some ⟨(w.alloc (.cells #[aA,aB,.slice p n f] TH3)).heap.size,0,none⟩) 0 0) 0 []:=aLa _ #[] 0 (by simp) (by simp[maxLen]) rfl;simpa[eR]using ho
 case round=>
  obtain⟨k,q,m,c,hk,rfl,rfl,aa,o,j,hB⟩:=hrel;have HO:=xQ o;have HB:=xQ hB;clear o hB;obtain⟨b0,b1,b2⟩:=HB.out.cells3;by_cases hlt:k<n
  ·go_wp2_with fail;refine Z (HC k hlt _ j) fun w1 h1=>?_
   have h:=xQ (aY HO h1);have r:=xQ (HB.out.ext h1);have l:=xQ (j.trans h1);have z:(w:Nat)<w1:=r.out.lt;clear h1 b0 b1 b2 HO HB j;by_cases hx0:aU aA a k=1
   ·have t0:(aU aA a k==1)=true:=by simp[hx0]
    have d:Hid (eR (fun b=>decide (aU aA a b=1)) (k+1)=eR (fun b=>decide (aU aA a b=1)) k++ [(k:Int)]):=by show _=_;rw[eR,if_pos (by simpa using hx0)]
    clear hx0;go_wp2_with (at_builtin;refine dA fH rfl _ _ rfl (w.heap.size+1) _ _ _ rfl (h.out.alloc _) _ _ (k:Int) _ rfl (by simp) (by omega) (by first|(simp;done)|(simp;omega)) ?_;intro p' t w2 g s;have x:=xQ g;have y:Ext w w2:=Ext.own (l.out.alloc _) (h.out.alloc _) s (by omega);have u:=xQ (nX h s r.out);clear g s);go_roundw
    case rel=>exact⟨k+1,p',m+1,t,by omega,by go_num,rfl,by omega,by rw[d.out];exact x.out,y,u.out⟩
    case measure=>simp[intOf];omega
   have t0:(aU aA a k==1)=false:=by simp[hx0]
   have d:Hid (eR (fun b=>decide (aU aA a b=1)) (k+1)=eR (fun b=>decide (aU aA a b=1)) k):=by show _=_;rw[eR,if_neg (by simpa using hx0),aKr]
   clear hx0;go_wp2;go_roundw
   case rel=>exact⟨k+1,q,m,c,by omega,by go_num,rfl,by omega,by rw[d.out];exact h.out,l.out,r.out⟩
   case measure=>simp[intOf];omega
  have d:Hid (eR (fun b=>decide (aU aA a b=1)) k=iK aA n a):=by show _=_;unfold iK;rw[show k=n by omega]
  go_wp2;go_ret;exact dL (by rw[←d.out];have:=HO.out.1;simpa using this) (by rw[←d.out];exact bF HO (Nat.le_succ _)) j
theorem aAt (aA aB a:Int)(p:OA)(n b:Nat)(xs:List Int)(w:World)(hS:Sl w p n b 1 (ivs xs))(c:aN aA aB xs=true)(h0:0≤a)(h1:a<n):
  U 187 #[aH aA aB p n b,a] w (bI (iK aA n a) w):=by
 have hl:=hS.ilen;obtain⟨g1,g2,g3,g4,g5,g6,g7,g8,g9⟩:=bL c;refine aFt aA aB a p n b w (by omega) (fun k hk w' hx=> ?_);have:=wG aA aB a k p n b xs w' (hS.ext hx);unfold cS at this;rwa[if_pos ⟨c,by omega,by omega⟩]at this
def vL (x:Int):Nat→List Int→Int
 |_,[]=> -1
 |b,y::ys=>if y=x then(b:Int)else vL x (b+1) ys
def oB (xs:List Int)(x:Int):Int:=vL x 0 xs
theorem aH2 {x:Int}: ∀(xs:List Int) (k b:Nat),xs[k]? =some x→x∉xs.take k→vL x b xs=((b+k:Nat):Int):=by
 intro xs;induction xs with
 |nil=>intro k b h;simp at h
 |cons y ys ih=>
  intro k b h hn;unfold vL;cases k with
  |zero=>simp at h;rw[if_pos h];rfl
  |succ k=>simp only[aM5]at h;simp only[List.take_succ_cons,aKh,not_or]at hn;rw[if_neg (fun e=>hn.1 e.symm),ih k (b+1) h hn.2];congr 1;omega
theorem aC1 {x:Int}: ∀(xs:List Int) (b:Nat),x∉xs→vL x b xs= -1:=by
 intro xs;induction xs with
 |nil=>intro b _;rfl
 |cons y ys ih=>intro b hn;simp only[aKh,not_or]at hn;unfold vL;rw[if_neg (fun e=>hn.1 e.symm),ih _ hn.2]
theorem pK {xs:List Int}{x:Int}{k:Nat}(h:xs[k]? =some x) (hn:x∉xs.take k):oB xs x=k:=by unfold oB;rw[aH2 xs k 0 h hn];simp
theorem qM {xs:List Int}{x:Int}(h:x∉xs):oB xs x= -1:=aC1 xs 0 h
def gH (aA aB:Int)(xs:List Int)(id:Int):Int:=if aN aA aB xs=true∧1≤id then oB xs id else -1
theorem tY (aA aB id:Int)(p:OA)(n a:Nat)(b:Bool)(w:World)(hb:b=false∨b=true∧id<1)(HV:xB 29 #[aH aA aB p n a] w b):
  U 129 #[aH aA aB p n a,id] w (O (I (-1)) w):=by
 rcases hb with rfl|⟨rfl,hi⟩
 all_goals
  go_enter func129,ntmps129;go_wp2_with fail;refine Z (HV _ (by exact .alloc (.refl _) _)) fun w1 c=>?_
  go_wp2;go_ret;exact⟨rfl,by exact .trans (.alloc (.refl _) _) c⟩
theorem wE (aA aB id:Int)(p:OA)(n c:Nat)(xs:List Int)(w:World)(hn:n≤12)(hi:1≤id)(HS:Hid (Sl w p n c 1 (ivs xs)))(HV:xB 29 #[aH aA aB p n c] w true):
  U 129 #[aH aA aB p n c,id] w (O (I (oB xs id)) w):=by
 have hl:=xQ HS.out.ilen;go_enter func129,ntmps129;go_wp2_with fail;refine Z (HV _ (by exact .alloc (.refl _) _)) fun w1 d=>?_
 have hB:=(Blk.new w TH3 #[aA,aB,.slice p n c]).ext d;have X1:=xQ (show Ext w w1 by exact .trans (.alloc (.refl _) _) d);have f:=xQ (HS.out.ext X1.out);obtain⟨b0,b1,b2⟩:=hB.cells3;clear d hB HS;go_wp2;go_loop [5] (fun i=> ∃k:Nat,k≤n∧i=I k∧id∉xs.take k) (fun i=>n-(intOf i).toNat)
 case atStart=>exact⟨0,aK8 _,rfl,by simp⟩
 case round=>
  obtain⟨k,hk,rfl,hc⟩:=hrel;have HC:=xQ hc;clear hc;by_cases hlt:k<n
  ·obtain⟨b,j,y,rfl,hx,hb,g⟩:=f.out.int_at hlt;have HX:=xQ hx;clear hx;by_cases hy:y=id
   ·have t1:(y==id)=true:=by simp[hy]
    have a:Hid (oB xs id=k):=pK (by rw[HX.out,hy]) HC.out;clear hy;go_wp2;go_ret;exact⟨fE a.out.symm,X1.out⟩
   have t1:(y==id)=false:=by simp[hy]
   have a:Hid (id∉xs.take (k+1)):=by show _∉_;rw[bE HX.out,aKn,aKm];exact fun h=>h.elim HC (fun e=>hy e.symm)
   clear hy;go_wp2;go_round
   case rel=>exact⟨k+1,by omega,by go_num,a.out⟩
   case measure=>simp[intOf];omega
  have a:Hid (oB xs id= -1):=qM (by have:=HC.out;rwa[aKb (by rw[hl.out];omega)]at this);go_wp2;go_ret;exact⟨fE a.out.symm,X1.out⟩
theorem qA (aA aB id:Int)(p:OA)(n a:Nat)(xs:List Int)(w:World)(hS:Sl w p n a 1 (ivs xs)):
  U 129 #[aH aA aB p n a,id] w (O (I (gH aA aB xs id)) w):=by
 have hl:=hS.ilen;have HV:=fun(w':World) (hx:Ext w w')=>fM aA aB p n a xs w' (hS.ext hx)
 unfold gH;by_cases h:aN aA aB xs=true∧1≤id
 ·rw[if_pos h];rw[h.1]at HV;obtain⟨g1,g2,g3,g4,g5,g6,g7,g8,g9⟩:=bL h.1;exact wE aA aB id p n a xs w (by omega) h.2 hS HV
 rw[if_neg h]
 exact tY aA aB id p n a _ w (by cases hh:aN aA aB xs with
  |false=>exact .inl rfl
  |true=>exact .inr ⟨rfl,by have: ¬1≤id:=fun k=>h ⟨hh,k⟩;omega⟩) HV
end
end Go.Proofs.YtbgkcehffiogcaaGreatDoor
