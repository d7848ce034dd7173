/-
  Texts of this proof, packed (@packed).
-/
import Derived.KernelRfl
import Derived.Lib.ItoaLen
import Derived.Lib.ItoaMem
import Derived.Shelf.Strings.BuilderK
import Derived.Test.YthfmmibomhhmpaaGreatDoorY6
namespace Go.Proofs.YthfmmibomhhmpaaGreatDoor
open Go.RowKit
set_option linter.unusedSimpArgs false
set_option linter.unusedVariables false
set_option maxHeartbeats 8000000
set_option maxRecDepth 100000
section
open Go.Proofs.Tryz
def fZ (f:Nat→Bool):Nat→List Int
 |0=> []
 |k+1=>fZ f k++(if f k then [(k:Int)]else [])
theorem aEu (f:Nat→Bool)(k:Nat)(x:Int):x∈fZ f k↔ ∃j:Nat,j<k∧f j=true∧x=(j:Int):=by
 induction k with
 |zero=>simp[fZ]
 |succ k ih=>
  unfold fZ;rw[aTn,ih];constructor
  ·rintro(⟨j,h1,h2,h3⟩|h)
   ·exact⟨j,by omega,h2,h3⟩
   by_cases hf:f k=true
   ·rw[if_pos hf]at h;simp at h;exact⟨k,by omega,hf,h⟩
   rw[if_neg hf]at h;simp at h
  rintro⟨j,h1,h2,h3⟩;by_cases hj:j<k
  ·exact .inl ⟨j,hj,h2,h3⟩
  obtain rfl:j=k:=by omega
  right;rw[if_pos h2];simpa using h3
def dC (xs:List Int)(k:Nat):Bool:=xs[k]? ==some 0
def nJ (xs:List Int):List Int:=fZ (dC xs) xs.length
theorem vQ (xs:List Int):nJ xs= []↔(0:Int)∉xs:=by
 rw[List.eq_nil_iff_forall_not_mem];constructor
 ·intro h hm;obtain⟨k,hk,e⟩:=aUe hm;exact h (k:Int) ((aEu _ _ _).2 ⟨k,hk,by simp[dC,hk,e],rfl⟩)
 intro h x hx;obtain⟨j,h1,h2,h3⟩:=(aEu _ _ _).1 hx;simp[dC,h1]at h2;exact h (by rw[←h2];exact List.getElem_mem h1)
theorem tP {wr w2:World}{B o n:Nat}{v u:Value}{xs:List Value}{ob:Obj}(ho:wr.ownsRow (B+1) TI 1 v n xs)(hg:(wr.alloc ob).grownBy w2 v.ownBlock)(hb:B<wr.heap.size)(hc:wr.cell? ⟨B,o,none⟩=some u):w2.cell? ⟨B,o,none⟩=some u:=by rw[World.cell?_of_block (w:=wr.alloc ob) (hg.block B (by simp;omega) (fun e=>by have:=ho.lt B e.symm;omega))];rw[((Ext.refl wr).alloc ob).cells.1 B o hb];exact hc
theorem aHc (aA aB:Int)(p:OA)(n a:Nat)(w:World)(HV:xB 25 #[aH aA aB p n a] w false):
  U 163 #[aH aA aB p n a] w (bC [] w):=by
 go_enter func163,ntmps163;go_wp2_with fail;refine Z (HV _ (by exact .alloc (.alloc (.refl _) _) _)) fun w1 h1=>?_
 have ho:((w.alloc (.cells #[aA,aB,.slice p n a] 25)).alloc (.cells #[] TI)).ownsRow (w.heap.size+1) TI 1 (.slice (some ⟨(w.alloc (.cells #[aA,aB,.slice p n a] 25)).heap.size,0,none⟩) 0 0) 0 []:=aU5 _ #[] 0 (by simp) (by simp[maxLen]) rfl;have b:=xQ (aW ho h1);clear ho;go_wp2;go_ret;exact dO (xs:= []) rfl (by simpa using bM b (Nat.le_succ _)) (by exact .trans (.alloc (.alloc (.refl _) _) _) h1)
theorem aL0 (aA aB:Int)(p:OA)(n d:Nat)(xs:List Int)(w:World)(hn:n≤12)(HS:Hid (Sl w p n d 1 (ivs xs)))(HV:xB 25 #[aH aA aB p n d] w true):
  U 163 #[aH aA aB p n d] w (bC (nJ xs) w):=by
 have hl:=xQ HS.out.ilen;go_enter func163,ntmps163;go_wp2_with fail;refine Z (HV _ (by exact .alloc (.alloc (.refl _) _) _)) fun w1 h1=>?_
 have ho:((w.alloc (.cells #[aA,aB,.slice p n d] 25)).alloc (.cells #[] TI)).ownsRow (w.heap.size+1) TI 1 (.slice (some ⟨(w.alloc (.cells #[aA,aB,.slice p n d] 25)).heap.size,0,none⟩) 0 0) 0 []:=aU5 _ #[] 0 (by simp) (by simp[maxLen]) rfl;have s:=xQ (aW ho h1);clear ho;have ab:(w:Nat)<w1:=aT4 (by first|(simp;omega)|simp) h1.sz;have eb:w1.cell? ⟨w,2,none⟩=some (.slice p n d):=by rw[h1.cells.1 _ _ (by first|(simp;done)|(simp;omega))];simp
 have aa:Ext w w1:=by exact .trans (.alloc (.alloc (.refl _) _) _) h1
 go_wp2;go_loopw [3,4] (fun v i wr=> ∃(k:Nat) (q:OA) (m c:Nat),k≤n∧i=I k∧v= .slice q m c∧m≤k∧wr.ownsRow (w.heap.size+1) TI 1 (.slice q m c) m (ivs (fZ (dC xs) k))∧Ext w wr∧wr.cell? ⟨w,2,none⟩=some (.slice p n d)∧w.heap.size<wr.heap.size) (fun _ i _=>n-(intOf i).toNat)
 case atStart=>exact⟨0,_,0,0,aTd _,rfl,rfl,aT5 _,by simpa[fZ]using s.out,aa,eb,ab⟩
 case round=>
  obtain⟨k,q,m,c,hk,rfl,rfl,ad,j,g,ec,l⟩:=hrel;have HO:=xQ j;clear j;by_cases hlt:k<n
  ·obtain⟨b,ae,x,rfl,hx,hb,z⟩:=(HS.out.ext g).int_at hlt;have HX:=xQ hx;clear hx;by_cases hx0:x=0
   ·have t0:(x==0)=true:=by simp[hx0]
    have a:Hid (fZ (dC xs) (k+1)=fZ (dC xs) k++ [(k:Int)]):=by show _=_;rw[fZ,if_pos (by unfold dC;rw[HX.out,hx0];rfl)]
    clear hx0;go_wp2_with (at_builtin;refine cW fY rfl _ _ rfl (w.heap.size+1) _ _ _ rfl (HO.out.alloc _) _ _ (k:Int) _ rfl (by simp) (by omega) (by simp;omega) ?_;intro p' o w2 f h;have t:=xQ f;have y:Ext w w2:=Ext.own (g.alloc _) (HO.out.alloc _) h (by omega);have u:=tP HO h l ec;have r:(w:Nat)<w2:=aT4 l (by have:=h.size;simp at this;omega);clear f h);go_roundw
    case rel=>exact⟨k+1,p',m+1,o,by omega,by go_num,rfl,by omega,by rw[a.out];exact t.out,y,u,r⟩
    case measure=>simp[intOf];omega
   have t0:(x==0)=false:=by simp[hx0]
   have a:Hid (fZ (dC xs) (k+1)=fZ (dC xs) k):=by show _=_;rw[fZ,if_neg (by unfold dC;rw[HX.out];simp[hx0]),aTv]
   clear hx0;go_wp2;go_roundw
   case rel=>exact⟨k+1,q,m,c,by omega,by go_num,rfl,by omega,by rw[a.out];exact HO.out,g,ec,l⟩
   case measure=>simp[intOf];omega
  have a:Hid (fZ (dC xs) k=nJ xs):=by show _=_;unfold nJ;rw[hl.out,show k=n by omega]
  go_wp2;go_ret;exact dO (by rw[←a.out];have:=HO.out.1;simpa using this) (by rw[←a.out];exact bM HO (Nat.le_succ _)) g
theorem aHd (aA aB:Int)(p:OA)(n a:Nat)(xs:List Int)(w:World)(hS:Sl w p n a 1 (ivs xs)):U 163 #[aH aA aB p n a] w (bC (if aN aA aB xs then nJ xs else []) w):=by
 have hl:=hS.ilen;cases h:aN aA aB xs with
 |true=>
  have hb:n≤12:=by unfold aN at h;rw[aTf]at h;have:=cG h.1;omega
  simpa using aL0 aA aB p n a xs w hb hS (fun w' hx=>by have:=gM aA aB p n a xs w' (hS.ext hx);rwa[h]at this)
 |false=>simpa using aHc aA aB p n a w (fun w' hx=>by have:=gM aA aB p n a xs w' (hS.ext hx);rwa[h]at this)
set_option maxRecDepth 100000 in set_option maxHeartbeats 1000000 in
theorem aIq (aA aB:Int)(p:OA)(n a:Nat)(w:World)(HV:xB 42 #[aH aA aB p n a] w false):
  U 168 #[aH aA aB p n a] w (bC [] w):=by
 go_enter func168,ntmps168;go_wp2_with fail;refine Z (HV _ (by exact .alloc (.refl _) _)) fun w1 h1=>?_
 go_wp2;go_ret;exact dO (xs:= []) rfl (aTe _ _ _ _) (by exact .trans (.alloc (.refl _) _) h1)
set_option maxRecDepth 100000 in set_option maxHeartbeats 1000000 in
theorem aM6 (aA aB:Int)(p:OA)(n d:Nat)(xs:List Int)(w:World)(hn:n≤12)(HS:Hid (Sl w p n d 1 (ivs xs)))(HV:xB 42 #[aH aA aB p n d] w true):
  U 168 #[aH aA aB p n d] w (bC (nJ xs) w):=by
 have hl:=xQ HS.out.ilen;go_enter func168,ntmps168;go_wp2_with fail;refine Z (HV _ (by exact .alloc (.refl _) _)) fun w1 h1=>?_
 have aa:(w:Nat)<w1:=aT4 (by first|(simp;omega)|simp) h1.sz;have eb:w1.cell? ⟨w,2,none⟩=some (.slice p n d):=by rw[h1.cells.1 _ _ (by first|(simp;done)|(simp;omega))];simp
 have z:Ext w w1:=by exact .trans (.alloc (.refl _) _) h1
 go_wp2;go_loopw [3,12] (fun v i wr=> ∃(k:Nat) (q:OA) (m c:Nat),k≤n∧i=I k∧v= .slice q m c∧m≤k∧wr.ownsRow (w.heap.size+1) TI 1 (.slice q m c) m (ivs (fZ (dC xs) k))∧Ext w wr∧wr.cell? ⟨w,2,none⟩=some (.slice p n d)∧w.heap.size<wr.heap.size) (fun _ i _=>n-(intOf i).toNat)
 case atStart=>exact⟨0,_,0,0,aTd _,rfl,rfl,aT5 _,aTe _ _ _ _,z,eb,aa⟩
 case round=>
  obtain⟨k,q,m,c,hk,rfl,rfl,ab,j,g,ec,l⟩:=hrel;have HO:=xQ j;clear j;by_cases hlt:k<n
  ·obtain⟨b,ad,x,rfl,hx,hb,y⟩:=(HS.out.ext g).int_at hlt;have HX:=xQ hx;clear hx;by_cases hx0:x=0
   ·have t0:(x==0)=true:=by simp[hx0]
    have a:Hid (fZ (dC xs) (k+1)=fZ (dC xs) k++ [(k:Int)]):=by show _=_;rw[fZ,if_pos (by unfold dC;rw[HX.out,hx0];rfl)]
    clear hx0;go_wp2_with (at_builtin;refine cW fY rfl _ _ rfl (w.heap.size+1) _ _ _ rfl (HO.out.alloc _) _ _ (k:Int) _ rfl (by simp) (by omega) (by simp;omega) ?_;intro p' o w2 f h;have s:=xQ f;have u:Ext w w2:=Ext.own (g.alloc _) (HO.out.alloc _) h (by omega);have t:=tP HO h l ec;have r:(w:Nat)<w2:=aT4 l (by have:=h.size;simp at this;omega);clear f h);go_roundw
    case rel=>exact⟨k+1,p',m+1,o,by omega,by go_num,rfl,by omega,by rw[a.out];exact s.out,u,t,r⟩
    case measure=>simp[intOf];omega
   have t0:(x==0)=false:=by simp[hx0]
   have a:Hid (fZ (dC xs) (k+1)=fZ (dC xs) k):=by show _=_;rw[fZ,if_neg (by unfold dC;rw[HX.out];simp[hx0]),aTv]
   clear hx0;go_wp2;go_roundw
   case rel=>exact⟨k+1,q,m,c,by omega,by go_num,rfl,by omega,by rw[a.out];exact HO.out,g,ec,l⟩
   case measure=>simp[intOf];omega
  have a:Hid (fZ (dC xs) k=nJ xs):=by show _=_;unfold nJ;rw[hl.out,show k=n by omega]
  go_wp2;go_ret;exact dO (by rw[←a.out];have:=HO.out.1;simpa using this) (by rw[←a.out];exact bM HO (Nat.le_succ _)) g
theorem aSa (aA aB:Int)(p:OA)(n a:Nat)(xs:List Int)(w:World)(hS:Sl w p n a 1 (ivs xs)):U 168 #[aH aA aB p n a] w (bC (if aN aA aB xs then nJ xs else []) w):=by
 have hl:=hS.ilen;cases h:aN aA aB xs with
 |true=>
  have hb:n≤12:=by unfold aN at h;rw[aTf]at h;have:=cG h.1;omega
  simpa using aM6 aA aB p n a xs w hb hS (fun w' hx=>by have:=gU aA aB p n a xs w' (hS.ext hx);rwa[h]at this)
 |false=>simpa using aIq aA aB p n a w (fun w' hx=>by have:=gU aA aB p n a xs w' (hS.ext hx);rwa[h]at this)
end
def wM:Go.Shelf.Ren:=⟨fun|166=>56|240=>94|276=>126|n=>n,fun|0=>0|3=>3|4=>4|5=>5|9=>9|20=>20|37=>22|70=>81|72=>83|75=>85|80=>89|164=>147|n=>n,fun|n=>n⟩
theorem aQy:Go.Proofs.Lays.n166 Tryz.prog wM:={
 mixed:=by kernel_rfl,
 f166:=Tryz.func56.trans (congrArg some (by kernel_rfl)),
 f240:=Tryz.func94.trans (congrArg some (by kernel_rfl)),
 f276:=Tryz.func126.trans (congrArg some (by kernel_rfl)),
 t0:=Tryz.underlying0,
 a0:=Tryz.isAgg0,
 z0:=Tryz.sizeOf0,
 v0:=Tryz.zeroValue0,
 t3:=Tryz.underlying3,
 a3:=Tryz.isAgg3,
 z3:=Tryz.sizeOf3,
 v3:=Tryz.zeroValue3,
 t4:=Tryz.underlying4,
 a4:=Tryz.isAgg4,
 z4:=Tryz.sizeOf4,
 v4:=Tryz.zeroValue4,
 t9:=Tryz.underlying9,
 a9:=Tryz.isAgg9,
 z9:=Tryz.sizeOf9,
 v9:=Tryz.zeroValue9,
 t20:=Tryz.underlying20,
 a20:=Tryz.isAgg20,
 z20:=Tryz.sizeOf20,
 v20:=Tryz.zeroValue20,
 t37:=Tryz.underlying22,
 a37:=Tryz.isAgg22,
 z37:=Tryz.sizeOf22,
 v37:=Tryz.zeroValue22,
 t70:=Tryz.underlying81,
 a70:=Tryz.isAgg81,
 z70:=Tryz.sizeOf81,
 v70:=Tryz.zeroValue81,
 t72:=Tryz.underlying83,
 a72:=Tryz.isAgg83,
 z72:=Tryz.sizeOf83,
 v72:=Tryz.zeroValue83,
 t75:=Tryz.underlying85,
 a75:=Tryz.isAgg85,
 z75:=Tryz.sizeOf85,
 v75:=Tryz.zeroValue85,
 t164:=Tryz.underlying147,
 a164:=Tryz.isAgg147,
 z164:=Tryz.sizeOf147,
 v164:=Tryz.zeroValue147}
theorem aPo:Go.Proofs.Builder.Extra Tryz.prog wM:={
 sizeBuilder:=by kernel_rfl
 liesBuilder:=by kernel_rfl
 t5:=Tryz.underlying5
 a5:=Tryz.isAgg5
 z5:=Tryz.sizeOf5
 v5:=Tryz.zeroValue5
 infoByte:=by kernel_rfl
 cellsByte:=by kernel_rfl
 sizeByte:=by kernel_rfl
 neB5:=by decide}
def wL:Go.Shelf.Ren:=⟨fun|167=>55|240=>94|276=>126|n=>n,fun|0=>0|3=>3|4=>4|5=>5|9=>9|20=>20|37=>22|70=>81|72=>83|75=>85|80=>89|164=>147|n=>n,fun|n=>n⟩
theorem aQx:Go.Proofs.Lays.n167 Tryz.prog wL:={
 mixed:=by kernel_rfl,
 f167:=Tryz.func55.trans (congrArg some (by kernel_rfl)),
 f240:=Tryz.func94.trans (congrArg some (by kernel_rfl)),
 f276:=Tryz.func126.trans (congrArg some (by kernel_rfl)),
 t0:=Tryz.underlying0,
 a0:=Tryz.isAgg0,
 z0:=Tryz.sizeOf0,
 v0:=Tryz.zeroValue0,
 t4:=Tryz.underlying4,
 a4:=Tryz.isAgg4,
 z4:=Tryz.sizeOf4,
 v4:=Tryz.zeroValue4,
 t5:=Tryz.underlying5,
 a5:=Tryz.isAgg5,
 z5:=Tryz.sizeOf5,
 v5:=Tryz.zeroValue5,
 t9:=Tryz.underlying9,
 a9:=Tryz.isAgg9,
 z9:=Tryz.sizeOf9,
 v9:=Tryz.zeroValue9,
 t20:=Tryz.underlying20,
 a20:=Tryz.isAgg20,
 z20:=Tryz.sizeOf20,
 v20:=Tryz.zeroValue20,
 t37:=Tryz.underlying22,
 a37:=Tryz.isAgg22,
 z37:=Tryz.sizeOf22,
 v37:=Tryz.zeroValue22,
 t70:=Tryz.underlying81,
 a70:=Tryz.isAgg81,
 z70:=Tryz.sizeOf81,
 v70:=Tryz.zeroValue81,
 t72:=Tryz.underlying83,
 a72:=Tryz.isAgg83,
 z72:=Tryz.sizeOf83,
 v72:=Tryz.zeroValue83,
 t75:=Tryz.underlying85,
 a75:=Tryz.isAgg85,
 z75:=Tryz.sizeOf85,
 v75:=Tryz.zeroValue85,
 t164:=Tryz.underlying147,
 a164:=Tryz.isAgg147,
 z164:=Tryz.sizeOf147,
 v164:=Tryz.zeroValue147}
theorem aPn:Go.Proofs.Builder.Extra Tryz.prog wL:={
 sizeBuilder:=by kernel_rfl
 liesBuilder:=by kernel_rfl
 t5:=Tryz.underlying5
 a5:=Tryz.isAgg5
 z5:=Tryz.sizeOf5
 v5:=Tryz.zeroValue5
 infoByte:=by kernel_rfl
 cellsByte:=by kernel_rfl
 sizeByte:=by kernel_rfl
 neB5:=by decide}
theorem nW (B b:Nat)(bs:List Value)(s:ByteArray)(w:World)(h:Lib.IsBuilderF 83 5 B b bs w)(hl:bs.length+s.size≤140737488355328)(hB:B≤w.heap.size):
  Calls Tryz.prog 56 #[.pointer (some ⟨b,0,none⟩),.string s] w fun e w'=>e= .returned (.tuple #[.int .i64 s.size,.nilIface])∧Lib.BuilderAtF 83 5 B b (.pointer (some ⟨b,0,none⟩)) (bs++Lib.strCells s) w'∧Below B w w'∧Lib.OthersKept 5 (some b) w w':=
 Any.Builder_WriteString_k aQy aPo B b bs s w h hl hB
theorem lU (B b:Nat)(bs:List Value)(c:Int)(w:World)(h:Lib.IsBuilderF 83 5 B b bs w)(hl:bs.length+1≤140737488355328)(hB:B≤w.heap.size):
  Calls Tryz.prog 55 #[.pointer (some ⟨b,0,none⟩),.int .u8 c] w fun e w'=>e= .returned .nilIface∧Lib.BuilderAtF 83 5 B b (.pointer (some ⟨b,0,none⟩)) (bs++ [.int .u8 c]) w'∧Below B w w'∧Lib.OthersKept 5 (some b) w w':=
 Any.Builder_WriteByte_k aQx aPn B b bs c w h hl hB
section
open Go.Proofs.Tryz
theorem aSv:prog.globalNamed "internal/strconv.uint64pow10" =some 0:=by kernel_rfl
structure Env (w:World):Prop where
 tab:Lib.TabIs prog w "internal/strconv.uint64pow10" .u64 Lib.pow10Tab
 mx: ∃m,w.cell? ⟨1,0,none⟩=some (.int .i64 m)
theorem Env.ext {w w':World}(h:Env w)(hb:Ext w w'):Env w' where
 tab:=Joins.var_stays aSv h.tab hb (aT5 _)
 mx:=by obtain⟨m,hm⟩:=h.mx;exact⟨m,(hb.cells.1 _ _ (World.block_lt_of_cell? w _ hm)).trans hm⟩
theorem Env.start {w:World}(ht:Lib.TabIs prog w "internal/strconv.uint64pow10" .u64 Lib.pow10Tab)(hS:w.ShapedOpen prog):Env w where
 tab:=ht
 mx:=Tryz.laysM145.s1_3 w hS
abbrev str (l:List UInt8):Value:= .string ⟨l.toArray⟩
theorem oW {a b:List UInt8}(h:a=b):Ending.returned (str a)= .returned (str b):=by rw[h]
theorem aFf (n:Nat):Lib.itoa (n:Int)=Lib.decDigits n:=by unfold Lib.itoa;rw[if_neg (by omega)];simp
theorem aPq (w:World)(os:Array Obj):Ext w (Sort.grow w os):=
 ⟨rfl,rfl,rfl,by simp,fun k hk=>by simp only[Sort.grow];rw[Array.getElem?_append_left hk]⟩
theorem aOk (n:Nat)(w:World)(hn:n≤9223372036854775807)(hE:Env w):
  U 32 #[n] w (O (str (Lib.decDigits n)) w):=by
 refine(Tryz.strconv_Itoa (n:Int) (by omega) (by omega) w hE.tab).mono ?_;rintro e w' ⟨rfl,k,os,rfl⟩;exact⟨by rw[aFf],(Ext.drewN (Ext.refl w) k).trans (aPq _ _)⟩
theorem pQ (n:Int)(w:World)(h0:0≤n)(hn:n≤9223372036854775807)(hE:Env w):
  U 32 #[n] w (O (str (Lib.decDigits n.toNat)) w):=by
 obtain⟨m,rfl⟩:=aTw h0;exact aOk m w (by omega) hE
theorem aRp (x:Int)(W:World)(b:Nat)(h:W.cell? ⟨b,0,none⟩=some (.int .u8 x)):Sem.run prog (convert 22 9 (.slice (some ⟨b,0,none⟩) 1 1)) W= .ok (str [UInt8.ofNat x.toNat]) W:=
 run_convert_bytes_arg W 22 5 underlying22 underlying5 b 0 1 1 [x] rfl (fun i hi=>by
  obtain rfl:i=0:=by omega
  simpa using h) 9 underlying9
theorem fU (n:Nat)(h:n<10):Lib.decDigits n= [UInt8.ofNat (48+n)]:=by rw[Lib.decDigits];simp[h]
theorem mF (n:Nat)(h: ¬n<10):Lib.decDigits n=Lib.decDigits (n/10)++ [UInt8.ofNat (48+n%10)]:=by rw[Lib.decDigits];simp[h]
theorem cQ (n:Nat)(h:n≤9223372036854775807):(Lib.decDigits n).length≤21:=by rw[←aFf];exact Lib.itoa_length_le _ (by omega) (by omega)
theorem nV (n:Nat):1≤(Lib.decDigits n).length:=by
 by_cases h:n<10
 ·rw[fU n h];simp
 rw[mF n h];simp
theorem yZ (n:Int)(w:World)(h0:0≤n)(a:n<10):
  U 40 #[n] w (O (str (Lib.decDigits n.toNat)) w):=by
 have b:=aRp (48+n);have HD:Hid (Lib.decDigits n.toNat= [UInt8.ofNat (48+n).toNat]):=by rw[fU _ (by omega),show(48+n).toNat=48+n.toNat by omega];rfl
 go_enter func40,ntmps40;go_wp2_with fail;go_ret;exact⟨oW HD.out.symm,(Ext.refl _).alloc _⟩
theorem aIg (n:Int)(w:World)(h0:0≤n)(a:10≤n)(h:n≤9223372036854775807)(ih: ∀w,U 40 #[(n/10:Int)] w (O (str (Lib.decDigits (n/10).toNat)) w)):
  U 40 #[n] w (O (str (Lib.decDigits n.toNat)) w):=by
 have c:=aRp (48+n%10);have IH:Hid (∀w,U 40 #[(n/10:Int)] w (O (str (Lib.decDigits (n/10).toNat)) w)):=ih;have hq:=aVe n 10 ⟨h0,h,by omega⟩;have hr:=IntWalk.rem_in n 10 h0;have d:=aVw (n%10);have hs:=aVw (48+n%10);have hc:IntKind.u8.wrap (48+n%10)=48+n%10:=IntWalk.u8_in _ (by omega);have hl:(Lib.decDigits (n/10).toNat).length≤21:=cQ _ (by omega);have HD:Hid (Lib.decDigits n.toNat=Lib.decDigits (n/10).toNat++ [UInt8.ofNat (48+n%10).toNat]):=by show _=_;rw[mF _ (by omega),show(48+n%10).toNat=48+n.toNat%10 by omega,show(n/10).toNat=n.toNat/10 by omega]
 clear ih;go_enter func40,ntmps40;go_wp2_with fail;go_region_with (go_at_call 40;go_must (go_fit (IH _));rintro e w' ⟨rfl,h1⟩;have b:=h1.cells.1)
 all_goals go_wp2
 all_goals go_ret
 all_goals exact⟨oW HD.out.symm,xE⟩
theorem aD4 (k:Nat): ∀(n:Int) (w:World),0≤n→n≤k→n≤9223372036854775807→
  U 40 #[n] w (O (str (Lib.decDigits n.toNat)) w):=by
 induction k with
 |zero=>intro n w h0 hk h;exact yZ n w h0 (by omega)
 |succ k ih=>
  intro n w h0 hk h;by_cases h10:n<10
  ·exact yZ n w h0 h10
  exact aIg n w h0 (by omega) h (fun w=>ih (n/10) w (by omega) (by omega) (by omega))
theorem jS (n:Int)(w:World)(h0:0≤n)(h:n≤9223372036854775807):
  U 40 #[n] w (O (str (Lib.decDigits n.toNat)) w):=aD4 n.toNat n w h0 (by omega) h
def bV (k:Int):List UInt8:=
 if k=0 then [105,110]else if k=1 then [112,97,121]else if k=2 then [111,117,116]else if k=3 then [119,97,105,116]else if k=4 then [115,108,105,100,101]else []
def iZ (k:Int):Bool:=k==1 || k==4
def gG (k a b:Int):Bool:=decide (0≤k∧k≤4∧0≤a∧a≤9999∧0≤b∧b≤9999)&&(iZ k || b==0)
def bI (k a b:Int):List UInt8:=
 if gG k a b then bV k++ [32]++Lib.decDigits a.toNat++(if iZ k then [32]++Lib.decDigits b.toNat else [])else []
abbrev eQ (k a b:Int):Value:= .agg #[k,a,b]
theorem pE (k a b:Int)(w:World)(h:a<0∨0≤a∧9999<a∨0≤a∧a≤9999∧b<0∨0≤a∧a≤9999∧0≤b∧9999<b∨0≤a∧a≤9999∧0≤b∧b≤9999∧(k==1)=false∧(k==4)=false∧(b !=0)=true
  ∨0≤a∧a≤9999∧0≤b∧b≤9999∧(k==1)=false∧(k==4)=false∧(b !=0)=false∧(k==0)=false∧(k==2)=false∧(k==3)=false):
  U 60 #[eQ k a b] w (O (str []) w):=by
 rcases h with h|⟨h0,h⟩|⟨h0,h1,h⟩|⟨h0,h1,h2,h⟩|⟨h0,h1,h2,h3,h4,h5,h6⟩|⟨h0,h1,h2,h3,h4,h5,h6,h7,h8,h9⟩
 all_goals
  go_enter func60,ntmps60;go_wp2;go_ret;exact⟨rfl,xE⟩
theorem aCo (k a b:Int)(w:World)(h:(k==0)=false∧(k==1)=false∧(k==2)=false∧(k==3)=false∧(k==4)=false):
  U 41 #[eQ k a b] w (O (str []) w):=by
 obtain⟨h0,h1,h2,h3,h4⟩:=h;go_enter func41,ntmps41;go_wp2;go_ret;exact⟨rfl,xE⟩
theorem aAb (k a b:Int)(w:World)(hk:k=0∨k=1∨k=2∨k=3∨k=4)(h:a<0∨0≤a∧9999<a∨0≤a∧a≤9999∧b<0∨0≤a∧a≤9999∧0≤b∧9999<b):
  U 41 #[eQ k a b] w (O (str []) w):=by
 rcases hk with rfl|rfl|rfl|rfl|rfl
 all_goals
  rcases h with h|⟨h0,h⟩|⟨h0,h1,h⟩|⟨h0,h1,h2,h⟩
  all_goals
   go_enter func41,ntmps41;go_wp2;go_ret;exact⟨rfl,xE⟩
theorem aAa (k a b:Int)(w:World)(hk:k=0∨k=2∨k=3)(h0:0≤a)(h1:a≤9999)(h2:0≤b)(h3:b≤9999)(h4:(b !=0)=true):
  U 41 #[eQ k a b] w (O (str []) w):=by
 rcases hk with rfl|rfl|rfl
 all_goals
  go_enter func41,ntmps41;go_wp2;go_ret;exact⟨rfl,xE⟩
theorem aDk (k a:Int)(w:World)(hE:Env w)(hk:k=0∨k=2∨k=3)(h0:0≤a)(h1:a≤9999):
  U 60 #[eQ k a 0] w (O (str (bV k++ [32]++Lib.decDigits a.toNat)) w):=by
 have hl:(Lib.decDigits a.toNat).length≤21:=cQ _ (by omega);have HE:=xQ hE;clear hE;rcases hk with rfl|rfl|rfl
 all_goals
  go_enter func60,ntmps60;go_wp2_with fail;go_fit (pQ a _ h0 (by omega) (HE.out.ext xE));rintro e w1 ⟨rfl,h1⟩;go_wp2;go_ret;exact⟨oW (by simp[bV]),xE⟩
theorem aDj (k a b:Int)(w:World)(hE:Env w)(hk:k=1∨k=4)(h0:0≤a)(h1:a≤9999)(h2:0≤b)(h3:b≤9999):
  U 60 #[eQ k a b] w (O (str (bV k++ [32]++Lib.decDigits a.toNat++([32]++Lib.decDigits b.toNat))) w):=by
 have hl:(Lib.decDigits a.toNat).length≤21:=cQ _ (by omega);have d:(Lib.decDigits b.toNat).length≤21:=cQ _ (by omega);have HE:=xQ hE;clear hE;rcases hk with rfl|rfl
 all_goals
  go_enter func60,ntmps60;go_wp2_with fail;go_fit (pQ a _ h0 (by omega) (HE.out.ext xE));rintro e w1 ⟨rfl,h1⟩;have c:=h1.cells.1;go_wp2_with fail;go_fit (pQ b _ h2 (by omega) (HE.out.ext xE));rintro e w2 ⟨rfl,h2⟩;go_wp2;go_ret;exact⟨oW (by simp[bV]),xE⟩
theorem iO (k:Int)(w:World)(hk:k=0∨k=1∨k=2∨k=3∨k=4):U 82 #[k] w fun e w'=>e= .returned (str (bV k))∧w=w':=by
 rcases hk with rfl|rfl|rfl|rfl|rfl
 all_goals
  go_enter func82,ntmps82;go_wp2;go_ret;exact⟨oW (by simp[bV]),rfl⟩
theorem aCn (k a:Int)(nm:List UInt8)(w:World)(t1:(k==1)=false)(t4:(k==4)=false)(h0:0≤a)(h1:a≤9999)(hN: ∀w,U 82 #[k] w fun e w'=>e= .returned (str nm)∧w=w')(he:nm.isEmpty=false)(hn:nm.length≤5):
  U 41 #[eQ k a 0] w (O (str (nm++ [32]++Lib.decDigits a.toNat)) w):=by
 have hl:(Lib.decDigits a.toNat).length≤21:=cQ _ (by omega);have c:=aVx (nm.length+1);have d:=aVx (nm.length+1+(Lib.decDigits a.toNat).length)
 all_goals
  have HN:=xQ hN;clear hN;go_enter func41,ntmps41;go_wp2_with (first|(go_at_call 82;refine(HN _).mono ?_;rintro e w1 ⟨rfl,rfl⟩)|go_in)
  go_region_held3 (fun w'=>w'.cell? ⟨w,0,none⟩=some (I k)∧w'.cell? ⟨w,1,none⟩=some (I a)) (go_keep)
   (first|(go_at_call 82;refine(HN _).mono ?_;rintro e w1 ⟨rfl,rfl⟩)|(go_at_call 40;refine Z (jS a _ h0 (by omega)) fun w1 h1=>?_;have b:=h1.cells.1))
  all_goals go_wp2
  all_goals go_ret
  all_goals exact⟨oW (by simp),xE⟩
theorem aCm (k a b:Int)(nm:List UInt8)(w:World)(hk:(k==1)=true∨(k==1)=false∧(k==4)=true)(h0:0≤a)(h1:a≤9999)(h2:0≤b)(h3:b≤9999)(hN: ∀w,U 82 #[k] w fun e w'=>e= .returned (str nm)∧w=w')(he:nm.isEmpty=false)(hn:nm.length≤5):
  U 41 #[eQ k a b] w (O (str (nm++ [32]++Lib.decDigits a.toNat++([32]++Lib.decDigits b.toNat))) w):=by
 have hl:(Lib.decDigits a.toNat).length≤21:=cQ _ (by omega);have d:(Lib.decDigits b.toNat).length≤21:=cQ _ (by omega);have f:=aVx (nm.length+1);have g:=aVx (nm.length+1+(Lib.decDigits a.toNat).length);rcases hk with t1|⟨t1,t4⟩
 all_goals
  have HN:=xQ hN;clear hN;go_enter func41,ntmps41;go_wp2_with (first|(go_at_call 82;refine(HN _).mono ?_;rintro e w1 ⟨rfl,rfl⟩)|go_in)
  go_region_held3 (fun w'=>w'.cell? ⟨w,0,none⟩=some (I k)∧w'.cell? ⟨w,1,none⟩=some (I a)∧w'.cell? ⟨w,2,none⟩=some (I b)) (go_keep)
   (first|(go_at_call 82;refine(HN _).mono ?_;rintro e w1 ⟨rfl,rfl⟩)|(go_at_call 40;refine Z (jS a _ h0 (by omega)) fun w1 h1=>?_;have c:=h1.cells.1))
  all_goals go_wp2_with (first|(go_at_call 40;refine(jS b _ h2 (by omega)).mono ?_;rintro e w2 ⟨rfl,h2⟩)|go_in)
  all_goals go_ret
  all_goals exact⟨oW (by simp),xE⟩
theorem uK (k:Int)(hk:k=0∨k=1∨k=2∨k=3∨k=4):(bV k).isEmpty=false∧(bV k).length≤5:=by rcases hk with rfl|rfl|rfl|rfl|rfl<;>decide
theorem aEo (k a b:Int)(w:World):U 41 #[eQ k a b] w (O (str (bI k a b)) w):=by
 by_cases hk:k=0∨k=1∨k=2∨k=3∨k=4
 ·by_cases hr:0≤a∧a≤9999∧0≤b∧b≤9999
  ·obtain⟨h0,h1,h2,h3⟩:=hr;obtain⟨he,hn⟩:=uK k hk;by_cases ht:k=1∨k=4
   ·have e:bI k a b=bV k++ [32]++Lib.decDigits a.toNat++([32]++Lib.decDigits b.toNat):=by
     rcases ht with rfl|rfl<;>simp[bI,gG,iZ,h0,h1,h2,h3]
    rw[e];exact aCm k a b _ w (by simp;omega) h0 h1 h2 h3 (fun w=>iO k w hk) he hn
   have c:k=0∨k=2∨k=3:=by omega
   by_cases hb:b=0
   ·subst hb;have e:bI k a 0=bV k++ [32]++Lib.decDigits a.toNat:=by
     rcases c with rfl|rfl|rfl<;>simp[bI,gG,iZ,h0,h1]
    rw[e];exact aCn k a _ w (by simp;omega) (by simp;omega) h0 h1 (fun w=>iO k w hk) he hn
   have e:bI k a b= []:=by rcases c with rfl|rfl|rfl<;>simp[bI,gG,iZ,hb]
   rw[e];exact aAa k a b w c h0 h1 h2 h3 (by simp[hb])
  have e:bI k a b= []:=by unfold bI;rw[if_neg];simp[gG];omega
  rw[e];exact aAb k a b w hk (by omega)
 have e:bI k a b= []:=by unfold bI;rw[if_neg];simp[gG];omega
 rw[e];exact aCo k a b w (by simp;omega)
theorem tZ (k a b:Int)(w:World)(hE:Env w):U 60 #[eQ k a b] w (O (str (bI k a b)) w):=by
 by_cases hr:0≤a∧a≤9999∧0≤b∧b≤9999
 ·obtain⟨h0,h1,h2,h3⟩:=hr;by_cases ht:k=1∨k=4
  ·have e:bI k a b=bV k++ [32]++Lib.decDigits a.toNat++([32]++Lib.decDigits b.toNat):=by
    rcases ht with rfl|rfl<;>simp[bI,gG,iZ,h0,h1,h2,h3]
   rw[e];exact aDj k a b w hE ht h0 h1 h2 h3
  by_cases hb:b=0
  ·subst hb;by_cases hk:k=0∨k=2∨k=3
   ·have e:bI k a 0=bV k++ [32]++Lib.decDigits a.toNat:=by
     rcases hk with rfl|rfl|rfl<;>simp[bI,gG,iZ,h0,h1]
    rw[e];exact aDk k a w hE hk h0 h1
   have e:bI k a 0= []:=by unfold bI;rw[if_neg];simp[gG];omega
   rw[e];exact pE k a 0 w (.inr (.inr (.inr (.inr (.inr ⟨h0,h1,by omega,by omega,by simp;omega,by simp;omega,by simp,by simp;omega,by simp;omega,by simp;omega⟩)))))
  have e:bI k a b= []:=by unfold bI;rw[if_neg];simp[gG,iZ];omega
  rw[e];exact pE k a b w (.inr (.inr (.inr (.inr (.inl ⟨h0,h1,h2,h3,by simp;omega,by simp;omega,by simp[hb]⟩)))))
 have e:bI k a b= []:=by unfold bI;rw[if_neg];simp[gG];omega
 rw[e];exact pE k a b w (by omega)
end
theorem mG (s:ByteArray)(k:Nat)(h:k<s.size):s.data.toList.take (k+1)=s.data.toList.take k++ [s[k]]:=by rw[List.take_succ_eq_append_getElem (by simpa using h)];rfl
theorem aDz (k a b:Int):(bI k a b).length≤60:=by
 unfold bI;split
 ·rename_i h;simp[gG]at h;obtain⟨⟨h1,h2,h3,h4,h5,h6⟩,_⟩:=h;have e1:(bV k).length≤5:=(uK k (by omega)).2;have e2:=cQ a.toNat (by omega);have e3:=cQ b.toNat (by omega);split<;>simp<;>omega
 simp
section
open Go.Proofs.Tryz
def eO (c:UInt8):Bool:=decide (48≤(c.toNat:Int)∧(c.toNat:Int)≤57)
def lY (l:List UInt8):Int:=l.foldl (fun n c=>10*n+((c.toNat:Int)-48)) 0
def dY (m:Nat)(l:List UInt8):Option Int:=
 if 1≤l.length∧l.length≤m∧(l.length≤1∨l.head? ≠some 48)∧l.all eO=true then some (lY l)else none
theorem vJ (l:List UInt8)(c:UInt8):lY (l++ [c])=10*lY l+((c.toNat:Int)-48):=by unfold lY;rw[List.foldl_append];rfl
theorem yU (l:List UInt8)(h:l.all eO=true)(hl:l.length≤5):0≤lY l∧lY l≤99999:=by
 match l,hl with
 | [],_=>simp[lY]
 | [a],_=>simp[lY,eO]at h⊢;omega
 | [a,b],_=>simp[lY,eO]at h⊢;omega
 | [a,b,c],_=>simp[lY,eO]at h⊢;omega
 | [a,b,c,d],_=>simp[lY,eO]at h⊢;omega
 | [a,b,c,d,e],_=>simp[lY,eO]at h⊢;omega
 |_::_::_::_::_::_::_,hl=>simp at hl
theorem sJ (s:ByteArray)(k:Nat)(h:k<s.size)(ha:(s.data.toList.take k).all eO=true)(hc:eO s[k]=true):(s.data.toList.take (k+1)).all eO=true:=by rw[mG s k h];simp[ha,hc]
theorem rI (s:ByteArray)(k:Nat)(h:k<s.size)(hc:eO s[k]=false):s.data.toList.all eO=false:=by rw[List.all_eq_false];exact⟨s[k],by rw[Array.mem_toList_iff];exact Array.getElem_mem (xs:=s.data) (i:=k) h,by simp[hc]⟩
theorem aMg (s:ByteArray)(h:0<s.size):s.data.toList.head? =some s[0]:=by
 obtain⟨⟨l⟩⟩:=s;cases l with
 |nil=>simp[ByteArray.size]at h
 |cons a l=>rfl
theorem kI {m:Nat}{l:List UInt8}(h:l.length<1∨m<l.length):dY m l=none:=by unfold dY;rw[if_neg];omega
theorem pO {m:Nat}{l:List UInt8}(h:1<l.length)(h0:l.head? =some 48):dY m l=none:=by
 unfold dY;rw[if_neg];rintro⟨_,_,h1|h1,_⟩
 ·omega
 exact h1 h0
theorem qG {m:Nat}{l:List UInt8}(h:l.all eO=false):dY m l=none:=by unfold dY;rw[if_neg];simp[h]
theorem sM {m:Nat}{l:List UInt8}(h1:1≤l.length)(h2:l.length≤m)(h3:l.length≤1∨l.head? ≠some 48)(h4:l.all eO=true):dY m l=some (lY l):=by unfold dY;rw[if_pos ⟨h1,h2,h3,h4⟩]
theorem aFg {c:UInt8}(h0:48≤(c.toNat:Int))(h1:(c.toNat:Int)≤57):eO c=true:=by simp[eO];omega
theorem mJ {c:UInt8}(h:(c.toNat:Int)<48∨57<(c.toNat:Int)):eO c=false:=by simp[eO];omega
def aJ7 (l:List UInt8):Int:=if l.all eO then lY l else -1
theorem zS {l:List UInt8}(h:l.all eO=true):aJ7 l=lY l:=if_pos h
theorem vW {l:List UInt8}(h:l.all eO=false):aJ7 l= -1:=if_neg (by simp[h])
theorem pD (s:ByteArray)(w:World)(h:s.size<1∨4<s.size∧s.size≤9223372036854775807∨1<s.size∧s.size≤4∧ ∀h:0<s.size,((s[0].toNat:Int)==48)=true):
  U 87 #[.string s] w fun e w'=>e= .returned (I (-1))∧w=w':=by
 rcases h with h|⟨h,h'⟩|⟨h,h',h0⟩
 ·go_enter func87,ntmps87;go_wp2;go_ret;exact⟨rfl,rfl⟩
 ·go_enter func87,ntmps87;go_wp2;go_ret;exact⟨rfl,rfl⟩
 have hp:0<s.size:=by omega
 have a:=h0 hp;clear h0;go_enter func87,ntmps87;go_wp2;go_ret;exact⟨rfl,rfl⟩
theorem aFc (s:ByteArray)(w:World)(h1:1≤s.size)(h4:s.size≤4)(hz:s.size≤1∨1<s.size∧ ∀h:0<s.size,((s[0].toNat:Int)==48)=false):
  U 87 #[.string s] w fun e w'=>e= .returned (I (aJ7 s.data.toList))∧w=w':=by
 have hp:0<s.size:=by omega
 rcases hz with hz|⟨hz,h0⟩
 all_goals
  try (have b:=h0 hp)
  try clear h0
  go_enter func87,ntmps87;go_wp2;go_loop [3,4] (fun n i=> ∃k:Nat,k≤s.size∧i=I k∧n=I (lY (s.data.toList.take k))∧(s.data.toList.take k).all eO=true) (fun _ i=>s.size-(intOf i).toNat)
  case atStart=>exact⟨0,aTd _,rfl,rfl,by simp⟩
  case round=>
   obtain⟨k,hk,rfl,rfl,a⟩:=hrel;have hb:=yU _ a (by simp;omega);have HA:=xQ a;clear a;by_cases hlt:k<s.size
   ·have HS:Hid (lY (s.data.toList.take (k+1))=10*lY (s.data.toList.take k)+((s[k].toNat:Int)-48)):=by rw[mG s k hlt];exact vJ _ _
    rcases(show(s[k].toNat:Int)<48∨48≤(s[k].toNat:Int)∧57<(s[k].toNat:Int)∨48≤(s[k].toNat:Int)∧(s[k].toNat:Int)≤57 by omega)with hc|⟨hc0,hc⟩|⟨hc0,hc⟩
    ·go_wp2;go_ret;exact⟨eS (vW (rI s k hlt (mJ (.inl hc)))).symm,rfl⟩
    ·go_wp2;go_ret;exact⟨eS (vW (rI s k hlt (mJ (.inr hc)))).symm,rfl⟩
    go_wp2;go_round
    case rel=>exact⟨k+1,by omega,by go_num,by rw[HS.out],sJ s k hlt HA (aFg hc0 hc)⟩
    case measure=>simp[intOf];omega
   have e:s.data.toList.take k=s.data.toList:=aTa (by simp;omega);have HE:=xQ e;clear e;go_wp2;go_ret;exact⟨eS (by rw[zS (by rw[←HE.out];exact HA.out),HE.out]),rfl⟩
theorem xS (s:ByteArray)(h:0<s.size):s.data.toList.head? =some 48↔((s[0].toNat:Int)==48)=true:=by
 rw[aMg s h];simp only[aUq,beq_iff_eq];constructor
 ·intro e;rw[e];rfl
 intro e;exact UInt8.toNat_inj.1 (by show _=48;omega)
theorem dQ (s:ByteArray):s.data.toList.length=s.size:=by simp
theorem yY (s:ByteArray)(w:World)(hs:s.size≤maxLen):
  U 87 #[.string s] w fun e w'=>e= .returned (I ((dY 4 s.data.toList).getD (-1)))∧w=w':=by
 unfold maxLen at hs;by_cases h1:s.size<1
 ·rw[kI (by rw[dQ];omega)];exact pD s w (.inl h1)
 by_cases h4:4<s.size
 ·rw[kI (by rw[dQ];omega)];exact pD s w (.inr (.inl ⟨h4,hs⟩))
 by_cases h0:1<s.size∧s.data.toList.head? =some 48
 ·rw[pO (by rw[dQ];omega) h0.2];exact pD s w (.inr (.inr ⟨h0.1,by omega,fun h=>(xS s h).1 h0.2⟩))
 refine(aFc s w (by omega) (by omega) ?_).mono ?_
 ·by_cases hq:s.size≤1
  ·exact .inl hq
  refine .inr ⟨by omega,fun h=> ?_⟩;rw[←Bool.not_eq_true,←xS s h];intro e;exact h0 ⟨by omega,e⟩
 rintro e w' ⟨rfl,rfl⟩;refine⟨eS ?_,rfl⟩;cases ha:s.data.toList.all eO with
 |true=>rw[zS ha,sM (by rw[dQ];omega) (by rw[dQ];omega) (by rw[dQ];by_cases hq:s.size≤1;exact .inl hq;exact .inr (fun e=>h0 ⟨by omega,e⟩)) ha];rfl
 |false=>rw[vW ha,qG ha];rfl
def aK2 (l:List UInt8):Bool:=l.all eO
def aDy (l:List UInt8):Int:=if l.all eO then lY l else 0
theorem wV {l:List UInt8}(h:l.all eO=true):aDy l=lY l:=if_pos h
theorem tA {l:List UInt8}(h:l.all eO=false):aDy l=0:=if_neg (by simp[h])
theorem aHv {a b:Int}{c d:Bool}(h:a=b)(k:c=d):Ending.returned (.tuple #[a,.bool c])= .returned (.tuple #[b,.bool d]):=by rw[h,k]
theorem kS (s:ByteArray)(m:Int)(w:World)(hm:1≤m∧m≤5)(h:s.size<1∨1≤s.size∧m<(s.size:Int)∧s.size≤9223372036854775807∨1<s.size∧(s.size:Int)≤m∧ ∀h:0<s.size,((s[0].toNat:Int)==48)=true):
  U 59 #[.string s,m] w fun e w'=>e= .returned (.tuple #[(),.bool false])∧w=w':=by
 rcases h with h|⟨h,h',h2⟩|⟨h,h',h0⟩
 ·go_enter func59,ntmps59;go_wp2;go_ret2;exact⟨rfl,rfl⟩
 ·go_enter func59,ntmps59;go_wp2;go_ret2;exact⟨rfl,rfl⟩
 have hp:0<s.size:=by omega
 have a:=h0 hp;clear h0;go_enter func59,ntmps59;go_wp2;go_ret2;exact⟨rfl,rfl⟩
theorem xJ (s:ByteArray)(m:Int)(w:World)(hm:1≤m∧m≤5)(h1:1≤s.size)(h4:(s.size:Int)≤m)(hz:s.size≤1∨1<s.size∧ ∀h:0<s.size,((s[0].toNat:Int)==48)=false):
  U 59 #[.string s,m] w fun e w'=>e= .returned (.tuple #[(aDy s.data.toList:Int),.bool (aK2 s.data.toList)])∧w=w':=by
 have hp:0<s.size:=by omega
 rcases hz with hz|⟨hz,h0⟩
 all_goals
  try (have b:=h0 hp)
  try clear h0
  go_enter func59,ntmps59;go_wp2;go_loop [6,7] (fun n i=> ∃k:Nat,k≤s.size∧i=I k∧n=I (lY (s.data.toList.take k))∧(s.data.toList.take k).all eO=true) (fun _ i=>s.size-(intOf i).toNat)
  case atStart=>exact⟨0,aTd _,rfl,rfl,by simp⟩
  case round=>
   obtain⟨k,hk,rfl,rfl,a⟩:=hrel;have hb:=yU _ a (by simp;omega);have HA:=xQ a;clear a;by_cases hlt:k<s.size
   ·have HS:Hid (lY (s.data.toList.take (k+1))=lY (s.data.toList.take k)*10+((s[k].toNat:Int)-48)):=by rw[mG s k hlt,vJ];show _=_;omega
    rcases(show(s[k].toNat:Int)<48∨48≤(s[k].toNat:Int)∧57<(s[k].toNat:Int)∨48≤(s[k].toNat:Int)∧(s[k].toNat:Int)≤57 by omega)with hc|⟨hc0,hc⟩|⟨hc0,hc⟩
    ·go_wp2;go_ret2;exact⟨aHv (tA (rI s k hlt (mJ (.inl hc)))).symm (rI s k hlt (mJ (.inl hc))).symm,rfl⟩
    ·go_wp2;go_ret2;exact⟨aHv (tA (rI s k hlt (mJ (.inr hc)))).symm (rI s k hlt (mJ (.inr hc))).symm,rfl⟩
    go_wp2;go_round
    case rel=>exact⟨k+1,by omega,by go_num,by rw[HS.out],sJ s k hlt HA (aFg hc0 hc)⟩
    case measure=>simp[intOf];omega
   have e:s.data.toList.take k=s.data.toList:=aTa (by simp;omega);have HE:=xQ e;clear e;go_wp2;go_ret2;exact⟨aHv (by rw[wV (by rw[←HE.out];exact HA.out),HE.out]) (by rw[aK2,←HE.out];exact HA.out.symm),rfl⟩
theorem yO (s:ByteArray)(m:Nat)(w:World)(hm:1≤m∧m≤5)(hs:s.size≤maxLen):
  U 59 #[.string s,m] w fun e w'=>e= .returned (.tuple #[((dY m s.data.toList).getD 0:Int),.bool (dY m s.data.toList).isSome])∧w=w':=by
 unfold maxLen at hs;by_cases h1:s.size<1
 ·rw[kI (by rw[dQ];omega)];exact kS s m w (by omega) (.inl h1)
 by_cases h4:m<s.size
 ·rw[kI (by rw[dQ];omega)];exact kS s m w (by omega) (.inr (.inl ⟨by omega,by omega,hs⟩))
 by_cases h0:1<s.size∧s.data.toList.head? =some 48
 ·rw[pO (by rw[dQ];omega) h0.2];exact kS s m w (by omega) (.inr (.inr ⟨h0.1,by omega,fun h=>(xS s h).1 h0.2⟩))
 refine(xJ s m w (by omega) (by omega) (by omega) ?_).mono ?_
 ·by_cases hq:s.size≤1
  ·exact .inl hq
  refine .inr ⟨by omega,fun h=> ?_⟩;rw[←Bool.not_eq_true,←xS s h];intro e;exact h0 ⟨by omega,e⟩
 rintro e w' ⟨rfl,rfl⟩;cases ha:s.data.toList.all eO with
 |true=>rw[wV ha,sM (by rw[dQ];omega) (by rw[dQ];omega) (by rw[dQ];by_cases hq:s.size≤1;exact .inl hq;exact .inr (fun e=>h0 ⟨by omega,e⟩)) ha,aK2,ha];exact⟨rfl,rfl⟩
 |false=>rw[tA ha,qG ha,aK2,ha];exact⟨rfl,rfl⟩
def cR (c:UInt8):List UInt8→List (List UInt8)
 | []=> [[]]
 |x::xs=>if x=c then []::cR c xs else match cR c xs with
  | []=> [[x]]
  |p::ps=>(x::p)::ps
theorem lF (c:UInt8)(l:List UInt8):cR c l≠ []:=by
 cases l with
 |nil=>simp[cR]
 |cons x xs=>unfold cR;split
             ·simp
             split<;>simp
theorem aAt (c:UInt8): ∀(l:List UInt8),cR c (l++ [c])=cR c l++ [[]]:=by
 intro l;induction l with
 |nil=>simp[cR]
 |cons x xs ih=>
  rw[aUu];unfold cR;by_cases h:x=c
  ·rw[if_pos h,if_pos h,ih];rfl
  rw[if_neg h,if_neg h,ih];cases hq:cR c xs with
  |nil=>exact absurd hq (lF c xs)
  |cons p ps=>rfl
theorem xM (c:UInt8)(x:UInt8)(hx:x≠c): ∀(l:List UInt8) (A:List (List UInt8)) (p:List UInt8),cR c l=A++ [p]→cR c (l++ [x])=A++ [p++ [x]]:=by
 intro l;induction l with
 |nil=>
  intro A p h;simp only[cR,aUx]at h⊢;have:A= []∧p= []:=by
   cases A with
   |nil=>simpa using h.symm
   |cons a A=>simp at h
  obtain⟨rfl,rfl⟩:=this;simp[hx]
 |cons y ys ih=>
  intro A p h;rw[aUu];unfold cR at h⊢;by_cases hy:y=c
  ·rw[if_pos hy]at h⊢;cases A with
   |nil=>simp at h;exact absurd h.2 (lF c ys)
   |cons a A=>simp only[aUu,List.cons.injEq]at h;rw[ih A p h.2,←h.1];rfl
  rw[if_neg hy]at h⊢;cases hq:cR c ys with
  |nil=>exact absurd hq (lF c ys)
  |cons q qs=>
   rw[hq]at h;simp only at h;cases A with
   |nil=>simp only[aUx,List.cons.injEq]at h;obtain⟨rfl,rfl⟩:=h;rw[ih [] q (by simpa using hq)];rfl
   |cons a A=>simp only[aUu,List.cons.injEq]at h;obtain⟨rfl,rfl⟩:=h;rw[ih (q::A) p (by simpa using hq)];rfl
abbrev iL (ls:List (List UInt8)):List Value:=ls.map str
theorem wS (s:ByteArray)(a b:Nat)(l:List UInt8)(h:(s.data.toList.take b).drop a=l):Value.string (s.extract a b)=str l:=by
 have:s.extract a b=⟨l.toArray⟩:=by apply ByteArray.ext;apply Array.toList_inj.1;rw[Lib.extract_data];show _=l;rw[←h,List.drop_take]
 rw[this]
theorem aR0:(prog.info? 9).map (fun i=>(i.zero,i.size,i.bytes))=some (some (.string ⟨#[]⟩),1,16):=by kernel_rfl
theorem aBk (s:ByteArray)(c:UInt8)(ci:Int)(l:ci=(c.toNat:Int))(w:World)(hs:s.size≤1099511627776):
  U 86 #[.string s,.int .u8 ci] w fun e w'=> ∃v,e= .returned v∧w'.ownsRow w 9 1 v (cR c s.data.toList).length (iL (cR c s.data.toList))∧Ext w w':=by
 obtain⟨i0,hi,m,n,o⟩:=info_parts aR0;have HC:=xQ l;clear l;go_enter func86,ntmps86;go_wp2
 go_loopw [5,6,7] (fun v fr i wr=> ∃(k f:Nat) (A:List (List UInt8)) (p:List UInt8),k≤s.size∧f≤k∧A.length≤k∧fr=I f∧i=I k∧cR c (s.data.toList.take k)=A++ [p]∧p=(s.data.toList.take k).drop f∧
   wr.ownsRow w 9 1 v A.length (iL A)∧Ext w wr) (fun _ _ i _=>s.size-(intOf i).toNat)
 case atStart=>exact⟨0,0,[],[],aTd _,aT5 _,aT5 _,rfl,rfl,by simp[cR],by simp,aU5 _ #[] 0 (aT5 _) (by simp[maxLen]) rfl,(Ext.refl _).alloc _⟩
 case round=>
  obtain⟨k,f,A,p,hk,hf,t,rfl,rfl,h,hp,b,hE⟩:=hrel;have g:=xQ h;have HP:=xQ hp;have x:=hE.sz;clear h hp;by_cases hlt:k<s.size
  ·by_cases hc:s[k]=c
   ·have hb:((s[k].toNat:Int)==ci)=true:=by rw[HC.out,hc];simp
    have r:=xQ hc;clear hc;go_wp2_with (at_builtin;refine wpList_append_own _ rfl _ _ 31 rfl w 9 i0 (.string ⟨#[]⟩) 1 16 underlying31 hi m n o rfl (by decide) _ _ _ rfl (b.alloc _) ⟨wr,0,none⟩ 1 1 [.string (s.extract f k)] rfl rfl ?c1 ?c2 ?c3 ?c4 ?c5 ?_)
    case c1=>exact cell_one_new _ _ _
    case c2=>intro u hu;simp at hu;subst hu;rfl
    case c3=>unfold maxLen;omega
    case c4=>omega
    case c5=>simp;omega
    intro v' w1 d a _;have j:Ext w w1:=(hE.alloc _).grown a (fun q hq=>(b.lt q hq).1);clear a b;go_wp2;go_roundw
    case rel=>
     refine⟨k+1,k+1,A++ [p],[],by omega,aT5 _,by simp;omega,by go_num,by go_num,?_,?_,?_,j⟩
     ·rw[mG s k hlt,r.out,aAt,g.out]
     ·rw[aUr (by simp;omega)]
     have:=d;rw[wS s f k p HP.out.symm]at this;simpa[iL]using this
    case measure=>simp[intOf];omega
   have hb:((s[k].toNat:Int)==ci)=false:=by rw[HC.out,beq_eq_false_iff_ne];intro e;exact hc (UInt8.toNat_inj.1 (by omega))
   go_wp2;go_roundw
   case rel=>
    refine⟨k+1,f,A,p++ [s[k]],by omega,by omega,by omega,by go_num,by go_num,?_,?_,b,hE⟩
    ·rw[mG s k hlt];exact xM c _ hc _ A p g.out
    rw[mG s k hlt,HP.out,List.drop_append_of_le_length (by simp;omega)]
   case measure=>simp[intOf];omega
  obtain rfl:k=s.size:=by omega
  have e:s.data.toList.take s.size=s.data.toList:=aTa (by simp);have HE:=xQ e;clear e;go_wp2_with (at_builtin;refine wpList_append_own _ rfl _ _ 31 rfl w 9 i0 (.string ⟨#[]⟩) 1 16 underlying31 hi m n o rfl (by decide) _ _ _ rfl (b.alloc _) ⟨wr,0,none⟩ 1 1 [.string (s.extract f s.size)] rfl rfl ?d1 ?d2 ?d3 ?d4 ?d5 ?_)
  case d1=>exact cell_one_new _ _ _
  case d2=>intro u hu;simp at hu;subst hu;rfl
  case d3=>unfold maxLen;omega
  case d4=>omega
  case d5=>simp;omega
  intro v' w1 d a _;have j:Ext w w1:=(hE.alloc _).grown a (fun q hq=>(b.lt q hq).1);clear a b;go_wp2;go_ret;refine⟨_,rfl,?_,j⟩;have:=d;rw[wS s f s.size p HP.out.symm]at this;rw[←HE.out,g.out];simpa[iL]using this
end
end Go.Proofs.YthfmmibomhhmpaaGreatDoor
