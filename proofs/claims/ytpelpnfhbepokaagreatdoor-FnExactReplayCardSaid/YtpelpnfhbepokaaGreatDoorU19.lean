/-
  Texts of this proof, packed (@packed).
-/
import Derived.Test.YtpelpnfhbepokaaGreatDoorU12
import Derived.Test.YtpelpnfhbepokaaGreatDoorU17
import Derived.Test.YtpelpnfhbepokaaGreatDoorU18
namespace Go.Proofs.YtpelpnfhbepokaaGreatDoor
open Go.RowKit
set_option linter.unusedVariables false
set_option maxHeartbeats 8000000
set_option maxRecDepth 100000
abbrev TV:TypeId:=76
abbrev lR (a b c d:Int):Value:= .agg #[a,b,c,d]
theorem aKh {xs:List Int}{k n:Nat}(h:k<n)(hl:(xs.take k).length=k):(ivs (xs.take k++List.replicate (n-k) 0))[k]? =some (.int .i64 0):=by simp only[ivs,List.map_append];rw[List.getElem?_append_right (by rw[List.length_map,hl];exact Nat.le_refl _),List.length_map,hl,Nat.sub_self];rw[show n-k=(n-(k+1))+1 by omega,List.replicate_succ];rfl
theorem aJc {xs:List Int}{k n:Nat}{x:Int}(h:k<n)(hx:xs[k]? =some x) (hl:(xs.take k).length=k):(ivs (xs.take k++List.replicate (n-k) 0)).set k (.int .i64 x)=ivs (xs.take (k+1)++List.replicate (n-(k+1)) 0):=by rw[bI hx];rw[show n-k=(n-(k+1))+1 by omega,List.replicate_succ];simp only[ivs,List.map_append,List.map_cons];rw[List.set_append_right _ _ (by rw[List.length_map,hl];exact Nat.le_refl _)];simp only[List.length_map,hl,Nat.sub_self,List.set_cons_zero];simp[iv]
theorem aDf (p:OA)(n cap:Nat)(xs:List Int)(w:World)(hn:n≤1099511627776)(hS:Sl w p n cap 1 (ivs xs)):
  Calls Tryz.prog 114 #[.slice p n cap] w (bH xs w):=by
 obtain⟨i0,hi,g,h,j⟩:=info_parts (show(Tryz.prog.info? 3).map (fun i=>(i.zero,i.size,i.bytes))=some (some (.int .i64 0),1,8) by kernel_rfl);have hl:=xQ hS.ilen;have HS:=xQ hS;clear hS;go_enter Tryz.func114,Tryz.ntmps114;go_wp2_with (at_make;refine wpList_make_full _ rfl _ _ 23 rfl w.heap.size 3 i0 (.int .i64 0) 1 Tryz.underlying23 hi g h .i64 .i64 _ _ n rfl rfl rfl rfl (by rw[j];omega) (by unfold maxLen;omega) (Nat.le_refl _) ?_;intro w0 c d);have m:Ext w w0:=(Ext.refl w).grown d (fun q hq=>by cases hq);have r:=(c.lt w.heap.size rfl).2;rw[aHa]at c;have l:=xQ c;clear c d hi g h j;go_loopw [4] (fun i wr=> ∃k:Nat,k≤n∧i= .int .i64 k∧wr.ownsRow w.heap.size TI 1 (.slice (some ⟨w.heap.size,0,none⟩) n n) n (ivs (xs.take k++List.replicate (n-k) 0))∧Ext w wr) (fun i _=>n-(intOf i).toNat)
 case atStart=>exact⟨0,Nat.zero_le _,rfl,by simpa using l.out,m⟩
 case round=>
  obtain⟨k,hk,rfl,a,hE⟩:=hrel;by_cases hlt:k<n
  ·obtain⟨b,t,x,rfl,hx,hb,o⟩:=(HS.out.ext hE).int_at hlt;have HX:=xQ hx;have f:(xs.take k).length=k:=by rw[List.length_take,hl.out];omega
   have o0:wr.cell? ⟨w.heap.size,k,none⟩=some (.int .i64 0):=by rw[a.cellAt k (by omega)];exact aKh hlt f
   have f0:wr.frozen? ⟨w.heap.size,k,none⟩=false:=a.frozenAt k;have HN:Hid ((wr.setCell ⟨w.heap.size,k,none⟩ (.int .i64 x)).ownsRow w.heap.size TI 1 (.slice (some ⟨w.heap.size,0,none⟩) n n) n (ivs (xs.take (k+1)++List.replicate (n-(k+1)) 0))):=by have:=(a.stored k (.int .i64 x)).1;rw[aJc hlt HX f]at this;exact this
   have s:=hE.sz;clear a hx;go_wp2;go_roundw
   case rel=>exact⟨k+1,by omega,by go_num,HN.out,xE⟩
   case measure=>simp[intOf];omega
  obtain rfl:k=n:=by omega
  have e:xs.take k=xs:=List.take_of_length_le (by rw[hl.out];exact Nat.le_refl _);have HO:=xQ (show wr.ownsRow w.heap.size TI 1 (.slice (some ⟨w.heap.size,0,none⟩) k k) k (ivs xs) by rw[e]at a;simpa using a);clear a e;go_wp2;go_ret;exact dP hl.out HO hE
theorem aFb (p q:OA)(n c1 c2:Nat)(xs:List Int)(w:World)(h1:Sl w p n c1 1 (ivs xs))(h2:Sl w q n c2 1 (ivs xs)):
  Calls Tryz.prog 116 #[.slice p n c1,.slice q n c2] w fun e w'=>e= .returned (.bool true)∧Ext w w':=by
 have hn:=h1.bd;have H1:=xQ h1;have H2:=xQ h2;clear h1 h2;go_enter Tryz.func116,Tryz.ntmps116;go_wp2;go_loopw [5] (fun i wr=> ∃k:Nat,k≤n∧i= .int .i64 k∧Ext w wr) (fun i _=>n-(intOf i).toNat)
 case atStart=>exact⟨0,Nat.zero_le _,rfl,Ext.refl _⟩
 case round=>
  obtain⟨k,hk,rfl,hE⟩:=hrel;by_cases hlt:k<n
  ·obtain⟨b,g,x,rfl,hx,hb,c⟩:=(H1.out.ext hE).int_at hlt;obtain⟨b2,d,y,rfl,hy,f,a⟩:=(H2.out.ext hE).int_at hlt;rw[hx]at hy;injection hy with hy;subst hy;clear hx;have i1:(0:Int)≤(k:Int):=by omega
   have i2:(k:Int)<(n:Int):=by omega
   go_wp2;go_quiet (fail);go_wp2;go_roundw
   case rel=>exact⟨k+1,by omega,by go_num,xE⟩
   case measure=>simp[intOf];omega
  go_wp2;go_ret;exact⟨rfl,hE⟩
theorem uB (p:OA)(n cap:Nat)(left:Int)(w:World)(hn:n≤9223372036854775807)(hl:0≤left)(a:left≤1048576):
  Calls Tryz.prog 112 #[.slice p n cap,left] w fun e w'=>e= .returned (.int .i64 (if left<n then -1 else left-n))∧w=w':=by
 by_cases h:left<n
 ·rw[if_pos h];go_enter Tryz.func112,Tryz.ntmps112;go_wp2;go_ret;exact⟨rfl,rfl⟩
 rw[if_neg h];go_enter Tryz.func112,Tryz.ntmps112;go_wp2;go_ret;exact⟨rfl,rfl⟩
theorem qC (p:OA)(n cap:Nat)(left:Int)(w:World)(hn:n≤9223372036854775807)(hl:0≤left)(a:left≤1048576):
  Calls Tryz.prog 60 #[.slice p n cap,left] w fun e w'=>e= .returned (.int .i64 (if left<n then -1 else left-n))∧w=w':=by
 by_cases h:left<n
 ·rw[if_pos h];go_enter Tryz.func60,Tryz.ntmps60;go_wp2;go_ret;exact⟨rfl,rfl⟩
 rw[if_neg h];go_enter Tryz.func60,Tryz.ntmps60;go_wp2;go_ret;exact⟨rfl,rfl⟩
theorem sU (h:aW)(p:OA)(n cap:Nat)(q:OA)(m c2:Nat)(w:World)(hn:n≤9223372036854775807)(hm:m≤9223372036854775807):
  Calls Tryz.prog 24 #[cA h p n cap q m c2,.int .i64 1048576] w fun e w'=>e= .returned (.int .i64 (if 1048576<n+m then -1 else 1048576-n-m))∧Ext w w':=by
 obtain⟨aA,aB,a,b,c,aE,aG,aD,aF,vs⟩:=h;by_cases h1:(1048576:Int)<n
 ·have HA:Hid (∀w,Calls Tryz.prog 112 #[.slice p n cap,.int .i64 1048576] w fun e w'=>e= .returned (.int .i64 (-1))∧w=w'):=fun w=>by have:=uB p n cap 1048576 w hn (by omega) (by omega);rwa[if_pos h1]at this
  rw[if_pos (by omega)];go_enter Tryz.func24,Tryz.ntmps24;go_wp2_with (first|(go_at_call 112;refine(HA _).mono ?_;rintro e w1 ⟨rfl,rfl⟩)|go_in);go_ret;exact⟨rfl,xE⟩
 have HA:Hid (∀w,Calls Tryz.prog 112 #[.slice p n cap,.int .i64 1048576] w fun e w'=>e= .returned (.int .i64 (1048576-n))∧w=w'):=fun w=>by have:=uB p n cap 1048576 w hn (by omega) (by omega);rwa[if_neg h1]at this
 by_cases h2:(1048576-n:Int)<m
 ·have HB:Hid (∀w,Calls Tryz.prog 60 #[.slice q m c2,(1048576-n:Int)] w fun e w'=>e= .returned (.int .i64 (-1))∧w=w'):=fun w=>by have:=qC q m c2 (1048576-n) w hm (by omega) (by omega);rwa[if_pos h2]at this
  rw[if_pos (by omega)];go_enter Tryz.func24,Tryz.ntmps24;go_wp2_with (first|(go_at_call 112;refine(HA _).mono ?_;rintro e w1 ⟨rfl,rfl⟩)|(go_at_call 60;refine(HB _).mono ?_;rintro e w1 ⟨rfl,rfl⟩)|go_in);go_ret;exact⟨rfl,xE⟩
 have HB:Hid (∀w,Calls Tryz.prog 60 #[.slice q m c2,(1048576-n:Int)] w fun e w'=>e= .returned (.int .i64 (1048576-n-m))∧w=w'):=fun w=>by have:=qC q m c2 (1048576-n) w hm (by omega) (by omega);rwa[if_neg h2]at this
 rw[if_neg (by omega)];go_enter Tryz.func24,Tryz.ntmps24;go_wp2_with (first|(go_at_call 112;refine(HA _).mono ?_;rintro e w1 ⟨rfl,rfl⟩)|(go_at_call 60;refine(HB _).mono ?_;rintro e w1 ⟨rfl,rfl⟩)|go_in);go_ret;exact⟨rfl,xE⟩
theorem zB (f s p c:Int)(w:World):Calls Tryz.prog 63 #[aR f s p c] w fun e w'=>e= .returned (aR f s p c)∧Ext w w':=by go_enter Tryz.func63,Tryz.ntmps63;go_wp2;exact bodyPost_ret (v:=aR f s p c) (by simp[results,Tryz.results63,go_sem]) rfl ⟨rfl,xE⟩
theorem aB3 (a b c d:Int)(w:World):Calls Tryz.prog 115 #[lR a b c d] w fun e w'=>e= .returned (lR a b c d)∧Ext w w':=by go_enter Tryz.func115,Tryz.ntmps115;go_wp2_with go_in;exact bodyPost_ret (v:=lR a b c d) (by simp[results,Tryz.results115,go_sem]) rfl ⟨rfl,xE⟩
theorem aAx (f s p c:Int)(w:World):Calls Tryz.prog 66 #[aR f s p c,aR f s p c] w fun e w'=>e= .returned (.bool true)∧Ext w w':=by go_enter Tryz.func66,Tryz.ntmps66;go_wp2;go_ret;exact⟨rfl,xE⟩
theorem aFa (a b c:Int)(w:World):Calls Tryz.prog 169 #[bN a b c,bN a b c] w fun e w'=>e= .returned (.bool true)∧Ext w w':=by go_enter Tryz.func169,Tryz.ntmps169;go_wp2;go_ret;exact⟨rfl,xE⟩
theorem aCz (a b c d:Int)(w:World):Calls Tryz.prog 117 #[lR a b c d,lR a b c d] w fun e w'=>e= .returned (.bool true)∧Ext w w':=by go_enter Tryz.func117,Tryz.ntmps117;go_wp2_with fail;refine(aFa b c d _).mono ?_;rintro e w1 ⟨rfl,h1⟩;go_wp2;go_ret;exact⟨rfl,xE⟩
def yW (vs:List aQ)(w:World)(e:Ending)(w':World):Prop:=
 ∃p cap,e= .returned (.slice p vs.length cap)∧w'.ownsRow w.heap.size TV 4 (.slice p vs.length cap) vs.length (vs.flatMap aC)∧Ext w w'
theorem aE6 {p:OA}{n cap:Nat}{vs:List aQ}{w w':World}(hn:vs.length=n)(ho:w'.ownsRow w.heap.size TV 4 (.slice p n cap) n (vs.flatMap aC))(hx:Ext w w'):yW vs w (.returned (.slice p n cap)) w':=by subst hn;exact⟨p,cap,rfl,ho,hx⟩
def vz:aQ:=(0,0,0,0)
theorem aC3 (n:Nat):(madeCells (lR 0 0 0 0).cells (n*4)).toList=(List.replicate n vz).flatMap aC:=by
 apply List.ext_getElem?;intro j;by_cases hj:j<n*4
 ·have h1:j/4<n:=by omega
  have hv:(List.replicate n vz)[j/4]? =some vz:=by simp[h1]
  have:=dW aC 4 (fun _=>rfl) _ _ _ hv (j%4) (by omega);rw[show j/4*4+j%4=j by omega]at this;rw[this];simp[madeCells,Value.cells,hj];have:j%4=0∨j%4=1∨j%4=2∨j%4=3:=by omega
  rcases this with h|h|h|h<;>simp[h,aC,vz]
 rw[List.getElem?_eq_none (by simp[madeCells];omega),List.getElem?_eq_none (by rw[cX aC 4 (fun _=>rfl)];simp;omega)]
theorem aGf {vs:List aQ}{k n:Nat}{a b c d:Int}(h:k<n)(hx:vs[k]? =some (a,b,c,d)) (hl:(vs.take k).length=k):
  (((((vs.take k++List.replicate (n-k) vz).flatMap aC).set (k*4) (.int .i64 a)).set (k*4+1) (.int .i64 b)).set (k*4+2) (.int .i64 c)).set (k*4+3) (.int .i64 d)=(vs.take (k+1)++List.replicate (n-(k+1)) vz).flatMap aC:=by
 rw[bI hx,show n-k=(n-(k+1))+1 by omega,List.replicate_succ];have hf:((vs.take k).flatMap aC).length=k*4:=by rw[cX aC 4 (fun _=>rfl),hl]
 simp only[List.flatMap_append,List.flatMap_cons,List.append_assoc];generalize (vs.take k).flatMap aC=A at hf;rw[List.set_append_right _ _ (by omega),List.set_append_right _ _ (by omega),List.set_append_right _ _ (by omega),List.set_append_right _ _ (by omega)];simp[hf,aC,vz]
theorem oF {vs:List aQ}{k n:Nat}(h:k<n)(hl:(vs.take k).length=k)(j:Nat)(hj:j<4):((vs.take k++List.replicate (n-k) vz).flatMap aC)[k*4+j]? =some (.int .i64 0):=by
 have hv:(vs.take k++List.replicate (n-k) vz)[k]? =some vz:=by rw[List.getElem?_append_right (by omega),hl,Nat.sub_self,List.getElem?_replicate,if_pos (by omega)]
 rw[dW aC 4 (fun _=>rfl) _ _ _ hv j hj]
 match j,hj with
 |0,_=>rfl
 |1,_=>rfl
 |2,_=>rfl
 |3,_=>rfl
theorem zA (p:OA)(n cap:Nat)(vs:List aQ)(w:World)(hn:n≤1099511627776)(hS:Sl w p n cap 4 (vs.flatMap aC)):
  Calls Tryz.prog 64 #[.slice p n cap] w (yW vs w):=by
 obtain⟨i0,hi,o,r,s⟩:=info_parts (show(Tryz.prog.info? TV).map (fun i=>(i.zero,i.size,i.bytes))=some (some (lR 0 0 0 0),4,32) by kernel_rfl);have m:vs.length=n:=by have:=hS.len;rw[cX aC 4 (fun _=>rfl)]at this;omega
 have hl:=xQ m;have HS:=xQ hS;clear hS m;go_enter Tryz.func64,Tryz.ntmps64;go_wp2_with (at_make;refine wpList_make_full _ rfl _ _ 28 rfl w.heap.size TV i0 (lR 0 0 0 0) 4 Tryz.underlying28 hi o r .i64 .i64 _ _ n rfl rfl rfl rfl (by rw[s];omega) (by unfold maxLen;omega) (Nat.le_refl _) ?_;intro w0 c f);have v:Ext w w0:=(Ext.refl w).grown f (fun q hq=>by cases hq);have x:=(c.lt w.heap.size rfl).2;rw[aC3]at c;have t:=xQ c;clear c f hi o r s;go_loopw [4] (fun i wr=> ∃k:Nat,k≤n∧i= .int .i64 k∧wr.ownsRow w.heap.size TV 4 (.slice (some ⟨w.heap.size,0,none⟩) n n) n ((vs.take k++List.replicate (n-k) vz).flatMap aC)∧Ext w wr) (fun i _=>n-(intOf i).toNat)
 case atStart=>exact⟨0,Nat.zero_le _,rfl,by rw[List.take_zero,List.nil_append,Nat.sub_zero];exact t.out,v⟩
 case round=>
  obtain⟨k,hk,rfl,d,hE⟩:=hrel;by_cases hlt:k<n
  ·obtain⟨b,z,a0,a1,a2,a3,rfl,hx,hb,g0,g1,g2,g3⟩:=eN (HS.out.ext hE) hlt;have HX:=xQ hx;have h:(vs.take k).length=k:=by rw[List.length_take,hl.out];omega
   have l:=xQ d;have g:=xQ h;clear d hx h;go_wp2_with fail;refine(aB3 a0 a1 a2 a3 _).mono ?_;rintro e w1 ⟨rfl,h1⟩;have a:=bD l h1;have y:w.heap.size<w1.heap.size:=(a.lt w.heap.size rfl).2;have o0:w1.cell? ⟨w.heap.size,k*4,none⟩=some (.int .i64 0):=(a.cellAt _ (by omega)).trans (oF hlt g.out 0 (by omega));have o1:w1.cell? ⟨w.heap.size,k*4+1,none⟩=some (.int .i64 0):=(a.cellAt _ (by omega)).trans (oF hlt g.out 1 (by omega));have o2:w1.cell? ⟨w.heap.size,k*4+2,none⟩=some (.int .i64 0):=(a.cellAt _ (by omega)).trans (oF hlt g.out 2 (by omega));have o3:w1.cell? ⟨w.heap.size,k*4+3,none⟩=some (.int .i64 0):=(a.cellAt _ (by omega)).trans (oF hlt g.out 3 (by omega));have f0:w1.frozen? ⟨w.heap.size,k*4,none⟩=false:=a.frozenAt _;have f1:w1.frozen? ⟨w.heap.size,k*4+1,none⟩=false:=a.frozenAt _;have f2:w1.frozen? ⟨w.heap.size,k*4+2,none⟩=false:=a.frozenAt _;have f3:w1.frozen? ⟨w.heap.size,k*4+3,none⟩=false:=a.frozenAt _;have j:=((((a.stored (k*4) (.int .i64 a0)).1.stored (k*4+1) (.int .i64 a1)).1.stored (k*4+2) (.int .i64 a2)).1.stored (k*4+3) (.int .i64 a3)).1;rw[aGf hlt HX g.out]at j;have u:=xQ j;clear a j;go_wp2;go_roundw
   case rel=>exact⟨k+1,by omega,by go_num,u.out,xE⟩
   case measure=>simp[intOf];omega
  obtain rfl:k=n:=by omega
  have e:vs.take k=vs:=List.take_of_length_le (by rw[hl.out];exact Nat.le_refl _);have HO:=xQ (show wr.ownsRow w.heap.size TV 4 (.slice (some ⟨w.heap.size,0,none⟩) k k) k (vs.flatMap aC) by rw[e]at d;simpa using d);clear d e;go_wp2;go_ret;exact aE6 hl.out HO hE
theorem aAw (p q:OA)(n c1 c2:Nat)(vs:List aQ)(w:World)(h1:Sl w p n c1 4 (vs.flatMap aC))(h2:Sl w q n c2 4 (vs.flatMap aC)):
  Calls Tryz.prog 67 #[.slice p n c1,.slice q n c2] w fun e w'=>e= .returned (.bool true)∧Ext w w':=by
 have hn:=h1.bd;have H1:=xQ h1;have H2:=xQ h2;clear h1 h2;go_enter Tryz.func67,Tryz.ntmps67;go_wp2;go_loopw [5] (fun i wr=> ∃k:Nat,k≤n∧i= .int .i64 k∧Ext w wr) (fun i _=>n-(intOf i).toNat)
 case atStart=>exact⟨0,Nat.zero_le _,rfl,Ext.refl _⟩
 case round=>
  obtain⟨k,hk,rfl,hE⟩:=hrel;by_cases hlt:k<n
  ·obtain⟨b,c,a0,a1,a2,a3,rfl,hx,hb,g0,g1,g2,g3⟩:=eN (H1.out.ext hE) hlt;obtain⟨b2,a,d0,d1,d2,d3,rfl,hy,d,k0,k1,k2,k3⟩:=eN (H2.out.ext hE) hlt;rw[hx]at hy;injection hy with hy;simp only[Prod.mk.injEq]at hy;obtain⟨rfl,rfl,rfl,rfl⟩:=hy;clear hx;have i1:(0:Int)≤(k:Int):=by omega
   have i2:(k:Int)<(n:Int):=by omega
   have HQ:Hid (∀w,Calls Tryz.prog 117 #[lR a0 a1 a2 a3,lR a0 a1 a2 a3] w fun e w'=>e= .returned (.bool true)∧Ext w w'):=fun w=>aCz a0 a1 a2 a3 w
   go_wp2;go_region_held3 (fun w'=>w'.cell? ⟨b,c+k*4,none⟩=some (.int .i64 a0)∧w'.cell? ⟨b,c+k*4+1,none⟩=some (.int .i64 a1)∧w'.cell? ⟨b,c+k*4+2,none⟩=some (.int .i64 a2)∧w'.cell? ⟨b,c+k*4+3,none⟩=some (.int .i64 a3)∧w'.cell? ⟨b2,a+k*4,none⟩=some (.int .i64 a0)∧w'.cell? ⟨b2,a+k*4+1,none⟩=some (.int .i64 a1)∧w'.cell? ⟨b2,a+k*4+2,none⟩=some (.int .i64 a2)∧w'.cell? ⟨b2,a+k*4+3,none⟩=some (.int .i64 a3)) (go_keep) ((go_at_call 117;refine(HQ _).mono ?_;rintro e w1 ⟨rfl,h1⟩;(try replace h1:=h1.of_drew);have f:=h1.cells.1));all_goals go_wp2
   all_goals go_roundw
   all_goals first
    |(case rel=>exact⟨k+1,by omega,by go_num,xE⟩)
    |(case measure=>simp[intOf];omega)
  go_wp2;go_ret;exact⟨rfl,hE⟩
theorem cH {w:World}{B n sz:Nat}{e:TypeId}{v:Value}{xs:List Value}(h:w.ownsRow B e sz v n xs){p:Addr}(hp:p.block<B)(u:Value):(w.setCell p u).ownsRow B e sz v n xs:=by refine h.kept (row:=some p.block) ⟨rfl,rfl,rfl,by simp[World.setCell],fun i hi hne=>Below.heap_setCell w p u i (fun e=>hne (by rw[e]))⟩ (.inr (fun hh=> ?_));have:=h.lt _ hh;omega
theorem aDg (aA aB:Int)(p:OA)(n cap:Nat)(xs:List Int)(w:World)(hn:n≤1099511627776)(hS:Sl w p n cap 1 (ivs xs)):
  Calls Tryz.prog 62 #[aH aA aB p n cap] w (dK aA aB xs w):=by
 have hl:=hS.ilen;have HS:=xQ hS;subst hl;clear hS;go_enter Tryz.func62,Tryz.ntmps62;go_wp2_with fail;refine(aDf p _ cap xs _ hn (HS.out.ext xE)).mono ?_;rintro e w1 ⟨q,c,rfl,ho,hx⟩;obtain⟨hc,hf⟩:=hx.cells;have hz:w.heap.size+2<w1.heap.size:=Nat.lt_of_lt_of_le (by simp) hx.sz;have d:w.heap.size+1<w1.heap.size:=by omega
 have b:w.heap.size<w1.heap.size:=by omega
 have HO:=xQ (show w1.ownsRow (w.heap.size+3) TI 1 (.slice q xs.length c) xs.length (ivs xs) by simpa using ho);have a:Ext w w1:=((((Ext.refl w).alloc _).alloc _).alloc _).trans hx;clear ho hx;go_wp2;exact bodyPost_ret (v:=aH aA aB q xs.length c) (by simp[results,Tryz.results62,go_sem, *]) rfl ⟨q,c,rfl,bK (cH (cH (cH (cH HO (by dsimp only;omega) _) (by dsimp only;omega) _) (by dsimp only;omega) _) (by dsimp only;omega) _) (by omega),xE⟩
def RetHouse (h:aW)(w:World)(e:Ending)(w':World):Prop:=
 ∃p cap q c2,e= .returned (cA h p h.cells.length cap q h.vs.length c2)∧w'.ownsRow w.heap.size TI 1 (.slice p h.cells.length cap) h.cells.length (ivs h.cells)∧w'.ownsRow w.heap.size TV 4 (.slice q h.vs.length c2) h.vs.length (h.vs.flatMap aC)∧Ext w w'
theorem aB4 (h:aW)(p:OA)(n cap:Nat)(q:OA)(m c2:Nat)(w:World)(hn:n≤1099511627776)(hm:m≤1099511627776)(hi:IsHouse w h p n cap q m c2):
  Calls Tryz.prog 26 #[cA h p n cap q m c2] w (RetHouse h w):=by
 have hl:=hi.clen;have af:=hi.vlen;have HI:=xQ hi;subst hl af;clear hi;obtain⟨aA,aB,a,b,c,aE,aG,aD,aF,vs⟩:=h;obtain⟨HN,HM⟩:Hid (a.length≤1099511627776)∧Hid (vs.length≤1099511627776):=⟨hn,hm⟩
 clear hn hm;go_enter Tryz.func26,Tryz.ntmps26;go_wp2_with fail;refine(aDg aA aB p _ cap a _ HN (HI.out.cells.ext xE)).mono ?_;rintro e w1 ⟨p1,c1,rfl,u,g⟩;have BA:=xQ ((((Blk.new w 59 #[aA,aB,.slice p a.length cap,b,c,aE,aG,aD,aF,.slice q vs.length c2]).alloc (.cells #[(),(),((),()),(),(),(),(),(),(),((),())] 30)).alloc (.cells #[(),(),((),()),(),(),(),(),(),(),((),())] 30)).ext g);have BR:=xQ (((Blk.new (w.alloc (.cells #[aA,aB,.slice p a.length cap,b,c,aE,aG,aD,aF,.slice q vs.length c2] 59)) 30 #[(),(),((),()),(),(),(),(),(),(),((),())]).alloc (.cells #[(),(),((),()),(),(),(),(),(),(),((),())] 30)).ext g);have BO:=xQ ((Blk.new ((w.alloc (.cells #[aA,aB,.slice p a.length cap,b,c,aE,aG,aD,aF,.slice q vs.length c2] 59)).alloc (.cells #[(),(),((),()),(),(),(),(),(),(),((),())] 30)) 30 #[(),(),((),()),(),(),(),(),(),(),((),())]).ext g);simp only[World.size_alloc]at BR BO;have ap:w.heap.size+2<w1.heap.size:=Nat.lt_of_lt_of_le (by simp) g.sz;have r:=xQ (show w1.ownsRow (w.heap.size+3) TI 1 (.slice p1 a.length c1) a.length (ivs a) by simpa using u);have t:=xQ (((((Ext.refl w).alloc _).alloc _).alloc _).trans g);clear u g;have a3:=BA.out.cl 3;have a4:=BA.out.cl 4;have a5:=BA.out.cl 5;have a6:=BA.out.cl 6;have o0:=BO.out.cl 0;have o1:=BO.out.cl 1;have o2:=BO.out.cl 2;have ag:=BO.out.frozen 0;have ah:=BO.out.frozen 1;have ai:=BO.out.frozen 2;go_wp2_with fail;clear a3 a4 a5 a6 o0 o1 o2 ag ah ai;refine(zB b c aE aG _).mono ?_;rintro e w2 ⟨rfl,f⟩;have d:=xQ (show Blk w2 (w.heap.size+1+1) 30 #[aA,aB,.slice p1 a.length c1,(),(),(),(),(),(),((),())] by have hb:=(((BO.out.set 0 (.int .i64 aA)).set 1 (.int .i64 aB)).set 2 (.slice p1 a.length c1)).ext f;simpa only[List.setIfInBounds_toArray,List.set_cons_zero,List.set_cons_succ]using hb)
 have j:=xQ ((((BA.out.far (p:=⟨w.heap.size+1+1,0,none⟩) (by dsimp only;omega) (.int .i64 aA)).far (p:=⟨w.heap.size+1+1,1,none⟩) (by dsimp only;omega) (.int .i64 aB)).far (p:=⟨w.heap.size+1+1,2,none⟩) (by dsimp only;omega) (.slice p1 a.length c1)).ext f);have o:=xQ ((((BR.out.far (p:=⟨w.heap.size+1+1,0,none⟩) (by dsimp only;omega) (.int .i64 aA)).far (p:=⟨w.heap.size+1+1,1,none⟩) (by dsimp only;omega) (.int .i64 aB)).far (p:=⟨w.heap.size+1+1,2,none⟩) (by dsimp only;omega) (.slice p1 a.length c1)).ext f);have ad:=f.sz;simp only[World.size_setCell]at ad;have s:=xQ (bD (cH (cH (cH r (by dsimp only;omega) _) (by dsimp only;omega) _) (by dsimp only;omega) _) f);have k:=xQ ((((t.out.setCell (p:=⟨w.heap.size+1+1,0,none⟩) (by dsimp only;omega) (.int .i64 aA)).setCell (p:=⟨w.heap.size+1+1,1,none⟩) (by dsimp only;omega) (.int .i64 aB)).setCell (p:=⟨w.heap.size+1+1,2,none⟩) (by dsimp only;omega) (.slice p1 a.length c1)).trans f);clear f BO BA BR r t;have a7:=j.out.cl 7;have a8:=j.out.cl 8;have a9:=j.out.cl 9;have o3:=d.out.cl 3;have o4:=d.out.cl 4;have o5:=d.out.cl 5;have o6:=d.out.cl 6;have o7:=d.out.cl 7;have o8:=d.out.cl 8;have aj:=d.out.frozen 3;have ak:=d.out.frozen 4;have al:=d.out.frozen 5;have am:=d.out.frozen 6;have an:=d.out.frozen 7;have ao:=d.out.frozen 8;go_wp2_with fail;clear a7 a8 a9 o3 aj o4 ak o5 al o6 am o7 an o8 ao
 refine(zA q _ c2 vs _ HM (HI.out.vs.ext ((((((k.out.setCell (p:=⟨w.heap.size+1+1,3,none⟩) (by dsimp only;omega) (.int .i64 b)).setCell (p:=⟨w.heap.size+1+1,4,none⟩) (by dsimp only;omega) (.int .i64 c)).setCell (p:=⟨w.heap.size+1+1,5,none⟩) (by dsimp only;omega) (.int .i64 aE)).setCell (p:=⟨w.heap.size+1+1,6,none⟩) (by dsimp only;omega) (.int .i64 aG)).setCell (p:=⟨w.heap.size+1+1,7,none⟩) (by dsimp only;omega) (.int .i64 aD)).setCell (p:=⟨w.heap.size+1+1,8,none⟩) (by dsimp only;omega) (.int .i64 aF)))).mono ?_;rintro e w3 ⟨q3,c3,rfl,x,i⟩;have l:=xQ (show Blk w3 (w.heap.size+1+1) 30 #[aA,aB,.slice p1 a.length c1,b,c,aE,aG,aD,aF,((),())] by have hb:=((((((d.out.set 3 (.int .i64 b)).set 4 (.int .i64 c)).set 5 (.int .i64 aE)).set 6 (.int .i64 aG)).set 7 (.int .i64 aD)).set 8 (.int .i64 aF)).ext i;simpa only[List.setIfInBounds_toArray,List.set_cons_zero,List.set_cons_succ]using hb);have y:=xQ (((((((o.out.far (p:=⟨w.heap.size+1+1,3,none⟩) (by dsimp only;omega) (.int .i64 b)).far (p:=⟨w.heap.size+1+1,4,none⟩) (by dsimp only;omega) (.int .i64 c)).far (p:=⟨w.heap.size+1+1,5,none⟩) (by dsimp only;omega) (.int .i64 aE)).far (p:=⟨w.heap.size+1+1,6,none⟩) (by dsimp only;omega) (.int .i64 aG)).far (p:=⟨w.heap.size+1+1,7,none⟩) (by dsimp only;omega) (.int .i64 aD)).far (p:=⟨w.heap.size+1+1,8,none⟩) (by dsimp only;omega) (.int .i64 aF)).ext i);have ae:=i.sz;simp only[World.size_setCell]at ae
 have z:=xQ (bD (cH (cH (cH (cH (cH (cH s (p:=⟨w.heap.size+1+1,3,none⟩) (by dsimp only;omega) (.int .i64 b)) (p:=⟨w.heap.size+1+1,4,none⟩) (by dsimp only;omega) (.int .i64 c)) (p:=⟨w.heap.size+1+1,5,none⟩) (by dsimp only;omega) (.int .i64 aE)) (p:=⟨w.heap.size+1+1,6,none⟩) (by dsimp only;omega) (.int .i64 aG)) (p:=⟨w.heap.size+1+1,7,none⟩) (by dsimp only;omega) (.int .i64 aD)) (p:=⟨w.heap.size+1+1,8,none⟩) (by dsimp only;omega) (.int .i64 aF)) i);have ab:=xQ (((((((k.out.setCell (p:=⟨w.heap.size+1+1,3,none⟩) (by dsimp only;omega) (.int .i64 b)).setCell (p:=⟨w.heap.size+1+1,4,none⟩) (by dsimp only;omega) (.int .i64 c)).setCell (p:=⟨w.heap.size+1+1,5,none⟩) (by dsimp only;omega) (.int .i64 aE)).setCell (p:=⟨w.heap.size+1+1,6,none⟩) (by dsimp only;omega) (.int .i64 aG)).setCell (p:=⟨w.heap.size+1+1,7,none⟩) (by dsimp only;omega) (.int .i64 aD)).setCell (p:=⟨w.heap.size+1+1,8,none⟩) (by dsimp only;omega) (.int .i64 aF)).trans i);have aa:=xQ (bK x (B':=w.heap.size+3) (by simp only[World.size_setCell];omega));clear i x d j o s k;obtain⟨o0,o1,o2,o3,o4,o5,o6,o7,o8,o9⟩:=l.out.ten;have aq:=l.out.frozen 9;obtain⟨r0,ar,r1,au,r2,av,r3,aw,r4,ax,r5,ay,r6,az,r7,a0,r8,a1,r9,a2⟩:=y.out.tenf;go_wp2
 exact bodyPost_ret (v:= .agg #[aA,aB,.slice p1 a.length c1,b,c,aE,aG,aD,aF,.slice q3 vs.length c3]) (by simp[results,Tryz.results26,go_sem, *]) rfl ⟨p1,c1,q3,c3,rfl,bK (cH (cH (cH (cH (cH (cH (cH (cH (cH (cH (cH z (p:=⟨w.heap.size+1+1,9,none⟩) (by dsimp only;omega) (.slice q3 vs.length c3)) (p:=⟨w.heap.size+1,0,none⟩) (by dsimp only;omega) (.int .i64 aA)) (p:=⟨w.heap.size+1,1,none⟩) (by dsimp only;omega) (.int .i64 aB)) (p:=⟨w.heap.size+1,2,none⟩) (by dsimp only;omega) (.slice p1 a.length c1)) (p:=⟨w.heap.size+1,3,none⟩) (by dsimp only;omega) (.int .i64 b)) (p:=⟨w.heap.size+1,4,none⟩) (by dsimp only;omega) (.int .i64 c)) (p:=⟨w.heap.size+1,5,none⟩) (by dsimp only;omega) (.int .i64 aE)) (p:=⟨w.heap.size+1,6,none⟩) (by dsimp only;omega) (.int .i64 aG)) (p:=⟨w.heap.size+1,7,none⟩) (by dsimp only;omega) (.int .i64 aD)) (p:=⟨w.heap.size+1,8,none⟩) (by dsimp only;omega) (.int .i64 aF)) (p:=⟨w.heap.size+1,9,none⟩) (by dsimp only;omega) (.slice q3 vs.length c3)) (by omega),bK (cH (cH (cH (cH (cH (cH (cH (cH (cH (cH (cH aa (p:=⟨w.heap.size+1+1,9,none⟩) (by dsimp only;omega) (.slice q3 vs.length c3)) (p:=⟨w.heap.size+1,0,none⟩) (by dsimp only;omega) (.int .i64 aA)) (p:=⟨w.heap.size+1,1,none⟩) (by dsimp only;omega) (.int .i64 aB)) (p:=⟨w.heap.size+1,2,none⟩) (by dsimp only;omega) (.slice p1 a.length c1)) (p:=⟨w.heap.size+1,3,none⟩) (by dsimp only;omega) (.int .i64 b)) (p:=⟨w.heap.size+1,4,none⟩) (by dsimp only;omega) (.int .i64 c)) (p:=⟨w.heap.size+1,5,none⟩) (by dsimp only;omega) (.int .i64 aE)) (p:=⟨w.heap.size+1,6,none⟩) (by dsimp only;omega) (.int .i64 aG)) (p:=⟨w.heap.size+1,7,none⟩) (by dsimp only;omega) (.int .i64 aD)) (p:=⟨w.heap.size+1,8,none⟩) (by dsimp only;omega) (.int .i64 aF)) (p:=⟨w.heap.size+1,9,none⟩) (by dsimp only;omega) (.slice q3 vs.length c3)) (by omega),(((((((((((ab.out.setCell (p:=⟨w.heap.size+1+1,9,none⟩) (by dsimp only;omega) (.slice q3 vs.length c3)).setCell (p:=⟨w.heap.size+1,0,none⟩) (by dsimp only;omega) (.int .i64 aA)).setCell (p:=⟨w.heap.size+1,1,none⟩) (by dsimp only;omega) (.int .i64 aB)).setCell (p:=⟨w.heap.size+1,2,none⟩) (by dsimp only;omega) (.slice p1 a.length c1)).setCell (p:=⟨w.heap.size+1,3,none⟩) (by dsimp only;omega) (.int .i64 b)).setCell (p:=⟨w.heap.size+1,4,none⟩) (by dsimp only;omega) (.int .i64 c)).setCell (p:=⟨w.heap.size+1,5,none⟩) (by dsimp only;omega) (.int .i64 aE)).setCell (p:=⟨w.heap.size+1,6,none⟩) (by dsimp only;omega) (.int .i64 aG)).setCell (p:=⟨w.heap.size+1,7,none⟩) (by dsimp only;omega) (.int .i64 aD)).setCell (p:=⟨w.heap.size+1,8,none⟩) (by dsimp only;omega) (.int .i64 aF)).setCell (p:=⟨w.heap.size+1,9,none⟩) (by dsimp only;omega) (.slice q3 vs.length c3))⟩
set_option linter.unusedSimpArgs false
abbrev aL:TypeId:=30
theorem tO:ElT Tryz.prog 28 TV 4:=
 ⟨Tryz.underlying28,by
  obtain⟨i,hi,h0,h1,h2⟩:=info_parts (show(Tryz.prog.info? TV).map (fun i=>(i.zero,i.size,i.bytes))=some (some (.agg #[(),(),(),()]),4,32) by kernel_rfl)
  exact⟨i,_,hi,h0,h1,by omega,rfl⟩,by omega⟩
theorem eF (vs:List aQ): ∀u∈vs.flatMap aC,u.oneCell'=true:=by intro u hu;obtain⟨v,_,hv⟩:=List.mem_flatMap.1 hu;simp only[aC,List.mem_cons,List.not_mem_nil,or_false]at hv;rcases hv with rfl|rfl|rfl|rfl<;>rfl
theorem rJ (v:aQ): ∀u∈aC v,u.oneCell'=true:=by intro u hu;simp only[aC,List.mem_cons,List.not_mem_nil,or_false]at hu;rcases hu with rfl|rfl|rfl|rfl<;>rfl
theorem aJ3 (aA aB a b aE aG aD aF:Int)(p:OA)(n cap:Nat)(q:OA)(m c2:Nat)(xs:List Int)(vs:List aQ)(w:World)(hm:m≤1000)(hS:Hid (Sl w q m c2 4 (vs.flatMap aC)))
  (HL:xC 81 #[aH aA aB p n cap] w fun w' e w''=> ∃q c,e= .returned (aH aA aB q n c)∧w''.ownsRow w'.heap.size TI 1 (.slice q n c) n (ivs xs)∧Ext w' w''):
  Calls Tryz.prog 37 #[.agg #[aA,aB,.slice p n cap,a,b,aE,aG,aD,aF,.slice q m c2]] w fun e w'=> ∃p' cap' q' c2',e= .returned (.agg #[aA,aB,.slice p' n cap',a,b,aE,aG,aD,aF,.slice q' m c2'])∧w'.ownsRow w.heap.size TI 1 (.slice p' n cap') n (ivs xs)∧w'.ownsRow w.heap.size TV 4 (.slice q' m c2') m (vs.flatMap aC)∧Ext w w':=by
 go_enter Tryz.func37,Tryz.ntmps37;go_wp2_with fail;refine(HL _ ((((Mem.start w).c0 aL #[aA,aB,.slice p n cap,a,b,aE,aG,aD,aF,.slice q m c2]).c1 aL zT).c2 aL #[aA,aB,.slice p n cap,a,b,aE,aG,aD,aF,.slice q m c2]).ext).mono ?_;rintro e w1 ⟨q0,c0,rfl,y,aa⟩;have M1:=(((((Mem.start w).c0 aL #[aA,aB,.slice p n cap,a,b,aE,aG,aD,aF,.slice q m c2]).c1 aL zT).c2 aL #[aA,aB,.slice p n cap,a,b,aE,aG,aD,aF,.slice q m c2]).call aa y)
 have j:=M1.hi 1;have k:=M1.hi 2;have l:=M1.hi 3;clear aa y;have c9:=(M1.bk 3).cl 9;have d0:=(M1.bk 1).cl 0;have ad:=(M1.bk 1).frozen 0;have d1:=(M1.bk 1).cl 1;have ae:=(M1.bk 1).frozen 1;have d2:=(M1.bk 1).cl 2;have af:=(M1.bk 1).frozen 2
 go_wp2_with (at_builtin;refine cR tO rfl _ _ rfl ((((M1.store (i:=1) rfl 0 (.int .i64 aA)).store (i:=1) rfl 1 (.int .i64 aB)).store (i:=1) rfl 2 (.slice q0 n c0)).made0 TV 4 (w1.heap.size) (by simp)) 0 rfl rfl (vs.flatMap aC) rfl (hS.out.ext ((((M1.store (i:=1) rfl 0 (.int .i64 aA)).store (i:=1) rfl 1 (.int .i64 aB)).store (i:=1) rfl 2 (.slice q0 n c0)).made0 TV 4 (w1.heap.size) (by simp)).ext) (eF vs) (by omega) ?_;intro q7 c7 w6 x;have M6:=xQ (show Mem w w6 [aI w.heap.size TV 4 (q7) (m) (c7) (vs.flatMap aC),aI w.heap.size TI 1 (q0) (n) (c0) (ivs xs),aJ w.heap.size (w.heap.size+1+1) aL #[aA,aB,.slice q0 n c0,a,b,aE,aG,aD,aF,.slice q m c2],aJ w.heap.size (w.heap.size+1) aL #[(),(),((),()),(),(),(),(),(),(),((),())],aJ w.heap.size (w.heap.size) aL #[aA,aB,.slice p n cap,a,b,aE,aG,aD,aF,.slice q m c2]]from by have:=(show Mem w w6 [aI w.heap.size TV 4 (q7) (0+m) (c7) ([]++vs.flatMap aC),aI w.heap.size TI 1 (q0) (n) (c0) (ivs xs),aJ w.heap.size (w.heap.size+1+1) aL #[aA,aB,.slice q0 n c0,a,b,aE,aG,aD,aF,.slice q m c2],aJ w.heap.size (w.heap.size+1) aL #[(),(),((),()),(),(),(),(),(),(),((),())],aJ w.heap.size (w.heap.size) aL #[aA,aB,.slice p n cap,a,b,aE,aG,aD,aF,.slice q m c2]]from x);simpa only[Nat.zero_add,List.nil_append]using this);clear x c9 d0 ad d1 ae d2 af M1 j k l;(have f:w.heap.size+1+1<w6.heap.size:=(M6.out.hi 2));(have g:w.heap.size+1<w6.heap.size:=(M6.out.hi 3));(have h:w.heap.size<w6.heap.size:=(M6.out.hi 4));(obtain⟨x0,x1,x2,x3,x4,x5,x6,x7,x8,x9⟩:=(M6.out.bk 2).ten);(have ag:w6.cell? ⟨w.heap.size+1+1,9,none⟩=some (.slice q m c2):=(M6.out.bk 2).cell 9);(have ab:w6.frozen? ⟨w.heap.size+1+1,9,none⟩=false:=(M6.out.bk 2).frozen 9);(obtain⟨y0,yf0,y1,yf1,y2,yf2,y3,yf3,y4,yf4,y5,yf5,y6,yf6,y7,yf7,y8,yf8,y9,yf9⟩:=(M6.out.bk 3).tenf))
 have o:=(((M6.out.st 2 9 (.slice q7 m c7)).st 3 0 (.int .i64 aA)).st 3 1 (.int .i64 aB))
 have r:=((o.st 3 2 (.slice q0 n c0)).st 3 3 (.int .i64 a))
 have s:=((r.st 3 4 (.int .i64 b)).st 3 5 (.int .i64 aE))
 have t:=((s.st 3 6 (.int .i64 aG)).st 3 7 (.int .i64 aD))
 have u:=((t.st 3 8 (.int .i64 aF)).st 3 9 (.slice q7 m c7))
 clear x0 x1 x2 x3 x4 x5 x6 x7 x8 x9 ag ab y0 yf0 y1 yf1 y2 yf2 y3 yf3 y4 yf4 y5 yf5 y6 yf6 y7 yf7 y8 yf8 y9 yf9 f g h;have d:=(show Mem w (((((((((((w6.setCell ⟨w.heap.size+1+1,9,none⟩ (.slice q7 m c7)).setCell ⟨w.heap.size+1,0,none⟩ (.int .i64 aA)).setCell ⟨w.heap.size+1,1,none⟩ (.int .i64 aB)).setCell ⟨w.heap.size+1,2,none⟩ (.slice q0 n c0)).setCell ⟨w.heap.size+1,3,none⟩ (.int .i64 a)).setCell ⟨w.heap.size+1,4,none⟩ (.int .i64 b)).setCell ⟨w.heap.size+1,5,none⟩ (.int .i64 aE)).setCell ⟨w.heap.size+1,6,none⟩ (.int .i64 aG)).setCell ⟨w.heap.size+1,7,none⟩ (.int .i64 aD)).setCell ⟨w.heap.size+1,8,none⟩ (.int .i64 aF)).setCell ⟨w.heap.size+1,9,none⟩ (.slice q7 m c7)) [aI w.heap.size TV 4 (q7) (m) (c7) (vs.flatMap aC),aI w.heap.size TI 1 (q0) (n) (c0) (ivs xs),aJ w.heap.size (w.heap.size+1+1) aL #[aA,aB,.slice q0 n c0,a,b,aE,aG,aD,aF,.slice q7 m c7],aJ w.heap.size (w.heap.size+1) aL #[aA,aB,.slice q0 n c0,a,b,aE,aG,aD,aF,.slice q7 m c7],aJ w.heap.size (w.heap.size) aL #[aA,aB,.slice p n cap,a,b,aE,aG,aD,aF,.slice q m c2]]from u)
 generalize z:World.setCell _ _ _=wz;rw[z]at d;clear z M6 o r s t u;obtain⟨y0,y1,y2,y3,y4,y5,y6,y7,y8,y9⟩:=(d.bk 3).ten;exact bodyPost_ret (v:= .agg #[aA,aB,.slice q0 n c0,a,b,aE,aG,aD,aF,.slice q7 m c7]) (by simp[results,Tryz.results37,go_sem, *]) rfl ⟨q0,c0,q7,c7,rfl,(d.ow 1),by have:=(d.ow 0);simpa using this,d.ext⟩
theorem pP (h:aW)(p:OA)(n cap:Nat)(q:OA)(m c2:Nat)(w:World)(hn:n≤1000)(hm:m≤1000)(hi:IsHouse w h p n cap q m c2):
  Calls Tryz.prog 37 #[cA h p n cap q m c2] w (RetHouse h w):=by
 have hl:=hi.clen;have d:=hi.vlen;refine(aJ3 h.aA h.aB h.free h.step h.aE h.aG h.aD h.aF p n cap q m c2 h.cells h.vs w hm (xQ hi.vs) (xQ fun w' hx=> ?_)).mono ?_
 ·refine(fG h.aA h.aB p n cap h.cells w' (by omega) (hi.cells.ext hx)).mono ?_;rintro e g ⟨q,c,rfl,ho,f⟩;rw[hl]at ho⊢;exact⟨q,c,rfl,ho,f⟩
 rintro e w' ⟨p',a,q',b,rfl,h1,h2,h3⟩;subst hl d;exact⟨p',a,q',b,rfl,h1,h2,h3⟩
def kH (v:aQ)(vs:List aQ):List aQ:=vs.takeWhile (fun u=>decide (u.1<v.1))++v::vs.dropWhile (fun u=>decide (u.1<v.1))
theorem qJ (v:aQ): ∀(vs:List aQ) (k:Nat),(∀u∈vs.take k,u.1<v.1)→(∀u,vs[k]? =some u→ ¬u.1<v.1)→kH v vs=vs.take k++v::vs.drop k
 | [],k,_,_=>by simp[kH]
 |u::vs,0,_,h2=>by simp[kH,h2 u (by simp)]
 |u::vs,k+1,h1,h2=>by have h:=qJ v vs k (fun z hz=>h1 z (by simp[hz])) (fun z hz=>h2 z (by simpa using hz));have hu:u.1<v.1:=h1 u (by simp);simp only[kH]at h⊢;simp[hu,h]
theorem jX: ∀(k:Nat) (vs:List aQ),(vs.flatMap aC).drop (k*4)=(vs.drop k).flatMap aC
 |0,vs=>by simp
 |k+1,[]=>by simp
 |k+1,v::vs=>by rw[List.flatMap_cons,show(k+1)*4=(aC v).length+k*4 by simp[aC];omega,List.drop_length_add_append,jX k vs];rfl
theorem aBn {w:World}{b a n cap sz k:Nat}{xs:List Value}(h:Sl w (some ⟨b,a,none⟩) n cap sz xs)(hk:k≤n):Sl w (some ⟨b,a+k*sz,none⟩) (n-k) (cap-k) sz (xs.drop (k*sz)):=by have hl:=h.len;have d:=h.le;have f:=h.mx;refine⟨by rw[List.length_drop,hl,Nat.sub_mul],by omega,by omega,fun h0=> ?_⟩;obtain⟨b',c,e,hb,hc⟩:=h.rd (by omega);injection e with e;injection e with e1 e2;subst e1 e2;refine⟨_,_,rfl,hb,fun j hj=> ?_⟩;rw[Nat.add_assoc,hc (k*sz+j) (by rw[Nat.sub_mul]at hj;omega)];simp
theorem aHc (id a1 a2 a3:Int)(q:OA)(m c2:Nat)(vs:List aQ)(w:World)(hm:m≤1000)(hS:Sl w q m c2 4 (vs.flatMap aC)):
  Calls Tryz.prog 83 #[.slice q m c2,.agg #[id,a1,a2,a3]] w fun e w'=> ∃q' c',e= .returned (.slice q' (m+1) c')∧w'.ownsRow w.heap.size TV 4 (.slice q' (m+1) c') (m+1) ((kH (id,a1,a2,a3) vs).flatMap aC)∧Ext w w':=by
 have hl:Hid (vs.length=m):=by have:=hS.len;rw[cX aC 4 (fun _=>rfl)]at this;exact(by omega:vs.length=m)
 have p:=hS.le;have HS:=xQ hS;clear hS;have n:=xQ (((Mem.start w).c0 TV #[id,a1,a2,a3]).made0 TV 4 (w.heap.size+1) (by simp));go_enter Tryz.func83,Tryz.ntmps83;go_wp2;go_loopw [5,6] (fun v i wr=> ∃(k:Nat) (q5:OA) (c5:Nat),k≤m∧i= .int .i64 k∧v= .slice q5 k c5∧(∀u∈vs.take k,u.1<id)∧Mem w wr [aI w.heap.size TV 4 (q5) (k) (c5) ((vs.take k).flatMap aC),aJ w.heap.size (w.heap.size) TV #[id,a1,a2,a3]]) (fun _ i _=>m-(intOf i).toNat)
 case atStart=>exact⟨0,some ⟨w.heap.size+1,0,none⟩,0,Nat.zero_le _,rfl,rfl,by simp,n.out⟩
 case round=>
  clear n;obtain⟨k,q5,c5,hk,rfl,rfl,j,hM⟩:=hrel;have HM:=hM;have HL:=xQ j;clear hM j;by_cases hlt:k<m
  ·obtain⟨b,t,c0,c1,c4,c3,rfl,hx,hb,g0,g1,g2,g3⟩:=eN (HS.out.ext HM.ext) hlt;have g:w.heap.size<wr.heap.size:=(HM.hi 1)
   have b0:=(HM.bk 1).cl 0;have b1:=(HM.bk 1).cl 1;have b2:=(HM.bk 1).cl 2;have b3:=(HM.bk 1).cl 3;have HX:=xQ hx;clear hx;have i1:(0:Int)≤(k:Int):=by omega
   have i2:(k:Int)<(m:Int):=by omega
   have i3:(k:Int)≤(m:Int):=by omega
   by_cases hy:c0<id
   ·have c:Hid (∀z∈vs.take (k+1),z.1<id):=by
     show∀z∈vs.take (k+1),z.1<id;rw[bI HX.out];intro z hz;rcases List.mem_append.1 hz with h|h
     ·exact HL z h
     simp at h;subst h;exact hy
    have hd:decide (c0<id)=true:=by simp[hy]
    go_wp2;go_quiet (fail);generalize d:World.drewN wr _=wi;have hX:Ext wr wi:=by rw[←d];exact Ext.drewN (Ext.refl _) _
    clear d b0 b1 b2 b3 g hd;have a:=(HM.adv hX)
    clear HM;have f:=a.hi 1;have d0:=(a.bk 1).cl 0;have d1:=(a.bk 1).cl 1;have d2:=(a.bk 1).cl 2;have d3:=(a.bk 1).cl 3;have e0:=(hX.cells.1 _ _ hb).trans g0;have e1:=(hX.cells.1 _ _ hb).trans g1;have e2:=(hX.cells.1 _ _ hb).trans g2;have e3:=(hX.cells.1 _ _ hb).trans g3;have r:b<wi.heap.size:=Nat.lt_of_lt_of_le hb hX.sz;clear hX g0 g1 g2 g3 hb;go_wp2_with (at_builtin;go_loud (refine cR tO rfl _ _ rfl (a.adv ((Ext.refl _).alloc (.cells #[c0,c1,c4,c3] TV))) 0 rfl rfl (aC (c0,c1,c4,c3)) rfl (eU _ _ _ 1 4 _ (by simp) (by simp) (by simp[maxLen])) (rJ _) (by omega) ?_;intro q7 c7 w6 M6));have M7:=(show Mem w w6 [aI w.heap.size TV 4 (q7) (k+1) (c7) ((vs.take k).flatMap aC++aC (c0,c1,c4,c3)),aJ w.heap.size (w.heap.size) TV #[id,a1,a2,a3]]from M6)
    have l:Hid ((vs.take k).flatMap aC++aC (c0,c1,c4,c3)=(vs.take (k+1)).flatMap aC):=by show _=_;rw[bI HX.out,List.flatMap_append];simp
    rw[l.out]at M7;clear l M6;go_roundw
    case rel=>exact⟨k+1,q7,c7,by omega,by go_num,rfl,c.out,M7⟩
    case measure=>simp[intOf];omega
   have c:Hid (kH (id,a1,a2,a3) vs=vs.take k++(id,a1,a2,a3)::vs.drop k):=qJ _ vs k HL (fun z hz=>by rw[HX.out]at hz;injection hz with hz;subst hz;exact hy);have s: ¬c2=k:=by omega
   have hd:decide (c0<id)=false:=by simp[hy]
   clear HX HL;go_wp2;go_quiet (fail);generalize d:World.drewN wr _=wi;have hX:Ext wr wi:=by rw[←d];exact Ext.drewN (Ext.refl _) _
   clear d b0 b1 b2 b3 g hd;have a:=(HM.adv hX)
   clear HM;have f:=a.hi 1;have d0:=(a.bk 1).cl 0;have d1:=(a.bk 1).cl 1;have d2:=(a.bk 1).cl 2;have d3:=(a.bk 1).cl 3;clear hX g0 g1 g2 g3 hb hy;go_wp2
   go_region_law ((first
    |(refine gG tO (by rfl) _ _ (by rfl) (a.adv (by exact .drew (.alloc (.refl _) _))) 0 (by rfl) (by rfl) (aC (id,a1,a2,a3)) (by rfl) (by first|exact eU wi #[id,a1,a2,a3] _ 1 4 _ rfl (by simp) (by simp[maxLen])|exact(eU wi #[id,a1,a2,a3] _ 1 4 _ rfl (by simp) (by simp[maxLen])).ext (Ext.drew (Ext.refl _))|exact eU wi.drew #[id,a1,a2,a3] _ 1 4 _ rfl (by simp) (by simp[maxLen])) (rJ _) (by omega) ?_
      intro q7 c7 w6 M6;have M7:=(show Mem w w6 [aI w.heap.size TV 4 (q7) (k+1) (c7) ((vs.take k).flatMap aC++aC (id,a1,a2,a3)),aJ w.heap.size (w.heap.size) TV #[id,a1,a2,a3]]from M6)
      clear M6)
    |(refine gG tO (by rfl) _ _ (by rfl) (M7.adv (by exact .refl _)) 0 (by rfl) (by rfl) ((vs.drop k).flatMap aC) (by rfl) (jX k vs▸aBn (HS.out.ext (M7.ext.trans (by exact .refl _))) (by omega)) (eF _) (by omega) ?_
      intro q9 c9 w9 M9
      have M9:=xQ (show Mem w w9 [aI w.heap.size TV 4 (q9) (k+1+(m-k)) (c9) (((vs.take k).flatMap aC++aC (id,a1,a2,a3))++(vs.drop k).flatMap aC),aJ w.heap.size (w.heap.size) TV #[id,a1,a2,a3]]from M9))))
   all_goals (
    have e1:k+1+(m-k)=m+1:=by omega
    have e2:((vs.take k).flatMap aC++aC (id,a1,a2,a3))++(vs.drop k).flatMap aC=(vs.take k++(id,a1,a2,a3)::vs.drop k).flatMap aC:=by simp
    have MZ:=(show Mem w w9 [aI w.heap.size TV 4 (q9) (m+1) (c9) ((vs.take k++(id,a1,a2,a3)::vs.drop k).flatMap aC),aJ w.heap.size (w.heap.size) TV #[id,a1,a2,a3]]from by have:=M9.out;rw[e2]at this;simpa only[e1]using this)
    clear e2 M9 M7)
   all_goals go_wp2
   all_goals exact bodyPost_ret (v:= .slice q9 (m+1) c9) (by simp[results,Tryz.results83,go_sem, *]) rfl ⟨q9,c9,rfl,by rw[c.out];exact MZ.ow 0,MZ.ext⟩
  obtain rfl:k=m:=by omega
  have g:w.heap.size<wr.heap.size:=(HM.hi 1)
  have b0:=(HM.bk 1).cl 0;have b1:=(HM.bk 1).cl 1;have b2:=(HM.bk 1).cl 2;have b3:=(HM.bk 1).cl 3;have c:Hid (kH (id,a1,a2,a3) vs=vs.take k++(id,a1,a2,a3)::vs.drop k):=qJ _ vs k HL (fun z hz=>by rw[List.getElem?_eq_none (by rw[hl.out];exact Nat.le_refl _)]at hz;cases hz);have o:Hid (vs.drop k= []):=List.drop_eq_nil_of_le (by rw[hl.out];exact Nat.le_refl _);have i1:(0:Int)≤(k:Int):=by omega
  clear HL;go_wp2;go_quiet (fail);generalize d:World.drewN wr _=wi;have hX:Ext wr wi:=by rw[←d];exact Ext.drewN (Ext.refl _) _
  clear d b0 b1 b2 b3 g;have a:=(HM.adv hX)
  clear HM;have f:=a.hi 1;have d0:=(a.bk 1).cl 0;have d1:=(a.bk 1).cl 1;have d2:=(a.bk 1).cl 2;have d3:=(a.bk 1).cl 3;clear hX;go_wp2
  go_region_law ((first
   |(refine gG tO (by rfl) _ _ (by rfl) (a.adv (by exact .drew (.alloc (.refl _) _))) 0 (by rfl) (by rfl) (aC (id,a1,a2,a3)) (by rfl) (by first|exact eU wi #[id,a1,a2,a3] _ 1 4 _ rfl (by simp) (by simp[maxLen])|exact(eU wi #[id,a1,a2,a3] _ 1 4 _ rfl (by simp) (by simp[maxLen])).ext (Ext.drew (Ext.refl _))|exact eU wi.drew #[id,a1,a2,a3] _ 1 4 _ rfl (by simp) (by simp[maxLen])) (rJ _) (by omega) ?_
     intro q7 c7 w6 M6;have M7:=(show Mem w w6 [aI w.heap.size TV 4 (q7) (k+1) (c7) ((vs.take k).flatMap aC++aC (id,a1,a2,a3)),aJ w.heap.size (w.heap.size) TV #[id,a1,a2,a3]]from M6)
     clear M6)
   |(refine gG tO (by rfl) _ _ (by rfl) (M7.adv (by exact .refl _)) 0 (by rfl) (by rfl) (([]:List aQ).flatMap aC) (by rfl) (⟨by simp,Nat.zero_le _,by have:=HS.out.mx;omega,fun h=>absurd h (by omega)⟩) (eF _) (by omega) ?_
     intro q9 c9 w9 M9
     have M9:=xQ (show Mem w w9 [aI w.heap.size TV 4 (q9) (k+1+0) (c9) (((vs.take k).flatMap aC++aC (id,a1,a2,a3))++([]:List aQ).flatMap aC),aJ w.heap.size (w.heap.size) TV #[id,a1,a2,a3]]from M9))))
  all_goals (
   have e1:k+1+0=k+1:=by omega
   have e2:((vs.take k).flatMap aC++aC (id,a1,a2,a3))++([]:List aQ).flatMap aC=(vs.take k++(id,a1,a2,a3)::vs.drop k).flatMap aC:=by simp[o.out]
   have MZ:=(show Mem w w9 [aI w.heap.size TV 4 (q9) (k+1) (c9) ((vs.take k++(id,a1,a2,a3)::vs.drop k).flatMap aC),aJ w.heap.size (w.heap.size) TV #[id,a1,a2,a3]]from by have:=M9.out;rw[e2]at this;simpa only[e1]using this)
   clear e2 M9 M7)
  all_goals go_wp2
  all_goals exact bodyPost_ret (v:= .slice q9 (k+1) c9) (by simp[results,Tryz.results83,go_sem, *]) rfl ⟨q9,c9,rfl,by rw[c.out];exact MZ.ow 0,MZ.ext⟩
end Go.Proofs.YtpelpnfhbepokaaGreatDoor
