/-
  Texts of this proof, packed (@packed).
-/
import Derived.Test.YtgnkoffndhmhpaaGreatDoorR1
import Derived.Test.YtgnkoffndhmhpaaGreatDoorR4
import Derived.Test.YtgnkoffndhmhpaaGreatDoorR22
import Derived.Test.YtgnkoffndhmhpaaGreatDoorR24
namespace Go.Proofs.YtgnkoffndhmhpaaGreatDoor
open Go.RowKit
set_option linter.unusedVariables false
set_option linter.unusedSimpArgs false
set_option maxHeartbeats 8000000
set_option maxRecDepth 100000
theorem wG {W0 wr:World}{B:Nat}(hg:W0.grownBy wr (some B))(o:Nat)(v:Value):W0.grownBy (wr.setCell ⟨B,o,none⟩ v) (some B):=
 ⟨hg.os,hg.tape,hg.output,by simpa using hg.size,fun k hk hne=>by
  rw[Below.heap_setCell _ _ _ _ (fun e=>hne (by simp[e]))];exact hg.block k hk hne⟩
def ChgE (e:TypeId)(B T:Nat)(w w':World):Prop:= ∃row,w.grownBy w' row∧ ∀g,row=some g→B≤g∧g<T∧ ∃cur,w.heap[g]? =some (.cells cur e (0,0))
theorem ChgE.chg {e:TypeId}{B T:Nat}{w w':World}(h:ChgE e B T w w'):Chg B T w w':=by
 obtain⟨row,hg,hr⟩:=h
 exact Chg.of_grown hg (fun g e=>⟨(hr g e).1,(hr g e).2.1⟩)
theorem Blk.chg {w w':World}{g B T:Nat}{t:TypeId}{cs:Array Value}(h:Blk w g t cs)(hc:Chg B T w w')(hd:g<B∨T≤g):Blk w' g t cs:=(hc.block g h.lt hd).trans h
theorem vO (g n cap base:Nat)(xs:List Value)(K0:Int)(w:World)(hn2:n≤1099511627776)(h0:0≤K0)(h1:K0≤4611686018427387904)
  (HO:Hid (w.ownsRow base TI 1 (.slice (some ⟨g,0,none⟩) n cap) n xs)):
  Calls Tryz.prog 102 #[.slice (some ⟨g,0,none⟩) n cap,K0] w fun e w'=>e= .returned (.int .i64 (K0+(n*1:Nat)))∧w'.ownsRow base TI 1 (.slice (some ⟨g,0,none⟩) n cap) n (aU K0 (n*1))∧w.grownBy w' (some g):=by
 go_enter Tryz.func102,Tryz.ntmps102
 go_wp2
 go_loopw [1,5] (fun kk i wr=> ∃(k:Nat) (K:Int) (rest:List Value),k≤n∧kk= .int .i64 K∧i= .int .i64 k∧K=K0+(k*1:Nat)∧rest.length=(n-k)*1∧wr.ownsRow base TI 1 (.slice (some ⟨g,0,none⟩) n cap) n (aU K0 (k*1)++rest)∧w.grownBy wr (some g)) (fun _ i _=>n-(intOf i).toNat)
 case atStart=>exact⟨0,K0,xs,Nat.zero_le _,rfl,rfl,by simp,by rw[HO.out.1];simp,by simpa[aU]using HO.out,World.grownBy.refl _ _⟩
 case round=>
  obtain⟨k,K,rest,hk,rfl,rfl,hK,hrl,hown,hg⟩:=hrel
  have hK1:0≤K:=by omega
  have hK2:K≤4611697013543665664:=by omega
  have HK:=xQ hK
  have HOWN:=xQ hown
  have HRL:=xQ hrl
  have HG:=xQ hg
  clear hK hown hrl hg
  by_cases hlt:k<n
  ·obtain⟨r0,rest',hrest⟩: ∃r0 rest',rest=r0::rest':=by
    have h3:1≤rest.length:=by
     rw[HRL.out]
     have:=Nat.mul_le_mul_right 1 (show 1≤n-k by omega)
     omega
    match rest,h3 with
    |r0::rest',_=>exact⟨r0,rest',rfl⟩
   have hpl:(aU K0 (k*1)).length=k*1:=eY _ _
   have o0:wr.cell? ⟨g,k,none⟩=some r0:=by rw[HOWN.out.cellAt _ (by have:=Nat.mul_le_mul_right 1 hlt;rw[Nat.succ_mul]at this;omega),hrest,List.getElem?_append_right (by omega),hpl];simp
   have f0:wr.frozen? ⟨g,k,none⟩=false:=HOWN.out.frozenAt _
   have HPL:=xQ hpl
   have HREST:=xQ hrest
   clear hpl hrest
   go_wp2
   go_roundw
   case rel=>
    refine⟨k+1,K+1,rest',by omega,by go_num,by go_num,by rw[HK.out];omega,?_,?_,?_⟩
    ·have:=HRL.out
     rw[HREST.out]at this
     simp only[List.length_cons]at this
     have e2:n-k=(n-(k+1))+1:=by omega
     rw[e2,Nat.succ_mul]at this
     omega
    ·have hs:=(HOWN.out.stored (k) (.int .i64 (K))).1
     have e:((aU K0 (k*1)++rest).set (k) (.int .i64 (K)))=aU K0 ((k+1)*1)++rest':=by
      rw[yJ,HREST.out,←HK.out]
      have:=HPL.out
      try simp only[Nat.mul_one]at this
      simp[this]
     rw[e]at hs
     exact hs
    ·exact(wG HG.out _ _)
   case measure=>simp[intOf];omega
  ·obtain rfl:k=n:=by omega
   have e2:rest= []:=List.eq_nil_of_length_eq_zero (by rw[HRL.out];simp)
   have HE2:=xQ e2
   clear e2
   go_wp2
   go_ret
   refine⟨dL (by simpa using HK.out),?_,HG.out⟩
   have:=HOWN.out
   rw[HE2.out]at this
   simpa using this
theorem vN (p:OA)(cap:Nat)(K0:Int)(w:World):
  Calls Tryz.prog 102 #[.slice p 0 cap,K0] w fun e w'=>e= .returned (.int .i64 K0)∧w=w':=by
 go_enter Tryz.func102,Tryz.ntmps102
 go_wp2
 go_rounds 1
 go_ret
 exact⟨rfl,rfl⟩
theorem wE (b off n cap:Nat)(K0:Int)(w:World)(hn2:n≤1099511627776)(h0:0≤K0)(h1:K0≤4611686018427387904)
  (HR:Hid (∀j,j<n*1→w.cell? ⟨b,off+j,none⟩=some (.int .i64 (K0+j)))):
  Calls Tryz.prog 103 #[.slice (some ⟨b,off,none⟩) n cap,K0] w fun e w'=>e= .returned (.int .i64 (K0+(n*1:Nat)))∧w=w':=by
 go_enter Tryz.func103,Tryz.ntmps103
 go_wp2
 go_loop [1,5] (fun kk i=> ∃(k:Nat) (K:Int),k≤n∧kk= .int .i64 K∧i= .int .i64 k∧K=K0+(k*1:Nat)) (fun _ i=>n-(intOf i).toNat)
 case atStart=>exact⟨0,K0,Nat.zero_le _,rfl,rfl,by simp⟩
 case round=>
  obtain⟨k,K,hk,rfl,rfl,hK⟩:=hrel
  have hK1:0≤K:=by omega
  have hK2:K≤4611697013543665664:=by omega
  by_cases hlt:k<n
  ·have hmul:=Nat.mul_le_mul_right 1 hlt
   rw[Nat.succ_mul]at hmul
   have v0:w.cell? ⟨b,off+k,none⟩=some (.int .i64 (K)):=by have:=HR.out (k) (by omega);rw[show(K:Int)=K0+((k:Nat):Int) by omega];exact this
   have HK:=xQ hK
   clear hK hmul
   go_wp2
   go_round
   case rel=>exact⟨k+1,K+1,by omega,by go_num,by go_num,by rw[HK.out];omega⟩
   case measure=>simp[intOf];omega
  ·obtain rfl:k=n:=by omega
   have HK:=xQ hK
   clear hK
   go_wp2
   go_ret
   exact⟨dL (by simpa using HK.out),rfl⟩
theorem wD (p:OA)(cap:Nat)(K0:Int)(w:World):
  Calls Tryz.prog 103 #[.slice p 0 cap,K0] w fun e w'=>e= .returned (.int .i64 K0)∧w=w':=by
 go_enter Tryz.func103,Tryz.ntmps103
 go_wp2
 go_rounds 1
 go_ret
 exact⟨rfl,rfl⟩
theorem rV (g n cap base:Nat)(xs:List Value)(K0:Int)(w:World)(hn2:n≤1099511627776)(h0:0≤K0)(h1:K0≤4611686018427387904)
  (HO:Hid (w.ownsRow base TV 4 (.slice (some ⟨g,0,none⟩) n cap) n xs)):
  Calls Tryz.prog 57 #[.slice (some ⟨g,0,none⟩) n cap,K0] w fun e w'=>e= .returned (.int .i64 (K0+(n*4:Nat)))∧w'.ownsRow base TV 4 (.slice (some ⟨g,0,none⟩) n cap) n (aU K0 (n*4))∧w.grownBy w' (some g):=by
 go_enter Tryz.func57,Tryz.ntmps57
 go_wp2
 go_loopw [1,5] (fun kk i wr=> ∃(k:Nat) (K:Int) (rest:List Value),k≤n∧kk= .int .i64 K∧i= .int .i64 k∧K=K0+(k*4:Nat)∧rest.length=(n-k)*4∧wr.ownsRow base TV 4 (.slice (some ⟨g,0,none⟩) n cap) n (aU K0 (k*4)++rest)∧w.grownBy wr (some g)) (fun _ i _=>n-(intOf i).toNat)
 case atStart=>exact⟨0,K0,xs,Nat.zero_le _,rfl,rfl,by simp,by rw[HO.out.1];simp,by simpa[aU]using HO.out,World.grownBy.refl _ _⟩
 case round=>
  obtain⟨k,K,rest,hk,rfl,rfl,hK,hrl,hown,hg⟩:=hrel
  have hK1:0≤K:=by omega
  have hK2:K≤4611697013543665664:=by omega
  have HK:=xQ hK
  have HOWN:=xQ hown
  have HRL:=xQ hrl
  have HG:=xQ hg
  clear hK hown hrl hg
  by_cases hlt:k<n
  ·obtain⟨r0,r1,r2,r3,rest',hrest⟩: ∃r0 r1 r2 r3 rest',rest=r0::r1::r2::r3::rest':=by
    have h3:4≤rest.length:=by
     rw[HRL.out]
     have:=Nat.mul_le_mul_right 4 (show 1≤n-k by omega)
     omega
    match rest,h3 with
    |r0::r1::r2::r3::rest',_=>exact⟨r0,r1,r2,r3,rest',rfl⟩
   have hpl:(aU K0 (k*4)).length=k*4:=eY _ _
   have o0:wr.cell? ⟨g,k*4,none⟩=some r0:=by rw[HOWN.out.cellAt _ (by have:=Nat.mul_le_mul_right 4 hlt;rw[Nat.succ_mul]at this;omega),hrest,List.getElem?_append_right (by omega),hpl];simp
   have f0:wr.frozen? ⟨g,k*4,none⟩=false:=HOWN.out.frozenAt _
   have o1:wr.cell? ⟨g,k*4+1,none⟩=some r1:=by rw[HOWN.out.cellAt _ (by have:=Nat.mul_le_mul_right 4 hlt;rw[Nat.succ_mul]at this;omega),hrest,List.getElem?_append_right (by omega),hpl];simp
   have f1:wr.frozen? ⟨g,k*4+1,none⟩=false:=HOWN.out.frozenAt _
   have o2:wr.cell? ⟨g,k*4+2,none⟩=some r2:=by rw[HOWN.out.cellAt _ (by have:=Nat.mul_le_mul_right 4 hlt;rw[Nat.succ_mul]at this;omega),hrest,List.getElem?_append_right (by omega),hpl];simp
   have f2:wr.frozen? ⟨g,k*4+2,none⟩=false:=HOWN.out.frozenAt _
   have o3:wr.cell? ⟨g,k*4+3,none⟩=some r3:=by rw[HOWN.out.cellAt _ (by have:=Nat.mul_le_mul_right 4 hlt;rw[Nat.succ_mul]at this;omega),hrest,List.getElem?_append_right (by omega),hpl];simp
   have f3:wr.frozen? ⟨g,k*4+3,none⟩=false:=HOWN.out.frozenAt _
   have HPL:=xQ hpl
   have HREST:=xQ hrest
   clear hpl hrest
   go_wp2
   go_roundw
   case rel=>
    refine⟨k+1,K+1+1+1+1,rest',by omega,by go_num,by go_num,by rw[HK.out];omega,?_,?_,?_⟩
    ·have:=HRL.out
     rw[HREST.out]at this
     simp only[List.length_cons]at this
     have e2:n-k=(n-(k+1))+1:=by omega
     rw[e2,Nat.succ_mul]at this
     omega
    ·have hs:=((((HOWN.out.stored (k*4) (.int .i64 (K))).1.stored (k*4+1) (.int .i64 (K+1))).1.stored (k*4+2) (.int .i64 (K+1+1))).1.stored (k*4+3) (.int .i64 (K+1+1+1))).1
     have e:(((((aU K0 (k*4)++rest).set (k*4) (.int .i64 (K))).set (k*4+1) (.int .i64 (K+1))).set (k*4+2) (.int .i64 (K+1+1))).set (k*4+3) (.int .i64 (K+1+1+1)))=aU K0 ((k+1)*4)++rest':=by
      rw[yH,HREST.out,←HK.out]
      have:=HPL.out
      try simp only[Nat.mul_one]at this
      simp[this]
     rw[e]at hs
     exact hs
    ·exact(wG (wG (wG (wG HG.out _ _) _ _) _ _) _ _)
   case measure=>simp[intOf];omega
  ·obtain rfl:k=n:=by omega
   have e2:rest= []:=List.eq_nil_of_length_eq_zero (by rw[HRL.out];simp)
   have HE2:=xQ e2
   clear e2
   go_wp2
   go_ret
   refine⟨dL (by simpa using HK.out),?_,HG.out⟩
   have:=HOWN.out
   rw[HE2.out]at this
   simpa using this
theorem rU (p:OA)(cap:Nat)(K0:Int)(w:World):
  Calls Tryz.prog 57 #[.slice p 0 cap,K0] w fun e w'=>e= .returned (.int .i64 K0)∧w=w':=by
 go_enter Tryz.func57,Tryz.ntmps57
 go_wp2
 go_rounds 1
 go_ret
 exact⟨rfl,rfl⟩
theorem sG (b off n cap:Nat)(K0:Int)(w:World)(hn2:n≤1099511627776)(h0:0≤K0)(h1:K0≤4611686018427387904)
  (HR:Hid (∀j,j<n*4→w.cell? ⟨b,off+j,none⟩=some (.int .i64 (K0+j)))):
  Calls Tryz.prog 59 #[.slice (some ⟨b,off,none⟩) n cap,K0] w fun e w'=>e= .returned (.int .i64 (K0+(n*4:Nat)))∧w=w':=by
 go_enter Tryz.func59,Tryz.ntmps59
 go_wp2
 go_loop [1,5] (fun kk i=> ∃(k:Nat) (K:Int),k≤n∧kk= .int .i64 K∧i= .int .i64 k∧K=K0+(k*4:Nat)) (fun _ i=>n-(intOf i).toNat)
 case atStart=>exact⟨0,K0,Nat.zero_le _,rfl,rfl,by simp⟩
 case round=>
  obtain⟨k,K,hk,rfl,rfl,hK⟩:=hrel
  have hK1:0≤K:=by omega
  have hK2:K≤4611697013543665664:=by omega
  by_cases hlt:k<n
  ·have hmul:=Nat.mul_le_mul_right 4 hlt
   rw[Nat.succ_mul]at hmul
   have v0:w.cell? ⟨b,off+k*4,none⟩=some (.int .i64 (K)):=by have:=HR.out (k*4) (by omega);rw[show(K:Int)=K0+((k*4:Nat):Int) by omega];exact this
   have v1:w.cell? ⟨b,off+k*4+1,none⟩=some (.int .i64 (K+1)):=by have:=HR.out (k*4+1) (by omega);rw[show(K+1:Int)=K0+((k*4+1:Nat):Int) by omega];exact this
   have v2:w.cell? ⟨b,off+k*4+2,none⟩=some (.int .i64 (K+1+1)):=by have:=HR.out (k*4+2) (by omega);rw[show(K+1+1:Int)=K0+((k*4+2:Nat):Int) by omega];exact this
   have v3:w.cell? ⟨b,off+k*4+3,none⟩=some (.int .i64 (K+1+1+1)):=by have:=HR.out (k*4+3) (by omega);rw[show(K+1+1+1:Int)=K0+((k*4+3:Nat):Int) by omega];exact this
   have HK:=xQ hK
   clear hK hmul
   go_wp2
   go_round
   case rel=>exact⟨k+1,K+1+1+1+1,by omega,by go_num,by go_num,by rw[HK.out];omega⟩
   case measure=>simp[intOf];omega
  ·obtain rfl:k=n:=by omega
   have HK:=xQ hK
   clear hK
   go_wp2
   go_ret
   exact⟨dL (by simpa using HK.out),rfl⟩
theorem sF (p:OA)(cap:Nat)(K0:Int)(w:World):
  Calls Tryz.prog 59 #[.slice p 0 cap,K0] w fun e w'=>e= .returned (.int .i64 K0)∧w=w':=by
 go_enter Tryz.func59,Tryz.ntmps59
 go_wp2
 go_rounds 1
 go_ret
 exact⟨rfl,rfl⟩
theorem ChgE.pre {e:TypeId}{B T:Nat}{w a w':World}(h:ChgE e B T a w')(hx:Ext w a)(hT:T≤w.heap.size):ChgE e B T w w':=by
 obtain⟨row,hg,hr⟩:=h
 refine⟨row,⟨hg.os.trans hx.os,hg.tape.trans hx.tape,hg.output.trans hx.output,Nat.le_trans hx.size hg.size,fun i hi hne=>(hg.block i (Nat.lt_of_lt_of_le hi hx.size) hne).trans (hx.block i hi)⟩,fun g e=> ?_⟩
 obtain⟨h1,h2,cur,h3⟩:=hr g e
 exact⟨h1,h2,cur,by rw[←hx.block g (by omega)];exact h3⟩
end Go.Proofs.YtgnkoffndhmhpaaGreatDoor
namespace Go.Proofs.YtgnkoffndhmhpaaGreatDoor
open Go.RowKit
set_option linter.unusedVariables false
set_option linter.unusedSimpArgs false
theorem fM {h:aT}(hok:bK h=true):(h.vs.map (·.1)).Nodup∧h.vs.length≤12∧ ∀v∈h.vs,eM h.aC v=true:=by
 unfold bK at hok
 simp only[Bool.and_eq_true]at hok
 obtain⟨⟨⟨h1,h2⟩,h3⟩,h4⟩:=hok
 obtain⟨q1,q2⟩:=iX h4
 unfold aP at h1
 rw[Bool.and_eq_true]at h1
 have hc:=(eI _ _).1 h1.2
 have hb:=bR h1.1
 refine⟨?_,?_,q2⟩
 ·rw[q1];exact(iJ _).nodup_iff.2 hc.2.2
 ·have:=congrArg List.length q1
  rw[List.length_map,gC]at this
  have:=iK h.cells
  omega
theorem zS {h:aT}(hok:bK h=true){v:aQ}(hv:v∈h.vs):bH h.free h.step h.aE h.aF=true∧cP v.2.1 v.2.2.1 v.2.2.2=true∧v.2.2.2≤h.aC∧h.aC≤9999:=by
 have hv2:=(fM hok).2.2 v hv
 unfold bK at hok
 simp only[Bool.and_eq_true]at hok
 obtain⟨⟨⟨h1,h2⟩,h3⟩,h4⟩:=hok
 unfold eM at hv2
 unfold iV at h3
 simp at hv2 h3
 exact⟨h2,hv2.1,hv2.2,h3.2.1⟩
theorem aH9 {h:aT}(hok:bK h=true){v:aQ}(hv:v∈h.vs):0≤zT h v∧zT h v≤693:=by
 obtain⟨a,b,c,d⟩:=zS hok hv
 have e:=eS b
 unfold zT bT
 rw[a,b]
 have hf:=lY a (m:=h.aC-v.2.1) (by omega) (by omega)
 simp only[Bool.and_self,Bool.true_and,decide_eq_true_eq]
 rw[if_pos ⟨c,d⟩]
 omega
set_option maxHeartbeats 8000000
set_option maxRecDepth 100000
theorem zM {aA aB:Int}{xs:List Int}(h:aP aA aB xs=true):(cZ xs).length<xs.length↔(0:Int)∈xs:=by
 unfold aP at h
 rw[Bool.and_eq_true]at h
 have hc:=((eI _ _).1 h.2).1
 rw[gC]
 clear h
 induction xs with
 |nil=>simp[dA]
 |cons x xs ih=>
  have hx:=hc x (by simp)
  have:=ih (fun y hy=>hc y (by simp[hy]))
  have hle:=iK xs
  unfold dA at this hle⊢
  by_cases h0:0<x
  ·rw[List.filter_cons_of_pos (by simpa using h0)]
   simp only[List.length_cons,List.mem_cons]
   constructor
   ·intro h;exact .inr (this.1 (by omega))
   ·rintro(h|h)
    ·omega
    ·have:=this.2 h;omega
  ·rw[List.filter_cons_of_neg (by simpa using h0)]
   simp only[List.length_cons,List.mem_cons]
   constructor
   ·intro _;exact .inl (by omega)
   ·intro _;omega
theorem aDq (w:World)(x:Int):(w.alloc (.cells #[x] TI)).ownsRow w.heap.size TI 1 (.slice (some ⟨w.heap.size,0,none⟩) 1 1) 1 (ivs [x]):=
 ⟨rfl,.inr ⟨w.heap.size,1,_,rfl,Nat.le_refl _,heap_alloc_new w _,Nat.le_refl _,by simp[maxLen],rfl,rfl⟩⟩
def cE (base:List Int)(C:List Int):List Int:=base++C.filter (fun x=> !base.contains x)
theorem nG {base C:List Int}{k:Nat}{x:Int}(hx:C[k]? =some x) (h:base.contains x=false):cE base (C.take (k+1))=cE base (C.take k)++ [x]:=by
 unfold cE;rw[bF hx,List.filter_append];simp[h]at*;simp[h]
theorem pH {base C:List Int}{k:Nat}{x:Int}(hx:C[k]? =some x) (h:base.contains x=true):cE base (C.take (k+1))=cE base (C.take k):=by
 unfold cE;rw[bF hx,List.filter_append];simp[h]at*;simp[h]
theorem aDl (base C:List Int):(cE base C).length≤base.length+C.length:=by
 unfold cE;rw[List.length_append];have:=List.length_filter_le (fun x=> !base.contains x) C;omega
theorem rL {base C:List Int}{k:Nat}{x:Int}(hn:C.Nodup)(hx:C[k]? =some x):(cE base (C.take k)).contains x=base.contains x:=by
 unfold cE
 obtain⟨hk,rfl⟩:=List.getElem?_eq_some_iff.1 hx
 have hnt:C[k]∉C.take k:=by
  intro hm
  obtain⟨j,hj,e⟩:=List.getElem_of_mem hm
  rw[List.getElem_take]at e
  rw[List.length_take]at hj
  exact(List.pairwise_iff_getElem.1 hn j k (by omega) hk (by omega)) e
 simp only[List.contains_eq_mem,List.mem_append,List.mem_filter]
 simp[hnt]
theorem kI {h:aT}(hok:bK h=true):cV h=cE (if(0:Int)∈h.cells then []else [h.cells.headD 0]) (cZ h.cells):=by
 unfold cV cE
 rw[if_pos hok]
 by_cases h0:(0:Int)∈h.cells
 ·rw[if_pos h0,if_pos h0]
  exact(List.filter_eq_self.2 (by simp)).symm
 ·rw[if_neg h0,if_neg h0]
  simp only[List.cons_append,List.nil_append]
  congr 1
  apply List.filter_congr
  intro x _
  by_cases hx:x=h.cells.headD 0<;>simp[bne,hx,List.contains_eq_mem]
  rfl
theorem qK {h:aT}(hok:bK h=true):h.vs.map (·.1)=cZ h.cells∧(cZ h.cells).Nodup:=by
 have hn:=(fM hok).1
 unfold bK at hok
 simp only[Bool.and_eq_true]at hok
 have:=(iX hok.2).1
 exact⟨this,by rw[←this];exact hn⟩
theorem jO {h:aT}(hok:bK h=true):aP h.aA h.aB h.cells=true:=by
 unfold bK at hok
 simp only[Bool.and_eq_true]at hok
 exact hok.1.1.1
theorem aBo (aA aB free step aE aF aC aG:Int)(p:OA)(n cap:Nat)(q:OA)(m c2:Nat)(w:World)(HV:xB 30 #[.agg #[aA,aB,.slice p n cap,free,step,aE,aF,aC,aG,.slice q m c2]] w false):
  Calls Tryz.prog 86 #[.agg #[aA,aB,.slice p n cap,free,step,aE,aF,aC,aG,.slice q m c2]] w (aY [] w):=by
 go_enter Tryz.func86,Tryz.ntmps86
 go_wp2_with fail
 refine(HV.out _ (by exact .alloc (.refl _) _)).mono ?_
 rintro e w1 ⟨rfl,hh1⟩
 go_wp2
 go_ret
 exact cQ (xs:= []) rfl (World.ownsRow_nil _ _ _ _) (by exact .trans (.alloc (.refl _) _) hh1)
theorem aAp (aA aB free step aE aF aC aG:Int)(p:OA)(n cap:Nat)(q:OA)(m c2:Nat)(w:World)(HV:xB 40 #[.agg #[aA,aB,.slice p n cap,free,step,aE,aF,aC,aG,.slice q m c2]] w false):
  Calls Tryz.prog 87 #[.agg #[aA,aB,.slice p n cap,free,step,aE,aF,aC,aG,.slice q m c2]] w (aY [] w):=by
 go_enter Tryz.func87,Tryz.ntmps87
 go_wp2_with fail
 refine(HV.out _ (by exact .alloc (.alloc (.refl _) _) _)).mono ?_
 rintro e w1 ⟨rfl,hh1⟩
 have ho:((w.alloc (.cells #[aA,aB,.slice p n cap,free,step,aE,aF,aC,aG,.slice q m c2] 35)).alloc (.cells #[] TI)).ownsRow w.heap.size TI 1 (.slice (some ⟨(w.alloc (.cells #[aA,aB,.slice p n cap,free,step,aE,aF,aC,aG,.slice q m c2] 35)).heap.size,0,none⟩) 0 0) 0 []:=World.ownsRow_made _ #[] 0 (by simp) (by simp[maxLen]) rfl
 have HO0:=xQ (bB ho hh1)
 clear ho
 go_wp2
 go_ret
 exact cQ (xs:= []) rfl (by simpa using HO0.out) (by exact .trans (.alloc (.alloc (.refl _) _) _) hh1)
theorem zE (aA aB free step aE aF aC aG:Int)(p:OA)(n cap:Nat)(q:OA)(m c2:Nat)(C:List Int)(w:World)(hn:n≤12)(hl:C.length<n)(HV:xB 30 #[.agg #[aA,aB,.slice p n cap,free,step,aE,aF,aC,aG,.slice q m c2]] w true)
  (HC:Hid (∀w',Ext w w'→Calls Tryz.prog 47 #[aI aA aB p n cap] w' (aY C w'))):
  Calls Tryz.prog 86 #[.agg #[aA,aB,.slice p n cap,free,step,aE,aF,aC,aG,.slice q m c2]] w (aY C w):=by
 go_enter Tryz.func86,Tryz.ntmps86
 go_wp2_with fail
 refine(HV.out _ (by exact .alloc (.refl _) _)).mono ?_
 rintro e w1 ⟨rfl,hh1⟩
 have BA:Blk w1 w.heap.size 35 #[aA,aB,.slice p n cap,free,step,aE,aF,aC,aG,.slice q m c2]:=(Blk.new w _ _).ext hh1
 have BAH:=xQ BA
 have X1:Ext w w1:=by exact .trans (.alloc (.refl _) _) hh1
 have z1:w.heap.size<w1.heap.size:=BA.lt
 clear hh1
 obtain⟨a0,a1,a2,a3,a4,a5,a6,a7,a8,a9⟩:=(BA).ten
 clear BA
 go_wp2_with fail
 clear a0 a1 a2 a3 a4 a5 a6 a7 a8 a9
 refine(HC.out _ X1).mono ?_
 rintro e w2 ⟨pc,cc,rfl,hoc,hh2⟩
 have BA2:=xQ (BAH.out.ext hh2)
 have X2:Ext w w2:=X1.trans hh2
 have HO:=xQ hoc
 have z2:w.heap.size<w2.heap.size:=BA2.out.lt
 have z12:=hh2.sz
 clear hoc hh2 BAH
 have b2:w2.cell? ⟨w.heap.size,2,none⟩=some (.slice p n cap):=BA2.out.cell 2
 go_wp2
 go_ret
 exact cQ rfl (bG HO.out X1.sz) X2
theorem zD (aA aB free step aE aF aC aG:Int)(p:OA)(n cap:Nat)(q:OA)(m c2:Nat)(C:List Int)(x0:Int)(b0 off0:Nat)(w:World)(hn:n≤12)(hp:p=some ⟨b0,off0,none⟩)(hl:C.length=n)(hn0:0<n)(hb0:b0<w.heap.size)(hc0:w.cell? ⟨b0,off0,none⟩=some (.int .i64 x0))(HV:xB 30 #[.agg #[aA,aB,.slice p n cap,free,step,aE,aF,aC,aG,.slice q m c2]] w true)
  (HC:Hid (∀w',Ext w w'→Calls Tryz.prog 47 #[aI aA aB p n cap] w' (aY C w'))):
  Calls Tryz.prog 86 #[.agg #[aA,aB,.slice p n cap,free,step,aE,aF,aC,aG,.slice q m c2]] w (aY (cE [x0] C) w):=by
 subst hp
 have hlC: ¬C.length<n:=by omega
 have hlH:=xQ hl
 have hlC2:C.length≤12:=by omega
 clear hl
 go_enter Tryz.func86,Tryz.ntmps86
 go_wp2_with fail
 refine(HV.out _ (by exact .alloc (.refl _) _)).mono ?_
 rintro e w1 ⟨rfl,hh1⟩
 have BA:Blk w1 w.heap.size 35 #[aA,aB,.slice (some ⟨b0,off0,none⟩) n cap,free,step,aE,aF,aC,aG,.slice q m c2]:=(Blk.new w _ _).ext hh1
 have BAH:=xQ BA
 have X1:Ext w w1:=by exact .trans (.alloc (.refl _) _) hh1
 have z1:w.heap.size<w1.heap.size:=BA.lt
 clear hh1
 obtain⟨a0,a1,a2,a3,a4,a5,a6,a7,a8,a9⟩:=(BA).ten
 clear BA
 go_wp2_with fail
 clear a0 a1 a2 a3 a4 a5 a6 a7 a8 a9
 refine(HC.out _ X1).mono ?_
 rintro e w2 ⟨pc,cc,rfl,hoc,hh2⟩
 have BA2:=xQ (BAH.out.ext hh2)
 have X2:Ext w w2:=X1.trans hh2
 have HO:=xQ hoc
 have z2:w.heap.size<w2.heap.size:=BA2.out.lt
 have z12:=hh2.sz
 clear hoc hh2 BAH
 have b2:w2.cell? ⟨w.heap.size,2,none⟩=some (.slice (some ⟨b0,off0,none⟩) n cap):=BA2.out.cell 2
 have h0:w2.cell? ⟨b0,off0,none⟩=some (.int .i64 x0):=by rw[X2.cells.1 _ _ hb0];exact hc0
 have HC0:=xQ hc0
 clear hc0
 go_wp2
 go_loopw [4,29] (fun v i wr=> ∃(k:Nat) (q:OA) (m c:Nat),k≤C.length∧i= .int .i64 k∧v= .slice q m c∧m≤k+1∧wr.ownsRow w2.heap.size TI 1 (.slice q m c) m (ivs (cE [x0] (C.take k)))∧Ext w2 wr) (fun _ i _=>C.length-(intOf i).toNat)
 case atStart=>exact⟨0,_,1,_,Nat.zero_le _,rfl,rfl,by omega,by simpa[cE]using aDq w2 x0,by exact .alloc (.refl _) _⟩
 case round=>
  obtain⟨k,q,m1,c,hk,rfl,rfl,hmk,hown,hE⟩:=hrel
  have HOr:=xQ hown
  have hEw:=X2.trans hE
  have hsz:=hE.sz
  have ec:wr.cell? ⟨w.heap.size,2,none⟩=some (.slice (some ⟨b0,off0,none⟩) n cap):=(hE.cells.1 _ _ z2).trans b2
  have hg:wr.cell? ⟨b0,off0,none⟩=some (.int .i64 x0):=by rw[hEw.cells.1 _ _ hb0];exact HC0.out
  clear hown
  by_cases hlt:k<C.length
  ·obtain⟨b,off,x,rfl,hx,hb,hcell⟩:=((Sl.own HO.out).ext hE).int_at hlt
   have HX:=xQ hx
   clear hx
   by_cases hx0:x=x0
   ·have t0:(x !=x0)=false:=by simp[hx0]
    have hfin:Hid (cE [x0] (C.take (k+1))=cE [x0] (C.take k)):=pH HX.out (by simp[hx0])
    clear hx0
    go_wp2
    go_roundw
    case rel=>exact⟨k+1,q,m1,c,by omega,by go_num,rfl,by omega,by rw[hfin.out];exact HOr.out,hE⟩
    case measure=>simp[intOf];omega
   ·have t0:(x !=x0)=true:=by simp[hx0]
    have hfin:Hid (cE [x0] (C.take (k+1))=cE [x0] (C.take k)++ [x]):=nG HX.out (by simp[hx0])
    clear hx0
    go_wp2_with (at_builtin;refine cA eP rfl _ _ rfl w2.heap.size _ _ _ rfl (HOr.out.alloc _) _ _ x _ rfl (by simp) (by omega) (by simp;omega) ?_;intro p' cap' w3 hown1 hg1;have HO1:=xQ hown1;have hE1:Ext w2 w3:=Ext.own (hE.alloc _) (HOr.out.alloc _) hg1 (Nat.le_refl _);clear hown1 hg1)
    go_roundw
    case rel=>exact⟨k+1,p',m1+1,cap',by omega,by go_num,rfl,by omega,by rw[hfin.out];exact HO1.out,hE1⟩
    case measure=>simp[intOf];omega
  ·have hfin:Hid (cE [x0] (C.take k)=cE [x0] C):=by show _=_;rw[List.take_of_length_le (by omega)]
   go_wp2
   go_ret
   exact cQ (by rw[←hfin.out];have:=HOr.out.1;simpa using this) (by rw[←hfin.out];exact bG HOr.out X2.sz) hEw
theorem xO (aA aB free step aE aF aC aG:Int)(p:OA)(n cap:Nat)(q:OA)(m c2:Nat)(w:World)(vs:List aQ)(F:List Int)(HN:Hid (vs.map (·.1)).Nodup)(hm:m≤12)(HS:Hid (Sl w q m c2 4 (vs.flatMap aD)))(hl:Hid (vs.length=m))(hF:F.length≠0)(HV:xB 40 #[.agg #[aA,aB,.slice p n cap,free,step,aE,aF,aC,aG,.slice q m c2]] w true)
  (HF:Hid (∀w',Ext w w'→Calls Tryz.prog 134 #[aI aA aB p n cap] w' (aY F w'))):
  Calls Tryz.prog 87 #[.agg #[aA,aB,.slice p n cap,free,step,aE,aF,aC,aG,.slice q m c2]] w (aY (cE [] (vs.map (·.1))) w):=by
 go_enter Tryz.func87,Tryz.ntmps87
 go_wp2_with fail
 refine(HV.out _ (by exact .alloc (.alloc (.refl _) _) _)).mono ?_
 rintro e w1 ⟨rfl,hh1⟩
 have ho:((w.alloc (.cells #[aA,aB,.slice p n cap,free,step,aE,aF,aC,aG,.slice q m c2] 35)).alloc (.cells #[] TI)).ownsRow (w.heap.size+1) TI 1 (.slice (some ⟨w.heap.size+1,0,none⟩) 0 0) 0 []:=by simpa using World.ownsRow_made (w.alloc (.cells #[aA,aB,.slice p n cap,free,step,aE,aF,aC,aG,.slice q m c2] 35)) (e:=TI) (base:=w.heap.size+1) #[] 0 (by simp) (by simp[maxLen]) rfl
 have HO0:=xQ (bB ho hh1)
 clear ho
 have BA:Blk w1 w.heap.size 35 #[aA,aB,.slice p n cap,free,step,aE,aF,aC,aG,.slice q m c2]:=((Blk.new w _ _).alloc _).ext hh1
 have BAH:=xQ BA
 have X1:Ext w w1:=by exact .trans (.alloc (.alloc (.refl _) _) _) hh1
 clear hh1
 obtain⟨a0,a1,a2,a3,a4,a5,a6,a7,a8,a9⟩:=(BA).ten
 clear BA
 go_wp2_with fail
 clear a0 a1 a2 a3 a4 a5 a6 a7 a8 a9
 refine(HF.out _ X1).mono ?_
 rintro e w2 ⟨pf,cf,rfl,_,hh2⟩
 have BA2:=xQ (BAH.out.ext hh2)
 have HO2:=xQ (bB HO0.out hh2)
 have X2:Ext w w2:=X1.trans hh2
 have z2:w.heap.size<w2.heap.size:=BA2.out.lt
 clear hh2 BAH HO0
 have tF:((F.length:Int)==0)=false:=by simp[hF]
 have ec9:w2.cell? ⟨w.heap.size,9,none⟩=some (.slice q m c2):=BA2.out.cell 9
 have hz3:=z2
 clear hF
 have b2:w2.cell? ⟨w.heap.size,2,none⟩=some (.slice p n cap):=BA2.out.cell 2
 go_wp2
 go_loopw [3,4] (fun v i wr=> ∃(k:Nat) (qq:OA) (m1 c:Nat),k≤m∧i= .int .i64 k∧v= .slice qq m1 c∧m1≤k+1∧wr.ownsRow (w.heap.size+1) TI 1 (.slice qq m1 c) m1 (ivs (cE [] ((vs.map (·.1)).take k)))∧Ext w wr∧wr.cell? ⟨w.heap.size,9,none⟩=some (.slice q m c2)∧w.heap.size<wr.heap.size) (fun _ i _=>m-(intOf i).toNat)
 case atStart=>exact⟨0,_,_,_,Nat.zero_le _,rfl,rfl,by omega,by simpa[cE]using HO2.out,X2,ec9,hz3⟩
 case round=>
  obtain⟨k,qq,m1,c,hk,rfl,rfl,hmk,hown,hE,ecr,hsz⟩:=hrel
  have HOr:=xQ hown
  clear hown ec9
  by_cases hlt:k<m
  ·obtain⟨b,off,a0,a1,a2,a3,rfl,hv,hb,g0,g1,g2,g3⟩:=dP (HS.out.ext hE) hlt
   have hx:Hid ((vs.map (·.1))[k]? =some a0):=by show _=_;rw[List.getElem?_map,hv];rfl
   have i1:(0:Int)≤(k:Int):=by omega
   have i2:(k:Int)<(m:Int):=by omega
   clear hv
   have HH:xC 135 #[.slice qq m1 c,a0] wr fun w' e w''=>e= .returned (.bool (([]:List Int).contains a0))∧w'=w'':=fun w' hx'=>by
    have:=mO qq m1 c _ a0 w' ((Sl.own HOr.out).ext hx')
    rwa[rL HN.out hx.out]at this
   cases hs:([]:List Int).contains a0 with
   |true=>
    rw[hs]at HH
    have hfin:Hid (cE [] ((vs.map (·.1)).take (k+1))=cE [] ((vs.map (·.1)).take k)):=pH hx.out hs
    clear hs
    go_wp2_with fail
    refine(HH.out _ (by exact .refl _)).mono ?_
    rintro e w4 ⟨rfl,rfl⟩
    go_wp2
    go_roundw
    case rel=>exact⟨k+1,qq,m1,c,by omega,by go_num,rfl,by omega,by rw[hfin.out];exact HOr.out,hE,ecr,hsz⟩
    case measure=>simp[intOf];omega
   |false=>
    rw[hs]at HH
    have hfin:Hid (cE [] ((vs.map (·.1)).take (k+1))=cE [] ((vs.map (·.1)).take k)++ [a0]):=nG hx.out hs
    clear hs
    go_wp2_with fail
    refine(HH.out _ (by exact .refl _)).mono ?_
    rintro e w4 ⟨rfl,rfl⟩
    go_wp2_with (at_builtin;refine cA eP rfl _ _ rfl (w.heap.size+1) _ _ _ rfl (HOr.out.alloc _) _ _ a0 _ rfl (by simp) (by omega) (by simp;omega) ?_;intro p' cap' w5 hown1 hg1;have HO1:=xQ hown1;have hE5:Ext w w5:=Ext.own (hE.alloc _) (HOr.out.alloc _) hg1 (by omega);have ec5:=oD HOr.out hg1 hsz ecr;have hsz5:w.heap.size<w5.heap.size:=Nat.lt_of_lt_of_le hsz (by have:=hg1.size;simp at this;omega);clear hown1 hg1)
    go_roundw
    case rel=>exact⟨k+1,p',m1+1,cap',by omega,by go_num,rfl,by omega,by rw[hfin.out];exact HO1.out,hE5,ec5,hsz5⟩
    case measure=>simp[intOf];omega
  ·have hfin:Hid (cE [] ((vs.map (·.1)).take k)=cE [] (vs.map (·.1))):=by show _=_;rw[List.take_of_length_le (by rw[List.length_map,hl.out];omega)]
   go_wp2
   go_ret
   exact cQ (by rw[←hfin.out];have:=HOr.out.1;simpa using this) (by rw[←hfin.out];exact bG HOr.out (Nat.le_succ _)) hE
theorem xN (aA aB free step aE aF aC aG:Int)(p:OA)(n cap:Nat)(q:OA)(m c2:Nat)(w:World)(vs:List aQ)(F:List Int)(HN:Hid (vs.map (·.1)).Nodup)(hm:m≤12)(HS:Hid (Sl w q m c2 4 (vs.flatMap aD)))(hl:Hid (vs.length=m))(hF:F.length=0)(x0:Int)(b0 off0:Nat)(hp:p=some ⟨b0,off0,none⟩)(hn0:0<n)(hb0:b0<w.heap.size)(hc0:w.cell? ⟨b0,off0,none⟩=some (.int .i64 x0))(HV:xB 40 #[.agg #[aA,aB,.slice p n cap,free,step,aE,aF,aC,aG,.slice q m c2]] w true)
  (HF:Hid (∀w',Ext w w'→Calls Tryz.prog 134 #[aI aA aB p n cap] w' (aY F w'))):
  Calls Tryz.prog 87 #[.agg #[aA,aB,.slice p n cap,free,step,aE,aF,aC,aG,.slice q m c2]] w (aY (cE [x0] (vs.map (·.1))) w):=by
 subst hp
 go_enter Tryz.func87,Tryz.ntmps87
 go_wp2_with fail
 refine(HV.out _ (by exact .alloc (.alloc (.refl _) _) _)).mono ?_
 rintro e w1 ⟨rfl,hh1⟩
 have ho:((w.alloc (.cells #[aA,aB,.slice (some ⟨b0,off0,none⟩) n cap,free,step,aE,aF,aC,aG,.slice q m c2] 35)).alloc (.cells #[] TI)).ownsRow (w.heap.size+1) TI 1 (.slice (some ⟨w.heap.size+1,0,none⟩) 0 0) 0 []:=by simpa using World.ownsRow_made (w.alloc (.cells #[aA,aB,.slice (some ⟨b0,off0,none⟩) n cap,free,step,aE,aF,aC,aG,.slice q m c2] 35)) (e:=TI) (base:=w.heap.size+1) #[] 0 (by simp) (by simp[maxLen]) rfl
 have HO0:=xQ (bB ho hh1)
 clear ho
 have BA:Blk w1 w.heap.size 35 #[aA,aB,.slice (some ⟨b0,off0,none⟩) n cap,free,step,aE,aF,aC,aG,.slice q m c2]:=((Blk.new w _ _).alloc _).ext hh1
 have BAH:=xQ BA
 have X1:Ext w w1:=by exact .trans (.alloc (.alloc (.refl _) _) _) hh1
 clear hh1
 obtain⟨a0,a1,a2,a3,a4,a5,a6,a7,a8,a9⟩:=(BA).ten
 clear BA
 go_wp2_with fail
 clear a0 a1 a2 a3 a4 a5 a6 a7 a8 a9
 refine(HF.out _ X1).mono ?_
 rintro e w2 ⟨pf,cf,rfl,_,hh2⟩
 have BA2:=xQ (BAH.out.ext hh2)
 have HO2:=xQ (bB HO0.out hh2)
 have X2:Ext w w2:=X1.trans hh2
 have z2:w.heap.size<w2.heap.size:=BA2.out.lt
 clear hh2 BAH HO0
 have h0:w2.cell? ⟨b0,off0,none⟩=some (.int .i64 x0):=by rw[X2.cells.1 _ _ hb0];exact hc0
 have HC0:=xQ hc0
 have tF:((F.length:Int)==0)=true:=by simp[hF]
 have c9:Hid (w2.cell? ⟨w.heap.size,9,none⟩=some (.slice q m c2)):=BA2.out.cell 9
 clear hc0 hF
 have b2:w2.cell? ⟨w.heap.size,2,none⟩=some (.slice (some ⟨b0,off0,none⟩) n cap):=BA2.out.cell 2
 go_wp2_with (at_builtin;refine cA eP rfl _ _ rfl (w.heap.size+1) _ 0 [] rfl (HO2.out.alloc _) _ _ x0 _ rfl (by simp) (by omega) (by simp;omega) ?_;intro p3 cap3 w3 hown1 hg1;have HO3:=xQ hown1;have hE1:Ext w w3:=Ext.own (X2.alloc _) (HO2.out.alloc _) hg1 (by omega);have ec9:=oD HO2.out hg1 z2 c9.out;have hz3:w.heap.size<w3.heap.size:=Nat.lt_of_lt_of_le z2 (by have:=hg1.size;simp at this;omega);clear hown1 hg1)
 go_loopw [3,4] (fun v i wr=> ∃(k:Nat) (qq:OA) (m1 c:Nat),k≤m∧i= .int .i64 k∧v= .slice qq m1 c∧m1≤k+1∧wr.ownsRow (w.heap.size+1) TI 1 (.slice qq m1 c) m1 (ivs (cE [x0] ((vs.map (·.1)).take k)))∧Ext w wr∧wr.cell? ⟨w.heap.size,9,none⟩=some (.slice q m c2)∧w.heap.size<wr.heap.size) (fun _ i _=>m-(intOf i).toNat)
 case atStart=>exact⟨0,_,_,_,Nat.zero_le _,rfl,rfl,by omega,by simpa[cE]using HO3.out,hE1,ec9,hz3⟩
 case round=>
  obtain⟨k,qq,m1,c,hk,rfl,rfl,hmk,hown,hE,ecr,hsz⟩:=hrel
  have HOr:=xQ hown
  clear hown ec9
  by_cases hlt:k<m
  ·obtain⟨b,off,a0,a1,a2,a3,rfl,hv,hb,g0,g1,g2,g3⟩:=dP (HS.out.ext hE) hlt
   have hx:Hid ((vs.map (·.1))[k]? =some a0):=by show _=_;rw[List.getElem?_map,hv];rfl
   have i1:(0:Int)≤(k:Int):=by omega
   have i2:(k:Int)<(m:Int):=by omega
   clear hv
   have HH:xC 135 #[.slice qq m1 c,a0] wr fun w' e w''=>e= .returned (.bool (([x0]:List Int).contains a0))∧w'=w'':=fun w' hx'=>by
    have:=mO qq m1 c _ a0 w' ((Sl.own HOr.out).ext hx')
    rwa[rL HN.out hx.out]at this
   cases hs:([x0]:List Int).contains a0 with
   |true=>
    rw[hs]at HH
    have hfin:Hid (cE [x0] ((vs.map (·.1)).take (k+1))=cE [x0] ((vs.map (·.1)).take k)):=pH hx.out hs
    clear hs
    go_wp2_with fail
    refine(HH.out _ (by exact .refl _)).mono ?_
    rintro e w4 ⟨rfl,rfl⟩
    go_wp2
    go_roundw
    case rel=>exact⟨k+1,qq,m1,c,by omega,by go_num,rfl,by omega,by rw[hfin.out];exact HOr.out,hE,ecr,hsz⟩
    case measure=>simp[intOf];omega
   |false=>
    rw[hs]at HH
    have hfin:Hid (cE [x0] ((vs.map (·.1)).take (k+1))=cE [x0] ((vs.map (·.1)).take k)++ [a0]):=nG hx.out hs
    clear hs
    go_wp2_with fail
    refine(HH.out _ (by exact .refl _)).mono ?_
    rintro e w4 ⟨rfl,rfl⟩
    go_wp2_with (at_builtin;refine cA eP rfl _ _ rfl (w.heap.size+1) _ _ _ rfl (HOr.out.alloc _) _ _ a0 _ rfl (by simp) (by omega) (by simp;omega) ?_;intro p' cap' w5 hown1 hg1;have HO1:=xQ hown1;have hE5:Ext w w5:=Ext.own (hE.alloc _) (HOr.out.alloc _) hg1 (by omega);have ec5:=oD HOr.out hg1 hsz ecr;have hsz5:w.heap.size<w5.heap.size:=Nat.lt_of_lt_of_le hsz (by have:=hg1.size;simp at this;omega);clear hown1 hg1)
    go_roundw
    case rel=>exact⟨k+1,p',m1+1,cap',by omega,by go_num,rfl,by omega,by rw[hfin.out];exact HO1.out,hE5,ec5,hsz5⟩
    case measure=>simp[intOf];omega
  ·have hfin:Hid (cE [x0] ((vs.map (·.1)).take k)=cE [x0] (vs.map (·.1))):=by show _=_;rw[List.take_of_length_le (by rw[List.length_map,hl.out];omega)]
   go_wp2
   go_ret
   exact cQ (by rw[←hfin.out];have:=HOr.out.1;simpa using this) (by rw[←hfin.out];exact bG HOr.out (Nat.le_succ _)) hE
theorem vY (h:aT)(p:OA)(n cap:Nat)(q:OA)(m c2:Nat)(w:World)(hi:IsHouse w h p n cap q m c2):
  Calls Tryz.prog 86 #[bS h p n cap q m c2] w (aY (cV h) w):=by
 have HV:=fun(w':World) (hx:Ext w w')=>mQ h p n cap q m c2 w' (hi.ext hx)
 have hvl:=hi.vlen
 have hcl:=hi.clen
 cases hok:bK h with
 |false=>
  rw[hok]at HV
  have e:cV h= []:=by unfold cV;rw[hok];rfl
  rw[e]
  exact aBo h.aA h.aB h.free h.step h.aE h.aF h.aC h.aG p n cap q m c2 w HV
 |true=>
  rw[hok]at HV
  have hh:=jO hok
  have hn12:n≤12∧4≤n:=by
   have h1:=hh
   unfold aP at h1
   rw[Bool.and_eq_true]at h1
   have:=bR h1.1
   omega
  obtain⟨hn12,hn4⟩:=hn12
  have HC:=fun(w':World) (hx:Ext w w')=>by
   have:=aGk h.aA h.aB p n cap h.cells w' (hi.cells.ext hx)
   rw[hh,if_pos rfl]at this
   exact this
  rw[kI hok]
  by_cases h0:(0:Int)∈h.cells
  ·rw[if_pos h0]
   have hlt:=(zM (jO hok)).2 h0
   have e:cE [] (cZ h.cells)=cZ h.cells:=by simp[cE]
   rw[e]
   rw[hcl]at hlt
   exact zE h.aA h.aB h.free h.step h.aE h.aF h.aC h.aG p n cap q m c2 (cZ h.cells) w hn12 hlt HV HC
  ·rw[if_neg h0]
   obtain⟨b0,off0,x0,hp,hx0,hb0,hc0⟩:=hi.cells.int_at (k:=0) (by omega)
   have hhd:h.cells.headD 0=x0:=by cases hc:h.cells with
    |nil=>rw[hc]at hx0;simp at hx0
    |cons a b=>rw[hc]at hx0;simpa using hx0
   rw[hhd]
   exact zD h.aA h.aB h.free h.step h.aE h.aF h.aC h.aG p n cap q m c2 (cZ h.cells) x0 b0 off0 w hn12 hp (by have:=mt (zM (jO hok)).1 h0;have h2:=iK h.cells;rw[gC]at this⊢;omega) (by omega) hb0 hc0 HV HC
theorem vE (h:aT)(p:OA)(n cap:Nat)(q:OA)(m c2:Nat)(w:World)(hi:IsHouse w h p n cap q m c2):
  Calls Tryz.prog 87 #[bS h p n cap q m c2] w (aY (cV h) w):=by
 have HV:=fun(w':World) (hx:Ext w w')=>mI h p n cap q m c2 w' (hi.ext hx)
 have hvl:=hi.vlen
 have hcl:=hi.clen
 cases hok:bK h with
 |false=>
  rw[hok]at HV
  have e:cV h= []:=by unfold cV;rw[hok];rfl
  rw[e]
  exact aAp h.aA h.aB h.free h.step h.aE h.aF h.aC h.aG p n cap q m c2 w HV
 |true=>
  rw[hok]at HV
  have hh:=jO hok
  have hn12:n≤12∧4≤n:=by
   have h1:=hh
   unfold aP at h1
   rw[Bool.and_eq_true]at h1
   have:=bR h1.1
   omega
  obtain⟨hn12,hn4⟩:=hn12
  have HF:=fun(w':World) (hx:Ext w w')=>by
   have:=aAl h.aA h.aB p n cap h.cells w' (hi.cells.ext hx)
   rw[hh,if_pos rfl]at this
   exact this
  rw[kI hok]
  by_cases h0:(0:Int)∈h.cells
  ·rw[if_pos h0]
   have hf:(kE h.cells).length≠0:=fun e=>(uE _).1 (List.eq_nil_of_length_eq_zero e) h0
   rw[←(qK hok).1]
   exact xO h.aA h.aB h.free h.step h.aE h.aF h.aC h.aG p n cap q m c2 w h.vs (kE h.cells) (fM hok).1 (by rw[←hvl];exact(fM hok).2.1) hi.vs hvl hf HV HF
  ·rw[if_neg h0]
   obtain⟨b0,off0,x0,hp,hx0,hb0,hc0⟩:=hi.cells.int_at (k:=0) (by omega)
   have hhd:h.cells.headD 0=x0:=by cases hc:h.cells with
    |nil=>rw[hc]at hx0;simp at hx0
    |cons a b=>rw[hc]at hx0;simpa using hx0
   rw[hhd]
   rw[←(qK hok).1]
   exact xN h.aA h.aB h.free h.step h.aE h.aF h.aC h.aG p n cap q m c2 w h.vs (kE h.cells) (fM hok).1 (by rw[←hvl];exact(fM hok).2.1) hi.vs hvl (by rw[(uE _).2 h0];rfl) x0 b0 off0 hp (by omega) hb0 hc0 HV HF
abbrev TDd:TypeId:=55
abbrev Dd3:=Int×Int×Int
def aX (d:Dd3):List Value:= [.int .i64 d.1,.int .i64 d.2.1,.int .i64 d.2.2]
abbrev ddV (a b c:Int):Value:= .agg #[a,b,c]
def dE (a:Int):Nat:=((a+299)/300).toNat
def mM (id a:Int)(i:Nat):Dd3:=(1,id,min (a-300*(i:Int)) 300)
def iE (id a:Int)(k:Nat):List Dd3:=(List.range k).map (mM id a)
def bP (due:Int→Int)(ids:List Int):List Dd3:=ids.flatMap (fun id=>iE id (due id) (dE (due id))++ [(2,id,0)])
theorem jJ (a:Int)(k:Nat):k<dE a↔0<a-300*(k:Int):=by unfold dE;omega
theorem rP (id a:Int)(k:Nat):iE id a (k+1)=iE id a k++ [mM id a k]:=by unfold iE;rw[List.range_succ,List.map_append];rfl
theorem aAz (id a:Int):iE id a 0= []:=rfl
theorem jD (id a:Int)(k:Nat):(iE id a k).length=k:=by unfold iE;simp
theorem nD (due:Int→Int){ids:List Int}{k:Nat}{x:Int}(hx:ids[k]? =some x):bP due (ids.take (k+1))=bP due (ids.take k)++iE x (due x) (dE (due x))++ [(2,x,0)]:=by
 unfold bP
 rw[bF hx,List.flatMap_append]
 simp
theorem wM (due:Int→Int)(ids:List Int)(M:Nat)(h: ∀x∈ids,dE (due x)≤M):(bP due ids).length≤ids.length*(M+1):=by
 unfold bP
 induction ids with
 |nil=>simp
 |cons x xs ih=>
  have h1:=h x (by simp)
  have h2:=ih (fun y hy=>h y (by simp[hy]))
  rw[List.flatMap_cons,List.length_append,List.length_append,jD]
  simp only[List.length_cons,List.length_nil]
  rw[Nat.add_mul xs.length 1,Nat.one_mul]
  omega
theorem qV {w:World}{q:OA}{m c2:Nat}{ds:List Dd3}(h:Sl w q m c2 3 (ds.flatMap aX)){k:Nat}(hk:k<m):
  ∃b off a0 a1 a2,q=some ⟨b,off,none⟩∧ds[k]? =some (a0,a1,a2)∧b<w.heap.size∧w.cell? ⟨b,off+k*3,none⟩=some (.int .i64 a0)∧w.cell? ⟨b,off+k*3+1,none⟩=some (.int .i64 a1)∧w.cell? ⟨b,off+k*3+2,none⟩=some (.int .i64 a2):=by
 obtain⟨b,off,x,hp,hx,hb,hc⟩:=Sl.at_ (sz:=3) (f:=aX) (fun _=>rfl) h hk (by omega)
 obtain⟨a0,a1,a2⟩:=x
 exact⟨b,off,a0,a1,a2,hp,hx,hb,hc 0 (by omega),hc 1 (by omega),hc 2 (by omega)⟩
def jT (ds:List Dd3)(w:World)(e:Ending)(w':World):Prop:=
 ∃p cap,e= .returned (.slice p ds.length cap)∧w'.ownsRow w.heap.size TDd 3 (.slice p ds.length cap) ds.length (ds.flatMap aX)∧Ext w w'
theorem aC0 (a b c:Int)(w:World):Calls Tryz.prog 63 #[ddV a b c,ddV a b c] w fun e w'=>e= .returned (.bool true)∧Ext w w':=by
 go_enter Tryz.func63,Tryz.ntmps63
 go_wp2
 go_ret
 exact⟨rfl,xE⟩
theorem zR (p q:OA)(n c1 c2:Nat)(ds:List Dd3)(w:World)(h1:Sl w p n c1 3 (ds.flatMap aX))(h2:Sl w q n c2 3 (ds.flatMap aX)):
  Calls Tryz.prog 22 #[.slice p n c1,.slice q n c2] w fun e w'=>e= .returned (.bool true)∧Ext w w':=by
 have hn:=h1.bd
 have H1:=xQ h1
 have H2:=xQ h2
 clear h1 h2
 go_enter Tryz.func22,Tryz.ntmps22
 go_wp2
 go_loopw [5] (fun i wr=> ∃k:Nat,k≤n∧i= .int .i64 k∧Ext w wr) (fun i _=>n-(intOf i).toNat)
 case atStart=>exact⟨0,Nat.zero_le _,rfl,Ext.refl _⟩
 case round=>
  obtain⟨k,hk,rfl,hE⟩:=hrel
  by_cases hlt:k<n
  ·obtain⟨b,off,a0,a1,a2,rfl,hx,hb,g0,g1,g2⟩:=qV (H1.out.ext hE) hlt
   obtain⟨b2,off2,d0,d1,d2,rfl,hy,hb2,k0,k1,k2⟩:=qV (H2.out.ext hE) hlt
   rw[hx]at hy
   injection hy with hy
   simp only[Prod.mk.injEq]at hy
   obtain⟨rfl,rfl,rfl⟩:=hy
   clear hx
   have i1:(0:Int)≤(k:Int):=by omega
   have i2:(k:Int)<(n:Int):=by omega
   have HQ:Hid (∀w,Calls Tryz.prog 63 #[ddV a0 a1 a2,ddV a0 a1 a2] w fun e w'=>e= .returned (.bool true)∧Ext w w'):=fun w=>aC0 a0 a1 a2 w
   go_wp2
   go_region_held3 (fun w'=>w'.cell? ⟨b,off+k*3,none⟩=some (.int .i64 a0)∧w'.cell? ⟨b,off+k*3+1,none⟩=some (.int .i64 a1)∧w'.cell? ⟨b,off+k*3+2,none⟩=some (.int .i64 a2)∧w'.cell? ⟨b2,off2+k*3,none⟩=some (.int .i64 a0)∧w'.cell? ⟨b2,off2+k*3+1,none⟩=some (.int .i64 a1)∧w'.cell? ⟨b2,off2+k*3+2,none⟩=some (.int .i64 a2)) (go_keep)
    ((go_at_call 63;refine(HQ.out _).mono ?_;rintro e w1 ⟨rfl,h1⟩;(try replace h1:=h1.of_drew);have hce:=h1.cells.1))
   all_goals go_wp2
   all_goals go_roundw
   all_goals first
    |(case rel=>exact⟨k+1,by omega,by go_num,xE⟩)
    |(case measure=>simp[intOf];omega)
  ·go_wp2
   go_ret
   exact⟨rfl,hE⟩
theorem nK (g n cap base:Nat)(xs:List Value)(K0:Int)(w:World)(hn2:n≤1099511627776)(h0:0≤K0)(h1:K0≤4611686018427387904)
  (HO:Hid (w.ownsRow base TDd 3 (.slice (some ⟨g,0,none⟩) n cap) n xs)):
  Calls Tryz.prog 23 #[.slice (some ⟨g,0,none⟩) n cap,K0] w fun e w'=>e= .returned (.int .i64 (K0+(n*3:Nat)))∧w'.ownsRow base TDd 3 (.slice (some ⟨g,0,none⟩) n cap) n (aU K0 (n*3))∧w.grownBy w' (some g):=by
 go_enter Tryz.func23,Tryz.ntmps23
 go_wp2
 go_loopw [1,5] (fun kk i wr=> ∃(k:Nat) (K:Int) (rest:List Value),k≤n∧kk= .int .i64 K∧i= .int .i64 k∧K=K0+(k*3:Nat)∧rest.length=(n-k)*3∧wr.ownsRow base TDd 3 (.slice (some ⟨g,0,none⟩) n cap) n (aU K0 (k*3)++rest)∧w.grownBy wr (some g)) (fun _ i _=>n-(intOf i).toNat)
 case atStart=>exact⟨0,K0,xs,Nat.zero_le _,rfl,rfl,by simp,by rw[HO.out.1];simp,by simpa[aU]using HO.out,World.grownBy.refl _ _⟩
 case round=>
  obtain⟨k,K,rest,hk,rfl,rfl,hK,hrl,hown,hg⟩:=hrel
  have hK1:0≤K:=by omega
  have hK2:K≤4611697013543665664:=by omega
  have HK:=xQ hK
  have HOWN:=xQ hown
  have HRL:=xQ hrl
  have HG:=xQ hg
  clear hK hown hrl hg
  by_cases hlt:k<n
  ·obtain⟨r0,r1,r2,rest',hrest⟩: ∃r0 r1 r2 rest',rest=r0::r1::r2::rest':=by
    have h3:3≤rest.length:=by
     rw[HRL.out]
     have:=Nat.mul_le_mul_right 3 (show 1≤n-k by omega)
     omega
    match rest,h3 with
    |r0::r1::r2::rest',_=>exact⟨r0,r1,r2,rest',rfl⟩
   have hpl:(aU K0 (k*3)).length=k*3:=eY _ _
   have o0:wr.cell? ⟨g,k*3,none⟩=some r0:=by rw[HOWN.out.cellAt _ (by have:=Nat.mul_le_mul_right 3 hlt;rw[Nat.succ_mul]at this;omega),hrest,List.getElem?_append_right (by omega),hpl];simp
   have f0:wr.frozen? ⟨g,k*3,none⟩=false:=HOWN.out.frozenAt _
   have o1:wr.cell? ⟨g,k*3+1,none⟩=some r1:=by rw[HOWN.out.cellAt _ (by have:=Nat.mul_le_mul_right 3 hlt;rw[Nat.succ_mul]at this;omega),hrest,List.getElem?_append_right (by omega),hpl];simp
   have f1:wr.frozen? ⟨g,k*3+1,none⟩=false:=HOWN.out.frozenAt _
   have o2:wr.cell? ⟨g,k*3+2,none⟩=some r2:=by rw[HOWN.out.cellAt _ (by have:=Nat.mul_le_mul_right 3 hlt;rw[Nat.succ_mul]at this;omega),hrest,List.getElem?_append_right (by omega),hpl];simp
   have f2:wr.frozen? ⟨g,k*3+2,none⟩=false:=HOWN.out.frozenAt _
   have HPL:=xQ hpl
   have HREST:=xQ hrest
   clear hpl hrest
   go_wp2
   go_roundw
   case rel=>
    refine⟨k+1,K+1+1+1,rest',by omega,by go_num,by go_num,by rw[HK.out];omega,?_,?_,?_⟩
    ·have:=HRL.out
     rw[HREST.out]at this
     simp only[List.length_cons]at this
     have e2:n-k=(n-(k+1))+1:=by omega
     rw[e2,Nat.succ_mul]at this
     omega
    ·have hs:=(((HOWN.out.stored (k*3) (.int .i64 (K))).1.stored (k*3+1) (.int .i64 (K+1))).1.stored (k*3+2) (.int .i64 (K+1+1))).1
     have e:((((aU K0 (k*3)++rest).set (k*3) (.int .i64 (K))).set (k*3+1) (.int .i64 (K+1))).set (k*3+2) (.int .i64 (K+1+1)))=aU K0 ((k+1)*3)++rest':=by
      rw[yI,HREST.out,←HK.out]
      have:=HPL.out
      try simp only[Nat.mul_one]at this
      simp[this]
     rw[e]at hs
     exact hs
    ·exact(wG (wG (wG HG.out _ _) _ _) _ _)
   case measure=>simp[intOf];omega
  ·obtain rfl:k=n:=by omega
   have e2:rest= []:=List.eq_nil_of_length_eq_zero (by rw[HRL.out];simp)
   have HE2:=xQ e2
   clear e2
   go_wp2
   go_ret
   refine⟨dL (by simpa using HK.out),?_,HG.out⟩
   have:=HOWN.out
   rw[HE2.out]at this
   simpa using this
theorem nJ (p:OA)(cap:Nat)(K0:Int)(w:World):
  Calls Tryz.prog 23 #[.slice p 0 cap,K0] w fun e w'=>e= .returned (.int .i64 K0)∧w=w':=by
 go_enter Tryz.func23,Tryz.ntmps23
 go_wp2
 go_rounds 1
 go_ret
 exact⟨rfl,rfl⟩
end Go.Proofs.YtgnkoffndhmhpaaGreatDoor
