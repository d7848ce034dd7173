/-
  Texts of this proof, packed (@packed).
-/
import Derived.Test.YtgnkoffndhmhpaaGreatDoorR26
import Derived.Test.YtgnkoffndhmhpaaGreatDoorR37
import Derived.Test.YtgnkoffndhmhpaaGreatDoorR38
namespace Go.Proofs.YtgnkoffndhmhpaaGreatDoor
open Go.RowKit
set_option linter.unusedVariables false
set_option linter.unusedSimpArgs false
set_option maxHeartbeats 8000000
set_option maxRecDepth 100000
theorem aG8:(Tryz.prog.info? 55).map (fun i=>(i.zero,i.size,i.bytes))=some (some (.agg #[(),(),()]),3,24):=by kernel_rfl
theorem aJ9 (a b c:Int)(w:World):
  Calls Tryz.prog 61 #[.agg #[a,b,c]] w fun e w'=>e= .returned (.agg #[a,b,c])∧Ext w w':=by
 go_enter Tryz.func61,Tryz.ntmps61
 go_wp2
 exact bodyPost_ret (v:= .agg #[a,b,c]) (by simp[results,Tryz.results61,go_sem]) rfl ⟨rfl,xE⟩
theorem aJl (p:OA)(n cap:Nat)(left:Int)(w:World)(hn:n≤9223372036854775807)(hl:0≤left)(hl2:left≤1048576):
  Calls Tryz.prog 17 #[.slice p n cap,left] w fun e w'=>e= .returned (.int .i64 (if left<n then -1 else left-n))∧w=w':=by
 by_cases h:left<n
 ·rw[if_pos h]
  go_enter Tryz.func17,Tryz.ntmps17
  go_wp2
  go_ret
  exact⟨rfl,rfl⟩
 ·rw[if_neg h]
  go_enter Tryz.func17,Tryz.ntmps17
  go_wp2
  go_ret
  exact⟨rfl,rfl⟩
theorem aA8 (ds:List Dd3)(b off n cap:Nat)(w:World)(hn:ds.length=n)(hn2:n≤1099511627776)(hb:b<w.heap.size)
  (HR:Hid (Rd w (.slice (some ⟨b,off,none⟩) n cap) n 3 (ds.flatMap aX))):
  Calls Tryz.prog 19 #[.slice (some ⟨b,off,none⟩) n cap] w fun e w'=> ∃g,e= .returned (.slice (some ⟨g,0,none⟩) n n)∧w'.ownsRow w.heap.size 55 3 (.slice (some ⟨g,0,none⟩) n n) n (ds.flatMap aX)∧Ext w w':=by
 obtain⟨i0,hi,hz0,hz1,hz2⟩:=info_parts aG8
 have HN:=xQ hn
 clear hn
 go_enter Tryz.func19,Tryz.ntmps19
 go_wp2_with (at_make;refine wpList_make_full _ rfl _ _ 46 rfl w.heap.size 55 i0 (.agg #[(),(),()]) 3 Tryz.underlying46 hi hz0 hz1 .i64 .i64 _ _ n rfl rfl rfl rfl (by rw[hz2];omega) (by unfold maxLen;omega) (Nat.le_refl _) ?_;intro w0 hown0 hgrow0)
 have hE0:Ext w w0:=(Ext.refl w).grown hgrow0 (fun q hq=>by cases hq)
 clear hgrow0 hi hz0 hz1 hz2
 have hle0:=(hown0.lt w.heap.size rfl).2
 have HO0:=xQ hown0
 clear hown0
 go_loopw [4] (fun i wr=> ∃(k:Nat) (rest:List Value),k≤n∧i= .int .i64 k∧rest.length=(n-k)*3∧wr.ownsRow w.heap.size 55 3 (.slice (some ⟨w.heap.size,0,none⟩) n n) n ((ds.take k).flatMap aX++rest)∧Ext w wr) (fun i _=>n-(intOf i).toNat)
 case atStart=>exact⟨0,_,Nat.zero_le _,rfl,by rw[HO0.out.1];simp,by simpa using HO0.out,hE0⟩
 case round=>
  obtain⟨k,rest,hk,rfl,hrl,hown,hE⟩:=hrel
  have HOWN:=xQ hown
  have HRL:=xQ hrl
  clear hown hrl
  by_cases hlt:k<n
  ·obtain⟨d,hd⟩: ∃d,ds[k]? =some d:=⟨_,List.getElem?_eq_getElem (by rw[HN.out];exact hlt)⟩
   have HD:=xQ hd
   clear hd
   have hsz:=hE.sz
   have e0:wr.cell? ⟨b,off+k*3,none⟩=some (.int .i64 d.1):=(hE.cells.1 _ _ hb).trans ((HR.out).at (f:=aX) (fun _=>rfl) HD.out HN.out 0 (by omega))
   have e1:wr.cell? ⟨b,off+k*3+1,none⟩=some (.int .i64 d.2.1):=(hE.cells.1 _ _ hb).trans ((HR.out).at (f:=aX) (fun _=>rfl) HD.out HN.out 1 (by omega))
   have e2:wr.cell? ⟨b,off+k*3+2,none⟩=some (.int .i64 d.2.2):=(hE.cells.1 _ _ hb).trans ((HR.out).at (f:=aX) (fun _=>rfl) HD.out HN.out 2 (by omega))
   obtain⟨d0,d1,d2⟩:=d
   obtain⟨r0,r1,r2,rest',hrest⟩: ∃r0 r1 r2 rest',rest=r0::r1::r2::rest':=by
    have h3:3≤rest.length:=by
     rw[HRL.out]
     have:=Nat.mul_le_mul_right 3 (show 1≤n-k by omega)
     omega
    match rest,h3 with
    |r0::r1::r2::rest',_=>exact⟨r0,r1,r2,rest',rfl⟩
   have hpl:((ds.take k).flatMap aX).length=k*3:=by rw[cH aX 3 (fun _=>rfl)];simp;rw[HN.out];congr 1;omega
   go_wp2_with fail
   refine(aJ9 d0 d1 d2 _).mono ?_
   rintro e w1 ⟨rfl,h1⟩
   have how1:=HOWN.out.kept h1.gb (by simp[Value.ownBlock])
   have hg1:w.heap.size<w1.heap.size:=(how1.lt w.heap.size rfl).2
   have o0:w1.cell? ⟨w.heap.size,k*3,none⟩=some r0:=by rw[how1.cellAt _ (by have:=Nat.mul_le_mul_right 3 hlt;rw[Nat.succ_mul]at this;omega),hrest,List.getElem?_append_right (by omega),hpl];simp
   have f0:w1.frozen? ⟨w.heap.size,k*3,none⟩=false:=how1.frozenAt _
   have o1:w1.cell? ⟨w.heap.size,k*3+1,none⟩=some r1:=by rw[how1.cellAt _ (by have:=Nat.mul_le_mul_right 3 hlt;rw[Nat.succ_mul]at this;omega),hrest,List.getElem?_append_right (by omega),hpl];simp
   have f1:w1.frozen? ⟨w.heap.size,k*3+1,none⟩=false:=how1.frozenAt _
   have o2:w1.cell? ⟨w.heap.size,k*3+2,none⟩=some r2:=by rw[how1.cellAt _ (by have:=Nat.mul_le_mul_right 3 hlt;rw[Nat.succ_mul]at this;omega),hrest,List.getElem?_append_right (by omega),hpl];simp
   have f2:w1.frozen? ⟨w.heap.size,k*3+2,none⟩=false:=how1.frozenAt _
   have HO1:=xQ how1
   have HPL:=xQ hpl
   have HREST:=xQ hrest
   clear how1 hpl hrest
   go_wp2
   go_roundw
   case rel=>
    refine⟨k+1,rest',by omega,by go_num,?_,?_,?_⟩
    ·have:=HRL.out
     rw[HREST.out]at this
     simp only[List.length_cons]at this
     have e2:n-k=(n-(k+1))+1:=by omega
     rw[e2,Nat.succ_mul]at this
     omega
    ·have hs:=(((HO1.out.stored (k*3) (.int .i64 d0)).1.stored (k*3+1) (.int .i64 d1)).1.stored (k*3+2) (.int .i64 d2)).1
     have e:(((((ds.take k).flatMap aX++rest).set (k*3) (.int .i64 d0)).set (k*3+1) (.int .i64 d1)).set (k*3+2) (.int .i64 d2))=(ds.take (k+1)).flatMap aX++rest':=by
      rw[aD3 aX HD.out,HREST.out]
      simp[HPL.out,aX]
     rw[e]at hs
     exact hs
    ·exact xE
   case measure=>simp[intOf];omega
  ·obtain rfl:k=n:=by omega
   have e:ds.take k=ds:=List.take_of_length_le (by rw[HN.out];omega)
   have e2:rest= []:=List.eq_nil_of_length_eq_zero (by rw[HRL.out];simp)
   have HE:=xQ e
   have HE2:=xQ e2
   clear e e2
   go_wp2
   go_ret
   refine⟨_,rfl,?_,hE⟩
   have:=HOWN.out
   rw[HE.out,HE2.out]at this
   simpa using this
theorem aA7 (p:OA)(cap:Nat)(w:World):
  Calls Tryz.prog 19 #[.slice p 0 cap] w fun e w'=> ∃g,e= .returned (.slice (some ⟨g,0,none⟩) 0 0)∧w'.ownsRow w.heap.size 55 3 (.slice (some ⟨g,0,none⟩) 0 0) 0 []∧Ext w w':=by
 obtain⟨i0,hi,hz0,hz1,hz2⟩:=info_parts aG8
 go_enter Tryz.func19,Tryz.ntmps19
 go_wp2_with (at_make;refine wpList_make_full _ rfl _ _ 46 rfl w.heap.size 55 i0 (.agg #[(),(),()]) 3 Tryz.underlying46 hi hz0 hz1 .i64 .i64 _ _ 0 rfl rfl rfl rfl (by rw[hz2];omega) (by unfold maxLen;omega) (Nat.le_refl _) ?_;intro w0 hown0 hgrow0)
 have hE0:Ext w w0:=(Ext.refl w).grown hgrow0 (fun q hq=>by cases hq)
 clear hgrow0 hi hz0 hz1 hz2
 have HO0:=xQ hown0
 clear hown0
 go_wp2
 go_rounds 1
 go_ret
 exact⟨_,rfl,by have h:=HO0.out;have e:=List.eq_nil_of_length_eq_zero (h.1.trans (Nat.zero_mul _));rw[e]at h;exact h,hE0⟩
theorem aJ8 (p:OA)(n cap:Nat)(ds:List Dd3)(w:World)(h:Sl w p n cap 3 (ds.flatMap aX))(hn:n≤1099511627776):
  Calls Tryz.prog 19 #[.slice p n cap] w fun e w'=> ∃q c,e= .returned (.slice q n c)∧w'.ownsRow w.heap.size TDd 3 (.slice q n c) n (ds.flatMap aX)∧Ext w w':=by
 have hl:ds.length=n:=by
  have:=h.len
  rw[cH aX 3 (fun _=>rfl)]at this
  omega
 by_cases hz:0<n
 ·obtain⟨b,off,rfl,hb,hc⟩:=h.rd hz
  refine(aA8 ds b off n cap w hl hn hb (xQ ⟨h.len,.inr ⟨b,off,cap,rfl,h.le,h.mx,hb,hc⟩⟩)).mono ?_
  rintro e w' ⟨g,rfl,h1,h2⟩
  exact⟨_,_,rfl,h1,h2⟩
 ·obtain rfl:n=0:=by omega
  obtain rfl:ds= []:=List.eq_nil_of_length_eq_zero hl
  refine(aA7 p cap w).mono ?_
  rintro e w' ⟨g,rfl,h1,h2⟩
  exact⟨_,_,rfl,h1,h2⟩
section
open Go.ChangeShapes Go.WideShapes Go.ChangeAt Go.Deep
variable {H:Type} {enc:TypeId×Value→H} {w:World} {base:Nat} {spare:Nat→Bool} {held:Bool} {b0:Nat} {r:Reach} {v:Value} {d:DataW H} {p:List MemPlace}
def wH (d:Dd3):Prop:=B64 d.1∧B64 d.2.1∧B64 d.2.2
theorem aHn {n:Nat}{cs:List Value}{y:DataW H×List MemPlace}(hy:DataW.trod enc Tryz.prog w base spare held n 87 cs=some y): ∃a,cs=aX a∧wH a:=by
 obtain⟨y0,y1,y2,m,_,hl,h0,h1,h2⟩:=trod_struct3 Tryz.underlying87 hy
 have hl':cs.length=3:=hl.trans (by kernel_rfl)
 match cs,hl' with
 | [c0,c1,c2],_=>
   simp only[aEo,List.drop_zero,List.drop_succ_cons,List.take_succ_cons,List.take_zero]at h0 h1 h2
   obtain⟨a,rfl,ga⟩:=eA h0
   obtain⟨b,rfl,gb⟩:=eA h1
   obtain⟨c,rfl,gc⟩:=eA h2
   exact⟨(a,b,c),rfl,ga,gb,gc⟩
theorem aG2 (hv:Value.okWide Tryz.prog w r b0 41 v)(h:DataW.Trod enc Tryz.prog w base spare held 41 v d p):
  ∃y:List Dd3×(OA×Nat),v= .slice y.2.1 y.1.length y.2.2∧Sl w y.2.1 y.1.length y.2.2 3 (y.1.flatMap aX)∧ ∀a∈y.1,wH a:=by
 obtain⟨a0,len,cap,rfl⟩:=okWide_slice Tryz.underlying41 hv
 obtain⟨fuel,hf⟩:=h
 obtain⟨xs,q,c,hv',hS,hg⟩:=rR (α:=Dd3) aX wH 3 Tryz.underlying41 (by kernel_rfl) (by omega) (fun _=>rfl) (fun n cs y hy=>aHn hy) (by simpa[Value.cells]using hf)
 exact⟨(xs,q,c),hv',hS,hg⟩
end
theorem aCr {w:World}{q:OA}{m c2:Nat}{bs:List Bool}(h:Sl w q m c2 1 (bcs bs)){k:Nat}(hk:k<m):
  ∃b off x,q=some ⟨b,off,none⟩∧bs[k]? =some x∧b<w.heap.size∧w.cell? ⟨b,off+k,none⟩=some (.bool x):=by
 obtain⟨b,off,hp,hb,hc⟩:=h.rd (by omega)
 have hl:=h.len
 rw[aCv]at hl
 have hx:bs[k]? =some (bs[k]'(by omega)):=List.getElem?_eq_getElem (by omega)
 refine⟨b,off,bs[k]'(by omega),hp,hx,hb,?_⟩
 rw[hc k (by omega)]
 simp only[bcs,List.getElem?_map,hx,Option.map_some]
theorem mA (p q:OA)(n c1 c2:Nat)(bs:List Bool)(w:World)(h1:Sl w p n c1 1 (bcs bs))(h2:Sl w q n c2 1 (bcs bs)):
  Calls Tryz.prog 21 #[.slice p n c1,.slice q n c2] w fun e w'=>e= .returned (.bool true)∧Ext w w':=by
 have hn:=h1.bd
 have H1:=xQ h1
 have H2:=xQ h2
 clear h1 h2
 go_enter Tryz.func21,Tryz.ntmps21
 go_wp2
 go_loopw [5] (fun i wr=> ∃k:Nat,k≤n∧i= .int .i64 k∧Ext w wr) (fun i _=>n-(intOf i).toNat)
 case atStart=>exact⟨0,Nat.zero_le _,rfl,Ext.refl _⟩
 case round=>
  obtain⟨k,hk,rfl,hE⟩:=hrel
  by_cases hlt:k<n
  ·obtain⟨b,off,x,rfl,hx,hb,g0⟩:=aCr (H1.out.ext hE) hlt
   obtain⟨b2,off2,y,rfl,hy,hb2,k0⟩:=aCr (H2.out.ext hE) hlt
   rw[hx]at hy
   injection hy with hy
   subst hy
   clear hx
   have i1:(0:Int)≤(k:Int):=by omega
   have i2:(k:Int)<(n:Int):=by omega
   go_wp2
   go_quiet (fail)
   go_wp2
   go_roundw
   case rel=>exact⟨k+1,by omega,by go_num,xE⟩
   case measure=>simp[intOf];omega
  ·go_wp2
   go_ret
   exact⟨rfl,hE⟩
def bmk (K:Int)(n:Nat):List Value:=(List.range n).map (fun j=> .bool ((K+((j:Nat):Int))%3==0))
theorem aId (K:Int)(n:Nat):(bmk K n).length=n:=by simp[bmk]
theorem aHg (K:Int)(n:Nat):bmk K (n+1)=bmk K n++ [.bool ((K+(n:Int))%3==0)]:=by simp[bmk,List.range_succ]
theorem aIe (K:Int)(n j:Nat)(h:j<n):(bmk K n)[j]? =some (.bool ((K+(j:Int))%3==0)):=by simp[bmk,h]
theorem tB (g n cap base:Nat)(xs:List Value)(K0:Int)(w:World)(hn2:n≤1099511627776)(h0:0≤K0)(h1:K0≤4611686018427387904)
  (HO:Hid (w.ownsRow base TB 1 (.slice (some ⟨g,0,none⟩) n cap) n xs)):
  Calls Tryz.prog 24 #[.slice (some ⟨g,0,none⟩) n cap,K0] w fun e w'=>e= .returned (.int .i64 (K0+(n:Nat)))∧w'.ownsRow base TB 1 (.slice (some ⟨g,0,none⟩) n cap) n (bmk K0 n)∧w.grownBy w' (some g):=by
 go_enter Tryz.func24,Tryz.ntmps24
 go_wp2
 go_loopw [1,5] (fun kk i wr=> ∃(k:Nat) (K:Int) (rest:List Value),k≤n∧kk= .int .i64 K∧i= .int .i64 k∧K=K0+(k:Nat)∧rest.length=n-k∧wr.ownsRow base TB 1 (.slice (some ⟨g,0,none⟩) n cap) n (bmk K0 k++rest)∧w.grownBy wr (some g)) (fun _ i _=>n-(intOf i).toNat)
 case atStart=>exact⟨0,K0,xs,Nat.zero_le _,rfl,rfl,by simp,by rw[HO.out.1];simp,by simpa[bmk]using HO.out,World.grownBy.refl _ _⟩
 case round=>
  obtain⟨k,K,rest,hk,rfl,rfl,hK,hrl,hown,hg⟩:=hrel
  have hK1:0≤K:=by omega
  have hK2:K≤4611697013543665664:=by omega
  have HK:=xQ hK
  have HOWN:=xQ hown
  have HRL:=xQ hrl
  have HG:=xQ hg
  clear hK hown hrl hg
  by_cases hlt:k<n
  ·obtain⟨r0,rest',hrest⟩: ∃r0 rest',rest=r0::rest':=by
    have h3:1≤rest.length:=by rw[HRL.out];omega
    match rest,h3 with
    |r0::rest',_=>exact⟨r0,rest',rfl⟩
   have hpl:(bmk K0 k).length=k:=aId _ _
   have o0:wr.cell? ⟨g,k,none⟩=some r0:=by rw[HOWN.out.cellAt _ (by omega),hrest,List.getElem?_append_right (by omega),hpl];simp
   have f0:wr.frozen? ⟨g,k,none⟩=false:=HOWN.out.frozenAt _
   have HPL:=xQ hpl
   have HREST:=xQ hrest
   clear hpl hrest
   have i1:(0:Int)≤(k:Int):=by omega
   have i2:(k:Int)<(n:Int):=by omega
   go_wp2
   go_roundw
   case rel=>
    refine⟨k+1,K+1,rest',by omega,by go_num,by go_num,by rw[HK.out];omega,?_,?_,?_⟩
    ·have:=HRL.out
     rw[HREST.out]at this
     simp only[List.length_cons]at this
     omega
    ·have hs:=(HOWN.out.stored k (.bool (K%3==0))).1
     have e:(bmk K0 k++rest).set k (.bool (K%3==0))=bmk K0 (k+1)++rest':=by
      rw[aHg,HREST.out,←HK.out]
      have:=HPL.out
      simp[this]
     rw[e]at hs
     exact hs
    ·exact(wG HG.out _ _)
   case measure=>simp[intOf];omega
  ·obtain rfl:k=n:=by omega
   have e2:rest= []:=List.eq_nil_of_length_eq_zero (by rw[HRL.out];simp)
   have HE2:=xQ e2
   clear e2
   go_wp2
   go_ret
   refine⟨dL (by simpa using HK.out),?_,HG.out⟩
   have:=HOWN.out
   rw[HE2.out]at this
   simpa using this
theorem tA (p:OA)(cap:Nat)(K0:Int)(w:World):
  Calls Tryz.prog 24 #[.slice p 0 cap,K0] w fun e w'=>e= .returned (.int .i64 K0)∧w=w':=by
 go_enter Tryz.func24,Tryz.ntmps24
 go_wp2
 go_rounds 1
 go_ret
 exact⟨rfl,rfl⟩
theorem oK (p:OA)(n cap base:Nat)(K0:Int)(w:World)(hn2:n≤1099511627776)(h0:0≤K0)(h1:K0≤4611686018427387904)
  (HO:w.ownsRow base TB 1 (.slice p n cap) n (bmk K0 n)):
  Calls Tryz.prog 25 #[.slice p n cap,K0] w fun e w'=>e= .returned (.int .i64 (K0+(n:Nat)))∧w=w':=by
 have hS:=Sl.own HO
 have HS:=xQ hS
 clear HO hS
 go_enter Tryz.func25,Tryz.ntmps25
 go_wp2
 go_loop [1,5] (fun kk i=> ∃(k:Nat) (K:Int),k≤n∧kk= .int .i64 K∧i= .int .i64 k∧K=K0+(k:Nat)) (fun _ i=>n-(intOf i).toNat)
 case atStart=>exact⟨0,K0,Nat.zero_le _,rfl,rfl,by simp⟩
 case round=>
  obtain⟨k,K,hk,rfl,rfl,hK⟩:=hrel
  have hK1:0≤K:=by omega
  have hK2:K≤4611697013543665664:=by omega
  by_cases hlt:k<n
  ·obtain⟨b,off,hp,hb,hc⟩:=HS.out.rd (by omega)
   subst hp
   have g0:w.cell? ⟨b,off+k,none⟩=some (.bool (K%3==0)):=by rw[hc k (by omega),aIe _ _ _ hlt,←hK]
   have HK:=xQ hK
   clear hK hc
   have i1:(0:Int)≤(k:Int):=by omega
   have i2:(k:Int)<(n:Int):=by omega
   go_wp2
   go_round
   case rel=>exact⟨k+1,K+1,by omega,by go_num,by go_num,by rw[HK.out];omega⟩
   case measure=>simp[intOf];omega
  ·obtain rfl:k=n:=by omega
   have HK:=xQ hK
   clear hK
   go_wp2
   go_ret
   exact⟨dL (by simpa using HK.out),rfl⟩
theorem aB7 {B n cap:Nat}{p:OA}{xs:List Value}(K:Int)(w:World)(h:w.ownsRow B TB 1 (.slice p n cap) n xs)(hn:n≤1099511627776)(h0:0≤K)(h1:K≤4611686018427387904):
  Calls Tryz.prog 24 #[.slice p n cap,K] w fun e w'=>e= .returned (.int .i64 (K+(n:Nat)))∧w'.ownsRow B TB 1 (.slice p n cap) n (bmk K n)∧w.grownBy w' (Value.slice p n cap).ownBlock:=by
 by_cases hz:0<n
 ·have h2:=h
  rcases h2.2 with⟨_,h3⟩|⟨g,cap',cur,e1,hb,hg,r⟩
  ·omega
  ·injection e1 with e1 e2 e3
   subst e1
   refine(tB g n cap B xs K w hn h0 h1 (xQ h)).mono ?_
   rintro e w' ⟨rfl,h4,h5⟩
   exact⟨rfl,h4,h5⟩
 ·obtain rfl:n=0:=by omega
  refine(tA p cap K w).mono ?_
  rintro e w' ⟨rfl,rfl⟩
  obtain rfl:xs= []:=List.eq_nil_of_length_eq_zero (by have:=h.1;simpa using this)
  exact⟨by simp,by simpa[bmk]using h,World.grownBy.refl _ _⟩
theorem qS {B n cap:Nat}{p:OA}{xs:List Value}(K:Int)(w:World)(h:w.ownsRow B TDd 3 (.slice p n cap) n xs)(hn:n≤1099511627776)(h0:0≤K)(h1:K≤4611686018427387904):
  Calls Tryz.prog 23 #[.slice p n cap,K] w fun e w'=>e= .returned (.int .i64 (K+(n*3:Nat)))∧w'.ownsRow B TDd 3 (.slice p n cap) n (aU K (n*3))∧w.grownBy w' (Value.slice p n cap).ownBlock:=by
 by_cases hz:0<n
 ·have h2:=h
  rcases h2.2 with⟨_,h3⟩|⟨g,cap',cur,e1,hb,hg,r⟩
  ·omega
  ·injection e1 with e1 e2 e3
   subst e1
   refine(nK g n cap B xs K w hn h0 h1 h).mono ?_
   rintro e w' ⟨rfl,h4,h5⟩
   exact⟨rfl,h4,h5⟩
 ·obtain rfl:n=0:=by omega
  refine(nJ p cap K w).mono ?_
  rintro e w' ⟨rfl,rfl⟩
  obtain rfl:xs= []:=List.eq_nil_of_length_eq_zero (by have:=h.1;simpa using this)
  exact⟨by simp,by simpa[aU]using h,World.grownBy.refl _ _⟩
end Go.Proofs.YtgnkoffndhmhpaaGreatDoor
