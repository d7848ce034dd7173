/-
  Texts of this proof, packed (@packed).
-/
import Derived.Test.YtpelpnfhbepokaaGreatDoorV16
import Derived.Test.YtpelpnfhbepokaaGreatDoorV17
namespace Go.Proofs.YtpelpnfhbepokaaGreatDoor
open Go.RowKit
set_option linter.unusedVariables false
set_option linter.unusedSimpArgs false
set_option maxHeartbeats 8000000
set_option maxRecDepth 100000
abbrev aL:TypeId:=30
theorem rQ:ElT Tryz.prog 28 TV 4:=
 ⟨Tryz.underlying28,by
  obtain⟨i,hi,h0,h1,h2⟩:=info_parts (show(Tryz.prog.info? TV).map (fun i=>(i.zero,i.size,i.bytes))=some (some (.agg #[(),(),(),()]),4,32) by kernel_rfl)
  exact⟨i,_,hi,h0,h1,by omega,rfl⟩,by omega⟩
theorem eL (vs:List aP): ∀u∈vs.flatMap aD,u.oneCell'=true:=by intro u hu;obtain⟨v,_,hv⟩:=List.mem_flatMap.1 hu;simp only[aD,List.mem_cons,List.not_mem_nil,or_false]at hv;rcases hv with rfl|rfl|rfl|rfl<;>rfl
theorem nT (v:aP): ∀u∈aD v,u.oneCell'=true:=by intro u hu;simp only[aD,List.mem_cons,List.not_mem_nil,or_false]at hu;rcases hu with rfl|rfl|rfl|rfl<;>rfl
theorem aHf (aA aB a b aE aF aC aG:Int)(p:OA)(n d:Nat)(q:OA)(m c2:Nat)(xs:List Int)(vs:List aP)(w:World)(hm:m≤1000)(hS:Hid (Sl w q m c2 4 (vs.flatMap aD)))
  (HL:xC 81 #[aH aA aB p n d] w fun w' e w''=> ∃q c,e= .returned (aH aA aB q n c)∧w''.ownsRow w'.heap.size TI 1 (.slice q n c) n (ivs xs)∧Ext w' w''):
  Calls Tryz.prog 37 #[.agg #[aA,aB,.slice p n d,a,b,aE,aF,aC,aG,.slice q m c2]] w fun e w'=> ∃p' cap' q' c2',e= .returned (.agg #[aA,aB,.slice p' n cap',a,b,aE,aF,aC,aG,.slice q' m c2'])∧w'.ownsRow w.heap.size TI 1 (.slice p' n cap') n (ivs xs)∧w'.ownsRow w.heap.size TV 4 (.slice q' m c2') m (vs.flatMap aD)∧Ext w w':=by
 go_enter Tryz.func37,Tryz.ntmps37;go_wp2_with fail;refine(HL _ ((((Mem.start w).c0 aL #[aA,aB,.slice p n d,a,b,aE,aF,aC,aG,.slice q m c2]).c1 aL zT).c2 aL #[aA,aB,.slice p n d,a,b,aE,aF,aC,aG,.slice q m c2]).ext).mono ?_;rintro e w1 ⟨q0,c0,rfl,z,ab⟩;have M1:=(((((Mem.start w).c0 aL #[aA,aB,.slice p n d,a,b,aE,aF,aC,aG,.slice q m c2]).c1 aL zT).c2 aL #[aA,aB,.slice p n d,a,b,aE,aF,aC,aG,.slice q m c2]).call ab z)
 have k:=M1.hi 1;have l:=M1.hi 2;have o:=M1.hi 3;clear ab z;have c9:=(M1.bk 3).cl 9;have d0:=(M1.bk 1).cl 0;have ae:=(M1.bk 1).frozen 0;have d1:=(M1.bk 1).cl 1;have af:=(M1.bk 1).frozen 1;have d2:=(M1.bk 1).cl 2;have ag:=(M1.bk 1).frozen 2
 go_wp2_with (at_builtin;refine cE rQ rfl _ _ rfl ((((M1.store (i:=1) rfl 0 (.int .i64 aA)).store (i:=1) rfl 1 (.int .i64 aB)).store (i:=1) rfl 2 (.slice q0 n c0)).made0 TV 4 (w1.heap.size) (by simp)) 0 rfl rfl (vs.flatMap aD) rfl (hS.out.ext ((((M1.store (i:=1) rfl 0 (.int .i64 aA)).store (i:=1) rfl 1 (.int .i64 aB)).store (i:=1) rfl 2 (.slice q0 n c0)).made0 TV 4 (w1.heap.size) (by simp)).ext) (eL vs) (by omega) ?_;intro q7 c7 w6 y;have M6:=xQ (show Mem w w6 [aJ w.heap.size TV 4 (q7) (m) (c7) (vs.flatMap aD),aJ w.heap.size TI 1 (q0) (n) (c0) (ivs xs),aI w.heap.size (w.heap.size+1+1) aL #[aA,aB,.slice q0 n c0,a,b,aE,aF,aC,aG,.slice q m c2],aI w.heap.size (w.heap.size+1) aL #[(),(),((),()),(),(),(),(),(),(),((),())],aI w.heap.size (w.heap.size) aL #[aA,aB,.slice p n d,a,b,aE,aF,aC,aG,.slice q m c2]]from by have:=(show Mem w w6 [aJ w.heap.size TV 4 (q7) (0+m) (c7) ([]++vs.flatMap aD),aJ w.heap.size TI 1 (q0) (n) (c0) (ivs xs),aI w.heap.size (w.heap.size+1+1) aL #[aA,aB,.slice q0 n c0,a,b,aE,aF,aC,aG,.slice q m c2],aI w.heap.size (w.heap.size+1) aL #[(),(),((),()),(),(),(),(),(),(),((),())],aI w.heap.size (w.heap.size) aL #[aA,aB,.slice p n d,a,b,aE,aF,aC,aG,.slice q m c2]]from y);simpa only[Nat.zero_add,List.nil_append]using this);clear y c9 d0 ae d1 af d2 ag M1 k l o;(have g:w.heap.size+1+1<w6.heap.size:=(M6.out.hi 2));(have h:w.heap.size+1<w6.heap.size:=(M6.out.hi 3));(have j:w.heap.size<w6.heap.size:=(M6.out.hi 4));(obtain⟨x0,x1,x2,x3,x4,x5,x6,x7,x8,x9⟩:=(M6.out.bk 2).ten);(have ah:w6.cell? ⟨w.heap.size+1+1,9,none⟩=some (.slice q m c2):=(M6.out.bk 2).cell 9);(have ad:w6.frozen? ⟨w.heap.size+1+1,9,none⟩=false:=(M6.out.bk 2).frozen 9);(obtain⟨y0,yf0,y1,yf1,y2,yf2,y3,yf3,y4,yf4,y5,yf5,y6,yf6,y7,yf7,y8,yf8,y9,yf9⟩:=(M6.out.bk 3).tenf))
 have r:=(((M6.out.st 2 9 (.slice q7 m c7)).st 3 0 (.int .i64 aA)).st 3 1 (.int .i64 aB))
 have s:=((r.st 3 2 (.slice q0 n c0)).st 3 3 (.int .i64 a))
 have t:=((s.st 3 4 (.int .i64 b)).st 3 5 (.int .i64 aE))
 have u:=((t.st 3 6 (.int .i64 aF)).st 3 7 (.int .i64 aC))
 have x:=((u.st 3 8 (.int .i64 aG)).st 3 9 (.slice q7 m c7))
 clear x0 x1 x2 x3 x4 x5 x6 x7 x8 x9 ah ad y0 yf0 y1 yf1 y2 yf2 y3 yf3 y4 yf4 y5 yf5 y6 yf6 y7 yf7 y8 yf8 y9 yf9 g h j;have f:=(show Mem w (((((((((((w6.setCell ⟨w.heap.size+1+1,9,none⟩ (.slice q7 m c7)).setCell ⟨w.heap.size+1,0,none⟩ (.int .i64 aA)).setCell ⟨w.heap.size+1,1,none⟩ (.int .i64 aB)).setCell ⟨w.heap.size+1,2,none⟩ (.slice q0 n c0)).setCell ⟨w.heap.size+1,3,none⟩ (.int .i64 a)).setCell ⟨w.heap.size+1,4,none⟩ (.int .i64 b)).setCell ⟨w.heap.size+1,5,none⟩ (.int .i64 aE)).setCell ⟨w.heap.size+1,6,none⟩ (.int .i64 aF)).setCell ⟨w.heap.size+1,7,none⟩ (.int .i64 aC)).setCell ⟨w.heap.size+1,8,none⟩ (.int .i64 aG)).setCell ⟨w.heap.size+1,9,none⟩ (.slice q7 m c7)) [aJ w.heap.size TV 4 (q7) (m) (c7) (vs.flatMap aD),aJ w.heap.size TI 1 (q0) (n) (c0) (ivs xs),aI w.heap.size (w.heap.size+1+1) aL #[aA,aB,.slice q0 n c0,a,b,aE,aF,aC,aG,.slice q7 m c7],aI w.heap.size (w.heap.size+1) aL #[aA,aB,.slice q0 n c0,a,b,aE,aF,aC,aG,.slice q7 m c7],aI w.heap.size (w.heap.size) aL #[aA,aB,.slice p n d,a,b,aE,aF,aC,aG,.slice q m c2]]from x)
 generalize aa:World.setCell _ _ _=wz;rw[aa]at f;clear aa M6 r s t u x;obtain⟨y0,y1,y2,y3,y4,y5,y6,y7,y8,y9⟩:=(f.bk 3).ten;exact bodyPost_ret (v:= .agg #[aA,aB,.slice q0 n c0,a,b,aE,aF,aC,aG,.slice q7 m c7]) (by simp[results,Tryz.results37,go_sem, *]) rfl ⟨q0,c0,q7,c7,rfl,(f.ow 1),by have:=(f.ow 0);simpa using this,f.ext⟩
theorem pA (h:aO)(p:OA)(n a:Nat)(q:OA)(m c2:Nat)(w:World)(hn:n≤1000)(hm:m≤1000)(hi:IsHouse w h p n a q m c2):
  Calls Tryz.prog 37 #[bK h p n a q m c2] w (dG h w):=by
 have hl:=hi.clen;have f:=hi.vlen;refine(aHf h.aA h.aB h.free h.step h.aE h.aF h.aC h.aG p n a q m c2 h.cells h.vs w hm (xQ hi.vs) (xQ fun w' hx=> ?_)).mono ?_
 ·refine(fG h.aA h.aB p n a h.cells w' (by omega) (hi.cells.ext hx)).mono ?_;rintro e i ⟨q,c,rfl,ho,g⟩;rw[hl]at ho⊢;exact⟨q,c,rfl,ho,g⟩
 rintro e w' ⟨p',b,q',d,rfl,h1,h2,h3⟩;subst hl f;exact⟨p',b,q',d,rfl,h1,h2,h3⟩
def jW (v:aP)(vs:List aP):List aP:=vs.takeWhile (fun u=>decide (u.1<v.1))++v::vs.dropWhile (fun u=>decide (u.1<v.1))
theorem pR (v:aP): ∀(vs:List aP) (k:Nat),(∀u∈vs.take k,u.1<v.1)→(∀u,vs[k]? =some u→ ¬u.1<v.1)→jW v vs=vs.take k++v::vs.drop k
 | [],k,_,_=>by simp[jW]
 |u::vs,0,_,h2=>by simp[jW,h2 u (by simp)]
 |u::vs,k+1,h1,h2=>by have h:=pR v vs k (fun z hz=>h1 z (by simp[hz])) (fun z hz=>h2 z (by simpa using hz));have hu:u.1<v.1:=h1 u (by simp);simp only[jW]at h⊢;simp[hu,h]
theorem jO: ∀(k:Nat) (vs:List aP),(vs.flatMap aD).drop (k*4)=(vs.drop k).flatMap aD
 |0,vs=>by simp
 |k+1,[]=>by simp
 |k+1,v::vs=>by rw[List.flatMap_cons,show(k+1)*4=(aD v).length+k*4 by simp[aD];omega,List.drop_length_add_append,jO k vs];rfl
theorem aA2 {w:World}{b c n a sz k:Nat}{xs:List Value}(h:Sl w (some ⟨b,c,none⟩) n a sz xs)(hk:k≤n):Sl w (some ⟨b,c+k*sz,none⟩) (n-k) (a-k) sz (xs.drop (k*sz)):=by have hl:=h.len;have f:=h.le;have g:=h.mx;refine⟨by rw[List.length_drop,hl,Nat.sub_mul],by omega,by omega,fun h0=> ?_⟩;obtain⟨b',d,e,hb,hc⟩:=h.rd (by omega);injection e with e;injection e with e1 e2;subst e1 e2;refine⟨_,_,rfl,hb,fun j hj=> ?_⟩;rw[Nat.add_assoc,hc (k*sz+j) (by rw[Nat.sub_mul]at hj;omega)];simp
theorem aFp (id a1 a2 a3:Int)(q:OA)(m c2:Nat)(vs:List aP)(w:World)(hm:m≤1000)(hS:Sl w q m c2 4 (vs.flatMap aD)):
  Calls Tryz.prog 83 #[.slice q m c2,.agg #[id,a1,a2,a3]] w fun e w'=> ∃q' c',e= .returned (.slice q' (m+1) c')∧w'.ownsRow w.heap.size TV 4 (.slice q' (m+1) c') (m+1) ((jW (id,a1,a2,a3) vs).flatMap aD)∧Ext w w':=by
 have hl:Hid (vs.length=m):=by have:=hS.len;rw[dC aD 4 (fun _=>rfl)]at this;exact(by omega:vs.length=m)
 have p:=hS.le;have HS:=xQ hS;clear hS;have n:=xQ (((Mem.start w).c0 TV #[id,a1,a2,a3]).made0 TV 4 (w.heap.size+1) (by simp));go_enter Tryz.func83,Tryz.ntmps83;go_wp2;go_loopw [5,6] (fun v i wr=> ∃(k:Nat) (q5:OA) (c5:Nat),k≤m∧i= .int .i64 k∧v= .slice q5 k c5∧(∀u∈vs.take k,u.1<id)∧Mem w wr [aJ w.heap.size TV 4 (q5) (k) (c5) ((vs.take k).flatMap aD),aI w.heap.size (w.heap.size) TV #[id,a1,a2,a3]]) (fun _ i _=>m-(intOf i).toNat)
 case atStart=>exact⟨0,some ⟨w.heap.size+1,0,none⟩,0,Nat.zero_le _,rfl,rfl,by simp,n.out⟩
 case round=>
  clear n;obtain⟨k,q5,c5,hk,rfl,rfl,j,hM⟩:=hrel;have HM:=hM;have HL:=xQ j;clear hM j;by_cases hlt:k<m
  ·obtain⟨b,t,c0,c1,c4,c3,rfl,hx,hb,g0,g1,g2,g3⟩:=eB (HS.out.ext HM.ext) hlt;have g:w.heap.size<wr.heap.size:=(HM.hi 1)
   have b0:=(HM.bk 1).cl 0;have b1:=(HM.bk 1).cl 1;have b2:=(HM.bk 1).cl 2;have b3:=(HM.bk 1).cl 3;have HX:=xQ hx;clear hx;have i1:(0:Int)≤(k:Int):=by omega
   have i2:(k:Int)<(m:Int):=by omega
   have i3:(k:Int)≤(m:Int):=by omega
   by_cases hy:c0<id
   ·have c:Hid (∀z∈vs.take (k+1),z.1<id):=by
     show∀z∈vs.take (k+1),z.1<id;rw[bA HX.out];intro z hz;rcases List.mem_append.1 hz with h|h
     ·exact HL z h
     simp at h;subst h;exact hy
    have hd:decide (c0<id)=true:=by simp[hy]
    go_wp2;go_quiet (fail);generalize d:World.drewN wr _=wi;have hX:Ext wr wi:=by rw[←d];exact Ext.drewN (Ext.refl _) _
    clear d b0 b1 b2 b3 g hd;have a:=(HM.adv hX)
    clear HM;have f:=a.hi 1;have d0:=(a.bk 1).cl 0;have d1:=(a.bk 1).cl 1;have d2:=(a.bk 1).cl 2;have d3:=(a.bk 1).cl 3;have e0:=(hX.cells.1 _ _ hb).trans g0;have e1:=(hX.cells.1 _ _ hb).trans g1;have e2:=(hX.cells.1 _ _ hb).trans g2;have e3:=(hX.cells.1 _ _ hb).trans g3;have r:b<wi.heap.size:=Nat.lt_of_lt_of_le hb hX.sz;clear hX g0 g1 g2 g3 hb;go_wp2_with (at_builtin;go_loud (refine cE rQ rfl _ _ rfl (a.adv ((Ext.refl _).alloc (.cells #[c0,c1,c4,c3] TV))) 0 rfl rfl (aD (c0,c1,c4,c3)) rfl (dJ _ _ _ 1 4 _ (by simp) (by simp) (by simp[maxLen])) (nT _) (by omega) ?_;intro q7 c7 w6 M6));have M7:=(show Mem w w6 [aJ w.heap.size TV 4 (q7) (k+1) (c7) ((vs.take k).flatMap aD++aD (c0,c1,c4,c3)),aI w.heap.size (w.heap.size) TV #[id,a1,a2,a3]]from M6)
    have l:Hid ((vs.take k).flatMap aD++aD (c0,c1,c4,c3)=(vs.take (k+1)).flatMap aD):=by show _=_;rw[bA HX.out,List.flatMap_append];simp
    rw[l.out]at M7;clear l M6;go_roundw
    case rel=>exact⟨k+1,q7,c7,by omega,by go_num,rfl,c.out,M7⟩
    case measure=>simp[intOf];omega
   have c:Hid (jW (id,a1,a2,a3) vs=vs.take k++(id,a1,a2,a3)::vs.drop k):=pR _ vs k HL (fun z hz=>by rw[HX.out]at hz;injection hz with hz;subst hz;exact hy);have s: ¬c2=k:=by omega
   have hd:decide (c0<id)=false:=by simp[hy]
   clear HX HL;go_wp2;go_quiet (fail);generalize d:World.drewN wr _=wi;have hX:Ext wr wi:=by rw[←d];exact Ext.drewN (Ext.refl _) _
   clear d b0 b1 b2 b3 g hd;have a:=(HM.adv hX)
   clear HM;have f:=a.hi 1;have d0:=(a.bk 1).cl 0;have d1:=(a.bk 1).cl 1;have d2:=(a.bk 1).cl 2;have d3:=(a.bk 1).cl 3;clear hX g0 g1 g2 g3 hb hy;go_wp2
   go_region_law ((first
    |(refine fL rQ (by rfl) _ _ (by rfl) (a.adv (by exact .drew (.alloc (.refl _) _))) 0 (by rfl) (by rfl) (aD (id,a1,a2,a3)) (by rfl) (by first|exact dJ wi #[id,a1,a2,a3] _ 1 4 _ rfl (by simp) (by simp[maxLen])|exact(dJ wi #[id,a1,a2,a3] _ 1 4 _ rfl (by simp) (by simp[maxLen])).ext (Ext.drew (Ext.refl _))|exact dJ wi.drew #[id,a1,a2,a3] _ 1 4 _ rfl (by simp) (by simp[maxLen])) (nT _) (by omega) ?_
      intro q7 c7 w6 M6;have M7:=(show Mem w w6 [aJ w.heap.size TV 4 (q7) (k+1) (c7) ((vs.take k).flatMap aD++aD (id,a1,a2,a3)),aI w.heap.size (w.heap.size) TV #[id,a1,a2,a3]]from M6)
      clear M6)
    |(refine fL rQ (by rfl) _ _ (by rfl) (M7.adv (by exact .refl _)) 0 (by rfl) (by rfl) ((vs.drop k).flatMap aD) (by rfl) (jO k vs▸aA2 (HS.out.ext (M7.ext.trans (by exact .refl _))) (by omega)) (eL _) (by omega) ?_
      intro q9 c9 w9 M9
      have M9:=xQ (show Mem w w9 [aJ w.heap.size TV 4 (q9) (k+1+(m-k)) (c9) (((vs.take k).flatMap aD++aD (id,a1,a2,a3))++(vs.drop k).flatMap aD),aI w.heap.size (w.heap.size) TV #[id,a1,a2,a3]]from M9))))
   all_goals (
    have e1:k+1+(m-k)=m+1:=by omega
    have e2:((vs.take k).flatMap aD++aD (id,a1,a2,a3))++(vs.drop k).flatMap aD=(vs.take k++(id,a1,a2,a3)::vs.drop k).flatMap aD:=by simp
    have MZ:=(show Mem w w9 [aJ w.heap.size TV 4 (q9) (m+1) (c9) ((vs.take k++(id,a1,a2,a3)::vs.drop k).flatMap aD),aI w.heap.size (w.heap.size) TV #[id,a1,a2,a3]]from by have:=M9.out;rw[e2]at this;simpa only[e1]using this)
    clear e2 M9 M7)
   all_goals go_wp2
   all_goals exact bodyPost_ret (v:= .slice q9 (m+1) c9) (by simp[results,Tryz.results83,go_sem, *]) rfl ⟨q9,c9,rfl,by rw[c.out];exact MZ.ow 0,MZ.ext⟩
  obtain rfl:k=m:=by omega
  have g:w.heap.size<wr.heap.size:=(HM.hi 1)
  have b0:=(HM.bk 1).cl 0;have b1:=(HM.bk 1).cl 1;have b2:=(HM.bk 1).cl 2;have b3:=(HM.bk 1).cl 3;have c:Hid (jW (id,a1,a2,a3) vs=vs.take k++(id,a1,a2,a3)::vs.drop k):=pR _ vs k HL (fun z hz=>by rw[List.getElem?_eq_none (by rw[hl.out];exact Nat.le_refl _)]at hz;cases hz);have o:Hid (vs.drop k= []):=List.drop_eq_nil_of_le (by rw[hl.out];exact Nat.le_refl _);have i1:(0:Int)≤(k:Int):=by omega
  clear HL;go_wp2;go_quiet (fail);generalize d:World.drewN wr _=wi;have hX:Ext wr wi:=by rw[←d];exact Ext.drewN (Ext.refl _) _
  clear d b0 b1 b2 b3 g;have a:=(HM.adv hX)
  clear HM;have f:=a.hi 1;have d0:=(a.bk 1).cl 0;have d1:=(a.bk 1).cl 1;have d2:=(a.bk 1).cl 2;have d3:=(a.bk 1).cl 3;clear hX;go_wp2
  go_region_law ((first
   |(refine fL rQ (by rfl) _ _ (by rfl) (a.adv (by exact .drew (.alloc (.refl _) _))) 0 (by rfl) (by rfl) (aD (id,a1,a2,a3)) (by rfl) (by first|exact dJ wi #[id,a1,a2,a3] _ 1 4 _ rfl (by simp) (by simp[maxLen])|exact(dJ wi #[id,a1,a2,a3] _ 1 4 _ rfl (by simp) (by simp[maxLen])).ext (Ext.drew (Ext.refl _))|exact dJ wi.drew #[id,a1,a2,a3] _ 1 4 _ rfl (by simp) (by simp[maxLen])) (nT _) (by omega) ?_
     intro q7 c7 w6 M6;have M7:=(show Mem w w6 [aJ w.heap.size TV 4 (q7) (k+1) (c7) ((vs.take k).flatMap aD++aD (id,a1,a2,a3)),aI w.heap.size (w.heap.size) TV #[id,a1,a2,a3]]from M6)
     clear M6)
   |(refine fL rQ (by rfl) _ _ (by rfl) (M7.adv (by exact .refl _)) 0 (by rfl) (by rfl) (([]:List aP).flatMap aD) (by rfl) (⟨by simp,Nat.zero_le _,by have:=HS.out.mx;omega,fun h=>absurd h (by omega)⟩) (eL _) (by omega) ?_
     intro q9 c9 w9 M9
     have M9:=xQ (show Mem w w9 [aJ w.heap.size TV 4 (q9) (k+1+0) (c9) (((vs.take k).flatMap aD++aD (id,a1,a2,a3))++([]:List aP).flatMap aD),aI w.heap.size (w.heap.size) TV #[id,a1,a2,a3]]from M9))))
  all_goals (
   have e1:k+1+0=k+1:=by omega
   have e2:((vs.take k).flatMap aD++aD (id,a1,a2,a3))++([]:List aP).flatMap aD=(vs.take k++(id,a1,a2,a3)::vs.drop k).flatMap aD:=by simp[o.out]
   have MZ:=(show Mem w w9 [aJ w.heap.size TV 4 (q9) (k+1) (c9) ((vs.take k++(id,a1,a2,a3)::vs.drop k).flatMap aD),aI w.heap.size (w.heap.size) TV #[id,a1,a2,a3]]from by have:=M9.out;rw[e2]at this;simpa only[e1]using this)
   clear e2 M9 M7)
  all_goals go_wp2
  all_goals exact bodyPost_ret (v:= .slice q9 (k+1) c9) (by simp[results,Tryz.results83,go_sem, *]) rfl ⟨q9,c9,rfl,by rw[c.out];exact MZ.ow 0,MZ.ext⟩
def vix (id:Int)(vs:List aP):Int:=if vs.any (fun v=>v.1==id)then(vs.findIdx (fun v=>v.1==id):Int)else -1
theorem aE0 {id:Int}{vs:List aP}{k:Nat}{v:aP}(hv:vs[k]? =some v) (h:v.1=id) (hp:(vs.take k).any (fun v=>v.1==id)=false):vix id vs=k:=by
 have a:k<vs.length:=(List.getElem?_eq_some_iff.1 hv).1;have e:vs[k]=v:=by have:=(List.getElem?_eq_some_iff.1 hv).2;exact this
 have ha:vs.any (fun v=>v.1==id)=true:=List.any_eq_true.2 ⟨v,List.mem_of_getElem? hv,by simp[h]⟩;have hi:vs.findIdx (fun v=>v.1==id)=k:=by rw[List.findIdx_eq a];refine⟨by simp[e,h],fun j hj=> ?_⟩;have:=List.any_eq_false.1 hp vs[j] (by rw[List.mem_take_iff_getElem];exact⟨j,by omega,rfl⟩);simpa using this
 unfold vix;rw[if_pos ha,hi]
theorem tN {id:Int}{vs:List aP}(hp:vs.any (fun v=>v.1==id)=false):vix id vs= -1:=by unfold vix;simp[hp]
theorem aBg {id:Int}{vs:List aP}{k:Nat}{v:aP}(hv:vs[k]? =some v) (h: ¬v.1=id) (hp:(vs.take k).any (fun v=>v.1==id)=false):(vs.take (k+1)).any (fun v=>v.1==id)=false:=by rw[bA hv,List.any_append,hp];simp[h]
theorem lQ (id:Int)(vs:List aP):(vix id vs= -1∧bY id vs=none)∨ ∃(k:Nat) (a1 a2 a3:Int),k<vs.length∧vix id vs=k∧vs[k]? =some (id,a1,a2,a3)∧bY id vs=some (id,a1,a2,a3):=by
 cases h:vs.any (fun v=>v.1==id)with
 |false=>exact .inl ⟨tN h,by unfold bY;rw[List.find?_eq_none];simpa using h⟩
 |true=>
  right;have a:vs.findIdx (fun v=>v.1==id)<vs.length:=List.findIdx_lt_length.2 (by simpa using h);have hg:=List.findIdx_getElem (w:=a);have hf:bY id vs=some (vs[vs.findIdx (fun v=>v.1==id)]):=by unfold bY;rw[List.find?_eq_some_iff_getElem];exact⟨hg,_,a,rfl,fun j hj=>by simpa using List.not_of_lt_findIdx hj⟩
  have h0:vs[vs.findIdx (fun v=>v.1==id)].1=id:=by simpa using hg
  generalize hb:vs[vs.findIdx (fun v=>v.1==id)]=v at*;obtain⟨b0,b1,b2,b3⟩:=v;dsimp only at h0;subst h0;exact⟨_,b1,b2,b3,a,by unfold vix;rw[if_pos h],by rw[List.getElem?_eq_getElem a,hb],hf⟩
theorem vK (B:Nat)(q:OA)(m c2:Nat)(vs:List aP)(id:Int)(w:World)(hS:Sl w q m c2 4 (vs.flatMap aD))(hB:B<w.heap.size)(hc:w.cell? ⟨B,0,none⟩=some (.int .i64 id)):
  Calls Tryz.prog 103 #[.slice q m c2,.func (.func 104) #[] #[.pointer (some ⟨B,0,none⟩)]] w fun e w'=>e= .returned (.int .i64 (vix id vs))∧Ext w w':=by
 have hn:=hS.bd;have HS:=xQ hS;have hl:Hid (vs.length=m):=by have:=hS.len;rw[dC aD 4 (fun _=>rfl)]at this;exact(by omega:vs.length=m)
 clear hS;go_enter Tryz.func103,Tryz.ntmps103;go_wp2;go_loopw [8] (fun i wr=> ∃k:Nat,k≤m∧i= .int .i64 k∧(vs.take k).any (fun v=>v.1==id)=false∧Ext w wr∧w.heap.size≤wr.heap.size∧wr.cell? ⟨B,0,none⟩=some (.int .i64 id)) (fun i _=>m-(intOf i).toNat)
 case atStart=>exact⟨0,Nat.zero_le _,rfl,by simp,by exact .refl _,by simp,by simpa using hc⟩
 case round=>
  obtain⟨k,hk,rfl,hp,hE,f,d⟩:=hrel;have HP:=xQ hp;clear hp;by_cases hlt:k<m
  ·obtain⟨b,g,a0,a1,a2,a3,rfl,hv,hb,g0,g1,g2,g3⟩:=eB (HS.out.ext hE) hlt;have HV:=xQ hv;clear hv;have c:(wr.alloc (.cells #[a0,a1,a2,a3] 76)).cell? ⟨B,0,none⟩=some (.int .i64 id):=by rw[((Ext.refl wr).alloc _).cells.1 _ _ (by omega)];exact d
   by_cases t:a0=id
   ·have q0:(a0==id)=true:=by simp[t]
    have a:Hid (vix id vs=k):=aE0 HV t HP.out;clear t;go_wp2_with go_in;go_ret;exact⟨by rw[a.out];rfl,by exact .alloc hE _⟩
   have q0:(a0==id)=false:=by simp[t]
   have a:Hid ((vs.take (k+1)).any (fun v=>v.1==id)=false):=aBg HV t HP.out;clear t;go_wp2_with go_in;go_roundw
   case rel=>exact⟨k+1,by omega,by go_num,a.out,by exact .alloc hE _,by simp;omega,c⟩
   case measure=>simp[intOf];omega
  have a:Hid (vix id vs= -1):=tN (by have:=HP.out;rwa[List.take_of_length_le (by rw[hl.out];omega)]at this);go_wp2;go_ret;exact⟨by rw[a.out];rfl,by exact hE⟩
theorem iN (aA aB a b aE aF aC aG id:Int)(p:OA)(n c:Nat)(q:OA)(m c2:Nat)(vs:List aP)(w:World)(hS:Sl w q m c2 4 (vs.flatMap aD)):
  Calls Tryz.prog 50 #[.agg #[aA,aB,.slice p n c,a,b,aE,aF,aC,aG,.slice q m c2],id] w fun e w'=>e= .returned (.int .i64 (vix id vs))∧Ext w w':=by
 have HI:Hid (∀w1 B,Ext w w1→B<w1.heap.size→w1.cell? ⟨B,0,none⟩=some (.int .i64 id)→Calls Tryz.prog 103 #[.slice q m c2,.func (.func 104) #[] #[.pointer (some ⟨B,0,none⟩)]] w1 fun e w'=>e= .returned (.int .i64 (vix id vs))∧Ext w1 w'):=
  fun w1 B hx hB hc=>vK B q m c2 vs id w1 (hS.ext hx) hB hc
 clear hS;go_enter Tryz.func50,Tryz.ntmps50;go_wp2_with fail;refine(HI _ _ (by exact .alloc (.alloc (.refl _) _) _) (by simp) (by simp)).mono ?_;rintro e w1 ⟨rfl,h1⟩;go_wp2;go_ret;exact⟨rfl,by exact .trans (.alloc (.alloc (.refl _) _) _) h1⟩
theorem oZ (aA aB c d aE aF aC aG id:Int)(p:OA)(n f:Nat)(q:OA)(m c2:Nat)(vs:List aP)(w:World)(hS:Sl w q m c2 4 (vs.flatMap aD)):
  Calls Tryz.prog 86 #[.agg #[aA,aB,.slice p n f,c,d,aE,aF,aC,aG,.slice q m c2],id] w fun e w'=>e= .returned (.int .i64 (vix id vs))∧Ext w w':=by
 have hn:=hS.bd;have HS:=xQ hS;have hl:Hid (vs.length=m):=by have:=hS.len;rw[dC aD 4 (fun _=>rfl)]at this;exact(by omega:vs.length=m)
 clear hS;go_enter Tryz.func86,Tryz.ntmps86;go_wp2;go_loop [5] (fun i=> ∃k:Nat,k≤m∧i= .int .i64 k∧(vs.take k).any (fun v=>v.1==id)=false) (fun i=>m-(intOf i).toNat)
 case atStart=>exact⟨0,Nat.zero_le _,rfl,by simp⟩
 case round=>
  obtain⟨k,hk,rfl,hp⟩:=hrel;have HP:=xQ hp;clear hp;by_cases hlt:k<m
  ·obtain⟨b,g,a0,a1,a2,a3,rfl,hv,hb,g0,g1,g2,g3⟩:=eB HS hlt;have HV:=xQ hv;clear hv;by_cases t:a0=id
   ·have q0:(a0==id)=true:=by simp[t]
    have a:Hid (vix id vs=k):=aE0 HV t HP.out;clear t;go_wp2;go_ret;exact⟨by rw[a.out];rfl,by exact .alloc (.refl _) _⟩
   have q0:(a0==id)=false:=by simp[t]
   have a:Hid ((vs.take (k+1)).any (fun v=>v.1==id)=false):=aBg HV t HP.out;clear t;go_wp2;go_round
   case rel=>exact⟨k+1,by omega,by go_num,a.out⟩
   case measure=>simp[intOf];omega
  have a:Hid (vix id vs= -1):=tN (by have:=HP.out;rwa[List.take_of_length_le (by rw[hl.out];omega)]at this);go_wp2;go_ret;exact⟨by rw[a.out];rfl,by exact .alloc (.refl _) _⟩
abbrev TT4:TypeId:=27
abbrev TS3:TypeId:=46
def fT (f s p c i pd a now amt:Int):(Int×Int×Int)×Int×Bool:=
 if 1≤amt∧amt≤300 then
  (if bX f s p c i pd a now=0 then((i,pd,a),amt,false)else((i,pd+min (bX f s p c i pd a now) amt,now),amt-min (bX f s p c i pd a now) amt,true))
 else((0,0,0),amt,false)
theorem kJ {f s p c i pd a now:Int}(h:bD f s p c=true)(h2:cW i pd a=true)(h3:a≤now)(h4:now≤9999):0≤bX f s p c i pd a now∧bX f s p c i pd a now≤693:=by obtain⟨b1,b2,b3,b4,b5,b6⟩:=eT h2;have hb:=nL (m:=now-i) h (by omega) (by omega);unfold bX;rw[if_pos (by simp[h,h2,h3,h4])];omega
theorem aF1 (i pd a now f s p c amt D:Int)(w:World)(hD:0≤D)(q:D≤693)(r:0≤pd)(hp:pd≤9999)
  (HD:Hid (∀w,Calls Tryz.prog 152 #[aQ f s p c,bP i pd a,now] w fun e w'=>e= .returned (.int .i64 D)∧Ext w w'))
  (HI:Hid (∀w,Calls Tryz.prog 43 #[amt,.int .i64 1,.int .i64 300] w fun e w'=>e= .returned (.bool false)∧w=w'))(ha:amt<1∨300<amt):
  Calls Tryz.prog 134 #[aQ f s p c,bP i pd a,now,amt] w fun e w'=>e= .returned (.tuple #[bP 0 0 0,amt,.bool false])∧Ext w w':=by
 go_enter Tryz.func134,Tryz.ntmps134;go_wp2_with fail;refine(HD _).mono ?_;rintro e w1 ⟨rfl,h⟩;have M1:=(((((Mem.start w).c0 TT4 #[f,s,p,c]).c1 TS3 #[i,pd,a]).c2 TS3 #[(),(),()]).adv h)
 have b:=M1.hi 0;have d:=M1.hi 1;have g:=M1.hi 2;clear h;go_wp2_with fail;refine(HI _).mono ?_;rintro e _ ⟨rfl,rfl⟩;obtain⟨c0,c1,c2⟩:=(M1.bk 1).tri;obtain⟨d0,d1,d2⟩:=(M1.bk 0).tri;have j:=(M1.bk 0).frozen 0;have k:=(M1.bk 0).frozen 1;have l:=(M1.bk 0).frozen 2;clear HD HI;go_wp2;clear c0 c1 c2 d0 d1 d2 j k l;have M2:=(((M1.st 0 0 (.int .i64 0)).st 0 1 (.int .i64 0)).st 0 2 (.int .i64 0))
 generalize World.setCell _ _ _=wz at M2⊢;clear M1 b d g;have m:=M2.hi 0;have n:=M2.hi 1;have o:=M2.hi 2;obtain⟨y0,y1,y2⟩:=(M2.bk 0).tri;exact bodyPost_ret (v:= .tuple #[.agg #[(),(),()],amt,.bool false]) (by simp[results,Tryz.results134,go_sem, *]) rfl ⟨rfl,M2.ext⟩
theorem zO (i pd a now f s p c amt:Int)(w:World)(q:0≤pd)(hp:pd≤9999)
  (HD:Hid (∀w,Calls Tryz.prog 152 #[aQ f s p c,bP i pd a,now] w fun e w'=>e= .returned (.int .i64 0)∧Ext w w'))
  (HI:Hid (∀w,Calls Tryz.prog 43 #[amt,.int .i64 1,.int .i64 300] w fun e w'=>e= .returned (.bool true)∧w=w'))(ha:1≤amt)(hb:amt≤300):
  Calls Tryz.prog 134 #[aQ f s p c,bP i pd a,now,amt] w fun e w'=>e= .returned (.tuple #[bP i pd a,amt,.bool false])∧Ext w w':=by
 go_enter Tryz.func134,Tryz.ntmps134;go_wp2_with fail;refine(HD _).mono ?_;rintro e w1 ⟨rfl,h⟩;have M1:=(((((Mem.start w).c0 TT4 #[f,s,p,c]).c1 TS3 #[i,pd,a]).c2 TS3 #[(),(),()]).adv h)
 have b:=M1.hi 0;have d:=M1.hi 1;have g:=M1.hi 2;clear h;go_wp2_with fail;refine(HI _).mono ?_;rintro e _ ⟨rfl,rfl⟩;obtain⟨c0,c1,c2⟩:=(M1.bk 1).tri;obtain⟨d0,d1,d2⟩:=(M1.bk 0).tri;have j:=(M1.bk 0).frozen 0;have k:=(M1.bk 0).frozen 1;have l:=(M1.bk 0).frozen 2;clear HD HI;go_wp2;clear c0 c1 c2 d0 d1 d2 j k l;have M2:=(((M1.st 0 0 (.int .i64 i)).st 0 1 (.int .i64 pd)).st 0 2 (.int .i64 a))
 generalize World.setCell _ _ _=wz at M2⊢;clear M1 b d g;have m:=M2.hi 0;have n:=M2.hi 1;have o:=M2.hi 2;obtain⟨y0,y1,y2⟩:=(M2.bk 0).tri;exact bodyPost_ret (v:= .tuple #[.agg #[i,pd,a],amt,.bool false]) (by simp[results,Tryz.results134,go_sem, *]) rfl ⟨rfl,M2.ext⟩
theorem aBp (i pd a now f s p c amt D:Int)(w:World)(hD:0≤D)(r:D≤693)(u:0≤pd)(hp:pd≤9999)
  (HD:Hid (∀w,Calls Tryz.prog 152 #[aQ f s p c,bP i pd a,now] w fun e w'=>e= .returned (.int .i64 D)∧Ext w w'))
  (HI:Hid (∀w,Calls Tryz.prog 43 #[amt,.int .i64 1,.int .i64 300] w fun e w'=>e= .returned (.bool true)∧w=w'))(ha:1≤amt)(hb:amt≤300)(q:1≤D):
  Calls Tryz.prog 134 #[aQ f s p c,bP i pd a,now,amt] w fun e w'=>e= .returned (.tuple #[bP i (pd+min D amt) now,(amt-min D amt:Int),.bool true])∧Ext w w':=by
 go_enter Tryz.func134,Tryz.ntmps134;go_wp2_with fail;refine(HD _).mono ?_;rintro e w1 ⟨rfl,h⟩;have M1:=(((((Mem.start w).c0 TT4 #[f,s,p,c]).c1 TS3 #[i,pd,a]).c2 TS3 #[(),(),()]).adv h)
 have b:=M1.hi 0;have d:=M1.hi 1;have g:=M1.hi 2;clear h;go_wp2_with fail;refine(HI _).mono ?_;rintro e _ ⟨rfl,rfl⟩;obtain⟨c0,c1,c2⟩:=(M1.bk 1).tri;obtain⟨d0,d1,d2⟩:=(M1.bk 0).tri;have j:=(M1.bk 0).frozen 0;have k:=(M1.bk 0).frozen 1;have l:=(M1.bk 0).frozen 2;clear HD HI;have k1:IntKind.i64.wrap (pd+min D amt)=pd+min D amt:=IntWalk.i64_in _ (by omega);have k2:IntKind.i64.wrap (amt-min D amt)=amt-min D amt:=IntWalk.i64_in _ (by omega);have t:(D==0)=false:=by simp;omega
 go_wp2;clear c0 c1 c2 d0 d1 d2 j k l;have M2:=(((M1.st 0 0 (.int .i64 i)).st 0 1 (.int .i64 (pd+min D amt))).st 0 2 (.int .i64 now))
 generalize World.setCell _ _ _=wz at M2⊢;clear M1 b d g;have m:=M2.hi 0;have n:=M2.hi 1;have o:=M2.hi 2;obtain⟨y0,y1,y2⟩:=(M2.bk 0).tri;exact bodyPost_ret (v:= .tuple #[.agg #[i,(pd+min D amt:Int),now],(amt-min D amt:Int),.bool true]) (by simp[results,Tryz.results134,go_sem, *]) rfl ⟨rfl,M2.ext⟩
theorem aA9 (f s p c i pd a now amt:Int)(w:World)(h:bD f s p c=true)(h2:cW i pd a=true)(h3:a≤now)(h4:now≤9999):
  Calls Tryz.prog 134 #[aQ f s p c,bP i pd a,now,amt] w fun e w'=>e= .returned (.tuple #[bP (fT f s p c i pd a now amt).1.1 (fT f s p c i pd a now amt).1.2.1 (fT f s p c i pd a now amt).1.2.2,.int .i64 (fT f s p c i pd a now amt).2.1,.bool (fT f s p c i pd a now amt).2.2])∧Ext w w':=by
 obtain⟨b1,b2,b3,b4,b5,b6⟩:=eT h2;obtain⟨e1,e2⟩:=kJ h h2 h3 h4;have HD:=xQ (fun w=>xK f s p c i pd a now w h h2 h3 h4);unfold fT;generalize bX f s p c i pd a now=D at*;by_cases ha:1≤amt∧amt≤300
 ·have HI:Hid (∀w,Calls Tryz.prog 43 #[amt,.int .i64 1,.int .i64 300] w fun e w'=>e= .returned (.bool true)∧w=w'):=fun w=>lW amt 1 300 w ha.1 ha.2
  rw[if_pos ha];by_cases hd:D=0
  ·subst hd;rw[if_pos rfl];exact zO i pd a now f s p c amt w b3 b4 HD HI ha.1 ha.2
  rw[if_neg hd];exact aBp i pd a now f s p c amt D w e1 e2 b3 b4 HD HI ha.1 ha.2 (by omega)
 have HI:Hid (∀w,Calls Tryz.prog 43 #[amt,.int .i64 1,.int .i64 300] w fun e w'=>e= .returned (.bool false)∧w=w'):=fun w=>tH amt 1 300 w (by omega)
 rw[if_neg ha];exact aF1 i pd a now f s p c amt D w e1 e2 b3 b4 HD HI (by omega)
end Go.Proofs.YtpelpnfhbepokaaGreatDoor
