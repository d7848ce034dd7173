/-
  Texts of this proof, packed (@packed).
-/
import Derived.Test.YtbgkcehffiogcacGreatDoorQ17
namespace Go.Proofs.YtbgkcehffiogcacGreatDoor
open Go.RowKit Go.Proofs.Tryz
set_option linter.unusedSimpArgs false
set_option linter.unusedVariables false
set_option maxHeartbeats 8000000
set_option maxRecDepth 100000
abbrev aK:TypeId:=35
theorem vW:ElT prog 33 TV 4:=
 ⟨underlying33,by
  obtain⟨i,hi,h0,h1,h2⟩:=info_parts (show(prog.info? TV).map (fun i=>(i.zero,i.size,i.bytes))=some (some (.agg #[(),(),(),()]),4,32) by kernel_rfl)
  exact⟨i,_,hi,h0,h1,by omega,rfl⟩,by omega⟩
theorem eW (vs:List aP): ∀u∈vs.flatMap aE,u.oneCell'=true:=by intro u hu;obtain⟨v,_,hv⟩:=List.mem_flatMap.1 hu;simp only[aE,aS6,List.not_mem_nil,or_false]at hv;rcases hv with rfl|rfl|rfl|rfl<;>rfl
theorem tJ (v:aP): ∀u∈aE v,u.oneCell'=true:=by intro u hu;simp only[aE,aS6,List.not_mem_nil,or_false]at hu;rcases hu with rfl|rfl|rfl|rfl<;>rfl
theorem aM8 (aA aB a b aD aF aC aG:Int)(p:OA)(n cap:Nat)(q:OA)(m c2:Nat)(xs:List Int)(vs:List aP)(w:World)(hm:m≤1000)(hS:Hid (Sl w q m c2 4 (vs.flatMap aE)))
  (HL:xC 65 #[aH aA aB p n cap] w fun w' e w''=> ∃q c,e= .returned (aH aA aB q n c)∧w''.ownsRow w' TI 1 (.slice q n c) n (ivs xs)∧Ext w' w''):
  U 26 #[.agg #[aA,aB,.slice p n cap,a,b,aD,aF,aC,aG,.slice q m c2]] w fun e w'=> ∃p' cap' q' c2',e= .returned (.agg #[aA,aB,.slice p' n cap',a,b,aD,aF,aC,aG,.slice q' m c2'])∧w'.ownsRow w TI 1 (.slice p' n cap') n (ivs xs)∧w'.ownsRow w TV 4 (.slice q' m c2') m (vs.flatMap aE)∧Ext w w':=by
 go_enter func26,ntmps26;go_wp2_with fail;refine(HL _ ((((Mem.start w).c0 aK #[aA,aB,.slice p n cap,a,b,aD,aF,aC,aG,.slice q m c2]).c1 aK zT).c2 aK #[aA,aB,.slice p n cap,a,b,aD,aF,aC,aG,.slice q m c2]).ext).mono ?_;rintro e w1 ⟨q0,c0,rfl,y,aa⟩;have M1:=(((((Mem.start w).c0 aK #[aA,aB,.slice p n cap,a,b,aD,aF,aC,aG,.slice q m c2]).c1 aK zT).c2 aK #[aA,aB,.slice p n cap,a,b,aD,aF,aC,aG,.slice q m c2]).call aa y)
 have j:=M1.hi 1;have k:=M1.hi 2;have l:=M1.hi 3;clear aa y;have c9:=(M1.bk 3).cl 9;have d0:=(M1.bk 1).cl 0;have ad:=(M1.bk 1).frozen 0;have d1:=(M1.bk 1).cl 1;have ae:=(M1.bk 1).frozen 1;have d2:=(M1.bk 1).cl 2;have af:=(M1.bk 1).frozen 2;go_wp2_with (at_builtin;refine cG vW rfl _ _ rfl ((((M1.store (i:=1) rfl 0 (I aA)).store (i:=1) rfl 1 (I aB)).store (i:=1) rfl 2 (.slice q0 n c0)).made0 TV 4 w1 (by simp)) 0 rfl rfl (vs.flatMap aE) rfl (hS.out.ext ((((M1.store (i:=1) rfl 0 (I aA)).store (i:=1) rfl 1 (I aB)).store (i:=1) rfl 2 (.slice q0 n c0)).made0 TV 4 w1 (by simp)).ext) (eW vs) (by omega) ?_;intro q7 c7 w6 x;have M6:=xQ (show Mem w w6 [aI w TV 4 (q7) (m) (c7) (vs.flatMap aE),aI w TI 1 (q0) (n) (c0) (ivs xs),aJ w (w.heap.size+1+1) aK #[aA,aB,.slice q0 n c0,a,b,aD,aF,aC,aG,.slice q m c2],aJ w (w.heap.size+1) aK #[(),(),((),()),(),(),(),(),(),(),((),())],aJ w w aK #[aA,aB,.slice p n cap,a,b,aD,aF,aC,aG,.slice q m c2]]from by have:=(show Mem w w6 [aI w TV 4 (q7) (0+m) (c7) ([]++vs.flatMap aE),aI w TI 1 (q0) (n) (c0) (ivs xs),aJ w (w.heap.size+1+1) aK #[aA,aB,.slice q0 n c0,a,b,aD,aF,aC,aG,.slice q m c2],aJ w (w.heap.size+1) aK #[(),(),((),()),(),(),(),(),(),(),((),())],aJ w w aK #[aA,aB,.slice p n cap,a,b,aD,aF,aC,aG,.slice q m c2]]from x);simpa only[aSs,aTa]using this);clear x c9 d0 ad d1 ae d2 af M1 j k l;(have f:w.heap.size+1+1<w6.heap.size:=(M6.out.hi 2));(have g:w.heap.size+1<w6.heap.size:=(M6.out.hi 3));(have h:(w:Nat)<w6:=(M6.out.hi 4));(obtain⟨x0,x1,x2,x3,x4,x5,x6,x7,x8,x9⟩:=(M6.out.bk 2).ten);(have ag:w6.cell? ⟨w.heap.size+1+1,9,none⟩=some (.slice q m c2):=(M6.out.bk 2).cell 9);(have ab:w6.frozen? ⟨w.heap.size+1+1,9,none⟩=false:=(M6.out.bk 2).frozen 9);(obtain⟨y0,yf0,y1,yf1,y2,yf2,y3,yf3,y4,yf4,y5,yf5,y6,yf6,y7,yf7,y8,yf8,y9,yf9⟩:=(M6.out.bk 3).tenf))
 have o:=(((M6.out.st 2 9 (.slice q7 m c7)).st 3 0 (I aA)).st 3 1 (I aB))
 have r:=((o.st 3 2 (.slice q0 n c0)).st 3 3 (I a))
 have s:=((r.st 3 4 (I b)).st 3 5 (I aD))
 have t:=((s.st 3 6 (I aF)).st 3 7 (I aC))
 have u:=((t.st 3 8 (I aG)).st 3 9 (.slice q7 m c7))
 clear x0 x1 x2 x3 x4 x5 x6 x7 x8 x9 ag ab y0 yf0 y1 yf1 y2 yf2 y3 yf3 y4 yf4 y5 yf5 y6 yf6 y7 yf7 y8 yf8 y9 yf9 f g h;have d:=(show Mem w (((((((((((w6.setCell ⟨w.heap.size+1+1,9,none⟩ (.slice q7 m c7)).setCell ⟨w.heap.size+1,0,none⟩ (I aA)).setCell ⟨w.heap.size+1,1,none⟩ (I aB)).setCell ⟨w.heap.size+1,2,none⟩ (.slice q0 n c0)).setCell ⟨w.heap.size+1,3,none⟩ (I a)).setCell ⟨w.heap.size+1,4,none⟩ (I b)).setCell ⟨w.heap.size+1,5,none⟩ (I aD)).setCell ⟨w.heap.size+1,6,none⟩ (I aF)).setCell ⟨w.heap.size+1,7,none⟩ (I aC)).setCell ⟨w.heap.size+1,8,none⟩ (I aG)).setCell ⟨w.heap.size+1,9,none⟩ (.slice q7 m c7)) [aI w TV 4 (q7) (m) (c7) (vs.flatMap aE),aI w TI 1 (q0) (n) (c0) (ivs xs),aJ w (w.heap.size+1+1) aK #[aA,aB,.slice q0 n c0,a,b,aD,aF,aC,aG,.slice q7 m c7],aJ w (w.heap.size+1) aK #[aA,aB,.slice q0 n c0,a,b,aD,aF,aC,aG,.slice q7 m c7],aJ w w aK #[aA,aB,.slice p n cap,a,b,aD,aF,aC,aG,.slice q m c2]]from u)
 generalize z:World.setCell _ _ _=wz;rw[z]at d;clear z M6 o r s t u;obtain⟨y0,y1,y2,y3,y4,y5,y6,y7,y8,y9⟩:=(d.bk 3).ten;exact bodyPost_ret (v:= .agg #[aA,aB,.slice q0 n c0,a,b,aD,aF,aC,aG,.slice q7 m c7]) (by simp[results,results26,go_sem, *]) rfl ⟨q0,c0,q7,c7,rfl,(d.ow 1),by have:=(d.ow 0);simpa using this,d.ext⟩
theorem lZ (h:aL)(p:OA)(n cap:Nat)(q:OA)(m c2:Nat)(w:World)(hn:n≤1000)(hm:m≤1000)(hi:IsHouse w h p n cap q m c2):
  U 26 #[bM h p n cap q m c2] w (RetHouse h w):=by
 have hl:=hi.clen;have d:=hi.vlen;refine(aM8 h.aA h.aB h.free h.step h.aD h.aF h.aC h.aG p n cap q m c2 h.cells h.vs w hm (xQ hi.vs) (xQ fun w' hx=> ?_)).mono ?_
 ·refine(fW h.aA h.aB p n cap h.cells w' (by omega) (hi.cells.ext hx)).mono ?_;rintro e g ⟨q,c,rfl,ho,f⟩;rw[hl]at ho⊢;exact⟨q,c,rfl,ho,f⟩
 rintro e w' ⟨p',a,q',b,rfl,h1,h2,h3⟩;subst hl d;exact⟨p',a,q',b,rfl,h1,h2,h3⟩
def lF (v:aP)(vs:List aP):List aP:=vs.takeWhile (fun u=>decide (u.1<v.1))++v::vs.dropWhile (fun u=>decide (u.1<v.1))
theorem sE (v:aP): ∀(vs:List aP) (k:Nat),(∀u∈vs.take k,u.1<v.1)→(∀u,vs[k]? =some u→ ¬u.1<v.1)→lF v vs=vs.take k++v::vs.drop k
 | [],k,_,_=>by simp[lF]
 |u::vs,0,_,h2=>by simp[lF,h2 u (by simp)]
 |u::vs,k+1,h1,h2=>by have h:=sE v vs k (fun z hz=>h1 z (by simp[hz])) (fun z hz=>h2 z (by simpa using hz));have hu:u.1<v.1:=h1 u (by simp);simp only[lF]at h⊢;simp[hu,h]
theorem kX: ∀(k:Nat) (vs:List aP),(vs.flatMap aE).drop (k*4)=(vs.drop k).flatMap aE
 |0,vs=>by simp
 |k+1,[]=>by simp
 |k+1,v::vs=>by rw[aSn,show(k+1)*4=(aE v).length+k*4 by simp[aE];omega,List.drop_length_add_append,kX k vs];rfl
theorem aDm {w:World}{b a n cap sz k:Nat}{xs:List Value}(h:Sl w (some ⟨b,a,none⟩) n cap sz xs)(hk:k≤n):Sl w (some ⟨b,a+k*sz,none⟩) (n-k) (cap-k) sz (xs.drop (k*sz)):=by have hl:=h.len;have d:=h.le;have f:=h.mx;refine⟨by rw[aTg,hl,Nat.sub_mul],by omega,by omega,fun h0=> ?_⟩;obtain⟨b',c,e,hb,hc⟩:=h.rd (by omega);injection e with e;injection e with e1 e2;subst e1 e2;refine⟨_,_,rfl,hb,fun j hj=> ?_⟩;rw[Nat.add_assoc,hc (k*sz+j) (by rw[Nat.sub_mul]at hj;omega)];simp
theorem aK9 (id a1 a2 a3:Int)(q:OA)(m c2:Nat)(vs:List aP)(w:World)(hm:m≤1000)(hS:Sl w q m c2 4 (vs.flatMap aE)):
  U 57 #[.slice q m c2,.agg #[id,a1,a2,a3]] w fun e w'=> ∃q' c',e= .returned (.slice q' (m+1) c')∧w'.ownsRow w TV 4 (.slice q' (m+1) c') (m+1) ((lF (id,a1,a2,a3) vs).flatMap aE)∧Ext w w':=by
 have hl:Hid (vs.length=m):=by have:=hS.len;rw[cR aE 4 (fun _=>rfl)]at this;exact(by omega:vs.length=m)
 have n:=hS.le;have HS:=xQ hS;clear hS;have j:=xQ (((Mem.start w).c0 TV #[id,a1,a2,a3]).made0 TV 4 (w.heap.size+1) (by simp));go_enter func57,ntmps57;go_wp2;go_loopw [5,6] (fun v i wr=> ∃(k:Nat) (q5:OA) (c5:Nat),k≤m∧i=I k∧v= .slice q5 k c5∧(∀u∈vs.take k,u.1<id)∧Mem w wr [aI w TV 4 (q5) (k) (c5) ((vs.take k).flatMap aE),aJ w w TV #[id,a1,a2,a3]]) (fun _ i _=>m-(intOf i).toNat)
 case atStart=>exact⟨0,some ⟨w.heap.size+1,0,none⟩,0,aRv _,rfl,rfl,by simp,j.out⟩
 case round=>
  clear j;obtain⟨k,q5,c5,hk,rfl,rfl,f,hM⟩:=hrel;have HM:=hM;have HL:=xQ f;clear hM f;by_cases hlt:k<m
  ·obtain⟨b,p,c0,c1,c4,c3,rfl,hx,hb,g0,g1,g2,g3⟩:=eH (HS.out.ext HM.ext) hlt;have b0:=(HM.bk 1).cl 0;have b1:=(HM.bk 1).cl 1;have b2:=(HM.bk 1).cl 2;have b3:=(HM.bk 1).cl 3;have HX:=xQ hx;clear hx;have i1:(0:Int)≤(k:Int):=by omega
   have i2:(k:Int)<(m:Int):=by omega
   have i3:(k:Int)≤(m:Int):=by omega
   by_cases hy:c0<id
   ·have c:Hid (∀z∈vs.take (k+1),z.1<id):=by
     show∀z∈vs.take (k+1),z.1<id;rw[aY HX.out];intro z hz;rcases aSa.1 hz with h|h
     ·exact HL z h
     simp at h;subst h;exact hy
    have hd:decide (c0<id)=true:=by simp[hy]
    go_wp2;go_quiet (fail);generalize d:World.drewN wr _=wi;have hX:Ext wr wi:=by rw[←d];exact Ext.drewN (Ext.refl _) _
    clear d b0 b1 b2 b3 hd;have a:=(HM.adv hX)
    clear HM;have d0:=(a.bk 1).cl 0;have d1:=(a.bk 1).cl 1;have d2:=(a.bk 1).cl 2;have d3:=(a.bk 1).cl 3;have e0:=(hX.cells.1 _ _ hb).trans g0;have e1:=(hX.cells.1 _ _ hb).trans g1;have e2:=(hX.cells.1 _ _ hb).trans g2;have e3:=(hX.cells.1 _ _ hb).trans g3;clear hX g0 g1 g2 g3 hb;go_wp2_with (at_builtin;go_loud (refine cG vW rfl _ _ rfl (a.adv ((Ext.refl _).alloc (.cells #[c0,c1,c4,c3] TV))) 0 rfl rfl (aE (c0,c1,c4,c3)) rfl (eJ _ _ _ 1 4 _ (by simp) (by simp) (by simp[maxLen])) (tJ _) (by omega) ?_;intro q7 c7 w6 M6));have M7:=(show Mem w w6 [aI w TV 4 (q7) (k+1) (c7) ((vs.take k).flatMap aE++aE (c0,c1,c4,c3)),aJ w w TV #[id,a1,a2,a3]]from M6)
    have g:Hid ((vs.take k).flatMap aE++aE (c0,c1,c4,c3)=(vs.take (k+1)).flatMap aE):=by show _=_;rw[aY HX.out,aSk];simp
    rw[g.out]at M7;clear g M6;go_roundw
    case rel=>exact⟨k+1,q7,c7,by omega,by go_num,rfl,c.out,M7⟩
    case measure=>simp[intOf];omega
   have c:Hid (lF (id,a1,a2,a3) vs=vs.take k++(id,a1,a2,a3)::vs.drop k):=sE _ vs k HL (fun z hz=>by rw[HX.out]at hz;injection hz with hz;subst hz;exact hy);have o: ¬c2=k:=by omega
   have hd:decide (c0<id)=false:=by simp[hy]
   clear HX HL;go_wp2;go_quiet (fail);generalize d:World.drewN wr _=wi;have hX:Ext wr wi:=by rw[←d];exact Ext.drewN (Ext.refl _) _
   clear d b0 b1 b2 b3 hd;have a:=(HM.adv hX)
   clear HM;have d0:=(a.bk 1).cl 0;have d1:=(a.bk 1).cl 1;have d2:=(a.bk 1).cl 2;have d3:=(a.bk 1).cl 3;clear hX g0 g1 g2 g3 hb hy;go_wp2
   go_region_law ((first
    |(refine gH vW (by rfl) _ _ (by rfl) (a.adv (by exact .drew (.alloc (.refl _) _))) 0 (by rfl) (by rfl) (aE (id,a1,a2,a3)) (by rfl) (by first|exact eJ wi #[id,a1,a2,a3] _ 1 4 _ rfl (by simp) (by simp[maxLen])|exact(eJ wi #[id,a1,a2,a3] _ 1 4 _ rfl (by simp) (by simp[maxLen])).ext (Ext.drew (Ext.refl _))|exact eJ wi.drew #[id,a1,a2,a3] _ 1 4 _ rfl (by simp) (by simp[maxLen])) (tJ _) (by omega) ?_
      intro q7 c7 w6 M6;have M7:=(show Mem w w6 [aI w TV 4 (q7) (k+1) (c7) ((vs.take k).flatMap aE++aE (id,a1,a2,a3)),aJ w w TV #[id,a1,a2,a3]]from M6)
      clear M6)
    |(refine gH vW (by rfl) _ _ (by rfl) (M7.adv (by exact .refl _)) 0 (by rfl) (by rfl) ((vs.drop k).flatMap aE) (by rfl) (kX k vs▸aDm (HS.out.ext (M7.ext.trans (by exact .refl _))) (by omega)) (eW _) (by omega) ?_
      intro q9 c9 w9 M9
      have M9:=xQ (show Mem w w9 [aI w TV 4 (q9) (k+1+(m-k)) (c9) (((vs.take k).flatMap aE++aE (id,a1,a2,a3))++(vs.drop k).flatMap aE),aJ w w TV #[id,a1,a2,a3]]from M9))))
   all_goals (
    have e1:k+1+(m-k)=m+1:=by omega
    have e2:((vs.take k).flatMap aE++aE (id,a1,a2,a3))++(vs.drop k).flatMap aE=(vs.take k++(id,a1,a2,a3)::vs.drop k).flatMap aE:=by simp
    have MZ:=(show Mem w w9 [aI w TV 4 (q9) (m+1) (c9) ((vs.take k++(id,a1,a2,a3)::vs.drop k).flatMap aE),aJ w w TV #[id,a1,a2,a3]]from by have:=M9.out;rw[e2]at this;simpa only[e1]using this)
    clear e2 M9 M7)
   all_goals go_wp2
   all_goals exact bodyPost_ret (v:= .slice q9 (m+1) c9) (by simp[results,results57,go_sem, *]) rfl ⟨q9,c9,rfl,by rw[c.out];exact MZ.ow 0,MZ.ext⟩
  obtain rfl:k=m:=by omega
  have b0:=(HM.bk 1).cl 0;have b1:=(HM.bk 1).cl 1;have b2:=(HM.bk 1).cl 2;have b3:=(HM.bk 1).cl 3;have c:Hid (lF (id,a1,a2,a3) vs=vs.take k++(id,a1,a2,a3)::vs.drop k):=sE _ vs k HL (fun z hz=>by rw[aSu (by rw[hl.out];exact aRp _)]at hz;cases hz);have l:Hid (vs.drop k= []):=aT7 (by rw[hl.out];exact aRp _);have i1:(0:Int)≤(k:Int):=by omega
  clear HL;go_wp2;go_quiet (fail);generalize d:World.drewN wr _=wi;have hX:Ext wr wi:=by rw[←d];exact Ext.drewN (Ext.refl _) _
  clear d b0 b1 b2 b3;have a:=(HM.adv hX)
  clear HM;have d0:=(a.bk 1).cl 0;have d1:=(a.bk 1).cl 1;have d2:=(a.bk 1).cl 2;have d3:=(a.bk 1).cl 3;clear hX;go_wp2
  go_region_law ((first
   |(refine gH vW (by rfl) _ _ (by rfl) (a.adv (by exact .drew (.alloc (.refl _) _))) 0 (by rfl) (by rfl) (aE (id,a1,a2,a3)) (by rfl) (by first|exact eJ wi #[id,a1,a2,a3] _ 1 4 _ rfl (by simp) (by simp[maxLen])|exact(eJ wi #[id,a1,a2,a3] _ 1 4 _ rfl (by simp) (by simp[maxLen])).ext (Ext.drew (Ext.refl _))|exact eJ wi.drew #[id,a1,a2,a3] _ 1 4 _ rfl (by simp) (by simp[maxLen])) (tJ _) (by omega) ?_
     intro q7 c7 w6 M6;have M7:=(show Mem w w6 [aI w TV 4 (q7) (k+1) (c7) ((vs.take k).flatMap aE++aE (id,a1,a2,a3)),aJ w w TV #[id,a1,a2,a3]]from M6)
     clear M6)
   |(refine gH vW (by rfl) _ _ (by rfl) (M7.adv (by exact .refl _)) 0 (by rfl) (by rfl) (([]:List aP).flatMap aE) (by rfl) (⟨by simp,aRv _,by have:=HS.out.mx;omega,fun h=>absurd h (by omega)⟩) (eW _) (by omega) ?_
     intro q9 c9 w9 M9
     have M9:=xQ (show Mem w w9 [aI w TV 4 (q9) (k+1+0) (c9) (((vs.take k).flatMap aE++aE (id,a1,a2,a3))++([]:List aP).flatMap aE),aJ w w TV #[id,a1,a2,a3]]from M9))))
  all_goals (
   have e1:k+1+0=k+1:=by omega
   have e2:((vs.take k).flatMap aE++aE (id,a1,a2,a3))++([]:List aP).flatMap aE=(vs.take k++(id,a1,a2,a3)::vs.drop k).flatMap aE:=by simp[l.out]
   have MZ:=(show Mem w w9 [aI w TV 4 (q9) (k+1) (c9) ((vs.take k++(id,a1,a2,a3)::vs.drop k).flatMap aE),aJ w w TV #[id,a1,a2,a3]]from by have:=M9.out;rw[e2]at this;simpa only[e1]using this)
   clear e2 M9 M7)
  all_goals go_wp2
  all_goals exact bodyPost_ret (v:= .slice q9 (k+1) c9) (by simp[results,results57,go_sem, *]) rfl ⟨q9,c9,rfl,by rw[c.out];exact MZ.ow 0,MZ.ext⟩
theorem aK5 {B n cap:Nat}{p:OA}{xs:List Value}(K:Int)(w:World)(h:w.ownsRow B TI 1 (.slice p n cap) n xs)(hn:n≤1099511627776)(h0:0≤K)(h1:K≤4611686018427387904):
  U 96 #[.slice p n cap,K] w fun e w'=>e= .returned (I (K+(n*1:Nat)))∧w'.ownsRow B TI 1 (.slice p n cap) n (bE K (n*1))∧w.grownBy w' (Value.slice p n cap).ownBlock:=by
 by_cases hz:0<n
 ·have h2:=h;rcases h2.2 with⟨_,h3⟩|⟨g,cap',cur,e1,hb,hg,r⟩
  ·omega
  injection e1 with e1 e2 e3;subst e1;refine(aBu g n cap B xs K w hn h0 h1 h).mono ?_;rintro e w' ⟨rfl,h4,h5⟩;exact⟨rfl,h4,h5⟩
 obtain rfl:n=0:=by omega
 refine(aBt p cap K w).mono ?_;rintro e w' ⟨rfl,rfl⟩;obtain rfl:xs= []:=aSb (by have:=h.1;simpa using this);exact⟨by simp,by simpa[bE]using h,aSv _ _⟩
theorem aL1 {B n cap:Nat}{p:OA}(K:Int)(w:World)(h:w.ownsRow B TI 1 (.slice p n cap) n (bE K (n*1)))(hn:n≤1099511627776)(h0:0≤K)(h1:K≤4611686018427387904):
  U 97 #[.slice p n cap,K] w fun e w'=>e= .returned (I (K+(n*1:Nat)))∧w=w':=by
 by_cases hz:0<n
 ·have h2:=h;rcases h2.2 with⟨_,h3⟩|⟨g,cap',cur,e1,hb,hg,r⟩
  ·omega
  injection e1 with e1 e2 e3;subst e1;refine aCi g 0 n cap K w hn h0 h1 (xQ fun j hj=> ?_);rw[aSs,h.cellAt j hj];exact mZ _ _ _ hj
 obtain rfl:n=0:=by omega
 refine(aCh p cap K w).mono ?_;rintro e w' ⟨rfl,rfl⟩;exact⟨by simp,rfl⟩
theorem aE3 {B n cap:Nat}{p:OA}{xs:List Value}(K:Int)(w:World)(h:w.ownsRow B TV 4 (.slice p n cap) n xs)(hn:n≤1099511627776)(h0:0≤K)(h1:K≤4611686018427387904):
  U 42 #[.slice p n cap,K] w fun e w'=>e= .returned (I (K+(n*4:Nat)))∧w'.ownsRow B TV 4 (.slice p n cap) n (bE K (n*4))∧w.grownBy w' (Value.slice p n cap).ownBlock:=by
 by_cases hz:0<n
 ·have h2:=h;rcases h2.2 with⟨_,h3⟩|⟨g,cap',cur,e1,hb,hg,r⟩
  ·omega
  injection e1 with e1 e2 e3;subst e1;refine(xI g n cap B xs K w hn h0 h1 h).mono ?_;rintro e w' ⟨rfl,h4,h5⟩;exact⟨rfl,h4,h5⟩
 obtain rfl:n=0:=by omega
 refine(xH p cap K w).mono ?_;rintro e w' ⟨rfl,rfl⟩;obtain rfl:xs= []:=aSb (by have:=h.1;simpa using this);exact⟨by simp,by simpa[bE]using h,aSv _ _⟩
theorem aEv {B n cap:Nat}{p:OA}(K:Int)(w:World)(h:w.ownsRow B TV 4 (.slice p n cap) n (bE K (n*4)))(hn:n≤1099511627776)(h0:0≤K)(h1:K≤4611686018427387904):
  U 44 #[.slice p n cap,K] w fun e w'=>e= .returned (I (K+(n*4:Nat)))∧w=w':=by
 by_cases hz:0<n
 ·have h2:=h;rcases h2.2 with⟨_,h3⟩|⟨g,cap',cur,e1,hb,hg,r⟩
  ·omega
  injection e1 with e1 e2 e3;subst e1;refine yB g 0 n cap K w hn h0 h1 (xQ fun j hj=> ?_);rw[aSs,h.cellAt j hj];exact mZ _ _ _ hj
 obtain rfl:n=0:=by omega
 refine(yA p cap K w).mono ?_;rintro e w' ⟨rfl,rfl⟩;exact⟨by simp,rfl⟩
theorem aGt {B n cap:Nat}{p:OA}{xs:List Value}(aA aB K:Int)(w:World)(a:Hid (∀g,(Value.slice p n cap).ownBlock=some g→g<w.heap.size))(h:Hid (w.ownsRow B TI 1 (.slice p n cap) n xs))(hn:n≤1099511627776)(h0:0≤K)(h1:K≤1099511627776):
  U 41 #[aH aA aB p n cap,K] w fun e w'=>e= .returned (I (K+(n:Nat)))∧w'.ownsRow B TI 1 (.slice p n cap) n (bE K n)∧w.grownBy w' (Value.slice p n cap).ownBlock:=by
 have HM:xC 96 #[.slice p n cap,K] w fun w' e w''=>e= .returned (I (K+(n:Nat)))∧w''.ownsRow B TI 1 (.slice p n cap) n (bE K n)∧w'.grownBy w'' (Value.slice p n cap).ownBlock:=fun w' hx=>by have:=aK5 K w' (aZ h.out hx) hn h0 (by omega);simpa using this
 go_enter func41,ntmps41;go_wp2_with fail;refine(HM _ ((Ext.refl _).alloc _)).mono ?_;rintro e w1 ⟨rfl,h2,h3⟩;have h4:w.grownBy w1 (Value.slice p n cap).ownBlock:=by have ha:Ext w (w.alloc (.cells #[aA,aB,.slice p n cap] 31)):=(Ext.refl w).alloc _;exact⟨h3.os.trans ha.os,h3.tape.trans ha.tape,h3.output.trans ha.output,aRz ha.size h3.size,fun i hi hne=>(h3.block i (aRo hi ha.size) hne).trans (ha.block i hi)⟩
 clear h3;go_wp2;go_ret;exact⟨rfl,h2,h4⟩
theorem aHq {B n cap:Nat}{p:OA}(aA aB K:Int)(w:World)(h:Hid (w.ownsRow B TI 1 (.slice p n cap) n (bE K n)))(hn:n≤1099511627776)(h0:0≤K)(h1:K≤1099511627776):
  U 43 #[aH aA aB p n cap,K] w (O (I (K+(n:Nat))) w):=by
 have k1:0≤K+(n:Nat):=by omega
 have HM:xC 97 #[.slice p n cap,K] w fun w' e w''=>e= .returned (I (K+(n:Nat)))∧w'=w'':=fun w' hx=>by have:=aL1 (B:=B) (p:=p) (cap:=cap) (n:=n) K w' (by simpa using aZ h.out hx) hn h0 (by omega);simpa using this
 go_enter func43,ntmps43;go_wp2_with fail;refine(HM _ ((Ext.refl _).alloc _)).mono ?_;rintro e w1 ⟨rfl,rfl⟩;go_wp2;go_ret;exact⟨rfl,xE⟩
theorem uV (aA aB a b aD aF aC aG:Int)(p:OA)(n cap:Nat)(q:OA)(m c2:Nat)(K:Int)(xs ys:List Value)(w0 w:World)(L:List Item)(h:Mem w0 w (aI w0 TI 1 p n cap xs::aI w0 TV 4 q m c2 ys::L))(hn:n≤1099511627776)(hm:m≤1099511627776)(h0:0≤K)(h1:K≤1000000):
  U 10 #[.agg #[aA,aB,.slice p n cap,a,b,aD,aF,aC,aG,.slice q m c2],K] w fun e w'=>e= .returned (I (K+(n:Nat)+(m*4:Nat)))∧Mem w0 w' (aI w0 TI 1 p n cap (bE K n)::aI w0 TV 4 q m c2 (bE (K+(n:Nat)) (m*4))::L):=by
 have M1:=(h.c0 aK #[aA,aB,.slice p n cap,a,b,aD,aF,aC,aG,.slice q m c2])
 clear h;go_enter func10,ntmps10;go_wp2_with fail;refine(aGt aA aB K _ (xQ fun g hg=>(M1.lt (i:=1) (g:=g) rfl hg).2) (xQ (M1.ow 1)) hn h0 (by omega)).mono ?_;rintro e w1 ⟨rfl,ho,hg⟩;have M2:=(show Mem w0 w1 (aJ w0 w aK #[aA,aB,.slice p n cap,a,b,aD,aF,aC,aG,.slice q m c2]::aI w0 TI 1 p n cap (bE K n)::aI w0 TV 4 q m c2 ys::L)from M1.app (i:=1) rfl ho hg (.inl rfl))
 clear ho hg M1;obtain⟨c,d,f,j,k,l,o,r,s,t⟩:=(M2.bk 0).ten;go_wp2_with fail;clear c d f j k l o r s t;refine(aE3 (K+(n:Nat)) _ (M2.ow 2) hm (by omega) (by omega)).mono ?_;rintro e w2 ⟨rfl,ho,hg⟩;have M3:=(show Mem w0 w2 (aJ w0 w aK #[aA,aB,.slice p n cap,a,b,aD,aF,aC,aG,.slice q m c2]::aI w0 TI 1 p n cap (bE K n)::aI w0 TV 4 q m c2 (bE (K+(n:Nat)) (m*4))::L)from M2.app (i:=2) rfl ho hg (.inl rfl))
 clear ho hg M2;go_wp2;go_ret;exact⟨rfl,M3.sub (List.sublist_cons_self _ _)⟩
theorem vB (aA aB a b aD aF aC aG:Int)(p:OA)(n cap:Nat)(q:OA)(m c2:Nat)(K:Int)(B:Nat)(w:World)(h:w.ownsRow B TI 1 (.slice p n cap) n (bE K n))(h2:w.ownsRow B TV 4 (.slice q m c2) m (bE (K+(n:Nat)) (m*4)))(hn:n≤1099511627776)(hm:m≤1099511627776)(h0:0≤K)(h1:K≤1000000):
  U 11 #[.agg #[aA,aB,.slice p n cap,a,b,aD,aF,aC,aG,.slice q m c2],K] w (O (I (K+(n:Nat)+(m*4:Nat))) w):=by
 have H2:=xQ h2;have M0:=((Mem.start w).c0 aK #[aA,aB,.slice p n cap,a,b,aD,aF,aC,aG,.slice q m c2])
 have H1:=xQ (aZ h M0.ext);clear h h2;have k1:0≤K+(n:Nat):=by omega
 have k2:0≤K+(n:Nat)+(m*4:Nat):=by omega
 go_enter func11,ntmps11;go_wp2_with fail;refine Z (aHq aA aB K _ H1 hn h0 (by omega)) fun w1 hx=>?_
 have M1:=(M0.adv hx)
 clear hx M0;obtain⟨c,d,f,g,i,j,k,l,o,r⟩:=(M1.bk 0).ten;go_wp2_with fail;clear c d f g i j k l o r;refine(aEv (K+(n:Nat)) _ (aZ H2 M1.ext) hm (by omega) (by omega)).mono ?_;rintro e w2 ⟨rfl,rfl⟩;go_wp2;go_ret;exact⟨rfl,M1.ext⟩
def vix (id:Int)(vs:List aP):Int:=if vs.any (fun v=>v.1==id)then(vs.findIdx (fun v=>v.1==id):Int)else -1
theorem aI4 {id:Int}{vs:List aP}{k:Nat}{v:aP}(hv:vs[k]? =some v) (h:v.1=id) (hp:(vs.take k).any (fun v=>v.1==id)=false):vix id vs=k:=by
 have a:k<vs.length:=(aRt.1 hv).1;have e:vs[k]=v:=by have:=(aRt.1 hv).2;exact this
 have ha:vs.any (fun v=>v.1==id)=true:=List.any_eq_true.2 ⟨v,aRs hv,by simp[h]⟩;have hi:vs.findIdx (fun v=>v.1==id)=k:=by rw[List.findIdx_eq a];refine⟨by simp[e,h],fun j hj=> ?_⟩;have:=List.any_eq_false.1 hp vs[j] (by rw[List.mem_take_iff_getElem];exact⟨j,by omega,rfl⟩);simpa using this
 unfold vix;rw[if_pos ha,hi]
theorem wI {id:Int}{vs:List aP}(hp:vs.any (fun v=>v.1==id)=false):vix id vs= -1:=by unfold vix;simp[hp]
theorem aFf {id:Int}{vs:List aP}{k:Nat}{v:aP}(hv:vs[k]? =some v) (h: ¬v.1=id) (hp:(vs.take k).any (fun v=>v.1==id)=false):(vs.take (k+1)).any (fun v=>v.1==id)=false:=by rw[aY hv,List.any_append,hp];simp[h]
theorem nF (id:Int)(vs:List aP):(vix id vs= -1∧eA id vs=none)∨ ∃(k:Nat) (a1 a2 a3:Int),k<vs.length∧vix id vs=k∧vs[k]? =some (id,a1,a2,a3)∧eA id vs=some (id,a1,a2,a3):=by
 cases h:vs.any (fun v=>v.1==id)with
 |false=>exact .inl ⟨wI h,by unfold eA;rw[List.find?_eq_none];simpa using h⟩
 |true=>
  right;have a:vs.findIdx (fun v=>v.1==id)<vs.length:=List.findIdx_lt_length.2 (by simpa using h);have hg:=List.findIdx_getElem (w:=a);have hf:eA id vs=some (vs[vs.findIdx (fun v=>v.1==id)]):=by unfold eA;rw[List.find?_eq_some_iff_getElem];exact⟨hg,_,a,rfl,fun j hj=>by simpa using List.not_of_lt_findIdx hj⟩
  have h0:vs[vs.findIdx (fun v=>v.1==id)].1=id:=by simpa using hg
  generalize hb:vs[vs.findIdx (fun v=>v.1==id)]=v at*;obtain⟨b0,b1,b2,b3⟩:=v;dsimp only at h0;subst h0;exact⟨_,b1,b2,b3,a,by unfold vix;rw[if_pos h],by rw[aRq a,hb],hf⟩
theorem zE (B:Nat)(q:OA)(m c2:Nat)(vs:List aP)(id:Int)(w:World)(hS:Sl w q m c2 4 (vs.flatMap aE))(hB:B<w.heap.size)(hc:w.cell? ⟨B,0,none⟩=some (I id)):
  U 156 #[.slice q m c2,.func (.func 157) #[] #[.pointer (some ⟨B,0,none⟩)]] w (O (I (vix id vs)) w):=by
 have hn:=hS.bd;have HS:=xQ hS;have hl:Hid (vs.length=m):=by have:=hS.len;rw[cR aE 4 (fun _=>rfl)]at this;exact(by omega:vs.length=m)
 clear hS;go_enter func156,ntmps156;go_wp2;go_loopw [8] (fun i wr=> ∃k:Nat,k≤m∧i=I k∧(vs.take k).any (fun v=>v.1==id)=false∧Ext w wr∧w.heap.size≤wr.heap.size∧wr.cell? ⟨B,0,none⟩=some (I id)) (fun i _=>m-(intOf i).toNat)
 case atStart=>exact⟨0,aRv _,rfl,by simp,by exact .refl _,by simp,by simpa using hc⟩
 case round=>
  obtain⟨k,hk,rfl,hp,hE,f,d⟩:=hrel;have HP:=xQ hp;clear hp;by_cases hlt:k<m
  ·obtain⟨b,g,a0,a1,a2,a3,rfl,hv,hb,g0,g1,g2,g3⟩:=eH (HS.out.ext hE) hlt;have HV:=xQ hv;clear hv;have c:(wr.alloc (.cells #[a0,a1,a2,a3] 77)).cell? ⟨B,0,none⟩=some (I id):=by rw[((Ext.refl wr).alloc _).cells.1 _ _ (by omega)];exact d
   by_cases t:a0=id
   ·have q0:(a0==id)=true:=by simp[t]
    have a:Hid (vix id vs=k):=aI4 HV t HP.out;clear t;go_wp2_with go_in;go_ret;exact⟨by rw[a.out];rfl,by exact .alloc hE _⟩
   have q0:(a0==id)=false:=by simp[t]
   have a:Hid ((vs.take (k+1)).any (fun v=>v.1==id)=false):=aFf HV t HP.out;clear t;go_wp2_with go_in;go_roundw
   case rel=>exact⟨k+1,by omega,by go_num,a.out,by exact .alloc hE _,by simp;omega,c⟩
   case measure=>simp[intOf];omega
  have a:Hid (vix id vs= -1):=wI (by have:=HP.out;rwa[aRu (by rw[hl.out];omega)]at this);go_wp2;go_ret;exact⟨by rw[a.out];rfl,by exact hE⟩
theorem jO (aA aB a b aD aF aC aG id:Int)(p:OA)(n cap:Nat)(q:OA)(m c2:Nat)(vs:List aP)(w:World)(hS:Sl w q m c2 4 (vs.flatMap aE)):
  U 119 #[.agg #[aA,aB,.slice p n cap,a,b,aD,aF,aC,aG,.slice q m c2],id] w (O (I (vix id vs)) w):=by
 have HI:Hid (∀w1 B,Ext w w1→B<w1.heap.size→w1.cell? ⟨B,0,none⟩=some (I id)→U 156 #[.slice q m c2,.func (.func 157) #[] #[.pointer (some ⟨B,0,none⟩)]] w1 (O (I (vix id vs)) w1)):=
  fun w1 B hx hB hc=>zE B q m c2 vs id w1 (hS.ext hx) hB hc
 clear hS;go_enter func119,ntmps119;go_wp2_with fail;refine Z (HI _ _ (by exact .alloc (.alloc (.refl _) _) _) (by simp) (by simp)) fun w1 h1=>?_
 go_wp2;go_ret;exact⟨rfl,by exact .trans (.alloc (.alloc (.refl _) _) _) h1⟩
theorem rG (aA aB c d aD aF aC aG id:Int)(p:OA)(n cap:Nat)(q:OA)(m c2:Nat)(vs:List aP)(w:World)(hS:Sl w q m c2 4 (vs.flatMap aE)):
  U 60 #[.agg #[aA,aB,.slice p n cap,c,d,aD,aF,aC,aG,.slice q m c2],id] w (O (I (vix id vs)) w):=by
 have hn:=hS.bd;have HS:=xQ hS;have hl:Hid (vs.length=m):=by have:=hS.len;rw[cR aE 4 (fun _=>rfl)]at this;exact(by omega:vs.length=m)
 clear hS;go_enter func60,ntmps60;go_wp2;go_loop [5] (fun i=> ∃k:Nat,k≤m∧i=I k∧(vs.take k).any (fun v=>v.1==id)=false) (fun i=>m-(intOf i).toNat)
 case atStart=>exact⟨0,aRv _,rfl,by simp⟩
 case round=>
  obtain⟨k,hk,rfl,hp⟩:=hrel;have HP:=xQ hp;clear hp;by_cases hlt:k<m
  ·obtain⟨b,f,a0,a1,a2,a3,rfl,hv,hb,g0,g1,g2,g3⟩:=eH HS hlt;have HV:=xQ hv;clear hv;by_cases t:a0=id
   ·have q0:(a0==id)=true:=by simp[t]
    have a:Hid (vix id vs=k):=aI4 HV t HP.out;clear t;go_wp2;go_ret;exact⟨by rw[a.out];rfl,by exact .alloc (.refl _) _⟩
   have q0:(a0==id)=false:=by simp[t]
   have a:Hid ((vs.take (k+1)).any (fun v=>v.1==id)=false):=aFf HV t HP.out;clear t;go_wp2;go_round
   case rel=>exact⟨k+1,by omega,by go_num,a.out⟩
   case measure=>simp[intOf];omega
  have a:Hid (vix id vs= -1):=wI (by have:=HP.out;rwa[aRu (by rw[hl.out];omega)]at this);go_wp2;go_ret;exact⟨by rw[a.out];rfl,by exact .alloc (.refl _) _⟩
abbrev TT4:TypeId:=32
abbrev TS3:TypeId:=75
def fS (f s p c i pd a now amt:Int):(Int×Int×Int)×Int×Bool:=
 if 1≤amt∧amt≤300 then
  (if cC f s p c i pd a now=0 then((i,pd,a),amt,false)else((i,pd+min (cC f s p c i pd a now) amt,now),amt-min (cC f s p c i pd a now) amt,true))
 else((0,0,0),amt,false)
theorem kE {f s p c i pd a now:Int}(h:bO f s p c=true)(h2:dF i pd a=true)(h3:a≤now)(h4:now≤9999):0≤cC f s p c i pd a now∧cC f s p c i pd a now≤693:=by obtain⟨b1,b2,b3,b4,b5,b6⟩:=fM h2;have hb:=pL (m:=now-i) h (by omega) (by omega);unfold cC;rw[if_pos (by simp[h,h2,h3,h4])];omega
theorem aJg (i pd a now f s p c amt D:Int)(w:World)(hD:0≤D)(j:D≤693)(k:0≤pd)(hp:pd≤9999)
  (HD:Hid (∀w,U 113 #[aT f s p c,bS i pd a,now] w (O (I D) w)))
  (HI:Hid (∀w,U 50 #[amt,I 1,I 300] w fun e w'=>e= .returned (.bool false)∧w=w'))(ha:amt<1∨300<amt):
  U 104 #[aT f s p c,bS i pd a,now,amt] w (O (.tuple #[bS 0 0 0,amt,.bool false]) w):=by
 go_enter func104,ntmps104;go_wp2_with fail;refine Z (HD _) fun w1 b=>?_
 have M1:=(((((Mem.start w).c0 TT4 #[f,s,p,c]).c1 TS3 #[i,pd,a]).c2 TS3 #[(),(),()]).adv b)
 clear b;go_wp2_with fail;refine(HI _).mono ?_;rintro e _ ⟨rfl,rfl⟩;obtain⟨d0,d1,d2⟩:=(M1.bk 0).tri;have d:=(M1.bk 0).frozen 0;have g:=(M1.bk 0).frozen 1;have h:=(M1.bk 0).frozen 2;clear HD HI;go_wp2;clear d0 d1 d2 d g h;have M2:=(((M1.st 0 0 (I 0)).st 0 1 (I 0)).st 0 2 (I 0))
 generalize World.setCell _ _ _=wz at M2⊢;clear M1;obtain⟨y0,y1,y2⟩:=(M2.bk 0).tri;exact bodyPost_ret (v:= .tuple #[.agg #[(),(),()],amt,.bool false]) (by simp[results,results104,go_sem, *]) rfl ⟨rfl,M2.ext⟩
theorem aD9 (i pd a now f s p c amt:Int)(w:World)(j:0≤pd)(hp:pd≤9999)
  (HD:Hid (∀w,U 113 #[aT f s p c,bS i pd a,now] w (O (I 0) w)))
  (HI:Hid (∀w,U 50 #[amt,I 1,I 300] w fun e w'=>e= .returned (.bool true)∧w=w'))(ha:1≤amt)(hb:amt≤300):
  U 104 #[aT f s p c,bS i pd a,now,amt] w (O (.tuple #[bS i pd a,amt,.bool false]) w):=by
 go_enter func104,ntmps104;go_wp2_with fail;refine Z (HD _) fun w1 b=>?_
 have M1:=(((((Mem.start w).c0 TT4 #[f,s,p,c]).c1 TS3 #[i,pd,a]).c2 TS3 #[(),(),()]).adv b)
 clear b;go_wp2_with fail;refine(HI _).mono ?_;rintro e _ ⟨rfl,rfl⟩;obtain⟨c0,c1,c2⟩:=(M1.bk 1).tri;obtain⟨d0,d1,d2⟩:=(M1.bk 0).tri;have d:=(M1.bk 0).frozen 0;have g:=(M1.bk 0).frozen 1;have h:=(M1.bk 0).frozen 2;clear HD HI;go_wp2;clear c0 c1 c2 d0 d1 d2 d g h;have M2:=(((M1.st 0 0 (I i)).st 0 1 (I pd)).st 0 2 (I a))
 generalize World.setCell _ _ _=wz at M2⊢;clear M1;obtain⟨y0,y1,y2⟩:=(M2.bk 0).tri;exact bodyPost_ret (v:= .tuple #[.agg #[i,pd,a],amt,.bool false]) (by simp[results,results104,go_sem, *]) rfl ⟨rfl,M2.ext⟩
theorem aFq (i pd a now f s p c amt D:Int)(w:World)(hD:0≤D)(k:D≤693)(m:0≤pd)(hp:pd≤9999)
  (HD:Hid (∀w,U 113 #[aT f s p c,bS i pd a,now] w (O (I D) w)))
  (HI:Hid (∀w,U 50 #[amt,I 1,I 300] w fun e w'=>e= .returned (.bool true)∧w=w'))(ha:1≤amt)(hb:amt≤300)(j:1≤D):
  U 104 #[aT f s p c,bS i pd a,now,amt] w (O (.tuple #[bS i (pd+min D amt) now,(amt-min D amt:Int),.bool true]) w):=by
 go_enter func104,ntmps104;go_wp2_with fail;refine Z (HD _) fun w1 b=>?_
 have M1:=(((((Mem.start w).c0 TT4 #[f,s,p,c]).c1 TS3 #[i,pd,a]).c2 TS3 #[(),(),()]).adv b)
 clear b;go_wp2_with fail;refine(HI _).mono ?_;rintro e _ ⟨rfl,rfl⟩;obtain⟨c0,c1,c2⟩:=(M1.bk 1).tri;obtain⟨d0,d1,d2⟩:=(M1.bk 0).tri;have d:=(M1.bk 0).frozen 0;have g:=(M1.bk 0).frozen 1;have h:=(M1.bk 0).frozen 2;clear HD HI;have k1:IntKind.i64.wrap (pd+min D amt)=pd+min D amt:=aRr _ (by omega);have k2:IntKind.i64.wrap (amt-min D amt)=amt-min D amt:=aRr _ (by omega);have l:(D==0)=false:=by simp;omega
 go_wp2;clear c0 c1 c2 d0 d1 d2 d g h;have M2:=(((M1.st 0 0 (I i)).st 0 1 (I (pd+min D amt))).st 0 2 (I now))
 generalize World.setCell _ _ _=wz at M2⊢;clear M1;obtain⟨y0,y1,y2⟩:=(M2.bk 0).tri;exact bodyPost_ret (v:= .tuple #[.agg #[i,(pd+min D amt:Int),now],(amt-min D amt:Int),.bool true]) (by simp[results,results104,go_sem, *]) rfl ⟨rfl,M2.ext⟩
theorem aDu (f s p c i pd a now amt:Int)(w:World)(h:bO f s p c=true)(h2:dF i pd a=true)(h3:a≤now)(h4:now≤9999):
  U 104 #[aT f s p c,bS i pd a,now,amt] w (O (.tuple #[bS (fS f s p c i pd a now amt).1.1 (fS f s p c i pd a now amt).1.2.1 (fS f s p c i pd a now amt).1.2.2,I (fS f s p c i pd a now amt).2.1,.bool (fS f s p c i pd a now amt).2.2]) w):=by
 obtain⟨b1,b2,b3,b4,b5,b6⟩:=fM h2;obtain⟨e1,e2⟩:=kE h h2 h3 h4;have HD:=xQ (fun w=>aB7 f s p c i pd a now w h h2 h3 h4);unfold fS;generalize cC f s p c i pd a now=D at*;by_cases ha:1≤amt∧amt≤300
 ·have HI:Hid (∀w,U 50 #[amt,I 1,I 300] w fun e w'=>e= .returned (.bool true)∧w=w'):=fun w=>nH amt 1 300 w ha.1 ha.2
  rw[if_pos ha];by_cases hd:D=0
  ·subst hd;rw[if_pos rfl];exact aD9 i pd a now f s p c amt w b3 b4 HD HI ha.1 ha.2
  rw[if_neg hd];exact aFq i pd a now f s p c amt D w e1 e2 b3 b4 HD HI ha.1 ha.2 (by omega)
 have HI:Hid (∀w,U 50 #[amt,I 1,I 300] w fun e w'=>e= .returned (.bool false)∧w=w'):=fun w=>wB amt 1 300 w (by omega)
 rw[if_neg ha];exact aJg i pd a now f s p c amt D w e1 e2 b3 b4 HD HI (by omega)
end Go.Proofs.YtbgkcehffiogcacGreatDoor
