/-
  Texts of this proof, packed (@packed).
-/
import Derived.Test.YtbgkcehffiogcabGreatDoorX16
namespace Go.Proofs.YtbgkcehffiogcabGreatDoor
open Go.RowKit
set_option linter.unusedSimpArgs false
set_option linter.unusedVariables false
set_option maxHeartbeats 8000000
set_option maxRecDepth 100000
section
open Go.Proofs.Tryz
abbrev aN:TypeId:=29
theorem yP:ElT prog 27 TV 4:=
 ⟨underlying27,by
  obtain⟨i,hi,h0,h1,h2⟩:=info_parts (show(prog.info? TV).map (fun i=>(i.zero,i.size,i.bytes))=some (some (.agg #[(),(),(),()]),4,32) by kernel_rfl)
  exact⟨i,_,hi,h0,h1,by omega,rfl⟩,by omega⟩
theorem fN (vs:List aU): ∀u∈vs.flatMap aD,u.oneCell'=true:=by intro u hu;obtain⟨v,_,hv⟩:=List.mem_flatMap.1 hu;simp only[aD,aTj,List.not_mem_nil,or_false]at hv;rcases hv with rfl|rfl|rfl|rfl<;>rfl
theorem vZ (v:aU): ∀u∈aD v,u.oneCell'=true:=by intro u hu;simp only[aD,aTj,List.not_mem_nil,or_false]at hu;rcases hu with rfl|rfl|rfl|rfl<;>rfl
theorem aO3 (aA aB a b aE aF aC aG:Int)(p:OA)(n d:Nat)(q:OA)(m c2:Nat)(xs:List Int)(vs:List aU)(w:World)(hm:m≤1000)(hS:Hid (Sl w q m c2 4 (vs.flatMap aD)))
  (HL:xC 100 #[aH aA aB p n d] w fun w' e w''=> ∃q c,e= .returned (aH aA aB q n c)∧w''.ownsRow w' TI 1 (.slice q n c) n (ivs xs)∧Ext w' w''):
  U 59 #[.agg #[aA,aB,.slice p n d,a,b,aE,aF,aC,aG,.slice q m c2]] w fun e w'=> ∃p' cap' q' c2',e= .returned (.agg #[aA,aB,.slice p' n cap',a,b,aE,aF,aC,aG,.slice q' m c2'])∧w'.ownsRow w TI 1 (.slice p' n cap') n (ivs xs)∧w'.ownsRow w TV 4 (.slice q' m c2') m (vs.flatMap aD)∧Ext w w':=by
 go_enter func59,ntmps59;go_wp2_with fail;refine(HL _ ((((Mem.start w).c0 aN #[aA,aB,.slice p n d,a,b,aE,aF,aC,aG,.slice q m c2]).c1 aN zT).c2 aN #[aA,aB,.slice p n d,a,b,aE,aF,aC,aG,.slice q m c2]).ext).mono ?_;rintro e w1 ⟨q0,c0,rfl,z,ab⟩;have M1:=(((((Mem.start w).c0 aN #[aA,aB,.slice p n d,a,b,aE,aF,aC,aG,.slice q m c2]).c1 aN zT).c2 aN #[aA,aB,.slice p n d,a,b,aE,aF,aC,aG,.slice q m c2]).call ab z)
 have k:=M1.hi 1;have l:=M1.hi 2;have o:=M1.hi 3;clear ab z;have c9:=(M1.bk 3).cl 9;have d0:=(M1.bk 1).cl 0;have ae:=(M1.bk 1).frozen 0;have d1:=(M1.bk 1).cl 1;have af:=(M1.bk 1).frozen 1;have d2:=(M1.bk 1).cl 2;have ag:=(M1.bk 1).frozen 2;go_wp2_with (at_builtin;refine dI yP rfl _ _ rfl ((((M1.store (i:=1) rfl 0 (I aA)).store (i:=1) rfl 1 (I aB)).store (i:=1) rfl 2 (.slice q0 n c0)).made0 TV 4 w1 (by simp)) 0 rfl rfl (vs.flatMap aD) rfl (hS.out.ext ((((M1.store (i:=1) rfl 0 (I aA)).store (i:=1) rfl 1 (I aB)).store (i:=1) rfl 2 (.slice q0 n c0)).made0 TV 4 w1 (by simp)).ext) (fN vs) (by omega) ?_;intro q7 c7 w6 y;have M6:=xQ (show Mem w w6 [aJ w TV 4 (q7) (m) (c7) (vs.flatMap aD),aJ w TI 1 (q0) (n) (c0) (ivs xs),aI w (w.heap.size+1+1) aN #[aA,aB,.slice q0 n c0,a,b,aE,aF,aC,aG,.slice q m c2],aI w (w.heap.size+1) aN #[(),(),((),()),(),(),(),(),(),(),((),())],aI w w aN #[aA,aB,.slice p n d,a,b,aE,aF,aC,aG,.slice q m c2]]from by have:=(show Mem w w6 [aJ w TV 4 (q7) (0+m) (c7) ([]++vs.flatMap aD),aJ w TI 1 (q0) (n) (c0) (ivs xs),aI w (w.heap.size+1+1) aN #[aA,aB,.slice q0 n c0,a,b,aE,aF,aC,aG,.slice q m c2],aI w (w.heap.size+1) aN #[(),(),((),()),(),(),(),(),(),(),((),())],aI w w aN #[aA,aB,.slice p n d,a,b,aE,aF,aC,aG,.slice q m c2]]from y);simpa only[aU2,aUt]using this);clear y c9 d0 ae d1 af d2 ag M1 k l o;(have g:w.heap.size+1+1<w6.heap.size:=(M6.out.hi 2));(have h:w.heap.size+1<w6.heap.size:=(M6.out.hi 3));(have j:(w:Nat)<w6:=(M6.out.hi 4));(obtain⟨x0,x1,x2,x3,x4,x5,x6,x7,x8,x9⟩:=(M6.out.bk 2).ten);(have ah:w6.cell? ⟨w.heap.size+1+1,9,none⟩=some (.slice q m c2):=(M6.out.bk 2).cell 9);(have ad:w6.frozen? ⟨w.heap.size+1+1,9,none⟩=false:=(M6.out.bk 2).frozen 9);(obtain⟨y0,yf0,y1,yf1,y2,yf2,y3,yf3,y4,yf4,y5,yf5,y6,yf6,y7,yf7,y8,yf8,y9,yf9⟩:=(M6.out.bk 3).tenf))
 have r:=(((M6.out.st 2 9 (.slice q7 m c7)).st 3 0 (I aA)).st 3 1 (I aB))
 have s:=((r.st 3 2 (.slice q0 n c0)).st 3 3 (I a))
 have t:=((s.st 3 4 (I b)).st 3 5 (I aE))
 have u:=((t.st 3 6 (I aF)).st 3 7 (I aC))
 have x:=((u.st 3 8 (I aG)).st 3 9 (.slice q7 m c7))
 clear x0 x1 x2 x3 x4 x5 x6 x7 x8 x9 ah ad y0 yf0 y1 yf1 y2 yf2 y3 yf3 y4 yf4 y5 yf5 y6 yf6 y7 yf7 y8 yf8 y9 yf9 g h j;have f:=(show Mem w (((((((((((w6.setCell ⟨w.heap.size+1+1,9,none⟩ (.slice q7 m c7)).setCell ⟨w.heap.size+1,0,none⟩ (I aA)).setCell ⟨w.heap.size+1,1,none⟩ (I aB)).setCell ⟨w.heap.size+1,2,none⟩ (.slice q0 n c0)).setCell ⟨w.heap.size+1,3,none⟩ (I a)).setCell ⟨w.heap.size+1,4,none⟩ (I b)).setCell ⟨w.heap.size+1,5,none⟩ (I aE)).setCell ⟨w.heap.size+1,6,none⟩ (I aF)).setCell ⟨w.heap.size+1,7,none⟩ (I aC)).setCell ⟨w.heap.size+1,8,none⟩ (I aG)).setCell ⟨w.heap.size+1,9,none⟩ (.slice q7 m c7)) [aJ w TV 4 (q7) (m) (c7) (vs.flatMap aD),aJ w TI 1 (q0) (n) (c0) (ivs xs),aI w (w.heap.size+1+1) aN #[aA,aB,.slice q0 n c0,a,b,aE,aF,aC,aG,.slice q7 m c7],aI w (w.heap.size+1) aN #[aA,aB,.slice q0 n c0,a,b,aE,aF,aC,aG,.slice q7 m c7],aI w w aN #[aA,aB,.slice p n d,a,b,aE,aF,aC,aG,.slice q m c2]]from x)
 generalize aa:World.setCell _ _ _=wz;rw[aa]at f;clear aa M6 r s t u x;obtain⟨y0,y1,y2,y3,y4,y5,y6,y7,y8,y9⟩:=(f.bk 3).ten;exact bodyPost_ret (v:= .agg #[aA,aB,.slice q0 n c0,a,b,aE,aF,aC,aG,.slice q7 m c7]) (by simp[results,results59,go_sem, *]) rfl ⟨q0,c0,q7,c7,rfl,(f.ow 1),by have:=(f.ow 0);simpa using this,f.ext⟩
theorem uA (h:aS)(p:OA)(n a:Nat)(q:OA)(m c2:Nat)(w:World)(hn:n≤1000)(hm:m≤1000)(hi:IsHouse w h p n a q m c2):
  U 59 #[cY h p n a q m c2] w (RetHouse h w):=by
 have hl:=hi.clen;have f:=hi.vlen;refine(aO3 h.aA h.aB h.free h.step h.aE h.aF h.aC h.aG p n a q m c2 h.cells h.vs w hm (xQ hi.vs) (xQ fun w' hx=> ?_)).mono ?_
 ·refine(iG h.aA h.aB p n a h.cells w' (by omega) (hi.cells.ext hx)).mono ?_;rintro e i ⟨q,c,rfl,ho,g⟩;rw[hl]at ho⊢;exact⟨q,c,rfl,ho,g⟩
 rintro e w' ⟨p',b,q',d,rfl,h1,h2,h3⟩;subst hl f;exact⟨p',b,q',d,rfl,h1,h2,h3⟩
def mR (v:aU)(vs:List aU):List aU:=vs.takeWhile (fun u=>decide (u.1<v.1))++v::vs.dropWhile (fun u=>decide (u.1<v.1))
theorem uV (v:aU): ∀(vs:List aU) (k:Nat),(∀u∈vs.take k,u.1<v.1)→(∀u,vs[k]? =some u→ ¬u.1<v.1)→mR v vs=vs.take k++v::vs.drop k
 | [],k,_,_=>by simp[mR]
 |u::vs,0,_,h2=>by simp[mR,h2 u (by simp)]
 |u::vs,k+1,h1,h2=>by have h:=uV v vs k (fun z hz=>h1 z (by simp[hz])) (fun z hz=>h2 z (by simpa using hz));have hu:u.1<v.1:=h1 u (by simp);simp only[mR]at h⊢;simp[hu,h]
theorem mF: ∀(k:Nat) (vs:List aU),(vs.flatMap aD).drop (k*4)=(vs.drop k).flatMap aD
 |0,vs=>by simp
 |k+1,[]=>by simp
 |k+1,v::vs=>by rw[aUa,show(k+1)*4=(aD v).length+k*4 by simp[aD];omega,List.drop_length_add_append,mF k vs];rfl
theorem uQ {w:World}{b c n a sz k:Nat}{xs:List Value}(h:Sl w (some ⟨b,c,none⟩) n a sz xs)(hk:k≤n):Sl w (some ⟨b,c+k*sz,none⟩) (n-k) (a-k) sz (xs.drop (k*sz)):=by have hl:=h.len;have f:=h.le;have g:=h.mx;refine⟨by rw[aTw,hl,Nat.sub_mul],by omega,by omega,fun h0=> ?_⟩;obtain⟨b',d,e,hb,hc⟩:=h.rd (by omega);injection e with e;injection e with e1 e2;subst e1 e2;refine⟨_,_,rfl,hb,fun j hj=> ?_⟩;rw[Nat.add_assoc,hc (k*sz+j) (by rw[Nat.sub_mul]at hj;omega)];simp
theorem aM6 (id a1 a2 a3:Int)(q:OA)(m c2:Nat)(vs:List aU)(w:World)(hm:m≤1000)(hS:Sl w q m c2 4 (vs.flatMap aD)):
  U 102 #[.slice q m c2,.agg #[id,a1,a2,a3]] w fun e w'=> ∃q' c',e= .returned (.slice q' (m+1) c')∧w'.ownsRow w TV 4 (.slice q' (m+1) c') (m+1) ((mR (id,a1,a2,a3) vs).flatMap aD)∧Ext w w':=by
 have hl:Hid (vs.length=m):=by have:=hS.len;rw[eA aD 4 (fun _=>rfl)]at this;exact(by omega:vs.length=m)
 have n:=hS.le;have HS:=xQ hS;clear hS;have j:=xQ (((Mem.start w).c0 TV #[id,a1,a2,a3]).made0 TV 4 (w.heap.size+1) (by simp));go_enter func102,ntmps102;go_wp2;go_loopw [5,6] (fun v i wr=> ∃(k:Nat) (q5:OA) (c5:Nat),k≤m∧i=I k∧v= .slice q5 k c5∧(∀u∈vs.take k,u.1<id)∧Mem w wr [aJ w TV 4 (q5) (k) (c5) ((vs.take k).flatMap aD),aI w w TV #[id,a1,a2,a3]]) (fun _ i _=>m-(intOf i).toNat)
 case atStart=>exact⟨0,some ⟨w.heap.size+1,0,none⟩,0,aT8 _,rfl,rfl,by simp,j.out⟩
 case round=>
  clear j;obtain⟨k,q5,c5,hk,rfl,rfl,f,hM⟩:=hrel;have HM:=hM;have HL:=xQ f;clear hM f;by_cases hlt:k<m
  ·obtain⟨b,p,c0,c1,c4,c3,rfl,hx,hb,g0,g1,g2,g3⟩:=gQ (HS.out.ext HM.ext) hlt;have b0:=(HM.bk 1).cl 0;have b1:=(HM.bk 1).cl 1;have b2:=(HM.bk 1).cl 2;have b3:=(HM.bk 1).cl 3;have HX:=xQ hx;clear hx;have i1:(0:Int)≤(k:Int):=by omega
   have i2:(k:Int)<(m:Int):=by omega
   have i3:(k:Int)≤(m:Int):=by omega
   by_cases hy:c0<id
   ·have c:Hid (∀z∈vs.take (k+1),z.1<id):=by
     show∀z∈vs.take (k+1),z.1<id;rw[aZ HX.out];intro z hz;rcases aTi.1 hz with h|h
     ·exact HL z h
     simp at h;subst h;exact hy
    have hd:decide (c0<id)=true:=by simp[hy]
    go_wp2;go_quiet (fail);generalize d:World.drewN wr _=wi;have hX:Ext wr wi:=by rw[←d];exact Ext.drewN (Ext.refl _) _
    clear d b0 b1 b2 b3 hd;have a:=(HM.adv hX)
    clear HM;have d0:=(a.bk 1).cl 0;have d1:=(a.bk 1).cl 1;have d2:=(a.bk 1).cl 2;have d3:=(a.bk 1).cl 3;have e0:=(hX.cells.1 _ _ hb).trans g0;have e1:=(hX.cells.1 _ _ hb).trans g1;have e2:=(hX.cells.1 _ _ hb).trans g2;have e3:=(hX.cells.1 _ _ hb).trans g3;clear hX g0 g1 g2 g3 hb;go_wp2_with (at_builtin;go_loud (refine dI yP rfl _ _ rfl (a.adv ((Ext.refl _).alloc (.cells #[c0,c1,c4,c3] TV))) 0 rfl rfl (aD (c0,c1,c4,c3)) rfl (gG _ _ _ 1 4 _ (by simp) (by simp) (by simp[maxLen])) (vZ _) (by omega) ?_;intro q7 c7 w6 M6));have M7:=(show Mem w w6 [aJ w TV 4 (q7) (k+1) (c7) ((vs.take k).flatMap aD++aD (c0,c1,c4,c3)),aI w w TV #[id,a1,a2,a3]]from M6)
    have g:Hid ((vs.take k).flatMap aD++aD (c0,c1,c4,c3)=(vs.take (k+1)).flatMap aD):=by show _=_;rw[aZ HX.out,aU3];simp
    rw[g.out]at M7;clear g M6;go_roundw
    case rel=>exact⟨k+1,q7,c7,by omega,by go_num,rfl,c.out,M7⟩
    case measure=>simp[intOf];omega
   have c:Hid (mR (id,a1,a2,a3) vs=vs.take k++(id,a1,a2,a3)::vs.drop k):=uV _ vs k HL (fun z hz=>by rw[HX.out]at hz;injection hz with hz;subst hz;exact hy);have o: ¬c2=k:=by omega
   have hd:decide (c0<id)=false:=by simp[hy]
   clear HX HL;go_wp2;go_quiet (fail);generalize d:World.drewN wr _=wi;have hX:Ext wr wi:=by rw[←d];exact Ext.drewN (Ext.refl _) _
   clear d b0 b1 b2 b3 hd;have a:=(HM.adv hX)
   clear HM;have d0:=(a.bk 1).cl 0;have d1:=(a.bk 1).cl 1;have d2:=(a.bk 1).cl 2;have d3:=(a.bk 1).cl 3;clear hX g0 g1 g2 g3 hb hy;go_wp2
   go_region_law ((first
    |(refine jD yP (by rfl) _ _ (by rfl) (a.adv (by exact .drew (.alloc (.refl _) _))) 0 (by rfl) (by rfl) (aD (id,a1,a2,a3)) (by rfl) (by first|exact gG wi #[id,a1,a2,a3] _ 1 4 _ rfl (by simp) (by simp[maxLen])|exact(gG wi #[id,a1,a2,a3] _ 1 4 _ rfl (by simp) (by simp[maxLen])).ext (Ext.drew (Ext.refl _))|exact gG wi.drew #[id,a1,a2,a3] _ 1 4 _ rfl (by simp) (by simp[maxLen])) (vZ _) (by omega) ?_
      intro q7 c7 w6 M6;have M7:=(show Mem w w6 [aJ w TV 4 (q7) (k+1) (c7) ((vs.take k).flatMap aD++aD (id,a1,a2,a3)),aI w w TV #[id,a1,a2,a3]]from M6)
      clear M6)
    |(refine jD yP (by rfl) _ _ (by rfl) (M7.adv (by exact .refl _)) 0 (by rfl) (by rfl) ((vs.drop k).flatMap aD) (by rfl) (mF k vs▸uQ (HS.out.ext (M7.ext.trans (by exact .refl _))) (by omega)) (fN _) (by omega) ?_
      intro q9 c9 w9 M9
      have M9:=xQ (show Mem w w9 [aJ w TV 4 (q9) (k+1+(m-k)) (c9) (((vs.take k).flatMap aD++aD (id,a1,a2,a3))++(vs.drop k).flatMap aD),aI w w TV #[id,a1,a2,a3]]from M9))))
   all_goals (
    have e1:k+1+(m-k)=m+1:=by omega
    have e2:((vs.take k).flatMap aD++aD (id,a1,a2,a3))++(vs.drop k).flatMap aD=(vs.take k++(id,a1,a2,a3)::vs.drop k).flatMap aD:=by simp
    have MZ:=(show Mem w w9 [aJ w TV 4 (q9) (m+1) (c9) ((vs.take k++(id,a1,a2,a3)::vs.drop k).flatMap aD),aI w w TV #[id,a1,a2,a3]]from by have:=M9.out;rw[e2]at this;simpa only[e1]using this)
    clear e2 M9 M7)
   all_goals go_wp2
   all_goals exact bodyPost_ret (v:= .slice q9 (m+1) c9) (by simp[results,results102,go_sem, *]) rfl ⟨q9,c9,rfl,by rw[c.out];exact MZ.ow 0,MZ.ext⟩
  obtain rfl:k=m:=by omega
  have b0:=(HM.bk 1).cl 0;have b1:=(HM.bk 1).cl 1;have b2:=(HM.bk 1).cl 2;have b3:=(HM.bk 1).cl 3;have c:Hid (mR (id,a1,a2,a3) vs=vs.take k++(id,a1,a2,a3)::vs.drop k):=uV _ vs k HL (fun z hz=>by rw[aUi (by rw[hl.out];exact aT2 _)]at hz;cases hz);have l:Hid (vs.drop k= []):=aUf (by rw[hl.out];exact aT2 _);have i1:(0:Int)≤(k:Int):=by omega
  clear HL;go_wp2;go_quiet (fail);generalize d:World.drewN wr _=wi;have hX:Ext wr wi:=by rw[←d];exact Ext.drewN (Ext.refl _) _
  clear d b0 b1 b2 b3;have a:=(HM.adv hX)
  clear HM;have d0:=(a.bk 1).cl 0;have d1:=(a.bk 1).cl 1;have d2:=(a.bk 1).cl 2;have d3:=(a.bk 1).cl 3;clear hX;go_wp2
  go_region_law ((first
   |(refine jD yP (by rfl) _ _ (by rfl) (a.adv (by exact .drew (.alloc (.refl _) _))) 0 (by rfl) (by rfl) (aD (id,a1,a2,a3)) (by rfl) (by first|exact gG wi #[id,a1,a2,a3] _ 1 4 _ rfl (by simp) (by simp[maxLen])|exact(gG wi #[id,a1,a2,a3] _ 1 4 _ rfl (by simp) (by simp[maxLen])).ext (Ext.drew (Ext.refl _))|exact gG wi.drew #[id,a1,a2,a3] _ 1 4 _ rfl (by simp) (by simp[maxLen])) (vZ _) (by omega) ?_
     intro q7 c7 w6 M6;have M7:=(show Mem w w6 [aJ w TV 4 (q7) (k+1) (c7) ((vs.take k).flatMap aD++aD (id,a1,a2,a3)),aI w w TV #[id,a1,a2,a3]]from M6)
     clear M6)
   |(refine jD yP (by rfl) _ _ (by rfl) (M7.adv (by exact .refl _)) 0 (by rfl) (by rfl) (([]:List aU).flatMap aD) (by rfl) (⟨by simp,aT8 _,by have:=HS.out.mx;omega,fun h=>absurd h (by omega)⟩) (fN _) (by omega) ?_
     intro q9 c9 w9 M9
     have M9:=xQ (show Mem w w9 [aJ w TV 4 (q9) (k+1+0) (c9) (((vs.take k).flatMap aD++aD (id,a1,a2,a3))++([]:List aU).flatMap aD),aI w w TV #[id,a1,a2,a3]]from M9))))
  all_goals (
   have e1:k+1+0=k+1:=by omega
   have e2:((vs.take k).flatMap aD++aD (id,a1,a2,a3))++([]:List aU).flatMap aD=(vs.take k++(id,a1,a2,a3)::vs.drop k).flatMap aD:=by simp[l.out]
   have MZ:=(show Mem w w9 [aJ w TV 4 (q9) (k+1) (c9) ((vs.take k++(id,a1,a2,a3)::vs.drop k).flatMap aD),aI w w TV #[id,a1,a2,a3]]from by have:=M9.out;rw[e2]at this;simpa only[e1]using this)
   clear e2 M9 M7)
  all_goals go_wp2
  all_goals exact bodyPost_ret (v:= .slice q9 (k+1) c9) (by simp[results,results102,go_sem, *]) rfl ⟨q9,c9,rfl,by rw[c.out];exact MZ.ow 0,MZ.ext⟩
def vix (id:Int)(vs:List aU):Int:=if vs.any (fun v=>v.1==id)then(vs.findIdx (fun v=>v.1==id):Int)else -1
theorem aK6 {id:Int}{vs:List aU}{k:Nat}{v:aU}(hv:vs[k]? =some v) (h:v.1=id) (hp:(vs.take k).any (fun v=>v.1==id)=false):vix id vs=k:=by
 have a:k<vs.length:=(aT6.1 hv).1;have e:vs[k]=v:=by have:=(aT6.1 hv).2;exact this
 have ha:vs.any (fun v=>v.1==id)=true:=List.any_eq_true.2 ⟨v,aT4 hv,by simp[h]⟩;have hi:vs.findIdx (fun v=>v.1==id)=k:=by rw[List.findIdx_eq a];refine⟨by simp[e,h],fun j hj=> ?_⟩;have:=List.any_eq_false.1 hp vs[j] (by rw[List.mem_take_iff_getElem];exact⟨j,by omega,rfl⟩);simpa using this
 unfold vix;rw[if_pos ha,hi]
theorem zA {id:Int}{vs:List aU}(hp:vs.any (fun v=>v.1==id)=false):vix id vs= -1:=by unfold vix;simp[hp]
theorem aHw {id:Int}{vs:List aU}{k:Nat}{v:aU}(hv:vs[k]? =some v) (h: ¬v.1=id) (hp:(vs.take k).any (fun v=>v.1==id)=false):(vs.take (k+1)).any (fun v=>v.1==id)=false:=by rw[aZ hv,List.any_append,hp];simp[h]
theorem oN (id:Int)(vs:List aU):(vix id vs= -1∧iA id vs=none)∨ ∃(k:Nat) (a1 a2 a3:Int),k<vs.length∧vix id vs=k∧vs[k]? =some (id,a1,a2,a3)∧iA id vs=some (id,a1,a2,a3):=by
 cases h:vs.any (fun v=>v.1==id)with
 |false=>exact .inl ⟨zA h,by unfold iA;rw[List.find?_eq_none];simpa using h⟩
 |true=>
  right;have a:vs.findIdx (fun v=>v.1==id)<vs.length:=List.findIdx_lt_length.2 (by simpa using h);have hg:=List.findIdx_getElem (w:=a);have hf:iA id vs=some (vs[vs.findIdx (fun v=>v.1==id)]):=by unfold iA;rw[List.find?_eq_some_iff_getElem];exact⟨hg,_,a,rfl,fun j hj=>by simpa using List.not_of_lt_findIdx hj⟩
  have h0:vs[vs.findIdx (fun v=>v.1==id)].1=id:=by simpa using hg
  generalize hb:vs[vs.findIdx (fun v=>v.1==id)]=v at*;obtain⟨b0,b1,b2,b3⟩:=v;dsimp only at h0;subst h0;exact⟨_,b1,b2,b3,a,by unfold vix;rw[if_pos h],by rw[aT3 a,hb],hf⟩
theorem aBo (B:Nat)(q:OA)(m c2:Nat)(vs:List aU)(id:Int)(w:World)(hS:Sl w q m c2 4 (vs.flatMap aD))(hB:B<w.heap.size)(hc:w.cell? ⟨B,0,none⟩=some (I id)):
  U 167 #[.slice q m c2,.func (.func 168) #[] #[.pointer (some ⟨B,0,none⟩)]] w (Z (I (vix id vs)) w):=by
 have hn:=hS.bd;have HS:=xQ hS;have hl:Hid (vs.length=m):=by have:=hS.len;rw[eA aD 4 (fun _=>rfl)]at this;exact(by omega:vs.length=m)
 clear hS;go_enter func167,ntmps167;go_wp2;go_loopw [8] (fun i wr=> ∃k:Nat,k≤m∧i=I k∧(vs.take k).any (fun v=>v.1==id)=false∧Ext w wr∧w.heap.size≤wr.heap.size∧wr.cell? ⟨B,0,none⟩=some (I id)) (fun i _=>m-(intOf i).toNat)
 case atStart=>exact⟨0,aT8 _,rfl,by simp,by exact .refl _,by simp,by simpa using hc⟩
 case round=>
  obtain⟨k,hk,rfl,hp,hE,f,d⟩:=hrel;have HP:=xQ hp;clear hp;by_cases hlt:k<m
  ·obtain⟨b,g,a0,a1,a2,a3,rfl,hv,hb,g0,g1,g2,g3⟩:=gQ (HS.out.ext hE) hlt;have HV:=xQ hv;clear hv;have c:(wr.alloc (.cells #[a0,a1,a2,a3] 68)).cell? ⟨B,0,none⟩=some (I id):=by rw[((Ext.refl wr).alloc _).cells.1 _ _ (by omega)];exact d
   by_cases t:a0=id
   ·have q0:(a0==id)=true:=by simp[t]
    have a:Hid (vix id vs=k):=aK6 HV t HP.out;clear t;go_wp2_with go_in;go_ret;exact⟨by rw[a.out];rfl,by exact .alloc hE _⟩
   have q0:(a0==id)=false:=by simp[t]
   have a:Hid ((vs.take (k+1)).any (fun v=>v.1==id)=false):=aHw HV t HP.out;clear t;go_wp2_with go_in;go_roundw
   case rel=>exact⟨k+1,by omega,by go_num,a.out,by exact .alloc hE _,by simp;omega,c⟩
   case measure=>simp[intOf];omega
  have a:Hid (vix id vs= -1):=zA (by have:=HP.out;rwa[aT7 (by rw[hl.out];omega)]at this);go_wp2;go_ret;exact⟨by rw[a.out];rfl,by exact hE⟩
theorem kS (aA aB a b aE aF aC aG id:Int)(p:OA)(n c:Nat)(q:OA)(m c2:Nat)(vs:List aU)(w:World)(hS:Sl w q m c2 4 (vs.flatMap aD)):
  U 128 #[.agg #[aA,aB,.slice p n c,a,b,aE,aF,aC,aG,.slice q m c2],id] w (Z (I (vix id vs)) w):=by
 have HI:Hid (∀w1 B,Ext w w1→B<w1.heap.size→w1.cell? ⟨B,0,none⟩=some (I id)→U 167 #[.slice q m c2,.func (.func 168) #[] #[.pointer (some ⟨B,0,none⟩)]] w1 (Z (I (vix id vs)) w1)):=
  fun w1 B hx hB hc=>aBo B q m c2 vs id w1 (hS.ext hx) hB hc
 clear hS;go_enter func128,ntmps128;go_wp2_with fail;refine Ω (HI _ _ (by exact .alloc (.alloc (.refl _) _) _) (by simp) (by simp)) fun w1 h1=>?_
 go_wp2;go_ret;exact⟨rfl,by exact .trans (.alloc (.alloc (.refl _) _) _) h1⟩
theorem tZ (aA aB c d aE aF aC aG id:Int)(p:OA)(n f:Nat)(q:OA)(m c2:Nat)(vs:List aU)(w:World)(hS:Sl w q m c2 4 (vs.flatMap aD)):
  U 105 #[.agg #[aA,aB,.slice p n f,c,d,aE,aF,aC,aG,.slice q m c2],id] w (Z (I (vix id vs)) w):=by
 have hn:=hS.bd;have HS:=xQ hS;have hl:Hid (vs.length=m):=by have:=hS.len;rw[eA aD 4 (fun _=>rfl)]at this;exact(by omega:vs.length=m)
 clear hS;go_enter func105,ntmps105;go_wp2;go_loop [5] (fun i=> ∃k:Nat,k≤m∧i=I k∧(vs.take k).any (fun v=>v.1==id)=false) (fun i=>m-(intOf i).toNat)
 case atStart=>exact⟨0,aT8 _,rfl,by simp⟩
 case round=>
  obtain⟨k,hk,rfl,hp⟩:=hrel;have HP:=xQ hp;clear hp;by_cases hlt:k<m
  ·obtain⟨b,g,a0,a1,a2,a3,rfl,hv,hb,g0,g1,g2,g3⟩:=gQ HS hlt;have HV:=xQ hv;clear hv;by_cases t:a0=id
   ·have q0:(a0==id)=true:=by simp[t]
    have a:Hid (vix id vs=k):=aK6 HV t HP.out;clear t;go_wp2;go_ret;exact⟨by rw[a.out];rfl,by exact .alloc (.refl _) _⟩
   have q0:(a0==id)=false:=by simp[t]
   have a:Hid ((vs.take (k+1)).any (fun v=>v.1==id)=false):=aHw HV t HP.out;clear t;go_wp2;go_round
   case rel=>exact⟨k+1,by omega,by go_num,a.out⟩
   case measure=>simp[intOf];omega
  have a:Hid (vix id vs= -1):=zA (by have:=HP.out;rwa[aT7 (by rw[hl.out];omega)]at this);go_wp2;go_ret;exact⟨by rw[a.out];rfl,by exact .alloc (.refl _) _⟩
abbrev TT4:TypeId:=26
abbrev TS3:TypeId:=66
def jG (f s p c i pd a now amt:Int):(Int×Int×Int)×Int×Bool:=
 if 1≤amt∧amt≤300 then
  (if cT f s p c i pd a now=0 then((i,pd,a),amt,false)else((i,pd+min (cT f s p c i pd a now) amt,now),amt-min (cT f s p c i pd a now) amt,true))
 else((0,0,0),amt,false)
theorem nF {f s p c i pd a now:Int}(h:bV f s p c=true)(h2:dP i pd a=true)(h3:a≤now)(h4:now≤9999):0≤cT f s p c i pd a now∧cT f s p c i pd a now≤693:=by obtain⟨b1,b2,b3,b4,b5,b6⟩:=iB h2;have hb:=vL (m:=now-i) h (by omega) (by omega);unfold cT;rw[if_pos (by simp[h,h2,h3,h4])];omega
theorem aLc (i pd a now f s p c amt D:Int)(w:World)(hD:0≤D)(j:D≤693)(k:0≤pd)(hp:pd≤9999)
  (HD:Hid (∀w,U 182 #[aV f s p c,cF i pd a,now] w (Z (I D) w)))
  (HI:Hid (∀w,U 43 #[amt,I 1,I 300] w fun e w'=>e= .returned (.bool false)∧w=w'))(ha:amt<1∨300<amt):
  U 139 #[aV f s p c,cF i pd a,now,amt] w (Z (.tuple #[cF 0 0 0,amt,.bool false]) w):=by
 go_enter func139,ntmps139;go_wp2_with fail;refine Ω (HD _) fun w1 b=>?_
 have M1:=(((((Mem.start w).c0 TT4 #[f,s,p,c]).c1 TS3 #[i,pd,a]).c2 TS3 #[(),(),()]).adv b)
 clear b;go_wp2_with fail;refine(HI _).mono ?_;rintro e _ ⟨rfl,rfl⟩;obtain⟨d0,d1,d2⟩:=(M1.bk 0).tri;have d:=(M1.bk 0).frozen 0;have g:=(M1.bk 0).frozen 1;have h:=(M1.bk 0).frozen 2;clear HD HI;go_wp2;clear d0 d1 d2 d g h;have M2:=(((M1.st 0 0 (I 0)).st 0 1 (I 0)).st 0 2 (I 0))
 generalize World.setCell _ _ _=wz at M2⊢;clear M1;obtain⟨y0,y1,y2⟩:=(M2.bk 0).tri;exact bodyPost_ret (v:= .tuple #[.agg #[(),(),()],amt,.bool false]) (by simp[results,results139,go_sem, *]) rfl ⟨rfl,M2.ext⟩
theorem aFv (i pd a now f s p c amt:Int)(w:World)(j:0≤pd)(hp:pd≤9999)
  (HD:Hid (∀w,U 182 #[aV f s p c,cF i pd a,now] w (Z (I 0) w)))
  (HI:Hid (∀w,U 43 #[amt,I 1,I 300] w fun e w'=>e= .returned (.bool true)∧w=w'))(ha:1≤amt)(hb:amt≤300):
  U 139 #[aV f s p c,cF i pd a,now,amt] w (Z (.tuple #[cF i pd a,amt,.bool false]) w):=by
 go_enter func139,ntmps139;go_wp2_with fail;refine Ω (HD _) fun w1 b=>?_
 have M1:=(((((Mem.start w).c0 TT4 #[f,s,p,c]).c1 TS3 #[i,pd,a]).c2 TS3 #[(),(),()]).adv b)
 clear b;go_wp2_with fail;refine(HI _).mono ?_;rintro e _ ⟨rfl,rfl⟩;obtain⟨c0,c1,c2⟩:=(M1.bk 1).tri;obtain⟨d0,d1,d2⟩:=(M1.bk 0).tri;have d:=(M1.bk 0).frozen 0;have g:=(M1.bk 0).frozen 1;have h:=(M1.bk 0).frozen 2;clear HD HI;go_wp2;clear c0 c1 c2 d0 d1 d2 d g h;have M2:=(((M1.st 0 0 (I i)).st 0 1 (I pd)).st 0 2 (I a))
 generalize World.setCell _ _ _=wz at M2⊢;clear M1;obtain⟨y0,y1,y2⟩:=(M2.bk 0).tri;exact bodyPost_ret (v:= .tuple #[.agg #[i,pd,a],amt,.bool false]) (by simp[results,results139,go_sem, *]) rfl ⟨rfl,M2.ext⟩
theorem aI6 (i pd a now f s p c amt D:Int)(w:World)(hD:0≤D)(k:D≤693)(m:0≤pd)(hp:pd≤9999)
  (HD:Hid (∀w,U 182 #[aV f s p c,cF i pd a,now] w (Z (I D) w)))
  (HI:Hid (∀w,U 43 #[amt,I 1,I 300] w fun e w'=>e= .returned (.bool true)∧w=w'))(ha:1≤amt)(hb:amt≤300)(j:1≤D):
  U 139 #[aV f s p c,cF i pd a,now,amt] w (Z (.tuple #[cF i (pd+min D amt) now,(amt-min D amt:Int),.bool true]) w):=by
 go_enter func139,ntmps139;go_wp2_with fail;refine Ω (HD _) fun w1 b=>?_
 have M1:=(((((Mem.start w).c0 TT4 #[f,s,p,c]).c1 TS3 #[i,pd,a]).c2 TS3 #[(),(),()]).adv b)
 clear b;go_wp2_with fail;refine(HI _).mono ?_;rintro e _ ⟨rfl,rfl⟩;obtain⟨c0,c1,c2⟩:=(M1.bk 1).tri;obtain⟨d0,d1,d2⟩:=(M1.bk 0).tri;have d:=(M1.bk 0).frozen 0;have g:=(M1.bk 0).frozen 1;have h:=(M1.bk 0).frozen 2;clear HD HI;have k1:IntKind.i64.wrap (pd+min D amt)=pd+min D amt:=aT5 _ (by omega);have k2:IntKind.i64.wrap (amt-min D amt)=amt-min D amt:=aT5 _ (by omega);have l:(D==0)=false:=by simp;omega
 go_wp2;clear c0 c1 c2 d0 d1 d2 d g h;have M2:=(((M1.st 0 0 (I i)).st 0 1 (I (pd+min D amt))).st 0 2 (I now))
 generalize World.setCell _ _ _=wz at M2⊢;clear M1;obtain⟨y0,y1,y2⟩:=(M2.bk 0).tri;exact bodyPost_ret (v:= .tuple #[.agg #[i,(pd+min D amt:Int),now],(amt-min D amt:Int),.bool true]) (by simp[results,results139,go_sem, *]) rfl ⟨rfl,M2.ext⟩
theorem aGa (f s p c i pd a now amt:Int)(w:World)(h:bV f s p c=true)(h2:dP i pd a=true)(h3:a≤now)(h4:now≤9999):
  U 139 #[aV f s p c,cF i pd a,now,amt] w (Z (.tuple #[cF (jG f s p c i pd a now amt).1.1 (jG f s p c i pd a now amt).1.2.1 (jG f s p c i pd a now amt).1.2.2,I (jG f s p c i pd a now amt).2.1,.bool (jG f s p c i pd a now amt).2.2]) w):=by
 obtain⟨b1,b2,b3,b4,b5,b6⟩:=iB h2;obtain⟨e1,e2⟩:=nF h h2 h3 h4;have HD:=xQ (fun w=>aI5 f s p c i pd a now w h h2 h3 h4);unfold jG;generalize cT f s p c i pd a now=D at*;by_cases ha:1≤amt∧amt≤300
 ·have HI:Hid (∀w,U 43 #[amt,I 1,I 300] w fun e w'=>e= .returned (.bool true)∧w=w'):=fun w=>oT amt 1 300 w ha.1 ha.2
  rw[if_pos ha];by_cases hd:D=0
  ·subst hd;rw[if_pos rfl];exact aFv i pd a now f s p c amt w b3 b4 HD HI ha.1 ha.2
  rw[if_neg hd];exact aI6 i pd a now f s p c amt D w e1 e2 b3 b4 HD HI ha.1 ha.2 (by omega)
 have HI:Hid (∀w,U 43 #[amt,I 1,I 300] w fun e w'=>e= .returned (.bool false)∧w=w'):=fun w=>yT amt 1 300 w (by omega)
 rw[if_neg ha];exact aLc i pd a now f s p c amt D w e1 e2 b3 b4 HD HI (by omega)
end
section
open Go.Proofs.Tryz
section
variable {w0 w w':World} {L:List Item}
theorem Mem.own2 {b n c sz n2 c2 sz2:Nat}{e e2:TypeId}{q q2:OA}{xs i:List Value}(h:Mem w0 w L)(hx:Ext w w')(a:w'.ownsRow b e sz (.slice q n c) n xs)(g:w'.ownsRow b e2 sz2 (.slice q2 n2 c2) n2 i)(hb:w.heap.size≤b)(ht:e≠e2):
  Mem w0 w' (aJ w0 e sz q n c xs::aJ w0 e2 sz2 q2 n2 c2 i::L):=by
 refine(h.ownNew hx g hb).cons (kK _ _ _ _ _ _ _) (gO a (aTb h.ext.sz hb)) (fun g' hg' j hj e'=> ?_);replace hg':(Value.slice q n c).ownBlock=Option.some g':=hg';have h1:=(aUo a g' hg').1;rcases aTj.1 hj with rfl|hj
 ·replace e':(Value.slice q2 n2 c2).ownBlock=Option.some g':=e';rcases a.2 with⟨h2,_⟩|⟨g2,cap',cur,h2,_,h3,_⟩
  ·rw[h2]at hg';cases hg'
  rcases g.2 with⟨k2,_⟩|⟨g3,cap3,cur3,k2,_,k3,_⟩
  ·rw[k2]at e';cases e'
  rw[h2]at hg';rw[k2]at e';injection hg' with hg';injection e' with e';have f:g2=g':=hg';have d:g3=g':=e';subst f;subst d;rw[h3]at k3;injection k3 with k3;injection k3 with _ k3;exact ht k3
 have h2:=((h.good j hj).lt w (h.ok j hj) g' e').2;omega
end
theorem aDp (aA aB a c aE aF aC aG id amt:Int)(p:OA)(n d:Nat)(q:OA)(m c2:Nat)(xs:List Int)(vs:List aU)(w:World)
  (HL:xC 59 #[.agg #[aA,aB,.slice p n d,a,c,aE,aF,aC,aG,.slice q m c2]] w fun w' e w''=> ∃p' cap' q' c2',e= .returned (.agg #[aA,aB,.slice p' n cap',a,c,aE,aF,aC,aG,.slice q' m c2'])∧w''.ownsRow w' TI 1 (.slice p' n cap') n (ivs xs)∧w''.ownsRow w' TV 4 (.slice q' m c2') m (vs.flatMap aD)∧Ext w' w'')
  (HF:xC 105 #[.agg #[aA,aB,.slice p n d,a,c,aE,aF,aC,aG,.slice q m c2],id] w fun w' e w''=>e= .returned (I (-1))∧Ext w' w''):
  U 103 #[.agg #[aA,aB,.slice p n d,a,c,aE,aF,aC,aG,.slice q m c2],id,amt] w fun e w'=> ∃p' cap' q' c2' b,e= .returned (.tuple #[.agg #[aA,aB,.slice p' n cap',a,c,aE,aF,aC,aG,.slice q' m c2'],b,.bool false])∧Ext w w':=by
 go_enter func103,ntmps103;go_wp2_with fail;refine(HL _ (((Mem.start w).c0 aN #[aA,aB,.slice p n d,a,c,aE,aF,aC,aG,.slice q m c2]).c1 aN zT).ext).mono ?_;rintro e w1 ⟨p1,f,q1,g,rfl,j,k,o⟩;have M1:=((((Mem.start w).c0 aN #[aA,aB,.slice p n d,a,c,aE,aF,aC,aG,.slice q m c2]).c1 aN zT).own2 o j k (aT2 _) (by decide))
 have h:=M1.hi 3;clear o j k HL;obtain⟨s,t,u,x,y,z,aa,ab,ad,ae⟩:=(M1.bk 3).ten;go_wp2_with fail;clear s t u x y z aa ab ad ae;refine Ω (HF _ (M1.c0 aN #[aA,aB,.slice p1 n f,a,c,aE,aF,aC,aG,.slice q1 m g]).ext) fun w2 r=>?_
 have M2:=((M1.c0 aN #[aA,aB,.slice p1 n f,a,c,aE,aF,aC,aG,.slice q1 m g]).adv r)
 clear M1 h r HF;obtain⟨d0,d1,d2,d3,d4,d5,d6,d7,d8,d9⟩:=(M2.bk 0).ten;obtain⟨f0,af,f1,ag,f2,ah,f3,ai,f4,aj,f5,ak,f6,al,f7,am,f8,an,f9,ao⟩:=(M2.bk 3).tenf;go_wp2;clear d0 d1 d2 d3 d4 d5 d6 d7 d8 d9 f0 af f1 ag f2 ah f3 ai f4 aj f5 ak f6 al f7 am f8 an f9 ao;have M3:=(M2.put10 (i:=3) rfl (I aA) (I aB) (.slice p1 n f) (I a) (I c) (I aE) (I aF) (I aC) (I aG) (.slice q1 m g))
 generalize l:World.setCell _ _ _=wz;rw[l]at M3;clear l M2;obtain⟨y0,y1,y2,y3,y4,y5,y6,y7,y8,y9⟩:=(M3.bk 3).ten;exact bodyPost_ret (v:= .tuple #[.agg #[aA,aB,.slice p1 n f,a,c,aE,aF,aC,aG,.slice q1 m g],amt,.bool false]) (by simp[results,results103,go_sem, *]) rfl ⟨p1,f,q1,g,amt,rfl,M3.ext⟩
theorem aC9 {vs:List aU}{k:Nat}{a0 a1 a2 a3:Int}(h:vs[k]? =some (a0,a1,a2,a3)) (S1 S2 S3:Int):
  (((vs.flatMap aD).set (k*4+1) (I S1)).set (k*4+2) (I S2)).set (k*4+3) (I S3)=(vs.set k (a0,S1,S2,S3)).flatMap aD:=by
 induction vs generalizing k with
 |nil=>simp at h
 |cons v vs ih=>
  cases k with
  |zero=>simp at h;subst h;simp[aD]
  |succ k=>
   have h':vs[k]? =some (a0,a1,a2,a3):=by simpa using h
   rw[aTf,aUa,aUa,←ih h'];simp only[aD,aUu,aUt];rw[show(k+1)*4+1=(k*4+1)+1+1+1+1 by omega,show(k+1)*4+2=(k*4+2)+1+1+1+1 by omega,show(k+1)*4+3=(k*4+3)+1+1+1+1 by omega];simp only[aTf]
theorem aLd (aA aB c d aE aF aC aG id amt:Int)(p:OA)(n q b h m c2 k:Nat)(xs:List Int)(vs:List aU)(a0 a1 a2 a3 S1 S2 S3 bk:Int)(r:Bool)(w:World)(hk:k<m)(hm:m≤1000)(hb:b<w.heap.size)(cs:0≤aG)(ch:aG≤99999)(b5:r=true→0≤bk∧bk≤amt∧amt≤300)(bt:Hid (vs[k]? =some (a0,a1,a2,a3)))
  (g1:w.cell? ⟨b,h+k*4+1,none⟩=some (I a1)) (g2:w.cell? ⟨b,h+k*4+2,none⟩=some (I a2)) (g3:w.cell? ⟨b,h+k*4+3,none⟩=some (I a3))
  (HL:xC 59 #[.agg #[aA,aB,.slice p n q,c,d,aE,aF,aC,aG,.slice (some ⟨b,h,none⟩) m c2]] w fun w' e w''=> ∃p' cap' q' c2',e= .returned (.agg #[aA,aB,.slice p' n cap',c,d,aE,aF,aC,aG,.slice q' m c2'])∧w''.ownsRow w' TI 1 (.slice p' n cap') n (ivs xs)∧w''.ownsRow w' TV 4 (.slice q' m c2') m (vs.flatMap aD)∧Ext w' w'')
  (HF:xC 105 #[.agg #[aA,aB,.slice p n q,c,d,aE,aF,aC,aG,.slice (some ⟨b,h,none⟩) m c2],id] w fun w' e w''=>e= .returned (I k)∧Ext w' w'')
  (HP:Hid (∀w',U 139 #[aV c d aE aF,cF a1 a2 a3,aC,amt] w' (Z (.tuple #[cF S1 S2 S3,bk,.bool r]) w'))):
  U 103 #[.agg #[aA,aB,.slice p n q,c,d,aE,aF,aC,aG,.slice (some ⟨b,h,none⟩) m c2],id,amt] w fun e w'=>(∃p' cap' q' c2' b,e= .returned (.tuple #[.agg #[aA,aB,.slice p' n cap',c,d,aE,aF,aC,aG,.slice q' m c2'],b,.bool false])∧ ¬(r=true∧aG+amt-bk≤99999)∧Ext w w')∨
   (r=true∧aG+amt-bk≤99999∧ ∃p' cap' q' c2',e= .returned (.tuple #[.agg #[aA,aB,.slice p' n cap',c,d,aE,aF,aC,(aG+amt-bk:Int),.slice q' m c2'],bk,.bool true])∧w'.ownsRow w TI 1 (.slice p' n cap') n (ivs xs)∧w'.ownsRow w TV 4 (.slice q' m c2') m ((vs.set k (a0,S1,S2,S3)).flatMap aD)∧Ext w w'):=by
 go_enter func103,ntmps103;go_wp2_with fail;refine(HL _ (((Mem.start w).c0 aN #[aA,aB,.slice p n q,c,d,aE,aF,aC,aG,.slice (some ⟨b,h,none⟩) m c2]).c1 aN zT).ext).mono ?_;rintro e w1 ⟨p1,f,q1,g,rfl,bm,bo,bq⟩;have M1:=((((Mem.start w).c0 aN #[aA,aB,.slice p n q,c,d,aE,aF,aC,aG,.slice (some ⟨b,h,none⟩) m c2]).c1 aN zT).own2 bq bm bo (aT2 _) (by decide))
 have bb:=M1.hi 3;clear bq bm bo HL;obtain⟨aw,ax,ay,az,a4,a5,a6,a7,a8,a9⟩:=(M1.bk 3).ten;go_wp2_with fail;clear aw ax ay az a4 a5 a6 a7 a8 a9;refine Ω (HF _ (M1.c0 aN #[aA,aB,.slice p1 n f,c,d,aE,aF,aC,aG,.slice q1 m g]).ext) fun w2 br=>?_
 have M2:=((M1.c0 aN #[aA,aB,.slice p1 n f,c,d,aE,aF,aC,aG,.slice q1 m g]).adv br)
 clear M1 bb br HF;have bc:=M2.hi 3;obtain⟨aw,ax,ay,az,a4,a5,a6,a7,a8,a9⟩:=(M2.bk 4).ten;have af:=M2.ext;have bd:w2.cell? ⟨b,h+k*4+1,none⟩=some (I a1):=(af.cells.1 _ _ hb).trans g1;have be:w2.cell? ⟨b,h+k*4+2,none⟩=some (I a2):=(af.cells.1 _ _ hb).trans g2;have bf:w2.cell? ⟨b,h+k*4+3,none⟩=some (I a3):=(af.cells.1 _ _ hb).trans g3;have ah:b<w2:=aT1 hb af.sz;clear af;have i1:(0:Int)≤(k:Int):=by omega
 have i2:(k:Int)<(m:Int):=by omega
 have n2: ¬(w2.heap.size=w.heap.size):=by omega
 have n4: ¬(w2.heap.size=b):=by omega
 go_upto_region 5 with fail;go_cut [11,12,13] (fun s11 s12 s13 wx=> ∃a:Nat,s11= .pointer (some ⟨a,0,none⟩)∧s12=I bk∧s13= .bool r∧Ext w2 wx∧w2.heap.size≤a∧Blk wx a TS3 #[S1,S2,S3])
 case first=>
  go_region_held3 (fun w'=>w'.cell? ⟨w,3,none⟩=some (I c)∧w'.cell? ⟨w,4,none⟩=some (I d)∧w'.cell? ⟨w,5,none⟩=some (I aE)∧w'.cell? ⟨w,6,none⟩=some (I aF)∧w'.cell? ⟨w,7,none⟩=some (I aC)∧w'.cell? ⟨w,9,none⟩=some (.slice (some ⟨b,h,none⟩) m c2)∧w'.cell? ⟨b,h+k*4+1,none⟩=some (I a1)∧w'.cell? ⟨b,h+k*4+2,none⟩=some (I a2)∧w'.cell? ⟨b,h+k*4+3,none⟩=some (I a3))
   (first|(refine⟨?_,?_,?_,?_,?_,?_,?_,?_,?_⟩<;>assumption)|go_keep)
   ((go_at_call 139
     refine Ω (HP _) fun w5 bs=>?_
     have j:Ext w2 w5:=xE;have ci:=((M2.bk 4).ext j).cl 3;have cj:=((M2.bk 4).ext j).cl 4;have ck:=((M2.bk 4).ext j).cl 5;have cm:=((M2.bk 4).ext j).cl 6;have cn:=((M2.bk 4).ext j).cl 7;have co:=((M2.bk 4).ext j).cl 9;have cp:w5.cell? ⟨b,h+k*4+1,none⟩=some (I a1):=(j.cells.1 _ _ ah).trans bd;have cq:w5.cell? ⟨b,h+k*4+2,none⟩=some (I a2):=(j.cells.1 _ _ ah).trans be;have cr:w5.cell? ⟨b,h+k*4+3,none⟩=some (I a3):=(j.cells.1 _ _ ah).trans bf
     first
      |(have ba:Ext (w2.alloc (.cells #[(),(),()] TS3)) w5:=bs
        have BB:=(Blk.new w2 TS3 #[(),(),()]).ext ba;have cb:=BB.cl 0;have ce:=BB.frozen 0;have cc:=BB.cl 1;have cf:=BB.frozen 1;have cd:=BB.cl 2
        have cg:w5.frozen? ⟨w2,2,none⟩=false:=BB.frozen 2)
      |(have ba:Ext (w2.alloc (.cells #[(),(),()] TS3)) w5:=bs.of_drew
        have BB:=(Blk.new w2 TS3 #[(),(),()]).ext ba;have cb:=BB.cl 0;have ce:=BB.frozen 0;have cc:=BB.cl 1;have cf:=BB.frozen 1;have cd:=BB.cl 2
        have cg:w5.frozen? ⟨w2,2,none⟩=false:=BB.frozen 2)
      |skip))
  ·go_wp2_with fail;go_meet;exact⟨w5.heap.size,rfl,rfl,rfl,by exact .alloc j _,by have:=j.sz;omega,Blk.new _ _ _⟩
  have hR:ExtR w2 w5 _:=(((ExtR.refl w2 w5).setCell (p:=⟨w2,0,none⟩) (.inl rfl) (I S1)).setCell (p:=⟨w2,1,none⟩) (.inl rfl) (I S2)).setCell (p:=⟨w2,2,none⟩) (.inl rfl) (I S3);have hY:=((BB.set 0 (I S1)).set 1 (I S2)).set 2 (I S3);simp only[aTh,aTe,aTf]at hY;go_wp2_with fail;go_meet;exact⟨w2.heap.size,rfl,rfl,rfl,ExtR.new j hR (aT2 _),aT2 _,hY⟩
 case rest=>
  clear aw ax ay az a4 a5 a6 a7 a8 a9 bd be bf ah HP n2 n4;obtain⟨a,rfl,rfl,rfl,bh,ha,bg⟩:=hcut;have M3:=(M2.blkOf bh bg ha)
  clear M2 bc bh ha bg;cases r with
  |false=>
   have ag:Hid (¬(false=true∧aG+amt-bk≤99999)):=by show¬_;simp
   obtain⟨d0,d1,d2,d3,d4,d5,d6,d7,d8,d9⟩:=(M3.bk 1).ten;obtain⟨f0,s,f1,t,f2,u,f3,x,f4,y,f5,z,f6,aa,f7,ab,f8,ad,f9,ae⟩:=(M3.bk 4).tenf;go_wp2;clear d0 d1 d2 d3 d4 d5 d6 d7 d8 d9 f0 s f1 t f2 u f3 x f4 y f5 z f6 aa f7 ab f8 ad f9 ae;have M4:=(M3.put10 (i:=4) rfl (I aA) (I aB) (.slice p1 n f) (I c) (I d) (I aE) (I aF) (I aC) (I aG) (.slice q1 m g))
   generalize o:World.setCell _ _ _=wz;rw[o]at M4;clear o M3;obtain⟨y0,y1,y2,y3,y4,y5,y6,y7,y8,y9⟩:=(M4.bk 4).ten;exact bodyPost_ret (v:= .tuple #[.agg #[aA,aB,.slice p1 n f,c,d,aE,aF,aC,aG,.slice q1 m g],amt,.bool false]) (by simp[results,results103,go_sem, *]) rfl (by first|exact .inl ⟨p1,f,q1,g,amt,rfl,ag.out,M4.ext⟩|(have l:=ag.out;simp at l;first|exact .inl ⟨p1,f,q1,g,amt,rfl,l,M4.ext⟩|exact .inl ⟨p1,f,q1,g,amt,rfl,by omega,M4.ext⟩|exact .inl ⟨⟨p1,f,q1,g,amt,rfl⟩,l,M4.ext⟩|exact .inl ⟨⟨p1,f,q1,g,amt,rfl⟩,by omega,M4.ext⟩|exact .inl ⟨⟨p1,f,q1,g,amt,rfl⟩,M4.ext⟩|exact⟨⟨p1,f,q1,g,amt,rfl⟩,M4.ext⟩))
  |true=>
   obtain⟨o1,o2,o3⟩:=b5 rfl;have k1:IntKind.i64.wrap (aG+amt)=aG+amt:=aT5 _ (by omega);have k2:IntKind.i64.wrap (aG+amt-bk)=aG+amt-bk:=aT5 _ (by omega);have h8:=(M3.bk 5).cl 8;by_cases hq:aG+amt-bk≤99999
   ·have hd:decide (99999<aG+amt-bk)=false:=by simp;omega
    have bp:=xQ hq;clear hq;obtain⟨gq,rfl,bj,bl⟩:=M3.so 3;obtain⟨b9,o9,x0,x1,x2,x3,e9,b6,_,y0,y1,y2,y3⟩:=gQ (M3.sq 3) hk;injection e9 with e9;injection e9 with e9 e8;subst e9 e8;simp only[aU2]at y1 y2 y3;clear b6 y0 bj;obtain⟨d0,bu,d1,bv,d2,bw,d3,bx,d4,bz,d5,b0,d6,b1,d7,b2,d8,b3,d9,b4⟩:=(M3.bk 1).tenf;obtain⟨f0,s,f1,t,f2,u,f3,x,f4,y,f5,z,f6,aa,f7,ab,f8,ad,f9,ae⟩:=(M3.bk 4).tenf;obtain⟨b7,b8,ca⟩:=(M3.bk 0).tri;have z1:wc.frozen? ⟨gq,k*4+1,none⟩=false:=(M3.ow 3).frozenAt (k*4+1);have z2:wc.frozen? ⟨gq,k*4+2,none⟩=false:=(M3.ow 3).frozenAt (k*4+2);have z3:wc.frozen? ⟨gq,k*4+3,none⟩=false:=(M3.ow 3).frozenAt (k*4+3);obtain⟨ai,aj⟩:=M3.nq 1 4;obtain⟨ak,al⟩:=M3.nq 0 4;obtain⟨am,an⟩:=M3.nq 3 4;obtain⟨ao,ap⟩:=M3.nq 0 1;obtain⟨aq,ar⟩:=M3.nq 1 3;obtain⟨au,av⟩:=M3.nq 0 3;have M4:=(show Mem w (((wc.setCell ⟨gq,k*4+1,none⟩ (I S1)).setCell ⟨gq,k*4+2,none⟩ (I S2)).setCell ⟨gq,k*4+3,none⟩ (I S3)) [aI w (a) TS3 #[S1,S2,S3],aI w w1 aN #[aA,aB,.slice p1 n f,c,d,aE,aF,aC,aG,.slice (some ⟨gq,0,none⟩) m g],aJ w TI 1 (p1) (n) (f) (ivs xs),aJ w TV 4 (some ⟨gq,0,none⟩) (m) (g) ((((vs.flatMap aD).set (k*4+1) (I S1)).set (k*4+2) (I S2)).set (k*4+3) (I S3)),aI w (w.heap.size+1) aN #[(),(),((),()),(),(),(),(),(),(),((),())],aI w w aN #[aA,aB,.slice p n q,c,d,aE,aF,aC,aG,.slice (some ⟨b,h,none⟩) m c2]]from(((M3.ostore (i:=3) rfl (k*4+1) (I S1)).ostore (i:=3) rfl (k*4+2) (I S2)).ostore (i:=3) rfl (k*4+3) (I S3)))
    have M5:=(M4.st 1 8 (I (aG+amt-bk)))
    have bi:Hid ((((vs.flatMap aD).set (k*4+1) (I S1)).set (k*4+2) (I S2)).set (k*4+3) (I S3)=(vs.set k (a0,S1,S2,S3)).flatMap aD):=aC9 bt S1 S2 S3;go_wp2;clear d0 bu d1 bv d2 bw d3 bx d4 bz d5 b0 d6 b1 d7 b2 d8 b3 d9 b4 f0 s f1 t f2 u f3 x f4 y f5 z f6 aa f7 ab f8 ad f9 ae b7 b8 ca z1 z2 z3 ai aj ak al am an ao ap aq ar au av y1 y2 y3 bl h8;have M6:=(M5.put10 (i:=4) rfl (I aA) (I aB) (.slice p1 n f) (I c) (I d) (I aE) (I aF) (I aC) (I (aG+amt-bk)) (.slice (some ⟨gq,0,none⟩) m g))
    generalize o:World.setCell _ _ _=wz;rw[o]at M6;clear o M3 M4 M5;obtain⟨y0,y1,y2,y3,y4,y5,y6,y7,y8,y9⟩:=(M6.bk 4).ten;exact bodyPost_ret (v:= .tuple #[.agg #[aA,aB,.slice p1 n f,c,d,aE,aF,aC,(aG+amt-bk:Int),.slice (some ⟨gq,0,none⟩) m g],bk,.bool true]) (by simp[results,results103,go_sem, *]) rfl (by first|exact .inr ⟨rfl,bp.out,p1,f,some ⟨gq,0,none⟩,g,rfl,(M6.ow 2),by rw[←bi.out];exact(M6.ow 3),M6.ext⟩|exact .inr ⟨bp.out,p1,f,some ⟨gq,0,none⟩,g,rfl,(M6.ow 2),by rw[←bi.out];exact(M6.ow 3),M6.ext⟩)
   have ag:Hid (¬(true=true∧aG+amt-bk≤99999)):=by show¬_;simp[hq]
   have hd:decide (99999<aG+amt-bk)=true:=by simp;omega
   obtain⟨d0,d1,d2,d3,d4,d5,d6,d7,d8,d9⟩:=(M3.bk 1).ten;obtain⟨f0,s,f1,t,f2,u,f3,x,f4,y,f5,z,f6,aa,f7,ab,f8,ad,f9,ae⟩:=(M3.bk 4).tenf;go_wp2;clear d0 d1 d2 d3 d4 d5 d6 d7 d8 d9 f0 s f1 t f2 u f3 x f4 y f5 z f6 aa f7 ab f8 ad f9 ae;have M4:=(M3.put10 (i:=4) rfl (I aA) (I aB) (.slice p1 n f) (I c) (I d) (I aE) (I aF) (I aC) (I aG) (.slice q1 m g))
   generalize o:World.setCell _ _ _=wz;rw[o]at M4;clear o M3;obtain⟨y0,y1,y2,y3,y4,y5,y6,y7,y8,y9⟩:=(M4.bk 4).ten;exact bodyPost_ret (v:= .tuple #[.agg #[aA,aB,.slice p1 n f,c,d,aE,aF,aC,aG,.slice q1 m g],amt,.bool false]) (by simp[results,results103,go_sem, *]) rfl (by first|exact .inl ⟨p1,f,q1,g,amt,rfl,ag.out,M4.ext⟩|(have l:=ag.out;simp at l;first|exact .inl ⟨p1,f,q1,g,amt,rfl,l,M4.ext⟩|exact .inl ⟨p1,f,q1,g,amt,rfl,by omega,M4.ext⟩|exact .inl ⟨⟨p1,f,q1,g,amt,rfl⟩,l,M4.ext⟩|exact .inl ⟨⟨p1,f,q1,g,amt,rfl⟩,by omega,M4.ext⟩|exact .inl ⟨⟨p1,f,q1,g,amt,rfl⟩,M4.ext⟩|exact⟨⟨p1,f,q1,g,amt,rfl⟩,M4.ext⟩))
theorem Mem.st4 {P:Program}{f:FuncId}{s:Array Value}{w0 w:World}{L:List Item}{F:OA→Nat→OA→Nat→Value}{t1 t2:TypeId}{n1 s1 n2 s2:Nat}{xs ys:List Value}{K:Ending→World→Prop}(M:Mem w0 w L)(H:Mem w0 w L→Calls P f s w fun e w'=> ∃p c q d,e= .returned (F p c q d)∧w'.ownsRow w t1 s1 (.slice p n1 c) n1 xs∧w'.ownsRow w t2 s2 (.slice q n2 d) n2 ys∧Ext w w')(k: ∀w' p c q d,Mem w0 w' (aJ w0 t1 s1 p n1 c xs::aJ w0 t2 s2 q n2 d ys::L)→K (.returned (F p c q d)) w')(a:t1≠t2:=by decide):Calls P f s w K:=(H M).mono (by rintro e w' ⟨p,c,q,d,rfl,ho,hv,hx⟩;exact k w' p c q d (M.own2 hx ho hv (aT2 _) a))
end
theorem aE4 {f s p c i pd a now amt:Int}(hD:0≤cT f s p c i pd a now)(h:(jG f s p c i pd a now amt).2.2=true):0≤(jG f s p c i pd a now amt).2.1∧(jG f s p c i pd a now amt).2.1≤amt∧amt≤300:=by
 unfold jG at h⊢;split at h
 ·rename_i h1;rw[if_pos h1];split at h
  ·cases h
  rename_i h2;rw[if_neg h2];dsimp only;omega
 cases h
def tX (h:aS)(id amt:Int):Option (aS×Int):=
 match iA id h.vs with
 |none=>none
 |some v=>if(jG h.free h.step h.aE h.aF v.2.1 v.2.2.1 v.2.2.2 h.aC amt).2.2=true∧h.aG+amt-(jG h.free h.step h.aE h.aF v.2.1 v.2.2.1 v.2.2.2 h.aC amt).2.1≤99999 then
   some ({h with aG:=h.aG+amt-(jG h.free h.step h.aE h.aF v.2.1 v.2.2.1 v.2.2.2 h.aC amt).2.1,vs:=h.vs.set (vix id h.vs).toNat (id,(jG h.free h.step h.aE h.aF v.2.1 v.2.2.1 v.2.2.2 h.aC amt).1)},(jG h.free h.step h.aE h.aF v.2.1 v.2.2.1 v.2.2.2 h.aC amt).2.1)
  else none
def aQi (h:aS)(r:Option (aS×Int))(w:World)(e:Ending)(w':World):Prop:=
 match r with
 |none=> ∃p cap q c2 b,e= .returned (.tuple #[cY h p h.cells.length cap q h.vs.length c2,b,.bool false])∧Ext w w'
 |some (h',b)=> ∃p cap q c2,e= .returned (.tuple #[cY h' p h'.cells.length cap q h'.vs.length c2,b,.bool true])∧w'.ownsRow w.heap.size TI 1 (.slice p h'.cells.length cap) h'.cells.length (ivs h'.cells)∧w'.ownsRow w.heap.size TV 4 (.slice q h'.vs.length c2) h'.vs.length (h'.vs.flatMap aD)∧Ext w w'
theorem aM7 (h:aS)(id amt:Int)(p:OA)(n c:Nat)(q:OA)(m c2:Nat)(w:World)(hn:n≤1000)(hm:m≤1000)(hi:IsHouse w h p n c q m c2)
  (ht:bV h.free h.step h.aE h.aF=true)(o: ∀v∈h.vs,dP v.2.1 v.2.2.1 v.2.2.2=true∧v.2.2.2≤h.aC)(hc:h.aC≤9999)(i:0≤h.aG)(hb:h.aG≤99999):
  U 103 #[cY h p n c q m c2,id,amt] w (aQi h (tX h id amt) w):=by
 have hl:=hi.clen;have l:=hi.vlen;have HL:=fun(w':World) (hx:Ext w w')=>uA h p n c q m c2 w' hn hm (hi.ext hx)
 have HF:=fun(w':World) (hx:Ext w w')=>tZ h.aA h.aB h.free h.step h.aE h.aF h.aC h.aG id p n c q m c2 h.vs w' (hi.vs.ext hx)
 unfold RetHouse at HL;subst hl l;rcases oN id h.vs with⟨h1,h2⟩|⟨k,a1,a2,a3,hk,h1,hx,h2⟩
 ·rw[h1]at HF;have hr:tX h id amt=none:=by unfold tX;rw[h2]
  rw[hr];refine(aDp h.aA h.aB h.free h.step h.aE h.aF h.aC h.aG id amt p _ c q _ c2 h.cells h.vs w HL HF).mono ?_;rintro e w' ⟨p',a,q',d,b,rfl,hE⟩;exact⟨p',a,q',d,b,rfl,hE⟩
 rw[h1]at HF;obtain⟨b,s,x0,x1,x2,x3,rfl,f,j,_,g1,g2,g3⟩:=gQ hi.vs hk;rw[hx]at f;injection f with f;simp only[aUk]at f;obtain⟨_,rfl,rfl,rfl⟩:=f;obtain⟨s1,s2⟩:=o _ (aT4 hx);dsimp only at s1 s2;have hD:=(nF ht s1 s2 hc).1;have HP:=fun(w':World)=>aGa h.free h.step h.aE h.aF a1 a2 a3 h.aC amt w' ht s1 s2 hc
 have g:=aE4 (amt:=amt) hD;have hr:tX h id amt=if(jG h.free h.step h.aE h.aF a1 a2 a3 h.aC amt).2.2=true∧h.aG+amt-(jG h.free h.step h.aE h.aF a1 a2 a3 h.aC amt).2.1≤99999 then some ({h with aG:=h.aG+amt-(jG h.free h.step h.aE h.aF a1 a2 a3 h.aC amt).2.1,vs:=h.vs.set k (id,(jG h.free h.step h.aE h.aF a1 a2 a3 h.aC amt).1)},(jG h.free h.step h.aE h.aF a1 a2 a3 h.aC amt).2.1)else none:=by unfold tX;rw[h2,h1];rfl
 rw[hr];generalize jG h.free h.step h.aE h.aF a1 a2 a3 h.aC amt=r at*;obtain⟨⟨S1,S2,S3⟩,bk,t⟩:=r;dsimp only at HP g⊢;refine(aLd h.aA h.aB h.free h.step h.aE h.aF h.aC h.aG id amt p _ c b s _ c2 k h.cells h.vs id a1 a2 a3 S1 S2 S3 bk t w hk hm j i hb g hx g1 g2 g3 HL HF HP).mono ?_;rintro e w' (⟨p',a,q',d,b',rfl,hno,hE⟩|⟨rfl,hle,p',a,q',d,rfl,ho1,ho2,hE⟩)
 ·rw[if_neg hno];exact⟨p',a,q',d,b',rfl,hE⟩
 rw[if_pos ⟨rfl,hle⟩];refine⟨p',a,q',d,?_,ho1,?_,hE⟩
 ·simp[cY]
 simpa using ho2
end Go.Proofs.YtbgkcehffiogcabGreatDoor
