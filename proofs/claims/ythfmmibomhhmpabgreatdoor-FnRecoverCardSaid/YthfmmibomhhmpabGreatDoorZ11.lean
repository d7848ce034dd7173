/- Lemmas (@packed). -/
import Derived.Test.YthfmmibomhhmpabGreatDoorZ10
namespace Go.Proofs.YthfmmibomhhmpabGreatDoor
open Go.RowKit Go.Proofs.Tryz
set_option linter.all false
set_option maxHeartbeats 8000000
set_option maxRecDepth 100000
variable{xs zs:List Int}{k:Nat}(h:aQ)(i pd aA aB a now f s b aE aF aD:Int)(v:aV)(aG id:Int)(p:OA)(n d c:Nat)(q:OA)(m c2:Nat)(vs:List aV)(w:World)(a1 a2 a3:Int)(D:Bool)
abbrev aN:TypeId:=32
theorem zF:ElT prog 30 TV 4:=
 ⟨underlying30,by
  obtain⟨i,hi,h0,h1,h2⟩:=info_parts (show(prog.info? TV).map (fun i=>(i.zero,i.size,i.bytes))=some (some (.agg #[(),(),(),()]),4,32) by kernel_rfl)
  exact⟨i,_,hi,h0,h1,by omega,rfl⟩,by omega⟩
theorem gE (vs:List aV): ∀u∈vs.flatMap aC,u.oneCell'=true:=by intro u hu;obtain⟨v,_,hv⟩:=List.mem_flatMap.1 hu;simp only[aC,aWd,List.not_mem_nil,or_false]at hv;rcases hv with rfl|rfl|rfl|rfl<;>rfl
theorem tP (v:aV): ∀u∈aC v,u.oneCell'=true:=by intro u hu;simp only[aC,aWd,List.not_mem_nil,or_false]at hu;rcases hu with rfl|rfl|rfl|rfl<;>rfl
theorem aQk (f:Nat)(q:OA)(m c2:Nat)(xs:List Int)(vs:List aV)(w:World)(hm:m≤1000)(hS:Hid (Sl w q m c2 4 (vs.flatMap aC)))(HL:xC 87 #[aH aA aB p n f] w fun w' e w''=> ∃q c,e= .returned (aH aA aB q n c)∧w''.ownsRow w' TI 1 (.slice q n c) n (ivs xs)∧Ext w' w''):
  U 49 #[.agg #[aA,aB,.slice p n f,a,b,aE,aF,aD,aG,.slice q m c2]] w (aYz w n (ivs xs) m (vs.flatMap aC) w fun p' cap' q' c2'=> .agg #[aA,aB,.slice p' n cap',a,b,aE,aF,aD,aG,.slice q' m c2']):=by
 go_enter func49,ntmps49;go_wp2_with fail;refine(HL _ (Mem.b3 w).ext).mono ?_;rintro e w1 ⟨q0,c0,rfl,z,ab⟩;have M1:=((Mem.b3 w).call ab z)
 have k:=M1.hi 1;have l:=M1.hi 2;have o:=M1.hi 3;clear ab z;have c9:=(M1.bk 3).cl 9;have d0:=(M1.bk 1).cl 0;have ae:=(M1.bk 1).frozen 0;have d1:=(M1.bk 1).cl 1;have af:=(M1.bk 1).frozen 1;have d2:=(M1.bk 1).cl 2;have ag:=(M1.bk 1).frozen 2;go_wp2_with (at_builtin;refine dN zF rfl _ _ rfl ((((M1.store (i:=1) rfl 0 (I aA)).store (i:=1) rfl 1 (I aB)).store (i:=1) rfl 2 (.slice q0 n c0)).made0 TV 4 w1 (by simp)) 0 rfl rfl (vs.flatMap aC) rfl (hS.out.ext ((((M1.store (i:=1) rfl 0 (I aA)).store (i:=1) rfl 1 (I aB)).store (i:=1) rfl 2 (.slice q0 n c0)).made0 TV 4 w1 (by simp)).ext) (gE vs) (by omega) ?_;intro q7 c7 w6 y;have M6:=xQ (show Mem w w6 [aJ w TV 4 (q7) (m) (c7) (vs.flatMap aC),aJ w TI 1 (q0) (n) (c0) (ivs xs),aI w (w.heap.size+1+1) aN #[aA,aB,.slice q0 n c0,a,b,aE,aF,aD,aG,.slice q m c2],aI w (w.heap.size+1) aN #[(),(),((),()),(),(),(),(),(),(),((),())],aI w w aN #[aA,aB,.slice p n f,a,b,aE,aF,aD,aG,.slice q m c2]]from by have:=(show Mem w w6 [aJ w TV 4 (q7) (0+m) (c7) ([]++vs.flatMap aC),aJ w TI 1 (q0) (n) (c0) (ivs xs),aI w (w.heap.size+1+1) aN #[aA,aB,.slice q0 n c0,a,b,aE,aF,aD,aG,.slice q m c2],aI w (w.heap.size+1) aN #[(),(),((),()),(),(),(),(),(),(),((),())],aI w w aN #[aA,aB,.slice p n f,a,b,aE,aF,aD,aG,.slice q m c2]]from y);simpa only[aWz,aXz]using this);clear y c9 d0 ae d1 af d2 ag M1 k l o;(have g:w.heap.size+1+1<w6.heap.size:=(M6.out.hi 2));(have h:w.heap.size+1<w6.heap.size:=(M6.out.hi 3));(have j:(w:Nat)<w6:=(M6.out.hi 4));(obtain⟨x0,x1,x2,x3,x4,x5,x6,x7,x8,x9⟩:=(M6.out.bk 2).ten);(have ah:w6.cell? ⟨w.heap.size+1+1,9,none⟩=some (.slice q m c2):=(M6.out.bk 2).cell 9);(have ad:w6.frozen? ⟨w.heap.size+1+1,9,none⟩=false:=(M6.out.bk 2).frozen 9);(obtain⟨y0,yf0,y1,yf1,y2,yf2,y3,yf3,y4,yf4,y5,yf5,y6,yf6,y7,yf7,y8,yf8,y9,yf9⟩:=(M6.out.bk 3).tenf))
 have r:=(((M6.out.st 2 9 (.slice q7 m c7)).st 3 0 (I aA)).st 3 1 (I aB))
 have s:=((r.st 3 2 (.slice q0 n c0)).st 3 3 (I a))
 have t:=((s.st 3 4 (I b)).st 3 5 (I aE))
 have u:=((t.st 3 6 (I aF)).st 3 7 (I aD))
 have x:=((u.st 3 8 (I aG)).st 3 9 (.slice q7 m c7))
 clear x0 x1 x2 x3 x4 x5 x6 x7 x8 x9 ah ad y0 yf0 y1 yf1 y2 yf2 y3 yf3 y4 yf4 y5 yf5 y6 yf6 y7 yf7 y8 yf8 y9 yf9 g h j;have d:=(show Mem w (((((((((((w6.setCell ⟨w.heap.size+1+1,9,none⟩ (.slice q7 m c7)).setCell ⟨w.heap.size+1,0,none⟩ (I aA)).setCell ⟨w.heap.size+1,1,none⟩ (I aB)).setCell ⟨w.heap.size+1,2,none⟩ (.slice q0 n c0)).setCell ⟨w.heap.size+1,3,none⟩ (I a)).setCell ⟨w.heap.size+1,4,none⟩ (I b)).setCell ⟨w.heap.size+1,5,none⟩ (I aE)).setCell ⟨w.heap.size+1,6,none⟩ (I aF)).setCell ⟨w.heap.size+1,7,none⟩ (I aD)).setCell ⟨w.heap.size+1,8,none⟩ (I aG)).setCell ⟨w.heap.size+1,9,none⟩ (.slice q7 m c7)) [aJ w TV 4 (q7) (m) (c7) (vs.flatMap aC),aJ w TI 1 (q0) (n) (c0) (ivs xs),aI w (w.heap.size+1+1) aN #[aA,aB,.slice q0 n c0,a,b,aE,aF,aD,aG,.slice q7 m c7],aI w (w.heap.size+1) aN #[aA,aB,.slice q0 n c0,a,b,aE,aF,aD,aG,.slice q7 m c7],aI w w aN #[aA,aB,.slice p n f,a,b,aE,aF,aD,aG,.slice q m c2]]from x)
 generalize aa:World.setCell _ _ _=wz;rw[aa]at d;clear aa M6 r s t u x;obtain⟨y0,y1,y2,y3,y4,y5,y6,y7,y8,y9⟩:=(d.bk 3).ten;exact aYw (v:= .agg #[aA,aB,.slice q0 n c0,a,b,aE,aF,aD,aG,.slice q7 m c7]) ⟨q0,c0,q7,c7,rfl,(d.ow 1),by have:=(d.ow 0);simpa using this,d.ext⟩
theorem vU (a:Nat)(q:OA)(m c2:Nat)(w:World)(hn:n≤1000)(hm:m≤1000)(hi:IsHouse w h p n a q m c2):
  U 49 #[bV h p n a q m c2] w (RetHouse h w):=by
 have hl:=hi.clen;have f:=hi.vlen;refine(aQk h.aA h.aB h.free h.step h.aE h.aF h.aD h.aG p n a q m c2 h.cells h.vs w hm (xQ hi.vs) (xQ fun w' hx=> ?_)).mono ?_
 ·refine(iY h.aA h.aB p n a h.cells w' (by omega) (hi.cells.ext hx)).mono ?_;rintro e i ⟨q,c,rfl,ho,g⟩;rw[hl]at ho⊢;exact⟨q,c,rfl,ho,g⟩
 rintro e w' ⟨p',b,q',d,rfl,h1,h2,h3⟩;subst hl f;exact⟨p',b,q',d,rfl,h1,h2,h3⟩
def nM (v:aV)(vs:List aV):List aV:=vs.takeWhile (fun u=>decide (u.1<v.1))++v::vs.dropWhile (fun u=>decide (u.1<v.1))
theorem wX (v:aV): ∀(vs:List aV) (k:Nat),(∀u∈vs.take k,u.1<v.1)→(∀u,vs[k]? =some u→ ¬u.1<v.1)→nM v vs=vs.take k++v::vs.drop k
 | [],k,_,_=>by simp[nM]
 |u::vs,0,_,h2=>by simp[nM,h2 u (by simp)]
 |u::vs,k+1,h1,h2=>by have h:=wX v vs k (fun z hz=>h1 z (by simp[hz])) (fun z hz=>h2 z (by simpa using hz));have hu:u.1<v.1:=h1 u (by simp);simp only[nM]at h⊢;simp[hu,h]
theorem nA: ∀(k:Nat) (vs:List aV),(vs.flatMap aC).drop (k*4)=(vs.drop k).flatMap aC
 |0,vs=>by simp
 |k+1,[]=>by simp
 |k+1,v::vs=>by rw[aXb,show(k+1)*4=(aC v).length+k*4 by simp[aC];omega,List.drop_length_add_append,nA k vs];rfl
theorem wR {w:World}{b c n a sz:Nat}{xs:List Value}(h:Sl w (some ⟨b,c,none⟩) n a sz xs)(hk:k≤n):Sl w (some ⟨b,c+k*sz,none⟩) (n-k) (a-k) sz (xs.drop (k*sz)):=by have hl:=h.len;have f:=h.le;have g:=h.mx;refine⟨by rw[aWt,hl,Nat.sub_mul],by omega,by omega,fun h0=> ?_⟩;obtain⟨b',d,e,hb,hc⟩:=h.rd (by omega);injection e with e;injection e with e1 e2;subst e1 e2;refine⟨_,_,rfl,hb,fun j hj=> ?_⟩;rw[Nat.add_assoc,hc (k*sz+j) (by rw[Nat.sub_mul]at hj;omega)];simp
theorem aOk (q:OA)(m c2:Nat)(vs:List aV)(w:World)(hm:m≤1000)(hS:Sl w q m c2 4 (vs.flatMap aC)):
  U 89 #[.slice q m c2,.agg #[id,a1,a2,a3]] w (aYy TV 4 (m+1) ((nM (id,a1,a2,a3) vs).flatMap aC) w fun q' c'=> .slice q' (m+1) c'):=by
 have hl:Hid (vs.length=m):=by have:=hS.len;rw[eC aC 4 (fun _=>rfl)]at this;exact(by omega:vs.length=m)
 have n:=hS.le;have HS:=xQ hS;clear hS;have j:=xQ (((Mem.start w).c0 TV #[id,a1,a2,a3]).made0 TV 4 (w.heap.size+1) (by simp));go_enter func89,ntmps89;go_wp2;go_loopw [5,6] (fun v i wr=> ∃(k:Nat) (q5:OA) (c5:Nat),k≤m∧i=I k∧v= .slice q5 k c5∧(∀u∈vs.take k,u.1<id)∧Mem w wr [aJ w TV 4 (q5) (k) (c5) ((vs.take k).flatMap aC),aI w w TV #[id,a1,a2,a3]]) (fun _ i _=>m-(intOf i).toNat)
 case atStart=>exact⟨0,some ⟨w.heap.size+1,0,none⟩,0,aW6 _,rfl,rfl,by simp,j.out⟩
 case round=>
  clear j;obtain⟨k,q5,c5,hk,rfl,rfl,f,hM⟩:=hrel;have HM:=hM;have HL:=xQ f;clear hM f;by_cases hlt:k<m
  ·obtain⟨b,p,c0,c1,c4,c3,rfl,hx,hb,g0,g1,g2,g3⟩:=iI (HS.out.ext HM.ext) hlt;have b0:=(HM.bk 1).cl 0;have b1:=(HM.bk 1).cl 1;have b2:=(HM.bk 1).cl 2;have b3:=(HM.bk 1).cl 3;have HX:=xQ hx;clear hx;have i1:=aYp k;have i2:=aYq k m;have i3:=aYr k m;by_cases hy:c0<id
   ·have c:Hid (∀z∈vs.take (k+1),z.1<id):=by
     show∀z∈vs.take (k+1),z.1<id;rw[aX HX.out];intro z hz;rcases aWh.1 hz with h|h
     ·exact HL z h
     simp at h;subst h;exact hy
    have hd:decide (c0<id)=true:=by simp[hy]
    go_wp2;go_quiet (fail);generalize d:World.drewN wr _=wi;have hX:Ext wr wi:=by rw[←d];exact Ext.drewN (Ext.refl _) _
    clear d b0 b1 b2 b3 hd;have a:=(HM.adv hX)
    clear HM;have d0:=(a.bk 1).cl 0;have d1:=(a.bk 1).cl 1;have d2:=(a.bk 1).cl 2;have d3:=(a.bk 1).cl 3;have e0:=(hX.cells.1 _ _ hb).trans g0;have e1:=(hX.cells.1 _ _ hb).trans g1;have e2:=(hX.cells.1 _ _ hb).trans g2;have e3:=(hX.cells.1 _ _ hb).trans g3;clear hX g0 g1 g2 g3 hb;go_wp2_with (at_builtin;go_loud (refine dN zF rfl _ _ rfl (a.adv ((Ext.refl _).alloc (.cells #[c0,c1,c4,c3] TV))) 0 rfl rfl (aC (c0,c1,c4,c3)) rfl (fC _ _ _ 1 4 _ (by simp) (by simp) (by simp[maxLen])) (tP _) (by omega) ?_;intro q7 c7 w6 M6));have M7:=(show Mem w w6 [aJ w TV 4 (q7) (k+1) (c7) ((vs.take k).flatMap aC++aC (c0,c1,c4,c3)),aI w w TV #[id,a1,a2,a3]]from M6)
    have g:Hid ((vs.take k).flatMap aC++aC (c0,c1,c4,c3)=(vs.take (k+1)).flatMap aC):=by show _=_;rw[aX HX.out,aX4];simp
    rw[g.out]at M7;clear g M6;go_roundw
    case rel=>exact⟨k+1,q7,c7,by omega,by go_num,rfl,c.out,M7⟩
    case measure=>simp[intOf];omega
   have c:Hid (nM (id,a1,a2,a3) vs=vs.take k++(id,a1,a2,a3)::vs.drop k):=wX _ vs k HL (fun z hz=>by rw[HX.out]at hz;injection hz with hz;subst hz;exact hy);have o: ¬c2=k:=by omega
   have hd:decide (c0<id)=false:=by simp[hy]
   clear HX HL;go_wp2;go_quiet (fail);generalize d:World.drewN wr _=wi;have hX:Ext wr wi:=by rw[←d];exact Ext.drewN (Ext.refl _) _
   clear d b0 b1 b2 b3 hd;have a:=(HM.adv hX)
   clear HM;have d0:=(a.bk 1).cl 0;have d1:=(a.bk 1).cl 1;have d2:=(a.bk 1).cl 2;have d3:=(a.bk 1).cl 3;clear hX g0 g1 g2 g3 hb hy;go_wp2
   go_region_law ((first
    |(refine jX zF (by rfl) _ _ (by rfl) (a.adv (by exact .drew (.alloc (.refl _) _))) 0 (by rfl) (by rfl) (aC (id,a1,a2,a3)) (by rfl) (by first|exact fC wi #[id,a1,a2,a3] _ 1 4 _ rfl (by simp) (by simp[maxLen])|exact(fC wi #[id,a1,a2,a3] _ 1 4 _ rfl (by simp) (by simp[maxLen])).ext (Ext.drew (Ext.refl _))|exact fC wi.drew #[id,a1,a2,a3] _ 1 4 _ rfl (by simp) (by simp[maxLen])) (tP _) (by omega) ?_
      intro q7 c7 w6 M6;have M7:=(show Mem w w6 [aJ w TV 4 (q7) (k+1) (c7) ((vs.take k).flatMap aC++aC (id,a1,a2,a3)),aI w w TV #[id,a1,a2,a3]]from M6)
      clear M6)
    |(refine jX zF (by rfl) _ _ (by rfl) (M7.adv (by exact .refl _)) 0 (by rfl) (by rfl) ((vs.drop k).flatMap aC) (by rfl) (nA k vs▸wR (HS.out.ext (M7.ext.trans (by exact .refl _))) (by omega)) (gE _) (by omega) ?_
      intro q9 c9 w9 M9
      have M9:=xQ (show Mem w w9 [aJ w TV 4 (q9) (k+1+(m-k)) (c9) (((vs.take k).flatMap aC++aC (id,a1,a2,a3))++(vs.drop k).flatMap aC),aI w w TV #[id,a1,a2,a3]]from M9))))
   all_goals (
    have e1:k+1+(m-k)=m+1:=by omega
    have e2:((vs.take k).flatMap aC++aC (id,a1,a2,a3))++(vs.drop k).flatMap aC=(vs.take k++(id,a1,a2,a3)::vs.drop k).flatMap aC:=by simp
    have MZ:=(show Mem w w9 [aJ w TV 4 (q9) (m+1) (c9) ((vs.take k++(id,a1,a2,a3)::vs.drop k).flatMap aC),aI w w TV #[id,a1,a2,a3]]from by have:=M9.out;rw[e2]at this;simpa only[e1]using this)
    clear e2 M9 M7)
   all_goals go_wp2
   all_goals exact aYw (v:= .slice q9 (m+1) c9) ⟨q9,c9,rfl,by rw[c.out];exact MZ.ow 0,MZ.ext⟩
  obtain rfl:k=m:=by omega
  have b0:=(HM.bk 1).cl 0;have b1:=(HM.bk 1).cl 1;have b2:=(HM.bk 1).cl 2;have b3:=(HM.bk 1).cl 3;have c:Hid (nM (id,a1,a2,a3) vs=vs.take k++(id,a1,a2,a3)::vs.drop k):=wX _ vs k HL (fun z hz=>by rw[aXg (by rw[hl.out];exact aVz _)]at hz;cases hz);have l:Hid (vs.drop k= []):=aXd (by rw[hl.out];exact aVz _);have i1:=aYp k;clear HL;go_wp2;go_quiet (fail);generalize d:World.drewN wr _=wi;have hX:Ext wr wi:=by rw[←d];exact Ext.drewN (Ext.refl _) _
  clear d b0 b1 b2 b3;have a:=(HM.adv hX)
  clear HM;have d0:=(a.bk 1).cl 0;have d1:=(a.bk 1).cl 1;have d2:=(a.bk 1).cl 2;have d3:=(a.bk 1).cl 3;clear hX;go_wp2
  go_region_law ((first
   |(refine jX zF (by rfl) _ _ (by rfl) (a.adv (by exact .drew (.alloc (.refl _) _))) 0 (by rfl) (by rfl) (aC (id,a1,a2,a3)) (by rfl) (by first|exact fC wi #[id,a1,a2,a3] _ 1 4 _ rfl (by simp) (by simp[maxLen])|exact(fC wi #[id,a1,a2,a3] _ 1 4 _ rfl (by simp) (by simp[maxLen])).ext (Ext.drew (Ext.refl _))|exact fC wi.drew #[id,a1,a2,a3] _ 1 4 _ rfl (by simp) (by simp[maxLen])) (tP _) (by omega) ?_
     intro q7 c7 w6 M6;have M7:=(show Mem w w6 [aJ w TV 4 (q7) (k+1) (c7) ((vs.take k).flatMap aC++aC (id,a1,a2,a3)),aI w w TV #[id,a1,a2,a3]]from M6)
     clear M6)
   |(refine jX zF (by rfl) _ _ (by rfl) (M7.adv (by exact .refl _)) 0 (by rfl) (by rfl) (([]:List aV).flatMap aC) (by rfl) (⟨by simp,aW6 _,by have:=HS.out.mx;omega,fun h=>absurd h (by omega)⟩) (gE _) (by omega) ?_
     intro q9 c9 w9 M9
     have M9:=xQ (show Mem w w9 [aJ w TV 4 (q9) (k+1+0) (c9) (((vs.take k).flatMap aC++aC (id,a1,a2,a3))++([]:List aV).flatMap aC),aI w w TV #[id,a1,a2,a3]]from M9))))
  all_goals (
   have e1:k+1+0=k+1:=by omega
   have e2:((vs.take k).flatMap aC++aC (id,a1,a2,a3))++([]:List aV).flatMap aC=(vs.take k++(id,a1,a2,a3)::vs.drop k).flatMap aC:=by simp[l.out]
   have MZ:=(show Mem w w9 [aJ w TV 4 (q9) (k+1) (c9) ((vs.take k++(id,a1,a2,a3)::vs.drop k).flatMap aC),aI w w TV #[id,a1,a2,a3]]from by have:=M9.out;rw[e2]at this;simpa only[e1]using this)
   clear e2 M9 M7)
  all_goals go_wp2
  all_goals exact aYw (v:= .slice q9 (k+1) c9) ⟨q9,c9,rfl,by rw[c.out];exact MZ.ow 0,MZ.ext⟩
def vix (id:Int)(vs:List aV):Int:=if vs.any (fun v=>v.1==id)then(vs.findIdx (fun v=>v.1==id):Int)else -1
theorem aMj {id:Int}{vs:List aV}{v:aV}(hv:vs[k]? =some v)(h:v.1=id)(hp:(vs.take k).any (fun v=>v.1==id)=false):vix id vs=k:=by
 have a:k<vs.length:=(aW3.1 hv).1;have e:vs[k]=v:=by have:=(aW3.1 hv).2;exact this
 have ha:vs.any (fun v=>v.1==id)=true:=List.any_eq_true.2 ⟨v,aW1 hv,by simp[h]⟩;have hi:vs.findIdx (fun v=>v.1==id)=k:=by rw[List.findIdx_eq a];refine⟨by simp[e,h],fun j hj=> ?_⟩;have:=List.any_eq_false.1 hp vs[j] (by rw[List.mem_take_iff_getElem];exact⟨j,by omega,rfl⟩);simpa using this
 unfold vix;rw[if_pos ha,hi]
theorem aAx {id:Int}{vs:List aV}(hp:vs.any (fun v=>v.1==id)=false):vix id vs= -1:=by unfold vix;simp[hp]
theorem aJq {id:Int}{vs:List aV}{v:aV}(hv:vs[k]? =some v)(h: ¬v.1=id)(hp:(vs.take k).any (fun v=>v.1==id)=false):(vs.take (k+1)).any (fun v=>v.1==id)=false:=by rw[aX hv,List.any_append,hp];simp[h]
theorem pS:(vix id vs= -1∧iS id vs=none)∨ ∃(k:Nat) (a1 a2 a3:Int),k<vs.length∧vix id vs=k∧vs[k]? =some (id,a1,a2,a3)∧iS id vs=some (id,a1,a2,a3):=by
 cases h:vs.any (fun v=>v.1==id)with
 |false=>exact .inl ⟨aAx h,by unfold iS;rw[List.find?_eq_none];simpa using h⟩
 |true=>
  right;have a:vs.findIdx (fun v=>v.1==id)<vs.length:=List.findIdx_lt_length.2 (by simpa using h);have hg:=List.findIdx_getElem (w:=a);have hf:iS id vs=some (vs[vs.findIdx (fun v=>v.1==id)]):=by unfold iS;rw[List.find?_eq_some_iff_getElem];exact⟨hg,_,a,rfl,fun j hj=>by simpa using List.not_of_lt_findIdx hj⟩
  have h0:vs[vs.findIdx (fun v=>v.1==id)].1=id:=by simpa using hg
  generalize hb:vs[vs.findIdx (fun v=>v.1==id)]=v at*;obtain⟨b0,b1,b2,b3⟩:=v;dsimp only at h0;subst h0;exact⟨_,b1,b2,b3,a,by unfold vix;rw[if_pos h],by rw[aW0 a,hb],hf⟩
theorem aDe (B:Nat)(q:OA)(m c2:Nat)(vs:List aV)(id:Int)(w:World)(hS:Sl w q m c2 4 (vs.flatMap aC))(hB:B<w.heap.size)(hc:w.cell? ⟨B,0,none⟩=some (I id)):
  U 151 #[.slice q m c2,.func (.func 152) #[] #[.pointer (some ⟨B,0,none⟩)]] w (Z (I (vix id vs)) w):=by
 have hn:=hS.bd;have HS:=xQ hS;have hl:Hid (vs.length=m):=by have:=hS.len;rw[eC aC 4 (fun _=>rfl)]at this;exact(by omega:vs.length=m)
 clear hS;go_enter func151,ntmps151;go_wp2;go_loopw [8] (fun i wr=> ∃k:Nat,k≤m∧i=I k∧(vs.take k).any (fun v=>v.1==id)=false∧Ext w wr∧w.heap.size≤wr.heap.size∧wr.cell? ⟨B,0,none⟩=some (I id)) (fun i _=>m-(intOf i).toNat)
 case atStart=>exact⟨0,aW6 _,rfl,by simp,by exact .refl _,by simp,by simpa using hc⟩
 case round=>
  obtain⟨k,hk,rfl,hp,hE,f,d⟩:=hrel;have HP:=xQ hp;clear hp;by_cases hlt:k<m
  ·obtain⟨b,g,a0,a1,a2,a3,rfl,hv,hb,g0,g1,g2,g3⟩:=iI (HS.out.ext hE) hlt;have HV:=xQ hv;clear hv;have c:(wr.alloc (.cells #[a0,a1,a2,a3] 62)).cell? ⟨B,0,none⟩=some (I id):=by rw[((Ext.refl wr).alloc _).cells.1 _ _ (by omega)];exact d
   by_cases t:a0=id
   ·have q0:(a0==id)=true:=by simp[t]
    have a:Hid (vix id vs=k):=aMj HV t HP.out;clear t;go_wp2_with go_in;go_ret;exact⟨by rw[a.out];rfl,by exact .alloc hE _⟩
   have q0:(a0==id)=false:=by simp[t]
   have a:Hid ((vs.take (k+1)).any (fun v=>v.1==id)=false):=aJq HV t HP.out;clear t;go_wp2_with go_in;go_roundw
   case rel=>exact⟨k+1,by omega,by go_num,a.out,by exact .alloc hE _,by simp;omega,c⟩
   case measure=>simp[intOf];omega
  have a:Hid (vix id vs= -1):=aAx (by have:=HP.out;rwa[aW4 (by rw[hl.out];omega)]at this);go_wp2;go_ret;exact⟨by rw[a.out];rfl,by exact hE⟩
theorem lJ (hS:Sl w q m c2 4 (vs.flatMap aC)):
  U 112 #[.agg #[aA,aB,.slice p n c,a,b,aE,aF,aD,aG,.slice q m c2],id] w (Z (I (vix id vs)) w):=by
 have HI:Hid (∀w1 B,Ext w w1→B<w1.heap.size→w1.cell? ⟨B,0,none⟩=some (I id)→U 151 #[.slice q m c2,.func (.func 152) #[] #[.pointer (some ⟨B,0,none⟩)]] w1 (Z (I (vix id vs)) w1)):=
  fun w1 B hx hB hc=>aDe B q m c2 vs id w1 (hS.ext hx) hB hc
 clear hS;go_enter func112,ntmps112;go_wp2_with fail;refine Ω (HI _ _ (by exact .alloc (.alloc (.refl _) _) _) (by simp) (by simp)) fun w1 h1=>?_
 go_wp2;go_ret;exact⟨rfl,by exact .trans (.alloc (.alloc (.refl _) _) _) h1⟩
theorem vT (c d aE aF aD aG id:Int)(p:OA)(n f:Nat)(q:OA)(m c2:Nat)(vs:List aV)(w:World)(hS:Sl w q m c2 4 (vs.flatMap aC)):
  U 92 #[.agg #[aA,aB,.slice p n f,c,d,aE,aF,aD,aG,.slice q m c2],id] w (Z (I (vix id vs)) w):=by
 have hn:=hS.bd;have HS:=xQ hS;have hl:Hid (vs.length=m):=by have:=hS.len;rw[eC aC 4 (fun _=>rfl)]at this;exact(by omega:vs.length=m)
 clear hS;go_enter func92,ntmps92;go_wp2;go_loop [5] (fun i=> ∃k:Nat,k≤m∧i=I k∧(vs.take k).any (fun v=>v.1==id)=false) (fun i=>m-(intOf i).toNat)
 case atStart=>exact⟨0,aW6 _,rfl,by simp⟩
 case round=>
  obtain⟨k,hk,rfl,hp⟩:=hrel;have HP:=xQ hp;clear hp;by_cases hlt:k<m
  ·obtain⟨b,g,a0,a1,a2,a3,rfl,hv,hb,g0,g1,g2,g3⟩:=iI HS hlt;have HV:=xQ hv;clear hv;by_cases t:a0=id
   ·have q0:(a0==id)=true:=by simp[t]
    have a:Hid (vix id vs=k):=aMj HV t HP.out;clear t;go_wp2;go_ret;exact⟨by rw[a.out];rfl,by exact .alloc (.refl _) _⟩
   have q0:(a0==id)=false:=by simp[t]
   have a:Hid ((vs.take (k+1)).any (fun v=>v.1==id)=false):=aJq HV t HP.out;clear t;go_wp2;go_round
   case rel=>exact⟨k+1,by omega,by go_num,a.out⟩
   case measure=>simp[intOf];omega
  have a:Hid (vix id vs= -1):=aAx (by have:=HP.out;rwa[aW4 (by rw[hl.out];omega)]at this);go_wp2;go_ret;exact⟨by rw[a.out];rfl,by exact .alloc (.refl _) _⟩
abbrev TT4:TypeId:=29
abbrev TS3:TypeId:=60
def kD (f s p c i pd a now amt:Int):(Int×Int×Int)×Int×Bool:=
 if 1≤amt∧amt≤300 then
  (if cY f s p c i pd a now=0 then((i,pd,a),amt,false)else((i,pd+min (cY f s p c i pd a now) amt,now),amt-min (cY f s p c i pd a now) amt,true))
 else((0,0,0),amt,false)
theorem oB {f s p c i pd a now:Int}(h:bP f s p c=true)(h2:dV i pd a=true)(h3:a≤now)(h4:now≤9999):0≤cY f s p c i pd a now∧cY f s p c i pd a now≤693:=by obtain⟨b1,b2,b3,b4,b5,b6⟩:=iT h2;have hb:=xU (m:=now-i) h (by omega) (by omega);unfold cY;rw[if_pos (by simp[h,h2,h3,h4])];omega
theorem aNr (p c amt D:Int)(w:World)(hD:0≤D)(j:D≤693)(k:0≤pd)(hp:pd≤9999)(HD:Hid (∀w,U 166 #[aR f s p c,cK i pd a,now] w (Z (I D) w)))(HI:Hid (∀w,U 32 #[amt,I 1,I 300] w fun e w'=>e= .returned (.bool false)∧w=w'))(ha:amt<1∨300<amt):
  U 125 #[aR f s p c,cK i pd a,now,amt] w (Z (.tuple #[cK 0 0 0,amt,.bool false]) w):=by
 go_enter func125,ntmps125;go_wp2_with fail;refine Ω (HD _) fun w1 b=>?_
 have M1:=((Mem.b3 w).adv b)
 clear b;go_wp2_with fail;refine(HI _).mono ?_;rintro e _ ⟨rfl,rfl⟩;have d_:=(M1.bk 0).tri;have d:=(M1.bk 0).frozen 0;have g:=(M1.bk 0).frozen 1;have h:=(M1.bk 0).frozen 2;clear HD HI;go_wp2;clear d_ d g h;have M2:=(((M1.st 0 0 (I 0)).st 0 1 (I 0)).st 0 2 (I 0))
 generalize World.setCell _ _ _=wz at M2⊢;clear M1;have y_:=(M2.bk 0).tri;exact aYw (v:= .tuple #[.agg #[(),(),()],amt,.bool false]) ⟨rfl,M2.ext⟩
theorem aHo (p c amt:Int)(w:World)(j:0≤pd)(hp:pd≤9999)(HD:Hid (∀w,U 166 #[aR f s p c,cK i pd a,now] w (Z (I 0) w)))(HI:Hid (∀w,U 32 #[amt,I 1,I 300] w fun e w'=>e= .returned (.bool true)∧w=w'))(ha:1≤amt)(hb:amt≤300):
  U 125 #[aR f s p c,cK i pd a,now,amt] w (Z (.tuple #[cK i pd a,amt,.bool false]) w):=by
 go_enter func125,ntmps125;go_wp2_with fail;refine Ω (HD _) fun w1 b=>?_
 have M1:=((Mem.b3 w).adv b)
 clear b;go_wp2_with fail;refine(HI _).mono ?_;rintro e _ ⟨rfl,rfl⟩;have c_:=(M1.bk 1).tri;have d_:=(M1.bk 0).tri;have d:=(M1.bk 0).frozen 0;have g:=(M1.bk 0).frozen 1;have h:=(M1.bk 0).frozen 2;clear HD HI;go_wp2;clear c_ d_ d g h;have M2:=(((M1.st 0 0 (I i)).st 0 1 (I pd)).st 0 2 (I a))
 generalize World.setCell _ _ _=wz at M2⊢;clear M1;have y_:=(M2.bk 0).tri;exact aYw (v:= .tuple #[.agg #[i,pd,a],amt,.bool false]) ⟨rfl,M2.ext⟩
theorem aK3 (p c amt D:Int)(w:World)(hD:0≤D)(k:D≤693)(m:0≤pd)(hp:pd≤9999)(HD:Hid (∀w,U 166 #[aR f s p c,cK i pd a,now] w (Z (I D) w)))(HI:Hid (∀w,U 32 #[amt,I 1,I 300] w fun e w'=>e= .returned (.bool true)∧w=w'))(ha:1≤amt)(hb:amt≤300)(j:1≤D):
  U 125 #[aR f s p c,cK i pd a,now,amt] w (Z (.tuple #[cK i (pd+min D amt) now,(amt-min D amt:Int),.bool true]) w):=by
 go_enter func125,ntmps125;go_wp2_with fail;refine Ω (HD _) fun w1 b=>?_
 have M1:=((Mem.b3 w).adv b)
 clear b;go_wp2_with fail;refine(HI _).mono ?_;rintro e _ ⟨rfl,rfl⟩;have c_:=(M1.bk 1).tri;have d_:=(M1.bk 0).tri;have d:=(M1.bk 0).frozen 0;have g:=(M1.bk 0).frozen 1;have h:=(M1.bk 0).frozen 2;clear HD HI;have k1:=aYs (pd+min D amt);have k2:=aYs (amt-min D amt);have l:(D==0)=false:=by simp;omega
 go_wp2;clear c_ d_ d g h;have M2:=(((M1.st 0 0 (I i)).st 0 1 (I (pd+min D amt))).st 0 2 (I now))
 generalize World.setCell _ _ _=wz at M2⊢;clear M1;have y_:=(M2.bk 0).tri;exact aYw (v:= .tuple #[.agg #[i,(pd+min D amt:Int),now],(amt-min D amt:Int),.bool true]) ⟨rfl,M2.ext⟩
theorem aI5 (p c i pd a now amt:Int)(w:World)(h:bP f s p c=true)(h2:dV i pd a=true)(h3:a≤now)(h4:now≤9999):
  U 125 #[aR f s p c,cK i pd a,now,amt] w (Z (.tuple #[cK (kD f s p c i pd a now amt).1.1 (kD f s p c i pd a now amt).1.2.1 (kD f s p c i pd a now amt).1.2.2,I (kD f s p c i pd a now amt).2.1,.bool (kD f s p c i pd a now amt).2.2]) w):=by
 obtain⟨b1,b2,b3,b4,b5,b6⟩:=iT h2;obtain⟨e1,e2⟩:=oB h h2 h3 h4;have HD:=xQ (fun w=>aK2 f s p c i pd a now w h h2 h3 h4);unfold kD;generalize cY f s p c i pd a now=D at*;by_cases ha:1≤amt∧amt≤300
 ·have HI:Hid (∀w,U 32 #[amt,I 1,I 300] w fun e w'=>e= .returned (.bool true)∧w=w'):=fun w=>qD amt 1 300 w ha.1 ha.2
  rw[if_pos ha];by_cases hd:D=0
  ·subst hd;rw[if_pos rfl];exact aHo i pd a now f s p c amt w b3 b4 HD HI ha.1 ha.2
  rw[if_neg hd];exact aK3 i pd a now f s p c amt D w e1 e2 b3 b4 HD HI ha.1 ha.2 (by omega)
 have HI:Hid (∀w,U 32 #[amt,I 1,I 300] w fun e w'=>e= .returned (.bool false)∧w=w'):=fun w=>aAp amt 1 300 w (by omega)
 rw[if_neg ha];exact aNr i pd a now f s p c amt D w e1 e2 b3 b4 HD HI (by omega)
section
section
variable {w0 w w':World} {L:List Item}
theorem Mem.own2 {b n c sz n2 c2 sz2:Nat}{e e2:TypeId}{q q2:OA}{xs i:List Value}(h:Mem w0 w L)(hx:Ext w w')(a:w'.ownsRow b e sz (.slice q n c) n xs)(g:w'.ownsRow b e2 sz2 (.slice q2 n2 c2) n2 i)(hb:w.heap.size≤b)(ht:e≠e2):
  Mem w0 w' (aJ w0 e sz q n c xs::aJ w0 e2 sz2 q2 n2 c2 i::L):=by
 refine(h.ownNew hx g hb).cons (eQ _ _ _ _ _ _ _) (dX a (aW8 h.ext.sz hb)) (fun g' hg' j hj e'=> ?_);replace hg':(Value.slice q n c).ownBlock=Option.some g':=hg';have h1:=(aWw a g' hg').1;rcases aWd.1 hj with rfl|hj
 ·replace e':(Value.slice q2 n2 c2).ownBlock=Option.some g':=e';rcases a.2 with⟨h2,_⟩|⟨g2,cap',cur,h2,_,h3,_⟩
  ·rw[h2]at hg';cases hg'
  rcases g.2 with⟨k2,_⟩|⟨g3,cap3,cur3,k2,_,k3,_⟩
  ·rw[k2]at e';cases e'
  rw[h2]at hg';rw[k2]at e';injection hg' with hg';injection e' with e';have f:g2=g':=hg';have d:g3=g':=e';subst f;subst d;rw[h3]at k3;injection k3 with k3;injection k3 with _ k3;exact ht k3
 have h2:=((h.good j hj).lt w (h.ok j hj) g' e').2;omega
end
theorem aFg (c aE aF aD aG id amt:Int)(p:OA)(n g:Nat)(q:OA)(m c2:Nat)(xs:List Int)(vs:List aV)(w:World)(HL:xC 49 #[.agg #[aA,aB,.slice p n g,a,c,aE,aF,aD,aG,.slice q m c2]] w fun w' e w''=> ∃p' cap' q' c2',e= .returned (.agg #[aA,aB,.slice p' n cap',a,c,aE,aF,aD,aG,.slice q' m c2'])∧w''.ownsRow w' TI 1 (.slice p' n cap') n (ivs xs)∧w''.ownsRow w' TV 4 (.slice q' m c2') m (vs.flatMap aC)∧Ext w' w'')(HF:xC 92 #[.agg #[aA,aB,.slice p n g,a,c,aE,aF,aD,aG,.slice q m c2],id] w fun w' e w''=>e= .returned (I (-1))∧Ext w' w''):
  U 90 #[.agg #[aA,aB,.slice p n g,a,c,aE,aF,aD,aG,.slice q m c2],id,amt] w fun e w'=> ∃p' cap' q' c2' b,e= .returned (.tuple #[.agg #[aA,aB,.slice p' n cap',a,c,aE,aF,aD,aG,.slice q' m c2'],b,.bool false])∧Ext w w':=by
 go_enter func90,ntmps90;go_wp2_with fail;refine(HL _ (Mem.b2 w).ext).mono ?_;rintro e w1 ⟨p1,d,q1,f,rfl,j,k,o⟩;have M1:=((((Mem.start w).c0 aN #[aA,aB,.slice p n g,a,c,aE,aF,aD,aG,.slice q m c2]).c1 aN zT).own2 o j k (aVz _) (by decide))
 have h:=M1.hi 3;clear o j k HL;have s:=(M1.bk 3).ten;go_wp2_with fail;clear s;refine Ω (HF _ (M1.c0 aN #[aA,aB,.slice p1 n d,a,c,aE,aF,aD,aG,.slice q1 m f]).ext) fun w2 r=>?_
 have M2:=((M1.c0 aN #[aA,aB,.slice p1 n d,a,c,aE,aF,aD,aG,.slice q1 m f]).adv r)
 clear M1 h r HF;have d_:=(M2.bk 0).ten;have f_:=(M2.bk 3).tenf;go_wp2;clear d_ f_;have M3:=(M2.put10 (i:=3) rfl (I aA) (I aB) (.slice p1 n d) (I a) (I c) (I aE) (I aF) (I aD) (I aG) (.slice q1 m f))
 generalize l:World.setCell _ _ _=wz;rw[l]at M3;clear l M2;have y_:=(M3.bk 3).ten;exact aYw (v:= .tuple #[.agg #[aA,aB,.slice p1 n d,a,c,aE,aF,aD,aG,.slice q1 m f],amt,.bool false]) ⟨p1,d,q1,f,amt,rfl,M3.ext⟩
theorem aE2 {vs:List aV}{a0 a1 a2 a3:Int}(h:vs[k]? =some (a0,a1,a2,a3))(S1 S2 S3:Int):
  (((vs.flatMap aC).set (k*4+1) (I S1)).set (k*4+2) (I S2)).set (k*4+3) (I S3)=(vs.set k (a0,S1,S2,S3)).flatMap aC:=by
 induction vs generalizing k with
 |nil=>simp at h
 |cons v vs ih=>
  cases k with
  |zero=>simp at h;subst h;simp[aC]
  |succ k=>
   have h':vs[k]? =some (a0,a1,a2,a3):=by simpa using h
   rw[aWf,aXb,aXb,←ih h'];simp only[aC,aXs,aXz];rw[show(k+1)*4+1=(k*4+1)+1+1+1+1 by omega,show(k+1)*4+2=(k*4+2)+1+1+1+1 by omega,show(k+1)*4+3=(k*4+3)+1+1+1+1 by omega];simp only[aWf]
theorem aNs (c d aE aF aD aG id amt:Int)(p:OA)(n r b h m c2 k:Nat)(xs:List Int)(vs:List aV)(a0 a1 a2 a3 S1 S2 S3 bk:Int)(q:Bool)(w:World)(hk:k<m)(hm:m≤1000)(hb:b<w.heap.size)(b6:0≤aG)(bu:aG≤99999)(bj:q=true→0≤bk∧bk≤amt∧amt≤300)(a8:Hid (vs[k]? =some (a0,a1,a2,a3)))(g1:w.cell? ⟨b,h+k*4+1,none⟩=some (I a1))(g2:w.cell? ⟨b,h+k*4+2,none⟩=some (I a2))(g3:w.cell? ⟨b,h+k*4+3,none⟩=some (I a3))(HL:xC 49 #[.agg #[aA,aB,.slice p n r,c,d,aE,aF,aD,aG,.slice (some ⟨b,h,none⟩) m c2]] w fun w' e w''=> ∃p' cap' q' c2',e= .returned (.agg #[aA,aB,.slice p' n cap',c,d,aE,aF,aD,aG,.slice q' m c2'])∧w''.ownsRow w' TI 1 (.slice p' n cap') n (ivs xs)∧w''.ownsRow w' TV 4 (.slice q' m c2') m (vs.flatMap aC)∧Ext w' w'')(HF:xC 92 #[.agg #[aA,aB,.slice p n r,c,d,aE,aF,aD,aG,.slice (some ⟨b,h,none⟩) m c2],id] w fun w' e w''=>e= .returned (I k)∧Ext w' w'')(HP:Hid (∀w',U 125 #[aR c d aE aF,cK a1 a2 a3,aD,amt] w' (Z (.tuple #[cK S1 S2 S3,bk,.bool q]) w'))):
  U 90 #[.agg #[aA,aB,.slice p n r,c,d,aE,aF,aD,aG,.slice (some ⟨b,h,none⟩) m c2],id,amt] w fun e w'=>(∃p' cap' q' c2' b,e= .returned (.tuple #[.agg #[aA,aB,.slice p' n cap',c,d,aE,aF,aD,aG,.slice q' m c2'],b,.bool false])∧ ¬(q=true∧aG+amt-bk≤99999)∧Ext w w')∨
   (q=true∧aG+amt-bk≤99999∧ ∃p' cap' q' c2',e= .returned (.tuple #[.agg #[aA,aB,.slice p' n cap',c,d,aE,aF,aD,(aG+amt-bk:Int),.slice q' m c2'],bk,.bool true])∧w'.ownsRow w TI 1 (.slice p' n cap') n (ivs xs)∧w'.ownsRow w TV 4 (.slice q' m c2') m ((vs.set k (a0,S1,S2,S3)).flatMap aC)∧Ext w w'):=by
 go_enter func90,ntmps90;go_wp2_with fail;refine(HL _ (Mem.b2 w).ext).mono ?_;rintro e w1 ⟨p1,f,q1,g,rfl,ay,az,a5⟩;have M1:=((((Mem.start w).c0 aN #[aA,aB,.slice p n r,c,d,aE,aF,aD,aG,.slice (some ⟨b,h,none⟩) m c2]).c1 aN zT).own2 a5 ay az (aVz _) (by decide))
 have am:=M1.hi 3;clear a5 ay az HL;have ak:=(M1.bk 3).ten;go_wp2_with fail;clear ak;refine Ω (HF _ (M1.c0 aN #[aA,aB,.slice p1 n f,c,d,aE,aF,aD,aG,.slice q1 m g]).ext) fun w2 a6=>?_
 have M2:=((M1.c0 aN #[aA,aB,.slice p1 n f,c,d,aE,aF,aD,aG,.slice q1 m g]).adv a6)
 clear M1 am a6 HF;have an:=M2.hi 3;have ak:=(M2.bk 4).ten;have s:=M2.ext;have ao:w2.cell? ⟨b,h+k*4+1,none⟩=some (I a1):=(s.cells.1 _ _ hb).trans g1;have ap:w2.cell? ⟨b,h+k*4+2,none⟩=some (I a2):=(s.cells.1 _ _ hb).trans g2;have aq:w2.cell? ⟨b,h+k*4+3,none⟩=some (I a3):=(s.cells.1 _ _ hb).trans g3;have u:b<w2:=aVy hb s.sz;clear s;have i1:=aYp k;have i2:=aYq k m;have n2: ¬(w2.heap.size=w.heap.size):=by omega
 have n4: ¬(w2.heap.size=b):=by omega
 go_upto_region 5 with fail;go_cut [11,12,13] (fun s11 s12 s13 wx=> ∃a:Nat,s11= .pointer (some ⟨a,0,none⟩)∧s12=I bk∧s13= .bool q∧Ext w2 wx∧w2.heap.size≤a∧Blk wx a TS3 #[S1,S2,S3])
 case first=>
  go_region_held3 (fun w'=>w'.cell? ⟨w,3,none⟩=some (I c)∧w'.cell? ⟨w,4,none⟩=some (I d)∧w'.cell? ⟨w,5,none⟩=some (I aE)∧w'.cell? ⟨w,6,none⟩=some (I aF)∧w'.cell? ⟨w,7,none⟩=some (I aD)∧w'.cell? ⟨w,9,none⟩=some (.slice (some ⟨b,h,none⟩) m c2)∧w'.cell? ⟨b,h+k*4+1,none⟩=some (I a1)∧w'.cell? ⟨b,h+k*4+2,none⟩=some (I a2)∧w'.cell? ⟨b,h+k*4+3,none⟩=some (I a3))
   (first|(refine⟨?_,?_,?_,?_,?_,?_,?_,?_,?_⟩<;>assumption)|go_keep)
   ((go_at_call 125
     refine Ω (HP _) fun w5 a7=>?_
     have j:Ext w2 w5:=xE;have bv:=((M2.bk 4).ext j).cl 3;have bw:=((M2.bk 4).ext j).cl 4;have bx:=((M2.bk 4).ext j).cl 5;have bz:=((M2.bk 4).ext j).cl 6;have b0:=((M2.bk 4).ext j).cl 7;have b1:=((M2.bk 4).ext j).cl 9;have b3:w5.cell? ⟨b,h+k*4+1,none⟩=some (I a1):=(j.cells.1 _ _ u).trans ao;have b4:w5.cell? ⟨b,h+k*4+2,none⟩=some (I a2):=(j.cells.1 _ _ u).trans ap;have b5:w5.cell? ⟨b,h+k*4+3,none⟩=some (I a3):=(j.cells.1 _ _ u).trans aq
     first
      |(have al:Ext (w2.alloc (.cells #[(),(),()] TS3)) w5:=a7
        have BB:=(Blk.new w2 TS3 #[(),(),()]).ext al;have bo:=BB.cl 0;have br:=BB.frozen 0;have bp:=BB.cl 1;have bs:=BB.frozen 1;have bq:=BB.cl 2
        have bt:w5.frozen? ⟨w2,2,none⟩=false:=BB.frozen 2)
      |(have al:Ext (w2.alloc (.cells #[(),(),()] TS3)) w5:=a7.of_drew
        have BB:=(Blk.new w2 TS3 #[(),(),()]).ext al;have bo:=BB.cl 0;have br:=BB.frozen 0;have bp:=BB.cl 1;have bs:=BB.frozen 1;have bq:=BB.cl 2
        have bt:w5.frozen? ⟨w2,2,none⟩=false:=BB.frozen 2)
      |skip))
  ·go_wp2_with fail;go_meet;exact⟨w5.heap.size,rfl,rfl,rfl,by exact .alloc j _,by have:=j.sz;omega,Blk.new _ _ _⟩
  have hR:ExtR w2 w5 _:=(((ExtR.refl w2 w5).setCell (p:=⟨w2,0,none⟩) (.inl rfl) (I S1)).setCell (p:=⟨w2,1,none⟩) (.inl rfl) (I S2)).setCell (p:=⟨w2,2,none⟩) (.inl rfl) (I S3);have hY:=((BB.set 0 (I S1)).set 1 (I S2)).set 2 (I S3);simp only[aWg,aWe,aWf]at hY;go_wp2_with fail;go_meet;exact⟨w2.heap.size,rfl,rfl,rfl,ExtR.new j hR (aVz _),aVz _,hY⟩
 case rest=>
  clear ak ao ap aq u HP n2 n4;obtain⟨a,rfl,rfl,rfl,au,ha,ar⟩:=hcut;have M3:=(M2.blkOf au ar ha)
  clear M2 an au ha ar;cases q with
  |false=>
   have t:Hid (¬(false=true∧aG+amt-bk≤99999)):=by show¬_;simp
   obtain⟨d0,d1,d2,d3,d4,d5,d6,d7,d8,d9⟩:=(M3.bk 1).ten;have f_:=(M3.bk 4).tenf;go_wp2;clear d0 d1 d2 d3 d4 d5 d6 d7 d8 d9 f_;have M4:=(M3.put10 (i:=4) rfl (I aA) (I aB) (.slice p1 n f) (I c) (I d) (I aE) (I aF) (I aD) (I aG) (.slice q1 m g))
   generalize o:World.setCell _ _ _=wz;rw[o]at M4;clear o M3;obtain⟨y0,y1,y2,y3,y4,y5,y6,y7,y8,y9⟩:=(M4.bk 4).ten;exact aYw (v:= .tuple #[.agg #[aA,aB,.slice p1 n f,c,d,aE,aF,aD,aG,.slice q1 m g],amt,.bool false]) (by first|exact .inl ⟨p1,f,q1,g,amt,rfl,t.out,M4.ext⟩|(have l:=t.out;simp at l;first|exact .inl ⟨p1,f,q1,g,amt,rfl,l,M4.ext⟩|exact .inl ⟨p1,f,q1,g,amt,rfl,by omega,M4.ext⟩|exact .inl ⟨⟨p1,f,q1,g,amt,rfl⟩,l,M4.ext⟩|exact .inl ⟨⟨p1,f,q1,g,amt,rfl⟩,by omega,M4.ext⟩|exact .inl ⟨⟨p1,f,q1,g,amt,rfl⟩,M4.ext⟩|exact⟨⟨p1,f,q1,g,amt,rfl⟩,M4.ext⟩))
  |true=>
   obtain⟨o1,o2,o3⟩:=bj rfl;have k1:=aYs (aG+amt);have k2:=aYs (aG+amt-bk);have h8:=(M3.bk 5).cl 8;by_cases hq:aG+amt-bk≤99999
   ·have hd:=aYu (99999<aG+amt-bk);have a4:=xQ hq;clear hq;obtain⟨gq,rfl,aw,ax⟩:=M3.so 3;obtain⟨b9,o9,x0,x1,x2,x3,e9,bl,_,y0,y1,y2,y3⟩:=iI (M3.sq 3) hk;injection e9 with e9;injection e9 with e9 e8;subst e9 e8;simp only[aWz]at y1 y2 y3;clear bl y0 aw;obtain⟨d0,a9,d1,ba,d2,bb,d3,bc,d4,bd,d5,be,d6,bf,d7,bg,d8,bh,d9,bi⟩:=(M3.bk 1).tenf;have f_:=(M3.bk 4).tenf;have bm:=(M3.bk 0).tri;have z1:wc.frozen? ⟨gq,k*4+1,none⟩=false:=(M3.ow 3).frozenAt (k*4+1);have z2:wc.frozen? ⟨gq,k*4+2,none⟩=false:=(M3.ow 3).frozenAt (k*4+2);have z3:wc.frozen? ⟨gq,k*4+3,none⟩=false:=(M3.ow 3).frozenAt (k*4+3);obtain⟨x,y⟩:=M3.nq 1 4;obtain⟨z,aa⟩:=M3.nq 0 4;obtain⟨ab,ad⟩:=M3.nq 3 4;obtain⟨ae,af⟩:=M3.nq 0 1;obtain⟨ag,ah⟩:=M3.nq 1 3;obtain⟨ai,aj⟩:=M3.nq 0 3;have M4:=(show Mem w (((wc.setCell ⟨gq,k*4+1,none⟩ (I S1)).setCell ⟨gq,k*4+2,none⟩ (I S2)).setCell ⟨gq,k*4+3,none⟩ (I S3)) [aI w (a) TS3 #[S1,S2,S3],aI w w1 aN #[aA,aB,.slice p1 n f,c,d,aE,aF,aD,aG,.slice (some ⟨gq,0,none⟩) m g],aJ w TI 1 (p1) (n) (f) (ivs xs),aJ w TV 4 (some ⟨gq,0,none⟩) (m) (g) ((((vs.flatMap aC).set (k*4+1) (I S1)).set (k*4+2) (I S2)).set (k*4+3) (I S3)),aI w (w.heap.size+1) aN #[(),(),((),()),(),(),(),(),(),(),((),())],aI w w aN #[aA,aB,.slice p n r,c,d,aE,aF,aD,aG,.slice (some ⟨b,h,none⟩) m c2]]from(((M3.ostore (i:=3) rfl (k*4+1) (I S1)).ostore (i:=3) rfl (k*4+2) (I S2)).ostore (i:=3) rfl (k*4+3) (I S3)))
    have M5:=(M4.st 1 8 (I (aG+amt-bk)))
    have av:Hid ((((vs.flatMap aC).set (k*4+1) (I S1)).set (k*4+2) (I S2)).set (k*4+3) (I S3)=(vs.set k (a0,S1,S2,S3)).flatMap aC):=aE2 a8 S1 S2 S3;go_wp2;clear d0 a9 d1 ba d2 bb d3 bc d4 bd d5 be d6 bf d7 bg d8 bh d9 bi f_ bm z1 z2 z3 x y z aa ab ad ae af ag ah ai aj y1 y2 y3 ax h8;have M6:=(M5.put10 (i:=4) rfl (I aA) (I aB) (.slice p1 n f) (I c) (I d) (I aE) (I aF) (I aD) (I (aG+amt-bk)) (.slice (some ⟨gq,0,none⟩) m g))
    generalize o:World.setCell _ _ _=wz;rw[o]at M6;clear o M3 M4 M5;obtain⟨y0,y1,y2,y3,y4,y5,y6,y7,y8,y9⟩:=(M6.bk 4).ten;exact aYw (v:= .tuple #[.agg #[aA,aB,.slice p1 n f,c,d,aE,aF,aD,(aG+amt-bk:Int),.slice (some ⟨gq,0,none⟩) m g],bk,.bool true]) (by first|exact .inr ⟨rfl,a4.out,p1,f,some ⟨gq,0,none⟩,g,rfl,(M6.ow 2),by rw[←av.out];exact(M6.ow 3),M6.ext⟩|exact .inr ⟨a4.out,p1,f,some ⟨gq,0,none⟩,g,rfl,(M6.ow 2),by rw[←av.out];exact(M6.ow 3),M6.ext⟩)
   have t:Hid (¬(true=true∧aG+amt-bk≤99999)):=by show¬_;simp[hq]
   have hd:=aYv (99999<aG+amt-bk);obtain⟨d0,d1,d2,d3,d4,d5,d6,d7,d8,d9⟩:=(M3.bk 1).ten;have f_:=(M3.bk 4).tenf;go_wp2;clear d0 d1 d2 d3 d4 d5 d6 d7 d8 d9 f_;have M4:=(M3.put10 (i:=4) rfl (I aA) (I aB) (.slice p1 n f) (I c) (I d) (I aE) (I aF) (I aD) (I aG) (.slice q1 m g))
   generalize o:World.setCell _ _ _=wz;rw[o]at M4;clear o M3;obtain⟨y0,y1,y2,y3,y4,y5,y6,y7,y8,y9⟩:=(M4.bk 4).ten;exact aYw (v:= .tuple #[.agg #[aA,aB,.slice p1 n f,c,d,aE,aF,aD,aG,.slice q1 m g],amt,.bool false]) (by first|exact .inl ⟨p1,f,q1,g,amt,rfl,t.out,M4.ext⟩|(have l:=t.out;simp at l;first|exact .inl ⟨p1,f,q1,g,amt,rfl,l,M4.ext⟩|exact .inl ⟨p1,f,q1,g,amt,rfl,by omega,M4.ext⟩|exact .inl ⟨⟨p1,f,q1,g,amt,rfl⟩,l,M4.ext⟩|exact .inl ⟨⟨p1,f,q1,g,amt,rfl⟩,by omega,M4.ext⟩|exact .inl ⟨⟨p1,f,q1,g,amt,rfl⟩,M4.ext⟩|exact⟨⟨p1,f,q1,g,amt,rfl⟩,M4.ext⟩))
theorem Mem.st4 {P:Program}{f:FuncId}{s:Array Value}{w0 w:World}{L:List Item}{F:OA→Nat→OA→Nat→Value}{t1 t2:TypeId}{n1 s1 n2 s2:Nat}{xs ys:List Value}{K:Ending→World→Prop}(M:Mem w0 w L)(H:Mem w0 w L→Calls P f s w fun e w'=> ∃p c q d,e= .returned (F p c q d)∧w'.ownsRow w t1 s1 (.slice p n1 c) n1 xs∧w'.ownsRow w t2 s2 (.slice q n2 d) n2 ys∧Ext w w')(k: ∀w' p c q d,Mem w0 w' (aJ w0 t1 s1 p n1 c xs::aJ w0 t2 s2 q n2 d ys::L)→K (.returned (F p c q d)) w')(a:t1≠t2:=by decide):Calls P f s w K:=(H M).mono (by rintro e w' ⟨p,c,q,d,rfl,ho,hv,hx⟩;exact k w' p c q d (M.own2 hx ho hv (aVz _) a))
end
theorem aFw {f s p c i pd a now amt:Int}(hD:0≤cY f s p c i pd a now)(h:(kD f s p c i pd a now amt).2.2=true):0≤(kD f s p c i pd a now amt).2.1∧(kD f s p c i pd a now amt).2.1≤amt∧amt≤300:=by
 unfold kD at h⊢;split at h
 ·rename_i h1;rw[if_pos h1];split at h
  ·cases h
  rename_i h2;rw[if_neg h2];dsimp only;omega
 cases h
def vR (h:aQ)(id amt:Int):Option (aQ×Int):=
 match iS id h.vs with
 |none=>none
 |some v=>if(kD h.free h.step h.aE h.aF v.2.1 v.2.2.1 v.2.2.2 h.aD amt).2.2=true∧h.aG+amt-(kD h.free h.step h.aE h.aF v.2.1 v.2.2.1 v.2.2.2 h.aD amt).2.1≤99999 then
   some ({h with aG:=h.aG+amt-(kD h.free h.step h.aE h.aF v.2.1 v.2.2.1 v.2.2.2 h.aD amt).2.1,vs:=h.vs.set (vix id h.vs).toNat (id,(kD h.free h.step h.aE h.aF v.2.1 v.2.2.1 v.2.2.2 h.aD amt).1)},(kD h.free h.step h.aE h.aF v.2.1 v.2.2.1 v.2.2.2 h.aD amt).2.1)
  else none
def aT4 (h:aQ)(r:Option (aQ×Int))(w:World)(e:Ending)(w':World):Prop:=
 match r with
 |none=> ∃p cap q c2 b,e= .returned (.tuple #[bV h p h.cells.length cap q h.vs.length c2,b,.bool false])∧Ext w w'
 |some (h',b)=> ∃p cap q c2,e= .returned (.tuple #[bV h' p h'.cells.length cap q h'.vs.length c2,b,.bool true])∧w'.ownsRow w.heap.size TI 1 (.slice p h'.cells.length cap) h'.cells.length (ivs h'.cells)∧w'.ownsRow w.heap.size TV 4 (.slice q h'.vs.length c2) h'.vs.length (h'.vs.flatMap aC)∧Ext w w'
theorem aOl (h:aQ)(id amt:Int)(p:OA)(n c:Nat)(q:OA)(m c2:Nat)(w:World)(hn:n≤1000)(hm:m≤1000)(hi:IsHouse w h p n c q m c2)(ht:bP h.free h.step h.aE h.aF=true)(o: ∀v∈h.vs,dV v.2.1 v.2.2.1 v.2.2.2=true∧v.2.2.2≤h.aD)(hc:h.aD≤9999)(i:0≤h.aG)(hb:h.aG≤99999):
  U 90 #[bV h p n c q m c2,id,amt] w (aT4 h (vR h id amt) w):=by
 have hl:=hi.clen;have l:=hi.vlen;have HL:=fun(w':World) (hx:Ext w w')=>vU h p n c q m c2 w' hn hm (hi.ext hx)
 have HF:=fun(w':World) (hx:Ext w w')=>vT h.aA h.aB h.free h.step h.aE h.aF h.aD h.aG id p n c q m c2 h.vs w' (hi.vs.ext hx)
 unfold RetHouse at HL;subst hl l;rcases pS id h.vs with⟨h1,h2⟩|⟨k,a1,a2,a3,hk,h1,hx,h2⟩
 ·rw[h1]at HF;have hr:vR h id amt=none:=by unfold vR;rw[h2]
  rw[hr];refine(aFg h.aA h.aB h.free h.step h.aE h.aF h.aD h.aG id amt p _ c q _ c2 h.cells h.vs w HL HF).mono ?_;rintro e w' ⟨p',a,q',d,b,rfl,hE⟩;exact⟨p',a,q',d,b,rfl,hE⟩
 rw[h1]at HF;obtain⟨b,s,x0,x1,x2,x3,rfl,f,j,_,g1,g2,g3⟩:=iI hi.vs hk;rw[hx]at f;injection f with f;simp only[aX5]at f;obtain⟨_,rfl,rfl,rfl⟩:=f;obtain⟨s1,s2⟩:=o _ (aW1 hx);dsimp only at s1 s2;have hD:=(oB ht s1 s2 hc).1;have HP:=fun(w':World)=>aI5 h.free h.step h.aE h.aF a1 a2 a3 h.aD amt w' ht s1 s2 hc
 have g:=aFw (amt:=amt) hD;have hr:vR h id amt=if(kD h.free h.step h.aE h.aF a1 a2 a3 h.aD amt).2.2=true∧h.aG+amt-(kD h.free h.step h.aE h.aF a1 a2 a3 h.aD amt).2.1≤99999 then some ({h with aG:=h.aG+amt-(kD h.free h.step h.aE h.aF a1 a2 a3 h.aD amt).2.1,vs:=h.vs.set k (id,(kD h.free h.step h.aE h.aF a1 a2 a3 h.aD amt).1)},(kD h.free h.step h.aE h.aF a1 a2 a3 h.aD amt).2.1)else none:=by unfold vR;rw[h2,h1];rfl
 rw[hr];generalize kD h.free h.step h.aE h.aF a1 a2 a3 h.aD amt=r at*;obtain⟨⟨S1,S2,S3⟩,bk,t⟩:=r;dsimp only at HP g⊢;refine(aNs h.aA h.aB h.free h.step h.aE h.aF h.aD h.aG id amt p _ c b s _ c2 k h.cells h.vs id a1 a2 a3 S1 S2 S3 bk t w hk hm j i hb g hx g1 g2 g3 HL HF HP).mono ?_;rintro e w' (⟨p',a,q',d,b',rfl,hno,hE⟩|⟨rfl,hle,p',a,q',d,rfl,ho1,ho2,hE⟩)
 ·rw[if_neg hno];exact⟨p',a,q',d,b',rfl,hE⟩
 rw[if_pos ⟨rfl,hle⟩];refine⟨p',a,q',d,?_,ho1,?_,hE⟩
 ·simp[bV]
 simpa using ho2
theorem tH {ys:List Int}(h:List.Perm xs ys):jC xs=jC ys:=
 qQ ((kR _).trans (h.filter _)) (nK _)
theorem aF9: ∀(cs:List Int) (vs:List aV),cM aD cs vs=true↔vs.map (·.1)=cs∧ ∀v∈vs,iH aD v=true:=by
 intro cs;induction cs with
 |nil=>intro vs;cases vs<;>simp[cM]
 |cons c cs ih=>
  intro vs;cases vs with
  |nil=>simp[cM]
  |cons v vs=>
   simp only[cM,aWc,decide_eq_true_eq,ih,aXl,List.cons.injEq,List.forall_mem_cons];constructor
   ·rintro⟨⟨a,b⟩,c,d⟩;exact⟨⟨a,c⟩,b,d⟩
   rintro⟨⟨a,c⟩,b,d⟩;exact⟨⟨a,b⟩,c,d⟩
theorem jE (h:aQ):bC h=true↔aO h.aA h.aB h.cells=true∧bP h.free h.step h.aE h.aF=true∧(0≤h.aD∧h.aD≤9999∧0≤h.aG∧h.aG≤99999)∧h.vs.map (·.1)=jC h.cells∧ ∀v∈h.vs,iH h.aD v=true:=by
 unfold bC yX;simp only[aWc,decide_eq_true_eq,aF9];constructor
 ·rintro⟨⟨⟨a,b⟩,c⟩,d,e⟩;exact⟨a,b,c,d,e⟩
 rintro⟨a,b,c,d,e⟩;exact⟨⟨⟨a,b⟩,c⟩,d,e⟩
theorem mC:iH aD v=true↔dV v.2.1 v.2.2.1 v.2.2.2=true∧v.2.2.2≤aD:=by unfold iH;simp
theorem aBk (v:aV): ∀vs:List aV,(nM v vs).map (·.1)=oG v.1 (vs.map (·.1))
 | []=>rfl
 |u::vs=>by
  by_cases hc:u.1<v.1
  ·have e:nM v (u::vs)=u::nM v vs:=by simp[nM,hc]
   rw[e,aXl,aBk v vs,aXl];simp[oG,hc]
  have e:nM v (u::vs)=v::u::vs:=by simp[nM,hc]
  rw[e];simp[oG,hc]
theorem aR7 (v:aV)(vs:List aV): ∀u∈nM v vs,u=v∨u∈vs:=by
 intro u hu;unfold nM at hu;rcases aWh.1 hu with h|h
 ·exact .inr ((List.takeWhile_sublist _).subset h)
 rcases aWd.1 h with h|h
 ·exact .inl h
 exact .inr ((List.dropWhile_sublist _).subset h)
theorem wW:(nM v vs).length=vs.length+1:=by have:=congrArg List.length (aBk v vs);rw[(qE _ _).length_eq]at this;simpa using this
theorem aSz {id:Int}(h0:zs.getD 0 0=0)(hl:0<zs.length)(hi:1≤id):jC (zs.set 0 id)=oG id (jC zs):=by
 cases zs with
 |nil=>simp at hl
 |cons z t=>
  obtain rfl:z=0:=by simpa using h0
  symm;refine qQ ?_ (aA2 _ _ (nK _));have e:eJ ((0::t).set 0 id)=id::eJ (0::t):=by unfold eJ;rw[aWe,aY3 (by simp;omega),aY4 (by simp)]
  rw[e];exact(qE _ _).trans (List.Perm.cons _ (kR _))
theorem aPf {id:Int}(h0:zs[0]? =some id)(hi:1≤id):jC (zs.set 0 0)=(jC zs).erase id:=by
 cases zs with
 |nil=>simp at h0
 |cons z t=>
  obtain rfl:z=id:=by simpa using h0
  symm;refine qQ ?_ ((nK _).sublist List.erase_sublist);have e:eJ (z::t)=z::eJ ((z::t).set 0 0):=by unfold eJ;rw[aWe,aY3 (by simp;omega),aY4 (by simp)]
  have hp:=(kR (eJ (z::t))).erase z;rw[e,List.erase_cons_head,←e]at hp;exact hp
theorem aCh (id:Int): ∀vs:List aV,vs.any (fun v=>v.1==id)=true→(vs.eraseIdx (vs.findIdx (fun v=>v.1==id))).map (·.1)=(vs.map (·.1)).erase id
 | [],h=>by simp at h
 |v::vs,h=>by
  by_cases hv:v.1=id
  ·have e:(v::vs).findIdx (fun v=>v.1==id)=0:=by simp[List.findIdx_cons,hv]
   rw[e,aXl,hv,List.erase_cons_head];rfl
  have hb:(v.1==id)=false:=by simpa using hv
  have e:(v::vs).findIdx (fun v=>v.1==id)=vs.findIdx (fun v=>v.1==id)+1:=by simp[List.findIdx_cons,hb]
  have h':vs.any (fun v=>v.1==id)=true:=by simpa[hv]using h
  rw[e,List.eraseIdx_cons_succ,aXl,aCh id vs h',aXl,List.erase_cons_tail (by simpa using hv)]
theorem oO {id:Int}{vs:List aV}{v:aV}(h:iS id vs=some v):vs.any (fun v=>v.1==id)=true∧v.1=id∧vs[(vix id vs).toNat]? =some v∧(vix id vs).toNat<vs.length∧vix id vs=((vix id vs).toNat:Int)∧(vix id vs).toNat=vs.findIdx (fun v=>v.1==id):=by
 have ha:vs.any (fun v=>v.1==id)=true:=by unfold iS at h;exact List.any_eq_true.2 ⟨v,aXw h,by simpa using List.find?_some h⟩
 rcases pS id vs with⟨h1,h2⟩|⟨k,a1,a2,a3,hk,h1,hx,h2⟩
 ·rw[h2]at h;cases h
 rw[h2]at h;injection h with h;subst h;have e:vix id vs=(vs.findIdx (fun v=>v.1==id):Int):=by unfold vix;rw[if_pos ha]
 refine⟨ha,rfl,by rw[h1];simpa using hx,by rw[h1];simpa using hk,by rw[h1];simp,by rw[e];simp⟩
theorem aQs {α:Type}{l:List α}{a:α}(h:l[k]? =some a):l.set k a=l:=by
 refine List.ext_getElem? (fun i=> ?_);rw[List.getElem?_set];split
 ·rename_i e;subst e;split
  ·exact h.symm
  rename_i hl;rw[aXg (by omega)]at h;cases h
 rfl
theorem aQu {vs:List aV}{u:aV}(s:Int×Int×Int)(hk:vs[k]? =some u):(vs.set k (u.1,s)).map (·.1)=vs.map (·.1):=by rw[List.map_set];exact aQs (by rw[aWp,hk];rfl)
def dF (h:aQ)(k a b:Int):Option (aQ×Int):=
 if k=0 then
  (if 0≤(cZ h.aA h.aB h.cells a).2 then some ({h with cells:=(cZ h.aA h.aB h.cells a).1,vs:=nM (a,h.aD,0,h.aD) h.vs},(cZ h.aA h.aB h.cells a).2)else none)
 else if k=1 then vR h a b
 else if k=2 then
  (if gI h a=true∧0≤(cN h.aA h.aB h.cells a).2 then some ({h with cells:=(cN h.aA h.aB h.cells a).1,vs:=h.vs.eraseIdx (vix a h.vs).toNat},(cN h.aA h.aB h.cells a).2)else none)
 else if k=3 then(if 1≤a∧a≤9999-h.aD then some ({h with aD:=h.aD+a},h.aD+a)else none)
 else if k=4 then(if bM h.aA h.aB h.cells a b=true then some ({h with cells:=bQ h.aA h.aB h.cells a b},0)else none)
 else none
theorem vN {aA aB:Int}{id:Int}(a:aO aA aB xs=true)(h:0≤(cZ aA aB xs id).2):
  ∃zs,List.Perm zs xs∧zs.getD 0 0=0∧1≤id∧(cZ aA aB xs id).1=zs.set 0 id∧aO aA aB (zs.set 0 id)=true∧(cZ aA aB xs id).2≤5:=by
 unfold cZ oQ at h⊢;cases hr:kI aA xs with
 |none=>rw[hr]at h;simp at h
 |some r=>
  rw[hr]at h;obtain⟨f1,f2,f3,f4,f5⟩:=tG a hr;have hp:=(sH r.2 xs a).2.2;rw[f1]at hp;unfold dM at h⊢;by_cases hc:r.1.getD 0 0=0∧1≤id∧aO aA aB (r.1.set 0 id)=true
  ·simp only[hc,and_self,if_true]at h⊢;exact⟨r.1,hp,hc.1,trivial,rfl,hc.2.2,by omega⟩
  simp only[if_neg hc]at h;simp at h
theorem rK {aA aB:Int}{id:Int}(a:aO aA aB xs=true)(h:0≤(cN aA aB xs id).2):
  ∃ys,List.Perm ys xs∧ys[0]? =some id∧1≤id∧(cN aA aB xs id).1=ys.set 0 0∧(cN aA aB xs id).2≤60:=by
 unfold cN pC at h⊢;by_cases hc:id<1∨id∉xs
 ·rw[if_pos hc]at h;simp at h
 rw[if_neg hc]at h⊢;have hm:id∈xs:=by
  by_cases hm:id∈xs
  ·exact hm
  exact absurd (.inr hm) hc
 obtain⟨c,hx,hi⟩:=aC6 hm;rw[hi]at h⊢;rw[aXo]at h⊢;cases hb:eO aA xs c with
 |none=>rw[hb]at h;simp at h
 |some l=>
  rw[hb]at h;obtain⟨g1,ys,g2,g3,g4,g5⟩:=(tJ a hx (by omega)).2 l hb;have hp:=(sH l xs a).2.2;rw[g2]at hp;refine⟨ys,hp,g5,by omega,?_,?_⟩
  ·simp[g2]
  simp;omega
theorem aJ8 {aA aB:Int}(h:aO aA aB xs=true):aO aA aB (xs.set 0 0)=true:=by
 unfold aO at*;rw[aWc]at*;refine⟨by rw[aXf];exact h.1,?_⟩;obtain⟨h1,h2,h3⟩:=(fW _ _).1 h.2;refine(fW _ _).2 ⟨fun x hx=> ?_,fun x hx=>by simp,?_⟩
 ·rcases aXa hx with hx|rfl
  ·exact h1 x hx
  omega
 cases xs with
 |nil=>simp
 |cons x t=>
  rw[aWe,aY4 (by simp)];refine h3.sublist ?_;rw[List.filter_cons];split
  ·exact List.sublist_cons_self _ _
  exact List.Sublist.refl _
theorem aSj {f s p c i pd a now:Int}(h:bP f s p c=true)(hi:0≤i)(h3:i≤now)(h4:now≤9999):0≤qH f s p c (now-i)∧qH f s p c (now-i)≤693:=by have hb:=xU (m:=now-i) h (by omega) (by omega);omega
theorem vV {h:aQ}(e:bC h=true){k a b:Int}{h':aQ}{n:Int}(hd:dF h k a b=some (h',n)):
  bC h'=true∧(0≤n∧n≤9999)∧h'.cells.length=h.cells.length∧h'.aA=h.aA∧h'.aB=h.aB∧h'.free=h.free∧h'.step=h.step∧h'.aE=h.aE∧h'.aF=h.aF:=by
 obtain⟨q1,q2,q3,q4,q5⟩:=(jE h).1 e;have d:0<h.cells.length:=by have:=cQ (dH q1);omega
 unfold dF at hd;split at hd
 ·split at hd
  ·rename_i h0;obtain⟨zs,s1,s2,s3,s4,s5,s6⟩:=vN q1 h0;injection hd with hd;simp only[aX5]at hd;obtain⟨rfl,rfl⟩:=hd;rw[s4];refine⟨(jE _).2 ⟨s5,q2,q3,?_,?_⟩,⟨h0,by omega⟩,by rw[aXf,s1.length_eq],rfl,rfl,rfl,rfl,rfl,rfl⟩
   ·dsimp only;rw[aBk,aSz s2 (by rw[s1.length_eq];exact d) s3,q4,tH s1]
   intro v hv;rcases aR7 _ _ v hv with rfl|hv
   ·exact(mC _ _).2 ⟨by simp[dV];omega,Int.le_refl _⟩
   exact q5 v hv
  cases hd
 split at hd
 ·unfold vR at hd;split at hd
  ·cases hd
  rename_i v hv;obtain⟨v1,v2,v3,v4,v5,v6⟩:=oO hv;obtain⟨s1,s2⟩:=(mC _ _).1 (q5 v (aW1 v3));obtain⟨b1,b2⟩:=oB q2 s1 s2 q3.2.1;obtain⟨t1,t2,t3,t4,t5,t6⟩:=iT s1;split at hd
  ·rename_i hp;have f:=aFw b1 hp.1;injection hd with hd;simp only[aX5]at hd;obtain⟨rfl,rfl⟩:=hd;refine⟨(jE _).2 ⟨q1,q2,⟨q3.1,q3.2.1,?_,hp.2⟩,?_,?_⟩,⟨f.1,by omega⟩,rfl,rfl,rfl,rfl,rfl,rfl,rfl⟩
   ·dsimp only;omega
   ·dsimp only;rw[←q4,←v2];rw[←v2]at v3;exact aQu _ v3
   intro u hu;rcases aXa hu with hu|rfl
   ·exact q5 u hu
   refine(mC _ _).2 ?_;have hf:=aSj (pd:=v.2.2.1) (a:=v.2.2.2) (now:=h.aD) q2 t1 (by omega) q3.2.1;have g:cY h.free h.step h.aE h.aF v.2.1 v.2.2.1 v.2.2.2 h.aD=max (qH h.free h.step h.aE h.aF (h.aD-v.2.1)-v.2.2.1) 0:=by unfold cY;rw[if_pos (by simp[q2,s1,s2,q3.2.1])]
   have c:=hp.1;unfold kD at c⊢;split at c
   ·rename_i ha;rw[if_pos ha];split at c
    ·cases c
    rename_i hn;rw[if_neg hn];dsimp only;refine⟨?_,by omega⟩;unfold dV;simp only[decide_eq_true_eq];omega
   cases c
  cases hd
 split at hd
 ·split at hd
  ·rename_i hm;obtain⟨ys,s1,s2,s3,s4,s5⟩:=rK q1 hm.2;injection hd with hd;simp only[aX5]at hd;obtain⟨rfl,rfl⟩:=hd;rw[s4];refine⟨(jE _).2 ⟨aJ8 (aA6 q1 s1),q2,q3,?_,?_⟩,⟨hm.2,by omega⟩,by rw[aXf,s1.length_eq],rfl,rfl,rfl,rfl,rfl,rfl⟩
   ·dsimp only;have hv: ∃v,iS a h.vs=some v:=by
     have:=hm.1;unfold gI iL at this;rw[if_pos e]at this;cases hv:iS a h.vs with
     |none=>rw[hv]at this;simp at this
     |some v=>exact⟨v,rfl⟩
    obtain⟨v,hv⟩:=hv;obtain⟨v1,v2,v3,v4,v5,v6⟩:=oO hv;rw[v6,aCh a h.vs v1,aPf s2 s3,q4,tH s1]
   intro v hv;exact q5 v (List.mem_of_mem_eraseIdx hv)
  cases hd
 split at hd
 ·split at hd
  ·rename_i hw;injection hd with hd;simp only[aX5]at hd;obtain⟨rfl,rfl⟩:=hd;refine⟨(jE _).2 ⟨q1,q2,⟨by dsimp only;omega,by dsimp only;omega,q3.2.2⟩,q4,fun v hv=> ?_⟩,⟨by omega,by omega⟩,rfl,rfl,rfl,rfl,rfl,rfl,rfl⟩;obtain⟨s1,s2⟩:=(mC _ _).1 (q5 v hv);exact(mC _ _).2 ⟨s1,by dsimp only;omega⟩
  cases hd
 split at hd
 ·split at hd
  ·injection hd with hd;simp only[aX5]at hd;obtain⟨rfl,rfl⟩:=hd;refine⟨(jE _).2 ⟨kS a b q1,q2,q3,?_,q5⟩,⟨by omega,by omega⟩,dO _ _ _ _ _,rfl,rfl,rfl,rfl,rfl,rfl⟩;dsimp only;rw[q4,tH (qS a b)]
  cases hd
 cases hd
def aDx (h:aQ)(id:Int):Value:=match iL h id with
 |some s=> .tuple #[.agg #[s.1,s.2.1,s.2.2],.bool true]
 |none=> .tuple #[.agg #[(),(),()],.bool false]
theorem aIx (HV:xB 12 #[.agg #[aA,aB,.slice p n c,a,b,aE,aF,aD,aG,.slice q m c2]] w false):
  U 154 #[.agg #[aA,aB,.slice p n c,a,b,aE,aF,aD,aG,.slice q m c2],id] w (Z (.tuple #[.agg #[(),(),()],.bool false]) w):=by
 go_enter func154,ntmps154;go_wp2_with fail;refine Ω (HV _ (by exact .alloc (.alloc (.refl _) _) _)) fun w1 d=>?_
 have g:Blk w1 w 32 #[aA,aB,.slice p n c,a,b,aE,aF,aD,aG,.slice q m c2]:=((Blk.new w _ _).alloc _).ext d;have f:Blk w1 (w.heap.size+1) 60 #[(),(),()]:=by have:=(Blk.new (w.alloc (.cells #[aA,aB,.slice p n c,a,b,aE,aF,aD,aG,.slice q m c2] 32)) 60 #[(),(),()]).ext d;simpa using this
 have X1:Ext w w1:=(((Ext.refl w).alloc _).alloc _).trans d;replace g:=xQ g;replace f:=xQ f;clear d;have h:=f.out.trif;go_wp2;exact aYw (v:= .tuple #[.agg #[(),(),()],.bool false]) ⟨rfl,xE⟩
theorem aLn (HV:xB 12 #[.agg #[aA,aB,.slice p n c,a,b,aE,aF,aD,aG,.slice q m c2]] w true)(HX:xC 112 #[.agg #[aA,aB,.slice p n c,a,b,aE,aF,aD,aG,.slice q m c2],id] w fun w' e w''=>e= .returned (I (-1))∧Ext w' w''):
  U 154 #[.agg #[aA,aB,.slice p n c,a,b,aE,aF,aD,aG,.slice q m c2],id] w (Z (.tuple #[.agg #[(),(),()],.bool false]) w):=by
 go_enter func154,ntmps154;go_wp2_with fail;refine Ω (HV _ (by exact .alloc (.alloc (.refl _) _) _)) fun w1 g=>?_
 have d:Blk w1 w 32 #[aA,aB,.slice p n c,a,b,aE,aF,aD,aG,.slice q m c2]:=((Blk.new w _ _).alloc _).ext g;have f:Blk w1 (w.heap.size+1) 60 #[(),(),()]:=by have:=(Blk.new (w.alloc (.cells #[aA,aB,.slice p n c,a,b,aE,aF,aD,aG,.slice q m c2] 32)) 60 #[(),(),()]).ext g;simpa using this
 have X1:Ext w w1:=(((Ext.refl w).alloc _).alloc _).trans g;replace d:=xQ d;replace f:=xQ f;clear g;have i:=d.out.ten;go_wp2_with fail;refine Ω (HX _ (by exact X1)) fun w2 h=>?_
 have j:=xQ (f.out.ext h);have X2:Ext w w2:=X1.trans h;clear i h d f;have k:=j.out.trif;go_wp2;exact aYw (v:= .tuple #[.agg #[(),(),()],.bool false]) ⟨rfl,xE⟩
theorem aIw (c aE aF aD aG id:Int)(p:OA)(n f:Nat)(q:OA)(m c2:Nat)(w:World)(k:Nat)(a1 a2 a3:Int)(vs:List aV)(HK:Hid (vs[k]? =some (id,a1,a2,a3)))(hk:k<m)(hm:m≤9223372036854775807)(HS:Hid (Sl w q m c2 4 (vs.flatMap aC)))(HV:xB 12 #[.agg #[aA,aB,.slice p n f,a,c,aE,aF,aD,aG,.slice q m c2]] w true)(HX:xC 112 #[.agg #[aA,aB,.slice p n f,a,c,aE,aF,aD,aG,.slice q m c2],id] w fun w' e w''=>e= .returned (I k)∧Ext w' w''):
  U 154 #[.agg #[aA,aB,.slice p n f,a,c,aE,aF,aD,aG,.slice q m c2],id] w (Z (.tuple #[.agg #[a1,a2,a3],.bool true]) w):=by
 go_enter func154,ntmps154;go_wp2_with fail;refine Ω (HV _ (by exact .alloc (.alloc (.refl _) _) _)) fun w1 h=>?_
 have d:Blk w1 w 32 #[aA,aB,.slice p n f,a,c,aE,aF,aD,aG,.slice q m c2]:=((Blk.new w _ _).alloc _).ext h;have g:Blk w1 (w.heap.size+1) 60 #[(),(),()]:=by have:=(Blk.new (w.alloc (.cells #[aA,aB,.slice p n f,a,c,aE,aF,aD,aG,.slice q m c2] 32)) 60 #[(),(),()]).ext h;simpa using this
 have X1:Ext w w1:=(((Ext.refl w).alloc _).alloc _).trans h;replace d:=xQ d;replace g:=xQ g;clear h;have j:=d.out.ten;go_wp2_with fail;refine Ω (HX _ (by exact X1)) fun w2 i=>?_
 have l:=xQ (d.out.ext i);have o:=xQ (g.out.ext i);have X2:Ext w w2:=X1.trans i;clear j i d g;have r:=l.out.ten;have s:=o.out.trif;obtain⟨b,u,b0,b1,b2,b3,rfl,hv,hb,g0,g1,g2,g3⟩:=iI (HS.out.ext X2) hk;obtain⟨rfl,rfl,rfl,rfl⟩:id=b0∧a1=b1∧a2=b2∧a3=b3:=by have t:=HK.out;rw[hv]at t;simp only[aX3,aX5]at t;exact⟨t.1.symm,t.2.1.symm,t.2.2.1.symm,t.2.2.2.symm⟩
 have i1:=aYp k;have i2:=aYq k m;clear hv;go_wp2;exact aYw (v:= .tuple #[.agg #[a1,a2,a3],.bool true]) ⟨rfl,xE⟩
theorem aHs (x:Int)(HX:xC 92 #[.agg #[aA,aB,.slice p n c,a,b,aE,aF,aD,aG,.slice q m c2],id] w fun w' e w''=>e= .returned (I x)∧Ext w' w'')(HV:xB 11 #[.agg #[aA,aB,.slice p n c,a,b,aE,aF,aD,aG,.slice q m c2]] w false):
  U 128 #[.agg #[aA,aB,.slice p n c,a,b,aE,aF,aD,aG,.slice q m c2],id] w (Z (.tuple #[.agg #[(),(),()],.bool false]) w):=by
 go_enter func128,ntmps128;go_wp2_with fail;refine Ω (HX _ (by exact .alloc (.alloc (.refl _) _) _)) fun w1 g=>?_
 have d:Blk w1 w 32 #[aA,aB,.slice p n c,a,b,aE,aF,aD,aG,.slice q m c2]:=((Blk.new w _ _).alloc _).ext g;have f:Blk w1 (w.heap.size+1) 60 #[(),(),()]:=by have:=(Blk.new (w.alloc (.cells #[aA,aB,.slice p n c,a,b,aE,aF,aD,aG,.slice q m c2] 32)) 60 #[(),(),()]).ext g;simpa using this
 have X1:Ext w w1:=(((Ext.refl w).alloc _).alloc _).trans g;replace d:=xQ d;replace f:=xQ f;clear g;have i:=d.out.ten;go_wp2_with fail;refine Ω (HV _ (by exact X1)) fun w2 h=>?_
 have j:=xQ (f.out.ext h);have X2:Ext w w2:=X1.trans h;clear i h d f;have k:=j.out.trif;go_wp2;exact aYw (v:= .tuple #[.agg #[(),(),()],.bool false]) ⟨rfl,xE⟩
theorem aK7 (HX:xC 92 #[.agg #[aA,aB,.slice p n c,a,b,aE,aF,aD,aG,.slice q m c2],id] w fun w' e w''=>e= .returned (I (-1))∧Ext w' w'')(HV:xB 11 #[.agg #[aA,aB,.slice p n c,a,b,aE,aF,aD,aG,.slice q m c2]] w true):
  U 128 #[.agg #[aA,aB,.slice p n c,a,b,aE,aF,aD,aG,.slice q m c2],id] w (Z (.tuple #[.agg #[(),(),()],.bool false]) w):=by
 go_enter func128,ntmps128;go_wp2_with fail;refine Ω (HX _ (by exact .alloc (.alloc (.refl _) _) _)) fun w1 g=>?_
 have d:Blk w1 w 32 #[aA,aB,.slice p n c,a,b,aE,aF,aD,aG,.slice q m c2]:=((Blk.new w _ _).alloc _).ext g;have f:Blk w1 (w.heap.size+1) 60 #[(),(),()]:=by have:=(Blk.new (w.alloc (.cells #[aA,aB,.slice p n c,a,b,aE,aF,aD,aG,.slice q m c2] 32)) 60 #[(),(),()]).ext g;simpa using this
 have X1:Ext w w1:=(((Ext.refl w).alloc _).alloc _).trans g;replace d:=xQ d;replace f:=xQ f;clear g;have i:=d.out.ten;go_wp2_with fail;refine Ω (HV _ (by exact X1)) fun w2 h=>?_
 have j:=xQ (f.out.ext h);have X2:Ext w w2:=X1.trans h;clear i h d f;have k:=j.out.trif;go_wp2;exact aYw (v:= .tuple #[.agg #[(),(),()],.bool false]) ⟨rfl,xE⟩
theorem aHr (c aE aF aD aG id:Int)(p:OA)(n f:Nat)(q:OA)(m c2:Nat)(w:World)(k:Nat)(a1 a2 a3:Int)(vs:List aV)(HK:Hid (vs[k]? =some (id,a1,a2,a3)))(hk:k<m)(hm:m≤9223372036854775807)(HS:Hid (Sl w q m c2 4 (vs.flatMap aC)))(HX:xC 92 #[.agg #[aA,aB,.slice p n f,a,c,aE,aF,aD,aG,.slice q m c2],id] w fun w' e w''=>e= .returned (I k)∧Ext w' w'')(HV:xB 11 #[.agg #[aA,aB,.slice p n f,a,c,aE,aF,aD,aG,.slice q m c2]] w true):
  U 128 #[.agg #[aA,aB,.slice p n f,a,c,aE,aF,aD,aG,.slice q m c2],id] w (Z (.tuple #[.agg #[a1,a2,a3],.bool true]) w):=by
 go_enter func128,ntmps128;go_wp2_with fail;refine Ω (HX _ (by exact .alloc (.alloc (.refl _) _) _)) fun w1 h=>?_
 have d:Blk w1 w 32 #[aA,aB,.slice p n f,a,c,aE,aF,aD,aG,.slice q m c2]:=((Blk.new w _ _).alloc _).ext h;have g:Blk w1 (w.heap.size+1) 60 #[(),(),()]:=by have:=(Blk.new (w.alloc (.cells #[aA,aB,.slice p n f,a,c,aE,aF,aD,aG,.slice q m c2] 32)) 60 #[(),(),()]).ext h;simpa using this
 have X1:Ext w w1:=(((Ext.refl w).alloc _).alloc _).trans h;replace d:=xQ d;replace g:=xQ g;clear h;have j:=d.out.ten;go_wp2_with fail;refine Ω (HV _ (by exact X1)) fun w2 i=>?_
 have l:=xQ (d.out.ext i);have o:=xQ (g.out.ext i);have X2:Ext w w2:=X1.trans i;clear j i d g;have r:=l.out.ten;have s:=o.out.trif;obtain⟨b,u,b0,b1,b2,b3,rfl,hv,hb,g0,g1,g2,g3⟩:=iI (HS.out.ext X2) hk;obtain⟨rfl,rfl,rfl,rfl⟩:id=b0∧a1=b1∧a2=b2∧a3=b3:=by have t:=HK.out;rw[hv]at t;simp only[aX3,aX5]at t;exact⟨t.1.symm,t.2.1.symm,t.2.2.1.symm,t.2.2.2.symm⟩
 have i1:=aYp k;have i2:=aYq k m;clear hv;go_wp2;exact aYw (v:= .tuple #[.agg #[a1,a2,a3],.bool true]) ⟨rfl,xE⟩
theorem aTz (hi:IsHouse w h p n c q m c2):
  U 154 #[bV h p n c q m c2,id] w (Z (aDx h id) w):=by
 have HV:=fun(w':World) (hx:Ext w w')=>lB h p n c q m c2 w' (hi.ext hx)
 have f:=hi.vlen;obtain⟨aA,aB,d,a,b,aE,aF,aD,aG,vs⟩:=h;have HX:=fun(w':World) (hx:Ext w w')=>lJ aA aB a b aE aF aD aG id p n c q m c2 vs w' (hi.vs.ext hx)
 unfold aDx iL;simp only at f HV HX⊢;cases hok:bC ⟨aA,aB,d,a,b,aE,aF,aD,aG,vs⟩with
 |false=>rw[hok]at HV;simpa using aIx aA aB a b aE aF aD aG id p n c q m c2 w HV
 |true=>
  rw[hok]at HV;rcases pS id vs with⟨hx,hv⟩|⟨k,a1,a2,a3,hk,hx,hv,hf⟩
  ·rw[hx]at HX;rw[hv];simpa using aLn aA aB a b aE aF aD aG id p n c q m c2 w HV HX
  rw[hx]at HX;rw[hf];simpa using aIw aA aB a b aE aF aD aG id p n c q m c2 w k a1 a2 a3 vs hv (by omega) hi.vs.bd hi.vs HV HX
theorem aTa (hi:IsHouse w h p n c q m c2):
  U 128 #[bV h p n c q m c2,id] w (Z (aDx h id) w):=by
 have HV:=fun(w':World) (hx:Ext w w')=>mE h p n c q m c2 w' (hi.ext hx)
 have f:=hi.vlen;obtain⟨aA,aB,d,a,b,aE,aF,aD,aG,vs⟩:=h;have HX:=fun(w':World) (hx:Ext w w')=>vT aA aB a b aE aF aD aG id p n c q m c2 vs w' (hi.vs.ext hx)
 unfold aDx iL;simp only at f HV HX⊢;cases hok:bC ⟨aA,aB,d,a,b,aE,aF,aD,aG,vs⟩with
 |false=>rw[hok]at HV;simpa using aHs aA aB a b aE aF aD aG id p n c q m c2 w _ HX HV
 |true=>
  rw[hok]at HV;rcases pS id vs with⟨hx,hv⟩|⟨k,a1,a2,a3,hk,hx,hv,hf⟩
  ·rw[hx]at HX;rw[hv];simpa using aK7 aA aB a b aE aF aD aG id p n c q m c2 w HX HV
  rw[hx]at HX;rw[hf];simpa using aHr aA aB a b aE aF aD aG id p n c q m c2 w k a1 a2 a3 vs hv (by omega) hi.vs.bd hi.vs HX HV
theorem aOz (g:xC 154 #[.agg #[aA,aB,.slice p n c,a,b,aE,aF,aD,aG,.slice q m c2],id] w fun w' e w''=>e= .returned (.tuple #[.agg #[(),(),()],.bool false])∧Ext w' w''):
  U 114 #[.agg #[aA,aB,.slice p n c,a,b,aE,aF,aD,aG,.slice q m c2],id] w (Z (.bool false) w):=by
 go_enter func114,ntmps114;go_wp2_with fail;refine Ω (g _ xE) fun w1 d=>?_
 have f:Blk w1 w 32 #[aA,aB,.slice p n c,a,b,aE,aF,aD,aG,.slice q m c2]:=(Blk.new w _ _).ext d;have X1:Ext w w1:=((Ext.refl w).alloc _).trans d;replace f:=xQ f;clear d;go_wp2;go_ret;exact⟨rfl,xE⟩
theorem aLq (g:xC 154 #[.agg #[aA,aB,.slice p n d,a,b,aE,aF,aD,aG,.slice q m c2],id] w fun w' e w''=>e= .returned (.tuple #[.agg #[a1,a2,a3],.bool true])∧Ext w' w'')(HD:Hid (∀w',U 155 #[aR a b aE aF,cK a1 a2 a3,aD] w' (Z (.bool D) w'))):
  U 114 #[.agg #[aA,aB,.slice p n d,a,b,aE,aF,aD,aG,.slice q m c2],id] w (Z (.bool D) w):=by
 go_enter func114,ntmps114;go_wp2_with fail;refine Ω (g _ xE) fun w1 f=>?_
 have c:Blk w1 w 32 #[aA,aB,.slice p n d,a,b,aE,aF,aD,aG,.slice q m c2]:=(Blk.new w _ _).ext f;have X1:Ext w w1:=((Ext.refl w).alloc _).trans f;have s1:(w:Nat)<w1:=c.lt;replace c:=xQ c;clear f;have h:=c.out.ten;go_wp2_with fail;refine Ω (HD _) fun w2 i=>?_
 go_wp2;go_ret;exact⟨rfl,xE⟩
theorem aNu (g:xC 128 #[.agg #[aA,aB,.slice p n c,a,b,aE,aF,aD,aG,.slice q m c2],id] w fun w' e w''=>e= .returned (.tuple #[.agg #[(),(),()],.bool false])∧Ext w' w''):
  U 93 #[.agg #[aA,aB,.slice p n c,a,b,aE,aF,aD,aG,.slice q m c2],id] w (Z (.bool false) w):=by
 go_enter func93,ntmps93;go_wp2_with fail;refine Ω (g _ xE) fun w1 d=>?_
 have f:Blk w1 w 32 #[aA,aB,.slice p n c,a,b,aE,aF,aD,aG,.slice q m c2]:=(Blk.new w _ _).ext d;have X1:Ext w w1:=((Ext.refl w).alloc _).trans d;replace f:=xQ f;clear d;go_wp2;go_ret;exact⟨rfl,xE⟩
theorem aKd (g:xC 128 #[.agg #[aA,aB,.slice p n d,a,b,aE,aF,aD,aG,.slice q m c2],id] w fun w' e w''=>e= .returned (.tuple #[.agg #[a1,a2,a3],.bool true])∧Ext w' w'')(HD:Hid (∀w',U 129 #[aR a b aE aF,cK a1 a2 a3,aD] w' (Z (.bool D) w'))):
  U 93 #[.agg #[aA,aB,.slice p n d,a,b,aE,aF,aD,aG,.slice q m c2],id] w (Z (.bool D) w):=by
 go_enter func93,ntmps93;go_wp2_with fail;refine Ω (g _ xE) fun w1 f=>?_
 have c:Blk w1 w 32 #[aA,aB,.slice p n d,a,b,aE,aF,aD,aG,.slice q m c2]:=(Blk.new w _ _).ext f;have X1:Ext w w1:=((Ext.refl w).alloc _).trans f;have s1:(w:Nat)<w1:=c.lt;replace c:=xQ c;clear f;have h:=c.out.ten;go_wp2_with fail;refine Ω (HD _) fun w2 i=>?_
 go_wp2;go_ret;exact⟨rfl,xE⟩
theorem aDw {h:aQ}{id a1 a2 a3:Int}(hs:iL h id=some (a1,a2,a3)):bP h.free h.step h.aE h.aF=true∧dV a1 a2 a3=true∧a3≤h.aD∧h.aD≤9999:=by
 unfold iL at hs;split at hs
 ·rename_i hok;rw[Option.map_eq_some_iff]at hs;obtain⟨v,hv,e⟩:=hs;have hm:=aXw hv;simp only[bC,yX,aWc,decide_eq_true_eq]at hok;have:=(nJ hok.2).2 v hm;obtain⟨v0,v1,v2,v3⟩:=v;simp only[aX5]at e;obtain⟨rfl,rfl,rfl⟩:=e;simp only[iH,aWc,decide_eq_true_eq]at this;exact⟨hok.1.1.2,this.1,this.2,hok.1.2.2.1⟩
 simp at hs
theorem aGl (b:Nat)(q:OA)(m c2:Nat)(w:World)(hi:IsHouse w h p n b q m c2):
  U 114 #[bV h p n b q m c2,id] w (Z (.bool (gI h id)) w):=by
 have a:=fun(w':World) (hx:Ext w w')=>aTz h id p n b q m c2 w' (hi.ext hx)
 unfold aDx at a;unfold gI;cases hs:iL h id with
 |none=>rw[hs]at a;exact aOz h.aA h.aB h.free h.step h.aE h.aF h.aD h.aG id p n b q m c2 w a
 |some s=>obtain⟨a1,a2,a3⟩:=s;rw[hs]at a;obtain⟨t,st,hc,h9⟩:=aDw hs;exact aLq h.aA h.aB h.free h.step h.aE h.aF h.aD h.aG id p n b q m c2 w a1 a2 a3 _ a (fun w'=>aV2 h.free h.step h.aE h.aF a1 a2 a3 h.aD w' t st hc h9)
theorem aFi (b:Nat)(q:OA)(m c2:Nat)(w:World)(hi:IsHouse w h p n b q m c2):
  U 93 #[bV h p n b q m c2,id] w (Z (.bool (gI h id)) w):=by
 have a:=fun(w':World) (hx:Ext w w')=>aTa h id p n b q m c2 w' (hi.ext hx)
 unfold aDx at a;unfold gI;cases hs:iL h id with
 |none=>rw[hs]at a;exact aNu h.aA h.aB h.free h.step h.aE h.aF h.aD h.aG id p n b q m c2 w a
 |some s=>obtain⟨a1,a2,a3⟩:=s;rw[hs]at a;obtain⟨t,st,hc,h9⟩:=aDw hs;exact aKd h.aA h.aB h.free h.step h.aE h.aF h.aD h.aG id p n b q m c2 w a1 a2 a3 _ a (fun w'=>aUn h.free h.step h.aE h.aF a1 a2 a3 h.aD w' t st hc h9)
end Go.Proofs.YthfmmibomhhmpabGreatDoor
