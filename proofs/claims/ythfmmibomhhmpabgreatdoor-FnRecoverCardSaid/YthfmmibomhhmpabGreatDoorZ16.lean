/- Lemmas (@packed). -/
import Derived.Lib.AppendZerosOnto
import Derived.Lib.LaidTab
import Derived.Lib.SlicesMore
import Derived.Lib.TrailingZeros
import Derived.Shelf.Spec.SlicesInsert
import Derived.Test.YthfmmibomhhmpabGreatDoorZ15
namespace Go.Proofs.YthfmmibomhhmpabGreatDoor
open Go.RowKit Go.Proofs.Tryz
set_option linter.all false
set_option maxHeartbeats 8000000
set_option maxRecDepth 100000
variable{B:List Int}{L:List Item}{Q:List Nat}{X C V:List Value}{t N j a c i d S:Nat}{w0 w':World}(K:List Item)(x:Nat)(q:OA)(m c2 g:Nat)(aA aB:Int)(w:World)(k n M s f:Nat)
theorem aMa (xs:List Int)(w:World)(hm:m≤1000)(hS:Sl w q m c2 1 (ivs xs)):
  U 109 #[.slice q m c2] w (aYy TI 1 m (ivs xs) w fun q' c'=> .slice q' m c'):=by
 cases q with
 |none=>
  have h0:m=0:=by
   by_cases h:0<m
   ·obtain⟨b,g,e,_⟩:=hS.rd h;cases e
   omega
  subst h0;have d:ivs xs= []:=aWv (by have:=hS.len;simpa using this);have f: ∀(w:World) (a:OA) (n c n' c':Nat),(binOp .eql 25 (.slice a n c) (.slice none n' c')).run prog w= .ok (.bool a.isNone) w:=fun w a n c n' c'=>Lib.run_eql_slice_nil w _ _ a n c n' c' underlying25
  clear hS;go_enter func109,ntmps109;go_wp2;go_ret;exact⟨none,0,rfl,by rw[d];exact aW9 _ _ _ _,Ext.refl _⟩
 |some a=>
  have HS:=xQ hS;have MS:=((Mem.start w).made0 TI 1 w (by simp))
  have f: ∀(w:World) (a:OA) (n c n' c':Nat),(binOp .eql 25 (.slice a n c) (.slice none n' c')).run prog w= .ok (.bool a.isNone) w:=fun w a n c n' c'=>Lib.run_eql_slice_nil w _ _ a n c n' c' underlying25
  clear hS;go_enter func109,ntmps109;go_wp2_with (at_builtin;go_loud (refine dN iA rfl _ _ rfl MS 0 rfl rfl (ivs xs) rfl (HS.out.ext ((Ext.refl _).alloc _)) (rD xs) (by omega) ?_;intro q7 c7 w6 M6));have M7:=(show Mem w w6 [aJ w TI 1 q7 m c7 (ivs xs)]from by simpa using M6)
  clear M6;go_wp2;go_ret;exact⟨q7,c7,rfl,M7.ow 0,M7.ext⟩
theorem oI (p:OA)(n a:Nat)(xs:List Int)(w:World)(hn:n≤1000)(hS:Sl w p n a 1 (ivs xs)):
  U 70 #[aH aA aB p n a] w (eA aA aB xs w):=by
 have hl:=xQ hS.ilen;have HS:=xQ hS;clear hS;have HK:xC 109 #[.slice p n a] w fun w' e w''=> ∃q' c',e= .returned (.slice q' n c')∧w''.ownsRow w' TI 1 (.slice q' n c') n (ivs xs)∧Ext w' w'':=fun w' hx=>aMa p n a xs w' hn (HS.out.ext hx)
 go_enter func70,ntmps70;go_wp2;have ME:=(((Mem.start w).c0 TH3 #[aA,aB,.slice p n a]).c1 TH3 #[(),(),((),())])
 refine rL (gl [gEq (.pointer (some ⟨w,0,none⟩)),gEq aA,gEq (.pointer (some ⟨w,1,none⟩)),gEq aB,gEq (.pointer (some ⟨w,2,none⟩)),gEq (.slice p n a),(fun v w'=> ∃q c,v= .slice q n c∧w'.ownsRow (w.heap.size+2) TI 1 (.slice q n c) n (ivs xs)),(fun v w'=> ∃q c,v=aH aA aB q n c∧w'.ownsRow (w.heap.size+2) TI 1 (.slice q n c) n (ivs xs))]) 8 9 [(0,some 3),(1,some 4),(2,some 5),(3,some 6),(4,some 7),(5,some 8),(6,some 9),(7,some 10)] ?steps ?fin (hG:=(mQ (aW (bL _) (aW (bL _) (aW (bL _) (aW (bL _) (aW (bL _) (aW (bL _) (aW (fun v w w' ⟨q,c,he,ho⟩ hx=>⟨q,c,he,aM ho hx⟩) (aW (fun v w w' ⟨q,c,he,ho⟩ hx=>⟨q,c,he,aM ho hx⟩) (pM)))))))))))
 case steps=>
  refine sS0 [] ?_;refine sC [(0,some 3)] rfl (fun wi hx=> ?_) ?_
  ·intro v0 h0 K hK;obtain rfl:=h0;have hX:Ext ((w.alloc (.cells #[aA,aB,.slice p n a] TH3)).alloc (.cells #[(),(),((),())] TH3)) wi:=xE;have d:=((ME.bk 1).ext hX).cl 0;go_simp;exact hK _ _ ⟨I aA,rfl,rfl,Ext.refl _⟩
  refine sS0 [] ?_;refine sC [(2,some 5)] rfl (fun wi hx=> ?_) ?_
  ·intro v2 h2 K hK;obtain rfl:=h2;have hX:Ext ((w.alloc (.cells #[aA,aB,.slice p n a] TH3)).alloc (.cells #[(),(),((),())] TH3)) wi:=xE;have d:=((ME.bk 1).ext hX).cl 1;go_simp;exact hK _ _ ⟨I aB,rfl,rfl,Ext.refl _⟩
  refine sS0 [] ?_;refine sC [(4,some 7)] rfl (fun wi hx=> ?_) ?_
  ·intro v4 h4 K hK;obtain rfl:=h4;have hX:Ext ((w.alloc (.cells #[aA,aB,.slice p n a] TH3)).alloc (.cells #[(),(),((),())] TH3)) wi:=xE;have d:=((ME.bk 1).ext hX).cl 2;go_simp;exact hK _ _ ⟨.slice p n a,rfl,rfl,Ext.refl _⟩
  refine sC [(5,some 8)] rfl (fun wi hx=> ?_) ?_
  ·intro v5 h5 K hK;obtain rfl:=h5;go_wp2_with fail;refine(HK _ (ME.ext.trans hx.of_drew)).mono ?_;rintro e w5 ⟨q5,c5,rfl,o5,h⟩;go_simp;exact hK _ _ ⟨.slice q5 n c5,rfl,⟨q5,c5,rfl,bF o5 (by have:=hx.sz;simp at this;omega)⟩,h⟩
  refine sC [(1,some 4),(3,some 6),(6,some 9)] rfl (fun wi hx=> ?_) StepsL.nil
  ·intro v1 h1 v3 h3 v6 h6 K hK;subst h1 h3;obtain⟨q6,c6,rfl,b⟩:=h6;go_simp;exact hK _ _ ⟨aH aA aB q6 n c6,rfl,⟨q6,c6,rfl,b⟩,Ext.refl _⟩
 case fin=>
  intro wi hx v0 h0 v1 h1 v2 h2 v3 h3 v4 h4 v5 h5 v6 h6 v7 h7;subst h0 h1 h2 h3 h4 h5;obtain⟨q6,c6,rfl,b⟩:=h6;obtain⟨q7,c7,rfl,f⟩:=h7;have hX:Ext ((w.alloc (.cells #[aA,aB,.slice p n a] TH3)).alloc (.cells #[(),(),((),())] TH3)) wi:=hx.of_drew;have M2:=(show Mem w wi [aJ w TI 1 (q7) (n) (c7) (ivs xs),aI w (w.heap.size+1) TH3 #[(),(),((),())],aI w w TH3 #[aA,aB,.slice p n a]]from ME.ownNew hX f (by simp))
  clear ME hx hX b f HK HS;try go_frame
  have z_:=(M2.bk 1).trif;refine wpAny_ready (rs:= [8]) (by kernel_rfl) (by simp) ?_;refine AllReady.cons rfl (fun K hK=> ?_) AllReady.nil;go_simp;refine hK _ _ ?_;clear hK K;refine wpAny_done (by kernel_rfl) ?_ _;try go_frame
  have M3:=((M2.st 1 0 (I aA)).st 1 1 (I aB))
  have M4:=(M3.st 1 2 (.slice q7 n c7))
  go_wp2;have M5:=(show Mem w (((wi.setCell ⟨w.heap.size+1,0,none⟩ (I aA)).setCell ⟨w.heap.size+1,1,none⟩ (I aB)).setCell ⟨w.heap.size+1,2,none⟩ (.slice q7 n c7)) [aJ w TI 1 (q7) (n) (c7) (ivs xs),aI w (w.heap.size+1) TH3 #[aA,aB,.slice q7 n c7],aI w w TH3 #[aA,aB,.slice p n a]]from M4)
  generalize g:World.setCell _ _ _=wz;rw[g]at M5;clear g M2 M3 M4 z_;have y_:=(M5.bk 1).tri;exact aYw (v:=aH aA aB q7 n c7) (wV hl.out (M5.ow 0) M5.ext)
theorem aM9 (xs:List Value)(w:World)(hm:m≤1000)(hS:Sl w q m c2 4 xs)(h1: ∀u∈xs,u.oneCell'=true):
  U 71 #[.slice q m c2] w (aYy TV 4 m xs w fun q' c'=> .slice q' m c'):=by
 cases q with
 |none=>
  have h0:m=0:=by
   by_cases h:0<m
   ·obtain⟨b,f,e,_⟩:=hS.rd h;cases e
   omega
  subst h0;obtain rfl:xs= []:=aWv (by have:=hS.len;simpa using this);have d: ∀(w:World) (a:OA) (n c n' c':Nat),(binOp .eql 30 (.slice a n c) (.slice none n' c')).run prog w= .ok (.bool a.isNone) w:=fun w a n c n' c'=>Lib.run_eql_slice_nil w _ _ a n c n' c' underlying30
  clear hS;go_enter func71,ntmps71;go_wp2;go_ret;exact⟨none,0,rfl,aW9 _ _ _ _,Ext.refl _⟩
 |some a=>
  have HS:=xQ hS;have HO:=xQ h1;have MS:=((Mem.start w).made0 TV 4 w (by simp))
  have d: ∀(w:World) (a:OA) (n c n' c':Nat),(binOp .eql 30 (.slice a n c) (.slice none n' c')).run prog w= .ok (.bool a.isNone) w:=fun w a n c n' c'=>Lib.run_eql_slice_nil w _ _ a n c n' c' underlying30
  clear hS h1;go_enter func71,ntmps71;go_wp2_with (at_builtin;go_loud (refine dN zF rfl _ _ rfl MS 0 rfl rfl xs rfl (HS.out.ext ((Ext.refl _).alloc _)) HO (by omega) ?_;intro q7 c7 w6 M6));have M7:=(show Mem w w6 [aJ w TV 4 q7 m c7 xs]from by simpa using M6)
  clear M6;go_wp2;go_ret;exact⟨q7,c7,rfl,M7.ow 0,M7.ext⟩
theorem aP4 (a b aE aF aD aG:Int)(p:OA)(n d:Nat)(q:OA)(m c2:Nat)(xs:List Int)(vs:List aV)(w:World)(HL:xC 70 #[aH aA aB p n d] w fun w' e w''=> ∃q c,e= .returned (aH aA aB q n c)∧w''.ownsRow w' TI 1 (.slice q n c) n (ivs xs)∧Ext w' w'')(o:xC 71 #[.slice q m c2] w fun w' e w''=> ∃q' c',e= .returned (.slice q' m c')∧w''.ownsRow w' TV 4 (.slice q' m c') m (vs.flatMap aC)∧Ext w' w''):
  U 39 #[.agg #[aA,aB,.slice p n d,a,b,aE,aF,aD,aG,.slice q m c2]] w (aYz w n (ivs xs) m (vs.flatMap aC) w fun p' cap' q' c2'=> .agg #[aA,aB,.slice p' n cap',a,b,aE,aF,aD,aG,.slice q' m c2']):=by
 go_enter func39,ntmps39;go_wp2_with fail;refine(HL _ (Mem.b3 w).ext).mono ?_;rintro e w1 ⟨q0,c0,rfl,f,j⟩;have M1:=((Mem.b3 w).call j f)
 clear j f;have c9:=(M1.bk 3).cl 9;have d0:=(M1.bk 1).cl 0;have r:=(M1.bk 1).frozen 0;have d1:=(M1.bk 1).cl 1;have s:=(M1.bk 1).frozen 1;have d2:=(M1.bk 1).cl 2;have t:=(M1.bk 1).frozen 2;go_wp2_with fail;clear c9 d0 r d1 s d2 t;refine(o _ (((M1.store (i:=1) rfl 0 (I aA)).store (i:=1) rfl 1 (I aB)).store (i:=1) rfl 2 (.slice q0 n c0)).ext).mono ?_;rintro e w2 ⟨q7,c7,rfl,g,k⟩;have M2:=((((M1.st 1 0 (I aA)).st 1 1 (I aB)).st 1 2 (.slice q0 n c0)).call k g)
 clear M1 k g;have x_:=(M2.bk 2).ten;have u:=(M2.bk 2).cl 9;have l:=(M2.bk 2).frozen 9;obtain⟨y0,x,y1,y,y2,z,y3,aa,y4,ab,y5,ad,y6,ae,y7,af,y8,ag,y9,ah⟩:=(M2.bk 3).tenf;go_wp2;clear x_ u l y0 x y1 y y2 z y3 aa y4 ab y5 ad y6 ae y7 af y8 ag y9 ah;have M3:=(show Mem w (((((((((((w2.setCell ⟨w.heap.size+1+1,9,none⟩ (.slice q7 m c7)).setCell ⟨w.heap.size+1,0,none⟩ (I aA)).setCell ⟨w.heap.size+1,1,none⟩ (I aB)).setCell ⟨w.heap.size+1,2,none⟩ (.slice q0 n c0)).setCell ⟨w.heap.size+1,3,none⟩ (I a)).setCell ⟨w.heap.size+1,4,none⟩ (I b)).setCell ⟨w.heap.size+1,5,none⟩ (I aE)).setCell ⟨w.heap.size+1,6,none⟩ (I aF)).setCell ⟨w.heap.size+1,7,none⟩ (I aD)).setCell ⟨w.heap.size+1,8,none⟩ (I aG)).setCell ⟨w.heap.size+1,9,none⟩ (.slice q7 m c7)) [aJ w TV 4 (q7) (m) (c7) (vs.flatMap aC),aJ w TI 1 (q0) (n) (c0) (ivs xs),aI w (w.heap.size+1+1) aN #[aA,aB,.slice q0 n c0,a,b,aE,aF,aD,aG,.slice q7 m c7],aI w (w.heap.size+1) aN #[aA,aB,.slice q0 n c0,a,b,aE,aF,aD,aG,.slice q7 m c7],aI w w aN #[aA,aB,.slice p n d,a,b,aE,aF,aD,aG,.slice q m c2]]from((M2.store (i:=2) rfl 9 (.slice q7 m c7)).put10 (i:=3) rfl (I aA) (I aB) (.slice q0 n c0) (I a) (I b) (I aE) (I aF) (I aD) (I aG) (.slice q7 m c7)))
 generalize h:World.setCell _ _ _=wz;rw[h]at M3;clear h M2;obtain⟨y0,y1,y2,y3,y4,y5,y6,y7,y8,y9⟩:=(M3.bk 3).ten;exact aYw (v:= .agg #[aA,aB,.slice q0 n c0,a,b,aE,aF,aD,aG,.slice q7 m c7]) ⟨q0,c0,q7,c7,rfl,(M3.ow 1),(M3.ow 0),M3.ext⟩
theorem vK (h:aQ)(p:OA)(n a:Nat)(q:OA)(m c2:Nat)(w:World)(hn:n≤1000)(hm:m≤1000)(hi:IsHouse w h p n a q m c2):
  U 39 #[bV h p n a q m c2] w (RetHouse h w):=by
 have hl:=hi.clen;have f:=hi.vlen;refine(aP4 h.aA h.aB h.free h.step h.aE h.aF h.aD h.aG p n a q m c2 h.cells h.vs w (xQ fun w' hx=> ?_) (xQ fun w' hx=>aM9 q m c2 _ w' hm (hi.vs.ext hx) (gE _))).mono ?_
 ·refine(oI h.aA h.aB p n a h.cells w' hn (hi.cells.ext hx)).mono ?_;rintro e i ⟨q,c,rfl,ho,g⟩;rw[hl]at ho⊢;exact⟨q,c,rfl,ho,g⟩
 rintro e w' ⟨p',b,q',d,rfl,h1,h2,h3⟩;subst hl f;exact⟨p',b,q',d,rfl,h1,h2,h3⟩
theorem sG: ∀(k:Nat) (vs:List aV),(vs.flatMap aC).take (k*4)=(vs.take k).flatMap aC
 |0,vs=>by simp
 |k+1,[]=>by simp
 |k+1,v::vs=>by rw[aXb,show(k+1)*4=(aC v).length+k*4 by simp[aC];omega,List.take_length_add_append,sG k vs];rfl
theorem aU5 {W0 wr:World}{B:Nat}(hg:W0.grownBy wr (some B))(o:Nat)(v:Value):W0.grownBy (wr.setCell ⟨B,o,none⟩ v) (some B):=
 ⟨hg.os,hg.tape,hg.output,by simpa using hg.size,fun k hk hne=>by rw[aYf _ _ _ _ (fun e=>hne (by simp[e]))];exact hg.block k hk hne⟩
theorem zR {α:Type}: ∀(xs:List α) (k:Nat) (v:α),k<xs.length→(xs.set k v).take (k+1)=xs.take k++ [v]
 | [],_,_,h=>by simp at h
 |x::xs,0,v,_=>by simp
 |x::xs,k+1,v,h=>by simp only[aWf,aYh,zR xs k v (by simpa using h)];rfl
theorem aA8 {α:Type}: ∀(xs:List α) (k j:Nat) (v:α),k<j→(xs.set k v).drop j=xs.drop j
 | [],_,_,_,_=>by simp
 |x::xs,0,j+1,v,_=>by simp
 |x::xs,k+1,j+1,v,h=>by simp only[aWf,aYj];exact aA8 xs k j v (by omega)
theorem iX {B n c sz g:Nat}{e:TypeId}: ∀(vs:List Value) (k:Nat) (xs:List Value) (w:World),w.ownsRow B e sz (.slice (some ⟨g,0,none⟩) n c) n xs→k+vs.length≤xs.length→
  (w.setCells g k vs).ownsRow B e sz (.slice (some ⟨g,0,none⟩) n c) n (xs.take k++vs++xs.drop (k+vs.length))∧w.grownBy (w.setCells g k vs) (some g)
 | [],k,xs,w,h,_=>by refine⟨?_,aXk _ _⟩;simpa[World.setCells]using h
 |v::vs,k,xs,w,h,hl=>by simp only[aX0]at hl;obtain⟨h1,h2⟩:=iX vs (k+1) (xs.set k v) _ (h.stored k v).1 (by simp;omega);rw[zR xs k v (by omega),aA8 xs k _ v (by omega)]at h1;refine⟨?_,(aU5 (aXk _ _) k v).trans h2⟩;rw[aX0,show k+(vs.length+1)=k+1+vs.length by omega];simpa[World.setCells]using h1
theorem aTp {w:World}{B n sz k:Nat}{e:TypeId}{q:OA}{xs:List Value}(h:w.ownsRow B e sz (.slice q n c) n xs)(hk:k≤n)(h0:0<n):w.ownsRow B e sz (.slice q k c) k (xs.take (k*sz)):=by
 have hm:=aXm sz hk;refine⟨by rw[aWn,h.1];omega,?_⟩;rcases h.2 with⟨_,h3⟩|⟨g,cap',cur,e1,hb,hg,hn,hmx,hs,ht⟩
 ·omega
 injection e1 with e1 e2 e3;subst e1 e3;refine .inr ⟨g,c,cur,rfl,hb,hg,by omega,hmx,hs,?_⟩;rw[←ht,List.take_take,Nat.min_eq_left hm]
theorem aJu:(zeroValue TV).run prog w= .ok (.agg #[(),(),(),()]) w:=by simp[Tryz.zeroValue62]
theorem aJl (ty:TypeId)(b o c:Nat)(hc: ∀j,j<4→(w.cell? ⟨b,o+j,none⟩).isSome=true)(hf: ∀j,j<4→w.frozen? ⟨b,o+j,none⟩=false):
  (Builtin.clear_ #[30] ty #[.slice (some ⟨b,o,none⟩) 1 c]).run prog w= .ok (.tuple #[]) (w.setCells b o [I 0,I 0,I 0,I 0]):=by
 have d:(Builtin.zeroCells (Value.agg #[(),(),(),()]).cells 1).toList= [I 0,I 0,I 0,I 0]:=by kernel_rfl
 have a:=run_storeCells_cells (P:=prog) b o [I 0,I 0,I 0,I 0] 0 w (by simpa using hc) (by simpa using hf) (by intro v hv;simp at hv;subst hv;rfl);simp only[Nat.add_zero]at a;simp[Builtin.clear_,run_underlying underlying30,aJu,d,a]
theorem aJf (bs:List aV)(i n:Nat)(hn:bs.length=n)(hi:i<n):
  ((bs.flatMap aC).take (i*4)++(bs.drop (i+1)).flatMap aC++(bs.flatMap aC).drop (i*4+((bs.drop (i+1)).flatMap aC).length)).take ((n-1)*4)=(bs.eraseIdx i).flatMap aC:=by
 have h1:((bs.take i).flatMap aC).length=i*4:=by rw[eC aC 4 (fun _=>rfl),aWn];congr 1;omega
 have h2:((bs.drop (i+1)).flatMap aC).length=(n-1-i)*4:=by rw[eC aC 4 (fun _=>rfl),aWt];congr 1;omega
 rw[sG,aXy (by rw[aW5,h1,h2,←Nat.add_mul];exact aXm 4 (by omega)),aW4 (by rw[aW5,h1,h2,←Nat.add_mul];exact aXm 4 (by omega)),←aX4,List.eraseIdx_eq_take_drop_succ]
theorem aSs (c B i j:Nat)(bs:List aV)(w:World)(hn:n≤1000)(hi:i<n)(hj:Hid (j=i+1))(hO:w.ownsRow B TV 4 (.slice (some ⟨g,0,none⟩) n c) n (bs.flatMap aC)):
  U 116 #[.slice (some ⟨g,0,none⟩) n c,i,j] w fun e w'=>e= .returned (.slice (some ⟨g,0,none⟩) (n-1) c)∧w'.ownsRow B TV 4 (.slice (some ⟨g,0,none⟩) (n-1) c) (n-1) ((bs.eraseIdx i).flatMap aC)∧w.grownBy w' (some g):=by
 obtain⟨i0,y,al,z,am⟩:=info_parts (show(prog.info? TV).map (fun i=>(i.zero,i.size,i.bytes))=some (some (.agg #[(),(),(),()]),4,32) by kernel_rfl);have d:w.drew.ownsRow B TV 4 (.slice (some ⟨g,0,none⟩) n c) n (bs.flatMap aC):=aM hO (Ext.drew (Ext.refl _));have l:bs.length=n:=by have:=hO.1;rw[eC aC 4 (fun _=>rfl)]at this;omega
 have aa:n≤c:=by
  rcases hO.2 with⟨_,h3⟩|⟨g',cap',cur,e1,hb,hg,hn',_⟩
  ·omega
  injection e1 with e1 e2 e3;omega
 have m:j=i+1:=hj.out;obtain⟨news,a⟩: ∃news,news=(bs.drop (i+1)).flatMap aC:=⟨_,rfl⟩
 have b:news.length=(n-j)*4:=by rw[a,eC aC 4 (fun _=>rfl),aWt,l,m]
 obtain⟨A,hA,s⟩: ∃A:Addr,(if c=j then some (⟨g,0,none⟩:Addr)else some ⟨g,j*4,none⟩)=some A∧Hid (∀t u,news[t]? =some u→w.drew.cell? (A.add t)=some u):=by
  by_cases h:c=j
  ·refine⟨⟨g,0,none⟩,by simp[h],fun t u hu=> ?_⟩;rw[aWv (by rw[b];omega:news.length=0)]at hu;simp at hu
  refine⟨⟨g,j*4,none⟩,by simp[h],fun t u hu=> ?_⟩;have ht:t<(n-j)*4:=by have:=(aW3.1 hu).1;rwa[b]at this
  rw[Addr.add_lit,d.cellAt _ (by omega)];rw[a,←nA,List.getElem?_drop]at hu;rw[m];exact hu
 have s1:Hid (news.length=(n-j)*4):=b;have s2:Hid (∀u∈news,u.oneCell'=true):=by show∀u∈news,_;rw[a];exact gE _
 have o:(bs.flatMap aC).length=n*4:=by rw[eC aC 4 (fun _=>rfl),l]
 have s3:Hid (∀t,t<news.length→(w.drew.cell? ⟨g,0+i*4+t,none⟩).isSome=true∧w.drew.frozen? ⟨g,0+i*4+t,none⟩=false):=by intro t ht;rw[b]at ht;refine⟨?_,d.frozenAt _⟩;rw[d.cellAt _ (by omega),aW0 (by rw[o];omega)];rfl
 obtain⟨W1,f⟩: ∃W1,W1=w.drew.setCells g (0+i*4) news:=⟨_,rfl⟩
 obtain⟨h1,g1⟩:=iX news (i*4) _ _ d (by rw[b,o];omega);have hW:Hid (W1=w.drew.setCells g (0+i*4) news):=f;rw[aWz]at f;rw[←f]at h1 g1;obtain⟨ys,p⟩: ∃ys,ys=(bs.flatMap aC).take (i*4)++news++(bs.flatMap aC).drop (i*4+news.length):=⟨_,rfl⟩
 rw[←p]at h1;have ad:=fun ty=>aJl W1 ty g ((n-1)*4) (c-(n-1)) (fun t ht=>by rw[h1.cellAt _ (by omega),aW0 (by rw[h1.1];omega)];rfl) (fun t _=>h1.frozenAt _)
 obtain⟨h2,g2⟩:=iX [I 0,I 0,I 0,I 0] ((n-1)*4) _ _ h1 (by rw[h1.1];simp;omega);have q:Hid ((W1.setCells g ((n-1)*4) [I 0,I 0,I 0,I 0]).ownsRow B TV 4 (.slice (some ⟨g,0,none⟩) (n-1) c) (n-1) ((bs.eraseIdx i).flatMap aC)):=by have h3:=aTp h2 (k:=n-1) (by omega) (by omega);rw[aWu,aXy (by rw[aWn,h1.1];omega),List.take_take,Nat.min_self,p,a,aJf bs i n l hi]at h3;exact h3
 have x:Hid (w.grownBy (W1.setCells g ((n-1)*4) [I 0,I 0,I 0,I 0]) (some g)):=by exact(show w.grownBy w.drew (some g)from⟨rfl,rfl,rfl,aVz _,fun _ _ _=>rfl⟩).trans (g1.trans g2)
 have ag:i≤j:=by omega
 have ah:j≤n:=by omega
 have af:i≤c:=by omega
 have ak: ¬i=j:=by omega
 have r:i+(n-j)=n-1:=by omega
 have ab:n-(n-1)=1:=by omega
 have ai:n-1≤n:=by omega
 have aj:n-1≤c:=by omega
 have ae: ¬c=n-1:=by omega
 have v:=xQ r;clear f h1 g1 h2 g2 p a b hO d l o m hj r;go_enter func116,ntmps116;go_wp2_with fail;go_region_law (refine step_append_room rfl (.tmp 22) (.tmp 25) 30 rfl TV i0 4 underlying30 y z g 0 i c (by simp[Act.eval,Act.put]) A (n-j) (c-j) news (by simp[Act.eval,Act.put]) s1.out s.out s2.out (by omega) s3.out ?_;rw[←hW.out,v.out])
 go_wp2;go_ret;exact⟨rfl,q.out,x.out⟩
section
theorem tT {P:Program}(dT sT ty c:TypeId)(k n:Nat)(b o d f:Nat)(a:Addr)(e h:Nat)(cs:List Value)(hu:P.underlying dT=some (.slice c))(hs:(P.info? c).map (·.size)=some k)(hm:Nat.min e d=n)(hn:cs.length=n*k)(g: ∀j v,cs[j]? =some v→w.cell? (a.add j)=some v)(hc: ∀j,j<cs.length→(w.cell? ⟨b,o+j,none⟩).isSome=true)(hf: ∀j,j<cs.length→w.frozen? ⟨b,o+j,none⟩=false)(h1: ∀v∈cs,v.oneCell'=true):
  (Builtin.copy_ #[dT,sT] ty #[.slice (some ⟨b,o,none⟩) d f,.slice (some a) e h]).run P w= .ok (goInt n) (w.setCells b o cs):=by
 have hl:=run_loadCells_list (P:=P) w a cs g;have l:=run_storeCells_cells (P:=P) b o cs 0 w (by simpa using hc) (by simpa using hf) h1;cases hq:P.info? c with
 |none=>simp[hq]at hs
 |some i=>
  have hi:i.size=k:=by simpa[hq]using hs
  simp[Builtin.copy_,run_underlying hu,Builtin.lenOf,Builtin.firstCells,sizeOf,typeInfo,hq,hi,hm,←hn,hl,l]
theorem aC0:(prog.info? TV).map (fun i=>(i.zero,i.size,i.bytes))=some (some (.agg #[(),(),(),()]),4,32):=by kernel_rfl
theorem aUl (v:aV):(aC v).length=4:=rfl
theorem aJx (v:aV): ∀u∈aC v,u.oneCell'=true:=by intro u hu;simp only[aC,aWd,List.not_mem_nil,or_false]at hu;rcases hu with rfl|rfl|rfl|rfl<;>rfl
theorem aOa {n:Nat}(hX:X.length=(n+1)*4)(hC:C.length=n*4)(hV:V.length=4)(hi:i≤n)(hp:X.take (i*4)=C.take (i*4)):
  ((X.take (i*4)++V++X.drop (i*4+V.length)).take ((i+1)*4)++C.drop (i*4)++(X.take (i*4)++V++X.drop (i*4+V.length)).drop ((i+1)*4+(C.drop (i*4)).length))=C.take (i*4)++V++C.drop (i*4):=by
 have h1:(X.take (i*4)++V).length=(i+1)*4:=by rw[aW5,aWn,hX,hV,Nat.min_eq_left (by omega)];omega
 have h2:(X.take (i*4)++V++X.drop (i*4+V.length)).length=(n+1)*4:=by rw[aW5,h1,aWt,hX,hV];omega
 have h3:(X.take (i*4)++V++X.drop (i*4+V.length)).drop ((i+1)*4+(C.drop (i*4)).length)= []:=List.drop_of_length_le (by rw[h2,aWt,hC];omega);have h4:(X.take (i*4)++V++X.drop (i*4+V.length)).take ((i+1)*4)=X.take (i*4)++V:=by rw[aXy (by rw[h1];exact aVz _)];exact aW4 (by rw[h1];exact aVz _)
 rw[h3,h4,aWr,hp]
theorem aKy {n:Nat}(hX:X.length=(n+1)*4)(hC:C.length=n*4)(hV:V.length=4)(hi:i≤n)(hp:X.take (n*4)=C):
  ((X.take ((i+1)*4)++C.drop (i*4)++X.drop ((i+1)*4+(C.drop (i*4)).length)).take (i*4)++V++(X.take ((i+1)*4)++C.drop (i*4)++X.drop ((i+1)*4+(C.drop (i*4)).length)).drop (i*4+V.length))=C.take (i*4)++V++C.drop (i*4):=by
 have h0:(X.take ((i+1)*4)).length=(i+1)*4:=by rw[aWn,hX];omega
 have h1:X.drop ((i+1)*4+(C.drop (i*4)).length)= []:=List.drop_of_length_le (by rw[hX,aWt,hC];omega);have h2:(X.take ((i+1)*4)++C.drop (i*4)).take (i*4)=X.take (i*4):=by rw[aXy (by rw[h0];omega),List.take_take,Nat.min_eq_left (by omega)]
 have h3:(X.take ((i+1)*4)++C.drop (i*4)).drop ((i+1)*4)=C.drop (i*4):=by rw[List.drop_append_of_le_length (by rw[h0];exact aVz _),List.drop_of_length_le (by rw[h0];exact aVz _),aXz]
 rw[h1,aWr,h2,hV,show i*4+4=(i+1)*4 by omega,h3];rw[←hp,List.take_take,Nat.min_eq_left (by omega)]
theorem aPe (vs:List aV)(v:aV)(i:Nat):(vs.flatMap aC).take (i*4)++aC v++(vs.flatMap aC).drop (i*4)=(vs.take i++v::vs.drop i).flatMap aC:=by rw[sG,nA,aX4,aXb,aWu]
section
variable {w0 w:World} {L:List Item}
theorem aTx (q:OA)(vb c n:Nat)(vs:List aV)(v:aV)(ix:Nat)(hn:n≤1000)(hl:Hid (vs.length=n))(hM:Hid (Mem w0 w L))(f:Hid (Blk w vb TV (aC v).toArray))(b:Hid (L[ix]? =some (aJ w0 TV 4 q n c (vs.flatMap aC)))):
  U 111 #[.slice q n c,n,.slice (some ⟨vb,0,none⟩) 1 1] w fun e w'=> ∃q' c',e= .returned (.slice q' (n+1) c')∧Mem w0 w' (L.set ix (aJ w0 TV 4 q' (n+1) c' (vs.flatMap aC++aC v))):=by
 have hS:Sl w (some ⟨vb,0,none⟩) 1 1 4 (aC v):=⟨by rw[aUl],aVz _,by simp[maxLen],fun _=>⟨vb,0,rfl,f.out.lt,fun k hk=>by rw[aWz,f.out.cell k];simp⟩⟩
 obtain⟨q',c',w',d,h⟩:=aI1 (P:=prog) (ty:=30) w zF hM.out b.out (some ⟨vb,0,none⟩) 1 1 (aC v) hS (aJx v) (by omega);have HM:=h;have HQ:=xQ ((hM.out.own b.out).2);have j:c≤9223372036854775807:=by have:=(Sl.own (hM.out.own b.out)).mx;unfold maxLen at this;omega
 have m:n≤c:=(Sl.own (hM.out.own b.out)).le;clear h hS f hM b;cases q with
 |none=>
  have i:n=0∧c=0:=by
   rcases HQ.out with⟨h2,_⟩|⟨g,_,_,h2,_⟩
   ·injection h2 with h3 h4 h5;exact⟨h4,h5⟩
   cases h2
  obtain⟨rfl,rfl⟩:=i;go_enter func111,ntmps111;go_wp2_with (at_builtin;refine Lib.wpList_append_run _ rfl _ _ _ _ rfl _ _ rfl rfl _ _ d ?_);go_ret;exact⟨q',c',rfl,HM⟩
 |some a=>obtain⟨ab,ao,l⟩:=a;go_enter func111,ntmps111;go_wp2_with (at_builtin;refine Lib.wpList_append_run _ rfl _ _ _ _ rfl _ _ rfl rfl _ _ d ?_);all_goals (go_ret;exact⟨q',c',rfl,HM⟩)
theorem aOo (g i:Nat)(vb c n:Nat)(vs:List aV)(v:aV)(ix:Nat)(hn:n≤1000)(hl:Hid (vs.length=n))(hM:Hid (Mem w0 w L))(o:Hid (Blk w vb TV (aC v).toArray))(hi:i<n)(l:n+1≤c)(an:vb≠g)(t:Hid (L[ix]? =some (aJ w0 TV 4 (some ⟨g,0,none⟩) n c (vs.flatMap aC)))):
  U 111 #[.slice (some ⟨g,0,none⟩) n c,i,.slice (some ⟨vb,0,none⟩) 1 1] w fun e w'=> ∃q' c',e= .returned (.slice q' (n+1) c')∧Mem w0 w' (L.set ix (aJ w0 TV 4 q' (n+1) c' ((vs.flatMap aC).take (i*4)++aC v++(vs.flatMap aC).drop (i*4)))):=by
 obtain⟨i0,af,au,ah,av⟩:=info_parts aC0;have ag:(prog.info? TV).map (·.size)=some 4:=by rw[af];simp[ah]
 have aq: ∀w,(Go.sizeOf TV).run prog w= .ok 4 w:=fun w=>by simp[sizeOf,typeInfo,af,ah]
 have u1:=underlying30;obtain⟨cs,r⟩: ∃cs,cs=vs.flatMap aC:=⟨_,rfl⟩
 rw[←r]at t⊢;have q:cs.length=n*4:=by rw[r,eC aC 4 (fun _=>rfl),hl.out]
 have ak: ∀u∈cs,u.oneCell'=true:=by rw[r];exact gE vs
 obtain⟨V,hV⟩: ∃V,V=aC v:=⟨_,rfl⟩
 rw[←hV]at o⊢;have b:V.length=4:=by rw[hV];rfl
 have ai: ∀u∈V,u.oneCell'=true:=by rw[hV];exact aJx v
 have hO:=hM.out.own t.out
 -- the slice with one place more
 obtain⟨X,hX,aj,p⟩: ∃X:List Value,X.length=(n+1)*4∧X.take (n*4)=cs∧w.drew.ownsRow w0 TV 4 (.slice (some ⟨g,0,none⟩) (n+1) c) (n+1) X:=by
  rcases hO.2 with⟨h2,_⟩|⟨g',c',cur,h1,h3,h4,h5,h6,h7,h8⟩
  ·cases h2
  injection h1 with e1 e2 e3;injection e1 with e1;injection e1 with e1;subst e1 e3;have ax:(n+1)*4≤cur.size:=by rw[h7];exact aXm 4 l
  refine⟨cur.toList.take ((n+1)*4),by rw[aWn];simp;omega,?_,by rw[aWn];simp;omega,.inr ⟨g,c,cur,rfl,h3,h4,l,h6,h7,rfl⟩⟩;rw[List.take_take,Nat.min_eq_left (by omega)];exact h8
 have ap: ∃kB,w.shape? g=some (TV,kB)∧kB≠0:=by
  rcases hO.2 with⟨h2,_⟩|⟨g',c',cur,h1,h3,h4,h5,h6,h7,h8⟩
  ·cases h2
  injection h1 with e1 e2 e3;injection e1 with e1;injection e1 with e1;subst e1 e3;exact⟨cur.size,by simp[World.shape?,h4],by rw[h7];omega⟩
 obtain⟨kB,ab,ao⟩:=ap;have aa:w.shape? vb=some (TV,4):=by have:=o.out;unfold Blk at this;simp[World.shape?,this,b]
 have f: ∀k,w.frozen? ⟨vb,k,none⟩=false:=fun k=>o.out.frozen k
 have ar: ∀lb cb,(callFunc 149 #[.slice (some ⟨vb,0,none⟩) 1 1,.slice (some ⟨g,(i+1)*4,none⟩) lb cb]).run prog w= .ok (.value (.bool false)) w:=fun lb cb=>by
  rw[run_callFunc_extern func149 (by kernel_rfl) (by kernel_rfl) (by kernel_rfl) (e:=Extern.SlicesOverlaps.overlaps #[30,30] #[4]) (by kernel_rfl),
   Lib.run_overlaps_apart w 30 4 TV u1 4 aq ⟨vb,0,none⟩ ⟨g,(i+1)*4,none⟩ 1 1 lb cb an TV TV 4 kB aa ab ao (f 0) (f 4)]
  rfl
 have s:(cs.drop (i*4)).length=(n-i)*4:=by rw[aWt,q,Nat.sub_mul]
 have d: ∀j u,cs[j]? =some u→w.cell? ⟨g,j,none⟩=some u:=fun j u hu=>by
  have hj:j<n*4:=by rw[←q];exact(aW3.1 hu).1
  rw[hO.cellAt j hj];exact hu
 have m: ∀j,j<(n+1)*4→(w.drew.cell? ⟨g,j,none⟩).isSome=true:=fun j hj=>by rw[p.cellAt j hj,aW0 (by omega)];rfl
 have z: ∀ty dc sc,(Builtin.copy_ #[30,30] ty #[.slice (some ⟨g,(i+1)*4,none⟩) (n-i) dc,.slice (some ⟨g,i*4,none⟩) (n+1-i) sc]).run prog w.drew= .ok (goInt (n-i:Nat)) (w.drew.setCells g ((i+1)*4) (cs.drop (i*4))):=fun ty dc sc=>
  tT w.drew _ _ ty TV 4 (n-i) g ((i+1)*4) (n-i) dc ⟨g,i*4,none⟩ (n+1-i) sc (cs.drop (i*4)) u1 ag (by simp only[Nat.min_def];split<;>omega) s
   (fun j u hj=>by rw[Addr.add_lit];exact d (i*4+j) u (by rwa[List.getElem?_drop]at hj))
   (fun j hj=>m _ (by rw[s]at hj;omega)) (fun j hj=>p.frozenAt _) (fun u hu=>ak u (List.mem_of_mem_drop hu))
 obtain⟨W1,ad⟩: ∃W1,W1=w.drew.setCells g ((i+1)*4) (cs.drop (i*4)):=⟨_,rfl⟩
 obtain⟨h1,g1⟩:=iX (cs.drop (i*4)) ((i+1)*4) _ _ p (by rw[s,hX];omega);rw[←ad]at h1 g1 z;obtain⟨X1,ae⟩: ∃X1,X1=X.take ((i+1)*4)++cs.drop (i*4)++X.drop ((i+1)*4+(cs.drop (i*4)).length):=⟨_,rfl⟩
 rw[←ae]at h1;have y:X1.length=(n+1)*4:=h1.1;have a: ∀j u,V[j]? =some u→W1.cell? ⟨vb,j,none⟩=some u:=fun j u hu=>by rw[ad,World.cell?_setCells_out g _ _ _ _ (fun h _=>absurd h an)];have:=o.out.cell j;show w.cell? ⟨vb,j,none⟩=some u;rw[this];simpa using hu
 have al: ∀(W:World),(∀x,W.cell? x=W1.cell? x)→(∀x,W.frozen? x=W1.frozen? x)→ ∀ty dc,(Builtin.copy_ #[30,30] ty #[.slice (some ⟨g,i*4,none⟩) (n+1-i) dc,.slice (some ⟨vb,0,none⟩) 1 1]).run prog W= .ok (goInt (1:Nat)) (W.setCells g (i*4) V):=fun W hWc hWf ty dc=>
  tT W _ _ ty TV 4 1 g (i*4) (n+1-i) dc ⟨vb,0,none⟩ 1 1 V u1 ag (by simp only[Nat.min_def];split<;>omega) (by rw[b])
   (fun j u hj=>by rw[Addr.add_lit,hWc,aWz];exact a j u hj)
   (fun j hj=>by rw[hWc,h1.cellAt _ (by omega),aW0 (by omega)];rfl) (fun j hj=>by rw[hWf];exact h1.frozenAt _) ai
 obtain⟨h2,g2⟩:=iX V (i*4) _ _ h1 (by rw[b,y];omega);have am:Hid (Mem w0 (W1.setCells g (i*4) V) (L.set ix (aJ w0 TV 4 (some ⟨g,0,none⟩) (n+1) c (cs.take (i*4)++V++cs.drop (i*4))))):=by rw[ae,aKy hX q b (by omega) aj]at h2;exact hM.out.app t.out h2 ((show w.grownBy w.drew (some g)from⟨rfl,rfl,rfl,aVz _,fun _ _ _=>rfl⟩).trans (g1.trans g2)) (.inl rfl)
 have aw:c≤9223372036854775807:=by have:=(Sl.own hO).mx;unfold maxLen at this;omega
 have q2:=aYs ((i:Int)+1);have q3:((i:Int)+1).toNat=i+1:=by omega
 have q4:i≤n:=by omega
 have q5: ¬c=i:=by omega
 have q6: ¬c=i+1:=by omega
 have q7:=aYs ((n:Int)+1);have q8:((n:Int)+1).toNat=n+1:=by omega
 have b1:(0:Int)≤(i:Int)+1:=by omega
 have b3:(i:Int)≤(n:Int)+1:=by omega
 have b5:(i:Int)+1≤(n:Int)+1:=by omega
 clear h1 h2 g1 g2 ae y hX aj p hO ak ai d m a f aa ab ao b hV r s q ad hM t o aq ag af au ah av u1;go_enter func111,ntmps111;go_wp2_with (simp only[ar]);go_region_law (refine step_copy_runI rfl _ _ 30 30 rfl _ _ (by simp[Act.eval,Act.put]) (by simp[Act.eval,Act.put]) (z _ _ _) ?_)
 go_wp2_with (at_builtin;refine wpList_copy_runI _ rfl _ _ 30 30 rfl _ _ rfl rfl (al _ (fun _=>rfl) (fun _=>rfl) _ _) ?_);go_ret;exact⟨_,_,rfl,am.out⟩
theorem aRm (g i:Nat)(vb c n:Nat)(vs:List aV)(v:aV)(ix:Nat)(hn:n≤1000)(hl:Hid (vs.length=n))(hM:Hid (Mem w0 w L))(aa:Hid (Blk w vb TV (aC v).toArray))(hi:i<n)(a9:n≤c)(ak:c<n+1)(a8:vb≠g)(z:Hid (L[ix]? =some (aJ w0 TV 4 (some ⟨g,0,none⟩) n c (vs.flatMap aC)))):
  U 111 #[.slice (some ⟨g,0,none⟩) n c,i,.slice (some ⟨vb,0,none⟩) 1 1] w fun e w'=> ∃q' c',e= .returned (.slice q' (n+1) c')∧Mem w0 w' (L.set ix (aJ w0 TV 4 q' (n+1) c' ((vs.flatMap aC).take (i*4)++aC v++(vs.flatMap aC).drop (i*4)))):=by
 obtain⟨i0,ai,ax,an,ao⟩:=info_parts aC0;have am:(prog.info? TV).map (·.size)=some 4:=by rw[ai];simp[an]
 have u1:=underlying30;have u2:=underlying3;obtain⟨cs,y⟩: ∃cs,cs=vs.flatMap aC:=⟨_,rfl⟩
 rw[←y]at z⊢;have o:cs.length=n*4:=by rw[y,eC aC 4 (fun _=>rfl),hl.out]
 have ar: ∀u∈cs,u.oneCell'=true:=by rw[y];exact gE vs
 obtain⟨V,hV⟩: ∃V,V=aC v:=⟨_,rfl⟩
 rw[←hV]at aa⊢;have s:V.length=4:=by rw[hV];rfl
 have aq: ∀u∈V,u.oneCell'=true:=by rw[hV];exact aJx v
 have hO:=hM.out.own z.out;have a1:g<w:=(aWw hO g rfl).2;have a2:vb<w:=aa.out.lt;have hB:(w0:Nat)≤w:=hM.out.ext.sz;have p:(cs.drop (i*4)).length=(n-i)*4:=by rw[aWt,o,Nat.sub_mul]
 have d: ∀j u,cs[j]? =some u→w.cell? ⟨g,j,none⟩=some u:=fun j u hu=>by
  have hj:j<n*4:=by rw[←o];exact(aW3.1 hu).1
  rw[hO.cellAt j hj];exact hu
 have m: ∀j u,V[j]? =some u→w.cell? ⟨vb,j,none⟩=some u:=fun j u hu=>by rw[aa.out.cell j];simpa using hu
 have aw:(n:Int)+1-(i:Int)=((n+1-i:Nat):Int):=by omega
 have aj:i+(n+1-i)=n+1:=by omega
 have ae:(Builtin.firstCells i0.size i (.slice (some ⟨g,0,none⟩) i c)).run prog w.drew= .ok (cs.take (i*4)).toArray w.drew:=by
  rw[an]
  exact run_firstCells_some w.drew 4 i ⟨g,0,none⟩ i c (cs.take (i*4)) (by rw[aWn];omega) (fun j u hj=>by
   rw[Addr.add_lit,aWz];rw[List.getElem?_take]at hj;split at hj
   ·exact d j u hj
   ·cases hj)
 have al: ∀ty,(Builtin.append_ #[30,3] ty #[.slice (some ⟨g,0,none⟩) i c,((n:Int)+1-(i:Int):Int)]).run prog w=
   .ok (.slice (some ⟨w,0,none⟩) (n+1) (grownCap w (n+1) c TV)) (w.drew.alloc (.cells ((cs.take (i*4)).toArray++Builtin.zeroCells (Value.agg #[(),(),(),()]).cells (n+1-i)++Builtin.zeroCells (Value.agg #[(),(),(),()]).cells (grownCap w (n+1) c TV-(n+1))) TV)):=fun ty=>by
  have h:=Lib.run_append_grow_zeros w 30 3 ty TV i0 _ .i64 .i64 u1 u2 ai ax (some ⟨g,0,none⟩) i c (cs.take (i*4)) ae (n+1-i) (by omega) (by omega) (by omega) (by omega) (by rw[ao];omega) (by rw[ao,aj];exact growslice_fits ak (by omega));rw[aj]at h;rw[aw];exact h
 obtain⟨G,hG⟩: ∃G,G=grownCap w (n+1) c TV:=⟨_,rfl⟩
 have a0:n+1≤G:=by rw[hG];exact grownCap_ge w _ _ _
 have ap:G≤maxLen:=by rw[hG];exact grownCap_le_maxLen w (n+1) c TV (by unfold maxLen;omega)
 obtain⟨ROW,l⟩: ∃ROW:Array Value,ROW=(cs.take (i*4)).toArray++Builtin.zeroCells (Value.agg #[(),(),(),()]).cells (n+1-i)++Builtin.zeroCells (Value.agg #[(),(),(),()]).cells (G-(n+1)):=⟨_,rfl⟩
 rw[←hG]at al;rw[←l]at al;have af:ROW.size=G*4:=by rw[l];simp only[Array.size_append,List.size_toArray,aWn,o,Builtin.zeroCells,Value.cells];simp;omega
 have ag:(ROW.toList.take ((n+1)*4)).take (i*4)=cs.take (i*4):=by rw[List.take_take,Nat.min_eq_left (by omega),l,Array.toList_append,Array.toList_append,aWu,aXy (by simp[aWn];omega)];simp[List.take_take]
 obtain⟨X,hX⟩: ∃X,X=ROW.toList.take ((n+1)*4):=⟨_,rfl⟩
 rw[←hX]at ag;have t:X.length=(n+1)*4:=by rw[hX,aWn,Array.length_toList,af];omega
 obtain⟨W1,a⟩: ∃W1,W1=w.drew.alloc (.cells ROW TV):=⟨_,rfl⟩
 obtain⟨N,hN⟩: ∃N,N=w.heap.size:=⟨_,rfl⟩
 have q:W1.ownsRow w0 TV 4 (.slice (some ⟨N,0,none⟩) (n+1) G) (n+1) X:=
  ⟨t,.inr ⟨N,G,ROW,rfl,by omega,by have:=Blk.new w.drew TV ROW;rw[a,hN];exact this,a0,ap,af,hX.symm⟩⟩
 obtain⟨h2,g2⟩:=iX V (i*4) _ _ q (by rw[s,t];omega);obtain⟨X1,ah⟩: ∃X1,X1=X.take (i*4)++V++X.drop (i*4+V.length):=⟨_,rfl⟩
 rw[←ah]at h2;have ab:X1.length=(n+1)*4:=h2.1;obtain⟨h3,g3⟩:=iX (cs.drop (i*4)) ((i+1)*4) _ _ (aM h2 (Ext.drew (Ext.refl _))) (by rw[p,ab];omega);rw[ah,aOa t o s (by omega) ag]at h3;have f: ∀(b k:Nat),b<w.heap.size→W1.cell? ⟨b,k,none⟩=w.cell? ⟨b,k,none⟩:=fun b k hb=>by rw[a];exact aXe (w:=w.drew) _ b k hb
 have au: ∀(W:World),(∀x,W.cell? x=W1.cell? x)→(∀x,W.frozen? x=W1.frozen? x)→ ∀ty dc,(Builtin.copy_ #[30,30] ty #[.slice (some ⟨N,i*4,none⟩) (n+1-i) dc,.slice (some ⟨vb,0,none⟩) 1 1]).run prog W= .ok (goInt (1:Nat)) (W.setCells N (i*4) V):=fun W hWc hWf ty dc=>
  tT W _ _ ty TV 4 1 N (i*4) (n+1-i) dc ⟨vb,0,none⟩ 1 1 V u1 am (by simp only[Nat.min_def];split<;>omega) (by rw[s])
   (fun j u hj=>by rw[Addr.add_lit,hWc,aWz,f _ _ a2];exact m j u hj)
   (fun j hj=>by rw[hWc,q.cellAt _ (by omega),aW0 (by omega)];rfl) (fun j hj=>by rw[hWf];exact q.frozenAt _) aq
 have ad: ∀(W:World),(∀x,W.cell? x=(W1.setCells N (i*4) V).cell? x)→(∀x,W.frozen? x=(W1.setCells N (i*4) V).frozen? x)→ ∀ty dc sc,(Builtin.copy_ #[30,30] ty #[.slice (some ⟨N,(i+1)*4,none⟩) (n-i) dc,.slice (some ⟨g,i*4,none⟩) (n-i) sc]).run prog W= .ok (goInt (n-i:Nat)) (W.setCells N ((i+1)*4) (cs.drop (i*4))):=fun W hWc hWf ty dc sc=>
  tT W _ _ ty TV 4 (n-i) N ((i+1)*4) (n-i) dc ⟨g,i*4,none⟩ (n-i) sc (cs.drop (i*4)) u1 am (by simp only[Nat.min_def];split<;>omega) p
   (fun j u hj=>by
    rw[Addr.add_lit,hWc,World.cell?_setCells_out _ _ _ _ _ (fun h _=>absurd h (by show g≠N;omega)),f _ _ a1]
    exact d (i*4+j) u (by rwa[List.getElem?_drop]at hj))
   (fun j hj=>by rw[hWc,h2.cellAt _ (by rw[p]at hj;omega),aW0 (by rw[p]at hj;omega)];rfl) (fun j hj=>by rw[hWf];exact h2.frozenAt _) (fun u hu=>ar u (List.mem_of_mem_drop hu))
 have av:Hid (Mem w0 ((W1.setCells N (i*4) V).drew.setCells N ((i+1)*4) (cs.drop (i*4))) (L.set ix (aJ w0 TV 4 (some ⟨N,0,none⟩) (n+1) G (cs.take (i*4)++V++cs.drop (i*4))))):=by
  refine hM.out.app z.out h3 ?_ (.inr (by rw[hN];rfl));have e2:Ext w ((W1.setCells N (i*4) V).drew.setCells N ((i+1)*4) (cs.drop (i*4))):=by
   have e1:Ext w W1:=by rw[a];exact(Ext.drew (Ext.refl w)).alloc _
   exact ExtR.new e1 (show ExtR N W1 _ from(show ExtR N W1 _ from g2).drew.trans g3) (by omega)
  exact e2.r g
 have a6: ¬(G=i):=by omega
 have a3: ¬(G=i+1):=by omega
 have a7: ¬(c=i):=by omega
 have a4: ∀x,((w.alloc (.cells ROW TV)).drew).cell? x=W1.cell? x:=fun x=>by rw[a];rfl
 have a5: ∀x,((w.alloc (.cells ROW TV)).drew).frozen? x=W1.frozen? x:=fun x=>by rw[a];rfl
 have ay: ∀x,(((w.alloc (.cells ROW TV)).drew.setCells w (i*4) V).drew).cell? x=(W1.setCells N (i*4) V).cell? x:=fun x=>by rw[a,hN];rfl
 have az: ∀x,(((w.alloc (.cells ROW TV)).drew.setCells w (i*4) V).drew).frozen? x=(W1.setCells N (i*4) V).frozen? x:=fun x=>by rw[a,hN];rfl
 have q2:=aYs ((i:Int)+1);have q3:((i:Int)+1).toNat=i+1:=by omega
 have q4:i≤n:=by omega
 have q7:=aYs ((n:Int)+1);have q9:=aYs ((n:Int)+1-(i:Int));have ba:(c:Int)<(n:Int)+1:=by omega
 have b1:(0:Int)≤(i:Int)+1:=by omega
 have b3:(i:Int)≤(n:Int)+1:=by omega
 have b5:(i:Int)+1≤(n:Int)+1:=by omega
 subst hN;clear aw aj ae l af ag hX t q h2 g2 ah ab h3 g3 f ar aq s hV y o hO m d p hB hM z aa am u1 u2 ai ax an ao hG ap hl;subst a;go_enter func111,ntmps111
 go_wp2_with (first
  |(at_builtin;refine Lib.wpList_append_run _ rfl _ _ _ _ rfl _ _ rfl rfl _ _ (al _) ?_)
  |(at_builtin;refine wpList_copy_runI _ rfl _ _ 30 30 rfl _ _ rfl rfl (au _ (fun _=>rfl) (fun _=>rfl) _ _) ?_)
  |(at_builtin;refine wpList_copy_runI _ rfl _ _ 30 30 rfl _ _ rfl rfl (ad _ (fun _=>rfl) (fun _=>rfl) _ _ _) ?_))
 go_region_law (refine step_copy_runI rfl _ _ 30 30 rfl (.slice (some ⟨w,(i+1)*4,none⟩) (n-i) (G-(i+1))) (.slice (some ⟨g,i*4,none⟩) (n-i) (c-i)) (by simp[Act.eval,Act.put]) (by simp[Act.eval,Act.put]) (ad _ ay az 3 (G-(i+1)) (c-i)) ?_)
 go_wp2;go_ret;exact⟨_,_,rfl,av.out⟩
theorem aIm (q:OA)(i:Nat)(vb c n:Nat)(vs:List aV)(v:aV)(ix:Nat)(hn:n≤1000)(hl:Hid (vs.length=n))(hM:Hid (Mem w0 w L))(b:Hid (Blk w vb TV (aC v).toArray))(hi:i≤n)(d: ∀g,(Value.slice q n c).ownBlock=some g→vb≠g)(a:Hid (L[ix]? =some (aJ w0 TV 4 q n c (vs.flatMap aC)))):
  U 111 #[.slice q n c,i,.slice (some ⟨vb,0,none⟩) 1 1] w fun e w'=> ∃q' c',e= .returned (.slice q' (n+1) c')∧Mem w0 w' (L.set ix (aJ w0 TV 4 q' (n+1) c' ((vs.take i++v::vs.drop i).flatMap aC))):=by
 have f:=hl.out;by_cases he:i=n
 ·subst he;have:=aTx q vb c i vs v ix hn hl hM b a;rw[show(vs.take i++v::vs.drop i).flatMap aC=vs.flatMap aC++aC v by rw[←f,aXt,List.drop_length,aX4];simp];exact this
 rw[←aPe];rcases(hM.out.own a.out).2 with⟨h2,_⟩|⟨g,c',cur,h1,h3,h4,h5,h6,h7,h8⟩
 ·injection h2 with e1 e2 e3;omega
 injection h1 with e1 e2 e3;subst e1 e3;by_cases hr:n+1≤c
 ·exact aOo g i vb c n vs v ix hn hl hM b (by omega) hr (d g rfl) a
 exact aRm g i vb c n vs v ix hn hl hM b (by omega) h5 (by omega) (d g rfl) a
end
end
section
open Go
def aCu (L:List Item):Item:=⟨fun g=> ∃it∈L,it.adr g,fun w=> ∀it∈L,it.ok w⟩
theorem aPj {L:List Item}{B:Nat}(h: ∀it∈L,it.Good B):(aCu L).Good B:=
 ⟨fun w ho g ⟨it,hi,hg⟩=>(h it hi).lt w (ho it hi) g hg,fun w w' ho hs hst it hi=>(h it hi).stay w w' (ho it hi) hs (fun g hg=>hst g ⟨it,hi,hg⟩)⟩
theorem Mem.fold {w:World}(h:Mem w0 w (K++L)):Mem w0 w (K++ [aCu L]):=by
 have hp:=List.pairwise_append.1 h.apart;refine⟨h.ext,fun it hi=> ?_,fun it hi=> ?_,List.pairwise_append.2 ⟨hp.1,List.pairwise_singleton _ _,fun a ha b hb g hg hb'=> ?_⟩⟩
 ·rcases aWh.1 hi with hi|hi
  ·exact h.good it (aX9 _ hi)
  obtain rfl:=aWq.1 hi;exact aPj (fun x hx=>h.good x (List.mem_append_right _ hx))
 ·rcases aWh.1 hi with hi|hi
  ·exact h.ok it (aX9 _ hi)
  obtain rfl:=aWq.1 hi;exact fun x hx=>h.ok x (List.mem_append_right _ hx)
 obtain rfl:=aWq.1 hb;obtain⟨it,d,c⟩:=hb';exact hp.2.2 a ha it d g hg c
theorem Mem.frame {w:World}(K':List Item)(h:Mem w0 w (K++L))(h':Mem w0 w' (K'++ [aCu L])):Mem w0 w' (K'++L):=by
 have hp:=List.pairwise_append.1 h.apart;have c:=List.pairwise_append.1 h'.apart;refine⟨h'.ext,fun it hi=> ?_,fun it hi=> ?_,List.pairwise_append.2 ⟨c.1,hp.2.1,fun a ha b hb g hg hb'=> ?_⟩⟩
 ·rcases aWh.1 hi with hi|hi
  ·exact h'.good it (aX9 _ hi)
  exact h.good it (List.mem_append_right _ hi)
 ·rcases aWh.1 hi with hi|hi
  ·exact h'.ok it (aX9 _ hi)
  exact h'.ok (aCu L) (by simp) it hi
 exact c.2.2 a ha (aCu L) (by simp) g hg ⟨b,hb,hb'⟩
end
section
def fF (aA:Int)(n M s f:Nat):List Nat:=if(s%M).testBit f then []else((aU aA n f).filter (fun t=>(s%M).testBit t)).map (fun t=>jJ M (s/M) (s%M) f t)
def kK (aA:Int)(n M s f:Nat):List Nat:=(List.range f).flatMap (fF aA n M s)
def kZ (aA:Int)(n M s f j:Nat):List Nat:=(((aU aA n f).take j).filter (fun t=>(s%M).testBit t)).map (fun t=>jJ M (s/M) (s%M) f t)
theorem aEc:kK aA n M s n=rQ aA n M s:=by
 unfold kK rQ fN;rw[List.map_flatMap];congr 1;funext f;unfold fF;split
 ·rfl
 rw[List.map_map];rfl
theorem vS:kK aA n M s (f+1)=kK aA n M s f++fF aA n M s f:=by unfold kK;rw[aXj,aX4];simp
theorem aVp {aA:Int}{n M s f:Nat}(hb:(s%M).testBit f=true):fF aA n M s f= []:=by unfold fF;rw[if_pos hb]
theorem aSk {aA:Int}{n M s f:Nat}(hb:(s%M).testBit f=false):fF aA n M s f=kZ aA n M s f (aU aA n f).length:=by unfold fF kZ;rw[if_neg (by rw[hb];decide),aXt]
theorem aKz:kZ aA n M s f 0= []:=rfl
theorem aR8 {aA:Int}{n M s f:Nat}(hj:(aU aA n f)[j]? =some t)(hb:(s%M).testBit t=false):kZ aA n M s f (j+1)=kZ aA n M s f j:=by unfold kZ;rw[aX hj,aX8,aWs];simp[hb]
theorem aOb {aA:Int}{n M s f:Nat}(hj:(aU aA n f)[j]? =some t)(hb:(s%M).testBit t=true):kZ aA n M s f (j+1)=kZ aA n M s f j++ [jJ M (s/M) (s%M) f t]:=by unfold kZ;rw[aX hj,aX8,aWs];simp[hb]
structure SOk (N:Nat) (B:List Int) (Q:List Nat):Prop where
 len:B.length=N
 bd: ∀v∈Q,v<N
 mem: ∀v,v<N→(0≤B.getD v 0↔v∈Q)
 nodup:Q.Nodup
theorem SOk.qlen (h:SOk N B Q):Q.length≤N:=sQ h.nodup h.bd
theorem SOk.relax (h:SOk N B Q){u:Int}(hu:0≤u){v:Nat}(hv:v<N):SOk N (fT u (B,Q) v).1 (fT u (B,Q) v).2:=by
 unfold Go.Proofs.YthfmmibomhhmpabGreatDoor.fT;by_cases hc:B.getD v 0<0
 ·rw[if_pos hc];have c:v∉Q:=fun hm=>by have:=(h.mem v hv).2 hm;omega
  refine⟨by simp[h.len],?_,?_,?_⟩
  ·intro x hx;rcases aWh.1 hx with hx|hx
   ·exact h.bd x hx
   obtain rfl:=aWq.1 hx;exact hv
  ·intro x hx;dsimp only;rw[aWh,aWq];by_cases e:v=x
   ·subst e;rw[cX (by rw[h.len];exact hv)];exact⟨fun _=> .inr rfl,fun _=>hu⟩
   rw[cF e,h.mem x hx];exact⟨.inl,fun h=>h.resolve_right (fun e2=>e e2.symm)⟩
  show(Q++ [v]).Nodup;rw[List.nodup_append];exact⟨h.nodup,by simp,fun a ha b hb e=>by obtain rfl:=aWq.1 hb;exact c (e▸ha)⟩
 rw[if_neg hc];exact h
theorem SOk.expand {N:Nat}{u:Int}(hu:0≤u): ∀(vs:List Nat) {B:List Int} {Q:List Nat},SOk N B Q→(∀v∈vs,v<N)→SOk N (bY u (B,Q) vs).1 (bY u (B,Q) vs).2
 | [],B,Q,h,_=>h
 |v::vs,B,Q,h,hv=>by have h1:=h.relax hu (hv v (by simp));have:Go.Proofs.YthfmmibomhhmpabGreatDoor.bY u (B,Q) (v::vs)=Go.Proofs.YthfmmibomhhmpabGreatDoor.bY u ((Go.Proofs.YthfmmibomhhmpabGreatDoor.fT u (B,Q) v).1,(Go.Proofs.YthfmmibomhhmpabGreatDoor.fT u (B,Q) v).2) vs:=rfl;rw[this];exact SOk.expand hu vs h1 (fun x hx=>hv x (by simp[hx]))
theorem tD (u:Int): ∀(vs:List Nat) (B:List Int) (Q:List Nat),∃r,(bY u (B,Q) vs).2=Q++r∧ ∀x∈r,x∈vs
 | [],B,Q=>⟨[],by simp[bY],by simp⟩
 |v::vs,B,Q=>by
  have e:bY u (B,Q) (v::vs)=bY u ((fT u (B,Q) v).1,(fT u (B,Q) v).2) vs:=rfl;obtain⟨r,h1,h2⟩:=tD u vs (fT u (B,Q) v).1 (fT u (B,Q) v).2;rw[e,h1];unfold fT;split
  ·exact⟨v::r,by simp,fun x hx=>by
    rcases aWd.1 hx with rfl|hx
    ·simp
    ·simp[h2 x hx]⟩
  exact⟨r,rfl,fun x hx=>by simp[h2 x hx]⟩
inductive SRun (adj:Nat→List Nat) (goal:Nat→Prop) (N start:Nat):Nat→List Int→List Nat→Prop
 |init:SRun adj goal N start 0 ((List.replicate N (-1)).set start (start:Int)) [start]
 |step {k u:Nat} {B:List Int} {Q:List Nat}:SRun adj goal N start k B Q→Q[k]? =some u→ ¬goal u→SRun adj goal N start (k+1) (bY (u:Int) (B,Q) (adj u)).1 (bY (u:Int) (B,Q) (adj u)).2
theorem SRun.ok {adj:Nat→List Nat}{b:Nat→Prop}{k:Nat}{Q:List Nat}(hs:a<N)(d: ∀u v,u<N→v∈adj u→v<N)(h:SRun adj b N a k B Q):SOk N B Q∧ ∀v∈Q,∃m,rZ adj [a] m v:=by
 induction h with
 |init=>
  refine⟨⟨by simp,by simpa using hs,fun v hv=> ?_,by simp⟩,fun v hv=>⟨0,by simpa[rZ]using hv⟩⟩;by_cases e:a=v
  ·subst e;rw[cX (by simpa using hs)];simp
  rw[cF e];simp[List.getD,hv];exact fun h=>e h.symm
 |step h1 hu hg ih=>
  obtain⟨i1,i2⟩:=ih;have c:=aW1 hu;refine⟨SOk.expand (by omega) _ i1 (fun v hv=>d _ v (i1.bd _ c) hv),fun v hv=> ?_⟩;obtain⟨r,e,hr⟩:=tD (_:Nat) (adj _) _ _;rw[e]at hv;rcases aWh.1 hv with hv|hv
  ·exact i2 v hv
  obtain⟨m,hm⟩:=i2 _ c;exact⟨m+1,_,hm,hr v hv⟩
theorem SRun.fwd {adj:Nat→List Nat}{b:Nat→Prop}{D:Nat→Int}{g:Nat→Nat}{k:Nat}(hs:a<N)(hG:rS adj D g d a)(hD:aJt adj D N)(c: ∀m v,rZ adj [a] m v→(b v↔D v=0))(h:SRun adj b N a k B Q): ∃A,Fwd adj D g d N a k B A Q:=by
 induction h with
 |init=>exact⟨_,Fwd.start hG hs⟩
 |step h1 hu hg ih=>obtain⟨A,hA⟩:=ih;obtain⟨m,hm⟩:=(h1.ok hs hD.bd).2 _ (aW1 hu);exact hA.step hG hD hu (fun e=>hg ((c m _ hm).2 e))
theorem SRun.stuck {adj:Nat→List Nat}{b:Nat→Prop}{k:Nat}(ha:adj a= [])(h:SRun adj b N a k B Q):Q= [a]:=by
 induction h with
 |init=>rfl
 | @step k u B Q h1 hu hg ih=>
   rw[ih]at hu⊢;have:u=a:=by
    match k,hu with
    |0,hu=>simpa using hu.symm
    |k+1,hu=>simp at hu
   subst this;rw[ha];rfl
section
variable {aA aB:Int} {xs:List Int} {c:Nat} {id:Int}
theorem aIa (hf:bX xs= []):aP xs=0:=by
 apply aYb;intro k;rw[fV,Nat.zero_testBit];cases h:dQ xs k with
 |false=>rfl
 |true=>
  have:k∈bX xs:=by
   unfold bX;rw[aWy];refine⟨?_,h⟩;rw[aWm];unfold dQ at h;by_cases hk:k<xs.length
   ·exact hk
   simp[aXg (Nat.le_of_not_lt hk)]at h
  rw[hf]at this;simp at this
theorem aPl {aA:Int}{n:Nat}{u:Nat}(h:u%2 ^ n=0):rQ aA n (2 ^ n) u= []:=by rw[List.eq_nil_iff_forall_not_mem];intro v hv;obtain⟨f,t,h1,h2,h3,h4,h5,h6⟩:=tK.1 hv;rw[h]at h5;simp at h5
abbrev st0 (xs:List Int)(c:Nat):Nat×Nat:=(c,aP xs)
theorem yH (h:aO aA aB xs=true)(hc:xs[c]? =some id) (h0:id≠0):gJ xs.length (st0 xs c)<xs.length*2 ^ xs.length∧gJ xs.length (st0 xs c)/2 ^ xs.length=c∧gJ xs.length (st0 xs c)%2 ^ xs.length=aP xs:=by have hl:=(aW3.1 hc).1;exact⟨xZ hl (rJ xs),nB (rJ xs)⟩
theorem aAz (e:4≤xs.length)(hn:xs.length≤12)(hc:xs[c]? =some id) (h0:id≠0): ∀m v,rZ (rQ aA xs.length (2 ^ xs.length)) [gJ xs.length (st0 xs c)] m v→(v/2 ^ xs.length=0↔ddM xs.length (bD (jL aA xs.length (bX xs).length)) v=0):=by
 intro m v hv;have hp:=nP hc h0;obtain⟨a,b⟩:=walk_ok hn hp m v hv;have d:v<xs.length*2 ^ xs.length:=by have:=xZ (s:=(v/2 ^ xs.length,v%2 ^ xs.length)) a.car a.set;unfold gJ at this;rw[Nat.mul_comm (v/2 ^ xs.length),aY5]at this;exact this
 exact(aSv e hn (oK hn) d a b).symm
theorem aDy (h:aO aA aB xs=true)(a:4≤xs.length)(hn:xs.length≤12)(hc:xs[c]? =some id) (h0:id≠0):
  (∃d:Nat,d≤60∧bD (jL aA xs.length (bX xs).length) c (aP xs)=d∧eO aA xs c=some (sD aA xs.length (bD (jL aA xs.length (bX xs).length)) (st0 xs c) d))∨(eO aA xs c=none∧c≠0∧aP xs=0):=by
 have hD:=oK (aA:=aA) (many:=(bX xs).length) hn;obtain⟨n1,n2,n3⟩:=zI h hc h0 hD;have he:=aCq h hc h0 hD;by_cases hneg:bD (jL aA xs.length (bX xs).length) c (aP xs)<0
 ·rw[if_pos hneg]at he;have hf:bX xs= []:=by
   by_cases hh:bX xs= []
   ·exact hh
   have:=n1 hh;omega
  exact .inr ⟨he,fun e=>by have:=n2 e;omega,aIa hf⟩
 rw[if_neg hneg]at he;left;refine⟨_,?_,(Int.toNat_of_nonneg (by omega)).symm,he⟩;by_cases hh:bX xs= []
 ·by_cases hc0:c=0
  ·have:=n2 hc0;omega
  have:=n3 hh hc0;omega
 have:=n1 hh;omega
structure SGoal (aA:Int) (xs:List Int) (c d:Nat) (u:Nat) (B:List Int):Prop where
 d60:d≤60
 way:eO aA xs c=some (sD aA xs.length (bD (jL aA xs.length (bX xs).length)) (st0 xs c) d)
 last:u=gJ xs.length (gP aA xs.length (bD (jL aA xs.length (bX xs).length)) (st0 xs c) d)
 back: ∀j,j<d→B.getD (gJ xs.length (gP aA xs.length (bD (jL aA xs.length (bX xs).length)) (st0 xs c) (j+1))) 0=gJ xs.length (gP aA xs.length (bD (jL aA xs.length (bX xs).length)) (st0 xs c) j)
 far: ∀j,j≤d→gJ xs.length (gP aA xs.length (bD (jL aA xs.length (bX xs).length)) (st0 xs c) j)=gJ xs.length (st0 xs c)→j=0
 pt: ∀j,j≤d→sE xs.length (bX xs).length (gP aA xs.length (bD (jL aA xs.length (bX xs).length)) (st0 xs c) j)
 edge: ∀j,j<d→jK aA xs.length (bD (jL aA xs.length (bX xs).length)) (st0 xs c) j∈fN aA xs.length (gP aA xs.length (bD (jL aA xs.length (bX xs).length)) (st0 xs c) j).2∧gP aA xs.length (bD (jL aA xs.length (bX xs).length)) (st0 xs c) (j+1)=lY (gP aA xs.length (bD (jL aA xs.length (bX xs).length)) (st0 xs c) j) (jK aA xs.length (bD (jL aA xs.length (bX xs).length)) (st0 xs c) j)
abbrev aT2 (aA:Int)(xs:List Int)(c k:Nat)(B:List Int)(Q:List Nat):Prop:=SRun (rQ aA xs.length (2 ^ xs.length)) (fun v=>v/2 ^ xs.length=0) (xs.length*2 ^ xs.length) (gJ xs.length (st0 xs c)) k B Q
theorem aI0 (h:aO aA aB xs=true)(a:4≤xs.length)(hn:xs.length≤12)(hc:xs[c]? =some id) (h0:id≠0) {k u:Nat} {B:List Int} {Q:List Nat} (hr:aT2 aA xs c k B Q) (hu:Q[k]? =some u) (hz:u/2 ^ xs.length=0): ∃d,SGoal aA xs c d u B:=by
 obtain⟨p1,p2,p3⟩:=yH h hc h0;have hp:=nP hc h0;have hD:=oK (aA:=aA) (many:=(bX xs).length) hn;rcases aDy h a hn hc h0 with⟨d,d60,hd,hb⟩|⟨hb,hc0,hf⟩
 ·have hG:=aCb a hn hD hp hd;obtain⟨A,hA⟩:=hr.fwd p1 hG (xS a hn hD) (aAz a hn hc h0);obtain⟨m,hm⟩:=(hr.ok p1 (xS a hn hD).bd).2 u (aW1 hu);obtain⟨g1,g2⟩:=hA.goal hG hu ((aAz a hn hc h0 m u hm).1 hz);refine⟨d,d60,hb,g1,g2,fun j hj e=> ?_,fun j hj=>(lP a hn hD hp hd j hj).1,fun j hj=>(mZ a hn hD hp hd hj).2⟩;have e1:=hG.dist j hj;have e2:=hG.dist 0 (aW6 _);rw[hG.zero]at e2;try dsimp only at e1
  rw[e,e2]at e1;omega
 have:=hr.stuck (aPl (by rw[p3,hf]));subst this;have:u=gJ xs.length (st0 xs c):=by
  match k,hu with
  |0,hu=>simpa using hu.symm
  |k+1,hu=>simp at hu
 rw[this,p2]at hz;exact absurd hz hc0
theorem aKq (h:aO aA aB xs=true)(a:4≤xs.length)(hn:xs.length≤12)(hc:xs[c]? =some id) (h0:id≠0) {k:Nat} {B:List Int} {Q:List Nat} (hr:aT2 aA xs c k B Q) (hk:Q.length≤k):eO aA xs c=none:=by
 obtain⟨p1,p2,p3⟩:=yH h hc h0;have hp:=nP hc h0;have hD:=oK (aA:=aA) (many:=(bX xs).length) hn;rcases aDy h a hn hc h0 with⟨d,d60,hd,hb⟩|⟨hb,hc0,hf⟩
 ·have hG:=aCb a hn hD hp hd;obtain⟨A,hA⟩:=hr.fwd p1 hG (xS a hn hD) (aAz a hn hc h0);have:=hA.more hG;omega
 exact hb
end
end
section
open Go
theorem qL (h:x<9223372036854775808):IntKind.i64.wrap (x:Int)=(x:Int):=IntWalk.i64_in _ (by omega)
theorem sV (a b:Nat)(ha:a<9223372036854775808)(hb:b<9223372036854775808):bits .and .i64 (a:Int) (b:Int)=((a&&& b:Nat):Int):=by have hx:a&&& b<2 ^ 63:=Nat.and_lt_two_pow _ (by omega);show IntKind.i64.wrap ((BitVec.ofInt 64 (a:Int)&&& BitVec.ofInt 64 (b:Int)).toNat:Int)=_;rw[BitVec.toNat_and,ofInt_u64 a (by omega),ofInt_u64 b (by omega)];exact qL _ (by omega)
theorem aA5 (a b:Nat)(ha:a<9223372036854775808)(hb:b<9223372036854775808):bits .xor .i64 (a:Int) (b:Int)=((a ^^^ b:Nat):Int):=by have hx:a ^^^ b<2 ^ 63:=Nat.xor_lt_two_pow (by omega) (by omega);show IntKind.i64.wrap ((BitVec.ofInt 64 (a:Int) ^^^ BitVec.ofInt 64 (b:Int)).toNat:Int)=_;rw[BitVec.toNat_xor,ofInt_u64 a (by omega),ofInt_u64 b (by omega)];exact qL _ (by omega)
theorem aLz (a b:Nat)(ha:a<9223372036854775808)(hb:b<9223372036854775808):bits .or .i64 (a:Int) (b:Int)=((a |||b:Nat):Int):=by have hx:a |||b<2 ^ 63:=Nat.or_lt_two_pow (by omega) (by omega);show IntKind.i64.wrap ((BitVec.ofInt 64 (a:Int) |||BitVec.ofInt 64 (b:Int)).toNat:Int)=_;rw[BitVec.toNat_or,ofInt_u64 a (by omega),ofInt_u64 b (by omega)];exact qL _ (by omega)
theorem aNa (k:Nat):s&&& 2 ^ k=if s.testBit k then 2 ^ k else 0:=by
 apply Nat.eq_of_testBit_eq;intro j;rw[Nat.testBit_and,Nat.testBit_two_pow];by_cases h:k=j
 ·subst h;cases hb:s.testBit k<;>simp[Nat.testBit_two_pow]
 cases hb:s.testBit k<;>simp[Nat.testBit_two_pow,h]
theorem aUv (h:x.testBit k=false):x |||2 ^ k=x+2 ^ k:=by
 apply aYb;intro j;rw[Nat.testBit_or,aYc,aAt k x h];by_cases e:k=j
 ·subst e;simp
 have e2: ¬j=k:=fun h=>e h.symm
 simp[e,e2]
theorem aPq {s f:Nat}(hf:s.testBit f=false)(ht:s.testBit t=true):(s ^^^ 2 ^ f) ^^^ 2 ^ t=dP s f t:=by
 apply aYb;intro j;have b:f≠t:=fun e=>by subst e;rw[ht]at hf;cases hf
 rw[Nat.testBit_xor,Nat.testBit_xor,aYc,aYc,fZ ht hf];by_cases e1:j=f
 ·subst e1;have e2: ¬t=j:=fun h=>b h.symm
  simp[hf,b,e2]
 have a: ¬f=j:=fun h=>e1 h.symm
 by_cases e2:j=t
 ·subst e2;simp[ht,e1,a]
 have c: ¬t=j:=fun h=>e2 h.symm
 simp[e1,a,e2,c]
theorem uA {n k:Nat}(hk:k<n):(s%2 ^ n).testBit k=s.testBit k:=by rw[Nat.testBit_mod_two_pow];simp[hk]
theorem aIb {n s f:Nat}(b:f<n)(a:t<n)(hf:s.testBit f=false)(ht:s.testBit t=true):dP s f t=s/2 ^ n*2 ^ n+dP (s%2 ^ n) f t:=by have h1:=(aAs (show(s%2 ^ n).testBit t=true by rw[uA s a];exact ht)).1;unfold dP;have h2:=aY5 s (2 ^ n);rw[Nat.mul_comm]at h2;omega
theorem aTr {n s f:Nat}(a:f<n)(b:t<n)(hf:s.testBit f=false)(ht:s.testBit t=true)(hc:f≠s/2 ^ n):jJ (2 ^ n) (s/2 ^ n) (s%2 ^ n) f t=dP s f t:=by unfold jJ eL;rw[if_neg hc,aIb a b hf ht]
theorem aRg {n s f:Nat}(a:f<n)(b:t<n)(hf:s.testBit f=false)(ht:s.testBit t=true)(hc:f=s/2 ^ n):((jJ (2 ^ n) (s/2 ^ n) (s%2 ^ n) f t:Nat):Int)=(dP s f t:Nat)+((t:Int)-f)*2 ^ n:=by
 unfold jJ eL;rw[if_pos hc,aIb a b hf ht,←hc]
 push_cast
 have h1:((t:Int)-f)*2 ^ n=(t:Int)*2 ^ n-f*2 ^ n:=Int.sub_mul _ _ _;rw[h1];omega
theorem aQq {n k:Nat}{p:Nat→Bool}(hk:k<n)(h:p k=true):(c*2 ^ n+lI p k) |||2 ^ k=c*2 ^ n+lI p (k+1):=by
 have hb:(c*2 ^ n+lI p k).testBit k=false:=by have h1:lI p k<2 ^ n:=aVy (tS p k) (aWi (by omega) (by omega));rw[←uA _ hk,jU h1,zJ (tS p k) (aVz k)]
 rw[aUv _ _ hb];have:lI p (k+1)=lI p k+2 ^ k:=by show lI p k+(if p k then 2 ^ k else 0)=_;rw[h];rfl
 omega
theorem aQr {k:Nat}{p:Nat→Bool}(h:p k=false):lI p (k+1)=lI p k:=by show lI p k+(if p k then 2 ^ k else 0)=_;rw[h];simp
theorem sU (a b r:Nat)(ha:a<9223372036854775808)(hb:b<9223372036854775808)(hr:r<9223372036854775808)(h: ∀j,r.testBit j=(a.testBit j&& !b.testBit j)):bits .andNot .i64 (a:Int) (b:Int)=(r:Int):=by
 have e:(BitVec.ofInt 64 (a:Int)&&& ~~~ BitVec.ofInt 64 (b:Int)).toNat=r:=by
  apply aYb;intro j;rw[BitVec.testBit_toNat,BitVec.getLsbD_and,BitVec.getLsbD_not,←BitVec.testBit_toNat,←BitVec.testBit_toNat,ofInt_u64 a (by omega),ofInt_u64 b (by omega),h];by_cases hj:j<64
  ·simp[hj]
  have:a.testBit j=false:=Nat.testBit_lt_two_pow (aVy (show a<2 ^ 63 by omega) (aWi (by omega) (by omega)));simp[this]
 show IntKind.i64.wrap ((BitVec.ofInt 64 (a:Int)&&& ~~~ BitVec.ofInt 64 (b:Int)).toNat:Int)=_;rw[e];exact qL _ (by omega)
theorem aSf {f:Nat}(hf:S.testBit f=false)(ht:S.testBit t=true)(h1:S<4096)(h2:dP S f t<4096)(h3:2 ^ f<4096):bits .andNot .i64 ((dP S f t:Nat):Int) (S:Int)=((2 ^ f:Nat):Int):=by
 refine sU _ _ _ (by omega) (by omega) (by omega) (fun j=> ?_);rw[fZ ht hf,aYc];by_cases e:j=f
 ·subst e;simp[hf]
 have e': ¬f=j:=fun h=>e h.symm
 simp only[e,e',decide_false,Bool.false_or];cases S.testBit j<;>simp
theorem aSe {f:Nat}(hf:S.testBit f=false)(ht:S.testBit t=true)(h1:S<4096)(h2:dP S f t<4096)(h3:2 ^ t<4096):bits .andNot .i64 (S:Int) ((dP S f t:Nat):Int)=((2 ^ t:Nat):Int):=by
 refine sU _ _ _ (by omega) (by omega) (by omega) (fun j=> ?_);have a:f≠t:=fun e=>by subst e;rw[ht]at hf;cases hf
 rw[fZ ht hf,aYc];by_cases e:j=t
 ·subst e;have e2: ¬j=f:=fun h=>a h.symm
  simp[ht,e2]
 have e': ¬t=j:=fun h=>e h.symm
 simp only[e,e',decide_false,Bool.not_false,Bool.and_true];by_cases e3:j=f
 ·subst e3;simp[hf]
 simp only[e3,decide_false,Bool.false_or];cases S.testBit j<;>simp
theorem aNb (n:Nat)(hs:s<9223372036854775808)(hn:n≤12):bits .and .i64 (s:Int) ((2 ^ n-1:Nat):Int)=((s%2 ^ n:Nat):Int):=by have hp:2 ^ n≤2 ^ 12:=aWi (n:=2) (by omega) hn;rw[sV s _ hs (by omega),Nat.and_two_pow_sub_one_eq_mod]
end
theorem aVc:prog.globalNamed "math/bits.deBruijn64tab" =some 3:=by kernel_rfl
def BitTab (w:World):Prop:=Lib.TabIs prog w "math/bits.deBruijn64tab" .u8 (Lib.deBruijn64tab.map (fun(n:Nat)=>(n:Int)))
theorem BitTab.ext {w:World}(h:BitTab w)(hx:Ext w w'):BitTab w':=Joins.var_stays aVc h hx (aVz _)
theorem aT8: ∀k:Fin 12,∃idx:Fin 64,IntKind.u64.wrap (bits BinOp.and IntKind.u64 ((2 ^ k.val:Nat):Int) (IntKind.u64.wrap (-((2 ^ k.val:Nat):Int)))*285870213051353865)/288230376151711744=(idx.val:Int)∧(Lib.deBruijn64tab.map (fun(n:Nat)=>(n:Int)))[idx.val]? =some (k.val:Int):=by decide+kernel
theorem aNg (a:Nat)(k:Int)(w:World)(d:((x:Int)==0)=false)(f:IntKind.u64.wrap (x:Int)=(x:Int))(c:IntKind.u64.wrap (bits BinOp.and IntKind.u64 (x:Int) (IntKind.u64.wrap (-(x:Int)))*285870213051353865)/288230376151711744=(a:Int))(hi:a<64)(b:w.cell? ⟨3,a,none⟩=some (.int .u8 k))(hk:IntKind.i64.wrap k=k):
  U 215 #[.int .u64 (x:Int)] w fun e w'=>e= .returned (I k)∧w=w':=by
 go_enter func215,ntmps215;go_wp2_with (simp only[c]);go_ret;exact⟨rfl,rfl⟩
theorem aT9 (k:Int)(w:World)(a:IntKind.u64.wrap (x:Int)=(x:Int))(H:Hid (U 215 #[.int .u64 (x:Int)] w fun e w'=>e= .returned (I k)∧w=w')):
  U 193 #[.int .u64 (x:Int)] w fun e w'=>e= .returned (I k)∧w=w':=by
 go_enter func193,ntmps193;go_wp2_with fail;refine H.out.mono ?_;rintro e w' ⟨rfl,rfl⟩;go_wp2;go_ret;exact⟨rfl,rfl⟩
theorem aDt (w:World)(hk:k<12)(hE:BitTab w):U 193 #[.int .u64 ((2 ^ k:Nat):Int)] w fun e w'=>e= .returned (I k)∧w=w':=by
 obtain⟨⟨b,hi⟩,c,ht⟩:=aT8 ⟨k,hk⟩;dsimp only at c ht;have hp:2 ^ k≤2 ^ 11:=aWi (n:=2) (by omega) (by omega);have h0:0<2 ^ k:=aYa k;have a:IntKind.u64.wrap ((2 ^ k:Nat):Int)=((2 ^ k:Nat):Int):=by rw[IntKind.wrap_u64];omega
 have hc:=hE.cell aVc b (by simpa[Lib.deBruijn64tab]using hi);refine aT9 (2 ^ k) k w a (aNg (2 ^ k) b k w (beq_eq_false_iff_ne.2 (by omega)) a c hi (by rw[hc,aW7,ht];rfl) (aW2 _ (by omega)))
theorem yQ: ∀(l:List Sl2) (i:Nat) (s:Sl2),(l.set i s).flatMap aK=((l.flatMap aK).set (i*2) (I s.1)).set (i*2+1) (I s.2)
 | [],i,s=>by simp
 |x::l,0,s=>by simp[aK]
 |x::l,i+1,s=>by rw[aWf,aXb,aXb,yQ l i s,show(i+1)*2=i*2+1+1 by omega];simp[aK]
theorem aPv (d:Array Sl2)(i j:Nat):(Sort.swp d i j).toList=(d.toList.set i d[j]!).set j d[i]! :=by simp[Sort.swp]
theorem aMz (l:List Sl2)(i:Nat)(s:Sl2)(h:l[i]? =some s):(l.flatMap aK)[i*2]? =some (I s.1)∧(l.flatMap aK)[i*2+1]? =some (I s.2):=by have h0:=fG aK 2 (fun _=>rfl) l i s h 0 (by omega);have h1:=fG aK 2 (fun _=>rfl) l i s h 1 (by omega);exact⟨h0,h1⟩
theorem aVk (c:Nat)(d:Array Sl2)(w0 w:World)(hn:n≤1000)(hd:Hid (d.size=n))(h0:Hid (Mem w0 w [aJ w0 TSL 2 (some ⟨g,0,none⟩) n c (d.toList.flatMap aK)])):
  U 221 #[.slice (some ⟨g,0,none⟩) n c] w fun e w'=>e= .returned (.tuple #[])∧Mem w0 w' [aJ w0 TSL 2 (some ⟨g,0,none⟩) n c (d.reverse.toList.flatMap aK)]:=by
 have ae:=aYs ((n:Int)-1);go_enter func221,ntmps221;go_wp2;go_loopw [2,3] (fun s2 s3 wr=> ∃(i jn:Nat) (jz:Int) (dk:Array Sl2),s2=I i∧s3=I jz∧i≤n∧ -1≤jz∧jz≤n∧((i:Int)<jz→jz=(jn:Int)∧jn<n)∧(¬(i:Int)<jz→ ¬i<jn)∧dk.size=n∧Sort.reverseLoop i jn dk=Sort.reverseLoop 0 (d.size-1) d∧Mem w0 wr [aJ w0 TSL 2 (some ⟨g,0,none⟩) n c (dk.toList.flatMap aK)]) (fun a b _=>(Lib.intOf b-Lib.intOf a).toNat)
 case atStart=>exact⟨0,d.size-1,(n:Int)-1,d,rfl,rfl,aW6 _,by omega,by omega,fun h=>⟨by rw[hd.out];omega,by rw[hd.out];omega⟩,fun h=>by rw[hd.out];omega,hd.out,rfl,h0.out⟩
 case round=>
  clear h0 ae;obtain⟨i,jn,jz,dk,rfl,rfl,af,ag,ah,h1,h2,r,t,hM⟩:=hrel;have HM:=hM;have j:=xQ t;have f:=xQ r;clear hM t r;by_cases hlt:(i:Int)<jz
  ·obtain⟨rfl,ad⟩:=h1 hlt;have ab:i<jn:=by omega
   obtain⟨⟨a0,a1⟩,ha⟩: ∃s,dk[i]! =s:=⟨_,rfl⟩
   obtain⟨⟨b0,b1⟩,hb⟩: ∃s,dk[jn]! =s:=⟨_,rfl⟩
   have p:dk.toList[i]? =some (a0,a1):=by rw[←ha];simp[f.out,show i<n by omega]
   have q:dk.toList[jn]? =some (b0,b1):=by rw[←hb];simp[f.out,ad]
   obtain⟨k,l⟩:=aMz _ _ _ p;obtain⟨m,o⟩:=aMz _ _ _ q;have x:wr.cell? ⟨g,i*2,none⟩=some (I a0):=((HM.ow 0).cellAt (i*2) (by omega)).trans k;have y:wr.cell? ⟨g,i*2+1,none⟩=some (I a1):=((HM.ow 0).cellAt (i*2+1) (by omega)).trans l;have z:wr.cell? ⟨g,jn*2,none⟩=some (I b0):=((HM.ow 0).cellAt (jn*2) (by omega)).trans m;have aa:wr.cell? ⟨g,jn*2+1,none⟩=some (I b1):=((HM.ow 0).cellAt (jn*2+1) (by omega)).trans o;have f0:wr.frozen? ⟨g,i*2,none⟩=false:=(HM.ow 0).frozenAt _;have f1:wr.frozen? ⟨g,i*2+1,none⟩=false:=(HM.ow 0).frozenAt _;have f2:wr.frozen? ⟨g,jn*2,none⟩=false:=(HM.ow 0).frozenAt _;have f3:wr.frozen? ⟨g,jn*2+1,none⟩=false:=(HM.ow 0).frozenAt _;have v:Hid ((Sort.swp dk i jn).toList.flatMap aK=((((dk.toList.flatMap aK).set (i*2) (I b0)).set (i*2+1) (I b1)).set (jn*2) (I a0)).set (jn*2+1) (I a1)):=by show _=_;rw[aPv,ha,hb,yQ,yQ]
   clear k l m o p q ha hb h1 h2
   have M2:=(show Mem w0 ((((wr.drew.setCell ⟨g,i*2,none⟩ (I b0)).setCell ⟨g,i*2+1,none⟩ (I b1)).setCell ⟨g,jn*2,none⟩ (I a0)).setCell ⟨g,jn*2+1,none⟩ (I a1)) [aJ w0 TSL 2 (some ⟨g,0,none⟩) n c ((Sort.swp dk i jn).toList.flatMap aK)]from by
    rw[v.out]
    exact((((HM.adv (Ext.drew (Ext.refl _))).ostore (i:=0) rfl (i*2) (I b0)).ostore (i:=0) rfl (i*2+1) (I b1)).ostore (i:=0) rfl (jn*2) (I a0)).ostore (i:=0) rfl (jn*2+1) (I a1))
   clear HM v;have i1:=aYp i;have i2:=aYq i n;have i3:=aYp jn;have i4:=aYq jn n;have i5:=aYs ((jn:Int)-1);go_wp2_with fail;go_region;clear x y z aa f0 f1 f2 f3;go_wp2;go_roundw
   case rel=>have h9:=j.out;rw[Sort.reverseLoop,if_pos ab]at h9;exact⟨i+1,jn-1,(jn:Int)-1,Sort.swp dk i jn,by go_num,rfl,by omega,by omega,by omega,fun h=>⟨by omega,by omega⟩,fun h=>by omega,by rw[Sort.size_swp];exact f.out,h9,M2⟩
   case measure=>simp[Lib.intOf];omega
  have u:=h2 hlt;have h9:=j.out;rw[Sort.reverseLoop,if_neg u,Lib.reverseLoop_reverse]at h9;rw[h9]at HM;clear j h1 h2 h9;go_wp2;go_end0;exact⟨rfl,by simpa using HM⟩
theorem aR3 (c:Nat)(l:List Sl2)(w0 w:World)(hn:n≤1000)(hl:l.length=n)(h0:Mem w0 w [aJ w0 TSL 2 (some ⟨g,0,none⟩) n c (l.flatMap aK)]):
  U 221 #[.slice (some ⟨g,0,none⟩) n c] w fun e w'=>e= .returned (.tuple #[])∧Mem w0 w' [aJ w0 TSL 2 (some ⟨g,0,none⟩) n c (l.reverse.flatMap aK)]:=by
 have:=aVk g n c l.toArray w0 w hn (xQ (by simpa using hl)) (xQ (by simpa using h0));simpa using this
theorem aO7 (a:OA)(c:Nat)(w:World):U 221 #[.slice a 0 c] w fun e w'=>e= .returned (.tuple #[])∧w=w':=by
 go_enter func221,ntmps221;go_wp2;go_loopw [2,3] (fun s2 s3 wr=>s2=I 0∧s3=I (-1)∧w=wr) (fun _ _ _=>0)
 case atStart=>exact⟨rfl,rfl,rfl⟩
 case round=>obtain⟨rfl,rfl,rfl⟩:=hrel;go_wp2;go_end0;exact⟨rfl,rfl⟩
def rG (xs:List Int):List Value:=xs.map (fun x=> .int .i32 x)
def aVm:Value→Nat
 | .slice _ n _=>n
 |_=>0
structure Trail (n N d:Nat) (B:List Int) (code:Nat→Nat) (e:Nat→Nat×Nat):Prop where
 len:B.length=N
 lt: ∀j,j≤d→code j<N
 far: ∀j,j≤d→code j=code 0→j=0
 back: ∀j,j<d→B.getD (code (j+1)) 0=code j
 f: ∀j,j<d→(e j).1<n
 t: ∀j,j<d→(e j).2<n
 hf: ∀j,j<d→(code j%2 ^ n).testBit (e j).1=false
 ht: ∀j,j<d→(code j%2 ^ n).testBit (e j).2=true
 mv: ∀j,j<d→code (j+1)%2 ^ n=dP (code j%2 ^ n) (e j).1 (e j).2
def rY (e:Nat→Nat×Nat)(d k:Nat):List Sl2:=(List.range k).map (fun i=>lH (e (d-1-i)))
theorem aMc (e:Nat→Nat×Nat)(d k:Nat):rY e d (k+1)=rY e d k++ [lH (e (d-1-k))]:=by unfold rY;rw[aXj,aWs];rfl
theorem aPi (e:Nat→Nat×Nat)(d k:Nat):(rY e d k).length=k:=by simp[rY]
theorem aPh (e:Nat→Nat×Nat)(d:Nat):(rY e d d).reverse=(List.range d).map (fun i=>lH (e i)):=by
 apply List.ext_getElem (by simp[rY]);intro i h1 h2;have hi:i<d:=by simpa using h2
 simp only[rY,List.getElem_reverse,List.getElem_map,List.getElem_range,aWj,List.length_range];congr 2;omega
structure aVh (n j:Nat) (B:List Int) (code:Nat→Nat) (e:Nat→Nat×Nat) (A C1 C0 S1 S0 F T:Nat):Prop where
 a1:bits .and .i64 (C1:Int) (A:Int)=(S1:Int)
 a0:bits .and .i64 (C0:Int) (A:Int)=(S0:Int)
 n1:bits .andNot .i64 (S1:Int) (S0:Int)=((2 ^ F:Nat):Int)
 n0:bits .andNot .i64 (S0:Int) (S1:Int)=((2 ^ T:Nat):Int)
 f:F<12
 t:T<12
 w0:IntKind.i64.wrap (C0:Int)=(C0:Int)
 at1:B[C1]? =some (C0:Int)
theorem Trail.step {n:Nat}{a:Nat→Nat}{e:Nat→Nat×Nat}(h:Trail n N d B a e)(hn:n≤12)(hN:N≤49152)(hj:j<d):
  aVh n j B a e (2 ^ n-1) (a (j+1)) (a j) (a (j+1)%2 ^ n) (a j%2 ^ n) (e j).1 (e j).2:=by
 have l1:=h.lt (j+1) (by omega);have l0:=h.lt j (by omega);have hf:=h.f j hj;have ht:=h.t j hj;have p0:2 ^ n≤2 ^ 12:=aWi (n:=2) (by omega) hn;have p1:2 ^ (e j).1≤2 ^ 11:=aWi (n:=2) (by omega) (by omega);have p2:2 ^ (e j).2≤2 ^ 11:=aWi (n:=2) (by omega) (by omega);have hp:=aYa n;have m1:=Nat.mod_lt (a (j+1)) hp;have m0:=Nat.mod_lt (a j) hp;refine⟨aNb _ n (by omega) hn,aNb _ n (by omega) hn,?_,?_,by omega,by omega,aW2 _ (by omega),?_⟩
 ·have hm:=h.mv j hj;rw[hm]at m1⊢;exact aSf (h.hf j hj) (h.ht j hj) (by omega) (by omega) (by omega)
 ·have hm:=h.mv j hj;rw[hm]at m1⊢;exact aSe (h.hf j hj) (h.ht j hj) (by omega) (by omega) (by omega)
 have:=h.back j hj;rw[aW7,aW0 (by rw[h.len];exact l1)]at this;rw[aW0 (by rw[h.len];exact l1)];exact congrArg some this
theorem aRq (N d cB gB:Nat)(B:List Int)(a:Nat→Nat)(e:Nat→Nat×Nat)(w:World)(hn:n≤12)(hN:N≤49152)(hd:d≤60)(hT:Hid (Trail n N d B a e))(hS:Hid (Sl w (some ⟨gB,0,none⟩) N cB 1 (rG B)))(hE:Hid (BitTab w))(hb:gB<w.heap.size):
  U 213 #[.slice (some ⟨gB,0,none⟩) N cB,I ((a 0:Nat)),I ((a d:Nat)),n] w (iO ((List.range d).map (fun i=>lH (e i))) w):=by
 have hp:=aYa n;have s:2 ^ n≤2 ^ 12:=aWi (n:=2) (by omega) hn;obtain⟨A,hA⟩: ∃A,A=2 ^ n-1:=⟨_,rfl⟩
 have b:=xQ (show∀j,j<d→_ from fun j hj=>hT.out.step hn hN hj);rw[←hA]at b;obtain⟨Q,hQ⟩: ∃Q:Nat,Q=2 ^ n:=⟨_,rfl⟩
 have ad:(2:Int) ^ n=(Q:Int):=by rw[hQ];simp
 have af:IntKind.i64.wrap (Q:Int)=(Q:Int):=aW2 _ (by omega);have ae:IntKind.i64.wrap ((Q:Int)-1)=(A:Int):=by rw[aW2 _ (by omega)];omega
 clear hA hQ hp s;obtain⟨s0,c⟩: ∃s0,s0=a 0:=⟨_,rfl⟩
 have f:=xQ c;rw[←c];clear c;go_enter func213,ntmps213;have M0:=(show Mem w w [aJ w TSL 2 (none) (0) (0) ((rY e d 0).flatMap aK)]from(Mem.start w).ownNew (Ext.refl _) (aW9 _ _ TSL 2) (aVz _))
 go_wp2;go_loopw [2,10] (fun st v wr=> ∃(k:Nat) (q:OA) (lc:Nat),k≤d∧st=I ((a (d-k):Nat))∧v= .slice q k lc∧Mem w wr [aJ w TSL 2 (q) (k) (lc) ((rY e d k).flatMap aK)]) (fun _ v _=>d-aVm v)
 case atStart=>exact⟨0,none,0,aW6 _,rfl,rfl,M0⟩
 case round=>
  clear M0;obtain⟨k,q,lc,hk,rfl,rfl,hM⟩:=hrel;have HM:=hM;clear hM;by_cases hlt:k<d
  ·obtain⟨j,hj⟩: ∃j,j=d-1-k:=⟨_,rfl⟩
   have hB:=b j (by omega);have h:=hT.out.lt (j+1) (by omega);have x:a (j+1)≠s0:=by rw[f.out];intro e2;have:=hT.out.far (j+1) (by omega) e2;omega
   have m:=xQ (aMc e d k);rw[←hj]at m;have o:d-k=j+1:=by omega
   have p:=xQ (show d-(k+1)=j by omega);rw[o];generalize a (j+1)=C1 at*;have t:=xQ (show a (d-(k+1))=a j by rw[p.out]);generalize a j=C0 at*;generalize C1%2 ^ n=S1 at*;generalize C0%2 ^ n=S0 at*;have u:Hid (lH (e j)=(((e j).1:Int),((e j).2:Int))):=rfl;generalize (e j).1=F at*;generalize (e j).2=T at*;obtain⟨b1,b2,b3,b4,b5,b6,b7,b8⟩:=hB;have HF:=xQ (fun(w':World) (hx:Ext w w')=>aDt F w' b5 (hE.out.ext hx));have HT:=xQ (fun(w':World) (hx:Ext w w')=>aDt T w' b6 (hE.out.ext hx));have pF:2 ^ F≤2 ^ 11:=aWi (n:=2) (by omega) (by omega);have pT:2 ^ T≤2 ^ 11:=aWi (n:=2) (by omega) (by omega);generalize 2 ^ F=PF at*;generalize 2 ^ T=PT at*;have u1:IntKind.u64.wrap (PF:Int)=(PF:Int):=by rw[IntKind.wrap_u64];omega
   have u2:IntKind.u64.wrap (PT:Int)=(PT:Int):=by rw[IntKind.wrap_u64];omega
   have t0:((C1:Int)!=(s0:Int))=true:=by simp;omega
   have i1:=aYp C1;have i2:=aYq C1 N;have cb:wr.cell? ⟨gB,C1,none⟩=some (.int .i32 (C0:Int)):=by refine(HM.ext.cells.1 _ _ hb).trans ?_;obtain⟨b',o',e1,_,hc⟩:=hS.out.rd (by omega);injection e1 with e1;injection e1 with e1 e2;subst e1 e2;have:=hc C1 (by omega);rw[aWz]at this;rw[this];simp[rG,b8]
   clear x h pF pT b5 b6 b8 b hT o
   go_wp2_with (first
    |(go_at_call 193;first
      |((with_reducible refine(HF _ HM.ext).mono ?_);rintro e9 w9 ⟨rfl,rfl⟩)
      |((with_reducible refine(HT _ HM.ext).mono ?_);rintro e9 w9 ⟨rfl,rfl⟩))
    |(at_builtin;go_loud (refine dN uG rfl _ _ rfl (HM.adv ((Ext.refl _).alloc (.cells #[F,T] TSL))) 0 rfl rfl (aK ((F:Int),(T:Int))) rfl (fC _ _ _ 1 2 _ (by first|rfl|simp) (by first|rfl|simp) (by simp[maxLen])) (qR _ _) (by omega) ?_;intro q7 c7 w6 M7)))
   have M8:=(show Mem w w6 [aJ w TSL 2 (q7) (k+1) (c7) ((rY e d (k+1)).flatMap aK)]from by rw[m.out,aX4,aXb,List.flatMap_nil,aWr,u.out];exact M7)
   clear M7 HM;go_wp2;go_roundw
   case rel=>exact⟨k+1,q7,c7,by omega,by rw[t.out],rfl,M8⟩
   case measure=>simp[aVm];omega
  obtain rfl:d=k:=by omega
  have t0:((s0:Int)!=(s0:Int))=false:=by simp
  rw[show a (d-d)=s0 by rw[aXp,f.out]];have ab:=xQ (aPh e d);have y:=xQ (aPi e d d);by_cases h0:d=0
  ·subst h0;go_wp2_with fail;refine(aO7 q lc _).mono ?_;rintro e9 w9 ⟨rfl,rfl⟩;go_wp2;go_ret;exact⟨q,lc,rfl,HM.ow 0,HM.ext⟩
  obtain⟨g,rfl,z,aa⟩:=HM.so 0;clear z aa;have HR:=xQ (aR3 g d lc (rY e d d) w wr (by omega) y.out HM);go_wp2_with fail;refine HR.out.mono ?_;rintro e9 w9 ⟨rfl,l⟩;have M9:=(show Mem w w9 [aJ w TSL 2 (some ⟨g,0,none⟩) (d) (lc) (((List.range d).map (fun i=>lH (e i))).flatMap aK)]from by rw[←ab.out];exact l)
  clear l HM HR;go_wp2;go_ret;have r:((List.range d).map (fun i=>lH (e i))).length=d:=by simp
  exact⟨some ⟨g,0,none⟩,lc,by rw[r];rfl,by rw[r];exact M9.ow 0,M9.ext⟩
end Go.Proofs.YthfmmibomhhmpabGreatDoor
