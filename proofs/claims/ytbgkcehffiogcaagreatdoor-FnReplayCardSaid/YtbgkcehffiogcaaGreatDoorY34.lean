/-
  Texts of this proof, packed (@packed).
-/
import Derived.Test.YtbgkcehffiogcaaGreatDoorY25
import Derived.Test.YtbgkcehffiogcaaGreatDoorY33
namespace Go.Proofs.YtbgkcehffiogcaaGreatDoor
open Go.RowKit
set_option linter.unusedSimpArgs false
set_option linter.unusedVariables false
set_option maxHeartbeats 8000000
set_option maxRecDepth 100000
section
open Go.Proofs.Tryz
theorem aO4 (h:aR)(p:OA)(a:Nat)(q:OA)(c2:Nat)(lq:OA)(lm lc:Nat)(ds:List Dd3)(w:World)
  (b:xC 16 #[.agg #[h.aA,h.aB,.slice p h.cells a,h.free,h.step,h.aE,h.aF,h.aC,h.aG,.slice q h.vs c2]] w fun w' e w''=>e= .returned (Value.bool false)∧Ext w' w''):
  U 6 #[.agg #[h.aA,h.aB,.slice p h.cells a,h.free,h.step,h.aE,h.aF,h.aC,h.aG,.slice q h.vs c2],.slice lq lm lc] w (mB w (hZ,[]) w):=by
 go_enter func6,ntmps6;go_wp2_with fail;refine Z (b _ (((Mem.start w).c0 aK #[h.aA,h.aB,.slice p h.cells a,h.free,h.step,h.aE,h.aF,h.aC,h.aG,.slice q h.vs c2]).c1 aK zT).ext) fun w1 d=>?_
 have M1:=((((Mem.start w).c0 aK #[h.aA,h.aB,.slice p h.cells a,h.free,h.step,h.aE,h.aF,h.aC,h.aG,.slice q h.vs c2]).c1 aK zT).adv d)
 clear d b;obtain⟨f0,f,f1,g,f2,j,f3,k,f4,l,f5,m,f6,n,f7,o,f8,r,f9,s⟩:=(M1.bk 0).tenf;go_wp2;clear f0 f f1 g f2 j f3 k f4 l f5 m f6 n f7 o f8 r f9 s;have M2:=(M1.put10 (i:=0) rfl (I 0) (I 0) (.slice none 0 0) (I 0) (I 0) (I 0) (I 0) (I 0) (I 0) (.slice none 0 0))
 generalize c:World.setCell _ _ _=wz;rw[c]at M2;clear c M1;obtain⟨y0,y1,y2,y3,y4,y5,y6,y7,y8,y9⟩:=(M2.bk 0).ten;exact bodyPost_ret (v:= .tuple #[.agg #[(),(),((),()),(),(),(),(),(),(),((),())],((),())]) (by simp[results,results6,go_sem, *]) rfl (show mB w (hZ,[]) w _ _ from⟨none,0,none,0,none,0,rfl,aQ8 _ _ _ _,aQ8 _ _ _ _,aQ8 _ _ _ _,M2.ext⟩)
theorem aPn (h:aR)(p:OA)(a:Nat)(q:OA)(c2:Nat)(lq:OA)(lm lc:Nat)(ds:List Dd3)(w:World)(hb:lm≤1048576)(hE:Hid (BitTab w))(s:Hid (ds.length=lm))(a9:Hid (bL h=true))(HS:Hid (Sl w lq lm lc 3 (ds.flatMap cC)))
  (y:xB 16 #[.agg #[h.aA,h.aB,.slice p h.cells a,h.free,h.step,h.aE,h.aF,h.aC,h.aG,.slice q h.vs c2]] w true)
  (HL:xC 24 #[.agg #[h.aA,h.aB,.slice p h.cells a,h.free,h.step,h.aE,h.aF,h.aC,h.aG,.slice q h.vs c2]] w fun w' e w''=> ∃p' cap' q' c2',e= .returned (.agg #[h.aA,h.aB,.slice p' h.cells cap',h.free,h.step,h.aE,h.aF,h.aC,h.aG,.slice q' h.vs c2'])∧w''.ownsRow w' TI 1 (.slice p' h.cells cap') h.cells.length (ivs h.cells)∧w''.ownsRow w' TV 4 (.slice q' h.vs c2') h.vs.length (h.vs.flatMap aD)∧Ext w' w''):
  U 6 #[.agg #[h.aA,h.aB,.slice p h.cells a,h.free,h.step,h.aE,h.aF,h.aC,h.aG,.slice q h.vs c2],.slice lq lm lc] w (mB w (nU h ds,eS h ds) w):=by
 have a6:=HS.out.bd;obtain⟨AB,o⟩: ∃AB:Array Value,AB=madeCells #[.bool false] lm:=⟨_,rfl⟩
 have a8: ∀w:World,(Instr.makeSlice 34 (I lm) (I lm)).run prog w= .ok (.slice (some ⟨w,0,none⟩) lm lm) (w.alloc (.cells AB TB)):=fun w=>by rw[o];exact run_make_row' _ _ (Value.bool false) 1 underlying34 (by kernel_rfl) rfl .i64 .i64 lm (by omega) (by omega) w
 have z:Hid (AB.toList=bcs []++List.replicate (lm-0) (Value.bool false)):=by show _=_;rw[o,(nD _ lm).1];simp[bcs]
 have aa:Hid (AB.size=lm):=by show _=_;rw[o];exact(nD _ lm).2
 clear o a6;go_enter func6,ntmps6;go_wp2_with fail;refine Z (y _ (((Mem.start w).c0 aK #[h.aA,h.aB,.slice p h.cells a,h.free,h.step,h.aE,h.aF,h.aC,h.aG,.slice q h.vs c2]).c1 aK zT).ext) fun w1 af=>?_
 have M1:=((((Mem.start w).c0 aK #[h.aA,h.aB,.slice p h.cells a,h.free,h.step,h.aE,h.aF,h.aC,h.aG,.slice q h.vs c2]).c1 aK zT).adv af)
 clear af y;obtain⟨ah,ai,aj,ak,al,am,an,ao,ap,aq⟩:=(M1.bk 1).ten;go_wp2_with fail;clear ah ai aj ak al am an ao ap aq;refine(HL _ M1.ext).mono ?_;rintro e w2 ⟨p1,l,q1,m,rfl,ho,hq,hx⟩;have M2:=(M1.own2 hx ho hq (aPv _) (by decide))
 clear M1 hx ho hq HL;go_upto_region 4 with fail;obtain⟨gV,u⟩: ∃gV,gV=w2.heap.size:=⟨_,rfl⟩
 rw[←u];have M3:=(M2.blkNew aK #[h.aA,h.aB,.slice p1 h.cells l,h.free,h.step,h.aE,h.aF,h.aC,h.aG,.slice q1 h.vs m] gV u.symm)
 generalize World.alloc _ _=w3 at M3⊢;clear M2 u;go_upto_region 5 with fail;obtain⟨gD,t⟩: ∃gD,gD=w3.heap.size:=⟨_,rfl⟩
 rw[←t]
 have MD:=(show Mem w (w3.alloc (.cells AB TB)) [aJ w TB 1 (some ⟨gD,0,none⟩) (lm) (lm) (bcs ([])++List.replicate (lm-0) (Value.bool false)),aI w (gV) aK (aSj h p1 l q1 m),aSh w p1 h.cells l,aSi w q1 h.vs m,aI w (w.heap.size+1) aK #[(),(),((),()),(),(),(),(),(),(),((),())],aI w w aK (aSj h p a q c2)]from by
  have h1:=M3.lit TB 1 lm gD AB t.symm (by rw[aa.out];omega) (by simp[maxLen];omega);rw[z.out]at h1
  exact h1)
 generalize ae:World.alloc _ _=w4;rw[ae]at MD;clear ae z aa a8 t M3;go_wp2;go_loopw [21] (fun i wr=> ∃(k:Nat) (g:aR) (p3:OA) (c3:Nat) (q3:OA) (d3:Nat),k≤lm∧i=I k∧g=nU h (ds.take k)∧Mem w wr [aJ w TB 1 (some ⟨gD,0,none⟩) (lm) (lm) (bcs (eS h (ds.take k))++List.replicate (lm-k) (Value.bool false)),aSh w p3 g.cells c3,aSi w q3 g.vs d3,aI w (gV) aK (aSj g p3 c3 q3 d3),aI w (w.heap.size+1) aK #[(),(),((),()),(),(),(),(),(),(),((),())],aI w w aK (aSj h p a q c2)]) (fun i _=>lm-(intOf i).toNat)
 case atStart=>exact⟨0,h,p1,l,q1,m,aQ1 _,rfl,rfl,(show Mem w w4 [aJ w TB 1 (some ⟨gD,0,none⟩) (lm) (lm) (bcs ([])++List.replicate (lm-0) (Value.bool false)),aSh w p1 h.cells l,aSi w q1 h.vs m,aI w (gV) aK (aSj h p1 l q1 m),aI w (w.heap.size+1) aK #[(),(),((),()),(),(),(),(),(),(),((),())],aI w w aK (aSj h p a q c2)]from MD.pick [0,2,3,1,4,5] (by decide) rfl)⟩
 case round=>
  clear MD;obtain⟨k,g,p3,c3,q3,d3,hk,rfl,hg,hM⟩:=hrel;have HM:=hM;have HG:=xQ hg;have x:Hid (bL g=true):=by show _=_;rw[hg];exact rZ _ a9.out
  clear hM hg;by_cases hlt:k<lm
  ·obtain⟨b,bp,a0,a1,a2,a7,hx,bo,e0,e1,e2⟩:=aCi (HS.out.ext HM.ext) hlt;subst a7;have HX:=xQ hx;clear hx;have i1:(0:Int)≤(k:Int):=by omega
   have i2:(k:Int)<(lm:Int):=by omega
   obtain⟨r,num,ok,hr⟩: ∃r num ok,(r,num,ok)=doR g a0 a1 a2:=⟨_,_,_,rfl⟩
   have HR:=xQ hr;clear hr;have ad:Hid (nU h (ds.take (k+1))=r∧eS h (ds.take (k+1))=eS h (ds.take k)++ [ok]):=by show _∧_;rw[bF HX.out,aA2,yC,←HG.out,←HR.out];exact⟨rfl,rfl⟩
   have HD:Hid (∀B p c q d w',B≤w'.heap.size→Ext wr w'→IsHouse w' g p g.cells.length c q g.vs.length d→U 13 #[.agg #[g.aA,g.aB,.slice p g.cells c,g.free,g.step,g.aE,g.aF,g.aC,g.aG,.slice q g.vs d],.agg #[a0,a1,a2]] w' fun e w''=> ∃pa ca qa da,e= .returned (.tuple #[.agg #[r.aA,r.aB,.slice pa r.cells ca,r.free,r.step,r.aE,r.aF,r.aC,r.aG,.slice qa r.vs da],num,.bool ok])∧w''.ownsRow B TI 1 (.slice pa r.cells ca) r.cells.length (ivs r.cells)∧w''.ownsRow B TV 4 (.slice qa r.vs da) r.vs.length (r.vs.flatMap aD)∧Ext w' w''):=fun B p c q d w' hB hx hi=>by refine(aE6 g a0 a1 a2 p _ c q _ d w' hi x (hE.out.ext (HM.ext.trans hx))).mono (fun e w'' hr=> ?_);have hq:=aHq hB x hr;rw[←HR.out]at hq;exact hq
   have IX:=xQ (show IsHouse wr g p3 g.cells.length c3 q3 g.vs.length d3 from⟨(HM.sq 1),(HM.sq 2)⟩);have f:gV<wr:=(HM.hi 3)
   obtain⟨v0,v1,v2,v3,v4,v5,v6,v7,v8,v9⟩:=(HM.bk 3).ten;go_wp2_with fail;clear v0 v1 v2 v3 v4 v5 v6 v7 v8 v9 e0 e1 e2;refine(HD _ _ _ _ _ _ (aPv _) ((Ext.refl _).alloc _) (IX.out.ext ((Ext.refl _).alloc _))).mono ?_;rintro e w6 ⟨p5,c5,q5,d5,rfl,ho,hq,hx⟩;have M6:=((HM.c0 TDd #[a0,a1,a2]).own2 hx ho hq (aPv _) (by decide))
   clear HM f hx ho hq HD IX;obtain⟨v0,bb,v1,bc,v2,be,v3,bf,v4,bg,v5,bh,v6,bi,v7,bj,v8,bl,v9,bm⟩:=(M6.bk 6).tenf;have ag: ¬(gD=gV):=M6.ne (i:=3) (j:=6) (by omega) rfl rfl rfl rfl;have ba: ¬(gV=gD):=fun h=>ag h.symm
   have fD:w6.frozen? ⟨gD,k,none⟩=false:=(M6.ow 3).frozenAt k;have ab:(bcs (eS h (ds.take k))).length=k:=by rw[aOf,qK,aQl,s.out];omega
   have cD:w6.cell? ⟨gD,k,none⟩=some (Value.bool false):=by have:=(M6.ow 3).cellAt k (by omega);rw[this];exact aOc ab hlt
   go_wp2;clear v0 bb v1 bc v2 be v3 bf v4 bg v5 bh v6 bi v7 bj v8 bl v9 bm ag ba fD cD;have M9:=((M6.put10 (i:=6) rfl (I r.aA) (I r.aB) (.slice p5 r.cells c5) (I r.free) (I r.step) (I r.aE) (I r.aF) (I r.aC) (I r.aG) (.slice q5 r.vs d5)).ostore (i:=3) rfl k (Value.bool ok))
   generalize n:World.setCell _ _ _=wz;rw[n]at M9;clear n M6;go_roundw
   case rel=>
    have hd:(bcs (eS h (ds.take k))++List.replicate (lm-k) (Value.bool false)).set k (Value.bool ok)=bcs (eS h (ds.take (k+1)))++List.replicate (lm-(k+1)) (Value.bool false):=by rw[ad.out.2,aEt];exact aN0 ab hlt
    exact⟨k+1,r,p5,c5,q5,d5,by omega,by go_num,ad.out.1.symm,by rw[←hd];exact(show Mem w wz [aJ w TB 1 (some ⟨gD,0,none⟩) (lm) (lm) ((bcs (eS h (ds.take k))++List.replicate (lm-k) (Value.bool false)).set k (Value.bool ok)),aSh w p5 r.cells c5,aSi w q5 r.vs d5,aI w (gV) aK (aSj r p5 c5 q5 d5),aI w (w.heap.size+1) aK #[(),(),((),()),(),(),(),(),(),(),((),())],aI w w aK (aSj h p a q c2)]from(show Mem w wz [aSh w p5 r.cells c5,aSi w q5 r.vs d5,aI w wr TDd #[a0,a1,a2],aJ w TB 1 (some ⟨gD,0,none⟩) (lm) (lm) ((bcs (eS h (ds.take k))++List.replicate (lm-k) (Value.bool false)).set k (Value.bool ok)),aSh w p3 g.cells c3,aSi w q3 g.vs d3,aI w (gV) aK (aSj r p5 c5 q5 d5),aI w (w.heap.size+1) aK #[(),(),((),()),(),(),(),(),(),(),((),())],aI w w aK (aSj h p a q c2)]from M9).pick [3,0,1,6,7,8] (by decide) rfl)⟩
   case measure=>simp[intOf];omega
  obtain rfl:lm=k:=by omega
  have f:gV<wr:=(HM.hi 3)
  obtain⟨v0,v1,v2,v3,v4,v5,v6,v7,v8,v9⟩:=(HM.bk 3).ten;obtain⟨f0,ar,f1,au,f2,av,f3,aw,f4,ax,f5,ay,f6,az,f7,a3,f8,a4,f9,a5⟩:=(HM.bk 4).tenf;go_wp2;clear v0 v1 v2 v3 v4 v5 v6 v7 v8 v9 f0 ar f1 au f2 av f3 aw f4 ax f5 ay f6 az f7 a3 f8 a4 f9 a5 f;have M6:=(HM.put10 (i:=4) rfl (I g.aA) (I g.aB) (.slice p3 g.cells c3) (I g.free) (I g.step) (I g.aE) (I g.aF) (I g.aC) (I g.aG) (.slice q3 g.vs d3))
  generalize n:World.setCell _ _ _=wz;rw[n]at M6;clear n HM;obtain⟨y0,y1,y2,y3,y4,y5,y6,y7,y8,y9⟩:=(M6.bk 4).ten;exact bodyPost_ret (v:= .tuple #[.agg #[g.aA,g.aB,.slice p3 g.cells c3,g.free,g.step,g.aE,g.aF,g.aC,g.aG,.slice q3 g.vs d3],.slice (some ⟨gD,0,none⟩) lm lm]) (by simp[results,results6,go_sem, *]) rfl (aHp (by have h1:=HG.out;rw[aQ2 (by rw[s.out];exact aPv _)]at h1;exact h1) s.out (M6.ow 1) (M6.ow 2) (by have h1:=(M6.ow 0);rw[aQ2 (by rw[s.out];exact aPv _),aS1,List.replicate_zero,aQo]at h1;exact h1) M6.ext)
theorem oA (h:aR)(p:OA)(n a:Nat)(q:OA)(m c2:Nat)(lq:OA)(lm lc:Nat)(ds:List Dd3)(w:World)(hi:IsHouse w h p n a q m c2)(hS:Sl w lq lm lc 3 (ds.flatMap cC))(hb:lm≤1048576)(hE:BitTab w):
  U 6 #[bO h p n a q m c2,.slice lq lm lc] w (mB w (vP h ds) w):=by
 have hl:=hi.clen;have c:=hi.vlen;have b:ds.length=lm:=by have:=hS.len;rw[dE cC 3 (fun _=>rfl)]at this;omega
 subst hl c;have HV:=xQ fun(w':World) (hx:Ext w w')=>nI h p _ a q _ c2 w' (hi.ext hx)
 by_cases hok:bL h=true
 ·have d:=gY hok;unfold vP;rw[if_pos hok];rw[hok]at HV;have HL:=xQ fun(w':World) (hx:Ext w w')=>qX h p _ a q _ c2 w' (by omega) (by omega) (hi.ext hx)
  unfold RetHouse at HL;exact aPn h p a q c2 lq lm lc ds w hb hE b hok hS HV HL
 unfold vP;rw[if_neg hok];rw[show bL h=false by simpa using hok]at HV;exact aO4 h p a q c2 lq lm lc ds w HV
theorem lD (x:UInt8)(c:UInt8):((x.toNat:Int)==(c.toNat:Int))=decide (x=c):=by
 by_cases h:x=c
 ·simp[h]
 simp only[h,decide_false,beq_eq_false_iff_ne,ne_eq];intro q;exact h (UInt8.toNat_inj.1 (by omega))
theorem fT (s:ByteArray)(k:Nat)(h:k<s.size):s.data.toList[k]? =some s[k]:=by rw[aPw (by simpa using h)];rfl
theorem qA {c:UInt8}{l:List UInt8}{e k:Nat}(h:iK c l=some e)(hk:k<e):l[k]? ≠some c:=by intro q;have:=(eW h).2.2;exact this (by rw[List.mem_take_iff_getElem];obtain⟨h1,h2⟩:=aPy.1 q;exact⟨k,by omega,h2⟩)
theorem aJa {c:UInt8}{l:List UInt8}{k:Nat}(h:iK c l=none):l[k]? ≠some c:=by intro q;have hm:=aPz q;unfold iK at h;rw[if_pos hm]at h;simp at h
theorem aFm (s:ByteArray)(w:World)(hs:s.size≤4294967280)(hp:iK 59 s.data.toList=none):
  U 82 #[.string s] w (kW none w):=by
 have a:Hid (∀k (h:k<s.size),((s[k].toNat:Int)!=59)=true):=by intro k h;have:=aJa (k:=k) hp;rw[fT s k h]at this;rw[bne,show(59:Int)=((59:UInt8).toNat:Int)from rfl,lD];simpa using this
 go_enter func82,ntmps82;go_wp2;go_loop [5] (fun i=> ∃k:Nat,k≤s.size∧i=I k) (fun i=>s.size-(intOf i).toNat)
 case atStart=>exact⟨0,aQ1 _,rfl⟩
 case round=>
  obtain⟨k,hk,rfl⟩:=hrel;by_cases hlt:k<s.size
  ·have hb:=a k hlt;go_wp2;go_round
   case rel=>exact⟨k+1,by omega,by go_num⟩
   case measure=>simp[intOf];omega
  obtain rfl:k=s.size:=by omega
  go_wp2;exact bodyPost_ret (v:=reV none) (by simp[results,results82,go_sem];rfl) rfl ⟨rfl,xE⟩
theorem aIx (s:ByteArray)(e n1 n2:Nat)(ps qs:List (List UInt8))(b:List UInt8)(w:World)(hs:s.size≤4294967280)(hp:iK 59 s.data.toList=some e)
  (h1:1≤n1)(hb:ps[0]? =some b) (h2:1≤n2) (o:((n2:Int)!=2)=true) (t:n2≤4294967281)
  (HC:Hid (∀w,U 118 #[.string (s.extract 0 e),.int .u8 35] w fun q w'=> ∃v,q= .returned v∧w'.ownsRow w 9 1 v n1 (gK ps)∧Ext w w'))
  (d:Hid (∀w,U 118 #[str b,.int .u8 58] w fun q w'=> ∃v,q= .returned v∧w'.ownsRow w 9 1 v n2 (gK qs)∧Ext w w')):
  U 82 #[.string s] w (kW none w):=by
 have j:e<s.size:=by have:=(eW hp).1;rwa[bY]at this
 have c:Hid (∀k (h:k<e) (h2:k<s.size),((s[k].toNat:Int)!=59)=true):=by intro k h h2;have:=qA hp h;rw[fT s k h2]at this;rw[bne,show(59:Int)=((59:UInt8).toNat:Int)from rfl,lD];simpa using this
 have f:((s[e].toNat:Int)!=59)=false:=by have:=(eW hp).2.1;rw[fT s e j]at this;rw[bne,show(59:Int)=((59:UInt8).toNat:Int)from rfl,lD];simpa using this
 go_enter func82,ntmps82;go_wp2;go_loop [5] (fun i=> ∃k:Nat,k≤e∧i=I k) (fun i=>e-(intOf i).toNat)
 case atStart=>exact⟨0,aQ1 _,rfl⟩
 case round=>
  obtain⟨k,hk,rfl⟩:=hrel;by_cases hlt:k<e
  ·have l:k<s.size:=by omega
   have hb:=c k hlt l;clear f;go_wp2;go_round
   case rel=>exact⟨k+1,by omega,by go_num⟩
   case measure=>simp[intOf];omega
  obtain rfl:k=e:=by omega
  have x:((k:Int)==(s.size:Int))=false:=by simp;omega
  go_wp2_with fail;refine(HC _).mono ?_;rintro q w1 ⟨v,rfl,a,h1⟩;obtain⟨g,n,rfl⟩:=aQk a (by omega);have e0:=bI a 0 (by omega) _ hb;clear a;have u:0<n1:=by omega
  go_wp2_with fail;refine(d _).mono ?_;rintro q w2 ⟨v,rfl,a,h2⟩;obtain⟨g2,m,rfl⟩:=aQk a (by omega);clear a;replace h2:=h1.trans h2;clear h1 e0;obtain⟨p,r⟩:=h2.cells;go_wp2;exact bodyPost_ret (v:=reV none) (by simp[results,results82,go_sem, *];rfl) rfl ⟨rfl,xE⟩
theorem aFn (s:ByteArray)(e n1:Nat)(ps:List (List UInt8))(b:List UInt8)(w:World)(hs:s.size≤4294967280)(hp:iK 59 s.data.toList=some e)
  (h1:1≤n1)(hb:ps[0]? =some b) (f r:List UInt8) (n:Int)
  (HC:Hid (∀w,U 118 #[.string (s.extract 0 e),.int .u8 35] w fun q w'=> ∃v,q= .returned v∧w'.ownsRow w 9 1 v n1 (gK ps)∧Ext w w'))
  (d:Hid (∀w,U 118 #[str b,.int .u8 58] w fun q w'=> ∃v,q= .returned v∧w'.ownsRow w 9 1 v 2 (gK [f,r])∧Ext w w'))
  (HR:Hid (∀w,U 119 #[str f] w fun q w'=>q= .returned (I n)∧w=w'))
  (HD:Hid (∀w,U 120 #[str r] w (O (.tuple #[cF 0 0 0,.bool false]) w))):
  U 82 #[.string s] w (kW (none) w):=by
 have l:e<s.size:=by have:=(eW hp).1;rwa[bY]at this
 have c:Hid (∀k (h:k<e) (h2:k<s.size),((s[k].toNat:Int)!=59)=true):=by intro k h h2;have:=qA hp h;rw[fT s k h2]at this;rw[bne,show(59:Int)=((59:UInt8).toNat:Int)from rfl,lD];simpa using this
 have j:((s[e].toNat:Int)!=59)=false:=by have:=(eW hp).2.1;rw[fT s e l]at this;rw[bne,show(59:Int)=((59:UInt8).toNat:Int)from rfl,lD];simpa using this
 go_enter func82,ntmps82;go_wp2;go_loop [5] (fun i=> ∃k:Nat,k≤e∧i=I k) (fun i=>e-(intOf i).toNat)
 case atStart=>exact⟨0,aQ1 _,rfl⟩
 case round=>
  obtain⟨k,hk,rfl⟩:=hrel;by_cases hlt:k<e
  ·have m:k<s.size:=by omega
   have hb:=c k hlt m;clear j;go_wp2;go_round
   case rel=>exact⟨k+1,by omega,by go_num⟩
   case measure=>simp[intOf];omega
  obtain rfl:k=e:=by omega
  have y:((k:Int)==(s.size:Int))=false:=by simp;omega
  go_wp2_with fail;refine(HC _).mono ?_;rintro q w1 ⟨v,rfl,a,h1⟩;obtain⟨g,p,rfl⟩:=aQk a (by omega);have e0:=bI a 0 (by omega) _ hb;clear a;have x:0<n1:=by omega
  go_wp2_with fail;refine(d _).mono ?_;rintro q w2 ⟨v,rfl,a,h2⟩;obtain⟨g2,o,rfl⟩:=aQk a (by omega);have e1:=bI a 0 (by omega) _ rfl;have e2:=bI a 1 (by omega) _ rfl;clear a;replace h2:=h1.trans h2;clear h1 e0;go_wp2_with fail;refine(HR _).mono ?_;rintro q w3 ⟨rfl,rfl⟩;go_wp2_with fail;refine Z (HD _) fun w3 h3=>?_
  clear e1 e2;replace h3:=h2.trans h3;clear h2;obtain⟨t,u⟩:=h3.cells;have z:(w:Nat)<w3:=aPu (by simp) h3.sz;go_wp2;go_quiet (fail);go_wp2;exact bodyPost_ret (v:=reV none) (by simp[results,results82,go_sem, *];rfl) rfl ⟨rfl,xE⟩
theorem aL4 (s:ByteArray)(e n1:Nat)(ps:List (List UInt8))(b:List UInt8)(w:World)(hs:s.size≤4294967280)(hp:iK 59 s.data.toList=some e)
  (h1:1≤n1)(hb:ps[0]? =some b) (f r t:List UInt8) (n k2 a b0:Int)
  (HC:Hid (∀w,U 118 #[.string (s.extract 0 e),.int .u8 35] w fun q w'=> ∃v,q= .returned v∧w'.ownsRow w 9 1 v n1 (gK ps)∧Ext w w'))
  (j:Hid (∀w,U 118 #[str b,.int .u8 58] w fun q w'=> ∃v,q= .returned v∧w'.ownsRow w 9 1 v 2 (gK [f,r])∧Ext w w'))
  (HR:Hid (∀w,U 119 #[str f] w fun q w'=>q= .returned (I n)∧w=w'))
  (HD:Hid (∀w,U 120 #[str r] w (O (.tuple #[cF k2 a b0,.bool true]) w)))
  (HT:Hid (∀w,U 117 #[n,cF k2 a b0] w (O (str t) w))) (ag:t.length≤200) (u:(t==(s.extract 0 (e+1)).toList)=false):
  U 82 #[.string s] w (kW (none) w):=by
 have m:e<s.size:=by have:=(eW hp).1;rwa[bY]at this
 have d:Hid (∀k (h:k<e) (h2:k<s.size),((s[k].toNat:Int)!=59)=true):=by intro k h h2;have:=qA hp h;rw[fT s k h2]at this;rw[bne,show(59:Int)=((59:UInt8).toNat:Int)from rfl,lD];simpa using this
 have l:((s[e].toNat:Int)!=59)=false:=by have:=(eW hp).2.1;rw[fT s e m]at this;rw[bne,show(59:Int)=((59:UInt8).toNat:Int)from rfl,lD];simpa using this
 go_enter func82,ntmps82;go_wp2;go_loop [5] (fun i=> ∃k:Nat,k≤e∧i=I k) (fun i=>e-(intOf i).toNat)
 case atStart=>exact⟨0,aQ1 _,rfl⟩
 case round=>
  obtain⟨k,hk,rfl⟩:=hrel;by_cases hlt:k<e
  ·have o:k<s.size:=by omega
   have hb:=d k hlt o;clear l;go_wp2;go_round
   case rel=>exact⟨k+1,by omega,by go_num⟩
   case measure=>simp[intOf];omega
  obtain rfl:k=e:=by omega
  have af:((k:Int)==(s.size:Int))=false:=by simp;omega
  go_wp2_with fail;refine(HC _).mono ?_;rintro q w1 ⟨v,rfl,c,h1⟩;obtain⟨g,x,rfl⟩:=aQk c (by omega);have e0:=bI c 0 (by omega) _ hb;clear c;have ae:0<n1:=by omega
  go_wp2_with fail;refine(j _).mono ?_;rintro q w2 ⟨v,rfl,c,h2⟩;obtain⟨g2,p,rfl⟩:=aQk c (by omega);have e1:=bI c 0 (by omega) _ rfl;have e2:=bI c 1 (by omega) _ rfl;clear c;replace h2:=h1.trans h2;clear h1 e0;go_wp2_with fail;refine(HR _).mono ?_;rintro q w3 ⟨rfl,rfl⟩;go_wp2_with fail;refine Z (HD _) fun w3 h3=>?_
  clear e1 e2;replace h3:=h2.trans h3;clear h2;obtain⟨y,ab⟩:=h3.cells;have ah:(w:Nat)<w3:=aPu (by simp) h3.sz;go_wp2;have q1:IntKind.i64.wrap ((k:Int)+1)=(k:Int)+1:=aPx _ (by omega);have q2:0≤(k:Int)+1:=by omega
  have q3:((k:Int)+1).toNat=k+1:=by omega
  have q4:(k:Int)+1≤(s.size:Int):=by omega
  go_region_held3 (fun w'=>w'.cell? ⟨w3,0,none⟩=some (I k2)∧w'.cell? ⟨w3,1,none⟩=some (I a)∧w'.cell? ⟨w3,2,none⟩=some (I b0)) (go_keep)
   ((go_at_call 117;refine Z (HT _) fun w4 h4=>?_;(try replace h4:=h4.of_drew);have aa:=h4.cells.1))
  clear q1 q2 q3 q4;replace h4:=(h3.alloc (.cells #[k2,a,b0] 44)).trans h4;obtain⟨z,ad⟩:=h4.cells;go_wp2;exact bodyPost_ret (v:=reV none) (by simp[results,results82,go_sem, *];rfl) rfl ⟨rfl,xE⟩
theorem aL3 (s:ByteArray)(e n1:Nat)(ps:List (List UInt8))(b:List UInt8)(w:World)(hs:s.size≤4294967280)(hp:iK 59 s.data.toList=some e)
  (h1:1≤n1)(hb:ps[0]? =some b) (f r t:List UInt8) (n k2 a b0:Int)
  (HC:Hid (∀w,U 118 #[.string (s.extract 0 e),.int .u8 35] w fun q w'=> ∃v,q= .returned v∧w'.ownsRow w 9 1 v n1 (gK ps)∧Ext w w'))
  (j:Hid (∀w,U 118 #[str b,.int .u8 58] w fun q w'=> ∃v,q= .returned v∧w'.ownsRow w 9 1 v 2 (gK [f,r])∧Ext w w'))
  (HR:Hid (∀w,U 119 #[str f] w fun q w'=>q= .returned (I n)∧w=w'))
  (HD:Hid (∀w,U 120 #[str r] w (O (.tuple #[cF k2 a b0,.bool true]) w)))
  (HT:Hid (∀w,U 117 #[n,cF k2 a b0] w (O (str t) w))) (ag:t.length≤200) (u:(t==(s.extract 0 (e+1)).toList)=true):
  U 82 #[.string s] w (kW (some (n,(k2,a,b0),e+1)) w):=by
 have m:e<s.size:=by have:=(eW hp).1;rwa[bY]at this
 have d:Hid (∀k (h:k<e) (h2:k<s.size),((s[k].toNat:Int)!=59)=true):=by intro k h h2;have:=qA hp h;rw[fT s k h2]at this;rw[bne,show(59:Int)=((59:UInt8).toNat:Int)from rfl,lD];simpa using this
 have l:((s[e].toNat:Int)!=59)=false:=by have:=(eW hp).2.1;rw[fT s e m]at this;rw[bne,show(59:Int)=((59:UInt8).toNat:Int)from rfl,lD];simpa using this
 go_enter func82,ntmps82;go_wp2;go_loop [5] (fun i=> ∃k:Nat,k≤e∧i=I k) (fun i=>e-(intOf i).toNat)
 case atStart=>exact⟨0,aQ1 _,rfl⟩
 case round=>
  obtain⟨k,hk,rfl⟩:=hrel;by_cases hlt:k<e
  ·have o:k<s.size:=by omega
   have hb:=d k hlt o;clear l;go_wp2;go_round
   case rel=>exact⟨k+1,by omega,by go_num⟩
   case measure=>simp[intOf];omega
  obtain rfl:k=e:=by omega
  have af:((k:Int)==(s.size:Int))=false:=by simp;omega
  go_wp2_with fail;refine(HC _).mono ?_;rintro q w1 ⟨v,rfl,c,h1⟩;obtain⟨g,x,rfl⟩:=aQk c (by omega);have e0:=bI c 0 (by omega) _ hb;clear c;have ae:0<n1:=by omega
  go_wp2_with fail;refine(j _).mono ?_;rintro q w2 ⟨v,rfl,c,h2⟩;obtain⟨g2,p,rfl⟩:=aQk c (by omega);have e1:=bI c 0 (by omega) _ rfl;have e2:=bI c 1 (by omega) _ rfl;clear c;replace h2:=h1.trans h2;clear h1 e0;go_wp2_with fail;refine(HR _).mono ?_;rintro q w3 ⟨rfl,rfl⟩;go_wp2_with fail;refine Z (HD _) fun w3 h3=>?_
  clear e1 e2;replace h3:=h2.trans h3;clear h2;obtain⟨y,ab⟩:=h3.cells;have ah:(w:Nat)<w3:=aPu (by simp) h3.sz;go_wp2;have q1:IntKind.i64.wrap ((k:Int)+1)=(k:Int)+1:=aPx _ (by omega);have q2:0≤(k:Int)+1:=by omega
  have q3:((k:Int)+1).toNat=k+1:=by omega
  have q4:(k:Int)+1≤(s.size:Int):=by omega
  go_region_held3 (fun w'=>w'.cell? ⟨w3,0,none⟩=some (I k2)∧w'.cell? ⟨w3,1,none⟩=some (I a)∧w'.cell? ⟨w3,2,none⟩=some (I b0)) (go_keep)
   ((go_at_call 117;refine Z (HT _) fun w4 h4=>?_;(try replace h4:=h4.of_drew);have aa:=h4.cells.1))
  clear q1 q2 q3 q4;replace h4:=(h3.alloc (.cells #[k2,a,b0] 44)).trans h4;obtain⟨z,ad⟩:=h4.cells;go_wp2;go_region;all_goals go_wp2
  all_goals exact bodyPost_ret (v:=reV (some (n,(k2,a,b0),k+1))) (by simp[results,results82,go_sem, *];rfl) rfl ⟨rfl,xE⟩
theorem mT (s:ByteArray)(n:Nat):(s.extract 0 n).toList=s.data.toList.take n:=by rw[Lib.toList_data,Lib.extract_data];simp
theorem aCe (s:ByteArray)(n:Nat):Value.string (s.extract 0 n)=str (s.data.toList.take n):=by rw[wE,←Lib.toList_data,mT]
theorem wJ (s:ByteArray)(w:World)(hs:s.size≤4294967280):U 82 #[.string s] w (kW (bX s.data.toList) w):=by
 rw[←tN];unfold fE;cases hp:iK 59 s.data.toList with
 |none=>exact aFm s w hs hp
 |some e=>
  simp only;have u:e<s.size:=by have:=(eW hp).1;rwa[bY]at this
  have y:(s.data.toList.take e).length≤s.size:=by simp;omega
  have hC: ∀w,U 118 #[.string (s.extract 0 e),.int .u8 35] w fun q w'=> ∃v,q= .returned v∧w'.ownsRow w 9 1 v (cI 35 (s.data.toList.take e)).length (gK (cI 35 (s.data.toList.take e)))∧Ext w w':=by intro w;rw[aCe];exact tZ ⟨(s.data.toList.take e).toArray⟩ 35 35 rfl w (by simp only[ByteArray.size,List.size_toArray];omega)
  have j:=aAu 35 (s.data.toList.take e);have t:=(oH 35 (s.data.toList.take e)).1;have g: ∀w,U 118 #[str (dC 35 (s.data.toList.take e)),.int .u8 58] w fun q w'=> ∃v,q= .returned v∧w'.ownsRow w 9 1 v (cI 58 (dC 35 (s.data.toList.take e))).length (gK (cI 58 (dC 35 (s.data.toList.take e))))∧Ext w w':=by intro w;exact tZ ⟨(dC 35 (s.data.toList.take e)).toArray⟩ 58 58 rfl w (by simp only[ByteArray.size,List.size_toArray];omega)
  have l:1≤(cI 35 (s.data.toList.take e)).length:=by
   cases hq:cI 35 (s.data.toList.take e)with
   |nil=>exact absurd hq (kI _ _)
   |cons a b=>simp
  generalize hb:dC 35 (s.data.toList.take e)=b at*;have m:=yG 58 b;have i:(cI 58 b).length≠2→U 82 #[.string s] w (kW none w):=by
   intro h;have n:1≤(cI 58 b).length:=by
    cases hq:cI 58 b with
    |nil=>exact absurd hq (kI _ _)
    |cons a c=>simp
   exact aIx s e _ _ _ (cI 58 b) b w hs hp l j n (by simp;omega) (by omega) hC g
  rcases hc:cI 58 b with _|⟨f,_|⟨r,_|⟨x,p⟩⟩⟩
  ·exact i (by simp[hc])
  ·exact i (by simp[hc])
  ·simp only;rw[hc]at g;have hf:=m.1 f (by simp[hc]);have hr:=m.1 r (by simp[hc]);have hR: ∀w,U 119 #[str f] w fun q w'=>q= .returned (I ((dK 4 f).getD (-1)))∧w=w':=fun w=>xG f (by unfold maxLen;omega) w
   have hD: ∀o,bS r=o→ ∀w,U 120 #[str r] w (O (rdV o) w):=by intro o ho w;subst ho;exact aB0 r w (by omega)
   cases hd:bS r with
   |none=>exact aFn s e _ _ b w hs hp l j f r _ hC g hR (hD _ hd)
   |some d=>
    obtain⟨k,a,b0⟩:=d;have hT: ∀w,U 117 #[((dK 4 f).getD (-1):Int),cF k a b0] w (O (str (aY ((dK 4 f).getD (-1)) k a b0)) w):=fun w=>zW _ k a b0 w
    by_cases ht:aY ((dK 4 f).getD (-1)) k a b0=s.data.toList.take (e+1)
    ·simp only[ht,if_true];exact aL3 s e _ _ b w hs hp l j f r _ _ k a b0 hC g hR (hD _ hd) hT (fX _ k a b0) (by rw[mT,ht];simp)
    simp only[ht,if_false];exact aL4 s e _ _ b w hs hp l j f r _ _ k a b0 hC g hR (hD _ hd) hT (fX _ k a b0) (by rw[mT];simpa using ht)
  exact i (by simp[hc])
theorem yP (l:List UInt8)(w:World)(hs:l.length≤4294967280):U 82 #[str l] w (kW (bX l) w):=
 wJ ⟨l.toArray⟩ w (by simpa[ByteArray.size]using hs)
end
def qP:Nat→Int→List UInt8→List dZ×Nat
 |0,_,_=>([],0)
 |f+1,first,l=>match bX l with
  |none=>([],0)
  |some (n,d,m)=>if n=first then(d::(qP f (first+1) (l.drop m)).1,m+(qP f (first+1) (l.drop m)).2)else([],0)
def rj (first:Int)(l:List UInt8):List dZ×Nat:=qP l.length first l
theorem eH {l:List UInt8}{n:Int}{d:dZ}{m:Nat}(h:bX l=some (n,d,m)):0<m∧m≤l.length∧1≤n∧n≤99:=by
 obtain⟨k,a,b⟩:=d;obtain⟨h1,h2,h3⟩:=lS h;obtain⟨q1,q2,_⟩:=gZ h1;have:=congrArg List.length h2;rw[aQ3]at this;have hp:(aY n k a b).length≠0:=fun e=>h1 (aQj e)
 omega
theorem iO:bX []=none:=by
 cases h:bX []with
 |none=>rfl
 |some x=>obtain⟨n,d,m⟩:=x;have:=eH h;simp at this;omega
theorem aJ2: ∀(f g:Nat) (first:Int) (l:List UInt8),l.length≤f→l.length≤g→qP f first l=qP g first l:=by
 intro f;induction f with
 |zero=>
  intro g first l hf hg
  obtain rfl:l= []:=aQj (by omega);cases g with
  |zero=>rfl
  |succ g=>simp[qP,iO]
 |succ f ih=>
  intro g first l hf hg
  cases g with
  |zero=>obtain rfl:l= []:=aQj (by omega);simp[qP,iO]
  |succ g=>
   simp only[qP];cases h:bX l with
   |none=>rfl
   |some x=>obtain⟨n,d,m⟩:=x;obtain⟨h1,h2,_⟩:=eH h;simp only;rw[ih g (first+1) (l.drop m) (by simp;omega) (by simp;omega)]
theorem aBg {first:Int}{l:List UInt8}(h:bX l=none):rj first l=([],0):=by
 unfold rj;cases l with
 |nil=>rfl
 |cons x xs=>simp[qP,h]
theorem aDd {first n:Int}{l:List UInt8}{d:dZ}{m:Nat}(h:bX l=some (n,d,m))(hn:n≠first):rj first l=([],0):=by
 unfold rj;cases l with
 |nil=>rw[iO]at h;simp at h
 |cons x xs=>simp[qP,h,hn]
theorem aBf {first:Int}{l:List UInt8}{d:dZ}{m:Nat}(h:bX l=some (first,d,m)):rj first l=(d::(rj (first+1) (l.drop m)).1,m+(rj (first+1) (l.drop m)).2):=by
 obtain⟨h1,h2,_⟩:=eH h;have e:rj first l=qP ((l.length-1)+1) first l:=by unfold rj;congr 1;omega
 rw[e];simp only[qP,h,if_true];have e2:qP (l.length-1) (first+1) (l.drop m)=rj (first+1) (l.drop m):=aJ2 _ _ _ _ (by simp;omega) (by simp);rw[e2]
theorem yH (w:World)(a b c:Value)(t:TypeId): ∀j u,[a,b,c][j]? =some u→(w.alloc (.cells #[a,b,c] t)).cell? ((⟨w,0,none⟩:Addr).add j)=some u:=by
 intro j u h;rw[jU,aR2]
 match j,h with
 |0,h=>simp at h;subst h;simp
 |1,h=>simp at h;subst h;simp
 |2,h=>simp at h;subst h;simp
section
open Go.Proofs.Tryz
def aNa (first:Int)(l:List UInt8)(w:World)(e:Ending)(w':World):Prop:=
 ∃v,e= .returned (.tuple #[v,.int .i64 (rj first l).2])∧w'.ownsRow w.heap.size 44 3 v (rj first l).1.length ((rj first l).1.flatMap eM)∧Ext w w'
def aHe (first:Int)(l:List UInt8)(A:List dZ)(q:Nat):Prop:=
 q≤l.length∧A.length≤q∧(A.length=0∨(1≤first∧first+A.length≤100))∧rj first l=(A++(rj (first+A.length) (l.drop q)).1,q+(rj (first+A.length) (l.drop q)).2)
theorem wP (first:Int)(l:List UInt8):aHe first l [] 0:=⟨aQ1 _,aPv _,.inl rfl,by simp⟩
theorem tS {first:Int}{l:List UInt8}{A:List dZ}{q:Nat}(h:aHe first l A q)(h1:bX (l.drop q)=none):rj first l=(A,q):=by rw[h.2.2.2,aBg h1];simp
theorem wQ {first n:Int}{l:List UInt8}{A:List dZ}{q m:Nat}{d:dZ}(h:aHe first l A q)(h1:bX (l.drop q)=some (n,d,m))(hn:n≠first+A.length):rj first l=(A,q):=by rw[h.2.2.2,aDd h1 hn];simp
theorem aA4 {first:Int}{l:List UInt8}{A:List dZ}{q m:Nat}{d:dZ}(h:aHe first l A q)(h1:bX (l.drop q)=some (first+A.length,d,m)):aHe first l (A++ [d]) (q+m):=by obtain⟨h2,h3,h4,h5⟩:=h;obtain⟨q1,q2,q3,q4⟩:=eH h1;rw[aQw]at q2;refine⟨by omega,by simp;omega,.inr ⟨by rcases h4 with h4|h4<;>omega,by simp;omega⟩,?_⟩;rw[h5,aBf h1];simp[List.drop_drop,Int.add_assoc,Nat.add_assoc]
theorem sD {first:Int}{l:List UInt8}{A:List dZ}{q n:Nat}{v:Value}{w w':World}(h:rj first l=(A,q))(hn:n=A.length)(ho:w'.ownsRow w 44 3 v n (A.flatMap eM))(hE:Ext w w'):
  aNa first l w (.returned (.tuple #[v,q])) w':=⟨v,by rw[h],by rw[h];subst hn;exact ho,hE⟩
theorem sY (s:ByteArray)(q:Nat):Value.string (s.extract q s.size)=str (s.data.toList.drop q):=
 pJ s q s.size _ (by rw[aQ2 (by rw[Array.length_toList];exact aPv _)])
theorem sK {w:World}{base sz n:Nat}{e:TypeId}{v:Value}{xs:List Value}(h:w.ownsRow base e sz v n xs): ∃p cap,v= .slice p n cap:=by
 rcases h.2 with⟨h1,h2⟩|⟨g,cap,_,h1,_⟩
 ·exact⟨none,0,by rw[h1,h2]⟩
 exact⟨_,cap,h1⟩
theorem aAh:(prog.info? 44).map (fun i=>(i.zero,i.size,i.bytes))=some (some (.agg #[(),(),()]),3,24):=aM0
theorem aOn (first:Int)(s:ByteArray)(w:World)(hs:s.size≤2147483648)(hB:B64 first):
  U 46 #[first,.string s] w (aNa first s.data.toList w):=by
 obtain⟨i0,hi,ab,ad,ae⟩:=info_parts aAh;have y:s.data.toList.length=s.size:=by rw[Array.length_toList];rfl
 have HL:=xQ y;clear y;go_enter func46,ntmps46;go_wp2;go_loopw [6,7] (fun v q wr=> ∃(k:Nat) (A:List dZ) (p:OA) (n cap:Nat),v= .slice p n cap∧n=A.length∧q=I k∧aHe first s.data.toList A k∧wr.ownsRow w 44 3 (.slice p n cap) n (A.flatMap eM)∧Ext w wr) (fun _ q _=>s.size-(intOf q).toNat)
 case atStart=>exact⟨0,[],_,0,0,rfl,rfl,rfl,wP _ _,aR0 _ #[] 0 (aPv _) (by simp[maxLen]) rfl,(Ext.refl _).alloc _⟩
 case round=>
  obtain⟨k,A,p,n,cap,rfl,hn,rfl,i,g,hE⟩:=hrel;have r:=xQ i;have ah:=hE.sz;have ag:n≤k:=by rw[hn];exact i.2.1
  have hk:k≤s.size:=by have:=i.1;rwa[HL.out]at this
  have af:n=0∨(1≤first∧first+n≤100):=by rw[hn];exact i.2.2.1
  have HN:=xQ hn;clear hn i;by_cases hlt:k<s.size
  ·have HS:Hid (∀w,U 82 #[.string (s.extract k s.size)] w (kW (bX (s.data.toList.drop k)) w)):=fun w=>by
    rw[sY];exact yP _ w (by rw[aQw,HL.out];omega)
   cases hre:bX (s.data.toList.drop k)with
   |none=>
    rw[hre]at HS;have f:=xQ (tS r hre);clear hre;go_wp2_with fail;refine Z (HS _) fun w1 h1=>?_
    have d:=g.kept h1.gb (by cases Value.ownBlock _<;>simp);unfold reV;go_wp2;exact bodyPost_ret (v:= .tuple #[.slice p n cap,k]) (by simp[results,results46,go_sem, *]) rfl (sD f.out HN (d.alloc _) xE)
   |some x=>
    obtain⟨z,⟨a,b,c⟩,m⟩:=x;rw[hre]at HS;obtain⟨r1,r2,r3,r4⟩:=eH hre;rw[aQw,HL.out]at r2;have q1:IntKind.i64.wrap (first+(n:Int))=first+n:=aPx _ (by unfold B64 at hB;omega)
    have q2:((m:Int)==0)=false:=by rw[beq_eq_false_iff_ne];omega
    have q3:IntKind.i64.wrap ((k:Int)+(m:Int))=(k:Int)+m:=aPx _ (by omega);by_cases hz:z=first+n
    ·have f:=xQ (aA4 r (by rw[hre,hz,HN.out]));clear hre;have q4:(z !=first+(n:Int))=false:=by simp[hz]
     clear hz;go_wp2_with fail;refine Z (HS _) fun w1 h1=>?_
     have d:=g.kept h1.gb (by cases Value.ownBlock _<;>simp);unfold reV cF;go_wp2_with (at_builtin;refine wpList_append_own _ rfl _ _ 31 rfl w 44 i0 (.agg #[(),(),()]) 3 24 underlying31 hi ab ad ae rfl (by decide) _ _ _ rfl ((d.alloc _).alloc _) ⟨w1.heap.size+1,0,none⟩ 1 1 [I a,I b,I c] rfl rfl ?c1 ?c2 ?c3 ?c4 ?c5 ?_)
     case c1=>intro j u h;have:=yH (w1.alloc (.cells #[a,b,c] 44)) (I a) (I b) (I c) 44 j u h;simpa using this
     case c2=>intro u hu;simp at hu;rcases hu with rfl|rfl|rfl<;>rfl
     case c3=>unfold maxLen;omega
     case c4=>omega
     case c5=>have:=h1.sz;simp;omega
     intro v' w2 o l _;have aa:Ext w w2:=(((hE.trans h1).alloc _).alloc _).grown l (fun q hq=>(d.lt q hq).1);clear l g;obtain⟨p2,t,rfl⟩:=sK o;go_wp2;go_roundw
     case rel=>exact⟨k+m,A++ [(a,b,c)],p2,n+1,t,rfl,by simp[HN.out],by simp,f.out,by simpa[eM]using o,aa⟩
     case measure=>simp[intOf];omega
    have q4:(z !=first+(n:Int))=true:=by simpa using hz
    have f:=xQ (wQ r hre (by rw[←HN.out];exact hz));clear hre;go_wp2_with fail;refine Z (HS _) fun w1 h1=>?_
    have d:=g.kept h1.gb (by cases Value.ownBlock _<;>simp);unfold reV cF;go_wp2;exact bodyPost_ret (v:= .tuple #[.slice p n cap,k]) (by simp[results,results46,go_sem, *]) rfl (sD f.out HN (d.alloc _) xE)
  obtain rfl:k=s.size:=by omega
  have f:=xQ (tS r (by rw[aR5 (by rw[HL.out];exact aPv _)];exact iO));go_wp2;exact bodyPost_ret (v:= .tuple #[.slice p n cap,(s.size:Int)]) (by simp[results,results46,go_sem, *]) rfl (sD f.out HN g xE)
theorem aM6 (first:Int)(s:ByteArray)(w:World)(hs:s.size≤2147483648)(hB:B64 first)(i:Env w):
  U 20 #[first,.string s] w (aNa first s.data.toList w):=by
 obtain⟨i0,hi,ad,ae,af⟩:=info_parts aAh;have aa:s.data.toList.length=s.size:=by rw[Array.length_toList];rfl
 have HL:=xQ aa;clear aa;go_enter func20,ntmps20;go_wp2;go_loopw [6,7] (fun v q wr=> ∃(k:Nat) (A:List dZ) (p:OA) (n cap:Nat),v= .slice p n cap∧n=A.length∧q=I k∧aHe first s.data.toList A k∧wr.ownsRow w 44 3 (.slice p n cap) n (A.flatMap eM)∧Ext w wr) (fun _ q _=>s.size-(intOf q).toNat)
 case atStart=>exact⟨0,[],none,0,0,rfl,rfl,rfl,wP _ _,aQ8 _ _ _ _,Ext.refl _⟩
 case round=>
  obtain⟨k,A,p,n,cap,rfl,hn,rfl,l,g,hE⟩:=hrel;have t:=xQ l;have ai:=hE.sz;have ah:n≤k:=by rw[hn];exact l.2.1
  have hk:k≤s.size:=by have:=l.1;rwa[HL.out]at this
  have ag:n=0∨(1≤first∧first+n≤100):=by rw[hn];exact l.2.2.1
  have HN:=xQ hn;clear hn l;have HS:Hid (∀w,Env w→U 47 #[.string (s.extract k s.size)] w (kW (bX (s.data.toList.drop k)) w)):=fun w he=>by rw[sY];exact zF _ w (by rw[aQw,HL.out];omega) he
  cases hre:bX (s.data.toList.drop k)with
  |none=>
   rw[hre]at HS;have f:=xQ (tS t hre);clear hre;go_wp2_with fail;refine Z (HS _ (i.ext hE)) fun w1 h1=>?_
   have d:=g.kept h1.gb (by cases Value.ownBlock _<;>simp);unfold reV;go_wp2;exact bodyPost_ret (v:= .tuple #[.slice p n cap,k]) (by simp[results,results20,go_sem, *]) rfl (sD f.out HN (d.alloc _) xE)
  |some x=>
   obtain⟨z,⟨a,b,c⟩,m⟩:=x;rw[hre]at HS;obtain⟨r1,r2,r3,r4⟩:=eH hre;rw[aQw,HL.out]at r2;have q1:IntKind.i64.wrap (first+(n:Int))=first+n:=aPx _ (by unfold B64 at hB;omega)
   have q2:((m:Int)==0)=false:=by rw[beq_eq_false_iff_ne];omega
   have q3:IntKind.i64.wrap ((k:Int)+(m:Int))=(k:Int)+m:=aPx _ (by omega);by_cases hz:z=first+n
   ·have f:=xQ (aA4 t (by rw[hre,hz,HN.out]));clear hre;have q4:(z !=first+(n:Int))=false:=by simp[hz]
    clear hz;go_wp2_with fail;refine Z (HS _ (i.ext hE)) fun w1 h1=>?_
    have d:=g.kept h1.gb (by cases Value.ownBlock _<;>simp);unfold reV cF;go_wp2_with (at_builtin;refine wpList_append_own _ rfl _ _ 31 rfl w 44 i0 (.agg #[(),(),()]) 3 24 underlying31 hi ad ae af rfl (by decide) _ _ _ rfl ((d.alloc _).alloc _) ⟨w1.heap.size+1,0,none⟩ 1 1 [I a,I b,I c] rfl rfl ?c1 ?c2 ?c3 ?c4 ?c5 ?_)
    case c1=>intro j u h;have:=yH (w1.alloc (.cells #[a,b,c] 44)) (I a) (I b) (I c) 44 j u h;simpa using this
    case c2=>intro u hu;simp at hu;rcases hu with rfl|rfl|rfl<;>rfl
    case c3=>unfold maxLen;omega
    case c4=>omega
    case c5=>have:=h1.sz;simp;omega
    intro v' w2 r o _;have ab:Ext w w2:=(((hE.trans h1).alloc _).alloc _).grown o (fun q hq=>(d.lt q hq).1);clear o g;obtain⟨p2,y,rfl⟩:=sK r;go_wp2;go_roundw
    case rel=>exact⟨k+m,A++ [(a,b,c)],p2,n+1,y,rfl,by simp[HN.out],by simp,f.out,by simpa[eM]using r,ab⟩
    case measure=>simp[intOf];omega
   have q4:(z !=first+(n:Int))=true:=by simpa using hz
   have f:=xQ (wQ t hre (by rw[←HN.out];exact hz));clear hre;go_wp2_with fail;refine Z (HS _ (i.ext hE)) fun w1 h1=>?_
   have d:=g.kept h1.gb (by cases Value.ownBlock _<;>simp);unfold reV cF;go_wp2;exact bodyPost_ret (v:= .tuple #[.slice p n cap,k]) (by simp[results,results20,go_sem, *]) rfl (sD f.out HN (d.alloc _) xE)
end
end Go.Proofs.YtbgkcehffiogcaaGreatDoor
