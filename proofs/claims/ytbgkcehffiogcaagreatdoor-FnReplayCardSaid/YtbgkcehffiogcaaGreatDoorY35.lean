/-
  Texts of this proof, packed (@packed).
-/
import Derived.Test.YtbgkcehffiogcaaGreatDoorY34
namespace Go.Proofs.YtbgkcehffiogcaaGreatDoor
open Go.RowKit
set_option linter.unusedSimpArgs false
set_option linter.unusedVariables false
set_option maxHeartbeats 8000000
set_option maxRecDepth 100000
section
open Go.Proofs.Tryz
theorem aHo: ∀(f:Nat) (first:Int) (l:List UInt8),(qP f first l).1.length=0∨1≤first∧first+(qP f first l).1.length≤100
 |0,_,_=> .inl rfl
 |f+1,first,l=>by
  simp only[qP];cases h:bX l with
  |none=>exact .inl rfl
  |some x=>
   obtain⟨n,d,m⟩:=x;obtain⟨_,_,h1,h2⟩:=eH h;dsimp only;by_cases hn:n=first
   ·rw[if_pos hn];subst hn;right;rcases aHo f (n+1) (l.drop m)with h3|⟨h3,h4⟩
    ·simp[h3];omega
    simp only[aRf];omega
   rw[if_neg hn];exact .inl rfl
theorem aLk (first:Int)(l:List UInt8):(rj first l).1.length≤99:=by
 have:=aHo l.length first l
 unfold rj;omega
def iU (h:aR)(first:Int)(l:List UInt8):aR×Nat:=if bL h=true then(nU h (rj first l).1,(rj first l).1.length)else(hZ,0)
def mV (r:aR×Nat)(w:World)(e:Ending)(w':World):Prop:=
 ∃pa ca qa da,e= .returned (.tuple #[bO r.1 pa r.1.cells.length ca qa r.1.vs.length da,r.2])∧w'.ownsRow w.heap.size TI 1 (.slice pa r.1.cells.length ca) r.1.cells.length (ivs r.1.cells)∧w'.ownsRow w.heap.size TV 4 (.slice qa r.1.vs.length da) r.1.vs.length (r.1.vs.flatMap aD)∧Ext w w'
theorem aNn (h r:aR)(p:OA)(a:Nat)(q:OA)(c2:Nat)(first:Int)(b:ByteArray)(ds:List Dd3)(nd:Nat)(w:World)
  (c:xC 10 #[.agg #[h.aA,h.aB,.slice p h.cells a,h.free,h.step,h.aE,h.aF,h.aC,h.aG,.slice q h.vs c2]] w fun w' e w''=>e= .returned (Value.bool false)∧Ext w' w''):
  U 19 #[.agg #[h.aA,h.aB,.slice p h.cells a,h.free,h.step,h.aE,h.aF,h.aC,h.aG,.slice q h.vs c2],first,.string b] w (mV (hZ,0) w):=by
 go_enter func19,ntmps19;go_wp2_with fail;refine Z (c _ (((Mem.start w).c0 aK #[h.aA,h.aB,.slice p h.cells a,h.free,h.step,h.aE,h.aF,h.aC,h.aG,.slice q h.vs c2]).c1 aK zT).ext) fun w1 f=>?_
 have M1:=((((Mem.start w).c0 aK #[h.aA,h.aB,.slice p h.cells a,h.free,h.step,h.aE,h.aF,h.aC,h.aG,.slice q h.vs c2]).c1 aK zT).adv f)
 clear f c;obtain⟨f0,g,f1,j,f2,k,f3,l,f4,m,f5,n,f6,o,f7,s,f8,t,f9,u⟩:=(M1.bk 0).tenf;go_wp2;clear f0 g f1 j f2 k f3 l f4 m f5 n f6 o f7 s f8 t f9 u;have M2:=(M1.put10 (i:=0) rfl (I 0) (I 0) (.slice none 0 0) (I 0) (I 0) (I 0) (I 0) (I 0) (I 0) (.slice none 0 0))
 generalize d:World.setCell _ _ _=wz;rw[d]at M2;clear d M1;obtain⟨y0,y1,y2,y3,y4,y5,y6,y7,y8,y9⟩:=(M2.bk 0).ten;exact bodyPost_ret (v:= .tuple #[.agg #[(),(),((),()),(),(),(),(),(),(),((),())],()]) (by simp[results,results19,go_sem, *]) rfl (show mV (hZ,0) w _ _ from⟨none,0,none,0,rfl,aQ8 _ _ _ _,aQ8 _ _ _ _,M2.ext⟩)
theorem aOt (h r:aR)(p:OA)(c:Nat)(q:OA)(c2:Nat)(first:Int)(b:ByteArray)(ds:List Dd3)(nd:Nat)(w:World)
  (f:xC 10 #[.agg #[h.aA,h.aB,.slice p h.cells c,h.free,h.step,h.aE,h.aF,h.aC,h.aG,.slice q h.vs c2]] w fun w' e w''=>e= .returned (Value.bool true)∧Ext w' w'')
  (HJ:xC 46 #[first,.string b] w fun w' e w''=> ∃pj cj,e= .returned (.tuple #[.slice pj nd cj,I (rj first b.data.toList).2])∧w''.ownsRow w' TDd 3 (.slice pj nd cj) nd (ds.flatMap cC)∧Ext w' w'')
  (HR:Hid (∀pe ce w',Ext w w'→Sl w' pe nd ce 3 (ds.flatMap cC)→U 7 #[.agg #[h.aA,h.aB,.slice p h.cells c,h.free,h.step,h.aE,h.aF,h.aC,h.aG,.slice q h.vs c2],.slice pe nd ce] w' fun e w''=> ∃pa ca qa da ps cs,e= .returned (.tuple #[.agg #[r.aA,r.aB,.slice pa r.cells ca,r.free,r.step,r.aE,r.aF,r.aC,r.aG,.slice qa r.vs da],.slice ps nd cs])∧w''.ownsRow w' TI 1 (.slice pa r.cells ca) r.cells.length (ivs r.cells)∧w''.ownsRow w' TV 4 (.slice qa r.vs da) r.vs.length (r.vs.flatMap aD)∧Ext w' w'')):
  U 19 #[.agg #[h.aA,h.aB,.slice p h.cells c,h.free,h.step,h.aE,h.aF,h.aC,h.aG,.slice q h.vs c2],first,.string b] w (mV (r,nd) w):=by
 go_enter func19,ntmps19;go_wp2_with fail;refine Z (f _ (((Mem.start w).c0 aK #[h.aA,h.aB,.slice p h.cells c,h.free,h.step,h.aE,h.aF,h.aC,h.aG,.slice q h.vs c2]).c1 aK zT).ext) fun w1 k=>?_
 have M1:=((((Mem.start w).c0 aK #[h.aA,h.aB,.slice p h.cells c,h.free,h.step,h.aE,h.aF,h.aC,h.aG,.slice q h.vs c2]).c1 aK zT).adv k)
 clear k f;go_wp2_with fail;refine(HJ _ M1.ext).mono ?_;rintro e w2 ⟨pj,cj,rfl,g,l⟩;have M2:=(M1.call l g)
 clear M1 l g HJ;obtain⟨ab,ad,ae,af,ag,ah,ai,aj,ak,al⟩:=(M2.bk 2).ten;go_wp2_with fail;clear ab ad ae af ag ah ai aj ak al;refine(HR _ _ _ M2.ext (M2.sq 0)).mono ?_;rintro e w8 ⟨p5,c5,q5,d5,ps,cs,rfl,ho,hq,hx⟩;have M3:=(M2.own2 hx ho hq (aPv _) (by decide))
 clear M2 hx ho hq HR;go_upto_region 5 with fail;obtain⟨X5,d⟩: ∃a,a=w8.heap.size:=⟨_,rfl⟩
 rw[←d];have M4:=(M3.blkNew aK #[r.aA,r.aB,.slice p5 r.cells c5,r.free,r.step,r.aE,r.aF,r.aC,r.aG,.slice q5 r.vs d5] X5 d.symm)
 generalize World.alloc _ _=v2 at M4⊢;clear M3 d;obtain⟨v0,v1,v2,v3,v4,v5,v6,v7,v8,v9⟩:=(M4.bk 0).ten;obtain⟨f0,m,f1,n,f2,o,f3,s,f4,t,f5,u,f6,x,f7,y,f8,z,f9,aa⟩:=(M4.bk 4).tenf;go_wp2;clear v0 v1 v2 v3 v4 v5 v6 v7 v8 v9 f0 m f1 n f2 o f3 s f4 t f5 u f6 x f7 y f8 z f9 aa;have M5:=(M4.put10 (i:=4) rfl (I r.aA) (I r.aB) (.slice p5 r.cells c5) (I r.free) (I r.step) (I r.aE) (I r.aF) (I r.aC) (I r.aG) (.slice q5 r.vs d5))
 generalize j:World.setCell _ _ _=wz;rw[j]at M5;clear j M4;obtain⟨y0,y1,y2,y3,y4,y5,y6,y7,y8,y9⟩:=(M5.bk 4).ten;exact bodyPost_ret (v:= .tuple #[.agg #[r.aA,r.aB,.slice p5 r.cells c5,r.free,r.step,r.aE,r.aF,r.aC,r.aG,.slice q5 r.vs d5],nd]) (by simp[results,results19,go_sem, *]) rfl (show mV (r,nd) w _ _ from⟨p5,c5,q5,d5,rfl,(M5.ow 1),(M5.ow 2),M5.ext⟩)
theorem aF6 (h:aR)(p:OA)(n a:Nat)(q:OA)(m c2:Nat)(first:Int)(b:ByteArray)(w:World)(hi:IsHouse w h p n a q m c2)(hs:b.size≤2147483648)(hB:B64 first):
  U 19 #[bO h p n a q m c2,first,.string b] w (mV (iU h first b.data.toList) w):=by
 have hl:=hi.clen;have d:=hi.vlen;subst hl d;have hv: ∀w',Ext w w'→U 10 #[bO h p _ a q _ c2] w' (O (Value.bool (bL h)) w'):=fun w' hx=>lE h p _ a q _ c2 w' (hi.ext hx)
 unfold iU;by_cases hok:bL h=true
 ·rw[if_pos hok];rw[hok]at hv;have hd:=qK (rj first b.data.toList).1 h;have hq: ∀l,vP h l=(nU h l,eS h l):=fun l=>by unfold vP;rw[if_pos hok]
  refine aOt h _ p a q c2 first b (rj first b.data.toList).1 _ w hv (fun w' hx=>(aOn first b w' hs hB).mono ?_) (fun pe ce w' hx hS=>(aB2 h p _ a q _ c2 pe _ ce _ w' (hi.ext hx) hS (aQ4 (aLk _ _) (by omega))).mono ?_)
  ·rintro e w'' ⟨v,rfl,ho,c⟩;obtain⟨pj,cj,rfl⟩:=sK ho;exact⟨pj,cj,rfl,ho,c⟩
  rintro e w'' ⟨pa,ca,qa,da,ps,cs,rfl,o1,o2,_,c⟩;rw[hq]at o1 o2⊢;dsimp only at o1 o2⊢;rw[hd];exact⟨pa,ca,qa,da,ps,cs,rfl,o1,o2,c⟩
 rw[if_neg hok];rw[show bL h=false by simpa using hok]at hv;exact aNn h h p a q c2 first b [] 0 w hv
theorem aO3 (h r:aR)(p:OA)(a:Nat)(q:OA)(c2:Nat)(first:Int)(b:ByteArray)(ds:List Dd3)(nd:Nat)(w:World)
  (c:xC 16 #[.agg #[h.aA,h.aB,.slice p h.cells a,h.free,h.step,h.aE,h.aF,h.aC,h.aG,.slice q h.vs c2]] w fun w' e w''=>e= .returned (Value.bool false)∧Ext w' w''):
  U 18 #[.agg #[h.aA,h.aB,.slice p h.cells a,h.free,h.step,h.aE,h.aF,h.aC,h.aG,.slice q h.vs c2],first,.string b] w (mV (hZ,0) w):=by
 go_enter func18,ntmps18;go_wp2_with fail;refine Z (c _ (((Mem.start w).c0 aK #[h.aA,h.aB,.slice p h.cells a,h.free,h.step,h.aE,h.aF,h.aC,h.aG,.slice q h.vs c2]).c1 aK zT).ext) fun w1 f=>?_
 have M1:=((((Mem.start w).c0 aK #[h.aA,h.aB,.slice p h.cells a,h.free,h.step,h.aE,h.aF,h.aC,h.aG,.slice q h.vs c2]).c1 aK zT).adv f)
 clear f c;obtain⟨f0,g,f1,j,f2,k,f3,l,f4,m,f5,n,f6,o,f7,s,f8,t,f9,u⟩:=(M1.bk 0).tenf;go_wp2;clear f0 g f1 j f2 k f3 l f4 m f5 n f6 o f7 s f8 t f9 u;have M2:=(M1.put10 (i:=0) rfl (I 0) (I 0) (.slice none 0 0) (I 0) (I 0) (I 0) (I 0) (I 0) (I 0) (.slice none 0 0))
 generalize d:World.setCell _ _ _=wz;rw[d]at M2;clear d M1;obtain⟨y0,y1,y2,y3,y4,y5,y6,y7,y8,y9⟩:=(M2.bk 0).ten;exact bodyPost_ret (v:= .tuple #[.agg #[(),(),((),()),(),(),(),(),(),(),((),())],()]) (by simp[results,results18,go_sem, *]) rfl (show mV (hZ,0) w _ _ from⟨none,0,none,0,rfl,aQ8 _ _ _ _,aQ8 _ _ _ _,M2.ext⟩)
theorem aPd (h r:aR)(p:OA)(c:Nat)(q:OA)(c2:Nat)(first:Int)(b:ByteArray)(ds:List Dd3)(nd:Nat)(w:World)
  (f:xC 16 #[.agg #[h.aA,h.aB,.slice p h.cells c,h.free,h.step,h.aE,h.aF,h.aC,h.aG,.slice q h.vs c2]] w fun w' e w''=>e= .returned (Value.bool true)∧Ext w' w'')
  (HJ:xC 20 #[first,.string b] w fun w' e w''=> ∃pj cj,e= .returned (.tuple #[.slice pj nd cj,I (rj first b.data.toList).2])∧w''.ownsRow w' TDd 3 (.slice pj nd cj) nd (ds.flatMap cC)∧Ext w' w'')
  (HR:Hid (∀pe ce w',Ext w w'→Sl w' pe nd ce 3 (ds.flatMap cC)→U 6 #[.agg #[h.aA,h.aB,.slice p h.cells c,h.free,h.step,h.aE,h.aF,h.aC,h.aG,.slice q h.vs c2],.slice pe nd ce] w' fun e w''=> ∃pa ca qa da ps cs,e= .returned (.tuple #[.agg #[r.aA,r.aB,.slice pa r.cells ca,r.free,r.step,r.aE,r.aF,r.aC,r.aG,.slice qa r.vs da],.slice ps nd cs])∧w''.ownsRow w' TI 1 (.slice pa r.cells ca) r.cells.length (ivs r.cells)∧w''.ownsRow w' TV 4 (.slice qa r.vs da) r.vs.length (r.vs.flatMap aD)∧Ext w' w'')):
  U 18 #[.agg #[h.aA,h.aB,.slice p h.cells c,h.free,h.step,h.aE,h.aF,h.aC,h.aG,.slice q h.vs c2],first,.string b] w (mV (r,nd) w):=by
 go_enter func18,ntmps18;go_wp2_with fail;refine Z (f _ (((Mem.start w).c0 aK #[h.aA,h.aB,.slice p h.cells c,h.free,h.step,h.aE,h.aF,h.aC,h.aG,.slice q h.vs c2]).c1 aK zT).ext) fun w1 k=>?_
 have M1:=((((Mem.start w).c0 aK #[h.aA,h.aB,.slice p h.cells c,h.free,h.step,h.aE,h.aF,h.aC,h.aG,.slice q h.vs c2]).c1 aK zT).adv k)
 clear k f;go_wp2_with fail;refine(HJ _ M1.ext).mono ?_;rintro e w2 ⟨pj,cj,rfl,g,l⟩;have M2:=(M1.call l g)
 clear M1 l g HJ;obtain⟨ab,ad,ae,af,ag,ah,ai,aj,ak,al⟩:=(M2.bk 2).ten;go_wp2_with fail;clear ab ad ae af ag ah ai aj ak al;refine(HR _ _ _ M2.ext (M2.sq 0)).mono ?_;rintro e w8 ⟨p5,c5,q5,d5,ps,cs,rfl,ho,hq,hx⟩;have M3:=(M2.own2 hx ho hq (aPv _) (by decide))
 clear M2 hx ho hq HR;go_upto_region 5 with fail;obtain⟨X5,d⟩: ∃a,a=w8.heap.size:=⟨_,rfl⟩
 rw[←d];have M4:=(M3.blkNew aK #[r.aA,r.aB,.slice p5 r.cells c5,r.free,r.step,r.aE,r.aF,r.aC,r.aG,.slice q5 r.vs d5] X5 d.symm)
 generalize World.alloc _ _=v2 at M4⊢;clear M3 d;obtain⟨v0,v1,v2,v3,v4,v5,v6,v7,v8,v9⟩:=(M4.bk 0).ten;obtain⟨f0,m,f1,n,f2,o,f3,s,f4,t,f5,u,f6,x,f7,y,f8,z,f9,aa⟩:=(M4.bk 4).tenf;go_wp2;clear v0 v1 v2 v3 v4 v5 v6 v7 v8 v9 f0 m f1 n f2 o f3 s f4 t f5 u f6 x f7 y f8 z f9 aa;have M5:=(M4.put10 (i:=4) rfl (I r.aA) (I r.aB) (.slice p5 r.cells c5) (I r.free) (I r.step) (I r.aE) (I r.aF) (I r.aC) (I r.aG) (.slice q5 r.vs d5))
 generalize j:World.setCell _ _ _=wz;rw[j]at M5;clear j M4;obtain⟨y0,y1,y2,y3,y4,y5,y6,y7,y8,y9⟩:=(M5.bk 4).ten;exact bodyPost_ret (v:= .tuple #[.agg #[r.aA,r.aB,.slice p5 r.cells c5,r.free,r.step,r.aE,r.aF,r.aC,r.aG,.slice q5 r.vs d5],nd]) (by simp[results,results18,go_sem, *]) rfl (show mV (r,nd) w _ _ from⟨p5,c5,q5,d5,rfl,(M5.ow 1),(M5.ow 2),M5.ext⟩)
theorem xL (h:aR)(p:OA)(n a:Nat)(q:OA)(m c2:Nat)(first:Int)(b:ByteArray)(w:World)(hi:IsHouse w h p n a q m c2)(hs:b.size≤2147483648)(hB:B64 first)(d:Env w)(hE:BitTab w):
  U 18 #[bO h p n a q m c2,first,.string b] w (mV (iU h first b.data.toList) w):=by
 have hl:=hi.clen;have f:=hi.vlen;subst hl f;have hv: ∀w',Ext w w'→U 16 #[bO h p _ a q _ c2] w' (O (Value.bool (bL h)) w'):=fun w' hx=>nI h p _ a q _ c2 w' (hi.ext hx)
 unfold iU;by_cases hok:bL h=true
 ·rw[if_pos hok];rw[hok]at hv;have hd:=qK (rj first b.data.toList).1 h;have hq: ∀l,vP h l=(nU h l,eS h l):=fun l=>by unfold vP;rw[if_pos hok]
  refine aPd h _ p a q c2 first b (rj first b.data.toList).1 _ w hv (fun w' hx=>(aM6 first b w' hs hB (d.ext hx)).mono ?_) (fun pe ce w' hx hS=>(oA h p _ a q _ c2 pe _ ce _ w' (hi.ext hx) hS (aQ4 (aLk _ _) (by omega)) (hE.ext hx)).mono ?_)
  ·rintro e w'' ⟨v,rfl,ho,c⟩;obtain⟨pj,cj,rfl⟩:=sK ho;exact⟨pj,cj,rfl,ho,c⟩
  rintro e w'' ⟨pa,ca,qa,da,ps,cs,rfl,o1,o2,_,c⟩;rw[hq]at o1 o2⊢;dsimp only at o1 o2⊢;rw[hd];exact⟨pa,ca,qa,da,ps,cs,rfl,o1,o2,c⟩
 rw[if_neg hok];rw[show bL h=false by simpa using hok]at hv;exact aO3 h h p a q c2 first b [] 0 w hv
theorem aBd (p q:OA)(n m c1 c2:Nat)(xs ys:List Int)(w:World)(h1:Sl w p n c1 1 (ivs xs))(h2:Sl w q m c2 1 (ivs ys)):
  U 62 #[.slice p n c1,.slice q m c2] w fun e w'=> ∃b:Bool,e= .returned (.bool b)∧(b=true↔xs=ys)∧Ext w w':=by
 have hn:=h1.bd;have hm:=h2.bd;have l1:=xQ h1.ilen;have l2:=xQ h2.ilen;have H1:=xQ h1;have H2:=xQ h2;clear h1 h2;by_cases hnm:n=m
 ·subst hnm;go_enter func62,ntmps62;go_wp2;go_loopw [5] (fun i wr=> ∃k:Nat,k≤n∧i=I k∧xs.take k=ys.take k∧Ext w wr) (fun i _=>n-(intOf i).toNat)
  case atStart=>exact⟨0,aQ1 _,rfl,rfl,Ext.refl _⟩
  case round=>
   obtain⟨k,hk,rfl,ht,hE⟩:=hrel;have HT:=xQ ht;clear ht;by_cases hlt:k<n
   ·obtain⟨b,j,x,rfl,hx,hb,d⟩:=(H1.out.ext hE).int_at hlt;obtain⟨b2,g,y,rfl,hy,h,c⟩:=(H2.out.ext hE).int_at hlt;have HX:=xQ hx;have HY:=xQ hy;clear hx hy;have i1:(0:Int)≤(k:Int):=by omega
    have i2:(k:Int)<(n:Int):=by omega
    by_cases hxy:x=y
    ·have f:Hid (xs.take (k+1)=ys.take (k+1)):=by
      show _=_;rw[bF HX.out,bF HY.out,HT.out,hxy]
     subst hxy;go_wp2;go_quiet (fail);go_wp2;go_roundw
     case rel=>exact⟨k+1,by omega,by go_num,f.out,xE⟩
     case measure=>simp[intOf];omega
    have e1:(x==y)=false:=by simpa using hxy
    have a:Hid (xs≠ys):=by rintro rfl;have:=HX.out.symm.trans HY.out;injection this with this;exact hxy this
    clear hxy;go_wp2;go_quiet (fail);go_wp2;go_ret;exact⟨false,rfl,iff_of_false Bool.false_ne_true a.out,xE⟩
   have a:Hid (xs=ys):=by have:=HT.out;rw[aQ2 (by rw[l1.out];omega),aQ2 (by rw[l2.out];omega)]at this;exact this
   go_wp2;go_ret;exact⟨true,rfl,iff_of_true rfl a.out,hE⟩
 have e1:((n:Int)==(m:Int))=false:=by simp;omega
 have a:Hid (xs≠ys):=by rintro rfl;exact hnm (l1.out.symm.trans l2.out)
 go_enter func62,ntmps62;go_wp2;go_ret;exact⟨false,rfl,iff_of_false Bool.false_ne_true a.out,xE⟩
theorem aBe (aA aB c a:Int)(p q:OA)(n m c1 c2:Nat)(xs ys:List Int)(w:World)(h1:Sl w p n c1 1 (ivs xs))(h2:Sl w q m c2 1 (ivs ys)):
  U 27 #[aH aA aB p n c1,aH c a q m c2] w fun e w'=> ∃b:Bool,e= .returned (.bool b)∧(b=true↔aA=c∧aB=a∧xs=ys)∧Ext w w':=by
 have H1:=xQ h1;have H2:=xQ h2;clear h1 h2;by_cases hw:aA=c
 ·subst hw;by_cases hd:aB=a
  ·subst hd;go_enter func27,ntmps27;go_wp2_with fail;refine(aBd p q n m c1 c2 xs ys _ (H1.out.ext xE) (H2.out.ext xE)).mono ?_;rintro e w1 ⟨b,rfl,hb,hx⟩;have HB:=xQ hb;clear hb;go_wp2;go_ret;exact⟨b,rfl,by rw[HB.out];simp,xE⟩
  have e1:(aB==a)=false:=by simpa using hd
  have HN:=xQ hd;clear hd;go_enter func27,ntmps27;go_wp2;go_ret;exact⟨false,rfl,iff_of_false Bool.false_ne_true (fun e=>HN e.2.1),xE⟩
 have e1:(aA==c)=false:=by simpa using hw
 have HN:=xQ hw;clear hw;go_enter func27,ntmps27;go_wp2;go_ret;exact⟨false,rfl,iff_of_false Bool.false_ne_true (fun e=>HN e.1),xE⟩
theorem fY (a b:Int):(a==b)=false∧ ¬a=b∨a=b:=by
 by_cases h:a=b
 ·exact .inr h
 exact .inl ⟨by simpa using h,h⟩
theorem yX (h g:aR)(p1:OA)(n1 c1:Nat)(q1:OA)(m1 d1:Nat)(p2:OA)(n2 c2:Nat)(q2:OA)(m2 d2:Nat)(w:World)(t:IsHouse w h p1 n1 c1 q1 m1 d1)(u:IsHouse w g p2 n2 c2 q2 m2 d2):
  U 8 #[bO h p1 n1 c1 q1 m1 d1,bO g p2 n2 c2 q2 m2 d2] w fun e w'=> ∃b:Bool,e= .returned (.bool b)∧(b=true↔h=g)∧Ext w w':=by
 have hm:=t.vs.bd;have ad:=u.vs.bd;have v:=xQ t.vlen;have x:=xQ u.vlen;have H1:=xQ t.cells;have H2:=xQ u.cells;have V1:=xQ t.vs;have V2:=xQ u.vs;clear t u;obtain⟨aA,aB,s,q,r,aE,aF,aC,aG,vs⟩:=h;obtain⟨f,d,p,m,n,c,l,a,j,o⟩:=g;dsimp only at v x H1 H2 V1 V2;go_enter func8,ntmps8;go_wp2_with fail;refine(aBe aA aB f d p1 p2 n1 n2 c1 c2 s p _ (H1.out.ext (((Mem.start w).c0 aK #[aA,aB,.slice p1 n1 c1,q,r,aE,aF,aC,aG,.slice q1 m1 d1]).c1 aK #[f,d,.slice p2 n2 c2,m,n,c,l,a,j,.slice q2 m2 d2]).ext) (H2.out.ext (((Mem.start w).c0 aK #[aA,aB,.slice p1 n1 c1,q,r,aE,aF,aC,aG,.slice q1 m1 d1]).c1 aK #[f,d,.slice p2 n2 c2,m,n,c,l,a,j,.slice q2 m2 d2]).ext)).mono ?_;rintro e w1 ⟨b,rfl,hb,hx⟩;have HB:=xQ hb;clear hb;have M1:=((((Mem.start w).c0 aK #[aA,aB,.slice p1 n1 c1,q,r,aE,aF,aC,aG,.slice q1 m1 d1]).c1 aK #[f,d,.slice p2 n2 c2,m,n,c,l,a,j,.slice q2 m2 d2]).adv hx)
 clear hx;obtain⟨a0,a1,a2,a3,a4,a5,a6,a7,a8,a9⟩:=(M1.bk 1).ten;obtain⟨b0,b1,b2,b3,b4,b5,b6,b7,b8,b9⟩:=(M1.bk 0).ten;cases b with
 |false=>
  have HN:Hid (¬(aA=f∧aB=d∧s=p)):=fun e=>absurd (HB.out.2 e) Bool.false_ne_true
  go_wp2;go_ret;exact⟨false,rfl,iff_of_false Bool.false_ne_true (fun e=>HN (by injection e;exact⟨‹_›,‹_›,‹_›⟩)),M1.ext⟩
 |true=>
  obtain⟨rfl,rfl,rfl⟩:=HB.out.1 rfl;clear HB;rcases fY q m with⟨x1,hn⟩|rfl
  ·have HN:=xQ hn;clear hn;go_wp2;go_ret;exact⟨false,rfl,iff_of_false Bool.false_ne_true (fun e=>HN (by injection e)),M1.ext⟩
  rcases fY r n with⟨x1,hn⟩|rfl
  ·have HN:=xQ hn;clear hn;go_wp2;go_ret;exact⟨false,rfl,iff_of_false Bool.false_ne_true (fun e=>HN (by injection e)),M1.ext⟩
  rcases fY aE c with⟨x1,hn⟩|rfl
  ·have HN:=xQ hn;clear hn;go_wp2;go_ret;exact⟨false,rfl,iff_of_false Bool.false_ne_true (fun e=>HN (by injection e)),M1.ext⟩
  rcases fY aF l with⟨x1,hn⟩|rfl
  ·have HN:=xQ hn;clear hn;go_wp2;go_ret;exact⟨false,rfl,iff_of_false Bool.false_ne_true (fun e=>HN (by injection e)),M1.ext⟩
  rcases fY aC a with⟨x1,hn⟩|rfl
  ·have HN:=xQ hn;clear hn;go_wp2;go_ret;exact⟨false,rfl,iff_of_false Bool.false_ne_true (fun e=>HN (by injection e)),M1.ext⟩
  rcases fY aG j with⟨x1,hn⟩|rfl
  ·have HN:=xQ hn;clear hn;go_wp2;go_ret;exact⟨false,rfl,iff_of_false Bool.false_ne_true (fun e=>HN (by injection e)),M1.ext⟩
  by_cases hm:m1=m2
  ·subst hm;go_wp2;go_loopw [5] (fun i wr=> ∃k:Nat,k≤m1∧i=I k∧vs.take k=o.take k∧Ext w1 wr) (fun i _=>m1-(intOf i).toNat)
   case atStart=>exact⟨0,aQ1 _,rfl,rfl,Ext.refl _⟩
   case round=>
    clear a0 a1 a2 a3 a4 a5 a6 a7 a8 a9 b0 b1 b2 b3 b4 b5 b6 b7 b8 b9;obtain⟨k,hk,rfl,ht,hE⟩:=hrel;have HT:=xQ ht;have M2:=(M1.adv hE)
    clear ht;have a9:=(M2.bk 1).cl 9;have b9:=(M2.bk 0).cl 9;by_cases hlt:k<m1
    ·obtain⟨b,ae,x0,x1,x2,x3,rfl,hx,hb,g0,g1,g2,g3⟩:=gO (V1.out.ext M2.ext) hlt;obtain⟨b',aa,y0,y1,y2,y3,rfl,hy,ab,k0,k1,k2,k3⟩:=gO (V2.out.ext M2.ext) hlt;have HX:=xQ hx;have HY:=xQ hy;clear hx hy;have i1:(0:Int)≤(k:Int):=by omega
     have i2:(k:Int)<(m1:Int):=by omega
     have HV:Hid (vs=o→(x0,x1,x2,x3)=(y0,y1,y2,y3)):=fun e=>by have:=HX.out;rw[e,HY.out]at this;injection this with this;exact this.symm
     rcases fY x0 y0 with⟨z1,hn⟩|rfl
     ·have HN:Hid (¬vs=o):=fun e=>hn (by have:=HV e;simp only[aQt]at this;exact this.1)
      clear hn HV;go_wp2;go_quiet (fail);go_wp2;go_ret;exact⟨false,rfl,iff_of_false Bool.false_ne_true (fun e=>HN (by injection e)),Ext.drewN M2.ext _⟩
     rcases fY x1 y1 with⟨z1,hn⟩|rfl
     ·have HN:Hid (¬vs=o):=fun e=>hn (by have:=HV e;simp only[aQt]at this;exact this.2.1)
      clear hn HV;go_wp2;go_quiet (fail);go_wp2;go_ret;exact⟨false,rfl,iff_of_false Bool.false_ne_true (fun e=>HN (by injection e)),Ext.drewN M2.ext _⟩
     rcases fY x2 y2 with⟨z1,hn⟩|rfl
     ·have HN:Hid (¬vs=o):=fun e=>hn (by have:=HV e;simp only[aQt]at this;exact this.2.2.1)
      clear hn HV;go_wp2;go_quiet (fail);go_wp2;go_ret;exact⟨false,rfl,iff_of_false Bool.false_ne_true (fun e=>HN (by injection e)),Ext.drewN M2.ext _⟩
     rcases fY x3 y3 with⟨z1,hn⟩|rfl
     ·have HN:Hid (¬vs=o):=fun e=>hn (by have:=HV e;simp only[aQt]at this;exact this.2.2.2)
      clear hn HV;go_wp2;go_quiet (fail);go_wp2;go_ret;exact⟨false,rfl,iff_of_false Bool.false_ne_true (fun e=>HN (by injection e)),Ext.drewN M2.ext _⟩
     have z:Hid (vs.take (k+1)=o.take (k+1)):=by show _=_;rw[bF HX.out,bF HY.out,HT.out]
     clear HV;go_wp2;go_quiet (fail);go_wp2;go_roundw
     case rel=>exact⟨k+1,by omega,by go_num,z.out,xE⟩
     case measure=>simp[intOf];omega
    have y:Hid (vs=o):=by have:=HT.out;rw[aQ2 (by rw[v.out];omega),aQ2 (by rw[x.out];omega)]at this;exact this
    go_wp2;go_ret;exact⟨true,rfl,iff_of_true rfl (by rw[y.out]),M2.ext⟩
  have e1:((m1:Int)==(m2:Int))=false:=by simp;omega
  have HN:Hid (¬vs=o):=fun e=>hm (by rw[←v.out,←x.out,e])
  go_wp2;go_ret;exact⟨false,rfl,iff_of_false Bool.false_ne_true (fun e=>HN (by injection e)),M1.ext⟩
theorem kY (h:aR)(p1:OA)(n1 c1:Nat)(q1:OA)(m1 d1:Nat)(p2:OA)(n2 c2:Nat)(q2:OA)(m2 d2:Nat)(w:World)(a:IsHouse w h p1 n1 c1 q1 m1 d1)(c:IsHouse w h p2 n2 c2 q2 m2 d2):
  U 8 #[bO h p1 n1 c1 q1 m1 d1,bO h p2 n2 c2 q2 m2 d2] w (O (.bool true) w):=by
 refine(yX h h p1 n1 c1 q1 m1 d1 p2 n2 c2 q2 m2 d2 w a c).mono ?_;rintro e w' ⟨b,rfl,hb,hx⟩;rw[hb.2 rfl];exact⟨rfl,hx⟩
theorem aG7 (p:OA)(c:Nat)(q:OA)(d:Nat)(w:World)(hi:IsHouse w hZ p 0 c q 0 d):
  U 11 #[bO hZ p 0 c q 0 d] w (O (.bool true) w):=by
 have H:=xQ (fun w' (hx:Ext w w')=>kY hZ p 0 c q 0 d none 0 0 none 0 0 w' (hi.ext hx) ⟨Sl.nil w' 1,Sl.nil w' 4⟩);clear hi;unfold hZ at*;go_enter func11,ntmps11;go_wp2_with fail;refine Z (H _ xE) fun w1 a=>?_
 go_wp2;go_ret;exact⟨rfl,xE⟩
end
theorem aOu: ∀(f:Nat) (first:Int) (l:List UInt8) (j:Nat),l.length≤f→(rj first (l.take j)).1=(rj first l).1.take (rj first (l.take j)).1.length∧(rj first (l.take j)).2≤j∧(rj first (l.take j)).1.length≤(rj first l).1.length:=by
 intro f;induction f with
 |zero=>
  intro first l j h
  obtain rfl:l= []:=aQj (by omega);simp[aBg iO]
 |succ f ih=>
  intro first l j h
  cases hr:bX (l.take j)with
  |none=>rw[aBg hr];simp
  |some x=>
   obtain⟨n,⟨k,a,b⟩,m⟩:=x;obtain⟨h1,h2,h3,h4⟩:=eH hr;obtain⟨q1,q2,q3⟩:=lS hr;by_cases hn:n=first
   ·subst hn;rw[aQl]at h2;have hl:l=aY n k a b++l.drop m:=by
     have e:l=(l.take j).take m++l.drop m:=by rw[List.take_take,Nat.min_eq_left (by omega),List.take_append_drop]
     have e2:(l.take j).take m=aY n k a b:=by rw[q2,q3];simp
     rw[←e2];exact e
    have c:bX l=some (n,(k,a,b),m):=by rw[hl,(lR q1 _).1,q3]
    rw[aBf hr,aBf c];obtain⟨i1,i2,i3⟩:=ih (n+1) (l.drop m) (j-m) (by simp;omega);have e3:(l.take j).drop m=(l.drop m).take (j-m):=List.drop_take ..;rw[e3];refine⟨?_,by simp only;omega,by simp;omega⟩;simp only[aRf,aSd];rw[←i1]
   rw[aDd hr hn];simp
end Go.Proofs.YtbgkcehffiogcaaGreatDoor
