/- Lemmas (@packed). -/
import Derived.Shelf.Strings.OnBuilder
import Derived.Test.YthfmmibomhhmpabGreatDoorZ19
namespace Go.Proofs.YthfmmibomhhmpabGreatDoor
open Go.RowKit Go.Proofs.Tryz
set_option linter.all false
set_option maxHeartbeats 8000000
set_option maxRecDepth 100000
variable{x:Int}{xs:List Int}{k g:Nat}{t:TypeId}(h:aQ)(aA aB a b aE aF aD aG:Int)(p:OA)(n c:Nat)(q:OA)(m c2:Nat)(l:List UInt8)(w:World)
theorem aMo: ∀(f:Nat) (first:Int) (l:List UInt8),(uR f first l).1.length=0∨1≤first∧first+(uR f first l).1.length≤100
 |0,_,_=> .inl rfl
 |f+1,first,l=>by
  simp only[uR];cases h:cV l with
  |none=>exact .inl rfl
  |some x=>
   obtain⟨n,d,m⟩:=x;obtain⟨_,_,h1,h2⟩:=iF h;dsimp only;by_cases hn:n=first
   ·rw[if_pos hn];subst hn;right;rcases aMo f (n+1) (l.drop m)with h3|⟨h3,h4⟩
    ·simp[h3];omega
    simp only[aX0];omega
   rw[if_neg hn];exact .inl rfl
theorem aE7 (first:Int)(l:List UInt8):(rj first l).1.length≤99:=by
 have:=aMo l.length first l
 unfold rj;omega
def aAo (h:aQ)(first:Int)(l:List UInt8):aQ×Nat:=if bC h=true then(kT h (rj first l).1,(rj first l).1.length)else(hZ,0)
def aCw (r:aQ×Nat)(w:World)(e:Ending)(w':World):Prop:=
 ∃pa ca qa da,e= .returned (.tuple #[bV r.1 pa r.1.cells.length ca qa r.1.vs.length da,r.2])∧w'.ownsRow w.heap.size TI 1 (.slice pa r.1.cells.length ca) r.1.cells.length (ivs r.1.cells)∧w'.ownsRow w.heap.size TV 4 (.slice qa r.1.vs.length da) r.1.vs.length (r.1.vs.flatMap aC)∧Ext w w'
theorem aU0 (r:aQ)(p:OA)(c:Nat)(q:OA)(c2:Nat)(first:Int)(b:ByteArray)(ds:List Dd3)(nd:Nat)(w:World)(a:xC 12 #[.agg (aYo h p c q c2)] w fun w' e w''=>e= .returned (Value.bool false)∧Ext w' w''):
  U 14 #[.agg #[h.aA,h.aB,.slice p h.cells c,h.free,h.step,h.aE,h.aF,h.aD,h.aG,.slice q h.vs c2],first,.string b] w (aCw (hZ,0) w):=by
 go_enter func14,ntmps14;go_wp2_with fail;refine Ω (a _ (Mem.b2 w).ext) fun w1 f=>?_
 have M1:=((Mem.b2 w).adv f)
 clear f a;have f_:=(M1.bk 0).tenf;go_wp2;clear f_;have M2:=(M1.put10 (i:=0) rfl (I 0) (I 0) (.slice none 0 0) (I 0) (I 0) (I 0) (I 0) (I 0) (I 0) (.slice none 0 0))
 generalize d:World.setCell _ _ _=wz;rw[d]at M2;clear d M1;have y_:=(M2.bk 0).ten;exact aYw (v:= .tuple #[.agg #[(),(),((),()),(),(),(),(),(),(),((),())],()]) (show aCw (hZ,0) w _ _ from⟨none,0,none,0,rfl,aW9 _ _ _ _,aW9 _ _ _ _,M2.ext⟩)
theorem aVb (r:aQ)(p:OA)(c:Nat)(q:OA)(c2:Nat)(first:Int)(b:ByteArray)(ds:List Dd3)(nd:Nat)(w:World)(f:xC 12 #[.agg (aYo h p c q c2)] w fun w' e w''=>e= .returned (Value.bool true)∧Ext w' w'')(HJ:xC 13 #[first,.string b] w fun w' e w''=> ∃pj cj,e= .returned (.tuple #[.slice pj nd cj,I (rj first b.data.toList).2])∧w''.ownsRow w' TDd 3 (.slice pj nd cj) nd (ds.flatMap bT)∧Ext w' w'')(HR:Hid (∀pe ce w',Ext w w'→Sl w' pe nd ce 3 (ds.flatMap bT)→U 15 #[.agg (aYo h p c q c2),.slice pe nd ce] w' fun e w''=> ∃pa ca qa da ps cs,e= .returned (.tuple #[.agg #[r.aA,r.aB,.slice pa r.cells ca,r.free,r.step,r.aE,r.aF,r.aD,r.aG,.slice qa r.vs da],.slice ps nd cs])∧w''.ownsRow w' TI 1 (.slice pa r.cells ca) r.cells.length (ivs r.cells)∧w''.ownsRow w' TV 4 (.slice qa r.vs da) r.vs.length (r.vs.flatMap aC)∧Ext w' w'')):
  U 14 #[.agg #[h.aA,h.aB,.slice p h.cells c,h.free,h.step,h.aE,h.aF,h.aD,h.aG,.slice q h.vs c2],first,.string b] w (aCw (r,nd) w):=by
 go_enter func14,ntmps14;go_wp2_with fail;refine Ω (f _ (Mem.b2 w).ext) fun w1 k=>?_
 have M1:=((Mem.b2 w).adv k)
 clear k f;go_wp2_with fail;refine(HJ _ M1.ext).mono ?_;rintro e w2 ⟨pj,cj,rfl,g,l⟩;have M2:=(M1.call l g)
 clear M1 l g HJ;have m:=(M2.bk 2).ten;go_wp2_with fail;clear m;refine(HR _ _ _ M2.ext (M2.sq 0)).mono ?_;rintro e w8 ⟨p5,c5,q5,d5,ps,cs,rfl,ho,hq,hx⟩;have M3:=(M2.own2 hx ho hq (aVz _) (by decide))
 clear M2 hx ho hq HR;go_upto_region 5 with fail;obtain⟨X5,d⟩: ∃a,a=w8.heap.size:=⟨_,rfl⟩
 rw[←d];have M4:=(M3.blkNew aN (aYo r p5 c5 q5 d5) X5 d.symm)
 generalize World.alloc _ _=v2 at M4⊢;clear M3 d;obtain⟨v0,v1,v2,v3,v4,v5,v6,v7,v8,v9⟩:=(M4.bk 0).ten;have f_:=(M4.bk 4).tenf;go_wp2;clear v0 v1 v2 v3 v4 v5 v6 v7 v8 v9 f_;have M5:=(M4.put10 (i:=4) rfl (I r.aA) (I r.aB) (.slice p5 r.cells c5) (I r.free) (I r.step) (I r.aE) (I r.aF) (I r.aD) (I r.aG) (.slice q5 r.vs d5))
 generalize j:World.setCell _ _ _=wz;rw[j]at M5;clear j M4;have y_:=(M5.bk 4).ten;exact aYw (v:= .tuple #[.agg #[r.aA,r.aB,.slice p5 r.cells c5,r.free,r.step,r.aE,r.aF,r.aD,r.aG,.slice q5 r.vs d5],nd]) (show aCw (r,nd) w _ _ from⟨p5,c5,q5,d5,rfl,(M5.ow 1),(M5.ow 2),M5.ext⟩)
theorem aLj (a:Nat)(q:OA)(m c2:Nat)(first:Int)(b:ByteArray)(w:World)(hi:IsHouse w h p n a q m c2)(hs:b.size≤2147483648)(hB:B64 first)(d:Env w)(hE:BitTab w):
  U 14 #[bV h p n a q m c2,first,.string b] w (aCw (aAo h first b.data.toList) w):=by
 have hl:=hi.clen;have f:=hi.vlen;subst hl f;have hv: ∀w',Ext w w'→U 12 #[bV h p _ a q _ c2] w' (Z (Value.bool (bC h)) w'):=fun w' hx=>lB h p _ a q _ c2 w' (hi.ext hx)
 unfold aAo;by_cases hok:bC h=true
 ·rw[if_pos hok];rw[hok]at hv;have hd:=nX (rj first b.data.toList).1 h;have hq: ∀l,uQ h l=(kT h l,iB h l):=fun l=>by unfold uQ;rw[if_pos hok]
  refine aVb h _ p a q c2 first b (rj first b.data.toList).1 _ w hv (fun w' hx=>(aLk first b w' hs hB (d.ext hx)).mono ?_) (fun pe ce w' hx hS=>(rE h p _ a q _ c2 pe _ ce _ w' (hi.ext hx) hS (aW8 (aE7 _ _) (by omega)) (hE.ext hx)).mono ?_)
  ·rintro e w'' ⟨v,rfl,ho,c⟩;obtain⟨pj,cj,rfl⟩:=qW ho;exact⟨pj,cj,rfl,ho,c⟩
  rintro e w'' ⟨pa,ca,qa,da,ps,cs,rfl,o1,o2,_,c⟩;rw[hq]at o1 o2⊢;dsimp only at o1 o2⊢;rw[hd];exact⟨pa,ca,qa,da,ps,cs,rfl,o1,o2,c⟩
 rw[if_neg hok];rw[show bC h=false by simpa using hok]at hv;exact aU0 h h p a q c2 first b [] 0 w hv
def mY:Go.Shelf.Ren:=⟨fun|156=>79|165=>119|166=>62|169=>63|240=>104|241=>163|276=>133|277=>194|n=>n,fun|0=>0|3=>3|4=>4|5=>5|9=>9|20=>20|31=>85|37=>22|70=>94|72=>96|75=>98|76=>100|80=>102|127=>137|164=>162|n=>n,fun|n=>n⟩
theorem aFz:Go.Proofs.Lays.n156 prog mY:={
 mixed:=by kernel_rfl,
 f156:=func79.trans (congrArg some (by kernel_rfl)),
 f165:=func119.trans (congrArg some (by kernel_rfl)),
 f166:=func62.trans (congrArg some (by kernel_rfl)),
 f169:=func63.trans (congrArg some (by kernel_rfl)),
 f240:=func104.trans (congrArg some (by kernel_rfl)),
 f241:=func163.trans (congrArg some (by kernel_rfl)),
 f276:=func133.trans (congrArg some (by kernel_rfl)),
 f277:=func194.trans (congrArg some (by kernel_rfl)),
 t0:=underlying0,
 a0:=Tryz.isAgg0,
 z0:=Tryz.sizeOf0,
 v0:=Tryz.zeroValue0,
 t3:=underlying3,
 a3:=Tryz.isAgg3,
 z3:=Tryz.sizeOf3,
 v3:=Tryz.zeroValue3,
 t4:=underlying4,
 a4:=Tryz.isAgg4,
 z4:=Tryz.sizeOf4,
 v4:=Tryz.zeroValue4,
 t9:=underlying9,
 a9:=Tryz.isAgg9,
 z9:=Tryz.sizeOf9,
 v9:=Tryz.zeroValue9,
 t20:=underlying20,
 a20:=Tryz.isAgg20,
 z20:=Tryz.sizeOf20,
 v20:=Tryz.zeroValue20,
 t31:=underlying85,
 a31:=Tryz.isAgg85,
 z31:=Tryz.sizeOf85,
 v31:=Tryz.zeroValue85,
 t37:=underlying22,
 a37:=Tryz.isAgg22,
 z37:=Tryz.sizeOf22,
 v37:=Tryz.zeroValue22,
 t70:=underlying94,
 a70:=Tryz.isAgg94,
 z70:=Tryz.sizeOf94,
 v70:=Tryz.zeroValue94,
 t72:=underlying96,
 a72:=Tryz.isAgg96,
 z72:=Tryz.sizeOf96,
 v72:=Tryz.zeroValue96,
 t75:=underlying98,
 a75:=Tryz.isAgg98,
 z75:=Tryz.sizeOf98,
 v75:=Tryz.zeroValue98,
 t76:=underlying100,
 a76:=Tryz.isAgg100,
 z76:=Tryz.sizeOf100,
 v76:=Tryz.zeroValue100,
 t127:=underlying137,
 a127:=Tryz.isAgg137,
 z127:=Tryz.sizeOf137,
 v127:=Tryz.zeroValue137,
 t164:=underlying162,
 a164:=Tryz.isAgg162,
 z164:=Tryz.sizeOf162,
 v164:=Tryz.zeroValue162}
theorem aSo:Go.Proofs.Builder.Extra prog mY:={
 sizeBuilder:=by kernel_rfl
 liesBuilder:=by kernel_rfl
 t5:=underlying5
 a5:=Tryz.isAgg5
 z5:=Tryz.sizeOf5
 v5:=Tryz.zeroValue5
 infoByte:=by kernel_rfl
 cellsByte:=by kernel_rfl
 sizeByte:=by kernel_rfl
 neB5:=by decide}
def nF (c:UInt8)(r:List (List UInt8)):List UInt8:=r.flatMap (fun y=>c::y)
def fA (c:UInt8):List (List UInt8)→List UInt8
 | []=> []
 |x::r=>x++nF c r
theorem aEl (c:UInt8)(xs:List (List UInt8)):Lib.join xs [c]=fA c xs:=by
 cases xs with
 |nil=>rfl
 |cons x r=>rw[Lib.join_cons];show x++(r.map ([c]++ ·)).flatten=x++r.flatMap (fun y=>c::y);rw[List.flatMap_def];rfl
def qN (ps:List (List UInt8)):List Value:=ps.map str
theorem aIj (ps:List (List UInt8))(c:UInt8)(p:OA)(n a:Nat)(w:World)(hn:ps.length=n)(h0:0<n)(hS:Sl w p n a 1 (qN ps))(hl:(fA c ps).length≤140737488355328)(f:n≤1099511627776):
  U 79 #[.slice p n a,.string ⟨#[c]⟩] w (Z (str (fA c ps)) w):=by
 obtain⟨b,d,rfl,hb,hc⟩:=hS.rd h0;subst hn;have hm:(ps.map (fun l=>(⟨l.toArray⟩:ByteArray))).map (·.data.toList)=ps:=by rw[List.map_map];exact(List.map_congr_left (fun x _=>by simp)).trans (List.map_id ps)
 have h:=Any.strings_Join aFz aSo b d a (ps.map (fun l=>(⟨l.toArray⟩:ByteArray))) ⟨#[c]⟩ w
  (fun j x hx=>by
   rw[aWp]at hx;obtain⟨y,hy,rfl⟩:=Option.map_eq_some_iff.1 hx;have hj:j<ps.length:=(aW3.1 hy).1;rw[hc j (by omega)]
   simp[qN,hy])
  hb (by rw[aWj];omega) (by rw[aWj];exact hS.le) (by rw[hm];simpa[aEl]using hl)
 rw[hm,aWj]at h;refine h.mono ?_;rintro e w' ⟨rfl,hx⟩;exact⟨by rw[show(⟨#[c]⟩:ByteArray).data.toList= [c]from rfl,aEl],hx⟩
abbrev dec (x:Int):List UInt8:=Lib.decDigits x.toNat
def bG (xs:List Int):List UInt8:=fA 44 (xs.map dec)
def bU (v:aV):List Int:= [v.1,v.2.1,v.2.2.1,v.2.2.2]
def eZ (h:aQ):List (List UInt8):=cE h.aA h.aB h.cells::bG [h.free,h.step,h.aE,h.aF]::dec h.aD::dec h.aG::h.vs.map (fun v=>bG (bU v))
def bI (h:aQ):List UInt8:=if bC h then fA 59 (eZ h)else []
theorem pI (c d:Int):bG [a,b,c,d]=dec a++44::dec b++44::dec c++44::dec d:=by simp[bG,fA,nF]
theorem qX:bG [a]=dec a:=by simp[bG,fA,nF]
theorem eM (x:Int)(h:x≤9223372036854775807):(dec x).length≤21:=cG _ (by omega)
theorem pX (c d:Int)(h1:a≤9223372036854775807)(h2:b≤9223372036854775807)(h3:c≤9223372036854775807)(h4:d≤9223372036854775807):(bG [a,b,c,d]).length≤90:=by rw[pI];have:=eM a h1;have:=eM b h2;have:=eM c h3;have:=eM d h4;simp only[aW5,aX0];omega
theorem aHe (c:UInt8)(M:Nat): ∀r:List (List UInt8),(∀x∈r,x.length≤M)→(nF c r).length≤(M+1)*r.length:=by
 intro r;induction r with
 |nil=>intro _;simp[nF]
 |cons x r ih=>intro h;have h1:=h x (by simp);have h2:=ih (fun y hy=>h y (by simp[hy]));simp only[nF,aXb,aW5,aX0]at h2⊢;rw[Nat.mul_succ];omega
theorem aVt (m:Nat)(h:l.length≤m): ∃s:ByteArray,s=⟨l.toArray⟩∧s.size≤m:=⟨_,rfl,by simpa[ByteArray.size]using h⟩
theorem pG (a b:ByteArray)(x y:List UInt8)(h1:a=⟨x.toArray⟩)(h2:b=⟨y.toArray⟩):a++b=⟨(x++y).toArray⟩:=by rw[h1,h2];exact Go.WideShapes.bytes_inj (by simp[ByteArray.data_append])
theorem aVu {a:ByteArray}{l:List UInt8}(h:a=⟨l.toArray⟩):Ending.returned (.string a)= .returned (str l):=by rw[h]
theorem yL (a:Nat)(w:World)(hn:n≤9223372036854775807)(HV:xB 30 #[aH aA aB p n a] w false):
  U 95 #[aH aA aB p n a] w (Z (str []) w):=by
 by_cases h0:0<n
 ·have u1:(0:Int)<(n:Int):=by omega
  go_enter func95,ntmps95;go_wp2;refine wp_loop_rounds 1 ?_;rw[rounds_succ];go_wp2_with fail;refine Ω (HV _ (by exact .alloc (.refl _) _)) fun w1 h1=>?_
  go_wp2;go_ret;exact⟨rfl,by exact .trans (.alloc (.refl _) _) h1⟩
 obtain rfl:n=0:=by omega
 go_enter func95,ntmps95;go_wp2;go_rounds 1;go_ret;exact⟨rfl,by exact .alloc (.refl _) _⟩
theorem aAe (s:Nat)(xs:List Int)(w:World)(h0:2≤aA)(h1:aA≤4)(hn:n≤12)(hc: ∀x∈xs,0≤x∧x≤99)(HS:Hid (Sl w p n s 1 (ivs xs)))(HV:xB 30 #[aH aA aB p n s] w true):
  U 95 #[aH aA aB p n s] w (Z (str (aS aA xs n)) w):=by
 have y:=xQ hc;clear hc;go_enter func95,ntmps95;go_wp2;go_loopw [3,4] (fun o i wr=> ∃(k:Nat) (S:ByteArray),k≤n∧i=I k∧o= .string S∧S=⟨(aS aA xs k).toArray⟩∧Ext w wr∧Blk wr w 27 #[aA,aB,.slice p n s]) (fun _ i _=>n-(intOf i).toNat)
 case atStart=>exact⟨0,_,aW6 _,rfl,rfl,rfl,by exact .alloc (.refl _) _,Blk.new _ _ _⟩
 case round=>
  obtain⟨k,S,hk,rfl,rfl,hS,hE,hB⟩:=hrel;have ag:S.size≤300:=by have:=pL aA xs (fun x hx=>(y x hx).2) k;rw[hS];simp[ByteArray.size];omega
  have j:=xQ hS;have r:=xQ hB;have af:(w:Nat)<wr:=hB.lt;clear hS hB;by_cases hlt:k<n
  ·obtain⟨b,ad,x,rfl,hx,v,m⟩:=(HS.out.ext hE).int_at hlt;obtain⟨ab,ah⟩:=y x (aW1 hx);have HX:=xQ hx;have d:=xQ (tA (aA:=aA) hx);clear hx;have i1:=aYp k;have i2:=aYq k n;have r_:=r.out.tri;have t:Hid (∀w,U 51 #[x] w (Z (str (Lib.decDigits x.toNat)) w)):=fun w=>lZ x w ab (by omega)
   obtain⟨tx,ex,mx⟩:=aVt (Lib.decDigits x.toNat) 21 (cG _ (by omega));have h:Hid (∀w,U 51 #[x] w (Z (.string tx) w)):=by rw[ex];exact t.out
   have u:=xQ ex;clear ex t;go_wp2_with fail;refine Ω (HV _ (by exact hE)) fun w1 q=>?_
   have g:=xQ (r.out.ext q);have X1:Ext w w1:=hE.trans q;have z:w1.cell? ⟨b,ad+k,none⟩=some (iv x):=by rw[q.cells.1 _ _ v];exact m
   have ae:b<w1:=aVy v q.sz;clear q r_ r m v;have a_:=g.out.tri;by_cases hk0:k=0
   ·by_cases hz:x=0
    ·have c:Hid (dI aA k= []):=by show _=_;simp[dI,hk0]
     have S1:Hid (S=⟨(aS aA xs k++dI aA k).toArray⟩):=by show _=_;rw[c.out,aWr];exact j.out
     have f1:decide ((0:Int)<(k:Int))=false:=by simp[hk0]
     have f2:decide (0<k)=false:=by simp[hk0]
     have f3: ¬0<k:=by omega
     have z1:(x==0)=true:=by simp[hz]
     have a:Hid (S++⟨#[46]⟩=⟨(aS aA xs (k+1)).toArray⟩):=by show _=_;rw[d.out];exact pG _ _ _ _ S1 (by simp[eI,hz])
     have q2:=aYt (S.size+1);clear hk0 hz;go_wp2;go_roundw
     case rel=>exact⟨k+1,_,by omega,by go_num,rfl,a.out,by exact X1,g.out.ext (by exact .refl _)⟩
     case measure=>simp[intOf];omega
    have c:Hid (dI aA k= []):=by show _=_;simp[dI,hk0]
    have S1:Hid (S=⟨(aS aA xs k++dI aA k).toArray⟩):=by show _=_;rw[c.out,aWr];exact j.out
    have f1:decide ((0:Int)<(k:Int))=false:=by simp[hk0]
    have f2:decide (0<k)=false:=by simp[hk0]
    have f3: ¬0<k:=by omega
    have z1:(x==0)=false:=by simp[hz]
    have a:Hid (S++tx=⟨(aS aA xs (k+1)).toArray⟩):=by show _=_;rw[d.out];exact pG _ _ _ _ S1 (by rw[u.out];simp[eI,hz])
    have q2:=aYt (S.size+tx.size);clear hk0 hz;go_wp2_with fail;refine Ω (h _) fun w2 f=>?_
    have l:=xQ (g.out.ext f);go_wp2;go_roundw
    case rel=>exact⟨k+1,_,by omega,by go_num,rfl,a.out,by exact .trans X1 f,l.out⟩
    case measure=>simp[intOf];omega
   by_cases hmod:(k:Int)%aA=0
   ·by_cases hz:x=0
    ·have c:Hid (dI aA k= [47]):=by show _=_;simp[dI,hk0,hmod]
     have S1:Hid (S++⟨#[47]⟩=⟨(aS aA xs k++dI aA k).toArray⟩):=by show _=_;rw[c.out];exact pG _ _ _ _ j.out rfl
     have q1:=aYt (S.size+1);have f1:0<k:=by omega
     have f3:(0:Int)<(k:Int):=by omega
     have f2:((k:Int)%aA==0)=true:=by simp[hmod]
     have z1:(x==0)=true:=by simp[hz]
     have a:Hid (S++⟨#[47]⟩++⟨#[46]⟩=⟨(aS aA xs (k+1)).toArray⟩):=by show _=_;rw[d.out];exact pG _ _ _ _ S1 (by simp[eI,hz])
     have q2:=aYt (S.size+1+1);clear hk0 hz hmod;go_wp2;go_roundw
     case rel=>exact⟨k+1,_,by omega,by go_num,rfl,a.out,by exact X1,g.out.ext (by exact .refl _)⟩
     case measure=>simp[intOf];omega
    have c:Hid (dI aA k= [47]):=by show _=_;simp[dI,hk0,hmod]
    have S1:Hid (S++⟨#[47]⟩=⟨(aS aA xs k++dI aA k).toArray⟩):=by show _=_;rw[c.out];exact pG _ _ _ _ j.out rfl
    have q1:=aYt (S.size+1);have f1:0<k:=by omega
    have f3:(0:Int)<(k:Int):=by omega
    have f2:((k:Int)%aA==0)=true:=by simp[hmod]
    have z1:(x==0)=false:=by simp[hz]
    have a:Hid (S++⟨#[47]⟩++tx=⟨(aS aA xs (k+1)).toArray⟩):=by show _=_;rw[d.out];exact pG _ _ _ _ S1 (by rw[u.out];simp[eI,hz])
    have q2:=aYt (S.size+1+tx.size);clear hk0 hz hmod;go_wp2_with fail;refine Ω (h _) fun w2 f=>?_
    have l:=xQ (g.out.ext f);go_wp2;go_roundw
    case rel=>exact⟨k+1,_,by omega,by go_num,rfl,a.out,by exact .trans X1 f,l.out⟩
    case measure=>simp[intOf];omega
   by_cases hz:x=0
   ·have c:Hid (dI aA k= [44]):=by show _=_;simp[dI,hk0,hmod]
    have S1:Hid (S++⟨#[44]⟩=⟨(aS aA xs k++dI aA k).toArray⟩):=by show _=_;rw[c.out];exact pG _ _ _ _ j.out rfl
    have q1:=aYt (S.size+1);have f1:0<k:=by omega
    have f3:(0:Int)<(k:Int):=by omega
    have f2:((k:Int)%aA==0)=false:=by simp[hmod]
    have z1:(x==0)=true:=by simp[hz]
    have a:Hid (S++⟨#[44]⟩++⟨#[46]⟩=⟨(aS aA xs (k+1)).toArray⟩):=by show _=_;rw[d.out];exact pG _ _ _ _ S1 (by simp[eI,hz])
    have q2:=aYt (S.size+1+1);clear hk0 hz hmod;go_wp2;go_roundw
    case rel=>exact⟨k+1,_,by omega,by go_num,rfl,a.out,by exact X1,g.out.ext (by exact .refl _)⟩
    case measure=>simp[intOf];omega
   have c:Hid (dI aA k= [44]):=by show _=_;simp[dI,hk0,hmod]
   have S1:Hid (S++⟨#[44]⟩=⟨(aS aA xs k++dI aA k).toArray⟩):=by show _=_;rw[c.out];exact pG _ _ _ _ j.out rfl
   have q1:=aYt (S.size+1);have f1:0<k:=by omega
   have f3:(0:Int)<(k:Int):=by omega
   have f2:((k:Int)%aA==0)=false:=by simp[hmod]
   have z1:(x==0)=false:=by simp[hz]
   have a:Hid (S++⟨#[44]⟩++tx=⟨(aS aA xs (k+1)).toArray⟩):=by show _=_;rw[d.out];exact pG _ _ _ _ S1 (by rw[u.out];simp[eI,hz])
   have q2:=aYt (S.size+1+tx.size);clear hk0 hz hmod;go_wp2_with fail;refine Ω (h _) fun w2 f=>?_
   have l:=xQ (g.out.ext f);go_wp2;go_roundw
   case rel=>exact⟨k+1,_,by omega,by go_num,rfl,a.out,by exact .trans X1 f,l.out⟩
   case measure=>simp[intOf];omega
  have aa:k=n:=by omega
  have d:Hid (S=⟨(aS aA xs n).toArray⟩):=by show _=_;rw[←aa];exact j.out
  have r_:=r.out.tri;go_wp2;go_ret;exact⟨aVu d.out,hE⟩
theorem wN (a:Nat)(xs:List Int)(w:World)(hS:Sl w p n a 1 (ivs xs)):
  U 95 #[aH aA aB p n a] w (Z (str (cE aA aB xs)) w):=by
 have hl:=hS.ilen;cases h:aO aA aB xs with
 |true=>obtain⟨h1,h2,h3,h4,h5,h6,h7,h8,h9⟩:=bS h;unfold cE;rw[if_pos h,hl];exact aAe aA aB p n a xs w h1 h2 (by omega) h8 hS (fun w' hx=>by rw[←h];exact iJ aA aB p n a xs w' (hS.ext hx))
 |false=>unfold cE;rw[if_neg (by simp[h])];exact yL aA aB p n a w hS.bd (fun w' hx=>by rw[←h];exact iJ aA aB p n a xs w' (hS.ext hx))
theorem aPy:(⟨l.toArray⟩:ByteArray).size=l.length:=by simp[ByteArray.size]
theorem aVi:(⟨#[59]⟩:ByteArray).size=1:=rfl
theorem aVs:(⟨#[44]⟩:ByteArray).size=1:=rfl
theorem aI2 {a:ByteArray}{l:List UInt8}(h:a=⟨l.toArray⟩):Ending.returned (.string a)= .returned (str l):=by rw[h]
theorem fK (m:Nat)(h:l.length≤m): ∃s:ByteArray,s=⟨l.toArray⟩∧s.size≤m:=⟨_,rfl,by rw[aPy];exact h⟩
theorem aB3 (h0:0≤a)(h1:0≤b)(h2:0≤aE)(h3:0≤aF)(h4:a≤9223372036854775807)(h5:b≤9223372036854775807)(h6:aE≤9223372036854775807)(h7:aF≤9223372036854775807):
  U 96 #[aR a b aE aF] w (Z (str (bG [a,b,aE,aF])) w):=by
 obtain⟨s1,e1,l1⟩:=fK (dec a) 21 (eM _ h4);obtain⟨s2,e2,l2⟩:=fK (dec b) 21 (eM _ h5);obtain⟨s3,e3,l3⟩:=fK (dec aE) 21 (eM _ h6);obtain⟨s4,e4,l4⟩:=fK (dec aF) 21 (eM _ h7);have h:Hid (∀w,U 51 #[a] w (Z (.string s1) w)):=fun w=>by rw[e1];exact lZ a w h0 h4
 have i:Hid (∀w,U 51 #[b] w (Z (.string s2) w)):=fun w=>by rw[e2];exact lZ b w h1 h5
 have j:Hid (∀w,U 51 #[aE] w (Z (.string s3) w)):=fun w=>by rw[e3];exact lZ aE w h2 h6
 have k:Hid (∀w,U 51 #[aF] w (Z (.string s4) w)):=fun w=>by rw[e4];exact lZ aF w h3 h7
 have HF:Hid (s1++⟨#[44]⟩++s2++⟨#[44]⟩++s3++⟨#[44]⟩++s4=⟨(bG [a,b,aE,aF]).toArray⟩):=by show _=_;rw[pI,e1,e2,e3,e4];apply Go.WideShapes.bytes_inj;simp[ByteArray.data_append]
 clear e1 e2 e3 e4 h0 h1 h2 h3 h4 h5 h6 h7;have q1:=aYt (s1.size+1);have q2:=aYt (s1.size+1+s2.size);have q3:=aYt (s1.size+1+s2.size+1);have q4:=aYt (s1.size+1+s2.size+1+s3.size);have q5:=aYt (s1.size+1+s2.size+1+s3.size+1);have q6:=aYt (s1.size+1+s2.size+1+s3.size+1+s4.size);have B0:Hid (Blk (w.alloc (.cells #[a,b,aE,aF] 29)) w 29 #[a,b,aE,aF]):=Blk.new w _ _;have X0:Hid (Ext w (w.alloc (.cells #[a,b,aE,aF] 29))):=(Ext.refl w).alloc _;go_enter func96,ntmps96;go_wp2
 go_region_held3 (fun w'=>w'.cell? ⟨w,0,none⟩=some (I a)∧w'.cell? ⟨w,1,none⟩=some (I b)∧w'.cell? ⟨w,2,none⟩=some (I aE)∧w'.cell? ⟨w,3,none⟩=some (I aF)) (first|(refine⟨?_,?_,?_,?_⟩<;>assumption)|go_keep)
  ((go_at_call 51;(first
    |((with_reducible refine(h _).mono ?_)
      rintro e w1 ⟨rfl,c⟩;(try replace c:=c.of_drew);have B1:=xQ (B0.out.ext c);have X1:=xQ (X0.out.trans c);skip;clear c;have l:=B1.out.cl 0;have m:=B1.out.cl 1;have n:=B1.out.cl 2
      have o:w1.cell? ⟨w,3,none⟩=some (I aF):=B1.out.cell 3)
    |((with_reducible refine(i _).mono ?_)
      rintro e w2 ⟨rfl,d⟩;(try replace d:=d.of_drew);have B2:=xQ (B1.out.ext d);have X2:=xQ (X1.out.trans d);skip;clear d;have p:=B2.out.cl 0;have q:=B2.out.cl 1;have r:=B2.out.cl 2
      have s:w2.cell? ⟨w,3,none⟩=some (I aF):=B2.out.cell 3)
    |((with_reducible refine(j _).mono ?_)
      rintro e w3 ⟨rfl,f⟩;(try replace f:=f.of_drew);have B3:=xQ (B2.out.ext f);have X3:=xQ (X2.out.trans f);skip;clear f;have t:=B3.out.cl 0;have u:=B3.out.cl 1;have v:=B3.out.cl 2
      have x:w3.cell? ⟨w,3,none⟩=some (I aF):=B3.out.cell 3)
    |((with_reducible refine(k _).mono ?_)
      rintro e w4 ⟨rfl,g⟩;(try replace g:=g.of_drew);have B4:=xQ (B3.out.ext g);have X4:=xQ (X3.out.trans g);skip;clear g;have y:=B4.out.cl 0;have z:=B4.out.cl 1;have aa:=B4.out.cl 2
      have ab:w4.cell? ⟨w,3,none⟩=some (I aF):=B4.out.cell 3))))
 all_goals go_wp2
 all_goals go_ret
 all_goals exact⟨aI2 HF.out,X4.out⟩
theorem aD0 (HV:xB 11 #[.agg #[aA,aB,.slice p n c,a,b,aE,aF,aD,aG,.slice q m c2]] w false):
  U 52 #[.agg #[aA,aB,.slice p n c,a,b,aE,aF,aD,aG,.slice q m c2]] w (Z (str []) w):=by
 go_enter func52,ntmps52;go_wp2_with fail;refine Ω (HV _ (by exact .alloc (.refl _) _)) fun w1 d=>?_
 go_wp2;go_ret;exact⟨rfl,by exact .trans (.alloc (.refl _) _) d⟩
theorem aT1 (s1 s2 s3 s4:ByteArray)(p1 p2 p3 p4:List UInt8)(e1:s1=⟨p1.toArray⟩)(e2:s2=⟨p2.toArray⟩)(e3:s3=⟨p3.toArray⟩)(e4:s4=⟨p4.toArray⟩):
  s1++⟨#[59]⟩++s2++⟨#[59]⟩++s3++⟨#[59]⟩++s4=⟨(fA 59 [p1,p2,p3,p4]).toArray⟩:=by
 rw[e1,e2,e3,e4];apply Go.WideShapes.bytes_inj;simp[ByteArray.data_append,fA,nF]
theorem aNf (S t1 t2 t3 t4:ByteArray)(a0 a1 a2 a3:Int)(P:List UInt8)(e0:S=⟨P.toArray⟩)(e1:t1=⟨(dec a0).toArray⟩)(e2:t2=⟨(dec a1).toArray⟩)(e3:t3=⟨(dec a2).toArray⟩)(e4:t4=⟨(dec a3).toArray⟩):
  S++⟨#[59]⟩++t1++⟨#[44]⟩++t2++⟨#[44]⟩++t3++⟨#[44]⟩++t4=⟨(P++59::bG [a0,a1,a2,a3]).toArray⟩:=by
 rw[e0,e1,e2,e3,e4,pI];apply Go.WideShapes.bytes_inj;simp[ByteArray.data_append]
theorem aFh (c aE aF aD aG:Int)(p:OA)(n d:Nat)(q:OA)(m c2:Nat)(w:World)(vs:List aV)(p1 p2 p3 p4:List UInt8)(l1:p1.length≤400)(l2:p2.length≤100)(l3:p3.length≤30)(l4:p4.length≤30)(hm:m≤12)(HS:Hid (Sl w q m c2 4 (vs.flatMap aC)))(HG:Hid (∀v∈vs,0≤v.1∧v.1≤99999∧0≤v.2.1∧v.2.1≤99999∧0≤v.2.2.1∧v.2.2.1≤99999∧0≤v.2.2.2∧v.2.2.2≤99999))(HV:xB 11 #[.agg #[aA,aB,.slice p n d,a,c,aE,aF,aD,aG,.slice q m c2]] w true)(H1:xC 95 #[aH aA aB p n d] w fun w' e w''=>e= .returned (str p1)∧Ext w' w'')(H2:Hid (∀w',U 96 #[aR a c aE aF] w' (Z (str p2) w')))(H3:Hid (∀w',U 51 #[aD] w' (Z (str p3) w')))(H4:Hid (∀w',U 51 #[aG] w' (Z (str p4) w'))):
  U 52 #[.agg #[aA,aB,.slice p n d,a,c,aE,aF,aD,aG,.slice q m c2]] w (Z (str (fA 59 ([p1,p2,p3,p4]++vs.map (fun v=>bG (bU v))))) w):=by
 obtain⟨s1,e1,m1⟩:=fK p1 400 l1;obtain⟨s2,e2,m2⟩:=fK p2 100 l2;obtain⟨s3,e3,m3⟩:=fK p3 30 l3;obtain⟨s4,e4,m4⟩:=fK p4 30 l4;have cj:xC 95 #[aH aA aB p n d] w fun w' e w''=>e= .returned (.string s1)∧Ext w' w'':=by rw[e1];exact H1.out
 have ck:Hid (∀w',U 96 #[aR a c aE aF] w' (Z (.string s2) w')):=by rw[e2];exact H2.out
 have cm:Hid (∀w',U 51 #[aD] w' (Z (.string s3) w')):=by rw[e3];exact H3.out
 have cn:Hid (∀w',U 51 #[aG] w' (Z (.string s4) w')):=by rw[e4];exact H4.out
 have HF:=xQ (aT1 s1 s2 s3 s4 p1 p2 p3 p4 e1 e2 e3 e4);have hl:Hid (vs.length=m):=by have:=HS.out.len;rw[eC aC 4 (fun _=>rfl)]at this;exact(by omega:vs.length=m)
 clear e1 e2 e3 e4 l1 l2 l3 l4 H1 H2 H3 H4;have q1:=aYt (s1.size+1);have q2:=aYt (s1.size+1+s2.size);have q3:=aYt (s1.size+1+s2.size+1);have q4:=aYt (s1.size+1+s2.size+1+s3.size);have q5:=aYt (s1.size+1+s2.size+1+s3.size+1);have q6:=aYt (s1.size+1+s2.size+1+s3.size+1+s4.size);go_enter func52,ntmps52;go_wp2_with fail;refine Ω (HV _ (by exact .alloc (.refl _) _)) fun w0 x=>?_
 have B0:Hid (Blk w0 w 32 #[aA,aB,.slice p n d,a,c,aE,aF,aD,aG,.slice q m c2]):=(Blk.new w _ _).ext x;have X0:Hid (Ext w w0):=by show Ext w w0;exact .trans (.alloc (.refl _) _) x
 clear x;obtain⟨a0,a1,a2,a3,a4,a5,a6,a7,a8,a9⟩:=B0.out.ten;go_wp2
 go_region_held3 (fun w'=>w'.cell? ⟨w,0,none⟩=some (I aA)∧w'.cell? ⟨w,1,none⟩=some (I aB)∧w'.cell? ⟨w,2,none⟩=some (.slice p n d)∧w'.cell? ⟨w,3,none⟩=some (I a)∧w'.cell? ⟨w,4,none⟩=some (I c)∧w'.cell? ⟨w,5,none⟩=some (I aE)∧w'.cell? ⟨w,6,none⟩=some (I aF)∧w'.cell? ⟨w,7,none⟩=some (I aD)∧w'.cell? ⟨w,8,none⟩=some (I aG)∧w'.cell? ⟨w,9,none⟩=some (.slice q m c2)) (first|(refine⟨?_,?_,?_,?_,?_,?_,?_,?_,?_,?_⟩<;>assumption)|go_keep)
  ((first
    |(go_at_call 95;(with_reducible refine(cj _ (by first|exact X0.out|exact X0.out.drew)).mono ?_)
      rintro e w1 ⟨rfl,l⟩;(try replace l:=l.of_drew);have B1:=xQ (B0.out.ext l);have X1:=xQ (X0.out.trans l);skip;clear l;have z:=B1.out.cl 0;have aa:=B1.out.cl 1;have ab:=B1.out.cl 2;have ad:=B1.out.cl 3;have ae:=B1.out.cl 4;have af:=B1.out.cl 5;have ag:=B1.out.cl 6;have ah:=B1.out.cl 7;have ai:=B1.out.cl 8
      have aj:w1.cell? ⟨w,9,none⟩=some (.slice q m c2):=B1.out.cell 9)
    |(go_at_call 96;(with_reducible refine(ck _).mono ?_)
      rintro e w2 ⟨rfl,r⟩;(try replace r:=r.of_drew);have B2:=xQ (B1.out.ext r);have X2:=xQ (X1.out.trans r);skip;clear r;have ak:=B2.out.cl 0;have al:=B2.out.cl 1;have am:=B2.out.cl 2;have an:=B2.out.cl 3;have ao:=B2.out.cl 4;have ap:=B2.out.cl 5;have aq:=B2.out.cl 6;have ar:=B2.out.cl 7;have au:=B2.out.cl 8
      have av:w2.cell? ⟨w,9,none⟩=some (.slice q m c2):=B2.out.cell 9)
    |(go_at_call 51;(with_reducible refine(cm _).mono ?_)
      rintro e w3 ⟨rfl,s⟩;(try replace s:=s.of_drew);have B3:=xQ (B2.out.ext s);have X3:=xQ (X2.out.trans s);skip;clear s;have aw:=B3.out.cl 0;have ax:=B3.out.cl 1;have ay:=B3.out.cl 2;have az:=B3.out.cl 3;have ba:=B3.out.cl 4;have bb:=B3.out.cl 5;have bc:=B3.out.cl 6;have bd:=B3.out.cl 7;have be:=B3.out.cl 8
      have bf:w3.cell? ⟨w,9,none⟩=some (.slice q m c2):=B3.out.cell 9)
    |(go_at_call 51;(with_reducible refine(cn _).mono ?_)
      rintro e w4 ⟨rfl,t⟩;(try replace t:=t.of_drew);have B4:=xQ (B3.out.ext t);have X4:=xQ (X3.out.trans t);skip;clear t;have bg:=B4.out.cl 0;have bh:=B4.out.cl 1;have bi:=B4.out.cl 2;have bj:=B4.out.cl 3;have bk:=B4.out.cl 4;have bl:=B4.out.cl 5;have bm:=B4.out.cl 6;have bn:=B4.out.cl 7;have bo:=B4.out.cl 8
      have bp:w4.cell? ⟨w,9,none⟩=some (.slice q m c2):=B4.out.cell 9)))
 clear q1 q2 q3 q4 q5 q6 z aa ab ad ae af ag ah ai aj ak al am an ao ap aq ar au av aw ax ay az ba bb bc bd be bf bg bh bi bj bk bl bm bn bo bp a0 a1 a2 a3 a4 a5 a6 a7 a8 a9;have b9:=B4.out.cl 9;go_wp2;clear b9;go_loopw [3,4] (fun o i wr=> ∃(k:Nat) (S:ByteArray),k≤m∧i=I k∧o= .string S∧S=⟨(fA 59 ([p1,p2,p3,p4]++(vs.take k).map (fun v=>bG (bU v)))).toArray⟩∧S.size≤700+100*k∧Ext w wr∧Blk wr w 32 #[aA,aB,.slice p n d,a,c,aE,aF,aD,aG,.slice q m c2]) (fun _ i _=>m-(intOf i).toNat)
 case atStart=>exact⟨0,_,aW6 _,rfl,rfl,by rw[HF.out];simp,by simp only[ByteArray.size_append,aVi];omega,X4.out,B4.out⟩
 case round=>
  obtain⟨k,S,hk,rfl,rfl,hS,b7,hE,hB⟩:=hrel;have y:=xQ hS;have u:=xQ hB;have cw:(w:Nat)<wr:=hB.lt;clear X4 B4 hS hB HF;by_cases hlt:k<m
  ·obtain⟨b,cx,a0,a1,a2,a3,rfl,hv,hb,g0,g1,g2,g3⟩:=iI (HS.out.ext hE) hlt;obtain⟨v0,ca,v1,cb,v2,cc,v3,cd⟩:=HG _ (aW1 hv);dsimp only at v0 ca v1 cb v2 cc v3 cd;have cu:Hid (fA 59 ([p1,p2,p3,p4]++(vs.take (k+1)).map (fun v=>bG (bU v)))=fA 59 ([p1,p2,p3,p4]++(vs.take k).map (fun v=>bG (bU v)))++59::bG [a0,a1,a2,a3]):=by
    show _=_;rw[aX hv,aWs];simp[fA,nF,bU]
   obtain⟨t1,e1,m1⟩:=fK (dec a0) 21 (eM _ (by omega));obtain⟨t2,e2,m2⟩:=fK (dec a1) 21 (eM _ (by omega));obtain⟨t3,e3,m3⟩:=fK (dec a2) 21 (eM _ (by omega));obtain⟨t4,e4,m4⟩:=fK (dec a3) 21 (eM _ (by omega));have co:Hid (∀w,U 51 #[a0] w (Z (.string t1) w)):=fun w=>by rw[e1];exact lZ a0 w v0 (by omega)
   have cp:Hid (∀w,U 51 #[a1] w (Z (.string t2) w)):=fun w=>by rw[e2];exact lZ a1 w v1 (by omega)
   have cq:Hid (∀w,U 51 #[a2] w (Z (.string t3) w)):=fun w=>by rw[e3];exact lZ a2 w v2 (by omega)
   have cr:Hid (∀w,U 51 #[a3] w (Z (.string t4) w)):=fun w=>by rw[e4];exact lZ a3 w v3 (by omega)
   have cv:S.size≤1900:=by omega
   have cs:=xQ b7;have ct:=xQ (aNf S t1 t2 t3 t4 a0 a1 a2 a3 _ y e1 e2 e3 e4);clear e1 e2 e3 e4 v0 ca v1 cb v2 cc v3 cd hv b7;have i1:=aYp k;have i2:=aYq k m;have r1:=aYt (S.size+1);have r2:=aYt (S.size+1+t1.size);have r3:=aYt (S.size+1+t1.size+1);have r4:=aYt (S.size+1+t1.size+1+t2.size);have r5:=aYt (S.size+1+t1.size+1+t2.size+1);have r6:=aYt (S.size+1+t1.size+1+t2.size+1+t3.size);have r7:=aYt (S.size+1+t1.size+1+t2.size+1+t3.size+1);have r8:=aYt (S.size+1+t1.size+1+t2.size+1+t3.size+1+t4.size);have B4:Hid (Blk (wr.alloc (.cells #[a0,a1,a2,a3] 62)) wr 62 #[a0,a1,a2,a3]):=Blk.new wr _ _;have X4:Hid (Ext w (wr.alloc (.cells #[a0,a1,a2,a3] 62))):=hE.alloc _;have ce:=xQ (u.out.alloc (.cells #[a0,a1,a2,a3] 62));have b9:=u.out.cl 9;go_wp2;go_region_held3 (fun w'=>w'.cell? ⟨wr,0,none⟩=some (I a0)∧w'.cell? ⟨wr,1,none⟩=some (I a1)∧w'.cell? ⟨wr,2,none⟩=some (I a2)∧w'.cell? ⟨wr,3,none⟩=some (I a3)) (first|(refine⟨?_,?_,?_,?_⟩<;>assumption)|go_keep)
  ((go_at_call 51;(first
      |((with_reducible refine(co _).mono ?_)
        rintro e w5 ⟨rfl,f⟩;(try replace f:=f.of_drew);have B5:=xQ (B4.out.ext f);have X5:=xQ (X4.out.trans f);have cf:=xQ (ce.out.ext f);clear f;have bq:=B5.out.cl 0;have br:=B5.out.cl 1;have bs:=B5.out.cl 2
        have bt:w5.cell? ⟨wr,3,none⟩=some (I a3):=B5.out.cell 3)
      |((with_reducible refine(cp _).mono ?_)
        rintro e w6 ⟨rfl,g⟩;(try replace g:=g.of_drew);have B6:=xQ (B5.out.ext g);have X6:=xQ (X5.out.trans g);have cg:=xQ (cf.out.ext g);clear g;have bu:=B6.out.cl 0;have bv:=B6.out.cl 1;have bw:=B6.out.cl 2
        have bx:w6.cell? ⟨wr,3,none⟩=some (I a3):=B6.out.cell 3)
      |((with_reducible refine(cq _).mono ?_)
        rintro e w7 ⟨rfl,h⟩;(try replace h:=h.of_drew);have B7:=xQ (B6.out.ext h);have X7:=xQ (X6.out.trans h);have ch:=xQ (cg.out.ext h);clear h;have bz:=B7.out.cl 0;have b0:=B7.out.cl 1;have b1:=B7.out.cl 2
        have b2:w7.cell? ⟨wr,3,none⟩=some (I a3):=B7.out.cell 3)
      |((with_reducible refine(cr _).mono ?_)
        rintro e w8 ⟨rfl,j⟩;(try replace j:=j.of_drew);have B8:=xQ (B7.out.ext j);have X8:=xQ (X7.out.trans j);have ci:=xQ (ch.out.ext j);clear j;have b3:=B8.out.cl 0;have b4:=B8.out.cl 1;have b5:=B8.out.cl 2
        have b6:w8.cell? ⟨wr,3,none⟩=some (I a3):=B8.out.cell 3))))
   clear bq br bs bt bu bv bw bx bz b0 b1 b2 b3 b4 b5 b6 r1 r2 r3 r4 r5 r6 r7 r8;go_wp2;go_roundw
   case rel=>exact⟨k+1,_,by omega,by go_num,rfl,by rw[ct.out,cu.out],by have:=cs.out;simp only[ByteArray.size_append,aVi,aVs];omega,X8.out,ci.out⟩
   case measure=>simp[intOf];omega
  ·have b8:Hid (fA 59 ([p1,p2,p3,p4]++(vs.take k).map (fun v=>bG (bU v)))=fA 59 ([p1,p2,p3,p4]++vs.map (fun v=>bG (bU v)))):=by
    show _=_;rw[aW4 (by rw[hl.out];omega)]
   have b9:=u.out.cl 9;go_wp2;go_ret;exact⟨aI2 (by rw[y.out,b8.out];rfl),hE⟩
theorem rI {aA aB:Int}:(cE aA aB xs).length≤400:=by
 unfold cE;cases h:aO aA aB xs with
 |false=>simp
 |true=>obtain⟨h1,h2,h3,h4,h5,h6,h7,h8,h9⟩:=bS h;rw[if_pos rfl];have:=pL aA xs (fun x hx=>(h8 x hx).2) xs.length;omega
theorem rH {h:aQ}(f:bC h=true):aO h.aA h.aB h.cells=true∧0≤h.free∧h.free≤1440∧0≤h.step∧h.step≤1440∧0≤h.aE∧h.aE≤99∧0≤h.aF∧h.aF≤99∧0≤h.aD∧h.aD≤9999∧0≤h.aG∧h.aG≤99999∧h.vs.length≤12∧
  ∀v∈h.vs,0≤v.1∧v.1≤99999∧0≤v.2.1∧v.2.1≤99999∧0≤v.2.2.1∧v.2.2.1≤99999∧0≤v.2.2.2∧v.2.2.2≤99999:=by
 have hv:=(aF7 f).2;unfold bC at f;simp only[aWc]at f;obtain⟨⟨⟨h1,h2⟩,h3⟩,h4⟩:=f;have ht:=jW h2;unfold yX at h3;simp at h3;obtain⟨q1,q2⟩:=nJ h4;obtain⟨_,_,_,_,_,_,_,hc,_⟩:=bS h1;refine⟨h1,by omega,by omega,by omega,by omega,by omega,by omega,by omega,by omega,by omega,by omega,by omega,by omega,hv.1,fun v hm=> ?_⟩;have a:=q2 v hm;unfold iH at a;rw[aWc]at a;have b:=iT a.1;have c:v.1∈jC h.cells:=by rw[←q1];exact List.mem_map_of_mem hm
 have d:v.1∈eJ h.cells:=(kR _).mem_iff.1 c;have e:=hc v.1 (aWy.1 d).1;omega
theorem uX (a:Nat)(q:OA)(m c2:Nat)(w:World)(hi:IsHouse w h p n a q m c2):
  U 52 #[bV h p n a q m c2] w (Z (str (bI h)) w):=by
 have HV:=fun(w':World) (hx:Ext w w')=>mE h p n a q m c2 w' (hi.ext hx)
 have i:=hi.vlen;unfold bI;cases hok:bC h with
 |false=>rw[hok]at HV;simpa using aD0 h.aA h.aB h.free h.step h.aE h.aF h.aD h.aG p n a q m c2 w HV
 |true=>
  rw[hok]at HV;obtain⟨g0,g1,g2,g3,g4,g5,g6,g7,g8,g9,c,d,f,g,b⟩:=rH hok;rw[if_pos rfl];have l3:=eM h.aD (by omega);have l4:=eM h.aG (by omega);have l2:=pX h.free h.step h.aE h.aF (by omega) (by omega) (by omega) (by omega)
  exact aFh h.aA h.aB h.free h.step h.aE h.aF h.aD h.aG p n a q m c2 w h.vs _ _ _ _ rI (by omega) (by omega) (by omega) (by omega) hi.vs b HV
   (fun w' hx=>wN h.aA h.aB p n a h.cells w' (hi.cells.ext hx)) (fun w'=>aB3 h.free h.step h.aE h.aF w' (by omega) (by omega) (by omega) (by omega) (by omega) (by omega) (by omega) (by omega))
   (fun w'=>lZ h.aD w' (by omega) (by omega)) (fun w'=>lZ h.aG w' (by omega) (by omega))
theorem aJy (c:UInt8)(x:List UInt8)(r:List (List UInt8)):nF c (x::r)=c::(x++nF c r):=by simp[nF]
theorem uK (c:UInt8): ∀ps:List (List UInt8),ps≠ []→(∀p∈ps,c∉p)→aL c (fA c ps)=ps:=by
 intro ps;induction ps with
 |nil=>intro h;exact absurd rfl h
 |cons x r ih=>
  intro _ h;cases r with
  |nil=>simp only[fA,nF,List.flatMap_nil,aWr];exact lG c x (h x (by simp))
  |cons y r=>
   have e:fA c (x::y::r)=x++c::fA c (y::r):=by simp[fA,aJy]
   rw[e,iR c x _ (h x (by simp)),ih (by simp) (fun p hp=>h p (by simp[hp]))]
theorem aBy (c d:UInt8)(a:d≠c): ∀ps:List (List UInt8),(∀p∈ps,d∉p)→d∉fA c ps:=by
 intro ps h;cases ps with
 |nil=>simp[fA]
 |cons x r=>simp only[fA,nF,aWh,List.mem_flatMap,aWd,not_or,not_exists,not_and];exact⟨h x (by simp),fun y hy=>⟨a,h y (by simp[hy])⟩⟩
def nG (aA aB:Nat)(xs:List Int):List (List Int):=(List.range aB).map (fun r=>(xs.drop (r*aA)).take aA)
def aAn (row:List Int):List UInt8:=fA 44 (row.map eI)
theorem zX {n:Nat}(h:xs.length=n):xs=(List.range n).map (fun i=>xs[i]?.getD 0):=by
 subst h;apply List.ext_getElem
 ·simp
 intro i h1 h2;simp only[List.getElem_map,List.getElem_range];rw[aW0 h1];rfl
theorem aO4 {aA aB:Nat}(h0:2≤aA)(h1:aA≤4)(h2:2≤aB)(h3:aB≤3)(hn:xs.length=aA*aB):
  aS aA xs xs.length=fA 47 ((nG aA aB xs).map aAn):=by
 obtain rfl|rfl|rfl:aA=2∨aA=3∨aA=4:=by omega
 all_goals
  obtain rfl|rfl:aB=2∨aB=3:=by omega
  all_goals
   simp only[Nat.reduceMul]at hn;rw[zX hn];generalize (fun i:Nat=>xs[i]?.getD 0)=f;simp[aXj,aS,dI,nG,aAn,fA,nF,List.range_zero]
theorem aO5 {aA aB:Nat}{xs:List Int}(h0:2≤aA)(h1:aA≤4)(h2:2≤aB)(h3:aB≤3)(hn:xs.length=aA*aB):
  (nG aA aB xs).flatten=xs∧(nG aA aB xs).length=aB∧(∀row∈nG aA aB xs,row.length=aA):=by
 refine⟨?_,by simp[nG],?_⟩
 ·obtain rfl|rfl|rfl:aA=2∨aA=3∨aA=4:=by omega
  all_goals
   obtain rfl|rfl:aB=2∨aB=3:=by omega
   all_goals
    simp only[Nat.reduceMul]at hn;rw[zX hn];generalize (fun i:Nat=>xs[i]?.getD 0)=f;simp[aXj,nG,List.range_zero]
 intro row hr;simp only[nG,List.mem_map,aWm]at hr;obtain⟨r,hr,rfl⟩:=hr;simp only[aWn,aWt,hn];have:(r+1)*aA≤aB*aA:=aXm _ hr;rw[Nat.add_mul,Nat.one_mul,Nat.mul_comm aB]at this;omega
def rX (c:List UInt8):Option Int:=if c= [46]then some 0 else bK 2 c
def iN (c:List UInt8):Int:=if c= [46]then 0 else(bK 4 c).getD (-1)
def kF (l:List UInt8):List (List (List UInt8)):=(aL 47 l).map (aL 44)
def mB (ps:List (List (List UInt8))):Int:=((ps.getLast?.map List.length).getD 0:Nat)
abbrev aF4:=Int×Int×List Int
def dW (l:List UInt8):aF4:=(mB (kF l),((aL 47 l).length:Int),(kF l).flatten.map iN)
def nL (row:List (List UInt8)):Bool:=decide (row.length≤4)&&row.all (fun c=>(rX c).isSome)
def tB (l:List UInt8):Bool:=decide ((aL 47 l).length≤3)&&(kF l).all nL
def dE (l:List UInt8):Option aF4:=if aO (dW l).1 (dW l).2.1 (dW l).2.2=true∧cE (dW l).1 (dW l).2.1 (dW l).2.2=l then some (dW l)else none
theorem aR6 {c:List UInt8}(h:bK 2 c=some x):bK 4 c=some x:=by
 unfold bK at h⊢;split at h
 ·rename_i hc;rw[if_pos ⟨hc.1,by omega,hc.2.2⟩];exact h
 simp at h
theorem aN6 {c:List UInt8}(h:rX c=some x):iN c=x:=by
 unfold rX at h;unfold iN;split
 ·rename_i e;rw[if_pos e]at h;exact(Option.some.inj h)
 rename_i e;rw[if_neg e]at h;rw[aR6 h];rfl
theorem aF2 (h0:0≤x)(h1:x≤99):rX (eI x)=some x:=by
 unfold rX eI;by_cases hx:x=0
 ·subst hx;simp
 rw[if_neg hx,if_neg]
 ·rw[kA 2 x.toNat (by omega) (by omega) (by omega)];simp;omega
 intro e;exact fJ x.toNat 46 (by decide) (by rw[e];simp)
theorem pE {x:Int}{c:UInt8}(hc:dR c=false)(a:c≠46):c∉eI x:=by
 unfold eI;split
 ·simpa using a
 exact fJ _ _ hc
theorem aEr {aA aB:Int}(d:aO aA aB xs=true):tB (cE aA aB xs)=true∧dW (cE aA aB xs)=(aA,aB,xs):=by
 have hs:iU aA aB xs.length=true∧eN [] xs=true:=by simpa[aO]using d
 obtain⟨a0,a1,a2,a3,a4,a5,a6⟩:=cQ hs.1;have hc:=((fW xs []).1 hs.2).1;obtain⟨wd,rfl⟩: ∃k:Nat,aA=k:=⟨aA.toNat,by omega⟩
 obtain⟨dp,rfl⟩: ∃k:Nat,aB=k:=⟨aB.toNat,by omega⟩
 have hn:xs.length=wd*dp:=by exact_mod_cast a6
 have r1:=aO4 (aA:=wd) (aB:=dp) (xs:=xs) (by omega) (by omega) (by omega) (by omega) hn;obtain⟨r2,r3,r4⟩:=aO5 (aA:=wd) (aB:=dp) (xs:=xs) (by omega) (by omega) (by omega) (by omega) hn;have ht:cE wd dp xs=fA 47 ((nG wd dp xs).map aAn):=by rw[cE,if_pos d,r1]
 have c:nG wd dp xs≠ []:=by intro e;rw[e]at r3;simp at r3;omega
 have b: ∀row∈nG wd dp xs,∀x∈row,0≤x∧x≤99:=fun row hr x hx=>hc x (by rw[←r2];exact List.mem_flatten.2 ⟨row,hr,hx⟩)
 have a:aL 47 (cE wd dp xs)=(nG wd dp xs).map aAn:=by rw[ht];refine uK 47 _ (by simpa using c) ?_;intro p hp;simp only[List.mem_map]at hp;obtain⟨row,hr,rfl⟩:=hp;refine aBy 44 47 (by decide) _ ?_;intro q hq;simp only[List.mem_map]at hq;obtain⟨x,hx,rfl⟩:=hq;exact pE (by decide) (by decide)
 have hw:kF (cE wd dp xs)=(nG wd dp xs).map (fun row=>row.map eI):=by
  rw[kF,a,List.map_map];refine List.map_congr_left ?_;intro row hr;refine uK 44 _ ?_ ?_
  ·intro e;have:=r4 row hr;rw[List.map_eq_nil_iff.1 e]at this;simp at this;omega
  intro q hq;simp only[List.mem_map]at hq;obtain⟨x,hx,rfl⟩:=hq;exact pE (by decide) (by decide)
 constructor
 ·unfold tB;rw[a,hw];simp only[aWj,r3,aWc,decide_eq_true_eq,aWo,List.mem_map];refine⟨by omega,?_⟩;rintro _ ⟨row,hr,rfl⟩;unfold nL;simp only[aWj,r4 row hr,aWc,decide_eq_true_eq,aWo,List.mem_map];refine⟨by omega,?_⟩;rintro _ ⟨x,hx,rfl⟩;rw[aF2 (b row hr x hx).1 (b row hr x hx).2];rfl
 unfold dW;rw[a,hw];have e1:mB ((nG wd dp xs).map (fun row=>row.map eI))=wd:=by
  unfold mB;rw[List.getLast?_map];cases hl:(nG wd dp xs).getLast? with
  |none=>exact absurd (List.getLast?_eq_none_iff.1 hl) c
  |some row=>simp[r4 row (List.mem_of_getLast? hl)]
 have e2:((nG wd dp xs).map (fun row=>row.map eI)).flatten.map iN=xs:=by rw[←List.map_flatten,r2,List.map_map];refine(List.map_congr_left (g:=id) ?_).trans (List.map_id _);intro x hx;exact aN6 (aF2 (hc x hx).1 (hc x hx).2)
 rw[e1,e2];simp[r3]
theorem vC {aA aB:Int}(a:aO aA aB xs=true):dE (cE aA aB xs)=some (aA,aB,xs):=by unfold dE;rw[(aEr a).2];simp[a]
theorem vD {l:List UInt8}(h:tB l=false):dE l=none:=by unfold dE;rw[if_neg];rintro⟨a,b⟩;rw[←b,(aEr a).1]at h;simp at h
def bR (many:Nat)(l:List UInt8):Option (List Int):=
 if(aL 44 l).length=many∧(aL 44 l).all (fun c=>(bK 5 c).isSome)=true then some ((aL 44 l).map (fun c=>(bK 5 c).getD 0))else none
def fP (l:List UInt8):Int:=(bK 5 l).getD (-1)
theorem aRe (a:xs≠ []):aL 44 (bG xs)=xs.map dec:=by refine uK 44 _ (by simpa using a) ?_;intro p hp;simp only[List.mem_map]at hp;obtain⟨x,_,rfl⟩:=hp;exact fJ _ _ (by decide)
theorem aBf (h0:0≤x)(h1:x≤99999):bK 5 (dec x)=some x:=by rw[kA 5 x.toNat (by omega) (by omega) (by omega)];simp;omega
theorem yW {xs:List Int}{many:Nat}(a:xs≠ [])(hl:xs.length=many)(h: ∀x∈xs,0≤x∧x≤99999):bR many (bG xs)=some xs:=by
 unfold bR;rw[aRe a,if_pos]
 ·rw[List.map_map];congr 1;refine(List.map_congr_left (g:=id) ?_).trans (List.map_id _);intro x hx;show(bK 5 (dec x)).getD 0=x;rw[aBf (h x hx).1 (h x hx).2];rfl
 refine⟨by simpa using hl,?_⟩;simp only[aWo,List.mem_map];rintro _ ⟨x,hx,rfl⟩;rw[aBf (h x hx).1 (h x hx).2];rfl
def at4 (l:List Int)(k:Nat):Int:=l[k]?.getD 0
def tQ (l:List Int):aV:=(at4 l 0,at4 l 1,at4 l 2,at4 l 3)
def mA (l:List UInt8):List Int:=(aL 44 l).map fP
def gK (ps:List (List UInt8))(k:Nat):List UInt8:=ps[k]?.getD []
def fM (ps:List (List UInt8)):Bool:=decide (4≤ps.length)&&(dE (gK ps 0)).isSome&&decide ((aL 44 (gK ps 1)).length=4)&&(ps.drop 4).all (fun p=>decide ((aL 44 p).length=4))
def eF (ps:List (List UInt8)):Bool:=decide (4≤ps.length)&&(dE (gK ps 0)).isSome&&(bR 4 (gK ps 1)).isSome&&(bR 1 (gK ps 2)).isSome&&(bR 1 (gK ps 3)).isSome&&(ps.drop 4).all (fun p=>(bR 4 p).isSome)
def dG (ps:List (List UInt8)):aQ:=
 let s:=(dE (gK ps 0)).getD (0,0,[])
 let t:=mA (gK ps 1)
 ⟨s.1,s.2.1,s.2.2,at4 t 0,at4 t 1,at4 t 2,at4 t 3,fP (gK ps 2),fP (gK ps 3),(ps.drop 4).map (fun p=>tQ (mA p))⟩
def bH (l:List UInt8):Option aQ:=
 if eF (aL 59 l)=true∧bC (dG (aL 59 l))=true∧bI (dG (aL 59 l))=l then some (dG (aL 59 l))else none
theorem nV {m:Nat}{p:List UInt8}(h:bR m p=some xs):mA p=xs∧(aL 44 p).length=m:=by
 unfold bR at h;split at h
 ·rename_i hc;cases h
  refine⟨?_,hc.1⟩;refine List.map_congr_left ?_;intro c a;have:=aWo.1 hc.2 c a;show(bK 5 c).getD (-1)=(bK 5 c).getD 0;cases hr:bK 5 c with
  |none=>rw[hr]at this;simp at this
  |some x=>rfl
 simp at h
theorem xA (c:UInt8)(hc:dR c=false)(a:c≠44)(xs:List Int):c∉bG xs:=by refine aBy 44 c a _ ?_;intro p hp;simp only[List.mem_map]at hp;obtain⟨x,_,rfl⟩:=hp;exact fJ _ _ hc
theorem aM0 {aA aB:Int}{xs:List Int}:(59:UInt8)∉cE aA aB xs:=by
 unfold cE;split
 ·suffices h: ∀k,(59:UInt8)∉aS aA xs k from h _
  intro k;induction k with
  |zero=>simp[aS]
  |succ k ih=>
   simp only[aS,aWh,not_or];refine⟨⟨ih,?_⟩,pE (by decide) (by decide)⟩;unfold dI;split
   ·simp
   split<;>simp
 simp
theorem aPc {h:aQ}(a:bC h=true):aL 59 (bI h)=eZ h:=by
 rw[bI,if_pos a];refine uK 59 _ (by simp[eZ]) ?_;intro p hp;simp only[eZ,aWd,List.mem_map]at hp;rcases hp with rfl|rfl|rfl|rfl|⟨v,_,rfl⟩
 ·exact aM0
 ·exact xA 59 (by decide) (by decide) _
 ·exact fJ _ _ (by decide)
 ·exact fJ _ _ (by decide)
 exact xA 59 (by decide) (by decide) _
theorem aC7 {h:aQ}(d:bC h=true):eF (aL 59 (bI h))=true∧dG (aL 59 (bI h))=h:=by
 obtain⟨hh,f0,f1,s0,s1,p0,p1,c0,c1,k0,k1,b0,b1,vl,hv⟩:=rH d;rw[aPc d];have n4:bR 4 (bG [h.free,h.step,h.aE,h.aF])=some [h.free,h.step,h.aE,h.aF]:=yW (by simp) rfl (by intro x hx;simp at hx;omega);have f: ∀x:Int,0≤x→x≤99999→bR 1 (dec x)=some [x]:=by intro x a b;have:=yW (xs:= [x]) (many:=1) (by simp) rfl (by intro y hy;simp at hy;omega);simpa[bG,fA,nF]using this
 have nv: ∀v∈h.vs,bR 4 (bG (bU v))=some (bU v):=by intro v c;have:=hv v c;exact yW (by simp[bU]) rfl (by intro x hx;simp[bU]at hx;omega)
 have p0:gK (eZ h) 0=cE h.aA h.aB h.cells:=rfl;have p1:gK (eZ h) 1=bG [h.free,h.step,h.aE,h.aF]:=rfl;have p2:gK (eZ h) 2=dec h.aD:=rfl;have p3:gK (eZ h) 3=dec h.aG:=rfl;have p4:(eZ h).drop 4=h.vs.map (fun v=>bG (bU v)):=rfl;have w: ∀x:Int,0≤x→x≤99999→fP (dec x)=x:=by intro x a b;unfold fP;rw[aBf a b];rfl
 constructor
 ·unfold eF;rw[p0,p1,p2,p3,p4,vC hh,n4,f _ k0 (by omega),f _ b0 b1];have hp:4≤(eZ h).length:=by simp[eZ]
  simp only[hp,decide_true,Option.isSome_some,Bool.and_true,Bool.true_and,aWo,List.mem_map];rintro _ ⟨v,c,rfl⟩;rw[nv v c];rfl
 unfold dG;rw[p0,p1,p2,p3,p4,vC hh,(nV n4).1,w _ k0 (by omega),w _ b0 b1];have e:(h.vs.map (fun v=>bG (bU v))).map (fun p=>tQ (mA p))=h.vs:=by rw[List.map_map];refine(List.map_congr_left (g:=id) ?_).trans (List.map_id _);intro v c;show tQ (mA (bG (bU v)))=v;rw[(nV (nv v c)).1];rfl
 rw[e];rfl
theorem sL {h:aQ}(c:bC h=true):bH (bI h)=some h:=by obtain⟨a,b⟩:=aC7 c;unfold bH;rw[b];exact if_pos ⟨a,c,rfl⟩
theorem sM {l:List UInt8}{h:aQ}(e:bH l=some h):bC h=true∧bI h=l:=by
 unfold bH at e;split at e
 ·rename_i hc;cases e;exact hc.2
 simp at e
theorem aVd {ps:List (List UInt8)}(h:eF ps=true):fM ps=true:=by
 simp only[eF,aWc,decide_eq_true_eq,aWo]at h;obtain⟨⟨⟨⟨⟨h0,h1⟩,h2⟩,h3⟩,h4⟩,h5⟩:=h;simp only[fM,aWc,decide_eq_true_eq,aWo];have q: ∀p,(bR 4 p).isSome=true→(aL 44 p).length=4:=by intro p hp;obtain⟨x,hx⟩:=Option.isSome_iff_exists.1 hp;exact(nV hx).2
 exact⟨⟨⟨h0,h1⟩,q _ h2⟩,fun p hp=>q p (h5 p hp)⟩
theorem zW:bH l=if fM (aL 59 l)=true∧bC (dG (aL 59 l))=true∧bI (dG (aL 59 l))=l then some (dG (aL 59 l))else none:=by
 unfold bH;by_cases hi:eF (aL 59 l)=true
 ·simp only[hi,aVd hi,true_and]
 rw[if_neg (fun hc=>hi hc.1),if_neg];rintro⟨_,b,c⟩;have:=(aC7 b).1;rw[c]at this;exact hi this
theorem aOg:(madeCells (Value.string ⟨#[]⟩).cells (n*1)).toList=List.replicate n (Value.string ⟨#[]⟩):=by apply List.ext_getElem<;>simp[madeCells,Value.cells,Nat.mod_one]
theorem wK (hl:(xs.take k).length=k):(qN ((xs.take k).map dec)).length=k:=by simp only[qN,aWj];exact hl
theorem aNi {n:Nat}(h:k<n)(hx:xs[k]? =some x)(hl:(xs.take k).length=k):(qN ((xs.take k).map dec)++List.replicate (n-k) (Value.string ⟨#[]⟩)).set k (str (dec x))=qN ((xs.take (k+1)).map dec)++List.replicate (n-(k+1)) (Value.string ⟨#[]⟩):=by rw[aX hx,show n-k=(n-(k+1))+1 by omega,aXx];rw[aY8 _ _ (by rw[wK hl];exact aVz _),wK hl,aXp,aWe];simp[qN]
theorem aPx {n:Nat}(h:k<n)(hl:(xs.take k).length=k):(qN ((xs.take k).map dec)++List.replicate (n-k) (Value.string ⟨#[]⟩))[k]? =some (Value.string ⟨#[]⟩):=by rw[aWx (by rw[wK hl];exact aVz _),wK hl,aXp,show n-k=(n-(k+1))+1 by omega,aXx];rfl
theorem pA (l:Nat)(xs:List Int)(w:World)(ad:0<n)(hn:n≤10)(hx: ∀x∈xs,0≤x∧x≤9223372036854775807)(hE:Env w)(hS:Sl w p n l 1 (ivs xs)):
  U 78 #[.slice p n l] w (Z (str (bG xs)) w):=by
 obtain⟨i0,hi,o,s,t⟩:=info_parts (show(prog.info? 9).map (fun i=>(i.zero,i.size,i.bytes))=some (some (.string ⟨#[]⟩),1,16) by kernel_rfl);have hl:=xQ hS.ilen;have HS:=xQ hS;have HX:=xQ hx;have HE:=xQ hE;have HL:Hid ((bG xs).length≤140737488355328):=by
  show _≤_
  have h1:=aHe 44 21 ((xs.map dec).drop 1) (fun y hy=>by
   obtain⟨z,hz,rfl⟩:=List.mem_map.1 (List.mem_of_mem_drop hy)
   exact eM z (hx z hz).2)
  have h2:xs.length=n:=hS.ilen;unfold bG;cases hq:xs.map dec with
  |nil=>simp[fA]
  |cons a r=>
   have ha:a.length≤21:=by
    have:a∈xs.map dec:=by rw[hq];simp
    obtain⟨z,hz,rfl⟩:=List.mem_map.1 this;exact eM z (hx z hz).2
   have hr:r.length+1=n:=by have:=congrArg List.length hq;simp at this;omega
   rw[hq]at h1;simp only[aYj,List.drop_zero]at h1;simp only[fA,aW5];omega
 clear hS hx hE;go_enter func78,ntmps78;go_wp2_with (at_make;refine wpList_make_full _ rfl _ _ 85 rfl w 9 i0 (.string ⟨#[]⟩) 1 underlying85 hi o s .i64 .i64 _ _ n rfl rfl rfl rfl (by rw[t];omega) (by unfold maxLen;omega) (aVz _) ?_;intro w0 d f);have aa:Ext w w0:=(Ext.refl w).grown f (fun q hq=>by cases hq);have ah:=(d.lt w rfl).2;rw[aOg]at d;have u:=xQ d;clear d f hi o s t;go_loopw [11] (fun i wr=> ∃k:Nat,k≤n∧i=I k∧wr.ownsRow w 9 1 (.slice (some ⟨w,0,none⟩) n n) n (qN ((xs.take k).map dec)++List.replicate (n-k) (Value.string ⟨#[]⟩))∧Ext w wr) (fun i _=>n-(intOf i).toNat)
 case atStart=>exact⟨0,aW6 _,rfl,by simpa[qN]using u.out,aa⟩
 case round=>
  obtain⟨k,hk,rfl,j,g⟩:=hrel;have HO:=xQ j;clear j;by_cases hlt:k<n
  ·obtain⟨b,aj,x,rfl,hx,hb,ab⟩:=(HS.out.ext g).int_at hlt;obtain⟨ae,af⟩:=HX x (aW1 hx);have v:=xQ hx;clear hx;have h:(xs.take k).length=k:=by rw[aWn,hl.out];omega
   go_wp2_with fail;refine Ω (vG x _ ae af (HE.out.ext (by exact g))) fun w1 h1=>?_
   have c:=HO.out.kept h1.gb (by simp[Value.ownBlock]);have ai:(w:Nat)<w1:=(c.lt w rfl).2;have o0:w1.cell? ⟨w,k,none⟩=some (.string ⟨#[]⟩):=by rw[c.cellAt k (by omega)];exact aPx hlt h
   have f0:w1.frozen? ⟨w,k,none⟩=false:=c.frozenAt k;have HN:Hid ((w1.setCell ⟨w,k,none⟩ (str (dec x))).ownsRow w 9 1 (.slice (some ⟨w,0,none⟩) n n) n (qN ((xs.take (k+1)).map dec)++List.replicate (n-(k+1)) (Value.string ⟨#[]⟩))):=by have:=(c.stored k (str (dec x))).1;rw[aNi hlt v h]at this;exact this
   have ag:=g.sz;clear c;go_wp2;go_roundw
   case rel=>exact⟨k+1,by omega,by go_num,HN.out,xE⟩
   case measure=>simp[intOf];omega
  have m:Hid (wr.ownsRow w 9 1 (.slice (some ⟨w,0,none⟩) n n) n (qN (xs.map dec))):=by have:=HO.out;rw[show n-k=0 by omega,List.replicate_zero,aWr,aW4 (by rw[hl.out];omega)]at this;exact this
  go_wp2_with fail;refine Ω (aIj (xs.map dec) 44 _ n n _ (by rw[aWj];exact hl.out) ad (Sl.own m.out) HL (by omega)) fun w1 h1=>?_
  go_wp2;go_ret;exact⟨rfl,by exact .trans g h1⟩
theorem aVr:ElT prog 85 9 1:=
 ⟨underlying85,by
  obtain⟨i,hi,h0,h1,h2⟩:=info_parts (show(prog.info? 9).map (fun i=>(i.zero,i.size,i.bytes))=some (some (.string ⟨#[]⟩),1,16) by kernel_rfl)
  exact⟨i,_,hi,h0,h1,by omega,rfl⟩,Nat.one_pos⟩
theorem aDv (xs:List (List UInt8)):xs.flatMap (fun s=> [str s])=qN xs:=by induction xs with|nil=>rfl|cons x xs ih=>simp_all [qN]
theorem wG {w:World}{i:Array Oper}{rest:List Oper}{o:Oper}{a:Act}{Q:Exit→Act→World→Prop}(k:o.guard=none)(s x:Operand)(ho:o.op= .call {callee:= .builtin .append,args:=#[s,x],argTypes:=#[85,85]})(base:Nat)(v:Value)(n:Nat)(xs:List (List UInt8))(hs:a.eval s=v)(g:w.ownsRow base 9 1 v n (qN xs))(b e:Nat)(y:List UInt8)(c:Nat)(hx:a.eval x= .slice (some ⟨b,e,none⟩) 1 c)(hc:w.cell? ⟨b,e,none⟩=some (str y))(hn:n≤1099511627776)(d:base≤w.heap.size)(h: ∀p' cap' w',w'.ownsRow base 9 1 (.slice p' (n+1) cap') (n+1) (qN (xs++ [y]))→w.grownBy w' v.ownBlock→wpList prog i Q rest (a.put o.dst (.slice p' (n+1) cap')) w'):wpList prog i Q (o::rest) a w:=by
 refine jV aVr (f:=fun x=> [str x]) (fun _=>rfl) (fun _ u hu=>by simp at hu;subst hu;rfl) k s x ho base v n xs hs (by rw[aDv];exact g) b e y c hx (fun j u hu=> ?_) hn d (fun p' cap' w' h2 h3=>h p' cap' w' (by rw[aDv]at h2;exact h2) h3)
 match j,hu with
 |0,hu=>simp at hu;subst hu;exact hc
theorem Blk.sl {w:World}{n:Nat}{cs:Array Value}(h:Blk w g t cs)(hn:cs.size=n)(hm:n≤maxLen):Sl w (some ⟨g,0,none⟩) n n 1 cs.toList:=
 ⟨by simpa using hn,aVz _,hm,fun _=>⟨g,0,rfl,h.lt,fun k hk=>by rw[aWz,h.cell k];simp⟩⟩
theorem Blk.own {w:World}{n base:Nat}{cs:Array Value}(h:Blk w g t cs)(hn:cs.size=n)(hm:n≤maxLen)(hb:base≤g):w.ownsRow base t 1 (.slice (some ⟨g,0,none⟩) n n) n cs.toList:=
 ⟨by simpa using hn,.inr ⟨g,n,cs,rfl,hb,h,aVz _,hm,by omega,by rw[Nat.mul_one,aW4 (by simp;omega)]⟩⟩
theorem aGk (c aE aF aD aG:Int)(p:OA)(n f:Nat)(q:OA)(m c2:Nat)(w:World)(vs:List aV)(p1 p2 p3 p4:List UInt8)(br:m≤12)(hl:Hid (vs.length=m))(HS:Hid (Sl w q m c2 4 (vs.flatMap aC)))(HL:Hid ((fA 59 ([p1,p2,p3,p4]++vs.map (fun v=>bG (bU v)))).length≤140737488355328))(HN:Hid (∀v∈vs,∀w' g,Ext w w'→Sl w' (some g) 4 4 1 (ivs (bU v))→U 78 #[.slice (some g) 4 4] w' (Z (str (bG (bU v))) w')))(HV:xB 12 #[.agg #[aA,aB,.slice p n f,a,c,aE,aF,aD,aG,.slice q m c2]] w true)(H1:xC 28 #[aH aA aB p n f] w fun w' e w''=>e= .returned (str p1)∧Ext w' w'')(H2:Hid (∀w' g,Ext w w'→Sl w' (some g) 4 4 1 (ivs [a,c,aE,aF])→U 78 #[.slice (some g) 4 4] w' (Z (str p2) w')))(H3:Hid (∀w' g,Ext w w'→Sl w' (some g) 1 1 1 (ivs [aD])→U 78 #[.slice (some g) 1 1] w' (Z (str p3) w')))(H4:Hid (∀w' g,Ext w w'→Sl w' (some g) 1 1 1 (ivs [aG])→U 78 #[.slice (some g) 1 1] w' (Z (str p4) w'))):
  U 43 #[.agg #[aA,aB,.slice p n f,a,c,aE,aF,aD,aG,.slice q m c2]] w (Z (str (fA 59 ([p1,p2,p3,p4]++vs.map (fun v=>bG (bU v))))) w):=by
 go_enter func43,ntmps43;go_wp2_with fail;refine Ω (HV _ (by exact .alloc (.refl _) _)) fun w0 aj=>?_
 have B0:=xQ ((Blk.new w 32 #[aA,aB,.slice p n f,a,c,aE,aF,aD,aG,.slice q m c2]).ext aj);have X0:Hid (Ext w w0):=by show Ext w w0;exact .trans (.alloc (.refl _) _) aj
 have h:=X0.out;have bw:(w:Nat)<w0:=B0.out.lt;clear aj;go_wp2;refine rL (gl [gEq (.pointer (some ⟨w,0,none⟩)),gEq (aH aA aB p n f),gEq (str p1),gEq (.pointer (some ⟨w,3,none⟩)),gEq (.pointer (some ⟨w,3,none⟩)),gEq a,gEq (.pointer (some ⟨w,3,none⟩)),gEq (.pointer (some ⟨w,4,none⟩)),gEq c,gEq (.pointer (some ⟨w,3,none⟩)),gEq (.pointer (some ⟨w,5,none⟩)),gEq aE,gEq (.pointer (some ⟨w,3,none⟩)),gEq (.pointer (some ⟨w,6,none⟩)),gEq aF,aDn w TI #[a,c,aE,aF] 4,gEq (str p2),gEq (.pointer (some ⟨w,7,none⟩)),gEq aD,aDn w TI #[aD] 1,gEq (str p3),gEq (.pointer (some ⟨w,8,none⟩)),gEq aG,aDn w TI #[aG] 1,gEq (str p4),aDn (w.heap.size+1) 9 #[str p1,str p2,str p3,str p4] 4]) 26 27 [(0,some 9),(1,some 10),(2,some 11),(3,some 12),(4,some 13),(5,some 14),(6,some 15),(7,some 16),(8,some 17),(9,some 18),(10,some 19),(11,some 20),(12,some 21),(13,some 22),(14,some 23),(15,some 24),(16,some 25),(17,some 26),(18,some 27),(19,some 28),(20,some 29),(21,some 30),(22,some 31),(23,some 32),(24,some 33),(25,some 34)] ?steps ?fin
 case steps=>
  refine sS0 [] ?_;refine sC [(0,some 9)] rfl (fun wi hx=> ?_) ?_
  ·intro v0 h0 K hK;obtain rfl:=h0;have B:=xQ (B0.out.ext hx.of_drew);have c0:=B.out.cl 0;have c1:=B.out.cl 1;have c2:=B.out.cl 2;go_simp;exact hK _ _ ⟨aH aA aB p n f,rfl,rfl,Ext.refl _⟩
  refine sC [(1,some 10)] rfl (fun wi hx=> ?_) ?_
  ·intro v1 h1 K hK;obtain rfl:=h1;go_wp2_with fail;refine Ω (H1 _ (by exact .trans (.drew h) hx)) fun w2 d=>?_
   go_simp;exact hK _ _ ⟨str p1,rfl,rfl,d⟩
  refine sS0 [] (sS1 [(3,some 12)] ?_);refine sC [(4,some 13)] rfl (fun wi hx=> ?_) ?_
  ·intro v4 h4 K hK;obtain rfl:=h4;have B:=xQ (B0.out.ext hx.of_drew);have c3:=B.out.cl 3;go_simp;exact hK _ _ ⟨I a,rfl,rfl,Ext.refl _⟩
  refine sS0 [] (sS1 [(6,some 15)] ?_);refine sC [(7,some 16)] rfl (fun wi hx=> ?_) ?_
  ·intro v7 h7 K hK;obtain rfl:=h7;have B:=xQ (B0.out.ext hx.of_drew);have c4:=B.out.cl 4;go_simp;exact hK _ _ ⟨I c,rfl,rfl,Ext.refl _⟩
  refine sS0 [] (sS1 [(9,some 18)] ?_);refine sC [(10,some 19)] rfl (fun wi hx=> ?_) ?_
  ·intro bd r K hK;obtain rfl:=r;have B:=xQ (B0.out.ext hx.of_drew);have c5:=B.out.cl 5;go_simp;exact hK _ _ ⟨I aE,rfl,rfl,Ext.refl _⟩
  refine sS0 [] (sS1 [(12,some 21)] ?_);refine sC [(13,some 22)] rfl (fun wi hx=> ?_) ?_
  ·intro bf t K hK;obtain rfl:=t;have B:=xQ (B0.out.ext hx.of_drew);have c6:=B.out.cl 6;go_simp;exact hK _ _ ⟨I aF,rfl,rfl,Ext.refl _⟩
  refine sC [(5,some 14),(8,some 17),(11,some 20),(14,some 23)] rfl (fun wi hx=> ?_) ?_
  ·intro v5 h5 v8 h8 be s bg u K hK;subst h5 h8;obtain rfl:=s;obtain rfl:=u;go_simp;exact hK _ _ ⟨.slice (some ⟨wi,0,none⟩) 4 4,rfl,⟨wi.heap.size,rfl,by have:=hx.sz;simp at this;omega,Blk.new _ _ _⟩,(Ext.refl _).alloc _⟩
  refine sC [(15,some 24)] rfl (fun wi hx=> ?_) ?_
  ·intro bh x K hK;obtain⟨a4,rfl,ar,ak⟩:=x;go_wp2_with fail;refine Ω (H2 _ _ (by exact .trans (.drew h) hx) (by have:=ak.sl (n:=4) rfl (by simp[maxLen]);simpa using this)) fun w2 d=>?_
   go_simp;exact hK _ _ ⟨str p2,rfl,rfl,d⟩
  refine sS0 [] ?_;refine sC [(17,some 26)] rfl (fun wi hx=> ?_) ?_
  ·intro bj z K hK;obtain rfl:=z;have B:=xQ (B0.out.ext hx.of_drew);have c7:=B.out.cl 7;go_simp;exact hK _ _ ⟨I aD,rfl,rfl,Ext.refl _⟩
  refine sC [(18,some 27)] rfl (fun wi hx=> ?_) ?_
  ·intro bk aa K hK;obtain rfl:=aa;go_simp;exact hK _ _ ⟨.slice (some ⟨wi,0,none⟩) 1 1,rfl,⟨wi.heap.size,rfl,by have:=hx.sz;simp at this;omega,Blk.new _ _ _⟩,(Ext.refl _).alloc _⟩
  refine sC [(19,some 28)] rfl (fun wi hx=> ?_) ?_
  ·intro bl ab K hK;obtain⟨a5,rfl,au,al⟩:=ab;go_wp2_with fail;refine Ω (H3 _ _ (by exact .trans (.drew h) hx) (by have:=al.sl (n:=1) rfl (by simp[maxLen]);simpa using this)) fun w2 d=>?_
   go_simp;exact hK _ _ ⟨str p3,rfl,rfl,d⟩
  refine sS0 [] ?_;refine sC [(21,some 30)] rfl (fun wi hx=> ?_) ?_
  ·intro bn ae K hK;obtain rfl:=ae;have B:=xQ (B0.out.ext hx.of_drew);have c8:=B.out.cl 8;go_simp;exact hK _ _ ⟨I aG,rfl,rfl,Ext.refl _⟩
  refine sC [(22,some 31)] rfl (fun wi hx=> ?_) ?_
  ·intro bo af K hK;obtain rfl:=af;go_simp;exact hK _ _ ⟨.slice (some ⟨wi,0,none⟩) 1 1,rfl,⟨wi.heap.size,rfl,by have:=hx.sz;simp at this;omega,Blk.new _ _ _⟩,(Ext.refl _).alloc _⟩
  refine sC [(23,some 32)] rfl (fun wi hx=> ?_) ?_
  ·intro bp ag K hK;obtain⟨a6,rfl,av,am⟩:=ag;go_wp2_with fail;refine Ω (H4 _ _ (by exact .trans (.drew h) hx) (by have:=am.sl (n:=1) rfl (by simp[maxLen]);simpa using this)) fun w2 d=>?_
   go_simp;exact hK _ _ ⟨str p4,rfl,rfl,d⟩
  refine sC [(2,some 11),(16,some 25),(20,some 29),(24,some 33)] rfl (fun wi hx=> ?_) StepsL.nil
  ·intro v2 h2 bi y bm ad bq ah K hK;obtain rfl:=h2;obtain rfl:=y;obtain rfl:=ad;obtain rfl:=ah;go_simp;exact hK _ _ ⟨.slice (some ⟨wi,0,none⟩) 4 4,rfl,⟨wi.heap.size,rfl,by have:=hx.sz;simp at this;omega,Blk.new _ _ _⟩,(Ext.refl _).alloc _⟩
 case fin=>
  intro wi hx v0 h0 v1 h1 v2 h2 v3 h3 v4 h4 v5 h5 v6 h6 v7 h7 v8 h8 v9 h9 bd r be s bz a8 bf t bg u bh x bi y bj z bk aa bl ab bm ad bn ae bo af bp ag bq ah b0 a9;subst h0 h1 h2 h3 h4 h5 h6 h7 h8 h9;obtain rfl:=r;obtain rfl:=s;obtain rfl:=a8;obtain rfl:=t;obtain rfl:=u;obtain⟨a4,rfl,ar,ak⟩:=x;obtain rfl:=y;obtain rfl:=z;obtain rfl:=aa;obtain⟨a5,rfl,au,al⟩:=ab;obtain rfl:=ad;obtain rfl:=ae;obtain rfl:=af;obtain⟨a6,rfl,av,am⟩:=ag;obtain rfl:=ah;obtain⟨a7,rfl,aw,an⟩:=a9;refine wpAny_ready (rs:= [26]) (by kernel_rfl) (by simp) ?_;refine AllReady.cons rfl (fun K hK=> ?_) AllReady.nil;go_simp;refine hK _ _ ?_;clear hK K;refine wpAny_done (by kernel_rfl) ?_ _;have B1:=xQ (B0.out.ext hx.of_drew);have X1:=xQ (X0.out.trans hx.of_drew);have O1:=xQ (an.own (n:=4) rfl (by simp[maxLen]) aw);have z1:(w:Nat)<wi:=B1.out.lt;clear an hx B0 X0 h;have b9:=B1.out.cl 9;go_wp2;clear b9;go_loopw [3,38] (fun v i wr=> ∃(k:Nat) (p':OA) (cp:Nat),k≤m∧i=I k∧v= .slice p' (4+k) cp∧wr.ownsRow (w.heap.size+1) 9 1 (.slice p' (4+k) cp) (4+k) (qN ([p1,p2,p3,p4]++(vs.take k).map (fun v=>bG (bU v))))∧Ext w wr∧w.heap.size+1≤wr.heap.size) (fun _ i _=>m-(intOf i).toNat)
  case atStart=>exact⟨0,some ⟨a7,0,none⟩,4,aW6 _,rfl,rfl,by simpa[qN]using O1.out,X1.out,by omega⟩
  case round=>
   clear O1 X1 B1 z1;obtain⟨k,p',cp,hk,rfl,rfl,o,hE,bv⟩:=hrel;have HO:=xQ o;clear o;by_cases hlt:k<m
   ·obtain⟨b,bx,a0,a1,a2,a3,rfl,hv,hb,d0,d1,d2,d3⟩:=iI (HS.out.ext hE) hlt;have ay:=xQ (HN (a0,a1,a2,a3) (aW1 hv));have HT:Hid ((vs.take (k+1)).map (fun v=>bG (bU v))=(vs.take k).map (fun v=>bG (bU v))++ [bG (bU (a0,a1,a2,a3))]):=by
     show _=_;rw[aX hv];simp
    clear hv;go_wp2_with fail
    refine(ay _ _ (hE.trans (by exact .alloc (.alloc (.refl _) _) _)) (by
     have:=(Blk.new (wr.alloc (.cells #[a0,a1,a2,a3] 62)) TI #[a0,a1,a2,a3]).sl (n:=4) rfl (by simp[maxLen])
     simpa[ivs,bU]using this)).mono ?_
    rintro e w2 ⟨rfl,d⟩;have l:Ext wr w2:=by exact .trans (.alloc (.alloc (.refl _) _) _) d
    have ao:=xQ (aM HO l);have bs:(wr:Nat)≤w2:=l.sz;have bb:=xQ (hE.trans l);clear d l HO d0 d1 d2 d3;go_wp2_with (at_builtin;refine wG rfl _ _ rfl (w.heap.size+1) _ _ _ rfl (ao.out.alloc _) _ _ (bG (bU (a0,a1,a2,a3))) _ rfl (by simp) (by omega) (by first|(simp;done)|(simp;omega)|omega) ?_;intro bc ap w3 j ai;have az:=xQ j;have ba:Ext w w3:=Ext.own (bb.out.alloc _) (ao.out.alloc _) ai (by omega);have bt:(w2:Nat)≤w3:=aW8 (by simp) ai.size;clear j ai);go_roundw
    case rel=>exact⟨k+1,bc,ap,by omega,by go_num,rfl,by rw[HT.out,←aWu];exact az.out,ba,by omega⟩
    case measure=>simp[intOf];omega
   have aq:Hid (wr.ownsRow (w.heap.size+1) 9 1 (.slice p' (4+k) cp) (4+k) (qN ([p1,p2,p3,p4]++vs.map (fun v=>bG (bU v))))):=by have:=HO.out;rw[aW4 (by rw[hl.out];omega)]at this;exact this
   have bu:k≤12:=by omega
   have ax:Hid (([p1,p2,p3,p4]++vs.map (fun v=>bG (bU v))).length=4+k):=by show _=_;simp[hl.out];omega
   clear HO;go_wp2_with fail;refine Ω (aIj ([p1,p2,p3,p4]++vs.map (fun v=>bG (bU v))) 59 _ (4+k) cp _ ax.out (by omega) (Sl.own aq.out) HL (by omega)) fun w1 h1=>?_
   go_wp2;go_ret;exact⟨rfl,by exact .trans hE h1⟩
theorem aDj (HV:xB 12 #[.agg #[aA,aB,.slice p n c,a,b,aE,aF,aD,aG,.slice q m c2]] w false):
  U 43 #[.agg #[aA,aB,.slice p n c,a,b,aE,aF,aD,aG,.slice q m c2]] w (Z (str []) w):=by
 go_enter func43,ntmps43;go_wp2_with fail;refine Ω (HV _ (by exact .alloc (.refl _) _)) fun w0 d=>?_
 go_wp2;go_ret;exact⟨rfl,by exact .trans (.alloc (.refl _) _) d⟩
theorem aIi (c:UInt8)(M:Nat)(x:List UInt8)(r:List (List UInt8))(hx:x.length≤M)(h: ∀y∈r,y.length≤M):(fA c (x::r)).length≤(M+1)*(r.length+1):=by have:=aHe c M r h;simp only[fA,aW5];rw[Nat.mul_succ];unfold nF at*;omega
theorem vH (a:Nat)(q:OA)(m c2:Nat)(w:World)(hE:Env w)(hi:IsHouse w h p n a q m c2):
  U 43 #[bV h p n a q m c2] w (Z (str (bI h)) w):=by
 have HV:=fun(w':World) (hx:Ext w w')=>lB h p n a q m c2 w' (hi.ext hx)
 have d:=hi.vlen;unfold bI;cases hok:bC h with
 |false=>rw[hok]at HV;simpa using aDj h.aA h.aB h.free h.step h.aE h.aF h.aD h.aG p n a q m c2 w HV
 |true=>
  rw[hok]at HV;obtain⟨g0,g1,g2,g3,g4,g5,g6,g7,g8,g9,f,i,j,k,b⟩:=rH hok;rw[if_pos rfl];have e:eZ h= [cE h.aA h.aB h.cells,bG [h.free,h.step,h.aE,h.aF],bG [h.aD],bG [h.aG]]++h.vs.map (fun v=>bG (bU v)):=by rw[qX,qX];rfl
  rw[e];have l1:(cE h.aA h.aB h.cells).length≤400:=rI;have l2:=pX h.free h.step h.aE h.aF (by omega) (by omega) (by omega) (by omega);have l3:=eM h.aD (by omega);have l4:=eM h.aG (by omega);rw[←qX]at l3 l4;have lv: ∀v∈h.vs,(bG (bU v)).length≤90:=fun v hv=>by have:=b v hv;exact pX _ _ _ _ (by omega) (by omega) (by omega) (by omega)
  have HL:=aIi 59 400 (cE h.aA h.aB h.cells) ([bG [h.free,h.step,h.aE,h.aF],bG [h.aD],bG [h.aG]]++h.vs.map (fun v=>bG (bU v))) l1 (fun y hy=>by
   rcases aWh.1 hy with hy|hy
   ·simp only[aWd,List.not_mem_nil,or_false]at hy;rcases hy with rfl|rfl|rfl<;>omega
   ·obtain⟨v,hv,rfl⟩:=List.mem_map.1 hy
    have:=lv v hv;omega)
  have c:(fA 59 ([cE h.aA h.aB h.cells,bG [h.free,h.step,h.aE,h.aF],bG [h.aD],bG [h.aG]]++h.vs.map (fun v=>bG (bU v)))).length≤140737488355328:=by refine aW8 HL ?_;simp only[aW5,aWj,aX0,List.length_nil];omega
  exact aGk h.aA h.aB h.free h.step h.aE h.aF h.aD h.aG p n a q m c2 w h.vs _ _ _ _ (by omega) d hi.vs c
   (fun v hv w' g hx hs=>pA (some g) 4 4 (bU v) w' (by omega) (by omega) (fun x hx'=>by
    have:=b v hv;simp only[bU,aWd,List.not_mem_nil,or_false]at hx'
    rcases hx' with rfl|rfl|rfl|rfl<;>omega) (hE.ext hx) hs)
   HV (fun w' hx=>nO h.aA h.aB p n a h.cells w' (hE.ext hx) (hi.cells.ext hx))
   (fun w' g hx hs=>pA (some g) 4 4 _ w' (by omega) (by omega) (fun x hx'=>by
    simp only[aWd,List.not_mem_nil,or_false]at hx'
    rcases hx' with rfl|rfl|rfl|rfl<;>omega) (hE.ext hx) hs)
   (fun w' g hx hs=>pA (some g) 1 1 _ w' (by omega) (by omega) (fun x hx'=>by
    simp only[aWd,List.not_mem_nil,or_false]at hx'
    subst hx';omega) (hE.ext hx) hs)
   (fun w' g hx hs=>pA (some g) 1 1 _ w' (by omega) (by omega) (fun x hx'=>by
    simp only[aWd,List.not_mem_nil,or_false]at hx'
    subst hx';omega) (hE.ext hx) hs)
end Go.Proofs.YthfmmibomhhmpabGreatDoor
