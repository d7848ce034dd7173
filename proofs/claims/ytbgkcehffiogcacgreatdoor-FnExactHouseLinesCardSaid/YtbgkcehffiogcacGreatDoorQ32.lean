/-
  Texts of this proof, packed (@packed).
-/
import Derived.Shelf.Strings.OnBuilder
import Derived.Test.YtbgkcehffiogcacGreatDoorQ31
namespace Go.Proofs.YtbgkcehffiogcacGreatDoor
open Go.RowKit
set_option linter.unusedSimpArgs false
set_option linter.unusedVariables false
set_option maxHeartbeats 8000000
set_option maxRecDepth 100000
section
open Go.Proofs.Tryz
def kU:Go.Shelf.Ren:=⟨fun|156=>132|165=>167|166=>128|169=>129|240=>165|241=>201|276=>199|277=>224|n=>n,fun|0=>0|3=>3|4=>4|5=>5|9=>9|20=>20|31=>42|37=>91|70=>143|72=>145|75=>147|76=>149|80=>151|127=>178|164=>201|n=>n,fun|n=>n⟩
theorem aBv:Go.Proofs.Lays.n156 prog kU:={
 mixed:=by kernel_rfl,
 f156:=func132.trans (congrArg some (by kernel_rfl)),
 f165:=func167.trans (congrArg some (by kernel_rfl)),
 f166:=func128.trans (congrArg some (by kernel_rfl)),
 f169:=func129.trans (congrArg some (by kernel_rfl)),
 f240:=func165.trans (congrArg some (by kernel_rfl)),
 f241:=func201.trans (congrArg some (by kernel_rfl)),
 f276:=func199.trans (congrArg some (by kernel_rfl)),
 f277:=func224.trans (congrArg some (by kernel_rfl)),
 t0:=underlying0,
 a0:=Tryz.isAgg0,
 z0:=Tryz.sizeOf0,
 v0:=Tryz.zeroValue0,
 t3:=underlying3,
 a3:=Tryz.isAgg3,
 z3:=Tryz.sizeOf3,
 v3:=Tryz.zeroValue3,
 t4:=underlying4,
 a4:=Tryz.isAgg4,
 z4:=Tryz.sizeOf4,
 v4:=Tryz.zeroValue4,
 t9:=underlying9,
 a9:=Tryz.isAgg9,
 z9:=Tryz.sizeOf9,
 v9:=Tryz.zeroValue9,
 t20:=underlying20,
 a20:=Tryz.isAgg20,
 z20:=Tryz.sizeOf20,
 v20:=Tryz.zeroValue20,
 t31:=underlying42,
 a31:=Tryz.isAgg42,
 z31:=Tryz.sizeOf42,
 v31:=Tryz.zeroValue42,
 t37:=underlying91,
 a37:=Tryz.isAgg91,
 z37:=Tryz.sizeOf91,
 v37:=Tryz.zeroValue91,
 t70:=underlying143,
 a70:=Tryz.isAgg143,
 z70:=Tryz.sizeOf143,
 v70:=Tryz.zeroValue143,
 t72:=underlying145,
 a72:=Tryz.isAgg145,
 z72:=Tryz.sizeOf145,
 v72:=Tryz.zeroValue145,
 t75:=underlying147,
 a75:=Tryz.isAgg147,
 z75:=Tryz.sizeOf147,
 v75:=Tryz.zeroValue147,
 t76:=underlying149,
 a76:=Tryz.isAgg149,
 z76:=Tryz.sizeOf149,
 v76:=Tryz.zeroValue149,
 t127:=underlying178,
 a127:=Tryz.isAgg178,
 z127:=Tryz.sizeOf178,
 v127:=Tryz.zeroValue178,
 t164:=underlying201,
 a164:=Tryz.isAgg201,
 z164:=Tryz.sizeOf201,
 v164:=Tryz.zeroValue201}
theorem aO6:Go.Proofs.Builder.Extra prog kU:={
 sizeBuilder:=by kernel_rfl
 liesBuilder:=by kernel_rfl
 t5:=underlying5
 a5:=Tryz.isAgg5
 z5:=Tryz.sizeOf5
 v5:=Tryz.zeroValue5
 infoByte:=by kernel_rfl
 cellsByte:=by kernel_rfl
 sizeByte:=by kernel_rfl
 neB5:=by decide}
def rS (c:UInt8)(r:List (List UInt8)):List UInt8:=r.flatMap (fun y=>c::y)
def iA (c:UInt8):List (List UInt8)→List UInt8
 | []=> []
 |x::r=>x++rS c r
theorem aAb (c:UInt8)(xs:List (List UInt8)):Lib.join xs [c]=iA c xs:=by
 cases xs with
 |nil=>rfl
 |cons x r=>rw[Lib.join_cons];show x++(r.map ([c]++ ·)).flatten=x++r.flatMap (fun y=>c::y);rw[List.flatMap_def];rfl
def bX (ps:List (List UInt8)):List Value:=ps.map str
theorem aE8 (ps:List (List UInt8))(c:UInt8)(p:OA)(n cap:Nat)(w:World)(hn:ps.length=n)(h0:0<n)(hS:Sl w p n cap 1 (bX ps))(hl:(iA c ps).length≤140737488355328)(d:n≤1099511627776):
  U 132 #[.slice p n cap,.string ⟨#[c]⟩] w (O (str (iA c ps)) w):=by
 obtain⟨b,a,rfl,hb,hc⟩:=hS.rd h0;subst hn;have hm:(ps.map (fun l=>(⟨l.toArray⟩:ByteArray))).map (·.data.toList)=ps:=by rw[List.map_map];exact(List.map_congr_left (fun x _=>by simp)).trans (List.map_id ps)
 have h:=Any.strings_Join aBv aO6 b a cap (ps.map (fun l=>(⟨l.toArray⟩:ByteArray))) ⟨#[c]⟩ w
  (fun j x hx=>by
   rw[aS9]at hx;obtain⟨y,hy,rfl⟩:=Option.map_eq_some_iff.1 hx;have hj:j<ps.length:=(aRt.1 hy).1;rw[hc j (by omega)]
   simp[bX,hy])
  hb (by rw[aSg];omega) (by rw[aSg];exact hS.le) (by rw[hm];simpa[aAb]using hl)
 rw[hm,aSg]at h;refine h.mono ?_;rintro e w' ⟨rfl,hx⟩;exact⟨by rw[show(⟨#[c]⟩:ByteArray).data.toList= [c]from rfl,aAb],hx⟩
end
abbrev dec (x:Int):List UInt8:=Lib.decDigits x.toNat
def bK (xs:List Int):List UInt8:=iA 44 (xs.map dec)
def cH (v:aP):List Int:= [v.1,v.2.1,v.2.2.1,v.2.2.2]
def xY (h:aL):List (List UInt8):=fH h.aA h.aB h.cells::bK [h.free,h.step,h.aD,h.aF]::dec h.aC::dec h.aG::h.vs.map (fun v=>bK (cH v))
def nJ (h:aL):List UInt8:=if aR h then iA 59 (xY h)else []
theorem mY (a b c d:Int):bK [a,b,c,d]=dec a++44::dec b++44::dec c++44::dec d:=by simp[bK,iA,rS]
theorem nZ (a:Int):bK [a]=dec a:=by simp[bK,iA,rS]
theorem eZ (x:Int)(h:x≤9223372036854775807):(dec x).length≤21:=cS _ (by omega)
theorem tY (a b c d:Int)(h1:a≤9223372036854775807)(h2:b≤9223372036854775807)(h3:c≤9223372036854775807)(h4:d≤9223372036854775807):(bK [a,b,c,d]).length≤90:=by rw[mY];have:=eZ a h1;have:=eZ b h2;have:=eZ c h3;have:=eZ d h4;simp only[aRx,aSo];omega
theorem aD2 (c:UInt8)(M:Nat): ∀r:List (List UInt8),(∀x∈r,x.length≤M)→(rS c r).length≤(M+1)*r.length:=by
 intro r;induction r with
 |nil=>intro _;simp[rS]
 |cons x r ih=>intro h;have h1:=h x (by simp);have h2:=ih (fun y hy=>h y (by simp[hy]));simp only[rS,aSn,aRx,aSo]at h2⊢;rw[Nat.mul_succ];omega
def aFe (h:aL)(l:List UInt8):List UInt8:=
 if l= [104,97,108,108]then fH h.aA h.aB h.cells
 else if l= [99,108,111,99,107]then dec h.aC
 else if l= [98,97,110,107]then dec h.aG
 else if l= [111,119,101,100]then dec (jG h)
 else if l= [104,111,117,115,101]then nJ h
 else match dR 4 (gK 32 l)with
  |none=> [119,104,97,116]
  |some id=>
   if gC 32 l= [100,117,101]then(if bB h id<0 then [110,111,110,101]else dec (bB h id))
   else if gC 32 l= [109,97,121]then(if bB h id<0 then [110,111,110,101]else if dQ h id=true then [121,101,115]else [110,111])
   else [119,104,97,116]
def jF (h:aL)(l:List UInt8):aL×List UInt8:=
 if aR h=true then
  (match bY l with
  |some (k,a,b)=>((doR h k a b).1,if(doR h k a b).2.2=true then dec (doR h k a b).2.1 else [110,111])
  |none=>if l= [101,110,100]then(aHu h,[111,107])else(h,aFe h l))
 else(hZ,[])
theorem aJz {m:Nat}{l:List UInt8}{id:Int}{c:UInt8}(h:dR m l=some id)(hc:eK c=false):c∉l:=by
 unfold dR at h;split at h
 ·rename_i hq;intro hm;have:=aSp.1 hq.2.2.2 c hm;rw[hc]at this;simp at this
 simp at h
theorem aMq {m:Nat}(hm:m≤5){l:List UInt8}{id:Int}(h:dR m l=some id):0≤id:=by
 unfold dR at h;split at h
 ·rename_i hq;have:=(xF l hq.2.2.2 (by omega)).1;simp only[aTh]at h;omega
 simp at h
theorem aJ0 {l a b:List UInt8}(h:cL 32 l= [a,b]):gC 32 l=a∧gK 32 l=b:=by
 by_cases hm:(32:UInt8)∈l
 ·obtain⟨x,y,rfl,hx⟩:=qQ 32 l hm;rw[jK 32 x y hx]at h;obtain⟨h1,h2⟩:=iU 32 x y hx;simp only[List.cons.injEq]at h;obtain⟨rfl,h3⟩:=h;by_cases hy:(32:UInt8)∈y
  ·obtain⟨u,v,rfl,hu⟩:=qQ 32 y hy;rw[jK 32 u v hu]at h3;simp only[List.cons.injEq]at h3;exact absurd h3.2 (kO 32 v)
  rw[lP 32 y hy]at h3;simp only[List.cons.injEq,and_true]at h3;subst h3;exact⟨h1,h2⟩
 rw[lP 32 l hm]at h;simp at h
theorem aJ1 {l:List UInt8}{id:Int}(h:dR 4 (gK 32 l)=some id):cL 32 l= [gC 32 l,gK 32 l]:=by
 by_cases hm:(32:UInt8)∈l
 ·obtain⟨x,y,rfl,hx⟩:=qQ 32 l hm;obtain⟨h1,h2⟩:=iU 32 x y hx;rw[h2]at h;rw[jK 32 x y hx,h1,h2,lP 32 y (aJz h (by decide))]
 rw[(pP 32 l hm).2]at h;simp[dR]at h
theorem aCx {h:aL}(a:aR h=true):eA (-1) h.vs=none:=by
 unfold eA;rw[List.find?_eq_none];intro v hv hc;obtain⟨q1,q2,q3,q4,q5⟩:=(eL h).1 a;have h1:v.1∈dY h.cells:=by rw[←q4];exact List.mem_map_of_mem hv
 have h2:v.1= -1:=by simpa using hc
 have h3:=(aSi.1 ((gW _).mem_iff.1 h1)).2;rw[h2]at h3;simp at h3
theorem aQ0 {h:aL}(a:aR h=true):bB h (-1)= -1∧dQ h (-1)=false:=by unfold bB dQ cV;rw[if_pos a,aCx a];exact⟨rfl,rfl⟩
theorem aAo {h:aL}(a:aR h=true)(id:Int):(bB h id= -1∧dQ h id=false)∨(0≤bB h id∧bB h id≤693):=by
 cases hv:eA id h.vs with
 |none=>left;unfold bB dQ cV;rw[if_pos a,hv];exact⟨rfl,rfl⟩
 |some v=>right;have hm:v∈h.vs:=aT6 hv;have:=pN a hm;unfold bB cV;rw[if_pos a,hv];exact this
theorem aIa {h:aL}(a:aR h=true):0≤jG h∧jG h≤8316:=by unfold jG;rw[if_pos a];exact aPb a
section
open Go.Proofs.Tryz
theorem aRk (l:List UInt8)(m:Nat)(h:l.length≤m): ∃s:ByteArray,s=⟨l.toArray⟩∧s.size≤m:=⟨_,rfl,by simpa[ByteArray.size]using h⟩
theorem mX (a b:ByteArray)(x y:List UInt8)(h1:a=⟨x.toArray⟩)(h2:b=⟨y.toArray⟩):a++b=⟨(x++y).toArray⟩:=by rw[h1,h2];exact Go.WideShapes.bytes_inj (by simp[ByteArray.data_append])
theorem aRl {a:ByteArray}{l:List UInt8}(h:a=⟨l.toArray⟩):Ending.returned (.string a)= .returned (str l):=by rw[h]
theorem tN (aA aB:Int)(p:OA)(n cap:Nat)(w:World)(hn:n≤9223372036854775807)(HV:xB 48 #[aH aA aB p n cap] w false):
  U 66 #[aH aA aB p n cap] w (O (str []) w):=by
 by_cases h0:0<n
 ·have u1:(0:Int)<(n:Int):=by omega
  go_enter func66,ntmps66;go_wp2;refine wp_loop_rounds 1 ?_;rw[rounds_succ];go_wp2_with fail;refine Z (HV _ (by exact .alloc (.refl _) _)) fun w1 h1=>?_
  go_wp2;go_ret;exact⟨rfl,by exact .trans (.alloc (.refl _) _) h1⟩
 obtain rfl:n=0:=by omega
 go_enter func66,ntmps66;go_wp2;go_rounds 1;go_ret;exact⟨rfl,by exact .alloc (.refl _) _⟩
theorem vN (aA aB:Int)(p:OA)(n cap:Nat)(xs:List Int)(w:World)(h0:2≤aA)(h1:aA≤4)(hn:n≤12)(hc: ∀x∈xs,0≤x∧x≤99)(HS:Hid (Sl w p n cap 1 (ivs xs)))
  (HV:xB 48 #[aH aA aB p n cap] w true):
  U 66 #[aH aA aB p n cap] w (O (str (aU aA xs n)) w):=by
 have v:=xQ hc;clear hc;go_enter func66,ntmps66;go_wp2;go_loopw [3,4] (fun o i wr=> ∃(k:Nat) (S:ByteArray),k≤n∧i=I k∧o= .string S∧S=⟨(aU aA xs k).toArray⟩∧Ext w wr∧Blk wr w 31 #[aA,aB,.slice p n cap]) (fun _ i _=>n-(intOf i).toNat)
 case atStart=>exact⟨0,_,aRv _,rfl,rfl,rfl,by exact .alloc (.refl _) _,Blk.new _ _ _⟩
 case round=>
  obtain⟨k,S,hk,rfl,rfl,hS,hE,hB⟩:=hrel;have af:S.size≤300:=by have:=nB aA xs (fun x hx=>(v x hx).2) k;rw[hS];simp[ByteArray.size];omega
  have j:=xQ hS;have r:=xQ hB;have ae:(w:Nat)<wr:=hB.lt;clear hS hB;by_cases hlt:k<n
  ·obtain⟨b,ab,x,rfl,hx,u,m⟩:=(HS.out.ext hE).int_at hlt;obtain⟨aa,ag⟩:=v x (aRs hx);have HX:=xQ hx;have d:=xQ (pJ (aA:=aA) hx);clear hx;have i1:(0:Int)≤(k:Int):=by omega
   have i2:(k:Int)<(n:Int):=by omega
   obtain⟨r0,r1,r2⟩:=r.out.tri;have s:Hid (∀w,U 24 #[x] w (O (str (Lib.decDigits x.toNat)) w)):=fun w=>jS x w aa (by omega)
   obtain⟨tx,ex,mx⟩:=aRk (Lib.decDigits x.toNat) 21 (cS _ (by omega));have h:Hid (∀w,U 24 #[x] w (O (.string tx) w)):=by rw[ex];exact s.out
   have t:=xQ ex;clear ex s;go_wp2_with fail;refine Z (HV _ (by exact hE)) fun w1 q=>?_
   have g:=xQ (r.out.ext q);have X1:Ext w w1:=hE.trans q;have y:w1.cell? ⟨b,ab+k,none⟩=some (iv x):=by rw[q.cells.1 _ _ u];exact m
   have ad:b<w1:=aRo u q.sz;clear q r0 r1 r2 r m u;obtain⟨a0,a1,a2⟩:=g.out.tri;by_cases hk0:k=0
   ·by_cases hz:x=0
    ·have c:Hid (dJ aA k= []):=by show _=_;simp[dJ,hk0]
     have S1:Hid (S=⟨(aU aA xs k++dJ aA k).toArray⟩):=by show _=_;rw[c.out,aSe];exact j.out
     have f1:decide ((0:Int)<(k:Int))=false:=by simp[hk0]
     have f2:decide (0<k)=false:=by simp[hk0]
     have f3: ¬0<k:=by omega
     have z1:(x==0)=true:=by simp[hz]
     have a:Hid (S++⟨#[46]⟩=⟨(aU aA xs (k+1)).toArray⟩):=by show _=_;rw[d.out];exact mX _ _ _ _ S1 (by simp[fL,hz])
     have q2: ¬9223372036854775807<S.size+1:=by omega
     clear hk0 hz;go_wp2;go_roundw
     case rel=>exact⟨k+1,_,by omega,by go_num,rfl,a.out,by exact X1,g.out.ext (by exact .refl _)⟩
     case measure=>simp[intOf];omega
    have c:Hid (dJ aA k= []):=by show _=_;simp[dJ,hk0]
    have S1:Hid (S=⟨(aU aA xs k++dJ aA k).toArray⟩):=by show _=_;rw[c.out,aSe];exact j.out
    have f1:decide ((0:Int)<(k:Int))=false:=by simp[hk0]
    have f2:decide (0<k)=false:=by simp[hk0]
    have f3: ¬0<k:=by omega
    have z1:(x==0)=false:=by simp[hz]
    have a:Hid (S++tx=⟨(aU aA xs (k+1)).toArray⟩):=by show _=_;rw[d.out];exact mX _ _ _ _ S1 (by rw[t.out];simp[fL,hz])
    have q2: ¬9223372036854775807<S.size+tx.size:=by omega
    clear hk0 hz;go_wp2_with fail;refine Z (h _) fun w2 f=>?_
    have l:=xQ (g.out.ext f);go_wp2;go_roundw
    case rel=>exact⟨k+1,_,by omega,by go_num,rfl,a.out,by exact .trans X1 f,l.out⟩
    case measure=>simp[intOf];omega
   by_cases hmod:(k:Int)%aA=0
   ·by_cases hz:x=0
    ·have c:Hid (dJ aA k= [47]):=by show _=_;simp[dJ,hk0,hmod]
     have S1:Hid (S++⟨#[47]⟩=⟨(aU aA xs k++dJ aA k).toArray⟩):=by show _=_;rw[c.out];exact mX _ _ _ _ j.out rfl
     have q1: ¬9223372036854775807<S.size+1:=by omega
     have f1:0<k:=by omega
     have f3:(0:Int)<(k:Int):=by omega
     have f2:((k:Int)%aA==0)=true:=by simp[hmod]
     have z1:(x==0)=true:=by simp[hz]
     have a:Hid (S++⟨#[47]⟩++⟨#[46]⟩=⟨(aU aA xs (k+1)).toArray⟩):=by show _=_;rw[d.out];exact mX _ _ _ _ S1 (by simp[fL,hz])
     have q2: ¬9223372036854775807<S.size+1+1:=by omega
     clear hk0 hz hmod;go_wp2;go_roundw
     case rel=>exact⟨k+1,_,by omega,by go_num,rfl,a.out,by exact X1,g.out.ext (by exact .refl _)⟩
     case measure=>simp[intOf];omega
    have c:Hid (dJ aA k= [47]):=by show _=_;simp[dJ,hk0,hmod]
    have S1:Hid (S++⟨#[47]⟩=⟨(aU aA xs k++dJ aA k).toArray⟩):=by show _=_;rw[c.out];exact mX _ _ _ _ j.out rfl
    have q1: ¬9223372036854775807<S.size+1:=by omega
    have f1:0<k:=by omega
    have f3:(0:Int)<(k:Int):=by omega
    have f2:((k:Int)%aA==0)=true:=by simp[hmod]
    have z1:(x==0)=false:=by simp[hz]
    have a:Hid (S++⟨#[47]⟩++tx=⟨(aU aA xs (k+1)).toArray⟩):=by show _=_;rw[d.out];exact mX _ _ _ _ S1 (by rw[t.out];simp[fL,hz])
    have q2: ¬9223372036854775807<S.size+1+tx.size:=by omega
    clear hk0 hz hmod;go_wp2_with fail;refine Z (h _) fun w2 f=>?_
    have l:=xQ (g.out.ext f);go_wp2;go_roundw
    case rel=>exact⟨k+1,_,by omega,by go_num,rfl,a.out,by exact .trans X1 f,l.out⟩
    case measure=>simp[intOf];omega
   by_cases hz:x=0
   ·have c:Hid (dJ aA k= [44]):=by show _=_;simp[dJ,hk0,hmod]
    have S1:Hid (S++⟨#[44]⟩=⟨(aU aA xs k++dJ aA k).toArray⟩):=by show _=_;rw[c.out];exact mX _ _ _ _ j.out rfl
    have q1: ¬9223372036854775807<S.size+1:=by omega
    have f1:0<k:=by omega
    have f3:(0:Int)<(k:Int):=by omega
    have f2:((k:Int)%aA==0)=false:=by simp[hmod]
    have z1:(x==0)=true:=by simp[hz]
    have a:Hid (S++⟨#[44]⟩++⟨#[46]⟩=⟨(aU aA xs (k+1)).toArray⟩):=by show _=_;rw[d.out];exact mX _ _ _ _ S1 (by simp[fL,hz])
    have q2: ¬9223372036854775807<S.size+1+1:=by omega
    clear hk0 hz hmod;go_wp2;go_roundw
    case rel=>exact⟨k+1,_,by omega,by go_num,rfl,a.out,by exact X1,g.out.ext (by exact .refl _)⟩
    case measure=>simp[intOf];omega
   have c:Hid (dJ aA k= [44]):=by show _=_;simp[dJ,hk0,hmod]
   have S1:Hid (S++⟨#[44]⟩=⟨(aU aA xs k++dJ aA k).toArray⟩):=by show _=_;rw[c.out];exact mX _ _ _ _ j.out rfl
   have q1: ¬9223372036854775807<S.size+1:=by omega
   have f1:0<k:=by omega
   have f3:(0:Int)<(k:Int):=by omega
   have f2:((k:Int)%aA==0)=false:=by simp[hmod]
   have z1:(x==0)=false:=by simp[hz]
   have a:Hid (S++⟨#[44]⟩++tx=⟨(aU aA xs (k+1)).toArray⟩):=by show _=_;rw[d.out];exact mX _ _ _ _ S1 (by rw[t.out];simp[fL,hz])
   have q2: ¬9223372036854775807<S.size+1+tx.size:=by omega
   clear hk0 hz hmod;go_wp2_with fail;refine Z (h _) fun w2 f=>?_
   have l:=xQ (g.out.ext f);go_wp2;go_roundw
   case rel=>exact⟨k+1,_,by omega,by go_num,rfl,a.out,by exact .trans X1 f,l.out⟩
   case measure=>simp[intOf];omega
  have z:k=n:=by omega
  have d:Hid (S=⟨(aU aA xs n).toArray⟩):=by show _=_;rw[←z];exact j.out
  obtain⟨r0,r1,r2⟩:=r.out.tri;go_wp2;go_ret;exact⟨aRl d.out,hE⟩
theorem rW (aA aB:Int)(p:OA)(n cap:Nat)(xs:List Int)(w:World)(hS:Sl w p n cap 1 (ivs xs)):
  U 66 #[aH aA aB p n cap] w (O (str (fH aA aB xs)) w):=by
 have hl:=hS.ilen;cases h:aO aA aB xs with
 |true=>obtain⟨h1,h2,h3,h4,h5,h6,h7,h8,h9⟩:=bN h;unfold fH;rw[if_pos h,hl];exact vN aA aB p n cap xs w h1 h2 (by omega) h8 hS (fun w' hx=>by rw[←h];exact gJ aA aB p n cap xs w' (hS.ext hx))
 |false=>unfold fH;rw[if_neg (by simp[h])];exact tN aA aB p n cap w hS.bd (fun w' hx=>by rw[←h];exact gJ aA aB p n cap xs w' (hS.ext hx))
theorem aLo (l:List UInt8):(⟨l.toArray⟩:ByteArray).size=l.length:=by simp[ByteArray.size]
theorem aR6:(⟨#[59]⟩:ByteArray).size=1:=rfl
theorem aRj:(⟨#[44]⟩:ByteArray).size=1:=rfl
theorem aDs {a:ByteArray}{l:List UInt8}(h:a=⟨l.toArray⟩):Ending.returned (.string a)= .returned (str l):=by rw[h]
theorem eM (l:List UInt8)(m:Nat)(h:l.length≤m): ∃s:ByteArray,s=⟨l.toArray⟩∧s.size≤m:=⟨_,rfl,by rw[aLo];exact h⟩
theorem wN (a b aD aF:Int)(w:World)(h0:0≤a)(h1:0≤b)(h2:0≤aD)(h3:0≤aF)(h4:a≤9223372036854775807)(h5:b≤9223372036854775807)(h6:aD≤9223372036854775807)(h7:aF≤9223372036854775807):
  U 112 #[aT a b aD aF] w (O (str (bK [a,b,aD,aF])) w):=by
 obtain⟨s1,e1,l1⟩:=eM (dec a) 21 (eZ _ h4);obtain⟨s2,e2,l2⟩:=eM (dec b) 21 (eZ _ h5);obtain⟨s3,e3,l3⟩:=eM (dec aD) 21 (eZ _ h6);obtain⟨s4,e4,l4⟩:=eM (dec aF) 21 (eZ _ h7);have h:Hid (∀w,U 24 #[a] w (O (.string s1) w)):=fun w=>by rw[e1];exact jS a w h0 h4
 have i:Hid (∀w,U 24 #[b] w (O (.string s2) w)):=fun w=>by rw[e2];exact jS b w h1 h5
 have j:Hid (∀w,U 24 #[aD] w (O (.string s3) w)):=fun w=>by rw[e3];exact jS aD w h2 h6
 have k:Hid (∀w,U 24 #[aF] w (O (.string s4) w)):=fun w=>by rw[e4];exact jS aF w h3 h7
 have HF:Hid (s1++⟨#[44]⟩++s2++⟨#[44]⟩++s3++⟨#[44]⟩++s4=⟨(bK [a,b,aD,aF]).toArray⟩):=by show _=_;rw[mY,e1,e2,e3,e4];apply Go.WideShapes.bytes_inj;simp[ByteArray.data_append]
 clear e1 e2 e3 e4 h0 h1 h2 h3 h4 h5 h6 h7;have q1: ¬9223372036854775807<s1.size+1:=by omega
 have q2: ¬9223372036854775807<s1.size+1+s2.size:=by omega
 have q3: ¬9223372036854775807<s1.size+1+s2.size+1:=by omega
 have q4: ¬9223372036854775807<s1.size+1+s2.size+1+s3.size:=by omega
 have q5: ¬9223372036854775807<s1.size+1+s2.size+1+s3.size+1:=by omega
 have q6: ¬9223372036854775807<s1.size+1+s2.size+1+s3.size+1+s4.size:=by omega
 have B0:Hid (Blk (w.alloc (.cells #[a,b,aD,aF] 32)) w 32 #[a,b,aD,aF]):=Blk.new w _ _;have X0:Hid (Ext w (w.alloc (.cells #[a,b,aD,aF] 32))):=(Ext.refl w).alloc _;go_enter func112,ntmps112;go_wp2
 go_region_held3 (fun w'=>w'.cell? ⟨w,0,none⟩=some (I a)∧w'.cell? ⟨w,1,none⟩=some (I b)∧w'.cell? ⟨w,2,none⟩=some (I aD)∧w'.cell? ⟨w,3,none⟩=some (I aF)) (first|(refine⟨?_,?_,?_,?_⟩<;>assumption)|go_keep)
  ((go_at_call 24;(first
    |((with_reducible refine(h _).mono ?_)
      rintro e w1 ⟨rfl,c⟩;(try replace c:=c.of_drew);have B1:=xQ (B0.out.ext c);have X1:=xQ (X0.out.trans c);skip;clear c;have l:=B1.out.cl 0;have m:=B1.out.cl 1;have n:=B1.out.cl 2
      have o:w1.cell? ⟨w,3,none⟩=some (I aF):=B1.out.cell 3)
    |((with_reducible refine(i _).mono ?_)
      rintro e w2 ⟨rfl,d⟩;(try replace d:=d.of_drew);have B2:=xQ (B1.out.ext d);have X2:=xQ (X1.out.trans d);skip;clear d;have p:=B2.out.cl 0;have q:=B2.out.cl 1;have r:=B2.out.cl 2
      have s:w2.cell? ⟨w,3,none⟩=some (I aF):=B2.out.cell 3)
    |((with_reducible refine(j _).mono ?_)
      rintro e w3 ⟨rfl,f⟩;(try replace f:=f.of_drew);have B3:=xQ (B2.out.ext f);have X3:=xQ (X2.out.trans f);skip;clear f;have t:=B3.out.cl 0;have u:=B3.out.cl 1;have v:=B3.out.cl 2
      have x:w3.cell? ⟨w,3,none⟩=some (I aF):=B3.out.cell 3)
    |((with_reducible refine(k _).mono ?_)
      rintro e w4 ⟨rfl,g⟩;(try replace g:=g.of_drew);have B4:=xQ (B3.out.ext g);have X4:=xQ (X3.out.trans g);skip;clear g;have y:=B4.out.cl 0;have z:=B4.out.cl 1;have aa:=B4.out.cl 2
      have ab:w4.cell? ⟨w,3,none⟩=some (I aF):=B4.out.cell 3))))
 all_goals go_wp2
 all_goals go_ret
 all_goals exact⟨aDs HF.out,X4.out⟩
theorem yS (aA aB a b aD aF aC aG:Int)(p:OA)(n cap:Nat)(q:OA)(m c2:Nat)(w:World)(HV:xB 21 #[.agg #[aA,aB,.slice p n cap,a,b,aD,aF,aC,aG,.slice q m c2]] w false):
  U 68 #[.agg #[aA,aB,.slice p n cap,a,b,aD,aF,aC,aG,.slice q m c2]] w (O (str []) w):=by
 go_enter func68,ntmps68;go_wp2_with fail;refine Z (HV _ (by exact .alloc (.refl _) _)) fun w1 c=>?_
 go_wp2;go_ret;exact⟨rfl,by exact .trans (.alloc (.refl _) _) c⟩
theorem aOm (s1 s2 s3 s4:ByteArray)(p1 p2 p3 p4:List UInt8)(e1:s1=⟨p1.toArray⟩)(e2:s2=⟨p2.toArray⟩)(e3:s3=⟨p3.toArray⟩)(e4:s4=⟨p4.toArray⟩):
  s1++⟨#[59]⟩++s2++⟨#[59]⟩++s3++⟨#[59]⟩++s4=⟨(iA 59 [p1,p2,p3,p4]).toArray⟩:=by
 rw[e1,e2,e3,e4];apply Go.WideShapes.bytes_inj;simp[ByteArray.data_append,iA,rS]
theorem aJ3 (S t1 t2 t3 t4:ByteArray)(a0 a1 a2 a3:Int)(P:List UInt8)(e0:S=⟨P.toArray⟩)(e1:t1=⟨(dec a0).toArray⟩)(e2:t2=⟨(dec a1).toArray⟩)(e3:t3=⟨(dec a2).toArray⟩)(e4:t4=⟨(dec a3).toArray⟩):
  S++⟨#[59]⟩++t1++⟨#[44]⟩++t2++⟨#[44]⟩++t3++⟨#[44]⟩++t4=⟨(P++59::bK [a0,a1,a2,a3]).toArray⟩:=by
 rw[e0,e1,e2,e3,e4,mY];apply Go.WideShapes.bytes_inj;simp[ByteArray.data_append]
theorem aBa (aA aB a c aD aF aC aG:Int)(p:OA)(n cap:Nat)(q:OA)(m c2:Nat)(w:World)(vs:List aP)(p1 p2 p3 p4:List UInt8)(l1:p1.length≤400)(l2:p2.length≤100)(l3:p3.length≤30)(l4:p4.length≤30)(hm:m≤12)(HS:Hid (Sl w q m c2 4 (vs.flatMap aE)))
  (HG:Hid (∀v∈vs,0≤v.1∧v.1≤99999∧0≤v.2.1∧v.2.1≤99999∧0≤v.2.2.1∧v.2.2.1≤99999∧0≤v.2.2.2∧v.2.2.2≤99999))
  (HV:xB 21 #[.agg #[aA,aB,.slice p n cap,a,c,aD,aF,aC,aG,.slice q m c2]] w true)
  (H1:xC 66 #[aH aA aB p n cap] w fun w' e w''=>e= .returned (str p1)∧Ext w' w'')
  (H2:Hid (∀w',U 112 #[aT a c aD aF] w' (O (str p2) w')))
  (H3:Hid (∀w',U 24 #[aC] w' (O (str p3) w')))
  (H4:Hid (∀w',U 24 #[aG] w' (O (str p4) w'))):
  U 68 #[.agg #[aA,aB,.slice p n cap,a,c,aD,aF,aC,aG,.slice q m c2]] w (O (str (iA 59 ([p1,p2,p3,p4]++vs.map (fun v=>bK (cH v))))) w):=by
 obtain⟨s1,e1,m1⟩:=eM p1 400 l1;obtain⟨s2,e2,m2⟩:=eM p2 100 l2;obtain⟨s3,e3,m3⟩:=eM p3 30 l3;obtain⟨s4,e4,m4⟩:=eM p4 30 l4;have ci:xC 66 #[aH aA aB p n cap] w fun w' e w''=>e= .returned (.string s1)∧Ext w' w'':=by rw[e1];exact H1.out
 have cj:Hid (∀w',U 112 #[aT a c aD aF] w' (O (.string s2) w')):=by rw[e2];exact H2.out
 have ck:Hid (∀w',U 24 #[aC] w' (O (.string s3) w')):=by rw[e3];exact H3.out
 have cm:Hid (∀w',U 24 #[aG] w' (O (.string s4) w')):=by rw[e4];exact H4.out
 have HF:=xQ (aOm s1 s2 s3 s4 p1 p2 p3 p4 e1 e2 e3 e4);have hl:Hid (vs.length=m):=by have:=HS.out.len;rw[cR aE 4 (fun _=>rfl)]at this;exact(by omega:vs.length=m)
 clear e1 e2 e3 e4 l1 l2 l3 l4 H1 H2 H3 H4;have q1: ¬9223372036854775807<s1.size+1:=by omega
 have q2: ¬9223372036854775807<s1.size+1+s2.size:=by omega
 have q3: ¬9223372036854775807<s1.size+1+s2.size+1:=by omega
 have q4: ¬9223372036854775807<s1.size+1+s2.size+1+s3.size:=by omega
 have q5: ¬9223372036854775807<s1.size+1+s2.size+1+s3.size+1:=by omega
 have q6: ¬9223372036854775807<s1.size+1+s2.size+1+s3.size+1+s4.size:=by omega
 go_enter func68,ntmps68;go_wp2_with fail;refine Z (HV _ (by exact .alloc (.refl _) _)) fun w0 u=>?_
 have B0:Hid (Blk w0 w 35 #[aA,aB,.slice p n cap,a,c,aD,aF,aC,aG,.slice q m c2]):=(Blk.new w _ _).ext u;have X0:Hid (Ext w w0):=by show Ext w w0;exact .trans (.alloc (.refl _) _) u
 clear u;obtain⟨a0,a1,a2,a3,a4,a5,a6,a7,a8,a9⟩:=B0.out.ten;go_wp2
 go_region_held3 (fun w'=>w'.cell? ⟨w,0,none⟩=some (I aA)∧w'.cell? ⟨w,1,none⟩=some (I aB)∧w'.cell? ⟨w,2,none⟩=some (.slice p n cap)∧w'.cell? ⟨w,3,none⟩=some (I a)∧w'.cell? ⟨w,4,none⟩=some (I c)∧w'.cell? ⟨w,5,none⟩=some (I aD)∧w'.cell? ⟨w,6,none⟩=some (I aF)∧w'.cell? ⟨w,7,none⟩=some (I aC)∧w'.cell? ⟨w,8,none⟩=some (I aG)∧w'.cell? ⟨w,9,none⟩=some (.slice q m c2)) (first|(refine⟨?_,?_,?_,?_,?_,?_,?_,?_,?_,?_⟩<;>assumption)|go_keep)
  ((first
    |(go_at_call 66;(with_reducible refine(ci _ (by first|exact X0.out|exact X0.out.drew)).mono ?_)
      rintro e w1 ⟨rfl,j⟩;(try replace j:=j.of_drew);have B1:=xQ (B0.out.ext j);have X1:=xQ (X0.out.trans j);skip;clear j;have y:=B1.out.cl 0;have z:=B1.out.cl 1;have aa:=B1.out.cl 2;have ab:=B1.out.cl 3;have ad:=B1.out.cl 4;have ae:=B1.out.cl 5;have af:=B1.out.cl 6;have ag:=B1.out.cl 7;have ah:=B1.out.cl 8
      have ai:w1.cell? ⟨w,9,none⟩=some (.slice q m c2):=B1.out.cell 9)
    |(go_at_call 112;(with_reducible refine(cj _).mono ?_)
      rintro e w2 ⟨rfl,l⟩;(try replace l:=l.of_drew);have B2:=xQ (B1.out.ext l);have X2:=xQ (X1.out.trans l);skip;clear l;have aj:=B2.out.cl 0;have ak:=B2.out.cl 1;have al:=B2.out.cl 2;have am:=B2.out.cl 3;have an:=B2.out.cl 4;have ao:=B2.out.cl 5;have ap:=B2.out.cl 6;have aq:=B2.out.cl 7;have ar:=B2.out.cl 8
      have au:w2.cell? ⟨w,9,none⟩=some (.slice q m c2):=B2.out.cell 9)
    |(go_at_call 24;(with_reducible refine(ck _).mono ?_)
      rintro e w3 ⟨rfl,r⟩;(try replace r:=r.of_drew);have B3:=xQ (B2.out.ext r);have X3:=xQ (X2.out.trans r);skip;clear r;have av:=B3.out.cl 0;have aw:=B3.out.cl 1;have ax:=B3.out.cl 2;have ay:=B3.out.cl 3;have az:=B3.out.cl 4;have ba:=B3.out.cl 5;have bb:=B3.out.cl 6;have bc:=B3.out.cl 7;have bd:=B3.out.cl 8
      have be:w3.cell? ⟨w,9,none⟩=some (.slice q m c2):=B3.out.cell 9)
    |(go_at_call 24;(with_reducible refine(cm _).mono ?_)
      rintro e w4 ⟨rfl,s⟩;(try replace s:=s.of_drew);have B4:=xQ (B3.out.ext s);have X4:=xQ (X3.out.trans s);skip;clear s;have bf:=B4.out.cl 0;have bg:=B4.out.cl 1;have bh:=B4.out.cl 2;have bi:=B4.out.cl 3;have bj:=B4.out.cl 4;have bk:=B4.out.cl 5;have bl:=B4.out.cl 6;have bm:=B4.out.cl 7;have bn:=B4.out.cl 8
      have bo:w4.cell? ⟨w,9,none⟩=some (.slice q m c2):=B4.out.cell 9)))
 clear q1 q2 q3 q4 q5 q6 y z aa ab ad ae af ag ah ai aj ak al am an ao ap aq ar au av aw ax ay az ba bb bc bd be bf bg bh bi bj bk bl bm bn bo a0 a1 a2 a3 a4 a5 a6 a7 a8 a9;have b9:=B4.out.cl 9;go_wp2;clear b9;go_loopw [3,4] (fun o i wr=> ∃(k:Nat) (S:ByteArray),k≤m∧i=I k∧o= .string S∧S=⟨(iA 59 ([p1,p2,p3,p4]++(vs.take k).map (fun v=>bK (cH v)))).toArray⟩∧S.size≤700+100*k∧Ext w wr∧Blk wr w 35 #[aA,aB,.slice p n cap,a,c,aD,aF,aC,aG,.slice q m c2]) (fun _ i _=>m-(intOf i).toNat)
 case atStart=>exact⟨0,_,aRv _,rfl,rfl,by rw[HF.out];simp,by simp only[ByteArray.size_append,aR6];omega,X4.out,B4.out⟩
 case round=>
  obtain⟨k,S,hk,rfl,rfl,hS,b6,hE,hB⟩:=hrel;have x:=xQ hS;have t:=xQ hB;have cv:(w:Nat)<wr:=hB.lt;clear X4 B4 hS hB HF;by_cases hlt:k<m
  ·obtain⟨b,cw,a0,a1,a2,a3,rfl,hv,hb,g0,g1,g2,g3⟩:=eH (HS.out.ext hE) hlt;obtain⟨v0,b8,v1,ca,v2,cb,v3,cc⟩:=HG _ (aRs hv);dsimp only at v0 b8 v1 ca v2 cb v3 cc;have ct:Hid (iA 59 ([p1,p2,p3,p4]++(vs.take (k+1)).map (fun v=>bK (cH v)))=iA 59 ([p1,p2,p3,p4]++(vs.take k).map (fun v=>bK (cH v)))++59::bK [a0,a1,a2,a3]):=by
    show _=_;rw[aY hv,aSq];simp[iA,rS,cH]
   obtain⟨t1,e1,m1⟩:=eM (dec a0) 21 (eZ _ (by omega));obtain⟨t2,e2,m2⟩:=eM (dec a1) 21 (eZ _ (by omega));obtain⟨t3,e3,m3⟩:=eM (dec a2) 21 (eZ _ (by omega));obtain⟨t4,e4,m4⟩:=eM (dec a3) 21 (eZ _ (by omega));have cn:Hid (∀w,U 24 #[a0] w (O (.string t1) w)):=fun w=>by rw[e1];exact jS a0 w v0 (by omega)
   have co:Hid (∀w,U 24 #[a1] w (O (.string t2) w)):=fun w=>by rw[e2];exact jS a1 w v1 (by omega)
   have cp:Hid (∀w,U 24 #[a2] w (O (.string t3) w)):=fun w=>by rw[e3];exact jS a2 w v2 (by omega)
   have cq:Hid (∀w,U 24 #[a3] w (O (.string t4) w)):=fun w=>by rw[e4];exact jS a3 w v3 (by omega)
   have cu:S.size≤1900:=by omega
   have cr:=xQ b6;have cs:=xQ (aJ3 S t1 t2 t3 t4 a0 a1 a2 a3 _ x e1 e2 e3 e4);clear e1 e2 e3 e4 v0 b8 v1 ca v2 cb v3 cc hv b6;have i1:(0:Int)≤(k:Int):=by omega
   have i2:(k:Int)<(m:Int):=by omega
   have r1: ¬9223372036854775807<S.size+1:=by omega
   have r2: ¬9223372036854775807<S.size+1+t1.size:=by omega
   have r3: ¬9223372036854775807<S.size+1+t1.size+1:=by omega
   have r4: ¬9223372036854775807<S.size+1+t1.size+1+t2.size:=by omega
   have r5: ¬9223372036854775807<S.size+1+t1.size+1+t2.size+1:=by omega
   have r6: ¬9223372036854775807<S.size+1+t1.size+1+t2.size+1+t3.size:=by omega
   have r7: ¬9223372036854775807<S.size+1+t1.size+1+t2.size+1+t3.size+1:=by omega
   have r8: ¬9223372036854775807<S.size+1+t1.size+1+t2.size+1+t3.size+1+t4.size:=by omega
   have B4:Hid (Blk (wr.alloc (.cells #[a0,a1,a2,a3] 77)) wr 77 #[a0,a1,a2,a3]):=Blk.new wr _ _;have X4:Hid (Ext w (wr.alloc (.cells #[a0,a1,a2,a3] 77))):=hE.alloc _;have cd:=xQ (t.out.alloc (.cells #[a0,a1,a2,a3] 77));have b9:=t.out.cl 9;go_wp2;go_region_held3 (fun w'=>w'.cell? ⟨wr,0,none⟩=some (I a0)∧w'.cell? ⟨wr,1,none⟩=some (I a1)∧w'.cell? ⟨wr,2,none⟩=some (I a2)∧w'.cell? ⟨wr,3,none⟩=some (I a3)) (first|(refine⟨?_,?_,?_,?_⟩<;>assumption)|go_keep)
  ((go_at_call 24;(first
      |((with_reducible refine(cn _).mono ?_)
        rintro e w5 ⟨rfl,d⟩;(try replace d:=d.of_drew);have B5:=xQ (B4.out.ext d);have X5:=xQ (X4.out.trans d);have ce:=xQ (cd.out.ext d);clear d;have bp:=B5.out.cl 0;have bq:=B5.out.cl 1;have br:=B5.out.cl 2
        have bs:w5.cell? ⟨wr,3,none⟩=some (I a3):=B5.out.cell 3)
      |((with_reducible refine(co _).mono ?_)
        rintro e w6 ⟨rfl,f⟩;(try replace f:=f.of_drew);have B6:=xQ (B5.out.ext f);have X6:=xQ (X5.out.trans f);have cf:=xQ (ce.out.ext f);clear f;have bt:=B6.out.cl 0;have bu:=B6.out.cl 1;have bv:=B6.out.cl 2
        have bw:w6.cell? ⟨wr,3,none⟩=some (I a3):=B6.out.cell 3)
      |((with_reducible refine(cp _).mono ?_)
        rintro e w7 ⟨rfl,g⟩;(try replace g:=g.of_drew);have B7:=xQ (B6.out.ext g);have X7:=xQ (X6.out.trans g);have cg:=xQ (cf.out.ext g);clear g;have bx:=B7.out.cl 0;have bz:=B7.out.cl 1;have b0:=B7.out.cl 2
        have b1:w7.cell? ⟨wr,3,none⟩=some (I a3):=B7.out.cell 3)
      |((with_reducible refine(cq _).mono ?_)
        rintro e w8 ⟨rfl,h⟩;(try replace h:=h.of_drew);have B8:=xQ (B7.out.ext h);have X8:=xQ (X7.out.trans h);have ch:=xQ (cg.out.ext h);clear h;have b2:=B8.out.cl 0;have b3:=B8.out.cl 1;have b4:=B8.out.cl 2
        have b5:w8.cell? ⟨wr,3,none⟩=some (I a3):=B8.out.cell 3))))
   clear bp bq br bs bt bu bv bw bx bz b0 b1 b2 b3 b4 b5 r1 r2 r3 r4 r5 r6 r7 r8;go_wp2;go_roundw
   case rel=>exact⟨k+1,_,by omega,by go_num,rfl,by rw[cs.out,ct.out],by have:=cr.out;simp only[ByteArray.size_append,aR6,aRj];omega,X8.out,ch.out⟩
   case measure=>simp[intOf];omega
  ·have b7:Hid (iA 59 ([p1,p2,p3,p4]++(vs.take k).map (fun v=>bK (cH v)))=iA 59 ([p1,p2,p3,p4]++vs.map (fun v=>bK (cH v)))):=by
    show _=_;rw[aRu (by rw[hl.out];omega)]
   have b9:=t.out.cl 9;go_wp2;go_ret;exact⟨aDs (by rw[x.out,b7.out];rfl),hE⟩
theorem sU {aA aB:Int}{xs:List Int}:(fH aA aB xs).length≤400:=by
 unfold fH;cases h:aO aA aB xs with
 |false=>simp
 |true=>obtain⟨h1,h2,h3,h4,h5,h6,h7,h8,h9⟩:=bN h;rw[if_pos rfl];have:=nB aA xs (fun x hx=>(h8 x hx).2) xs.length;omega
theorem xX {h:aL}(f:aR h=true):aO h.aA h.aB h.cells=true∧0≤h.free∧h.free≤1440∧0≤h.step∧h.step≤1440∧0≤h.aD∧h.aD≤99∧0≤h.aF∧h.aF≤99∧0≤h.aC∧h.aC≤9999∧0≤h.aG∧h.aG≤99999∧h.vs.length≤12∧
  ∀v∈h.vs,0≤v.1∧v.1≤99999∧0≤v.2.1∧v.2.1≤99999∧0≤v.2.2.1∧v.2.2.1≤99999∧0≤v.2.2.2∧v.2.2.2≤99999:=by
 have hv:=(dZ f).2;unfold aR at f;simp only[aRy]at f;obtain⟨⟨⟨h1,h2⟩,h3⟩,h4⟩:=f;have ht:=iD h2;unfold rF at h3;simp at h3;obtain⟨q1,q2⟩:=jN h4;obtain⟨_,_,_,_,_,_,_,hc,_⟩:=bN h1;refine⟨h1,by omega,by omega,by omega,by omega,by omega,by omega,by omega,by omega,by omega,by omega,by omega,by omega,hv.1,fun v hm=> ?_⟩;have a:=q2 v hm;unfold fC at a;rw[aRy]at a;have b:=fM a.1;have c:v.1∈dY h.cells:=by rw[←q1];exact List.mem_map_of_mem hm
 have d:v.1∈dP h.cells:=(gW _).mem_iff.1 c;have e:=hc v.1 (aSi.1 d).1;omega
theorem yT (h:aL)(p:OA)(n cap:Nat)(q:OA)(m c2:Nat)(w:World)(hi:IsHouse w h p n cap q m c2):
  U 68 #[bM h p n cap q m c2] w (O (str (nJ h)) w):=by
 have HV:=fun(w':World) (hx:Ext w w')=>iE h p n cap q m c2 w' (hi.ext hx)
 have g:=hi.vlen;unfold nJ;cases hok:aR h with
 |false=>rw[hok]at HV;simpa using yS h.aA h.aB h.free h.step h.aD h.aF h.aC h.aG p n cap q m c2 w HV
 |true=>
  rw[hok]at HV;obtain⟨g0,g1,g2,g3,g4,g5,g6,g7,g8,g9,b,c,d,f,a⟩:=xX hok;rw[if_pos rfl];have l3:=eZ h.aC (by omega);have l4:=eZ h.aG (by omega);have l2:=tY h.free h.step h.aD h.aF (by omega) (by omega) (by omega) (by omega)
  exact aBa h.aA h.aB h.free h.step h.aD h.aF h.aC h.aG p n cap q m c2 w h.vs _ _ _ _ sU (by omega) (by omega) (by omega) (by omega) hi.vs a HV
   (fun w' hx=>rW h.aA h.aB p n cap h.cells w' (hi.cells.ext hx)) (fun w'=>wN h.free h.step h.aD h.aF w' (by omega) (by omega) (by omega) (by omega) (by omega) (by omega) (by omega) (by omega))
   (fun w'=>jS h.aC w' (by omega) (by omega)) (fun w'=>jS h.aG w' (by omega) (by omega))
theorem aK7 (n:Nat):(madeCells (Value.string ⟨#[]⟩).cells (n*1)).toList=List.replicate n (Value.string ⟨#[]⟩):=by apply List.ext_getElem<;>simp[madeCells,Value.cells,Nat.mod_one]
theorem rU {xs:List Int}{k:Nat}(hl:(xs.take k).length=k):(bX ((xs.take k).map dec)).length=k:=by simp only[bX,aSg];exact hl
theorem aJ7 {xs:List Int}{k n:Nat}{x:Int}(h:k<n)(hx:xs[k]? =some x) (hl:(xs.take k).length=k):(bX ((xs.take k).map dec)++List.replicate (n-k) (Value.string ⟨#[]⟩)).set k (str (dec x))=bX ((xs.take (k+1)).map dec)++List.replicate (n-(k+1)) (Value.string ⟨#[]⟩):=by rw[aY hx,show n-k=(n-(k+1))+1 by omega,aT9];rw[aT8 _ _ (by rw[rU hl];exact aRp _),rU hl,aT0,aS1];simp[bX]
theorem aLn {xs:List Int}{k n:Nat}(h:k<n)(hl:(xs.take k).length=k):(bX ((xs.take k).map dec)++List.replicate (n-k) (Value.string ⟨#[]⟩))[k]? =some (Value.string ⟨#[]⟩):=by rw[aS3 (by rw[rU hl];exact aRp _),rU hl,aT0,show n-k=(n-(k+1))+1 by omega,aT9];rfl
theorem mP (p:OA)(n cap:Nat)(xs:List Int)(w:World)(ab:0<n)(hn:n≤10)(hx: ∀x∈xs,0≤x∧x≤9223372036854775807)(hE:Env w)(hS:Sl w p n cap 1 (ivs xs)):
  U 131 #[.slice p n cap] w (O (str (bK xs)) w):=by
 obtain⟨i0,hi,m,o,s⟩:=info_parts (show(prog.info? 9).map (fun i=>(i.zero,i.size,i.bytes))=some (some (.string ⟨#[]⟩),1,16) by kernel_rfl);have hl:=xQ hS.ilen;have HS:=xQ hS;have HX:=xQ hx;have HE:=xQ hE;have HL:Hid ((bK xs).length≤140737488355328):=by
  show _≤_
  have h1:=aD2 44 21 ((xs.map dec).drop 1) (fun y hy=>by
   obtain⟨z,hz,rfl⟩:=List.mem_map.1 (List.mem_of_mem_drop hy)
   exact eZ z (hx z hz).2)
  have h2:xs.length=n:=hS.ilen;unfold bK;cases hq:xs.map dec with
  |nil=>simp[iA]
  |cons a r=>
   have ha:a.length≤21:=by
    have:a∈xs.map dec:=by rw[hq];simp
    obtain⟨z,hz,rfl⟩:=List.mem_map.1 this;exact eZ z (hx z hz).2
   have hr:r.length+1=n:=by have:=congrArg List.length hq;simp at this;omega
   rw[hq]at h1;simp only[aTy,List.drop_zero]at h1;simp only[iA,aRx];omega
 clear hS hx hE;go_enter func131,ntmps131;go_wp2_with (at_make;refine wpList_make_full _ rfl _ _ 42 rfl w 9 i0 (.string ⟨#[]⟩) 1 underlying42 hi m o .i64 .i64 _ _ n rfl rfl rfl rfl (by rw[s];omega) (by unfold maxLen;omega) (aRp _) ?_;intro w0 d f);have v:Ext w w0:=(Ext.refl w).grown f (fun q hq=>by cases hq);have ag:=(d.lt w rfl).2;rw[aK7]at d;have t:=xQ d;clear d f hi m o s;go_loopw [11] (fun i wr=> ∃k:Nat,k≤n∧i=I k∧wr.ownsRow w 9 1 (.slice (some ⟨w,0,none⟩) n n) n (bX ((xs.take k).map dec)++List.replicate (n-k) (Value.string ⟨#[]⟩))∧Ext w wr) (fun i _=>n-(intOf i).toNat)
 case atStart=>exact⟨0,aRv _,rfl,by simpa[bX]using t.out,v⟩
 case round=>
  obtain⟨k,hk,rfl,j,g⟩:=hrel;have HO:=xQ j;clear j;by_cases hlt:k<n
  ·obtain⟨b,ai,x,rfl,hx,hb,aa⟩:=(HS.out.ext g).int_at hlt;obtain⟨ad,ae⟩:=HX x (aRs hx);have u:=xQ hx;clear hx;have h:(xs.take k).length=k:=by rw[aSd,hl.out];omega
   go_wp2_with fail;refine Z (oO x _ ad ae (HE.out.ext (by exact g))) fun w1 h1=>?_
   have c:=HO.out.kept h1.gb (by simp[Value.ownBlock]);have ah:(w:Nat)<w1:=(c.lt w rfl).2;have o0:w1.cell? ⟨w,k,none⟩=some (.string ⟨#[]⟩):=by rw[c.cellAt k (by omega)];exact aLn hlt h
   have f0:w1.frozen? ⟨w,k,none⟩=false:=c.frozenAt k;have HN:Hid ((w1.setCell ⟨w,k,none⟩ (str (dec x))).ownsRow w 9 1 (.slice (some ⟨w,0,none⟩) n n) n (bX ((xs.take (k+1)).map dec)++List.replicate (n-(k+1)) (Value.string ⟨#[]⟩))):=by have:=(c.stored k (str (dec x))).1;rw[aJ7 hlt u h]at this;exact this
   have af:=g.sz;clear c;go_wp2;go_roundw
   case rel=>exact⟨k+1,by omega,by go_num,HN.out,xE⟩
   case measure=>simp[intOf];omega
  have l:Hid (wr.ownsRow w 9 1 (.slice (some ⟨w,0,none⟩) n n) n (bX (xs.map dec))):=by have:=HO.out;rw[show n-k=0 by omega,List.replicate_zero,aSe,aRu (by rw[hl.out];omega)]at this;exact this
  go_wp2_with fail;refine Z (aE8 (xs.map dec) 44 _ n n _ (by rw[aSg];exact hl.out) ab (Sl.own l.out) HL (by omega)) fun w1 h1=>?_
  go_wp2;go_ret;exact⟨rfl,by exact .trans g h1⟩
end
end Go.Proofs.YtbgkcehffiogcacGreatDoor
