/-
  Texts of this proof, packed (@packed).
-/
import Derived.Shelf.Strings.OnBuilder
import Derived.Test.YtbgkcehffiogcabGreatDoorX29
namespace Go.Proofs.YtbgkcehffiogcabGreatDoor
open Go.RowKit
set_option linter.unusedSimpArgs false
set_option linter.unusedVariables false
set_option maxHeartbeats 8000000
set_option maxRecDepth 100000
section
open Go.ChangeShapes Go.WideShapes Go.ChangeAt Go.Deep
def RdZ (w:World)(v:Value)(n sz:Nat)(cs:List Value):Prop:=
 (n=0∧cs= []∧ ∃p cap,v= .slice p 0 cap)∨(0<n∧ ∃b off cap,v= .slice (some ⟨b,off,none⟩) n cap∧b<w.heap.size∧Rd w v n sz cs)
theorem RdZ.ext {w w':World}{v:Value}{n sz:Nat}{cs:List Value}(h:RdZ w v n sz cs)(hx:Ext w w'):RdZ w' v n sz cs:=by
 rcases h with h|⟨h0,b,c,a,rfl,hb,h⟩
 ·exact .inl h
 exact .inr ⟨h0,b,c,a,rfl,aT1 hb hx.sz,h.ext hx⟩
section
variable {H:Type} {enc:TypeId×Value→H} {w:World} {base:Nat} {spare:Nat→Bool} {held:Bool} {b0:Nat} {r:Reach} {v:Value} {d:DataW H} {p:List MemPlace}
end
end
def sY:Nat→Int→List UInt8→List jT×Nat
 |0,_,_=>([],0)
 |f+1,first,l=>match cQ l with
  |none=>([],0)
  |some (n,d,m)=>if n=first then(d::(sY f (first+1) (l.drop m)).1,m+(sY f (first+1) (l.drop m)).2)else([],0)
def rj (first:Int)(l:List UInt8):List jT×Nat:=sY l.length first l
theorem gH {l:List UInt8}{n:Int}{d:jT}{m:Nat}(h:cQ l=some (n,d,m)):0<m∧m≤l.length∧1≤n∧n≤99:=by
 obtain⟨k,a,b⟩:=d;obtain⟨h1,h2,h3⟩:=qV h;obtain⟨q1,q2,_⟩:=lA h1;have:=congrArg List.length h2;rw[aTa]at this;have hp:(bU n k a b).length≠0:=fun e=>h1 (aTr e)
 omega
theorem lW:cQ []=none:=by
 cases h:cQ []with
 |none=>rfl
 |some x=>obtain⟨n,d,m⟩:=x;have:=gH h;simp at this;omega
theorem aLs: ∀(f g:Nat) (first:Int) (l:List UInt8),l.length≤f→l.length≤g→sY f first l=sY g first l:=by
 intro f;induction f with
 |zero=>
  intro g first l hf hg
  obtain rfl:l= []:=aTr (by omega);cases g with
  |zero=>rfl
  |succ g=>simp[sY,lW]
 |succ f ih=>
  intro g first l hf hg
  cases g with
  |zero=>obtain rfl:l= []:=aTr (by omega);simp[sY,lW]
  |succ g=>
   simp only[sY];cases h:cQ l with
   |none=>rfl
   |some x=>obtain⟨n,d,m⟩:=x;obtain⟨h1,h2,_⟩:=gH h;simp only;rw[ih g (first+1) (l.drop m) (by simp;omega) (by simp;omega)]
theorem aQw {first:Int}{l:List UInt8}(h:cQ l=none):rj first l=([],0):=by
 unfold rj;cases l with
 |nil=>rfl
 |cons x xs=>simp[sY,h]
theorem aOi {first n:Int}{l:List UInt8}{d:jT}{m:Nat}(h:cQ l=some (n,d,m))(hn:n≠first):rj first l=([],0):=by
 unfold rj;cases l with
 |nil=>rw[lW]at h;simp at h
 |cons x xs=>simp[sY,h,hn]
theorem aQv {first:Int}{l:List UInt8}{d:jT}{m:Nat}(h:cQ l=some (first,d,m)):rj first l=(d::(rj (first+1) (l.drop m)).1,m+(rj (first+1) (l.drop m)).2):=by
 obtain⟨h1,h2,_⟩:=gH h;have e:rj first l=sY ((l.length-1)+1) first l:=by unfold rj;congr 1;omega
 rw[e];simp only[sY,h,if_true];have e2:sY (l.length-1) (first+1) (l.drop m)=rj (first+1) (l.drop m):=aLs _ _ _ _ (by simp;omega) (by simp);rw[e2]
theorem aB1 (w:World)(a b c:Value)(t:TypeId): ∀j u,[a,b,c][j]? =some u→(w.alloc (.cells #[a,b,c] t)).cell? ((⟨w,0,none⟩:Addr).add j)=some u:=by
 intro j u h;rw[oZ,aU2]
 match j,h with
 |0,h=>simp at h;subst h;simp
 |1,h=>simp at h;subst h;simp
 |2,h=>simp at h;subst h;simp
section
open Go.Proofs.Tryz
def aQh (first:Int)(l:List UInt8)(w:World)(e:Ending)(w':World):Prop:=
 ∃v,e= .returned (.tuple #[v,.int .i64 (rj first l).2])∧w'.ownsRow w.heap.size 76 3 v (rj first l).1.length ((rj first l).1.flatMap gX)∧Ext w w'
def aK3 (first:Int)(l:List UInt8)(A:List jT)(q:Nat):Prop:=
 q≤l.length∧A.length≤q∧(A.length=0∨(1≤first∧first+A.length≤100))∧rj first l=(A++(rj (first+A.length) (l.drop q)).1,q+(rj (first+A.length) (l.drop q)).2)
theorem zO (first:Int)(l:List UInt8):aK3 first l [] 0:=⟨aT8 _,aT2 _,.inl rfl,by simp⟩
theorem wK {first:Int}{l:List UInt8}{A:List jT}{q:Nat}(h:aK3 first l A q)(h1:cQ (l.drop q)=none):rj first l=(A,q):=by rw[h.2.2.2,aQw h1];simp
theorem zP {first n:Int}{l:List UInt8}{A:List jT}{q m:Nat}{d:jT}(h:aK3 first l A q)(h1:cQ (l.drop q)=some (n,d,m))(hn:n≠first+A.length):rj first l=(A,q):=by rw[h.2.2.2,aOi h1 hn];simp
theorem aCd {first:Int}{l:List UInt8}{A:List jT}{q m:Nat}{d:jT}(h:aK3 first l A q)(h1:cQ (l.drop q)=some (first+A.length,d,m)):aK3 first l (A++ [d]) (q+m):=by obtain⟨h2,h3,h4,h5⟩:=h;obtain⟨q1,q2,q3,q4⟩:=gH h1;rw[aTw]at q2;refine⟨by omega,by simp;omega,.inr ⟨by rcases h4 with h4|h4<;>omega,by simp;omega⟩,?_⟩;rw[h5,aQv h1];simp[List.drop_drop,Int.add_assoc,Nat.add_assoc]
theorem uR {first:Int}{l:List UInt8}{A:List jT}{q n:Nat}{v:Value}{w w':World}(h:rj first l=(A,q))(hn:n=A.length)(ho:w'.ownsRow w 76 3 v n (A.flatMap gX))(hE:Ext w w'):
  aQh first l w (.returned (.tuple #[v,q])) w':=⟨v,by rw[h],by rw[h];subst hn;exact ho,hE⟩
theorem vM (s:ByteArray)(q:Nat):Value.string (s.extract q s.size)=str (s.data.toList.drop q):=
 oC s q s.size _ (by rw[aT7 (by rw[Array.length_toList];exact aT2 _)])
theorem yS {w:World}{base sz n:Nat}{e:TypeId}{v:Value}{xs:List Value}(h:w.ownsRow base e sz v n xs): ∃p cap,v= .slice p n cap:=by
 rcases h.2 with⟨h1,h2⟩|⟨g,cap,_,h1,_⟩
 ·exact⟨none,0,by rw[h1,h2]⟩
 exact⟨_,cap,h1⟩
theorem aCo:(prog.info? 76).map (fun i=>(i.zero,i.size,i.bytes))=some (some (.agg #[(),(),()]),3,24):=aP2
theorem aRu (first:Int)(s:ByteArray)(w:World)(hs:s.size≤2147483648)(hB:B64 first):
  U 22 #[first,.string s] w (aQh first s.data.toList w):=by
 obtain⟨i0,hi,ab,ad,ae⟩:=info_parts aCo;have y:s.data.toList.length=s.size:=by rw[Array.length_toList];rfl
 have HL:=xQ y;clear y;go_enter func22,ntmps22;go_wp2;go_loopw [6,7] (fun v q wr=> ∃(k:Nat) (A:List jT) (p:OA) (n cap:Nat),v= .slice p n cap∧n=A.length∧q=I k∧aK3 first s.data.toList A k∧wr.ownsRow w 76 3 (.slice p n cap) n (A.flatMap gX)∧Ext w wr) (fun _ q _=>s.size-(intOf q).toNat)
 case atStart=>exact⟨0,[],_,0,0,rfl,rfl,rfl,zO _ _,aUc _ #[] 0 (aT2 _) (by simp[maxLen]) rfl,(Ext.refl _).alloc _⟩
 case round=>
  obtain⟨k,A,p,n,cap,rfl,hn,rfl,i,g,hE⟩:=hrel;have r:=xQ i;have ah:=hE.sz;have ag:n≤k:=by rw[hn];exact i.2.1
  have hk:k≤s.size:=by have:=i.1;rwa[HL.out]at this
  have af:n=0∨(1≤first∧first+n≤100):=by rw[hn];exact i.2.2.1
  have HN:=xQ hn;clear hn i;by_cases hlt:k<s.size
  ·have HS:Hid (∀w,U 58 #[.string (s.extract k s.size)] w (mN (cQ (s.data.toList.drop k)) w)):=fun w=>by
    rw[vM];exact aBb _ w (by rw[aTw,HL.out];omega)
   cases hre:cQ (s.data.toList.drop k)with
   |none=>
    rw[hre]at HS;have f:=xQ (wK r hre);clear hre;go_wp2_with fail;refine Ω (HS _) fun w1 h1=>?_
    have d:=g.kept h1.gb (by cases Value.ownBlock _<;>simp);unfold reV;go_wp2;exact bodyPost_ret (v:= .tuple #[.slice p n cap,k]) (by simp[results,results22,go_sem, *]) rfl (uR f.out HN (d.alloc _) xE)
   |some x=>
    obtain⟨z,⟨a,b,c⟩,m⟩:=x;rw[hre]at HS;obtain⟨r1,r2,r3,r4⟩:=gH hre;rw[aTw,HL.out]at r2;have q1:IntKind.i64.wrap (first+(n:Int))=first+n:=aT5 _ (by unfold B64 at hB;omega)
    have q2:((m:Int)==0)=false:=by rw[beq_eq_false_iff_ne];omega
    have q3:IntKind.i64.wrap ((k:Int)+(m:Int))=(k:Int)+m:=aT5 _ (by omega);by_cases hz:z=first+n
    ·have f:=xQ (aCd r (by rw[hre,hz,HN.out]));clear hre;have q4:(z !=first+(n:Int))=false:=by simp[hz]
     clear hz;go_wp2_with fail;refine Ω (HS _) fun w1 h1=>?_
     have d:=g.kept h1.gb (by cases Value.ownBlock _<;>simp);unfold reV dL;go_wp2_with (at_builtin;refine wpList_append_own _ rfl _ _ 42 rfl w 76 i0 (.agg #[(),(),()]) 3 24 underlying42 hi ab ad ae rfl (by decide) _ _ _ rfl ((d.alloc _).alloc _) ⟨w1.heap.size+1,0,none⟩ 1 1 [I a,I b,I c] rfl rfl ?c1 ?c2 ?c3 ?c4 ?c5 ?_)
     case c1=>intro j u h;have:=aB1 (w1.alloc (.cells #[a,b,c] 76)) (I a) (I b) (I c) 76 j u h;simpa using this
     case c2=>intro u hu;simp at hu;rcases hu with rfl|rfl|rfl<;>rfl
     case c3=>unfold maxLen;omega
     case c4=>omega
     case c5=>have:=h1.sz;simp;omega
     intro v' w2 o l _;have aa:Ext w w2:=(((hE.trans h1).alloc _).alloc _).grown l (fun q hq=>(d.lt q hq).1);clear l g;obtain⟨p2,t,rfl⟩:=yS o;go_wp2;go_roundw
     case rel=>exact⟨k+m,A++ [(a,b,c)],p2,n+1,t,rfl,by simp[HN.out],by simp,f.out,by simpa[gX]using o,aa⟩
     case measure=>simp[intOf];omega
    have q4:(z !=first+(n:Int))=true:=by simpa using hz
    have f:=xQ (zP r hre (by rw[←HN.out];exact hz));clear hre;go_wp2_with fail;refine Ω (HS _) fun w1 h1=>?_
    have d:=g.kept h1.gb (by cases Value.ownBlock _<;>simp);unfold reV dL;go_wp2;exact bodyPost_ret (v:= .tuple #[.slice p n cap,k]) (by simp[results,results22,go_sem, *]) rfl (uR f.out HN (d.alloc _) xE)
  obtain rfl:k=s.size:=by omega
  have f:=xQ (wK r (by rw[aUf (by rw[HL.out];exact aT2 _)];exact lW));go_wp2;exact bodyPost_ret (v:= .tuple #[.slice p n cap,(s.size:Int)]) (by simp[results,results22,go_sem, *]) rfl (uR f.out HN g xE)
theorem aS7 (first:Int)(s:ByteArray)(w:World)(hs:s.size≤2147483648)(hB:B64 first)(i:Env w):
  U 17 #[first,.string s] w (aQh first s.data.toList w):=by
 obtain⟨i0,hi,ad,ae,af⟩:=info_parts aCo;have aa:s.data.toList.length=s.size:=by rw[Array.length_toList];rfl
 have HL:=xQ aa;clear aa;go_enter func17,ntmps17;go_wp2;go_loopw [6,7] (fun v q wr=> ∃(k:Nat) (A:List jT) (p:OA) (n cap:Nat),v= .slice p n cap∧n=A.length∧q=I k∧aK3 first s.data.toList A k∧wr.ownsRow w 76 3 (.slice p n cap) n (A.flatMap gX)∧Ext w wr) (fun _ q _=>s.size-(intOf q).toNat)
 case atStart=>exact⟨0,[],none,0,0,rfl,rfl,rfl,zO _ _,aTl _ _ _ _,Ext.refl _⟩
 case round=>
  obtain⟨k,A,p,n,cap,rfl,hn,rfl,l,g,hE⟩:=hrel;have t:=xQ l;have ai:=hE.sz;have ah:n≤k:=by rw[hn];exact l.2.1
  have hk:k≤s.size:=by have:=l.1;rwa[HL.out]at this
  have ag:n=0∨(1≤first∧first+n≤100):=by rw[hn];exact l.2.2.1
  have HN:=xQ hn;clear hn l;have HS:Hid (∀w,Env w→U 49 #[.string (s.extract k s.size)] w (mN (cQ (s.data.toList.drop k)) w)):=fun w he=>by rw[vM];exact aBr _ w (by rw[aTw,HL.out];omega) he
  cases hre:cQ (s.data.toList.drop k)with
  |none=>
   rw[hre]at HS;have f:=xQ (wK t hre);clear hre;go_wp2_with fail;refine Ω (HS _ (i.ext hE)) fun w1 h1=>?_
   have d:=g.kept h1.gb (by cases Value.ownBlock _<;>simp);unfold reV;go_wp2;exact bodyPost_ret (v:= .tuple #[.slice p n cap,k]) (by simp[results,results17,go_sem, *]) rfl (uR f.out HN (d.alloc _) xE)
  |some x=>
   obtain⟨z,⟨a,b,c⟩,m⟩:=x;rw[hre]at HS;obtain⟨r1,r2,r3,r4⟩:=gH hre;rw[aTw,HL.out]at r2;have q1:IntKind.i64.wrap (first+(n:Int))=first+n:=aT5 _ (by unfold B64 at hB;omega)
   have q2:((m:Int)==0)=false:=by rw[beq_eq_false_iff_ne];omega
   have q3:IntKind.i64.wrap ((k:Int)+(m:Int))=(k:Int)+m:=aT5 _ (by omega);by_cases hz:z=first+n
   ·have f:=xQ (aCd t (by rw[hre,hz,HN.out]));clear hre;have q4:(z !=first+(n:Int))=false:=by simp[hz]
    clear hz;go_wp2_with fail;refine Ω (HS _ (i.ext hE)) fun w1 h1=>?_
    have d:=g.kept h1.gb (by cases Value.ownBlock _<;>simp);unfold reV dL;go_wp2_with (at_builtin;refine wpList_append_own _ rfl _ _ 42 rfl w 76 i0 (.agg #[(),(),()]) 3 24 underlying42 hi ad ae af rfl (by decide) _ _ _ rfl ((d.alloc _).alloc _) ⟨w1.heap.size+1,0,none⟩ 1 1 [I a,I b,I c] rfl rfl ?c1 ?c2 ?c3 ?c4 ?c5 ?_)
    case c1=>intro j u h;have:=aB1 (w1.alloc (.cells #[a,b,c] 76)) (I a) (I b) (I c) 76 j u h;simpa using this
    case c2=>intro u hu;simp at hu;rcases hu with rfl|rfl|rfl<;>rfl
    case c3=>unfold maxLen;omega
    case c4=>omega
    case c5=>have:=h1.sz;simp;omega
    intro v' w2 r o _;have ab:Ext w w2:=(((hE.trans h1).alloc _).alloc _).grown o (fun q hq=>(d.lt q hq).1);clear o g;obtain⟨p2,y,rfl⟩:=yS r;go_wp2;go_roundw
    case rel=>exact⟨k+m,A++ [(a,b,c)],p2,n+1,y,rfl,by simp[HN.out],by simp,f.out,by simpa[gX]using r,ab⟩
    case measure=>simp[intOf];omega
   have q4:(z !=first+(n:Int))=true:=by simpa using hz
   have f:=xQ (zP t hre (by rw[←HN.out];exact hz));clear hre;go_wp2_with fail;refine Ω (HS _ (i.ext hE)) fun w1 h1=>?_
   have d:=g.kept h1.gb (by cases Value.ownBlock _<;>simp);unfold reV dL;go_wp2;exact bodyPost_ret (v:= .tuple #[.slice p n cap,k]) (by simp[results,results17,go_sem, *]) rfl (uR f.out HN (d.alloc _) xE)
end
theorem aKb: ∀(f:Nat) (first:Int) (l:List UInt8),(sY f first l).1.length=0∨1≤first∧first+(sY f first l).1.length≤100
 |0,_,_=> .inl rfl
 |f+1,first,l=>by
  simp only[sY];cases h:cQ l with
  |none=>exact .inl rfl
  |some x=>
   obtain⟨n,d,m⟩:=x;obtain⟨_,_,h1,h2⟩:=gH h;dsimp only;by_cases hn:n=first
   ·rw[if_pos hn];subst hn;right;rcases aKb f (n+1) (l.drop m)with h3|⟨h3,h4⟩
    ·simp[h3];omega
    simp only[aU1];omega
   rw[if_neg hn];exact .inl rfl
theorem aRp (first:Int)(l:List UInt8):(rj first l).1.length≤99:=by
 have:=aKb l.length first l
 unfold rj;omega
section
open Go.Proofs.Tryz
def mD:Go.Shelf.Ren:=⟨fun|156=>94|165=>135|166=>77|169=>78|240=>120|241=>179|276=>149|277=>210|n=>n,fun|0=>0|3=>3|4=>4|5=>5|9=>9|20=>20|31=>84|37=>35|70=>102|72=>104|75=>106|76=>108|80=>110|127=>145|164=>170|n=>n,fun|n=>n⟩
theorem aE8:Go.Proofs.Lays.n156 prog mD:={
 mixed:=by kernel_rfl,
 f156:=func94.trans (congrArg some (by kernel_rfl)),
 f165:=func135.trans (congrArg some (by kernel_rfl)),
 f166:=func77.trans (congrArg some (by kernel_rfl)),
 f169:=func78.trans (congrArg some (by kernel_rfl)),
 f240:=func120.trans (congrArg some (by kernel_rfl)),
 f241:=func179.trans (congrArg some (by kernel_rfl)),
 f276:=func149.trans (congrArg some (by kernel_rfl)),
 f277:=func210.trans (congrArg some (by kernel_rfl)),
 t0:=underlying0,
 a0:=Tryz.isAgg0,
 z0:=Tryz.sizeOf0,
 v0:=Tryz.zeroValue0,
 t3:=underlying3,
 a3:=Tryz.isAgg3,
 z3:=Tryz.sizeOf3,
 v3:=Tryz.zeroValue3,
 t4:=underlying4,
 a4:=Tryz.isAgg4,
 z4:=Tryz.sizeOf4,
 v4:=Tryz.zeroValue4,
 t9:=underlying9,
 a9:=Tryz.isAgg9,
 z9:=Tryz.sizeOf9,
 v9:=Tryz.zeroValue9,
 t20:=underlying20,
 a20:=Tryz.isAgg20,
 z20:=Tryz.sizeOf20,
 v20:=Tryz.zeroValue20,
 t31:=underlying84,
 a31:=Tryz.isAgg84,
 z31:=Tryz.sizeOf84,
 v31:=Tryz.zeroValue84,
 t37:=underlying35,
 a37:=Tryz.isAgg35,
 z37:=Tryz.sizeOf35,
 v37:=Tryz.zeroValue35,
 t70:=underlying102,
 a70:=Tryz.isAgg102,
 z70:=Tryz.sizeOf102,
 v70:=Tryz.zeroValue102,
 t72:=underlying104,
 a72:=Tryz.isAgg104,
 z72:=Tryz.sizeOf104,
 v72:=Tryz.zeroValue104,
 t75:=underlying106,
 a75:=Tryz.isAgg106,
 z75:=Tryz.sizeOf106,
 v75:=Tryz.zeroValue106,
 t76:=underlying108,
 a76:=Tryz.isAgg108,
 z76:=Tryz.sizeOf108,
 v76:=Tryz.zeroValue108,
 t127:=underlying145,
 a127:=Tryz.isAgg145,
 z127:=Tryz.sizeOf145,
 v127:=Tryz.zeroValue145,
 t164:=underlying170,
 a164:=Tryz.isAgg170,
 z164:=Tryz.sizeOf170,
 v164:=Tryz.zeroValue170}
theorem aQ3:Go.Proofs.Builder.Extra prog mD:={
 sizeBuilder:=by kernel_rfl
 liesBuilder:=by kernel_rfl
 t5:=underlying5
 a5:=Tryz.isAgg5
 z5:=Tryz.sizeOf5
 v5:=Tryz.zeroValue5
 infoByte:=by kernel_rfl
 cellsByte:=by kernel_rfl
 sizeByte:=by kernel_rfl
 neB5:=by decide}
def mK (c:UInt8)(r:List (List UInt8)):List UInt8:=r.flatMap (fun y=>c::y)
def eT (c:UInt8):List (List UInt8)→List UInt8
 | []=> []
 |x::r=>x++mK c r
theorem aCn (c:UInt8)(xs:List (List UInt8)):Lib.join xs [c]=eT c xs:=by
 cases xs with
 |nil=>rfl
 |cons x r=>rw[Lib.join_cons];show x++(r.map ([c]++ ·)).flatten=x++r.flatMap (fun y=>c::y);rw[List.flatMap_def];rfl
def pC (ps:List (List UInt8)):List Value:=ps.map str
theorem aGq (ps:List (List UInt8))(c:UInt8)(p:OA)(n a:Nat)(w:World)(hn:ps.length=n)(h0:0<n)(hS:Sl w p n a 1 (pC ps))(hl:(eT c ps).length≤140737488355328)(f:n≤1099511627776):
  U 94 #[.slice p n a,.string ⟨#[c]⟩] w (Z (str (eT c ps)) w):=by
 obtain⟨b,d,rfl,hb,hc⟩:=hS.rd h0;subst hn;have hm:(ps.map (fun l=>(⟨l.toArray⟩:ByteArray))).map (·.data.toList)=ps:=by rw[List.map_map];exact(List.map_congr_left (fun x _=>by simp)).trans (List.map_id ps)
 have h:=Any.strings_Join aE8 aQ3 b d a (ps.map (fun l=>(⟨l.toArray⟩:ByteArray))) ⟨#[c]⟩ w
  (fun j x hx=>by
   rw[aTs]at hx;obtain⟨y,hy,rfl⟩:=Option.map_eq_some_iff.1 hx;have hj:j<ps.length:=(aT6.1 hy).1;rw[hc j (by omega)]
   simp[pC,hy])
  hb (by rw[aTk];omega) (by rw[aTk];exact hS.le) (by rw[hm];simpa[aCn]using hl)
 rw[hm,aTk]at h;refine h.mono ?_;rintro e w' ⟨rfl,hx⟩;exact⟨by rw[show(⟨#[c]⟩:ByteArray).data.toList= [c]from rfl,aCn],hx⟩
end
abbrev dec (x:Int):List UInt8:=Lib.decDigits x.toNat
def bC (xs:List Int):List UInt8:=eT 44 (xs.map dec)
def bR (v:aU):List Int:= [v.1,v.2.1,v.2.2.1,v.2.2.2]
def eS (h:aS):List (List UInt8):=cL h.aA h.aB h.cells::bC [h.free,h.step,h.aE,h.aF]::dec h.aC::dec h.aG::h.vs.map (fun v=>bC (bR v))
def bI (h:aS):List UInt8:=if bJ h then eT 59 (eS h)else []
theorem oG (a b c d:Int):bC [a,b,c,d]=dec a++44::dec b++44::dec c++44::dec d:=by simp[bC,eT,mK]
theorem pK (a:Int):bC [a]=dec a:=by simp[bC,eT,mK]
theorem eI (x:Int)(h:x≤9223372036854775807):(dec x).length≤21:=cI _ (by omega)
theorem oR (a b c d:Int)(h1:a≤9223372036854775807)(h2:b≤9223372036854775807)(h3:c≤9223372036854775807)(h4:d≤9223372036854775807):(bC [a,b,c,d]).length≤90:=by rw[oG];have:=eI a h1;have:=eI b h2;have:=eI c h3;have:=eI d h4;simp only[aTa,aU1];omega
theorem aFm (c:UInt8)(M:Nat): ∀r:List (List UInt8),(∀x∈r,x.length≤M)→(mK c r).length≤(M+1)*r.length:=by
 intro r;induction r with
 |nil=>intro _;simp[mK]
 |cons x r ih=>intro h;have h1:=h x (by simp);have h2:=ih (fun y hy=>h y (by simp[hy]));simp only[mK,aUa,aTa,aU1]at h2⊢;rw[Nat.mul_succ];omega
section
open Go.Proofs.Tryz
theorem aSx (l:List UInt8)(m:Nat)(h:l.length≤m): ∃s:ByteArray,s=⟨l.toArray⟩∧s.size≤m:=⟨_,rfl,by simpa[ByteArray.size]using h⟩
theorem oE (a b:ByteArray)(x y:List UInt8)(h1:a=⟨x.toArray⟩)(h2:b=⟨y.toArray⟩):a++b=⟨(x++y).toArray⟩:=by rw[h1,h2];exact Go.WideShapes.bytes_inj (by simp[ByteArray.data_append])
theorem aSy {a:ByteArray}{l:List UInt8}(h:a=⟨l.toArray⟩):Ending.returned (.string a)= .returned (str l):=by rw[h]
theorem wE (aA aB:Int)(p:OA)(n a:Nat)(w:World)(hn:n≤9223372036854775807)(HV:xB 41 #[aH aA aB p n a] w false):
  U 118 #[aH aA aB p n a] w (Z (str []) w):=by
 by_cases h0:0<n
 ·have u1:(0:Int)<(n:Int):=by omega
  go_enter func118,ntmps118;go_wp2;refine wp_loop_rounds 1 ?_;rw[rounds_succ];go_wp2_with fail;refine Ω (HV _ (by exact .alloc (.refl _) _)) fun w1 h1=>?_
  go_wp2;go_ret;exact⟨rfl,by exact .trans (.alloc (.refl _) _) h1⟩
 obtain rfl:n=0:=by omega
 go_enter func118,ntmps118;go_wp2;go_rounds 1;go_ret;exact⟨rfl,by exact .alloc (.refl _) _⟩
theorem yG (aA aB:Int)(p:OA)(n s:Nat)(xs:List Int)(w:World)(h0:2≤aA)(h1:aA≤4)(hn:n≤12)(hc: ∀x∈xs,0≤x∧x≤99)(HS:Hid (Sl w p n s 1 (ivs xs)))
  (HV:xB 41 #[aH aA aB p n s] w true):
  U 118 #[aH aA aB p n s] w (Z (str (aR aA xs n)) w):=by
 have y:=xQ hc;clear hc;go_enter func118,ntmps118;go_wp2;go_loopw [3,4] (fun o i wr=> ∃(k:Nat) (S:ByteArray),k≤n∧i=I k∧o= .string S∧S=⟨(aR aA xs k).toArray⟩∧Ext w wr∧Blk wr w 24 #[aA,aB,.slice p n s]) (fun _ i _=>n-(intOf i).toNat)
 case atStart=>exact⟨0,_,aT8 _,rfl,rfl,rfl,by exact .alloc (.refl _) _,Blk.new _ _ _⟩
 case round=>
  obtain⟨k,S,hk,rfl,rfl,hS,hE,hB⟩:=hrel;have ag:S.size≤300:=by have:=oJ aA xs (fun x hx=>(y x hx).2) k;rw[hS];simp[ByteArray.size];omega
  have j:=xQ hS;have r:=xQ hB;have af:(w:Nat)<wr:=hB.lt;clear hS hB;by_cases hlt:k<n
  ·obtain⟨b,ad,x,rfl,hx,v,m⟩:=(HS.out.ext hE).int_at hlt;obtain⟨ab,ah⟩:=y x (aT4 hx);have HX:=xQ hx;have d:=xQ (rH (aA:=aA) hx);clear hx;have i1:(0:Int)≤(k:Int):=by omega
   have i2:(k:Int)<(n:Int):=by omega
   obtain⟨r0,r1,r2⟩:=r.out.tri;have t:Hid (∀w,U 72 #[x] w (Z (str (Lib.decDigits x.toNat)) w)):=fun w=>lI x w ab (by omega)
   obtain⟨tx,ex,mx⟩:=aSx (Lib.decDigits x.toNat) 21 (cI _ (by omega));have h:Hid (∀w,U 72 #[x] w (Z (.string tx) w)):=by rw[ex];exact t.out
   have u:=xQ ex;clear ex t;go_wp2_with fail;refine Ω (HV _ (by exact hE)) fun w1 q=>?_
   have g:=xQ (r.out.ext q);have X1:Ext w w1:=hE.trans q;have z:w1.cell? ⟨b,ad+k,none⟩=some (iv x):=by rw[q.cells.1 _ _ v];exact m
   have ae:b<w1:=aT1 v q.sz;clear q r0 r1 r2 r m v;obtain⟨a0,a1,a2⟩:=g.out.tri;by_cases hk0:k=0
   ·by_cases hz:x=0
    ·have c:Hid (dG aA k= []):=by show _=_;simp[dG,hk0]
     have S1:Hid (S=⟨(aR aA xs k++dG aA k).toArray⟩):=by show _=_;rw[c.out,aTy];exact j.out
     have f1:decide ((0:Int)<(k:Int))=false:=by simp[hk0]
     have f2:decide (0<k)=false:=by simp[hk0]
     have f3: ¬0<k:=by omega
     have z1:(x==0)=true:=by simp[hz]
     have a:Hid (S++⟨#[46]⟩=⟨(aR aA xs (k+1)).toArray⟩):=by show _=_;rw[d.out];exact oE _ _ _ _ S1 (by simp[eB,hz])
     have q2: ¬9223372036854775807<S.size+1:=by omega
     clear hk0 hz;go_wp2;go_roundw
     case rel=>exact⟨k+1,_,by omega,by go_num,rfl,a.out,by exact X1,g.out.ext (by exact .refl _)⟩
     case measure=>simp[intOf];omega
    have c:Hid (dG aA k= []):=by show _=_;simp[dG,hk0]
    have S1:Hid (S=⟨(aR aA xs k++dG aA k).toArray⟩):=by show _=_;rw[c.out,aTy];exact j.out
    have f1:decide ((0:Int)<(k:Int))=false:=by simp[hk0]
    have f2:decide (0<k)=false:=by simp[hk0]
    have f3: ¬0<k:=by omega
    have z1:(x==0)=false:=by simp[hz]
    have a:Hid (S++tx=⟨(aR aA xs (k+1)).toArray⟩):=by show _=_;rw[d.out];exact oE _ _ _ _ S1 (by rw[u.out];simp[eB,hz])
    have q2: ¬9223372036854775807<S.size+tx.size:=by omega
    clear hk0 hz;go_wp2_with fail;refine Ω (h _) fun w2 f=>?_
    have l:=xQ (g.out.ext f);go_wp2;go_roundw
    case rel=>exact⟨k+1,_,by omega,by go_num,rfl,a.out,by exact .trans X1 f,l.out⟩
    case measure=>simp[intOf];omega
   by_cases hmod:(k:Int)%aA=0
   ·by_cases hz:x=0
    ·have c:Hid (dG aA k= [47]):=by show _=_;simp[dG,hk0,hmod]
     have S1:Hid (S++⟨#[47]⟩=⟨(aR aA xs k++dG aA k).toArray⟩):=by show _=_;rw[c.out];exact oE _ _ _ _ j.out rfl
     have q1: ¬9223372036854775807<S.size+1:=by omega
     have f1:0<k:=by omega
     have f3:(0:Int)<(k:Int):=by omega
     have f2:((k:Int)%aA==0)=true:=by simp[hmod]
     have z1:(x==0)=true:=by simp[hz]
     have a:Hid (S++⟨#[47]⟩++⟨#[46]⟩=⟨(aR aA xs (k+1)).toArray⟩):=by show _=_;rw[d.out];exact oE _ _ _ _ S1 (by simp[eB,hz])
     have q2: ¬9223372036854775807<S.size+1+1:=by omega
     clear hk0 hz hmod;go_wp2;go_roundw
     case rel=>exact⟨k+1,_,by omega,by go_num,rfl,a.out,by exact X1,g.out.ext (by exact .refl _)⟩
     case measure=>simp[intOf];omega
    have c:Hid (dG aA k= [47]):=by show _=_;simp[dG,hk0,hmod]
    have S1:Hid (S++⟨#[47]⟩=⟨(aR aA xs k++dG aA k).toArray⟩):=by show _=_;rw[c.out];exact oE _ _ _ _ j.out rfl
    have q1: ¬9223372036854775807<S.size+1:=by omega
    have f1:0<k:=by omega
    have f3:(0:Int)<(k:Int):=by omega
    have f2:((k:Int)%aA==0)=true:=by simp[hmod]
    have z1:(x==0)=false:=by simp[hz]
    have a:Hid (S++⟨#[47]⟩++tx=⟨(aR aA xs (k+1)).toArray⟩):=by show _=_;rw[d.out];exact oE _ _ _ _ S1 (by rw[u.out];simp[eB,hz])
    have q2: ¬9223372036854775807<S.size+1+tx.size:=by omega
    clear hk0 hz hmod;go_wp2_with fail;refine Ω (h _) fun w2 f=>?_
    have l:=xQ (g.out.ext f);go_wp2;go_roundw
    case rel=>exact⟨k+1,_,by omega,by go_num,rfl,a.out,by exact .trans X1 f,l.out⟩
    case measure=>simp[intOf];omega
   by_cases hz:x=0
   ·have c:Hid (dG aA k= [44]):=by show _=_;simp[dG,hk0,hmod]
    have S1:Hid (S++⟨#[44]⟩=⟨(aR aA xs k++dG aA k).toArray⟩):=by show _=_;rw[c.out];exact oE _ _ _ _ j.out rfl
    have q1: ¬9223372036854775807<S.size+1:=by omega
    have f1:0<k:=by omega
    have f3:(0:Int)<(k:Int):=by omega
    have f2:((k:Int)%aA==0)=false:=by simp[hmod]
    have z1:(x==0)=true:=by simp[hz]
    have a:Hid (S++⟨#[44]⟩++⟨#[46]⟩=⟨(aR aA xs (k+1)).toArray⟩):=by show _=_;rw[d.out];exact oE _ _ _ _ S1 (by simp[eB,hz])
    have q2: ¬9223372036854775807<S.size+1+1:=by omega
    clear hk0 hz hmod;go_wp2;go_roundw
    case rel=>exact⟨k+1,_,by omega,by go_num,rfl,a.out,by exact X1,g.out.ext (by exact .refl _)⟩
    case measure=>simp[intOf];omega
   have c:Hid (dG aA k= [44]):=by show _=_;simp[dG,hk0,hmod]
   have S1:Hid (S++⟨#[44]⟩=⟨(aR aA xs k++dG aA k).toArray⟩):=by show _=_;rw[c.out];exact oE _ _ _ _ j.out rfl
   have q1: ¬9223372036854775807<S.size+1:=by omega
   have f1:0<k:=by omega
   have f3:(0:Int)<(k:Int):=by omega
   have f2:((k:Int)%aA==0)=false:=by simp[hmod]
   have z1:(x==0)=false:=by simp[hz]
   have a:Hid (S++⟨#[44]⟩++tx=⟨(aR aA xs (k+1)).toArray⟩):=by show _=_;rw[d.out];exact oE _ _ _ _ S1 (by rw[u.out];simp[eB,hz])
   have q2: ¬9223372036854775807<S.size+1+tx.size:=by omega
   clear hk0 hz hmod;go_wp2_with fail;refine Ω (h _) fun w2 f=>?_
   have l:=xQ (g.out.ext f);go_wp2;go_roundw
   case rel=>exact⟨k+1,_,by omega,by go_num,rfl,a.out,by exact .trans X1 f,l.out⟩
   case measure=>simp[intOf];omega
  have aa:k=n:=by omega
  have d:Hid (S=⟨(aR aA xs n).toArray⟩):=by show _=_;rw[←aa];exact j.out
  obtain⟨r0,r1,r2⟩:=r.out.tri;go_wp2;go_ret;exact⟨aSy d.out,hE⟩
theorem uN (aA aB:Int)(p:OA)(n a:Nat)(xs:List Int)(w:World)(hS:Sl w p n a 1 (ivs xs)):
  U 118 #[aH aA aB p n a] w (Z (str (cL aA aB xs)) w):=by
 have hl:=hS.ilen;cases h:aO aA aB xs with
 |true=>obtain⟨h1,h2,h3,h4,h5,h6,h7,h8,h9⟩:=bQ h;unfold cL;rw[if_pos h,hl];exact yG aA aB p n a xs w h1 h2 (by omega) h8 hS (fun w' hx=>by rw[←h];exact iC aA aB p n a xs w' (hS.ext hx))
 |false=>unfold cL;rw[if_neg (by simp[h])];exact wE aA aB p n a w hS.bd (fun w' hx=>by rw[←h];exact iC aA aB p n a xs w' (hS.ext hx))
theorem aNi (l:List UInt8):(⟨l.toArray⟩:ByteArray).size=l.length:=by simp[ByteArray.size]
theorem aSm:(⟨#[59]⟩:ByteArray).size=1:=rfl
theorem aSw:(⟨#[44]⟩:ByteArray).size=1:=rfl
theorem aG9 {a:ByteArray}{l:List UInt8}(h:a=⟨l.toArray⟩):Ending.returned (.string a)= .returned (str l):=by rw[h]
theorem eX (l:List UInt8)(m:Nat)(h:l.length≤m): ∃s:ByteArray,s=⟨l.toArray⟩∧s.size≤m:=⟨_,rfl,by rw[aNi];exact h⟩
theorem zF (a b aE aF:Int)(w:World)(h0:0≤a)(h1:0≤b)(h2:0≤aE)(h3:0≤aF)(h4:a≤9223372036854775807)(h5:b≤9223372036854775807)(h6:aE≤9223372036854775807)(h7:aF≤9223372036854775807):
  U 119 #[aV a b aE aF] w (Z (str (bC [a,b,aE,aF])) w):=by
 obtain⟨s1,e1,l1⟩:=eX (dec a) 21 (eI _ h4);obtain⟨s2,e2,l2⟩:=eX (dec b) 21 (eI _ h5);obtain⟨s3,e3,l3⟩:=eX (dec aE) 21 (eI _ h6);obtain⟨s4,e4,l4⟩:=eX (dec aF) 21 (eI _ h7);have h:Hid (∀w,U 72 #[a] w (Z (.string s1) w)):=fun w=>by rw[e1];exact lI a w h0 h4
 have i:Hid (∀w,U 72 #[b] w (Z (.string s2) w)):=fun w=>by rw[e2];exact lI b w h1 h5
 have j:Hid (∀w,U 72 #[aE] w (Z (.string s3) w)):=fun w=>by rw[e3];exact lI aE w h2 h6
 have k:Hid (∀w,U 72 #[aF] w (Z (.string s4) w)):=fun w=>by rw[e4];exact lI aF w h3 h7
 have HF:Hid (s1++⟨#[44]⟩++s2++⟨#[44]⟩++s3++⟨#[44]⟩++s4=⟨(bC [a,b,aE,aF]).toArray⟩):=by show _=_;rw[oG,e1,e2,e3,e4];apply Go.WideShapes.bytes_inj;simp[ByteArray.data_append]
 clear e1 e2 e3 e4 h0 h1 h2 h3 h4 h5 h6 h7;have q1: ¬9223372036854775807<s1.size+1:=by omega
 have q2: ¬9223372036854775807<s1.size+1+s2.size:=by omega
 have q3: ¬9223372036854775807<s1.size+1+s2.size+1:=by omega
 have q4: ¬9223372036854775807<s1.size+1+s2.size+1+s3.size:=by omega
 have q5: ¬9223372036854775807<s1.size+1+s2.size+1+s3.size+1:=by omega
 have q6: ¬9223372036854775807<s1.size+1+s2.size+1+s3.size+1+s4.size:=by omega
 have B0:Hid (Blk (w.alloc (.cells #[a,b,aE,aF] 26)) w 26 #[a,b,aE,aF]):=Blk.new w _ _;have X0:Hid (Ext w (w.alloc (.cells #[a,b,aE,aF] 26))):=(Ext.refl w).alloc _;go_enter func119,ntmps119;go_wp2
 go_region_held3 (fun w'=>w'.cell? ⟨w,0,none⟩=some (I a)∧w'.cell? ⟨w,1,none⟩=some (I b)∧w'.cell? ⟨w,2,none⟩=some (I aE)∧w'.cell? ⟨w,3,none⟩=some (I aF)) (first|(refine⟨?_,?_,?_,?_⟩<;>assumption)|go_keep)
  ((go_at_call 72;(first
    |((with_reducible refine(h _).mono ?_)
      rintro e w1 ⟨rfl,c⟩;(try replace c:=c.of_drew);have B1:=xQ (B0.out.ext c);have X1:=xQ (X0.out.trans c);skip;clear c;have l:=B1.out.cl 0;have m:=B1.out.cl 1;have n:=B1.out.cl 2
      have o:w1.cell? ⟨w,3,none⟩=some (I aF):=B1.out.cell 3)
    |((with_reducible refine(i _).mono ?_)
      rintro e w2 ⟨rfl,d⟩;(try replace d:=d.of_drew);have B2:=xQ (B1.out.ext d);have X2:=xQ (X1.out.trans d);skip;clear d;have p:=B2.out.cl 0;have q:=B2.out.cl 1;have r:=B2.out.cl 2
      have s:w2.cell? ⟨w,3,none⟩=some (I aF):=B2.out.cell 3)
    |((with_reducible refine(j _).mono ?_)
      rintro e w3 ⟨rfl,f⟩;(try replace f:=f.of_drew);have B3:=xQ (B2.out.ext f);have X3:=xQ (X2.out.trans f);skip;clear f;have t:=B3.out.cl 0;have u:=B3.out.cl 1;have v:=B3.out.cl 2
      have x:w3.cell? ⟨w,3,none⟩=some (I aF):=B3.out.cell 3)
    |((with_reducible refine(k _).mono ?_)
      rintro e w4 ⟨rfl,g⟩;(try replace g:=g.of_drew);have B4:=xQ (B3.out.ext g);have X4:=xQ (X3.out.trans g);skip;clear g;have y:=B4.out.cl 0;have z:=B4.out.cl 1;have aa:=B4.out.cl 2
      have ab:w4.cell? ⟨w,3,none⟩=some (I aF):=B4.out.cell 3))))
 all_goals go_wp2
 all_goals go_ret
 all_goals exact⟨aG9 HF.out,X4.out⟩
theorem aBc (aA aB a b aE aF aC aG:Int)(p:OA)(n c:Nat)(q:OA)(m c2:Nat)(w:World)(HV:xB 15 #[.agg #[aA,aB,.slice p n c,a,b,aE,aF,aC,aG,.slice q m c2]] w false):
  U 73 #[.agg #[aA,aB,.slice p n c,a,b,aE,aF,aC,aG,.slice q m c2]] w (Z (str []) w):=by
 go_enter func73,ntmps73;go_wp2_with fail;refine Ω (HV _ (by exact .alloc (.refl _) _)) fun w1 d=>?_
 go_wp2;go_ret;exact⟨rfl,by exact .trans (.alloc (.refl _) _) d⟩
theorem aQf (s1 s2 s3 s4:ByteArray)(p1 p2 p3 p4:List UInt8)(e1:s1=⟨p1.toArray⟩)(e2:s2=⟨p2.toArray⟩)(e3:s3=⟨p3.toArray⟩)(e4:s4=⟨p4.toArray⟩):
  s1++⟨#[59]⟩++s2++⟨#[59]⟩++s3++⟨#[59]⟩++s4=⟨(eT 59 [p1,p2,p3,p4]).toArray⟩:=by
 rw[e1,e2,e3,e4];apply Go.WideShapes.bytes_inj;simp[ByteArray.data_append,eT,mK]
theorem aL0 (S t1 t2 t3 t4:ByteArray)(a0 a1 a2 a3:Int)(P:List UInt8)(e0:S=⟨P.toArray⟩)(e1:t1=⟨(dec a0).toArray⟩)(e2:t2=⟨(dec a1).toArray⟩)(e3:t3=⟨(dec a2).toArray⟩)(e4:t4=⟨(dec a3).toArray⟩):
  S++⟨#[59]⟩++t1++⟨#[44]⟩++t2++⟨#[44]⟩++t3++⟨#[44]⟩++t4=⟨(P++59::bC [a0,a1,a2,a3]).toArray⟩:=by
 rw[e0,e1,e2,e3,e4,oG];apply Go.WideShapes.bytes_inj;simp[ByteArray.data_append]
theorem aDq (aA aB a c aE aF aC aG:Int)(p:OA)(n d:Nat)(q:OA)(m c2:Nat)(w:World)(vs:List aU)(p1 p2 p3 p4:List UInt8)(l1:p1.length≤400)(l2:p2.length≤100)(l3:p3.length≤30)(l4:p4.length≤30)(hm:m≤12)(HS:Hid (Sl w q m c2 4 (vs.flatMap aD)))
  (HG:Hid (∀v∈vs,0≤v.1∧v.1≤99999∧0≤v.2.1∧v.2.1≤99999∧0≤v.2.2.1∧v.2.2.1≤99999∧0≤v.2.2.2∧v.2.2.2≤99999))
  (HV:xB 15 #[.agg #[aA,aB,.slice p n d,a,c,aE,aF,aC,aG,.slice q m c2]] w true)
  (H1:xC 118 #[aH aA aB p n d] w fun w' e w''=>e= .returned (str p1)∧Ext w' w'')
  (H2:Hid (∀w',U 119 #[aV a c aE aF] w' (Z (str p2) w')))
  (H3:Hid (∀w',U 72 #[aC] w' (Z (str p3) w')))
  (H4:Hid (∀w',U 72 #[aG] w' (Z (str p4) w'))):
  U 73 #[.agg #[aA,aB,.slice p n d,a,c,aE,aF,aC,aG,.slice q m c2]] w (Z (str (eT 59 ([p1,p2,p3,p4]++vs.map (fun v=>bC (bR v))))) w):=by
 obtain⟨s1,e1,m1⟩:=eX p1 400 l1;obtain⟨s2,e2,m2⟩:=eX p2 100 l2;obtain⟨s3,e3,m3⟩:=eX p3 30 l3;obtain⟨s4,e4,m4⟩:=eX p4 30 l4;have cj:xC 118 #[aH aA aB p n d] w fun w' e w''=>e= .returned (.string s1)∧Ext w' w'':=by rw[e1];exact H1.out
 have ck:Hid (∀w',U 119 #[aV a c aE aF] w' (Z (.string s2) w')):=by rw[e2];exact H2.out
 have cm:Hid (∀w',U 72 #[aC] w' (Z (.string s3) w')):=by rw[e3];exact H3.out
 have cn:Hid (∀w',U 72 #[aG] w' (Z (.string s4) w')):=by rw[e4];exact H4.out
 have HF:=xQ (aQf s1 s2 s3 s4 p1 p2 p3 p4 e1 e2 e3 e4);have hl:Hid (vs.length=m):=by have:=HS.out.len;rw[eA aD 4 (fun _=>rfl)]at this;exact(by omega:vs.length=m)
 clear e1 e2 e3 e4 l1 l2 l3 l4 H1 H2 H3 H4;have q1: ¬9223372036854775807<s1.size+1:=by omega
 have q2: ¬9223372036854775807<s1.size+1+s2.size:=by omega
 have q3: ¬9223372036854775807<s1.size+1+s2.size+1:=by omega
 have q4: ¬9223372036854775807<s1.size+1+s2.size+1+s3.size:=by omega
 have q5: ¬9223372036854775807<s1.size+1+s2.size+1+s3.size+1:=by omega
 have q6: ¬9223372036854775807<s1.size+1+s2.size+1+s3.size+1+s4.size:=by omega
 go_enter func73,ntmps73;go_wp2_with fail;refine Ω (HV _ (by exact .alloc (.refl _) _)) fun w0 x=>?_
 have B0:Hid (Blk w0 w 29 #[aA,aB,.slice p n d,a,c,aE,aF,aC,aG,.slice q m c2]):=(Blk.new w _ _).ext x;have X0:Hid (Ext w w0):=by show Ext w w0;exact .trans (.alloc (.refl _) _) x
 clear x;obtain⟨a0,a1,a2,a3,a4,a5,a6,a7,a8,a9⟩:=B0.out.ten;go_wp2
 go_region_held3 (fun w'=>w'.cell? ⟨w,0,none⟩=some (I aA)∧w'.cell? ⟨w,1,none⟩=some (I aB)∧w'.cell? ⟨w,2,none⟩=some (.slice p n d)∧w'.cell? ⟨w,3,none⟩=some (I a)∧w'.cell? ⟨w,4,none⟩=some (I c)∧w'.cell? ⟨w,5,none⟩=some (I aE)∧w'.cell? ⟨w,6,none⟩=some (I aF)∧w'.cell? ⟨w,7,none⟩=some (I aC)∧w'.cell? ⟨w,8,none⟩=some (I aG)∧w'.cell? ⟨w,9,none⟩=some (.slice q m c2)) (first|(refine⟨?_,?_,?_,?_,?_,?_,?_,?_,?_,?_⟩<;>assumption)|go_keep)
  ((first
    |(go_at_call 118;(with_reducible refine(cj _ (by first|exact X0.out|exact X0.out.drew)).mono ?_)
      rintro e w1 ⟨rfl,l⟩;(try replace l:=l.of_drew);have B1:=xQ (B0.out.ext l);have X1:=xQ (X0.out.trans l);skip;clear l;have z:=B1.out.cl 0;have aa:=B1.out.cl 1;have ab:=B1.out.cl 2;have ad:=B1.out.cl 3;have ae:=B1.out.cl 4;have af:=B1.out.cl 5;have ag:=B1.out.cl 6;have ah:=B1.out.cl 7;have ai:=B1.out.cl 8
      have aj:w1.cell? ⟨w,9,none⟩=some (.slice q m c2):=B1.out.cell 9)
    |(go_at_call 119;(with_reducible refine(ck _).mono ?_)
      rintro e w2 ⟨rfl,r⟩;(try replace r:=r.of_drew);have B2:=xQ (B1.out.ext r);have X2:=xQ (X1.out.trans r);skip;clear r;have ak:=B2.out.cl 0;have al:=B2.out.cl 1;have am:=B2.out.cl 2;have an:=B2.out.cl 3;have ao:=B2.out.cl 4;have ap:=B2.out.cl 5;have aq:=B2.out.cl 6;have ar:=B2.out.cl 7;have au:=B2.out.cl 8
      have av:w2.cell? ⟨w,9,none⟩=some (.slice q m c2):=B2.out.cell 9)
    |(go_at_call 72;(with_reducible refine(cm _).mono ?_)
      rintro e w3 ⟨rfl,s⟩;(try replace s:=s.of_drew);have B3:=xQ (B2.out.ext s);have X3:=xQ (X2.out.trans s);skip;clear s;have aw:=B3.out.cl 0;have ax:=B3.out.cl 1;have ay:=B3.out.cl 2;have az:=B3.out.cl 3;have ba:=B3.out.cl 4;have bb:=B3.out.cl 5;have bc:=B3.out.cl 6;have bd:=B3.out.cl 7;have be:=B3.out.cl 8
      have bf:w3.cell? ⟨w,9,none⟩=some (.slice q m c2):=B3.out.cell 9)
    |(go_at_call 72;(with_reducible refine(cn _).mono ?_)
      rintro e w4 ⟨rfl,t⟩;(try replace t:=t.of_drew);have B4:=xQ (B3.out.ext t);have X4:=xQ (X3.out.trans t);skip;clear t;have bg:=B4.out.cl 0;have bh:=B4.out.cl 1;have bi:=B4.out.cl 2;have bj:=B4.out.cl 3;have bk:=B4.out.cl 4;have bl:=B4.out.cl 5;have bm:=B4.out.cl 6;have bn:=B4.out.cl 7;have bo:=B4.out.cl 8
      have bp:w4.cell? ⟨w,9,none⟩=some (.slice q m c2):=B4.out.cell 9)))
 clear q1 q2 q3 q4 q5 q6 z aa ab ad ae af ag ah ai aj ak al am an ao ap aq ar au av aw ax ay az ba bb bc bd be bf bg bh bi bj bk bl bm bn bo bp a0 a1 a2 a3 a4 a5 a6 a7 a8 a9;have b9:=B4.out.cl 9;go_wp2;clear b9;go_loopw [3,4] (fun o i wr=> ∃(k:Nat) (S:ByteArray),k≤m∧i=I k∧o= .string S∧S=⟨(eT 59 ([p1,p2,p3,p4]++(vs.take k).map (fun v=>bC (bR v)))).toArray⟩∧S.size≤700+100*k∧Ext w wr∧Blk wr w 29 #[aA,aB,.slice p n d,a,c,aE,aF,aC,aG,.slice q m c2]) (fun _ i _=>m-(intOf i).toNat)
 case atStart=>exact⟨0,_,aT8 _,rfl,rfl,by rw[HF.out];simp,by simp only[ByteArray.size_append,aSm];omega,X4.out,B4.out⟩
 case round=>
  obtain⟨k,S,hk,rfl,rfl,hS,b7,hE,hB⟩:=hrel;have y:=xQ hS;have u:=xQ hB;have cw:(w:Nat)<wr:=hB.lt;clear X4 B4 hS hB HF;by_cases hlt:k<m
  ·obtain⟨b,cx,a0,a1,a2,a3,rfl,hv,hb,g0,g1,g2,g3⟩:=gQ (HS.out.ext hE) hlt;obtain⟨v0,ca,v1,cb,v2,cc,v3,cd⟩:=HG _ (aT4 hv);dsimp only at v0 ca v1 cb v2 cc v3 cd;have cu:Hid (eT 59 ([p1,p2,p3,p4]++(vs.take (k+1)).map (fun v=>bC (bR v)))=eT 59 ([p1,p2,p3,p4]++(vs.take k).map (fun v=>bC (bR v)))++59::bC [a0,a1,a2,a3]):=by
    show _=_;rw[aZ hv,aTu];simp[eT,mK,bR]
   obtain⟨t1,e1,m1⟩:=eX (dec a0) 21 (eI _ (by omega));obtain⟨t2,e2,m2⟩:=eX (dec a1) 21 (eI _ (by omega));obtain⟨t3,e3,m3⟩:=eX (dec a2) 21 (eI _ (by omega));obtain⟨t4,e4,m4⟩:=eX (dec a3) 21 (eI _ (by omega));have co:Hid (∀w,U 72 #[a0] w (Z (.string t1) w)):=fun w=>by rw[e1];exact lI a0 w v0 (by omega)
   have cp:Hid (∀w,U 72 #[a1] w (Z (.string t2) w)):=fun w=>by rw[e2];exact lI a1 w v1 (by omega)
   have cq:Hid (∀w,U 72 #[a2] w (Z (.string t3) w)):=fun w=>by rw[e3];exact lI a2 w v2 (by omega)
   have cr:Hid (∀w,U 72 #[a3] w (Z (.string t4) w)):=fun w=>by rw[e4];exact lI a3 w v3 (by omega)
   have cv:S.size≤1900:=by omega
   have cs:=xQ b7;have ct:=xQ (aL0 S t1 t2 t3 t4 a0 a1 a2 a3 _ y e1 e2 e3 e4);clear e1 e2 e3 e4 v0 ca v1 cb v2 cc v3 cd hv b7;have i1:(0:Int)≤(k:Int):=by omega
   have i2:(k:Int)<(m:Int):=by omega
   have r1: ¬9223372036854775807<S.size+1:=by omega
   have r2: ¬9223372036854775807<S.size+1+t1.size:=by omega
   have r3: ¬9223372036854775807<S.size+1+t1.size+1:=by omega
   have r4: ¬9223372036854775807<S.size+1+t1.size+1+t2.size:=by omega
   have r5: ¬9223372036854775807<S.size+1+t1.size+1+t2.size+1:=by omega
   have r6: ¬9223372036854775807<S.size+1+t1.size+1+t2.size+1+t3.size:=by omega
   have r7: ¬9223372036854775807<S.size+1+t1.size+1+t2.size+1+t3.size+1:=by omega
   have r8: ¬9223372036854775807<S.size+1+t1.size+1+t2.size+1+t3.size+1+t4.size:=by omega
   have B4:Hid (Blk (wr.alloc (.cells #[a0,a1,a2,a3] 68)) wr 68 #[a0,a1,a2,a3]):=Blk.new wr _ _;have X4:Hid (Ext w (wr.alloc (.cells #[a0,a1,a2,a3] 68))):=hE.alloc _;have ce:=xQ (u.out.alloc (.cells #[a0,a1,a2,a3] 68));have b9:=u.out.cl 9;go_wp2;go_region_held3 (fun w'=>w'.cell? ⟨wr,0,none⟩=some (I a0)∧w'.cell? ⟨wr,1,none⟩=some (I a1)∧w'.cell? ⟨wr,2,none⟩=some (I a2)∧w'.cell? ⟨wr,3,none⟩=some (I a3)) (first|(refine⟨?_,?_,?_,?_⟩<;>assumption)|go_keep)
  ((go_at_call 72;(first
      |((with_reducible refine(co _).mono ?_)
        rintro e w5 ⟨rfl,f⟩;(try replace f:=f.of_drew);have B5:=xQ (B4.out.ext f);have X5:=xQ (X4.out.trans f);have cf:=xQ (ce.out.ext f);clear f;have bq:=B5.out.cl 0;have br:=B5.out.cl 1;have bs:=B5.out.cl 2
        have bt:w5.cell? ⟨wr,3,none⟩=some (I a3):=B5.out.cell 3)
      |((with_reducible refine(cp _).mono ?_)
        rintro e w6 ⟨rfl,g⟩;(try replace g:=g.of_drew);have B6:=xQ (B5.out.ext g);have X6:=xQ (X5.out.trans g);have cg:=xQ (cf.out.ext g);clear g;have bu:=B6.out.cl 0;have bv:=B6.out.cl 1;have bw:=B6.out.cl 2
        have bx:w6.cell? ⟨wr,3,none⟩=some (I a3):=B6.out.cell 3)
      |((with_reducible refine(cq _).mono ?_)
        rintro e w7 ⟨rfl,h⟩;(try replace h:=h.of_drew);have B7:=xQ (B6.out.ext h);have X7:=xQ (X6.out.trans h);have ch:=xQ (cg.out.ext h);clear h;have bz:=B7.out.cl 0;have b0:=B7.out.cl 1;have b1:=B7.out.cl 2
        have b2:w7.cell? ⟨wr,3,none⟩=some (I a3):=B7.out.cell 3)
      |((with_reducible refine(cr _).mono ?_)
        rintro e w8 ⟨rfl,j⟩;(try replace j:=j.of_drew);have B8:=xQ (B7.out.ext j);have X8:=xQ (X7.out.trans j);have ci:=xQ (ch.out.ext j);clear j;have b3:=B8.out.cl 0;have b4:=B8.out.cl 1;have b5:=B8.out.cl 2
        have b6:w8.cell? ⟨wr,3,none⟩=some (I a3):=B8.out.cell 3))))
   clear bq br bs bt bu bv bw bx bz b0 b1 b2 b3 b4 b5 b6 r1 r2 r3 r4 r5 r6 r7 r8;go_wp2;go_roundw
   case rel=>exact⟨k+1,_,by omega,by go_num,rfl,by rw[ct.out,cu.out],by have:=cs.out;simp only[ByteArray.size_append,aSm,aSw];omega,X8.out,ci.out⟩
   case measure=>simp[intOf];omega
  ·have b8:Hid (eT 59 ([p1,p2,p3,p4]++(vs.take k).map (fun v=>bC (bR v)))=eT 59 ([p1,p2,p3,p4]++vs.map (fun v=>bC (bR v)))):=by
    show _=_;rw[aT7 (by rw[hl.out];omega)]
   have b9:=u.out.cl 9;go_wp2;go_ret;exact⟨aG9 (by rw[y.out,b8.out];rfl),hE⟩
theorem pS {aA aB:Int}{xs:List Int}:(cL aA aB xs).length≤400:=by
 unfold cL;cases h:aO aA aB xs with
 |false=>simp
 |true=>obtain⟨h1,h2,h3,h4,h5,h6,h7,h8,h9⟩:=bQ h;rw[if_pos rfl];have:=oJ aA xs (fun x hx=>(h8 x hx).2) xs.length;omega
theorem pR {h:aS}(f:bJ h=true):aO h.aA h.aB h.cells=true∧0≤h.free∧h.free≤1440∧0≤h.step∧h.step≤1440∧0≤h.aE∧h.aE≤99∧0≤h.aF∧h.aF≤99∧0≤h.aC∧h.aC≤9999∧0≤h.aG∧h.aG≤99999∧h.vs.length≤12∧
  ∀v∈h.vs,0≤v.1∧v.1≤99999∧0≤v.2.1∧v.2.1≤99999∧0≤v.2.2.1∧v.2.2.1≤99999∧0≤v.2.2.2∧v.2.2.2≤99999:=by
 have hv:=(aDd f).2;unfold bJ at f;simp only[aTd]at f;obtain⟨⟨⟨h1,h2⟩,h3⟩,h4⟩:=f;have ht:=jC h2;unfold wQ at h3;simp at h3;obtain⟨q1,q2⟩:=mO h4;obtain⟨_,_,_,_,_,_,_,hc,_⟩:=bQ h1;refine⟨h1,by omega,by omega,by omega,by omega,by omega,by omega,by omega,by omega,by omega,by omega,by omega,by omega,hv.1,fun v hm=> ?_⟩;have a:=q2 v hm;unfold gM at a;rw[aTd]at a;have b:=iB a.1;have c:v.1∈iL h.cells:=by rw[←q1];exact List.mem_map_of_mem hm
 have d:v.1∈eG h.cells:=(kA _).mem_iff.1 c;have e:=hc v.1 (aU0.1 d).1;omega
theorem tE (h:aS)(p:OA)(n a:Nat)(q:OA)(m c2:Nat)(w:World)(hi:IsHouse w h p n a q m c2):
  U 73 #[cY h p n a q m c2] w (Z (str (bI h)) w):=by
 have HV:=fun(w':World) (hx:Ext w w')=>oO h p n a q m c2 w' (hi.ext hx)
 have i:=hi.vlen;unfold bI;cases hok:bJ h with
 |false=>rw[hok]at HV;simpa using aBc h.aA h.aB h.free h.step h.aE h.aF h.aC h.aG p n a q m c2 w HV
 |true=>
  rw[hok]at HV;obtain⟨g0,g1,g2,g3,g4,g5,g6,g7,g8,g9,c,d,f,g,b⟩:=pR hok;rw[if_pos rfl];have l3:=eI h.aC (by omega);have l4:=eI h.aG (by omega);have l2:=oR h.free h.step h.aE h.aF (by omega) (by omega) (by omega) (by omega)
  exact aDq h.aA h.aB h.free h.step h.aE h.aF h.aC h.aG p n a q m c2 w h.vs _ _ _ _ pS (by omega) (by omega) (by omega) (by omega) hi.vs b HV
   (fun w' hx=>uN h.aA h.aB p n a h.cells w' (hi.cells.ext hx)) (fun w'=>zF h.free h.step h.aE h.aF w' (by omega) (by omega) (by omega) (by omega) (by omega) (by omega) (by omega) (by omega))
   (fun w'=>lI h.aC w' (by omega) (by omega)) (fun w'=>lI h.aG w' (by omega) (by omega))
end
end Go.Proofs.YtbgkcehffiogcabGreatDoor
