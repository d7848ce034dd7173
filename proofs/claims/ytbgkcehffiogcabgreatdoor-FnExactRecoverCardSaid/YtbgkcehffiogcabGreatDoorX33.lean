/-
  Texts of this proof, packed (@packed).
-/
import Derived.Test.YtbgkcehffiogcabGreatDoorX32
namespace Go.Proofs.YtbgkcehffiogcabGreatDoor
open Go.RowKit
set_option linter.unusedSimpArgs false
set_option linter.unusedVariables false
set_option maxHeartbeats 8000000
set_option maxRecDepth 100000
section
open Go.Proofs.Tryz
abbrev kD:TypeId:=29
abbrev tC:TypeId:=68
theorem aRr:ElT prog 27 tC 4:=
 ⟨underlying27,by
  obtain⟨i,hi,h0,h1,h2⟩:=info_parts (show(prog.info? tC).map (fun i=>(i.zero,i.size,i.bytes))=some (some (.agg #[(),(),(),()]),4,32) by kernel_rfl)
  exact⟨i,_,hi,h0,h1,by omega,rfl⟩,by omega⟩
theorem Sl.blkS {w:World}{g:Nat}{t:TypeId}{cs:Array Value}(hb:Blk w g t cs):Sl w (some ⟨g,0,none⟩) 1 1 cs.size cs.toList:=by refine⟨by simp,aT2 _,by unfold maxLen;omega,fun _=>⟨g,0,rfl,hb.lt,?_⟩⟩;intro j hj;rw[aU2,hb.cell];simp
theorem aK7 (v:aU): ∀u∈aD v,u.oneCell'=true:=by intro u hu;simp only[aD,aTj,List.not_mem_nil,or_false]at hu;rcases hu with rfl|rfl|rfl|rfl<;>rfl
def aKy (r:aS)(b:Bool)(w:World)(e:Ending)(w':World):Prop:=
 ∃p c q d,e= .returned (.tuple #[cY r p r.cells.length c q r.vs.length d,.bool b])∧w'.ownsRow w.heap.size TI 1 (.slice p r.cells.length c) r.cells.length (ivs r.cells)∧
  w'.ownsRow w.heap.size tC 4 (.slice q r.vs.length d) r.vs.length (r.vs.flatMap aD)∧Ext w w'
theorem fK {o:Option aS}{w w':World}(h:o=none)(hx:Ext w w'):aKy (o.getD lR) o.isSome w (.returned (.tuple #[.agg #[(),(),((),()),(),(),(),(),(),(),((),())],.bool false])) w':=by subst h;exact⟨none,0,none,0,rfl,aTl _ _ _ _,aTl _ _ _ _,hx⟩
theorem zQ {o:Option aS}{W D f s pr cp ck bk:Int}{xs:List Int}{vs:List aU}{w w':World}{p q:OA}{n c m d:Nat}(h:o=some ⟨W,D,xs,f,s,pr,cp,ck,bk,vs⟩)(hn:n=xs.length)(hm:m=vs.length)
  (ho:w'.ownsRow w TI 1 (.slice p n c) n (ivs xs))(hv:w'.ownsRow w tC 4 (.slice q m d) m (vs.flatMap aD))(hx:Ext w w'):
  aKy (o.getD lR) o.isSome w (.returned (.tuple #[.agg #[W,D,.slice p n c,f,s,pr,cp,ck,bk,.slice q m d],.bool true])) w':=by
 subst h;subst hn;subst hm;exact⟨p,c,q,d,rfl,ho,hv,hx⟩
theorem oW {l:List UInt8}(h:dX (aK 59 l)=false):bF l=none:=by unfold bF;rw[if_neg];rintro⟨a,_⟩;rw[h]at a;simp at a
def dV (ps:List (List UInt8))(k:Nat):List aU:=((ps.drop 4).take k).map (fun p=>rW (lJ p))
theorem tD {ps:List (List UInt8)}{k:Nat}{q:List UInt8}(h:ps[4+k]? =some q):dV ps (k+1)=dV ps k++ [rW (lJ q)]:=by unfold dV;rw[aZ (x:=q) (by rw[List.getElem?_drop];exact h),aTu];rfl
theorem uJ {ps:List (List UInt8)}{k N:Nat}(h:ps.length=N+4)(hk:k≤N):(dV ps k).length=k:=by simp only[dV,aTk,aTq,aTw];omega
theorem aDe {ps:List (List UInt8)}{N:Nat}(h:ps.length=N+4):dV ps N=(ps.drop 4).map (fun p=>rW (lJ p)):=by unfold dV;rw[aT7 (by rw[aTw];omega)]
theorem aGb {p:List UInt8}{xs:List Int}(h:bP 1 p=some xs):xs= [fC p]:=by
 unfold bP at h;split at h
 ·rename_i hc;cases h
  have h1:aK 44 p= [p]:=by
   obtain⟨a,ha⟩:=List.length_eq_one_iff.1 hc.1;have hj:(44:UInt8)∉p:=by intro hm;obtain⟨x,y,rfl,hx⟩:=sS 44 p hm;rw[hU 44 x y hx]at ha;simp only[List.cons.injEq]at ha;exact absurd ha.2 (eN 44 y)
   exact kP 44 p hj
  rw[h1];have h2:=aTp.1 hc.2 p (by rw[h1];simp);cases hr:bH 5 p with
  |none=>rw[hr]at h2;simp at h2
  |some x=>simp[fC,hr]
 simp at h
theorem sM {xs:List Int}(h:xs.length=4): ∃a b c d,xs= [a,b,c,d]:=by
 match xs,h with
 | [a,b,c,d],_=>exact⟨a,b,c,d,rfl⟩
theorem aGe {m:Nat}{p:List UInt8}{xs:List Int}(h:bP m p=some xs):xs.length=m:=by have:=nA h;rw[←this.1];simp[lJ,this.2]
theorem cR {w:World}{base n:Nat}{g a:Nat}{xs:List Int}(h:w.ownsRow base TI 1 (.slice (some ⟨g,0,none⟩) n a) n (ivs xs))(k:Nat)(hk:k<n)(x:Int)(hx:xs[k]? =some x):w.cell? ⟨g,k,none⟩=some (I x):=by rw[h.cellAt k (by omega)];simp[ivs,iv,hx]
theorem aPx {ps:List (List UInt8)}(h4:4≤ps.length){o0:aDa}{t:List Int}{x y:List Int}(h0:dA (fS ps 0)=some o0)(h1:bP 4 (fS ps 1)=some t)(h2:bP 1 (fS ps 2)=some x)(h3:bP 1 (fS ps 3)=some y):
  dX ps=(ps.drop 4).all (fun p=>(bP 4 p).isSome):=by
 simp[dX,h4,h0,h1,h2,h3]
theorem vK {ps:List (List UInt8)}(h:(dA (fS ps 0)).isSome=false∨(bP 4 (fS ps 1)).isSome=false∨(bP 1 (fS ps 2)).isSome=false∨(bP 1 (fS ps 3)).isSome=false):dX ps=false:=by unfold dX;rcases h with h|h|h|h<;>simp[h]
theorem aMy {ps:List (List UInt8)}{k:Nat}{q:List UInt8}(hk:ps[4+k]? =some q) (h:bP 4 q=none):dX ps=false:=by unfold dX;rw[Bool.and_eq_false_iff];right;rw[List.all_eq_false];refine⟨q,?_,by simp[h]⟩;rw[List.mem_iff_getElem?];exact⟨k,by rw[List.getElem?_drop];exact hk⟩
theorem aA2 {ps:List (List UInt8)}{N:Nat}(hl:ps.length=N+4){W D:Int}{xs:List Int}(h0:(dA (fS ps 0)).getD (0,0,[])=(W,D,xs)){t:List Int}(ht:lJ (fS ps 1)=t):
  dB ps=⟨W,D,xs,at4 t 0,at4 t 1,at4 t 2,at4 t 3,fC (fS ps 2),fC (fS ps 3),dV ps N⟩:=by
 unfold dB;rw[h0,ht,aDe hl]
theorem zX {l:List UInt8}(h:dX (aK 59 l)=true):bF l=if bJ (dB (aK 59 l))=true∧bI (dB (aK 59 l))=l then some (dB (aK 59 l))else none:=by unfold bF;simp[h]
theorem zW {l:List UInt8}(h4:4≤(aK 59 l).length)(h:eZ (aK 59 l)=true):bF l=if bI (dB (aK 59 l))=l then some (dB (aK 59 l))else none:=by
 rw[xO];by_cases ht:bI (dB (aK 59 l))=l
 ·have a:bJ (dB (aK 59 l))=true:=by
   cases hq:bJ (dB (aK 59 l))with
   |true=>rfl
   |false=>
    have e:l= []:=by rw[←ht];unfold bI;rw[if_neg (by simp[hq])]
    rw[e]at h4;simp[aK]at h4
  rw[if_pos ⟨h,a,ht⟩,if_pos ht]
 rw[if_neg (fun hc=>ht hc.2.2),if_neg ht]
theorem sO {l:List UInt8}(h:eZ (aK 59 l)=false):bF l=none:=by rw[xO,if_neg];rintro⟨a,_⟩;rw[h]at a;simp at a
theorem aCy {ps:List (List UInt8)}(h:(dA (fS ps 0)).isSome=false∨ ¬(aK 44 (fS ps 1)).length=4):eZ ps=false:=by unfold eZ;rcases h with h|h<;>simp[h]
theorem aJs {ps:List (List UInt8)}{k:Nat}{q:List UInt8}(hk:ps[4+k]? =some q) (h: ¬(aK 44 q).length=4):eZ ps=false:=by unfold eZ;rw[Bool.and_eq_false_iff];right;rw[List.all_eq_false];refine⟨q,?_,by simp[h]⟩;rw[List.mem_iff_getElem?];exact⟨k,by rw[List.getElem?_drop];exact hk⟩
theorem kX {ps:List (List UInt8)}{k:Nat}{q:List UInt8}(h:ps[k]? =some q):fS ps k=q:=by simp[fS,h]
end
section
open Go
theorem Blk.putx {w w5 w9:World}{t:TypeId}{a0 a1 a2 a3 a4 a5 a6 a7 a8 a9 b0 b1 b2 b3 b4 b5 b6 b7 b8 b9:Value}(H:Blk w5 w t #[a0,a1,a2,a3,a4,a5,a6,a7,a8,a9])(X:Ext w w5)(h9:((((((((((w5.setCell ⟨w,0,none⟩ b0).setCell ⟨w,1,none⟩ b1).setCell ⟨w,2,none⟩ b2).setCell ⟨w,3,none⟩ b3).setCell ⟨w,4,none⟩ b4).setCell ⟨w,5,none⟩ b5).setCell ⟨w,6,none⟩ b6).setCell ⟨w,7,none⟩ b7).setCell ⟨w,8,none⟩ b8).setCell ⟨w,9,none⟩ b9)=w9):Blk w9 w t #[b0,b1,b2,b3,b4,b5,b6,b7,b8,b9]∧ExtR w w5 w9∧Ext w w9:=by
 subst h9;have hR:=(((((((((((ExtR.refl _ w5).setCell (p:=⟨w,0,none⟩) (.inl rfl) b0).setCell (p:=⟨w,1,none⟩) (.inl rfl) b1).setCell (p:=⟨w,2,none⟩) (.inl rfl) b2).setCell (p:=⟨w,3,none⟩) (.inl rfl) b3).setCell (p:=⟨w,4,none⟩) (.inl rfl) b4).setCell (p:=⟨w,5,none⟩) (.inl rfl) b5).setCell (p:=⟨w,6,none⟩) (.inl rfl) b6).setCell (p:=⟨w,7,none⟩) (.inl rfl) b7).setCell (p:=⟨w,8,none⟩) (.inl rfl) b8).setCell (p:=⟨w,9,none⟩) (.inl rfl) b9)
 have Y:=((((((((((H.set 0 b0).set 1 b1).set 2 b2).set 3 b3).set 4 b4).set 5 b5).set 6 b6).set 7 b7).set 8 b8).set 9 b9)
 simp only[aTh,aTe,aTf]at Y;exact⟨Y,hR,ExtR.new X hR (aT2 _)⟩
end
section
open Go.Proofs.Tryz
theorem aBq (l:List UInt8)(w:World)(hs:l.length≤1048576)(hE:Env w):U 63 #[str l] w (aKy ((bF l).getD lR) (bF l).isSome w):=by
 have HS:Hid (∀w,Env w→U 109 #[str l,.string ⟨#[59]⟩] w fun e w'=> ∃v,e= .returned v∧w'.ownsRow w qC 1 v (aK 59 l).length (eQ (aK 59 l))∧Ext w w'):=
  fun w hE=>rZ ⟨l.toArray⟩ 59 w (by simp only[ByteArray.size,List.size_toArray];omega) hE
 have a8:=eC 59 l;have HL:Hid (∀p∈aK 59 l,p.length<4294967281):=fun p hp=>Nat.lt_of_le_of_lt (a8.1 p hp) (by omega)
 have HE:=xQ hE;have ew:=a8.2;have dq:0<(aK 59 l).length:=List.length_pos_iff.2 (eN 59 l);clear a8 hE;go_enter func63,ntmps63;go_wp2_with fail;refine(HS _ (HE.out.ext xE)).mono ?_;rintro e w1 ⟨v,rfl,bt,h1⟩;have j:=xQ (show w1.ownsRow (w.heap.size+1) qC 1 v (aK 59 l).length (eQ (aK 59 l)) by simpa using bt);have dj:Ext w w1:=xE;have a:Hid (Blk w1 w kD #[(),(),((),()),(),(),(),(),(),(),((),())]):=(Blk.new w _ _).ext h1;have fu:(w:Nat)<w1:=a.out.lt;have ai:=xQ dj;clear bt h1 dj;obtain⟨gr,cr,rfl⟩:=aTc j.out dq;generalize di:(aK 59 l).length=R at*;have av:=xQ di;clear di;have X1:=xQ (Ext.refl w1);by_cases hR3:R<4
 ·have aj:Hid (bF l=none):=oW (by unfold dX;rw[av.out];simp;omega);have dh:(R:Int)<4:=by omega
  obtain⟨z0,m,z1,o,z2,r,z3,aa,z4,ab,z5,ad,z6,ae,z7,af,z8,ag,z9,ah⟩:=(a.out.ext (Ext.refl w1)).tenf;have ao:(w:Nat)<w1:=(a.out.ext (Ext.refl w1)).lt;go_wp2;generalize c:World.setCell _ _ _=w9;obtain⟨Y9,g,X9⟩:=(a.out.ext (Ext.refl w1)).putx (ai.out.trans (Ext.refl w1)) c;clear c g z0 z1 z2 z3 z4 z5 z6 z7 z8 z9 m o r aa ab ad ae af ag ah;obtain⟨y0,y1,y2,y3,y4,y5,y6,y7,y8,y9⟩:=Y9.ten;exact bodyPost_ret (v:= .tuple #[.agg #[(),(),((),()),(),(),(),(),(),(),((),())],.bool false]) (by simp[results,results63,go_sem, *]) rfl (fK aj.out X9)
 have dh: ¬(R:Int)<4:=by omega
 obtain⟨p0,bn⟩: ∃q,(aK 59 l)[0]? =some q:=⟨_,aT3 (by rw[av.out];omega)⟩
 have d4:=xQ bn;have ca:Hid (fS (aK 59 l) 0=p0):=kX bn;have es:p0.length<4294967281:=HL p0 (aT4 bn);clear bn;obtain⟨p1,bo⟩: ∃q,(aK 59 l)[1]? =some q:=⟨_,aT3 (by rw[av.out];omega)⟩
 have d5:=xQ bo;have cb:Hid (fS (aK 59 l) 1=p1):=kX bo;have et:p1.length<4294967281:=HL p1 (aT4 bo);clear bo;obtain⟨p2,bp⟩: ∃q,(aK 59 l)[2]? =some q:=⟨_,aT3 (by rw[av.out];omega)⟩
 have d6:=xQ bp;have cc:Hid (fS (aK 59 l) 2=p2):=kX bp;have eu:p2.length<4294967281:=HL p2 (aT4 bp);clear bp;obtain⟨p3,bq⟩: ∃q,(aK 59 l)[3]? =some q:=⟨_,aT3 (by rw[av.out];omega)⟩
 have d7:=xQ bq;have cd:Hid (fS (aK 59 l) 3=p3):=kX bq;have ev:p3.length<4294967281:=HL p3 (aT4 bq);clear bq;obtain⟨W,D,xs,b0,H0,bu⟩: ∃(W D:Int) (xs:List Int) (b:Bool),Hid ((dA p0).getD (0,0,[])=(W,D,xs))∧Hid ((dA p0).isSome=b):=⟨_,_,_,_,rfl,rfl⟩
 have c6:Hid (∀w,Env w→U 110 #[str p0] w fun e w'=> ∃p n cap,n=xs.length∧e= .returned (.tuple #[aH W D p n cap,.bool b0])∧w'.ownsRow w TI 1 (.slice p n cap) n (ivs xs)∧Ext w w'):=by intro w hE;have h:=aEo p0 w es hE;unfold pA at h;rw[H0.out,bu.out]at h;exact h
 obtain⟨y1,b1,N1,be⟩: ∃(y:List Int) (b:Bool),Hid ((bP 4 p1).getD []=y)∧Hid ((bP 4 p1).isSome=b):=⟨_,_,rfl,rfl⟩
 have cy:Hid (∀w,Env w→U 111 #[str p1,I 4] w fun e w'=> ∃p n cap,n=y1.length∧e= .returned (.tuple #[.slice p n cap,.bool b1])∧w'.ownsRow w TI 1 (.slice p n cap) n (ivs y1)∧Ext w w'):=by intro w hE;have h:=vD p1 4 w (by omega) (by omega) et hE;unfold sW at h;rw[N1.out,be.out]at h;exact h
 obtain⟨y2,b2,N2,bf⟩: ∃(y:List Int) (b:Bool),Hid ((bP 1 p2).getD []=y)∧Hid ((bP 1 p2).isSome=b):=⟨_,_,rfl,rfl⟩
 have cz:Hid (∀w,Env w→U 111 #[str p2,I 1] w fun e w'=> ∃p n cap,n=y2.length∧e= .returned (.tuple #[.slice p n cap,.bool b2])∧w'.ownsRow w TI 1 (.slice p n cap) n (ivs y2)∧Ext w w'):=by intro w hE;have h:=vD p2 1 w (by omega) (by omega) eu hE;unfold sW at h;rw[N2.out,bf.out]at h;exact h
 obtain⟨y3,b3,N3,bg⟩: ∃(y:List Int) (b:Bool),Hid ((bP 1 p3).getD []=y)∧Hid ((bP 1 p3).isSome=b):=⟨_,_,rfl,rfl⟩
 have c0:Hid (∀w,Env w→U 111 #[str p3,I 1] w fun e w'=> ∃p n cap,n=y3.length∧e= .returned (.tuple #[.slice p n cap,.bool b3])∧w'.ownsRow w TI 1 (.slice p n cap) n (ivs y3)∧Ext w w'):=by intro w hE;have h:=vD p3 1 w (by omega) (by omega) ev hE;unfold sW at h;rw[N3.out,bg.out]at h;exact h
 have au:gr<w1:=(j.out.lt gr rfl).2;have e0:w1.cell? ⟨gr,0,none⟩=some (str p0):=aW j.out 0 (by omega) _ d4.out;go_wp2_with fail;refine(c6 _ (HE.out.ext (ai.out.trans xE))).mono ?_;rintro e w2 ⟨p,n,cap,dn,rfl,oh,cn⟩;have eb:=xQ dn;clear dn;have X2:=xQ (show Ext w1 w2 from xE);have ed:=xQ (bD oh (show w1.heap.size≤_ by simp));have z2:(w1:Nat)≤w2:=X2.out.sz;clear oh cn e0;have ff:gr<w2:=aT1 au X2.out.sz;have e1:w2.cell? ⟨gr,1,none⟩=some (str p1):=aW (aP j.out X2.out) 1 (by omega) _ d5.out;go_wp2_with fail;refine(cy (w2.alloc (.cells #[W,D,.slice p n cap] mM)) (HE.out.ext (ai.out.trans (X2.out.trans ((Ext.refl _).alloc _))))).mono ?_;rintro e w3 ⟨t1,n1,c1,a9,rfl,dt,dr⟩;have c8:=xQ a9;clear a9;have cu:=xQ ((Blk.new w2 mM #[W,D,.slice p n cap]).ext dr);have aw:Ext w2 w3:=xE;have X3:=xQ (X2.out.trans aw);have dc:=xQ (bD dt (show w1.heap.size≤_ by first|(simp;omega)|omega));have ee:=xQ (aP ed aw);have z3:(w2:Nat)≤w3:=aw.sz;clear dr aw dt e1;have fj:(w2:Nat)<w3:=cu.out.lt;have fg:gr<w3:=aT1 au X3.out.sz;have e2:w3.cell? ⟨gr,2,none⟩=some (str p2):=aW (aP j.out X3.out) 2 (by omega) _ d6.out;go_wp2_with fail;refine(cz w3 (HE.out.ext (ai.out.trans (X3.out.trans (Ext.refl _))))).mono ?_;rintro e w4 ⟨t2,n2,c2,ba,rfl,du,cn⟩;have c9:=xQ ba;clear ba;have ax:Ext w3 w4:=xE;have dx:=xQ (cu.out.ext ax);have dd:=xQ (aP dc ax);have X4:=xQ (X3.out.trans ax);have de:=xQ (bD du (show w1.heap.size≤_ by first|(simp;omega)|omega));have ef:=xQ (aP ee ax);have z4:(w3:Nat)≤w4:=ax.sz;clear cn ax du e2;have fh:gr<w4:=aT1 au X4.out.sz;have e3:w4.cell? ⟨gr,3,none⟩=some (str p3):=aW (aP j.out X4.out) 3 (by omega) _ d7.out;go_wp2_with fail;refine(c0 w4 (HE.out.ext (ai.out.trans (X4.out.trans (Ext.refl _))))).mono ?_;rintro e w5 ⟨t3,n3,c3,bb,rfl,dv,ez⟩;have da:=xQ bb;clear bb;have ap:Ext w4 w5:=xE
 have cw:=xQ (dx.out.ext ap);have am:=xQ (aP dd ap);have aq:=xQ (aP de ap);have X5:=xQ (X4.out.trans ap);have ar:=xQ (bD dv (show w1.heap.size≤_ by first|(simp;omega)|omega));have eg:=xQ (aP ef ap);have z5:(w4:Nat)≤w5:=ap.sz;clear ez ap dv e3;have fk:(w2:Nat)<w5:=cw.out.lt;cases b0 with
 |false=>have aj:Hid (bF l=none):=oW (vK (.inl (by rw[ca.out,bu.out])));obtain⟨z0,m,z1,o,z2,r,z3,aa,z4,ab,z5,ad,z6,ae,z7,af,z8,ag,z9,ah⟩:=(a.out.ext X5.out).tenf;have ao:(w:Nat)<w5:=(a.out.ext X5.out).lt;go_wp2;generalize c:World.setCell _ _ _=w9;obtain⟨Y9,g,X9⟩:=(a.out.ext X5.out).putx (ai.out.trans X5.out) c;clear c g z0 z1 z2 z3 z4 z5 z6 z7 z8 z9 m o r aa ab ad ae af ag ah;obtain⟨y0,y1,y2,y3,y4,y5,y6,y7,y8,y9⟩:=Y9.ten;exact bodyPost_ret (v:= .tuple #[.agg #[(),(),((),()),(),(),(),(),(),(),((),())],.bool false]) (by simp[results,results63,go_sem, *]) rfl (fK aj.out X9)
 |true=>
  cases b1 with
  |false=>have aj:Hid (bF l=none):=oW (vK (.inr (.inl (by rw[cb.out,be.out]))));obtain⟨z0,m,z1,o,z2,r,z3,aa,z4,ab,z5,ad,z6,ae,z7,af,z8,ag,z9,ah⟩:=(a.out.ext X5.out).tenf;have ao:(w:Nat)<w5:=(a.out.ext X5.out).lt;go_wp2;generalize c:World.setCell _ _ _=w9;obtain⟨Y9,g,X9⟩:=(a.out.ext X5.out).putx (ai.out.trans X5.out) c;clear c g z0 z1 z2 z3 z4 z5 z6 z7 z8 z9 m o r aa ab ad ae af ag ah;obtain⟨y0,y1,y2,y3,y4,y5,y6,y7,y8,y9⟩:=Y9.ten;exact bodyPost_ret (v:= .tuple #[.agg #[(),(),((),()),(),(),(),(),(),(),((),())],.bool false]) (by simp[results,results63,go_sem, *]) rfl (fK aj.out X9)
  |true=>
   cases b2 with
   |false=>have aj:Hid (bF l=none):=oW (vK (.inr (.inr (.inl (by rw[cc.out,bf.out])))));obtain⟨z0,m,z1,o,z2,r,z3,aa,z4,ab,z5,ad,z6,ae,z7,af,z8,ag,z9,ah⟩:=(a.out.ext X5.out).tenf;have ao:(w:Nat)<w5:=(a.out.ext X5.out).lt;go_wp2;generalize c:World.setCell _ _ _=w9;obtain⟨Y9,g,X9⟩:=(a.out.ext X5.out).putx (ai.out.trans X5.out) c;clear c g z0 z1 z2 z3 z4 z5 z6 z7 z8 z9 m o r aa ab ad ae af ag ah;obtain⟨y0,y1,y2,y3,y4,y5,y6,y7,y8,y9⟩:=Y9.ten;exact bodyPost_ret (v:= .tuple #[.agg #[(),(),((),()),(),(),(),(),(),(),((),())],.bool false]) (by simp[results,results63,go_sem, *]) rfl (fK aj.out X9)
   |true=>
    cases b3 with
    |false=>have aj:Hid (bF l=none):=oW (vK (.inr (.inr (.inr (by rw[cd.out,bg.out])))));obtain⟨z0,m,z1,o,z2,r,z3,aa,z4,ab,z5,ad,z6,ae,z7,af,z8,ag,z9,ah⟩:=(a.out.ext X5.out).tenf;have ao:(w:Nat)<w5:=(a.out.ext X5.out).lt;go_wp2;generalize c:World.setCell _ _ _=w9;obtain⟨Y9,g,X9⟩:=(a.out.ext X5.out).putx (ai.out.trans X5.out) c;clear c g z0 z1 z2 z3 z4 z5 z6 z7 z8 z9 m o r aa ab ad ae af ag ah;obtain⟨y0,y1,y2,y3,y4,y5,y6,y7,y8,y9⟩:=Y9.ten;exact bodyPost_ret (v:= .tuple #[.agg #[(),(),((),()),(),(),(),(),(),(),((),())],.bool false]) (by simp[results,results63,go_sem, *]) rfl (fK aj.out X9)
    |true=>
     obtain⟨o0,dp⟩:=Option.isSome_iff_exists.1 bu.out;have d1:=xQ dp;obtain⟨fc,bj⟩:=Option.isSome_iff_exists.1 be.out;obtain⟨fd,bl⟩:=Option.isSome_iff_exists.1 bf.out;obtain⟨fe,bm⟩:=Option.isSome_iff_exists.1 bg.out;have co:fc=y1:=by have:=N1.out;rw[bj]at this;exact this
     have e5:fd=y2:=by have:=N2.out;rw[bl]at this;exact this
     have aw:fe=y3:=by have:=N3.out;rw[bm]at this;exact this
     subst co;subst e5;subst aw;have q2:=aGb bl;have q3:=aGb bm;obtain⟨f,s,pr,cp,q1⟩:=sM (aGe bj);subst q1;subst q2;subst q3;have c5:=xQ bj;have d2:=xQ bl;have d3:=xQ bm;obtain⟨ck,cj⟩: ∃x,fC p2=x:=⟨_,rfl⟩
     obtain⟨bk,ci⟩: ∃x,fC p3=x:=⟨_,rfl⟩
     have dz:=xQ cj;have dy:=xQ ci;rw[cj]at aq;rw[ci]at ar;clear dp bj bl bm cj ci N1 be N2 bf N3 bg cy cz c0 c6;have a9:=c8.out;have ba:=c9.out;have bb:=da.out;clear c8 c9 da;simp only[aU1,List.length_nil,aU2]at a9 ba bb;subst a9;subst ba;subst bb;obtain⟨g1,fl,a5⟩:=aTc am (by omega);obtain⟨g2,fm,a6⟩:=aTc aq (by omega);obtain⟨g3,fn,a7⟩:=aTc ar (by omega);injection a5 with a5 _ hg1';injection a6 with a6 _ hg2';injection a7 with a7 _ hg3';subst a5;subst a6;subst a7;subst hg1';subst hg2';subst hg3';have t0:w5.cell? ⟨g1,0,none⟩=some (I f):=cR am.out 0 (by omega) _ rfl;have t1:w5.cell? ⟨g1,1,none⟩=some (I s):=cR am.out 1 (by omega) _ rfl;have t2:w5.cell? ⟨g1,2,none⟩=some (I pr):=cR am.out 2 (by omega) _ rfl;have t3:w5.cell? ⟨g1,3,none⟩=some (I cp):=cR am.out 3 (by omega) _ rfl;have t4:w5.cell? ⟨g2,0,none⟩=some (I ck):=cR aq.out 0 (by omega) _ rfl;have t5:w5.cell? ⟨g3,0,none⟩=some (I bk):=cR ar.out 0 (by omega) _ rfl;obtain⟨v0,v1,v2⟩:=cw.out.tri;have a5:=(am.out.lt g1 rfl).2;have a6:=(aq.out.lt g2 rfl).2;have a7:=(ar.out.lt g3 rfl).2;have fs:R≤cr:=(Sl.own j.out).le;go_wp2;go_region_held3 (fun w'=>w'.cell? ⟨g1,0,none⟩=some (I f)∧w'.cell? ⟨g1,1,none⟩=some (I s)∧w'.cell? ⟨g1,2,none⟩=some (I pr)∧w'.cell? ⟨g1,3,none⟩=some (I cp)∧w'.cell? ⟨g2,0,none⟩=some (I ck)∧w'.cell? ⟨g3,0,none⟩=some (I bk)∧w'.cell? ⟨w2,0,none⟩=some (I W)∧w'.cell? ⟨w2,1,none⟩=some (I D)∧w'.cell? ⟨w2,2,none⟩=some (.slice p n cap)) (first|(refine⟨?_,?_,?_,?_,?_,?_,?_,?_,?_⟩<;>assumption)|go_keep) (fail);generalize cm:World.drew _=w6;have B6:Hid (Blk w6 w5 kD #[W,D,.slice p n cap,f,s,pr,cp,ck,bk,((),())]):=by show Blk _ _ _ _;rw[←cm];exact(Blk.new _ _ _).ext (Ext.drew (Ext.refl _))
     have X6:Ext w5 w6:=by rw[←cm];exact((Ext.refl w5).alloc _).drew
     clear cm t0 t1 t2 t3 t4 t5 v0 v1 v2 a5 a6 a7;have ea:=xQ X6;have z6:(w5:Nat)<w6:=B6.out.lt;obtain⟨N,rfl⟩: ∃N,R=N+4:=⟨R-4,by omega⟩
     obtain⟨C,rfl⟩: ∃C,cr=C+4:=⟨cr-4,by omega⟩
     have fp:N≤C:=by omega
     go_wp2
     all_goals
      have ay:Hid ((aK 59 l).length=N+4):=av.out;go_loopw [91] (fun i wr=> ∃(k:Nat) (q:OA) (d:Nat),k≤N∧i=I k∧Ext w5 wr∧Blk wr w5 kD #[W,D,.slice p n cap,f,s,pr,cp,ck,bk,.slice q k d]∧wr.ownsRow (w5.heap.size+1) tC 4 (.slice q k d) k ((dV (aK 59 l) k).flatMap aD)∧ ∀q∈((aK 59 l).drop 4).take k,(bP 4 q).isSome=true) (fun i _=>N-(intOf i).toNat)
      case atStart=>exact⟨0,none,0,aT8 _,rfl,ea.out,B6.out,aTl _ _ _ _,by simp⟩
      case round=>
       obtain⟨k,q,d,hk,rfl,dg,hB,hO,dk⟩:=hrel;have XR:=xQ dg;have BR:=xQ hB;have OR:=xQ hO;have HF:=xQ dk;have fv:(w5:Nat)<wr:=hB.lt;clear dg hB hO dk;by_cases hlt:k<N
       ·first
         |(exfalso;omega)
         |(skip
           obtain⟨x,hx⟩: ∃q,(aK 59 l)[4+k]? =some q:=⟨_,aT3 (by rw[ay.out];omega)⟩
           have bw:=xQ hx;have e4:x.length<4294967281:=HL x (aT4 hx);have cf:=xQ (X5.out.trans XR.out);have e1:wr.cell? ⟨gr,4+k,none⟩=some (str x):=aW (aP j.out cf.out) (4+k) (by omega) _ hx;have fi:gr<wr:=aT1 au cf.out.sz;clear hx;have i1:(0:Int)≤(k:Int):=by omega
           have i2:(k:Int)<(N:Int):=by omega
           obtain⟨yv,bv,NV,bh⟩: ∃(y:List Int) (b:Bool),Hid ((bP 4 x).getD []=y)∧Hid ((bP 4 x).isSome=b):=⟨_,_,rfl,rfl⟩
           have c4:Hid (∀w,Env w→U 111 #[str x,I 4] w fun e w'=> ∃p n cap,n=yv.length∧e= .returned (.tuple #[.slice p n cap,.bool bv])∧w'.ownsRow w TI 1 (.slice p n cap) n (ivs yv)∧Ext w w'):=by intro w hE;have h:=vD x 4 w (by omega) (by omega) e4 hE;unfold sW at h;rw[NV.out,bh.out]at h;exact h
           go_wp2_with fail;refine(c4 wr (HE.out.ext (ai.out.trans cf.out))).mono ?_;rintro e w7 ⟨tv,nv,cv,bc,rfl,dw,br⟩;have db:=xQ bc;have X7:=xQ (XR.out.trans br);have B7:=xQ (BR.out.ext br);have O7:=xQ (aP OR br);have ak:=xQ (bD dw (show w5.heap.size+1≤_ by omega));have e6:(w5:Nat)<w7:=B7.out.lt;clear bc br dw e1;cases bv with
           |false=>have aj:Hid (bF l=none):=oW (aMy bw (by have:=bh.out;cases hq:bP 4 x with|none=>rfl|some z=>rw[hq]at this;simp at this));have an:=xQ (X5.out.trans X7.out);obtain⟨z0,m,z1,o,z2,r,z3,aa,z4,ab,z5,ad,z6,ae,z7,af,z8,ag,z9,ah⟩:=(a.out.ext an.out).tenf;have ao:(w:Nat)<w7:=(a.out.ext an.out).lt;go_wp2;generalize c:World.setCell _ _ _=w9;obtain⟨Y9,g,X9⟩:=(a.out.ext an.out).putx (ai.out.trans an.out) c;clear c g z0 z1 z2 z3 z4 z5 z6 z7 z8 z9 m o r aa ab ad ae af ag ah;obtain⟨y0,y1,y2,y3,y4,y5,y6,y7,y8,y9⟩:=Y9.ten;exact bodyPost_ret (v:= .tuple #[.agg #[(),(),((),()),(),(),(),(),(),(),((),())],.bool false]) (by simp[results,results63,go_sem, *]) rfl (fK aj.out X9)
           |true=>
            obtain⟨yy,bs⟩:=Option.isSome_iff_exists.1 bh.out;have co:yy=yv:=by have:=NV.out;rw[bs]at this;exact this
            subst co;obtain⟨a0,a1,a2,a3,q1⟩:=sM (aGe bs);subst q1;have c7:=xQ bs;have bc:=db.out;clear bs db NV bh c4;simp only[aU1,List.length_nil,aU2]at bc;subst bc;obtain⟨gv,fo,bi⟩:=aTc ak (by omega);injection bi with bi _ hgv';subst bi;subst hgv';have t0:w7.cell? ⟨gv,0,none⟩=some (I a0):=cR ak.out 0 (by omega) _ rfl;have t1:w7.cell? ⟨gv,1,none⟩=some (I a1):=cR ak.out 1 (by omega) _ rfl;have t2:w7.cell? ⟨gv,2,none⟩=some (I a2):=cR ak.out 2 (by omega) _ rfl;have t3:w7.cell? ⟨gv,3,none⟩=some (I a3):=cR ak.out 3 (by omega) _ rfl;have v9:=B7.out.cl 9;have fa:=B7.out.frozen 9;have bi:=(ak.out.lt gv rfl).2;have fq: ¬gv=w5.heap.size:=by have:=(ak.out.lt gv rfl).1;omega
            have fr:k≤1048577:=by omega
            go_wp2;refine rL (gl [gEq (.pointer (some ⟨w5,9,none⟩)),gEq (.slice q k d),gEq (.slice (some ⟨gv,0,none⟩) 4 cv),gEq (.pointer (some ⟨gv,0,none⟩)),gEq a0,gEq (.slice (some ⟨gv,0,none⟩) 4 cv),gEq (.pointer (some ⟨gv,1,none⟩)),gEq a1,gEq (.slice (some ⟨gv,0,none⟩) 4 cv),gEq (.pointer (some ⟨gv,2,none⟩)),gEq a2,gEq (.slice (some ⟨gv,0,none⟩) 4 cv),gEq (.pointer (some ⟨gv,3,none⟩)),gEq a3,gEq (.agg #[a1,a2,a3]),gEq (.agg #[a0,a1,a2,a3]),aHg (0) tC #[a0,a1,a2,a3] 1]) 17 20 [(0,some 103),(1,some 104),(2,some 105),(3,some 106),(4,some 107),(5,some 108),(6,some 109),(7,some 110),(8,some 111),(9,some 112),(10,some 113),(11,some 114),(12,some 115),(13,some 116),(14,some 117),(15,some 118),(16,some 119)] ?steps ?fin
            case steps=>
             refine sS0 [] ?_;refine sC [(0,some 103)] rfl (fun wi hx=> ?_) ?_
             ·intro v0 h0 K hK;obtain rfl:=h0;have hX:Ext w7 wi:=xE;have v9:=(B7.out.ext hX).cl 9;go_simp;exact hK _ _ ⟨.slice q k d,rfl,rfl,Ext.refl _⟩
             refine sS0 [] (sS1 [(2,some 105)] ?_);refine sC [(3,some 106)] rfl (fun wi hx=> ?_) ?_
             ·intro v3 h3 K hK;obtain rfl:=h3;have hX:Ext w7 wi:=xE;have t0:wi.cell? ⟨gv,0,none⟩=some (I a0):=cR (aP ak hX) 0 (by omega) _ rfl;go_simp;exact hK _ _ ⟨I a0,rfl,rfl,Ext.refl _⟩
             refine sS0 [] (sS1 [(5,some 108)] ?_);refine sC [(6,some 109)] rfl (fun wi hx=> ?_) ?_
             ·intro v6 h6 K hK;obtain rfl:=h6;have hX:Ext w7 wi:=xE;have t0:wi.cell? ⟨gv,1,none⟩=some (I a1):=cR (aP ak hX) 1 (by omega) _ rfl;go_simp;exact hK _ _ ⟨I a1,rfl,rfl,Ext.refl _⟩
             refine sS0 [] (sS1 [(8,some 111)] ?_);refine sC [(9,some 112)] rfl (fun wi hx=> ?_) ?_
             ·intro v9 h9 K hK;obtain rfl:=h9;have hX:Ext w7 wi:=xE;have t0:wi.cell? ⟨gv,2,none⟩=some (I a2):=cR (aP ak hX) 2 (by omega) _ rfl;go_simp;exact hK _ _ ⟨I a2,rfl,rfl,Ext.refl _⟩
             refine sS0 [] (sS1 [(11,some 114)] ?_);refine sC [(12,some 115)] rfl (fun wi hx=> ?_) ?_
             ·intro e8 cg K hK;obtain rfl:=cg;have hX:Ext w7 wi:=xE;have t0:wi.cell? ⟨gv,3,none⟩=some (I a3):=cR (aP ak hX) 3 (by omega) _ rfl;go_simp;exact hK _ _ ⟨I a3,rfl,rfl,Ext.refl _⟩
             refine sS3 [(7,some 110),(10,some 113),(13,some 116)] (sS2 [(4,some 107),(14,some 117)] ?_);refine sC [(15,some 118)] rfl (fun wi hx=> ?_) StepsL.nil
             ·intro e9 ch K hK;obtain rfl:=ch;go_simp;exact hK _ _ ⟨.slice (some ⟨wi,0,none⟩) 1 1,rfl,⟨wi.heap.size,rfl,aT8 _,Blk.new _ _ _⟩,(Ext.refl _).alloc _⟩
            case fin=>
             intro wi hx v0 h0 v1 h1 v2 h2 v3 h3 v4 h4 v5 h5 v6 h6 v7 h7 v8 h8 v9 h9 fw ek fx el e8 cg fy em fz en e9 ch f0 eo;subst h0 h1 h2 h3 h4 h5 h6 h7 h8 h9;obtain rfl:=ek;obtain rfl:=el;obtain rfl:=cg;obtain rfl:=em;obtain rfl:=en;obtain rfl:=ch;obtain⟨ej,rfl,dl,ct⟩:=eo;have hX:Ext w7 wi:=xE;have XF:Ext w5 wi:=X7.out.trans hX;have BF:=B7.out.ext hX;have OF:=aP O7 hX;have df:=aP ak hX;clear hX hx dl;go_frame;refine wpAny_ready (rs:= [17]) (by kernel_rfl) (by simp) ?_;refine AllReady.cons rfl (fun K hK=> ?_) AllReady.nil;refine fO _ aRr rfl (.tmp 104) (.tmp 119) rfl (w5.heap.size+1) (.slice q k d) k _ rfl OF (some ⟨ej,0,none⟩) 1 1 (aD (a0,a1,a2,a3)) rfl (Sl.blkS ct) (aK7 _) (by omega) (by have:=BF.lt;omega) (fun p2 cap2 w8 hown8 hgrow8=>hK _ _ ?_);clear hK K;obtain⟨X8,B8⟩:=aB5 XF BF (by decide) OF (by omega) hgrow8;have ei:=aB4 OF hgrow8 df (by decide);clear hgrow8 XF BF OF df ct;have x9:=B8.cl 9;have fb:=B8.frozen 9;have e7:(w5:Nat)<w8:=B8.lt;try go_frame
             refine wpAny_ready (rs:= [18]) (by kernel_rfl) (by simp) ?_;refine AllReady.cons rfl (fun K hK=> ?_) AllReady.nil;go_simp;refine hK _ _ ?_;clear hK K;refine wpAny_ready (rs:= [19]) (by kernel_rfl) (by simp) ?_;refine AllReady.cons rfl (fun K hK=> ?_) AllReady.nil;go_simp;refine hK _ _ ?_;clear hK K;refine wpAny_done (by kernel_rfl) ?_ _;have cx:Hid (∀q∈((aK 59 l).drop 4).take (k+1),(bP 4 q).isSome=true):=by
              have e:((aK 59 l).drop 4)[k]? =some x:=by rw[List.getElem?_drop];exact bw.out
              rw[xQ (aZ e)];intro y hy;rcases aTi.1 hy with h|h
              ·exact HF y h
              obtain rfl:y=x:=by simpa using h
              rw[c7.out];rfl
             have d9:Hid (dV (aK 59 l) (k+1)=dV (aK 59 l) k++ [(a0,a1,a2,a3)]):=by show _=_;rw[tD bw.out,(nA c7.out).1];rfl
             have B9:=xQ (show Blk (w8.setCell ⟨w5,9,none⟩ (.slice p2 (k+1) cap2)) w5 kD #[W,D,.slice p n cap,f,s,pr,cp,ck,bk,.slice p2 (k+1) cap2] by have:=B8.set 9 (.slice p2 (k+1) cap2);simpa using this)
             have O9:=xQ (show(w8.setCell ⟨w5,9,none⟩ (.slice p2 (k+1) cap2)).ownsRow (w5.heap.size+1) tC 4 (.slice p2 (k+1) cap2) (k+1) ((dV (aK 59 l) (k+1)).flatMap aD) by
              rw[d9.out,aU3];have:=iM (i:=9) (u:= .slice p2 (k+1) cap2) B8 hown8 (by decide)
              simpa using this)
             have X9:Ext w5 (w8.setCell ⟨w5,9,none⟩ (.slice p2 (k+1) cap2)):=X8.setCell (aT2 _) _;clear hown8 ei B8 X8 t0 t1 t2 t3 v9 fa x9 fb;go_wp2;go_roundw
             case rel=>
              first
               |exact⟨k+1,p2,cap2,by omega,by go_num,X9,B9.out,O9.out,cx.out⟩
               |((repeat apply Exists.intro);refine⟨⟨k+1,p2,cap2,by omega,by go_num,X9,B9.out,O9.out,cx.out⟩,rfl⟩)
             case measure=>simp[intOf];omega)
       obtain rfl:k=N:=by omega
       have HT:Hid (((aK 59 l).drop 4).take k=(aK 59 l).drop 4):=aT7 (by rw[aTw,ay.out];omega);have a4:dX (aK 59 l)=true:=by rw[aPx (by rw[ay.out];omega) (by rw[ca.out];exact d1.out) (by rw[cb.out];exact c5.out) (by rw[cc.out];exact d2.out) (by rw[cd.out];exact d3.out),aTp];have:=HF.out;rwa[HT.out]at this
       have d0:Hid (dB (aK 59 l)=⟨W,D,xs,f,s,pr,cp,ck,bk,dV (aK 59 l) k⟩):=by show _=_;rw[aA2 (W:=W) (D:=D) (xs:=xs) ay (by rw[ca.out];exact H0.out) (t:= [f,s,pr,cp]) (by rw[cb.out];exact(nA c5.out).1),cc.out,cd.out,dz.out,dy.out];rfl
       have bd:=xQ (zX a4);rw[d0.out]at bd;have d8:Hid (k=(dV (aK 59 l) k).length):=(uJ ay (aT2 _)).symm;clear a4 HF HT;generalize ey:dV (aK 59 l) k=vs at*;clear ey;have ce:=xQ (X5.out.trans XR.out);have bz:=xQ (aP eg XR.out);have HI:Hid (IsHouse wr ⟨W,D,xs,f,s,pr,cp,ck,bk,vs⟩ p n cap q k d):=⟨Sl.own bz.out,Sl.own OR.out⟩
       have HV:Hid (∀(w':World),Ext wr w'→U 16 #[.agg #[W,D,.slice p n cap,f,s,pr,cp,ck,bk,.slice q k d]] w' (Z (.bool (bJ ⟨W,D,xs,f,s,pr,cp,ck,bk,vs⟩)) w')):=fun w' hx=>mZ ⟨W,D,xs,f,s,pr,cp,ck,bk,vs⟩ p n cap q k d w' (HI.out.ext hx)
       have HT:Hid (∀(w':World),Ext wr w'→Env w'→U 54 #[.agg #[W,D,.slice p n cap,f,s,pr,cp,ck,bk,.slice q k d]] w' (Z (str (bI ⟨W,D,xs,f,s,pr,cp,ck,bk,vs⟩)) w')):=fun w' hx hE=>tM ⟨W,D,xs,f,s,pr,cp,ck,bk,vs⟩ p n cap q k d w' hE (HI.out.ext hx)
       generalize dm:bJ ⟨W,D,xs,f,s,pr,cp,ck,bk,vs⟩=ok at*;generalize er:bI ⟨W,D,xs,f,s,pr,cp,ck,bk,vs⟩=t at*;clear dm er;obtain⟨b0,b1,b2,b3,b4,b5,b6,b7,b8,b9⟩:=BR.out.ten;cases ok with
       |false=>
        have aj:Hid (bF l=none):=by show _=_;rw[bd.out];simp
        go_wp2_with fail;refine Ω (HV _ xE) fun w7 h7=>?_
        clear b0 b1 b2 b3 b4 b5 b6 b7 b8 b9;have an:=xQ (ce.out.trans (show Ext wr w7 from xE));clear h7;obtain⟨z0,m,z1,o,z2,r,z3,aa,z4,ab,z5,ad,z6,ae,z7,af,z8,ag,z9,ah⟩:=(a.out.ext an.out).tenf;have ao:(w:Nat)<w7:=(a.out.ext an.out).lt;go_wp2;generalize c:World.setCell _ _ _=w9;obtain⟨Y9,g,X9⟩:=(a.out.ext an.out).putx (ai.out.trans an.out) c;clear c g z0 z1 z2 z3 z4 z5 z6 z7 z8 z9 m o r aa ab ad ae af ag ah;obtain⟨y0,y1,y2,y3,y4,y5,y6,y7,y8,y9⟩:=Y9.ten;exact bodyPost_ret (v:= .tuple #[.agg #[(),(),((),()),(),(),(),(),(),(),((),())],.bool false]) (by simp[results,results63,go_sem, *]) rfl (fK aj.out X9)
       |true=>
        go_wp2_with fail;refine Ω (HV _ xE) fun w7 h7=>?_
        clear b0 b1 b2 b3 b4 b5 b6 b7 b8 b9;have cq:Ext wr w7:=xE;have B7:=xQ (BR.out.ext cq);have e6:(w5:Nat)<w7:=B7.out.lt;have bx:=xQ cq;clear h7 cq;obtain⟨b0,b1,b2,b3,b4,b5,b6,b7,b8,b9⟩:=B7.out.ten;go_wp2_with fail;refine Ω (HT _ (bx.out.trans xE) (HE.out.ext (ai.out.trans (ce.out.trans (bx.out.trans xE))))) fun w8 h8=>?_
        clear b0 b1 b2 b3 b4 b5 b6 b7 b8 b9;have cs:Ext w7 w8:=xE;have B8:=xQ (B7.out.ext cs);have e7:(w5:Nat)<w8:=B8.out.lt;have az:=xQ (bx.out.trans cs);have al:=xQ (ce.out.trans az.out);clear h8 cs;by_cases ht:t=l
        ·have ep:(t==l)=true:=by simp[ht]
         have ds:Hid (bF l=some ⟨W,D,xs,f,s,pr,cp,ck,bk,vs⟩):=by show _=_;rw[bd.out];simp[ht]
         clear ht;obtain⟨b0,b1,b2,b3,b4,b5,b6,b7,b8,b9⟩:=B8.out.ten;obtain⟨z0,m,z1,o,z2,r,z3,aa,z4,ab,z5,ad,z6,ae,z7,af,z8,ag,z9,ah⟩:=(a.out.ext al.out).tenf;have ao:(w:Nat)<w8:=(a.out.ext al.out).lt;have ft: ¬w.heap.size=w5.heap.size:=by have:=X5.out.sz;omega
         go_wp2;generalize c:World.setCell _ _ _=w9;obtain⟨Y9,g,X9⟩:=(a.out.ext al.out).putx (ai.out.trans al.out) c;have ec:w9.ownsRow w TI 1 (.slice p n cap) n (ivs xs):=bD ((aP bz az.out).kept g (.inr (iE (aP bz az.out) (a.out.ext al.out) (by decide)))) (by omega);have eh:w9.ownsRow w tC 4 (.slice q k d) k (vs.flatMap aD):=bD ((aP OR az.out).kept g (.inr (iE (aP OR az.out) (a.out.ext al.out) (by decide)))) (by have:=X5.out.sz;omega);clear c g z0 z1 z2 z3 z4 z5 z6 z7 z8 z9 m o r aa ab ad ae af ag ah b0 b1 b2 b3 b4 b5 b6 b7 b8 b9;obtain⟨y0,y1,y2,y3,y4,y5,y6,y7,y8,y9⟩:=Y9.ten;exact bodyPost_ret (v:= .tuple #[.agg #[W,D,.slice p n cap,f,s,pr,cp,ck,bk,.slice q k d],.bool true]) (by simp[results,results63,go_sem, *]) rfl (zQ ds.out eb d8.out ec eh X9)
        have ep:(t==l)=false:=by simp[ht]
        have aj:Hid (bF l=none):=by show _=_;rw[bd.out];simp[ht]
        clear ht;obtain⟨z0,m,z1,o,z2,r,z3,aa,z4,ab,z5,ad,z6,ae,z7,af,z8,ag,z9,ah⟩:=(a.out.ext al.out).tenf;have ao:(w:Nat)<w8:=(a.out.ext al.out).lt;go_wp2;generalize c:World.setCell _ _ _=w9;obtain⟨Y9,g,X9⟩:=(a.out.ext al.out).putx (ai.out.trans al.out) c;clear c g z0 z1 z2 z3 z4 z5 z6 z7 z8 z9 m o r aa ab ad ae af ag ah;obtain⟨y0,y1,y2,y3,y4,y5,y6,y7,y8,y9⟩:=Y9.ten;exact bodyPost_ret (v:= .tuple #[.agg #[(),(),((),()),(),(),(),(),(),(),((),())],.bool false]) (by simp[results,results63,go_sem, *]) rfl (fK aj.out X9)
end
end Go.Proofs.YtbgkcehffiogcabGreatDoor
