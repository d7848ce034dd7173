/-
  A law's walk or frame (@packed).
-/
import Derived.Test.YthfmmibomhhmpabGreatDoorZ23
namespace Go.Proofs.YthfmmibomhhmpabGreatDoor
open Go.RowKit Go.Proofs.Tryz
set_option linter.unusedVariables false
set_option linter.unusedSimpArgs false
set_option maxHeartbeats 8000000
set_option maxRecDepth 100000
variable(p0:OA)(n0 a:Nat)(p1:OA)(n1 b:Nat)(w:World)
theorem aKv {h:aQ}(a:bC h=true)(f:Int)(l:List UInt8):aAo h f l=(kT h (rj f l).1,(rj f l).1.length):=by unfold aAo;rw[if_pos a]
theorem aCe (h:(1048576:Int)<n0):
  U 3 #[.slice p0 n0 a,.slice p1 n1 b] w (Z (.bool true) w):=by
 have t0:=aYv ((1048576:Int)<(n0:Int));go_enter func3,ntmps3;go_wp2;go_ret;exact⟨rfl,xE⟩
theorem aCd (h0:(n0:Int)≤1048576)(h:(1048576:Int)<n1):
  U 3 #[.slice p0 n0 a,.slice p1 n1 b] w (Z (.bool true) w):=by
 have t0:=aYu ((1048576:Int)<(n0:Int));have t1:=aYv ((1048576:Int)<(n1:Int));go_enter func3,ntmps3;go_wp2;go_ret;exact⟨rfl,xE⟩
theorem aJb (bw:Nat)(p1:OA)(n1 bx:Nat)(w:World)(hn:(n0:Int)≤1048576)(en:(n1:Int)≤1048576)(HE:Hid (Env w))(a9:Hid (BitTab w))(HD:U 4 #[.slice p0 n0 bw] w (tO w))(cb:Hid (∀w',Ext w w'→U 10 #[.slice p1 n1 bx] w' (wF w'))):
  U 3 #[.slice p0 n0 bw,.slice p1 n1 bx] w (Z (.bool true) w):=by
 unfold tO at HD;unfold wF at cb;have HD:=xQ HD;have d3:=aYu ((1048576:Int)<(n0:Int));have d4:=aYu (1048576<n0);have d7:=aYu ((1048576:Int)<(n1:Int));have d8:=aYu (1048576<n1);go_enter func3,ntmps3;go_wp2_with fail;refine HD.out.mono ?_;rintro e w1 ⟨sv,b,rfl,er,ej,di⟩;have g:=xQ di;clear HD di d3 d4 d7 d8;obtain⟨r,nd,ok,hr⟩: ∃r nd ok,fO sv.data.toList b.data.toList=(r,nd,ok):=⟨_,_,_,rfl⟩
 have dd:=aBe sv.data.toList b.data.toList;have d2:=aO8 _ _ hr;rw[hr]at dd;dsimp only at dd;have cv:xC 5 #[.string sv,.string b] w1 fun w' e w''=> ∃pa ca qa da,e= .returned (.tuple #[.agg #[r.aA,r.aB,.slice pa r.cells ca,r.free,r.step,r.aE,r.aF,r.aD,r.aG,.slice qa r.vs da],nd,.bool ok])∧w''.ownsRow w' TI 1 (.slice pa r.cells ca) r.cells.length (ivs r.cells)∧w''.ownsRow w' TV 4 (.slice qa r.vs da) r.vs.length (r.vs.flatMap aC)∧Ext w' w'':=fun w' hx=>by have:=aA4 sv b w' (by omega) (by omega) (HE.out.ext (g.out.trans hx)) (a9.out.ext (g.out.trans hx));rw[hr]at this;exact this
 have cx:xC 6 #[.string sv,.string b] w1 fun w' e w''=> ∃pa ca qa da,e= .returned (.tuple #[.agg #[r.aA,r.aB,.slice pa r.cells ca,r.free,r.step,r.aE,r.aF,r.aD,r.aG,.slice qa r.vs da],nd,.bool ok])∧w''.ownsRow w' TI 1 (.slice pa r.cells ca) r.cells.length (ivs r.cells)∧w''.ownsRow w' TV 4 (.slice qa r.vs da) r.vs.length (r.vs.flatMap aC)∧Ext w' w'':=fun w' hx=>by have:=aHm sv b w' (by omega) (by omega);rw[hr]at this;exact this
 clear hr;go_wp2_with fail;refine(cv _ (Ext.refl _)).mono ?_;rintro e w2 ⟨p5,c5,q5,d5,rfl,db,de,ao⟩;have M2:=((Mem.start w1).own2 ao db de (aVz _) (by decide))
 clear ao db de;go_upto_region 5 with fail;obtain⟨X5,ch⟩: ∃a,a=w2.heap.size:=⟨_,rfl⟩
 rw[←ch];have M3:=(M2.blkNew aN (aYo r p5 c5 q5 d5) X5 ch.symm)
 generalize World.alloc _ _=v2 at M3⊢;clear M2 ch;have cm:=M3.hi 0;go_wp2_with fail;refine(cx _ M3.ext).mono ?_;rintro e w4 ⟨p6,c6,q6,d6,rfl,am,an,dj⟩;have M4:=(M3.own2 dj am an (aVz _) (by decide))
 clear M3 cm dj am an cv cx;have cn:=M4.hi 2;obtain⟨av,aw,ax,ay,x,l,y,az,a0,a1⟩:=(M4.bk 2).ten;go_wp2_with fail;clear av aw ax ay x l y az a0 a1;refine Ω (qT r _ _ _ _ _ _ _ _ _ _ _ _ _ ⟨((M4.c0 aN (aYo r p6 c6 q6 d6)).sq 4),((M4.c0 aN (aYo r p6 c6 q6 d6)).sq 5)⟩ ⟨((M4.c0 aN (aYo r p6 c6 q6 d6)).sq 1),((M4.c0 aN (aYo r p6 c6 q6 d6)).sq 2)⟩) fun w5 ba=>?_
 have M5:=((M4.c0 aN (aYo r p6 c6 q6 d6)).adv ba)
 clear M4 cn ba;have co:=M5.hi 0;have cp:=M5.hi 3;have M6:=(show Mem w1 w5 [aI w1 (X5) aN (aYo r p5 c5 q5 d5),aYm w1 p5 r.cells c5,aYn w1 q5 r.vs d5]from M5.pick [3,4,5] (by decide) rfl)
 clear M5 co cp;have a6:=M6.hi 0;rcases d2 with⟨rfl,rfl,rfl⟩|⟨rfl,hro⟩
 ·skip;have ct:=xQ fun w' (hx:Ext w5 w')=>aL4 p5 c5 q5 d5 w' (IsHouse.ext ⟨(M6.sq 1),(M6.sq 2)⟩ hx)
  unfold hZ at*;obtain⟨av,aw,ax,ay,x,l,y,az,a0,a1⟩:=(M6.bk 0).ten;go_wp2_with fail;clear av aw ax ay x l y az a0 a1;refine Ω (ct _ xE) fun w7 a5=>?_
  have M7:=(M6.adv a5)
  clear M6 a6 a5 ct;have a7:=M7.hi 0;go_wp2_with fail;refine Ω (aPk _ (HE.out.ext (g.out.trans M7.ext))) fun w9 ea=>?_
  have X9:Ext w w9:=g.out.trans (M7.ext.trans ea);go_wp2;go_ret;exact⟨rfl,X9⟩
 skip;go_wp2_with fail;refine(cb _ (g.out.trans M6.ext)).mono ?_;rintro e w7 ⟨h,p,s,q,c2,f,bb,rfl,eo,ep,el,em,ei,hi,a5⟩;clear cb;have HI:=xQ hi;clear hi;have M7:=(M6.adv a5)
 clear M6 a6 a5;have a7:=M7.hi 0;have I5:=xQ (show IsHouse w7 r p5 _ c5 q5 _ d5 from⟨(M7.sq 1),(M7.sq 2)⟩);have B5:=xQ (M7.bk 0);have L7:=xQ M7.ext;have cd:=xQ fun(w':World) (hx:Ext w7 w')=>lB r p5 _ c5 q5 _ d5 w' (I5.out.ext hx)
 rw[hro]at cd;have cz:=xQ fun(w':World) (hx:Ext w7 w')=>mE h p _ s q _ c2 w' (HI.out.ext hx)
 clear hro I5 M7 a7;go_wp2_with fail;refine Ω (cz _ ((Mem.start w7).c0 aN (aYo h p s q c2)).ext) fun ev b4=>?_
 have t:=(((Mem.start w7).c0 aN (aYo h p s q c2)).adv b4)
 have ag:=t.hi 0;clear b4 cz;by_cases hok:bC h=true
 ·skip;rw[hok];obtain⟨J,hJ⟩: ∃J,J=(rj 1 bb.data.toList).1:=⟨_,rfl⟩
  obtain⟨nj,ad⟩: ∃n,J.length=n:=⟨_,rfl⟩
  have ef:nj≤99:=by rw[←ad,hJ];exact aE7 _ _
  obtain⟨zr,bd⟩: ∃z,kT h J=z:=⟨_,rfl⟩
  have dk:=fU (oS J hok);rw[bd]at dk;have cq:xC 13 #[I 1,.string bb] w7 fun w' e w''=> ∃pj cj,e= .returned (.tuple #[.slice pj nj cj,I (rj 1 bb.data.toList).2])∧w''.ownsRow w' TDd 3 (.slice pj nj cj) nj (J.flatMap bT)∧Ext w' w'':=fun w' hx=>by refine(aLk 1 bb w' (by omega) (by unfold B64;omega) (HE.out.ext (g.out.trans (L7.out.trans hx)))).mono ?_;rintro e w'' ⟨v,rfl,ho,ao⟩;rw[←hJ,ad]at ho;obtain⟨pj,cj,rfl⟩:=qW ho;exact⟨pj,cj,rfl,ho,ao⟩
  have cw:xC 14 #[.agg (aYo h p s q c2),I 1,.string bb] w7 fun w' e w''=> ∃pa ca qa da,e= .returned (.tuple #[.agg #[zr.aA,zr.aB,.slice pa zr.cells ca,zr.free,zr.step,zr.aE,zr.aF,zr.aD,zr.aG,.slice qa zr.vs da],nj])∧w''.ownsRow w' TI 1 (.slice pa zr.cells ca) zr.cells.length (ivs zr.cells)∧w''.ownsRow w' TV 4 (.slice qa zr.vs da) zr.vs.length (zr.vs.flatMap aC)∧Ext w' w'':=fun w' hx=>by have:=aLj h p _ s q _ c2 1 bb w' (HI.out.ext hx) (by omega) (by unfold B64;omega) (HE.out.ext (g.out.trans (L7.out.trans hx))) (a9.out.ext (g.out.trans (L7.out.trans hx)));rw[aKv hok,←hJ,bd,ad]at this;exact this
  have d1:Hid (∀k:Nat,k≤nj→ ∀w',Ext w7 w'→U 5 #[str (dJ (kT h (J.take k)) (k:Int)),.string bb] w' (aYz w' zr.cells.length (ivs zr.cells) zr.vs.length (zr.vs.flatMap aC) w' fun pa ca qa da=> .tuple #[.agg #[zr.aA,zr.aB,.slice pa zr.cells ca,zr.free,zr.step,zr.aE,zr.aF,zr.aD,zr.aG,.slice qa zr.vs da],nj,.bool true])):=fun k hk w' hx=>by have:=aA4 ⟨(dJ (kT h (J.take k)) (k:Int)).toArray⟩ bb w' (by have:=uZ (h:=kT h (J.take k)) (e:=(k:Int));simp only[ByteArray.size,List.size_toArray];omega) (by omega) (HE.out.ext (g.out.trans (L7.out.trans hx))) (a9.out.ext (g.out.trans (L7.out.trans hx)));have e:=aR5 hok bb.data.toList k (by rw[←hJ,ad];exact hk);rw[←hJ,bd,ad]at e;simp only[e]at this;exact this
  have d0:=xQ ad;have cu:=xQ hok;clear ad hJ bd hok;go_wp2_with fail;refine(cq _ t.ext).mono ?_;rintro e ec ⟨pj,cj,rfl,bz,aa⟩;have u:=(t.call aa bz)
  clear t ag aa bz cq;have be:=u.hi 1;obtain⟨av,aw,ax,ay,x,l,y,az,a0,a1⟩:=(u.bk 1).ten;go_wp2_with fail;clear av aw ax ay x l y az a0 a1;refine(cw _ u.ext).mono ?_;rintro e ed ⟨pr,cr,qr,dr,rfl,b0,b2,b5⟩;have ce:=(u.own2 b5 b0 b2 (aVz _) (by decide))
  clear u be b5 b0 b2 cw;have bf:=ce.hi 3;go_upto_region 15 with fail;obtain⟨cg,a2⟩: ∃a,a=ed.heap.size:=⟨_,rfl⟩
  rw[←a2];have ar:=(ce.blkNew aN (aYo zr pr cr qr dr) cg a2.symm)
  generalize World.alloc _ _=v3 at ar⊢;clear ce bf a2;have bg:=ar.hi 0;have bh:=ar.hi 4;go_wp2;go_loopw [20] (fun i wr=> ∃(j:Nat),j≤nj+1∧i=I j∧Mem w7 wr [aI w7 (cg) aN (aYo zr pr cr qr dr),aYm w7 pr zr.cells cr,aYn w7 qr zr.vs dr,aJ w7 TDd 3 (pj) (nj) (cj) (J.flatMap bT),aI w7 w7 aN (aYo h p s q c2)]) (fun i _=>nj+1-(intOf i).toNat)
  case atStart=>exact⟨0,aW6 _,rfl,ar⟩
  case round=>
   clear ar bg bh;obtain⟨j,hj,rfl,hM⟩:=hrel;have HM:=hM;clear hM;have t6:=aYv ((nj:Int)≤99);have t7:=aYv (nj≤99);have ah:cg<wr:=(HM.hi 0)
   have ai:(w7:Nat)<wr:=(HM.hi 4)
   by_cases hlt:j≤nj
   ·skip;have t1:=aYv ((j:Int)≤(nj:Int));have t2:=aYv (j≤nj);obtain⟨zh,bc⟩: ∃z,z=kT h (J.take j):=⟨_,rfl⟩
    have eb:=fU (oS (J.take j) cu.out);rw[←bc]at eb;have XR:=xQ HM.ext;have ci:(J.take j).length=j:=by rw[aWn,d0.out];omega
    have c1:=xQ (show Sl wr pj j cj 3 ((J.take j).flatMap bT)from by have:=aFs (HM.sq 3) hlt;rwa[aCf]at this);have ek:=(HM.sq 3).le;have c0:Hid (∀B w',B≤w'.heap.size→Ext wr w'→U 15 #[.agg (aYo h p s q c2),.slice pj j cj] w' fun e w''=> ∃pa ca qa da ps nq cs,e= .returned (.tuple #[.agg #[zh.aA,zh.aB,.slice pa zh.cells ca,zh.free,zh.step,zh.aE,zh.aF,zh.aD,zh.aG,.slice qa zh.vs da],.slice ps nq cs])∧w''.ownsRow B TI 1 (.slice pa zh.cells ca) zh.cells.length (ivs zh.cells)∧w''.ownsRow B TV 4 (.slice qa zh.vs da) zh.vs.length (zh.vs.flatMap aC)∧Ext w' w''):=fun B w' hB hx=>by have:=rE h p _ s q _ c2 pj (J.take j).length cj (J.take j) w' (HI.out.ext (XR.out.trans hx)) (ci.symm▸c1.out.ext hx) (by omega) (a9.out.ext (g.out.trans (L7.out.trans (XR.out.trans hx))));rw[ci]at this;unfold uQ at this;rw[if_pos cu.out,←bc]at this;unfold oM at this;refine this.mono ?_;rintro e w'' ⟨pa,ca,qa,da,ps,cs,rfl,o1,o2,o3,ao⟩;exact⟨pa,ca,qa,da,ps,_,cs,rfl,dX o1 hB,dX o2 hB,ao⟩
    have cc:=xQ (d1 j hlt);rw[←bc]at cc;clear bc ci c1;have i3:=aYp j;have i4:=aYr j cj;have i5:=aYr j nj;have i6:(j:Int).toNat=j:=by omega
    go_upto_region 18 with fail;clear t1 t2 t6 t7
    refine oT (gl [gEq (.agg #[(h.aA:Int),(h.aB:Int),.slice p h.cells s,(h.free:Int),(h.step:Int),(h.aE:Int),(h.aF:Int),(h.aD:Int),(h.aG:Int),.slice q h.vs c2]),gEq (.slice pj nj cj),gEq (j:Int),gEq (.slice pj j cj),(fun v w'=> ∃p c q d ps nq cs,v= .tuple #[.agg #[zh.aA,zh.aB,.slice p zh.cells c,zh.free,zh.step,zh.aE,zh.aF,zh.aD,zh.aG,.slice q zh.vs d],.slice ps nq cs]∧w'.ownsRow wr TI 1 (.slice p zh.cells c) zh.cells.length (ivs zh.cells)∧w'.ownsRow wr TV 4 (.slice q zh.vs d) zh.vs.length (zh.vs.flatMap aC)),(fun v w'=> ∃p c q d ps nq cs,v= .tuple #[.agg #[zh.aA,zh.aB,.slice p zh.cells c,zh.free,zh.step,zh.aE,zh.aF,zh.aD,zh.aG,.slice q zh.vs d],.slice ps nq cs]∧w'.ownsRow wr TI 1 (.slice p zh.cells c) zh.cells.length (ivs zh.cells)∧w'.ownsRow wr TV 4 (.slice q zh.vs d) zh.vs.length (zh.vs.flatMap aC)),(fun v w'=> ∃p c q d,v= .agg #[zh.aA,zh.aB,.slice p zh.cells c,zh.free,zh.step,zh.aE,zh.aF,zh.aD,zh.aG,.slice q zh.vs d]∧w'.ownsRow wr TI 1 (.slice p zh.cells c) zh.cells.length (ivs zh.cells)∧w'.ownsRow wr TV 4 (.slice q zh.vs d) zh.vs.length (zh.vs.flatMap aC)),(fun v _=> ∃ps nq cs,v= .slice ps nq cs),aJa wr aN #[(),(),((),()),(),(),(),(),(),(),((),())]]) 9 7 (by kernel_rfl) rfl (by kernel_rfl) (by kernel_rfl) (by kernel_rfl) (by decide) (mQ (aW (bL _) (aW (bL _) (aW (bL _) (aW (bL _) (aW (fun v w w' ⟨p,c,q,d,ps,nq,cs,e,o1,o2⟩ hx=>⟨p,c,q,d,ps,nq,cs,e,aM o1 hx,aM o2 hx⟩) (aW (fun v w w' ⟨p,c,q,d,ps,nq,cs,e,o1,o2⟩ hx=>⟨p,c,q,d,ps,nq,cs,e,aM o1 hx,aM o2 hx⟩) (aW (fun v w w' ⟨p,c,q,d,e,o1,o2⟩ hx=>⟨p,c,q,d,e,aM o1 hx,aM o2 hx⟩) (aW (fun _ _ _ h _=>h) (aW (uF _ _ _) (pM))))))))))) (k:=11) (by kernel_rfl) (by decide) (by kernel_rfl) (ls:= [(0,some 112),(1,some 113),(2,some 114),(3,some 115),(4,some 116),(5,some 111),(6,some 117),(7,some 118),(8,some 21)]) (by kernel_rfl) (ir:= [0,1,2,3,4,5,6,7,8]) (by kernel_rfl) rfl (fun _ _ _ _ h=>h) (lf:= [(5,some 111)]) (by kernel_rfl) ?flo ?steps (tl:=#[true,true,true,true,true,true,true,true,true,false,false]) (by kernel_rfl) ?fin
    case flo=>intro wi hx v5 h5;obtain⟨ap,l,aq,al,af,ae,ab,rfl,a3,a4⟩:=h5;exact⟨.slice af ae ab,.inl ⟨by rfl,fun w=>by go_simp⟩,⟨_,_,_,rfl⟩⟩
    case steps=>
     refine sC [] rfl (fun wi hx=> ?_) ?_
     ·intro K hK;have hX:Ext wr wi:=xE;have eg:=((HM.bk 4).ext hX).ten;go_simp;exact hK _ _ ⟨.agg #[(h.aA:Int),(h.aB:Int),.slice p h.cells s,(h.free:Int),(h.step:Int),(h.aE:Int),(h.aF:Int),(h.aD:Int),(h.aG:Int),.slice q h.vs c2],rfl,rfl,Ext.refl _⟩
     refine sS0 [] (sS0 [] (sS2 [(1,some 113),(2,some 114)] ?_));refine sC [(0,some 112),(3,some 115)] rfl (fun wi hx=> ?_) ?_
     ·intro v0 h0 v3 h3 K hK;subst h0 h3;go_simp;refine(c0 wr _ hx.sz hx.of_drew).mono ?_;rintro e w5 ⟨ap,l,aq,al,af,ae,ab,rfl,o5,v5,ba⟩;go_simp;exact hK _ _ ⟨_,rfl,⟨ap,l,aq,al,af,ae,ab,rfl,o5,v5⟩,ba⟩
     refine sC [(4,some 116)] rfl (fun wi hx=> ?_) ?_
     ·intro v4 h4 K hK;obtain⟨dn,x,ds,c4,dq,dm,c3,rfl,am,an⟩:=h4;go_simp;exact hK _ _ ⟨_,rfl,⟨dn,x,ds,c4,dq,dm,c3,rfl,am,an⟩,Ext.refl _⟩
     refine sC [(5,some 111)] rfl (fun wi hx=> ?_) ?_
     ·intro v5 h5 K hK;obtain⟨ap,l,aq,al,af,ae,ab,rfl,a3,a4⟩:=h5;go_simp;exact hK _ _ ⟨_,rfl,⟨ap,l,aq,al,rfl,a3,a4⟩,Ext.refl _⟩
     refine sC [(5,some 111)] rfl (fun wi hx=> ?_) ?_
     ·intro v5 h5 K hK;obtain⟨ap,l,aq,al,af,ae,ab,rfl,a3,a4⟩:=h5;go_simp;exact hK _ _ ⟨.slice af ae ab,rfl,⟨_,_,_,rfl⟩,Ext.refl _⟩
     refine sC [] rfl (fun wi hx=> ?_) StepsL.nil
     ·intro K hK;go_simp;exact hK _ _ ⟨.pointer (some ⟨wi,0,none⟩),rfl,⟨wi.heap.size,rfl,by have:=hx.sz;simp at this;omega,Blk.new _ _ _⟩,(Ext.refl _).alloc _⟩
    case fin=>
     intro wi hx v0 h0 v1 h1 v2 h2 v3 h3 v4 h4 v5 h5 v6 h6 v7 h7 v8 h8;subst h0 h1 h2 h3;obtain⟨dn,x,ds,c4,dq,dm,c3,rfl,am,an⟩:=h4;obtain⟨ap,l,aq,al,af,ae,ab,rfl,a3,a4⟩:=h5;obtain⟨dp,y,dt,c7,rfl,dc,df⟩:=h6;obtain⟨et,es,eh,rfl⟩:=h7;obtain⟨g8,rfl,c8,B8⟩:=h8;have dh:=hx.of_drew;obtain⟨v8,rfl⟩: ∃z,z=wi:=⟨_,rfl⟩
     have aj:=(Mem.own2blk (HM) dh B8 c8 dc df (by decide) (by decide) (by decide))
     clear hx dh B8 c8 am an a3 a4 dc df ah ai c0 XR;have bi:=aj.hi 2;have bj:=aj.hi 3;have bl:=aj.hi 7;have ee:=(aj.bk 2).tenf;try go_frame
     refine wpAny_ready (rs:= [9]) (by kernel_rfl) (by simp) ?_;refine AllReady.cons rfl (fun K hK=> ?_) AllReady.nil;go_simp;refine hK _ _ ?_;clear hK K ee bi bj bl;have m:=(aj.put10 (i:=2) rfl (I zh.aA) (I zh.aB) (.slice dp zh.cells y) (I zh.free) (I zh.step) (I zh.aE) (I zh.aF) (I zh.aD) (I zh.aG) (.slice dt zh.vs c7))
     generalize dg:World.setCell _ _ _=eu;rw[dg]at m;clear dg aj;refine wpAny_ready (rs:= [10]) (by kernel_rfl) (by simp) ?_;refine AllReady.cons rfl (fun K hK=> ?_) AllReady.nil;go_simp;refine hK _ _ ?_;clear hK K;refine wpAny_done (by kernel_rfl) ?_ _;try go_frame
     have bm:=m.hi 2;have bo:=m.hi 3;have bp:=m.hi 7;have cy:=xQ (xI zh (j:Int) dp _ y dt _ c7 _ (HE.out.ext (g.out.trans (L7.out.trans m.ext))) ⟨(m.sq 0),(m.sq 1)⟩);have ck:=(m.bk 2).ten;go_wp2_with fail;clear ck;refine cy.out.mono ?_;rintro e ey ⟨rfl,b7⟩;have ak:=(m.adv b7)
     clear m bm bo bp b7 cy;have bq:=ak.hi 2;have br:=ak.hi 3;have bs:=ak.hi 7;go_wp2_with fail;refine(cc _ ak.ext).mono ?_;rintro e a8 ⟨p9,c9,q9,d9,rfl,b1,b3,b8⟩;have o:=(ak.own2 b8 b1 b3 (aVz _) (by decide))
     clear ak bq br bs b8 b1 b3 cc;have bt:=o.hi 4;have bu:=o.hi 5;have bv:=o.hi 9;have ck:=(o.bk 5).ten;go_wp2_with fail;clear ck;refine Ω (qT zr _ _ _ _ _ _ _ _ _ _ _ _ _ ⟨((o.c0 aN (aYo zr p9 c9 q9 d9)).sq 1),((o.c0 aN (aYo zr p9 c9 q9 d9)).sq 2)⟩ ⟨((o.c0 aN (aYo zr p9 c9 q9 d9)).sq 7),((o.c0 aN (aYo zr p9 c9 q9 d9)).sq 8)⟩) fun ez b9=>?_
     have au:=((o.c0 aN (aYo zr p9 c9 q9 d9)).adv b9)
     clear o bt bu bv b9;have dx:=au.hi 0;have dy:=au.hi 5;have dz:=au.hi 6;have dl:=au.hi 10;go_wp2;go_roundw
     case rel=>exact⟨j+1,by omega,by go_num,au.pick [6,7,8,9,10] (by decide) rfl⟩
     case measure=>first|(simp[intOf];done)|(simp[intOf];omega)
   skip;have t1:=aYu ((j:Int)≤(nj:Int));have t2:=aYu (j≤nj);have l5:X5<w7:=B5.out.lt;have cl:=(B5.out.ext HM.ext).ten;go_wp2_with fail;clear cl l5;refine Ω (cd _ HM.ext) fun ew b6=>?_
   have cf:=(HM.adv b6)
   clear HM ah ai b6;have dv:=cf.hi 0;have dw:=cf.hi 4;go_wp2;go_ret;exact⟨rfl,g.out.trans (L7.out.trans cf.ext)⟩
 skip;rw[show bC h=false by simpa using hok];clear hok;have l5:X5<w7:=B5.out.lt;have cl:=(B5.out.ext t.ext).ten;go_wp2_with fail;clear cl l5;refine Ω (cd _ t.ext) fun ec aa=>?_
 have u:=(t.adv aa)
 clear t ag aa;have du:=u.hi 0;go_wp2;go_ret;exact⟨rfl,g.out.trans (L7.out.trans u.ext)⟩
theorem walk_FnRecover (W:World)(v:Value)(u:Unit)(hc:Code W v)(v2:Value)(u2:Unit)(c:Code W v2)(hE:Env W)(hB:BitTab W):U 3 #[v,v2] W (Z (.bool true) W):=by
 have hD:=aJh v W hc;have d:=fun(w':World) (hx:Ext W w')=>aM7 v2 w' (c.ext hx)
 obtain⟨p0,n,b,bs,rfl,h,hb⟩:=hc;obtain⟨p1,n1,a,f,rfl,h1,g⟩:=c;by_cases hn:(n:Int)≤1048576
 ·by_cases hn1:(n1:Int)≤1048576
  ·exact aJb p0 n b p1 n1 a W hn hn1 (xQ hE) (xQ hB) hD (xQ d)
  exact aCd p0 n b p1 n1 a W hn (by omega)
 exact aCe p0 n b p1 n1 a W (by omega)
end Go.Proofs.YthfmmibomhhmpabGreatDoor
