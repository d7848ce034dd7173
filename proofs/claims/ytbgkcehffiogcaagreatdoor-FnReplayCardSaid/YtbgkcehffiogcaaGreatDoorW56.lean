/-
  A law's walk or frame (@packed).
-/
import Derived.Test.YtbgkcehffiogcaaGreatDoorY35
namespace Go.Proofs.YtbgkcehffiogcaaGreatDoor
open Go.RowKit Go.Proofs.Tryz
set_option linter.unusedVariables false
set_option linter.unusedSimpArgs false
set_option maxHeartbeats 8000000
set_option maxRecDepth 100000
theorem aCg (b:ByteArray)(j:Nat):(b.extract 0 j).data.toList=b.data.toList.take j:=by obtain⟨⟨l⟩⟩:=b;simp[ByteArray.data_extract,List.extract]
theorem aH6 (ds:List Dd3)(m:Nat):(ds.flatMap cC).take (m*3)=(ds.take m).flatMap cC:=by
 induction ds generalizing m with
 |nil=>simp
 |cons d ds ih=>
  cases m with
  |zero=>simp
  |succ m=>obtain⟨a,b,c⟩:=d;rw[show(m+1)*3=m*3+1+1+1 by omega];simp[cC,ih]
theorem aBh (h:aR)(first:Int)(l:List UInt8):(iU h first l).1.cells.length≤1000∧(iU h first l).1.vs.length≤1000:=by
 unfold iU;by_cases hok:bL h=true
 ·rw[if_pos hok];have:=gY (rZ (rj first l).1 hok);dsimp only;omega
 rw[if_neg hok];simp[hZ]
theorem aFz {h:aR}(a: ¬bL h=true)(f:Int)(l:List UInt8):iU h f l=(hZ,0):=by unfold iU;rw[if_neg a]
theorem aA5 {h:aR}(a:bL h=true)(f:Int)(l:List UInt8):iU h f l=(nU h (rj f l).1,(rj f l).1.length):=by unfold iU;rw[if_pos a]
theorem aCc (p:OA)(n a:Nat)(w:World)(h:(1048576:Int)<n):
  U 4 #[.slice p n a] w (O (.bool true) w):=by
 go_enter func4,ntmps4;go_wp2;go_ret;exact⟨rfl,xE⟩
theorem aH5 (p0:OA)(n0 bp:Nat)(w:World)(hn:(n0:Int)≤1048576)(HE:Hid (Env w))(bi:Hid (BitTab w))
  (HD:U 17 #[.slice p0 n0 bp] w (rS w)):
  U 4 #[.slice p0 n0 bp] w (O (.bool true) w):=by
 unfold rS at HD;have HD:=xQ HD;have dw:decide ((1048576:Int)<(n0:Int))=false:=by simp;omega
 go_enter func4,ntmps4;go_wp2_with fail;refine HD.out.mono ?_;rintro e w1 ⟨h,p,o,q,c2,f,b,rfl,e0,e1,ey,ez,ev,hi,c4⟩;have HI:=xQ hi;have ai:=xQ c4;clear hi HD c4 dw;have hB:B64 f:=by unfold B64;omega
 obtain⟨J,hJ⟩: ∃J,J=(rj f b.data.toList).1:=⟨_,rfl⟩
 obtain⟨r,nd,hr⟩: ∃r nd,iU h f b.data.toList=(r,nd):=⟨_,_,rfl⟩
 have cy:=aBh h f b.data.toList;rw[hr]at cy;dsimp only at cy;have er:J.length≤99:=by rw[hJ];exact aLk _ _
 have ce:xC 18 #[.agg #[h.aA,h.aB,.slice p h.cells o,h.free,h.step,h.aE,h.aF,h.aC,h.aG,.slice q h.vs c2],f,.string b] w1 fun w' e w''=> ∃pa ca qa da,e= .returned (.tuple #[.agg #[r.aA,r.aB,.slice pa r.cells ca,r.free,r.step,r.aE,r.aF,r.aC,r.aG,.slice qa r.vs da],nd])∧w''.ownsRow w' TI 1 (.slice pa r.cells ca) r.cells.length (ivs r.cells)∧w''.ownsRow w' TV 4 (.slice qa r.vs da) r.vs.length (r.vs.flatMap aD)∧Ext w' w'':=fun w' hx=>by have:=xL h p _ o q _ c2 f b w' (HI.out.ext hx) (by omega) hB (HE.out.ext (ai.out.trans hx)) (bi.out.ext (ai.out.trans hx));rw[hr]at this;exact this
 have cg:xC 19 #[.agg #[h.aA,h.aB,.slice p h.cells o,h.free,h.step,h.aE,h.aF,h.aC,h.aG,.slice q h.vs c2],f,.string b] w1 fun w' e w''=> ∃pa ca qa da,e= .returned (.tuple #[.agg #[r.aA,r.aB,.slice pa r.cells ca,r.free,r.step,r.aE,r.aF,r.aC,r.aG,.slice qa r.vs da],nd])∧w''.ownsRow w' TI 1 (.slice pa r.cells ca) r.cells.length (ivs r.cells)∧w''.ownsRow w' TV 4 (.slice qa r.vs da) r.vs.length (r.vs.flatMap aD)∧Ext w' w'':=fun w' hx=>by have:=aF6 h p _ o q _ c2 f b w' (HI.out.ext hx) (by omega) hB;rw[hr]at this;exact this
 have ch:=xQ fun(w':World) (hx:Ext w1 w')=>lE h p _ o q _ c2 w' (HI.out.ext hx)
 have cf:=xQ hr;have bt:=xQ hJ;clear hr hJ;go_wp2_with fail;refine(ce _ ((Mem.start w1).c0 aK #[h.aA,h.aB,.slice p h.cells o,h.free,h.step,h.aE,h.aF,h.aC,h.aG,.slice q h.vs c2]).ext).mono ?_;rintro e w2 ⟨p5,c5,q5,d5,rfl,cr,c0,ap⟩;have M2:=(((Mem.start w1).c0 aK #[h.aA,h.aB,.slice p h.cells o,h.free,h.step,h.aE,h.aF,h.aC,h.aG,.slice q h.vs c2]).own2 ap cr c0 (aPv _) (by decide))
 clear ap cr c0;obtain⟨t,u,y,aa,n,g,l,s,ab,ad⟩:=(M2.bk 2).ten;go_upto_region 5 with fail;obtain⟨X5,bw⟩: ∃a,a=w2.heap.size:=⟨_,rfl⟩
 rw[←bw];clear t u y aa n g l s ab ad;have M3:=(M2.blkNew aK #[r.aA,r.aB,.slice p5 r.cells c5,r.free,r.step,r.aE,r.aF,r.aC,r.aG,.slice q5 r.vs d5] X5 bw.symm)
 generalize World.alloc _ _=v2 at M3⊢;clear M2 bw;obtain⟨t,u,y,aa,n,g,l,s,ab,ad⟩:=(M3.bk 3).ten;go_wp2_with fail;clear t u y aa n g l s ab ad;refine(cg _ M3.ext).mono ?_;rintro e w4 ⟨p6,c6,q6,d6,rfl,az,a0,c7⟩;have M4:=(M3.own2 c7 az a0 (aPv _) (by decide))
 clear M3 c7 az a0 ce cg;have bz:=M4.hi 2;obtain⟨t,u,y,aa,n,g,l,s,ab,ad⟩:=(M4.bk 2).ten;go_wp2_with fail;clear t u y aa n g l s ab ad;refine Z (kY r _ _ _ _ _ _ _ _ _ _ _ _ _ ⟨((M4.c0 aK (aSj r p6 c6 q6 d6)).sq 4),((M4.c0 aK (aSj r p6 c6 q6 d6)).sq 5)⟩ ⟨((M4.c0 aK (aSj r p6 c6 q6 d6)).sq 1),((M4.c0 aK (aSj r p6 c6 q6 d6)).sq 2)⟩) fun w5 a1=>?_
 have M5:=((M4.c0 aK (aSj r p6 c6 q6 d6)).adv a1)
 clear M4 bz a1;have M6:=(show Mem w1 w5 [aI w1 (X5) aK (aSj r p5 c5 q5 d5),aSh w1 p5 r.cells c5,aSi w1 q5 r.vs d5,aI w1 w1 aK (aSj h p o q c2)]from M5.pick [3,4,5,6] (by decide) rfl)
 clear M5;obtain⟨t,u,y,aa,n,g,l,s,ab,ad⟩:=(M6.bk 3).ten;go_wp2_with fail;clear t u y aa n g l s ab ad;refine Z (ch _ M6.ext) fun w7 c8=>?_
 have M7:=(M6.adv c8)
 clear M6 c8 ch;by_cases hok:bL h=true
 ·skip;rw[hok];have hq:=cf.out;rw[aA5 hok,←bt.out]at hq;simp only[aQt]at hq;obtain⟨bx,cx⟩:=hq;have dg:=xQ bx;have av:=xQ cx;have es:nd≤99:=by omega
  have cz:bL r=true:=by rw[←bx];exact rZ _ hok
  have df:=xQ cz;have bj:=xQ hok;have cc:xC 20 #[f,.string b] w1 fun w' e w''=> ∃pj cj,e= .returned (.tuple #[.slice pj nd cj,I (rj f b.data.toList).2])∧w''.ownsRow w' TDd 3 (.slice pj nd cj) nd (J.flatMap cC)∧Ext w' w'':=fun w' hx=>by refine(aM6 f b w' (by omega) hB (HE.out.ext (ai.out.trans hx))).mono ?_;rintro e w'' ⟨v,rfl,ho,ap⟩;rw[←bt.out]at ho;obtain⟨pj,cj,rfl⟩:=sK ho;rw[←av.out];exact⟨pj,cj,rfl,ho,ap⟩
  clear bx cx cz hok;go_wp2_with fail;refine(cc _ M7.ext).mono ?_;rintro e w8 ⟨pj,cj,rfl,cu,a7⟩;have M8:=(M7.call a7 cu)
  clear M7 a7 cu cc;go_wp2;go_loopw [12] (fun i wr=> ∃(j:Nat),j≤2*b.size+1∧i=I j∧Mem w1 wr [aJ w1 TDd 3 (pj) (nd) (cj) (J.flatMap cC),aI w1 (X5) aK (aSj r p5 c5 q5 d5),aSh w1 p5 r.cells c5,aSi w1 q5 r.vs d5,aI w1 w1 aK (aSj h p o q c2)]) (fun i _=>2*b.size+2-(intOf i).toNat)
  case atStart=>exact⟨0,aQ1 _,rfl,M8⟩
  case round=>
   clear M8;obtain⟨j,hj,rfl,hM⟩:=hrel;have HM:=hM;clear hM;by_cases hlt:j≤b.size
   ·skip;have i1:(0:Int)≤(j:Int):=by omega
    have i2:(j:Int)≤(b.size:Int):=by omega
    obtain⟨r1,r2,r3⟩:=aOu b.data.toList.length f b.data.toList j (aPv _);obtain⟨m,hm⟩: ∃m,m=(rj f (b.data.toList.take j)).1.length:=⟨_,rfl⟩
    rw[←hm,←bt.out]at r1 r3;obtain⟨zh,bm⟩: ∃z,z=nU h (J.take m):=⟨_,rfl⟩
    have dx:m≤nd:=by rw[←av.out];exact r3
    have d0:=gY (rZ (J.take m) bj.out);rw[←bm]at d0;have XR:=xQ HM.ext;have ay:(J.take m).length=m:=by rw[aQl,av.out];omega
    have cl:Hid (∀B w',B≤w'.heap.size→Ext wr w'→U 18 #[.agg #[h.aA,h.aB,.slice p h.cells o,h.free,h.step,h.aE,h.aF,h.aC,h.aG,.slice q h.vs c2],f,.string (b.extract 0 j)] w' fun e w''=> ∃pa ca qa da,e= .returned (.tuple #[.agg #[zh.aA,zh.aB,.slice pa zh.cells ca,zh.free,zh.step,zh.aE,zh.aF,zh.aC,zh.aG,.slice qa zh.vs da],m])∧w''.ownsRow B TI 1 (.slice pa zh.cells ca) zh.cells.length (ivs zh.cells)∧w''.ownsRow B TV 4 (.slice qa zh.vs da) zh.vs.length (zh.vs.flatMap aD)∧Ext w' w''):=fun B w' hB' hx=>by have:=xL h p _ o q _ c2 f (b.extract 0 j) w' (HI.out.ext (XR.out.trans hx)) (by simp[ByteArray.size_extract];omega) hB (HE.out.ext (ai.out.trans (XR.out.trans hx))) (bi.out.ext (ai.out.trans (XR.out.trans hx)));rw[aA5 bj.out,aCg,r1,ay,←bm]at this;refine this.mono ?_;rintro e w'' ⟨pa,ca,qa,da,rfl,o1,o2,ap⟩;exact⟨pa,ca,qa,da,rfl,dM o1 hB',dM o2 hB',ap⟩
    have dh:=xQ bm;clear r1 r2 r3 bm hm ay;go_upto_region 14 with fail
    refine uV (gl [gEq (.agg #[(h.aA:Int),(h.aB:Int),.slice p h.cells o,(h.free:Int),(h.step:Int),(h.aE:Int),(h.aF:Int),(h.aC:Int),(h.aG:Int),.slice q h.vs c2]),gEq f,gEq (.string b),gEq (j:Int),gEq (.string (b.extract 0 j)),(fun v w'=> ∃p c q d,v= .tuple #[.agg #[zh.aA,zh.aB,.slice p zh.cells c,zh.free,zh.step,zh.aE,zh.aF,zh.aC,zh.aG,.slice q zh.vs d],m]∧w'.ownsRow wr TI 1 (.slice p zh.cells c) zh.cells.length (ivs zh.cells)∧w'.ownsRow wr TV 4 (.slice q zh.vs d) zh.vs.length (zh.vs.flatMap aD)),(fun v w'=> ∃p c q d,v= .tuple #[.agg #[zh.aA,zh.aB,.slice p zh.cells c,zh.free,zh.step,zh.aE,zh.aF,zh.aC,zh.aG,.slice q zh.vs d],m]∧w'.ownsRow wr TI 1 (.slice p zh.cells c) zh.cells.length (ivs zh.cells)∧w'.ownsRow wr TV 4 (.slice q zh.vs d) zh.vs.length (zh.vs.flatMap aD)),(fun v w'=> ∃p c q d,v= .agg #[zh.aA,zh.aB,.slice p zh.cells c,zh.free,zh.step,zh.aE,zh.aF,zh.aC,zh.aG,.slice q zh.vs d]∧w'.ownsRow wr TI 1 (.slice p zh.cells c) zh.cells.length (ivs zh.cells)∧w'.ownsRow wr TV 4 (.slice q zh.vs d) zh.vs.length (zh.vs.flatMap aD)),gEq (m:Int),aK3 wr aK #[(),(),((),()),(),(),(),(),(),(),((),())]]) 10 8 (by kernel_rfl) rfl (by kernel_rfl) (by kernel_rfl) (by kernel_rfl) (by decide) (mM (aX (bH _) (aX (bH _) (aX (bH _) (aX (bH _) (aX (bH _) (aX (fun v w w' ⟨p,c,q,d,e,o1,o2⟩ hx=>⟨p,c,q,d,e,aZ o1 hx,aZ o2 hx⟩) (aX (fun v w w' ⟨p,c,q,d,e,o1,o2⟩ hx=>⟨p,c,q,d,e,aZ o1 hx,aZ o2 hx⟩) (aX (fun v w w' ⟨p,c,q,d,e,o1,o2⟩ hx=>⟨p,c,q,d,e,aZ o1 hx,aZ o2 hx⟩) (aX (bH _) (aX (uF _ _ _) (pH)))))))))))) (k:=12) (by kernel_rfl) (by decide) (by kernel_rfl) (ls:= [(0,some 80),(1,some 81),(2,some 82),(3,some 83),(4,some 84),(5,some 85),(6,some 79),(7,some 86),(8,some 87),(9,some 13)]) (by kernel_rfl) (ir:= [0,1,2,3,4,5,6,7,8,9]) (by kernel_rfl) rfl (fun _ _ _ _ h=>h) (lf:= [(6,some 79)]) (by kernel_rfl) ?flo ?steps (tl:=#[true,true,true,true,true,true,true,true,true,true,false,false]) (by kernel_rfl) ?fin
    case flo=>intro wi hx v6 h6;obtain⟨a2,l,a3,ax,rfl,an,ao⟩:=h6;exact⟨I m,.inl ⟨by rfl,fun w=>by go_simp⟩,rfl⟩
    case steps=>
     refine sC [] rfl (fun wi hx=> ?_) ?_
     ·intro K hK;have hX:Ext wr wi:=xE;obtain⟨dk,dl,dm,dn,dp,dq,dr,ds,dt,du⟩:=((HM.bk 4).ext hX).ten;go_simp;exact hK _ _ ⟨.agg #[(h.aA:Int),(h.aB:Int),.slice p h.cells o,(h.free:Int),(h.step:Int),(h.aE:Int),(h.aF:Int),(h.aC:Int),(h.aG:Int),.slice q h.vs c2],rfl,rfl,Ext.refl _⟩
     refine sS0 [] (sS0 [] (sS0 [] (sS2 [(2,some 82),(3,some 83)] ?_)));refine sC [(0,some 80),(1,some 81),(4,some 84)] rfl (fun wi hx=> ?_) ?_
     ·intro v0 h0 v1 h1 v4 h4 K hK;subst h0 h1 h4;go_simp;refine(cl wr _ hx.sz hx.of_drew).mono ?_;rintro e w5 ⟨af,g,ag,ae,rfl,o5,v5,a1⟩;go_simp;exact hK _ _ ⟨_,rfl,⟨af,g,ag,ae,rfl,o5,v5⟩,a1⟩
     refine sC [(5,some 85)] rfl (fun wi hx=> ?_) ?_
     ·intro v5 h5 K hK;obtain⟨af,g,ag,ae,rfl,ak,al⟩:=h5;go_simp;exact hK _ _ ⟨_,rfl,⟨af,g,ag,ae,rfl,ak,al⟩,Ext.refl _⟩
     refine sC [(6,some 79)] rfl (fun wi hx=> ?_) ?_
     ·intro v6 h6 K hK;obtain⟨a2,l,a3,ax,rfl,an,ao⟩:=h6;go_simp;exact hK _ _ ⟨_,rfl,⟨a2,l,a3,ax,rfl,an,ao⟩,Ext.refl _⟩
     refine sC [(6,some 79)] rfl (fun wi hx=> ?_) ?_
     ·intro v6 h6 K hK;obtain⟨a2,l,a3,ax,rfl,an,ao⟩:=h6;go_simp;exact hK _ _ ⟨I m,rfl,rfl,Ext.refl _⟩
     refine sC [] rfl (fun wi hx=> ?_) StepsL.nil
     ·intro K hK;go_simp;exact hK _ _ ⟨.pointer (some ⟨wi,0,none⟩),rfl,⟨wi.heap.size,rfl,by have:=hx.sz;simp at this;omega,Blk.new _ _ _⟩,(Ext.refl _).alloc _⟩
    case fin=>
     intro wi hx v0 h0 v1 h1 v2 h2 v3 h3 v4 h4 v5 h5 v6 h6 v7 h7 v8 h8 v9 h9;subst h0 h1 h2 h3 h4;obtain⟨af,g,ag,ae,rfl,ak,al⟩:=h5;obtain⟨a2,l,a3,ax,rfl,an,ao⟩:=h6;obtain⟨eo,s,ep,dv,rfl,ct,c1⟩:=h7;obtain rfl:=h8;obtain⟨g9,rfl,cq,B9⟩:=h9;have a6:=hx.of_drew;obtain⟨v7,rfl⟩: ∃z,z=wi:=⟨_,rfl⟩
     have bu:=(Mem.own2blk (HM) a6 B9 cq ct c1 (by decide) (by decide) (by decide))
     clear hx a6 B9 cq ak al an ao ct c1 cl XR;obtain⟨b1,a8,b2,a9,b3,ba,b4,bb,b5,bc,b6,bd,b7,be,b8,bf,b9,bg,cb,bh⟩:=(bu.bk 2).tenf;try go_frame
     refine wpAny_ready (rs:= [10]) (by kernel_rfl) (by simp) ?_;refine AllReady.cons rfl (fun K hK=> ?_) AllReady.nil;go_simp;refine hK _ _ ?_;clear hK K b1 a8 b2 a9 b3 ba b4 bb b5 bc b6 bd b7 be b8 bf b9 bg cb bh;have aw:=(bu.put10 (i:=2) rfl (I zh.aA) (I zh.aB) (.slice eo zh.cells s) (I zh.free) (I zh.step) (I zh.aE) (I zh.aF) (I zh.aC) (I zh.aG) (.slice ep zh.vs dv))
     generalize a5:World.setCell _ _ _=ah;rw[a5]at aw;clear a5 bu;refine wpAny_ready (rs:= [11]) (by kernel_rfl) (by simp) ?_;refine AllReady.cons rfl (fun K hK=> ?_) AllReady.nil;go_simp;refine hK _ _ ?_;clear hK K;refine wpAny_done (by kernel_rfl) ?_ _;try go_frame
     have XW:=xQ aw.ext;have cm:=xQ (show Sl ah pj m cj 3 ((J.take m).flatMap cC)from by have:=aFt (aw.sq 3) dx;rwa[aH6]at this);have ay:(J.take m).length=m:=by rw[aQl,av.out];omega
     have ck:Hid (∀B w',B≤w'.heap.size→Ext ah w'→U 6 #[.agg #[h.aA,h.aB,.slice p h.cells o,h.free,h.step,h.aE,h.aF,h.aC,h.aG,.slice q h.vs c2],.slice pj m cj] w' fun e w''=> ∃pa ca qa da ps nq cs,e= .returned (.tuple #[.agg #[zh.aA,zh.aB,.slice pa zh.cells ca,zh.free,zh.step,zh.aE,zh.aF,zh.aC,zh.aG,.slice qa zh.vs da],.slice ps nq cs])∧w''.ownsRow B TI 1 (.slice pa zh.cells ca) zh.cells.length (ivs zh.cells)∧w''.ownsRow B TV 4 (.slice qa zh.vs da) zh.vs.length (zh.vs.flatMap aD)∧Ext w' w''):=fun B w' hB' hx=>by have:=oA h p _ o q _ c2 pj (J.take m).length cj (J.take m) w' (HI.out.ext (XW.out.trans hx)) (ay.symm▸cm.out.ext hx) (by omega) (bi.out.ext (ai.out.trans (XW.out.trans hx)));unfold vP at this;rw[if_pos bj.out,ay,←dh.out]at this;unfold mB at this;refine this.mono ?_;rintro e w'' ⟨pa,ca,qa,da,ps,cs,rfl,o1,o2,o3,ap⟩;exact⟨pa,ca,qa,da,ps,_,cs,rfl,dM o1 hB',dM o2 hB',ap⟩
     clear ay cm;have t3:decide (nd<m)=false:=by simp;omega
     have i3:(0:Int)≤(m:Int):=by omega
     have ew:=(aw.sq 3).le;have i4:(m:Int)≤(cj:Int):=by omega
     have i6:(m:Int).toNat=m:=by omega
     go_upto_region 17 with fail
     refine uV (gl [gEq (.agg #[(h.aA:Int),(h.aB:Int),.slice p h.cells o,(h.free:Int),(h.step:Int),(h.aE:Int),(h.aF:Int),(h.aC:Int),(h.aG:Int),.slice q h.vs c2]),gEq (.slice pj nd cj),gEq (m:Int),gEq (.slice pj m cj),(fun v w'=> ∃p c q d ps nq cs,v= .tuple #[.agg #[zh.aA,zh.aB,.slice p zh.cells c,zh.free,zh.step,zh.aE,zh.aF,zh.aC,zh.aG,.slice q zh.vs d],.slice ps nq cs]∧w'.ownsRow ah TI 1 (.slice p zh.cells c) zh.cells.length (ivs zh.cells)∧w'.ownsRow ah TV 4 (.slice q zh.vs d) zh.vs.length (zh.vs.flatMap aD)),(fun v w'=> ∃p c q d ps nq cs,v= .tuple #[.agg #[zh.aA,zh.aB,.slice p zh.cells c,zh.free,zh.step,zh.aE,zh.aF,zh.aC,zh.aG,.slice q zh.vs d],.slice ps nq cs]∧w'.ownsRow ah TI 1 (.slice p zh.cells c) zh.cells.length (ivs zh.cells)∧w'.ownsRow ah TV 4 (.slice q zh.vs d) zh.vs.length (zh.vs.flatMap aD)),(fun v w'=> ∃p c q d,v= .agg #[zh.aA,zh.aB,.slice p zh.cells c,zh.free,zh.step,zh.aE,zh.aF,zh.aC,zh.aG,.slice q zh.vs d]∧w'.ownsRow ah TI 1 (.slice p zh.cells c) zh.cells.length (ivs zh.cells)∧w'.ownsRow ah TV 4 (.slice q zh.vs d) zh.vs.length (zh.vs.flatMap aD)),(fun v _=> ∃ps nq cs,v= .slice ps nq cs),aK3 ah aK #[(),(),((),()),(),(),(),(),(),(),((),())]]) 9 7 (by kernel_rfl) rfl (by kernel_rfl) (by kernel_rfl) (by kernel_rfl) (by decide) (mM (aX (bH _) (aX (bH _) (aX (bH _) (aX (bH _) (aX (fun v w w' ⟨p,c,q,d,ps,nq,cs,e,o1,o2⟩ hx=>⟨p,c,q,d,ps,nq,cs,e,aZ o1 hx,aZ o2 hx⟩) (aX (fun v w w' ⟨p,c,q,d,ps,nq,cs,e,o1,o2⟩ hx=>⟨p,c,q,d,ps,nq,cs,e,aZ o1 hx,aZ o2 hx⟩) (aX (fun v w w' ⟨p,c,q,d,e,o1,o2⟩ hx=>⟨p,c,q,d,e,aZ o1 hx,aZ o2 hx⟩) (aX (fun _ _ _ h _=>h) (aX (uF _ _ _) (pH))))))))))) (k:=11) (by kernel_rfl) (by decide) (by kernel_rfl) (ls:= [(0,some 97),(1,some 98),(2,some 99),(3,some 100),(4,some 101),(5,some 96),(6,some 102),(7,some 103),(8,some 15)]) (by kernel_rfl) (ir:= [0,1,2,3,4,5,6,7,8]) (by kernel_rfl) rfl (fun _ _ _ _ h=>h) (lf:= [(5,some 96)]) (by kernel_rfl) ?flo ?steps (tl:=#[true,true,true,true,true,true,true,true,true,false,false]) (by kernel_rfl) ?fin
     case flo=>intro wi hx v5 h5;obtain⟨af,g,ag,ae,au,ar,aq,rfl,ak,al⟩:=h5;exact⟨.slice au ar aq,.inl ⟨by rfl,fun w=>by go_simp⟩,⟨_,_,_,rfl⟩⟩
     case steps=>
      refine sC [] rfl (fun wi hx=> ?_) ?_
      ·intro K hK;have hX:Ext ah wi:=xE;obtain⟨dk,dl,dm,dn,dp,dq,dr,ds,dt,du⟩:=((aw.bk 7).ext hX).ten;go_simp;exact hK _ _ ⟨.agg #[(h.aA:Int),(h.aB:Int),.slice p h.cells o,(h.free:Int),(h.step:Int),(h.aE:Int),(h.aF:Int),(h.aC:Int),(h.aG:Int),.slice q h.vs c2],rfl,rfl,Ext.refl _⟩
      refine sS0 [] (sS0 [] (sS2 [(1,some 98),(2,some 99)] ?_));refine sC [(0,some 97),(3,some 100)] rfl (fun wi hx=> ?_) ?_
      ·intro v0 h0 v3 h3 K hK;subst h0 h3;go_simp;refine(ck ah _ hx.sz hx.of_drew).mono ?_;rintro e w5 ⟨af,g,ag,ae,au,ar,aq,rfl,o5,v5,a1⟩;go_simp;exact hK _ _ ⟨_,rfl,⟨af,g,ag,ae,au,ar,aq,rfl,o5,v5⟩,a1⟩
      refine sC [(4,some 101)] rfl (fun wi hx=> ?_) ?_
      ·intro v4 h4 K hK;obtain⟨dc,n,de,co,dd,db,cn,rfl,az,a0⟩:=h4;go_simp;exact hK _ _ ⟨_,rfl,⟨dc,n,de,co,dd,db,cn,rfl,az,a0⟩,Ext.refl _⟩
      refine sC [(5,some 96)] rfl (fun wi hx=> ?_) ?_
      ·intro v5 h5 K hK;obtain⟨af,g,ag,ae,au,ar,aq,rfl,ak,al⟩:=h5;go_simp;exact hK _ _ ⟨_,rfl,⟨af,g,ag,ae,rfl,ak,al⟩,Ext.refl _⟩
      refine sC [(5,some 96)] rfl (fun wi hx=> ?_) ?_
      ·intro v5 h5 K hK;obtain⟨af,g,ag,ae,au,ar,aq,rfl,ak,al⟩:=h5;go_simp;exact hK _ _ ⟨.slice au ar aq,rfl,⟨_,_,_,rfl⟩,Ext.refl _⟩
      refine sC [] rfl (fun wi hx=> ?_) StepsL.nil
      ·intro K hK;go_simp;exact hK _ _ ⟨.pointer (some ⟨wi,0,none⟩),rfl,⟨wi.heap.size,rfl,by have:=hx.sz;simp at this;omega,Blk.new _ _ _⟩,(Ext.refl _).alloc _⟩
     case fin=>
      intro wi hx v0 h0 v1 h1 v2 h2 v3 h3 v4 h4 v5 h5 v6 h6 v7 h7 v8 h8;subst h0 h1 h2 h3;obtain⟨dc,n,de,co,dd,db,cn,rfl,az,a0⟩:=h4;obtain⟨af,g,ag,ae,au,ar,aq,rfl,ak,al⟩:=h5;obtain⟨a2,l,a3,ax,rfl,an,ao⟩:=h6;obtain⟨e3,e2,eu,rfl⟩:=h7;obtain⟨g8,rfl,cp,B8⟩:=h8;have a6:=hx.of_drew;obtain⟨v8,rfl⟩: ∃z,z=wi:=⟨_,rfl⟩
      have bv:=(Mem.own2blk (aw) a6 B8 cp an ao (by decide) (by decide) (by decide))
      clear hx a6 B8 cp az a0 ak al an ao ck XW t3;obtain⟨b1,a8,b2,a9,b3,ba,b4,bb,b5,bc,b6,bd,b7,be,b8,bf,b9,bg,cb,bh⟩:=(bv.bk 2).tenf;try go_frame
      refine wpAny_ready (rs:= [9]) (by kernel_rfl) (by simp) ?_;refine AllReady.cons rfl (fun K hK=> ?_) AllReady.nil;go_simp;refine hK _ _ ?_;clear hK K b1 a8 b2 a9 b3 ba b4 bb b5 bc b6 bd b7 be b8 bf b9 bg cb bh;have aj:=(bv.put10 (i:=2) rfl (I zh.aA) (I zh.aB) (.slice a2 zh.cells l) (I zh.free) (I zh.step) (I zh.aE) (I zh.aF) (I zh.aC) (I zh.aG) (.slice a3 zh.vs ax))
      generalize a5:World.setCell _ _ _=e4;rw[a5]at aj;clear a5 bv;refine wpAny_ready (rs:= [10]) (by kernel_rfl) (by simp) ?_;refine AllReady.cons rfl (fun K hK=> ?_) AllReady.nil;go_simp;refine hK _ _ ?_;clear hK K;refine wpAny_done (by kernel_rfl) ?_ _;try go_frame
      obtain⟨d1,d2,d3,d4,d7,d8,ea,eb,ec,ed⟩:=(aj.bk 5).ten;obtain⟨ee,ef,eg,eh,ei,ej,ek,el,em,en⟩:=(aj.bk 2).ten;go_wp2_with fail;clear d1 d2 d3 d4 d7 d8 ea eb ec ed ee ef eg eh ei ej ek el em en;refine Z (kY zh _ _ _ _ _ _ _ _ _ _ _ _ _ ⟨(aj.sq 3),(aj.sq 4)⟩ ⟨(aj.sq 0),(aj.sq 1)⟩) fun e7 bs=>?_
      have dj:=(aj.adv bs)
      clear aj bs;obtain⟨b0,cw⟩: ∃x,x=b.size/12:=⟨_,rfl⟩
      have t8:(b.size:Int)/12=(b0:Int):=by omega
      have et:b0≤b.size:=by omega
      clear cw;go_wp2;go_roundw
      case rel=>exact⟨j+1+b0,by omega,by go_num,dj.pick [6,7,8,9,10] (by decide) rfl⟩
      case measure=>first|(simp[intOf];done)|(simp[intOf];omega)
   as_aux_lemma=>
   have HA:=xQ (oA h p _ o q _ c2 pj J.length cj J wr (HI.out.ext HM.ext) (av.out.symm▸(HM.sq 0)) (by omega) (bi.out.ext (ai.out.trans HM.ext)));unfold vP at HA;rw[if_pos bj.out,dg.out,av.out]at HA;unfold mB at HA;have ci:=xQ fun(w':World) (hi:IsHouse w' r p5 r.cells.length c5 q5 r.vs.length d5)=>nI r p5 _ c5 q5 _ d5 w' hi
   rw[df.out]at ci;obtain⟨t,u,y,aa,n,g,l,s,ab,ad⟩:=(HM.bk 4).ten;go_wp2_with fail;clear t u y aa n g l s ab ad;refine HA.out.mono ?_;rintro e w9 ⟨p9,c9,q9,d9,ps,cs,rfl,cv,c3,_,bl⟩;clear HA;have am:=(HM.own2 bl cv c3 (aPv _) (by decide))
   clear HM bl cv c3;have bo:=am.hi 3;obtain⟨t,u,y,aa,n,g,l,s,ab,ad⟩:=(am.bk 3).ten;go_wp2_with fail;clear t u y aa n g l s ab ad;refine Z (kY r _ _ _ _ _ _ _ _ _ _ _ _ _ ⟨((am.c0 aK (aSj r p9 c9 q9 d9)).sq 5),((am.c0 aK (aSj r p9 c9 q9 d9)).sq 6)⟩ ⟨((am.c0 aK (aSj r p9 c9 q9 d9)).sq 1),((am.c0 aK (aSj r p9 c9 q9 d9)).sq 2)⟩) fun e5 bq=>?_
   have a4:=((am.c0 aK (aSj r p9 c9 q9 d9)).adv bq)
   clear am bo bq;obtain⟨t,u,y,aa,n,g,l,s,ab,ad⟩:=(a4.bk 4).ten;go_wp2_with fail;clear t u y aa n g l s ab ad;refine Z (ci _ ⟨(a4.sq 5),(a4.sq 6)⟩) fun e6 br=>?_
   have di:=(a4.adv br)
   clear a4 br;go_wp2;go_ret;exact⟨rfl,ai.out.trans di.ext⟩
 skip;rw[show bL h=false by simpa using hok];have hr:=cf.out;rw[aFz hok]at hr;simp only[aQt]at hr;obtain⟨dy,dz⟩:=hr;subst dy dz;have cd:=xQ fun w' (hx:Ext w7 w')=>aG7 p5 c5 q5 d5 w' (IsHouse.ext ⟨(M7.sq 1),(M7.sq 2)⟩ hx)
 clear hok;unfold hZ at*;obtain⟨t,u,y,aa,n,g,l,s,ab,ad⟩:=(M7.bk 0).ten;go_wp2_with fail;clear t u y aa n g l s ab ad;refine Z (cd _ xE) fun w8 a7=>?_
 have M8:=(M7.adv a7)
 clear M7 a7 cd;go_wp2_with fail;refine Z (aKa _ (HE.out.ext (ai.out.trans M8.ext))) fun w9 bl=>?_
 have X9:Ext w w9:=ai.out.trans (M8.ext.trans bl);go_wp2;go_ret;exact⟨rfl,X9⟩
theorem walk_FnReplay (W:World)(v:Value)(u:Unit)(hc:Code W v)(hE:Env W)(hB:BitTab W):U 4 #[v] W (O (.bool true) W):=by
 have hD:=aH8 v W hc;obtain⟨p0,n,a,bs,rfl,h,hb⟩:=hc;by_cases hn:(n:Int)≤1048576
 ·exact aH5 p0 n a W hn (xQ hE) (xQ hB) hD
 exact aCc p0 n a W (by omega)
end Go.Proofs.YtbgkcehffiogcaaGreatDoor
