/-
  A law's walk or frame (@packed).
-/
import Derived.Test.YtgnkoffndhmhpaaGreatDoorP2
import Derived.Test.YtgnkoffndhmhpaaGreatDoorP5
import Derived.Test.YtgnkoffndhmhpaaGreatDoorP8
import Derived.Test.YtgnkoffndhmhpaaGreatDoorP22
import Derived.Test.YtgnkoffndhmhpaaGreatDoorP38
import Derived.Test.YtgnkoffndhmhpaaGreatDoorP39
namespace Go.Proofs.YtgnkoffndhmhpaaGreatDoor
open Go.RowKit
set_option linter.unusedVariables false
set_option linter.unusedSimpArgs false
set_option maxHeartbeats 8000000
set_option maxRecDepth 100000
theorem aJm (h:aO)(k a b:Int){r:aO}{num:Int}{ok:Bool}(hr:doR h k a b=(r,num,ok)):
  (ok=false∧num= -1∧(r=h∨aS h=false))∨(ok=true∧aS r=true∧r≠h∧0≤num∧h.aF≤r.aF∧r.aF-h.aF≤max (aQ h a) 0∧0≤h.aF∧r.aF≤99999):=by
 unfold doR at hr
 by_cases hok:aS h=true
 ·rw[if_pos hok]at hr
  cases hd:bL h k a b with
  |none=>
   rw[hd]at hr
   simp only[Prod.mk.injEq]at hr
   obtain⟨rfl,rfl,rfl⟩:=hr
   exact .inl ⟨rfl,rfl,.inl rfl⟩
  |some x=>
   obtain⟨g,n⟩:=x
   rw[hd]at hr
   simp only[Prod.mk.injEq]at hr
   obtain⟨rfl,rfl,rfl⟩:=hr
   obtain⟨l1,l2,l3,l4,l5⟩:=aLy hok hd
   obtain⟨_,_,q3,_,_⟩:=(dH h).1 hok
   obtain⟨_,_,g3,_,_⟩:=(dH g).1 l1
   exact .inr ⟨rfl,l1,l5,l2,l3,l4,by omega,by omega⟩
 ·rw[if_neg hok]at hr
  simp only[Prod.mk.injEq]at hr
  obtain⟨rfl,rfl,rfl⟩:=hr
  exact .inl ⟨rfl,rfl,.inr (by simpa using hok)⟩
theorem vR (p:OA)(n cap:Nat)(w:World)(h:(1048576:Int)<n):
  Calls Tryz.prog 5 #[.slice p n cap] w fun e w'=>e= .returned (.bool true)∧Ext w w':=by
 go_enter Tryz.func5,Tryz.ntmps5
 go_wp2
 go_ret
 exact⟨rfl,xE⟩
theorem aBj (p0:OA)(n0 cap0:Nat)(w:World)(hn:(n0:Int)≤1048576)(HE:Hid (Env w))(HBt:Hid (BitTab w))
  (HD:Calls Tryz.prog 26 #[.slice p0 n0 cap0] w (aEa w)):
  Calls Tryz.prog 5 #[.slice p0 n0 cap0] w fun e w'=>e= .returned (.bool true)∧Ext w w':=by
 unfold aEa at HD
 have HD:=xQ HD
 have co:decide ((1048576:Int)<(n0:Int))=false:=by simp;omega
 have cu:decide (1048576<n0)=false:=by simp;omega
 go_enter Tryz.func5,Tryz.ntmps5
 go_wp2_with fail
 refine HD.out.mono ?_
 rintro e w1 ⟨h,p,f,q,c2,a,b,c,rfl,c8,dm,hi,bx⟩
 have HI:=xQ hi
 have l:=xQ bx
 clear hi HD bx co cu
 obtain⟨r,num,ok,hr⟩: ∃r num ok,doR h a b c=(r,num,ok):=⟨_,_,_,rfl⟩
 have b6:xC 27 #[.agg #[h.aA,h.aB,.slice p h.cells.length f,h.free,h.step,h.aD,h.aG,h.aC,h.aF,.slice q h.vs.length c2],.agg #[a,b,c]] w1 fun w' e w''=> ∃pa ca qa da,e= .returned (.tuple #[.agg #[r.aA,r.aB,.slice pa r.cells.length ca,r.free,r.step,r.aD,r.aG,r.aC,r.aF,.slice qa r.vs.length da],num,.bool ok])∧w''.ownsRow w'.heap.size TI 1 (.slice pa r.cells.length ca) r.cells.length (ivs r.cells)∧w''.ownsRow w'.heap.size TV 4 (.slice qa r.vs.length da) r.vs.length (r.vs.flatMap aE)∧Ext w' w'':=fun w' hx=>by
  have:=aEn h a b c p _ f q _ c2 w' (HI.out.ext hx) (HBt.out.ext (l.out.trans hx))
  rw[hr]at this
  exact this
 have b0:xC 28 #[.agg #[h.aA,h.aB,.slice p h.cells.length f,h.free,h.step,h.aD,h.aG,h.aC,h.aF,.slice q h.vs.length c2],.agg #[a,b,c]] w1 fun w' e w''=> ∃pa ca qa da,e= .returned (.tuple #[.agg #[r.aA,r.aB,.slice pa r.cells.length ca,r.free,r.step,r.aD,r.aG,r.aC,r.aF,.slice qa r.vs.length da],num,.bool ok])∧w''.ownsRow w'.heap.size TI 1 (.slice pa r.cells.length ca) r.cells.length (ivs r.cells)∧w''.ownsRow w'.heap.size TV 4 (.slice qa r.vs.length da) r.vs.length (r.vs.flatMap aE)∧Ext w' w'':=fun w' hx=>by
  have:=aK3 h a b c p _ f q _ c2 w' (HI.out.ext hx)
  rw[hr]at this
  exact this
 have b3:=aJm h a b c hr
 have dh:r.cells.length≤1000∧r.vs.length≤1000:=by have:=aL4 h a b c;rw[hr]at this;exact this
 clear hr
 go_wp2_with fail
 refine(b6 _ (((Mem.start w1).bn aL #[h.aA,h.aB,.slice p h.cells.length f,h.free,h.step,h.aD,h.aG,h.aC,h.aF,.slice q h.vs.length c2] (w1.heap.size)).bn TDd #[a,b,c] (w1.heap.size+1)).ext).mono ?_
 rintro e w2 ⟨p5,c5,q5,d5,rfl,bu,b4,bq⟩
 have M2:=((((Mem.start w1).bn aL #[h.aA,h.aB,.slice p h.cells.length f,h.free,h.step,h.aD,h.aG,h.aC,h.aF,.slice q h.vs.length c2] (w1.heap.size)).bn TDd #[a,b,c] (w1.heap.size+1)).own2 bq bu b4 (Nat.le_refl _) (by decide))
 have a3:=M2.hi 2
 have a1:=M2.hi 3
 clear bq bu b4
 obtain⟨u,t,z,ae,x,y,ab,m,v,ad⟩:=(M2.bk 3).ten
 obtain⟨o,s,aa⟩:=(M2.bk 2).tri
 go_wp2_with fail
 clear u t z ae x y ab m v ad o s aa
 refine(b0 _ (M2.bn aL #[r.aA,r.aB,.slice p5 r.cells.length c5,r.free,r.step,r.aD,r.aG,r.aC,r.aF,.slice q5 r.vs.length d5] (w2.heap.size)).ext).mono ?_
 rintro e w3 ⟨p6,c6,q6,d6,rfl,bz,b1,bv⟩
 have M3:=((M2.bn aL #[r.aA,r.aB,.slice p5 r.cells.length c5,r.free,r.step,r.aD,r.aG,r.aC,r.aF,.slice q5 r.vs.length d5] (w2.heap.size)).own2 bv bz b1 (Nat.le_refl _) (by decide))
 clear M2 a3 a1 bv bz b1
 have az:=M3.hi 2
 have ah:=M3.hi 5
 have bm:=M3.hi 6
 obtain⟨u,t,z,ae,x,y,ab,m,v,ad⟩:=(M3.bk 2).ten
 go_wp2_with fail
 clear u t z ae x y ab m v ad b6 b0
 refine(yB r _ _ _ _ _ _ _ _ _ _ _ _ _ ⟨((M3.bn aL #[r.aA,r.aB,.slice p6 r.cells.length c6,r.free,r.step,r.aD,r.aG,r.aC,r.aF,.slice q6 r.vs.length d6] (w3.heap.size)).sq 4),((M3.bn aL #[r.aA,r.aB,.slice p6 r.cells.length c6,r.free,r.step,r.aD,r.aG,r.aC,r.aF,.slice q6 r.vs.length d6] (w3.heap.size)).sq 5)⟩ ⟨((M3.bn aL #[r.aA,r.aB,.slice p6 r.cells.length c6,r.free,r.step,r.aD,r.aG,r.aC,r.aF,.slice q6 r.vs.length d6] (w3.heap.size)).sq 1),((M3.bn aL #[r.aA,r.aB,.slice p6 r.cells.length c6,r.free,r.step,r.aD,r.aG,r.aC,r.aF,.slice q6 r.vs.length d6] (w3.heap.size)).sq 2)⟩).mono ?_
 rintro e w4 ⟨rfl,bw⟩
 have M4:=((M3.bn aL #[r.aA,r.aB,.slice p6 r.cells.length c6,r.free,r.step,r.aD,r.aG,r.aC,r.aF,.slice q6 r.vs.length d6] (w3.heap.size)).adv bw)
 clear M3 az ah bm bw
 have ay:=M4.hi 0
 have a0:=M4.hi 3
 have a5:=M4.hi 6
 have ar:=M4.hi 7
 have M5:=(show Mem w1 w4 [aJ w1.heap.size TI 1 (p5) (r.cells.length) (c5) (ivs r.cells),aJ w1.heap.size TV 4 (q5) (r.vs.length) (d5) (r.vs.flatMap aE),aI w1.heap.size (w2.heap.size) aL #[r.aA,r.aB,.slice p5 r.cells.length c5,r.free,r.step,r.aD,r.aG,r.aC,r.aF,.slice q5 r.vs.length d5],aI w1.heap.size (w1.heap.size+1) TDd #[a,b,c],aI w1.heap.size (w1.heap.size) aL #[h.aA,h.aB,.slice p h.cells.length f,h.free,h.step,h.aD,h.aG,h.aC,h.aF,.slice q h.vs.length c2]]from M4.pick [4,5,3,6,7] (by decide) rfl)
 clear M4 ay a0 a5 ar
 have am:=M5.hi 2
 have ax:=M5.hi 3
 have ak:=M5.hi 4
 rcases b3 with⟨rfl,rfl,hl⟩|⟨rfl,l1,l2,l3,l4,l5,l6,l7⟩
 ·skip
  have HL:=xQ hl
  clear hl
  obtain⟨u,t,z,ae,x,y,ab,m,v,ad⟩:=(M5.bk 2).ten
  obtain⟨o,s,aa,a6,al,a8,bl,ao,bp,a7⟩:=(M5.bk 4).ten
  go_wp2_with fail
  clear u t z ae x y ab m v ad o s aa a6 al a8 bl ao bp a7
  refine(lK r h _ _ _ _ _ _ _ _ _ _ _ _ _ ⟨(M5.sq 0),(M5.sq 1)⟩ (HI.out.ext M5.ext)).mono ?_
  rintro e w5 ⟨b5,rfl,ag,i⟩
  have bt:=xQ ag
  clear ag
  have M6:=(M5.adv i)
  clear M5 am ax ak i
  have ai:=M6.hi 2
  have a4:=M6.hi 3
  have au:=M6.hi 4
  cases b5 with
  |true=>
   go_wp2_with fail
   refine(oS _ (HE.out.ext (l.out.trans M6.ext))).mono ?_
   rintro e w9 ⟨rfl,aj⟩
   have X9:Ext w w9:=l.out.trans (M6.ext.trans aj)
   go_wp2
   go_ret
   exact⟨rfl,X9⟩
  |false=>
   have b8:aS h=false:=by
    rcases HL.out with e|e
    ·exact absurd (bt.out.2 e) Bool.false_ne_true
    ·exact e
   have ba:=xQ (iI h p _ f q _ c2 _ (HI.out.ext M6.ext))
   rw[b8]at ba
   clear b8 bt HL
   obtain⟨o,s,aa,a6,al,a8,bl,ao,bp,a7⟩:=(M6.bk 4).ten
   go_wp2_with fail
   clear o s aa a6 al a8 bl ao bp a7
   refine ba.out.mono ?_
   rintro e w7 ⟨rfl,b7⟩
   have M7:=(M6.adv b7)
   clear M6 ai a4 au b7 ba
   have cm:=M7.hi 2
   have b9:=M7.hi 3
   have c1:=M7.hi 4
   go_wp2_with fail
   refine(oS _ (HE.out.ext (l.out.trans M7.ext))).mono ?_
   rintro e w9 ⟨rfl,aj⟩
   have X9:Ext w w9:=l.out.trans (M7.ext.trans aj)
   go_wp2
   go_ret
   exact⟨rfl,X9⟩
 ·skip
  obtain⟨af,n⟩: ∃d,aQ h b=d:=⟨_,rfl⟩
  rw[n]at l5
  go_upto_region 10 with fail
  have br:=xQ (show IsHouse w4 r p5 _ c5 q5 _ d5 from⟨(M5.sq 0),(M5.sq 1)⟩)
  have XM:=xQ M5.ext
  have bs:=xQ fun(w':World) (hx:Ext w4 w')=>iI r p5 _ c5 q5 _ d5 w' (br.out.ext hx)
  rw[l1]at bs
  have cc:xB 29 #[.agg #[r.aA,r.aB,.slice p5 r.cells.length c5,r.free,r.step,r.aD,r.aG,r.aC,r.aF,.slice q5 r.vs.length d5],.agg #[h.aA,h.aB,.slice p h.cells.length f,h.free,h.step,h.aD,h.aG,h.aC,h.aF,.slice q h.vs.length c2]] w4 false:=fun w' hx=>(lK r h _ _ _ _ _ _ _ _ _ _ _ _ _ (br.out.ext hx) (HI.out.ext (XM.out.trans hx))).mono (by
   rintro e w'' ⟨b5,rfl,ag,i⟩
   cases b5 with
   |true=>exact absurd (ag.1 rfl) l2
   |false=>exact⟨rfl,i⟩)
  have b2:=xQ fun(w':World) (hx:Ext w4 w')=>mR h b p _ f q _ c2 w' (HI.out.ext (XM.out.trans hx))
  rw[n]at b2
  clear l1 l2 n
  have t1:decide (h.aF≤r.aF)=true:=by simp;omega
  have t2:decide (r.aF-h.aF≤max af 0)=true:=by simp;omega
  have t3:decide (0≤num)=true:=by simp;omega
  refine rL (gl [gEq (.agg #[(r.aA:Int),(r.aB:Int),.slice p5 r.cells.length c5,(r.free:Int),(r.step:Int),(r.aD:Int),(r.aG:Int),(r.aC:Int),(r.aF:Int),.slice q5 r.vs.length d5]),gEq (.bool true),gEq (.bool true),gEq (.agg #[(r.aA:Int),(r.aB:Int),.slice p5 r.cells.length c5,(r.free:Int),(r.step:Int),(r.aD:Int),(r.aG:Int),(r.aC:Int),(r.aF:Int),.slice q5 r.vs.length d5]),gEq (.agg #[(h.aA:Int),(h.aB:Int),.slice p h.cells.length f,(h.free:Int),(h.step:Int),(h.aD:Int),(h.aG:Int),(h.aC:Int),(h.aF:Int),.slice q h.vs.length c2]),gEq (.bool false),gEq (.bool true),gEq (.bool true),gEq (.bool true),gEq (.pointer (some ⟨w2.heap.size,8,none⟩)),gEq (r.aF:Int),gEq (.pointer (some ⟨w1.heap.size,8,none⟩)),gEq (h.aF:Int),gEq (.bool true),gEq (.bool true),gEq (.bool true),gEq (.pointer (some ⟨w2.heap.size,8,none⟩)),gEq (r.aF:Int),gEq (.pointer (some ⟨w1.heap.size,8,none⟩)),gEq (h.aF:Int),gEq (r.aF-h.aF:Int),gEq (.agg #[(h.aA:Int),(h.aB:Int),.slice p h.cells.length f,(h.free:Int),(h.step:Int),(h.aD:Int),(h.aG:Int),(h.aC:Int),(h.aF:Int),.slice q h.vs.length c2]),gEq (.pointer (some ⟨w1.heap.size+1,1,none⟩)),gEq b,gEq af,gEq (max af 0:Int),gEq (.bool true),gEq (.bool true),gEq (.bool true),gEq num,gEq (.bool true),gEq (.bool true),gEq (.bool true)]) 33 33 [(0,some 64),(1,some 65),(2,some 66),(3,some 67),(4,some 68),(5,some 69),(6,some 70),(7,some 71),(8,some 72),(9,some 73),(10,some 74),(11,some 75),(12,some 76),(13,some 77),(14,some 78),(15,some 79),(16,some 80),(17,some 81),(18,some 82),(19,some 83),(20,some 84),(21,some 85),(22,some 86),(23,some 87),(24,some 88),(25,some 89),(26,some 90),(27,some 91),(28,some 92),(29,some 93),(30,some 94),(31,some 95),(32,some 2)] ?steps ?fin
  case steps=>
   refine sC [] rfl (fun wi hx=> ?_) ?_
   ·intro K hK
    have hX:Ext w4 wi:=xE
    obtain⟨j,bg,a9,bh,a2,bj,av,bi,bc,bd⟩:=((M5.bk 2).ext hX).ten
    go_simp
    exact hK _ _ ⟨.agg #[(r.aA:Int),(r.aB:Int),.slice p5 r.cells.length c5,(r.free:Int),(r.step:Int),(r.aD:Int),(r.aG:Int),(r.aC:Int),(r.aF:Int),.slice q5 r.vs.length d5],rfl,rfl,Ext.refl _⟩
   refine sC [(0,some 64)] rfl (fun wi hx=> ?_) ?_
   ·intro v0 h0 K hK
    obtain rfl:=h0
    go_simp
    refine(bs _ hx.of_drew).mono ?_
    rintro e w5 ⟨rfl,i⟩
    go_simp
    exact hK _ _ ⟨.bool true,rfl,rfl,i⟩
   refine sS1 [(1,some 65)] ?_
   refine sC [(2,some 66)] rfl (fun wi hx=> ?_) ?_
   ·intro v2 h2 K hK
    obtain rfl:=h2
    have hX:Ext w4 wi:=xE
    obtain⟨j,bg,a9,bh,a2,bj,av,bi,bc,bd⟩:=((M5.bk 2).ext hX).ten
    go_simp
    exact hK _ _ ⟨.agg #[(r.aA:Int),(r.aB:Int),.slice p5 r.cells.length c5,(r.free:Int),(r.step:Int),(r.aD:Int),(r.aG:Int),(r.aC:Int),(r.aF:Int),.slice q5 r.vs.length d5],rfl,rfl,Ext.refl _⟩
   refine sC [(2,some 66)] rfl (fun wi hx=> ?_) ?_
   ·intro v2 h2 K hK
    obtain rfl:=h2
    have hX:Ext w4 wi:=xE
    obtain⟨j,bg,a9,bh,a2,bj,av,bi,bc,bd⟩:=((M5.bk 4).ext hX).ten
    go_simp
    exact hK _ _ ⟨.agg #[(h.aA:Int),(h.aB:Int),.slice p h.cells.length f,(h.free:Int),(h.step:Int),(h.aD:Int),(h.aG:Int),(h.aC:Int),(h.aF:Int),.slice q h.vs.length c2],rfl,rfl,Ext.refl _⟩
   refine sC [(2,some 66),(3,some 67),(4,some 68)] rfl (fun wi hx=> ?_) ?_
   ·intro v2 h2 v3 h3 v4 h4 K hK
    obtain rfl:=h2
    obtain rfl:=h3
    obtain rfl:=h4
    go_simp
    refine(cc _ hx.of_drew).mono ?_
    rintro e w5 ⟨rfl,i⟩
    go_simp
    exact hK _ _ ⟨.bool false,rfl,rfl,i⟩
   refine sS2 [(2,some 66),(5,some 69)] (sS2 [(2,some 66),(6,some 70)] (sS1 [(7,some 71)] (sS1 [(8,some 72)] ?_)))
   refine sC [(8,some 72),(9,some 73)] rfl (fun wi hx=> ?_) ?_
   ·intro v8 h8 v9 h9 K hK
    obtain rfl:=h8
    obtain rfl:=h9
    have hX:Ext w4 wi:=xE
    have j:=((M5.bk 2).ext hX).cl 8
    go_simp
    exact hK _ _ ⟨.int .i64 (r.aF),rfl,rfl,Ext.refl _⟩
   refine sS1 [(8,some 72)] ?_
   refine sC [(8,some 72),(11,some 75)] rfl (fun wi hx=> ?_) ?_
   ·intro v8 h8 c3 be K hK
    obtain rfl:=h8
    obtain rfl:=be
    have hX:Ext w4 wi:=xE
    have j:=((M5.bk 4).ext hX).cl 8
    go_simp
    exact hK _ _ ⟨.int .i64 (h.aF),rfl,rfl,Ext.refl _⟩
   refine sS3 [(8,some 72),(10,some 74),(12,some 76)] (sS2 [(8,some 72),(13,some 77)] (sS1 [(14,some 78)] (sS1 [(15,some 79)] ?_)))
   refine sC [(15,some 79),(16,some 80)] rfl (fun wi hx=> ?_) ?_
   ·intro k g ct ap K hK
    obtain rfl:=g
    obtain rfl:=ap
    have hX:Ext w4 wi:=xE
    have j:=((M5.bk 2).ext hX).cl 8
    go_simp
    exact hK _ _ ⟨.int .i64 (r.aF),rfl,rfl,Ext.refl _⟩
   refine sS1 [(15,some 79)] ?_
   refine sC [(15,some 79),(18,some 82)] rfl (fun wi hx=> ?_) ?_
   ·intro k g cy aw K hK
    obtain rfl:=g
    obtain rfl:=aw
    have hX:Ext w4 wi:=xE
    have j:=((M5.bk 4).ext hX).cl 8
    go_simp
    exact hK _ _ ⟨.int .i64 (h.aF),rfl,rfl,Ext.refl _⟩
   refine sC [(15,some 79),(17,some 81),(19,some 83)] rfl (fun wi hx=> ?_) ?_
   ·intro k g cs an cv aq K hK
    obtain rfl:=g
    obtain rfl:=an
    obtain rfl:=aq
    have c9:IntKind.i64.wrap (r.aF-h.aF)=r.aF-h.aF:=IntWalk.i64_in _ (by omega)
    go_simp
    exact hK _ _ ⟨.int .i64 (r.aF-h.aF),rfl,rfl,Ext.refl _⟩
   refine sC [(15,some 79)] rfl (fun wi hx=> ?_) ?_
   ·intro k g K hK
    obtain rfl:=g
    have hX:Ext w4 wi:=xE
    obtain⟨j,bg,a9,bh,a2,bj,av,bi,bc,bd⟩:=((M5.bk 4).ext hX).ten
    go_simp
    exact hK _ _ ⟨.agg #[(h.aA:Int),(h.aB:Int),.slice p h.cells.length f,(h.free:Int),(h.step:Int),(h.aD:Int),(h.aG:Int),(h.aC:Int),(h.aF:Int),.slice q h.vs.length c2],rfl,rfl,Ext.refl _⟩
   refine sS1 [(15,some 79)] ?_
   refine sC [(15,some 79),(22,some 86)] rfl (fun wi hx=> ?_) ?_
   ·intro k g c4 bo K hK
    obtain rfl:=g
    obtain rfl:=bo
    have hX:Ext w4 wi:=xE
    have j:=((M5.bk 3).ext hX).cl 1
    go_simp
    exact hK _ _ ⟨.int .i64 b,rfl,rfl,Ext.refl _⟩
   refine sC [(15,some 79),(21,some 85),(23,some 87)] rfl (fun wi hx=> ?_) ?_
   ·intro k g cx bb cp bf K hK
    obtain rfl:=g
    obtain rfl:=bb
    obtain rfl:=bf
    go_simp
    refine(b2 _ hx.of_drew).mono ?_
    rintro e w5 ⟨rfl,i⟩
    go_simp
    exact hK _ _ ⟨.int .i64 af,rfl,rfl,i⟩
   exact sS2 [(15,some 79),(24,some 88)] (sS3 [(15,some 79),(20,some 84),(25,some 89)] (sS2 [(15,some 79),(26,some 90)] (sS1 [(27,some 91)] (sS1 [(28,some 92)] (sS2 [(28,some 92),(29,some 93)] (sS2 [(28,some 92),(30,some 94)] (sS1 [(31,some 95)] StepsL.nil)))))))
  case fin=>
   intro wi hx v0 h0 v1 h1 v2 h2 v3 h3 v4 h4 v5 h5 v6 h6 v7 h7 v8 h8 v9 h9 dq cq c3 be db cw c7 cg dc ck k g ct ap cs an cy aw cv aq di c0 cx bb c4 bo cp bf dg cn dk cz de cb dn ch dd ci dp cd df cf dl ce dj cr
   obtain rfl:=h0
   obtain rfl:=h1
   obtain rfl:=h2
   obtain rfl:=h3
   obtain rfl:=h4
   obtain rfl:=h5
   obtain rfl:=h6
   obtain rfl:=h7
   obtain rfl:=h8
   obtain rfl:=h9
   obtain rfl:=cq
   obtain rfl:=be
   obtain rfl:=cw
   obtain rfl:=cg
   obtain rfl:=ck
   obtain rfl:=g
   obtain rfl:=ap
   obtain rfl:=an
   obtain rfl:=aw
   obtain rfl:=aq
   obtain rfl:=c0
   obtain rfl:=bb
   obtain rfl:=bo
   obtain rfl:=bf
   obtain rfl:=cn
   obtain rfl:=cz
   obtain rfl:=cb
   obtain rfl:=ch
   obtain rfl:=ci
   obtain rfl:=cd
   obtain rfl:=cf
   obtain rfl:=ce
   obtain rfl:=cr
   refine wpAny_done (by kernel_rfl) ?_ _
   try simp only[Act.put,List.setIfInBounds_toArray,List.set_cons_zero,List.set_cons_succ]
   have cj:=hx.of_drew
   go_wp2
   go_ret
   exact⟨rfl,l.out.trans (XM.out.trans cj)⟩
theorem walk_FnHouseDo (W:World)(v:Value)(u:Unit)(hc:Code W v)(hE:Env W)(hB:BitTab W):Calls Tryz.prog 5 #[v] W fun e w'=>e= .returned (.bool true)∧Ext W w':=by
 have hD:=aBo v W hc
 obtain⟨p0,n,a,bs,rfl,h,hb⟩:=hc
 by_cases hn:(n:Int)≤1048576
 ·exact aBj p0 n a W hn (xQ hE) (xQ hB) hD
 ·exact vR p0 n a W (by omega)
end Go.Proofs.YtgnkoffndhmhpaaGreatDoor
