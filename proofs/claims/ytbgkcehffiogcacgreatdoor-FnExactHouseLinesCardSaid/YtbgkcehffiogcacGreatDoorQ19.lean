/-
  Texts of this proof, packed (@packed).
-/
import Derived.Test.YtbgkcehffiogcacGreatDoorQ18
namespace Go.Proofs.YtbgkcehffiogcacGreatDoor
open Go.RowKit
set_option linter.unusedSimpArgs false
set_option linter.unusedVariables false
set_option maxHeartbeats 8000000
set_option maxRecDepth 100000
section
open Go.Proofs.Tryz
section
variable {w0 w w':World} {L:List Item}
theorem Mem.own2 {b n c sz n2 c2 sz2:Nat}{e e2:TypeId}{q q2:OA}{xs i:List Value}(h:Mem w0 w L)(hx:Ext w w')(a:w'.ownsRow b e sz (.slice q n c) n xs)(g:w'.ownsRow b e2 sz2 (.slice q2 n2 c2) n2 i)(hb:w.heap.size≤b)(ht:e≠e2):
  Mem w0 w' (aI w0 e sz q n c xs::aI w0 e2 sz2 q2 n2 c2 i::L):=by
 refine(h.ownNew hx g hb).cons (jE _ _ _ _ _ _ _) (dW a (aRz h.ext.sz hb)) (fun g' hg' j hj e'=> ?_);replace hg':(Value.slice q n c).ownBlock=Option.some g':=hg';have h1:=(aTo a g' hg').1;rcases aS6.1 hj with rfl|hj
 ·replace e':(Value.slice q2 n2 c2).ownBlock=Option.some g':=e';rcases a.2 with⟨h2,_⟩|⟨g2,cap',cur,h2,_,h3,_⟩
  ·rw[h2]at hg';cases hg'
  rcases g.2 with⟨k2,_⟩|⟨g3,cap3,cur3,k2,_,k3,_⟩
  ·rw[k2]at e';cases e'
  rw[h2]at hg';rw[k2]at e';injection hg' with hg';injection e' with e';have f:g2=g':=hg';have d:g3=g':=e';subst f;subst d;rw[h3]at k3;injection k3 with k3;injection k3 with _ k3;exact ht k3
 have h2:=((h.good j hj).lt w (h.ok j hj) g' e').2;omega
end
theorem aB9 (aA aB a c aD aF aC aG id amt:Int)(p:OA)(n cap:Nat)(q:OA)(m c2:Nat)(xs:List Int)(vs:List aP)(w:World)
  (HL:xC 26 #[.agg #[aA,aB,.slice p n cap,a,c,aD,aF,aC,aG,.slice q m c2]] w fun w' e w''=> ∃p' cap' q' c2',e= .returned (.agg #[aA,aB,.slice p' n cap',a,c,aD,aF,aC,aG,.slice q' m c2'])∧w''.ownsRow w' TI 1 (.slice p' n cap') n (ivs xs)∧w''.ownsRow w' TV 4 (.slice q' m c2') m (vs.flatMap aE)∧Ext w' w'')
  (HF:xC 60 #[.agg #[aA,aB,.slice p n cap,a,c,aD,aF,aC,aG,.slice q m c2],id] w fun w' e w''=>e= .returned (I (-1))∧Ext w' w''):
  U 58 #[.agg #[aA,aB,.slice p n cap,a,c,aD,aF,aC,aG,.slice q m c2],id,amt] w fun e w'=> ∃p' cap' q' c2' b,e= .returned (.tuple #[.agg #[aA,aB,.slice p' n cap',a,c,aD,aF,aC,aG,.slice q' m c2'],b,.bool false])∧Ext w w':=by
 go_enter func58,ntmps58;go_wp2_with fail;refine(HL _ (((Mem.start w).c0 aK #[aA,aB,.slice p n cap,a,c,aD,aF,aC,aG,.slice q m c2]).c1 aK zT).ext).mono ?_;rintro e w1 ⟨p1,d,q1,f,rfl,h,j,l⟩;have M1:=((((Mem.start w).c0 aK #[aA,aB,.slice p n cap,a,c,aD,aF,aC,aG,.slice q m c2]).c1 aK zT).own2 l h j (aRp _) (by decide))
 have g:=M1.hi 3;clear l h j HL;obtain⟨r,s,t,u,x,y,z,aa,ab,ad⟩:=(M1.bk 3).ten;go_wp2_with fail;clear r s t u x y z aa ab ad;refine Z (HF _ (M1.c0 aK #[aA,aB,.slice p1 n d,a,c,aD,aF,aC,aG,.slice q1 m f]).ext) fun w2 o=>?_
 have M2:=((M1.c0 aK #[aA,aB,.slice p1 n d,a,c,aD,aF,aC,aG,.slice q1 m f]).adv o)
 clear M1 g o HF;obtain⟨d0,d1,d2,d3,d4,d5,d6,d7,d8,d9⟩:=(M2.bk 0).ten;obtain⟨f0,ae,f1,af,f2,ag,f3,ah,f4,ai,f5,aj,f6,ak,f7,al,f8,am,f9,an⟩:=(M2.bk 3).tenf;go_wp2;clear d0 d1 d2 d3 d4 d5 d6 d7 d8 d9 f0 ae f1 af f2 ag f3 ah f4 ai f5 aj f6 ak f7 al f8 am f9 an;have M3:=(M2.put10 (i:=3) rfl (I aA) (I aB) (.slice p1 n d) (I a) (I c) (I aD) (I aF) (I aC) (I aG) (.slice q1 m f))
 generalize k:World.setCell _ _ _=wz;rw[k]at M3;clear k M2;obtain⟨y0,y1,y2,y3,y4,y5,y6,y7,y8,y9⟩:=(M3.bk 3).ten;exact bodyPost_ret (v:= .tuple #[.agg #[aA,aB,.slice p1 n d,a,c,aD,aF,aC,aG,.slice q1 m f],amt,.bool false]) (by simp[results,results58,go_sem, *]) rfl ⟨p1,d,q1,f,amt,rfl,M3.ext⟩
theorem zY {vs:List aP}{k:Nat}{a0 a1 a2 a3:Int}(h:vs[k]? =some (a0,a1,a2,a3)) (S1 S2 S3:Int):
  (((vs.flatMap aE).set (k*4+1) (I S1)).set (k*4+2) (I S2)).set (k*4+3) (I S3)=(vs.set k (a0,S1,S2,S3)).flatMap aE:=by
 induction vs generalizing k with
 |nil=>simp at h
 |cons v vs ih=>
  cases k with
  |zero=>simp at h;subst h;simp[aE]
  |succ k=>
   have h':vs[k]? =some (a0,a1,a2,a3):=by simpa using h
   rw[aS2,aSn,aSn,←ih h'];simp only[aE,aTd,aTa];rw[show(k+1)*4+1=(k*4+1)+1+1+1+1 by omega,show(k+1)*4+2=(k*4+2)+1+1+1+1 by omega,show(k+1)*4+3=(k*4+3)+1+1+1+1 by omega];simp only[aS2]
theorem aJh (aA aB c d aD aF aC aG id amt:Int)(p:OA)(n cap b h m c2 k:Nat)(xs:List Int)(vs:List aP)(a0 a1 a2 a3 S1 S2 S3 bk:Int)(q:Bool)(w:World)(hk:k<m)(hm:m≤1000)(hb:b<w.heap.size)(cr:0≤aG)(cg:aG≤99999)(b4:q=true→0≤bk∧bk≤amt∧amt≤300)(bs:Hid (vs[k]? =some (a0,a1,a2,a3)))
  (g1:w.cell? ⟨b,h+k*4+1,none⟩=some (I a1)) (g2:w.cell? ⟨b,h+k*4+2,none⟩=some (I a2)) (g3:w.cell? ⟨b,h+k*4+3,none⟩=some (I a3))
  (HL:xC 26 #[.agg #[aA,aB,.slice p n cap,c,d,aD,aF,aC,aG,.slice (some ⟨b,h,none⟩) m c2]] w fun w' e w''=> ∃p' cap' q' c2',e= .returned (.agg #[aA,aB,.slice p' n cap',c,d,aD,aF,aC,aG,.slice q' m c2'])∧w''.ownsRow w' TI 1 (.slice p' n cap') n (ivs xs)∧w''.ownsRow w' TV 4 (.slice q' m c2') m (vs.flatMap aE)∧Ext w' w'')
  (HF:xC 60 #[.agg #[aA,aB,.slice p n cap,c,d,aD,aF,aC,aG,.slice (some ⟨b,h,none⟩) m c2],id] w fun w' e w''=>e= .returned (I k)∧Ext w' w'')
  (HP:Hid (∀w',U 104 #[aT c d aD aF,bS a1 a2 a3,aC,amt] w' (O (.tuple #[bS S1 S2 S3,bk,.bool q]) w'))):
  U 58 #[.agg #[aA,aB,.slice p n cap,c,d,aD,aF,aC,aG,.slice (some ⟨b,h,none⟩) m c2],id,amt] w fun e w'=>(∃p' cap' q' c2' b,e= .returned (.tuple #[.agg #[aA,aB,.slice p' n cap',c,d,aD,aF,aC,aG,.slice q' m c2'],b,.bool false])∧ ¬(q=true∧aG+amt-bk≤99999)∧Ext w w')∨
   (q=true∧aG+amt-bk≤99999∧ ∃p' cap' q' c2',e= .returned (.tuple #[.agg #[aA,aB,.slice p' n cap',c,d,aD,aF,aC,(aG+amt-bk:Int),.slice q' m c2'],bk,.bool true])∧w'.ownsRow w TI 1 (.slice p' n cap') n (ivs xs)∧w'.ownsRow w TV 4 (.slice q' m c2') m ((vs.set k (a0,S1,S2,S3)).flatMap aE)∧Ext w w'):=by
 go_enter func58,ntmps58;go_wp2_with fail;refine(HL _ (((Mem.start w).c0 aK #[aA,aB,.slice p n cap,c,d,aD,aF,aC,aG,.slice (some ⟨b,h,none⟩) m c2]).c1 aK zT).ext).mono ?_;rintro e w1 ⟨p1,f,q1,g,rfl,bl,bm,bp⟩;have M1:=((((Mem.start w).c0 aK #[aA,aB,.slice p n cap,c,d,aD,aF,aC,aG,.slice (some ⟨b,h,none⟩) m c2]).c1 aK zT).own2 bp bl bm (aRp _) (by decide))
 have ba:=M1.hi 3;clear bp bl bm HL;obtain⟨av,aw,ax,ay,az,a4,a5,a6,a7,a8⟩:=(M1.bk 3).ten;go_wp2_with fail;clear av aw ax ay az a4 a5 a6 a7 a8;refine Z (HF _ (M1.c0 aK #[aA,aB,.slice p1 n f,c,d,aD,aF,aC,aG,.slice q1 m g]).ext) fun w2 bq=>?_
 have M2:=((M1.c0 aK #[aA,aB,.slice p1 n f,c,d,aD,aF,aC,aG,.slice q1 m g]).adv bq)
 clear M1 ba bq HF;have bb:=M2.hi 3;obtain⟨av,aw,ax,ay,az,a4,a5,a6,a7,a8⟩:=(M2.bk 4).ten;have ae:=M2.ext;have bc:w2.cell? ⟨b,h+k*4+1,none⟩=some (I a1):=(ae.cells.1 _ _ hb).trans g1;have bd:w2.cell? ⟨b,h+k*4+2,none⟩=some (I a2):=(ae.cells.1 _ _ hb).trans g2;have be:w2.cell? ⟨b,h+k*4+3,none⟩=some (I a3):=(ae.cells.1 _ _ hb).trans g3;have ag:b<w2:=aRo hb ae.sz;clear ae;have i1:(0:Int)≤(k:Int):=by omega
 have i2:(k:Int)<(m:Int):=by omega
 have n2: ¬(w2.heap.size=w.heap.size):=by omega
 have n4: ¬(w2.heap.size=b):=by omega
 go_upto_region 5 with fail;go_cut [11,12,13] (fun s11 s12 s13 wx=> ∃a:Nat,s11= .pointer (some ⟨a,0,none⟩)∧s12=I bk∧s13= .bool q∧Ext w2 wx∧w2.heap.size≤a∧Blk wx a TS3 #[S1,S2,S3])
 case first=>
  go_region_held3 (fun w'=>w'.cell? ⟨w,3,none⟩=some (I c)∧w'.cell? ⟨w,4,none⟩=some (I d)∧w'.cell? ⟨w,5,none⟩=some (I aD)∧w'.cell? ⟨w,6,none⟩=some (I aF)∧w'.cell? ⟨w,7,none⟩=some (I aC)∧w'.cell? ⟨w,9,none⟩=some (.slice (some ⟨b,h,none⟩) m c2)∧w'.cell? ⟨b,h+k*4+1,none⟩=some (I a1)∧w'.cell? ⟨b,h+k*4+2,none⟩=some (I a2)∧w'.cell? ⟨b,h+k*4+3,none⟩=some (I a3))
   (first|(refine⟨?_,?_,?_,?_,?_,?_,?_,?_,?_⟩<;>assumption)|go_keep)
   ((go_at_call 104
     refine Z (HP _) fun w5 br=>?_
     have j:Ext w2 w5:=xE;have ch:=((M2.bk 4).ext j).cl 3;have ci:=((M2.bk 4).ext j).cl 4;have cj:=((M2.bk 4).ext j).cl 5;have ck:=((M2.bk 4).ext j).cl 6;have cm:=((M2.bk 4).ext j).cl 7;have cn:=((M2.bk 4).ext j).cl 9;have co:w5.cell? ⟨b,h+k*4+1,none⟩=some (I a1):=(j.cells.1 _ _ ag).trans bc;have cp:w5.cell? ⟨b,h+k*4+2,none⟩=some (I a2):=(j.cells.1 _ _ ag).trans bd;have cq:w5.cell? ⟨b,h+k*4+3,none⟩=some (I a3):=(j.cells.1 _ _ ag).trans be
     first
      |(have a9:Ext (w2.alloc (.cells #[(),(),()] TS3)) w5:=br
        have BB:=(Blk.new w2 TS3 #[(),(),()]).ext a9;have ca:=BB.cl 0;have cd:=BB.frozen 0;have cb:=BB.cl 1;have ce:=BB.frozen 1;have cc:=BB.cl 2
        have cf:w5.frozen? ⟨w2,2,none⟩=false:=BB.frozen 2)
      |(have a9:Ext (w2.alloc (.cells #[(),(),()] TS3)) w5:=br.of_drew
        have BB:=(Blk.new w2 TS3 #[(),(),()]).ext a9;have ca:=BB.cl 0;have cd:=BB.frozen 0;have cb:=BB.cl 1;have ce:=BB.frozen 1;have cc:=BB.cl 2
        have cf:w5.frozen? ⟨w2,2,none⟩=false:=BB.frozen 2)
      |skip))
  ·go_wp2_with fail;go_meet;exact⟨w5.heap.size,rfl,rfl,rfl,by exact .alloc j _,by have:=j.sz;omega,Blk.new _ _ _⟩
  have hR:ExtR w2 w5 _:=(((ExtR.refl w2 w5).setCell (p:=⟨w2,0,none⟩) (.inl rfl) (I S1)).setCell (p:=⟨w2,1,none⟩) (.inl rfl) (I S2)).setCell (p:=⟨w2,2,none⟩) (.inl rfl) (I S3);have hY:=((BB.set 0 (I S1)).set 1 (I S2)).set 2 (I S3);simp only[aS5,aS1,aS2]at hY;go_wp2_with fail;go_meet;exact⟨w2.heap.size,rfl,rfl,rfl,ExtR.new j hR (aRp _),aRp _,hY⟩
 case rest=>
  clear av aw ax ay az a4 a5 a6 a7 a8 bc bd be ag HP n2 n4;obtain⟨a,rfl,rfl,rfl,bg,ha,bf⟩:=hcut;have M3:=(M2.blkOf bg bf ha)
  clear M2 bb bg ha bf;cases q with
  |false=>
   have af:Hid (¬(false=true∧aG+amt-bk≤99999)):=by show¬_;simp
   obtain⟨d0,d1,d2,d3,d4,d5,d6,d7,d8,d9⟩:=(M3.bk 1).ten;obtain⟨f0,r,f1,s,f2,t,f3,u,f4,x,f5,y,f6,z,f7,aa,f8,ab,f9,ad⟩:=(M3.bk 4).tenf;go_wp2;clear d0 d1 d2 d3 d4 d5 d6 d7 d8 d9 f0 r f1 s f2 t f3 u f4 x f5 y f6 z f7 aa f8 ab f9 ad;have M4:=(M3.put10 (i:=4) rfl (I aA) (I aB) (.slice p1 n f) (I c) (I d) (I aD) (I aF) (I aC) (I aG) (.slice q1 m g))
   generalize o:World.setCell _ _ _=wz;rw[o]at M4;clear o M3;obtain⟨y0,y1,y2,y3,y4,y5,y6,y7,y8,y9⟩:=(M4.bk 4).ten;exact bodyPost_ret (v:= .tuple #[.agg #[aA,aB,.slice p1 n f,c,d,aD,aF,aC,aG,.slice q1 m g],amt,.bool false]) (by simp[results,results58,go_sem, *]) rfl (by first|exact .inl ⟨p1,f,q1,g,amt,rfl,af.out,M4.ext⟩|(have l:=af.out;simp at l;first|exact .inl ⟨p1,f,q1,g,amt,rfl,l,M4.ext⟩|exact .inl ⟨p1,f,q1,g,amt,rfl,by omega,M4.ext⟩|exact .inl ⟨⟨p1,f,q1,g,amt,rfl⟩,l,M4.ext⟩|exact .inl ⟨⟨p1,f,q1,g,amt,rfl⟩,by omega,M4.ext⟩|exact .inl ⟨⟨p1,f,q1,g,amt,rfl⟩,M4.ext⟩|exact⟨⟨p1,f,q1,g,amt,rfl⟩,M4.ext⟩))
  |true=>
   obtain⟨o1,o2,o3⟩:=b4 rfl;have k1:IntKind.i64.wrap (aG+amt)=aG+amt:=aRr _ (by omega);have k2:IntKind.i64.wrap (aG+amt-bk)=aG+amt-bk:=aRr _ (by omega);have h8:=(M3.bk 5).cl 8;by_cases hq:aG+amt-bk≤99999
   ·have hd:decide (99999<aG+amt-bk)=false:=by simp;omega
    have bo:=xQ hq;clear hq;obtain⟨gq,rfl,bi,bj⟩:=M3.so 3;obtain⟨b9,o9,x0,x1,x2,x3,e9,b5,_,y0,y1,y2,y3⟩:=eH (M3.sq 3) hk;injection e9 with e9;injection e9 with e9 e8;subst e9 e8;simp only[aSs]at y1 y2 y3;clear b5 y0 bi;obtain⟨d0,bt,d1,bu,d2,bv,d3,bw,d4,bx,d5,bz,d6,b0,d7,b1,d8,b2,d9,b3⟩:=(M3.bk 1).tenf;obtain⟨f0,r,f1,s,f2,t,f3,u,f4,x,f5,y,f6,z,f7,aa,f8,ab,f9,ad⟩:=(M3.bk 4).tenf;obtain⟨b6,b7,b8⟩:=(M3.bk 0).tri;have z1:wc.frozen? ⟨gq,k*4+1,none⟩=false:=(M3.ow 3).frozenAt (k*4+1);have z2:wc.frozen? ⟨gq,k*4+2,none⟩=false:=(M3.ow 3).frozenAt (k*4+2);have z3:wc.frozen? ⟨gq,k*4+3,none⟩=false:=(M3.ow 3).frozenAt (k*4+3);obtain⟨ah,ai⟩:=M3.nq 1 4;obtain⟨aj,ak⟩:=M3.nq 0 4;obtain⟨al,am⟩:=M3.nq 3 4;obtain⟨an,ao⟩:=M3.nq 0 1;obtain⟨ap,aq⟩:=M3.nq 1 3;obtain⟨ar,au⟩:=M3.nq 0 3;have M4:=(show Mem w (((wc.setCell ⟨gq,k*4+1,none⟩ (I S1)).setCell ⟨gq,k*4+2,none⟩ (I S2)).setCell ⟨gq,k*4+3,none⟩ (I S3)) [aJ w (a) TS3 #[S1,S2,S3],aJ w w1 aK #[aA,aB,.slice p1 n f,c,d,aD,aF,aC,aG,.slice (some ⟨gq,0,none⟩) m g],aI w TI 1 (p1) (n) (f) (ivs xs),aI w TV 4 (some ⟨gq,0,none⟩) (m) (g) ((((vs.flatMap aE).set (k*4+1) (I S1)).set (k*4+2) (I S2)).set (k*4+3) (I S3)),aJ w (w.heap.size+1) aK #[(),(),((),()),(),(),(),(),(),(),((),())],aJ w w aK #[aA,aB,.slice p n cap,c,d,aD,aF,aC,aG,.slice (some ⟨b,h,none⟩) m c2]]from(((M3.ostore (i:=3) rfl (k*4+1) (I S1)).ostore (i:=3) rfl (k*4+2) (I S2)).ostore (i:=3) rfl (k*4+3) (I S3)))
    have M5:=(M4.st 1 8 (I (aG+amt-bk)))
    have bh:Hid ((((vs.flatMap aE).set (k*4+1) (I S1)).set (k*4+2) (I S2)).set (k*4+3) (I S3)=(vs.set k (a0,S1,S2,S3)).flatMap aE):=zY bs S1 S2 S3;go_wp2;clear d0 bt d1 bu d2 bv d3 bw d4 bx d5 bz d6 b0 d7 b1 d8 b2 d9 b3 f0 r f1 s f2 t f3 u f4 x f5 y f6 z f7 aa f8 ab f9 ad b6 b7 b8 z1 z2 z3 ah ai aj ak al am an ao ap aq ar au y1 y2 y3 bj h8;have M6:=(M5.put10 (i:=4) rfl (I aA) (I aB) (.slice p1 n f) (I c) (I d) (I aD) (I aF) (I aC) (I (aG+amt-bk)) (.slice (some ⟨gq,0,none⟩) m g))
    generalize o:World.setCell _ _ _=wz;rw[o]at M6;clear o M3 M4 M5;obtain⟨y0,y1,y2,y3,y4,y5,y6,y7,y8,y9⟩:=(M6.bk 4).ten;exact bodyPost_ret (v:= .tuple #[.agg #[aA,aB,.slice p1 n f,c,d,aD,aF,aC,(aG+amt-bk:Int),.slice (some ⟨gq,0,none⟩) m g],bk,.bool true]) (by simp[results,results58,go_sem, *]) rfl (by first|exact .inr ⟨rfl,bo.out,p1,f,some ⟨gq,0,none⟩,g,rfl,(M6.ow 2),by rw[←bh.out];exact(M6.ow 3),M6.ext⟩|exact .inr ⟨bo.out,p1,f,some ⟨gq,0,none⟩,g,rfl,(M6.ow 2),by rw[←bh.out];exact(M6.ow 3),M6.ext⟩)
   have af:Hid (¬(true=true∧aG+amt-bk≤99999)):=by show¬_;simp[hq]
   have hd:decide (99999<aG+amt-bk)=true:=by simp;omega
   obtain⟨d0,d1,d2,d3,d4,d5,d6,d7,d8,d9⟩:=(M3.bk 1).ten;obtain⟨f0,r,f1,s,f2,t,f3,u,f4,x,f5,y,f6,z,f7,aa,f8,ab,f9,ad⟩:=(M3.bk 4).tenf;go_wp2;clear d0 d1 d2 d3 d4 d5 d6 d7 d8 d9 f0 r f1 s f2 t f3 u f4 x f5 y f6 z f7 aa f8 ab f9 ad;have M4:=(M3.put10 (i:=4) rfl (I aA) (I aB) (.slice p1 n f) (I c) (I d) (I aD) (I aF) (I aC) (I aG) (.slice q1 m g))
   generalize o:World.setCell _ _ _=wz;rw[o]at M4;clear o M3;obtain⟨y0,y1,y2,y3,y4,y5,y6,y7,y8,y9⟩:=(M4.bk 4).ten;exact bodyPost_ret (v:= .tuple #[.agg #[aA,aB,.slice p1 n f,c,d,aD,aF,aC,aG,.slice q1 m g],amt,.bool false]) (by simp[results,results58,go_sem, *]) rfl (by first|exact .inl ⟨p1,f,q1,g,amt,rfl,af.out,M4.ext⟩|(have l:=af.out;simp at l;first|exact .inl ⟨p1,f,q1,g,amt,rfl,l,M4.ext⟩|exact .inl ⟨p1,f,q1,g,amt,rfl,by omega,M4.ext⟩|exact .inl ⟨⟨p1,f,q1,g,amt,rfl⟩,l,M4.ext⟩|exact .inl ⟨⟨p1,f,q1,g,amt,rfl⟩,by omega,M4.ext⟩|exact .inl ⟨⟨p1,f,q1,g,amt,rfl⟩,M4.ext⟩|exact⟨⟨p1,f,q1,g,amt,rfl⟩,M4.ext⟩))
theorem Mem.st4 {P:Program}{f:FuncId}{s:Array Value}{w0 w:World}{L:List Item}{F:OA→Nat→OA→Nat→Value}{t1 t2:TypeId}{n1 s1 n2 s2:Nat}{xs ys:List Value}{K:Ending→World→Prop}(M:Mem w0 w L)(H:Mem w0 w L→Calls P f s w fun e w'=> ∃p c q d,e= .returned (F p c q d)∧w'.ownsRow w t1 s1 (.slice p n1 c) n1 xs∧w'.ownsRow w t2 s2 (.slice q n2 d) n2 ys∧Ext w w')(k: ∀w' p c q d,Mem w0 w' (aI w0 t1 s1 p n1 c xs::aI w0 t2 s2 q n2 d ys::L)→K (.returned (F p c q d)) w')(a:t1≠t2:=by decide):Calls P f s w K:=(H M).mono (by rintro e w' ⟨p,c,q,d,rfl,ho,hv,hx⟩;exact k w' p c q d (M.own2 hx ho hv (aRp _) a))
end
theorem aBr {f s p c i pd a now amt:Int}(hD:0≤cC f s p c i pd a now)(h:(fS f s p c i pd a now amt).2.2=true):0≤(fS f s p c i pd a now amt).2.1∧(fS f s p c i pd a now amt).2.1≤amt∧amt≤300:=by
 unfold fS at h⊢;split at h
 ·rename_i h1;rw[if_pos h1];split at h
  ·cases h
  rename_i h2;rw[if_neg h2];dsimp only;omega
 cases h
def oY (h:aL)(id amt:Int):Option (aL×Int):=
 match eA id h.vs with
 |none=>none
 |some v=>if(fS h.free h.step h.aD h.aF v.2.1 v.2.2.1 v.2.2.2 h.aC amt).2.2=true∧h.aG+amt-(fS h.free h.step h.aD h.aF v.2.1 v.2.2.1 v.2.2.2 h.aC amt).2.1≤99999 then
   some ({h with aG:=h.aG+amt-(fS h.free h.step h.aD h.aF v.2.1 v.2.2.1 v.2.2.2 h.aC amt).2.1,vs:=h.vs.set (vix id h.vs).toNat (id,(fS h.free h.step h.aD h.aF v.2.1 v.2.2.1 v.2.2.2 h.aC amt).1)},(fS h.free h.step h.aD h.aF v.2.1 v.2.2.1 v.2.2.2 h.aC amt).2.1)
  else none
def aOo (h:aL)(r:Option (aL×Int))(w:World)(e:Ending)(w':World):Prop:=
 match r with
 |none=> ∃p cap q c2 b,e= .returned (.tuple #[bM h p h.cells.length cap q h.vs.length c2,b,.bool false])∧Ext w w'
 |some (h',b)=> ∃p cap q c2,e= .returned (.tuple #[bM h' p h'.cells.length cap q h'.vs.length c2,b,.bool true])∧w'.ownsRow w.heap.size TI 1 (.slice p h'.cells.length cap) h'.cells.length (ivs h'.cells)∧w'.ownsRow w.heap.size TV 4 (.slice q h'.vs.length c2) h'.vs.length (h'.vs.flatMap aE)∧Ext w w'
theorem aKa (h:aL)(id amt:Int)(p:OA)(n cap:Nat)(q:OA)(m c2:Nat)(w:World)(hn:n≤1000)(hm:m≤1000)(hi:IsHouse w h p n cap q m c2)
  (ht:bO h.free h.step h.aD h.aF=true)(l: ∀v∈h.vs,dF v.2.1 v.2.2.1 v.2.2.2=true∧v.2.2.2≤h.aC)(hc:h.aC≤9999)(g:0≤h.aG)(hb:h.aG≤99999):
  U 58 #[bM h p n cap q m c2,id,amt] w (aOo h (oY h id amt) w):=by
 have hl:=hi.clen;have j:=hi.vlen;have HL:=fun(w':World) (hx:Ext w w')=>lZ h p n cap q m c2 w' hn hm (hi.ext hx)
 have HF:=fun(w':World) (hx:Ext w w')=>rG h.aA h.aB h.free h.step h.aD h.aF h.aC h.aG id p n cap q m c2 h.vs w' (hi.vs.ext hx)
 unfold RetHouse at HL;subst hl j;rcases nF id h.vs with⟨h1,h2⟩|⟨k,a1,a2,a3,hk,h1,hx,h2⟩
 ·rw[h1]at HF;have hr:oY h id amt=none:=by unfold oY;rw[h2]
  rw[hr];refine(aB9 h.aA h.aB h.free h.step h.aD h.aF h.aC h.aG id amt p _ cap q _ c2 h.cells h.vs w HL HF).mono ?_;rintro e w' ⟨p',a,q',c,b,rfl,hE⟩;exact⟨p',a,q',c,b,rfl,hE⟩
 rw[h1]at HF;obtain⟨b,o,x0,x1,x2,x3,rfl,d,i,_,g1,g2,g3⟩:=eH hi.vs hk;rw[hx]at d;injection d with d;simp only[aSy]at d;obtain⟨_,rfl,rfl,rfl⟩:=d;obtain⟨s1,s2⟩:=l _ (aRs hx);dsimp only at s1 s2;have hD:=(kE ht s1 s2 hc).1;have HP:=fun(w':World)=>aDu h.free h.step h.aD h.aF a1 a2 a3 h.aC amt w' ht s1 s2 hc
 have f:=aBr (amt:=amt) hD;have hr:oY h id amt=if(fS h.free h.step h.aD h.aF a1 a2 a3 h.aC amt).2.2=true∧h.aG+amt-(fS h.free h.step h.aD h.aF a1 a2 a3 h.aC amt).2.1≤99999 then some ({h with aG:=h.aG+amt-(fS h.free h.step h.aD h.aF a1 a2 a3 h.aC amt).2.1,vs:=h.vs.set k (id,(fS h.free h.step h.aD h.aF a1 a2 a3 h.aC amt).1)},(fS h.free h.step h.aD h.aF a1 a2 a3 h.aC amt).2.1)else none:=by unfold oY;rw[h2,h1];rfl
 rw[hr];generalize fS h.free h.step h.aD h.aF a1 a2 a3 h.aC amt=r at*;obtain⟨⟨S1,S2,S3⟩,bk,s⟩:=r;dsimp only at HP f⊢;refine(aJh h.aA h.aB h.free h.step h.aD h.aF h.aC h.aG id amt p _ cap b o _ c2 k h.cells h.vs id a1 a2 a3 S1 S2 S3 bk s w hk hm i g hb f hx g1 g2 g3 HL HF HP).mono ?_;rintro e w' (⟨p',a,q',c,b',rfl,hno,hE⟩|⟨rfl,hle,p',a,q',c,rfl,ho1,ho2,hE⟩)
 ·rw[if_neg hno];exact⟨p',a,q',c,b',rfl,hE⟩
 rw[if_pos ⟨rfl,hle⟩];refine⟨p',a,q',c,?_,ho1,?_,hE⟩
 ·simp[bM]
 simpa using ho2
theorem pR {xs ys:List Int}(h:List.Perm xs ys):dY xs=dY ys:=
 nT ((gW _).trans (h.filter _)) (lE _)
theorem aB1 (aC:Int): ∀(cs:List Int) (vs:List aP),bW aC cs vs=true↔vs.map (·.1)=cs∧ ∀v∈vs,fC aC v=true:=by
 intro cs;induction cs with
 |nil=>intro vs;cases vs<;>simp[bW]
 |cons c cs ih=>
  intro vs;cases vs with
  |nil=>simp[bW]
  |cons v vs=>
   simp only[bW,aRy,decide_eq_true_eq,ih,aTn,List.cons.injEq,List.forall_mem_cons];constructor
   ·rintro⟨⟨a,b⟩,c,d⟩;exact⟨⟨a,c⟩,b,d⟩
   rintro⟨⟨a,c⟩,b,d⟩;exact⟨⟨a,b⟩,c,d⟩
theorem eL (h:aL):aR h=true↔aO h.aA h.aB h.cells=true∧bO h.free h.step h.aD h.aF=true∧(0≤h.aC∧h.aC≤9999∧0≤h.aG∧h.aG≤99999)∧h.vs.map (·.1)=dY h.cells∧ ∀v∈h.vs,fC h.aC v=true:=by
 unfold aR rF;simp only[aRy,decide_eq_true_eq,aB1];constructor
 ·rintro⟨⟨⟨a,b⟩,c⟩,d,e⟩;exact⟨a,b,c,d,e⟩
 rintro⟨a,b,c,d,e⟩;exact⟨⟨⟨a,b⟩,c⟩,d,e⟩
theorem iY (aC:Int)(v:aP):fC aC v=true↔dF v.2.1 v.2.2.1 v.2.2.2=true∧v.2.2.2≤aC:=by unfold fC;simp
theorem wW (v:aP): ∀vs:List aP,(lF v vs).map (·.1)=mA v.1 (vs.map (·.1))
 | []=>rfl
 |u::vs=>by
  by_cases hc:u.1<v.1
  ·have e:lF v (u::vs)=u::lF v vs:=by simp[lF,hc]
   rw[e,aTn,wW v vs,aTn];simp[mA,hc]
  have e:lF v (u::vs)=v::u::vs:=by simp[lF,hc]
  rw[e];simp[mA,hc]
theorem aMr (v:aP)(vs:List aP): ∀u∈lF v vs,u=v∨u∈vs:=by
 intro u hu;unfold lF at hu;rcases aSa.1 hu with h|h
 ·exact .inr ((List.takeWhile_sublist _).subset h)
 rcases aS6.1 h with h|h
 ·exact .inl h
 exact .inr ((List.dropWhile_sublist _).subset h)
theorem sD (v:aP)(vs:List aP):(lF v vs).length=vs.length+1:=by have:=congrArg List.length (wW v vs);rw[(nI _ _).length_eq]at this;simpa using this
theorem aOi {zs:List Int}{id:Int}(h0:zs.getD 0 0=0)(hl:0<zs.length)(hi:1≤id):dY (zs.set 0 id)=mA id (dY zs):=by
 cases zs with
 |nil=>simp at hl
 |cons z t=>
  obtain rfl:z=0:=by simpa using h0
  symm;refine nT ?_ (uY _ _ (lE _));have e:dP ((0::t).set 0 id)=id::dP (0::t):=by unfold dP;rw[aS1,aTu (by simp;omega),aTv (by simp)]
  rw[e];exact(nI _ _).trans (List.Perm.cons _ (gW _))
theorem aL8 {zs:List Int}{id:Int}(h0:zs[0]? =some id) (hi:1≤id):dY (zs.set 0 0)=(dY zs).erase id:=by
 cases zs with
 |nil=>simp at h0
 |cons z t=>
  obtain rfl:z=id:=by simpa using h0
  symm;refine nT ?_ ((lE _).sublist List.erase_sublist);have e:dP (z::t)=z::dP ((z::t).set 0 0):=by unfold dP;rw[aS1,aTu (by simp;omega),aTv (by simp)]
  have hp:=(gW (dP (z::t))).erase z;rw[e,List.erase_cons_head,←e]at hp;exact hp
theorem yF (id:Int): ∀vs:List aP,vs.any (fun v=>v.1==id)=true→(vs.eraseIdx (vs.findIdx (fun v=>v.1==id))).map (·.1)=(vs.map (·.1)).erase id
 | [],h=>by simp at h
 |v::vs,h=>by
  by_cases hv:v.1=id
  ·have e:(v::vs).findIdx (fun v=>v.1==id)=0:=by simp[List.findIdx_cons,hv]
   rw[e,aTn,hv,List.erase_cons_head];rfl
  have hb:(v.1==id)=false:=by simpa using hv
  have e:(v::vs).findIdx (fun v=>v.1==id)=vs.findIdx (fun v=>v.1==id)+1:=by simp[List.findIdx_cons,hb]
  have h':vs.any (fun v=>v.1==id)=true:=by simpa[hv]using h
  rw[e,List.eraseIdx_cons_succ,aTn,yF id vs h',aTn,List.erase_cons_tail (by simpa using hv)]
theorem kR {id:Int}{vs:List aP}{v:aP}(h:eA id vs=some v):vs.any (fun v=>v.1==id)=true∧v.1=id∧vs[(vix id vs).toNat]? =some v∧(vix id vs).toNat<vs.length∧vix id vs=((vix id vs).toNat:Int)∧(vix id vs).toNat=vs.findIdx (fun v=>v.1==id):=by
 have ha:vs.any (fun v=>v.1==id)=true:=by unfold eA at h;exact List.any_eq_true.2 ⟨v,aT6 h,by simpa using List.find?_some h⟩
 rcases nF id vs with⟨h1,h2⟩|⟨k,a1,a2,a3,hk,h1,hx,h2⟩
 ·rw[h2]at h;cases h
 rw[h2]at h;injection h with h;subst h;have e:vix id vs=(vs.findIdx (fun v=>v.1==id):Int):=by unfold vix;rw[if_pos ha]
 refine⟨ha,rfl,by rw[h1];simpa using hx,by rw[h1];simpa using hk,by rw[h1];simp,by rw[e];simp⟩
theorem aMf {α:Type}{l:List α}{k:Nat}{a:α}(h:l[k]? =some a):l.set k a=l:=by
 refine List.ext_getElem? (fun i=> ?_);rw[List.getElem?_set];split
 ·rename_i e;subst e;split
  ·exact h.symm
  rename_i hl;rw[aSu (by omega)]at h;cases h
 rfl
theorem aMi {vs:List aP}{k:Nat}{u:aP}(s:Int×Int×Int)(hk:vs[k]? =some u):(vs.set k (u.1,s)).map (·.1)=vs.map (·.1):=by rw[List.map_set];exact aMf (by rw[aS9,hk];rfl)
def cO (h:aL)(k a b:Int):Option (aL×Int):=
 if k=0 then
  (if 0≤(cK h.aA h.aB h.cells a).2 then some ({h with cells:=(cK h.aA h.aB h.cells a).1,vs:=lF (a,h.aC,0,h.aC) h.vs},(cK h.aA h.aB h.cells a).2)else none)
 else if k=1 then oY h a b
 else if k=2 then
  (if dQ h a=true∧0≤(cA h.aA h.aB h.cells a).2 then some ({h with cells:=(cA h.aA h.aB h.cells a).1,vs:=h.vs.eraseIdx (vix a h.vs).toNat},(cA h.aA h.aB h.cells a).2)else none)
 else if k=3 then(if 1≤a∧a≤9999-h.aC then some ({h with aC:=h.aC+a},h.aC+a)else none)
 else if k=4 then(if bF h.aA h.aB h.cells a b=true then some ({h with cells:=bI h.aA h.aB h.cells a b},0)else none)
 else none
theorem nP {aA aB:Int}{xs:List Int}{id:Int}(a:aO aA aB xs=true)(h:0≤(cK aA aB xs id).2):
  ∃zs,List.Perm zs xs∧zs.getD 0 0=0∧1≤id∧(cK aA aB xs id).1=zs.set 0 id∧aO aA aB (zs.set 0 id)=true∧(cK aA aB xs id).2≤5:=by
 unfold cK mJ at h⊢;cases hr:iJ aA xs with
 |none=>rw[hr]at h;simp at h
 |some r=>
  rw[hr]at h;obtain⟨f1,f2,f3,f4,f5⟩:=pQ a hr;have hp:=(oV r.2 xs a).2.2;rw[f1]at hp;unfold cZ at h⊢;by_cases hc:r.1.getD 0 0=0∧1≤id∧aO aA aB (r.1.set 0 id)=true
  ·simp only[hc,and_self,if_true]at h⊢;exact⟨r.1,hp,hc.1,trivial,rfl,hc.2.2,by omega⟩
  simp only[if_neg hc]at h;simp at h
theorem mE {aA aB:Int}{xs:List Int}{id:Int}(a:aO aA aB xs=true)(h:0≤(cA aA aB xs id).2):
  ∃ys,List.Perm ys xs∧ys[0]? =some id∧1≤id∧(cA aA aB xs id).1=ys.set 0 0∧(cA aA aB xs id).2≤60:=by
 unfold cA mU at h⊢;by_cases hc:id<1∨id∉xs
 ·rw[if_pos hc]at h;simp at h
 rw[if_neg hc]at h⊢;have hm:id∈xs:=by
  by_cases hm:id∈xs
  ·exact hm
  exact absurd (.inr hm) hc
 obtain⟨c,hx,hi⟩:=xV hm;rw[hi]at h⊢;rw[aTr]at h⊢;cases hb:dX aA xs c with
 |none=>rw[hb]at h;simp at h
 |some l=>
  rw[hb]at h;obtain⟨g1,ys,g2,g3,g4,g5⟩:=(pU a hx (by omega)).2 l hb;have hp:=(oV l xs a).2.2;rw[g2]at hp;refine⟨ys,hp,g5,by omega,?_,?_⟩
  ·simp[g2]
  simp;omega
theorem aEx {aA aB:Int}{xs:List Int}(h:aO aA aB xs=true):aO aA aB (xs.set 0 0)=true:=by
 unfold aO at*;rw[aRy]at*;refine⟨by rw[aTb];exact h.1,?_⟩;obtain⟨h1,h2,h3⟩:=(fK _ _).1 h.2;refine(fK _ _).2 ⟨fun x hx=> ?_,fun x hx=>by simp,?_⟩
 ·rcases aT1 hx with hx|rfl
  ·exact h1 x hx
  omega
 cases xs with
 |nil=>simp
 |cons x t=>
  rw[aS1,aTv (by simp)];refine h3.sublist ?_;rw[List.filter_cons];split
  ·exact List.sublist_cons_self _ _
  exact List.Sublist.refl _
theorem aO1 {f s p c i pd a now:Int}(h:bO f s p c=true)(hi:0≤i)(h3:i≤now)(h4:now≤9999):0≤nK f s p c (now-i)∧nK f s p c (now-i)≤693:=by have hb:=pL (m:=now-i) h (by omega) (by omega);omega
theorem rH {h:aL}(e:aR h=true){k a b:Int}{h':aL}{n:Int}(hd:cO h k a b=some (h',n)):
  aR h'=true∧(0≤n∧n≤9999)∧h'.cells.length=h.cells.length∧h'.aA=h.aA∧h'.aB=h.aB∧h'.free=h.free∧h'.step=h.step∧h'.aD=h.aD∧h'.aF=h.aF:=by
 obtain⟨q1,q2,q3,q4,q5⟩:=(eL h).1 e;have d:0<h.cells.length:=by have:=cE (cQ q1);omega
 unfold cO at hd;split at hd
 ·split at hd
  ·rename_i h0;obtain⟨zs,s1,s2,s3,s4,s5,s6⟩:=nP q1 h0;injection hd with hd;simp only[aSy]at hd;obtain⟨rfl,rfl⟩:=hd;rw[s4];refine⟨(eL _).2 ⟨s5,q2,q3,?_,?_⟩,⟨h0,by omega⟩,by rw[aTb,s1.length_eq],rfl,rfl,rfl,rfl,rfl,rfl⟩
   ·dsimp only;rw[wW,aOi s2 (by rw[s1.length_eq];exact d) s3,q4,pR s1]
   intro v hv;rcases aMr _ _ v hv with rfl|hv
   ·exact(iY _ _).2 ⟨by simp[dF];omega,Int.le_refl _⟩
   exact q5 v hv
  cases hd
 split at hd
 ·unfold oY at hd;split at hd
  ·cases hd
  rename_i v hv;obtain⟨v1,v2,v3,v4,v5,v6⟩:=kR hv;obtain⟨s1,s2⟩:=(iY _ _).1 (q5 v (aRs v3));obtain⟨b1,b2⟩:=kE q2 s1 s2 q3.2.1;obtain⟨t1,t2,t3,t4,t5,t6⟩:=fM s1;split at hd
  ·rename_i hp;have f:=aBr b1 hp.1;injection hd with hd;simp only[aSy]at hd;obtain⟨rfl,rfl⟩:=hd;refine⟨(eL _).2 ⟨q1,q2,⟨q3.1,q3.2.1,?_,hp.2⟩,?_,?_⟩,⟨f.1,by omega⟩,rfl,rfl,rfl,rfl,rfl,rfl,rfl⟩
   ·dsimp only;omega
   ·dsimp only;rw[←q4,←v2];rw[←v2]at v3;exact aMi _ v3
   intro u hu;rcases aT1 hu with hu|rfl
   ·exact q5 u hu
   refine(iY _ _).2 ?_;have hf:=aO1 (pd:=v.2.2.1) (a:=v.2.2.2) (now:=h.aC) q2 t1 (by omega) q3.2.1;have g:cC h.free h.step h.aD h.aF v.2.1 v.2.2.1 v.2.2.2 h.aC=max (nK h.free h.step h.aD h.aF (h.aC-v.2.1)-v.2.2.1) 0:=by unfold cC;rw[if_pos (by simp[q2,s1,s2,q3.2.1])]
   have c:=hp.1;unfold fS at c⊢;split at c
   ·rename_i ha;rw[if_pos ha];split at c
    ·cases c
    rename_i hn;rw[if_neg hn];dsimp only;refine⟨?_,by omega⟩;unfold dF;simp only[decide_eq_true_eq];omega
   cases c
  cases hd
 split at hd
 ·split at hd
  ·rename_i hm;obtain⟨ys,s1,s2,s3,s4,s5⟩:=mE q1 hm.2;injection hd with hd;simp only[aSy]at hd;obtain⟨rfl,rfl⟩:=hd;rw[s4];refine⟨(eL _).2 ⟨aEx (vC q1 s1),q2,q3,?_,?_⟩,⟨hm.2,by omega⟩,by rw[aTb,s1.length_eq],rfl,rfl,rfl,rfl,rfl,rfl⟩
   ·dsimp only;have hv: ∃v,eA a h.vs=some v:=by
     have:=hm.1;unfold dQ cV at this;rw[if_pos e]at this;cases hv:eA a h.vs with
     |none=>rw[hv]at this;simp at this
     |some v=>exact⟨v,rfl⟩
    obtain⟨v,hv⟩:=hv;obtain⟨v1,v2,v3,v4,v5,v6⟩:=kR hv;rw[v6,yF a h.vs v1,aL8 s2 s3,q4,pR s1]
   intro v hv;exact q5 v (List.mem_of_mem_eraseIdx hv)
  cases hd
 split at hd
 ·split at hd
  ·rename_i hw;injection hd with hd;simp only[aSy]at hd;obtain⟨rfl,rfl⟩:=hd;refine⟨(eL _).2 ⟨q1,q2,⟨by dsimp only;omega,by dsimp only;omega,q3.2.2⟩,q4,fun v hv=> ?_⟩,⟨by omega,by omega⟩,rfl,rfl,rfl,rfl,rfl,rfl,rfl⟩;obtain⟨s1,s2⟩:=(iY _ _).1 (q5 v hv);exact(iY _ _).2 ⟨s1,by dsimp only;omega⟩
  cases hd
 split at hd
 ·split at hd
  ·injection hd with hd;simp only[aSy]at hd;obtain⟨rfl,rfl⟩:=hd;refine⟨(eL _).2 ⟨iW a b q1,q2,q3,?_,q5⟩,⟨by omega,by omega⟩,dB _ _ _ _ _,rfl,rfl,rfl,rfl,rfl,rfl⟩;dsimp only;rw[q4,pR (nV a b)]
  cases hd
 cases hd
section
open Go.Proofs.Tryz
def uR (h:aL)(id:Int):Value:=match cV h id with
 |some s=> .tuple #[.agg #[s.1,s.2.1,s.2.2],.bool true]
 |none=> .tuple #[.agg #[(),(),()],.bool false]
theorem aEm (aA aB a b aD aF aC aG id:Int)(p:OA)(n cap:Nat)(q:OA)(m c2:Nat)(w:World)
  (HV:xB 31 #[.agg #[aA,aB,.slice p n cap,a,b,aD,aF,aC,aG,.slice q m c2]] w false):
  U 134 #[.agg #[aA,aB,.slice p n cap,a,b,aD,aF,aC,aG,.slice q m c2],id] w (O (.tuple #[.agg #[(),(),()],.bool false]) w):=by
 go_enter func134,ntmps134;go_wp2_with fail;refine Z (HV _ (by exact .alloc (.alloc (.refl _) _) _)) fun w1 c=>?_
 have f:Blk w1 w 35 #[aA,aB,.slice p n cap,a,b,aD,aF,aC,aG,.slice q m c2]:=((Blk.new w _ _).alloc _).ext c;have d:Blk w1 (w.heap.size+1) 75 #[(),(),()]:=by have:=(Blk.new (w.alloc (.cells #[aA,aB,.slice p n cap,a,b,aD,aF,aC,aG,.slice q m c2] 35)) 75 #[(),(),()]).ext c;simpa using this
 have X1:Ext w w1:=(((Ext.refl w).alloc _).alloc _).trans c;replace f:=xQ f;replace d:=xQ d;clear c;obtain⟨j,g,k,h,l,i⟩:=d.out.trif;go_wp2;exact bodyPost_ret (v:= .tuple #[.agg #[(),(),()],.bool false]) (by simp[results,results134,go_sem, *]) rfl ⟨rfl,xE⟩
theorem aH8 (aA aB a b aD aF aC aG id:Int)(p:OA)(n cap:Nat)(q:OA)(m c2:Nat)(w:World)
  (HV:xB 31 #[.agg #[aA,aB,.slice p n cap,a,b,aD,aF,aC,aG,.slice q m c2]] w true)
  (HX:xC 119 #[.agg #[aA,aB,.slice p n cap,a,b,aD,aF,aC,aG,.slice q m c2],id] w fun w' e w''=>e= .returned (I (-1))∧Ext w' w''):
  U 134 #[.agg #[aA,aB,.slice p n cap,a,b,aD,aF,aC,aG,.slice q m c2],id] w (O (.tuple #[.agg #[(),(),()],.bool false]) w):=by
 go_enter func134,ntmps134;go_wp2_with fail;refine Z (HV _ (by exact .alloc (.alloc (.refl _) _) _)) fun w1 f=>?_
 have c:Blk w1 w 35 #[aA,aB,.slice p n cap,a,b,aD,aF,aC,aG,.slice q m c2]:=((Blk.new w _ _).alloc _).ext f;have d:Blk w1 (w.heap.size+1) 75 #[(),(),()]:=by have:=(Blk.new (w.alloc (.cells #[aA,aB,.slice p n cap,a,b,aD,aF,aC,aG,.slice q m c2] 35)) 75 #[(),(),()]).ext f;simpa using this
 have X1:Ext w w1:=(((Ext.refl w).alloc _).alloc _).trans f;replace c:=xQ c;replace d:=xQ d;clear f;obtain⟨h,i,j,k,l,o,r,s,t,u⟩:=c.out.ten;go_wp2_with fail;refine Z (HX _ (by exact X1)) fun w2 g=>?_
 have x:=xQ (d.out.ext g);have X2:Ext w w2:=X1.trans g;clear h i j k l o r s t u g c d;obtain⟨ab,y,ad,z,ae,aa⟩:=x.out.trif;go_wp2;exact bodyPost_ret (v:= .tuple #[.agg #[(),(),()],.bool false]) (by simp[results,results134,go_sem, *]) rfl ⟨rfl,xE⟩
theorem aEl (aA aB a c aD aF aC aG id:Int)(p:OA)(n cap:Nat)(q:OA)(m c2:Nat)(w:World)
  (k:Nat)(a1 a2 a3:Int)(vs:List aP)(HK:Hid (vs[k]? =some (id,a1,a2,a3))) (hk:k<m) (hm:m≤9223372036854775807) (HS:Hid (Sl w q m c2 4 (vs.flatMap aE)))
  (HV:xB 31 #[.agg #[aA,aB,.slice p n cap,a,c,aD,aF,aC,aG,.slice q m c2]] w true)
  (HX:xC 119 #[.agg #[aA,aB,.slice p n cap,a,c,aD,aF,aC,aG,.slice q m c2],id] w fun w' e w''=>e= .returned (I k)∧Ext w' w''):
  U 134 #[.agg #[aA,aB,.slice p n cap,a,c,aD,aF,aC,aG,.slice q m c2],id] w (O (.tuple #[.agg #[a1,a2,a3],.bool true]) w):=by
 go_enter func134,ntmps134;go_wp2_with fail;refine Z (HV _ (by exact .alloc (.alloc (.refl _) _) _)) fun w1 g=>?_
 have d:Blk w1 w 35 #[aA,aB,.slice p n cap,a,c,aD,aF,aC,aG,.slice q m c2]:=((Blk.new w _ _).alloc _).ext g;have f:Blk w1 (w.heap.size+1) 75 #[(),(),()]:=by have:=(Blk.new (w.alloc (.cells #[aA,aB,.slice p n cap,a,c,aD,aF,aC,aG,.slice q m c2] 35)) 75 #[(),(),()]).ext g;simpa using this
 have X1:Ext w w1:=(((Ext.refl w).alloc _).alloc _).trans g;replace d:=xQ d;replace f:=xQ f;clear g;obtain⟨i,j,l,o,r,s,u,x,y,z⟩:=d.out.ten;go_wp2_with fail;refine Z (HX _ (by exact X1)) fun w2 h=>?_
 have aa:=xQ (d.out.ext h);have ab:=xQ (f.out.ext h);have X2:Ext w w2:=X1.trans h;clear i j l o r s u x y z h d f;obtain⟨ad,ae,af,ag,ah,ai,aj,ak,al,am⟩:=aa.out.ten;obtain⟨aq,an,ar,ao,au,ap⟩:=ab.out.trif;obtain⟨b,av,b0,b1,b2,b3,rfl,hv,hb,g0,g1,g2,g3⟩:=eH (HS.out.ext X2) hk;obtain⟨rfl,rfl,rfl,rfl⟩:id=b0∧a1=b1∧a2=b2∧a3=b3:=by have t:=HK.out;rw[hv]at t;simp only[aTh,aSy]at t;exact⟨t.1.symm,t.2.1.symm,t.2.2.1.symm,t.2.2.2.symm⟩
 have i1:(0:Int)≤(k:Int):=by omega
 have i2:(k:Int)<(m:Int):=by omega
 clear hv;go_wp2;exact bodyPost_ret (v:= .tuple #[.agg #[a1,a2,a3],.bool true]) (by simp[results,results134,go_sem, *]) rfl ⟨rfl,xE⟩
theorem aDd (aA aB a b aD aF aC aG id:Int)(p:OA)(n cap:Nat)(q:OA)(m c2:Nat)(w:World)
  (x:Int)
  (HX:xC 60 #[.agg #[aA,aB,.slice p n cap,a,b,aD,aF,aC,aG,.slice q m c2],id] w fun w' e w''=>e= .returned (I x)∧Ext w' w'')
  (HV:xB 21 #[.agg #[aA,aB,.slice p n cap,a,b,aD,aF,aC,aG,.slice q m c2]] w false):
  U 107 #[.agg #[aA,aB,.slice p n cap,a,b,aD,aF,aC,aG,.slice q m c2],id] w (O (.tuple #[.agg #[(),(),()],.bool false]) w):=by
 go_enter func107,ntmps107;go_wp2_with fail;refine Z (HX _ (by exact .alloc (.alloc (.refl _) _) _)) fun w1 f=>?_
 have c:Blk w1 w 35 #[aA,aB,.slice p n cap,a,b,aD,aF,aC,aG,.slice q m c2]:=((Blk.new w _ _).alloc _).ext f;have d:Blk w1 (w.heap.size+1) 75 #[(),(),()]:=by have:=(Blk.new (w.alloc (.cells #[aA,aB,.slice p n cap,a,b,aD,aF,aC,aG,.slice q m c2] 35)) 75 #[(),(),()]).ext f;simpa using this
 have X1:Ext w w1:=(((Ext.refl w).alloc _).alloc _).trans f;replace c:=xQ c;replace d:=xQ d;clear f;obtain⟨h,i,j,k,l,o,r,s,t,u⟩:=c.out.ten;go_wp2_with fail;refine Z (HV _ (by exact X1)) fun w2 g=>?_
 have y:=xQ (d.out.ext g);have X2:Ext w w2:=X1.trans g;clear h i j k l o r s t u g c d;obtain⟨ad,z,ae,aa,af,ab⟩:=y.out.trif;go_wp2;exact bodyPost_ret (v:= .tuple #[.agg #[(),(),()],.bool false]) (by simp[results,results107,go_sem, *]) rfl ⟨rfl,xE⟩
theorem aFw (aA aB a b aD aF aC aG id:Int)(p:OA)(n cap:Nat)(q:OA)(m c2:Nat)(w:World)
  (HX:xC 60 #[.agg #[aA,aB,.slice p n cap,a,b,aD,aF,aC,aG,.slice q m c2],id] w fun w' e w''=>e= .returned (I (-1))∧Ext w' w'')
  (HV:xB 21 #[.agg #[aA,aB,.slice p n cap,a,b,aD,aF,aC,aG,.slice q m c2]] w true):
  U 107 #[.agg #[aA,aB,.slice p n cap,a,b,aD,aF,aC,aG,.slice q m c2],id] w (O (.tuple #[.agg #[(),(),()],.bool false]) w):=by
 go_enter func107,ntmps107;go_wp2_with fail;refine Z (HX _ (by exact .alloc (.alloc (.refl _) _) _)) fun w1 f=>?_
 have c:Blk w1 w 35 #[aA,aB,.slice p n cap,a,b,aD,aF,aC,aG,.slice q m c2]:=((Blk.new w _ _).alloc _).ext f;have d:Blk w1 (w.heap.size+1) 75 #[(),(),()]:=by have:=(Blk.new (w.alloc (.cells #[aA,aB,.slice p n cap,a,b,aD,aF,aC,aG,.slice q m c2] 35)) 75 #[(),(),()]).ext f;simpa using this
 have X1:Ext w w1:=(((Ext.refl w).alloc _).alloc _).trans f;replace c:=xQ c;replace d:=xQ d;clear f;obtain⟨h,i,j,k,l,o,r,s,t,u⟩:=c.out.ten;go_wp2_with fail;refine Z (HV _ (by exact X1)) fun w2 g=>?_
 have x:=xQ (d.out.ext g);have X2:Ext w w2:=X1.trans g;clear h i j k l o r s t u g c d;obtain⟨ab,y,ad,z,ae,aa⟩:=x.out.trif;go_wp2;exact bodyPost_ret (v:= .tuple #[.agg #[(),(),()],.bool false]) (by simp[results,results107,go_sem, *]) rfl ⟨rfl,xE⟩
theorem aDc (aA aB a c aD aF aC aG id:Int)(p:OA)(n cap:Nat)(q:OA)(m c2:Nat)(w:World)
  (k:Nat)(a1 a2 a3:Int)(vs:List aP)(HK:Hid (vs[k]? =some (id,a1,a2,a3))) (hk:k<m) (hm:m≤9223372036854775807) (HS:Hid (Sl w q m c2 4 (vs.flatMap aE)))
  (HX:xC 60 #[.agg #[aA,aB,.slice p n cap,a,c,aD,aF,aC,aG,.slice q m c2],id] w fun w' e w''=>e= .returned (I k)∧Ext w' w'')
  (HV:xB 21 #[.agg #[aA,aB,.slice p n cap,a,c,aD,aF,aC,aG,.slice q m c2]] w true):
  U 107 #[.agg #[aA,aB,.slice p n cap,a,c,aD,aF,aC,aG,.slice q m c2],id] w (O (.tuple #[.agg #[a1,a2,a3],.bool true]) w):=by
 go_enter func107,ntmps107;go_wp2_with fail;refine Z (HX _ (by exact .alloc (.alloc (.refl _) _) _)) fun w1 g=>?_
 have d:Blk w1 w 35 #[aA,aB,.slice p n cap,a,c,aD,aF,aC,aG,.slice q m c2]:=((Blk.new w _ _).alloc _).ext g;have f:Blk w1 (w.heap.size+1) 75 #[(),(),()]:=by have:=(Blk.new (w.alloc (.cells #[aA,aB,.slice p n cap,a,c,aD,aF,aC,aG,.slice q m c2] 35)) 75 #[(),(),()]).ext g;simpa using this
 have X1:Ext w w1:=(((Ext.refl w).alloc _).alloc _).trans g;replace d:=xQ d;replace f:=xQ f;clear g;obtain⟨i,j,l,o,r,s,u,x,y,z⟩:=d.out.ten;go_wp2_with fail;refine Z (HV _ (by exact X1)) fun w2 h=>?_
 have aa:=xQ (d.out.ext h);have ab:=xQ (f.out.ext h);have X2:Ext w w2:=X1.trans h;clear i j l o r s u x y z h d f;obtain⟨ad,ae,af,ag,ah,ai,aj,ak,al,am⟩:=aa.out.ten;obtain⟨aq,an,ar,ao,au,ap⟩:=ab.out.trif;obtain⟨b,av,b0,b1,b2,b3,rfl,hv,hb,g0,g1,g2,g3⟩:=eH (HS.out.ext X2) hk;obtain⟨rfl,rfl,rfl,rfl⟩:id=b0∧a1=b1∧a2=b2∧a3=b3:=by have t:=HK.out;rw[hv]at t;simp only[aTh,aSy]at t;exact⟨t.1.symm,t.2.1.symm,t.2.2.1.symm,t.2.2.2.symm⟩
 have i1:(0:Int)≤(k:Int):=by omega
 have i2:(k:Int)<(m:Int):=by omega
 clear hv;go_wp2;exact bodyPost_ret (v:= .tuple #[.agg #[a1,a2,a3],.bool true]) (by simp[results,results107,go_sem, *]) rfl ⟨rfl,xE⟩
theorem aId (h:aL)(id:Int)(p:OA)(n cap:Nat)(q:OA)(m c2:Nat)(w:World)(hi:IsHouse w h p n cap q m c2):
  U 134 #[bM h p n cap q m c2,id] w (O (uR h id) w):=by
 have HV:=fun(w':World) (hx:Ext w w')=>iF h p n cap q m c2 w' (hi.ext hx)
 have d:=hi.vlen;obtain⟨aA,aB,c,a,b,aD,aF,aC,aG,vs⟩:=h;have HX:=fun(w':World) (hx:Ext w w')=>jO aA aB a b aD aF aC aG id p n cap q m c2 vs w' (hi.vs.ext hx)
 unfold uR cV;simp only at d HV HX⊢;cases hok:aR ⟨aA,aB,c,a,b,aD,aF,aC,aG,vs⟩with
 |false=>rw[hok]at HV;simpa using aEm aA aB a b aD aF aC aG id p n cap q m c2 w HV
 |true=>
  rw[hok]at HV;rcases nF id vs with⟨hx,hv⟩|⟨k,a1,a2,a3,hk,hx,hv,hf⟩
  ·rw[hx]at HX;rw[hv];simpa using aH8 aA aB a b aD aF aC aG id p n cap q m c2 w HV HX
  rw[hx]at HX;rw[hf];simpa using aEl aA aB a b aD aF aC aG id p n cap q m c2 w k a1 a2 a3 vs hv (by omega) hi.vs.bd hi.vs HV HX
theorem aI7 (h:aL)(id:Int)(p:OA)(n cap:Nat)(q:OA)(m c2:Nat)(w:World)(hi:IsHouse w h p n cap q m c2):
  U 107 #[bM h p n cap q m c2,id] w (O (uR h id) w):=by
 have HV:=fun(w':World) (hx:Ext w w')=>iE h p n cap q m c2 w' (hi.ext hx)
 have d:=hi.vlen;obtain⟨aA,aB,c,a,b,aD,aF,aC,aG,vs⟩:=h;have HX:=fun(w':World) (hx:Ext w w')=>rG aA aB a b aD aF aC aG id p n cap q m c2 vs w' (hi.vs.ext hx)
 unfold uR cV;simp only at d HV HX⊢;cases hok:aR ⟨aA,aB,c,a,b,aD,aF,aC,aG,vs⟩with
 |false=>rw[hok]at HV;simpa using aDd aA aB a b aD aF aC aG id p n cap q m c2 w _ HX HV
 |true=>
  rw[hok]at HV;rcases nF id vs with⟨hx,hv⟩|⟨k,a1,a2,a3,hk,hx,hv,hf⟩
  ·rw[hx]at HX;rw[hv];simpa using aFw aA aB a b aD aF aC aG id p n cap q m c2 w HX HV
  rw[hx]at HX;rw[hf];simpa using aDc aA aB a b aD aF aC aG id p n cap q m c2 w k a1 a2 a3 vs hv (by omega) hi.vs.bd hi.vs HX HV
end
end Go.Proofs.YtbgkcehffiogcacGreatDoor
