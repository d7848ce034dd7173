/-
  Texts of this proof, packed (@packed).
-/
import Derived.Test.YtpelpnfhbepokaaGreatDoorV18
namespace Go.Proofs.YtpelpnfhbepokaaGreatDoor
open Go.RowKit
set_option linter.unusedVariables false
set_option linter.unusedSimpArgs false
set_option maxHeartbeats 8000000
set_option maxRecDepth 100000
section
variable {w0 w w':World} {L:List Item}
theorem Mem.own2 {b n c sz n2 c2 sz2:Nat}{e e2:TypeId}{q q2:OA}{xs i:List Value}(h:Mem w0 w L)(hx:Ext w w')(a:w'.ownsRow b e sz (.slice q n c) n xs)(g:w'.ownsRow b e2 sz2 (.slice q2 n2 c2) n2 i)(hb:w.heap.size≤b)(ht:e≠e2):
  Mem w0 w' (aJ w0.heap.size e sz q n c xs::aJ w0.heap.size e2 sz2 q2 n2 c2 i::L):=by
 refine(h.ownNew hx g hb).cons (eI _ _ _ _ _ _ _) (dX a (Nat.le_trans h.ext.sz hb)) (fun g' hg' j hj e'=> ?_);replace hg':(Value.slice q n c).ownBlock=Option.some g':=hg';have h1:=(World.ownsRow.lt a g' hg').1;rcases List.mem_cons.1 hj with rfl|hj
 ·replace e':(Value.slice q2 n2 c2).ownBlock=Option.some g':=e';rcases a.2 with⟨h2,_⟩|⟨g2,cap',cur,h2,_,h3,_⟩
  ·rw[h2]at hg';cases hg'
  rcases g.2 with⟨k2,_⟩|⟨g3,cap3,cur3,k2,_,k3,_⟩
  ·rw[k2]at e';cases e'
  rw[h2]at hg';rw[k2]at e';injection hg' with hg';injection e' with e';have f:g2=g':=hg';have d:g3=g':=e';subst f;subst d;rw[h3]at k3;injection k3 with k3;injection k3 with _ k3;exact ht k3
 have h2:=((h.good j hj).lt w (h.ok j hj) g' e').2;omega
end
theorem xL (aA aB a c aE aF aC aG id amt:Int)(p:OA)(n d:Nat)(q:OA)(m c2:Nat)(xs:List Int)(vs:List aP)(w:World)
  (HL:xC 37 #[.agg #[aA,aB,.slice p n d,a,c,aE,aF,aC,aG,.slice q m c2]] w fun w' e w''=> ∃p' cap' q' c2',e= .returned (.agg #[aA,aB,.slice p' n cap',a,c,aE,aF,aC,aG,.slice q' m c2'])∧w''.ownsRow w'.heap.size TI 1 (.slice p' n cap') n (ivs xs)∧w''.ownsRow w'.heap.size TV 4 (.slice q' m c2') m (vs.flatMap aD)∧Ext w' w'')
  (HF:xC 86 #[.agg #[aA,aB,.slice p n d,a,c,aE,aF,aC,aG,.slice q m c2],id] w fun w' e w''=>e= .returned (.int .i64 (-1))∧Ext w' w''):
  Calls Tryz.prog 84 #[.agg #[aA,aB,.slice p n d,a,c,aE,aF,aC,aG,.slice q m c2],id,amt] w fun e w'=> ∃p' cap' q' c2' b,e= .returned (.tuple #[.agg #[aA,aB,.slice p' n cap',a,c,aE,aF,aC,aG,.slice q' m c2'],b,.bool false])∧Ext w w':=by
 go_enter Tryz.func84,Tryz.ntmps84;go_wp2_with fail;refine(HL _ (((Mem.start w).c0 aL #[aA,aB,.slice p n d,a,c,aE,aF,aC,aG,.slice q m c2]).c1 aL zT).ext).mono ?_;rintro e w1 ⟨p1,f,q1,g,rfl,t,u,y⟩;have M1:=((((Mem.start w).c0 aL #[aA,aB,.slice p n d,a,c,aE,aF,aC,aG,.slice q m c2]).c1 aL zT).own2 y t u (Nat.le_refl _) (by decide))
 have k:=M1.hi 2;have l:=M1.hi 3;clear y t u HL;obtain⟨aa,ab,ad,ae,af,ag,ah,ai,aj,ak⟩:=(M1.bk 3).ten;go_wp2_with fail;clear aa ab ad ae af ag ah ai aj ak;refine(HF _ (M1.c0 aL #[aA,aB,.slice p1 n f,a,c,aE,aF,aC,aG,.slice q1 m g]).ext).mono ?_;rintro e w2 ⟨rfl,z⟩;have M2:=((M1.c0 aL #[aA,aB,.slice p1 n f,a,c,aE,aF,aC,aG,.slice q1 m g]).adv z)
 clear M1 k l z HF;have o:=M2.hi 0;have r:=M2.hi 3;have s:=M2.hi 4;obtain⟨d0,d1,d2,d3,d4,d5,d6,d7,d8,d9⟩:=(M2.bk 0).ten;obtain⟨f0,al,f1,am,f2,an,f3,ao,f4,ap,f5,aq,f6,ar,f7,au,f8,av,f9,aw⟩:=(M2.bk 3).tenf;obtain⟨h,j⟩:=M2.nq 0 3;go_wp2;clear d0 d1 d2 d3 d4 d5 d6 d7 d8 d9 f0 al f1 am f2 an f3 ao f4 ap f5 aq f6 ar f7 au f8 av f9 aw h j o r s;have M3:=(M2.put10 (i:=3) rfl (.int .i64 aA) (.int .i64 aB) (.slice p1 n f) (.int .i64 a) (.int .i64 c) (.int .i64 aE) (.int .i64 aF) (.int .i64 aC) (.int .i64 aG) (.slice q1 m g))
 generalize x:World.setCell _ _ _=wz;rw[x]at M3;clear x M2;obtain⟨y0,y1,y2,y3,y4,y5,y6,y7,y8,y9⟩:=(M3.bk 3).ten;exact bodyPost_ret (v:= .tuple #[.agg #[aA,aB,.slice p1 n f,a,c,aE,aF,aC,aG,.slice q1 m g],amt,.bool false]) (by simp[results,Tryz.results84,go_sem, *]) rfl ⟨p1,f,q1,g,amt,rfl,M3.ext⟩
theorem wB {vs:List aP}{k:Nat}{a0 a1 a2 a3:Int}(h:vs[k]? =some (a0,a1,a2,a3)) (S1 S2 S3:Int):
  (((vs.flatMap aD).set (k*4+1) (.int .i64 S1)).set (k*4+2) (.int .i64 S2)).set (k*4+3) (.int .i64 S3)=(vs.set k (a0,S1,S2,S3)).flatMap aD:=by
 induction vs generalizing k with
 |nil=>simp at h
 |cons v vs ih=>
  cases k with
  |zero=>simp at h;subst h;simp[aD]
  |succ k=>
   have h':vs[k]? =some (a0,a1,a2,a3):=by simpa using h
   rw[List.set_cons_succ,List.flatMap_cons,List.flatMap_cons,←ih h'];simp only[aD,List.cons_append,List.nil_append];rw[show(k+1)*4+1=(k*4+1)+1+1+1+1 by omega,show(k+1)*4+2=(k*4+2)+1+1+1+1 by omega,show(k+1)*4+3=(k*4+3)+1+1+1+1 by omega];simp only[List.set_cons_succ]
theorem aF2 (aA aB c d aE aF aC aG id amt:Int)(p:OA)(n y b h m c2 k:Nat)(xs:List Int)(vs:List aP)(a0 a1 a2 a3 S1 S2 S3 bk:Int)(z:Bool)(w:World)(hk:k<m)(hm:m≤1000)(hb:b<w.heap.size)(c9:0≤aG)(cx:aG≤99999)(cn:z=true→0≤bk∧bk≤amt∧amt≤300)(cb:Hid (vs[k]? =some (a0,a1,a2,a3)))
  (g1:w.cell? ⟨b,h+k*4+1,none⟩=some (.int .i64 a1)) (g2:w.cell? ⟨b,h+k*4+2,none⟩=some (.int .i64 a2)) (g3:w.cell? ⟨b,h+k*4+3,none⟩=some (.int .i64 a3))
  (HL:xC 37 #[.agg #[aA,aB,.slice p n y,c,d,aE,aF,aC,aG,.slice (some ⟨b,h,none⟩) m c2]] w fun w' e w''=> ∃p' cap' q' c2',e= .returned (.agg #[aA,aB,.slice p' n cap',c,d,aE,aF,aC,aG,.slice q' m c2'])∧w''.ownsRow w'.heap.size TI 1 (.slice p' n cap') n (ivs xs)∧w''.ownsRow w'.heap.size TV 4 (.slice q' m c2') m (vs.flatMap aD)∧Ext w' w'')
  (HF:xC 86 #[.agg #[aA,aB,.slice p n y,c,d,aE,aF,aC,aG,.slice (some ⟨b,h,none⟩) m c2],id] w fun w' e w''=>e= .returned (.int .i64 (k:Int))∧Ext w' w'')
  (HP:Hid (∀w',Calls Tryz.prog 134 #[aQ c d aE aF,bP a1 a2 a3,aC,amt] w' fun e w''=>e= .returned (.tuple #[bP S1 S2 S3,bk,.bool z])∧Ext w' w'')):
  Calls Tryz.prog 84 #[.agg #[aA,aB,.slice p n y,c,d,aE,aF,aC,aG,.slice (some ⟨b,h,none⟩) m c2],id,amt] w fun e w'=>(∃p' cap' q' c2' b,e= .returned (.tuple #[.agg #[aA,aB,.slice p' n cap',c,d,aE,aF,aC,aG,.slice q' m c2'],b,.bool false])∧ ¬(z=true∧aG+amt-bk≤99999)∧Ext w w')∨
   (z=true∧aG+amt-bk≤99999∧ ∃p' cap' q' c2',e= .returned (.tuple #[.agg #[aA,aB,.slice p' n cap',c,d,aE,aF,aC,(aG+amt-bk:Int),.slice q' m c2'],bk,.bool true])∧w'.ownsRow w.heap.size TI 1 (.slice p' n cap') n (ivs xs)∧w'.ownsRow w.heap.size TV 4 (.slice q' m c2') m ((vs.set k (a0,S1,S2,S3)).flatMap aD)∧Ext w w'):=by
 go_enter Tryz.func84,Tryz.ntmps84;go_wp2_with fail;refine(HL _ (((Mem.start w).c0 aL #[aA,aB,.slice p n y,c,d,aE,aF,aC,aG,.slice (some ⟨b,h,none⟩) m c2]).c1 aL zT).ext).mono ?_;rintro e w1 ⟨p1,f,q1,g,rfl,b3,b4,b6⟩;have M1:=((((Mem.start w).c0 aL #[aA,aB,.slice p n y,c,d,aE,aF,aC,aG,.slice (some ⟨b,h,none⟩) m c2]).c1 aL zT).own2 b6 b3 b4 (Nat.le_refl _) (by decide))
 have bp:=M1.hi 2;have bq:=M1.hi 3;clear b6 b3 b4 HL;obtain⟨bc,bd,be,bf,bg,bh,bi,bj,bl,bm⟩:=(M1.bk 3).ten;go_wp2_with fail;clear bc bd be bf bg bh bi bj bl bm;refine(HF _ (M1.c0 aL #[aA,aB,.slice p1 n f,c,d,aE,aF,aC,aG,.slice q1 m g]).ext).mono ?_;rintro e w2 ⟨rfl,b7⟩;have M2:=((M1.c0 aL #[aA,aB,.slice p1 n f,c,d,aE,aF,aC,aG,.slice q1 m g]).adv b7)
 clear M1 bp bq b7 HF;have br:=M2.hi 0;have bs:=M2.hi 3;have bt:=M2.hi 4;obtain⟨bc,bd,be,bf,bg,bh,bi,bj,bl,bm⟩:=(M2.bk 4).ten;have al:=M2.ext;have bu:w2.cell? ⟨b,h+k*4+1,none⟩=some (.int .i64 a1):=(al.cells.1 _ _ hb).trans g1;have bv:w2.cell? ⟨b,h+k*4+2,none⟩=some (.int .i64 a2):=(al.cells.1 _ _ hb).trans g2;have bw:w2.cell? ⟨b,h+k*4+3,none⟩=some (.int .i64 a3):=(al.cells.1 _ _ hb).trans g3;have an:b<w2.heap.size:=Nat.lt_of_lt_of_le hb al.sz;clear al;have i1:(0:Int)≤(k:Int):=by omega
 have i2:(k:Int)<(m:Int):=by omega
 have n1: ¬(w.heap.size=w2.heap.size):=by omega
 have n2: ¬(w2.heap.size=w.heap.size):=by omega
 have n3: ¬(b=w2.heap.size):=by omega
 have n4: ¬(w2.heap.size=b):=by omega
 go_upto_region 5 with fail;go_cut [11,12,13] (fun s11 s12 s13 wx=> ∃a:Nat,s11= .pointer (some ⟨a,0,none⟩)∧s12= .int .i64 bk∧s13= .bool z∧Ext w2 wx∧w2.heap.size≤a∧Blk wx a TS3 #[S1,S2,S3])
 case first=>
  go_region_held3 (fun w'=>w'.cell? ⟨w.heap.size,3,none⟩=some (.int .i64 c)∧w'.cell? ⟨w.heap.size,4,none⟩=some (.int .i64 d)∧w'.cell? ⟨w.heap.size,5,none⟩=some (.int .i64 aE)∧w'.cell? ⟨w.heap.size,6,none⟩=some (.int .i64 aF)∧w'.cell? ⟨w.heap.size,7,none⟩=some (.int .i64 aC)∧w'.cell? ⟨w.heap.size,9,none⟩=some (.slice (some ⟨b,h,none⟩) m c2)∧w'.cell? ⟨b,h+k*4+1,none⟩=some (.int .i64 a1)∧w'.cell? ⟨b,h+k*4+2,none⟩=some (.int .i64 a2)∧w'.cell? ⟨b,h+k*4+3,none⟩=some (.int .i64 a3))
   (first|(refine⟨?_,?_,?_,?_,?_,?_,?_,?_,?_⟩<;>assumption)|go_keep)
   ((go_at_call 134
     refine(HP _).mono ?_;rintro e w5 ⟨rfl,b8⟩;have o:Ext w2 w5:=xE;have cz:=((M2.bk 4).ext o).cl 3;have c0:=((M2.bk 4).ext o).cl 4;have c1:=((M2.bk 4).ext o).cl 5;have c3:=((M2.bk 4).ext o).cl 6;have c4:=((M2.bk 4).ext o).cl 7;have c5:=((M2.bk 4).ext o).cl 9;have c6:w5.cell? ⟨b,h+k*4+1,none⟩=some (.int .i64 a1):=(o.cells.1 _ _ an).trans bu;have c7:w5.cell? ⟨b,h+k*4+2,none⟩=some (.int .i64 a2):=(o.cells.1 _ _ an).trans bv;have c8:w5.cell? ⟨b,h+k*4+3,none⟩=some (.int .i64 a3):=(o.cells.1 _ _ an).trans bw
     first
      |(have bo:Ext (w2.alloc (.cells #[(),(),()] TS3)) w5:=b8
        have BB:=(Blk.new w2 TS3 #[(),(),()]).ext bo;have cr:=BB.cl 0;have cu:=BB.frozen 0;have cs:=BB.cl 1;have cv:=BB.frozen 1;have ct:=BB.cl 2
        have cw:w5.frozen? ⟨w2.heap.size,2,none⟩=false:=BB.frozen 2)
      |(have bo:Ext (w2.alloc (.cells #[(),(),()] TS3)) w5:=b8.of_drew
        have BB:=(Blk.new w2 TS3 #[(),(),()]).ext bo;have cr:=BB.cl 0;have cu:=BB.frozen 0;have cs:=BB.cl 1;have cv:=BB.frozen 1;have ct:=BB.cl 2
        have cw:w5.frozen? ⟨w2.heap.size,2,none⟩=false:=BB.frozen 2)
      |skip))
  ·go_wp2_with fail;go_meet;exact⟨w5.heap.size,rfl,rfl,rfl,by exact .alloc o _,by have:=o.sz;omega,Blk.new _ _ _⟩
  have hR:ExtR w2.heap.size w5 _:=(((ExtR.refl w2.heap.size w5).setCell (p:=⟨w2.heap.size,0,none⟩) (.inl rfl) (.int .i64 S1)).setCell (p:=⟨w2.heap.size,1,none⟩) (.inl rfl) (.int .i64 S2)).setCell (p:=⟨w2.heap.size,2,none⟩) (.inl rfl) (.int .i64 S3);have hY:=((BB.set 0 (.int .i64 S1)).set 1 (.int .i64 S2)).set 2 (.int .i64 S3);simp only[List.setIfInBounds_toArray,List.set_cons_zero,List.set_cons_succ]at hY;go_wp2_with fail;go_meet;exact⟨w2.heap.size,rfl,rfl,rfl,ExtR.new o hR (Nat.le_refl _),Nat.le_refl _,hY⟩
 case rest=>
  clear bc bd be bf bg bh bi bj bl bm bu bv bw an HP n1 n2 n3 n4;obtain⟨a,rfl,rfl,rfl,bz,ha,bx⟩:=hcut;have M3:=(M2.blkOf bz bx ha)
  clear M2 br bs bt bz ha bx;have s:=M3.hi 0;have t:=M3.hi 1;have u:=M3.hi 4;have x:=M3.hi 5;cases z with
  |false=>
   have am:Hid (¬(false=true∧aG+amt-bk≤99999)):=by show¬_;simp
   obtain⟨d0,d1,d2,d3,d4,d5,d6,d7,d8,d9⟩:=(M3.bk 1).ten;obtain⟨f0,aa,f1,ab,f2,ad,f3,ae,f4,af,f5,ag,f6,ah,f7,ai,f8,aj,f9,ak⟩:=(M3.bk 4).tenf;obtain⟨j,l⟩:=M3.nq 1 4;go_wp2;clear d0 d1 d2 d3 d4 d5 d6 d7 d8 d9 f0 aa f1 ab f2 ad f3 ae f4 af f5 ag f6 ah f7 ai f8 aj f9 ak j l s t u x;have M4:=(M3.put10 (i:=4) rfl (.int .i64 aA) (.int .i64 aB) (.slice p1 n f) (.int .i64 c) (.int .i64 d) (.int .i64 aE) (.int .i64 aF) (.int .i64 aC) (.int .i64 aG) (.slice q1 m g))
   generalize r:World.setCell _ _ _=wz;rw[r]at M4;clear r M3;obtain⟨y0,y1,y2,y3,y4,y5,y6,y7,y8,y9⟩:=(M4.bk 4).ten;exact bodyPost_ret (v:= .tuple #[.agg #[aA,aB,.slice p1 n f,c,d,aE,aF,aC,aG,.slice q1 m g],amt,.bool false]) (by simp[results,Tryz.results84,go_sem, *]) rfl (by first|exact .inl ⟨p1,f,q1,g,amt,rfl,am.out,M4.ext⟩|(have q:=am.out;simp at q;first|exact .inl ⟨p1,f,q1,g,amt,rfl,q,M4.ext⟩|exact .inl ⟨p1,f,q1,g,amt,rfl,by omega,M4.ext⟩|exact .inl ⟨⟨p1,f,q1,g,amt,rfl⟩,q,M4.ext⟩|exact .inl ⟨⟨p1,f,q1,g,amt,rfl⟩,by omega,M4.ext⟩|exact .inl ⟨⟨p1,f,q1,g,amt,rfl⟩,M4.ext⟩|exact⟨⟨p1,f,q1,g,amt,rfl⟩,M4.ext⟩))
  |true=>
   obtain⟨o1,o2,o3⟩:=cn rfl;have k1:IntKind.i64.wrap (aG+amt)=aG+amt:=IntWalk.i64_in _ (by omega);have k2:IntKind.i64.wrap (aG+amt-bk)=aG+amt-bk:=IntWalk.i64_in _ (by omega);have h8:=(M3.bk 5).cl 8;by_cases hq:aG+amt-bk≤99999
   ·have hd:decide (99999<aG+amt-bk)=false:=by simp;omega
    have b5:=xQ hq;clear hq;obtain⟨gq,rfl,b1,b2⟩:=M3.so 3;obtain⟨b9,o9,x0,x1,x2,x3,e9,ca,_,y0,y1,y2,y3⟩:=eB (M3.sq 3) hk;injection e9 with e9;injection e9 with e9 e8;subst e9 e8;simp only[Nat.zero_add]at y1 y2 y3;have cy:=xQ ca;clear ca y0 b1;obtain⟨d0,cc,d1,cd,d2,ce,d3,cf,d4,cg,d5,ch,d6,ci,d7,cj,d8,ck,d9,cm⟩:=(M3.bk 1).tenf;obtain⟨f0,aa,f1,ab,f2,ad,f3,ae,f4,af,f5,ag,f6,ah,f7,ai,f8,aj,f9,ak⟩:=(M3.bk 4).tenf;obtain⟨co,cp,cq⟩:=(M3.bk 0).tri;have z1:wc.frozen? ⟨gq,k*4+1,none⟩=false:=(M3.ow 3).frozenAt (k*4+1);have z2:wc.frozen? ⟨gq,k*4+2,none⟩=false:=(M3.ow 3).frozenAt (k*4+2);have z3:wc.frozen? ⟨gq,k*4+3,none⟩=false:=(M3.ow 3).frozenAt (k*4+3);obtain⟨j,l⟩:=M3.nq 4 5;obtain⟨ao,ap⟩:=M3.nq 1 5;obtain⟨aq,ar⟩:=M3.nq 0 5;obtain⟨au,av⟩:=M3.nq 3 5;obtain⟨aw,ax⟩:=M3.nq 1 4;obtain⟨ay,az⟩:=M3.nq 0 4;obtain⟨a4,a5⟩:=M3.nq 3 4;obtain⟨a6,a7⟩:=M3.nq 0 1;obtain⟨a8,a9⟩:=M3.nq 1 3;obtain⟨ba,bb⟩:=M3.nq 0 3;have M4:=(show Mem w (((wc.setCell ⟨gq,k*4+1,none⟩ (.int .i64 S1)).setCell ⟨gq,k*4+2,none⟩ (.int .i64 S2)).setCell ⟨gq,k*4+3,none⟩ (.int .i64 S3)) [aI w.heap.size (a) TS3 #[S1,S2,S3],aI w.heap.size (w1.heap.size) aL #[aA,aB,.slice p1 n f,c,d,aE,aF,aC,aG,.slice (some ⟨gq,0,none⟩) m g],aJ w.heap.size TI 1 (p1) (n) (f) (ivs xs),aJ w.heap.size TV 4 (some ⟨gq,0,none⟩) (m) (g) ((((vs.flatMap aD).set (k*4+1) (.int .i64 S1)).set (k*4+2) (.int .i64 S2)).set (k*4+3) (.int .i64 S3)),aI w.heap.size (w.heap.size+1) aL #[(),(),((),()),(),(),(),(),(),(),((),())],aI w.heap.size (w.heap.size) aL #[aA,aB,.slice p n y,c,d,aE,aF,aC,aG,.slice (some ⟨b,h,none⟩) m c2]]from(((M3.ostore (i:=3) rfl (k*4+1) (.int .i64 S1)).ostore (i:=3) rfl (k*4+2) (.int .i64 S2)).ostore (i:=3) rfl (k*4+3) (.int .i64 S3)))
    have M5:=(M4.st 1 8 (.int .i64 (aG+amt-bk)))
    have b0:Hid ((((vs.flatMap aD).set (k*4+1) (.int .i64 S1)).set (k*4+2) (.int .i64 S2)).set (k*4+3) (.int .i64 S3)=(vs.set k (a0,S1,S2,S3)).flatMap aD):=wB cb S1 S2 S3;go_wp2;clear d0 cc d1 cd d2 ce d3 cf d4 cg d5 ch d6 ci d7 cj d8 ck d9 cm f0 aa f1 ab f2 ad f3 ae f4 af f5 ag f6 ah f7 ai f8 aj f9 ak co cp cq z1 z2 z3 j l ao ap aq ar au av aw ax ay az a4 a5 a6 a7 a8 a9 ba bb y1 y2 y3 b2 h8 s t u x;have M6:=(M5.put10 (i:=4) rfl (.int .i64 aA) (.int .i64 aB) (.slice p1 n f) (.int .i64 c) (.int .i64 d) (.int .i64 aE) (.int .i64 aF) (.int .i64 aC) (.int .i64 (aG+amt-bk)) (.slice (some ⟨gq,0,none⟩) m g))
    generalize r:World.setCell _ _ _=wz;rw[r]at M6;clear r M3 M4 M5;obtain⟨y0,y1,y2,y3,y4,y5,y6,y7,y8,y9⟩:=(M6.bk 4).ten;exact bodyPost_ret (v:= .tuple #[.agg #[aA,aB,.slice p1 n f,c,d,aE,aF,aC,(aG+amt-bk:Int),.slice (some ⟨gq,0,none⟩) m g],bk,.bool true]) (by simp[results,Tryz.results84,go_sem, *]) rfl (by first|exact .inr ⟨rfl,b5.out,p1,f,some ⟨gq,0,none⟩,g,rfl,(M6.ow 2),by rw[←b0.out];exact(M6.ow 3),M6.ext⟩|exact .inr ⟨b5.out,p1,f,some ⟨gq,0,none⟩,g,rfl,(M6.ow 2),by rw[←b0.out];exact(M6.ow 3),M6.ext⟩)
   have am:Hid (¬(true=true∧aG+amt-bk≤99999)):=by show¬_;simp[hq]
   have hd:decide (99999<aG+amt-bk)=true:=by simp;omega
   obtain⟨d0,d1,d2,d3,d4,d5,d6,d7,d8,d9⟩:=(M3.bk 1).ten;obtain⟨f0,aa,f1,ab,f2,ad,f3,ae,f4,af,f5,ag,f6,ah,f7,ai,f8,aj,f9,ak⟩:=(M3.bk 4).tenf;obtain⟨j,l⟩:=M3.nq 1 4;go_wp2;clear d0 d1 d2 d3 d4 d5 d6 d7 d8 d9 f0 aa f1 ab f2 ad f3 ae f4 af f5 ag f6 ah f7 ai f8 aj f9 ak j l s t u x;have M4:=(M3.put10 (i:=4) rfl (.int .i64 aA) (.int .i64 aB) (.slice p1 n f) (.int .i64 c) (.int .i64 d) (.int .i64 aE) (.int .i64 aF) (.int .i64 aC) (.int .i64 aG) (.slice q1 m g))
   generalize r:World.setCell _ _ _=wz;rw[r]at M4;clear r M3;obtain⟨y0,y1,y2,y3,y4,y5,y6,y7,y8,y9⟩:=(M4.bk 4).ten;exact bodyPost_ret (v:= .tuple #[.agg #[aA,aB,.slice p1 n f,c,d,aE,aF,aC,aG,.slice q1 m g],amt,.bool false]) (by simp[results,Tryz.results84,go_sem, *]) rfl (by first|exact .inl ⟨p1,f,q1,g,amt,rfl,am.out,M4.ext⟩|(have q:=am.out;simp at q;first|exact .inl ⟨p1,f,q1,g,amt,rfl,q,M4.ext⟩|exact .inl ⟨p1,f,q1,g,amt,rfl,by omega,M4.ext⟩|exact .inl ⟨⟨p1,f,q1,g,amt,rfl⟩,q,M4.ext⟩|exact .inl ⟨⟨p1,f,q1,g,amt,rfl⟩,by omega,M4.ext⟩|exact .inl ⟨⟨p1,f,q1,g,amt,rfl⟩,M4.ext⟩|exact⟨⟨p1,f,q1,g,amt,rfl⟩,M4.ext⟩))
theorem Mem.st4 {P:Program}{f:FuncId}{s:Array Value}{w0 w:World}{L:List Item}{F:OA→Nat→OA→Nat→Value}{t1 t2:TypeId}{n1 s1 n2 s2:Nat}{xs ys:List Value}{K:Ending→World→Prop}(M:Mem w0 w L)(H:Mem w0 w L→Calls P f s w fun e w'=> ∃p c q d,e= .returned (F p c q d)∧w'.ownsRow w.heap.size t1 s1 (.slice p n1 c) n1 xs∧w'.ownsRow w.heap.size t2 s2 (.slice q n2 d) n2 ys∧Ext w w')(k: ∀w' p c q d,Mem w0 w' (aJ w0.heap.size t1 s1 p n1 c xs::aJ w0.heap.size t2 s2 q n2 d ys::L)→K (.returned (F p c q d)) w')(a:t1≠t2:=by decide):Calls P f s w K:=(H M).mono (by rintro e w' ⟨p,c,q,d,rfl,ho,hv,hx⟩;exact k w' p c q d (M.own2 hx ho hv (Nat.le_refl _) a))
end Go.Proofs.YtpelpnfhbepokaaGreatDoor
namespace Go.Proofs.YtpelpnfhbepokaaGreatDoor
open Go.RowKit
set_option linter.unusedVariables false
set_option linter.unusedSimpArgs false
theorem yC {f s p c i pd a now amt:Int}(hD:0≤bX f s p c i pd a now)(h:(fT f s p c i pd a now amt).2.2=true):0≤(fT f s p c i pd a now amt).2.1∧(fT f s p c i pd a now amt).2.1≤amt∧amt≤300:=by
 unfold fT at h⊢;split at h
 ·rename_i h1;rw[if_pos h1];split at h
  ·cases h
  rename_i h2;rw[if_neg h2];dsimp only;omega
 cases h
def oJ (h:aO)(id amt:Int):Option (aO×Int):=
 match bY id h.vs with
 |none=>none
 |some v=>if(fT h.free h.step h.aE h.aF v.2.1 v.2.2.1 v.2.2.2 h.aC amt).2.2=true∧h.aG+amt-(fT h.free h.step h.aE h.aF v.2.1 v.2.2.1 v.2.2.2 h.aC amt).2.1≤99999 then
   some ({h with aG:=h.aG+amt-(fT h.free h.step h.aE h.aF v.2.1 v.2.2.1 v.2.2.2 h.aC amt).2.1,vs:=h.vs.set (vix id h.vs).toNat (id,(fT h.free h.step h.aE h.aF v.2.1 v.2.2.1 v.2.2.2 h.aC amt).1)},(fT h.free h.step h.aE h.aF v.2.1 v.2.2.1 v.2.2.2 h.aC amt).2.1)
  else none
def aJh (h:aO)(r:Option (aO×Int))(w:World)(e:Ending)(w':World):Prop:=
 match r with
 |none=> ∃p cap q c2 b,e= .returned (.tuple #[bK h p h.cells.length cap q h.vs.length c2,b,.bool false])∧Ext w w'
 |some (h',b)=> ∃p cap q c2,e= .returned (.tuple #[bK h' p h'.cells.length cap q h'.vs.length c2,b,.bool true])∧w'.ownsRow w.heap.size TI 1 (.slice p h'.cells.length cap) h'.cells.length (ivs h'.cells)∧w'.ownsRow w.heap.size TV 4 (.slice q h'.vs.length c2) h'.vs.length (h'.vs.flatMap aD)∧Ext w w'
theorem aFq (h:aO)(id amt:Int)(p:OA)(n c:Nat)(q:OA)(m c2:Nat)(w:World)(hn:n≤1000)(hm:m≤1000)(hi:IsHouse w h p n c q m c2)
  (ht:bD h.free h.step h.aE h.aF=true)(o: ∀v∈h.vs,cW v.2.1 v.2.2.1 v.2.2.2=true∧v.2.2.2≤h.aC)(hc:h.aC≤9999)(i:0≤h.aG)(hb:h.aG≤99999):
  Calls Tryz.prog 84 #[bK h p n c q m c2,id,amt] w (aJh h (oJ h id amt) w):=by
 have hl:=hi.clen;have l:=hi.vlen;have HL:=fun(w':World) (hx:Ext w w')=>pA h p n c q m c2 w' hn hm (hi.ext hx)
 have HF:=fun(w':World) (hx:Ext w w')=>oZ h.aA h.aB h.free h.step h.aE h.aF h.aC h.aG id p n c q m c2 h.vs w' (hi.vs.ext hx)
 unfold dG at HL;subst hl l;rcases lQ id h.vs with⟨h1,h2⟩|⟨k,a1,a2,a3,hk,h1,hx,h2⟩
 ·rw[h1]at HF;have hr:oJ h id amt=none:=by unfold oJ;rw[h2]
  rw[hr];refine(xL h.aA h.aB h.free h.step h.aE h.aF h.aC h.aG id amt p _ c q _ c2 h.cells h.vs w HL HF).mono ?_;rintro e w' ⟨p',a,q',d,b,rfl,hE⟩;exact⟨p',a,q',d,b,rfl,hE⟩
 rw[h1]at HF;obtain⟨b,s,x0,x1,x2,x3,rfl,f,j,_,g1,g2,g3⟩:=eB hi.vs hk;rw[hx]at f;injection f with f;simp only[Prod.mk.injEq]at f;obtain⟨_,rfl,rfl,rfl⟩:=f;obtain⟨s1,s2⟩:=o _ (List.mem_of_getElem? hx);dsimp only at s1 s2;have hD:=(kJ ht s1 s2 hc).1;have HP:=fun(w':World)=>aA9 h.free h.step h.aE h.aF a1 a2 a3 h.aC amt w' ht s1 s2 hc
 have g:=yC (amt:=amt) hD;have hr:oJ h id amt=if(fT h.free h.step h.aE h.aF a1 a2 a3 h.aC amt).2.2=true∧h.aG+amt-(fT h.free h.step h.aE h.aF a1 a2 a3 h.aC amt).2.1≤99999 then some ({h with aG:=h.aG+amt-(fT h.free h.step h.aE h.aF a1 a2 a3 h.aC amt).2.1,vs:=h.vs.set k (id,(fT h.free h.step h.aE h.aF a1 a2 a3 h.aC amt).1)},(fT h.free h.step h.aE h.aF a1 a2 a3 h.aC amt).2.1)else none:=by unfold oJ;rw[h2,h1];rfl
 rw[hr];generalize fT h.free h.step h.aE h.aF a1 a2 a3 h.aC amt=r at*;obtain⟨⟨S1,S2,S3⟩,bk,t⟩:=r;dsimp only at HP g⊢;refine(aF2 h.aA h.aB h.free h.step h.aE h.aF h.aC h.aG id amt p _ c b s _ c2 k h.cells h.vs id a1 a2 a3 S1 S2 S3 bk t w hk hm j i hb g hx g1 g2 g3 HL HF HP).mono ?_;rintro e w' (⟨p',a,q',d,b',rfl,hno,hE⟩|⟨rfl,hle,p',a,q',d,rfl,ho1,ho2,hE⟩)
 ·rw[if_neg hno];exact⟨p',a,q',d,b',rfl,hE⟩
 rw[if_pos ⟨rfl,hle⟩];refine⟨p',a,q',d,?_,ho1,?_,hE⟩
 ·simp[bK]
 simpa using ho2
theorem lF {xs ys:List Int}(h:List.Perm xs ys):cJ xs=cJ ys:=
 mF ((fW _).trans (h.filter _)) (jV _)
theorem xI (aC:Int): ∀(cs:List Int) (vs:List aP),bW aC cs vs=true↔vs.map (·.1)=cs∧ ∀v∈vs,eX aC v=true:=by
 intro cs;induction cs with
 |nil=>intro vs;cases vs<;>simp[bW]
 |cons c cs ih=>
  intro vs;cases vs with
  |nil=>simp[bW]
  |cons v vs=>
   simp only[bW,Bool.and_eq_true,decide_eq_true_eq,ih,List.map_cons,List.cons.injEq,List.forall_mem_cons];constructor
   ·rintro⟨⟨a,b⟩,c,d⟩;exact⟨⟨a,c⟩,b,d⟩
   rintro⟨⟨a,c⟩,b,d⟩;exact⟨⟨a,b⟩,c,d⟩
theorem dS (h:aO):aT h=true↔aM h.aA h.aB h.cells=true∧bD h.free h.step h.aE h.aF=true∧(0≤h.aC∧h.aC≤9999∧0≤h.aG∧h.aG≤99999)∧h.vs.map (·.1)=cJ h.cells∧ ∀v∈h.vs,eX h.aC v=true:=by
 unfold aT rG;simp only[Bool.and_eq_true,decide_eq_true_eq,xI];constructor
 ·rintro⟨⟨⟨a,b⟩,c⟩,d,e⟩;exact⟨a,b,c,d,e⟩
 rintro⟨a,b,c,d,e⟩;exact⟨⟨⟨a,b⟩,c⟩,d,e⟩
theorem iA (aC:Int)(v:aP):eX aC v=true↔cW v.2.1 v.2.2.1 v.2.2.2=true∧v.2.2.2≤aC:=by unfold eX;simp
theorem uB (v:aP): ∀vs:List aP,(jW v vs).map (·.1)=kL v.1 (vs.map (·.1))
 | []=>rfl
 |u::vs=>by
  by_cases hc:u.1<v.1
  ·have e:jW v (u::vs)=u::jW v vs:=by simp[jW,hc]
   rw[e,List.map_cons,uB v vs,List.map_cons];simp[kL,hc]
  have e:jW v (u::vs)=v::u::vs:=by simp[jW,hc]
  rw[e];simp[kL,hc]
theorem aHw (v:aP)(vs:List aP): ∀u∈jW v vs,u=v∨u∈vs:=by
 intro u hu;unfold jW at hu;rcases List.mem_append.1 hu with h|h
 ·exact .inr ((List.takeWhile_sublist _).subset h)
 rcases List.mem_cons.1 h with h|h
 ·exact .inl h
 exact .inr ((List.dropWhile_sublist _).subset h)
theorem pQ (v:aP)(vs:List aP):(jW v vs).length=vs.length+1:=by have:=congrArg List.length (uB v vs);rw[(lX _ _).length_eq]at this;simpa using this
theorem aJe {zs:List Int}{id:Int}(h0:zs.getD 0 0=0)(hl:0<zs.length)(hi:1≤id):cJ (zs.set 0 id)=kL id (cJ zs):=by
 cases zs with
 |nil=>simp at hl
 |cons z t=>
  obtain rfl:z=0:=by simpa using h0
  symm;refine mF ?_ (sN _ _ (jV _));have e:dA ((0::t).set 0 id)=id::dA (0::t):=by unfold dA;rw[List.set_cons_zero,List.filter_cons_of_pos (by simp;omega),List.filter_cons_of_neg (by simp)]
  rw[e];exact(lX _ _).trans (List.Perm.cons _ (fW _))
theorem xA {zs:List Int}{id:Int}(h0:zs[0]? =some id) (hi:1≤id):cJ (zs.set 0 0)=(cJ zs).erase id:=by
 cases zs with
 |nil=>simp at h0
 |cons z t=>
  obtain rfl:z=id:=by simpa using h0
  symm;refine mF ?_ ((jV _).sublist List.erase_sublist);have e:dA (z::t)=z::dA ((z::t).set 0 0):=by unfold dA;rw[List.set_cons_zero,List.filter_cons_of_pos (by simp;omega),List.filter_cons_of_neg (by simp)]
  have hp:=(fW (dA (z::t))).erase z;rw[e,List.erase_cons_head,←e]at hp;exact hp
theorem uT (id:Int): ∀vs:List aP,vs.any (fun v=>v.1==id)=true→(vs.eraseIdx (vs.findIdx (fun v=>v.1==id))).map (·.1)=(vs.map (·.1)).erase id
 | [],h=>by simp at h
 |v::vs,h=>by
  by_cases hv:v.1=id
  ·have e:(v::vs).findIdx (fun v=>v.1==id)=0:=by simp[List.findIdx_cons,hv]
   rw[e,List.map_cons,hv,List.erase_cons_head];rfl
  have hb:(v.1==id)=false:=by simpa using hv
  have e:(v::vs).findIdx (fun v=>v.1==id)=vs.findIdx (fun v=>v.1==id)+1:=by simp[List.findIdx_cons,hb]
  have h':vs.any (fun v=>v.1==id)=true:=by simpa[hv]using h
  rw[e,List.eraseIdx_cons_succ,List.map_cons,uT id vs h',List.map_cons,List.erase_cons_tail (by simpa using hv)]
theorem iB {id:Int}{vs:List aP}{v:aP}(h:bY id vs=some v):vs.any (fun v=>v.1==id)=true∧v.1=id∧vs[(vix id vs).toNat]? =some v∧(vix id vs).toNat<vs.length∧vix id vs=((vix id vs).toNat:Int)∧(vix id vs).toNat=vs.findIdx (fun v=>v.1==id):=by
 have ha:vs.any (fun v=>v.1==id)=true:=by unfold bY at h;exact List.any_eq_true.2 ⟨v,List.mem_of_find?_eq_some h,by simpa using List.find?_some h⟩
 rcases lQ id vs with⟨h1,h2⟩|⟨k,a1,a2,a3,hk,h1,hx,h2⟩
 ·rw[h2]at h;cases h
 rw[h2]at h;injection h with h;subst h;have e:vix id vs=(vs.findIdx (fun v=>v.1==id):Int):=by unfold vix;rw[if_pos ha]
 refine⟨ha,rfl,by rw[h1];simpa using hx,by rw[h1];simpa using hk,by rw[h1];simp,by rw[e];simp⟩
theorem aHn {α:Type}{l:List α}{k:Nat}{a:α}(h:l[k]? =some a):l.set k a=l:=by
 refine List.ext_getElem? (fun i=> ?_);rw[List.getElem?_set];split
 ·rename_i e;subst e;split
  ·exact h.symm
  rename_i hl;rw[List.getElem?_eq_none (by omega)]at h;cases h
 rfl
theorem aHp {vs:List aP}{k:Nat}{u:aP}(s:Int×Int×Int)(hk:vs[k]? =some u):(vs.set k (u.1,s)).map (·.1)=vs.map (·.1):=by rw[List.map_set];exact aHn (by rw[List.getElem?_map,hk];rfl)
def cA (h:aO)(k a b:Int):Option (aO×Int):=
 if k=0 then
  (if 0≤(cG h.aA h.aB h.cells a).2 then some ({h with cells:=(cG h.aA h.aB h.cells a).1,vs:=jW (a,h.aC,0,h.aC) h.vs},(cG h.aA h.aB h.cells a).2)else none)
 else if k=1 then oJ h a b
 else if k=2 then
  (if dV h a=true∧0≤(bR h.aA h.aB h.cells a).2 then some ({h with cells:=(bR h.aA h.aB h.cells a).1,vs:=h.vs.eraseIdx (vix a h.vs).toNat},(bR h.aA h.aB h.cells a).2)else none)
 else if k=3 then(if 1≤a∧a≤9999-h.aC then some ({h with aC:=h.aC+a},h.aC+a)else none)
 else if k=4 then(if bB h.aA h.aB h.cells a b=true then some ({h with cells:=bH h.aA h.aB h.cells a b},0)else none)
 else none
theorem oV {aA aB:Int}{xs:List Int}{id:Int}(a:aM aA aB xs=true)(h:0≤(cG aA aB xs id).2):
  ∃zs,List.Perm zs xs∧zs.getD 0 0=0∧1≤id∧(cG aA aB xs id).1=zs.set 0 id∧aM aA aB (zs.set 0 id)=true∧(cG aA aB xs id).2≤5:=by
 unfold cG kW at h⊢;cases hr:gJ aA xs with
 |none=>rw[hr]at h;simp at h
 |some r=>
  rw[hr]at h;obtain⟨f1,f2,f3,f4,f5⟩:=nN a hr;have hp:=(nC r.2 xs a).2.2;rw[f1]at hp;unfold cR at h⊢;by_cases hc:r.1.getD 0 0=0∧1≤id∧aM aA aB (r.1.set 0 id)=true
  ·simp only[hc,and_self,if_true]at h⊢;exact⟨r.1,hp,hc.1,trivial,rfl,hc.2.2,by omega⟩
  simp only[if_neg hc]at h;simp at h
theorem kR {aA aB:Int}{xs:List Int}{id:Int}(a:aM aA aB xs=true)(h:0≤(bR aA aB xs id).2):
  ∃ys,List.Perm ys xs∧ys[0]? =some id∧1≤id∧(bR aA aB xs id).1=ys.set 0 0∧(bR aA aB xs id).2≤60:=by
 unfold bR kA at h⊢;by_cases hc:id<1∨id∉xs
 ·rw[if_pos hc]at h;simp at h
 rw[if_neg hc]at h⊢;have hm:id∈xs:=by
  by_cases hm:id∈xs
  ·exact hm
  exact absurd (.inr hm) hc
 have h1: ¬id<1:=fun e=>hc (.inl e)
 obtain⟨c,hx,hi⟩:=qE hm;rw[hi]at h⊢;rw[Int.toNat_natCast]at h⊢;cases hb:dH aA xs c with
 |none=>rw[hb]at h;simp at h
 |some l=>
  rw[hb]at h;obtain⟨g1,ys,g2,g3,g4,g5⟩:=(lG a hx (by omega)).2 l hb;have hp:=(nC l xs a).2.2;rw[g2]at hp;refine⟨ys,hp,g5,by omega,?_,?_⟩
  ·simp[g2]
  simp;omega
theorem aB1 {aA aB:Int}{xs:List Int}(h:aM aA aB xs=true):aM aA aB (xs.set 0 0)=true:=by
 unfold aM at*;rw[Bool.and_eq_true]at*;refine⟨by rw[List.length_set];exact h.1,?_⟩;obtain⟨h1,h2,h3⟩:=(dO _ _).1 h.2;refine(dO _ _).2 ⟨fun x hx=> ?_,fun x hx=>by simp,?_⟩
 ·rcases List.mem_or_eq_of_mem_set hx with hx|rfl
  ·exact h1 x hx
  omega
 cases xs with
 |nil=>simp
 |cons x t=>
  rw[List.set_cons_zero,List.filter_cons_of_neg (by simp)];refine h3.sublist ?_;rw[List.filter_cons];split
  ·exact List.sublist_cons_self _ _
  exact List.Sublist.refl _
theorem aJ3 {f s p c i pd a now:Int}(h:bD f s p c=true)(hi:0≤i)(h3:i≤now)(h4:now≤9999):0≤lD f s p c (now-i)∧lD f s p c (now-i)≤693:=by have hb:=nL (m:=now-i) h (by omega) (by omega);omega
theorem kO {h:aO}(e:aT h=true){k a b:Int}{h':aO}{n:Int}(hd:cA h k a b=some (h',n)):
  aT h'=true∧(0≤n∧n≤9999)∧h'.cells.length=h.cells.length∧h'.aA=h.aA∧h'.aB=h.aB∧h'.free=h.free∧h'.step=h.step∧h'.aE=h.aE∧h'.aF=h.aF:=by
 obtain⟨q1,q2,q3,q4,q5⟩:=(dS h).1 e;have d:0<h.cells.length:=by have:=bZ (cM q1);omega
 unfold cA at hd;split at hd
 ·split at hd
  ·rename_i h0;obtain⟨zs,s1,s2,s3,s4,s5,s6⟩:=oV q1 h0;injection hd with hd;simp only[Prod.mk.injEq]at hd;obtain⟨rfl,rfl⟩:=hd;rw[s4];refine⟨(dS _).2 ⟨s5,q2,q3,?_,?_⟩,⟨h0,by omega⟩,by rw[List.length_set,s1.length_eq],rfl,rfl,rfl,rfl,rfl,rfl⟩
   ·dsimp only;rw[uB,aJe s2 (by rw[s1.length_eq];exact d) s3,q4,lF s1]
   intro v hv;rcases aHw _ _ v hv with rfl|hv
   ·exact(iA _ _).2 ⟨by simp[cW];omega,Int.le_refl _⟩
   exact q5 v hv
  cases hd
 split at hd
 ·unfold oJ at hd;split at hd
  ·cases hd
  rename_i v hv;obtain⟨v1,v2,v3,v4,v5,v6⟩:=iB hv;obtain⟨s1,s2⟩:=(iA _ _).1 (q5 v (List.mem_of_getElem? v3));obtain⟨b1,b2⟩:=kJ q2 s1 s2 q3.2.1;obtain⟨t1,t2,t3,t4,t5,t6⟩:=eT s1;split at hd
  ·rename_i hp;have f:=yC b1 hp.1;injection hd with hd;simp only[Prod.mk.injEq]at hd;obtain⟨rfl,rfl⟩:=hd;refine⟨(dS _).2 ⟨q1,q2,⟨q3.1,q3.2.1,?_,hp.2⟩,?_,?_⟩,⟨f.1,by omega⟩,rfl,rfl,rfl,rfl,rfl,rfl,rfl⟩
   ·dsimp only;omega
   ·dsimp only;rw[←q4,←v2];rw[←v2]at v3;exact aHp _ v3
   intro u hu;rcases List.mem_or_eq_of_mem_set hu with hu|rfl
   ·exact q5 u hu
   refine(iA _ _).2 ?_;have hf:=aJ3 (pd:=v.2.2.1) (a:=v.2.2.2) (now:=h.aC) q2 t1 (by omega) q3.2.1;have g:bX h.free h.step h.aE h.aF v.2.1 v.2.2.1 v.2.2.2 h.aC=max (lD h.free h.step h.aE h.aF (h.aC-v.2.1)-v.2.2.1) 0:=by unfold bX;rw[if_pos (by simp[q2,s1,s2,q3.2.1])]
   have c:=hp.1;unfold fT at c⊢;split at c
   ·rename_i ha;rw[if_pos ha];split at c
    ·cases c
    rename_i hn;rw[if_neg hn];dsimp only;refine⟨?_,by omega⟩;unfold cW;simp only[decide_eq_true_eq];omega
   cases c
  cases hd
 split at hd
 ·split at hd
  ·rename_i hm;obtain⟨ys,s1,s2,s3,s4,s5⟩:=kR q1 hm.2;injection hd with hd;simp only[Prod.mk.injEq]at hd;obtain⟨rfl,rfl⟩:=hd;rw[s4];refine⟨(dS _).2 ⟨aB1 (sP q1 s1),q2,q3,?_,?_⟩,⟨hm.2,by omega⟩,by rw[List.length_set,s1.length_eq],rfl,rfl,rfl,rfl,rfl,rfl⟩
   ·dsimp only;have hv: ∃v,bY a h.vs=some v:=by
     have:=hm.1;unfold dV cS at this;rw[if_pos e]at this;cases hv:bY a h.vs with
     |none=>rw[hv]at this;simp at this
     |some v=>exact⟨v,rfl⟩
    obtain⟨v,hv⟩:=hv;obtain⟨v1,v2,v3,v4,v5,v6⟩:=iB hv;rw[v6,uT a h.vs v1,xA s2 s3,q4,lF s1]
   intro v hv;exact q5 v (List.mem_of_mem_eraseIdx hv)
  cases hd
 split at hd
 ·split at hd
  ·rename_i hw;injection hd with hd;simp only[Prod.mk.injEq]at hd;obtain⟨rfl,rfl⟩:=hd;refine⟨(dS _).2 ⟨q1,q2,⟨by dsimp only;omega,by dsimp only;omega,q3.2.2⟩,q4,fun v hv=> ?_⟩,⟨by omega,by omega⟩,rfl,rfl,rfl,rfl,rfl,rfl,rfl⟩;obtain⟨s1,s2⟩:=(iA _ _).1 (q5 v hv);exact(iA _ _).2 ⟨s1,by dsimp only;omega⟩
  cases hd
 split at hd
 ·split at hd
  ·injection hd with hd;simp only[Prod.mk.injEq]at hd;obtain⟨rfl,rfl⟩:=hd;refine⟨(dS _).2 ⟨gZ a b q1,q2,q3,?_,q5⟩,⟨by omega,by omega⟩,cT _ _ _ _ _,rfl,rfl,rfl,rfl,rfl,rfl⟩;dsimp only;rw[q4,lF (mH a b)]
  cases hd
 cases hd
set_option maxHeartbeats 8000000
set_option maxRecDepth 100000
def sE (h:aO)(id:Int):Value:=match cS h id with
 |some s=> .tuple #[.agg #[s.1,s.2.1,s.2.2],.bool true]
 |none=> .tuple #[.agg #[(),(),()],.bool false]
theorem aAo (aA aB a b aE aF aC aG id:Int)(p:OA)(n d:Nat)(q:OA)(m c2:Nat)(w:World)
  (HV:xB 18 #[.agg #[aA,aB,.slice p n d,a,b,aE,aF,aC,aG,.slice q m c2]] w false):
  Calls Tryz.prog 16 #[.agg #[aA,aB,.slice p n d,a,b,aE,aF,aC,aG,.slice q m c2],id] w fun e w'=>e= .returned (.tuple #[.agg #[(),(),()],.bool false])∧Ext w w':=by
 go_enter Tryz.func16,Tryz.ntmps16;go_wp2_with fail;refine(HV _ (by exact .alloc (.alloc (.refl _) _) _)).mono ?_;rintro e w1 ⟨rfl,f⟩;have g:Blk w1 w.heap.size 30 #[aA,aB,.slice p n d,a,b,aE,aF,aC,aG,.slice q m c2]:=((Blk.new w _ _).alloc _).ext f;have c:Blk w1 (w.heap.size+1) 46 #[(),(),()]:=by have:=(Blk.new (w.alloc (.cells #[aA,aB,.slice p n d,a,b,aE,aF,aC,aG,.slice q m c2] 30)) 46 #[(),(),()]).ext f;simpa using this
 have X1:Ext w w1:=(((Ext.refl w).alloc _).alloc _).trans f;have s1:w.heap.size+1<w1.heap.size:=c.lt;replace g:=xQ g;replace c:=xQ c;clear f;obtain⟨h,i,j,k,l,o,r,s,t,u⟩:=g.out.ten;obtain⟨aa,x,ab,y,ad,z⟩:=c.out.trif;go_wp2;exact bodyPost_ret (v:= .tuple #[.agg #[(),(),()],.bool false]) (by simp[results,Tryz.results16,go_sem, *]) rfl ⟨rfl,xE⟩
theorem aD5 (aA aB a b aE aF aC aG id:Int)(p:OA)(n f:Nat)(q:OA)(m c2:Nat)(w:World)
  (HV:xB 18 #[.agg #[aA,aB,.slice p n f,a,b,aE,aF,aC,aG,.slice q m c2]] w true)
  (HX:xC 50 #[.agg #[aA,aB,.slice p n f,a,b,aE,aF,aC,aG,.slice q m c2],id] w fun w' e w''=>e= .returned (.int .i64 (-1))∧Ext w' w''):
  Calls Tryz.prog 16 #[.agg #[aA,aB,.slice p n f,a,b,aE,aF,aC,aG,.slice q m c2],id] w fun e w'=>e= .returned (.tuple #[.agg #[(),(),()],.bool false])∧Ext w w':=by
 go_enter Tryz.func16,Tryz.ntmps16;go_wp2_with fail;refine(HV _ (by exact .alloc (.alloc (.refl _) _) _)).mono ?_;rintro e w1 ⟨rfl,g⟩;have d:Blk w1 w.heap.size 30 #[aA,aB,.slice p n f,a,b,aE,aF,aC,aG,.slice q m c2]:=((Blk.new w _ _).alloc _).ext g;have c:Blk w1 (w.heap.size+1) 46 #[(),(),()]:=by have:=(Blk.new (w.alloc (.cells #[aA,aB,.slice p n f,a,b,aE,aF,aC,aG,.slice q m c2] 30)) 46 #[(),(),()]).ext g;simpa using this
 have X1:Ext w w1:=(((Ext.refl w).alloc _).alloc _).trans g;have s1:w.heap.size+1<w1.heap.size:=c.lt;replace d:=xQ d;replace c:=xQ c;clear g;obtain⟨j,k,l,o,r,s,t,u,x,y⟩:=d.out.ten;obtain⟨ad,z,ae,aa,af,ab⟩:=c.out.trif;go_wp2_with fail;refine(HX _ (by exact X1)).mono ?_;rintro e w2 ⟨rfl,h⟩;have ag:=xQ (d.out.ext h);have i:=xQ (c.out.ext h);have X2:Ext w w2:=X1.trans h;have s2:w.heap.size+1<w2.heap.size:=i.out.lt;clear j k l o r s t u x y ad ae af z aa ab h d c s1;obtain⟨ah,ai,aj,ak,al,am,an,ao,ap,aq⟩:=ag.out.ten;obtain⟨aw,ar,ax,au,ay,av⟩:=i.out.trif;go_wp2;exact bodyPost_ret (v:= .tuple #[.agg #[(),(),()],.bool false]) (by simp[results,Tryz.results16,go_sem, *]) rfl ⟨rfl,xE⟩
theorem aAn (aA aB a c aE aF aC aG id:Int)(p:OA)(n g:Nat)(q:OA)(m c2:Nat)(w:World)
  (k:Nat)(a1 a2 a3:Int)(vs:List aP)(HK:Hid (vs[k]? =some (id,a1,a2,a3))) (hk:k<m) (hm:m≤9223372036854775807) (HS:Hid (Sl w q m c2 4 (vs.flatMap aD)))
  (HV:xB 18 #[.agg #[aA,aB,.slice p n g,a,c,aE,aF,aC,aG,.slice q m c2]] w true)
  (HX:xC 50 #[.agg #[aA,aB,.slice p n g,a,c,aE,aF,aC,aG,.slice q m c2],id] w fun w' e w''=>e= .returned (.int .i64 k)∧Ext w' w''):
  Calls Tryz.prog 16 #[.agg #[aA,aB,.slice p n g,a,c,aE,aF,aC,aG,.slice q m c2],id] w fun e w'=>e= .returned (.tuple #[.agg #[a1,a2,a3],.bool true])∧Ext w w':=by
 go_enter Tryz.func16,Tryz.ntmps16;go_wp2_with fail;refine(HV _ (by exact .alloc (.alloc (.refl _) _) _)).mono ?_;rintro e w1 ⟨rfl,h⟩;have f:Blk w1 w.heap.size 30 #[aA,aB,.slice p n g,a,c,aE,aF,aC,aG,.slice q m c2]:=((Blk.new w _ _).alloc _).ext h;have d:Blk w1 (w.heap.size+1) 46 #[(),(),()]:=by have:=(Blk.new (w.alloc (.cells #[aA,aB,.slice p n g,a,c,aE,aF,aC,aG,.slice q m c2] 30)) 46 #[(),(),()]).ext h;simpa using this
 have X1:Ext w w1:=(((Ext.refl w).alloc _).alloc _).trans h;have s1:w.heap.size+1<w1.heap.size:=d.lt;replace f:=xQ f;replace d:=xQ d;clear h;obtain⟨l,o,r,s,u,x,y,z,aa,ab⟩:=f.out.ten;obtain⟨ag,ad,ah,ae,ai,af⟩:=d.out.trif;go_wp2_with fail;refine(HX _ (by exact X1)).mono ?_;rintro e w2 ⟨rfl,i⟩;have aj:=xQ (f.out.ext i);have j:=xQ (d.out.ext i);have X2:Ext w w2:=X1.trans i;have s2:w.heap.size+1<w2.heap.size:=j.out.lt;clear l o r s u x y z aa ab ag ah ai ad ae af i f d s1;obtain⟨ak,al,am,an,ao,ap,aq,ar,au,av⟩:=aj.out.ten;obtain⟨a0,ax,a4,ay,a5,az⟩:=j.out.trif;obtain⟨b,a9,b0,b1,b2,b3,rfl,hv,hb,g0,g1,g2,g3⟩:=eB (HS.out.ext X2) hk;obtain⟨rfl,rfl,rfl,rfl⟩:id=b0∧a1=b1∧a2=b2∧a3=b3:=by have t:=HK.out;rw[hv]at t;simp only[Option.some.injEq,Prod.mk.injEq]at t;exact⟨t.1.symm,t.2.1.symm,t.2.2.1.symm,t.2.2.2.symm⟩
 have a8:b≠w.heap.size+1:=by have a7:=hb;obtain⟨b',aw,_,_,_,_,hq,_,a6,_⟩:=eB HS hk;simp only[Option.some.injEq,Addr.mk.injEq]at hq;omega
 have i1:(0:Int)≤(k:Int):=by omega
 have i2:(k:Int)<(m:Int):=by omega
 clear hv;go_wp2;exact bodyPost_ret (v:= .tuple #[.agg #[a1,a2,a3],.bool true]) (by simp[results,Tryz.results16,go_sem, *]) rfl ⟨rfl,xE⟩
theorem zR (aA aB a b aE aF aC aG id:Int)(p:OA)(n f:Nat)(q:OA)(m c2:Nat)(w:World)
  (x:Int)
  (HX:xC 86 #[.agg #[aA,aB,.slice p n f,a,b,aE,aF,aC,aG,.slice q m c2],id] w fun w' e w''=>e= .returned (.int .i64 x)∧Ext w' w'')
  (HV:xB 12 #[.agg #[aA,aB,.slice p n f,a,b,aE,aF,aC,aG,.slice q m c2]] w false):
  Calls Tryz.prog 137 #[.agg #[aA,aB,.slice p n f,a,b,aE,aF,aC,aG,.slice q m c2],id] w fun e w'=>e= .returned (.tuple #[.agg #[(),(),()],.bool false])∧Ext w w':=by
 go_enter Tryz.func137,Tryz.ntmps137;go_wp2_with fail;refine(HX _ (by exact .alloc (.alloc (.refl _) _) _)).mono ?_;rintro e w1 ⟨rfl,g⟩;have d:Blk w1 w.heap.size 30 #[aA,aB,.slice p n f,a,b,aE,aF,aC,aG,.slice q m c2]:=((Blk.new w _ _).alloc _).ext g;have c:Blk w1 (w.heap.size+1) 46 #[(),(),()]:=by have:=(Blk.new (w.alloc (.cells #[aA,aB,.slice p n f,a,b,aE,aF,aC,aG,.slice q m c2] 30)) 46 #[(),(),()]).ext g;simpa using this
 have X1:Ext w w1:=(((Ext.refl w).alloc _).alloc _).trans g;have s1:w.heap.size+1<w1.heap.size:=c.lt;replace d:=xQ d;replace c:=xQ c;clear g;obtain⟨j,k,l,o,r,s,t,u,y,z⟩:=d.out.ten;obtain⟨ae,aa,af,ab,ag,ad⟩:=c.out.trif;go_wp2_with fail;refine(HV _ (by exact X1)).mono ?_;rintro e w2 ⟨rfl,h⟩;have ah:=xQ (d.out.ext h);have i:=xQ (c.out.ext h);have X2:Ext w w2:=X1.trans h;have s2:w.heap.size+1<w2.heap.size:=i.out.lt;clear j k l o r s t u y z ae af ag aa ab ad h d c s1;obtain⟨ai,aj,ak,al,am,an,ao,ap,aq,ar⟩:=ah.out.ten;obtain⟨ax,au,ay,av,az,aw⟩:=i.out.trif;go_wp2;exact bodyPost_ret (v:= .tuple #[.agg #[(),(),()],.bool false]) (by simp[results,Tryz.results137,go_sem, *]) rfl ⟨rfl,xE⟩
theorem aBu (aA aB a b aE aF aC aG id:Int)(p:OA)(n f:Nat)(q:OA)(m c2:Nat)(w:World)
  (HX:xC 86 #[.agg #[aA,aB,.slice p n f,a,b,aE,aF,aC,aG,.slice q m c2],id] w fun w' e w''=>e= .returned (.int .i64 (-1))∧Ext w' w'')
  (HV:xB 12 #[.agg #[aA,aB,.slice p n f,a,b,aE,aF,aC,aG,.slice q m c2]] w true):
  Calls Tryz.prog 137 #[.agg #[aA,aB,.slice p n f,a,b,aE,aF,aC,aG,.slice q m c2],id] w fun e w'=>e= .returned (.tuple #[.agg #[(),(),()],.bool false])∧Ext w w':=by
 go_enter Tryz.func137,Tryz.ntmps137;go_wp2_with fail;refine(HX _ (by exact .alloc (.alloc (.refl _) _) _)).mono ?_;rintro e w1 ⟨rfl,g⟩;have d:Blk w1 w.heap.size 30 #[aA,aB,.slice p n f,a,b,aE,aF,aC,aG,.slice q m c2]:=((Blk.new w _ _).alloc _).ext g;have c:Blk w1 (w.heap.size+1) 46 #[(),(),()]:=by have:=(Blk.new (w.alloc (.cells #[aA,aB,.slice p n f,a,b,aE,aF,aC,aG,.slice q m c2] 30)) 46 #[(),(),()]).ext g;simpa using this
 have X1:Ext w w1:=(((Ext.refl w).alloc _).alloc _).trans g;have s1:w.heap.size+1<w1.heap.size:=c.lt;replace d:=xQ d;replace c:=xQ c;clear g;obtain⟨j,k,l,o,r,s,t,u,x,y⟩:=d.out.ten;obtain⟨ad,z,ae,aa,af,ab⟩:=c.out.trif;go_wp2_with fail;refine(HV _ (by exact X1)).mono ?_;rintro e w2 ⟨rfl,h⟩;have ag:=xQ (d.out.ext h);have i:=xQ (c.out.ext h);have X2:Ext w w2:=X1.trans h;have s2:w.heap.size+1<w2.heap.size:=i.out.lt;clear j k l o r s t u x y ad ae af z aa ab h d c s1;obtain⟨ah,ai,aj,ak,al,am,an,ao,ap,aq⟩:=ag.out.ten;obtain⟨aw,ar,ax,au,ay,av⟩:=i.out.trif;go_wp2;exact bodyPost_ret (v:= .tuple #[.agg #[(),(),()],.bool false]) (by simp[results,Tryz.results137,go_sem, *]) rfl ⟨rfl,xE⟩
theorem zQ (aA aB a c aE aF aC aG id:Int)(p:OA)(n g:Nat)(q:OA)(m c2:Nat)(w:World)
  (k:Nat)(a1 a2 a3:Int)(vs:List aP)(HK:Hid (vs[k]? =some (id,a1,a2,a3))) (hk:k<m) (hm:m≤9223372036854775807) (HS:Hid (Sl w q m c2 4 (vs.flatMap aD)))
  (HX:xC 86 #[.agg #[aA,aB,.slice p n g,a,c,aE,aF,aC,aG,.slice q m c2],id] w fun w' e w''=>e= .returned (.int .i64 k)∧Ext w' w'')
  (HV:xB 12 #[.agg #[aA,aB,.slice p n g,a,c,aE,aF,aC,aG,.slice q m c2]] w true):
  Calls Tryz.prog 137 #[.agg #[aA,aB,.slice p n g,a,c,aE,aF,aC,aG,.slice q m c2],id] w fun e w'=>e= .returned (.tuple #[.agg #[a1,a2,a3],.bool true])∧Ext w w':=by
 go_enter Tryz.func137,Tryz.ntmps137;go_wp2_with fail;refine(HX _ (by exact .alloc (.alloc (.refl _) _) _)).mono ?_;rintro e w1 ⟨rfl,h⟩;have f:Blk w1 w.heap.size 30 #[aA,aB,.slice p n g,a,c,aE,aF,aC,aG,.slice q m c2]:=((Blk.new w _ _).alloc _).ext h;have d:Blk w1 (w.heap.size+1) 46 #[(),(),()]:=by have:=(Blk.new (w.alloc (.cells #[aA,aB,.slice p n g,a,c,aE,aF,aC,aG,.slice q m c2] 30)) 46 #[(),(),()]).ext h;simpa using this
 have X1:Ext w w1:=(((Ext.refl w).alloc _).alloc _).trans h;have s1:w.heap.size+1<w1.heap.size:=d.lt;replace f:=xQ f;replace d:=xQ d;clear h;obtain⟨l,o,r,s,u,x,y,z,aa,ab⟩:=f.out.ten;obtain⟨ag,ad,ah,ae,ai,af⟩:=d.out.trif;go_wp2_with fail;refine(HV _ (by exact X1)).mono ?_;rintro e w2 ⟨rfl,i⟩;have aj:=xQ (f.out.ext i);have j:=xQ (d.out.ext i);have X2:Ext w w2:=X1.trans i;have s2:w.heap.size+1<w2.heap.size:=j.out.lt;clear l o r s u x y z aa ab ag ah ai ad ae af i f d s1;obtain⟨ak,al,am,an,ao,ap,aq,ar,au,av⟩:=aj.out.ten;obtain⟨a0,ax,a4,ay,a5,az⟩:=j.out.trif;obtain⟨b,a9,b0,b1,b2,b3,rfl,hv,hb,g0,g1,g2,g3⟩:=eB (HS.out.ext X2) hk;obtain⟨rfl,rfl,rfl,rfl⟩:id=b0∧a1=b1∧a2=b2∧a3=b3:=by have t:=HK.out;rw[hv]at t;simp only[Option.some.injEq,Prod.mk.injEq]at t;exact⟨t.1.symm,t.2.1.symm,t.2.2.1.symm,t.2.2.2.symm⟩
 have a8:b≠w.heap.size+1:=by have a7:=hb;obtain⟨b',aw,_,_,_,_,hq,_,a6,_⟩:=eB HS hk;simp only[Option.some.injEq,Addr.mk.injEq]at hq;omega
 have i1:(0:Int)≤(k:Int):=by omega
 have i2:(k:Int)<(m:Int):=by omega
 clear hv;go_wp2;exact bodyPost_ret (v:= .tuple #[.agg #[a1,a2,a3],.bool true]) (by simp[results,Tryz.results137,go_sem, *]) rfl ⟨rfl,xE⟩
theorem aEb (h:aO)(id:Int)(p:OA)(n c:Nat)(q:OA)(m c2:Nat)(w:World)(hi:IsHouse w h p n c q m c2):
  Calls Tryz.prog 16 #[bK h p n c q m c2,id] w fun e w'=>e= .returned (sE h id)∧Ext w w':=by
 have HV:=fun(w':World) (hx:Ext w w')=>kF h p n c q m c2 w' (hi.ext hx)
 have f:=hi.vlen;obtain⟨aA,aB,d,a,b,aE,aF,aC,aG,vs⟩:=h;have HX:=fun(w':World) (hx:Ext w w')=>iN aA aB a b aE aF aC aG id p n c q m c2 vs w' (hi.vs.ext hx)
 unfold sE cS;simp only at f HV HX⊢;cases hok:aT ⟨aA,aB,d,a,b,aE,aF,aC,aG,vs⟩with
 |false=>rw[hok]at HV;simpa using aAo aA aB a b aE aF aC aG id p n c q m c2 w HV
 |true=>
  rw[hok]at HV;rcases lQ id vs with⟨hx,hv⟩|⟨k,a1,a2,a3,hk,hx,hv,hf⟩
  ·rw[hx]at HX;rw[hv];simpa using aD5 aA aB a b aE aF aC aG id p n c q m c2 w HV HX
  rw[hx]at HX;rw[hf];simpa using aAn aA aB a b aE aF aC aG id p n c q m c2 w k a1 a2 a3 vs hv (by omega) hi.vs.bd hi.vs HV HX
theorem aE4 (h:aO)(id:Int)(p:OA)(n c:Nat)(q:OA)(m c2:Nat)(w:World)(hi:IsHouse w h p n c q m c2):
  Calls Tryz.prog 137 #[bK h p n c q m c2,id] w fun e w'=>e= .returned (sE h id)∧Ext w w':=by
 have HV:=fun(w':World) (hx:Ext w w')=>kC h p n c q m c2 w' (hi.ext hx)
 have f:=hi.vlen;obtain⟨aA,aB,d,a,b,aE,aF,aC,aG,vs⟩:=h;have HX:=fun(w':World) (hx:Ext w w')=>oZ aA aB a b aE aF aC aG id p n c q m c2 vs w' (hi.vs.ext hx)
 unfold sE cS;simp only at f HV HX⊢;cases hok:aT ⟨aA,aB,d,a,b,aE,aF,aC,aG,vs⟩with
 |false=>rw[hok]at HV;simpa using zR aA aB a b aE aF aC aG id p n c q m c2 w _ HX HV
 |true=>
  rw[hok]at HV;rcases lQ id vs with⟨hx,hv⟩|⟨k,a1,a2,a3,hk,hx,hv,hf⟩
  ·rw[hx]at HX;rw[hv];simpa using aBu aA aB a b aE aF aC aG id p n c q m c2 w HX HV
  rw[hx]at HX;rw[hf];simpa using zQ aA aB a b aE aF aC aG id p n c q m c2 w k a1 a2 a3 vs hv (by omega) hi.vs.bd hi.vs HX HV
end Go.Proofs.YtpelpnfhbepokaaGreatDoor
