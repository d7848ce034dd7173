/-
  Texts of this proof, packed (@packed).
-/
import Derived.Deep.CutBlock
import Derived.Test.YthfmmibomhhmpaaGreatDoorY26
import Derived.Test.YthfmmibomhhmpaaGreatDoorY27
namespace Go.Proofs.YthfmmibomhhmpaaGreatDoor
open Go.RowKit Go.Proofs.Tryz
set_option linter.unusedSimpArgs false
set_option linter.unusedVariables false
set_option maxHeartbeats 8000000
set_option maxRecDepth 100000
def wC (w:World)(e:Ending)(w':World):Prop:=
 ∃(h:aL) (p:OA) (cap:Nat) (q:OA) (c2:Nat) (ls:List (List UInt8)) (lq:OA) (lc:Nat),e= .returned (.tuple #[bG h p h.cells.length cap q h.vs.length c2,.slice lq ls.length lc])∧h.cells.length≤13∧h.vs.length≤13∧ls.length≤41∧(∀l∈ls,l.length≤80)∧IsHouse w' h p h.cells.length cap q h.vs.length c2∧Sl w' lq ls.length lc 1 (cM ls)∧Ext w w'∧ ∃gq,lq=some ⟨gq,0,none⟩
theorem aGv (ls:List (List UInt8))(l:List UInt8):cM (ls++ [l])=cM ls++ [str l]:=by simp[cM]
theorem aRs (s:ByteArray): ∃l:List UInt8,Value.string s=str l∧l.length=s.size:=⟨s.data.toList,rfl,by rw[Array.length_toList];rfl⟩
theorem aN4 (l:List UInt8): ∀u∈([str l]:List Value),u.oneCell'=true:=fun u hu=>by obtain rfl:=aTp.1 hu;rfl
theorem zR (v:Value)(w:World)(hc:Code w v):U 4 #[v] w (wC w):=by
 go_enter func4,ntmps4;go_wp2_with fail;refine(aF9 v _ (hc.ext xE)).mono ?_;rintro e w1 ⟨R,rfl,hR,r1,x1⟩;have a4:w.heap.size<R:=by have:=hR;simp at this;omega
 have hR:=r1.lt;have M1:=(((Mem.start w).c0 aK zT).adv x1)
 have a8:=M1.hi 0;clear x1;go_wp2_with fail;refine(aD2 R 0 12 _ r1 (by omega) (by omega) (by omega)).mono ?_;rintro e w2 ⟨h,p,c,q,c2,rfl,a0,a1,ho,hv,r2,x2⟩;have M2:=(show MemR R w1 w2 [aVq w1 p h.cells c,aVr w1 q h.vs c2]from(MemR.start R w1 hR).own2 x2 ho hv (by decide))
 have z2:=x2.sz;clear ho hv x2;go_wp2_with fail;refine(cK R 20000 9 _ xN (by omega)).mono ?_;rintro e w3 ⟨x,rfl,xa,xb,r3,x3⟩;obtain⟨j0,rfl⟩:=aTw xa;have a5:j0≤8:=by omega
 clear xa xb;have M3:=(((M2.c0 aK (aVs h p c q c2)).made0 9 1 (w2.heap.size+1) (by simp)).pickd x3)
 clear x3 M2;have m:=M3.hi 1;obtain⟨gX,z⟩: ∃a,a=w2.heap.size:=⟨_,rfl⟩
 obtain⟨go,aa⟩: ∃a,a=w2.heap.size+1:=⟨_,rfl⟩
 rw[←z]at aa;rw[←z]at M3 m⊢;rw[←aa]at M3⊢;have a9:R<gX:=by omega
 clear z aa z2 r1 r2;have MS:=(show MemR R w1 w3 [aJ w1 9 1 (some ⟨go,0,none⟩) (([]:List (List UInt8)).length) (0) (cM ([]:List (List UInt8))),aI w1 (gX) aK (aVs h p c q c2),aVq w1 p h.cells c,aVr w1 q h.vs c2]from M3.pick [0,1,2,3] (by decide) rfl)
 have a3:=r3.lt;clear M3 m;go_wp2;go_loopw [6,7] (fun o i wr=> ∃(os:List (List UInt8)) (oq:OA) (oc j:Nat),o= .slice oq os oc∧i=I j∧os.length+j≤8∧(∀l∈os,l.length≤80)∧MemR R w1 wr [aJ w1 9 1 (oq) (os.length) (oc) (cM os),aI w1 (gX) aK (aVs h p c q c2),aVq w1 p h.cells c,aVr w1 q h.vs c2]∧Rand wr R (20001+100*(8-j))∧ ∃gq,oq=some ⟨gq,0,none⟩) (fun _ i _=>(intOf i).toNat)
 case atStart=>exact⟨[],_,0,j0,rfl,rfl,by simpa using a5,(fun l hl=>by cases hl),MS,r3.mono (by omega),_,rfl⟩
 case round=>
  clear MS r3 a3;obtain⟨os,oq,oc,j,rfl,rfl,bc,ay,hM,rr,k⟩:=hrel;have M5:=hM;have t:=xQ k;have aq:=xQ ay;clear hM k ay;have a4:R<wr:=rr.lt;have n:=M5.hi 1;by_cases hj:j=0
  ·skip;subst hj;have i1:decide ((0:Int)<((0:Nat):Int))=false:=by simp
   go_wp2_with fail;refine(aCy R (20001+100*(8-0)) 30 _ rr (by omega) (by omega) (by omega)).mono ?_;rintro e w6 ⟨b,rfl,r6,x6⟩;clear i1 rr;have M6:=(M5.pickd x6)
   clear x6 M5 n;have r:=M6.hi 1;have XO:=xQ (ExtR.new M1.ext M6.ext (by omega));have BH:=xQ (M6.ext.blk (M1.bk 0) (by omega));have lH:(w:Nat)<w6:=BH.out.lt;have ba:=r6.lt;cases b with
   |false=>
    have ab:=(M6.bk 1).ten;have BX:=BH.out;obtain⟨z0,ag,z1,ah,z2,ai,z3,aj,z4,ak,z5,al,z6,am,z7,an,z8,ao,z9,ap⟩:=BX.tenf;go_wp2;clear z0 ag z1 ah z2 ai z3 aj z4 ak z5 al z6 am z7 an z8 ao z9 ap ab;generalize f:World.setCell _ _ _=w9;have d:ExtR w w6 w9:=by rw[←f];exact((((((((((ExtR.refl w w6).setCell (p:=⟨w,0,none⟩) (.inl rfl) (I h.aA)).setCell (p:=⟨w,1,none⟩) (.inl rfl) (I h.aB)).setCell (p:=⟨w,2,none⟩) (.inl rfl) (.slice p h.cells c)).setCell (p:=⟨w,3,none⟩) (.inl rfl) (I h.free)).setCell (p:=⟨w,4,none⟩) (.inl rfl) (I h.step)).setCell (p:=⟨w,5,none⟩) (.inl rfl) (I h.aD)).setCell (p:=⟨w,6,none⟩) (.inl rfl) (I h.aF)).setCell (p:=⟨w,7,none⟩) (.inl rfl) (I h.aC)).setCell (p:=⟨w,8,none⟩) (.inl rfl) (I h.aG)).setCell (p:=⟨w,9,none⟩) (.inl rfl) (.slice q h.vs c2)
    have YX:=(((((((((BX.set 0 (I h.aA)).set 1 (I h.aB)).set 2 (.slice p h.cells c)).set 3 (I h.free)).set 4 (I h.step)).set 5 (I h.aD)).set 6 (I h.aF)).set 7 (I h.aC)).set 8 (I h.aG)).set 9 (.slice q h.vs c2);simp only[aTm,aTk,aTj]at YX;rw[f]at YX;clear f;have ad:=aBe (M6.ow 2) d (by omega);have af:=aBe (M6.ow 3) d (by omega);have ae:=aBe (M6.ow 0) d (by omega);have X9:Ext w w9:=ExtR.new XO d (by omega);have y_:=YX.ten;exact bodyPost_ret (v:= .tuple #[.agg #[h.aA,h.aB,.slice p h.cells c,h.free,h.step,h.aD,h.aF,h.aC,h.aG,.slice q h.vs c2],.slice oq os oc]) (by simp[results,results4,go_sem, *]) rfl ⟨h,p,c,q,c2,os,oq,oc,rfl,a0,a1,by omega,aq.out,⟨Sl.own ad,Sl.own af⟩,Sl.own ae,X9,t.out⟩
   |true=>
    obtain⟨AB,u⟩: ∃AB:Array Value,AB=madeCells #[.string ⟨#[]⟩] 41:=⟨_,rfl⟩
    have a6: ∀w:World,(Instr.makeSlice 31 (I 41) (I 41)).run prog w= .ok (.slice (some ⟨w,0,none⟩) 41 41) (w.alloc (.cells AB 9)):=fun w=>by rw[u];exact run_make_row' _ _ (Value.string ⟨#[]⟩) 16 underlying31 (by kernel_rfl) rfl .i64 .i64 41 (by omega) (by omega) w
    have av:AB.toList=cM (List.replicate 41 []):=by rw[u,(jG _ 41).1];simp[cM]
    have aw:AB.size=41:=by rw[u];exact(jG _ 41).2
    clear u;go_upto_region 10 with fail
    have MD:=(show MemR R w1 (w6.alloc (.cells AB 9)) [aJ w1 9 1 (some ⟨w6,0,none⟩) (41) (41) (cM (List.replicate 41 [])),aJ w1 9 1 (oq) (os.length) (oc) (cM os),aI w1 (gX) aK (aVs h p c q c2),aVq w1 p h.cells c,aVr w1 q h.vs c2]from by
     have h1:=M6.lit 9 1 41 w6 AB rfl (by rw[aw]) (by simp[maxLen]);rw[av]at h1
     exact h1)
    have r7:Rand (w6.alloc (.cells AB 9)) R (20001+100*(8-0)+1):=(r6.alloc _).mono (by omega);have au:=xQ (show Ext w (w6.alloc (.cells AB 9))from XO.out.trans ((Ext.refl _).alloc _));have y:=xQ (BH.out.ext ((Ext.refl w6).alloc (.cells AB 9)));obtain⟨gL,ax⟩: ∃g,g=w6.heap.size:=⟨_,rfl⟩
    rw[←ax]at MD⊢;generalize a2:World.alloc _ _=w7;rw[a2]at MD r7 au y;clear a2 ax av aw a6 M6 r BH XO r6;have lH:(w:Nat)<w7:=y.out.lt;have ab:=(MD.bk 2).ten;have BX:=y.out;obtain⟨z0,ag,z1,ah,z2,ai,z3,aj,z4,ak,z5,al,z6,am,z7,an,z8,ao,z9,ap⟩:=BX.tenf;go_wp2;clear z0 ag z1 ah z2 ai z3 aj z4 ak z5 al z6 am z7 an z8 ao z9 ap ab;generalize f:World.setCell _ _ _=w9;have d:ExtR w w7 w9:=by rw[←f];exact((((((((((ExtR.refl w w7).setCell (p:=⟨w,0,none⟩) (.inl rfl) (I h.aA)).setCell (p:=⟨w,1,none⟩) (.inl rfl) (I h.aB)).setCell (p:=⟨w,2,none⟩) (.inl rfl) (.slice p h.cells c)).setCell (p:=⟨w,3,none⟩) (.inl rfl) (I h.free)).setCell (p:=⟨w,4,none⟩) (.inl rfl) (I h.step)).setCell (p:=⟨w,5,none⟩) (.inl rfl) (I h.aD)).setCell (p:=⟨w,6,none⟩) (.inl rfl) (I h.aF)).setCell (p:=⟨w,7,none⟩) (.inl rfl) (I h.aC)).setCell (p:=⟨w,8,none⟩) (.inl rfl) (I h.aG)).setCell (p:=⟨w,9,none⟩) (.inl rfl) (.slice q h.vs c2)
    have YX:=(((((((((BX.set 0 (I h.aA)).set 1 (I h.aB)).set 2 (.slice p h.cells c)).set 3 (I h.free)).set 4 (I h.step)).set 5 (I h.aD)).set 6 (I h.aF)).set 7 (I h.aC)).set 8 (I h.aG)).set 9 (.slice q h.vs c2);simp only[aTm,aTk,aTj]at YX;rw[f]at YX;clear f;have ad:=aBe (MD.ow 3) d (by omega);have af:=aBe (MD.ow 4) d (by omega);have ae:=aBe (MD.ow 0) d (by omega);have X9:Ext w w9:=ExtR.new au d (by omega);have y_:=YX.ten;exact bodyPost_ret (v:= .tuple #[.agg #[h.aA,h.aB,.slice p h.cells c,h.free,h.step,h.aD,h.aF,h.aC,h.aG,.slice q h.vs c2],.slice (some ⟨gL,0,none⟩) 41 41]) (by simp[results,results4,go_sem, *]) rfl ⟨h,p,c,q,c2,(List.replicate 41 []),(some ⟨gL,0,none⟩),41,rfl,a0,a1,(by simp),(fun l hl=>by rw[List.eq_of_mem_replicate hl];simp),⟨Sl.own ad,Sl.own af⟩,Sl.own ae,X9,⟨gL,rfl⟩⟩
  obtain⟨j,rfl⟩: ∃i,j=i+1:=⟨j-1,by omega⟩
  have i1:decide ((0:Int)<((j+1:Nat):Int))=true:=by first|(simp;done)|(simp;omega)
  have i2:decide ((0:Int)<(j:Int)+1)=true:=by first|(simp;done)|(simp;omega)
  have bd:os.length≤7:=by omega
  have a7:=(M5.bk 1).ten;go_wp2_with fail;clear a7 i1 i2;refine(aFa R (20001+100*(8-(j+1))) h p c q c2 _ rr (by omega) (by omega) (pB (i:=2) (j:=3) M5 rfl rfl) (tS (i:=2) M5 rfl) (tS (i:=3) M5 rfl)).mono ?_;rintro e w6 ⟨s,rfl,hs,r6,x6⟩;clear rr;have M6:=(M5.pickd x6)
  clear x6 M5 n;have r:=M6.hi 1;obtain⟨l,hl,bb⟩:=aRs s;rw[hl];clear hl;go_wp2_with (at_builtin;refine pX aGd rfl _ _ rfl (M6.adv ((Ext.refl _).alloc (.cells #[str l] 9))) 0 rfl rfl ([str l]) rfl (eD _ _ _ 1 1 _ (by first|rfl|simp) (by first|rfl|simp) (by simp[maxLen])) (aN4 l) (by omega) ?_;intro q7 c7 w7 ar az;have r7:Rand w7 R (20001+100*(8-(j+1))+100):=az _ xN);have M7:=ar;clear ar az t;obtain⟨gq,k,_,_⟩:=M7.so 0;have t:=xQ k;clear k;go_wp2;go_roundw
  case rel=>
   have e7:(os++ [l]).length=os.length+1:=by simp
   refine⟨os++ [l],q7,c7,j,by rw[e7],by go_num,by rw[e7];omega,fun x hx=> ?_,?_,r7.mono (by omega),_,t.out⟩
   ·rcases aTn.1 hx with hx|hx
    ·exact aq x hx
    obtain rfl:=aTp.1 hx;omega
   rw[e7,aGv];exact M7
  case measure=>first|(simp[intOf];done)|(simp[intOf];omega)
theorem Mem.own2blk {w0 w w':World}{L:List Item}{e1 e2 t:TypeId}{s1 s2 n1 n2 c1 c2 g:Nat}{q1 q2:OA}{d a:List Value}{cs:Array Value}(h:Mem w0 w L)(hx:Ext w w')(hb:Blk w' g t cs)(hg:w.heap.size≤g)(h1:w'.ownsRow w e1 s1 (.slice q1 n1 c1) n1 d)(h2:w'.ownsRow w e2 s2 (.slice q2 n2 c2) n2 a)(ht:e1≠e2)(t1:e1≠t)(t2:e2≠t):
  Mem w0 w' (aJ w0 e1 s1 q1 n1 c1 d::aJ w0 e2 s2 q2 n2 c2 a::aI w0 g t cs::L):=by
 have b: ∀ {e:TypeId} {s n c:Nat} {q:OA} {xs:List Value},w'.ownsRow w e s (.slice q n c) n xs→e≠t→(Value.slice q n c).ownBlock≠Option.some g:=by
  intro e s n c q xs ho f he;rcases ho.2 with⟨b1,_⟩|⟨g1,cap1,cur1,b1,_,b3,_⟩
  ·rw[b1]at he;cases he
  rw[b1]at he;injection he with he;have x1:g1=g:=he;subst x1;unfold Blk at hb;rw[hb]at b3;injection b3 with b3;injection b3 with _ b3;exact f b3.symm
 have H:=h.own2 hx h1 h2 (aT5 _) ht;have p1:=List.pairwise_cons.1 H.apart;have p2:=List.pairwise_cons.1 p1.2;have HB:=h.blkOf hx hb hg
 have H2:Mem w0 w' (aJ w0 e2 s2 q2 n2 c2 a::aI w0 g t cs::L):=HB.cons (dZ _ _ _ _ _ _ _) (cH h2 h.ext.sz) (fun g' hg' j hj e=>by
  rcases aTi.1 hj with rfl|hj
  ·obtain rfl:g=g':=e;exact b h2 t2 hg'
  ·exact p2.1 j hj g' hg' e)
 exact H2.cons (dZ _ _ _ _ _ _ _) (cH h1 h.ext.sz) (fun g' hg' j hj e=>by
  rcases aTi.1 hj with rfl|hj
  ·exact p1.1 _ (by simp) g' hg' e
  ·rcases aTi.1 hj with rfl|hj
   ·obtain rfl:g=g':=e;exact b h1 t1 hg'
   ·exact p1.1 j (by simp[hj]) g' hg' e)
def hZ:aL:=⟨0,0,[],0,0,0,0,0,0,[]⟩
def doR (h:aL)(k a b:Int):aL×Int×Bool:=
 if aP h=true then(match bY h k a b with
  |none=>(h,-1,false)
  |some (h',n)=>(h',n,true))else(hZ,-1,false)
def aMt (B:Nat)(r:aL×Int×Bool)(w':World)(e:Ending)(w'':World):Prop:=
 ∃pa ca qa da,e= .returned (.tuple #[bG r.1 pa r.1.cells.length ca qa r.1.vs.length da,r.2.1,.bool r.2.2])∧w''.ownsRow B TI 1 (.slice pa r.1.cells.length ca) r.1.cells.length (ivs r.1.cells)∧w''.ownsRow B TV 4 (.slice qa r.1.vs.length da) r.1.vs.length (r.1.vs.flatMap aE)∧Ext w' w''
theorem xO {h:aL}{k a b:Int}{w w':World}{e:Ending}{B:Nat}(hB:B≤w.heap.size)(c:aP h=true)(hr:aKc h (bY h k a b) w e w'):aMt B (doR h k a b) w e w':=by
 unfold doR;rw[if_pos c];unfold aKc at hr;cases hd:bY h k a b with
 |none=>rw[hd]at hr;obtain⟨pa,ca,qa,da,rfl,o1,o2,hx⟩:=hr;exact⟨pa,ca,qa,da,rfl,cH o1 hB,cH o2 hB,hx⟩
 |some r=>obtain⟨h',n⟩:=r;rw[hd]at hr;obtain⟨pa,ca,qa,da,rfl,o1,o2,hx⟩:=hr;exact⟨pa,ca,qa,da,rfl,cH o1 hB,cH o2 hB,hx⟩
theorem aK7 {h:aL}{k a b:Int}{w w':World}{e:Ending}{B:Nat}(c: ¬aP h=true)(hr:e= .returned (.tuple #[.agg #[(),(),((),()),(),(),(),(),(),(),((),())],(-1:Int),.bool false])∧Ext w w'):aMt B (doR h k a b) w e w':=by unfold doR;rw[if_neg c];obtain⟨rfl,hx⟩:=hr;exact⟨none,0,none,0,rfl,aTe _ _ _ _,aTe _ _ _ _,hx⟩
abbrev TB:TypeId:=4
def bcs (bs:List Bool):List Value:=bs.map .bool
theorem aRj (bs:List Bool):(bcs bs).length=bs.length:=by simp[bcs]
theorem aGo (bs:List Bool)(b:Bool):bcs (bs++ [b])=bcs bs++ [.bool b]:=by simp[bcs]
theorem elB:ElT prog 100 TB 1:=
 ⟨underlying100,by
  obtain⟨i,hi,h0,h1,h2⟩:=info_parts (show(prog.info? TB).map (fun i=>(i.zero,i.size,i.bytes))=some (some (.bool false),1,1) by kernel_rfl)
  exact⟨i,_,hi,h0,h1,by omega,rfl⟩,by omega⟩
def wK (h:aL)(d:Dd3):aL:=(doR h d.1 d.2.1 d.2.2).1
def iM (h:aL)(ds:List Dd3):aL:=ds.foldl wK h
def eH:aL→List Dd3→List Bool
 |_,[]=> []
 |h,d::ds=>(doR h d.1 d.2.1 d.2.2).2.2::eH (wK h d) ds
theorem vC (h:aL)(l:List Dd3)(d:Dd3):iM h (l++ [d])=(doR (iM h l) d.1 d.2.1 d.2.2).1:=by simp[iM,wK]
theorem sY: ∀(l:List Dd3) (h:aL) (d:Dd3),eH h (l++ [d])=eH h l++ [(doR (iM h l) d.1 d.2.1 d.2.2).2.2]:=by
 intro l;induction l with
 |nil=>intro h d;rfl
 |cons x l ih=>intro h d;show _::eH (wK h x) (l++ [d])=_;rw[ih];rfl
theorem aBv: ∀(l:List Dd3) (h:aL),(eH h l).length=l.length:=by
 intro l;induction l with
 |nil=>intro h;rfl
 |cons x l ih=>intro h;show(eH (wK h x) l).length+1=_;rw[ih];rfl
theorem aOc {h:aL}(a:aP h=true)(d:Dd3):aP (wK h d)=true:=by
 unfold wK doR;rw[if_pos a];cases hd:bY h d.1 d.2.1 d.2.2 with
 |none=>exact a
 |some r=>obtain⟨h',n⟩:=r;exact(kZ a hd).1
theorem aCt: ∀(l:List Dd3) {h:aL},aP h=true→aP (iM h l)=true:=by
 intro l;induction l with
 |nil=>intro h a;exact a
 |cons x l ih=>intro h a;exact ih (aOc a x)
def yM (h:aL)(ds:List Dd3):aL×List Bool:=if aP h=true then(iM h ds,eH h ds)else(hZ,[])
def pL (B:Nat)(r:aL×List Bool)(w':World)(e:Ending)(w'':World):Prop:=
 ∃pa ca qa da ps cs,e= .returned (.tuple #[bG r.1 pa r.1.cells.length ca qa r.1.vs.length da,.slice ps r.2.length cs])∧w''.ownsRow B TI 1 (.slice pa r.1.cells.length ca) r.1.cells.length (ivs r.1.cells)∧w''.ownsRow B TV 4 (.slice qa r.1.vs.length da) r.1.vs.length (r.1.vs.flatMap aE)∧w''.ownsRow B TB 1 (.slice ps r.2.length cs) r.2.length (bcs r.2)∧Ext w' w''
theorem aJk {B:Nat}{h g:aL}{ds:List Dd3}{lm:Nat}{pa qa ps:OA}{ca da cs:Nat}{w' a:World}(hg:g=iM h ds)(hl:ds.length=lm)(o1:a.ownsRow B TI 1 (.slice pa g.cells ca) g.cells.length (ivs g.cells))(o2:a.ownsRow B TV 4 (.slice qa g.vs da) g.vs.length (g.vs.flatMap aE))(o3:a.ownsRow B TB 1 (.slice ps lm cs) lm (bcs (eH h ds)))(hx:Ext w' a):
  pL B (iM h ds,eH h ds) w' (.returned (.tuple #[bG g pa g.cells.length ca qa g.vs.length da,.slice ps lm cs])) a:=by
 subst hg;have hd:(eH h ds).length=lm:=by rw[aBv,hl]
 subst hd;exact⟨pa,ca,qa,da,ps,cs,rfl,o1,o2,o3,hx⟩
theorem aRg {l:List Value}{k n:Nat}(hl:l.length=k)(hk:k<n):(l++List.replicate (n-k) (Value.bool false))[k]? =some (Value.bool false):=by rw[aTy (by omega),hl,aV0];simp[aV1];omega
theorem aPt {l:List Value}{k n:Nat}{b:Value}(hl:l.length=k)(hk:k<n):(l++List.replicate (n-k) (Value.bool false)).set k b=(l++ [b])++List.replicate (n-(k+1)) (Value.bool false):=by
 obtain⟨j,rfl⟩: ∃j,n=k+1+j:=⟨n-(k+1),by omega⟩
 rw[show k+1+j-k=j+1 by omega,show k+1+j-(k+1)=j by omega,List.set_append,if_neg (by omega),hl,aV0,aV9];simp
theorem aQk (h:aL)(p:OA)(a:Nat)(q:OA)(c2:Nat)(lq:OA)(lm lc:Nat)(ds:List Dd3)(w:World)
  (b:xC 9 #[.agg (aVs h p a q c2)] w fun w' e w''=>e= .returned (Value.bool false)∧Ext w' w''):
  U 88 #[.agg #[h.aA,h.aB,.slice p h.cells a,h.free,h.step,h.aD,h.aF,h.aC,h.aG,.slice q h.vs c2],.slice lq lm lc] w (pL w (hZ,[]) w):=by
 go_enter func88,ntmps88;go_wp2_with fail;refine Z (b _ ((((Mem.start w).c0 aK (aVs h p a q c2)).c1 aK zT).made0 TB 1 (w.heap.size+1+1) (by simp)).ext) fun w1 d=>?_
 have M1:=(((((Mem.start w).c0 aK (aVs h p a q c2)).c1 aK zT).made0 TB 1 (w.heap.size+1+1) (by simp)).adv d)
 clear d b;have f_:=(M1.bk 1).tenf;go_wp2;clear f_;have M2:=(M1.put10 (i:=1) rfl (I 0) (I 0) (.slice none 0 0) (I 0) (I 0) (I 0) (I 0) (I 0) (I 0) (.slice none 0 0))
 generalize c:World.setCell _ _ _=wz;rw[c]at M2;clear c M1;have y_:=(M2.bk 1).ten;exact bodyPost_ret (v:= .tuple #[.agg #[(),(),((),()),(),(),(),(),(),(),((),())],.slice (some ⟨w.heap.size+1+1,0,none⟩) 0 0]) (by simp[results,results88,go_sem, *]) rfl (show pL w (hZ,[]) w _ _ from⟨none,0,none,0,_,0,rfl,aTe _ _ _ _,aTe _ _ _ _,(M2.ow 0),M2.ext⟩)
theorem aSm (h:aL)(p:OA)(a:Nat)(q:OA)(c2:Nat)(lq:OA)(lm lc:Nat)(ds:List Dd3)(w:World)(hb:lm≤1048576)(x:Hid (ds.length=lm))(am:Hid (aP h=true))(HS:Hid (Sl w lq lm lc 3 (ds.flatMap cI)))
  (ab:xB 9 #[.agg (aVs h p a q c2)] w true)
  (HL:xC 21 #[.agg (aVs h p a q c2)] w fun w' e w''=> ∃p' cap' q' c2',e= .returned (.agg #[h.aA,h.aB,.slice p' h.cells cap',h.free,h.step,h.aD,h.aF,h.aC,h.aG,.slice q' h.vs c2'])∧w''.ownsRow w' TI 1 (.slice p' h.cells cap') h.cells.length (ivs h.cells)∧w''.ownsRow w' TV 4 (.slice q' h.vs c2') h.vs.length (h.vs.flatMap aE)∧Ext w' w''):
  U 88 #[.agg #[h.aA,h.aB,.slice p h.cells a,h.free,h.step,h.aD,h.aF,h.aC,h.aG,.slice q h.vs c2],.slice lq lm lc] w (pL w (iM h ds,eH h ds) w):=by
 go_enter func88,ntmps88;go_wp2_with fail;refine Z (ab _ ((((Mem.start w).c0 aK (aVs h p a q c2)).c1 aK zT).made0 TB 1 (w.heap.size+1+1) (by simp)).ext) fun w1 ag=>?_
 have M1:=(((((Mem.start w).c0 aK (aVs h p a q c2)).c1 aK zT).made0 TB 1 (w.heap.size+1+1) (by simp)).adv ag)
 clear ag ab;have ak:=(M1.bk 2).ten;go_wp2_with fail;clear ak;refine(HL _ M1.ext).mono ?_;rintro e w2 ⟨p1,n,q1,o,rfl,ho,hq,hx⟩;have M2:=(M1.own2 hx ho hq (aT5 _) (by decide))
 clear M1 hx ho hq HL;go_upto_region 5 with fail;obtain⟨gV,t⟩: ∃gV,gV=w2.heap.size:=⟨_,rfl⟩
 rw[←t];have M3:=(M2.blkNew aK (aVs h p1 n q1 o) gV t.symm)
 generalize World.alloc _ _=w3 at M3⊢;clear M2 t;go_wp2;go_loopw [6,8] (fun dn i wr=> ∃(k:Nat) (g:aL) (p3:OA) (c3:Nat) (q3:OA) (d3:Nat) (ps:OA) (cs:Nat),k≤lm∧i=I k∧dn= .slice ps k cs∧g=iM h (ds.take k)∧Mem w wr [aJ w TB 1 (ps) (k) (cs) (bcs (eH h (ds.take k))),aVq w p3 g.cells c3,aVr w q3 g.vs d3,aI w (gV) aK (aVs g p3 c3 q3 d3),aI w (w.heap.size+1) aK #[(),(),((),()),(),(),(),(),(),(),((),())],aI w w aK (aVs h p a q c2)]) (fun _ i _=>lm-(intOf i).toNat)
 case atStart=>exact⟨0,h,p1,n,q1,o,_,_,aTd _,rfl,rfl,rfl,(show Mem w w3 [aJ w TB 1 (some ⟨w.heap.size+1+1,0,none⟩) (0) (0) ([]),aVq w p1 h.cells n,aVr w q1 h.vs o,aI w (gV) aK (aVs h p1 n q1 o),aI w (w.heap.size+1) aK #[(),(),((),()),(),(),(),(),(),(),((),())],aI w w aK (aVs h p a q c2)]from M3.pick [3,1,2,0,4,5] (by decide) rfl)⟩
 case round=>
  clear M3;obtain⟨k,g,p3,c3,q3,d3,ps,cs,hk,rfl,rfl,hg,hM⟩:=hrel;have HM:=hM;have HG:=xQ hg;have aa:Hid (aP g=true):=by show _=_;rw[hg];exact aCt _ am.out
  clear hM hg;by_cases hlt:k<lm
  ·obtain⟨b,l,a0,a1,a2,al,hx,s,e0,e1,e2⟩:=aK3 (HS.out.ext HM.ext) hlt;subst al;have HX:=xQ hx;clear hx;have i1:=aVt k;have i2:=aVu k lm;obtain⟨r,num,ok,hr⟩: ∃r num ok,(r,num,ok)=doR g a0 a1 a2:=⟨_,_,_,rfl⟩
   have HR:=xQ hr;clear hr;have af:Hid (iM h (ds.take (k+1))=r∧eH h (ds.take (k+1))=eH h (ds.take k)++ [ok]):=by show _∧_;rw[bA HX.out,vC,sY,←HG.out,←HR.out];exact⟨rfl,rfl⟩
   have HD:Hid (∀B p c q d w',B≤w'.heap.size→Ext wr w'→IsHouse w' g p g.cells.length c q g.vs.length d→U 38 #[.agg (aVs g p c q d),.agg #[a0,a1,a2]] w' fun e w''=> ∃pa ca qa da,e= .returned (.tuple #[.agg #[r.aA,r.aB,.slice pa r.cells ca,r.free,r.step,r.aD,r.aF,r.aC,r.aG,.slice qa r.vs da],num,.bool ok])∧w''.ownsRow B TI 1 (.slice pa r.cells ca) r.cells.length (ivs r.cells)∧w''.ownsRow B TV 4 (.slice qa r.vs da) r.vs.length (r.vs.flatMap aE)∧Ext w' w''):=fun B p c q d w' hB hx hi=>by refine(qA g a0 a1 a2 p _ c q _ d w' hi aa.out).mono (fun e w'' hr=> ?_);have hq:=xO hB aa hr;rw[←HR.out]at hq;exact hq
   have IX:=xQ (show IsHouse wr g p3 g.cells.length c3 q3 g.vs.length d3 from⟨(HM.sq 1),(HM.sq 2)⟩);have j:gV<wr:=(HM.hi 3)
   have an:=(HM.bk 3).ten;have ai: ¬(wr.heap.size=gV):=by omega
   have aj: ¬(wr.heap.size=b):=by omega
   go_upto_region 8 with fail;go_cut [9,10,11] (fun s1 s2 s3 wx=> ∃(g5:Nat) (p5:OA) (c5:Nat) (q5:OA) (d5:Nat),s1= .pointer (some ⟨g5,0,none⟩)∧s2=I num∧s3= .bool ok∧Mem w wx [aI w (g5) aK (aVs r p5 c5 q5 d5),aVq w p5 r.cells c5,aVr w q5 r.vs d5,aJ w TB 1 (ps) (k) (cs) (bcs (eH h (ds.take k))),aVq w p3 g.cells c3,aVr w q3 g.vs d3,aI w (gV) aK (aVs g p3 c3 q3 d3),aI w (w.heap.size+1) aK #[(),(),((),()),(),(),(),(),(),(),((),())],aI w w aK (aVs h p a q c2)])
   case first=>
    go_region_held3 (fun w'=>w'.cell? ⟨gV,0,none⟩=some (I g.aA)∧w'.cell? ⟨gV,1,none⟩=some (I g.aB)∧w'.cell? ⟨gV,2,none⟩=some (.slice p3 g.cells c3)∧w'.cell? ⟨gV,3,none⟩=some (I g.free)∧w'.cell? ⟨gV,4,none⟩=some (I g.step)∧w'.cell? ⟨gV,5,none⟩=some (I g.aD)∧w'.cell? ⟨gV,6,none⟩=some (I g.aF)∧w'.cell? ⟨gV,7,none⟩=some (I g.aC)∧w'.cell? ⟨gV,8,none⟩=some (I g.aG)∧w'.cell? ⟨gV,9,none⟩=some (.slice q3 g.vs d3)∧w'.cell? ⟨b,l+k*3,none⟩=some (I a0)∧w'.cell? ⟨b,l+k*3+1,none⟩=some (I a1)∧w'.cell? ⟨b,l+k*3+2,none⟩=some (I a2))
     (first|(refine⟨?_,?_,?_,?_,?_,?_,?_,?_,?_,?_,?_,?_,?_⟩<;>with_reducible assumption)|go_keep)
     (first
      |(go_at_call 38
        refine(HD wr _ _ _ _ _ (Ext.sz (show Ext wr _ from xE)) xE (IX.out.ext xE)).mono ?_;rintro e ws ⟨p5,c5,q5,d5,rfl,os,y,ah⟩;have f:Ext wr ws:=xE;have bp:=((HM.bk 3).ext f).ten;have bq:ws.cell? ⟨b,l+k*3,none⟩=some (I a0):=(f.cells.1 _ _ s).trans e0;have br:ws.cell? ⟨b,l+k*3+1,none⟩=some (I a1):=(f.cells.1 _ _ s).trans e1;have bs:ws.cell? ⟨b,l+k*3+2,none⟩=some (I a2):=(f.cells.1 _ _ s).trans e2
        first
         |(with_reducible have hz:Ext (wr.alloc (.cells #[(),(),((),()),(),(),(),(),(),(),((),())] aK)) ws:=ah;have MB:=(Mem.own2blk HM f ((Blk.new wr aK #[(),(),((),()),(),(),(),(),(),(),((),())]).ext hz) (aT5 _) os y (by decide) (by decide) (by decide));obtain⟨a3,bd,a4,be,a5,bf,a6,bg,a7,bh,a8,bi,a9,bj,ba,bl,bb,bm,bc,bo⟩:=(MB.blk (i:=2) rfl).tenf)
         |(with_reducible have hz:Ext (wr.alloc (.cells #[(),(),((),()),(),(),(),(),(),(),((),())] aK)) ws:=ah.of_drew;have MB:=(Mem.own2blk HM f ((Blk.new wr aK #[(),(),((),()),(),(),(),(),(),(),((),())]).ext hz) (aT5 _) os y (by decide) (by decide) (by decide));obtain⟨a3,bd,a4,be,a5,bf,a6,bg,a7,bh,a8,bi,a9,bj,ba,bl,bb,bm,bc,bo⟩:=(MB.blk (i:=2) rfl).tenf)
         |(have MA:=(Mem.own2 HM f os y (aT5 _) (by decide)))))
    all_goals (
     go_wp2_with fail;go_meet
     first
      |exact⟨_,p5,c5,q5,d5,rfl,rfl,rfl,(MB.put10 (i:=2) rfl (I r.aA) (I r.aB) (.slice p5 r.cells c5) (I r.free) (I r.step) (I r.aD) (I r.aF) (I r.aC) (I r.aG) (.slice q5 r.vs d5)).pick [2,0,1,3,4,5,6,7,8] (by decide) rfl⟩
      |exact⟨_,p5,c5,q5,d5,rfl,rfl,rfl,MA.bn aK (aVs r p5 c5 q5 d5) _⟩)
   case rest=>
    clear an ai aj e0 e1 e2 HD IX;obtain⟨g5,p5,c5,q5,d5,rfl,rfl,rfl,ae⟩:=hcut;obtain⟨v5,rfl⟩: ∃z,z=wc:=⟨_,rfl⟩
    have MC:=ae;clear ae HM j;have x_:=(MC.bk 0).ten;obtain⟨v0,ao,v1,ap,v2,aq,v3,ar,v4,au,v5,av,v6,aw,v7,ax,v8,ay,v9,az⟩:=(MC.bk 6).tenf;go_upto_region 10 with fail;clear x_ v0 ao v1 ap v2 aq v3 ar v4 au v5 av v6 aw v7 ax v8 ay v9 az;have ad:=(MC.put10 (i:=6) rfl (I r.aA) (I r.aB) (.slice p5 r.cells c5) (I r.free) (I r.step) (I r.aD) (I r.aF) (I r.aC) (I r.aG) (.slice q5 r.vs d5))
    generalize m:World.setCell _ _ _=wz;rw[m]at ad;clear m MC;go_wp2_with (at_builtin;go_loud (refine cJ elB rfl _ _ rfl (ad.adv ((Ext.refl _).alloc (.cells #[.bool ok] TB))) 3 rfl rfl [.bool ok] rfl (eD _ _ _ 1 1 _ (by first|rfl|simp) (by first|rfl|simp) (by simp[maxLen])) (fun u hu=>by obtain rfl:=aTp.1 hu;rfl) (by omega) ?_;intro q7 c7 w6 M6));go_roundw
    case rel=>
     have hd:bcs (eH h (ds.take (k+1)))=bcs (eH h (ds.take k))++ [.bool ok]:=by rw[af.out.2,aGo]
     exact⟨k+1,r,p5,c5,q5,d5,q7,c7,by omega,by go_num,rfl,af.out.1.symm,by rw[hd];exact(show Mem w w6 [aJ w TB 1 (q7) (k+1) (c7) (bcs (eH h (ds.take k))++ [.bool ok]),aVq w p5 r.cells c5,aVr w q5 r.vs d5,aI w (gV) aK (aVs r p5 c5 q5 d5),aI w (w.heap.size+1) aK #[(),(),((),()),(),(),(),(),(),(),((),())],aI w w aK (aVs h p a q c2)]from(show Mem w w6 [aI w (g5) aK (aVs r p5 c5 q5 d5),aVq w p5 r.cells c5,aVr w q5 r.vs d5,aJ w TB 1 (q7) (k+1) (c7) (bcs (eH h (ds.take k))++ [.bool ok]),aVq w p3 g.cells c3,aVr w q3 g.vs d3,aI w (gV) aK (aVs r p5 c5 q5 d5),aI w (w.heap.size+1) aK #[(),(),((),()),(),(),(),(),(),(),((),())],aI w w aK (aVs h p a q c2)]from M6).pick [3,1,2,6,7,8] (by decide) rfl)⟩
    case measure=>simp[intOf];omega
  obtain rfl:lm=k:=by omega
  have j:gV<wr:=(HM.hi 3)
  obtain⟨v0,v1,v2,v3,v4,v5,v6,v7,v8,v9⟩:=(HM.bk 3).ten;have f_:=(HM.bk 4).tenf;go_wp2;clear v0 v1 v2 v3 v4 v5 v6 v7 v8 v9 f_ j;have M6:=xQ (HM.put10 (i:=4) rfl (I g.aA) (I g.aB) (.slice p3 g.cells c3) (I g.free) (I g.step) (I g.aD) (I g.aF) (I g.aC) (I g.aG) (.slice q3 g.vs d3));generalize m:World.setCell _ _ _=wz;rw[m]at M6;clear m HM;have y_:=(M6.out.bk 4).ten;exact bodyPost_ret (v:= .tuple #[.agg #[g.aA,g.aB,.slice p3 g.cells c3,g.free,g.step,g.aD,g.aF,g.aC,g.aG,.slice q3 g.vs d3],.slice ps lm cs]) (by simp[results,results88,go_sem, *]) rfl (aJk (by have h1:=HG.out;rw[aTa (by rw[x.out];exact aT5 _)]at h1;exact h1) x.out (M6.out.ow 1) (M6.out.ow 2) (by have h1:=(M6.out.ow 0);rw[aTa (by rw[x.out];exact aT5 _)]at h1;exact h1) M6.out.ext)
theorem aCg (h:aL)(p:OA)(n a:Nat)(q:OA)(m c2:Nat)(lq:OA)(lm lc:Nat)(ds:List Dd3)(w:World)(hi:IsHouse w h p n a q m c2)(hS:Sl w lq lm lc 3 (ds.flatMap cI))(hb:lm≤1048576):
  U 88 #[bG h p n a q m c2,.slice lq lm lc] w (pL w (yM h ds) w):=by
 have hl:=hi.clen;have c:=hi.vlen;have b:ds.length=lm:=by have:=hS.len;rw[dD cI 3 (fun _=>rfl)]at this;omega
 subst hl c;have HV:=xQ fun(w':World) (hx:Ext w w')=>iA h p _ a q _ c2 w' (hi.ext hx)
 by_cases hok:aP h=true
 ·have d:=fA hok;unfold yM;rw[if_pos hok];rw[hok]at HV;have HL:=xQ fun(w':World) (hx:Ext w w')=>mQ h p _ a q _ c2 w' (by omega) (by omega) (hi.ext hx)
  unfold RetHouse at HL;exact aSm h p a q c2 lq lm lc ds w hb b hok hS HV HL
 unfold yM;rw[if_neg hok];rw[show aP h=false by simpa using hok]at HV;exact aQk h p a q c2 lq lm lc ds w HV
theorem jV (aA aB c:Int)(p:OA)(n a:Nat)(w:World)(hn:n≤12):U 138 #[aH aA aB p n a,c] w (O (.bool (decide (0≤c∧c<n))) w):=by
 by_cases h0:0≤c
 ·have d0:decide (0≤c)=true:=by simp[h0]
  by_cases h1:c<n
  ·have d1:decide (c<(n:Int))=true:=by simp[h1]
   go_enter func138,ntmps138;go_wp2;go_ret;exact⟨aT (by simp[h0,h1]),xE⟩
  have d1:decide (c<(n:Int))=false:=by simp;omega
  go_enter func138,ntmps138;go_wp2;go_ret;exact⟨aT (by simp[h0,h1]),xE⟩
 have d0:decide (0≤c)=false:=by simp;omega
 go_enter func138,ntmps138;go_wp2;go_ret;exact⟨aT (by simp[h0]),xE⟩
theorem nS (aA a b:Int)(w:World)(h0:0≤a)(h1:a≤100)(h2:0≤b)(h3:b≤100)(h4:2≤aA)(h5:aA≤4):U 139 #[aA,a,b] w (O (I (aZ aA a b)) w):=by
 have q0: ¬(aA=0):=by omega
 have r1:a.tmod aA=a%aA:=IntWalk.rem_in _ _ h0;have r2:b.tmod aA=b%aA:=IntWalk.rem_in _ _ h2;have d1:IntKind.i64.wrap (a.tdiv aA)=a/aA:=aVe _ _ (by omega);have d2:IntKind.i64.wrap (b.tdiv aA)=b/aA:=aVe _ _ (by omega);have e1:=Int.emod_nonneg a q0;have e2:=Int.emod_nonneg b q0;have e3:=Int.emod_lt_of_pos a (show 0<aA by omega);have e4:=Int.emod_lt_of_pos b (show 0<aA by omega);have e5:=Int.ediv_nonneg h0 (show 0≤aA by omega);have e6:=Int.ediv_nonneg h2 (show 0≤aA by omega);have e7:=Int.ediv_le_self aA h0;have e8:=Int.ediv_le_self aA h2;have s1:IntKind.i64.wrap (max (a%aA-b%aA) (-(a%aA-b%aA))+max (a/aA-b/aA) (-(a/aA-b/aA)))=aZ aA a b:=by rw[aT8 _ (by omega)];unfold aZ rZ;omega
 have s2:=aVw (a%aA-b%aA);have s3:=aVw (a/aA-b/aA);have s4:IntKind.i64.wrap (-(a%aA-b%aA))= -(a%aA-b%aA):=aT8 _ (by omega);have s5:IntKind.i64.wrap (-(a/aA-b/aA))= -(a/aA-b/aA):=aT8 _ (by omega);go_enter func139,ntmps139;go_wp2;go_quiet (fail);go_wp2;go_quiet (fail);go_wp2;go_ret;exact⟨eS rfl,xE⟩
theorem aP3 (aA aB a:Int)(p:OA)(n f:Nat)(w:World)(hn:n≤12)(h0:0≤a)(h1:a<n)
  (HV:xB 42 #[aH aA aB p n f] w true)
  (HH:Hid (∀w',U 138 #[aH aA aB p n f,a] w' (O (.bool true) w')))
  (HA:Hid (∀(k:Nat),k<n→ ∀w',U 139 #[aA,a,k] w' (O (I (aZ aA a k)) w'))):
  U 197 #[aH aA aB p n f,a] w (bC (kN aA n a) w):=by
 go_enter func197,ntmps197;go_wp2_with fail;refine Z (HV _ xE) fun w1 x=>?_
 have B1:=xQ ((Blk.new w TH3 #[aA,aB,.slice p n f]).ext x);have X1:=xQ (show Ext w w1 from xE);obtain⟨b0,b1,b2⟩:=B1.out.cells3;clear x;go_wp2_with fail;refine Z (HH _) fun w2 t=>?_
 clear b0 b1 b2;have B2:=xQ (B1.out.ext t);have X2:=xQ (X1.out.trans t);obtain⟨b0,b1,b2⟩:=B2.out.cells3;clear t B1 X1;go_wp2;go_loopw [5,19] (fun v i wr=> ∃(k:Nat) (q:OA) (m c:Nat),k≤n∧i=I k∧v= .slice q m c∧m≤k∧wr.ownsRow (w.heap.size+1) TI 1 (.slice q m c) m (ivs (fZ (fun b=>decide (aZ aA a b=1)) k))∧Ext w wr∧Blk wr w TH3 #[aA,aB,.slice p n f]) (fun _ i _=>n-(intOf i).toNat)
 case atStart=>exact⟨0,_,0,0,aTd _,rfl,rfl,aT5 _,aTe _ _ _ _,X2.out,B2.out⟩
 case round=>
  clear b0 b1 b2 B2 X2;obtain⟨k,q,m,c,hk,rfl,rfl,ad,l,r,hB⟩:=hrel;have HO:=xQ l;have HB:=xQ hB;clear l hB;obtain⟨b0,b1,b2⟩:=HB.out.cells3;by_cases hlt:k<n
  ·go_wp2_with fail;refine Z (HA k hlt _) fun w1 h1=>?_
   have h:=xQ (aW HO h1);have o:=xQ (HB.out.ext h1);have j:=xQ (r.trans h1);have ab:(w:Nat)<w1:=o.out.lt;clear h1 b0 b1 b2 HO HB r;by_cases hx0:aZ aA a k=1
   ·have t0:(aZ aA a k==1)=true:=by simp[hx0]
    have d:Hid (fZ (fun b=>decide (aZ aA a b=1)) (k+1)=fZ (fun b=>decide (aZ aA a b=1)) k++ [(k:Int)]):=by show _=_;rw[fZ,if_pos (by simpa using hx0)]
    clear hx0;go_wp2_with (at_builtin;refine cW fY rfl _ _ rfl (w.heap.size+1) _ _ _ rfl (h.out.alloc _) _ _ (k:Int) _ rfl (by simp) (by omega) (by first|(simp;done)|(simp;omega)) ?_;intro p' u w2 g s;have z:=xQ g;have aa:Ext w w2:=Ext.own (j.out.alloc _) (h.out.alloc _) s (by omega);have y:=xQ (rW h s o.out);clear g s);go_roundw
    case rel=>exact⟨k+1,p',m+1,u,by omega,by go_num,rfl,by omega,by rw[d.out];exact z.out,aa,y.out⟩
    case measure=>simp[intOf];omega
   have t0:(aZ aA a k==1)=false:=by simp[hx0]
   have d:Hid (fZ (fun b=>decide (aZ aA a b=1)) (k+1)=fZ (fun b=>decide (aZ aA a b=1)) k):=by show _=_;rw[fZ,if_neg (by simpa using hx0),aTv]
   clear hx0;go_wp2;go_roundw
   case rel=>exact⟨k+1,q,m,c,by omega,by go_num,rfl,by omega,by rw[d.out];exact h.out,j.out,o.out⟩
   case measure=>simp[intOf];omega
  have d:Hid (fZ (fun b=>decide (aZ aA a b=1)) k=kN aA n a):=by show _=_;unfold kN;rw[show k=n by omega]
  go_wp2;go_ret;exact dO (by rw[←d.out];have:=HO.out.1;simpa using this) (by rw[←d.out];exact bM HO (Nat.le_succ _)) r
theorem aIy (aA aB a:Int)(p:OA)(n b:Nat)(xs:List Int)(w:World)(hS:Sl w p n b 1 (ivs xs))(c:aN aA aB xs=true)(h0:0≤a)(h1:a<n):
  U 197 #[aH aA aB p n b,a] w (bC (kN aA n a) w):=by
 have hl:=hS.ilen;obtain⟨g1,g2,g3,g4,g5,g6,g7,g8,g9⟩:=bN c;refine aP3 aA aB a p n b w (by omega) h0 h1 (fun w' hx=>by have:=gU aA aB p n b xs w' (hS.ext hx);rwa[c]at this) (fun w'=> ?_) (fun k hk w'=>nS aA a k w' h0 (by omega) (by omega) (by omega) (by omega) (by omega));have:=jV aA aB a p n b w' (by omega);rwa[decide_eq_true (⟨h0,h1⟩:0≤a∧a<n)]at this
end Go.Proofs.YthfmmibomhhmpaaGreatDoor
