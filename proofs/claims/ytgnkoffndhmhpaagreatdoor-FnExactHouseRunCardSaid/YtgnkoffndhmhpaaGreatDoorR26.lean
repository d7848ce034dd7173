/-
  Texts of this proof, packed (@packed).
-/
import Derived.Deep.CutBlock
import Derived.Test.YtgnkoffndhmhpaaGreatDoorR8
import Derived.Test.YtgnkoffndhmhpaaGreatDoorR10
import Derived.Test.YtgnkoffndhmhpaaGreatDoorR24
import Derived.Test.YtgnkoffndhmhpaaGreatDoorR25
namespace Go.Proofs.YtgnkoffndhmhpaaGreatDoor
open Go.RowKit
set_option linter.unusedVariables false
set_option linter.unusedSimpArgs false
theorem Mem.own2blk {w0 w w':World}{L:List Item}{e1 e2 t:TypeId}{s1 s2 n1 n2 c1 c2 g:Nat}{q1 q2:OA}{xs1 xs2:List Value}{cs:Array Value}(h:Mem w0 w L)(hx:Ext w w')(hb:Blk w' g t cs)(hg:w.heap.size≤g)(h1:w'.ownsRow w.heap.size e1 s1 (.slice q1 n1 c1) n1 xs1)(h2:w'.ownsRow w.heap.size e2 s2 (.slice q2 n2 c2) n2 xs2)(ht:e1≠e2)(t1:e1≠t)(t2:e2≠t):
  Mem w0 w' (aJ w0.heap.size e1 s1 q1 n1 c1 xs1::aJ w0.heap.size e2 s2 q2 n2 c2 xs2::aL w0.heap.size g t cs::L):=by
 have far: ∀ {e:TypeId} {s n c:Nat} {q:OA} {xs:List Value},w'.ownsRow w.heap.size e s (.slice q n c) n xs→e≠t→(Value.slice q n c).ownBlock≠Option.some g:=by
  intro e s n c q xs ho hne he
  rcases ho.2 with⟨b1,_⟩|⟨g1,cap1,cur1,b1,_,b3,_⟩
  ·rw[b1]at he;cases he
  ·rw[b1]at he
   injection he with he
   have x1:g1=g:=he
   subst x1
   unfold Blk at hb
   rw[hb]at b3
   injection b3 with b3;injection b3 with _ b3
   exact hne b3.symm
 have H:=h.own2 hx h1 h2 (Nat.le_refl _) ht
 have p1:=List.pairwise_cons.1 H.apart
 have p2:=List.pairwise_cons.1 p1.2
 have HB:=h.blkOf hx hb hg
 have H2:Mem w0 w' (aJ w0.heap.size e2 s2 q2 n2 c2 xs2::aL w0.heap.size g t cs::L):=HB.cons (gJ _ _ _ _ _ _ _) (eO h2 h.ext.sz) (fun g' hg' j hj e=>by
  rcases List.mem_cons.1 hj with rfl|hj
  ·obtain rfl:g=g':=e
   exact far h2 t2 hg'
  ·exact p2.1 j hj g' hg' e)
 exact H2.cons (gJ _ _ _ _ _ _ _) (eO h1 h.ext.sz) (fun g' hg' j hj e=>by
  rcases List.mem_cons.1 hj with rfl|hj
  ·exact p1.1 _ (by simp) g' hg' e
  ·rcases List.mem_cons.1 hj with rfl|hj
   ·obtain rfl:g=g':=e
    exact far h1 t1 hg'
   ·exact p1.1 j (by simp[hj]) g' hg' e)
def hZ:aT:=⟨0,0,[],0,0,0,0,0,0,[]⟩
def doR (h:aT)(k a b:Int):aT×Int×Bool:=
 if bK h=true then(match cG h k a b with
  |none=>(h,-1,false)
  |some (h',n)=>(h',n,true))else(hZ,-1,false)
def aJp (B:Nat)(r:aT×Int×Bool)(w':World)(e:Ending)(w'':World):Prop:=
 ∃pa ca qa da,e= .returned (.tuple #[bS r.1 pa r.1.cells.length ca qa r.1.vs.length da,r.2.1,.bool r.2.2])∧w''.ownsRow B TI 1 (.slice pa r.1.cells.length ca) r.1.cells.length (ivs r.1.cells)∧w''.ownsRow B TV 4 (.slice qa r.1.vs.length da) r.1.vs.length (r.1.vs.flatMap aD)∧Ext w' w''
theorem aCf {h:aT}{k a b:Int}{w w':World}{e:Ending}{B:Nat}(hB:B≤w.heap.size)(hok:bK h=true)(hr:aCz h (cG h k a b) w e w'):aJp B (doR h k a b) w e w':=by
 unfold doR
 rw[if_pos hok]
 unfold aCz at hr
 cases hd:cG h k a b with
 |none=>
  rw[hd]at hr
  obtain⟨pa,ca,qa,da,rfl,o1,o2,hx⟩:=hr
  exact⟨pa,ca,qa,da,rfl,eO o1 hB,eO o2 hB,hx⟩
 |some r=>
  obtain⟨h',n⟩:=r
  rw[hd]at hr
  obtain⟨pa,ca,qa,da,rfl,o1,o2,hx⟩:=hr
  exact⟨pa,ca,qa,da,rfl,eO o1 hB,eO o2 hB,hx⟩
abbrev TB:TypeId:=4
def bcs (bs:List Bool):List Value:=bs.map .bool
theorem aCv (bs:List Bool):(bcs bs).length=bs.length:=by simp[bcs]
theorem zY (bs:List Bool)(b:Bool):bcs (bs++ [b])=bcs bs++ [.bool b]:=by simp[bcs]
theorem elB:ElT Tryz.prog 43 TB 1:=
 ⟨Tryz.underlying43,by
  obtain⟨i,hi,h0,h1,h2⟩:=info_parts (show(Tryz.prog.info? TB).map (fun i=>(i.zero,i.size,i.bytes))=some (some (.bool false),1,1) by kernel_rfl)
  exact⟨i,_,hi,h0,h1,by omega,rfl⟩,by omega⟩
def rT (h:aT)(d:Dd3):aT:=(doR h d.1 d.2.1 d.2.2).1
def nY (h:aT)(ds:List Dd3):aT:=ds.foldl rT h
def eK:aT→List Dd3→List Bool
 |_,[]=> []
 |h,d::ds=>(doR h d.1 d.2.1 d.2.2).2.2::eK (rT h d) ds
theorem tS (h:aT)(l:List Dd3)(d:Dd3):nY h (l++ [d])=(doR (nY h l) d.1 d.2.1 d.2.2).1:=by simp[nY,rT]
theorem sK: ∀(l:List Dd3) (h:aT) (d:Dd3),eK h (l++ [d])=eK h l++ [(doR (nY h l) d.1 d.2.1 d.2.2).2.2]:=by
 intro l
 induction l with
 |nil=>intro h d;rfl
 |cons x l ih=>intro h d;show _::eK (rT h x) (l++ [d])=_;rw[ih];rfl
theorem pR: ∀(l:List Dd3) (h:aT),(eK h l).length=l.length:=by
 intro l
 induction l with
 |nil=>intro h;rfl
 |cons x l ih=>intro h;show(eK (rT h x) l).length+1=_;rw[ih];rfl
theorem aG4 {h:aT}(hok:bK h=true)(d:Dd3):bK (rT h d)=true:=by
 unfold rT doR
 rw[if_pos hok]
 cases hd:cG h d.1 d.2.1 d.2.2 with
 |none=>exact hok
 |some r=>obtain⟨h',n⟩:=r;exact(sD hok hd).1
theorem vJ: ∀(l:List Dd3) {h:aT},bK h=true→bK (nY h l)=true:=by
 intro l
 induction l with
 |nil=>intro h hok;exact hok
 |cons x l ih=>intro h hok;exact ih (aG4 hok x)
def mU (h:aT)(ds:List Dd3):aT×List Bool:=if bK h=true then(nY h ds,eK h ds)else(hZ,[])
def lG (B:Nat)(r:aT×List Bool)(w':World)(e:Ending)(w'':World):Prop:=
 ∃pa ca qa da ps cs,e= .returned (.tuple #[bS r.1 pa r.1.cells.length ca qa r.1.vs.length da,.slice ps r.2.length cs])∧w''.ownsRow B TI 1 (.slice pa r.1.cells.length ca) r.1.cells.length (ivs r.1.cells)∧w''.ownsRow B TV 4 (.slice qa r.1.vs.length da) r.1.vs.length (r.1.vs.flatMap aD)∧w''.ownsRow B TB 1 (.slice ps r.2.length cs) r.2.length (bcs r.2)∧Ext w' w''
theorem xZ (h:aT)(ds:List Dd3):(mU h ds).1.cells.length≤1000∧(mU h ds).1.vs.length≤1000∧(mU h ds).2.length≤ds.length:=by
 unfold mU
 by_cases hok:bK h=true
 ·rw[if_pos hok]
  have:=iQ (vJ ds hok)
  dsimp only
  rw[pR]
  omega
 ·rw[if_neg hok];simp[hZ]
set_option maxHeartbeats 8000000
set_option maxRecDepth 100000
theorem aCe {B:Nat}{h g:aT}{ds:List Dd3}{lm:Nat}{pa qa ps:OA}{ca da cs:Nat}{w' w'':World}(hg:g=nY h ds)(hl:ds.length=lm)(o1:w''.ownsRow B TI 1 (.slice pa g.cells.length ca) g.cells.length (ivs g.cells))(o2:w''.ownsRow B TV 4 (.slice qa g.vs.length da) g.vs.length (g.vs.flatMap aD))(o3:w''.ownsRow B TB 1 (.slice ps lm cs) lm (bcs (eK h ds)))(hx:Ext w' w''):
  lG B (nY h ds,eK h ds) w' (.returned (.tuple #[bS g pa g.cells.length ca qa g.vs.length da,.slice ps lm cs])) w'':=by
 subst hg
 have hd:(eK h ds).length=lm:=by rw[pR,hl]
 subst hd
 exact⟨pa,ca,qa,da,ps,cs,rfl,o1,o2,o3,hx⟩
theorem aIb {l:List Value}{k n:Nat}(hl:l.length=k)(hk:k<n):(l++List.replicate (n-k) (Value.bool false))[k]? =some (Value.bool false):=by
 rw[List.getElem?_append_right (by omega),hl,Nat.sub_self]
 simp[List.getElem?_replicate];omega
theorem aHa {l:List Value}{k n:Nat}{b:Value}(hl:l.length=k)(hk:k<n):(l++List.replicate (n-k) (Value.bool false)).set k b=(l++ [b])++List.replicate (n-(k+1)) (Value.bool false):=by
 obtain⟨j,rfl⟩: ∃j,n=k+1+j:=⟨n-(k+1),by omega⟩
 rw[show k+1+j-k=j+1 by omega,show k+1+j-(k+1)=j by omega,List.set_append,if_neg (by omega),hl,Nat.sub_self,List.replicate_succ]
 simp
theorem aHt (h:aT)(p:OA)(cap:Nat)(q:OA)(c2:Nat)(lq:OA)(lm lc:Nat)(ds:List Dd3)(w:World)
  (HVd:xC 40 #[.agg #[h.aA,h.aB,.slice p h.cells.length cap,h.free,h.step,h.aE,h.aF,h.aC,h.aG,.slice q h.vs.length c2]] w fun w' e w''=>e= .returned (Value.bool false)∧Ext w' w''):
  Calls Tryz.prog 18 #[.agg #[h.aA,h.aB,.slice p h.cells.length cap,h.free,h.step,h.aE,h.aF,h.aC,h.aG,.slice q h.vs.length c2],.slice lq lm lc] w (lG w.heap.size (hZ,[]) w):=by
 go_enter Tryz.func18,Tryz.ntmps18
 go_wp2_with fail
 refine(HVd.out _ (((((((Mem.start w).blkNew aO #[h.aA,h.aB,.slice p h.cells.length cap,h.free,h.step,h.aE,h.aF,h.aC,h.aG,.slice q h.vs.length c2] (w.heap.size) (by simp))).blkNew aO #[(),(),((),()),(),(),(),(),(),(),((),())] (w.heap.size+1) (by simp))).made0 TB 1 (w.heap.size+1+1) (by simp))).ext).mono ?_
 rintro e w1 ⟨rfl,hx1⟩
 have M1:=xQ ((((((((Mem.start w).blkNew aO #[h.aA,h.aB,.slice p h.cells.length cap,h.free,h.step,h.aE,h.aF,h.aC,h.aG,.slice q h.vs.length c2] (w.heap.size) (by simp))).blkNew aO #[(),(),((),()),(),(),(),(),(),(),((),())] (w.heap.size+1) (by simp))).made0 TB 1 (w.heap.size+1+1) (by simp))).adv hx1)
 have lt1_1:=M1.out.hi 1
 have lt1_2:=M1.out.hi 2
 clear hx1 HVd
 obtain⟨f0,ff0,f1,ff1,f2,ff2,f3,ff3,f4,ff4,f5,ff5,f6,ff6,f7,ff7,f8,ff8,f9,ff9⟩:=(M1.out.blk (i:=1) rfl).tenf
 go_wp2
 clear f0 ff0 f1 ff1 f2 ff2 f3 ff3 f4 ff4 f5 ff5 f6 ff6 f7 ff7 f8 ff8 f9 ff9 lt1_1 lt1_2
 have M2:=xQ (((M1.out).put10 (i:=1) rfl (.int .i64 0) (.int .i64 0) (.slice none 0 0) (.int .i64 0) (.int .i64 0) (.int .i64 0) (.int .i64 0) (.int .i64 0) (.int .i64 0) (.slice none 0 0)))
 generalize hwz:World.setCell _ _ _=wz
 rw[hwz]at M2
 clear hwz M1
 obtain⟨y0,y1,y2,y3,y4,y5,y6,y7,y8,y9⟩:=(M2.out.blk (i:=1) rfl).ten
 exact bodyPost_ret (v:= .tuple #[.agg #[(),(),((),()),(),(),(),(),(),(),((),())],.slice (some ⟨w.heap.size+1+1,0,none⟩) 0 0]) (by simp[results,Tryz.results18,go_sem, *]) rfl (show lG w.heap.size (hZ,[]) w _ _ from⟨none,0,none,0,_,0,rfl,World.ownsRow_nil _ _ _ _,World.ownsRow_nil _ _ _ _,(M2.out.own (i:=0) rfl),M2.out.ext⟩)
theorem aJa (h:aT)(p:OA)(cap:Nat)(q:OA)(c2:Nat)(lq:OA)(lm lc:Nat)(ds:List Dd3)(w:World)(hb:lm≤1048576)(hlm:Hid (ds.length=lm))(hok:Hid (bK h=true))(HS:Hid (Sl w lq lm lc 3 (ds.flatMap aX)))
  (HVd:xB 40 #[.agg #[h.aA,h.aB,.slice p h.cells.length cap,h.free,h.step,h.aE,h.aF,h.aC,h.aG,.slice q h.vs.length c2]] w true)
  (HL:xC 60 #[.agg #[h.aA,h.aB,.slice p h.cells.length cap,h.free,h.step,h.aE,h.aF,h.aC,h.aG,.slice q h.vs.length c2]] w fun w' e w''=> ∃p' cap' q' c2',e= .returned (.agg #[h.aA,h.aB,.slice p' h.cells.length cap',h.free,h.step,h.aE,h.aF,h.aC,h.aG,.slice q' h.vs.length c2'])∧w''.ownsRow w'.heap.size TI 1 (.slice p' h.cells.length cap') h.cells.length (ivs h.cells)∧w''.ownsRow w'.heap.size TV 4 (.slice q' h.vs.length c2') h.vs.length (h.vs.flatMap aD)∧Ext w' w''):
  Calls Tryz.prog 18 #[.agg #[h.aA,h.aB,.slice p h.cells.length cap,h.free,h.step,h.aE,h.aF,h.aC,h.aG,.slice q h.vs.length c2],.slice lq lm lc] w (lG w.heap.size (nY h ds,eK h ds) w):=by
 go_enter Tryz.func18,Tryz.ntmps18
 go_wp2_with fail
 refine(HVd.out _ (((((((Mem.start w).blkNew aO #[h.aA,h.aB,.slice p h.cells.length cap,h.free,h.step,h.aE,h.aF,h.aC,h.aG,.slice q h.vs.length c2] (w.heap.size) (by simp))).blkNew aO #[(),(),((),()),(),(),(),(),(),(),((),())] (w.heap.size+1) (by simp))).made0 TB 1 (w.heap.size+1+1) (by simp))).ext).mono ?_
 rintro e w1 ⟨rfl,hx1⟩
 have M1:=xQ ((((((((Mem.start w).blkNew aO #[h.aA,h.aB,.slice p h.cells.length cap,h.free,h.step,h.aE,h.aF,h.aC,h.aG,.slice q h.vs.length c2] (w.heap.size) (by simp))).blkNew aO #[(),(),((),()),(),(),(),(),(),(),((),())] (w.heap.size+1) (by simp))).made0 TB 1 (w.heap.size+1+1) (by simp))).adv hx1)
 have lt1_1:=M1.out.hi 1
 have lt1_2:=M1.out.hi 2
 clear hx1 HVd
 obtain⟨ce0,ce1,ce2,ce3,ce4,ce5,ce6,ce7,ce8,ce9⟩:=(M1.out.blk (i:=2) rfl).ten
 go_wp2_with fail
 clear ce0 ce1 ce2 ce3 ce4 ce5 ce6 ce7 ce8 ce9
 refine(HL.out _ (M1.out).ext).mono ?_
 rintro e w2 ⟨p1,cp1,q1,cq1,rfl,ho,hq,hx⟩
 have M2:=xQ ((M1.out).own2 hx ho hq (Nat.le_refl _) (by decide))
 clear M1 lt1_1 lt1_2
 have lt2_3:=M2.out.hi 3
 have lt2_4:=M2.out.hi 4
 clear hx ho hq HL
 go_upto_region 5 with fail
 obtain⟨gV,hgV⟩: ∃gV,gV=w2.heap.size:=⟨_,rfl⟩
 rw[←hgV]
 have M3:=xQ (((M2.out).blkNew aO #[h.aA,h.aB,.slice p1 h.cells.length cp1,h.free,h.step,h.aE,h.aF,h.aC,h.aG,.slice q1 h.vs.length cq1] gV hgV.symm))
 generalize World.alloc _ _=w3 at M3⊢
 clear M2 lt2_3 lt2_4
 have lt3_0:=M3.out.hi 0
 have lt3_4:=M3.out.hi 4
 have lt3_5:=M3.out.hi 5
 clear hgV
 go_wp2
 go_loopw [6,8] (fun dn i wr=> ∃(k:Nat) (g:aT) (p3:OA) (c3:Nat) (q3:OA) (d3:Nat) (ps:OA) (cs:Nat),k≤lm∧i= .int .i64 (k:Int)∧dn= .slice ps k cs∧g=nY h (ds.take k)∧Mem w wr [aJ w.heap.size TB 1 (ps) (k) (cs) (bcs (eK h (ds.take k))),aJ w.heap.size TI 1 (p3) (g.cells.length) (c3) (ivs g.cells),aJ w.heap.size TV 4 (q3) (g.vs.length) (d3) (g.vs.flatMap aD),aL w.heap.size (gV) aO #[g.aA,g.aB,.slice p3 g.cells.length c3,g.free,g.step,g.aE,g.aF,g.aC,g.aG,.slice q3 g.vs.length d3],aL w.heap.size (w.heap.size+1) aO #[(),(),((),()),(),(),(),(),(),(),((),())],aL w.heap.size (w.heap.size) aO #[h.aA,h.aB,.slice p h.cells.length cap,h.free,h.step,h.aE,h.aF,h.aC,h.aG,.slice q h.vs.length c2]]) (fun _ i _=>lm-(intOf i).toNat)
 case atStart=>exact⟨0,h,p1,cp1,q1,cq1,_,_,Nat.zero_le _,rfl,rfl,rfl,(show Mem w w3 [aJ w.heap.size TB 1 (some ⟨w.heap.size+1+1,0,none⟩) (0) (0) ([]),aJ w.heap.size TI 1 (p1) (h.cells.length) (cp1) (ivs h.cells),aJ w.heap.size TV 4 (q1) (h.vs.length) (cq1) (h.vs.flatMap aD),aL w.heap.size (gV) aO #[h.aA,h.aB,.slice p1 h.cells.length cp1,h.free,h.step,h.aE,h.aF,h.aC,h.aG,.slice q1 h.vs.length cq1],aL w.heap.size (w.heap.size+1) aO #[(),(),((),()),(),(),(),(),(),(),((),())],aL w.heap.size (w.heap.size) aO #[h.aA,h.aB,.slice p h.cells.length cap,h.free,h.step,h.aE,h.aF,h.aC,h.aG,.slice q h.vs.length c2]]from(M3.out).pick [3,1,2,0,4,5] (by decide) rfl)⟩
 case round=>
  clear M3
  obtain⟨k,g,p3,c3,q3,d3,ps,cs,hk,rfl,rfl,hg,hM⟩:=hrel
  have HM:=xQ hM
  have HG:=xQ hg
  have HOK:Hid (bK g=true):=by show _=_;rw[hg];exact vJ _ hok.out
  clear hM hg
  by_cases hlt:k<lm
  ·obtain⟨b,off,a0,a1,a2,hlq,hx,hb2,e0,e1,e2⟩:=qV (HS.out.ext HM.out.ext) hlt
   subst hlq
   have HX:=xQ hx
   clear hx
   have i1:(0:Int)≤(k:Int):=by omega
   have i2:(k:Int)<(lm:Int):=by omega
   obtain⟨r,num,ok,hr⟩: ∃r num ok,(r,num,ok)=doR g a0 a1 a2:=⟨_,_,_,rfl⟩
   have HR:=xQ hr
   clear hr
   have hst:Hid (nY h (ds.take (k+1))=r∧eK h (ds.take (k+1))=eK h (ds.take k)++ [ok]):=by
    show _∧_
    rw[bF HX.out,tS,sK,←HG.out,←HR.out]
    exact⟨rfl,rfl⟩
   have HD:Hid (∀B p c q d w',B≤w'.heap.size→Ext wr w'→IsHouse w' g p g.cells.length c q g.vs.length d→Calls Tryz.prog 28 #[.agg #[g.aA,g.aB,.slice p g.cells.length c,g.free,g.step,g.aE,g.aF,g.aC,g.aG,.slice q g.vs.length d],.agg #[a0,a1,a2]] w' fun e w''=> ∃pa ca qa da,e= .returned (.tuple #[.agg #[r.aA,r.aB,.slice pa r.cells.length ca,r.free,r.step,r.aE,r.aF,r.aC,r.aG,.slice qa r.vs.length da],num,.bool ok])∧w''.ownsRow B TI 1 (.slice pa r.cells.length ca) r.cells.length (ivs r.cells)∧w''.ownsRow B TV 4 (.slice qa r.vs.length da) r.vs.length (r.vs.flatMap aD)∧Ext w' w''):=fun B p c q d w' hB hx hi=>by
    refine(xG g a0 a1 a2 p _ c q _ d w' hi HOK.out).mono (fun e w'' hr=> ?_)
    have hq:=aCf hB HOK.out hr
    rw[←HR.out]at hq
    exact hq
   have IX:=xQ (show IsHouse wr g p3 g.cells.length c3 q3 g.vs.length d3 from⟨(HM.out.sl (i:=1) rfl),(HM.out.sl (i:=2) rfl)⟩)
   have lt5_3:gV<wr.heap.size:=(HM.out.lt (i:=3) rfl rfl).2
   have lt5_4:w.heap.size+1<wr.heap.size:=(HM.out.lt (i:=4) rfl rfl).2
   have lt5_5:w.heap.size<wr.heap.size:=(HM.out.lt (i:=5) rfl rfl).2
   obtain⟨ka0,ka1,ka2,ka3,ka4,ka5,ka6,ka7,ka8,ka9⟩:=(HM.out.blk (i:=3) rfl).ten
   have nca1: ¬(gV=wr.heap.size):=by omega
   have nca2: ¬(wr.heap.size=gV):=by omega
   have ncb1: ¬(b=wr.heap.size):=by omega
   have ncb2: ¬(wr.heap.size=b):=by omega
   have xm:=HM.out.ext
   go_upto_region 8 with fail
   go_cut [9,10,11] (fun s1 s2 s3 wx=> ∃(g5:Nat) (p5:OA) (c5:Nat) (q5:OA) (d5:Nat),s1= .pointer (some ⟨g5,0,none⟩)∧s2= .int .i64 num∧s3= .bool ok∧Mem w wx [aL w.heap.size (g5) aO #[r.aA,r.aB,.slice p5 r.cells.length c5,r.free,r.step,r.aE,r.aF,r.aC,r.aG,.slice q5 r.vs.length d5],aJ w.heap.size TI 1 (p5) (r.cells.length) (c5) (ivs r.cells),aJ w.heap.size TV 4 (q5) (r.vs.length) (d5) (r.vs.flatMap aD),aJ w.heap.size TB 1 (ps) (k) (cs) (bcs (eK h (ds.take k))),aJ w.heap.size TI 1 (p3) (g.cells.length) (c3) (ivs g.cells),aJ w.heap.size TV 4 (q3) (g.vs.length) (d3) (g.vs.flatMap aD),aL w.heap.size (gV) aO #[g.aA,g.aB,.slice p3 g.cells.length c3,g.free,g.step,g.aE,g.aF,g.aC,g.aG,.slice q3 g.vs.length d3],aL w.heap.size (w.heap.size+1) aO #[(),(),((),()),(),(),(),(),(),(),((),())],aL w.heap.size (w.heap.size) aO #[h.aA,h.aB,.slice p h.cells.length cap,h.free,h.step,h.aE,h.aF,h.aC,h.aG,.slice q h.vs.length c2]])
   case first=>
    go_region_held3 (fun w'=>w'.cell? ⟨gV,0,none⟩=some (.int .i64 g.aA)∧w'.cell? ⟨gV,1,none⟩=some (.int .i64 g.aB)∧w'.cell? ⟨gV,2,none⟩=some (.slice p3 g.cells.length c3)∧w'.cell? ⟨gV,3,none⟩=some (.int .i64 g.free)∧w'.cell? ⟨gV,4,none⟩=some (.int .i64 g.step)∧w'.cell? ⟨gV,5,none⟩=some (.int .i64 g.aE)∧w'.cell? ⟨gV,6,none⟩=some (.int .i64 g.aF)∧w'.cell? ⟨gV,7,none⟩=some (.int .i64 g.aC)∧w'.cell? ⟨gV,8,none⟩=some (.int .i64 g.aG)∧w'.cell? ⟨gV,9,none⟩=some (.slice q3 g.vs.length d3)∧w'.cell? ⟨b,off+k*3,none⟩=some (.int .i64 a0)∧w'.cell? ⟨b,off+k*3+1,none⟩=some (.int .i64 a1)∧w'.cell? ⟨b,off+k*3+2,none⟩=some (.int .i64 a2))
     (first|(refine⟨?_,?_,?_,?_,?_,?_,?_,?_,?_,?_,?_,?_,?_⟩<;>with_reducible assumption)|go_keep)
     (first
      |(go_at_call 28
        refine(HD.out wr.heap.size _ _ _ _ _ (Ext.sz (show Ext wr _ from xE)) xE (IX.out.ext xE)).mono ?_
        rintro e ws ⟨p5,c5,q5,d5,rfl,os,vs_,hxs⟩
        have hys:Ext wr ws:=xE
        obtain⟨sa0,sa1,sa2,sa3,sa4,sa5,sa6,sa7,sa8,sa9⟩:=(((HM.out.blk (i:=3) rfl)).ext hys).ten
        have sd0:ws.cell? ⟨b,off+k*3,none⟩=some (.int .i64 a0):=(hys.cells.1 _ _ hb2).trans e0
        have sd1:ws.cell? ⟨b,off+k*3+1,none⟩=some (.int .i64 a1):=(hys.cells.1 _ _ hb2).trans e1
        have sd2:ws.cell? ⟨b,off+k*3+2,none⟩=some (.int .i64 a2):=(hys.cells.1 _ _ hb2).trans e2
        have nsa1: ¬(gV=ws.heap.size):=by have:=hys.sz;omega
        have nsa2: ¬(ws.heap.size=gV):=by have:=hys.sz;omega
        have nsb1: ¬(b=ws.heap.size):=by have:=hys.sz;omega
        have nsb2: ¬(ws.heap.size=b):=by have:=hys.sz;omega
        first
         |(with_reducible have hz:Ext (wr.alloc (.cells #[(),(),((),()),(),(),(),(),(),(),((),())] aO)) ws:=hxs;have MB:=xQ (Mem.own2blk HM.out hys ((Blk.new wr aO #[(),(),((),()),(),(),(),(),(),(),((),())]).ext hz) (Nat.le_refl _) os vs_ (by decide) (by decide) (by decide));obtain⟨zc0,zf0,zc1,zf1,zc2,zf2,zc3,zf3,zc4,zf4,zc5,zf5,zc6,zf6,zc7,zf7,zc8,zf8,zc9,zf9⟩:=(MB.out.blk (i:=2) rfl).tenf)
         |(with_reducible have hz:Ext (wr.alloc (.cells #[(),(),((),()),(),(),(),(),(),(),((),())] aO)) ws:=hxs.of_drew;have MB:=xQ (Mem.own2blk HM.out hys ((Blk.new wr aO #[(),(),((),()),(),(),(),(),(),(),((),())]).ext hz) (Nat.le_refl _) os vs_ (by decide) (by decide) (by decide));obtain⟨zc0,zf0,zc1,zf1,zc2,zf2,zc3,zf3,zc4,zf4,zc5,zf5,zc6,zf6,zc7,zf7,zc8,zf8,zc9,zf9⟩:=(MB.out.blk (i:=2) rfl).tenf)
         |(have MA:=xQ (Mem.own2 HM.out hys os vs_ (Nat.le_refl _) (by decide)))))
    all_goals (
     go_wp2_with fail
     go_meet
     first
      |exact⟨_,p5,c5,q5,d5,rfl,rfl,rfl,(MB.out.put10 (i:=2) rfl (.int .i64 r.aA) (.int .i64 r.aB) (.slice p5 r.cells.length c5) (.int .i64 r.free) (.int .i64 r.step) (.int .i64 r.aE) (.int .i64 r.aF) (.int .i64 r.aC) (.int .i64 r.aG) (.slice q5 r.vs.length d5)).pick [2,0,1,3,4,5,6,7,8] (by decide) rfl⟩
      |exact⟨_,p5,c5,q5,d5,rfl,rfl,rfl,MA.out.blkNew aO #[r.aA,r.aB,.slice p5 r.cells.length c5,r.free,r.step,r.aE,r.aF,r.aC,r.aG,.slice q5 r.vs.length d5] _ rfl⟩)
   case rest=>
    clear ka0 ka1 ka2 ka3 ka4 ka5 ka6 ka7 ka8 ka9 nca1 nca2 ncb1 ncb2 xm e0 e1 e2 HD IX
    obtain⟨g5,p5,c5,q5,d5,rfl,rfl,rfl,hM5⟩:=hcut
    obtain⟨v5,rfl⟩: ∃z,z=wc:=⟨_,rfl⟩
    have MC:=xQ hM5
    clear hM5 HM lt5_3 lt5_4 lt5_5
    have lt20_0:g5<v5.heap.size:=(MC.out.lt (i:=0) rfl rfl).2
    have lt20_6:gV<v5.heap.size:=(MC.out.lt (i:=6) rfl rfl).2
    have lt20_7:w.heap.size+1<v5.heap.size:=(MC.out.lt (i:=7) rfl rfl).2
    have lt20_8:w.heap.size<v5.heap.size:=(MC.out.lt (i:=8) rfl rfl).2
    obtain⟨x0,x1,x2,x3,x4,x5,x6,x7,x8,x9⟩:=(MC.out.blk (i:=0) rfl).ten
    obtain⟨v0,vf0,v1,vf1,v2,vf2,v3,vf3,v4,vf4,v5,vf5,v6,vf6,v7,vf7,v8,vf8,v9,vf9⟩:=(MC.out.blk (i:=6) rfl).tenf
    have ne0_1a: ¬(g5=gV):=MC.out.ne (i:=0) (j:=6) (by omega) rfl rfl rfl rfl
    have ne0_1b: ¬(gV=g5):=fun h=>ne0_1a h.symm
    go_upto_region 10 with fail
    clear x0 x1 x2 x3 x4 x5 x6 x7 x8 x9 v0 vf0 v1 vf1 v2 vf2 v3 vf3 v4 vf4 v5 vf5 v6 vf6 v7 vf7 v8 vf8 v9 vf9 ne0_1a ne0_1b
    have M21:=xQ (((MC.out).put10 (i:=6) rfl (.int .i64 r.aA) (.int .i64 r.aB) (.slice p5 r.cells.length c5) (.int .i64 r.free) (.int .i64 r.step) (.int .i64 r.aE) (.int .i64 r.aF) (.int .i64 r.aC) (.int .i64 r.aG) (.slice q5 r.vs.length d5)))
    generalize hwz:World.setCell _ _ _=wz
    rw[hwz]at M21
    clear hwz MC lt20_0 lt20_6 lt20_7 lt20_8
    go_wp2_with (at_builtin;go_loud (refine bX elB rfl _ _ rfl (M21.out.adv ((Ext.refl _).alloc (.cells #[.bool ok] TB))) 3 rfl rfl [.bool ok] rfl (dM _ _ _ 1 1 _ (by first|rfl|simp) (by first|rfl|simp) (by simp[maxLen])) (fun u hu=>by obtain rfl:=List.mem_singleton.1 hu;rfl) (by omega) ?_;intro q7 c7 w6 M6))
    go_roundw
    case rel=>
     have hd:bcs (eK h (ds.take (k+1)))=bcs (eK h (ds.take k))++ [.bool ok]:=by rw[hst.out.2,zY]
     exact⟨k+1,r,p5,c5,q5,d5,q7,c7,by omega,by go_num,rfl,hst.out.1.symm,by rw[hd];exact(show Mem w w6 [aJ w.heap.size TB 1 (q7) (k+1) (c7) (bcs (eK h (ds.take k))++ [.bool ok]),aJ w.heap.size TI 1 (p5) (r.cells.length) (c5) (ivs r.cells),aJ w.heap.size TV 4 (q5) (r.vs.length) (d5) (r.vs.flatMap aD),aL w.heap.size (gV) aO #[r.aA,r.aB,.slice p5 r.cells.length c5,r.free,r.step,r.aE,r.aF,r.aC,r.aG,.slice q5 r.vs.length d5],aL w.heap.size (w.heap.size+1) aO #[(),(),((),()),(),(),(),(),(),(),((),())],aL w.heap.size (w.heap.size) aO #[h.aA,h.aB,.slice p h.cells.length cap,h.free,h.step,h.aE,h.aF,h.aC,h.aG,.slice q h.vs.length c2]]from(show Mem w w6 [aL w.heap.size (g5) aO #[r.aA,r.aB,.slice p5 r.cells.length c5,r.free,r.step,r.aE,r.aF,r.aC,r.aG,.slice q5 r.vs.length d5],aJ w.heap.size TI 1 (p5) (r.cells.length) (c5) (ivs r.cells),aJ w.heap.size TV 4 (q5) (r.vs.length) (d5) (r.vs.flatMap aD),aJ w.heap.size TB 1 (q7) (k+1) (c7) (bcs (eK h (ds.take k))++ [.bool ok]),aJ w.heap.size TI 1 (p3) (g.cells.length) (c3) (ivs g.cells),aJ w.heap.size TV 4 (q3) (g.vs.length) (d3) (g.vs.flatMap aD),aL w.heap.size (gV) aO #[r.aA,r.aB,.slice p5 r.cells.length c5,r.free,r.step,r.aE,r.aF,r.aC,r.aG,.slice q5 r.vs.length d5],aL w.heap.size (w.heap.size+1) aO #[(),(),((),()),(),(),(),(),(),(),((),())],aL w.heap.size (w.heap.size) aO #[h.aA,h.aB,.slice p h.cells.length cap,h.free,h.step,h.aE,h.aF,h.aC,h.aG,.slice q h.vs.length c2]]from M6).pick [3,1,2,6,7,8] (by decide) rfl)⟩
    case measure=>simp[intOf];omega
  ·obtain rfl:lm=k:=by omega
   have lt5_3:gV<wr.heap.size:=(HM.out.lt (i:=3) rfl rfl).2
   have lt5_4:w.heap.size+1<wr.heap.size:=(HM.out.lt (i:=4) rfl rfl).2
   have lt5_5:w.heap.size<wr.heap.size:=(HM.out.lt (i:=5) rfl rfl).2
   obtain⟨v0,v1,v2,v3,v4,v5,v6,v7,v8,v9⟩:=(HM.out.blk (i:=3) rfl).ten
   obtain⟨f0,ff0,f1,ff1,f2,ff2,f3,ff3,f4,ff4,f5,ff5,f6,ff6,f7,ff7,f8,ff8,f9,ff9⟩:=(HM.out.blk (i:=4) rfl).tenf
   have ne0_1a: ¬(gV=w.heap.size+1):=HM.out.ne (i:=3) (j:=4) (by omega) rfl rfl rfl rfl
   have ne0_1b: ¬(w.heap.size+1=gV):=fun h=>ne0_1a h.symm
   go_wp2
   clear v0 v1 v2 v3 v4 v5 v6 v7 v8 v9 f0 ff0 f1 ff1 f2 ff2 f3 ff3 f4 ff4 f5 ff5 f6 ff6 f7 ff7 f8 ff8 f9 ff9 ne0_1a ne0_1b lt5_3 lt5_4 lt5_5
   have M6:=xQ (((HM.out).put10 (i:=4) rfl (.int .i64 g.aA) (.int .i64 g.aB) (.slice p3 g.cells.length c3) (.int .i64 g.free) (.int .i64 g.step) (.int .i64 g.aE) (.int .i64 g.aF) (.int .i64 g.aC) (.int .i64 g.aG) (.slice q3 g.vs.length d3)))
   generalize hwz:World.setCell _ _ _=wz
   rw[hwz]at M6
   clear hwz HM
   obtain⟨y0,y1,y2,y3,y4,y5,y6,y7,y8,y9⟩:=(M6.out.blk (i:=4) rfl).ten
   exact bodyPost_ret (v:= .tuple #[.agg #[g.aA,g.aB,.slice p3 g.cells.length c3,g.free,g.step,g.aE,g.aF,g.aC,g.aG,.slice q3 g.vs.length d3],.slice ps lm cs]) (by simp[results,Tryz.results18,go_sem, *]) rfl (aCe (by have h1:=HG.out;rw[List.take_of_length_le (by rw[hlm.out];exact Nat.le_refl _)]at h1;exact h1) hlm.out (M6.out.own (i:=1) rfl) (M6.out.own (i:=2) rfl) (by have h1:=(M6.out.own (i:=0) rfl);rw[List.take_of_length_le (by rw[hlm.out];exact Nat.le_refl _)]at h1;exact h1) M6.out.ext)
theorem nV (h:aT)(p:OA)(n cap:Nat)(q:OA)(m c2:Nat)(lq:OA)(lm lc:Nat)(ds:List Dd3)(w:World)(hi:IsHouse w h p n cap q m c2)(hS:Sl w lq lm lc 3 (ds.flatMap aX))(hb:lm≤1048576):
  Calls Tryz.prog 18 #[bS h p n cap q m c2,.slice lq lm lc] w (lG w.heap.size (mU h ds) w):=by
 have hl:=hi.clen
 have hvl:=hi.vlen
 have hlm:ds.length=lm:=by
  have:=hS.len
  rw[cH aX 3 (fun _=>rfl)]at this
  omega
 subst hl hvl
 have HV:=xQ fun(w':World) (hx:Ext w w')=>mI h p _ cap q _ c2 w' (hi.ext hx)
 by_cases hok:bK h=true
 ·have hsm:=iQ hok
  unfold mU
  rw[if_pos hok]
  rw[hok]at HV
  have HL:=xQ fun(w':World) (hx:Ext w w')=>nN h p _ cap q _ c2 w' (by omega) (by omega) (hi.ext hx)
  unfold RetHouse at HL
  exact aJa h p cap q c2 lq lm lc ds w hb hlm hok hS HV HL
 ·unfold mU
  rw[if_neg hok]
  rw[show bK h=false by simpa using hok]at HV
  exact aHt h p cap q c2 lq lm lc ds w HV
theorem gM (aA aB c:Int)(p:OA)(n cap:Nat)(w:World)(hn:n≤12):Calls Tryz.prog 152 #[aI aA aB p n cap,c] w fun e w'=>e= .returned (.bool (decide (0≤c∧c<n)))∧Ext w w':=by
 by_cases h0:0≤c
 ·have d0:decide (0≤c)=true:=by simp[h0]
  by_cases h1:c<n
  ·have d1:decide (c<(n:Int))=true:=by simp[h1]
   go_enter Tryz.func152,Tryz.ntmps152
   go_wp2
   go_ret
   exact⟨aV (by simp[h0,h1]),xE⟩
  ·have d1:decide (c<(n:Int))=false:=by simp;omega
   go_enter Tryz.func152,Tryz.ntmps152
   go_wp2
   go_ret
   exact⟨aV (by simp[h0,h1]),xE⟩
 ·have d0:decide (0≤c)=false:=by simp;omega
  go_enter Tryz.func152,Tryz.ntmps152
  go_wp2
  go_ret
  exact⟨aV (by simp[h0]),xE⟩
theorem kH (aA a b:Int)(w:World)(h0:0≤a)(h1:a≤100)(h2:0≤b)(h3:b≤100)(h4:2≤aA)(h5:aA≤4):Calls Tryz.prog 153 #[aA,a,b] w fun e w'=>e= .returned (.int .i64 (aZ aA a b))∧Ext w w':=by
 have q0: ¬(aA=0):=by omega
 have r1:a.tmod aA=a%aA:=IntWalk.rem_in _ _ h0
 have r2:b.tmod aA=b%aA:=IntWalk.rem_in _ _ h2
 have d1:IntKind.i64.wrap (a.tdiv aA)=a/aA:=IntWalk.i64_quo _ _ (by omega)
 have d2:IntKind.i64.wrap (b.tdiv aA)=b/aA:=IntWalk.i64_quo _ _ (by omega)
 have e1:=Int.emod_nonneg a q0
 have e2:=Int.emod_nonneg b q0
 have e3:=Int.emod_lt_of_pos a (show 0<aA by omega)
 have e4:=Int.emod_lt_of_pos b (show 0<aA by omega)
 have e5:=Int.ediv_nonneg h0 (show 0≤aA by omega)
 have e6:=Int.ediv_nonneg h2 (show 0≤aA by omega)
 have e7:=Int.ediv_le_self aA h0
 have e8:=Int.ediv_le_self aA h2
 have s1:IntKind.i64.wrap (max (a%aA-b%aA) (-(a%aA-b%aA))+max (a/aA-b/aA) (-(a/aA-b/aA)))=aZ aA a b:=by
  rw[IntWalk.i64_in _ (by omega)];unfold aZ mW;omega
 have s2:IntKind.i64.wrap (a%aA-b%aA)=a%aA-b%aA:=IntWalk.i64_in _ (by omega)
 have s3:IntKind.i64.wrap (a/aA-b/aA)=a/aA-b/aA:=IntWalk.i64_in _ (by omega)
 have s4:IntKind.i64.wrap (-(a%aA-b%aA))= -(a%aA-b%aA):=IntWalk.i64_in _ (by omega)
 have s5:IntKind.i64.wrap (-(a/aA-b/aA))= -(a/aA-b/aA):=IntWalk.i64_in _ (by omega)
 go_enter Tryz.func153,Tryz.ntmps153
 go_wp2
 go_quiet (fail)
 go_wp2
 go_quiet (fail)
 go_wp2
 go_ret
 exact⟨dL rfl,xE⟩
theorem aGo (aA aB cell:Int)(p:OA)(n cap:Nat)(w:World)(hn:n≤12)(h0:0≤cell)(h1:cell<n)
  (HV:xB 80 #[aI aA aB p n cap] w true)
  (HH:Hid (∀w',Calls Tryz.prog 152 #[aI aA aB p n cap,cell] w' fun e w''=>e= .returned (.bool true)∧Ext w' w''))
  (HA:Hid (∀(k:Nat),k<n→ ∀w',Calls Tryz.prog 153 #[aA,cell,(k:Int)] w' fun e w''=>e= .returned (.int .i64 (aZ aA cell k))∧Ext w' w'')):
  Calls Tryz.prog 195 #[aI aA aB p n cap,cell] w (aY (iC aA n cell) w):=by
 go_enter Tryz.func195,Tryz.ntmps195
 go_wp2_with fail
 refine(HV.out _ xE).mono ?_
 rintro e w1 ⟨rfl,hx1⟩
 have B1:=xQ ((Blk.new w TH3 #[aA,aB,.slice p n cap]).ext hx1)
 have X1:=xQ (show Ext w w1 from xE)
 have hsz:=B1.out.lt
 obtain⟨b0,b1,b2⟩:=B1.out.cells3
 clear hx1
 go_wp2_with fail
 refine(HH.out _).mono ?_
 rintro e w2 ⟨rfl,hx2⟩
 clear b0 b1 b2
 have B2:=xQ (B1.out.ext hx2)
 have X2:=xQ (X1.out.trans hx2)
 have hsz2:=B2.out.lt
 obtain⟨b0,b1,b2⟩:=B2.out.cells3
 clear hx2 B1 X1 hsz
 go_wp2
 go_loopw [5,19] (fun v i wr=> ∃(k:Nat) (q:OA) (m c:Nat),k≤n∧i= .int .i64 k∧v= .slice q m c∧m≤k∧wr.ownsRow (w.heap.size+1) TI 1 (.slice q m c) m (ivs (eL (fun b=>decide (aZ aA cell b=1)) k))∧Ext w wr∧Blk wr w.heap.size TH3 #[aA,aB,.slice p n cap]) (fun _ i _=>n-(intOf i).toNat)
 case atStart=>exact⟨0,_,0,0,Nat.zero_le _,rfl,rfl,Nat.le_refl _,World.ownsRow_nil _ _ _ _,X2.out,B2.out⟩
 case round=>
  clear b0 b1 b2 B2 X2
  obtain⟨k,q,m,c,hk,rfl,rfl,hmk,hown,hEw,hB⟩:=hrel
  have HO:=xQ hown
  have HB:=xQ hB
  have hsz:w.heap.size<wr.heap.size:=hB.lt
  clear hown hB
  obtain⟨b0,b1,b2⟩:=HB.out.cells3
  by_cases hlt:k<n
  ·go_wp2_with fail
   refine(HA.out k hlt _).mono ?_
   rintro e w1 ⟨rfl,h1⟩
   have HO1:=xQ (bB HO.out h1)
   have HB1:=xQ (HB.out.ext h1)
   have hEw1:=xQ (hEw.trans h1)
   have hsz1:w.heap.size<w1.heap.size:=HB1.out.lt
   clear h1 b0 b1 b2 HO HB hEw
   by_cases hx0:aZ aA cell k=1
   ·have t0:(aZ aA cell k==1)=true:=by simp[hx0]
    have hfin:Hid (eL (fun b=>decide (aZ aA cell b=1)) (k+1)=eL (fun b=>decide (aZ aA cell b=1)) k++ [(k:Int)]):=by
     show _=_;rw[eL,if_pos (by simpa using hx0)]
    clear hx0
    go_wp2_with (at_builtin;refine cA eP rfl _ _ rfl (w.heap.size+1) _ _ _ rfl (HO1.out.alloc _) _ _ (k:Int) _ rfl (by simp) (by omega) (by first|(simp;done)|(simp;omega)) ?_;intro p' cap' w2 hown1 hg1;have HO2:=xQ hown1;have hE1:Ext w w2:=Ext.own (hEw1.out.alloc _) (HO1.out.alloc _) hg1 (by omega);have HB2:=xQ (oS HO1.out hg1 HB1.out);clear hown1 hg1)
    go_roundw
    case rel=>exact⟨k+1,p',m+1,cap',by omega,by go_num,rfl,by omega,by rw[hfin.out];exact HO2.out,hE1,HB2.out⟩
    case measure=>simp[intOf];omega
   ·have t0:(aZ aA cell k==1)=false:=by simp[hx0]
    have hfin:Hid (eL (fun b=>decide (aZ aA cell b=1)) (k+1)=eL (fun b=>decide (aZ aA cell b=1)) k):=by
     show _=_;rw[eL,if_neg (by simpa using hx0),List.append_nil]
    clear hx0
    go_wp2
    go_roundw
    case rel=>exact⟨k+1,q,m,c,by omega,by go_num,rfl,by omega,by rw[hfin.out];exact HO1.out,hEw1.out,HB1.out⟩
    case measure=>simp[intOf];omega
  ·have hfin:Hid (eL (fun b=>decide (aZ aA cell b=1)) k=iC aA n cell):=by
    show _=_;unfold iC;rw[show k=n by omega]
   go_wp2
   go_ret
   exact cQ (by rw[←hfin.out];have:=HO.out.1;simpa using this) (by rw[←hfin.out];exact bG HO.out (Nat.le_succ _)) hEw
theorem aBs (aA aB cell:Int)(p:OA)(n cap:Nat)(xs:List Int)(w:World)(hS:Sl w p n cap 1 (ivs xs))(hok:aP aA aB xs=true)(h0:0≤cell)(h1:cell<n):
  Calls Tryz.prog 195 #[aI aA aB p n cap,cell] w (aY (iC aA n cell) w):=by
 have hl:=hS.ilen
 obtain⟨g1,g2,g3,g4,g5,g6,g7,g8,g9⟩:=bN hok
 refine aGo aA aB cell p n cap w (by omega) h0 h1 (fun w' hx=>by have:=fJ aA aB p n cap xs w' (hS.ext hx);rwa[hok]at this) (fun w'=> ?_) (fun k hk w'=>kH aA cell k w' h0 (by omega) (by omega) (by omega) (by omega) (by omega))
 have:=gM aA aB cell p n cap w' (by omega)
 rwa[decide_eq_true (⟨h0,h1⟩:0≤cell∧cell<n)]at this
end Go.Proofs.YtgnkoffndhmhpaaGreatDoor
