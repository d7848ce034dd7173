/-
  Texts of this proof, packed (@packed).
-/
import Derived.Deep.CutBlock
import Derived.Test.YtbgkcehffiogcacGreatDoorZ21
namespace Go.Proofs.YtbgkcehffiogcacGreatDoor
open Go.RowKit Go.Proofs.Tryz
set_option linter.unusedSimpArgs false
set_option linter.unusedVariables false
set_option maxHeartbeats 8000000
set_option maxRecDepth 100000
theorem Mem.own2blk {w0 w w':World}{L:List Item}{e1 e2 t:TypeId}{s1 s2 n1 n2 c1 c2 g:Nat}{q1 q2:OA}{d a:List Value}{cs:Array Value}(h:Mem w0 w L)(hx:Ext w w')(hb:Blk w' g t cs)(hg:w.heap.size≤g)(h1:w'.ownsRow w e1 s1 (.slice q1 n1 c1) n1 d)(h2:w'.ownsRow w e2 s2 (.slice q2 n2 c2) n2 a)(ht:e1≠e2)(t1:e1≠t)(t2:e2≠t):
  Mem w0 w' (aI w0 e1 s1 q1 n1 c1 d::aI w0 e2 s2 q2 n2 c2 a::aJ w0 g t cs::L):=by
 have b: ∀ {e:TypeId} {s n c:Nat} {q:OA} {xs:List Value},w'.ownsRow w e s (.slice q n c) n xs→e≠t→(Value.slice q n c).ownBlock≠Option.some g:=by
  intro e s n c q xs ho f he;rcases ho.2 with⟨b1,_⟩|⟨g1,cap1,cur1,b1,_,b3,_⟩
  ·rw[b1]at he;cases he
  rw[b1]at he;injection he with he;have x1:g1=g:=he;subst x1;unfold Blk at hb;rw[hb]at b3;injection b3 with b3;injection b3 with _ b3;exact f b3.symm
 have H:=h.own2 hx h1 h2 (aQn _) ht;have p1:=List.pairwise_cons.1 H.apart;have p2:=List.pairwise_cons.1 p1.2;have HB:=h.blkOf hx hb hg
 have H2:Mem w0 w' (aI w0 e2 s2 q2 n2 c2 a::aJ w0 g t cs::L):=HB.cons (jY _ _ _ _ _ _ _) (eM h2 h.ext.sz) (fun g' hg' j hj e=>by
  rcases aR5.1 hj with rfl|hj
  ·obtain rfl:g=g':=e;exact b h2 t2 hg'
  ·exact p2.1 j hj g' hg' e)
 exact H2.cons (jY _ _ _ _ _ _ _) (eM h1 h.ext.sz) (fun g' hg' j hj e=>by
  rcases aR5.1 hj with rfl|hj
  ·exact p1.1 _ (by simp) g' hg' e
  ·rcases aR5.1 hj with rfl|hj
   ·obtain rfl:g=g':=e;exact b h1 t1 hg'
   ·exact p1.1 j (by simp[hj]) g' hg' e)
def hZ:aM:=⟨0,0,[],0,0,0,0,0,0,[]⟩
def doR (h:aM)(k a b:Int):aM×Int×Bool:=
 if aT h=true then(match cN h k a b with
  |none=>(h,-1,false)
  |some (h',n)=>(h',n,true))else(hZ,-1,false)
theorem aP3 (h:aM)(k a b:Int):(doR h k a b).1.cells.length≤1000∧(doR h k a b).1.vs.length≤1000:=by
 unfold doR;by_cases hok:aT h=true
 ·rw[if_pos hok];cases hd:cN h k a b with
  |none=>have:=eP hok;dsimp only;omega
  |some r=>obtain⟨h',n⟩:=r;have:=eP (qV hok hd).1;dsimp only;omega
 rw[if_neg hok];simp[hZ]
def aKr (B:Nat)(r:aM×Int×Bool)(w':World)(e:Ending)(w'':World):Prop:=
 ∃pa ca qa da,e= .returned (.tuple #[bO r.1 pa r.1.cells.length ca qa r.1.vs.length da,r.2.1,.bool r.2.2])∧w''.ownsRow B TI 1 (.slice pa r.1.cells.length ca) r.1.cells.length (ivs r.1.cells)∧w''.ownsRow B TV 4 (.slice qa r.1.vs.length da) r.1.vs.length (r.1.vs.flatMap aE)∧Ext w' w''
theorem vM {h:aM}{k a b:Int}{w w':World}{e:Ending}{B:Nat}(hB:B≤w.heap.size)(c:aT h=true)(hr:aI9 h (cN h k a b) w e w'):aKr B (doR h k a b) w e w':=by
 unfold doR;rw[if_pos c];unfold aI9 at hr;cases hd:cN h k a b with
 |none=>rw[hd]at hr;obtain⟨pa,ca,qa,da,rfl,o1,o2,hx⟩:=hr;exact⟨pa,ca,qa,da,rfl,eM o1 hB,eM o2 hB,hx⟩
 |some r=>obtain⟨h',n⟩:=r;rw[hd]at hr;obtain⟨pa,ca,qa,da,rfl,o1,o2,hx⟩:=hr;exact⟨pa,ca,qa,da,rfl,eM o1 hB,eM o2 hB,hx⟩
theorem aI5 {h:aM}{k a b:Int}{w w':World}{e:Ending}{B:Nat}(c: ¬aT h=true)(hr:e= .returned (.tuple #[.agg #[(),(),((),()),(),(),(),(),(),(),((),())],(-1:Int),.bool false])∧Ext w w'):aKr B (doR h k a b) w e w':=by unfold doR;rw[if_neg c];obtain⟨rfl,hx⟩:=hr;exact⟨none,0,none,0,rfl,aR9 _ _ _ _,aR9 _ _ _ _,hx⟩
abbrev TB:TypeId:=4
def bcs (bs:List Bool):List Value:=bs.map .bool
theorem aP6 (bs:List Bool):(bcs bs).length=bs.length:=by simp[bcs]
theorem aEu (bs:List Bool)(b:Bool):bcs (bs++ [b])=bcs bs++ [.bool b]:=by simp[bcs]
theorem elB:ElT prog 92 TB 1:=
 ⟨underlying92,by
  obtain⟨i,hi,h0,h1,h2⟩:=info_parts (show(prog.info? TB).map (fun i=>(i.zero,i.size,i.bytes))=some (some (.bool false),1,1) by kernel_rfl)
  exact⟨i,_,hi,h0,h1,by omega,rfl⟩,by omega⟩
def wP (h:aM)(d:Dd3):aM:=(doR h d.1 d.2.1 d.2.2).1
def rO (h:aM)(ds:List Dd3):aM:=ds.foldl wP h
def fK:aM→List Dd3→List Bool
 |_,[]=> []
 |h,d::ds=>(doR h d.1 d.2.1 d.2.2).2.2::fK (wP h d) ds
theorem zL (h:aM)(l:List Dd3)(d:Dd3):rO h (l++ [d])=(doR (rO h l) d.1 d.2.1 d.2.2).1:=by simp[rO,wP]
theorem xO: ∀(l:List Dd3) (h:aM) (d:Dd3),fK h (l++ [d])=fK h l++ [(doR (rO h l) d.1 d.2.1 d.2.2).2.2]:=by
 intro l;induction l with
 |nil=>intro h d;rfl
 |cons x l ih=>intro h d;show _::fK (wP h x) (l++ [d])=_;rw[ih];rfl
theorem tW: ∀(l:List Dd3) (h:aM),(fK h l).length=l.length:=by
 intro l;induction l with
 |nil=>intro h;rfl
 |cons x l ih=>intro h;show(fK (wP h x) l).length+1=_;rw[ih];rfl
theorem aM6 {h:aM}(a:aT h=true)(d:Dd3):aT (wP h d)=true:=by
 unfold wP doR;rw[if_pos a];cases hd:cN h d.1 d.2.1 d.2.2 with
 |none=>exact a
 |some r=>obtain⟨h',n⟩:=r;exact(qV a hd).1
theorem aB6: ∀(l:List Dd3) {h:aM},aT h=true→aT (rO h l)=true:=by
 intro l;induction l with
 |nil=>intro h a;exact a
 |cons x l ih=>intro h a;exact ih (aM6 a x)
def tH (h:aM)(ds:List Dd3):aM×List Bool:=if aT h=true then(rO h ds,fK h ds)else(hZ,[])
def oC (B:Nat)(r:aM×List Bool)(w':World)(e:Ending)(w'':World):Prop:=
 ∃pa ca qa da ps cs,e= .returned (.tuple #[bO r.1 pa r.1.cells.length ca qa r.1.vs.length da,.slice ps r.2.length cs])∧w''.ownsRow B TI 1 (.slice pa r.1.cells.length ca) r.1.cells.length (ivs r.1.cells)∧w''.ownsRow B TV 4 (.slice qa r.1.vs.length da) r.1.vs.length (r.1.vs.flatMap aE)∧w''.ownsRow B TB 1 (.slice ps r.2.length cs) r.2.length (bcs r.2)∧Ext w' w''
theorem aLw (h:aM)(ds:List Dd3):(tH h ds).1.cells.length≤1000∧(tH h ds).1.vs.length≤1000∧(tH h ds).2.length≤ds.length:=by
 unfold tH;by_cases hok:aT h=true
 ·rw[if_pos hok];have:=eP (aB6 ds hok);dsimp only;rw[tW];omega
 rw[if_neg hok];simp[hZ]
theorem aHm {B:Nat}{h g:aM}{ds:List Dd3}{lm:Nat}{pa qa ps:OA}{ca da cs:Nat}{w' a:World}(hg:g=rO h ds)(hl:ds.length=lm)(o1:a.ownsRow B TI 1 (.slice pa g.cells ca) g.cells.length (ivs g.cells))(o2:a.ownsRow B TV 4 (.slice qa g.vs da) g.vs.length (g.vs.flatMap aE))(o3:a.ownsRow B TB 1 (.slice ps lm cs) lm (bcs (fK h ds)))(hx:Ext w' a):
  oC B (rO h ds,fK h ds) w' (.returned (.tuple #[bO g pa g.cells.length ca qa g.vs.length da,.slice ps lm cs])) a:=by
 subst hg;have hd:(fK h ds).length=lm:=by rw[tW,hl]
 subst hd;exact⟨pa,ca,qa,da,ps,cs,rfl,o1,o2,o3,hx⟩
theorem aP2 {l:List Value}{k n:Nat}(hl:l.length=k)(hk:k<n):(l++List.replicate (n-k) (Value.bool false))[k]? =some (Value.bool false):=by rw[aR2 (by omega),hl,aSg];simp[aSi];omega
theorem aNj {l:List Value}{k n:Nat}{b:Value}(hl:l.length=k)(hk:k<n):(l++List.replicate (n-k) (Value.bool false)).set k b=(l++ [b])++List.replicate (n-(k+1)) (Value.bool false):=by
 obtain⟨j,rfl⟩: ∃j,n=k+1+j:=⟨n-(k+1),by omega⟩
 rw[show k+1+j-k=j+1 by omega,show k+1+j-(k+1)=j by omega,List.set_append,if_neg (by omega),hl,aSg,aSe];simp
theorem aOa (h:aM)(p:OA)(cap:Nat)(q:OA)(c2:Nat)(lq:OA)(lm lc:Nat)(ds:List Dd3)(w:World)
  (a:xC 21 #[.agg #[h.aA,h.aB,.slice p h.cells cap,h.free,h.step,h.aD,h.aF,h.aC,h.aG,.slice q h.vs c2]] w fun w' e w''=>e= .returned (Value.bool false)∧Ext w' w''):
  U 63 #[.agg #[h.aA,h.aB,.slice p h.cells cap,h.free,h.step,h.aD,h.aF,h.aC,h.aG,.slice q h.vs c2],.slice lq lm lc] w (oC w (hZ,[]) w):=by
 go_enter func63,ntmps63;go_wp2_with fail;refine Z (a _ ((((Mem.start w).c0 aK #[h.aA,h.aB,.slice p h.cells cap,h.free,h.step,h.aD,h.aF,h.aC,h.aG,.slice q h.vs c2]).c1 aK zT).made0 TB 1 (w.heap.size+1+1) (by simp)).ext) fun w1 c=>?_
 have M1:=(((((Mem.start w).c0 aK #[h.aA,h.aB,.slice p h.cells cap,h.free,h.step,h.aD,h.aF,h.aC,h.aG,.slice q h.vs c2]).c1 aK zT).made0 TB 1 (w.heap.size+1+1) (by simp)).adv c)
 clear c a;obtain⟨f0,d,f1,f,f2,g,f3,j,f4,k,f5,l,f6,m,f7,n,f8,o,f9,r⟩:=(M1.bk 1).tenf;go_wp2;clear f0 d f1 f f2 g f3 j f4 k f5 l f6 m f7 n f8 o f9 r;have M2:=(M1.put10 (i:=1) rfl (I 0) (I 0) (.slice none 0 0) (I 0) (I 0) (I 0) (I 0) (I 0) (I 0) (.slice none 0 0))
 generalize b:World.setCell _ _ _=wz;rw[b]at M2;clear b M1;obtain⟨y0,y1,y2,y3,y4,y5,y6,y7,y8,y9⟩:=(M2.bk 1).ten;exact bodyPost_ret (v:= .tuple #[.agg #[(),(),((),()),(),(),(),(),(),(),((),())],.slice (some ⟨w.heap.size+1+1,0,none⟩) 0 0]) (by simp[results,results63,go_sem, *]) rfl (show oC w (hZ,[]) w _ _ from⟨none,0,none,0,_,0,rfl,aR9 _ _ _ _,aR9 _ _ _ _,(M2.ow 0),M2.ext⟩)
theorem aQ5 (h:aM)(p:OA)(cap:Nat)(q:OA)(c2:Nat)(lq:OA)(lm lc:Nat)(ds:List Dd3)(w:World)(hb:lm≤1048576)(t:Hid (ds.length=lm))(a9:Hid (aT h=true))(HS:Hid (Sl w lq lm lc 3 (ds.flatMap cE)))
  (aa:xB 21 #[.agg #[h.aA,h.aB,.slice p h.cells cap,h.free,h.step,h.aD,h.aF,h.aC,h.aG,.slice q h.vs c2]] w true)
  (HL:xC 26 #[.agg #[h.aA,h.aB,.slice p h.cells cap,h.free,h.step,h.aD,h.aF,h.aC,h.aG,.slice q h.vs c2]] w fun w' e w''=> ∃p' cap' q' c2',e= .returned (.agg #[h.aA,h.aB,.slice p' h.cells cap',h.free,h.step,h.aD,h.aF,h.aC,h.aG,.slice q' h.vs c2'])∧w''.ownsRow w' TI 1 (.slice p' h.cells cap') h.cells.length (ivs h.cells)∧w''.ownsRow w' TV 4 (.slice q' h.vs c2') h.vs.length (h.vs.flatMap aE)∧Ext w' w''):
  U 63 #[.agg #[h.aA,h.aB,.slice p h.cells cap,h.free,h.step,h.aD,h.aF,h.aC,h.aG,.slice q h.vs c2],.slice lq lm lc] w (oC w (rO h ds,fK h ds) w):=by
 go_enter func63,ntmps63;go_wp2_with fail;refine Z (aa _ ((((Mem.start w).c0 aK #[h.aA,h.aB,.slice p h.cells cap,h.free,h.step,h.aD,h.aF,h.aC,h.aG,.slice q h.vs c2]).c1 aK zT).made0 TB 1 (w.heap.size+1+1) (by simp)).ext) fun w1 af=>?_
 have M1:=(((((Mem.start w).c0 aK #[h.aA,h.aB,.slice p h.cells cap,h.free,h.step,h.aD,h.aF,h.aC,h.aG,.slice q h.vs c2]).c1 aK zT).made0 TB 1 (w.heap.size+1+1) (by simp)).adv af)
 clear af aa;obtain⟨aj,ak,al,am,an,ao,ap,aq,ar,au⟩:=(M1.bk 2).ten;go_wp2_with fail;clear aj ak al am an ao ap aq ar au;refine(HL _ M1.ext).mono ?_;rintro e w2 ⟨p1,m,q1,n,rfl,ho,hq,hx⟩;have M2:=(M1.own2 hx ho hq (aQn _) (by decide))
 clear M1 hx ho hq HL;go_upto_region 5 with fail;obtain⟨gV,s⟩: ∃gV,gV=w2.heap.size:=⟨_,rfl⟩
 rw[←s];have M3:=(M2.blkNew aK #[h.aA,h.aB,.slice p1 h.cells m,h.free,h.step,h.aD,h.aF,h.aC,h.aG,.slice q1 h.vs n] gV s.symm)
 generalize World.alloc _ _=w3 at M3⊢;clear M2 s;go_wp2;go_loopw [6,8] (fun dn i wr=> ∃(k:Nat) (g:aM) (p3:OA) (c3:Nat) (q3:OA) (d3:Nat) (ps:OA) (cs:Nat),k≤lm∧i=I k∧dn= .slice ps k cs∧g=rO h (ds.take k)∧Mem w wr [aI w TB 1 (ps) (k) (cs) (bcs (fK h (ds.take k))),aTa w p3 g.cells c3,aTb w q3 g.vs d3,aJ w (gV) aK (aTc g p3 c3 q3 d3),aJ w (w.heap.size+1) aK #[(),(),((),()),(),(),(),(),(),(),((),())],aJ w w aK (aTc h p cap q c2)]) (fun _ i _=>lm-(intOf i).toNat)
 case atStart=>exact⟨0,h,p1,m,q1,n,_,_,aQt _,rfl,rfl,rfl,(show Mem w w3 [aI w TB 1 (some ⟨w.heap.size+1+1,0,none⟩) (0) (0) ([]),aTa w p1 h.cells m,aTb w q1 h.vs n,aJ w (gV) aK (aTc h p1 m q1 n),aJ w (w.heap.size+1) aK #[(),(),((),()),(),(),(),(),(),(),((),())],aJ w w aK (aTc h p cap q c2)]from M3.pick [3,1,2,0,4,5] (by decide) rfl)⟩
 case round=>
  clear M3;obtain⟨k,g,p3,c3,q3,d3,ps,cs,hk,rfl,rfl,hg,hM⟩:=hrel;have HM:=hM;have HG:=xQ hg;have y:Hid (aT g=true):=by show _=_;rw[hg];exact aB6 _ a9.out
  clear hM hg;by_cases hlt:k<lm
  ·obtain⟨b,j,a0,a1,a2,a8,hx,o,e0,e1,e2⟩:=aI1 (HS.out.ext HM.ext) hlt;subst a8;have HX:=xQ hx;clear hx;have i1:(0:Int)≤(k:Int):=by omega
   have i2:(k:Int)<(lm:Int):=by omega
   obtain⟨r,num,ok,hr⟩: ∃r num ok,(r,num,ok)=doR g a0 a1 a2:=⟨_,_,_,rfl⟩
   have HR:=xQ hr;clear hr;have ae:Hid (rO h (ds.take (k+1))=r∧fK h (ds.take (k+1))=fK h (ds.take k)++ [ok]):=by show _∧_;rw[bC HX.out,zL,xO,←HG.out,←HR.out];exact⟨rfl,rfl⟩
   have HD:Hid (∀B p c q d w',B≤w'.heap.size→Ext wr w'→IsHouse w' g p g.cells.length c q g.vs.length d→U 23 #[.agg #[g.aA,g.aB,.slice p g.cells c,g.free,g.step,g.aD,g.aF,g.aC,g.aG,.slice q g.vs d],.agg #[a0,a1,a2]] w' fun e w''=> ∃pa ca qa da,e= .returned (.tuple #[.agg #[r.aA,r.aB,.slice pa r.cells ca,r.free,r.step,r.aD,r.aF,r.aC,r.aG,.slice qa r.vs da],num,.bool ok])∧w''.ownsRow B TI 1 (.slice pa r.cells ca) r.cells.length (ivs r.cells)∧w''.ownsRow B TV 4 (.slice qa r.vs da) r.vs.length (r.vs.flatMap aE)∧Ext w' w''):=fun B p c q d w' hB hx hi=>by refine(uH g a0 a1 a2 p _ c q _ d w' hi y.out).mono (fun e w'' hr=> ?_);have hq:=vM hB y hr;rw[←HR.out]at hq;exact hq
   have IX:=xQ (show IsHouse wr g p3 g.cells.length c3 q3 g.vs.length d3 from⟨(HM.sq 1),(HM.sq 2)⟩);have f:gV<wr:=(HM.hi 3)
   obtain⟨ba,bb,bc,bd,be,bf,bg,bh,bi,bj⟩:=(HM.bk 3).ten;have ah: ¬(wr.heap.size=gV):=by omega
   have ai: ¬(wr.heap.size=b):=by omega
   go_upto_region 8 with fail;go_cut [9,10,11] (fun s1 s2 s3 wx=> ∃(g5:Nat) (p5:OA) (c5:Nat) (q5:OA) (d5:Nat),s1= .pointer (some ⟨g5,0,none⟩)∧s2=I num∧s3= .bool ok∧Mem w wx [aJ w (g5) aK (aTc r p5 c5 q5 d5),aTa w p5 r.cells c5,aTb w q5 r.vs d5,aI w TB 1 (ps) (k) (cs) (bcs (fK h (ds.take k))),aTa w p3 g.cells c3,aTb w q3 g.vs d3,aJ w (gV) aK (aTc g p3 c3 q3 d3),aJ w (w.heap.size+1) aK #[(),(),((),()),(),(),(),(),(),(),((),())],aJ w w aK (aTc h p cap q c2)])
   case first=>
    go_region_held3 (fun w'=>w'.cell? ⟨gV,0,none⟩=some (I g.aA)∧w'.cell? ⟨gV,1,none⟩=some (I g.aB)∧w'.cell? ⟨gV,2,none⟩=some (.slice p3 g.cells c3)∧w'.cell? ⟨gV,3,none⟩=some (I g.free)∧w'.cell? ⟨gV,4,none⟩=some (I g.step)∧w'.cell? ⟨gV,5,none⟩=some (I g.aD)∧w'.cell? ⟨gV,6,none⟩=some (I g.aF)∧w'.cell? ⟨gV,7,none⟩=some (I g.aC)∧w'.cell? ⟨gV,8,none⟩=some (I g.aG)∧w'.cell? ⟨gV,9,none⟩=some (.slice q3 g.vs d3)∧w'.cell? ⟨b,j+k*3,none⟩=some (I a0)∧w'.cell? ⟨b,j+k*3+1,none⟩=some (I a1)∧w'.cell? ⟨b,j+k*3+2,none⟩=some (I a2))
     (first|(refine⟨?_,?_,?_,?_,?_,?_,?_,?_,?_,?_,?_,?_,?_⟩<;>with_reducible assumption)|go_keep)
     (first
      |(go_at_call 23
        refine(HD wr _ _ _ _ _ (Ext.sz (show Ext wr _ from xE)) xE (IX.out.ext xE)).mono ?_;rintro e ws ⟨p5,c5,q5,d5,rfl,os,x,ag⟩;have a:Ext wr ws:=xE;obtain⟨ci,cj,ck,cl,cm,cn,co,cp,cq,cr⟩:=((HM.bk 3).ext a).ten;have ct:ws.cell? ⟨b,j+k*3,none⟩=some (I a0):=(a.cells.1 _ _ o).trans e0;have cu:ws.cell? ⟨b,j+k*3+1,none⟩=some (I a1):=(a.cells.1 _ _ o).trans e1;have cv:ws.cell? ⟨b,j+k*3+2,none⟩=some (I a2):=(a.cells.1 _ _ o).trans e2
        first
         |(with_reducible have hz:Ext (wr.alloc (.cells #[(),(),((),()),(),(),(),(),(),(),((),())] aK)) ws:=ag;have MB:=(Mem.own2blk HM a ((Blk.new wr aK #[(),(),((),()),(),(),(),(),(),(),((),())]).ext hz) (aQn _) os x (by decide) (by decide) (by decide));obtain⟨bw,b7,bx,b8,bz,b9,b0,cb,b1,cc,b2,cd,b3,ce,b4,cf,b5,cg,b6,ch⟩:=(MB.blk (i:=2) rfl).tenf)
         |(with_reducible have hz:Ext (wr.alloc (.cells #[(),(),((),()),(),(),(),(),(),(),((),())] aK)) ws:=ag.of_drew;have MB:=(Mem.own2blk HM a ((Blk.new wr aK #[(),(),((),()),(),(),(),(),(),(),((),())]).ext hz) (aQn _) os x (by decide) (by decide) (by decide));obtain⟨bw,b7,bx,b8,bz,b9,b0,cb,b1,cc,b2,cd,b3,ce,b4,cf,b5,cg,b6,ch⟩:=(MB.blk (i:=2) rfl).tenf)
         |(have MA:=(Mem.own2 HM a os x (aQn _) (by decide)))))
    all_goals (
     go_wp2_with fail;go_meet
     first
      |exact⟨_,p5,c5,q5,d5,rfl,rfl,rfl,(MB.put10 (i:=2) rfl (I r.aA) (I r.aB) (.slice p5 r.cells c5) (I r.free) (I r.step) (I r.aD) (I r.aF) (I r.aC) (I r.aG) (.slice q5 r.vs d5)).pick [2,0,1,3,4,5,6,7,8] (by decide) rfl⟩
      |exact⟨_,p5,c5,q5,d5,rfl,rfl,rfl,MA.bn aK (aTc r p5 c5 q5 d5) _⟩)
   case rest=>
    clear ba bb bc bd be bf bg bh bi bj ah ai e0 e1 e2 HD IX;obtain⟨g5,p5,c5,q5,d5,rfl,rfl,rfl,ad⟩:=hcut;obtain⟨v5,rfl⟩: ∃z,z=wc:=⟨_,rfl⟩
    have MC:=ad;clear ad HM f;obtain⟨x0,x1,x2,x3,x4,x5,x6,x7,x8,x9⟩:=(MC.bk 0).ten;obtain⟨v0,bl,v1,bm,v2,bo,v3,bp,v4,bq,v5,br,v6,bs,v7,bt,v8,bu,v9,bv⟩:=(MC.bk 6).tenf;go_upto_region 10 with fail;clear x0 x1 x2 x3 x4 x5 x6 x7 x8 x9 v0 bl v1 bm v2 bo v3 bp v4 bq v5 br v6 bs v7 bt v8 bu v9 bv;have ab:=(MC.put10 (i:=6) rfl (I r.aA) (I r.aB) (.slice p5 r.cells c5) (I r.free) (I r.step) (I r.aD) (I r.aF) (I r.aC) (I r.aG) (.slice q5 r.vs d5))
    generalize l:World.setCell _ _ _=wz;rw[l]at ab;clear l MC;go_wp2_with (at_builtin;go_loud (refine cH elB rfl _ _ rfl (ab.adv ((Ext.refl _).alloc (.cells #[.bool ok] TB))) 3 rfl rfl [.bool ok] rfl (eH _ _ _ 1 1 _ (by first|rfl|simp) (by first|rfl|simp) (by simp[maxLen])) (fun u hu=>by obtain rfl:=aRd.1 hu;rfl) (by omega) ?_;intro q7 c7 w6 M6));go_roundw
    case rel=>
     have hd:bcs (fK h (ds.take (k+1)))=bcs (fK h (ds.take k))++ [.bool ok]:=by rw[ae.out.2,aEu]
     exact⟨k+1,r,p5,c5,q5,d5,q7,c7,by omega,by go_num,rfl,ae.out.1.symm,by rw[hd];exact(show Mem w w6 [aI w TB 1 (q7) (k+1) (c7) (bcs (fK h (ds.take k))++ [.bool ok]),aTa w p5 r.cells c5,aTb w q5 r.vs d5,aJ w (gV) aK (aTc r p5 c5 q5 d5),aJ w (w.heap.size+1) aK #[(),(),((),()),(),(),(),(),(),(),((),())],aJ w w aK (aTc h p cap q c2)]from(show Mem w w6 [aJ w (g5) aK (aTc r p5 c5 q5 d5),aTa w p5 r.cells c5,aTb w q5 r.vs d5,aI w TB 1 (q7) (k+1) (c7) (bcs (fK h (ds.take k))++ [.bool ok]),aTa w p3 g.cells c3,aTb w q3 g.vs d3,aJ w (gV) aK (aTc r p5 c5 q5 d5),aJ w (w.heap.size+1) aK #[(),(),((),()),(),(),(),(),(),(),((),())],aJ w w aK (aTc h p cap q c2)]from M6).pick [3,1,2,6,7,8] (by decide) rfl)⟩
    case measure=>simp[intOf];omega
  obtain rfl:lm=k:=by omega
  have f:gV<wr:=(HM.hi 3)
  obtain⟨v0,v1,v2,v3,v4,v5,v6,v7,v8,v9⟩:=(HM.bk 3).ten;obtain⟨f0,av,f1,aw,f2,ax,f3,ay,f4,az,f5,a3,f6,a4,f7,a5,f8,a6,f9,a7⟩:=(HM.bk 4).tenf;go_wp2;clear v0 v1 v2 v3 v4 v5 v6 v7 v8 v9 f0 av f1 aw f2 ax f3 ay f4 az f5 a3 f6 a4 f7 a5 f8 a6 f9 a7 f;have M6:=xQ (HM.put10 (i:=4) rfl (I g.aA) (I g.aB) (.slice p3 g.cells c3) (I g.free) (I g.step) (I g.aD) (I g.aF) (I g.aC) (I g.aG) (.slice q3 g.vs d3));generalize l:World.setCell _ _ _=wz;rw[l]at M6;clear l HM;obtain⟨y0,y1,y2,y3,y4,y5,y6,y7,y8,y9⟩:=(M6.out.bk 4).ten;exact bodyPost_ret (v:= .tuple #[.agg #[g.aA,g.aB,.slice p3 g.cells c3,g.free,g.step,g.aD,g.aF,g.aC,g.aG,.slice q3 g.vs d3],.slice ps lm cs]) (by simp[results,results63,go_sem, *]) rfl (aHm (by have h1:=HG.out;rw[aQu (by rw[t.out];exact aQn _)]at h1;exact h1) t.out (M6.out.ow 1) (M6.out.ow 2) (by have h1:=(M6.out.ow 0);rw[aQu (by rw[t.out];exact aQn _)]at h1;exact h1) M6.out.ext)
theorem aAt (h:aM)(p:OA)(n cap:Nat)(q:OA)(m c2:Nat)(lq:OA)(lm lc:Nat)(ds:List Dd3)(w:World)(hi:IsHouse w h p n cap q m c2)(hS:Sl w lq lm lc 3 (ds.flatMap cE))(hb:lm≤1048576):
  U 63 #[bO h p n cap q m c2,.slice lq lm lc] w (oC w (tH h ds) w):=by
 have hl:=hi.clen;have b:=hi.vlen;have a:ds.length=lm:=by have:=hS.len;rw[cQ cE 3 (fun _=>rfl)]at this;omega
 subst hl b;have HV:=xQ fun(w':World) (hx:Ext w w')=>iT h p _ cap q _ c2 w' (hi.ext hx)
 by_cases hok:aT h=true
 ·have c:=eP hok;unfold tH;rw[if_pos hok];rw[hok]at HV;have HL:=xQ fun(w':World) (hx:Ext w w')=>nT h p _ cap q _ c2 w' (by omega) (by omega) (hi.ext hx)
  unfold RetHouse at HL;exact aQ5 h p cap q c2 lq lm lc ds w hb a hok hS HV HL
 unfold tH;rw[if_neg hok];rw[show aT h=false by simpa using hok]at HV;exact aOa h p cap q c2 lq lm lc ds w HV
theorem jA (aA aB c:Int)(p:OA)(n cap:Nat)(w:World)(hn:n≤12):U 159 #[aH aA aB p n cap,c] w (O (.bool (decide (0≤c∧c<n))) w):=by
 by_cases h0:0≤c
 ·have d0:decide (0≤c)=true:=by simp[h0]
  by_cases h1:c<n
  ·have d1:decide (c<(n:Int))=true:=by simp[h1]
   go_enter func159,ntmps159;go_wp2;go_ret;exact⟨aQ (by simp[h0,h1]),xE⟩
  have d1:decide (c<(n:Int))=false:=by simp;omega
  go_enter func159,ntmps159;go_wp2;go_ret;exact⟨aQ (by simp[h0,h1]),xE⟩
 have d0:decide (0≤c)=false:=by simp;omega
 go_enter func159,ntmps159;go_wp2;go_ret;exact⟨aQ (by simp[h0]),xE⟩
theorem mO (aA a b:Int)(w:World)(h0:0≤a)(h1:a≤100)(h2:0≤b)(h3:b≤100)(h4:2≤aA)(h5:aA≤4):U 160 #[aA,a,b] w (O (I (aX aA a b)) w):=by
 have q0: ¬(aA=0):=by omega
 have r1:a.tmod aA=a%aA:=IntWalk.rem_in _ _ h0;have r2:b.tmod aA=b%aA:=IntWalk.rem_in _ _ h2;have d1:IntKind.i64.wrap (a.tdiv aA)=a/aA:=aT2 _ _ (by omega);have d2:IntKind.i64.wrap (b.tdiv aA)=b/aA:=aT2 _ _ (by omega);have e1:=Int.emod_nonneg a q0;have e2:=Int.emod_nonneg b q0;have e3:=Int.emod_lt_of_pos a (show 0<aA by omega);have e4:=Int.emod_lt_of_pos b (show 0<aA by omega);have e5:=Int.ediv_nonneg h0 (show 0≤aA by omega);have e6:=Int.ediv_nonneg h2 (show 0≤aA by omega);have e7:=Int.ediv_le_self aA h0;have e8:=Int.ediv_le_self aA h2;have s1:IntKind.i64.wrap (max (a%aA-b%aA) (-(a%aA-b%aA))+max (a/aA-b/aA) (-(a/aA-b/aA)))=aX aA a b:=by rw[aQp _ (by omega)];unfold aX qG;omega
 have s2:IntKind.i64.wrap (a%aA-b%aA)=a%aA-b%aA:=aQp _ (by omega);have s3:IntKind.i64.wrap (a/aA-b/aA)=a/aA-b/aA:=aQp _ (by omega);have s4:IntKind.i64.wrap (-(a%aA-b%aA))= -(a%aA-b%aA):=aQp _ (by omega);have s5:IntKind.i64.wrap (-(a/aA-b/aA))= -(a/aA-b/aA):=aQp _ (by omega);go_enter func160,ntmps160;go_wp2;go_quiet (fail);go_wp2;go_quiet (fail);go_wp2;go_ret;exact⟨dO rfl,xE⟩
theorem aMu (aA aB a:Int)(p:OA)(n cap:Nat)(w:World)(hn:n≤12)(h0:0≤a)(h1:a<n)
  (HV:xB 72 #[aH aA aB p n cap] w true)
  (HH:Hid (∀w',U 159 #[aH aA aB p n cap,a] w' (O (.bool true) w')))
  (HA:Hid (∀(k:Nat),k<n→ ∀w',U 160 #[aA,a,k] w' (O (I (aX aA a k)) w'))):
  U 217 #[aH aA aB p n cap,a] w (aY (jP aA n a) w):=by
 go_enter func217,ntmps217;go_wp2_with fail;refine Z (HV _ xE) fun w1 u=>?_
 have B1:=xQ ((Blk.new w TH3 #[aA,aB,.slice p n cap]).ext u);have X1:=xQ (show Ext w w1 from xE);obtain⟨b0,b1,b2⟩:=B1.out.cells3;clear u;go_wp2_with fail;refine Z (HH _) fun w2 s=>?_
 clear b0 b1 b2;have B2:=xQ (B1.out.ext s);have X2:=xQ (X1.out.trans s);obtain⟨b0,b1,b2⟩:=B2.out.cells3;clear s B1 X1;go_wp2;go_loopw [5,19] (fun v i wr=> ∃(k:Nat) (q:OA) (m c:Nat),k≤n∧i=I k∧v= .slice q m c∧m≤k∧wr.ownsRow (w.heap.size+1) TI 1 (.slice q m c) m (ivs (fL (fun b=>decide (aX aA a b=1)) k))∧Ext w wr∧Blk wr w TH3 #[aA,aB,.slice p n cap]) (fun _ i _=>n-(intOf i).toNat)
 case atStart=>exact⟨0,_,0,0,aQt _,rfl,rfl,aQn _,aR9 _ _ _ _,X2.out,B2.out⟩
 case round=>
  clear b0 b1 b2 B2 X2;obtain⟨k,q,m,c,hk,rfl,rfl,ab,j,o,hB⟩:=hrel;have HO:=xQ j;have HB:=xQ hB;clear j hB;obtain⟨b0,b1,b2⟩:=HB.out.cells3;by_cases hlt:k<n
  ·go_wp2_with fail;refine Z (HA k hlt _) fun w1 h1=>?_
   have g:=xQ (bB HO h1);have l:=xQ (HB.out.ext h1);have h:=xQ (o.trans h1);have aa:(w:Nat)<w1:=l.out.lt;clear h1 b0 b1 b2 HO HB o;by_cases hx0:aX aA a k=1
   ·have t0:(aX aA a k==1)=true:=by simp[hx0]
    have d:Hid (fL (fun b=>decide (aX aA a b=1)) (k+1)=fL (fun b=>decide (aX aA a b=1)) k++ [(k:Int)]):=by show _=_;rw[fL,if_pos (by simpa using hx0)]
    clear hx0;go_wp2_with (at_builtin;refine cL fM rfl _ _ rfl (w.heap.size+1) _ _ _ rfl (g.out.alloc _) _ _ (k:Int) _ rfl (by simp) (by omega) (by first|(simp;done)|(simp;omega)) ?_;intro p' t w2 f r;have y:=xQ f;have z:Ext w w2:=Ext.own (h.out.alloc _) (g.out.alloc _) r (by omega);have x:=xQ (sR g r l.out);clear f r);go_roundw
    case rel=>exact⟨k+1,p',m+1,t,by omega,by go_num,rfl,by omega,by rw[d.out];exact y.out,z,x.out⟩
    case measure=>simp[intOf];omega
   have t0:(aX aA a k==1)=false:=by simp[hx0]
   have d:Hid (fL (fun b=>decide (aX aA a b=1)) (k+1)=fL (fun b=>decide (aX aA a b=1)) k):=by show _=_;rw[fL,if_neg (by simpa using hx0),aRi]
   clear hx0;go_wp2;go_roundw
   case rel=>exact⟨k+1,q,m,c,by omega,by go_num,rfl,by omega,by rw[d.out];exact g.out,h.out,l.out⟩
   case measure=>simp[intOf];omega
  have d:Hid (fL (fun b=>decide (aX aA a b=1)) k=jP aA n a):=by show _=_;unfold jP;rw[show k=n by omega]
  go_wp2;go_ret;exact dC (by rw[←d.out];have:=HO.out.1;simpa using this) (by rw[←d.out];exact bI HO (Nat.le_succ _)) o
theorem aGy (aA aB a:Int)(p:OA)(n cap:Nat)(xs:List Int)(w:World)(hS:Sl w p n cap 1 (ivs xs))(b:aO aA aB xs=true)(h0:0≤a)(h1:a<n):
  U 217 #[aH aA aB p n cap,a] w (aY (jP aA n a) w):=by
 have hl:=hS.ilen;obtain⟨g1,g2,g3,g4,g5,g6,g7,g8,g9⟩:=bM b;refine aMu aA aB a p n cap w (by omega) h0 h1 (fun w' hx=>by have:=fT aA aB p n cap xs w' (hS.ext hx);rwa[b]at this) (fun w'=> ?_) (fun k hk w'=>mO aA a k w' h0 (by omega) (by omega) (by omega) (by omega) (by omega));have:=jA aA aB a p n cap w' (by omega);rwa[decide_eq_true (⟨h0,h1⟩:0≤a∧a<n)]at this
theorem aHn {k n:Nat}(h:k<n):(List.replicate k (-1:Int)++List.replicate (n-k) 0).set k (-1)=List.replicate (k+1) (-1)++List.replicate (n-(k+1)) 0:=by
 have e:n-k=(n-(k+1))+1:=by omega
 rw[e,aSe,aS5 _ _ (by simp),List.replicate_succ',aRe];simp
theorem aMg (aA aB:Int)(p:OA)(n cap src:Nat)(a:Int)(w:World)(bw:4≤n)(hn:n≤12)(hs:src<n)
  (HC:Hid (∀(k:Nat),k<n→ ∀w',Ext w w'→U 217 #[aH aA aB p n cap,k] w' (aY (bF (aR aA n k)) w'))):
  U 216 #[aH aA aB p n cap,src,a] w fun e w'=> ∃D,sU (qH aA n a) [src] n D∧aY D w e w':=by
 obtain⟨AR,ae⟩: ∃AR:Array Value,AR=madeCells #[()] n:=⟨_,rfl⟩
 have bi: ∀w:World,(Instr.makeSlice 22 (I n) (I n)).run prog w= .ok (.slice (some ⟨w,0,none⟩) n n) (w.alloc (.cells AR TI)):=fun w=>by rw[ae];exact run_make_row' _ _ (I 0) 8 underlying22 (by kernel_rfl) rfl .i64 .i64 n (by omega) (by omega) w
 have av:Hid (AR.toList=ivs (List.replicate 0 (-1)++List.replicate (n-0) 0)):=by show _=_;rw[ae,(nS n).1];simp
 have aw:Hid (AR.size=n):=by show _=_;rw[ae];exact(nS n).2
 clear ae;go_enter func216,ntmps216;go_wp2;have ME:=xQ (show Mem w ((w.alloc (.cells #[aA,aB,.slice p n cap] TH3)).alloc (.cells AR TI)) [aI w TI 1 (some ⟨w.heap.size+1,0,none⟩) (n) (n) (ivs (List.replicate 0 (-1)++List.replicate (n-0) 0)),aJ w w TH3 #[aA,aB,.slice p n cap]]from by rw[←av.out];exact((Mem.start w).c0 TH3 #[aA,aB,.slice p n cap]).lit TI 1 n _ AR (by simp) (by rw[aw.out];omega) (by simp[maxLen];omega));clear av aw bi;go_loopw [19] (fun i wr=> ∃(k:Nat),k≤n∧i=I k∧Mem w wr [aI w TI 1 (some ⟨w.heap.size+1,0,none⟩) (n) (n) (ivs (List.replicate k (-1)++List.replicate (n-k) 0)),aJ w w TH3 #[aA,aB,.slice p n cap]]) (fun i _=>n-(intOf i).toNat)
 case atStart=>exact⟨0,aQt _,rfl,ME.out⟩
 case round=>
  clear ME;obtain⟨k,hk,rfl,hM⟩:=hrel;have HM:=xQ hM;clear hM;by_cases hlt:k<n
  ·have i1:(0:Int)≤(k:Int):=by omega
   have i2:(k:Int)<(n:Int):=by omega
   have hl:(List.replicate k (-1:Int)++List.replicate (n-k) 0)[k]? =some 0:=by rw[aR2 (by simp)];simp[aSi];omega
   have a9:wr.cell? ⟨w.heap.size+1,k,none⟩=some (I 0):=by have:=(HM.out.ow 0).cellAt k (by omega);rw[this];simp only[ivs,aR6,hl,aRk]
   have ba:wr.frozen? ⟨w.heap.size+1,k,none⟩=false:=(HM.out.ow 0).frozenAt k;clear hl;have M2:=xQ (HM.out.ostore (i:=0) rfl k (I (-1)));go_wp2;go_roundw
   case rel=>exact⟨k+1,by omega,by go_num,by have:=M2.out;rw[dZ,aHn hlt]at this;exact this⟩
   case measure=>simp[intOf];omega
  obtain rfl:n=k:=by omega
  rw[aSg,show List.replicate n (-1:Int)++List.replicate 0 0=List.replicate n (-1) by simp]at HM;have i1:(0:Int)≤(src:Int):=by omega
  have i2:(src:Int)<(n:Int):=by omega
  have a9:wr.cell? ⟨w.heap.size+1,src,none⟩=some (I (-1)):=by have:=(HM.out.ow 0).cellAt src (by omega);rw[this];simp[ivs,hs]
  have ba:wr.frozen? ⟨w.heap.size+1,src,none⟩=false:=(HM.out.ow 0).frozenAt src;have M2:=xQ (HM.out.ostore (i:=0) rfl src (I 0));rw[show Hid (Mem w (wr.setCell ⟨w.heap.size+1,src,none⟩ (I 0)) (List.set [aI w TI 1 (some ⟨w.heap.size+1,0,none⟩) (n) (n) (ivs (List.replicate n (-1))),aJ w w TH3 #[aA,aB,.slice p n cap]] 0 (aI w TI 1 (some ⟨w.heap.size+1,0,none⟩) n n (List.set (ivs (List.replicate n (-1))) src (I 0)))))=Hid (Mem w (wr.setCell ⟨w.heap.size+1,src,none⟩ (I 0)) [aI w TI 1 (some ⟨w.heap.size+1,0,none⟩) (n) (n) (ivs ((List.replicate n (-1)).set src 0)),aJ w w TH3 #[aA,aB,.slice p n cap]]) by rw[dZ];rfl]at M2;go_upto_region 8 with fail;clear a9 ba HM;generalize a7:World.setCell _ _ _=w1;rw[a7]at M2;clear a7;have I1:=xQ (Inv.one (adj:=qH aA n a) hs);have M3:=xQ (M2.out.lit TI 1 1 w1 #[src] rfl rfl (by simp[maxLen]));clear M2;go_wp2;go_loopw [9,10] (fun v i wr=> ∃(k:Nat) (q:OA) (l lc:Nat) (D:List Int) (Q:List Nat),k≤l∧i=I k∧v= .slice q l lc∧l=Q.length∧(∀x∈D,-1≤x∧x≤k)∧Inv (qH aA n a) [src] n k (D,Q)∧Mem w wr [aI w TI 1 (q) (l) (lc) (ivs (bF Q)),aI w TI 1 (some ⟨w.heap.size+1,0,none⟩) (n) (n) (ivs (D)),aJ w w TH3 #[aA,aB,.slice p n cap]]) (fun _ i _=>n-(intOf i).toNat)
  case atStart=>exact⟨0,some ⟨w1,0,none⟩,1,1,_,[src],aQt _,rfl,rfl,rfl,aM0 _ _,I1.out,M3.out⟩
  case round=>
   clear M3 I1;obtain⟨k,q,l,lc,D,Q,hk,rfl,rfl,ao,a1,ab,hM⟩:=hrel;have HM:=xQ hM;have HI:=xQ ab;have t:=xQ ao;have bx:l≤n:=by rw[ao];exact ab.qlen
   have ar:=xQ a1;clear hM ab ao a1;by_cases hlt2:k<l
   ·obtain⟨u,hu⟩: ∃u,Q[k]? =some u:=⟨_,aQo (by rw[←t.out];exact hlt2)⟩
    have bl:u<n:=HI.out.bd u (aQq hu);have HU:=xQ hu;clear hu;obtain⟨gL,rfl,az,ak⟩:=HM.out.so 0;have i3:(0:Int)≤(k:Int):=by omega
    have i4:(k:Int)<(l:Int):=by omega
    have cu:wr.cell? ⟨gL,k,none⟩=some (I u):=by have:=(HM.out.ow 0).cellAt k (by omega);rw[this];simp[ivs,bF,HU.out]
    obtain⟨nb,af⟩: ∃nb,nb=aR aA n u:=⟨_,rfl⟩
    have aj:=xQ af;have au:Hid (∀w',Ext w w'→U 217 #[aH aA aB p n cap,u] w' (aY (bF nb) w')):=by rw[af];exact HC u bl
    have bj:nb.length≤n:=by rw[af];exact aQy (aRr _ _) (by simp)
    clear af;have a5:(bF nb).length=nb.length:=by simp[bF]
    go_wp2;refine rL (gl [gEq (.agg #[aA,aB,.slice p n cap]),gEq (.slice (some ⟨gL,0,none⟩) l lc),gEq (k:Int),gEq (.pointer (some ⟨gL,k,none⟩)),gEq (u:Int),(fun v w'=> ∃q c,v= .slice q nb c∧w'.ownsRow wr TI 1 (.slice q nb c) nb.length (ivs (bF nb))),gEq (nb.length:Int),gEq (I 0)]) 8 8 [(0,some 37),(1,some 38),(2,some 39),(3,some 40),(4,some 41),(5,some 42),(6,some 43),(7,some 44)] ?steps ?fin (hG:=(kY (bE (bK _) (bE (bK _) (bE (bK _) (bE (bK _) (bE (bK _) (bE (fun v w w' ⟨q,c,he,ho⟩ hx=>⟨q,c,he,bB ho hx⟩) (bE (bK _) (bE (bK _) (nX)))))))))))
    case steps=>
     refine sC [] rfl (fun wi hx=> ?_) ?_
     ·intro K hK;have hX:Ext wr wi:=xE;obtain⟨bg,br,bs⟩:=((HM.out.bk 2).ext hX).tri;go_simp;exact hK _ _ ⟨.agg #[aA,aB,.slice p n cap],rfl,rfl,Ext.refl _⟩
     refine sS0 [] (sS0 [] (sS2 [(1,some 38),(2,some 39)] ?_));refine sC [(3,some 40)] rfl (fun wi hx=> ?_) ?_
     ·intro v3 h3 K hK;obtain rfl:=h3;have hX:Ext wr wi:=xE;have bg:wi.cell? ⟨gL,k,none⟩=some (I u):=(hX.cells.1 _ _ ak).trans cu;go_simp;exact hK _ _ ⟨I u,rfl,rfl,Ext.refl _⟩
     refine sC [(0,some 37),(4,some 41)] rfl (fun wi hx=> ?_) ?_
     ·intro v0 h0 v4 h4 K hK;subst h0 h4;go_wp2_with fail;refine(au _ (HM.out.ext.trans hx.of_drew)).mono ?_;rintro e w5 ⟨q5,c5,rfl,o5,bo⟩;rw[a5]at o5⊢;go_simp;exact hK _ _ ⟨.slice q5 nb c5,rfl,⟨q5,c5,rfl,bI o5 (by have:=hx.sz;simpa using this)⟩,bo⟩
     refine sC [(5,some 42)] rfl (fun wi hx=> ?_) ?_
     ·intro v5 h5 K hK;obtain⟨q5,c5,rfl,ap⟩:=h5;go_simp;exact hK _ _ ⟨I nb.length,rfl,rfl,Ext.refl _⟩
     exact sS0 [] StepsL.nil
    case fin=>
     intro wi hx v0 h0 v1 h1 v2 h2 v3 h3 v4 h4 v5 h5 v6 h6 v7 h7;subst h0 h1 h2 h3 h4;obtain⟨q5,c5,rfl,ap⟩:=h5;subst h6 h7;have M5:=xQ (show Mem w wi [aI w TI 1 (q5) (nb.length) (c5) (ivs (bF nb)),aI w TI 1 (some ⟨gL,0,none⟩) (l) (lc) (ivs (bF Q)),aI w TI 1 (some ⟨w.heap.size+1,0,none⟩) (n) (n) (ivs (D)),aJ w w TH3 #[aA,aB,.slice p n cap]]from HM.out.ownNew hx.of_drew ap (aQn _));clear ap hx cu HM au i3 i4 az ak;refine wpAny_done (by kernel_rfl) ?_ _;try go_frame
     go_wp2;go_loopw [9,44] (fun v i wr=> ∃(j:Nat) (q:OA) (l2 lc:Nat) (D2:List Int) (Q2:List Nat),j≤nb.length∧i=I j∧v= .slice q l2 lc∧l2=Q2.length∧(D2,Q2)=bQ (D.getD u 0+1) (D,Q) ((nb.take j).filter (fun(v:Nat)=>decide ((v:Int)≠a)))∧(∀x∈D2,-1≤x∧x≤(k:Int)+1)∧Mem w wr [aI w TI 1 (q5) (nb.length) (c5) (ivs (bF nb)),aI w TI 1 (q) (l2) (lc) (ivs (bF Q2)),aI w TI 1 (some ⟨w.heap.size+1,0,none⟩) (n) (n) (ivs (D2)),aJ w w TH3 #[aA,aB,.slice p n cap]]) (fun _ i _=>nb.length-(intOf i).toNat)
     case atStart=>exact⟨0,some ⟨gL,0,none⟩,l,lc,D,Q,aQt _,rfl,rfl,t.out,by simp[bQ],fun x hx=>by have:=ar x hx;omega,M5.out⟩
     case round=>
      clear M5;obtain⟨j,q,l2,lc,D2,Q2,hj,rfl,rfl,ai,am,y,hM⟩:=hrel;have a6:u∈Q:=aQq HU.out;have b:Mid (qH aA n a) [src] n k u ((nb.take j).filter (fun(v:Nat)=>decide ((v:Int)≠a))) (D,Q) (D2,Q2):=by
       rw[am]
       have:=Mid.many a6 ((nb.take j).filter (fun(v:Nat)=>decide ((v:Int)≠a))) [] (D,Q) (HI.out.mid HU.out) (fun v hv=>by
        have h1:=aRf.1 hv;have h2:v∈aR aA n u:=by rw[←aj.out];exact aSc h1.1
        exact⟨aRf.2 ⟨h2,h1.2⟩,(bU.1 h2).1⟩)
       simpa using this
      have ax:D2.length=n:=b.len;have bv:Q2.length≤n:=oS b.nodup b.bd;have aq:D2.getD u 0=D.getD u 0:=b.same u a6;obtain⟨r,hr⟩:=b.pre;dsimp only at hr;have bh:k<Q2.length:=by rw[hr,aQw];have:=t.out;omega
      have a0:Q2[k]? =some u:=by have:=t.out;rw[hr,aR4 (by omega)];exact HU.out
      have f:=dH (D:=D2) (v:=u) (by omega);have a3: -1≤D2.getD u 0:=(y _ f.2).1;have a4:D2.getD u 0≤(k:Int):=by rw[aq];exact(ar _ (dH (D:=D) (v:=u) (by have:=HI.out.len;dsimp only at this;omega)).2).2
      have HM:=xQ hM;have ad:=xQ am;have m:=xQ y;have o:=xQ ai;have be:=xQ a0;have bb:=xQ f.1;have bf:=xQ aq;have bq:l2≤n:=by omega
      have bp:k<l2:=by omega
      have ay:=xQ ax;clear hM am y ai a0 f aq hr b ax bh;by_cases hlt3:j<nb.length
      ·obtain⟨v,hv⟩: ∃v,nb[j]? =some v:=⟨_,aQo hlt3⟩
       have bm:v<n:=(bU.1 (by rw[←aj.out];exact aQq hv:v∈aR aA n u)).1;have HV:=xQ hv;clear hv;obtain⟨gN,rfl,bt,bu⟩:=HM.out.so 0;obtain⟨gL,rfl,az,ak⟩:=HM.out.so 1;obtain⟨dv,al⟩: ∃d,d=D2.getD v 0:=⟨_,rfl⟩
       obtain⟨du,f⟩: ∃d,d=D2.getD u 0:=⟨_,rfl⟩
       have z:=dH (D:=D2) (v:=v) (by rw[ay.out];exact bm);rw[←al]at z;have bc:=xQ z.1;have ah:=xQ al;have ag:=xQ f;rw[←f]at a3 a4;clear al f z;have m1:(0:Int)≤(j:Int):=by omega
       have m2:(j:Int)<(nb.length:Int):=by omega
       have m3:(0:Int)≤(v:Int):=by omega
       have m4:(v:Int)<(n:Int):=by omega
       have m5:(0:Int)≤(u:Int):=by omega
       have m6:(u:Int)<(n:Int):=by omega
       have m7:(0:Int)≤(k:Int):=by omega
       have m8:(k:Int)<(l2:Int):=by omega
       have cn:wr.cell? ⟨gN,j,none⟩=some (I v):=by have:=(HM.out.ow 0).cellAt j (by omega);rw[this];simp[ivs,bF,HV.out]
       have cf:wr.cell? ⟨w.heap.size+1,v,none⟩=some (I dv):=by have:=(HM.out.ow 2).cellAt v (by omega);rw[this];simp only[ivs,aR6,bc.out,aRk]
       by_cases hvb:(v:Int)=a
       ·have t1:((v:Int)!=a)=false:=by simp[hvb]
        have s:=xQ (aHw HV hvb);clear hvb;go_wp2;go_roundw
        case rel=>exact⟨j+1,some ⟨gL,0,none⟩,l2,lc,D2,Q2,by omega,by go_num,rfl,o.out,by rw[s.out];exact ad.out,m.out,HM.out⟩
        case measure=>simp[intOf];omega
       have t1:((v:Int)!=a)=true:=by simp[hvb]
       have s:=xQ (aEh HV hvb);clear hvb;by_cases hd0:dv<0
       ·have t2:decide (dv<0)=true:=by simp[hd0]
        have g:Hid ((D2.set v (du+1),Q2++ [v])=bQ (D.getD u 0+1) (D,Q) ((nb.take (j+1)).filter (fun(v:Nat)=>decide ((v:Int)≠a)))):=by show _=_;rw[s.out,dX,←ad.out,lC (by rw[←ah.out];exact hd0),ag.out,bf.out]
        have cl:wr.cell? ⟨gL,k,none⟩=some (I u):=by have:=(HM.out.ow 1).cellAt k (by omega);rw[this];simp[ivs,bF,be.out]
        have cd:wr.cell? ⟨w.heap.size+1,u,none⟩=some (I du):=by have:=(HM.out.ow 2).cellAt u (by omega);rw[this,ag.out];simp only[ivs,aR6,bb.out,aRk]
        have ff:wr.frozen? ⟨w.heap.size+1,v,none⟩=false:=(HM.out.ow 2).frozenAt v;have bz:IntKind.i64.wrap (du+1)=du+1:=aQp _ (by omega);have M6:=xQ (show Mem w (wr.setCell ⟨w.heap.size+1,v,none⟩ (I (du+1))) [aI w TI 1 (some ⟨gN,0,none⟩) (nb.length) (c5) (ivs (bF nb)),aI w TI 1 (some ⟨gL,0,none⟩) (l2) (lc) (ivs (bF Q2)),aI w TI 1 (some ⟨w.heap.size+1,0,none⟩) (n) (n) (ivs (D2.set v (du+1))),aJ w w TH3 #[aA,aB,.slice p n cap]]from by rw[←dZ];exact HM.out.ostore (i:=2) rfl v (I (du+1)));have a2:Hid (∀x∈D2.set v (du+1),-1≤x∧x≤(k:Int)+1):=by
         show∀_,_;intro x hx;rcases aRy hx with h|h
         ·exact m x h
         omega
        clear hd0;go_upto_region 17 with fail;clear cl cd ff cn cf HM;generalize a8:World.setCell _ _ _=w4;rw[a8]at M6;clear a8;go_wp2_with (at_builtin;go_loud (refine cH fM rfl _ _ rfl (M6.out.adv ((Ext.refl _).alloc (.cells #[v] TI))) 1 rfl rfl (ivs [(v:Int)]) rfl (eH _ _ _ 1 1 _ (by first|rfl|simp) (by first|rfl|simp) (by simp[maxLen])) (fun u hu=>by obtain rfl:=aRd.1 hu;rfl) (by omega) ?_;intro q7 c7 w6 M7));have M8:=xQ (show Mem w w6 [aI w TI 1 (some ⟨gN,0,none⟩) (nb.length) (c5) (ivs (bF nb)),aI w TI 1 (q7) (l2+1) (c7) (ivs (bF (Q2++ [v]))),aI w TI 1 (some ⟨w.heap.size+1,0,none⟩) (n) (n) (ivs (D2.set v (du+1))),aJ w w TH3 #[aA,aB,.slice p n cap]]from by rw[show ivs (bF (Q2++ [v]))=ivs (bF Q2)++ivs [(v:Int)] by simp[ivs,bF]];exact M7);clear M7 M6;go_wp2;go_roundw
        case rel=>exact⟨j+1,q7,l2+1,c7,D2.set v (du+1),Q2++ [v],by omega,by go_num,rfl,by simp[o.out],g.out,a2.out,M8.out⟩
        case measure=>simp[intOf];omega
       have t2:decide (dv<0)=false:=by simp;omega
       have g:Hid ((D2,Q2)=bQ (D.getD u 0+1) (D,Q) ((nb.take (j+1)).filter (fun(v:Nat)=>decide ((v:Int)≠a)))):=by show _=_;rw[s.out,dX,←ad.out,mV (by rw[←ah.out];exact hd0)]
       clear hd0;go_wp2;go_roundw
       case rel=>exact⟨j+1,some ⟨gL,0,none⟩,l2,lc,D2,Q2,by omega,by go_num,rfl,o.out,g.out,m.out,HM.out⟩
       case measure=>simp[intOf];omega
      obtain rfl:nb.length=j:=by omega
      have an:Hid (Inv (qH aA n a) [src] n (k+1) (D2,Q2)):=by show Inv _ _ _ _ _;have h1:=HI.out.step HU (fun v hv=>aI8 hv);have h2:=ad.out;rw[aS9,aj.out]at h2;rw[h2];exact h1
      have M9:=xQ (show Mem w wr [aI w TI 1 (q) (l2) (lc) (ivs (bF Q2)),aI w TI 1 (some ⟨w.heap.size+1,0,none⟩) (n) (n) (ivs (D2)),aJ w w TH3 #[aA,aB,.slice p n cap]]from HM.out.pick [1,2,3] (by decide) rfl);clear HM;go_wp2;go_roundw
      case rel=>exact⟨k+1,q,l2,lc,D2,Q2,by omega,by go_num,rfl,o.out,fun x hx=>by have:=m x hx;omega,an.out,M9.out⟩
      case measure=>simp[intOf];omega
   have aa:=xQ (HI.out.dist (by have:=t.out;dsimp only;omega));go_wp2;go_ret;exact⟨D,aa.out,some ⟨w.heap.size+1,0,none⟩,n,by rw[aa.out.len];rfl,by rw[aa.out.len];exact HM.out.ow 1,HM.out.ext⟩
theorem aPn (aA aB:Int)(p:OA)(n cap src:Nat)(a:Int)(xs:List Int)(w:World)(hS:Sl w p n cap 1 (ivs xs))(b:aO aA aB xs=true)(hs:src<n):
  U 216 #[aH aA aB p n cap,src,a] w fun e w'=> ∃D,sU (qH aA n a) [src] n D∧aY D w e w':=by
 have hl:=hS.ilen;obtain⟨g1,g2,g3,g4,g5,g6,g7,g8,g9⟩:=bM b
 exact aMg aA aB p n cap src a w (by omega) (by omega) hs (fun k hk w' hx=>by
  have:=aGy aA aB k p n cap xs w' (hS.ext hx) b (by omega) (by omega)
  rwa[lH]at this)
end Go.Proofs.YtbgkcehffiogcacGreatDoor
