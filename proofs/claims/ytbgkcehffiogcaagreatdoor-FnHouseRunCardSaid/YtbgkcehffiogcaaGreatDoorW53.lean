/-
  A law's walk or frame (@packed).
-/
import Derived.Test.YtbgkcehffiogcaaGreatDoorV32
namespace Go.Proofs.YtbgkcehffiogcaaGreatDoor
open Go.RowKit Go.Proofs.Tryz
set_option linter.unusedVariables false
set_option linter.unusedSimpArgs false
set_option maxHeartbeats 100000000
set_option maxRecDepth 100000
theorem Mem.own3d {w0 w w':World}{L:List Item}{e1 e2 e3:TypeId}{s1 s2 s3 n1 n2 n3 c1 c2 c3 b:Nat}{q1 q2 q3:OA}{a c d:List Value}(h:Mem w0 w L)(hx:Ext w w')(h1:w'.ownsRow b e1 s1 (.slice q1 n1 c1) n1 a)(h2:w'.ownsRow b e2 s2 (.slice q2 n2 c2) n2 c)(h3:w'.ownsRow b e3 s3 (.slice q3 n3 c3) n3 d)(hb:w.heap.size≤b)(i:e1≠e2)(k:e1≠e3)(l:e2≠e3):
  Mem w0 w' (aJ w0 e1 s1 q1 n1 c1 a::aJ w0 e2 s2 q2 n2 c2 c::aJ w0 e3 s3 q3 n3 c3 d::L):=by
 have f:=List.pairwise_cons.1 (h.own2 hx h1 h2 hb i).apart;have g:=List.pairwise_cons.1 (h.own2 hx h1 h3 hb k).apart;refine(h.own2 hx h2 h3 hb l).cons (dD _ _ _ _ _ _ _) (cT h1 (aK9 h.ext.sz hb)) (fun g' hg' j hj e=> ?_);rcases aKh.1 hj with rfl|hj
 ·exact f.1 _ (by simp) g' hg' e
 exact g.1 j (by rcases aKh.1 hj with rfl|hj<;>simp_all) g' hg' e
theorem aI5 {h:aO}{ds:List Dd3}(a: ¬bB h=true):oA h ds=(hZ,[]):=by unfold oA;rw[if_neg a]
def InT (w:World)(LT:List Item)(g:aO)(p:OA)(c:Nat)(q:OA)(d:Nat):Prop:=
 ∀w',Mem w w' LT→IsHouse w' g p g.cells.length c q g.vs.length d
theorem pI {w:World}{g:aO}{p q:OA}{c d:Nat}:InT w [aMe w p g.cells c,aMf w q g.vs d] g p c q d:=
 fun w' m=>⟨m.sq 0,m.sq 1⟩
theorem aHk {h r:aO}{k a b c:Int}(hr:doR h k a b=(r,c,true)):bB h=true∧bU h k a b=some (r,c):=by
 unfold doR at hr;by_cases hok:bB h=true
 ·rw[if_pos hok]at hr;cases hd:bU h k a b with
  |none=>rw[hd]at hr;simp at hr
  |some x=>obtain⟨g,n⟩:=x;rw[hd]at hr;simp only[aKx]at hr;obtain⟨rfl,rfl,_⟩:=hr;exact⟨hok,rfl⟩
 rw[if_neg hok]at hr;simp at hr
theorem aI8 {g r:aO}{a b c:Int}(hr:doR g 1 a b=(r,c,true)):1≤b∧b≤300∧0≤c∧c≤b:=by
 obtain⟨d,hd⟩:=aHk hr;rcases tQ hd with⟨h,_⟩|⟨_,hp⟩|⟨h,_⟩|⟨h,_⟩|⟨h,_⟩
 ·omega
 ·obtain⟨v,hv,a1,a2,a3,a4,_⟩:=aCn d hp;omega
 all_goals omega
theorem aIg {h g:aO}{ds:List Dd3}{k:Nat}{a b c:Int}{r:aO}{d:Int}{ok:Bool}(hx:ds[k]? =some (a,b,c)) (hg:g=gE h (ds.take k)) (hr:doR g a b c=(r,d,ok)):
  r=gE h (ds.take (k+1))∧jE h (ds.take (k+1))=jE h (ds.take k)+(if ok=true∧a=1 then c-d else 0):=by
 rw[bE hx,qG,aBh,←hg];unfold fU;dsimp only;rw[hr];exact⟨rfl,rfl⟩
theorem wT {h:aO}(a:bB h=true)(ds:List Dd3):(gE h ds).aG=h.aG+jE h ds∧ -99999≤jE h ds∧jE h ds≤99999∧0≤h.aG∧h.aG≤99999:=by have h1:=aHs ds a;obtain⟨_,_,q3,_,_⟩:=(dK h).1 a;obtain⟨_,_,g3,_,_⟩:=(dK _).1 (lU ds a);refine⟨h1,?_,?_,?_,?_⟩<;>omega
theorem Mem.fst3 {w0 w:World}{a b c:Item}{L:List Item}(h:Mem w0 w (a::b::c::L)):Mem w0 w (c::a::b::L):=by
 have p1:=List.pairwise_cons.1 h.apart;have p2:=List.pairwise_cons.1 p1.2;have p3:=List.pairwise_cons.1 p2.2;have e: ∀x,x∈c::a::b::L→x∈a::b::c::L:=fun x hx=>by
  simp only[aKh]at hx⊢;rcases hx with h|h|h|h
  ·exact .inr (.inr (.inl h))
  ·exact .inl h
  ·exact .inr (.inl h)
  exact .inr (.inr (.inr h))
 refine⟨h.ext,fun x hx=>h.good x (e x hx),fun x hx=>h.ok x (e x hx),?_⟩;refine List.pairwise_cons.2 ⟨fun x hx=> ?_,List.pairwise_cons.2 ⟨fun x hx=> ?_,List.pairwise_cons.2 ⟨fun x hx=> ?_,p3.2⟩⟩⟩
 ·rcases aKh.1 hx with rfl|hx
  ·exact fun g h1 h2=>p1.1 c (by simp) g h2 h1
  rcases aKh.1 hx with rfl|hx
  ·exact fun g h1 h2=>p2.1 c (by simp) g h2 h1
  exact p3.1 x hx
 ·rcases aKh.1 hx with rfl|hx
  ·exact p1.1 _ (by simp)
  exact p1.1 x (by simp[hx])
 exact p2.1 x (by simp[hx])
theorem aAw {w:World}{b n a sz k:Nat}{xs:List Value}(h:Sl w (some ⟨b,0,none⟩) n a sz xs)(hk:k≤n):Sl w (if a=k then some ⟨b,0,none⟩else some ⟨b,k*sz,none⟩) (n-k) (a-k) sz (xs.drop (k*sz)):=by
 have hl:=h.len;have c:=h.le;have d:=h.mx;split
 ·have e1:n-k=0:=by omega
  rw[e1];have e2:n=k:=by omega
  exact⟨by rw[aL7,hl,e2];omega,aK8 _,by omega,fun h=>absurd h (by omega)⟩
 have:=sS h hk;simpa using this
theorem aC6 (ds:List Dd3)(m:Nat):(ds.flatMap cE).take (m*3)=(ds.take m).flatMap cE:=by
 induction ds generalizing m with
 |nil=>simp
 |cons d ds ih=>
  cases m with
  |zero=>simp
  |succ m=>obtain⟨a,b,c⟩:=d;rw[show(m+1)*3=m*3+1+1+1 by omega];simp[cE,ih]
theorem aC7 (ds:List Dd3)(m:Nat):(ds.flatMap cE).drop (m*3)=(ds.drop m).flatMap cE:=by
 induction ds generalizing m with
 |nil=>simp
 |cons d ds ih=>
  cases m with
  |zero=>simp
  |succ m=>obtain⟨a,b,c⟩:=d;rw[show(m+1)*3=m*3+1+1+1 by omega];simp[cE,ih]
theorem tN (p:OA)(n a:Nat)(w:World)(h:(1048576:Int)<n):
  U 3 #[.slice p n a] w (O (.bool true) w):=by
 go_enter func3,ntmps3;go_wp2;go_ret;exact⟨rfl,xE⟩
theorem xH (p0:OA)(n0 fu:Nat)(w:World)(hn:(n0:Int)≤1048576)(HE:Hid (Env w))(eu:Hid (BitTab w))
  (HD:U 5 #[.slice p0 n0 fu] w (xU w)):
  U 3 #[.slice p0 n0 fu] w (O (.bool true) w):=by
 unfold xU at HD;have HD:=xQ HD;have jy:decide ((1048576:Int)<(n0:Int))=false:=by simp;omega
 have jz:decide (1048576<n0)=false:=by simp;omega
 go_enter func3,ntmps3;go_wp2_with fail;refine HD.out.mono ?_;rintro e w1 ⟨h,p,af,q,c2,ds,lq,lc,rfl,lg,lh,ka,hi,hl,it,g3,rfl⟩;have HI:=xQ hi;have cn:=xQ it;clear hi HD it jy jz;have HL:=xQ hl;clear hl;obtain⟨n,hn⟩: ∃n,ds.length=n:=⟨_,rfl⟩
 obtain⟨r,hr⟩: ∃r,(oA h ds).1=r:=⟨_,rfl⟩
 obtain⟨bs,ce⟩: ∃bs,(oA h ds).2=bs:=⟨_,rfl⟩
 obtain⟨nb,dq⟩: ∃nb,bs.length=nb:=⟨_,rfl⟩
 have j8:=aG4 h ds;have hu:xC 6 #[.agg #[h.aA,h.aB,.slice p h.cells af,h.free,h.step,h.aE,h.aF,h.aC,h.aG,.slice q h.vs c2],.slice (some ⟨g3,0,none⟩) n lc] w1 fun w' e w''=> ∃pa ca qa da ps cs,e= .returned (.tuple #[.agg #[r.aA,r.aB,.slice pa r.cells ca,r.free,r.step,r.aE,r.aF,r.aC,r.aG,.slice qa r.vs da],.slice ps nb cs])∧w''.ownsRow w' TI 1 (.slice pa r.cells ca) r.cells.length (ivs r.cells)∧w''.ownsRow w' TV 4 (.slice qa r.vs da) r.vs.length (r.vs.flatMap aD)∧w''.ownsRow w' TB 1 (.slice ps nb cs) nb (bcs bs)∧Ext w' w'':=fun w' hx=>by have:=mA h p _ af q _ c2 _ _ lc ds w' (HI.out.ext hx) (HL.out.ext hx) (by omega) (eu.out.ext (cn.out.trans hx));unfold iV at this;rw[hr,ce,dq,hn]at this;exact this
 have hv:xC 7 #[.agg #[h.aA,h.aB,.slice p h.cells af,h.free,h.step,h.aE,h.aF,h.aC,h.aG,.slice q h.vs c2],.slice (some ⟨g3,0,none⟩) n lc] w1 fun w' e w''=> ∃pa ca qa da ps cs,e= .returned (.tuple #[.agg #[r.aA,r.aB,.slice pa r.cells ca,r.free,r.step,r.aE,r.aF,r.aC,r.aG,.slice qa r.vs da],.slice ps nb cs])∧w''.ownsRow w' TI 1 (.slice pa r.cells ca) r.cells.length (ivs r.cells)∧w''.ownsRow w' TV 4 (.slice qa r.vs da) r.vs.length (r.vs.flatMap aD)∧w''.ownsRow w' TB 1 (.slice ps nb cs) nb (bcs bs)∧Ext w' w'':=fun w' hx=>by have:=wC h p _ af q _ c2 _ _ lc ds w' (HI.out.ext hx) (HL.out.ext hx) (by omega);unfold iV at this;rw[hr,ce,dq,hn]at this;exact this
 rw[hn]at ka;rw[hr,ce,dq,hn]at j8;have HN:=xQ hn;have jl:=xQ dq;have hy:=xQ fun(w':World) (hx:Ext w1 w')=>kY h p _ af q _ c2 w' (HI.out.ext hx)
 rw[hn]at HL⊢;have fz:=xQ hr;have hc:=xQ ce;clear hn dq hr ce;go_wp2_with fail;refine(hu _ ((Mem.start w1).c0 aL #[h.aA,h.aB,.slice p h.cells af,h.free,h.step,h.aE,h.aF,h.aC,h.aG,.slice q h.vs c2]).ext).mono ?_;rintro e w2 ⟨p5,c5,q5,d5,b5,f5,rfl,im,iq,ii,ch⟩;have M2:=(((Mem.start w1).c0 aL #[h.aA,h.aB,.slice p h.cells af,h.free,h.step,h.aE,h.aF,h.aC,h.aG,.slice q h.vs c2]).own3d ch im iq ii (aK1 _) (by decide) (by decide) (by decide))
 have gn:=M2.hi 3;clear ch im iq ii;obtain⟨ar,au,av,aw,ae,f,ag,ax,ay,az⟩:=(M2.bk 3).ten;go_upto_region 5 with fail;obtain⟨X5,gg⟩: ∃a,a=w2.heap.size:=⟨_,rfl⟩
 rw[←gg];clear ar au av aw ae f ag ax ay az;have M3:=(M2.blkNew aL #[r.aA,r.aB,.slice p5 r.cells c5,r.free,r.step,r.aE,r.aF,r.aC,r.aG,.slice q5 r.vs d5] X5 gg.symm)
 generalize World.alloc _ _=v2 at M3⊢;clear M2 gn gg;have gp:=M3.hi 0;have gq:=M3.hi 4;obtain⟨ar,au,av,aw,ae,f,ag,ax,ay,az⟩:=(M3.bk 4).ten;go_wp2_with fail;clear ar au av aw ae f ag ax ay az;refine(hv _ M3.ext).mono ?_;rintro e w4 ⟨p6,c6,q6,d6,b6,f6,rfl,a7,a8,ij,iu⟩;have M4:=(M3.own3d iu a7 a8 ij (aK1 _) (by decide) (by decide) (by decide))
 clear M3 gp gq iu a7 a8 ij hu hv;have gr:=M4.hi 3;have gs:=M4.hi 7;obtain⟨ar,au,av,aw,ae,f,ag,ax,ay,az⟩:=(M4.bk 3).ten;go_wp2_with fail;clear ar au av aw ae f ag ax ay az;refine Z (jO r _ _ _ _ _ _ _ _ _ _ _ _ _ ⟨((M4.c0 aL (aMg r p6 c6 q6 d6)).sq 5),((M4.c0 aL (aMg r p6 c6 q6 d6)).sq 6)⟩ ⟨((M4.c0 aL (aMg r p6 c6 q6 d6)).sq 1),((M4.c0 aL (aMg r p6 c6 q6 d6)).sq 2)⟩) fun w5 aq=>?_
 have M5:=((M4.c0 aL (aMg r p6 c6 q6 d6)).adv aq)
 clear M4 gr gs aq;have gt:=M5.hi 0;have gu:=M5.hi 4;have gv:=M5.hi 8;go_wp2_with fail;refine Z (wK _ _ _ _ _ bs _ (M5.sq 7) (M5.sq 3)) fun w6 iv=>?_
 have M6:=(M5.adv iv)
 clear M5 gt gu gv iv;have gw:=M6.hi 0;have gx:=M6.hi 4;have gy:=M6.hi 8;have M7:=(show Mem w1 w6 [aI w1 (X5) aL (aMg r p5 c5 q5 d5),aMe w1 p5 r.cells c5,aMf w1 q5 r.vs d5,aI w1 w1 aL (aMg h p af q c2)]from M6.pick [4,5,6,8] (by decide) rfl)
 clear M6 gw gx gy;have gz:=M7.hi 0;have g0:=M7.hi 3;obtain⟨ar,au,av,aw,ae,f,ag,ax,ay,az⟩:=(M7.bk 3).ten;go_wp2_with fail;clear ar au av aw ae f ag ax ay az;refine Z (hy _ M7.ext) fun w8 iw=>?_
 have M8:=(M7.adv iw)
 clear M7 gz g0 iw hy;have dv:=M8.hi 0;have dw:=M8.hi 3;by_cases hok:bB h=true
 ·skip;rw[hok];have ck:=xQ hok;have gk:r=gE h ds:=by rw[←fz.out,wL hok]
  have ip:bB r=true:=by rw[gk];exact lU _ hok
  have ew:=xQ gk;have hh:=xQ ip;clear fz hc hok gk ip;obtain⟨ar,au,av,aw,ae,f,ag,ax,ay,az⟩:=(M8.bk 3).ten;go_upto_region 11 with fail;obtain⟨gN,gh⟩: ∃a,a=w8.heap.size:=⟨_,rfl⟩
  rw[←gh];clear ar au av aw ae f ag ax ay az;have M9:=(M8.blkNew aL #[h.aA,h.aB,.slice p h.cells af,h.free,h.step,h.aE,h.aF,h.aC,h.aG,.slice q h.vs c2] gN gh.symm)
  generalize World.alloc _ _=v3 at M9⊢;clear M8 dv dw gh;have dx:=M9.hi 0;have g1:=M9.hi 1;have g2:=M9.hi 4;go_wp2;go_loopw [10,11] (fun sm i wr=> ∃(k:Nat) (g:aO) (p3:OA) (c3:Nat) (q3:OA) (d3:Nat) (S:Int) (LT:List Item),k≤n∧i=I k∧sm=I S∧g=gE h (ds.take k)∧S=jE h (ds.take k)∧Mem w1 wr (aI w1 (gN) aL (aMg g p3 c3 q3 d3)::aI w1 (X5) aL (aMg r p5 c5 q5 d5)::aMe w1 p5 r.cells c5::aMf w1 q5 r.vs d5::aI w1 w1 aL (aMg h p af q c2)::LT)∧InT w1 LT g p3 c3 q3 d3) (fun _ i _=>n-(intOf i).toNat)
  case atStart=>exact⟨0,h,p,af,q,c2,0,[],aK8 _,rfl,rfl,rfl,rfl,M9,fun w' m=>HI.out.ext m.ext⟩
  case round=>
   clear M9 dx g1 g2;obtain⟨k,g,p3,c3,q3,d3,S,LT,hk,rfl,rfl,hg,hS,hM,hT⟩:=hrel;have HM:=hM;have HT:=xQ hT;have ig:=wT ck (ds.take k);rw[←hS]at ig;obtain⟨-,jv,jw,-,-⟩:=ig;have hd:Hid (bB g=true):=by show _=_;rw[hg];exact lU _ ck.out
   have HG:=xQ hg;have cx:=xQ hS;clear hM hT hg hS;have ct:gN<wr:=(HM.hi 0)
   have cu:X5<wr:=(HM.hi 1)
   have cv:(w1:Nat)<wr:=(HM.hi 4)
   by_cases hlt:k<n
   ·skip;obtain⟨b,kg,a0,a1,a2,e6,hx,a6,e0,e1,e2⟩:=xK HL hlt;obtain⟨rfl,rfl⟩:g3=b∧0=kg:=by injection e6 with e6;injection e6 with h1 h2;exact⟨h1,h2⟩
    clear e6;obtain⟨nx,num,ok,hr⟩: ∃nx num ok,doR g a0 a1 a2=(nx,num,ok):=⟨_,_,_,rfl⟩
    have cf:=xQ (aIg hx HG hr);have HR:=xQ hr;have i1:(0:Int)≤(k:Int):=by omega
    have i2:(k:Int)<(n:Int):=by omega
    have jm:=xQ HM.ext.sz;have IX:=xQ (HT _ (HM.sub (.cons _ (.cons _ (.cons _ (.cons _ (.cons _ (.refl _))))))));simp only[aL4]at e0 e1 e2;have HD:Hid (∀B w',B≤w'.heap.size→Ext wr w'→U 13 #[.agg #[g.aA,g.aB,.slice p3 g.cells c3,g.free,g.step,g.aE,g.aF,g.aC,g.aG,.slice q3 g.vs d3],.agg #[a0,a1,a2]] w' fun e w''=> ∃pa ca qa da,e= .returned (.tuple #[.agg #[nx.aA,nx.aB,.slice pa nx.cells ca,nx.free,nx.step,nx.aE,nx.aF,nx.aC,nx.aG,.slice qa nx.vs da],num,.bool ok])∧w''.ownsRow B TI 1 (.slice pa nx.cells ca) nx.cells.length (ivs nx.cells)∧w''.ownsRow B TV 4 (.slice qa nx.vs da) nx.vs.length (nx.vs.flatMap aD)∧Ext w' w''):=fun B w' hB hx=>by have:=aIi g a0 a1 a2 p3 _ c3 q3 _ d3 w' (IX.out.ext hx) (eu.out.ext (cn.out.trans (HM.ext.trans hx)));rw[hr]at this;refine this.mono ?_;rintro e w'' ⟨pa,ca,qa,da,rfl,o1,o2,ch⟩;exact⟨pa,ca,qa,da,rfl,cT o1 hB,cT o2 hB,ch⟩
    clear hx hr;obtain⟨a9,ba,bb,bc,be,bf,bg,bh,bi,bj⟩:=(HM.bk 0).ten;have xm:=HM.ext;have lb:g3<wr:=by have:=jm.out;omega
    have kb:wr.cell? ⟨g3,k*3,none⟩=some (I a0):=(xm.cells.1 _ _ a6).trans e0;have kc:wr.cell? ⟨g3,k*3+1,none⟩=some (I a1):=(xm.cells.1 _ _ a6).trans e1;have kd:wr.cell? ⟨g3,k*3+2,none⟩=some (I a2):=(xm.cells.1 _ _ a6).trans e2;have dy: ¬(gN=wr.heap.size):=by omega
    have dz: ¬(wr.heap.size=gN):=by omega
    have d0: ¬(g3=wr.heap.size):=by omega
    have d1: ¬(wr.heap.size=g3):=by omega
    go_upto_region 15 with fail;go_cut [12,13,14] (fun s1 s2 s3 wx=> ∃(g7:Nat) (p7:OA) (c7:Nat) (q7:OA) (d7:Nat),s1= .pointer (some ⟨g7,0,none⟩)∧s2=I num∧s3= .bool ok∧Mem w1 wx (aI w1 (g7) aL (aMg nx p7 c7 q7 d7)::aMe w1 p7 nx.cells c7::aMf w1 q7 nx.vs d7::aI w1 (gN) aL (aMg g p3 c3 q3 d3)::aI w1 (X5) aL (aMg r p5 c5 q5 d5)::aMe w1 p5 r.cells c5::aMf w1 q5 r.vs d5::aI w1 w1 aL (aMg h p af q c2)::LT))
    case first=>
     go_region_held3 (fun w'=>w'.cell? ⟨gN,0,none⟩=some (I g.aA)∧w'.cell? ⟨gN,1,none⟩=some (I g.aB)∧w'.cell? ⟨gN,2,none⟩=some (.slice p3 g.cells c3)∧w'.cell? ⟨gN,3,none⟩=some (I g.free)∧w'.cell? ⟨gN,4,none⟩=some (I g.step)∧w'.cell? ⟨gN,5,none⟩=some (I g.aE)∧w'.cell? ⟨gN,6,none⟩=some (I g.aF)∧w'.cell? ⟨gN,7,none⟩=some (I g.aC)∧w'.cell? ⟨gN,8,none⟩=some (I g.aG)∧w'.cell? ⟨gN,9,none⟩=some (.slice q3 g.vs d3)∧w'.cell? ⟨g3,k*3,none⟩=some (I a0)∧w'.cell? ⟨g3,k*3+1,none⟩=some (I a1)∧w'.cell? ⟨g3,k*3+2,none⟩=some (I a2))
      (first|(refine⟨?_,?_,?_,?_,?_,?_,?_,?_,?_,?_,?_,?_,?_⟩<;>with_reducible assumption)|go_keep)
      (first
       |(go_at_call 13
         refine(HD wr _ (Ext.sz (show Ext wr _ from xE)) xE).mono ?_;rintro e ws ⟨p7,c7,q7,d7,rfl,os,g6,du⟩;have s:Ext wr ws:=xE;obtain⟨ki,kj,kk,kl,km,kn,ko,kp,kq,kr⟩:=((HM.bk 0).ext s).ten;have li:ws.cell? ⟨g3,k*3,none⟩=some (I a0):=((HM.ext.trans s).cells.1 _ _ a6).trans e0;have ks:ws.cell? ⟨g3,k*3+1,none⟩=some (I a1):=((HM.ext.trans s).cells.1 _ _ a6).trans e1;have lj:ws.cell? ⟨g3,k*3+2,none⟩=some (I a2):=((HM.ext.trans s).cells.1 _ _ a6).trans e2;have iz: ¬(gN=ws.heap.size):=by have:=s.sz;omega
         have i0: ¬(ws.heap.size=gN):=by have:=s.sz;omega
         have i3: ¬(g3=ws.heap.size):=by have:=s.sz;omega
         have i4: ¬(ws.heap.size=g3):=by have:=s.sz;omega
         first
          |(with_reducible have hz:Ext (wr.alloc (.cells #[(),(),((),()),(),(),(),(),(),(),((),())] aL)) ws:=du;have MB:=(Mem.own2blk HM s ((Blk.new wr aL #[(),(),((),()),(),(),(),(),(),(),((),())]).ext hz) (aK1 _) os g6 (by decide) (by decide) (by decide));obtain⟨cp,g9,cq,ha,cr,hb,eb,k1,ec,k2,ed,k3,ee,k4,ef,k5,eg,k6,eh,k7⟩:=(MB.blk (i:=2) rfl).tenf)
          |(with_reducible have hz:Ext (wr.alloc (.cells #[(),(),((),()),(),(),(),(),(),(),((),())] aL)) ws:=du.of_drew;have MB:=(Mem.own2blk HM s ((Blk.new wr aL #[(),(),((),()),(),(),(),(),(),(),((),())]).ext hz) (aK1 _) os g6 (by decide) (by decide) (by decide));obtain⟨cp,g9,cq,ha,cr,hb,eb,k1,ec,k2,ed,k3,ee,k4,ef,k5,eg,k6,eh,k7⟩:=(MB.blk (i:=2) rfl).tenf)
          |(have MA:=(Mem.own2 HM s os g6 (aK1 _) (by decide)))))
     all_goals (
      go_wp2_with fail;go_meet
      first
       |exact⟨_,p7,c7,q7,d7,rfl,rfl,rfl,(MB.put10 (i:=2) rfl (I nx.aA) (I nx.aB) (.slice p7 nx.cells c7) (I nx.free) (I nx.step) (I nx.aE) (I nx.aF) (I nx.aC) (I nx.aG) (.slice q7 nx.vs d7)).fst3⟩
       |exact⟨_,p7,c7,q7,d7,rfl,rfl,rfl,MA.bn aL (aMg nx p7 c7 q7 d7) _⟩)
    case rest=>
     clear a9 ba bb bc be bf bg bh bi bj xm dy dz d0 d1 kb kc kd lb HD IX;obtain⟨g7,p7,c7,q7,d7,rfl,rfl,rfl,dm⟩:=hcut;obtain⟨v5,rfl⟩: ∃z,z=wc:=⟨_,rfl⟩
     have MC:=dm;have hw:=xQ (HT _ (MC.sub (.cons _ (.cons _ (.cons _ (.cons _ (.cons _ (.cons _ (.cons _ (.cons _ (.refl _)))))))))));clear dm HM HT ct cu cv;have lb:g3<v5:=by have:=MC.ext.sz;omega
     cases ok with
     |false=>
      have u:g7<v5:=(MC.hi 0)
      have aa:gN<v5:=(MC.hi 3)
      have ab:X5<v5:=(MC.hi 4)
      have ad:(w1:Nat)<v5:=(MC.hi 7)
      obtain⟨x0,x1,x2,x3,x4,x5,x6,x7,x8,x9⟩:=(MC.bk 0).ten;obtain⟨v0,bu,v1,bv,v2,bw,v3,bx,v4,bz,v5,b0,v6,b3,v7,b4,v8,b7,v9,b8⟩:=(MC.bk 3).tenf;obtain⟨j,l⟩:=MC.nq 0 3;go_upto_region 14 with fail;clear x0 x1 x2 x3 x4 x5 x6 x7 x8 x9 v0 bu v1 bv v2 bw v3 bx v4 bz v5 b0 v6 b3 v7 b4 v8 b7 v9 b8 j l;have b9:=(MC.put10 (i:=3) rfl (I nx.aA) (I nx.aB) (.slice p7 nx.cells c7) (I nx.free) (I nx.step) (I nx.aE) (I nx.aF) (I nx.aC) (I nx.aG) (.slice q7 nx.vs d7))
      generalize o:World.setCell _ _ _=wz;rw[o]at b9;clear o MC u aa ab ad lb;go_wp2;go_roundw
      case rel=>exact⟨k+1,nx,p7,c7,q7,d7,S,_,by omega,by go_num,rfl,cf.out.1,by rw[cf.out.2,←cx.out];simp,b9.pick [3,4,5,6,7,1,2] (by decide) rfl,pI⟩
      case measure=>simp[intOf];omega
     |true=>
      have f0:v5.cell? ⟨g3,k*3,none⟩=some (I a0):=(MC.ext.cells.1 _ _ a6).trans e0;have f1:v5.cell? ⟨g3,k*3+1,none⟩=some (I a1):=(MC.ext.cells.1 _ _ a6).trans e1;have f2:v5.cell? ⟨g3,k*3+2,none⟩=some (I a2):=(MC.ext.cells.1 _ _ a6).trans e2;by_cases h1:a0=1
      ·skip;subst h1;have hp:=aI8 HR.out;have j1:IntKind.i64.wrap (S+a2)=S+a2:=aK3 _ (by omega);have j2:IntKind.i64.wrap (S+a2-num)=S+a2-num:=aK3 _ (by omega);have cg:Hid (S+a2-num=jE h (ds.take (k+1))):=by show _=_;rw[cf.out.2,←cx.out];simp;omega
       go_upto_region 22 with fail;clear f0 f1 f2 j1 j2;have u:g7<v5:=(MC.hi 0)
       have aa:gN<v5:=(MC.hi 3)
       have ab:X5<v5:=(MC.hi 4)
       have ad:(w1:Nat)<v5:=(MC.hi 7)
       obtain⟨x0,x1,x2,x3,x4,x5,x6,x7,x8,x9⟩:=(MC.bk 0).ten;obtain⟨v0,bu,v1,bv,v2,bw,v3,bx,v4,bz,v5,b0,v6,b3,v7,b4,v8,b7,v9,b8⟩:=(MC.bk 3).tenf;obtain⟨j,l⟩:=MC.nq 0 3;go_upto_region 14 with fail;clear x0 x1 x2 x3 x4 x5 x6 x7 x8 x9 v0 bu v1 bv v2 bw v3 bx v4 bz v5 b0 v6 b3 v7 b4 v8 b7 v9 b8 j l;have b9:=(MC.put10 (i:=3) rfl (I nx.aA) (I nx.aB) (.slice p7 nx.cells c7) (I nx.free) (I nx.step) (I nx.aE) (I nx.aF) (I nx.aC) (I nx.aG) (.slice q7 nx.vs d7))
       generalize o:World.setCell _ _ _=wz;rw[o]at b9;clear o MC u aa ab ad lb;go_wp2;go_roundw
       case rel=>exact⟨k+1,nx,p7,c7,q7,d7,(S+a2-num),_,by omega,by go_num,rfl,cf.out.1,cg.out,b9.pick [3,4,5,6,7,1,2] (by decide) rfl,pI⟩
       case measure=>simp[intOf];omega
      have b1:(a0==1)=false:=by simpa using h1
      have cg:Hid (S=jE h (ds.take (k+1))):=by show _=_;rw[cf.out.2,←cx.out];simp[h1]
      by_cases h2:a0=2
      ·skip;subst h2;obtain⟨i,pd,t,o1,o2,o3,o4,o5,o6,o7,o8⟩:=aIa hd (aHk HR.out).2;obtain⟨_,ht,ik,_,_⟩:=(dK g).1 hd.out;have k9:0≤g.aC:=ik.1;have ey:=xQ fun(w':World) (hx:Ext v5 w')=>aCt g a1 p3 _ c3 q3 _ d3 w' (hw.out.ext hx)
       unfold sI at ey;rw[o1]at ey;obtain⟨y1,ix⟩: ∃y,iH g.free g.step g.aE g.aF (g.aC-i)=y:=⟨_,rfl⟩
       obtain⟨y2,iy⟩: ∃y,iH g.free g.step g.aE g.aF (t-i)=y:=⟨_,rfl⟩
       have cw:=xQ fun w'=>aBu g.free g.step g.aE g.aF (g.aC-i) w' ht (by omega) (by omega)
       have ev:=xQ fun w'=>aBu g.free g.step g.aE g.aF (t-i) w' ht (by omega) (by omega)
       rw[ix]at cw o2;rw[iy]at ev o2;clear ix iy o1 ht ik b1;have u:g7<v5:=(MC.hi 0)
       have aa:gN<v5:=(MC.hi 3)
       have ab:X5<v5:=(MC.hi 4)
       have ad:(w1:Nat)<v5:=(MC.hi 7)
       obtain⟨a9,ba,bb,bc,be,bf,bg,bh,bi,bj⟩:=(MC.bk 3).ten;have dy: ¬(gN=v5.heap.size):=by omega
       have dz: ¬(v5.heap.size=gN):=by omega
       have d0: ¬(g3=v5.heap.size):=by omega
       have d1: ¬(v5.heap.size=g3):=by omega
       go_upto_region 19 with fail;go_cut [15] (fun s1 wx=> ∃gS:Nat,s1= .pointer (some ⟨gS,0,none⟩)∧Mem w1 wx (aI w1 (gS) TS3 #[i,pd,t]::aI w1 (g7) aL (aMg nx p7 c7 q7 d7)::aMe w1 p7 nx.cells c7::aMf w1 q7 nx.vs d7::aI w1 (gN) aL (aMg g p3 c3 q3 d3)::aI w1 (X5) aL (aMg r p5 c5 q5 d5)::aMe w1 p5 r.cells c5::aMf w1 q5 r.vs d5::aI w1 w1 aL (aMg h p af q c2)::LT))
       case first=>
        go_region_held3 (fun w'=>w'.cell? ⟨gN,0,none⟩=some (I g.aA)∧w'.cell? ⟨gN,1,none⟩=some (I g.aB)∧w'.cell? ⟨gN,2,none⟩=some (.slice p3 g.cells c3)∧w'.cell? ⟨gN,3,none⟩=some (I g.free)∧w'.cell? ⟨gN,4,none⟩=some (I g.step)∧w'.cell? ⟨gN,5,none⟩=some (I g.aE)∧w'.cell? ⟨gN,6,none⟩=some (I g.aF)∧w'.cell? ⟨gN,7,none⟩=some (I g.aC)∧w'.cell? ⟨gN,8,none⟩=some (I g.aG)∧w'.cell? ⟨gN,9,none⟩=some (.slice q3 g.vs d3)∧w'.cell? ⟨g3,k*3+1,none⟩=some (I a1))
         (first|(refine⟨?_,?_,?_,?_,?_,?_,?_,?_,?_,?_,?_⟩<;>with_reducible assumption)|go_keep)
         (first
          |(go_at_call 14
            refine Z (ey _ xE) fun ws du=>?_
            have s:Ext v5 ws:=xE;obtain⟨ki,kj,kk,kl,km,kn,ko,kp,kq,kr⟩:=((MC.bk 3).ext s).ten;have ks:ws.cell? ⟨g3,k*3+1,none⟩=some (I a1):=((MC.ext.trans s).cells.1 _ _ a6).trans e1;have iz: ¬(gN=ws.heap.size):=by have:=s.sz;omega
            have i0: ¬(ws.heap.size=gN):=by have:=s.sz;omega
            have i3: ¬(g3=ws.heap.size):=by have:=s.sz;omega
            have i4: ¬(ws.heap.size=g3):=by have:=s.sz;omega
            first
             |(with_reducible have hz:Ext (v5.alloc (.cells #[(),(),()] TS3)) ws:=du;have MB:=((MC.bn TS3 #[(),(),()] _).adv hz);obtain⟨cp,g9,cq,ha,cr,hb⟩:=(MB.blk (i:=0) rfl).trif)
             |(with_reducible have hz:Ext (v5.alloc (.cells #[(),(),()] TS3)) ws:=du.of_drew;have MB:=((MC.bn TS3 #[(),(),()] _).adv hz);obtain⟨cp,g9,cq,ha,cr,hb⟩:=(MB.blk (i:=0) rfl).trif)
             |(have MA:=(MC.adv s))))
        all_goals (
         go_wp2_with fail;go_meet
         first
          |exact⟨_,rfl,MB.put3 (i:=0) rfl (I i) (I pd) (I t)⟩
          |exact⟨_,rfl,MA.bn TS3 #[i,pd,t] _⟩)
       case rest=>
        clear a9 ba bb bc be bf bg bh bi bj dy dz d0 d1 f0 f1 f2 ey;obtain⟨gS,rfl,dm⟩:=hcut;obtain⟨v6,rfl⟩: ∃z,z=wc:=⟨_,rfl⟩
        have MD:=dm;clear dm MC hw lb u aa ab ad;have lb:g3<v6:=by have:=MD.ext.sz;omega
        go_upto_region 20 with fail;by_cases hf:y1≤pd
        ·skip;have t1:decide (pd<y1)=false:=by simp;omega
         clear hf o2;refine rL (gl [gEq (.pointer (some ⟨gN,3,none⟩)),gEq (.agg #[(g.free:Int),(g.step:Int),(g.aE:Int),(g.aF:Int)]),gEq (.pointer (some ⟨gN,7,none⟩)),gEq (g.aC:Int),gEq (.pointer (some ⟨gS,0,none⟩)),gEq i,gEq (g.aC-i:Int),gEq y1,gEq (.pointer (some ⟨gS,1,none⟩)),gEq pd,gEq (.bool false),gEq (.bool false),gEq (undef),gEq (undef),gEq (undef),gEq (undef),gEq (undef),gEq (undef),gEq (undef),gEq (undef),gEq (undef),gEq (undef),gEq (undef),gEq (undef),gEq (undef),gEq (undef),gEq (undef),gEq (undef),gEq (undef),gEq (undef),gEq (undef),gEq (.bool false)]) 32 32 [(0,some 119),(1,some 120),(2,some 121),(3,some 122),(4,some 123),(5,some 124),(6,some 125),(7,some 126),(8,some 127),(9,some 128),(10,some 129),(11,some 130),(12,some 131),(13,some 132),(14,some 133),(15,some 134),(16,some 135),(17,some 136),(18,some 137),(19,some 138),(20,some 139),(21,some 140),(22,some 141),(23,some 142),(24,some 143),(25,some 144),(26,some 145),(27,some 146),(28,some 147),(29,some 148),(30,some 149),(31,some 150)] ?steps ?fin
         case steps=>
          refine sS0 [] ?_;refine sC [(0,some 119)] rfl (fun wi hx=> ?_) ?_
          ·intro v0 h0 K hK;obtain rfl:=h0;have hX:Ext v6 wi:=xE;have ah:=((MD.bk 4).ext hX).cl 3;have e3:=((MD.bk 4).ext hX).cl 4;have e4:=((MD.bk 4).ext hX).cl 5;have e5:=((MD.bk 4).ext hX).cl 6;go_simp;exact hK _ _ ⟨.agg #[(g.free:Int),(g.step:Int),(g.aE:Int),(g.aF:Int)],rfl,rfl,Ext.refl _⟩
          refine sS0 [] ?_;refine sC [(2,some 121)] rfl (fun wi hx=> ?_) ?_
          ·intro v2 h2 K hK;obtain rfl:=h2;have hX:Ext v6 wi:=xE;have ah:=((MD.bk 4).ext hX).cl 7;go_simp;exact hK _ _ ⟨I (g.aC),rfl,rfl,Ext.refl _⟩
          refine sS0 [] ?_;refine sC [(4,some 123)] rfl (fun wi hx=> ?_) ?_
          ·intro v4 h4 K hK;obtain rfl:=h4;have hX:Ext v6 wi:=xE;have ah:=((MD.bk 0).ext hX).cl 0;go_simp;exact hK _ _ ⟨I i,rfl,rfl,Ext.refl _⟩
          refine sC [(3,some 122),(5,some 124)] rfl (fun wi hx=> ?_) ?_
          ·intro v3 h3 v5 h5 K hK;subst h3 h5;have gm:IntKind.i64.wrap (g.aC-i)=g.aC-i:=aK3 _ (by omega);go_simp;exact hK _ _ ⟨I (g.aC-i),rfl,rfl,Ext.refl _⟩
          refine sC [(1,some 120),(6,some 125)] rfl (fun wi hx=> ?_) ?_
          ·intro v1 h1 v6 h6 K hK;subst h1 h6;go_simp;refine Z (cw _) fun w5 aq=>?_
           go_simp;exact hK _ _ ⟨I y1,rfl,rfl,aq⟩
          refine sS0 [] ?_;refine sC [(8,some 127)] rfl (fun wi hx=> ?_) ?_
          ·intro v8 h8 K hK;obtain rfl:=h8;have hX:Ext v6 wi:=xE;have ah:=((MD.bk 0).ext hX).cl 1;go_simp;exact hK _ _ ⟨I pd,rfl,rfl,Ext.refl _⟩
          exact sS2 [(7,some 126),(9,some 128)] (sS1 [(10,some 129)] (sS1 [(11,some 130)] (sS2 [(11,some 130),(12,some 131)] (sS1 [(11,some 130)] (sS2 [(11,some 130),(14,some 133)] (sS1 [(11,some 130)] (sS2 [(11,some 130),(16,some 135)] (sS3 [(11,some 130),(15,some 134),(17,some 136)] (sS3 [(11,some 130),(13,some 132),(18,some 137)] (sS1 [(11,some 130)] (sS2 [(11,some 130),(20,some 139)] (sS3 [(11,some 130),(19,some 138),(21,some 140)] (sS2 [(11,some 130),(22,some 141)] (sS1 [(23,some 142)] (sS2 [(23,some 142),(24,some 143)] (sS1 [(23,some 142)] (sS2 [(23,some 142),(26,some 145)] (sS3 [(23,some 142),(25,some 144),(27,some 146)] (sS2 [(23,some 142),(28,some 147)] (sS3 [(11,some 130),(23,some 142),(29,some 148)] (sS2 [(11,some 130),(30,some 149)] StepsL.nil)))))))))))))))))))))
         case fin=>
          intro wi hx v0 h0 v1 h1 v2 h2 v3 h3 v4 h4 v5 h5 v6 h6 v7 h7 v8 h8 v9 h9 kt f8 co aj i6 c4 i7 c9 i8 db i9 dc ja de jb df jc dg ku f9 jd dh kv ga kw gb ft bm je di jf dj jg dk jh dl kx gc ky gd kz ge k0 gf;subst h0 h1 h2 h3 h4 h5 h6 h7 h8 h9;obtain rfl:=f8;obtain rfl:=aj;obtain rfl:=c4;obtain rfl:=c9;obtain rfl:=db;obtain rfl:=dc;obtain rfl:=de;obtain rfl:=df;obtain rfl:=dg;obtain rfl:=f9;obtain rfl:=dh;obtain rfl:=ga;obtain rfl:=gb;obtain rfl:=bm;obtain rfl:=di;obtain rfl:=dj;obtain rfl:=dk;obtain rfl:=dl;obtain rfl:=gc;obtain rfl:=gd;obtain rfl:=ge;obtain rfl:=gf;have a5:=hx.of_drew;obtain⟨v7,rfl⟩: ∃z,z=wi:=⟨_,rfl⟩
          have ME:=(MD.adv a5)
          clear MD hx a5 cw ev;refine wpAny_done (by kernel_rfl) ?_ _;try go_frame
          clear lb;have lb:g3<v7:=by have:=ME.ext.sz;omega
          have bo:gS<v7:=(ME.hi 0)
          have bp:g7<v7:=(ME.hi 1)
          have bq:gN<v7:=(ME.hi 4)
          have br:X5<v7:=(ME.hi 5)
          have bt:(w1:Nat)<v7:=(ME.hi 8)
          obtain⟨x0,x1,x2,x3,x4,x5,x6,x7,x8,x9⟩:=(ME.bk 1).ten;obtain⟨v0,bu,v1,bv,v2,bw,v3,bx,v4,bz,v5,b0,v6,b3,v7,b4,v8,b7,v9,b8⟩:=(ME.bk 4).tenf;obtain⟨j,l⟩:=ME.nq 1 4;go_upto_region 14 with fail;clear x0 x1 x2 x3 x4 x5 x6 x7 x8 x9 v0 bu v1 bv v2 bw v3 bx v4 bz v5 b0 v6 b3 v7 b4 v8 b7 v9 b8 j l;have am:=(ME.put10 (i:=4) rfl (I nx.aA) (I nx.aB) (.slice p7 nx.cells c7) (I nx.free) (I nx.step) (I nx.aE) (I nx.aF) (I nx.aC) (I nx.aG) (.slice q7 nx.vs d7))
          generalize o:World.setCell _ _ _=wz;rw[o]at am;clear o ME bo bp bq br bt lb;go_wp2;go_roundw
          case rel=>exact⟨k+1,nx,p7,c7,q7,d7,S,_,by omega,by go_num,rfl,cf.out.1,cg.out,am.pick [4,5,6,7,8,2,3] (by decide) rfl,pI⟩
          case measure=>simp[intOf];omega
        skip;have t1:decide (pd<y1)=true:=by simp;omega
        have t2:decide (pd<y2)=false:=by simp;omega
        have t3:decide (15<g.aC-t)=false:=by simp;omega
        clear hf o2;refine rL (gl [gEq (.pointer (some ⟨gN,3,none⟩)),gEq (.agg #[(g.free:Int),(g.step:Int),(g.aE:Int),(g.aF:Int)]),gEq (.pointer (some ⟨gN,7,none⟩)),gEq (g.aC:Int),gEq (.pointer (some ⟨gS,0,none⟩)),gEq i,gEq (g.aC-i:Int),gEq y1,gEq (.pointer (some ⟨gS,1,none⟩)),gEq pd,gEq (.bool true),gEq (.bool true),gEq (.pointer (some ⟨gN,3,none⟩)),gEq (.agg #[(g.free:Int),(g.step:Int),(g.aE:Int),(g.aF:Int)]),gEq (.pointer (some ⟨gS,2,none⟩)),gEq t,gEq (.pointer (some ⟨gS,0,none⟩)),gEq i,gEq (t-i:Int),gEq y2,gEq (.pointer (some ⟨gS,1,none⟩)),gEq pd,gEq (.bool false),gEq (.bool false),gEq (.pointer (some ⟨gN,7,none⟩)),gEq (g.aC:Int),gEq (.pointer (some ⟨gS,2,none⟩)),gEq t,gEq (g.aC-t:Int),gEq (.bool false),gEq (.bool false),gEq (.bool false)]) 32 32 [(0,some 119),(1,some 120),(2,some 121),(3,some 122),(4,some 123),(5,some 124),(6,some 125),(7,some 126),(8,some 127),(9,some 128),(10,some 129),(11,some 130),(12,some 131),(13,some 132),(14,some 133),(15,some 134),(16,some 135),(17,some 136),(18,some 137),(19,some 138),(20,some 139),(21,some 140),(22,some 141),(23,some 142),(24,some 143),(25,some 144),(26,some 145),(27,some 146),(28,some 147),(29,some 148),(30,some 149),(31,some 150)] ?steps ?fin
        case steps=>
         refine sS0 [] ?_;refine sC [(0,some 119)] rfl (fun wi hx=> ?_) ?_
         ·intro v0 h0 K hK;obtain rfl:=h0;have hX:Ext v6 wi:=xE;have ah:=((MD.bk 4).ext hX).cl 3;have e3:=((MD.bk 4).ext hX).cl 4;have e4:=((MD.bk 4).ext hX).cl 5;have e5:=((MD.bk 4).ext hX).cl 6;go_simp;exact hK _ _ ⟨.agg #[(g.free:Int),(g.step:Int),(g.aE:Int),(g.aF:Int)],rfl,rfl,Ext.refl _⟩
         refine sS0 [] ?_;refine sC [(2,some 121)] rfl (fun wi hx=> ?_) ?_
         ·intro v2 h2 K hK;obtain rfl:=h2;have hX:Ext v6 wi:=xE;have ah:=((MD.bk 4).ext hX).cl 7;go_simp;exact hK _ _ ⟨I (g.aC),rfl,rfl,Ext.refl _⟩
         refine sS0 [] ?_;refine sC [(4,some 123)] rfl (fun wi hx=> ?_) ?_
         ·intro v4 h4 K hK;obtain rfl:=h4;have hX:Ext v6 wi:=xE;have ah:=((MD.bk 0).ext hX).cl 0;go_simp;exact hK _ _ ⟨I i,rfl,rfl,Ext.refl _⟩
         refine sC [(3,some 122),(5,some 124)] rfl (fun wi hx=> ?_) ?_
         ·intro v3 h3 v5 h5 K hK;subst h3 h5;have gm:IntKind.i64.wrap (g.aC-i)=g.aC-i:=aK3 _ (by omega);go_simp;exact hK _ _ ⟨I (g.aC-i),rfl,rfl,Ext.refl _⟩
         refine sC [(1,some 120),(6,some 125)] rfl (fun wi hx=> ?_) ?_
         ·intro v1 h1 v6 h6 K hK;subst h1 h6;go_simp;refine Z (cw _) fun w5 aq=>?_
          go_simp;exact hK _ _ ⟨I y1,rfl,rfl,aq⟩
         refine sS0 [] ?_;refine sC [(8,some 127)] rfl (fun wi hx=> ?_) ?_
         ·intro v8 h8 K hK;obtain rfl:=h8;have hX:Ext v6 wi:=xE;have ah:=((MD.bk 0).ext hX).cl 1;go_simp;exact hK _ _ ⟨I pd,rfl,rfl,Ext.refl _⟩
         refine sS2 [(7,some 126),(9,some 128)] (sS1 [(10,some 129)] (sS1 [(11,some 130)] ?_));refine sC [(11,some 130),(12,some 131)] rfl (fun wi hx=> ?_) ?_
         ·intro co aj i6 c4 K hK;obtain rfl:=aj;obtain rfl:=c4;have hX:Ext v6 wi:=xE;have ah:=((MD.bk 4).ext hX).cl 3;have e3:=((MD.bk 4).ext hX).cl 4;have e4:=((MD.bk 4).ext hX).cl 5;have e5:=((MD.bk 4).ext hX).cl 6;go_simp;exact hK _ _ ⟨.agg #[(g.free:Int),(g.step:Int),(g.aE:Int),(g.aF:Int)],rfl,rfl,Ext.refl _⟩
         refine sS1 [(11,some 130)] ?_;refine sC [(11,some 130),(14,some 133)] rfl (fun wi hx=> ?_) ?_
         ·intro co aj i8 db K hK;obtain rfl:=aj;obtain rfl:=db;have hX:Ext v6 wi:=xE;have ah:=((MD.bk 0).ext hX).cl 2;go_simp;exact hK _ _ ⟨I t,rfl,rfl,Ext.refl _⟩
         refine sS1 [(11,some 130)] ?_;refine sC [(11,some 130),(16,some 135)] rfl (fun wi hx=> ?_) ?_
         ·intro co aj ja de K hK;obtain rfl:=aj;obtain rfl:=de;have hX:Ext v6 wi:=xE;have ah:=((MD.bk 0).ext hX).cl 0;go_simp;exact hK _ _ ⟨I i,rfl,rfl,Ext.refl _⟩
         refine sC [(11,some 130),(15,some 134),(17,some 136)] rfl (fun wi hx=> ?_) ?_
         ·intro co aj i9 dc jb df K hK;obtain rfl:=aj;obtain rfl:=dc;obtain rfl:=df;have gm:IntKind.i64.wrap (t-i)=t-i:=aK3 _ (by omega);go_simp;exact hK _ _ ⟨I (t-i),rfl,rfl,Ext.refl _⟩
         refine sC [(11,some 130),(13,some 132),(18,some 137)] rfl (fun wi hx=> ?_) ?_
         ·intro co aj i7 c9 jc dg K hK;obtain rfl:=aj;obtain rfl:=c9;obtain rfl:=dg;go_simp;refine Z (ev _) fun w5 aq=>?_
          go_simp;exact hK _ _ ⟨I y2,rfl,rfl,aq⟩
         refine sS1 [(11,some 130)] ?_;refine sC [(11,some 130),(20,some 139)] rfl (fun wi hx=> ?_) ?_
         ·intro co aj jd dh K hK;obtain rfl:=aj;obtain rfl:=dh;have hX:Ext v6 wi:=xE;have ah:=((MD.bk 0).ext hX).cl 1;go_simp;exact hK _ _ ⟨I pd,rfl,rfl,Ext.refl _⟩
         refine sS3 [(11,some 130),(19,some 138),(21,some 140)] (sS2 [(11,some 130),(22,some 141)] (sS1 [(23,some 142)] ?_));refine sC [(23,some 142),(24,some 143)] rfl (fun wi hx=> ?_) ?_
         ·intro ft bm je di K hK;obtain rfl:=bm;obtain rfl:=di;have hX:Ext v6 wi:=xE;have ah:=((MD.bk 4).ext hX).cl 7;go_simp;exact hK _ _ ⟨I (g.aC),rfl,rfl,Ext.refl _⟩
         refine sS1 [(23,some 142)] ?_;refine sC [(23,some 142),(26,some 145)] rfl (fun wi hx=> ?_) ?_
         ·intro ft bm jg dk K hK;obtain rfl:=bm;obtain rfl:=dk;have hX:Ext v6 wi:=xE;have ah:=((MD.bk 0).ext hX).cl 2;go_simp;exact hK _ _ ⟨I t,rfl,rfl,Ext.refl _⟩
         refine sC [(23,some 142),(25,some 144),(27,some 146)] rfl (fun wi hx=> ?_) ?_
         ·intro ft bm jf dj jh dl K hK;obtain rfl:=bm;obtain rfl:=dj;obtain rfl:=dl;have gm:IntKind.i64.wrap (g.aC-t)=g.aC-t:=aK3 _ (by omega);go_simp;exact hK _ _ ⟨I (g.aC-t),rfl,rfl,Ext.refl _⟩
         exact sS2 [(23,some 142),(28,some 147)] (sS3 [(11,some 130),(23,some 142),(29,some 148)] (sS2 [(11,some 130),(30,some 149)] StepsL.nil))
        case fin=>
         intro wi hx v0 h0 v1 h1 v2 h2 v3 h3 v4 h4 v5 h5 v6 h6 v7 h7 v8 h8 v9 h9 kt f8 co aj i6 c4 i7 c9 i8 db i9 dc ja de jb df jc dg ku f9 jd dh kv ga kw gb ft bm je di jf dj jg dk jh dl kx gc ky gd kz ge k0 gf;subst h0 h1 h2 h3 h4 h5 h6 h7 h8 h9;obtain rfl:=f8;obtain rfl:=aj;obtain rfl:=c4;obtain rfl:=c9;obtain rfl:=db;obtain rfl:=dc;obtain rfl:=de;obtain rfl:=df;obtain rfl:=dg;obtain rfl:=f9;obtain rfl:=dh;obtain rfl:=ga;obtain rfl:=gb;obtain rfl:=bm;obtain rfl:=di;obtain rfl:=dj;obtain rfl:=dk;obtain rfl:=dl;obtain rfl:=gc;obtain rfl:=gd;obtain rfl:=ge;obtain rfl:=gf;have a5:=hx.of_drew;obtain⟨v7,rfl⟩: ∃z,z=wi:=⟨_,rfl⟩
         have ME:=(MD.adv a5)
         clear MD hx a5 cw ev;refine wpAny_done (by kernel_rfl) ?_ _;try go_frame
         clear lb;have lb:g3<v7:=by have:=ME.ext.sz;omega
         have bo:gS<v7:=(ME.hi 0)
         have bp:g7<v7:=(ME.hi 1)
         have bq:gN<v7:=(ME.hi 4)
         have br:X5<v7:=(ME.hi 5)
         have bt:(w1:Nat)<v7:=(ME.hi 8)
         obtain⟨x0,x1,x2,x3,x4,x5,x6,x7,x8,x9⟩:=(ME.bk 1).ten;obtain⟨v0,bu,v1,bv,v2,bw,v3,bx,v4,bz,v5,b0,v6,b3,v7,b4,v8,b7,v9,b8⟩:=(ME.bk 4).tenf;obtain⟨j,l⟩:=ME.nq 1 4;go_upto_region 14 with fail;clear x0 x1 x2 x3 x4 x5 x6 x7 x8 x9 v0 bu v1 bv v2 bw v3 bx v4 bz v5 b0 v6 b3 v7 b4 v8 b7 v9 b8 j l;have am:=(ME.put10 (i:=4) rfl (I nx.aA) (I nx.aB) (.slice p7 nx.cells c7) (I nx.free) (I nx.step) (I nx.aE) (I nx.aF) (I nx.aC) (I nx.aG) (.slice q7 nx.vs d7))
         generalize o:World.setCell _ _ _=wz;rw[o]at am;clear o ME bo bp bq br bt lb;go_wp2;go_roundw
         case rel=>exact⟨k+1,nx,p7,c7,q7,d7,S,_,by omega,by go_num,rfl,cf.out.1,cg.out,am.pick [4,5,6,7,8,2,3] (by decide) rfl,pI⟩
         case measure=>simp[intOf];omega
      skip;have b2:(a0==2)=false:=by simpa using h2
      go_upto_region 22 with fail;clear f0 f1 f2 b1 b2;have u:g7<v5:=(MC.hi 0)
      have aa:gN<v5:=(MC.hi 3)
      have ab:X5<v5:=(MC.hi 4)
      have ad:(w1:Nat)<v5:=(MC.hi 7)
      obtain⟨x0,x1,x2,x3,x4,x5,x6,x7,x8,x9⟩:=(MC.bk 0).ten;obtain⟨v0,bu,v1,bv,v2,bw,v3,bx,v4,bz,v5,b0,v6,b3,v7,b4,v8,b7,v9,b8⟩:=(MC.bk 3).tenf;obtain⟨j,l⟩:=MC.nq 0 3;go_upto_region 14 with fail;clear x0 x1 x2 x3 x4 x5 x6 x7 x8 x9 v0 bu v1 bv v2 bw v3 bx v4 bz v5 b0 v6 b3 v7 b4 v8 b7 v9 b8 j l;have b9:=(MC.put10 (i:=3) rfl (I nx.aA) (I nx.aB) (.slice p7 nx.cells c7) (I nx.free) (I nx.step) (I nx.aE) (I nx.aF) (I nx.aC) (I nx.aG) (.slice q7 nx.vs d7))
      generalize o:World.setCell _ _ _=wz;rw[o]at b9;clear o MC u aa ab ad lb;go_wp2;go_roundw
      case rel=>exact⟨k+1,nx,p7,c7,q7,d7,S,_,by omega,by go_num,rfl,cf.out.1,cg.out,b9.pick [3,4,5,6,7,1,2] (by decide) rfl,pI⟩
      case measure=>simp[intOf];omega
   skip;obtain rfl:k=n:=by omega
   have j4:g=r:=by have h1:=HG.out;rw[aKb (by rw[HN.out];exact aK1 _)]at h1;rw[h1,ew.out]
   have ih:r.aG=h.aG+S:=by have h1:=cx.out;rw[aKb (by rw[HN.out];exact aK1 _)]at h1;rw[h1,ew.out];exact(wT ck ds).1
   subst j4;have jx:=wT ck ds;obtain⟨m,hm⟩: ∃x,x=k/2:=⟨_,rfl⟩
   have il:m≤k:=by omega
   have t8:(k:Int)/2=(m:Int):=by omega
   have t9:(g.aG==h.aG+S)=true:=by simp[ih]
   have j9:IntKind.i64.wrap (h.aG+S)=h.aG+S:=aK3 _ (by omega);have jk:=xQ (HT _ (HM.sub (.cons _ (.cons _ (.cons _ (.cons _ (.cons _ (.refl _))))))));have I5:=xQ (show IsHouse wr g p5 _ c5 q5 _ d5 from⟨(HM.sq 2),(HM.sq 3)⟩);have BN:=xQ (HM.bk 0);have BX:=xQ (HM.bk 1);have BB:=xQ (HM.bk 4);have XR:=xQ HM.ext;have ld:=HL.out.le;have la:=HL.out.bd;have ib:=xQ (show Sl w1 (some ⟨g3,0,none⟩) m lc 3 ((ds.take m).flatMap cE)from by have:=aAx HL il;rwa[aC6]at this);have jn:=xQ (by have:=aAw HL il;rwa[aC7]at this);obtain⟨ra,e7⟩: ∃x,gE h (ds.take m)=x:=⟨_,rfl⟩
   have fv:bB ra=true:=by rw[←e7];exact lU _ ck.out
   have io:gE ra (ds.drop m)=g:=by rw[←e7,←aG5,List.take_append_drop,ew.out]
   have gi:(ds.take m).length=m:=by rw[aKs,HN.out];omega
   have gj:(ds.drop m).length=k-m:=by rw[aL7,HN.out]
   clear HG cx HT HM ih jx hm jv jw ct cu cv;have hj:Hid (∀B w',B≤w'.heap.size→Ext wr w'→U 6 #[.agg #[h.aA,h.aB,.slice p h.cells af,h.free,h.step,h.aE,h.aF,h.aC,h.aG,.slice q h.vs c2],.slice (some ⟨g3,0,none⟩) m lc] w' fun e w''=> ∃pa ca qa da ps nq cs,e= .returned (.tuple #[.agg #[ra.aA,ra.aB,.slice pa ra.cells ca,ra.free,ra.step,ra.aE,ra.aF,ra.aC,ra.aG,.slice qa ra.vs da],.slice ps nq cs])∧w''.ownsRow B TI 1 (.slice pa ra.cells ca) ra.cells.length (ivs ra.cells)∧w''.ownsRow B TV 4 (.slice qa ra.vs da) ra.vs.length (ra.vs.flatMap aD)∧Ext w' w''):=fun B w' hB hx=>by have:=mA h p _ af q _ c2 (some ⟨g3,0,none⟩) (ds.take m).length lc (ds.take m) w' (HI.out.ext (XR.out.trans hx)) (gi.symm▸ib.out.ext (XR.out.trans hx)) (by omega) (eu.out.ext (cn.out.trans (XR.out.trans hx)));rw[wL ck.out]at this;rw[gi]at this;unfold iV at this;refine this.mono ?_;rintro e w'' ⟨pa,ca,qa,da,ps,cs,rfl,o1,o2,o3,ch⟩;dsimp only at*;rw[e7]at o1 o2⊢;exact⟨pa,ca,qa,da,ps,_,cs,rfl,cT o1 hB,cT o2 hB,ch⟩
   have ho:Hid (∀B w' p8 c8 q8 d8 pd dd,B≤w'.heap.size→Ext wr w'→IsHouse w' ra p8 ra.cells.length c8 q8 ra.vs.length d8→Sl w' pd (k-m) dd 3 ((ds.drop m).flatMap cE)→U 6 #[.agg #[ra.aA,ra.aB,.slice p8 ra.cells c8,ra.free,ra.step,ra.aE,ra.aF,ra.aC,ra.aG,.slice q8 ra.vs d8],.slice pd (k-m) dd] w' fun e w''=> ∃pa ca qa da ps nq cs,e= .returned (.tuple #[.agg #[g.aA,g.aB,.slice pa g.cells ca,g.free,g.step,g.aE,g.aF,g.aC,g.aG,.slice qa g.vs da],.slice ps nq cs])∧w''.ownsRow B TI 1 (.slice pa g.cells ca) g.cells.length (ivs g.cells)∧w''.ownsRow B TV 4 (.slice qa g.vs da) g.vs.length (g.vs.flatMap aD)∧Ext w' w''):=fun B w' p8 c8 q8 d8 pd dd hB hx hi hs=>by have:=mA ra p8 _ c8 q8 _ d8 pd (ds.drop m).length dd (ds.drop m) w' hi (gj.symm▸hs) (by omega) (eu.out.ext (cn.out.trans (XR.out.trans hx)));rw[wL fv]at this;rw[gj]at this;unfold iV at this;refine this.mono ?_;rintro e w'' ⟨pa,ca,qa,da,ps,cs,rfl,o1,o2,o3,ch⟩;dsimp only at*;rw[io]at o1 o2⊢;exact⟨pa,ca,qa,da,ps,_,cs,rfl,cT o1 hB,cT o2 hB,ch⟩
   have f3:=xQ fun(w':World) (hx:Ext wr w')=>lJ g p5 _ c5 q5 _ d5 w' (I5.out.ext hx)
   rw[hh.out]at f3;clear e7 fv io gi gj ib HN ew ck hh;have lB:(w1:Nat)<wr:=BB.out.lt;have lX:X5<wr:=BX.out.lt;have lN:gN<wr:=BN.out.lt;have j0:(0:Int)≤(m:Int):=by omega
   have j1:(m:Int)≤(k:Int):=by omega
   have j2:(k:Int)≤(lc:Int):=by omega
   have j3:(m:Int)≤(lc:Int):=by omega
   have ht:(m:Int).toNat=m:=by omega
   go_upto_region 24 with fail
   refine rE (gl [gEq (.agg #[(h.aA:Int),(h.aB:Int),.slice p h.cells af,(h.free:Int),(h.step:Int),(h.aE:Int),(h.aF:Int),(h.aC:Int),(h.aG:Int),.slice q h.vs c2]),gEq (.slice (some ⟨g3,0,none⟩) k lc),gEq (m:Int),gEq (.slice (some ⟨g3,0,none⟩) m lc),(fun v w'=> ∃p c q d ps nq cs,v= .tuple #[.agg #[ra.aA,ra.aB,.slice p ra.cells c,ra.free,ra.step,ra.aE,ra.aF,ra.aC,ra.aG,.slice q ra.vs d],.slice ps nq cs]∧w'.ownsRow wr TI 1 (.slice p ra.cells c) ra.cells.length (ivs ra.cells)∧w'.ownsRow wr TV 4 (.slice q ra.vs d) ra.vs.length (ra.vs.flatMap aD)),(fun v w'=> ∃p c q d ps nq cs,v= .tuple #[.agg #[ra.aA,ra.aB,.slice p ra.cells c,ra.free,ra.step,ra.aE,ra.aF,ra.aC,ra.aG,.slice q ra.vs d],.slice ps nq cs]∧w'.ownsRow wr TI 1 (.slice p ra.cells c) ra.cells.length (ivs ra.cells)∧w'.ownsRow wr TV 4 (.slice q ra.vs d) ra.vs.length (ra.vs.flatMap aD)),(fun v w'=> ∃p c q d,v= .agg #[ra.aA,ra.aB,.slice p ra.cells c,ra.free,ra.step,ra.aE,ra.aF,ra.aC,ra.aG,.slice q ra.vs d]∧w'.ownsRow wr TI 1 (.slice p ra.cells c) ra.cells.length (ivs ra.cells)∧w'.ownsRow wr TV 4 (.slice q ra.vs d) ra.vs.length (ra.vs.flatMap aD)),(fun v _=> ∃ps nq cs,v= .slice ps nq cs),aEs wr aL #[(),(),((),()),(),(),(),(),(),(),((),())]]) 9 7 (by kernel_rfl) rfl (by kernel_rfl) (by kernel_rfl) (by kernel_rfl) (by decide) (kP (aW (bJ _) (aW (bJ _) (aW (bJ _) (aW (bJ _) (aW (fun v w w' ⟨p,c,q,d,ps,nq,cs,e,o1,o2⟩ hx=>⟨p,c,q,d,ps,nq,cs,e,aY o1 hx,aY o2 hx⟩) (aW (fun v w w' ⟨p,c,q,d,ps,nq,cs,e,o1,o2⟩ hx=>⟨p,c,q,d,ps,nq,cs,e,aY o1 hx,aY o2 hx⟩) (aW (fun v w w' ⟨p,c,q,d,e,o1,o2⟩ hx=>⟨p,c,q,d,e,aY o1 hx,aY o2 hx⟩) (aW (fun _ _ _ h _=>h) (aW (qP _ _ _) (nA))))))))))) (k:=11) (by kernel_rfl) (by decide) (by kernel_rfl) (ls:= [(0,some 156),(1,some 157),(2,some 158),(3,some 159),(4,some 160),(5,some 155),(6,some 161),(7,some 162),(8,some 18)]) (by kernel_rfl) (ir:= [0,1,2,3,4,5,6,7,8]) (by kernel_rfl) rfl (fun _ _ _ _ h=>h) (lf:= [(5,some 155)]) (by kernel_rfl) ?flo ?steps (tl:=#[true,true,true,true,true,true,true,true,true,false,false]) (by kernel_rfl) ?fin
   case flo=>intro wi hx v5 h5;obtain⟨ao,f,ap,an,al,ak,ai,rfl,a3,a4⟩:=h5;exact⟨.slice al ak ai,.inl ⟨by rfl,fun w=>by go_simp⟩,⟨_,_,_,rfl⟩⟩
   case steps=>
    refine sC [] rfl (fun wi hx=> ?_) ?_
    ·intro K hK;have hX:Ext wr wi:=xE;obtain⟨ah,e3,e4,e5,jo,jp,jq,jr,js,jt⟩:=(BB.out.ext hX).ten;go_simp;exact hK _ _ ⟨.agg #[(h.aA:Int),(h.aB:Int),.slice p h.cells af,(h.free:Int),(h.step:Int),(h.aE:Int),(h.aF:Int),(h.aC:Int),(h.aG:Int),.slice q h.vs c2],rfl,rfl,Ext.refl _⟩
    refine sS0 [] (sS0 [] (sS2 [(1,some 157),(2,some 158)] ?_));refine sC [(0,some 156),(3,some 159)] rfl (fun wi hx=> ?_) ?_
    ·intro v0 h0 v3 h3 K hK;subst h0 h3;go_simp;refine(hj wr _ hx.sz hx.of_drew).mono ?_;rintro e w5 ⟨ao,f,ap,an,al,ak,ai,rfl,o5,v5,aq⟩;go_simp;exact hK _ _ ⟨_,rfl,⟨ao,f,ap,an,al,ak,ai,rfl,o5,v5⟩,aq⟩
    refine sC [(4,some 160)] rfl (fun wi hx=> ?_) ?_
    ·intro v4 h4 K hK;obtain⟨d4,ae,ea,c1,d9,d2,c0,rfl,a7,a8⟩:=h4;go_simp;exact hK _ _ ⟨_,rfl,⟨d4,ae,ea,c1,d9,d2,c0,rfl,a7,a8⟩,Ext.refl _⟩
    refine sC [(5,some 155)] rfl (fun wi hx=> ?_) ?_
    ·intro v5 h5 K hK;obtain⟨ao,f,ap,an,al,ak,ai,rfl,a3,a4⟩:=h5;go_simp;exact hK _ _ ⟨_,rfl,⟨ao,f,ap,an,rfl,a3,a4⟩,Ext.refl _⟩
    refine sC [(5,some 155)] rfl (fun wi hx=> ?_) ?_
    ·intro v5 h5 K hK;obtain⟨ao,f,ap,an,al,ak,ai,rfl,a3,a4⟩:=h5;go_simp;exact hK _ _ ⟨.slice al ak ai,rfl,⟨_,_,_,rfl⟩,Ext.refl _⟩
    refine sC [] rfl (fun wi hx=> ?_) StepsL.nil
    ·intro K hK;go_simp;exact hK _ _ ⟨.pointer (some ⟨wi,0,none⟩),rfl,⟨wi.heap.size,rfl,by have:=hx.sz;simp at this;omega,Blk.new _ _ _⟩,(Ext.refl _).alloc _⟩
   case fin=>
    intro wi hx v0 h0 v1 h1 v2 h2 v3 h3 v4 h4 v5 h5 v6 h6 v7 h7 v8 h8;subst h0 h1 h2 h3;obtain⟨d4,ae,ea,c1,d9,d2,c0,rfl,a7,a8⟩:=h4;obtain⟨ao,f,ap,an,al,ak,ai,rfl,a3,a4⟩:=h5;obtain⟨g4,ag,g5,f7,rfl,dr,dt⟩:=h6;obtain⟨kh,kf,ju,rfl⟩:=h7;obtain⟨g8,rfl,dp,B8⟩:=h8;have a5:=hx.of_drew;obtain⟨v8,rfl⟩: ∃z,z=wi:=⟨_,rfl⟩
    obtain⟨k8,rfl⟩: ∃z,z=g8:=⟨_,rfl⟩
    obtain⟨ci,rfl⟩: ∃z,z=g4:=⟨_,rfl⟩
    obtain⟨cc,rfl⟩: ∃z,z=ag:=⟨_,rfl⟩
    obtain⟨cj,rfl⟩: ∃z,z=g5:=⟨_,rfl⟩
    obtain⟨cd,rfl⟩: ∃z,z=f7:=⟨_,rfl⟩
    have ez:=(Mem.own2blk (Mem.start wr) a5 B8 dp dr dt (by decide) (by decide) (by decide))
    clear hx a5 B8 dp a7 a8 a3 a4 dr dt hj;have fj:=ez.hi 2;obtain⟨cp,ei,cq,ej,cr,ek,eb,el,ec,en,ed,eo,ee,ep,ef,er,eg,es,eh,et⟩:=(ez.bk 2).tenf;try go_frame
    refine wpAny_ready (rs:= [9]) (by kernel_rfl) (by simp) ?_;refine AllReady.cons rfl (fun K hK=> ?_) AllReady.nil;go_simp;refine hK _ _ ?_;clear hK K cp ei cq ej cr ek eb el ec en ed eo ee ep ef er eg es eh et fj;have am:=(ez.put10 (i:=2) rfl (I ra.aA) (I ra.aB) (.slice ci ra.cells cc) (I ra.free) (I ra.step) (I ra.aE) (I ra.aF) (I ra.aC) (I ra.aG) (.slice cj ra.vs cd))
    generalize o:World.setCell _ _ _=v8z;rw[o]at am;clear o ez;refine wpAny_ready (rs:= [10]) (by kernel_rfl) (by simp) ?_;refine AllReady.cons rfl (fun K hK=> ?_) AllReady.nil;go_simp;refine hK _ _ ?_;clear hK K;refine wpAny_done (by kernel_rfl) ?_ _;try go_frame
    have fk:=am.hi 2;have dn:lc=m∨ ¬lc=m:=Classical.em _;have IA:=xQ (show IsHouse v8z ra ci _ cc cj _ cd from⟨(am.sq 0),(am.sq 1)⟩);have f4:=xQ (jn.out.ext (XR.out.trans am.ext));have hq:=xQ fun(B:Nat) (w':World) (pd:OA) (dd:Nat) (hs:Sl v8z pd (k-m) dd 3 ((ds.drop m).flatMap cE)) (hB:B≤w'.heap.size) (hx:Ext v8z w')=>ho B w' ci cc cj cd pd dd hB (am.ext.trans hx) (IA.out.ext hx) (hs.ext hx)
    go_upto_region 25 with fail
    refine rE (gl [gEq (.agg #[(ra.aA:Int),(ra.aB:Int),.slice ci ra.cells cc,(ra.free:Int),(ra.step:Int),(ra.aE:Int),(ra.aF:Int),(ra.aC:Int),(ra.aG:Int),.slice cj ra.vs cd]),gEq (.slice (some ⟨g3,0,none⟩) k lc),gEq (m:Int),(fun v _=> ∃pd dd,v= .slice pd (k-m) dd∧Sl v8z pd (k-m) dd 3 ((ds.drop m).flatMap cE)),(fun v w'=> ∃p c q d ps nq cs,v= .tuple #[.agg #[g.aA,g.aB,.slice p g.cells c,g.free,g.step,g.aE,g.aF,g.aC,g.aG,.slice q g.vs d],.slice ps nq cs]∧w'.ownsRow v8z TI 1 (.slice p g.cells c) g.cells.length (ivs g.cells)∧w'.ownsRow v8z TV 4 (.slice q g.vs d) g.vs.length (g.vs.flatMap aD)),(fun v w'=> ∃p c q d ps nq cs,v= .tuple #[.agg #[g.aA,g.aB,.slice p g.cells c,g.free,g.step,g.aE,g.aF,g.aC,g.aG,.slice q g.vs d],.slice ps nq cs]∧w'.ownsRow v8z TI 1 (.slice p g.cells c) g.cells.length (ivs g.cells)∧w'.ownsRow v8z TV 4 (.slice q g.vs d) g.vs.length (g.vs.flatMap aD)),(fun v w'=> ∃p c q d,v= .agg #[g.aA,g.aB,.slice p g.cells c,g.free,g.step,g.aE,g.aF,g.aC,g.aG,.slice q g.vs d]∧w'.ownsRow v8z TI 1 (.slice p g.cells c) g.cells.length (ivs g.cells)∧w'.ownsRow v8z TV 4 (.slice q g.vs d) g.vs.length (g.vs.flatMap aD)),(fun v _=> ∃ps nq cs,v= .slice ps nq cs),aEs v8z aL #[(),(),((),()),(),(),(),(),(),(),((),())]]) 9 7 (by kernel_rfl) rfl (by kernel_rfl) (by kernel_rfl) (by kernel_rfl) (by decide) (kP (aW (bJ _) (aW (bJ _) (aW (bJ _) (aW (fun _ _ _ h _=>h) (aW (fun v w w' ⟨p,c,q,d,ps,nq,cs,e,o1,o2⟩ hx=>⟨p,c,q,d,ps,nq,cs,e,aY o1 hx,aY o2 hx⟩) (aW (fun v w w' ⟨p,c,q,d,ps,nq,cs,e,o1,o2⟩ hx=>⟨p,c,q,d,ps,nq,cs,e,aY o1 hx,aY o2 hx⟩) (aW (fun v w w' ⟨p,c,q,d,e,o1,o2⟩ hx=>⟨p,c,q,d,e,aY o1 hx,aY o2 hx⟩) (aW (fun _ _ _ h _=>h) (aW (qP _ _ _) (nA))))))))))) (k:=11) (by kernel_rfl) (by decide) (by kernel_rfl) (ls:= [(0,some 164),(1,some 165),(2,some 166),(3,some 167),(4,some 168),(5,some 163),(6,some 169),(7,some 170),(8,some 20)]) (by kernel_rfl) (ir:= [0,1,2,3,4,5,6,7,8]) (by kernel_rfl) rfl (fun _ _ _ _ h=>h) (lf:= [(5,some 163)]) (by kernel_rfl) ?flo ?steps (tl:=#[true,true,true,true,true,true,true,true,true,false,false]) (by kernel_rfl) ?fin
    case flo=>intro wi hx v5 h5;obtain⟨ao,f,ap,an,al,ak,ai,rfl,a3,a4⟩:=h5;exact⟨.slice al ak ai,.inl ⟨by rfl,fun w=>by go_simp⟩,⟨_,_,_,rfl⟩⟩
    case steps=>
     refine sC [] rfl (fun wi hx=> ?_) ?_
     ·intro K hK;have hX:Ext v8z wi:=xE;obtain⟨ah,e3,e4,e5,jo,jp,jq,jr,js,jt⟩:=((am.bk 2).ext hX).ten;go_simp;exact hK _ _ ⟨.agg #[(ra.aA:Int),(ra.aB:Int),.slice ci ra.cells cc,(ra.free:Int),(ra.step:Int),(ra.aE:Int),(ra.aF:Int),(ra.aC:Int),(ra.aG:Int),.slice cj ra.vs cd],rfl,rfl,Ext.refl _⟩
     refine sS0 [] (sS0 [] ?_);refine sC [(1,some 165),(2,some 166)] rfl (fun wi hx=> ?_) ?_
     ·intro v1 h1 v2 h2 K hK;subst h1 h2;rcases dn with dn|dn
      ·obtain⟨j5,j6,j7⟩:k=0∧m=0∧lc=0:=by omega
       subst j5 j6 j7;go_simp;exact hK _ _ ⟨_,rfl,⟨_,_,rfl,by simpa using f4.out⟩,Ext.refl _⟩
      have ia:=f4.out;rw[if_neg dn]at ia;go_simp;exact hK _ _ ⟨_,rfl,⟨_,_,rfl,ia⟩,Ext.refl _⟩
     refine sC [(0,some 164),(3,some 167)] rfl (fun wi hx=> ?_) ?_
     ·intro v0 h0 v3 h3 K hK;obtain rfl:=h0;obtain⟨i5,ic,rfl,ie⟩:=h3;go_simp;refine(hq v8z _ i5 ic ie hx.sz hx.of_drew).mono ?_;rintro e w5 ⟨ao,f,ap,an,al,ak,ai,rfl,o5,v5,aq⟩;go_simp;exact hK _ _ ⟨_,rfl,⟨ao,f,ap,an,al,ak,ai,rfl,o5,v5⟩,aq⟩
     refine sC [(4,some 168)] rfl (fun wi hx=> ?_) ?_
     ·intro v4 h4 K hK;obtain⟨d4,ae,ea,c1,d9,d2,c0,rfl,a7,a8⟩:=h4;go_simp;exact hK _ _ ⟨_,rfl,⟨d4,ae,ea,c1,d9,d2,c0,rfl,a7,a8⟩,Ext.refl _⟩
     refine sC [(5,some 163)] rfl (fun wi hx=> ?_) ?_
     ·intro v5 h5 K hK;obtain⟨ao,f,ap,an,al,ak,ai,rfl,a3,a4⟩:=h5;go_simp;exact hK _ _ ⟨_,rfl,⟨ao,f,ap,an,rfl,a3,a4⟩,Ext.refl _⟩
     refine sC [(5,some 163)] rfl (fun wi hx=> ?_) ?_
     ·intro v5 h5 K hK;obtain⟨ao,f,ap,an,al,ak,ai,rfl,a3,a4⟩:=h5;go_simp;exact hK _ _ ⟨.slice al ak ai,rfl,⟨_,_,_,rfl⟩,Ext.refl _⟩
     refine sC [] rfl (fun wi hx=> ?_) StepsL.nil
     ·intro K hK;go_simp;exact hK _ _ ⟨.pointer (some ⟨wi,0,none⟩),rfl,⟨wi.heap.size,rfl,by have:=hx.sz;simp at this;omega,Blk.new _ _ _⟩,(Ext.refl _).alloc _⟩
    case fin=>
     intro wi hx v0 h0 v1 h1 v2 h2 v3 h3 v4 h4 v5 h5 v6 h6 v7 h7 v8 h8;subst h0 h1 h2;obtain⟨i5,ic,rfl,ie⟩:=h3;obtain⟨d4,ae,ea,c1,d9,d2,c0,rfl,a7,a8⟩:=h4;obtain⟨ao,f,ap,an,al,ak,ai,rfl,a3,a4⟩:=h5;obtain⟨g4,ag,g5,f7,rfl,dr,dt⟩:=h6;obtain⟨kh,kf,ju,rfl⟩:=h7;obtain⟨g8,rfl,dp,B8⟩:=h8;have a5:=hx.of_drew;obtain⟨v9,rfl⟩: ∃z,z=wi:=⟨_,rfl⟩
     have cy:=(Mem.own2blk (am) a5 B8 dp dr dt (by decide) (by decide) (by decide))
     clear hx a5 B8 dp a7 a8 a3 a4 dr dt fk hq ho IA f4 dn;have fl:=cy.hi 2;have fm:=cy.hi 5;obtain⟨cp,ei,cq,ej,cr,ek,eb,el,ec,en,ed,eo,ee,ep,ef,er,eg,es,eh,et⟩:=(cy.bk 2).tenf;try go_frame
     refine wpAny_ready (rs:= [9]) (by kernel_rfl) (by simp) ?_;refine AllReady.cons rfl (fun K hK=> ?_) AllReady.nil;go_simp;refine hK _ _ ?_;clear hK K cp ei cq ej cr ek eb el ec en ed eo ee ep ef er eg es eh et fl fm;have cm:=(cy.put10 (i:=2) rfl (I g.aA) (I g.aB) (.slice g4 g.cells ag) (I g.free) (I g.step) (I g.aE) (I g.aF) (I g.aC) (I g.aG) (.slice g5 g.vs f7))
     generalize o:World.setCell _ _ _=lk;rw[o]at cm;clear o cy;refine wpAny_ready (rs:= [10]) (by kernel_rfl) (by simp) ?_;refine AllReady.cons rfl (fun K hK=> ?_) AllReady.nil;go_simp;refine hK _ _ ?_;clear hK K;refine wpAny_done (by kernel_rfl) ?_ _;try go_frame
     have fn:=cm.hi 2;have fo:=cm.hi 5;obtain⟨a9,ba,bb,bc,be,bf,bg,bh,bi,bj⟩:=(BX.out.ext cm.ext).ten;go_wp2_with fail;clear a9 ba bb bc be bf bg bh bi bj t8;refine Z (f3 _ cm.ext) fun ll fw=>?_
     have cb:=(cm.adv fw)
     clear cm fn fo fw f3;have fp:=cb.hi 2;have fq:=cb.hi 5;obtain⟨a9,ba,bb,bc,be,bf,bg,bh,bi,bj⟩:=(BN.out.ext cb.ext).ten;obtain⟨e9,fa,fb,fc,fd,fe,ff,fg,fh,fi⟩:=(BX.out.ext cb.ext).ten;go_wp2_with fail;clear a9 ba bb bc be bf bg bh bi bj e9 fa fb fc fd fe ff fg fh fi;refine Z (jO g _ _ _ _ _ _ _ _ _ _ _ _ _ (jk.out.ext cb.ext) (I5.out.ext cb.ext)) fun lm fx=>?_
     have bl:=(cb.adv fx)
     clear cb fp fq fx;have fr:=bl.hi 2;have fs:=bl.hi 5;obtain⟨a9,ba,bb,bc,be,bf,bg,bh,bi,bj⟩:=(bl.bk 2).ten;obtain⟨e9,fa,fb,fc,fd,fe,ff,fg,fh,fi⟩:=(BX.out.ext bl.ext).ten;go_wp2_with fail;clear a9 ba bb bc be bf bg bh bi bj e9 fa fb fc fd fe ff fg fh fi;refine Z (jO g _ _ _ _ _ _ _ _ _ _ _ _ _ ⟨(bl.sq 0),(bl.sq 1)⟩ (I5.out.ext bl.ext)) fun ln fy=>?_
     have cz:=(bl.adv fy)
     clear bl fr fs fy;have ji:=cz.hi 2;have jj:=cz.hi 5;obtain⟨a9,ba,bb,bc,be,bf,bg,bh,bi,bj⟩:=(BX.out.ext cz.ext).ten;obtain⟨e9,fa,fb,fc,fd,fe,ff,fg,fh,fi⟩:=(BB.out.ext cz.ext).ten;go_wp2;go_ret;exact⟨rfl,cn.out.trans (XR.out.trans cz.ext)⟩
 skip;rw[show bB h=false by simpa using hok];have hr:=fz.out;have ce:=hc.out;rw[aI5 hok]at hr ce;subst hr ce;obtain rfl:nb=0:=jl.out.symm;have he:=xQ fun w' (hx:Ext w8 w')=>aB9 p5 c5 q5 d5 w' (IsHouse.ext ⟨(M8.sq 1),(M8.sq 2)⟩ hx)
 clear hok;unfold hZ at*;obtain⟨ar,au,av,aw,ae,f,ag,ax,ay,az⟩:=(M8.bk 0).ten;go_wp2_with fail;clear ar au av aw ae f ag ax ay az;refine Z (he _ xE) fun w9 e8=>?_
 have M9:=(M8.adv e8)
 clear M8 dv dw e8 he;have dx:=M9.hi 0;have ke:=M9.hi 3;go_wp2_with fail;refine Z (aF0 _ (HE.out.ext (cn.out.trans M9.ext))) fun w9 e8=>?_
 have X9:Ext w w9:=cn.out.trans (M9.ext.trans e8);go_wp2;go_ret;exact⟨rfl,X9⟩
theorem walk_FnHouseRun (W:World)(v:Value)(u:Unit)(hc:Code W v)(hE:Env W)(hB:BitTab W):U 3 #[v] W (O (.bool true) W):=by
 have hD:=xJ v W hc;obtain⟨p0,n,a,bs,rfl,h,hb⟩:=hc;by_cases hn:(n:Int)≤1048576
 ·exact xH p0 n a W hn (xQ hE) (xQ hB) hD
 exact tN p0 n a W (by omega)
end Go.Proofs.YtbgkcehffiogcaaGreatDoor
