/-
  Texts of this proof, packed (@packed).
-/
import Derived.Deep.CutBlock
import Derived.Test.YtomgkjinhnkpnaaGreatDoorX25
namespace Go.Proofs.YtomgkjinhnkpnaaGreatDoor
open Go.RowKit Go.Proofs.Tryz
set_option linter.unusedSimpArgs false
set_option linter.unusedVariables false
set_option maxHeartbeats 8000000
set_option maxRecDepth 100000
theorem aIh {B:Nat}{h g:aM}{ds:List Dd3}{lm:Nat}{pa qa ps:OA}{ca da cs:Nat}{w' a:World}(hg:g=sQ h ds)(hl:ds.length=lm)(o1:a.ownsRow B TI 1 (.slice pa g.cells ca) g.cells.length (ivs g.cells))(o2:a.ownsRow B TV 4 (.slice qa g.vs da) g.vs.length (g.vs.flatMap aE))(o3:a.ownsRow B TB 1 (.slice ps lm cs) lm (bcs (fV h ds)))(hx:Ext w' a):
  oU B (sQ h ds,fV h ds) w' (.returned (.tuple #[bG g pa g.cells.length ca qa g.vs.length da,.slice ps lm cs])) a:=by
 subst hg;have hd:(fV h ds).length=lm:=by rw[uU,hl]
 subst hd;exact⟨pa,ca,qa,da,ps,cs,rfl,o1,o2,o3,hx⟩
theorem aPs {l:List Value}{k n:Nat}(hl:l.length=k)(hk:k<n):(l++List.replicate (n-k) (Value.bool false))[k]? =some (Value.bool false):=by rw[aSb (by omega),hl,aTi];simp[aTh];omega
theorem aOh {l:List Value}{k n:Nat}{b:Value}(hl:l.length=k)(hk:k<n):(l++List.replicate (n-k) (Value.bool false)).set k b=(l++ [b])++List.replicate (n-(k+1)) (Value.bool false):=by
 obtain⟨j,rfl⟩: ∃j,n=k+1+j:=⟨n-(k+1),by omega⟩
 rw[show k+1+j-k=j+1 by omega,show k+1+j-(k+1)=j by omega,List.set_append,if_neg (by omega),hl,aTi,aTm];simp
theorem aP4 (h:aM)(p:OA)(a:Nat)(q:OA)(c2:Nat)(lq:OA)(lm lc:Nat)(ds:List Dd3)(w:World)
  (b:xC 8 #[.agg (aU3 h p a q c2)] w fun w' e w''=>e= .returned (Value.bool false)∧Ext w' w''):
  U 71 #[.agg #[h.aA,h.aB,.slice p h.cells a,h.free,h.step,h.aD,h.aF,h.aC,h.aG,.slice q h.vs c2],.slice lq lm lc] w (oU w (hZ,[]) w):=by
 go_enter func71,ntmps71;go_wp2_with fail;refine Z (b _ ((((Mem.start w).c0 aK (aU3 h p a q c2)).c1 aK zT).made0 TB 1 (w.heap.size+1+1) (by simp)).ext) fun w1 d=>?_
 have M1:=(((((Mem.start w).c0 aK (aU3 h p a q c2)).c1 aK zT).made0 TB 1 (w.heap.size+1+1) (by simp)).adv d)
 clear d b;have f_:=(M1.bk 1).tenf;go_wp2;clear f_;have M2:=(M1.put10 (i:=1) rfl (I 0) (I 0) (.slice none 0 0) (I 0) (I 0) (I 0) (I 0) (I 0) (I 0) (.slice none 0 0))
 generalize c:World.setCell _ _ _=wz;rw[c]at M2;clear c M1;have y_:=(M2.bk 1).ten;exact bodyPost_ret (v:= .tuple #[.agg #[(),(),((),()),(),(),(),(),(),(),((),())],.slice (some ⟨w.heap.size+1+1,0,none⟩) 0 0]) (by simp[results,results71,go_sem, *]) rfl (show oU w (hZ,[]) w _ _ from⟨none,0,none,0,_,0,rfl,aRw _ _ _ _,aRw _ _ _ _,(M2.ow 0),M2.ext⟩)
theorem aQy (h:aM)(p:OA)(a:Nat)(q:OA)(c2:Nat)(lq:OA)(lm lc:Nat)(ds:List Dd3)(w:World)(hb:lm≤1048576)(x:Hid (ds.length=lm))(am:Hid (aS h=true))(HS:Hid (Sl w lq lm lc 3 (ds.flatMap cF)))
  (ab:xB 8 #[.agg (aU3 h p a q c2)] w true)
  (HL:xC 25 #[.agg (aU3 h p a q c2)] w fun w' e w''=> ∃p' cap' q' c2',e= .returned (.agg #[h.aA,h.aB,.slice p' h.cells cap',h.free,h.step,h.aD,h.aF,h.aC,h.aG,.slice q' h.vs c2'])∧w''.ownsRow w' TI 1 (.slice p' h.cells cap') h.cells.length (ivs h.cells)∧w''.ownsRow w' TV 4 (.slice q' h.vs c2') h.vs.length (h.vs.flatMap aE)∧Ext w' w''):
  U 71 #[.agg #[h.aA,h.aB,.slice p h.cells a,h.free,h.step,h.aD,h.aF,h.aC,h.aG,.slice q h.vs c2],.slice lq lm lc] w (oU w (sQ h ds,fV h ds) w):=by
 go_enter func71,ntmps71;go_wp2_with fail;refine Z (ab _ ((((Mem.start w).c0 aK (aU3 h p a q c2)).c1 aK zT).made0 TB 1 (w.heap.size+1+1) (by simp)).ext) fun w1 ag=>?_
 have M1:=(((((Mem.start w).c0 aK (aU3 h p a q c2)).c1 aK zT).made0 TB 1 (w.heap.size+1+1) (by simp)).adv ag)
 clear ag ab;have ak:=(M1.bk 2).ten;go_wp2_with fail;clear ak;refine(HL _ M1.ext).mono ?_;rintro e w2 ⟨p1,n,q1,o,rfl,ho,hq,hx⟩;have M2:=(M1.own2 hx ho hq (aRg _) (by decide))
 clear M1 hx ho hq HL;go_upto_region 5 with fail;obtain⟨gV,t⟩: ∃gV,gV=w2.heap.size:=⟨_,rfl⟩
 rw[←t];have M3:=(M2.blkNew aK (aU3 h p1 n q1 o) gV t.symm)
 generalize World.alloc _ _=w3 at M3⊢;clear M2 t;go_wp2;go_loopw [6,8] (fun dn i wr=> ∃(k:Nat) (g:aM) (p3:OA) (c3:Nat) (q3:OA) (d3:Nat) (ps:OA) (cs:Nat),k≤lm∧i=I k∧dn= .slice ps k cs∧g=sQ h (ds.take k)∧Mem w wr [aJ w TB 1 (ps) (k) (cs) (bcs (fV h (ds.take k))),aU1 w p3 g.cells c3,aU2 w q3 g.vs d3,aI w (gV) aK (aU3 g p3 c3 q3 d3),aI w (w.heap.size+1) aK #[(),(),((),()),(),(),(),(),(),(),((),())],aI w w aK (aU3 h p a q c2)]) (fun _ i _=>lm-(intOf i).toNat)
 case atStart=>exact⟨0,h,p1,n,q1,o,_,_,aRo _,rfl,rfl,rfl,(show Mem w w3 [aJ w TB 1 (some ⟨w.heap.size+1+1,0,none⟩) (0) (0) ([]),aU1 w p1 h.cells n,aU2 w q1 h.vs o,aI w (gV) aK (aU3 h p1 n q1 o),aI w (w.heap.size+1) aK #[(),(),((),()),(),(),(),(),(),(),((),())],aI w w aK (aU3 h p a q c2)]from M3.pick [3,1,2,0,4,5] (by decide) rfl)⟩
 case round=>
  clear M3;obtain⟨k,g,p3,c3,q3,d3,ps,cs,hk,rfl,rfl,hg,hM⟩:=hrel;have HM:=hM;have HG:=xQ hg;have aa:Hid (aS g=true):=by show _=_;rw[hg];exact wM _ am.out
  clear hM hg;by_cases hlt:k<lm
  ·obtain⟨b,l,a0,a1,a2,al,hx,s,e0,e1,e2⟩:=aJ2 (HS.out.ext HM.ext) hlt;subst al;have HX:=xQ hx;clear hx;have i1:(0:Int)≤(k:Int):=by omega
   have i2:(k:Int)<(lm:Int):=by omega
   obtain⟨r,num,ok,hr⟩: ∃r num ok,(r,num,ok)=doR g a0 a1 a2:=⟨_,_,_,rfl⟩
   have HR:=xQ hr;clear hr;have af:Hid (sQ h (ds.take (k+1))=r∧fV h (ds.take (k+1))=fV h (ds.take k)++ [ok]):=by show _∧_;rw[aX HX.out,aAl,yT,←HG.out,←HR.out];exact⟨rfl,rfl⟩
   have HD:Hid (∀B p c q d w',B≤w'.heap.size→Ext wr w'→IsHouse w' g p g.cells.length c q g.vs.length d→U 22 #[.agg (aU3 g p c q d),.agg #[a0,a1,a2]] w' fun e w''=> ∃pa ca qa da,e= .returned (.tuple #[.agg #[r.aA,r.aB,.slice pa r.cells ca,r.free,r.step,r.aD,r.aF,r.aC,r.aG,.slice qa r.vs da],num,.bool ok])∧w''.ownsRow B TI 1 (.slice pa r.cells ca) r.cells.length (ivs r.cells)∧w''.ownsRow B TV 4 (.slice qa r.vs da) r.vs.length (r.vs.flatMap aE)∧Ext w' w''):=fun B p c q d w' hB hx hi=>by refine(pJ g a0 a1 a2 p _ c q _ d w' hi aa.out).mono (fun e w'' hr=> ?_);have hq:=wN hB aa hr;rw[←HR.out]at hq;exact hq
   have IX:=xQ (show IsHouse wr g p3 g.cells.length c3 q3 g.vs.length d3 from⟨(HM.sq 1),(HM.sq 2)⟩);have j:gV<wr:=(HM.hi 3)
   have an:=(HM.bk 3).ten;have ai: ¬(wr.heap.size=gV):=by omega
   have aj: ¬(wr.heap.size=b):=by omega
   go_upto_region 8 with fail;go_cut [9,10,11] (fun s1 s2 s3 wx=> ∃(g5:Nat) (p5:OA) (c5:Nat) (q5:OA) (d5:Nat),s1= .pointer (some ⟨g5,0,none⟩)∧s2=I num∧s3= .bool ok∧Mem w wx [aI w (g5) aK (aU3 r p5 c5 q5 d5),aU1 w p5 r.cells c5,aU2 w q5 r.vs d5,aJ w TB 1 (ps) (k) (cs) (bcs (fV h (ds.take k))),aU1 w p3 g.cells c3,aU2 w q3 g.vs d3,aI w (gV) aK (aU3 g p3 c3 q3 d3),aI w (w.heap.size+1) aK #[(),(),((),()),(),(),(),(),(),(),((),())],aI w w aK (aU3 h p a q c2)])
   case first=>
    go_region_held3 (fun w'=>w'.cell? ⟨gV,0,none⟩=some (I g.aA)∧w'.cell? ⟨gV,1,none⟩=some (I g.aB)∧w'.cell? ⟨gV,2,none⟩=some (.slice p3 g.cells c3)∧w'.cell? ⟨gV,3,none⟩=some (I g.free)∧w'.cell? ⟨gV,4,none⟩=some (I g.step)∧w'.cell? ⟨gV,5,none⟩=some (I g.aD)∧w'.cell? ⟨gV,6,none⟩=some (I g.aF)∧w'.cell? ⟨gV,7,none⟩=some (I g.aC)∧w'.cell? ⟨gV,8,none⟩=some (I g.aG)∧w'.cell? ⟨gV,9,none⟩=some (.slice q3 g.vs d3)∧w'.cell? ⟨b,l+k*3,none⟩=some (I a0)∧w'.cell? ⟨b,l+k*3+1,none⟩=some (I a1)∧w'.cell? ⟨b,l+k*3+2,none⟩=some (I a2))
     (first|(refine⟨?_,?_,?_,?_,?_,?_,?_,?_,?_,?_,?_,?_,?_⟩<;>with_reducible assumption)|go_keep)
     (first
      |(go_at_call 22
        refine(HD wr _ _ _ _ _ (Ext.sz (show Ext wr _ from xE)) xE (IX.out.ext xE)).mono ?_;rintro e ws ⟨p5,c5,q5,d5,rfl,os,y,ah⟩;have f:Ext wr ws:=xE;have bp:=((HM.bk 3).ext f).ten;have bq:ws.cell? ⟨b,l+k*3,none⟩=some (I a0):=(f.cells.1 _ _ s).trans e0;have br:ws.cell? ⟨b,l+k*3+1,none⟩=some (I a1):=(f.cells.1 _ _ s).trans e1;have bs:ws.cell? ⟨b,l+k*3+2,none⟩=some (I a2):=(f.cells.1 _ _ s).trans e2
        first
         |(with_reducible have hz:Ext (wr.alloc (.cells #[(),(),((),()),(),(),(),(),(),(),((),())] aK)) ws:=ah;have MB:=(Mem.own2blk HM f ((Blk.new wr aK #[(),(),((),()),(),(),(),(),(),(),((),())]).ext hz) (aRg _) os y (by decide) (by decide) (by decide));obtain⟨a3,bd,a4,be,a5,bf,a6,bg,a7,bh,a8,bi,a9,bj,ba,bl,bb,bm,bc,bo⟩:=(MB.blk (i:=2) rfl).tenf)
         |(with_reducible have hz:Ext (wr.alloc (.cells #[(),(),((),()),(),(),(),(),(),(),((),())] aK)) ws:=ah.of_drew;have MB:=(Mem.own2blk HM f ((Blk.new wr aK #[(),(),((),()),(),(),(),(),(),(),((),())]).ext hz) (aRg _) os y (by decide) (by decide) (by decide));obtain⟨a3,bd,a4,be,a5,bf,a6,bg,a7,bh,a8,bi,a9,bj,ba,bl,bb,bm,bc,bo⟩:=(MB.blk (i:=2) rfl).tenf)
         |(have MA:=(Mem.own2 HM f os y (aRg _) (by decide)))))
    all_goals (
     go_wp2_with fail;go_meet
     first
      |exact⟨_,p5,c5,q5,d5,rfl,rfl,rfl,(MB.put10 (i:=2) rfl (I r.aA) (I r.aB) (.slice p5 r.cells c5) (I r.free) (I r.step) (I r.aD) (I r.aF) (I r.aC) (I r.aG) (.slice q5 r.vs d5)).pick [2,0,1,3,4,5,6,7,8] (by decide) rfl⟩
      |exact⟨_,p5,c5,q5,d5,rfl,rfl,rfl,MA.bn aK (aU3 r p5 c5 q5 d5) _⟩)
   case rest=>
    clear an ai aj e0 e1 e2 HD IX;obtain⟨g5,p5,c5,q5,d5,rfl,rfl,rfl,ae⟩:=hcut;obtain⟨v5,rfl⟩: ∃z,z=wc:=⟨_,rfl⟩
    have MC:=ae;clear ae HM j;have x_:=(MC.bk 0).ten;obtain⟨v0,ao,v1,ap,v2,aq,v3,ar,v4,au,v5,av,v6,aw,v7,ax,v8,ay,v9,az⟩:=(MC.bk 6).tenf;go_upto_region 10 with fail;clear x_ v0 ao v1 ap v2 aq v3 ar v4 au v5 av v6 aw v7 ax v8 ay v9 az;have ad:=(MC.put10 (i:=6) rfl (I r.aA) (I r.aB) (.slice p5 r.cells c5) (I r.free) (I r.step) (I r.aD) (I r.aF) (I r.aC) (I r.aG) (.slice q5 r.vs d5))
    generalize m:World.setCell _ _ _=wz;rw[m]at ad;clear m MC;go_wp2_with (at_builtin;go_loud (refine cK elB rfl _ _ rfl (ad.adv ((Ext.refl _).alloc (.cells #[.bool ok] TB))) 3 rfl rfl [.bool ok] rfl (eG _ _ _ 1 1 _ (by first|rfl|simp) (by first|rfl|simp) (by simp[maxLen])) (fun u hu=>by obtain rfl:=aS2.1 hu;rfl) (by omega) ?_;intro q7 c7 w6 M6));go_roundw
    case rel=>
     have hd:bcs (fV h (ds.take (k+1)))=bcs (fV h (ds.take k))++ [.bool ok]:=by rw[af.out.2,aFm]
     exact⟨k+1,r,p5,c5,q5,d5,q7,c7,by omega,by go_num,rfl,af.out.1.symm,by rw[hd];exact(show Mem w w6 [aJ w TB 1 (q7) (k+1) (c7) (bcs (fV h (ds.take k))++ [.bool ok]),aU1 w p5 r.cells c5,aU2 w q5 r.vs d5,aI w (gV) aK (aU3 r p5 c5 q5 d5),aI w (w.heap.size+1) aK #[(),(),((),()),(),(),(),(),(),(),((),())],aI w w aK (aU3 h p a q c2)]from(show Mem w w6 [aI w (g5) aK (aU3 r p5 c5 q5 d5),aU1 w p5 r.cells c5,aU2 w q5 r.vs d5,aJ w TB 1 (q7) (k+1) (c7) (bcs (fV h (ds.take k))++ [.bool ok]),aU1 w p3 g.cells c3,aU2 w q3 g.vs d3,aI w (gV) aK (aU3 r p5 c5 q5 d5),aI w (w.heap.size+1) aK #[(),(),((),()),(),(),(),(),(),(),((),())],aI w w aK (aU3 h p a q c2)]from M6).pick [3,1,2,6,7,8] (by decide) rfl)⟩
    case measure=>simp[intOf];omega
  obtain rfl:lm=k:=by omega
  have j:gV<wr:=(HM.hi 3)
  obtain⟨v0,v1,v2,v3,v4,v5,v6,v7,v8,v9⟩:=(HM.bk 3).ten;have f_:=(HM.bk 4).tenf;go_wp2;clear v0 v1 v2 v3 v4 v5 v6 v7 v8 v9 f_ j;have M6:=xQ (HM.put10 (i:=4) rfl (I g.aA) (I g.aB) (.slice p3 g.cells c3) (I g.free) (I g.step) (I g.aD) (I g.aF) (I g.aC) (I g.aG) (.slice q3 g.vs d3));generalize m:World.setCell _ _ _=wz;rw[m]at M6;clear m HM;have y_:=(M6.out.bk 4).ten;exact bodyPost_ret (v:= .tuple #[.agg #[g.aA,g.aB,.slice p3 g.cells c3,g.free,g.step,g.aD,g.aF,g.aC,g.aG,.slice q3 g.vs d3],.slice ps lm cs]) (by simp[results,results71,go_sem, *]) rfl (aIh (by have h1:=HG.out;rw[aRn (by rw[x.out];exact aRg _)]at h1;exact h1) x.out (M6.out.ow 1) (M6.out.ow 2) (by have h1:=(M6.out.ow 0);rw[aRn (by rw[x.out];exact aRg _)]at h1;exact h1) M6.out.ext)
theorem aBn (h:aM)(p:OA)(n a:Nat)(q:OA)(m c2:Nat)(lq:OA)(lm lc:Nat)(ds:List Dd3)(w:World)(hi:IsHouse w h p n a q m c2)(hS:Sl w lq lm lc 3 (ds.flatMap cF))(hb:lm≤1048576):
  U 71 #[bG h p n a q m c2,.slice lq lm lc] w (oU w (sP h ds) w):=by
 have hl:=hi.clen;have c:=hi.vlen;have b:ds.length=lm:=by have:=hS.len;rw[cX cF 3 (fun _=>rfl)]at this;omega
 subst hl c;have HV:=xQ fun(w':World) (hx:Ext w w')=>iL h p _ a q _ c2 w' (hi.ext hx)
 by_cases hok:aS h=true
 ·have d:=eL hok;unfold sP;rw[if_pos hok];rw[hok]at HV;have HL:=xQ fun(w':World) (hx:Ext w w')=>oM h p _ a q _ c2 w' (by omega) (by omega) (hi.ext hx)
  unfold RetHouse at HL;exact aQy h p a q c2 lq lm lc ds w hb b hok hS HV HL
 unfold sP;rw[if_neg hok];rw[show aS h=false by simpa using hok]at HV;exact aP4 h p a q c2 lq lm lc ds w HV
theorem jM (aA aB c:Int)(p:OA)(n a:Nat)(w:World)(hn:n≤12):U 132 #[aH aA aB p n a,c] w (O (.bool (decide (0≤c∧c<n))) w):=by
 by_cases h0:0≤c
 ·have d0:decide (0≤c)=true:=by simp[h0]
  by_cases h1:c<n
  ·have d1:decide (c<(n:Int))=true:=by simp[h1]
   go_enter func132,ntmps132;go_wp2;go_ret;exact⟨aR (by simp[h0,h1]),xE⟩
  have d1:decide (c<(n:Int))=false:=by simp;omega
  go_enter func132,ntmps132;go_wp2;go_ret;exact⟨aR (by simp[h0,h1]),xE⟩
 have d0:decide (0≤c)=false:=by simp;omega
 go_enter func132,ntmps132;go_wp2;go_ret;exact⟨aR (by simp[h0]),xE⟩
theorem nA (aA a b:Int)(w:World)(h0:0≤a)(h1:a≤100)(h2:0≤b)(h3:b≤100)(h4:2≤aA)(h5:aA≤4):U 133 #[aA,a,b] w (O (I (aW aA a b)) w):=by
 have q0: ¬(aA=0):=by omega
 have r1:a.tmod aA=a%aA:=IntWalk.rem_in _ _ h0;have r2:b.tmod aA=b%aA:=IntWalk.rem_in _ _ h2;have d1:IntKind.i64.wrap (a.tdiv aA)=a/aA:=aTp _ _ (by omega);have d2:IntKind.i64.wrap (b.tdiv aA)=b/aA:=aTp _ _ (by omega);have e1:=Int.emod_nonneg a q0;have e2:=Int.emod_nonneg b q0;have e3:=Int.emod_lt_of_pos a (show 0<aA by omega);have e4:=Int.emod_lt_of_pos b (show 0<aA by omega);have e5:=Int.ediv_nonneg h0 (show 0≤aA by omega);have e6:=Int.ediv_nonneg h2 (show 0≤aA by omega);have e7:=Int.ediv_le_self aA h0;have e8:=Int.ediv_le_self aA h2;have s1:IntKind.i64.wrap (max (a%aA-b%aA) (-(a%aA-b%aA))+max (a/aA-b/aA) (-(a/aA-b/aA)))=aW aA a b:=by rw[aRj _ (by omega)];unfold aW rI;omega
 have s2:IntKind.i64.wrap (a%aA-b%aA)=a%aA-b%aA:=aRj _ (by omega);have s3:IntKind.i64.wrap (a/aA-b/aA)=a/aA-b/aA:=aRj _ (by omega);have s4:IntKind.i64.wrap (-(a%aA-b%aA))= -(a%aA-b%aA):=aRj _ (by omega);have s5:IntKind.i64.wrap (-(a/aA-b/aA))= -(a/aA-b/aA):=aRj _ (by omega);go_enter func133,ntmps133;go_wp2;go_quiet (fail);go_wp2;go_quiet (fail);go_wp2;go_ret;exact⟨eO rfl,xE⟩
theorem aNu (aA aB a:Int)(p:OA)(n f:Nat)(w:World)(hn:n≤12)(h0:0≤a)(h1:a<n)
  (HV:xB 37 #[aH aA aB p n f] w true)
  (HH:Hid (∀w',U 132 #[aH aA aB p n f,a] w' (O (.bool true) w')))
  (HA:Hid (∀(k:Nat),k<n→ ∀w',U 133 #[aA,a,k] w' (O (I (aW aA a k)) w'))):
  U 194 #[aH aA aB p n f,a] w (aZ (kC aA n a) w):=by
 go_enter func194,ntmps194;go_wp2_with fail;refine Z (HV _ xE) fun w1 x=>?_
 have B1:=xQ ((Blk.new w TH3 #[aA,aB,.slice p n f]).ext x);have X1:=xQ (show Ext w w1 from xE);obtain⟨b0,b1,b2⟩:=B1.out.cells3;clear x;go_wp2_with fail;refine Z (HH _) fun w2 t=>?_
 clear b0 b1 b2;have B2:=xQ (B1.out.ext t);have X2:=xQ (X1.out.trans t);obtain⟨b0,b1,b2⟩:=B2.out.cells3;clear t B1 X1;go_wp2;go_loopw [5,19] (fun v i wr=> ∃(k:Nat) (q:OA) (m c:Nat),k≤n∧i=I k∧v= .slice q m c∧m≤k∧wr.ownsRow (w.heap.size+1) TI 1 (.slice q m c) m (ivs (fW (fun b=>decide (aW aA a b=1)) k))∧Ext w wr∧Blk wr w TH3 #[aA,aB,.slice p n f]) (fun _ i _=>n-(intOf i).toNat)
 case atStart=>exact⟨0,_,0,0,aRo _,rfl,rfl,aRg _,aRw _ _ _ _,X2.out,B2.out⟩
 case round=>
  clear b0 b1 b2 B2 X2;obtain⟨k,q,m,c,hk,rfl,rfl,ad,l,r,hB⟩:=hrel;have HO:=xQ l;have HB:=xQ hB;clear l hB;obtain⟨b0,b1,b2⟩:=HB.out.cells3;by_cases hlt:k<n
  ·go_wp2_with fail;refine Z (HA k hlt _) fun w1 h1=>?_
   have h:=xQ (bI HO h1);have o:=xQ (HB.out.ext h1);have j:=xQ (r.trans h1);have ab:(w:Nat)<w1:=o.out.lt;clear h1 b0 b1 b2 HO HB r;by_cases hx0:aW aA a k=1
   ·have t0:(aW aA a k==1)=true:=by simp[hx0]
    have d:Hid (fW (fun b=>decide (aW aA a b=1)) (k+1)=fW (fun b=>decide (aW aA a b=1)) k++ [(k:Int)]):=by show _=_;rw[fW,if_pos (by simpa using hx0)]
    clear hx0;go_wp2_with (at_builtin;refine cP fU rfl _ _ rfl (w.heap.size+1) _ _ _ rfl (h.out.alloc _) _ _ (k:Int) _ rfl (by simp) (by omega) (by first|(simp;done)|(simp;omega)) ?_;intro p' u w2 g s;have z:=xQ g;have aa:Ext w w2:=Ext.own (j.out.alloc _) (h.out.alloc _) s (by omega);have y:=xQ (rE h s o.out);clear g s);go_roundw
    case rel=>exact⟨k+1,p',m+1,u,by omega,by go_num,rfl,by omega,by rw[d.out];exact z.out,aa,y.out⟩
    case measure=>simp[intOf];omega
   have t0:(aW aA a k==1)=false:=by simp[hx0]
   have d:Hid (fW (fun b=>decide (aW aA a b=1)) (k+1)=fW (fun b=>decide (aW aA a b=1)) k):=by show _=_;rw[fW,if_neg (by simpa using hx0),aS6]
   clear hx0;go_wp2;go_roundw
   case rel=>exact⟨k+1,q,m,c,by omega,by go_num,rfl,by omega,by rw[d.out];exact h.out,j.out,o.out⟩
   case measure=>simp[intOf];omega
  have d:Hid (fW (fun b=>decide (aW aA a b=1)) k=kC aA n a):=by show _=_;unfold kC;rw[show k=n by omega]
  go_wp2;go_ret;exact dI (by rw[←d.out];have:=HO.out.1;simpa using this) (by rw[←d.out];exact bJ HO (Nat.le_succ _)) r
theorem aHw (aA aB a:Int)(p:OA)(n b:Nat)(xs:List Int)(w:World)(hS:Sl w p n b 1 (ivs xs))(c:aN aA aB xs=true)(h0:0≤a)(h1:a<n):
  U 194 #[aH aA aB p n b,a] w (aZ (kC aA n a) w):=by
 have hl:=hS.ilen;obtain⟨g1,g2,g3,g4,g5,g6,g7,g8,g9⟩:=bO c;refine aNu aA aB a p n b w (by omega) h0 h1 (fun w' hx=>by have:=gM aA aB p n b xs w' (hS.ext hx);rwa[c]at this) (fun w'=> ?_) (fun k hk w'=>nA aA a k w' h0 (by omega) (by omega) (by omega) (by omega) (by omega));have:=jM aA aB a p n b w' (by omega);rwa[decide_eq_true (⟨h0,h1⟩:0≤a∧a<n)]at this
theorem aIi {k n:Nat}(h:k<n):(List.replicate k (-1:Int)++List.replicate (n-k) 0).set k (-1)=List.replicate (k+1) (-1)++List.replicate (n-(k+1)) 0:=by
 have e:n-k=(n-(k+1))+1:=by omega
 rw[e,aTm,aTu _ _ (by simp),List.replicate_succ',aS5];simp
theorem aNh (aA aB:Int)(p:OA)(n a src:Nat)(b:Int)(w:World)(bx:4≤n)(hn:n≤12)(hs:src<n)
  (HC:Hid (∀(k:Nat),k<n→ ∀w',Ext w w'→U 194 #[aH aA aB p n a,k] w' (aZ (bF (aT aA n k)) w'))):
  U 193 #[aH aA aB p n a,src,b] w fun e w'=> ∃D,tT (rJ aA n b) [src] n D∧aZ D w e w':=by
 obtain⟨AR,af⟩: ∃AR:Array Value,AR=madeCells #[()] n:=⟨_,rfl⟩
 have bj: ∀w:World,(Instr.makeSlice 23 (I n) (I n)).run prog w= .ok (.slice (some ⟨w,0,none⟩) n n) (w.alloc (.cells AR TI)):=fun w=>by rw[af];exact run_make_row' _ _ (I 0) 8 underlying23 (by kernel_rfl) rfl .i64 .i64 n (by omega) (by omega) w
 have aw:Hid (AR.toList=ivs (List.replicate 0 (-1)++List.replicate (n-0) 0)):=by show _=_;rw[af,(oL n).1];simp
 have ax:Hid (AR.size=n):=by show _=_;rw[af];exact(oL n).2
 clear af;go_enter func193,ntmps193;go_wp2;have ME:=xQ (show Mem w ((w.alloc (.cells #[aA,aB,.slice p n a] TH3)).alloc (.cells AR TI)) [aJ w TI 1 (some ⟨w.heap.size+1,0,none⟩) (n) (n) (ivs (List.replicate 0 (-1)++List.replicate (n-0) 0)),aI w w TH3 #[aA,aB,.slice p n a]]from by rw[←aw.out];exact((Mem.start w).c0 TH3 #[aA,aB,.slice p n a]).lit TI 1 n _ AR (by simp) (by rw[ax.out];omega) (by simp[maxLen];omega));clear aw ax bj;go_loopw [19] (fun i wr=> ∃(k:Nat),k≤n∧i=I k∧Mem w wr [aJ w TI 1 (some ⟨w.heap.size+1,0,none⟩) (n) (n) (ivs (List.replicate k (-1)++List.replicate (n-k) 0)),aI w w TH3 #[aA,aB,.slice p n a]]) (fun i _=>n-(intOf i).toNat)
 case atStart=>exact⟨0,aRo _,rfl,ME.out⟩
 case round=>
  clear ME;obtain⟨k,hk,rfl,hM⟩:=hrel;have HM:=xQ hM;clear hM;by_cases hlt:k<n
  ·have i1:(0:Int)≤(k:Int):=by omega
   have i2:(k:Int)<(n:Int):=by omega
   have hl:(List.replicate k (-1:Int)++List.replicate (n-k) 0)[k]? =some 0:=by rw[aSb (by simp)];simp[aTh];omega
   have ba:wr.cell? ⟨w.heap.size+1,k,none⟩=some (I 0):=by have:=(HM.out.ow 0).cellAt k (by omega);rw[this];simp only[ivs,aRy,hl,aSh]
   have bb:wr.frozen? ⟨w.heap.size+1,k,none⟩=false:=(HM.out.ow 0).frozenAt k;clear hl;have M2:=xQ (HM.out.ostore (i:=0) rfl k (I (-1)));go_wp2;go_roundw
   case rel=>exact⟨k+1,by omega,by go_num,by have:=M2.out;rw[eE,aIi hlt]at this;exact this⟩
   case measure=>simp[intOf];omega
  obtain rfl:n=k:=by omega
  rw[aTi,show List.replicate n (-1:Int)++List.replicate 0 0=List.replicate n (-1) by simp]at HM;have i1:(0:Int)≤(src:Int):=by omega
  have i2:(src:Int)<(n:Int):=by omega
  have ba:wr.cell? ⟨w.heap.size+1,src,none⟩=some (I (-1)):=by have:=(HM.out.ow 0).cellAt src (by omega);rw[this];simp[ivs,hs]
  have bb:wr.frozen? ⟨w.heap.size+1,src,none⟩=false:=(HM.out.ow 0).frozenAt src;have M2:=xQ (HM.out.ostore (i:=0) rfl src (I 0));rw[show Hid (Mem w (wr.setCell ⟨w.heap.size+1,src,none⟩ (I 0)) (List.set [aJ w TI 1 (some ⟨w.heap.size+1,0,none⟩) (n) (n) (ivs (List.replicate n (-1))),aI w w TH3 #[aA,aB,.slice p n a]] 0 (aJ w TI 1 (some ⟨w.heap.size+1,0,none⟩) n n (List.set (ivs (List.replicate n (-1))) src (I 0)))))=Hid (Mem w (wr.setCell ⟨w.heap.size+1,src,none⟩ (I 0)) [aJ w TI 1 (some ⟨w.heap.size+1,0,none⟩) (n) (n) (ivs ((List.replicate n (-1)).set src 0)),aI w w TH3 #[aA,aB,.slice p n a]]) by rw[eE];rfl]at M2;go_upto_region 8 with fail;clear ba bb HM;generalize a8:World.setCell _ _ _=w1;rw[a8]at M2;clear a8;have I1:=xQ (Inv.one (adj:=rJ aA n b) hs);have M3:=xQ (M2.out.lit TI 1 1 w1 #[src] rfl rfl (by simp[maxLen]));clear M2;go_wp2;go_loopw [9,10] (fun v i wr=> ∃(k:Nat) (q:OA) (l lc:Nat) (D:List Int) (Q:List Nat),k≤l∧i=I k∧v= .slice q l lc∧l=Q.length∧(∀x∈D,-1≤x∧x≤k)∧Inv (rJ aA n b) [src] n k (D,Q)∧Mem w wr [aJ w TI 1 (q) (l) (lc) (ivs (bF Q)),aJ w TI 1 (some ⟨w.heap.size+1,0,none⟩) (n) (n) (ivs (D)),aI w w TH3 #[aA,aB,.slice p n a]]) (fun _ i _=>n-(intOf i).toNat)
  case atStart=>exact⟨0,some ⟨w1,0,none⟩,1,1,_,[src],aRo _,rfl,rfl,rfl,aMx _ _,I1.out,M3.out⟩
  case round=>
   clear M3 I1;obtain⟨k,q,l,lc,D,Q,hk,rfl,rfl,ap,a2,ad,hM⟩:=hrel;have HM:=xQ hM;have HI:=xQ ad;have y:=xQ ap;have bz:l≤n:=by rw[ap];exact ad.qlen
   have au:=xQ a2;clear hM ad ap a2;by_cases hlt2:k<l
   ·obtain⟨u,hu⟩: ∃u,Q[k]? =some u:=⟨_,aRh (by rw[←y.out];exact hlt2)⟩
    have bm:u<n:=HI.out.bd u (aRi hu);have HU:=xQ hu;clear hu;obtain⟨gL,rfl,a0,al⟩:=HM.out.so 0;have i3:(0:Int)≤(k:Int):=by omega
    have i4:(k:Int)<(l:Int):=by omega
    have cu:wr.cell? ⟨gL,k,none⟩=some (I u):=by have:=(HM.out.ow 0).cellAt k (by omega);rw[this];simp[ivs,bF,HU.out]
    obtain⟨nb,ag⟩: ∃nb,nb=aT aA n u:=⟨_,rfl⟩
    have ak:=xQ ag;have av:Hid (∀w',Ext w w'→U 194 #[aH aA aB p n a,u] w' (aZ (bF nb) w')):=by rw[ag];exact HC u bm
    have bl:nb.length≤n:=by rw[ag];exact aRp (aSl _ _) (by simp)
    clear ag;have a6:(bF nb).length=nb.length:=by simp[bF]
    go_wp2;refine rL (gl [gEq (.agg #[aA,aB,.slice p n a]),gEq (.slice (some ⟨gL,0,none⟩) l lc),gEq (k:Int),gEq (.pointer (some ⟨gL,k,none⟩)),gEq (u:Int),(fun v w'=> ∃q c,v= .slice q nb c∧w'.ownsRow wr TI 1 (.slice q nb c) nb.length (ivs (bF nb))),gEq (nb.length:Int),gEq (I 0)]) 8 8 [(0,some 37),(1,some 38),(2,some 39),(3,some 40),(4,some 41),(5,some 42),(6,some 43),(7,some 44)] ?steps ?fin (hG:=(mU (bM (bR _) (bM (bR _) (bM (bR _) (bM (bR _) (bM (bR _) (bM (fun v w w' ⟨q,c,he,ho⟩ hx=>⟨q,c,he,bI ho hx⟩) (bM (bR _) (bM (bR _) (pX)))))))))))
    case steps=>
     refine sC [] rfl (fun wi hx=> ?_) ?_
     ·intro K hK;have hX:Ext wr wi:=xE;obtain⟨bh,bs,bt⟩:=((HM.out.bk 2).ext hX).tri;go_simp;exact hK _ _ ⟨.agg #[aA,aB,.slice p n a],rfl,rfl,Ext.refl _⟩
     refine sS0 [] (sS0 [] (sS2 [(1,some 38),(2,some 39)] ?_));refine sC [(3,some 40)] rfl (fun wi hx=> ?_) ?_
     ·intro v3 h3 K hK;obtain rfl:=h3;have hX:Ext wr wi:=xE;have bh:wi.cell? ⟨gL,k,none⟩=some (I u):=(hX.cells.1 _ _ al).trans cu;go_simp;exact hK _ _ ⟨I u,rfl,rfl,Ext.refl _⟩
     refine sC [(0,some 37),(4,some 41)] rfl (fun wi hx=> ?_) ?_
     ·intro v0 h0 v4 h4 K hK;subst h0 h4;go_wp2_with fail;refine(av _ (HM.out.ext.trans hx.of_drew)).mono ?_;rintro e w5 ⟨q5,c5,rfl,o5,bp⟩;rw[a6]at o5⊢;go_simp;exact hK _ _ ⟨.slice q5 nb c5,rfl,⟨q5,c5,rfl,bJ o5 (by have:=hx.sz;simpa using this)⟩,bp⟩
     refine sC [(5,some 42)] rfl (fun wi hx=> ?_) ?_
     ·intro v5 h5 K hK;obtain⟨q5,c5,rfl,aq⟩:=h5;go_simp;exact hK _ _ ⟨I nb.length,rfl,rfl,Ext.refl _⟩
     exact sS0 [] StepsL.nil
    case fin=>
     intro wi hx v0 h0 v1 h1 v2 h2 v3 h3 v4 h4 v5 h5 v6 h6 v7 h7;subst h0 h1 h2 h3 h4;obtain⟨q5,c5,rfl,aq⟩:=h5;subst h6 h7;have M5:=xQ (show Mem w wi [aJ w TI 1 (q5) (nb.length) (c5) (ivs (bF nb)),aJ w TI 1 (some ⟨gL,0,none⟩) (l) (lc) (ivs (bF Q)),aJ w TI 1 (some ⟨w.heap.size+1,0,none⟩) (n) (n) (ivs (D)),aI w w TH3 #[aA,aB,.slice p n a]]from HM.out.ownNew hx.of_drew aq (aRg _));clear aq hx cu HM av i3 i4 a0 al;refine wpAny_done (by kernel_rfl) ?_ _;try go_frame
     go_wp2;go_loopw [9,44] (fun v i wr=> ∃(j:Nat) (q:OA) (l2 lc:Nat) (D2:List Int) (Q2:List Nat),j≤nb.length∧i=I j∧v= .slice q l2 lc∧l2=Q2.length∧(D2,Q2)=bQ (D.getD u 0+1) (D,Q) ((nb.take j).filter (fun(v:Nat)=>decide ((v:Int)≠b)))∧(∀x∈D2,-1≤x∧x≤(k:Int)+1)∧Mem w wr [aJ w TI 1 (q5) (nb.length) (c5) (ivs (bF nb)),aJ w TI 1 (q) (l2) (lc) (ivs (bF Q2)),aJ w TI 1 (some ⟨w.heap.size+1,0,none⟩) (n) (n) (ivs (D2)),aI w w TH3 #[aA,aB,.slice p n a]]) (fun _ i _=>nb.length-(intOf i).toNat)
     case atStart=>exact⟨0,some ⟨gL,0,none⟩,l,lc,D,Q,aRo _,rfl,rfl,y.out,by simp[bQ],fun x hx=>by have:=au x hx;omega,M5.out⟩
     case round=>
      clear M5;obtain⟨j,q,l2,lc,D2,Q2,hj,rfl,rfl,aj,an,z,hM⟩:=hrel;have a7:u∈Q:=aRi HU.out;have f:Mid (rJ aA n b) [src] n k u ((nb.take j).filter (fun(v:Nat)=>decide ((v:Int)≠b))) (D,Q) (D2,Q2):=by
       rw[an]
       have:=Mid.many a7 ((nb.take j).filter (fun(v:Nat)=>decide ((v:Int)≠b))) [] (D,Q) (HI.out.mid HU.out) (fun v hv=>by
        have h1:=aS4.1 hv;have h2:v∈aT aA n u:=by rw[←ak.out];exact aSz h1.1
        exact⟨aS4.2 ⟨h2,h1.2⟩,(bV.1 h2).1⟩)
       simpa using this
      have ay:D2.length=n:=f.len;have bw:Q2.length≤n:=pO f.nodup f.bd;have ar:D2.getD u 0=D.getD u 0:=f.same u a7;obtain⟨r,hr⟩:=f.pre;dsimp only at hr;have bi:k<Q2.length:=by rw[hr,aRm];have:=y.out;omega
      have a1:Q2[k]? =some u:=by have:=y.out;rw[hr,aS1 (by omega)];exact HU.out
      have g:=dM (D:=D2) (v:=u) (by omega);have a4: -1≤D2.getD u 0:=(z _ g.2).1;have a5:D2.getD u 0≤(k:Int):=by rw[ar];exact(au _ (dM (D:=D) (v:=u) (by have:=HI.out.len;dsimp only at this;omega)).2).2
      have HM:=xQ hM;have ae:=xQ an;have o:=xQ z;have s:=xQ aj;have bf:=xQ a1;have bc:=xQ g.1;have bg:=xQ ar;have br:l2≤n:=by omega
      have bq:k<l2:=by omega
      have az:=xQ ay;clear hM an z aj a1 g ar hr f ay bi;by_cases hlt3:j<nb.length
      ·obtain⟨v,hv⟩: ∃v,nb[j]? =some v:=⟨_,aRh hlt3⟩
       have bo:v<n:=(bV.1 (by rw[←ak.out];exact aRi hv:v∈aT aA n u)).1;have HV:=xQ hv;clear hv;obtain⟨gN,rfl,bu,bv⟩:=HM.out.so 0;obtain⟨gL,rfl,a0,al⟩:=HM.out.so 1;obtain⟨dv,am⟩: ∃d,d=D2.getD v 0:=⟨_,rfl⟩
       obtain⟨du,g⟩: ∃d,d=D2.getD u 0:=⟨_,rfl⟩
       have aa:=dM (D:=D2) (v:=v) (by rw[az.out];exact bo);rw[←am]at aa;have be:=xQ aa.1;have ai:=xQ am;have ah:=xQ g;rw[←g]at a4 a5;clear am g aa;have m1:(0:Int)≤(j:Int):=by omega
       have m2:(j:Int)<(nb.length:Int):=by omega
       have m3:(0:Int)≤(v:Int):=by omega
       have m4:(v:Int)<(n:Int):=by omega
       have m5:(0:Int)≤(u:Int):=by omega
       have m6:(u:Int)<(n:Int):=by omega
       have m7:(0:Int)≤(k:Int):=by omega
       have m8:(k:Int)<(l2:Int):=by omega
       have cn:wr.cell? ⟨gN,j,none⟩=some (I v):=by have:=(HM.out.ow 0).cellAt j (by omega);rw[this];simp[ivs,bF,HV.out]
       have cf:wr.cell? ⟨w.heap.size+1,v,none⟩=some (I dv):=by have:=(HM.out.ow 2).cellAt v (by omega);rw[this];simp only[ivs,aRy,be.out,aSh]
       by_cases hvb:(v:Int)=b
       ·have t1:((v:Int)!=b)=false:=by simp[hvb]
        have t:=xQ (aIx HV hvb);clear hvb;go_wp2;go_roundw
        case rel=>exact⟨j+1,some ⟨gL,0,none⟩,l2,lc,D2,Q2,by omega,by go_num,rfl,s.out,by rw[t.out];exact ae.out,o.out,HM.out⟩
        case measure=>simp[intOf];omega
       have t1:((v:Int)!=b)=true:=by simp[hvb]
       have t:=xQ (aF9 HV hvb);clear hvb;by_cases hd0:dv<0
       ·have t2:decide (dv<0)=true:=by simp[hd0]
        have m:Hid ((D2.set v (du+1),Q2++ [v])=bQ (D.getD u 0+1) (D,Q) ((nb.take (j+1)).filter (fun(v:Nat)=>decide ((v:Int)≠b)))):=by show _=_;rw[t.out,eB,←ae.out,lP (by rw[←ai.out];exact hd0),ah.out,bg.out]
        have cl:wr.cell? ⟨gL,k,none⟩=some (I u):=by have:=(HM.out.ow 1).cellAt k (by omega);rw[this];simp[ivs,bF,bf.out]
        have cd:wr.cell? ⟨w.heap.size+1,u,none⟩=some (I du):=by have:=(HM.out.ow 2).cellAt u (by omega);rw[this,ah.out];simp only[ivs,aRy,bc.out,aSh]
        have ff:wr.frozen? ⟨w.heap.size+1,v,none⟩=false:=(HM.out.ow 2).frozenAt v;have b0:IntKind.i64.wrap (du+1)=du+1:=aRj _ (by omega);have M6:=xQ (show Mem w (wr.setCell ⟨w.heap.size+1,v,none⟩ (I (du+1))) [aJ w TI 1 (some ⟨gN,0,none⟩) (nb.length) (c5) (ivs (bF nb)),aJ w TI 1 (some ⟨gL,0,none⟩) (l2) (lc) (ivs (bF Q2)),aJ w TI 1 (some ⟨w.heap.size+1,0,none⟩) (n) (n) (ivs (D2.set v (du+1))),aI w w TH3 #[aA,aB,.slice p n a]]from by rw[←eE];exact HM.out.ostore (i:=2) rfl v (I (du+1)));have a3:Hid (∀x∈D2.set v (du+1),-1≤x∧x≤(k:Int)+1):=by
         show∀_,_;intro x hx;rcases aSk hx with h|h
         ·exact o x h
         omega
        clear hd0;go_upto_region 17 with fail;clear cl cd ff cn cf HM;generalize a9:World.setCell _ _ _=w4;rw[a9]at M6;clear a9;go_wp2_with (at_builtin;go_loud (refine cK fU rfl _ _ rfl (M6.out.adv ((Ext.refl _).alloc (.cells #[v] TI))) 1 rfl rfl (ivs [(v:Int)]) rfl (eG _ _ _ 1 1 _ (by first|rfl|simp) (by first|rfl|simp) (by simp[maxLen])) (fun u hu=>by obtain rfl:=aS2.1 hu;rfl) (by omega) ?_;intro q7 c7 w6 M7));have M8:=xQ (show Mem w w6 [aJ w TI 1 (some ⟨gN,0,none⟩) (nb.length) (c5) (ivs (bF nb)),aJ w TI 1 (q7) (l2+1) (c7) (ivs (bF (Q2++ [v]))),aJ w TI 1 (some ⟨w.heap.size+1,0,none⟩) (n) (n) (ivs (D2.set v (du+1))),aI w w TH3 #[aA,aB,.slice p n a]]from by rw[show ivs (bF (Q2++ [v]))=ivs (bF Q2)++ivs [(v:Int)] by simp[ivs,bF]];exact M7);clear M7 M6;go_wp2;go_roundw
        case rel=>exact⟨j+1,q7,l2+1,c7,D2.set v (du+1),Q2++ [v],by omega,by go_num,rfl,by simp[s.out],m.out,a3.out,M8.out⟩
        case measure=>simp[intOf];omega
       have t2:decide (dv<0)=false:=by simp;omega
       have m:Hid ((D2,Q2)=bQ (D.getD u 0+1) (D,Q) ((nb.take (j+1)).filter (fun(v:Nat)=>decide ((v:Int)≠b)))):=by show _=_;rw[t.out,eB,←ae.out,nJ (by rw[←ai.out];exact hd0)]
       clear hd0;go_wp2;go_roundw
       case rel=>exact⟨j+1,some ⟨gL,0,none⟩,l2,lc,D2,Q2,by omega,by go_num,rfl,s.out,m.out,o.out,HM.out⟩
       case measure=>simp[intOf];omega
      obtain rfl:nb.length=j:=by omega
      have ao:Hid (Inv (rJ aA n b) [src] n (k+1) (D2,Q2)):=by show Inv _ _ _ _ _;have h1:=HI.out.step HU (fun v hv=>aJ9 hv);have h2:=ae.out;rw[aT3,ak.out]at h2;rw[h2];exact h1
      have M9:=xQ (show Mem w wr [aJ w TI 1 (q) (l2) (lc) (ivs (bF Q2)),aJ w TI 1 (some ⟨w.heap.size+1,0,none⟩) (n) (n) (ivs (D2)),aI w w TH3 #[aA,aB,.slice p n a]]from HM.out.pick [1,2,3] (by decide) rfl);clear HM;go_wp2;go_roundw
      case rel=>exact⟨k+1,q,l2,lc,D2,Q2,by omega,by go_num,rfl,s.out,fun x hx=>by have:=o x hx;omega,ao.out,M9.out⟩
      case measure=>simp[intOf];omega
   have ab:=xQ (HI.out.dist (by have:=y.out;dsimp only;omega));go_wp2;go_ret;exact⟨D,ab.out,some ⟨w.heap.size+1,0,none⟩,n,by rw[ab.out.len];rfl,by rw[ab.out.len];exact HM.out.ow 1,HM.out.ext⟩
theorem aQg (aA aB:Int)(p:OA)(n a src:Nat)(b:Int)(xs:List Int)(w:World)(hS:Sl w p n a 1 (ivs xs))(c:aN aA aB xs=true)(hs:src<n):
  U 193 #[aH aA aB p n a,src,b] w fun e w'=> ∃D,tT (rJ aA n b) [src] n D∧aZ D w e w':=by
 have hl:=hS.ilen;obtain⟨g1,g2,g3,g4,g5,g6,g7,g8,g9⟩:=bO c
 exact aNh aA aB p n a src b w (by omega) (by omega) hs (fun k hk w' hx=>by
  have:=aHw aA aB k p n a xs w' (hS.ext hx) c (by omega) (by omega)
  rwa[lU]at this)
theorem aNe (aA aB:Int)(p:OA)(n a u:Nat)(w:World)(hg:Hid ((aA,n)∈jN))(bh:4≤n)(hn:n≤12)(hu:u<n)
  (HV:xB 37 #[aH aA aB p n a] w true)
  (HH:Hid (∀(k:Nat),k<n→ ∀w',U 132 #[aH aA aB p n a,k] w' (O (.bool true) w')))
  (HF:xC 193 #[aH aA aB p n a,(),(-1:Int)] w fun w' e w''=> ∃D,(D.length=n∧ ∀v,v<n→D.getD v 0=aW aA v 0)∧aZ D w' e w'')
  (HC:Hid (∀(k:Nat),k<n→ ∀w',Ext w w'→U 194 #[aH aA aB p n a,k] w' (aZ (bF (aT aA n k)) w'))):
  U 165 #[aH aA aB p n a,u,(),(-1:Int)] w (aZ (bF (dF aA n 12 u)) w):=by
 have a1:(0:Int)≤(u:Int):=by omega
 have a2:(u:Int)<(n:Int):=by omega
 have a3:((-1:Int)==(u:Int))=false:=by first|(simp;done)|(simp;omega)
 have a4:decide ((n:Int)≤ -1)=false:=by first|(simp;done)|(simp;omega)
 have a0:Hid (∀w',U 132 #[aH aA aB p n a,()] w' (O (.bool true) w')):=HH.out 0 (by omega);have aa:=xQ (bW hg.out hu);go_enter func165,ntmps165;go_wp2_with fail;have M0:=((Mem.start w).c0 TH3 #[aA,aB,.slice p n a])
 refine Z (HV _ M0.ext) fun w1 av=>?_
 have M1:=(M0.adv av)
 obtain⟨b0,b1,b2⟩:=(M1.bk 0).cells3;clear av M0;go_wp2_with fail;refine Z (HH u hu _) fun w2 aw=>?_
 have M2:=(M1.adv aw)
 clear b0 b1 b2 aw M1;obtain⟨b0,b1,b2⟩:=(M2.bk 0).cells3;go_wp2_with fail;refine Z (a0 _) fun w3 ax=>?_
 have M3:=(M2.adv ax)
 clear b0 b1 b2 ax M2;obtain⟨b0,b1,b2⟩:=(M3.bk 0).cells3;go_wp2_with fail;refine(HF _ M3.ext).mono ?_;rintro e w4 ⟨D,⟨ag,am⟩,q2,c2,rfl,o4,ay⟩;rw[ag]at o4⊢;have HD:=xQ ag;have ad:=xQ am;have M4:=(M3.call ay o4)
 clear b0 b1 b2 ay o4 M3 ag am;obtain⟨gF,rfl,a7,a8⟩:=M4.so 0;have cU:w4.cell? ⟨gF,u,none⟩=some (I (aW aA u 0)):=by have h1:=(dM (D:=D) (v:=u) (by rw[HD.out];exact hu)).1;rw[ad u hu]at h1;have:=(M4.ow 0).cellAt u (by omega);rw[this];simp only[ivs,aRy,h1,aSh]
 have a5:decide (aW aA (u:Int) 0<0)=false:=by have:=aa.out.1;first|(simp;done)|(simp;omega)
 have M5:=(M4.lit TI 1 1 w4 #[u] rfl rfl (by simp[maxLen]))
 go_wp2;clear cU M4 a7 a8;go_loopw [10,11] (fun o v wr=> ∃(x f:Nat) (pre:List Nat) (q:OA) (l lc:Nat),o= .slice q l lc∧v=I x∧x<n∧aW aA x 0≤f∧pre++dF aA n f x=dF aA n 12 u∧l=pre.length+1∧Mem w wr [aJ w TI 1 (q) (l) (lc) (ivs (bF (pre++ [x]))),aJ w TI 1 (some ⟨gF,0,none⟩) (n) (c2) (ivs (D)),aI w w TH3 #[aA,aB,.slice p n a]]) (fun _ v _=>(aW aA (intOf v) 0).toNat)
 case atStart=>exact⟨u,12,[],some ⟨w4,0,none⟩,1,1,rfl,rfl,hu,by have:=aa.out.2.1;omega,rfl,rfl,M5⟩
 case round=>
  clear M5;obtain⟨x,f,pre,q,l,lc,rfl,rfl,hx,hf,s,hl,hM⟩:=hrel;have HM:=hM;have HW:=xQ s;have ae:=xQ (bW hg.out hx);have ak:=xQ hf;have bf:l≤12:=by have h1:=congrArg List.length s;have h2:=nH hg.out f x hx hf;have h3:=nH hg.out 12 u hu (by have:=aa.out.2.1;omega);have h4:=aa.out.2.1;have h5:=ae.out.1;rw[aRm]at h1;omega
  have al:=xQ hl;clear hM s hf hl;by_cases h0:x=0
  ·have t0:((x:Int)!=0)=false:=by simp[h0]
   have ab:Hid (pre++ [x]=dF aA n 12 u):=by show _=_;rw[←HW.out];subst h0;cases f<;>simp[dF]
   clear h0;go_wp2;go_ret;exact dI (by rw[←ab.out];have:=al.out;simp[bF];omega) (by rw[←ab.out];exact HM.ow 0) HM.ext
  have t0:((x:Int)!=0)=true:=by simp[h0]
  obtain⟨J,a9,z,ah⟩:=aIe hg.out hx h0;obtain⟨e1,e2,e3⟩:=ae.out.2.2.2.1 h0;have be:=xQ h0;obtain⟨y,hy⟩: ∃y,y=lW aA n x:=⟨_,rfl⟩
  rw[←hy]at z e1 e2 e3;have HY:=xQ hy;clear hy h0;obtain⟨nb,m⟩: ∃nb,nb=aT aA n x:=⟨_,rfl⟩
  rw[←m]at a9 z ah;have aj:Hid (∀w',Ext w w'→U 194 #[aH aA aB p n a,x] w' (aZ (bF nb) w')):=by rw[m];exact HC x hx
  have a6:=xQ m;have bc:nb.length≤12:=by rw[m];exact aRp (aSl _ _) (by simp;omega)
  have an:=xQ z;have ao:=xQ ah;have t:=xQ e3;clear m z ah e2 e3;have aq:(bF nb).length=nb.length:=by simp[bF]
  obtain⟨b0,b1,b2⟩:=(HM.bk 2).cells3;go_wp2_with fail;clear b0 b1 b2;refine(aj _ HM.ext).mono ?_;rintro e w5 ⟨q5,c5,rfl,o5,az⟩;rw[aq]at o5⊢;have M6:=(HM.call az o5)
  clear o5 az aj HM;obtain⟨gN,rfl,ba,bb⟩:=M6.so 0;clear ba bb;go_wp2;go_loopw [11,69] (fun cc i wz=> ∃j:Nat,j≤J∧cc=I x∧i=I j∧Mem w wz [aJ w TI 1 (some ⟨gN,0,none⟩) (nb.length) (c5) (ivs (bF nb)),aJ w TI 1 (q) (l) (lc) (ivs (bF (pre++ [x]))),aJ w TI 1 (some ⟨gF,0,none⟩) (n) (c2) (ivs (D)),aI w w TH3 #[aA,aB,.slice p n a]]) (fun _ i _=>J-(intOf i).toNat)
  case atStart=>exact⟨0,aRo _,rfl,rfl,M6⟩
  case round=>
   clear M6;obtain⟨j,hj,rfl,rfl,hM⟩:=hrel;have HM:=hM;clear hM;obtain⟨v,hv⟩: ∃v,nb[j]? =some v:=⟨_,aRh (by omega)⟩
   have r:v<n:=(bV.1 (by rw[←a6.out];exact aRi hv:v∈aT aA n x)).1;have af:=xQ hv;have g:=(dM (D:=D) (v:=v) (by rw[HD.out];exact r)).1;have h:=(dM (D:=D) (v:=x) (by rw[HD.out];exact hx)).1;rw[ad v r]at g;rw[ad x hx]at h;obtain⟨dv,b⟩: ∃d,d=aW aA v 0:=⟨_,rfl⟩
   obtain⟨dx,c⟩: ∃d,d=aW aA x 0:=⟨_,rfl⟩
   have gv:=bW hg.out r;have gx:=ae.out;rw[←b]at g gv;rw[←c]at h gx;have m1:(0:Int)≤(j:Int):=by omega
   have m2:(j:Int)<(nb.length:Int):=by omega
   have m3:(0:Int)≤(v:Int):=by omega
   have m4:(v:Int)<(n:Int):=by omega
   have m5:(0:Int)≤(x:Int):=by omega
   have m6:(x:Int)<(n:Int):=by omega
   have w7:IntKind.i64.wrap (dx-1)=dx-1:=aRj _ (by omega);have cn:wr.cell? ⟨gN,j,none⟩=some (I v):=by have:=(HM.ow 0).cellAt j (by omega);rw[this];simp[ivs,bF,af.out]
   have cf:wr.cell? ⟨gF,v,none⟩=some (I dv):=by have:=(HM.ow 2).cellAt v (by omega);rw[this];simp only[ivs,aRy,g,aSh]
   have cx:wr.cell? ⟨gF,x,none⟩=some (I dx):=by have:=(HM.ow 2).cellAt x (by omega);rw[this];simp only[ivs,aRy,h,aSh]
   by_cases hjJ:j<J
   ·have ar:(dv==dx-1)=false:=by
     have:=ao.out j v hjJ af.out;rw[←b,←c]at this;exact beq_eq_false_iff_ne.2 this
    clear g h b c gv gx;go_wp2;go_quiet (fail);go_wp2;go_roundw
    case rel=>exact⟨j+1,by omega,rfl,by go_num,HM.adv xE⟩
    case measure=>simp[intOf];omega
   obtain rfl:j=J:=by omega
   have bd:v=y:=by have h1:=af.out;rw[an.out]at h1;injection h1 with h1;exact h1.symm
   subst bd;have ar:(dv==dx-1)=true:=by have:=t.out;rw[←b,←c]at this;simp[this]
   have ap:=xQ (show 1≤aW aA (x:Int) 0 by have h1:=(bW hg.out r).1;have h2:=t.out;omega);clear g h b gv;go_wp2;go_quiet (fail);generalize au:World.drewN _ _=wq;have M7:=(show Mem w wq [aJ w TI 1 (q) (l) (lc) (ivs (bF (pre++ [x]))),aJ w TI 1 (some ⟨gF,0,none⟩) (n) (c2) (ivs (D)),aI w w TH3 #[aA,aB,.slice p n a]]from by rw[←au];exact(HM.adv xE).pick [1,2,3] (by decide) rfl)
   clear au cn cf cx HM;go_wp2_with (at_builtin;go_loud (refine cK fU rfl _ _ rfl (M7.adv ((Ext.refl _).alloc (.cells #[v] TI))) 0 rfl rfl (ivs [(v:Int)]) rfl (eG _ _ _ 1 1 _ (by first|rfl|simp) (by first|rfl|simp) (by simp[maxLen])) (fun u hu=>by obtain rfl:=aS2.1 hu;rfl) (by omega) ?_;intro q7 c7 w6 M8));have M9:=(show Mem w w6 [aJ w TI 1 (q7) (l+1) (c7) (ivs (bF (pre++ [x]++ [v]))),aJ w TI 1 (some ⟨gF,0,none⟩) (n) (c2) (ivs (D)),aI w w TH3 #[aA,aB,.slice p n a]]from by rw[show ivs (bF (pre++ [x]++ [v]))=ivs (bF (pre++ [x]))++ivs [(v:Int)] by simp[ivs,bF]];exact M8)
   clear M8 M7;have bg:0<f:=by have:=ak.out;have:=ap.out;omega
   obtain⟨f',rfl⟩: ∃f',f=f'+1:=⟨f-1,by omega⟩
   have ai:Hid ((pre++ [x])++dF aA n f' v=dF aA n 12 u):=by
    show _=_;rw[←HW.out]
    conv=>rhs;rw[dF,if_neg be.out,←HY.out]
    simp
   go_wp2;go_roundw
   case rel=>exact⟨v,f',pre++ [x],q7,l+1,c7,rfl,by go_num,r,by have:=t.out;have:=ak.out;omega,ai.out,by have:=al.out;simp;omega,M9⟩
   case measure=>simp[intOf];have:=t.out;have:=ap.out;omega
theorem aQf (aA aB:Int)(p:OA)(n a u:Nat)(xs:List Int)(w:World)(hS:Sl w p n a 1 (ivs xs))(b:aN aA aB xs=true)(hu:u<n):
  U 165 #[aH aA aB p n a,u,(),(-1:Int)] w (aZ (bF (dF aA n 12 u)) w):=by
 have hl:=hS.ilen;obtain⟨g1,g2,g3,g4,g5,g6,g7,g8,g9⟩:=bO b;have hg:=rY (n:=n) g1 g2 g3 g4 (by omega);refine aNe aA aB p n a u w hg (by omega) (by omega) hu (fun w' hx=>by have:=gM aA aB p n a xs w' (hS.ext hx);rwa[b]at this) (fun k hk w'=> ?_) (fun w' hx=> ?_) (fun k hk w' hx=> ?_)
 ·have:=jM aA aB k p n a w' (by omega);rwa[decide_eq_true (⟨by omega,by omega⟩:0≤(k:Int)∧(k:Int)<n)]at this
 ·refine(aQg aA aB p n a 0 (-1) xs w' (hS.ext hx) b (by omega)).mono ?_;rintro e w2 ⟨D,hD,hr⟩;exact⟨D,⟨hD.len,fun v hv=>aBa hg (aFo aA n) hD hv⟩,hr⟩
 have:=aHw aA aB k p n a xs w' (hS.ext hx) b (by omega) (by omega);rwa[lU]at this
end Go.Proofs.YtomgkjinhnkpnaaGreatDoor
