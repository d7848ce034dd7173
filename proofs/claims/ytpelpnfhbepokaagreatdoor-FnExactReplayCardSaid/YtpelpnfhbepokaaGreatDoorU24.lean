/-
  Texts of this proof, packed (@packed).
-/
import Derived.Deep.CutBlock
import Derived.Test.YtpelpnfhbepokaaGreatDoorU10
import Derived.Test.YtpelpnfhbepokaaGreatDoorU12
import Derived.Test.YtpelpnfhbepokaaGreatDoorU16
import Derived.Test.YtpelpnfhbepokaaGreatDoorU23
namespace Go.Proofs.YtpelpnfhbepokaaGreatDoor
open Go.RowKit
set_option linter.unusedVariables false
set_option linter.unusedSimpArgs false
set_option maxHeartbeats 8000000
set_option maxRecDepth 100000
theorem aFt {B:Nat}{h g:aW}{ds:List Dd3}{lm:Nat}{pa qa ps:OA}{ca da cs:Nat}{w' a:World}(hg:g=nK h ds)(hl:ds.length=lm)(o1:a.ownsRow B TI 1 (.slice pa g.cells.length ca) g.cells.length (ivs g.cells))(o2:a.ownsRow B TV 4 (.slice qa g.vs.length da) g.vs.length (g.vs.flatMap aC))(o3:a.ownsRow B TB 1 (.slice ps lm cs) lm (bcs (eJ h ds)))(hx:Ext w' a):
  nA B (nK h ds,eJ h ds) w' (.returned (.tuple #[cA g pa g.cells.length ca qa g.vs.length da,.slice ps lm cs])) a:=by
 subst hg;have hd:(eJ h ds).length=lm:=by rw[oS,hl]
 subst hd;exact⟨pa,ca,qa,da,ps,cs,rfl,o1,o2,o3,hx⟩
theorem aM0 {l:List Value}{k n:Nat}(hl:l.length=k)(hk:k<n):(l++List.replicate (n-k) (Value.bool false))[k]? =some (Value.bool false):=by rw[List.getElem?_append_right (by omega),hl,Nat.sub_self];simp[List.getElem?_replicate];omega
theorem aKs {l:List Value}{k n:Nat}{b:Value}(hl:l.length=k)(hk:k<n):(l++List.replicate (n-k) (Value.bool false)).set k b=(l++ [b])++List.replicate (n-(k+1)) (Value.bool false):=by
 obtain⟨j,rfl⟩: ∃j,n=k+1+j:=⟨n-(k+1),by omega⟩
 rw[show k+1+j-k=j+1 by omega,show k+1+j-(k+1)=j by omega,List.set_append,if_neg (by omega),hl,Nat.sub_self,List.replicate_succ];simp
theorem aLe (h:aW)(p:OA)(cap:Nat)(q:OA)(c2:Nat)(lq:OA)(lm lc:Nat)(ds:List Dd3)(w:World)
  (c:xC 12 #[.agg #[h.aA,h.aB,.slice p h.cells.length cap,h.free,h.step,h.aE,h.aG,h.aD,h.aF,.slice q h.vs.length c2]] w fun w' e w''=>e= .returned (Value.bool false)∧Ext w' w''):
  Calls Tryz.prog 9 #[.agg #[h.aA,h.aB,.slice p h.cells.length cap,h.free,h.step,h.aE,h.aG,h.aD,h.aF,.slice q h.vs.length c2],.slice lq lm lc] w (nA w.heap.size (hZ,[]) w):=by
 go_enter Tryz.func9,Tryz.ntmps9;go_wp2_with fail;refine(c _ ((((Mem.start w).c0 aL #[h.aA,h.aB,.slice p h.cells.length cap,h.free,h.step,h.aE,h.aG,h.aD,h.aF,.slice q h.vs.length c2]).c1 aL zT).made0 TB 1 (w.heap.size+1+1) (by simp)).ext).mono ?_;rintro e w1 ⟨rfl,f⟩;have M1:=(((((Mem.start w).c0 aL #[h.aA,h.aB,.slice p h.cells.length cap,h.free,h.step,h.aE,h.aG,h.aD,h.aF,.slice q h.vs.length c2]).c1 aL zT).made0 TB 1 (w.heap.size+1+1) (by simp)).adv f)
 have a:=M1.hi 1;have b:=M1.hi 2;clear f c;obtain⟨f0,g,f1,j,f2,k,f3,l,f4,m,f5,n,f6,o,f7,r,f8,s,f9,t⟩:=(M1.bk 1).tenf;go_wp2;clear f0 g f1 j f2 k f3 l f4 m f5 n f6 o f7 r f8 s f9 t a b;have M2:=(M1.put10 (i:=1) rfl (.int .i64 0) (.int .i64 0) (.slice none 0 0) (.int .i64 0) (.int .i64 0) (.int .i64 0) (.int .i64 0) (.int .i64 0) (.int .i64 0) (.slice none 0 0))
 generalize d:World.setCell _ _ _=wz;rw[d]at M2;clear d M1;obtain⟨y0,y1,y2,y3,y4,y5,y6,y7,y8,y9⟩:=(M2.bk 1).ten;exact bodyPost_ret (v:= .tuple #[.agg #[(),(),((),()),(),(),(),(),(),(),((),())],.slice (some ⟨w.heap.size+1+1,0,none⟩) 0 0]) (by simp[results,Tryz.results9,go_sem, *]) rfl (show nA w.heap.size (hZ,[]) w _ _ from⟨none,0,none,0,_,0,rfl,World.ownsRow_nil _ _ _ _,World.ownsRow_nil _ _ _ _,(M2.ow 0),M2.ext⟩)
theorem aN4 (h:aW)(p:OA)(cap:Nat)(q:OA)(c2:Nat)(lq:OA)(lm lc:Nat)(ds:List Dd3)(w:World)(hb:lm≤1048576)(ag:Hid (ds.length=lm))(bp:Hid (bU h=true))(HS:Hid (Sl w lq lm lc 3 (ds.flatMap iF)))
  (an:xB 12 #[.agg #[h.aA,h.aB,.slice p h.cells.length cap,h.free,h.step,h.aE,h.aG,h.aD,h.aF,.slice q h.vs.length c2]] w true)
  (HL:xC 37 #[.agg #[h.aA,h.aB,.slice p h.cells.length cap,h.free,h.step,h.aE,h.aG,h.aD,h.aF,.slice q h.vs.length c2]] w fun w' e w''=> ∃p' cap' q' c2',e= .returned (.agg #[h.aA,h.aB,.slice p' h.cells.length cap',h.free,h.step,h.aE,h.aG,h.aD,h.aF,.slice q' h.vs.length c2'])∧w''.ownsRow w'.heap.size TI 1 (.slice p' h.cells.length cap') h.cells.length (ivs h.cells)∧w''.ownsRow w'.heap.size TV 4 (.slice q' h.vs.length c2') h.vs.length (h.vs.flatMap aC)∧Ext w' w''):
  Calls Tryz.prog 9 #[.agg #[h.aA,h.aB,.slice p h.cells.length cap,h.free,h.step,h.aE,h.aG,h.aD,h.aF,.slice q h.vs.length c2],.slice lq lm lc] w (nA w.heap.size (nK h ds,eJ h ds) w):=by
 go_enter Tryz.func9,Tryz.ntmps9;go_wp2_with fail;refine(an _ ((((Mem.start w).c0 aL #[h.aA,h.aB,.slice p h.cells.length cap,h.free,h.step,h.aE,h.aG,h.aD,h.aF,.slice q h.vs.length c2]).c1 aL zT).made0 TB 1 (w.heap.size+1+1) (by simp)).ext).mono ?_;rintro e w1 ⟨rfl,ar⟩;have M1:=(((((Mem.start w).c0 aL #[h.aA,h.aB,.slice p h.cells.length cap,h.free,h.step,h.aE,h.aG,h.aD,h.aF,.slice q h.vs.length c2]).c1 aL zT).made0 TB 1 (w.heap.size+1+1) (by simp)).adv ar)
 have ah:=M1.hi 1;have ai:=M1.hi 2;clear ar an;obtain⟨az,a3,a4,a5,a6,a7,a8,a9,ba,bb⟩:=(M1.bk 2).ten;go_wp2_with fail;clear az a3 a4 a5 a6 a7 a8 a9 ba bb;refine(HL _ M1.ext).mono ?_;rintro e w2 ⟨p1,t,q1,x,rfl,ho,hq,hx⟩;have M2:=(M1.own2 hx ho hq (Nat.le_refl _) (by decide))
 clear M1 ah ai hx ho hq HL;have aj:=M2.hi 3;have ak:=M2.hi 4;go_upto_region 5 with fail;obtain⟨gV,af⟩: ∃gV,gV=w2.heap.size:=⟨_,rfl⟩
 rw[←af];have M3:=(M2.blkNew aL #[h.aA,h.aB,.slice p1 h.cells.length t,h.free,h.step,h.aE,h.aG,h.aD,h.aF,.slice q1 h.vs.length x] gV af.symm)
 generalize World.alloc _ _=w3 at M3⊢;clear M2 aj ak af;have b1:=M3.hi 0;have b2:=M3.hi 4;have b3:=M3.hi 5;go_wp2;go_loopw [6,8] (fun dn i wr=> ∃(k:Nat) (g:aW) (p3:OA) (c3:Nat) (q3:OA) (d3:Nat) (ps:OA) (cs:Nat),k≤lm∧i= .int .i64 (k:Int)∧dn= .slice ps k cs∧g=nK h (ds.take k)∧Mem w wr [aI w.heap.size TB 1 (ps) (k) (cs) (bcs (eJ h (ds.take k))),aI w.heap.size TI 1 (p3) (g.cells.length) (c3) (ivs g.cells),aI w.heap.size TV 4 (q3) (g.vs.length) (d3) (g.vs.flatMap aC),aJ w.heap.size (gV) aL #[g.aA,g.aB,.slice p3 g.cells.length c3,g.free,g.step,g.aE,g.aG,g.aD,g.aF,.slice q3 g.vs.length d3],aJ w.heap.size (w.heap.size+1) aL #[(),(),((),()),(),(),(),(),(),(),((),())],aJ w.heap.size (w.heap.size) aL #[h.aA,h.aB,.slice p h.cells.length cap,h.free,h.step,h.aE,h.aG,h.aD,h.aF,.slice q h.vs.length c2]]) (fun _ i _=>lm-(intOf i).toNat)
 case atStart=>exact⟨0,h,p1,t,q1,x,_,_,Nat.zero_le _,rfl,rfl,rfl,(show Mem w w3 [aI w.heap.size TB 1 (some ⟨w.heap.size+1+1,0,none⟩) (0) (0) ([]),aI w.heap.size TI 1 (p1) (h.cells.length) (t) (ivs h.cells),aI w.heap.size TV 4 (q1) (h.vs.length) (x) (h.vs.flatMap aC),aJ w.heap.size (gV) aL #[h.aA,h.aB,.slice p1 h.cells.length t,h.free,h.step,h.aE,h.aG,h.aD,h.aF,.slice q1 h.vs.length x],aJ w.heap.size (w.heap.size+1) aL #[(),(),((),()),(),(),(),(),(),(),((),())],aJ w.heap.size (w.heap.size) aL #[h.aA,h.aB,.slice p h.cells.length cap,h.free,h.step,h.aE,h.aG,h.aD,h.aF,.slice q h.vs.length c2]]from M3.pick [3,1,2,0,4,5] (by decide) rfl)⟩
 case round=>
  clear M3;obtain⟨k,g,p3,c3,q3,d3,ps,cs,hk,rfl,rfl,hg,hM⟩:=hrel;have HM:=hM;have HG:=xQ hg;have am:Hid (bU g=true):=by show _=_;rw[hg];exact zY _ bp.out
  clear hM hg;by_cases hlt:k<lm
  ·obtain⟨b,o,a0,a1,a2,bo,hx,ae,e0,e1,e2⟩:=aG7 (HS.out.ext HM.ext) hlt;subst bo;have HX:=xQ hx;clear hx;have i1:(0:Int)≤(k:Int):=by omega
   have i2:(k:Int)<(lm:Int):=by omega
   obtain⟨r,num,ok,hr⟩: ∃r num ok,(r,num,ok)=doR g a0 a1 a2:=⟨_,_,_,rfl⟩
   have HR:=xQ hr;clear hr;have aq:Hid (nK h (ds.take (k+1))=r∧eJ h (ds.take (k+1))=eJ h (ds.take k)++ [ok]):=by show _∧_;rw[bI HX.out,xS,vQ,←HG.out,←HR.out];exact⟨rfl,rfl⟩
   have HD:Hid (∀B p c q d w',B≤w'.heap.size→Ext wr w'→IsHouse w' g p g.cells.length c q g.vs.length d→Calls Tryz.prog 38 #[.agg #[g.aA,g.aB,.slice p g.cells.length c,g.free,g.step,g.aE,g.aG,g.aD,g.aF,.slice q g.vs.length d],.agg #[a0,a1,a2]] w' fun e w''=> ∃pa ca qa da,e= .returned (.tuple #[.agg #[r.aA,r.aB,.slice pa r.cells.length ca,r.free,r.step,r.aE,r.aG,r.aD,r.aF,.slice qa r.vs.length da],num,.bool ok])∧w''.ownsRow B TI 1 (.slice pa r.cells.length ca) r.cells.length (ivs r.cells)∧w''.ownsRow B TV 4 (.slice qa r.vs.length da) r.vs.length (r.vs.flatMap aC)∧Ext w' w''):=fun B p c q d w' hB hx hi=>by refine(aBh g a0 a1 a2 p _ c q _ d w' hi am.out).mono (fun e w'' hr=> ?_);have hq:=aFu hB am hr;rw[←HR.out]at hq;exact hq
   have IX:=xQ (show IsHouse wr g p3 g.cells.length c3 q3 g.vs.length d3 from⟨(HM.sq 1),(HM.sq 2)⟩);have l:gV<wr.heap.size:=(HM.hi 3)
   have m:w.heap.size+1<wr.heap.size:=(HM.hi 4)
   have n:w.heap.size<wr.heap.size:=(HM.hi 5)
   obtain⟨bq,br,bs,bt,bu,bv,bw,bx,bz,b0⟩:=(HM.bk 3).ten;have av: ¬(gV=wr.heap.size):=by omega
   have aw: ¬(wr.heap.size=gV):=by omega
   have ax: ¬(b=wr.heap.size):=by omega
   have ay: ¬(wr.heap.size=b):=by omega
   have xm:=HM.ext;go_upto_region 8 with fail;go_cut [9,10,11] (fun s1 s2 s3 wx=> ∃(g5:Nat) (p5:OA) (c5:Nat) (q5:OA) (d5:Nat),s1= .pointer (some ⟨g5,0,none⟩)∧s2= .int .i64 num∧s3= .bool ok∧Mem w wx [aJ w.heap.size (g5) aL #[r.aA,r.aB,.slice p5 r.cells.length c5,r.free,r.step,r.aE,r.aG,r.aD,r.aF,.slice q5 r.vs.length d5],aI w.heap.size TI 1 (p5) (r.cells.length) (c5) (ivs r.cells),aI w.heap.size TV 4 (q5) (r.vs.length) (d5) (r.vs.flatMap aC),aI w.heap.size TB 1 (ps) (k) (cs) (bcs (eJ h (ds.take k))),aI w.heap.size TI 1 (p3) (g.cells.length) (c3) (ivs g.cells),aI w.heap.size TV 4 (q3) (g.vs.length) (d3) (g.vs.flatMap aC),aJ w.heap.size (gV) aL #[g.aA,g.aB,.slice p3 g.cells.length c3,g.free,g.step,g.aE,g.aG,g.aD,g.aF,.slice q3 g.vs.length d3],aJ w.heap.size (w.heap.size+1) aL #[(),(),((),()),(),(),(),(),(),(),((),())],aJ w.heap.size (w.heap.size) aL #[h.aA,h.aB,.slice p h.cells.length cap,h.free,h.step,h.aE,h.aG,h.aD,h.aF,.slice q h.vs.length c2]])
   case first=>
    go_region_held3 (fun w'=>w'.cell? ⟨gV,0,none⟩=some (.int .i64 g.aA)∧w'.cell? ⟨gV,1,none⟩=some (.int .i64 g.aB)∧w'.cell? ⟨gV,2,none⟩=some (.slice p3 g.cells.length c3)∧w'.cell? ⟨gV,3,none⟩=some (.int .i64 g.free)∧w'.cell? ⟨gV,4,none⟩=some (.int .i64 g.step)∧w'.cell? ⟨gV,5,none⟩=some (.int .i64 g.aE)∧w'.cell? ⟨gV,6,none⟩=some (.int .i64 g.aG)∧w'.cell? ⟨gV,7,none⟩=some (.int .i64 g.aD)∧w'.cell? ⟨gV,8,none⟩=some (.int .i64 g.aF)∧w'.cell? ⟨gV,9,none⟩=some (.slice q3 g.vs.length d3)∧w'.cell? ⟨b,o+k*3,none⟩=some (.int .i64 a0)∧w'.cell? ⟨b,o+k*3+1,none⟩=some (.int .i64 a1)∧w'.cell? ⟨b,o+k*3+2,none⟩=some (.int .i64 a2))
     (first|(refine⟨?_,?_,?_,?_,?_,?_,?_,?_,?_,?_,?_,?_,?_⟩<;>with_reducible assumption)|go_keep)
     (first
      |(go_at_call 38
        refine(HD wr.heap.size _ _ _ _ _ (Ext.sz (show Ext wr _ from xE)) xE (IX.out.ext xE)).mono ?_;rintro e ws ⟨p5,c5,q5,d5,rfl,os,al,au⟩;have a:Ext wr ws:=xE;obtain⟨c8,c9,db,dc,dd,de,df,dg,dh,di⟩:=((HM.bk 3).ext a).ten;have dj:ws.cell? ⟨b,o+k*3,none⟩=some (.int .i64 a0):=(a.cells.1 _ _ ae).trans e0;have dk:ws.cell? ⟨b,o+k*3+1,none⟩=some (.int .i64 a1):=(a.cells.1 _ _ ae).trans e1;have dl:ws.cell? ⟨b,o+k*3+2,none⟩=some (.int .i64 a2):=(a.cells.1 _ _ ae).trans e2;have c0: ¬(gV=ws.heap.size):=by have:=a.sz;omega
        have c1: ¬(ws.heap.size=gV):=by have:=a.sz;omega
        have c4: ¬(b=ws.heap.size):=by have:=a.sz;omega
        have c6: ¬(ws.heap.size=b):=by have:=a.sz;omega
        first
         |(with_reducible have hz:Ext (wr.alloc (.cells #[(),(),((),()),(),(),(),(),(),(),((),())] aL)) ws:=au;have MB:=(Mem.own2blk HM a ((Blk.new wr aL #[(),(),((),()),(),(),(),(),(),(),((),())]).ext hz) (Nat.le_refl _) os al (by decide) (by decide) (by decide));obtain⟨cf,cp,cg,cq,ch,cr,ci,ct,cj,cu,ck,cv,cl,cw,cm,cx,cn,cy,co,cz⟩:=(MB.blk (i:=2) rfl).tenf)
         |(with_reducible have hz:Ext (wr.alloc (.cells #[(),(),((),()),(),(),(),(),(),(),((),())] aL)) ws:=au.of_drew;have MB:=(Mem.own2blk HM a ((Blk.new wr aL #[(),(),((),()),(),(),(),(),(),(),((),())]).ext hz) (Nat.le_refl _) os al (by decide) (by decide) (by decide));obtain⟨cf,cp,cg,cq,ch,cr,ci,ct,cj,cu,ck,cv,cl,cw,cm,cx,cn,cy,co,cz⟩:=(MB.blk (i:=2) rfl).tenf)
         |(have MA:=(Mem.own2 HM a os al (Nat.le_refl _) (by decide)))))
    all_goals (
     go_wp2_with fail;go_meet
     first
      |exact⟨_,p5,c5,q5,d5,rfl,rfl,rfl,(MB.put10 (i:=2) rfl (.int .i64 r.aA) (.int .i64 r.aB) (.slice p5 r.cells.length c5) (.int .i64 r.free) (.int .i64 r.step) (.int .i64 r.aE) (.int .i64 r.aG) (.int .i64 r.aD) (.int .i64 r.aF) (.slice q5 r.vs.length d5)).pick [2,0,1,3,4,5,6,7,8] (by decide) rfl⟩
      |exact⟨_,p5,c5,q5,d5,rfl,rfl,rfl,MA.bn aL #[r.aA,r.aB,.slice p5 r.cells.length c5,r.free,r.step,r.aE,r.aG,r.aD,r.aF,.slice q5 r.vs.length d5] _⟩)
   case rest=>
    clear bq br bs bt bu bv bw bx bz b0 av aw ax ay xm e0 e1 e2 HD IX;obtain⟨g5,p5,c5,q5,d5,rfl,rfl,rfl,ap⟩:=hcut;obtain⟨v5,rfl⟩: ∃z,z=wc:=⟨_,rfl⟩
    have MC:=ap;clear ap HM l m n;have y:g5<v5.heap.size:=(MC.hi 0)
    have aa:gV<v5.heap.size:=(MC.hi 6)
    have ab:w.heap.size+1<v5.heap.size:=(MC.hi 7)
    have ad:w.heap.size<v5.heap.size:=(MC.hi 8)
    obtain⟨x0,x1,x2,x3,x4,x5,x6,x7,x8,x9⟩:=(MC.bk 0).ten;obtain⟨v0,b4,v1,b5,v2,b6,v3,b7,v4,b8,v5,b9,v6,cb,v7,cc,v8,cd,v9,ce⟩:=(MC.bk 6).tenf;obtain⟨f,j⟩:=MC.nq 0 6;go_upto_region 10 with fail;clear x0 x1 x2 x3 x4 x5 x6 x7 x8 x9 v0 b4 v1 b5 v2 b6 v3 b7 v4 b8 v5 b9 v6 cb v7 cc v8 cd v9 ce f j;have ao:=(MC.put10 (i:=6) rfl (.int .i64 r.aA) (.int .i64 r.aB) (.slice p5 r.cells.length c5) (.int .i64 r.free) (.int .i64 r.step) (.int .i64 r.aE) (.int .i64 r.aG) (.int .i64 r.aD) (.int .i64 r.aF) (.slice q5 r.vs.length d5))
    generalize s:World.setCell _ _ _=wz;rw[s]at ao;clear s MC y aa ab ad;go_wp2_with (at_builtin;go_loud (refine cR elB rfl _ _ rfl (ao.adv ((Ext.refl _).alloc (.cells #[.bool ok] TB))) 3 rfl rfl [.bool ok] rfl (eU _ _ _ 1 1 _ (by first|rfl|simp) (by first|rfl|simp) (by simp[maxLen])) (fun u hu=>by obtain rfl:=List.mem_singleton.1 hu;rfl) (by omega) ?_;intro q7 c7 w6 M6));go_roundw
    case rel=>
     have hd:bcs (eJ h (ds.take (k+1)))=bcs (eJ h (ds.take k))++ [.bool ok]:=by rw[aq.out.2,aD8]
     exact⟨k+1,r,p5,c5,q5,d5,q7,c7,by omega,by go_num,rfl,aq.out.1.symm,by rw[hd];exact(show Mem w w6 [aI w.heap.size TB 1 (q7) (k+1) (c7) (bcs (eJ h (ds.take k))++ [.bool ok]),aI w.heap.size TI 1 (p5) (r.cells.length) (c5) (ivs r.cells),aI w.heap.size TV 4 (q5) (r.vs.length) (d5) (r.vs.flatMap aC),aJ w.heap.size (gV) aL #[r.aA,r.aB,.slice p5 r.cells.length c5,r.free,r.step,r.aE,r.aG,r.aD,r.aF,.slice q5 r.vs.length d5],aJ w.heap.size (w.heap.size+1) aL #[(),(),((),()),(),(),(),(),(),(),((),())],aJ w.heap.size (w.heap.size) aL #[h.aA,h.aB,.slice p h.cells.length cap,h.free,h.step,h.aE,h.aG,h.aD,h.aF,.slice q h.vs.length c2]]from(show Mem w w6 [aJ w.heap.size (g5) aL #[r.aA,r.aB,.slice p5 r.cells.length c5,r.free,r.step,r.aE,r.aG,r.aD,r.aF,.slice q5 r.vs.length d5],aI w.heap.size TI 1 (p5) (r.cells.length) (c5) (ivs r.cells),aI w.heap.size TV 4 (q5) (r.vs.length) (d5) (r.vs.flatMap aC),aI w.heap.size TB 1 (q7) (k+1) (c7) (bcs (eJ h (ds.take k))++ [.bool ok]),aI w.heap.size TI 1 (p3) (g.cells.length) (c3) (ivs g.cells),aI w.heap.size TV 4 (q3) (g.vs.length) (d3) (g.vs.flatMap aC),aJ w.heap.size (gV) aL #[r.aA,r.aB,.slice p5 r.cells.length c5,r.free,r.step,r.aE,r.aG,r.aD,r.aF,.slice q5 r.vs.length d5],aJ w.heap.size (w.heap.size+1) aL #[(),(),((),()),(),(),(),(),(),(),((),())],aJ w.heap.size (w.heap.size) aL #[h.aA,h.aB,.slice p h.cells.length cap,h.free,h.step,h.aE,h.aG,h.aD,h.aF,.slice q h.vs.length c2]]from M6).pick [3,1,2,6,7,8] (by decide) rfl)⟩
    case measure=>simp[intOf];omega
  obtain rfl:lm=k:=by omega
  have l:gV<wr.heap.size:=(HM.hi 3)
  have m:w.heap.size+1<wr.heap.size:=(HM.hi 4)
  have n:w.heap.size<wr.heap.size:=(HM.hi 5)
  obtain⟨v0,v1,v2,v3,v4,v5,v6,v7,v8,v9⟩:=(HM.bk 3).ten;obtain⟨f0,bc,f1,bd,f2,be,f3,bf,f4,bg,f5,bh,f6,bi,f7,bj,f8,bl,f9,bm⟩:=(HM.bk 4).tenf;obtain⟨f,j⟩:=HM.nq 3 4;go_wp2;clear v0 v1 v2 v3 v4 v5 v6 v7 v8 v9 f0 bc f1 bd f2 be f3 bf f4 bg f5 bh f6 bi f7 bj f8 bl f9 bm f j l m n;have M6:=xQ (HM.put10 (i:=4) rfl (.int .i64 g.aA) (.int .i64 g.aB) (.slice p3 g.cells.length c3) (.int .i64 g.free) (.int .i64 g.step) (.int .i64 g.aE) (.int .i64 g.aG) (.int .i64 g.aD) (.int .i64 g.aF) (.slice q3 g.vs.length d3));generalize s:World.setCell _ _ _=wz;rw[s]at M6;clear s HM;obtain⟨y0,y1,y2,y3,y4,y5,y6,y7,y8,y9⟩:=(M6.out.bk 4).ten;exact bodyPost_ret (v:= .tuple #[.agg #[g.aA,g.aB,.slice p3 g.cells.length c3,g.free,g.step,g.aE,g.aG,g.aD,g.aF,.slice q3 g.vs.length d3],.slice ps lm cs]) (by simp[results,Tryz.results9,go_sem, *]) rfl (aFt (by have h1:=HG.out;rw[List.take_of_length_le (by rw[ag.out];exact Nat.le_refl _)]at h1;exact h1) ag.out (M6.out.ow 1) (M6.out.ow 2) (by have h1:=(M6.out.ow 0);rw[List.take_of_length_le (by rw[ag.out];exact Nat.le_refl _)]at h1;exact h1) M6.out.ext)
theorem zM (h:aW)(p:OA)(n cap:Nat)(q:OA)(m c2:Nat)(lq:OA)(lm lc:Nat)(ds:List Dd3)(w:World)(hi:IsHouse w h p n cap q m c2)(hS:Sl w lq lm lc 3 (ds.flatMap iF))(hb:lm≤1048576):
  Calls Tryz.prog 9 #[cA h p n cap q m c2,.slice lq lm lc] w (nA w.heap.size (wP h ds) w):=by
 have hl:=hi.clen;have b:=hi.vlen;have a:ds.length=lm:=by have:=hS.len;rw[cX iF 3 (fun _=>rfl)]at this;omega
 subst hl b;have HV:=xQ fun(w':World) (hx:Ext w w')=>oG h p _ cap q _ c2 w' (hi.ext hx)
 by_cases hok:bU h=true
 ·have c:=jV hok;unfold wP;rw[if_pos hok];rw[hok]at HV;have HL:=xQ fun(w':World) (hx:Ext w w')=>pP h p _ cap q _ c2 w' (by omega) (by omega) (hi.ext hx)
  unfold RetHouse at HL;exact aN4 h p cap q c2 lq lm lc ds w hb a hok hS HV HL
 unfold wP;rw[if_neg hok];rw[show bU h=false by simpa using hok]at HV;exact aLe h p cap q c2 lq lm lc ds w HV
theorem iP (aA aB c:Int)(p:OA)(n cap:Nat)(w:World)(hn:n≤12):Calls Tryz.prog 149 #[aH aA aB p n cap,c] w fun e w'=>e= .returned (.bool (decide (0≤c∧c<n)))∧Ext w w':=by
 by_cases h0:0≤c
 ·have d0:decide (0≤c)=true:=by simp[h0]
  by_cases h1:c<n
  ·have d1:decide (c<(n:Int))=true:=by simp[h1]
   go_enter Tryz.func149,Tryz.ntmps149;go_wp2;go_ret;exact⟨aO (by simp[h0,h1]),xE⟩
  have d1:decide (c<(n:Int))=false:=by simp;omega
  go_enter Tryz.func149,Tryz.ntmps149;go_wp2;go_ret;exact⟨aO (by simp[h0,h1]),xE⟩
 have d0:decide (0≤c)=false:=by simp;omega
 go_enter Tryz.func149,Tryz.ntmps149;go_wp2;go_ret;exact⟨aO (by simp[h0]),xE⟩
theorem lT (aA a b:Int)(w:World)(h0:0≤a)(h1:a≤100)(h2:0≤b)(h3:b≤100)(h4:2≤aA)(h5:aA≤4):Calls Tryz.prog 150 #[aA,a,b] w fun e w'=>e= .returned (.int .i64 (aX aA a b))∧Ext w w':=by
 have q0: ¬(aA=0):=by omega
 have r1:a.tmod aA=a%aA:=IntWalk.rem_in _ _ h0;have r2:b.tmod aA=b%aA:=IntWalk.rem_in _ _ h2;have d1:IntKind.i64.wrap (a.tdiv aA)=a/aA:=IntWalk.i64_quo _ _ (by omega);have d2:IntKind.i64.wrap (b.tdiv aA)=b/aA:=IntWalk.i64_quo _ _ (by omega);have e1:=Int.emod_nonneg a q0;have e2:=Int.emod_nonneg b q0;have e3:=Int.emod_lt_of_pos a (show 0<aA by omega);have e4:=Int.emod_lt_of_pos b (show 0<aA by omega);have e5:=Int.ediv_nonneg h0 (show 0≤aA by omega);have e6:=Int.ediv_nonneg h2 (show 0≤aA by omega);have e7:=Int.ediv_le_self aA h0;have e8:=Int.ediv_le_self aA h2;have s1:IntKind.i64.wrap (max (a%aA-b%aA) (-(a%aA-b%aA))+max (a/aA-b/aA) (-(a/aA-b/aA)))=aX aA a b:=by rw[IntWalk.i64_in _ (by omega)];unfold aX oX;omega
 have s2:IntKind.i64.wrap (a%aA-b%aA)=a%aA-b%aA:=IntWalk.i64_in _ (by omega);have s3:IntKind.i64.wrap (a/aA-b/aA)=a/aA-b/aA:=IntWalk.i64_in _ (by omega);have s4:IntKind.i64.wrap (-(a%aA-b%aA))= -(a%aA-b%aA):=IntWalk.i64_in _ (by omega);have s5:IntKind.i64.wrap (-(a/aA-b/aA))= -(a/aA-b/aA):=IntWalk.i64_in _ (by omega);go_enter Tryz.func150,Tryz.ntmps150;go_wp2;go_quiet (fail);go_wp2;go_quiet (fail);go_wp2;go_ret;exact⟨dG rfl,xE⟩
theorem aK8 (aA aB a:Int)(p:OA)(n cap:Nat)(w:World)(hn:n≤12)(h0:0≤a)(h1:a<n)
  (HV:xB 53 #[aH aA aB p n cap] w true)
  (HH:Hid (∀w',Calls Tryz.prog 149 #[aH aA aB p n cap,a] w' fun e w''=>e= .returned (.bool true)∧Ext w' w''))
  (HA:Hid (∀(k:Nat),k<n→ ∀w',Calls Tryz.prog 150 #[aA,a,(k:Int)] w' fun e w''=>e= .returned (.int .i64 (aX aA a k))∧Ext w' w'')):
  Calls Tryz.prog 214 #[aH aA aB p n cap,a] w (bH (jF aA n a) w):=by
 go_enter Tryz.func214,Tryz.ntmps214;go_wp2_with fail;refine(HV _ xE).mono ?_;rintro e w1 ⟨rfl,x⟩;have B1:=xQ ((Blk.new w TH3 #[aA,aB,.slice p n cap]).ext x);have X1:=xQ (show Ext w w1 from xE);have u:=B1.out.lt;obtain⟨b0,b1,b2⟩:=B1.out.cells3;clear x;go_wp2_with fail;refine(HH _).mono ?_;rintro e w2 ⟨rfl,s⟩;clear b0 b1 b2;have B2:=xQ (B1.out.ext s);have X2:=xQ (X1.out.trans s);have ad:=B2.out.lt;obtain⟨b0,b1,b2⟩:=B2.out.cells3;clear s B1 X1 u;go_wp2;go_loopw [5,19] (fun v i wr=> ∃(k:Nat) (q:OA) (m c:Nat),k≤n∧i= .int .i64 k∧v= .slice q m c∧m≤k∧wr.ownsRow (w.heap.size+1) TI 1 (.slice q m c) m (ivs (fC (fun b=>decide (aX aA a b=1)) k))∧Ext w wr∧Blk wr w.heap.size TH3 #[aA,aB,.slice p n cap]) (fun _ i _=>n-(intOf i).toNat)
 case atStart=>exact⟨0,_,0,0,Nat.zero_le _,rfl,rfl,Nat.le_refl _,World.ownsRow_nil _ _ _ _,X2.out,B2.out⟩
 case round=>
  clear b0 b1 b2 B2 X2;obtain⟨k,q,m,c,hk,rfl,rfl,ae,j,o,hB⟩:=hrel;have HO:=xQ j;have HB:=xQ hB;have u:w.heap.size<wr.heap.size:=hB.lt;clear j hB;obtain⟨b0,b1,b2⟩:=HB.out.cells3;by_cases hlt:k<n
  ·go_wp2_with fail;refine(HA k hlt _).mono ?_;rintro e w1 ⟨rfl,h1⟩;have g:=xQ (bD HO h1);have l:=xQ (HB.out.ext h1);have h:=xQ (o.trans h1);have ab:w.heap.size<w1.heap.size:=l.out.lt;clear h1 b0 b1 b2 HO HB o;by_cases hx0:aX aA a k=1
   ·have t0:(aX aA a k==1)=true:=by simp[hx0]
    have d:Hid (fC (fun b=>decide (aX aA a b=1)) (k+1)=fC (fun b=>decide (aX aA a b=1)) k++ [(k:Int)]):=by show _=_;rw[fC,if_pos (by simpa using hx0)]
    clear hx0;go_wp2_with (at_builtin;refine dI fX rfl _ _ rfl (w.heap.size+1) _ _ _ rfl (g.out.alloc _) _ _ (k:Int) _ rfl (by simp) (by omega) (by first|(simp;done)|(simp;omega)) ?_;intro p' t w2 f r;have z:=xQ f;have aa:Ext w w2:=Ext.own (h.out.alloc _) (g.out.alloc _) r (by omega);have y:=xQ (rE g r l.out);clear f r);go_roundw
    case rel=>exact⟨k+1,p',m+1,t,by omega,by go_num,rfl,by omega,by rw[d.out];exact z.out,aa,y.out⟩
    case measure=>simp[intOf];omega
   have t0:(aX aA a k==1)=false:=by simp[hx0]
   have d:Hid (fC (fun b=>decide (aX aA a b=1)) (k+1)=fC (fun b=>decide (aX aA a b=1)) k):=by show _=_;rw[fC,if_neg (by simpa using hx0),List.append_nil]
   clear hx0;go_wp2;go_roundw
   case rel=>exact⟨k+1,q,m,c,by omega,by go_num,rfl,by omega,by rw[d.out];exact g.out,h.out,l.out⟩
   case measure=>simp[intOf];omega
  have d:Hid (fC (fun b=>decide (aX aA a b=1)) k=jF aA n a):=by show _=_;unfold jF;rw[show k=n by omega]
  go_wp2;go_ret;exact dP (by rw[←d.out];have:=HO.out.1;simpa using this) (by rw[←d.out];exact bK HO (Nat.le_succ _)) o
theorem aF5 (aA aB a:Int)(p:OA)(n cap:Nat)(xs:List Int)(w:World)(hS:Sl w p n cap 1 (ivs xs))(b:aN aA aB xs=true)(h0:0≤a)(h1:a<n):
  Calls Tryz.prog 214 #[aH aA aB p n cap,a] w (bH (jF aA n a) w):=by
 have hl:=hS.ilen;obtain⟨g1,g2,g3,g4,g5,g6,g7,g8,g9⟩:=bQ b;refine aK8 aA aB a p n cap w (by omega) h0 h1 (fun w' hx=>by have:=fW aA aB p n cap xs w' (hS.ext hx);rwa[b]at this) (fun w'=> ?_) (fun k hk w'=>lT aA a k w' h0 (by omega) (by omega) (by omega) (by omega) (by omega));have:=iP aA aB a p n cap w' (by omega);rwa[decide_eq_true (⟨h0,h1⟩:0≤a∧a<n)]at this
theorem aFv {k n:Nat}(h:k<n):(List.replicate k (-1:Int)++List.replicate (n-k) 0).set k (-1)=List.replicate (k+1) (-1)++List.replicate (n-(k+1)) 0:=by
 have e:n-k=(n-(k+1))+1:=by omega
 rw[e,List.replicate_succ,List.set_append_right _ _ (by simp),List.replicate_succ',List.append_assoc];simp
theorem aJx (aA aB:Int)(p:OA)(n cap src:Nat)(a:Int)(w:World)(b4:4≤n)(hn:n≤12)(hs:src<n)
  (HC:Hid (∀(k:Nat),k<n→ ∀w',Ext w w'→Calls Tryz.prog 214 #[aH aA aB p n cap,(k:Int)] w' (bH (bA (aP aA n k)) w'))):
  Calls Tryz.prog 213 #[aH aA aB p n cap,(src:Int),a] w fun e w'=> ∃D,rG (oY aA n a) [src] n D∧bH D w e w':=by
 obtain⟨AR,ae⟩: ∃AR:Array Value,AR=madeCells #[()] n:=⟨_,rfl⟩
 have bl: ∀w:World,(Instr.makeSlice 23 (.int .i64 (n:Int)) (.int .i64 (n:Int))).run Tryz.prog w= .ok (.slice (some ⟨w.heap.size,0,none⟩) n n) (w.alloc (.cells AR TI)):=fun w=>by rw[ae];exact run_make_row' _ _ (.int .i64 0) 8 Tryz.underlying23 (by kernel_rfl) rfl .i64 .i64 n (by omega) (by omega) w
 have av:Hid (AR.toList=ivs (List.replicate 0 (-1)++List.replicate (n-0) 0)):=by show _=_;rw[ae,(mP n).1];simp
 have aw:Hid (AR.size=n):=by show _=_;rw[ae];exact(mP n).2
 clear ae;go_enter Tryz.func213,Tryz.ntmps213;go_wp2;have ME:=xQ (show Mem w ((w.alloc (.cells #[aA,aB,.slice p n cap] TH3)).alloc (.cells AR TI)) [aI w.heap.size TI 1 (some ⟨w.heap.size+1,0,none⟩) (n) (n) (ivs (List.replicate 0 (-1)++List.replicate (n-0) 0)),aJ w.heap.size (w.heap.size) TH3 #[aA,aB,.slice p n cap]]from by rw[←av.out];exact((Mem.start w).c0 TH3 #[aA,aB,.slice p n cap]).lit TI 1 n _ AR (by simp) (by rw[aw.out];omega) (by simp[maxLen];omega));clear av aw bl;go_loopw [19] (fun i wr=> ∃(k:Nat),k≤n∧i= .int .i64 (k:Int)∧Mem w wr [aI w.heap.size TI 1 (some ⟨w.heap.size+1,0,none⟩) (n) (n) (ivs (List.replicate k (-1)++List.replicate (n-k) 0)),aJ w.heap.size (w.heap.size) TH3 #[aA,aB,.slice p n cap]]) (fun i _=>n-(intOf i).toNat)
 case atStart=>exact⟨0,Nat.zero_le _,rfl,ME.out⟩
 case round=>
  clear ME;obtain⟨k,hk,rfl,hM⟩:=hrel;have HM:=xQ hM;clear hM;have br:=(HM.out.hi 1)
  by_cases hlt:k<n
  ·have i1:(0:Int)≤(k:Int):=by omega
   have i2:(k:Int)<(n:Int):=by omega
   have hl:(List.replicate k (-1:Int)++List.replicate (n-k) 0)[k]? =some 0:=by rw[List.getElem?_append_right (by simp)];simp[List.getElem?_replicate];omega
   have bb:wr.cell? ⟨w.heap.size+1,k,none⟩=some (.int .i64 0):=by have:=(HM.out.ow 0).cellAt k (by omega);rw[this];simp only[ivs,List.getElem?_map,hl,Option.map_some]
   have bc:wr.frozen? ⟨w.heap.size+1,k,none⟩=false:=(HM.out.ow 0).frozenAt k;clear hl;have M2:=xQ (HM.out.ostore (i:=0) rfl k (.int .i64 (-1)));go_wp2;go_roundw
   case rel=>exact⟨k+1,by omega,by go_num,by have:=M2.out;rw[dN,aFv hlt]at this;exact this⟩
   case measure=>simp[intOf];omega
  obtain rfl:n=k:=by omega
  rw[Nat.sub_self,show List.replicate n (-1:Int)++List.replicate 0 0=List.replicate n (-1) by simp]at HM;have i1:(0:Int)≤(src:Int):=by omega
  have i2:(src:Int)<(n:Int):=by omega
  have bb:wr.cell? ⟨w.heap.size+1,src,none⟩=some (.int .i64 (-1)):=by have:=(HM.out.ow 0).cellAt src (by omega);rw[this];simp[ivs,hs]
  have bc:wr.frozen? ⟨w.heap.size+1,src,none⟩=false:=(HM.out.ow 0).frozenAt src;have M2:=xQ (HM.out.ostore (i:=0) rfl src (.int .i64 0));rw[show Hid (Mem w (wr.setCell ⟨w.heap.size+1,src,none⟩ (.int .i64 0)) (List.set [aI w.heap.size TI 1 (some ⟨w.heap.size+1,0,none⟩) (n) (n) (ivs (List.replicate n (-1))),aJ w.heap.size (w.heap.size) TH3 #[aA,aB,.slice p n cap]] 0 (aI w.heap.size TI 1 (some ⟨w.heap.size+1,0,none⟩) n n (List.set (ivs (List.replicate n (-1))) src (.int .i64 0)))))=Hid (Mem w (wr.setCell ⟨w.heap.size+1,src,none⟩ (.int .i64 0)) [aI w.heap.size TI 1 (some ⟨w.heap.size+1,0,none⟩) (n) (n) (ivs ((List.replicate n (-1)).set src 0)),aJ w.heap.size (w.heap.size) TH3 #[aA,aB,.slice p n cap]]) by rw[dN];rfl]at M2;go_upto_region 8 with fail;clear bb bc HM br;generalize a7:World.setCell _ _ _=w1;rw[a7]at M2;clear a7;have I1:=xQ (Inv.one (adj:=oY aA n a) hs);have M3:=xQ (M2.out.lit TI 1 1 w1.heap.size #[(src:Int)] rfl rfl (by simp[maxLen]));clear M2;go_wp2;go_loopw [9,10] (fun v i wr=> ∃(k:Nat) (q:OA) (l lc:Nat) (D:List Int) (Q:List Nat),k≤l∧i= .int .i64 (k:Int)∧v= .slice q l lc∧l=Q.length∧(∀x∈D,-1≤x∧x≤k)∧Inv (oY aA n a) [src] n k (D,Q)∧Mem w wr [aI w.heap.size TI 1 (q) (l) (lc) (ivs (bA Q)),aI w.heap.size TI 1 (some ⟨w.heap.size+1,0,none⟩) (n) (n) (ivs (D)),aJ w.heap.size (w.heap.size) TH3 #[aA,aB,.slice p n cap]]) (fun _ i _=>n-(intOf i).toNat)
  case atStart=>exact⟨0,some ⟨w1.heap.size,0,none⟩,1,1,_,[src],Nat.zero_le _,rfl,rfl,rfl,aJj _ _,I1.out,M3.out⟩
  case round=>
   clear M3 I1;obtain⟨k,q,l,lc,D,Q,hk,rfl,rfl,ao,a1,ab,hM⟩:=hrel;have HM:=xQ hM;have HI:=xQ ab;have y:=xQ ao;have b5:l≤n:=by rw[ao];exact ab.qlen
   have ar:=xQ a1;clear hM ab ao a1;by_cases hlt2:k<l
   ·obtain⟨u,hu⟩: ∃u,Q[k]? =some u:=⟨_,List.getElem?_eq_getElem (by rw[←y.out];exact hlt2)⟩
    have bo:u<n:=HI.out.bd u (List.mem_of_getElem? hu);have HU:=xQ hu;clear hu;obtain⟨gL,rfl,az,ak⟩:=HM.out.so 0;have i3:(0:Int)≤(k:Int):=by omega
    have i4:(k:Int)<(l:Int):=by omega
    have i5:(0:Int)≤(u:Int):=by omega
    have i6:(u:Int)<(n:Int):=by omega
    have cu:wr.cell? ⟨gL,k,none⟩=some (.int .i64 (u:Int)):=by have:=(HM.out.ow 0).cellAt k (by omega);rw[this];simp[ivs,bA,HU.out]
    obtain⟨nb,af⟩: ∃nb,nb=aP aA n u:=⟨_,rfl⟩
    have aj:=xQ af;have au:Hid (∀w',Ext w w'→Calls Tryz.prog 214 #[aH aA aB p n cap,(u:Int)] w' (bH (bA nb) w')):=by rw[af];exact HC u bo
    have bm:nb.length≤n:=by rw[af];exact Nat.le_trans (List.length_filter_le _ _) (by simp)
    clear af;have a5:(bA nb).length=nb.length:=by simp[bA]
    go_wp2;refine rL (gl [gEq (.agg #[aA,aB,.slice p n cap]),gEq (.slice (some ⟨gL,0,none⟩) l lc),gEq (k:Int),gEq (.pointer (some ⟨gL,k,none⟩)),gEq (u:Int),(fun v w'=> ∃q c,v= .slice q nb.length c∧w'.ownsRow wr.heap.size TI 1 (.slice q nb.length c) nb.length (ivs (bA nb))),gEq (nb.length:Int),gEq (.int .i64 0)]) 8 8 [(0,some 37),(1,some 38),(2,some 39),(3,some 40),(4,some 41),(5,some 42),(6,some 43),(7,some 44)] ?steps ?fin (hG:=(mT (bL (bP _) (bL (bP _) (bL (bP _) (bL (bP _) (bL (bP _) (bL (fun v w w' ⟨q,c,he,ho⟩ hx=>⟨q,c,he,bD ho hx⟩) (bL (bP _) (bL (bP _) (pS)))))))))))
    case steps=>
     refine sC [] rfl (fun wi hx=> ?_) ?_
     ·intro K hK;have hX:Ext wr wi:=xE;obtain⟨bi,bz,b0⟩:=((HM.out.bk 2).ext hX).tri;go_simp;exact hK _ _ ⟨.agg #[aA,aB,.slice p n cap],rfl,rfl,Ext.refl _⟩
     refine sS0 [] (sS0 [] (sS2 [(1,some 38),(2,some 39)] ?_));refine sC [(3,some 40)] rfl (fun wi hx=> ?_) ?_
     ·intro v3 h3 K hK;obtain rfl:=h3;have hX:Ext wr wi:=xE;have bi:wi.cell? ⟨gL,k,none⟩=some (.int .i64 (u:Int)):=(hX.cells.1 _ _ ak).trans cu;go_simp;exact hK _ _ ⟨.int .i64 (u:Int),rfl,rfl,Ext.refl _⟩
     refine sC [(0,some 37),(4,some 41)] rfl (fun wi hx=> ?_) ?_
     ·intro v0 h0 v4 h4 K hK;obtain rfl:=h0;obtain rfl:=h4;go_wp2_with fail;refine(au _ (HM.out.ext.trans hx.of_drew)).mono ?_;rintro e w5 ⟨q5,c5,rfl,o5,bq⟩;rw[a5]at o5⊢;go_simp;exact hK _ _ ⟨.slice q5 nb.length c5,rfl,⟨q5,c5,rfl,bK o5 (by have:=hx.sz;simpa using this)⟩,bq⟩
     refine sC [(5,some 42)] rfl (fun wi hx=> ?_) ?_
     ·intro v5 h5 K hK;obtain⟨q5,c5,rfl,ap⟩:=h5;go_simp;exact hK _ _ ⟨.int .i64 (nb.length:Int),rfl,rfl,Ext.refl _⟩
     exact sS0 [] StepsL.nil
    case fin=>
     intro wi hx v0 h0 v1 h1 v2 h2 v3 h3 v4 h4 v5 h5 v6 h6 v7 h7;obtain rfl:=h0;obtain rfl:=h1;obtain rfl:=h2;obtain rfl:=h3;obtain rfl:=h4;obtain⟨q5,c5,rfl,ap⟩:=h5;obtain rfl:=h6;obtain rfl:=h7;have M5:=xQ (show Mem w wi [aI w.heap.size TI 1 (q5) (nb.length) (c5) (ivs (bA nb)),aI w.heap.size TI 1 (some ⟨gL,0,none⟩) (l) (lc) (ivs (bA Q)),aI w.heap.size TI 1 (some ⟨w.heap.size+1,0,none⟩) (n) (n) (ivs (D)),aJ w.heap.size (w.heap.size) TH3 #[aA,aB,.slice p n cap]]from HM.out.ownNew hx.of_drew ap (Nat.le_refl _));clear ap hx cu HM au i3 i4 i5 i6 az ak;refine wpAny_done (by kernel_rfl) ?_ _;try go_frame
     go_wp2;go_loopw [9,44] (fun v i wr=> ∃(j:Nat) (q:OA) (l2 lc:Nat) (D2:List Int) (Q2:List Nat),j≤nb.length∧i= .int .i64 (j:Int)∧v= .slice q l2 lc∧l2=Q2.length∧(D2,Q2)=bF (D.getD u 0+1) (D,Q) ((nb.take j).filter (fun(v:Nat)=>decide ((v:Int)≠a)))∧(∀x∈D2,-1≤x∧x≤(k:Int)+1)∧Mem w wr [aI w.heap.size TI 1 (q5) (nb.length) (c5) (ivs (bA nb)),aI w.heap.size TI 1 (q) (l2) (lc) (ivs (bA Q2)),aI w.heap.size TI 1 (some ⟨w.heap.size+1,0,none⟩) (n) (n) (ivs (D2)),aJ w.heap.size (w.heap.size) TH3 #[aA,aB,.slice p n cap]]) (fun _ i _=>nb.length-(intOf i).toNat)
     case atStart=>exact⟨0,some ⟨gL,0,none⟩,l,lc,D,Q,Nat.zero_le _,rfl,rfl,y.out,by simp[bF],fun x hx=>by have:=ar x hx;omega,M5.out⟩
     case round=>
      clear M5;obtain⟨j,q,l2,lc,D2,Q2,hj,rfl,rfl,ai,am,z,hM⟩:=hrel;have a6:u∈Q:=List.mem_of_getElem? HU.out;have b:Mid (oY aA n a) [src] n k u ((nb.take j).filter (fun(v:Nat)=>decide ((v:Int)≠a))) (D,Q) (D2,Q2):=by
       rw[am]
       have:=Mid.many a6 ((nb.take j).filter (fun(v:Nat)=>decide ((v:Int)≠a))) [] (D,Q) (HI.out.mid HU.out) (fun v hv=>by
        have h1:=List.mem_filter.1 hv;have h2:v∈aP aA n u:=by rw[←aj.out];exact List.mem_of_mem_take h1.1
        exact⟨List.mem_filter.2 ⟨h2,h1.2⟩,(bM.1 h2).1⟩)
       simpa using this
      have ax:D2.length=n:=b.len;have b3:Q2.length≤n:=nR b.nodup b.bd;have aq:D2.getD u 0=D.getD u 0:=b.same u a6;obtain⟨r,hr⟩:=b.pre;dsimp only at hr;have bj:k<Q2.length:=by rw[hr,List.length_append];have:=y.out;omega
      have a0:Q2[k]? =some u:=by have:=y.out;rw[hr,List.getElem?_append_left (by omega)];exact HU.out
      have g:=dB (D:=D2) (v:=u) (by omega);have a3: -1≤D2.getD u 0:=(z _ g.2).1;have a4:D2.getD u 0≤(k:Int):=by rw[aq];exact(ar _ (dB (D:=D) (v:=u) (by have:=HI.out.len;dsimp only at this;omega)).2).2
      have HM:=xQ hM;have ad:=xQ am;have f:=xQ z;have o:=xQ ai;have bg:=xQ a0;have be:=xQ g.1;have bh:=xQ aq;have bx:l2≤n:=by omega
      have bw:k<l2:=by omega
      have ay:=xQ ax;have b7:=(HM.out.hi 3)
      clear hM am z ai a0 g aq hr b ax bj;by_cases hlt3:j<nb.length
      ·obtain⟨v,hv⟩: ∃v,nb[j]? =some v:=⟨_,List.getElem?_eq_getElem hlt3⟩
       have bp:v<n:=(bM.1 (by rw[←aj.out];exact List.mem_of_getElem? hv:v∈aP aA n u)).1;have HV:=xQ hv;clear hv;obtain⟨gN,rfl,b1,b2⟩:=HM.out.so 0;obtain⟨gL,rfl,az,ak⟩:=HM.out.so 1;obtain⟨dv,al⟩: ∃d,d=D2.getD v 0:=⟨_,rfl⟩
       obtain⟨du,g⟩: ∃d,d=D2.getD u 0:=⟨_,rfl⟩
       have s:=dB (D:=D2) (v:=v) (by rw[ay.out];exact bp);rw[←al]at s;have bf:=xQ s.1;have bv:=f _ s.2;have ah:=xQ al;have ag:=xQ g;rw[←g]at a3 a4;clear al g s;have m1:(0:Int)≤(j:Int):=by omega
       have m2:(j:Int)<(nb.length:Int):=by omega
       have m3:(0:Int)≤(v:Int):=by omega
       have m4:(v:Int)<(n:Int):=by omega
       have m5:(0:Int)≤(u:Int):=by omega
       have m6:(u:Int)<(n:Int):=by omega
       have m7:(0:Int)≤(k:Int):=by omega
       have m8:(k:Int)<(l2:Int):=by omega
       have bs: ¬(gN=gL):=HM.out.ne (i:=0) (j:=1) (by omega) rfl rfl rfl rfl;have a9: ¬(gN=w.heap.size+1):=HM.out.ne (i:=0) (j:=2) (by omega) rfl rfl rfl rfl;have ba: ¬(gL=w.heap.size+1):=HM.out.ne (i:=1) (j:=2) (by omega) rfl rfl rfl rfl;have bt: ¬(w.heap.size+1=gN):=fun h=>a9 h.symm
       have bu: ¬(w.heap.size+1=gL):=fun h=>ba h.symm
       have cn:wr.cell? ⟨gN,j,none⟩=some (.int .i64 (v:Int)):=by have:=(HM.out.ow 0).cellAt j (by omega);rw[this];simp[ivs,bA,HV.out]
       have cf:wr.cell? ⟨w.heap.size+1,v,none⟩=some (.int .i64 dv):=by have:=(HM.out.ow 2).cellAt v (by omega);rw[this];simp only[ivs,List.getElem?_map,bf.out,Option.map_some]
       by_cases hvb:(v:Int)=a
       ·have t1:((v:Int)!=a)=false:=by simp[hvb]
        have t:=xQ (aG3 HV hvb);clear hvb;go_wp2;go_roundw
        case rel=>exact⟨j+1,some ⟨gL,0,none⟩,l2,lc,D2,Q2,by omega,by go_num,rfl,o.out,by rw[t.out];exact ad.out,f.out,HM.out⟩
        case measure=>simp[intOf];omega
       have t1:((v:Int)!=a)=true:=by simp[hvb]
       have t:=xQ (aCw HV hvb);clear hvb;by_cases hd0:dv<0
       ·have t2:decide (dv<0)=true:=by simp[hd0]
        have m:Hid ((D2.set v (du+1),Q2++ [v])=bF (D.getD u 0+1) (D,Q) ((nb.take (j+1)).filter (fun(v:Nat)=>decide ((v:Int)≠a)))):=by show _=_;rw[t.out,dL,←ad.out,kN (by rw[←ah.out];exact hd0),ag.out,bh.out]
        have cl:wr.cell? ⟨gL,k,none⟩=some (.int .i64 (u:Int)):=by have:=(HM.out.ow 1).cellAt k (by omega);rw[this];simp[ivs,bA,bg.out]
        have cd:wr.cell? ⟨w.heap.size+1,u,none⟩=some (.int .i64 du):=by have:=(HM.out.ow 2).cellAt u (by omega);rw[this,ag.out];simp only[ivs,List.getElem?_map,be.out,Option.map_some]
        have ff:wr.frozen? ⟨w.heap.size+1,v,none⟩=false:=(HM.out.ow 2).frozenAt v;have b6:IntKind.i64.wrap (du+1)=du+1:=IntWalk.i64_in _ (by omega);have M6:=xQ (show Mem w (wr.setCell ⟨w.heap.size+1,v,none⟩ (.int .i64 (du+1))) [aI w.heap.size TI 1 (some ⟨gN,0,none⟩) (nb.length) (c5) (ivs (bA nb)),aI w.heap.size TI 1 (some ⟨gL,0,none⟩) (l2) (lc) (ivs (bA Q2)),aI w.heap.size TI 1 (some ⟨w.heap.size+1,0,none⟩) (n) (n) (ivs (D2.set v (du+1))),aJ w.heap.size (w.heap.size) TH3 #[aA,aB,.slice p n cap]]from by rw[←dN];exact HM.out.ostore (i:=2) rfl v (.int .i64 (du+1)));have a2:Hid (∀x∈D2.set v (du+1),-1≤x∧x≤(k:Int)+1):=by
         show∀_,_;intro x hx;rcases List.mem_or_eq_of_mem_set hx with h|h
         ·exact f x h
         omega
        clear hd0;go_upto_region 17 with fail;clear cl cd ff cn cf HM;generalize a8:World.setCell _ _ _=w4;rw[a8]at M6;clear a8 bs a9 ba bt bu;go_wp2_with (at_builtin;go_loud (refine cR fX rfl _ _ rfl (M6.out.adv ((Ext.refl _).alloc (.cells #[(v:Int)] TI))) 1 rfl rfl (ivs [(v:Int)]) rfl (eU _ _ _ 1 1 _ (by first|rfl|simp) (by first|rfl|simp) (by simp[maxLen])) (fun u hu=>by obtain rfl:=List.mem_singleton.1 hu;rfl) (by omega) ?_;intro q7 c7 w6 M7));have M8:=xQ (show Mem w w6 [aI w.heap.size TI 1 (some ⟨gN,0,none⟩) (nb.length) (c5) (ivs (bA nb)),aI w.heap.size TI 1 (q7) (l2+1) (c7) (ivs (bA (Q2++ [v]))),aI w.heap.size TI 1 (some ⟨w.heap.size+1,0,none⟩) (n) (n) (ivs (D2.set v (du+1))),aJ w.heap.size (w.heap.size) TH3 #[aA,aB,.slice p n cap]]from by rw[show ivs (bA (Q2++ [v]))=ivs (bA Q2)++ivs [(v:Int)] by simp[ivs,bA]];exact M7);clear M7 M6;go_wp2;go_roundw
        case rel=>exact⟨j+1,q7,l2+1,c7,D2.set v (du+1),Q2++ [v],by omega,by go_num,rfl,by simp[o.out],m.out,a2.out,M8.out⟩
        case measure=>simp[intOf];omega
       have t2:decide (dv<0)=false:=by simp;omega
       have m:Hid ((D2,Q2)=bF (D.getD u 0+1) (D,Q) ((nb.take (j+1)).filter (fun(v:Nat)=>decide ((v:Int)≠a)))):=by show _=_;rw[t.out,dL,←ad.out,lZ (by rw[←ah.out];exact hd0)]
       clear hd0;go_wp2;go_roundw
       case rel=>exact⟨j+1,some ⟨gL,0,none⟩,l2,lc,D2,Q2,by omega,by go_num,rfl,o.out,m.out,f.out,HM.out⟩
       case measure=>simp[intOf];omega
      obtain rfl:nb.length=j:=by omega
      have an:Hid (Inv (oY aA n a) [src] n (k+1) (D2,Q2)):=by show Inv _ _ _ _ _;have h1:=HI.out.step HU (fun v hv=>aGd hv);have h2:=ad.out;rw[List.take_length,aj.out]at h2;rw[h2];exact h1
      have M9:=xQ (show Mem w wr [aI w.heap.size TI 1 (q) (l2) (lc) (ivs (bA Q2)),aI w.heap.size TI 1 (some ⟨w.heap.size+1,0,none⟩) (n) (n) (ivs (D2)),aJ w.heap.size (w.heap.size) TH3 #[aA,aB,.slice p n cap]]from HM.out.pick [1,2,3] (by decide) rfl);clear HM;go_wp2;go_roundw
      case rel=>exact⟨k+1,q,l2,lc,D2,Q2,by omega,by go_num,rfl,o.out,fun x hx=>by have:=f x hx;omega,an.out,M9.out⟩
      case measure=>simp[intOf];omega
   have aa:=xQ (HI.out.dist (by have:=y.out;dsimp only;omega));go_wp2;go_ret;exact⟨D,aa.out,some ⟨w.heap.size+1,0,none⟩,n,by rw[aa.out.len];rfl,by rw[aa.out.len];exact HM.out.ow 1,HM.out.ext⟩
theorem aMm (aA aB:Int)(p:OA)(n cap src:Nat)(a:Int)(xs:List Int)(w:World)(hS:Sl w p n cap 1 (ivs xs))(b:aN aA aB xs=true)(hs:src<n):
  Calls Tryz.prog 213 #[aH aA aB p n cap,(src:Int),a] w fun e w'=> ∃D,rG (oY aA n a) [src] n D∧bH D w e w':=by
 have hl:=hS.ilen;obtain⟨g1,g2,g3,g4,g5,g6,g7,g8,g9⟩:=bQ b
 exact aJx aA aB p n cap src a w (by omega) (by omega) hs (fun k hk w' hx=>by
  have:=aF5 aA aB k p n cap xs w' (hS.ext hx) b (by omega) (by omega)
  rwa[kQ]at this)
end Go.Proofs.YtpelpnfhbepokaaGreatDoor
