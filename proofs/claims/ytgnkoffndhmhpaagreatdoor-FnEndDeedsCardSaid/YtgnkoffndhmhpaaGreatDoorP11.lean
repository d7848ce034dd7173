/-
  Texts of this proof, packed (@packed).
-/
import Derived.Test.YtgnkoffndhmhpaaGreatDoorP5
import Derived.Test.YtgnkoffndhmhpaaGreatDoorP8
import Derived.Test.YtgnkoffndhmhpaaGreatDoorP10
namespace Go.Proofs.YtgnkoffndhmhpaaGreatDoor
open Go.RowKit
set_option linter.unusedVariables false
set_option linter.unusedSimpArgs false
set_option maxHeartbeats 8000000
set_option maxRecDepth 100000
theorem aAa {w:World}{q:OA}{m c2:Nat}{l:List Sl2}(h:Sl w q m c2 2 (l.flatMap aK)){k:Nat}(hk:k<m):
  ∃b off f t,q=some ⟨b,off,none⟩∧l[k]? =some (f,t)∧b<w.heap.size∧w.cell? ⟨b,off+k*2,none⟩=some (.int .i64 f)∧w.cell? ⟨b,off+k*2+1,none⟩=some (.int .i64 t):=by
 obtain⟨b,off,x,hp,hx,hb,hc⟩:=Sl.at_ (sz:=2) (f:=aK) (fun _=>rfl) h hk (by omega)
 obtain⟨f,t⟩:=x
 exact⟨b,off,f,t,hp,hx,hb,hc 0 (by omega),hc 1 (by omega)⟩
theorem aCs {w:World}{q:OA}{m c2:Nat}{l:List Sl2}(h:Sl w q m c2 2 (l.flatMap aK)):l.length=m:=by
 have:=h.len;rw[dD aK 2 (fun _=>rfl)]at this;omega
theorem aHb (aA aB:Int)(p:OA)(cap:Nat)(xs:List Int)(lq:OA)(m lc:Nat)(l:List Sl2)(w:World)(hn0:4≤xs.length)(hn:xs.length≤12)(hm:m≤60)(hok:Hid (aN aA aB xs=true))(HS:Hid (Sl w lq m lc 2 (l.flatMap aK)))
  (HV:xB 90 #[aH aA aB p xs.length cap] w true)
  (HC:Hid (∀w',Ext w w'→Calls Tryz.prog 104 #[aH aA aB p xs.length cap] w' (cZ aA aB xs w'))):
  Calls Tryz.prog 120 #[aH aA aB p xs.length cap,.slice lq m lc] w (cO aA aB (aZ aA aB xs l).1 ((aZ aA aB xs l).2:Nat) w):=by
 have hl:=xQ (aCs HS.out)
 have b6:decide (60<m)=false:=by simp;omega
 have b7:decide ((60:Int)<(m:Int))=false:=by simp;omega
 go_enter Tryz.func120,Tryz.ntmps120
 have ab:=xQ (Ext.refl w)
 go_wp2_with fail
 refine(HV _ (by exact .alloc (.alloc (.refl _) _) _)).mono ?_
 rintro e w1 ⟨rfl,am⟩
 have bq:Ext w w1:=(((Ext.refl _).alloc _).alloc _).trans am
 have z1:w.heap.size+2≤w1.heap.size:=by have:=am.sz;(try simp at this);omega
 have aa:=xQ (ab.out.trans bq)
 clear ab
 have au:=xQ (show Blk w1 (w.heap.size) TH3 #[aA,aB,.slice p xs.length cap] by have:=((Blk.new w TH3 #[aA,aB,.slice p xs.length cap]).alloc _).ext am;simpa using this)
 have g:=xQ (show Blk w1 (w.heap.size+1) TH3 #[(),(),((),())] by have:=(Blk.new (w.alloc (.cells #[aA,aB,.slice p xs.length cap] TH3)) TH3 #[(),(),((),())]).ext am;simpa using this)
 clear bq
 have bb:w.heap.size<w1.heap.size:=au.out.lt
 have y:w.heap.size+1<w1.heap.size:=g.out.lt
 clear am
 obtain⟨c0,c1,c2⟩:=au.out.tri
 go_wp2_with fail
 clear c0 c1 c2
 refine(HC _ aa.out).mono ?_
 rintro e w2 ⟨q0,c0,rfl,o0,a4⟩
 have ar:Ext w1 w2:=by exact a4
 have z2:w1.heap.size+0≤w2.heap.size:=by have:=a4.sz;(try simp at this);omega
 have bj:=xQ (aa.out.trans ar)
 have bt:=xQ (au.out.ext ar)
 have bd:=xQ (g.out.ext ar)
 clear aa au g ar bb
 have a8:w.heap.size<w2.heap.size:=bt.out.lt
 clear y
 have ba:w.heap.size+1<w2.heap.size:=bd.out.lt
 have bi:=xQ (o0)
 clear a4 o0
 go_wp2
 go_loopw [7] (fun i wr=> ∃(k:Nat) (q:OA) (c:Nat),k≤m∧i= .int .i64 k∧(aZ aA aB xs (l.take k)).2=k∧wr.ownsRow w1.heap.size TI 1 (.slice q xs.length c) xs.length (ivs (aZ aA aB xs (l.take k)).1)∧Ext w wr∧Blk wr w2.heap.size TH3 #[aA,aB,.slice q xs.length c]∧Blk wr (w.heap.size+1) TH3 #[(),(),((),())]∧w2.heap.size<wr.heap.size) (fun i _=>m-(intOf i).toNat)
 case atStart=>exact⟨0,q0,c0,Nat.zero_le _,rfl,by simp[aZ],by simpa[aZ]using bC bi ((Ext.refl _).alloc _),bj.out.alloc _,Blk.new _ _ _,bd.out.alloc _,by simp⟩
 case round=>
  clear bi bj bt bd a8 ba
  obtain⟨k,q,c,hk,rfl,ay,a3,ad,bf,be,b9⟩:=hrel
  have HO:=xQ a3
  have j:=xQ bf
  have z:=xQ be
  have az:=xQ ay
  clear a3 bf be ay
  obtain⟨bg,bp,bw⟩:=nH (l.take k) xs hok.out
  have OK:=xQ bg
  have a6:=xQ bp
  clear bg bp bw
  by_cases hlt:k<m
  ·obtain⟨b2,af,f,t,rfl,hx,bs,d0,d1⟩:=aAa (HS.out.ext ad) hlt
   have HX:=xQ hx
   clear hx
   have i1:(0:Int)≤(k:Int):=by omega
   have i2:(k:Int)<(m:Int):=by omega
   have an:Hid (aZ aA aB xs (l.take (k+1))=(if bA aA aB (aZ aA aB xs (l.take k)).1 f t then(bG aA aB (aZ aA aB xs (l.take k)).1 f t,k+1)else((aZ aA aB xs (l.take k)).1,k))):=by
    show _=_
    have aw:(l.take k).length=k:=by rw[List.length_take,hl.out];omega
    rw[bD HX.out,oX _ _ _ (by rw[az.out,aw]),aw]
   have HD:xC 78 #[aH aA aB q xs.length c,dS f t] wr fun w' e w''=> ∃q5 c5,e= .returned (.tuple #[aH aA aB q5 xs.length c5,.bool (bA aA aB (aZ aA aB xs (l.take k)).1 f t)])∧w''.ownsRow w'.heap.size TI 1 (.slice q5 xs.length c5) xs.length (ivs (bG aA aB (aZ aA aB xs (l.take k)).1 f t))∧Ext w' w'':=
    fun w' hx=>(kY aA aB f t q xs.length c _ w' ((Sl.own HO.out).ext hx) OK.out).mono fun e w'' ⟨q5,c5,he,ho,hy⟩=>by
     have bu:(bG aA aB (aZ aA aB xs (l.take k)).1 f t).length=xs.length:=by rw[cW,a6.out]
     rw[bu]at he ho
     exact⟨q5,c5,he,ho,hy⟩
   generalize bn:(aZ aA aB xs (l.take k)).1=ys at*
   have ca:=xQ bn
   clear bn
   generalize bl:bG aA aB ys f t=zs at*
   have cb:=xQ bl
   clear bl
   generalize bo:bA aA aB ys f t=bm at*
   have b8:=xQ bo
   clear bo
   obtain⟨v0,v1,v2⟩:=j.out.tri
   have n1: ¬(w2.heap.size=wr.heap.size):=by omega
   have n2: ¬(wr.heap.size=w2.heap.size):=by omega
   have n3: ¬(b2=wr.heap.size):=by omega
   have n4: ¬(wr.heap.size=b2):=by omega
   go_upto_region 7 with fail
   go_cut [8,9] (fun s8 s9 wx=> ∃(a:Nat) (q5:OA) (c5:Nat),s8= .pointer (some ⟨a,0,none⟩)∧s9= .bool bm∧Ext wr wx∧wr.heap.size≤a∧Blk wx a TH3 #[aA,aB,.slice q5 xs.length c5]∧wx.ownsRow wr.heap.size TI 1 (.slice q5 xs.length c5) xs.length (ivs zs))
   case first=>
    go_region_held3 (fun w'=>w'.cell? ⟨w2.heap.size,0,none⟩=some (.int .i64 aA)∧w'.cell? ⟨w2.heap.size,1,none⟩=some (.int .i64 aB)∧w'.cell? ⟨w2.heap.size,2,none⟩=some (.slice q xs.length c)∧w'.cell? ⟨b2,af+k*2,none⟩=some (.int .i64 f)∧w'.cell? ⟨b2,af+k*2+1,none⟩=some (.int .i64 t))
     (first|(refine⟨?_,?_,?_,?_,?_⟩<;>assumption)|go_keep)
     ((go_at_call 78
       refine(HD _ xE).mono ?_
       rintro e w5 ⟨q5,c5,rfl,o5,bh⟩
       have ah:Ext wr w5:=xE
       obtain⟨g0,g1,g2⟩:=(j.out.ext ah).tri
       have g3:w5.cell? ⟨b2,af+k*2,none⟩=some (.int .i64 f):=(ah.cells.1 _ _ bs).trans d0
       have g4:w5.cell? ⟨b2,af+k*2+1,none⟩=some (.int .i64 t):=(ah.cells.1 _ _ bs).trans d1
       first
        |(have a7:Ext (wr.alloc (.cells #[(),(),((),())] TH3)) w5:=bh
          have BB:=(Blk.new wr TH3 #[(),(),((),())]).ext a7
          obtain⟨bx,aq,bz,ak,b5,_⟩:=BB.trif
          have ao:w5.frozen? ⟨wr.heap.size,2,none⟩=false:=BB.frozen 2)
        |(have a7:Ext (wr.alloc (.cells #[(),(),((),())] TH3)) w5:=bh.of_drew
          have BB:=(Blk.new wr TH3 #[(),(),((),())]).ext a7
          obtain⟨bx,aq,bz,ak,b5,_⟩:=BB.trif
          have ao:w5.frozen? ⟨wr.heap.size,2,none⟩=false:=BB.frozen 2)
        |skip))
    ·go_wp2_with fail
     go_meet
     exact⟨w5.heap.size,q5,c5,rfl,rfl,by exact .alloc ah _,by have:=ah.sz;omega,Blk.new _ _ _,bH (by exact o5.alloc _) (by simp)⟩
    ·have hR:ExtR wr.heap.size w5 _:=(((ExtR.refl wr.heap.size w5).setCell (p:=⟨wr.heap.size,0,none⟩) (.inl rfl) (.int .i64 aA)).setCell (p:=⟨wr.heap.size,1,none⟩) (.inl rfl) (.int .i64 aB)).setCell (p:=⟨wr.heap.size,2,none⟩) (.inl rfl) (.slice q5 xs.length c5)
     have hY:=((BB.set 0 (.int .i64 aA)).set 1 (.int .i64 aB)).set 2 (.slice q5 xs.length c5)
     simp only[List.setIfInBounds_toArray,List.set_cons_zero,List.set_cons_succ]at hY
     go_wp2_with fail
     go_meet
     exact⟨wr.heap.size,q5,c5,rfl,rfl,ExtR.new ah hR (Nat.le_refl _),Nat.le_refl _,hY,bH (o5.kept hR (.inr (dG o5 BB (by decide)))) (by simp)⟩
   case rest=>
    clear v0 v1 v2 n1 n2 n3 n4 d0 d1
    obtain⟨a,q5,c5,rfl,rfl,s,ha,av,ax⟩:=hcut
    cases bm with
    |true=>
     have d:=an.out
     rw[if_pos rfl]at d
     have ai:aZ aA aB xs (l.take (k+1))=(zs,k+1):=d
     have ai:=xQ ai
     clear d
     have r:=xQ (j.out.ext s)
     have x:=xQ (z.out.ext s)
     have u:=xQ av
     have ab:=xQ (ad.trans s)
     have ap:=xQ (bC HO s)
     have aj:=xQ (bH ax (show w1.heap.size≤wr.heap.size by omega))
     clear j z av ad HO ax
     have z0:=s.sz
     have o:w2.heap.size<wc.heap.size:=r.out.lt
     have n:w.heap.size+1<wc.heap.size:=x.out.lt
     have ae:a<wc.heap.size:=u.out.lt
     obtain⟨v0,b3,v1,b4,v2,b0⟩:=r.out.trif
     obtain⟨a0,a1,a2⟩:=u.out.tri
     go_wp2
     clear ap
     have y1:=((r.out.set 0 (.int .i64 aA)).set 1 (.int .i64 aB)).set 2 (.slice q5 xs.length c5)
     simp only[List.setIfInBounds_toArray,List.set_cons_zero,List.set_cons_succ]at y1
     generalize h:World.setCell _ _ _=w1
     rw[h]at y1
     have b:ExtR (w2.heap.size) wc w1:=by rw[←h];exact(((ExtR.refl (w2.heap.size) wc).setCell (p:=⟨w2.heap.size,0,none⟩) (.inl rfl) (.int .i64 aA)).setCell (p:=⟨w2.heap.size,1,none⟩) (.inl rfl) (.int .i64 aB)).setCell (p:=⟨w2.heap.size,2,none⟩) (.inl rfl) (.slice q5 xs.length c5)
     clear h
     have z1:wc.heap.size≤w1.heap.size:=b.sz
     have ag:=xQ (y1)
     have g:=xQ (show Blk w1 (w.heap.size+1) _ _ from(b.block _ x.out.lt (by first|(simp;done)|(simp;omega))).trans x.out)
     have a9:=xQ (show Blk w1 (a) _ _ from(b.block _ u.out.lt (by first|(simp;done)|(simp;omega))).trans u.out)
     have aa:=xQ (ExtR.new ab b (by omega))
     have bv:=xQ (aj.out.kept b (.inr (dG aj r.out (by decide))))
     clear r x u ab aj b y1 o
     have al:w2.heap.size<w1.heap.size:=ag.out.lt
     clear n
     have y:w.heap.size+1<w1.heap.size:=g.out.lt
     clear ae
     have a5:a<w1.heap.size:=a9.out.lt
     clear v0 b3 v1 b4 v2 b0 a0 a1 a2
     go_roundw
     case rel=>exact⟨k+1,q5,c5,by omega,by go_num,by rw[ai.out],by rw[ai.out];exact bv.out,aa.out,ag.out,g.out,by omega⟩
     case measure=>simp[intOf];omega
    |false=>
     have d:=an.out
     rw[if_neg (by simp)]at d
     have ai:Hid (aZ aA aB xs l=(ys,k)):=by
      show _=_
      have aw:(l.take (k+1)).length=k+1:=by rw[List.length_take,hl.out];omega
      have:=vI (aA:=aA) (aB:=aB) (l.take (k+1)) (l.drop (k+1)) xs (by rw[d,aw];exact Nat.lt_succ_self k)
      rw[List.take_append_drop,d]at this
      exact this
     clear d
     have r:=xQ (j.out.ext s)
     have x:=xQ (z.out.ext s)
     have u:=xQ av
     have ab:=xQ (ad.trans s)
     have ap:=xQ (bC HO s)
     have aj:=xQ (bH ax (show w1.heap.size≤wr.heap.size by omega))
     clear j z av ad HO ax
     have z0:=s.sz
     have o:w2.heap.size<wc.heap.size:=r.out.lt
     have n:w.heap.size+1<wc.heap.size:=x.out.lt
     have ae:a<wc.heap.size:=u.out.lt
     obtain⟨v0,v1,v2⟩:=r.out.tri
     obtain⟨z0,aq,z1,ak,z2,ao⟩:=x.out.trif
     go_wp2
     clear aj
     have y1:=((x.out.set 0 (.int .i64 aA)).set 1 (.int .i64 aB)).set 2 (.slice q xs.length c)
     simp only[List.setIfInBounds_toArray,List.set_cons_zero,List.set_cons_succ]at y1
     generalize h:World.setCell _ _ _=w1
     rw[h]at y1
     have b:ExtR (w.heap.size+1) wc w1:=by rw[←h];exact(((ExtR.refl (w.heap.size+1) wc).setCell (p:=⟨w.heap.size+1,0,none⟩) (.inl rfl) (.int .i64 aA)).setCell (p:=⟨w.heap.size+1,1,none⟩) (.inl rfl) (.int .i64 aB)).setCell (p:=⟨w.heap.size+1,2,none⟩) (.inl rfl) (.slice q xs.length c)
     clear h
     have z1:wc.heap.size≤w1.heap.size:=b.sz
     have ag:=xQ (show Blk w1 (w2.heap.size) _ _ from(b.block _ r.out.lt (by first|(simp;done)|(simp;omega))).trans r.out)
     have g:=xQ (y1)
     have a9:=xQ (show Blk w1 (a) _ _ from(b.block _ u.out.lt (by first|(simp;done)|(simp;omega))).trans u.out)
     have aa:=xQ (ExtR.new ab b (by omega))
     have bc:=xQ (ap.out.kept b (.inr (dG ap x.out (by decide))))
     clear r x u ab ap b y1 o
     have al:w2.heap.size<w1.heap.size:=ag.out.lt
     clear n
     have y:w.heap.size+1<w1.heap.size:=g.out.lt
     clear ae
     have a5:a<w1.heap.size:=a9.out.lt
     clear v0 v1 v2 z0 aq z1 ak z2 ao
     obtain⟨y0,y1,y2⟩:=g.out.tri
     exact bodyPost_ret (v:= .tuple #[.agg #[aA,aB,.slice q xs.length c],(k:Int)]) (by simp[results,Tryz.results120,go_sem, *]) rfl (by rw[ai.out];exact eH a6 (bH bc (by omega)) aa.out)
  ·have br:Hid (aZ aA aB xs l=((aZ aA aB xs (l.take k)).1,k)):=by
    have e1:l.take k=l:=List.take_of_length_le (by rw[hl.out];omega)
    have e2:=az.out
    show _=_
    rw[e1]at e2⊢
    exact Prod.ext rfl e2
   have b1:k=m:=by omega
   subst b1
   have bk:=xQ ad
   clear ad
   have o:w2.heap.size<wr.heap.size:=j.out.lt
   have n:w.heap.size+1<wr.heap.size:=z.out.lt
   obtain⟨v0,v1,v2⟩:=j.out.tri
   obtain⟨z0,aq,z1,ak,z2,ao⟩:=z.out.trif
   go_wp2
   have y1:=((z.out.set 0 (.int .i64 aA)).set 1 (.int .i64 aB)).set 2 (.slice q xs.length c)
   simp only[List.setIfInBounds_toArray,List.set_cons_zero,List.set_cons_succ]at y1
   generalize h:World.setCell _ _ _=w1
   rw[h]at y1
   have b:ExtR (w.heap.size+1) wr w1:=by rw[←h];exact(((ExtR.refl (w.heap.size+1) wr).setCell (p:=⟨w.heap.size+1,0,none⟩) (.inl rfl) (.int .i64 aA)).setCell (p:=⟨w.heap.size+1,1,none⟩) (.inl rfl) (.int .i64 aB)).setCell (p:=⟨w.heap.size+1,2,none⟩) (.inl rfl) (.slice q xs.length c)
   clear h
   have z1:wr.heap.size≤w1.heap.size:=b.sz
   have ag:=xQ (show Blk w1 (w2.heap.size) _ _ from(b.block _ j.out.lt (by first|(simp;done)|(simp;omega))).trans j.out)
   have g:=xQ (y1)
   have aa:=xQ (ExtR.new bk b (by omega))
   have bc:=xQ (HO.out.kept b (.inr (dG HO z.out (by decide))))
   clear j z bk HO b y1 o
   have al:w2.heap.size<w1.heap.size:=ag.out.lt
   clear n
   have y:w.heap.size+1<w1.heap.size:=g.out.lt
   clear v0 v1 v2 z0 aq z1 ak z2 ao
   obtain⟨y0,y1,y2⟩:=g.out.tri
   exact bodyPost_ret (v:= .tuple #[.agg #[aA,aB,.slice q xs.length c],(k:Int)]) (by simp[results,Tryz.results120,go_sem, *]) rfl (by rw[br.out];exact eH a6 (bH bc (by omega)) aa.out)
theorem pU (aA aB:Int)(p:OA)(n cap:Nat)(xs:List Int)(lq:OA)(m lc:Nat)(l:List Sl2)(w:World)(hm:m≤60)(hS:Sl w p n cap 1 (ivs xs))(hL:Sl w lq m lc 2 (l.flatMap aK))(hok:aN aA aB xs=true):
  Calls Tryz.prog 120 #[aH aA aB p n cap,.slice lq m lc] w (cO aA aB (aZ aA aB xs l).1 ((aZ aA aB xs l).2:Nat) w):=by
 have hl:=hS.ilen
 subst hl
 obtain⟨g1,g2,g3,g4,g5,g6,g7,g8,g9⟩:=bM hok
 have HV:=fun(w':World) (hy:Ext w w')=>fX aA aB p xs.length cap xs w' (hS.ext hy)
 rw[hok]at HV
 exact aHb aA aB p cap xs lq m lc l w g5 g6 hm hok hL HV (fun(w':World) (hy:Ext w w')=>fG aA aB p xs.length cap xs w' (by omega) (hS.ext hy))
def oW (aA:Int)(n:Nat)(but:Int)(u:Nat):List Nat:=(aT aA n u).filter (fun(v:Nat)=>decide ((v:Int)≠but))
theorem aE7 (aA:Int)(n:Nat)(a:Int):iY aA n a=((List.range n).filter (fun(b:Nat)=>decide (aW aA a b=1))).map (fun(k:Nat)=>(k:Int)):=by
 unfold iY
 induction n with
 |zero=>rfl
 |succ n ih=>
  rw[eT,ih,List.range_succ,List.filter_append,List.map_append]
  congr 1
  by_cases h:aW aA a n=1<;>simp[h]
theorem kL (aA:Int)(n u:Nat):iY aA n u=(aT aA n u).map (fun(k:Nat)=>(k:Int)):=aE7 _ _ _
theorem aF4 {aA:Int}{n:Nat}{but:Int}{u v:Nat}(h:v∈oW aA n but u):v<n:=(bR.1 (List.mem_filter.1 h).1).1
theorem Inv.one {adj:Nat→List Nat}{N s:Nat}(hs:s<N):Inv adj [s] N 0 ((List.replicate N (-1)).set s 0,[s]):=by
 have hl:s<(List.replicate N (-1:Int)).length:=by simpa using hs
 have a: ∀v,v<N→s≠v→((List.replicate N (-1:Int)).set s 0).getD v 0= -1:=by
  intro v hv e
  rw[bN e]
  simp[List.getD,hv]
 refine⟨by simp,by simpa using hs,?_,by simp,by simp,?_,?_,?_,fun i u hi=>by omega⟩
 ·intro v hv
  dsimp only
  by_cases e:s=v
  ·subst e;rw[cG hl];simp
  ·rw[a v hv e];simp;exact fun h=>e h.symm
 ·intro u hu v hv
  simp at hu hv;subst hu hv
  omega
 ·intro v hv
  simp at hv;subst hv
  dsimp only
  rw[cG hl]
  simp[nA]
 ·intro v hv
  simp at hv;subst hv
  exact⟨by simp,cG hl⟩
theorem aI4 (n s:Nat): ∀x∈(List.replicate n (-1:Int)).set s 0,-1≤x∧x≤((0:Nat):Int):=by
 intro x hx
 rcases List.mem_or_eq_of_mem_set hx with h|h
 ·rw[List.mem_replicate]at h;omega
 ·omega
theorem dE {D:List Int}{v:Nat}(h:v<D.length):D[v]? =some (D.getD v 0)∧D.getD v 0∈D:=by
 have:D[v]? =some (D.getD v 0):=by rw[List.getD_eq_getElem?_getD,List.getElem?_eq_getElem h];rfl
 exact⟨this,List.mem_of_getElem? this⟩
theorem aEu {nb:List Nat}{j v:Nat}{but:Int}(h:nb[j]? =some v) (hb:(v:Int)=but):(nb.take (j+1)).filter (fun(v:Nat)=>decide ((v:Int)≠but))=(nb.take j).filter (fun(v:Nat)=>decide ((v:Int)≠but)):=by
 rw[bD h,List.filter_append];simp[hb]
theorem aBk {nb:List Nat}{j v:Nat}{but:Int}(h:nb[j]? =some v) (hb:(v:Int)≠but):(nb.take (j+1)).filter (fun(v:Nat)=>decide ((v:Int)≠but))=(nb.take j).filter (fun(v:Nat)=>decide ((v:Int)≠but))++ [v]:=by
 rw[bD h,List.filter_append];simp[hb]
theorem kI {val:Int}{D:List Int}{Q:List Nat}{v:Nat}(h:D.getD v 0<0):eF val (D,Q) v=(D.set v val,Q++ [v]):=by unfold eF;rw[if_pos h]
theorem lU {val:Int}{D:List Int}{Q:List Nat}{v:Nat}(h: ¬D.getD v 0<0):eF val (D,Q) v=(D,Q):=by unfold eF;rw[if_neg h]
theorem aLk {w:World}{B B2 n m c c2 sz sz2:Nat}{e e2:TypeId}{q q2:OA}{xs ys:List Value}(h1:w.ownsRow B e sz (.slice q n c) n xs)(h2: ∀g,(Value.slice q2 m c2).ownBlock=some g→g<B)(h0:(Value.slice q2 m c2).ownBlock≠none):(Value.slice q2 m c2).ownBlock≠(Value.slice q n c).ownBlock:=by
 intro he
 cases hq:(Value.slice q n c).ownBlock with
 |none=>rw[hq]at he;exact h0 he
 |some g=>rw[hq]at he;have:=h2 g he;have:=(h1.lt g hq).1;omega
theorem aL6 {w:World}{g n base:Nat}{t:TypeId}{cs:Array Value}(h:Blk w g t cs)(hn:cs.size=n)(hm:n≤maxLen)(hb:base≤g):w.ownsRow base t 1 (.slice (some ⟨g,0,none⟩) n n) n cs.toList:=
 ⟨by simpa using hn,.inr ⟨g,n,cs,rfl,hb,h,Nat.le_refl _,hm,by omega,by rw[Nat.mul_one,List.take_of_length_le (by simp;omega)]⟩⟩
abbrev bE (q:List Nat):List Int:=q.map (fun(k:Nat)=>(k:Int))
theorem fW {w:World}{ops:Array Oper}{rest:List Oper}{o:Oper}{a:Act}{Q:Exit→Act→World→Prop}(hgd:o.guard=none)(s x:Operand)
  (ho:o.op= .call {callee:= .builtin .append,args:=#[s,x],argTypes:=#[22,22]})
  (base:Nat)(v:Value)(n:Nat)(xs:List Int)(hs:a.eval s=v)(hown:w.ownsRow base 3 1 v n (ivs xs))
  (b off:Nat)(y:Int)(c:Nat)(hx:a.eval x= .slice (some ⟨b,off,none⟩) 1 c)(hc:w.cell? ⟨b,off,none⟩=some (iv y))
  (hn:n≤1099511627776)(hbase:base≤w.heap.size)
  (h: ∀p' cap' w',w'.ownsRow base 3 1 (.slice p' (n+1) cap') (n+1) (ivs (xs++ [y]))→w.grownBy w' v.ownBlock→((Value.slice p' (n+1) cap').ownBlock=v.ownBlock∨(Value.slice p' (n+1) cap').ownBlock=some w.heap.size)→wpList Tryz.prog ops Q rest (a.put o.dst (.slice p' (n+1) cap')) w'):wpList Tryz.prog ops Q (o::rest) a w:=by
 obtain⟨i,z,hi,hz,e,g,f⟩:=eS.info
 refine wpList_append_own_at w hgd s x 22 ho base 3 i z 1 i.bytes eS.ht hi hz e rfl f eS.pos v n _ hs hown ⟨b,off,none⟩ 1 c [iv y] hx rfl (fun j u hu=> ?_) (fun u hu=>by simp at hu;subst hu;rfl) (by unfold maxLen;omega) ?_ hbase ?_
 ·match j,hu with
  |0,hu=>simp at hu;subst hu;rw[jV];exact hc
 ·have:(n+1)*i.bytes≤(n+1)*64:=Nat.mul_le_mul_left _ g
  omega
 ·intro v' w' h2 h3 _ h5
  obtain⟨p,d,rfl⟩:=lV h2
  exact h p d w' (by simpa[ivs]using h2) h3 h5
theorem aFl (aA aB:Int)(p:OA)(n cap src:Nat)(but:Int)(w:World)(hn0:4≤n)(hn:n≤12)(hs:src<n)
  (HC:Hid (∀(k:Nat),k<n→ ∀w',Ext w w'→Calls Tryz.prog 201 #[aH aA aB p n cap,k] w' (aX (bE (aT aA n k)) w'))):
  Calls Tryz.prog 200 #[aH aA aB p n cap,(src:Int),but] w fun e w'=> ∃D,qR (oW aA n but) [src] n D∧aX D w e w':=by
 have a1:(0:Int)≤(src:Int):=by omega
 have a2:(src:Int)<(n:Int):=by omega
 go_enter Tryz.func200,Tryz.ntmps200
 go_wp2
 go_loopw [7,8] (fun v i wr=> ∃(k:Nat) (q:OA) (c:Nat),k≤n∧i= .int .i64 k∧v= .slice q k c∧wr.ownsRow (w.heap.size+1) TI 1 (.slice q k c) k (ivs (List.replicate k (-1)))∧Ext w wr∧Blk wr w.heap.size TH3 #[aA,aB,.slice p n cap]) (fun _ i _=>n-(intOf i).toNat)
 case atStart=>
  have ho:((w.alloc (.cells #[aA,aB,.slice p n cap] TH3)).alloc (.cells #[] TI)).ownsRow (w.heap.size+1) TI 1 (.slice (some ⟨(w.alloc (.cells #[aA,aB,.slice p n cap] TH3)).heap.size,0,none⟩) 0 0) 0 []:=World.ownsRow_made _ #[] 0 (by simp) (by simp[maxLen]) rfl
  exact⟨0,_,0,Nat.zero_le _,rfl,rfl,by simpa using ho,by exact .alloc (.alloc (.refl _) _) _,(Blk.new w _ _).alloc _⟩
 case round=>
  obtain⟨k,q,c,hk,rfl,rfl,ar,b,hB⟩:=hrel
  have HO:=xQ ar
  have HB:=xQ hB
  have bh:w.heap.size<wr.heap.size:=hB.lt
  clear ar hB
  obtain⟨b0,b1,b2⟩:=HB.out.cells3
  by_cases hlt:k<n
  ·have o:Hid (List.replicate (k+1) (-1:Int)=List.replicate k (-1)++ [-1]):=by show _=_;rw[List.replicate_succ']
   go_wp2_with (at_builtin;refine cI eS rfl _ _ rfl (w.heap.size+1) _ _ _ rfl (HO.out.alloc _) _ _ (-1:Int) _ rfl (by simp) (by omega) (by first|(simp;done)|(simp;omega)) ?_;intro p' t w2 d f;have ck:=xQ d;have cc:Ext w w2:=Ext.own (b.alloc _) (HO.out.alloc _) f (by omega);have ch:=xQ (oR HO f HB.out);clear d f)
   go_roundw
   case rel=>exact⟨k+1,p',t,by omega,by go_num,rfl,by rw[o.out];exact ck.out,cc,ch.out⟩
   case measure=>simp[intOf];omega
  ·obtain rfl:n=k:=by omega
   obtain⟨gF,rfl,c0,dc⟩:=eL HO (by omega)
   have ce:wr.cell? ⟨gF,src,none⟩=some (.int .i64 (-1)):=by
    have:=HO.out.cellAt src (by omega);rw[this];simp[ivs,hs]
   have b4:wr.frozen? ⟨gF,src,none⟩=false:=HO.out.frozenAt src
   go_upto_region 8 with fail
   clear ce b4 b0 b1 b2
   have y1:=(HO.out.stored src (.int .i64 0)).1
   have a5:ExtR gF wr _:=(HO.out.stored src (.int .i64 0)).2
   have av:(World.setCell wr ⟨gF,src,none⟩ (.int .i64 0)).heap.size=wr.heap.size:=by simp
   generalize bx:World.setCell _ _ _=w1 at*
   rw[←av]
   clear bx
   have F1:=xQ (show w1.ownsRow (w.heap.size+1) TI 1 (.slice (some ⟨gF,0,none⟩) n c) n (ivs ((List.replicate n (-1)).set src 0)) by rw[←dV];exact y1)
   have B1:=xQ (show Blk w1 w.heap.size TH3 #[aA,aB,.slice p n cap]from(a5.block _ HB.out.lt (by simp;omega)).trans HB.out)
   have X1:=xQ (ExtR.new b a5 (by omega))
   have z1:wr.heap.size≤w1.heap.size:=Nat.le_of_eq av.symm
   have c6:=B1.out.lt
   clear av y1 a5 HO HB b bh
   have bp:(w1.alloc (.cells #[(src:Int)] TI)).ownsRow w1.heap.size TI 1 (.slice (some ⟨w1.heap.size,0,none⟩) 1 1) 1 [.int .i64 (src:Int)]:=aL6 (n:=1) (Blk.new w1 TI #[(src:Int)]) rfl (by simp[maxLen]) (Nat.le_refl _)
   have L1:=xQ bp
   clear bp
   have I1:=xQ (Inv.one (adj:=oW aA n but) hs)
   go_wp2
   go_loopw [9,10] (fun v i wr=> ∃(k:Nat) (q:OA) (l lc:Nat) (D:List Int) (Q:List Nat),k≤l∧i= .int .i64 k∧v= .slice q l lc∧l=Q.length∧(∀x∈D,-1≤x∧x≤k)∧Inv (oW aA n but) [src] n k (D,Q)∧wr.ownsRow (w.heap.size+1) TI 1 (.slice (some ⟨gF,0,none⟩) n c) n (ivs D)∧wr.ownsRow w1.heap.size TI 1 (.slice q l lc) l (ivs (bE Q))∧Ext w wr∧Blk wr w.heap.size TH3 #[aA,aB,.slice p n cap]∧w1.heap.size≤wr.heap.size) (fun _ i _=>n-(intOf i).toNat)
   case atStart=>exact⟨0,_,1,1,_,[src],Nat.zero_le _,rfl,rfl,rfl,aI4 _ _,I1.out,F1.out.alloc _,L1.out,X1.out.alloc _,B1.out.alloc _,by simp⟩
   case round=>
    clear F1 B1 X1 L1 I1
    obtain⟨wr1,rfl⟩: ∃wr1:World,wr1=wr:=⟨_,rfl⟩
    obtain⟨k,q,l,lc,D,Q,hk,rfl,rfl,ay,a6,ae,hF,hL,b,hB,bh⟩:=hrel
    have HF:=xQ hF
    have HL:=xQ hL
    have HB:=xQ hB
    have HI:=xQ ae
    have ag:=xQ ay
    have c7:l≤n:=by rw[ay];exact ae.qlen
    have ba:=xQ a6
    clear hF hL hB ae ay a6
    by_cases hlt2:k<l
    ·obtain⟨gL,rfl,br,b9⟩:=eL HL (by omega)
     obtain⟨u,hu⟩: ∃u,Q[k]? =some u:=⟨_,List.getElem?_eq_getElem (by rw[←ag.out];exact hlt2)⟩
     have b7:u<n:=HI.out.bd u (List.mem_of_getElem? hu)
     have HU:=xQ hu
     clear hu
     have i1:(0:Int)≤(k:Int):=by omega
     have i2:(k:Int)<(l:Int):=by omega
     have j1:(0:Int)≤(u:Int):=by omega
     have j2:(u:Int)<(n:Int):=by omega
     obtain⟨nb,aj⟩: ∃nb,nb=aT aA n u:=⟨_,rfl⟩
     have a3:=xQ aj
     have bk:Hid (∀w',Ext w w'→Calls Tryz.prog 201 #[aH aA aB p n cap,(u:Int)] w' (aX (bE nb) w')):=by rw[aj];exact HC u b7
     have b3:nb.length≤n:=by rw[aj];exact Nat.le_trans (List.length_filter_le _ _) (by simp)
     clear aj
     have a7:(bE nb).length=nb.length:=by simp[bE]
     go_wp2
     refine rL (gl [gEq (aH aA aB p n cap),gEq (.slice (some ⟨gL,0,none⟩) l lc),gEq (k:Int),gEq (.pointer (some ⟨gL,k,none⟩)),gEq (u:Int),(fun v w'=> ∃q c,v= .slice q nb.length c∧w'.ownsRow wr1.heap.size TI 1 (.slice q nb.length c) nb.length (ivs (bE nb)))]) 6 7 [(0,some 35),(1,some 36),(2,some 37),(3,some 38),(4,some 39),(5,some 40)] ?steps ?fin (hG:=(oM (bV (bZ _) (bV (bZ _) (bV (bZ _) (bV (bZ _) (bV (bZ _) (bV (fun v w w' ⟨q,c,he,ho⟩ hx=>⟨q,c,he,bC ho hx⟩) (rM)))))))))
     case steps=>
      refine sC [] rfl (fun wi hx=> ?_) ?_
      ·intro K hK
       have B:=HB.out.ext hx.of_drew
       have c8:=B.cl 0
       have B:=HB.out.ext hx.of_drew
       have c1:=B.cl 1
       have B:=HB.out.ext hx.of_drew
       have db:=B.cl 2
       go_simp
       exact hK _ _ ⟨aH aA aB p n cap,rfl,rfl,Ext.refl _⟩
      refine sS0 [] (sS0 [] (sS2 [(1,some 36),(2,some 37)] ?_))
      refine sC [(3,some 38)] rfl (fun wi hx=> ?_) ?_
      ·intro v3 h3 K hK
       obtain rfl:=h3
       have cu:wi.cell? ⟨gL,k,none⟩=some (.int .i64 (u:Int)):=by have:=(bC HL hx.of_drew).cellAt k (by omega);rw[this];simp[ivs,bE,HU.out]
       go_simp
       exact hK _ _ ⟨.int .i64 (u:Int),rfl,rfl,Ext.refl _⟩
      refine sC [(0,some 35),(4,some 39)] rfl (fun wi hx=> ?_) StepsL.nil
      ·intro v0 h0 v4 h4 K hK
       obtain rfl:=h0
       obtain rfl:=h4
       go_wp2_with fail
       refine(bk _ (b.trans hx.of_drew)).mono ?_
       rintro e w5 ⟨q5,c5,rfl,o5,bw⟩
       rw[a7]at o5⊢
       go_simp
       exact hK _ _ ⟨.slice q5 nb.length c5,rfl,⟨q5,c5,rfl,bH o5 (by have:=hx.sz;simpa using this)⟩,bw⟩
     case fin=>
      intro wi hx v0 h0 v1 h1 v2 h2 v3 h3 v4 h4 v5 h5
      obtain rfl:=h0
      obtain rfl:=h1
      obtain rfl:=h2
      obtain rfl:=h3
      obtain rfl:=h4
      obtain⟨q5,c5,rfl,az⟩:=h5
      refine wpAny_ready (rs:= [6]) (by kernel_rfl) (by simp) ?_
      refine AllReady.cons rfl (fun K hK=> ?_) AllReady.nil
      go_simp
      refine hK _ _ ?_
      clear hK K
      refine wpAny_done (by kernel_rfl) ?_ _
      have a:=hx.of_drew
      have F2:=xQ (bC HF a)
      have L2:=xQ (bC HL a)
      have B2:=xQ (HB.out.ext a)
      have X2:=xQ (b.trans a)
      have N2:=xQ az
      have z2:=a.sz
      have a9:=xQ (aLk (q2:=some ⟨gL,0,none⟩) (m:=l) (c2:=lc) (B2:=0) (sz2:=0) (e2:=TI) (ys:= []) az (fun g hg=>by simp[Value.ownBlock]at hg;omega) (by simp[Value.ownBlock]))
      clear HF HL HB b az hx a bk
      go_wp2
      obtain⟨wo,rfl⟩: ∃wo:World,wo=wi:=⟨_,rfl⟩
      go_loopw [9,12] (fun v i wr=> ∃(j:Nat) (q:OA) (l2 lc:Nat) (D2:List Int) (Q2:List Nat),j≤nb.length∧i= .int .i64 j∧v= .slice q l2 lc∧l2=Q2.length∧(D2,Q2)=bJ (D.getD u 0+1) (D,Q) ((nb.take j).filter (fun(v:Nat)=>decide ((v:Int)≠but)))∧(∀x∈D2,-1≤x∧x≤(k:Int)+1)∧wr.ownsRow (w.heap.size+1) TI 1 (.slice (some ⟨gF,0,none⟩) n c) n (ivs D2)∧wr.ownsRow w1.heap.size TI 1 (.slice q l2 lc) l2 (ivs (bE Q2))∧wr.ownsRow wr1.heap.size TI 1 (.slice q5 nb.length c5) nb.length (ivs (bE nb))∧(Value.slice q l2 lc).ownBlock≠(Value.slice q5 nb.length c5).ownBlock∧Ext w wr∧Blk wr w.heap.size TH3 #[aA,aB,.slice p n cap]∧wo.heap.size≤wr.heap.size) (fun _ i _=>nb.length-(intOf i).toNat)
      case atStart=>exact⟨0,_,l,lc,D,Q,Nat.zero_le _,rfl,rfl,ag.out,by simp[bJ],fun x hx=>by have:=ba x hx;omega,F2.out,L2.out,N2.out,a9.out,X2.out,B2.out,Nat.le_refl _⟩
      case round=>
       clear F2 L2 B2 X2 N2 a9
       obtain⟨j,q,l2,lc,D2,Q2,hj,rfl,rfl,ap,au,af,hF,hL,hN,bg,b,hB,an⟩:=hrel
       have bm:u∈Q:=List.mem_of_getElem? HU.out
       have s:Mid (oW aA n but) [src] n k u ((nb.take j).filter (fun(v:Nat)=>decide ((v:Int)≠but))) (D,Q) (D2,Q2):=by
        rw[au]
        have:=Mid.many bm ((nb.take j).filter (fun(v:Nat)=>decide ((v:Int)≠but))) [] (D,Q) (HI.out.mid HU.out) (fun v hv=>by
         have h1:=List.mem_filter.1 hv
         have h2:v∈aT aA n u:=by rw[←a3.out];exact List.mem_of_mem_take h1.1
         exact⟨List.mem_filter.2 ⟨h2,h1.2⟩,(bR.1 h2).1⟩)
        simpa using this
       have bn:D2.length=n:=s.len
       have cx:Q2.length≤n:=nL s.nodup s.bd
       have a4:D2.getD u 0=D.getD u 0:=s.same u bm
       obtain⟨r,hr⟩:=s.pre
       dsimp only at hr
       have cb:k<Q2.length:=by rw[hr,List.length_append];have:=ag.out;omega
       have bc:Q2[k]? =some u:=by
        have:=ag.out
        rw[hr,List.getElem?_append_left (by omega)];exact HU.out
       have ab:=dE (D:=D2) (v:=u) (by omega)
       have co: -1≤D2.getD u 0:=(af _ ab.2).1
       have cp:D2.getD u 0≤(k:Int):=by
        rw[a4];exact(ba _ (dE (D:=D) (v:=u) (by have:=HI.out.len;dsimp only at this;omega)).2).2
       have HF:=xQ hF
       have HL:=xQ hL
       have HN:=xQ hN
       have ah:=xQ bg
       have HB:=xQ hB
       have ai:=xQ au
       have aa:=xQ af
       have z:=xQ ap
       have bu:=xQ bc
       have ci:=xQ ab.1
       have cg:=xQ a4
       have cr:l2≤n:=by omega
       have cs:k<l2:=by omega
       have a8:=xQ bn
       have sB:w.heap.size<wr.heap.size:=hB.lt
       clear hF hL hN bg hB au af ap bc ab a4 hr s bn cb
       by_cases hlt3:j<nb.length
       ·obtain⟨v,hv⟩: ∃v,nb[j]? =some v:=⟨_,List.getElem?_eq_getElem hlt3⟩
        have bv:v<n:=(bR.1 (by rw[←a3.out];exact List.mem_of_getElem? hv:v∈aT aA n u)).1
        have HV:=xQ hv
        clear hv
        obtain⟨gN,rfl,da,cz⟩:=eL HN (by omega)
        obtain⟨gL,rfl,br,b9⟩:=eL HL (by omega)
        obtain⟨dv,bl,al⟩: ∃dv,D2[v]? =some dv∧D2.getD v 0=dv:=⟨_,(dE (D:=D2) (v:=v) (by rw[a8.out];exact bv)).1,rfl⟩
        have bo:=xQ bl
        have ao:=xQ al
        clear bl al
        have m1:(0:Int)≤(j:Int):=by omega
        have m2:(j:Int)<(nb.length:Int):=by omega
        have m3:(0:Int)≤(v:Int):=by omega
        have m4:(v:Int)<(n:Int):=by omega
        have m5:(k:Int)<(l2:Int):=by omega
        have cn:wr.cell? ⟨gN,j,none⟩=some (.int .i64 (v:Int)):=by have:=HN.out.cellAt j (by omega);rw[this];simp[ivs,bE,HV.out]
        have cf:wr.cell? ⟨gF,v,none⟩=some (.int .i64 dv):=by have:=HF.out.cellAt v (by omega);rw[this];simp[ivs,bo.out]
        by_cases hvb:(v:Int)=but
        ·have t0:((v:Int)!=but)=false:=by simp[hvb]
         have o:=xQ (aEu HV hvb)
         clear hvb
         go_wp2
         go_roundw
         case rel=>exact⟨j+1,_,l2,lc,D2,Q2,by omega,by go_num,rfl,z.out,by rw[o.out];exact ai.out,aa.out,HF.out,HL.out,HN.out,ah.out,b,HB.out,an⟩
         case measure=>simp[intOf];omega
        ·have t0:((v:Int)!=but)=true:=by simp[hvb]
         have o:=xQ (aBk HV hvb)
         clear hvb
         by_cases hd0:dv<0
         ·have t1:decide (dv<0)=true:=by simp[hd0]
          have y:Hid ((D2.set v (D.getD u 0+1),Q2++ [v])=bJ (D.getD u 0+1) (D,Q) ((nb.take (j+1)).filter (fun(v:Nat)=>decide ((v:Int)≠but)))):=by
           show _=_
           rw[o.out,dP,←ai.out,kI (by rw[ao.out];exact hd0)]
          obtain⟨du,ab⟩: ∃du,du=D2.getD u 0:=⟨_,rfl⟩
          have aq:=xQ ab
          have c3: -1≤du:=by omega
          have c9:du≤(k:Int):=by omega
          have cq:IntKind.i64.wrap (du+1)=du+1:=IntWalk.i64_in _ (by omega)
          clear ab hd0
          go_wp2
          refine rL (gl [gEq (.slice (some ⟨gF,0,none⟩) n c),gEq (.slice (some ⟨gN,0,none⟩) nb.length c5),gEq (j:Int),gEq (.pointer (some ⟨gN,j,none⟩)),gEq (v:Int),gEq (.slice (some ⟨gF,0,none⟩) n c),gEq (.slice (some ⟨gL,0,none⟩) l2 lc),gEq (k:Int),gEq (.pointer (some ⟨gL,k,none⟩)),gEq (u:Int),gEq (.pointer (some ⟨gF,u,none⟩)),gEq du,gEq (du+1:Int),gEq (.pointer (some ⟨gF,v,none⟩))]) 14 15 [(0,some 63),(1,some 64),(2,some 65),(3,some 66),(4,some 67),(5,some 68),(6,some 69),(7,some 70),(8,some 71),(9,some 72),(10,some 73),(11,some 74),(12,some 75),(13,some 76)] ?steps ?fin
          case steps=>
           refine sC [] rfl (fun wj hx=> ?_) ?_
           ·intro K hK
            go_simp
            exact hK _ _ ⟨.slice (some ⟨gF,0,none⟩) n c,rfl,rfl,Ext.refl _⟩
           refine sC [] rfl (fun wj hx=> ?_) ?_
           ·intro K hK
            go_simp
            exact hK _ _ ⟨.slice (some ⟨gN,0,none⟩) nb.length c5,rfl,rfl,Ext.refl _⟩
           refine sC [] rfl (fun wj hx=> ?_) ?_
           ·intro K hK
            go_simp
            exact hK _ _ ⟨.int .i64 (j:Int),rfl,rfl,Ext.refl _⟩
           refine sC [(1,some 64),(2,some 65)] rfl (fun wj hx=> ?_) ?_
           ·intro v1 h1 v2 h2 K hK
            obtain rfl:=h1
            obtain rfl:=h2
            go_simp
            exact hK _ _ ⟨.pointer (some ⟨gN,j,none⟩),rfl,rfl,Ext.refl _⟩
           refine sC [(3,some 66)] rfl (fun wj hx=> ?_) ?_
           ·intro v3 h3 K hK
            obtain rfl:=h3
            have cv:wj.cell? ⟨gN,j,none⟩=some (.int .i64 (v:Int)):=by have:=(bC HN hx.of_drew).cellAt j (by omega);rw[this];simp[ivs,bE,HV.out]
            go_simp
            exact hK _ _ ⟨.int .i64 (v:Int),rfl,rfl,Ext.refl _⟩
           refine sC [] rfl (fun wj hx=> ?_) ?_
           ·intro K hK
            go_simp
            exact hK _ _ ⟨.slice (some ⟨gF,0,none⟩) n c,rfl,rfl,Ext.refl _⟩
           refine sC [] rfl (fun wj hx=> ?_) ?_
           ·intro K hK
            go_simp
            exact hK _ _ ⟨.slice (some ⟨gL,0,none⟩) l2 lc,rfl,rfl,Ext.refl _⟩
           refine sC [] rfl (fun wj hx=> ?_) ?_
           ·intro K hK
            go_simp
            exact hK _ _ ⟨.int .i64 (k:Int),rfl,rfl,Ext.refl _⟩
           refine sC [(6,some 69),(7,some 70)] rfl (fun wj hx=> ?_) ?_
           ·intro v6 h6 v7 h7 K hK
            obtain rfl:=h6
            obtain rfl:=h7
            go_simp
            exact hK _ _ ⟨.pointer (some ⟨gL,k,none⟩),rfl,rfl,Ext.refl _⟩
           refine sC [(8,some 71)] rfl (fun wj hx=> ?_) ?_
           ·intro v8 h8 K hK
            obtain rfl:=h8
            have cv:wj.cell? ⟨gL,k,none⟩=some (.int .i64 (u:Int)):=by have:=(bC HL hx.of_drew).cellAt k (by omega);rw[this];simp[ivs,bE,bu.out]
            go_simp
            exact hK _ _ ⟨.int .i64 (u:Int),rfl,rfl,Ext.refl _⟩
           refine sC [(5,some 68),(9,some 72)] rfl (fun wj hx=> ?_) ?_
           ·intro v5 h5 v9 h9 K hK
            obtain rfl:=h5
            obtain rfl:=h9
            go_simp
            exact hK _ _ ⟨.pointer (some ⟨gF,u,none⟩),rfl,rfl,Ext.refl _⟩
           refine sC [(10,some 73)] rfl (fun wj hx=> ?_) ?_
           ·intro cm aw K hK
            obtain rfl:=aw
            have cv:wj.cell? ⟨gF,u,none⟩=some (.int .i64 du):=by have:=(bC HF hx.of_drew).cellAt u (by omega);rw[this,aq.out];simp only[ivs,List.getElem?_map,ci.out,Option.map_some]
            go_simp
            exact hK _ _ ⟨.int .i64 du,rfl,rfl,Ext.refl _⟩
           refine sC [(11,some 74)] rfl (fun wj hx=> ?_) ?_
           ·intro cj a0 K hK
            obtain rfl:=a0
            go_simp
            exact hK _ _ ⟨.int .i64 (du+1),rfl,rfl,Ext.refl _⟩
           refine sC [(0,some 63),(4,some 67)] rfl (fun wj hx=> ?_) StepsL.nil
           ·intro v0 h0 v4 h4 K hK
            obtain rfl:=h0
            obtain rfl:=h4
            go_simp
            exact hK _ _ ⟨.pointer (some ⟨gF,v,none⟩),rfl,rfl,Ext.refl _⟩
          case fin=>
           intro wj hx v0 h0 v1 h1 v2 h2 v3 h3 v4 h4 v5 h5 v6 h6 v7 h7 v8 h8 v9 h9 cm aw cj a0 c4 ca cw bs
           obtain rfl:=h0
           obtain rfl:=h1
           obtain rfl:=h2
           obtain rfl:=h3
           obtain rfl:=h4
           obtain rfl:=h5
           obtain rfl:=h6
           obtain rfl:=h7
           obtain rfl:=h8
           obtain rfl:=h9
           obtain rfl:=aw
           obtain rfl:=a0
           obtain rfl:=ca
           obtain rfl:=bs
           have a:=hx.of_drew
           have F3:=xQ (bC HF a)
           have L3:=xQ (bC HL a)
           have N3:=xQ (bC HN a)
           have B3:=xQ (HB.out.ext a)
           have X3:=xQ (b.trans a)
           have z3:=a.sz
           clear HF HL HN HB b hx a cn cf
           have bz:wj.cell? ⟨gF,v,none⟩=some (.int .i64 dv):=by have:=F3.out.cellAt v (by omega);rw[this];simp[ivs,bo.out]
           have cd:wj.frozen? ⟨gF,v,none⟩=false:=F3.out.frozenAt v
           refine wpAny_ready (rs:= [14]) (by kernel_rfl) (by simp) ?_
           refine AllReady.cons rfl (fun K hK=> ?_) AllReady.nil
           go_simp
           refine hK _ _ ?_
           clear hK K bz cd
           have y4:=(F3.out.stored v (.int .i64 (du+1))).1
           have ad:ExtR gF wj _:=(F3.out.stored v (.int .i64 (du+1))).2
           generalize b6:World.setCell _ _ _=w4 at*
           clear b6
           have F4:=xQ (show w4.ownsRow (w.heap.size+1) TI 1 (.slice (some ⟨gF,0,none⟩) n c) n (ivs (D2.set v (du+1))) by rw[←dV];exact y4)
           have L4:=xQ (L3.out.kept ad (.inr (by simp[Value.ownBlock];omega)))
           have N4:=xQ (N3.out.kept ad (.inr (by simp[Value.ownBlock];omega)))
           have B4:=xQ (show Blk w4 w.heap.size TH3 #[aA,aB,.slice p n cap]from(ad.block _ B3.out.lt (by simp;omega)).trans B3.out)
           have X4:=xQ (ExtR.new X3 ad (by omega))
           have z4:=ad.sz
           clear F3 L3 N3 B3 X3 y4 ad
           refine wpAny_done (by kernel_rfl) ?_ _
           have bt:w4.cell? ⟨gN,j,none⟩=some (.int .i64 (v:Int)):=by have:=N4.out.cellAt j (by omega);rw[this];simp[ivs,bE,HV.out]
           have cy:=(N4.out.lt gN rfl).2
           have dd:=(L4.out.lt gL rfl).2
           have b8:w1.heap.size≤w4.heap.size:=by omega
           go_wp2_with (at_builtin;refine fW rfl _ _ rfl w1.heap.size _ _ _ rfl (L4.out.alloc _) _ _ (v:Int) _ rfl (by simp) (by omega) (Nat.le_trans b8 (by simp)) ?_;intro p' t w9 d be am;have f:World.grownBy _ w9 (Value.slice (some ⟨gL,0,none⟩) l2 lc).ownBlock:=be;have ak:(Value.slice p' (l2+1) t).ownBlock=(Value.slice (some ⟨gL,0,none⟩) l2 lc).ownBlock∨(Value.slice p' (l2+1) t).ownBlock=some (w4.alloc (.cells #[(v:Int)] TI)).heap.size:=am;have F5:=xQ ((F4.out.alloc _).kept f (.inr (by simp[Value.ownBlock];omega)));have N5:=xQ ((N4.out.alloc _).kept f (.inr (Ne.symm ah.out)));have L5:=xQ d;have E5:=xQ (Ext.own (X4.out.alloc _) (L4.out.alloc _) f (by omega));have B5:=xQ ((B4.out.alloc _).grown f (by simp[Value.ownBlock];omega));have z9:=f.size;have A5:=xQ ak;clear d f ak be am)
           have b5:Hid ((Value.slice p' (l2+1) t).ownBlock≠(Value.slice (some ⟨gN,0,none⟩) nb.length c5).ownBlock):=by
            show _≠_
            rcases A5.out with h|h
            ·rw[h];exact ah.out
            ·rw[h];simp[Value.ownBlock];omega
           have ct:w4.heap.size≤w9.heap.size:=Nat.le_trans (by simp) z9
           clear z9 bt
           go_roundw
           case rel=>
            refine⟨j+1,p',l2+1,t,D2.set v (du+1),Q2++ [v],by omega,by go_num,rfl,by simp[z.out],?_,?_,F5.out,?_,N5.out,b5.out,E5.out,B5.out,by omega⟩
            ·rw[aq.out,cg.out];exact y.out
            ·intro x hx
             rcases List.mem_or_eq_of_mem_set hx with h|h
             ·exact aa x h
             ·omega
            ·have:=L5.out
             simpa[bE]using this
           case measure=>simp[intOf];omega
         ·have t1:decide (dv<0)=false:=by simp[hd0]
          have y:Hid ((D2,Q2)=bJ (D.getD u 0+1) (D,Q) ((nb.take (j+1)).filter (fun(v:Nat)=>decide ((v:Int)≠but)))):=by
           show _=_
           rw[o.out,dP,←ai.out,lU (by rw[ao.out];exact hd0)]
          clear hd0
          go_wp2
          go_roundw
          case rel=>exact⟨j+1,_,l2,lc,D2,Q2,by omega,by go_num,rfl,z.out,y.out,aa.out,HF.out,HL.out,HN.out,ah.out,b,HB.out,an⟩
          case measure=>simp[intOf];omega
       ·have bf:j=nb.length:=by omega
        have bj:Hid (Inv (oW aA n but) [src] n (k+1) (D2,Q2)):=by
         have h1:=HI.out.step HU (fun v hv=>aF4 hv)
         have h2:=ai.out
         rw[bf,List.take_length]at h2
         have h3:nb.filter (fun(v:Nat)=>decide ((v:Int)≠but))=oW aA n but u:=by rw[a3.out];rfl
         rw[h3]at h2
         rw[h2]
         exact h1
        have bi:Hid (∀x∈D2,-1≤x∧x≤((k+1:Nat):Int)):=fun x hx=>by have:=aa x hx;omega
        clear bf
        go_wp2
        go_roundw
        case rel=>exact⟨k+1,_,l2,lc,D2,Q2,by omega,by go_num,rfl,z.out,bi.out,bj.out,HF.out,HL.out,b,HB.out,by omega⟩
        case measure=>simp[intOf];omega
    ·have ax:=xQ (HI.out.dist (by have:=ag.out;dsimp only;omega))
     have bb:=HI.out.len
     have bq:=xQ bb
     clear bb
     go_wp2
     go_ret
     exact⟨D,ax.out,dA bq (bH HF (Nat.le_succ _)) b⟩
theorem aG2 (aA aB:Int)(p:OA)(n cap src:Nat)(but:Int)(xs:List Int)(w:World)(hS:Sl w p n cap 1 (ivs xs))(hok:aN aA aB xs=true)(hs:src<n):
  Calls Tryz.prog 200 #[aH aA aB p n cap,(src:Int),but] w fun e w'=> ∃D,qR (oW aA n but) [src] n D∧aX D w e w':=by
 have hl:=hS.ilen
 obtain⟨g1,g2,g3,g4,g5,g6,g7,g8,g9⟩:=bM hok
 exact aFl aA aB p n cap src but w (by omega) (by omega) hs (fun k hk w' hx=>by
  have:=aCq aA aB k p n cap xs w' (hS.ext hx) hok (by omega) (by omega)
  rwa[kL]at this)
end Go.Proofs.YtgnkoffndhmhpaaGreatDoor
