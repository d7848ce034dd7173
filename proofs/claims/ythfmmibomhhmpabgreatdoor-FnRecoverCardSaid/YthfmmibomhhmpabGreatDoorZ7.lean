/- Lemmas (@packed). -/
import Derived.Test.YthfmmibomhhmpabGreatDoorZ6
namespace Go.Proofs.YthfmmibomhhmpabGreatDoor
open Go.Proofs.Tryz
set_option linter.all false
set_option maxHeartbeats 8000000
set_option maxRecDepth 100000
variable{D:List Int}{nb Q:List Nat}{l:List Sl2}{b v c2 m j:Nat}{q:OA}{w:World}(aA aB:Int)(p:OA)(n f a u src:Nat)(xs:List Int)
section
open Go.RowKit
theorem aHx (h:Sl w q m c2 2 (l.flatMap aK)){k:Nat}(hk:k<m):
  ∃b off f t,q=some ⟨b,off,none⟩∧l[k]? =some (f,t)∧b<w.heap.size∧w.cell? ⟨b,off+k*2,none⟩=some (I f)∧w.cell? ⟨b,off+k*2+1,none⟩=some (I t):=by
 obtain⟨b,off,x,hp,hx,hb,hc⟩:=Sl.at_ (sz:=2) (f:=aK) (fun _=>rfl) h hk (by omega);obtain⟨f,t⟩:=x;exact⟨b,off,f,t,hp,hx,hb,hc 0 (by omega),hc 1 (by omega)⟩
theorem aKo (h:Sl w q m c2 2 (l.flatMap aK)):l.length=m:=by have:=h.len;rw[eC aK 2 (fun _=>rfl)]at this;omega
theorem aQ2 (y:Nat)(xs:List Int)(lq:OA)(m lc:Nat)(l:List Sl2)(w:World)(bq:4≤xs.length)(hn:xs.length≤12)(hm:m≤60)(bf:Hid (aO aA aB xs=true))(HS:Hid (Sl w lq m lc 2 (l.flatMap aK)))(HV:xB 30 #[aH aA aB p xs.length y] w true)(HC:Hid (∀w',Ext w w'→U 87 #[aH aA aB p xs.length y] w' (eA aA aB xs w'))):
  U 123 #[aH aA aB p xs.length y,.slice lq m lc] w (dK aA aB (bJ aA aB xs l).1 ((bJ aA aB xs l).2:Nat) w):=by
 have hl:=xQ (aKo HS.out);have bn:=aYu (60<m);have bo:=aYu ((60:Int)<(m:Int));go_enter func123,ntmps123;have ad:=xQ (Ext.refl w);go_wp2_with fail;refine Ω (HV _ (by exact .alloc (.alloc (.refl _) _) _)) fun w1 ai=>?_
 have bg:Ext w w1:=(((Ext.refl _).alloc _).alloc _).trans ai;have z1:w.heap.size+2≤w1.heap.size:=by have:=ai.sz;(try simp at this);omega
 have h:=xQ (ad.out.trans bg);have a5:=xQ (show Blk w1 w TH3 #[aA,aB,.slice p xs y] by have:=((Blk.new w TH3 #[aA,aB,.slice p xs y]).alloc _).ext ai;simpa using this);have r:=xQ (show Blk w1 (w.heap.size+1) TH3 #[(),(),((),())] by have:=(Blk.new (w.alloc (.cells #[aA,aB,.slice p xs y] TH3)) TH3 #[(),(),((),())]).ext ai;simpa using this);obtain⟨c0,c1,c2⟩:=a5.out.tri;go_wp2_with fail;refine(HC _ h.out).mono ?_;rintro e w2 ⟨q0,c0,rfl,o0,a1⟩;have a3:Ext w1 w2:=by exact a1
 have z2:w1.heap.size+0≤w2.heap.size:=by have:=a1.sz;(try simp at this);omega
 have a8:=xQ (h.out.trans a3);have a9:=xQ (r.out.ext a3);have a6:=xQ (o0);go_wp2;go_loopw [7] (fun i wr=> ∃(k:Nat) (q:OA) (c:Nat),k≤m∧i=I k∧(bJ aA aB xs (l.take k)).2=k∧wr.ownsRow w1 TI 1 (.slice q xs c) xs.length (ivs (bJ aA aB xs (l.take k)).1)∧Ext w wr∧Blk wr w2 TH3 #[aA,aB,.slice q xs c]∧Blk wr (w.heap.size+1) TH3 #[(),(),((),())]∧w2.heap.size<wr.heap.size) (fun i _=>m-(intOf i).toNat)
 case atStart=>exact⟨0,q0,c0,aW6 _,rfl,by simp[bJ],by simpa[bJ]using aM a6 ((Ext.refl _).alloc _),a8.out.alloc _,Blk.new _ _ _,a9.out.alloc _,by simp⟩
 case round=>
  obtain⟨k,q,c,hk,rfl,ax,a0,ag,ba,bb,br⟩:=hrel;have HO:=xQ a0;have n:=xQ ba;have ab:=xQ bb;have aj:=xQ ax;obtain⟨bh,bi,bu⟩:=sH (l.take k) xs bf.out;have OK:=xQ bh;have ak:=xQ bi;by_cases hlt:k<m
  ·obtain⟨b2,s,f,t,rfl,hx,aw,d0,d1⟩:=aHx (HS.out.ext ag) hlt;have HX:=xQ hx;have i1:=aYp k;have i2:=aYq k m;have ae:Hid (bJ aA aB xs (l.take (k+1))=(if bM aA aB (bJ aA aB xs (l.take k)).1 f t then(bQ aA aB (bJ aA aB xs (l.take k)).1 f t,k+1)else((bJ aA aB xs (l.take k)).1,k))):=by
    show _=_;have ah:(l.take k).length=k:=by rw[aWn,hl.out];omega
    rw[aX HX.out,uY _ _ _ (by rw[aj.out,ah]),ah]
   have HD:xC 94 #[aH aA aB q xs.length c,eV f t] wr fun w' e w''=> ∃q5 c5,e= .returned (.tuple #[aH aA aB q5 xs.length c5,.bool (bM aA aB (bJ aA aB xs (l.take k)).1 f t)])∧w''.ownsRow w' TI 1 (.slice q5 xs c5) xs.length (ivs (bQ aA aB (bJ aA aB xs (l.take k)).1 f t))∧Ext w' w'':=
    fun w' hx=>(oR aA aB f t q xs.length c _ w' ((Sl.own HO.out).ext hx) OK.out).mono fun e w'' ⟨q5,c5,he,ho,hy⟩=>by
     have be:(bQ aA aB (bJ aA aB xs (l.take k)).1 f t).length=xs.length:=by rw[dO,ak.out]
     rw[be]at he ho;exact⟨q5,c5,he,ho,hy⟩
   generalize bs:(bJ aA aB xs (l.take k)).1=ys at*;generalize bt:bQ aA aB ys f t=zs at*;generalize bc:bM aA aB ys f t=bm at*;have bp:=xQ bc;obtain⟨v0,v1,v2⟩:=n.out.tri;have n2: ¬(wr.heap.size=w2.heap.size):=by omega
   have n4: ¬(wr.heap.size=b2):=by omega
   go_upto_region 7 with fail;go_cut [8,9] (fun s8 s9 wx=> ∃(a:Nat) (q5:OA) (c5:Nat),s8= .pointer (some ⟨a,0,none⟩)∧s9= .bool bm∧Ext wr wx∧wr.heap.size≤a∧Blk wx a TH3 #[aA,aB,.slice q5 xs c5]∧wx.ownsRow wr TI 1 (.slice q5 xs c5) xs.length (ivs zs))
   case first=>
    go_region_held3 (fun w'=>w'.cell? ⟨w2,0,none⟩=some (I aA)∧w'.cell? ⟨w2,1,none⟩=some (I aB)∧w'.cell? ⟨w2,2,none⟩=some (.slice q xs c)∧w'.cell? ⟨b2,s+k*2,none⟩=some (I f)∧w'.cell? ⟨b2,s+k*2+1,none⟩=some (I t))
     (first|(refine⟨?_,?_,?_,?_,?_⟩<;>assumption)|go_keep)
     ((go_at_call 94
       refine(HD _ xE).mono ?_;rintro e w5 ⟨q5,c5,rfl,o5,a2⟩;have aa:Ext wr w5:=xE;have g_:=(n.out.ext aa).tri;have g3:w5.cell? ⟨b2,s+k*2,none⟩=some (I f):=(aa.cells.1 _ _ aw).trans d0;have g4:w5.cell? ⟨b2,s+k*2+1,none⟩=some (I t):=(aa.cells.1 _ _ aw).trans d1
       first
        |(have ao:Ext (wr.alloc (.cells #[(),(),((),())] TH3)) w5:=a2
          have BB:=(Blk.new wr TH3 #[(),(),((),())]).ext ao;obtain⟨bj,ap,bk,aq,bl,_⟩:=BB.trif
          have ar:w5.frozen? ⟨wr,2,none⟩=false:=BB.frozen 2)
        |(have ao:Ext (wr.alloc (.cells #[(),(),((),())] TH3)) w5:=a2.of_drew
          have BB:=(Blk.new wr TH3 #[(),(),((),())]).ext ao;obtain⟨bj,ap,bk,aq,bl,_⟩:=BB.trif
          have ar:w5.frozen? ⟨wr,2,none⟩=false:=BB.frozen 2)
        |skip))
    ·go_wp2_with fail;go_meet;exact⟨w5.heap.size,q5,c5,rfl,rfl,by exact .alloc aa _,by have:=aa.sz;omega,Blk.new _ _ _,bF (by exact o5.alloc _) (by simp)⟩
    have hR:ExtR wr w5 _:=(((ExtR.refl wr w5).setCell (p:=⟨wr,0,none⟩) (.inl rfl) (I aA)).setCell (p:=⟨wr,1,none⟩) (.inl rfl) (I aB)).setCell (p:=⟨wr,2,none⟩) (.inl rfl) (.slice q5 xs c5);have hY:=((BB.set 0 (I aA)).set 1 (I aB)).set 2 (.slice q5 xs c5);simp only[aWg,aWe,aWf]at hY;go_wp2_with fail;go_meet;exact⟨wr.heap.size,q5,c5,rfl,rfl,ExtR.new aa hR (aVz _),aVz _,hY,bF (o5.kept hR (.inr (eH o5 BB (by decide)))) (by simp)⟩
   case rest=>
    obtain⟨a,q5,c5,rfl,rfl,d,ha,av,az⟩:=hcut;cases bm with
    |true=>
     have g:=ae.out;rw[if_pos rfl]at g;have z:bJ aA aB xs (l.take (k+1))=(zs,k+1):=g;have z:=xQ z;have o:=xQ (n.out.ext d);have x:=xQ (ab.out.ext d);have au:=xQ av;have ad:=xQ (ag.trans d);have al:=xQ (aM HO d);have an:=xQ (bF az (show w1.heap.size≤wr.heap.size by omega));have z0:=d.sz;obtain⟨v0,bv,v1,bw,v2,bx⟩:=o.out.trif;have a_:=au.out.tri;go_wp2;have y1:=((o.out.set 0 (I aA)).set 1 (I aB)).set 2 (.slice q5 xs c5);simp only[aWg,aWe,aWf]at y1;generalize j:World.setCell _ _ _=w1;rw[j]at y1;have b:ExtR w2 wc w1:=by rw[←j];exact(((ExtR.refl w2 wc).setCell (p:=⟨w2,0,none⟩) (.inl rfl) (I aA)).setCell (p:=⟨w2,1,none⟩) (.inl rfl) (I aB)).setCell (p:=⟨w2,2,none⟩) (.inl rfl) (.slice q5 xs c5)
     have z1:(wc:Nat)≤w1:=b.sz;have u:=xQ (y1);have r:=xQ (show Blk w1 (w.heap.size+1) _ _ from(b.block _ x.out.lt (by first|(simp;done)|(simp;omega))).trans x.out);have h:=xQ (ExtR.new ad b (by omega));have a7:=xQ (an.out.kept b (.inr (eH an o.out (by decide))));have af:(w2:Nat)<w1:=u.out.lt;go_roundw
     case rel=>exact⟨k+1,q5,c5,by omega,by go_num,by rw[z.out],by rw[z.out];exact a7.out,h.out,u.out,r.out,by omega⟩
     case measure=>simp[intOf];omega
    |false=>
     have g:=ae.out;rw[if_neg (by simp)]at g;have z:Hid (bJ aA aB xs l=(ys,k)):=by
      show _=_;have ah:(l.take (k+1)).length=k+1:=by rw[aWn,hl.out];omega
      have:=aD7 (aA:=aA) (aB:=aB) (l.take (k+1)) (l.drop (k+1)) xs (by rw[g,ah];exact Nat.lt_succ_self k);rw[List.take_append_drop,g]at this;exact this
     have o:=xQ (n.out.ext d);have x:=xQ (ab.out.ext d);have au:=xQ av;have ad:=xQ (ag.trans d);have al:=xQ (aM HO d);have an:=xQ (bF az (show w1.heap.size≤wr.heap.size by omega));have z0:=d.sz;obtain⟨v0,v1,v2⟩:=o.out.tri;obtain⟨z0,ap,z1,aq,z2,ar⟩:=x.out.trif;go_wp2;have y1:=((x.out.set 0 (I aA)).set 1 (I aB)).set 2 (.slice q xs c);simp only[aWg,aWe,aWf]at y1;generalize j:World.setCell _ _ _=w1;rw[j]at y1;have b:ExtR (w.heap.size+1) wc w1:=by rw[←j];exact(((ExtR.refl (w.heap.size+1) wc).setCell (p:=⟨w.heap.size+1,0,none⟩) (.inl rfl) (I aA)).setCell (p:=⟨w.heap.size+1,1,none⟩) (.inl rfl) (I aB)).setCell (p:=⟨w.heap.size+1,2,none⟩) (.inl rfl) (.slice q xs c)
     have z1:(wc:Nat)≤w1:=b.sz;have u:=xQ (show Blk w1 w2 _ _ from(b.block _ o.out.lt (by first|(simp;done)|(simp;omega))).trans o.out);have r:=xQ (y1);have h:=xQ (ExtR.new ad b (by omega));have am:=xQ (al.out.kept b (.inr (eH al x.out (by decide))));have af:(w2:Nat)<w1:=u.out.lt;obtain⟨y0,y1,y2⟩:=r.out.tri;exact aYw (v:= .tuple #[.agg #[aA,aB,.slice q xs c],k]) (by rw[z.out];exact fY ak (bF am (by omega)) h.out)
  have ay:Hid (bJ aA aB xs l=((bJ aA aB xs (l.take k)).1,k)):=by have e1:l.take k=l:=aW4 (by rw[hl.out];omega);have e2:=aj.out;show _=_;rw[e1]at e2⊢;exact Prod.ext rfl e2
  have bd:k=m:=by omega
  subst bd;have a4:=xQ ag;obtain⟨v0,v1,v2⟩:=n.out.tri;obtain⟨z0,ap,z1,aq,z2,ar⟩:=ab.out.trif;go_wp2;have y1:=((ab.out.set 0 (I aA)).set 1 (I aB)).set 2 (.slice q xs c);simp only[aWg,aWe,aWf]at y1;generalize j:World.setCell _ _ _=w1;rw[j]at y1;have b:ExtR (w.heap.size+1) wr w1:=by rw[←j];exact(((ExtR.refl (w.heap.size+1) wr).setCell (p:=⟨w.heap.size+1,0,none⟩) (.inl rfl) (I aA)).setCell (p:=⟨w.heap.size+1,1,none⟩) (.inl rfl) (I aB)).setCell (p:=⟨w.heap.size+1,2,none⟩) (.inl rfl) (.slice q xs c)
  have z1:(wr:Nat)≤w1:=b.sz;have u:=xQ (show Blk w1 w2 _ _ from(b.block _ n.out.lt (by first|(simp;done)|(simp;omega))).trans n.out);have r:=xQ (y1);have h:=xQ (ExtR.new a4 b (by omega));have am:=xQ (HO.out.kept b (.inr (eH HO ab.out (by decide))));have af:(w2:Nat)<w1:=u.out.lt;obtain⟨y0,y1,y2⟩:=r.out.tri;exact aYw (v:= .tuple #[.agg #[aA,aB,.slice q xs c],k]) (by rw[ay.out];exact fY ak (bF am (by omega)) h.out)
theorem wQ (lq:OA)(m lc:Nat)(l:List Sl2)(w:World)(hm:m≤60)(hS:Sl w p n a 1 (ivs xs))(hL:Sl w lq m lc 2 (l.flatMap aK))(b:aO aA aB xs=true):
  U 123 #[aH aA aB p n a,.slice lq m lc] w (dK aA aB (bJ aA aB xs l).1 ((bJ aA aB xs l).2:Nat) w):=by
 have hl:=hS.ilen;subst hl;obtain⟨g1,g2,g3,g4,g5,g6,g7,g8,g9⟩:=bS b;have HV:=fun(w':World) (hy:Ext w w')=>iJ aA aB p xs.length a xs w' (hS.ext hy)
 rw[b]at HV;exact aQ2 aA aB p a xs lq m lc l w g5 g6 hm b hL HV (fun(w':World) (hy:Ext w w')=>iY aA aB p xs.length a xs w' (by omega) (hS.ext hy))
def uU (aA:Int)(n:Nat)(but:Int)(u:Nat):List Nat:=(aU aA n u).filter (fun(v:Nat)=>decide ((v:Int)≠but))
theorem aMb (a:Int):lT aA n a=((List.range n).filter (fun(b:Nat)=>decide (bE aA a b=1))).map (fun(k:Nat)=>(k:Int)):=by
 unfold lT;induction n with
 |zero=>rfl
 |succ n ih=>rw[iV,ih,aXj,aX8,aWs];congr 1;by_cases h:bE aA a n=1<;>simp[h]
theorem nY:lT aA n u=(aU aA n u).map (fun(k:Nat)=>(k:Int)):=aMb _ _ _
theorem aNc {aA:Int}{n:Nat}{a:Int}{u:Nat}(h:v∈uU aA n a u):v<n:=(cH.1 (aWy.1 h).1).1
theorem Inv.one {adj:Nat→List Nat}{N s:Nat}(hs:s<N):Inv adj [s] N 0 ((List.replicate N (-1)).set s 0,[s]):=by
 have hl:s<(List.replicate N (-1:Int)).length:=by simpa using hs
 have a: ∀v,v<N→s≠v→((List.replicate N (-1:Int)).set s 0).getD v 0= -1:=by intro v hv e;rw[cF e];simp[List.getD,hv]
 refine⟨by simp,by simpa using hs,?_,by simp,by simp,?_,?_,?_,fun i u hi=>by omega⟩
 ·intro v hv;dsimp only;by_cases e:s=v
  ·subst e;rw[cX hl];simp
  rw[a v hv e];simp;exact fun h=>e h.symm
 ·intro u hu v hv;simp at hu hv;subst hu hv;omega
 ·intro v hv;simp at hv;subst hv;dsimp only;rw[cX hl];simp[rZ]
 intro v hv;simp at hv;subst hv;exact⟨by simp,cX hl⟩
theorem aR4 (n s:Nat): ∀x∈(List.replicate n (-1:Int)).set s 0,-1≤x∧x≤((0:Nat):Int):=by
 intro x hx;rcases aXa hx with h|h
 ·rw[List.mem_replicate]at h;omega
 omega
theorem eE (h:v<D.length):D[v]? =some (D.getD v 0)∧D.getD v 0∈D:=by
 have:D[v]? =some (D.getD v 0):=by rw[aW7,aW0 h];rfl
 exact⟨this,aW1 this⟩
theorem aN2 {v:Nat}{a:Int}(h:nb[j]? =some v)(hb:(v:Int)=a):(nb.take (j+1)).filter (fun(v:Nat)=>decide ((v:Int)≠a))=(nb.take j).filter (fun(v:Nat)=>decide ((v:Int)≠a)):=by rw[aX h,aX8];simp[hb]
theorem aJd {v:Nat}{a:Int}(h:nb[j]? =some v)(hb:(v:Int)≠a):(nb.take (j+1)).filter (fun(v:Nat)=>decide ((v:Int)≠a))=(nb.take j).filter (fun(v:Nat)=>decide ((v:Int)≠a))++ [v]:=by rw[aX h,aX8];simp[hb]
theorem nT {a:Int}(h:D.getD v 0<0):fT a (D,Q) v=(D.set v a,Q++ [v]):=by unfold fT;rw[if_pos h]
theorem pV {a:Int}(h: ¬D.getD v 0<0):fT a (D,Q) v=(D,Q):=by unfold fT;rw[if_neg h]
theorem aUu {B B2 n c sz sz2:Nat}{e e2:TypeId}{q2:OA}{xs ys:List Value}(h1:w.ownsRow B e sz (.slice q n c) n xs)(h2: ∀g,(Value.slice q2 m c2).ownBlock=some g→g<B)(h0:(Value.slice q2 m c2).ownBlock≠none):(Value.slice q2 m c2).ownBlock≠(Value.slice q n c).ownBlock:=by
 intro he;cases hq:(Value.slice q n c).ownBlock with
 |none=>rw[hq]at he;exact h0 he
 |some g=>rw[hq]at he;have:=h2 g he;have:=(h1.lt g hq).1;omega
theorem aUc {g n base:Nat}{t:TypeId}{cs:Array Value}(h:Blk w g t cs)(hn:cs.size=n)(hm:n≤maxLen)(hb:base≤g):w.ownsRow base t 1 (.slice (some ⟨g,0,none⟩) n n) n cs.toList:=
 ⟨by simpa using hn,.inr ⟨g,n,cs,rfl,hb,h,aVz _,hm,by omega,by rw[Nat.mul_one,aW4 (by simp;omega)]⟩⟩
abbrev bO (q:List Nat):List Int:=q.map (fun(k:Nat)=>(k:Int))
theorem jN {g:Array Oper}{rest:List Oper}{o:Oper}{a:Act}{Q:Exit→Act→World→Prop}(m:o.guard=none)(s x:Operand)(ho:o.op= .call {callee:= .builtin .append,args:=#[s,x],argTypes:=#[25,25]})(base:Nat)(v:Value)(n:Nat)(xs:List Int)(hs:a.eval s=v)(f:w.ownsRow base 3 1 v n (ivs xs))(b e:Nat)(y:Int)(c:Nat)(hx:a.eval x= .slice (some ⟨b,e,none⟩) 1 c)(hc:w.cell? ⟨b,e,none⟩=some (iv y))(hn:n≤1099511627776)(d:base≤w.heap.size)(h: ∀p' cap' w',w'.ownsRow base 3 1 (.slice p' (n+1) cap') (n+1) (ivs (xs++ [y]))→w.grownBy w' v.ownBlock→((Value.slice p' (n+1) cap').ownBlock=v.ownBlock∨(Value.slice p' (n+1) cap').ownBlock=some w)→wpList prog g Q rest (a.put o.dst (.slice p' (n+1) cap')) w'):wpList prog g Q (o::rest) a w:=by
 obtain⟨i,z,hi,hz,q,l,r⟩:=iA.info;refine wpList_append_own_at w m s x 25 ho base 3 i z 1 i.bytes iA.ht hi hz q rfl r iA.pos v n _ hs f ⟨b,e,none⟩ 1 c [iv y] hx rfl (fun j u hu=> ?_) (fun u hu=>by simp at hu;subst hu;rfl) (by unfold maxLen;omega) ?_ d ?_
 ·match j,hu with
  |0,hu=>simp at hu;subst hu;rw[lU];exact hc
 ·have:(n+1)*i.bytes≤(n+1)*64:=Nat.mul_le_mul_left _ l;omega
 intro v' w' h2 h3 _ h5;obtain⟨p,k,rfl⟩:=pW h2;exact h p k w' (by simpa[ivs]using h2) h3 h5
theorem aNy (a:Int)(w:World)(db:4≤n)(hn:n≤12)(hs:src<n)(HC:Hid (∀(k:Nat),k<n→ ∀w',Ext w w'→U 217 #[aH aA aB p n f,k] w' (cC (bO (aU aA n k)) w'))):
  U 216 #[aH aA aB p n f,src,a] w fun e w'=> ∃D,yD (uU aA n a) [src] n D∧cC D w e w':=by
 have a1:=aYp src;have a2:=aYq src n;go_enter func216,ntmps216;go_wp2;go_loopw [7,8] (fun v i wr=> ∃(k:Nat) (q:OA) (c:Nat),k≤n∧i=I k∧v= .slice q k c∧wr.ownsRow (w.heap.size+1) TI 1 (.slice q k c) k (ivs (List.replicate k (-1)))∧Ext w wr∧Blk wr w TH3 #[aA,aB,.slice p n f]) (fun _ i _=>n-(intOf i).toNat)
 case atStart=>have ho:((w.alloc (.cells #[aA,aB,.slice p n f] TH3)).alloc (.cells #[] TI)).ownsRow (w.heap.size+1) TI 1 (.slice (some ⟨(w.alloc (.cells #[aA,aB,.slice p n f] TH3)).heap.size,0,none⟩) 0 0) 0 []:=aX7 _ #[] 0 (by simp) (by simp[maxLen]) rfl;exact⟨0,_,0,aW6 _,rfl,rfl,by simpa using ho,by exact .alloc (.alloc (.refl _) _) _,(Blk.new w _ _).alloc _⟩
 case round=>
  obtain⟨k,q,c,hk,rfl,rfl,au,b,hB⟩:=hrel;have HO:=xQ au;have HB:=xQ hB;have bq:(w:Nat)<wr:=hB.lt;clear au hB;obtain⟨b0,b1,b2⟩:=HB.out.cells3;by_cases hlt:k<n
  ·have y:Hid (List.replicate (k+1) (-1:Int)=List.replicate k (-1)++ [-1]):=by show _=_;rw[List.replicate_succ']
   go_wp2_with (at_builtin;refine dB iA rfl _ _ rfl (w.heap.size+1) _ _ _ rfl (HO.out.alloc _) _ _ (-1:Int) _ rfl (by simp) (by omega) (by first|(simp;done)|(simp;omega)) ?_;intro p' t w2 o s;have bv:=xQ o;have b8:Ext w w2:=Ext.own (b.alloc _) (HO.out.alloc _) s (by omega);have bs:=xQ (uL HO s HB.out);clear o s);go_roundw
   case rel=>exact⟨k+1,p',t,by omega,by go_num,rfl,by rw[y.out];exact bv.out,b8,bs.out⟩
   case measure=>simp[intOf];omega
  obtain rfl:n=k:=by omega
  obtain⟨gF,rfl,c6,c7⟩:=gH HO (by omega);have ck:wr.cell? ⟨gF,src,none⟩=some (I (-1)):=by have:=HO.out.cellAt src (by omega);rw[this];simp[ivs,hs]
  have cm:wr.frozen? ⟨gF,src,none⟩=false:=HO.out.frozenAt src;go_upto_region 8 with fail;clear ck cm b0 b1 b2;have y1:=(HO.out.stored src (I 0)).1;have az:ExtR gF wr _:=(HO.out.stored src (I 0)).2;have a7:(World.setCell wr ⟨gF,src,none⟩ (I 0)).heap.size=wr.heap.size:=by simp
  generalize ch:World.setCell _ _ _=w1 at*;rw[←a7];clear ch;have F1:=xQ (show w1.ownsRow (w.heap.size+1) TI 1 (.slice (some ⟨gF,0,none⟩) n c) n (ivs ((List.replicate n (-1)).set src 0)) by rw[←eW];exact y1);have B1:=xQ (show Blk w1 w TH3 #[aA,aB,.slice p n f]from(az.block _ HB.out.lt (by simp;omega)).trans HB.out);have X1:=xQ (ExtR.new b az (by omega));have z1:(wr:Nat)≤w1:=aYe a7.symm;have dd:=B1.out.lt;clear a7 y1 az HO HB b bq;have bh:(w1.alloc (.cells #[src] TI)).ownsRow w1 TI 1 (.slice (some ⟨w1,0,none⟩) 1 1) 1 [I src]:=aUc (n:=1) (Blk.new w1 TI #[src]) rfl (by simp[maxLen]) (aVz _);have L1:=xQ bh;clear bh;have I1:=xQ (Inv.one (adj:=uU aA n a) hs);go_wp2;go_loopw [9,10] (fun v i wr=> ∃(k:Nat) (q:OA) (l lc:Nat) (D:List Int) (Q:List Nat),k≤l∧i=I k∧v= .slice q l lc∧l=Q.length∧(∀x∈D,-1≤x∧x≤k)∧Inv (uU aA n a) [src] n k (D,Q)∧wr.ownsRow (w.heap.size+1) TI 1 (.slice (some ⟨gF,0,none⟩) n c) n (ivs D)∧wr.ownsRow w1 TI 1 (.slice q l lc) l (ivs (bO Q))∧Ext w wr∧Blk wr w TH3 #[aA,aB,.slice p n f]∧w1.heap.size≤wr.heap.size) (fun _ i _=>n-(intOf i).toNat)
  case atStart=>exact⟨0,_,1,1,_,[src],aW6 _,rfl,rfl,rfl,aR4 _ _,I1.out,F1.out.alloc _,L1.out,X1.out.alloc _,B1.out.alloc _,by simp⟩
  case round=>
   clear F1 B1 X1 L1 I1;obtain⟨wr1,rfl⟩: ∃wr1:World,wr1=wr:=⟨_,rfl⟩
   obtain⟨k,q,l,lc,D,Q,hk,rfl,rfl,a4,bj,ai,hF,hL,b,hB,bq⟩:=hrel;have HF:=xQ hF;have HL:=xQ hL;have HB:=xQ hB;have HI:=xQ ai;have ag:=xQ a4;have dc:l≤n:=by rw[a4];exact ai.qlen
   have a8:=xQ bj;clear hF hL hB ai a4 bj;by_cases hlt2:k<l
   ·obtain⟨gL,rfl,b9,ca⟩:=gH HL (by omega);obtain⟨u,hu⟩: ∃u,Q[k]? =some u:=⟨_,aW0 (by rw[←ag.out];exact hlt2)⟩
    have ce:u<n:=HI.out.bd u (aW1 hu);have HU:=xQ hu;clear hu;have i1:=aYp k;have i2:=aYq k l;have j1:=aYp u;have j2:=aYq u n;obtain⟨nb,al⟩: ∃nb,nb=aU aA n u:=⟨_,rfl⟩
    have aw:=xQ al;have a9:Hid (∀w',Ext w w'→U 217 #[aH aA aB p n f,u] w' (cC (bO nb) w')):=by rw[al];exact HC u ce
    have cd:nb.length≤n:=by rw[al];exact aW8 (aXc _ _) (by simp)
    clear al;have bo:(bO nb).length=nb.length:=by simp[bO]
    go_wp2;refine rL (gl [gEq (aH aA aB p n f),gEq (.slice (some ⟨gL,0,none⟩) l lc),gEq (k:Int),gEq (.pointer (some ⟨gL,k,none⟩)),gEq (u:Int),(fun v w'=> ∃q c,v= .slice q nb c∧w'.ownsRow wr1 TI 1 (.slice q nb c) nb.length (ivs (bO nb)))]) 6 7 [(0,some 35),(1,some 36),(2,some 37),(3,some 38),(4,some 39),(5,some 40)] ?steps ?fin (hG:=(mQ (aW (bL _) (aW (bL _) (aW (bL _) (aW (bL _) (aW (bL _) (aW (fun v w w' ⟨q,c,he,ho⟩ hx=>⟨q,c,he,aM ho hx⟩) (pM)))))))))
    case steps=>
     refine sC [] rfl (fun wi hx=> ?_) ?_
     ·intro K hK;have B:=HB.out.ext hx.of_drew;have cx:=B.cl 0;have B:=HB.out.ext hx.of_drew;have cy:=B.cl 1;have B:=HB.out.ext hx.of_drew;have cz:=B.cl 2;go_simp;exact hK _ _ ⟨aH aA aB p n f,rfl,rfl,Ext.refl _⟩
     refine sS0 [] (sS0 [] (sS2 [(1,some 36),(2,some 37)] ?_));refine sC [(3,some 38)] rfl (fun wi hx=> ?_) ?_
     ·intro v3 h3 K hK;obtain rfl:=h3;have cu:wi.cell? ⟨gL,k,none⟩=some (I u):=by have:=(aM HL hx.of_drew).cellAt k (by omega);rw[this];simp[ivs,bO,HU.out]
      go_simp;exact hK _ _ ⟨I u,rfl,rfl,Ext.refl _⟩
     refine sC [(0,some 35),(4,some 39)] rfl (fun wi hx=> ?_) StepsL.nil
     ·intro v0 h0 v4 h4 K hK;subst h0 h4;go_wp2_with fail;refine(a9 _ (b.trans hx.of_drew)).mono ?_;rintro e w5 ⟨q5,c5,rfl,o5,cj⟩;rw[bo]at o5⊢;go_simp;exact hK _ _ ⟨.slice q5 nb c5,rfl,⟨q5,c5,rfl,bF o5 (by have:=hx.sz;simpa using this)⟩,cj⟩
    case fin=>
     intro wi hx v0 h0 v1 h1 v2 h2 v3 h3 v4 h4 v5 h5;subst h0 h1 h2 h3 h4;obtain⟨q5,c5,rfl,a5⟩:=h5;refine wpAny_ready (rs:= [6]) (by kernel_rfl) (by simp) ?_;refine AllReady.cons rfl (fun K hK=> ?_) AllReady.nil;go_simp;refine hK _ _ ?_;clear hK K;refine wpAny_done (by kernel_rfl) ?_ _;have d:=hx.of_drew;have F2:=xQ (aM HF d);have L2:=xQ (aM HL d);have B2:=xQ (HB.out.ext d);have X2:=xQ (b.trans d);have N2:=xQ a5;have z2:=d.sz;have bb:=xQ (aUu (q2:=some ⟨gL,0,none⟩) (m:=l) (c2:=lc) (B2:=0) (sz2:=0) (e2:=TI) (ys:= []) a5 (fun g hg=>by simp[Value.ownBlock]at hg;omega) (by simp[Value.ownBlock]));clear HF HL HB b a5 hx d a9;go_wp2;obtain⟨wo,rfl⟩: ∃wo:World,wo=wi:=⟨_,rfl⟩
     go_loopw [9,12] (fun v i wr=> ∃(j:Nat) (q:OA) (l2 lc:Nat) (D2:List Int) (Q2:List Nat),j≤nb.length∧i=I j∧v= .slice q l2 lc∧l2=Q2.length∧(D2,Q2)=bY (D.getD u 0+1) (D,Q) ((nb.take j).filter (fun(v:Nat)=>decide ((v:Int)≠a)))∧(∀x∈D2,-1≤x∧x≤(k:Int)+1)∧wr.ownsRow (w.heap.size+1) TI 1 (.slice (some ⟨gF,0,none⟩) n c) n (ivs D2)∧wr.ownsRow w1 TI 1 (.slice q l2 lc) l2 (ivs (bO Q2))∧wr.ownsRow wr1 TI 1 (.slice q5 nb c5) nb.length (ivs (bO nb))∧(Value.slice q l2 lc).ownBlock≠(Value.slice q5 nb c5).ownBlock∧Ext w wr∧Blk wr w TH3 #[aA,aB,.slice p n f]∧wo.heap.size≤wr.heap.size) (fun _ i _=>nb.length-(intOf i).toNat)
     case atStart=>exact⟨0,_,l,lc,D,Q,aW6 _,rfl,rfl,ag.out,by simp[bY],fun x hx=>by have:=a8 x hx;omega,F2.out,L2.out,N2.out,bb.out,X2.out,B2.out,aVz _⟩
     case round=>
      clear F2 L2 B2 X2 N2 bb;obtain⟨j,q,l2,lc,D2,Q2,hj,rfl,rfl,ar,a3,ah,hF,hL,hN,bp,b,hB,av⟩:=hrel;have br:u∈Q:=aW1 HU.out;have z:Mid (uU aA n a) [src] n k u ((nb.take j).filter (fun(v:Nat)=>decide ((v:Int)≠a))) (D,Q) (D2,Q2):=by
       rw[a3]
       have:=Mid.many br ((nb.take j).filter (fun(v:Nat)=>decide ((v:Int)≠a))) [] (D,Q) (HI.out.mid HU.out) (fun v hv=>by
        have h1:=aWy.1 hv;have h2:v∈aU aA n u:=by rw[←aw.out];exact aXq h1.1
        exact⟨aWy.2 ⟨h2,h1.2⟩,(cH.1 h2).1⟩)
       simpa using this
      have bc:D2.length=n:=z.len;have da:Q2.length≤n:=sQ z.nodup z.bd;have a6:D2.getD u 0=D.getD u 0:=z.same u br;obtain⟨r,hr⟩:=z.pre;dsimp only at hr;have cc:k<Q2.length:=by rw[hr,aW5];have:=ag.out;omega
      have bi:Q2[k]? =some u:=by have:=ag.out;rw[hr,aWl (by omega)];exact HU.out
      have af:=eE (D:=D2) (v:=u) (by omega);have cq: -1≤D2.getD u 0:=(ah _ af.2).1;have cr:D2.getD u 0≤(k:Int):=by rw[a6];exact(a8 _ (eE (D:=D) (v:=u) (by have:=HI.out.len;dsimp only at this;omega)).2).2
      have HF:=xQ hF;have HL:=xQ hL;have HN:=xQ hN;have ak:=xQ bp;have HB:=xQ hB;have aj:=xQ a3;have ab:=xQ ah;have ad:=xQ ar;have bw:=xQ bi;have bu:=xQ af.1;have bx:=xQ a6;have ct:l2≤n:=by omega
      have cs:k<l2:=by omega
      have be:=xQ bc;clear hF hL hN bp hB a3 ah ar bi af a6 hr z bc cc;by_cases hlt3:j<nb.length
      ·obtain⟨v,hv⟩: ∃v,nb[j]? =some v:=⟨_,aW0 hlt3⟩
       have cg:v<n:=(cH.1 (by rw[←aw.out];exact aW1 hv:v∈aU aA n u)).1;have HV:=xQ hv;clear hv;obtain⟨gN,rfl,c8,c9⟩:=gH HN (by omega);obtain⟨gL,rfl,b9,ca⟩:=gH HL (by omega);obtain⟨dv,bl,aq⟩: ∃dv,D2[v]? =some dv∧D2.getD v 0=dv:=⟨_,(eE (D:=D2) (v:=v) (by rw[be.out];exact cg)).1,rfl⟩
       have ba:=xQ bl;have an:=xQ aq;clear bl aq;have m1:=aYp j;have m2:(j:Int)<(nb.length:Int):=by omega
       have m3:=aYp v;have m4:=aYq v n;have m5:=aYq k l2;have cn:wr.cell? ⟨gN,j,none⟩=some (I v):=by have:=HN.out.cellAt j (by omega);rw[this];simp[ivs,bO,HV.out]
       have cf:wr.cell? ⟨gF,v,none⟩=some (I dv):=by have:=HF.out.cellAt v (by omega);rw[this];simp[ivs,ba.out]
       by_cases hvb:(v:Int)=a
       ·have t0:((v:Int)!=a)=false:=by simp[hvb]
        have y:=xQ (aN2 HV hvb);clear hvb;go_wp2;go_roundw
        case rel=>exact⟨j+1,_,l2,lc,D2,Q2,by omega,by go_num,rfl,ad.out,by rw[y.out];exact aj.out,ab.out,HF.out,HL.out,HN.out,ak.out,b,HB.out,av⟩
        case measure=>simp[intOf];omega
       have t0:((v:Int)!=a)=true:=by simp[hvb]
       have y:=xQ (aJd HV hvb);clear hvb;by_cases hd0:dv<0
       ·have t1:decide (dv<0)=true:=by simp[hd0]
        have aa:Hid ((D2.set v (D.getD u 0+1),Q2++ [v])=bY (D.getD u 0+1) (D,Q) ((nb.take (j+1)).filter (fun(v:Nat)=>decide ((v:Int)≠a)))):=by show _=_;rw[y.out,eT,←aj.out,nT (by rw[an.out];exact hd0)]
        obtain⟨du,af⟩: ∃du,du=D2.getD u 0:=⟨_,rfl⟩
        have am:=xQ af;have c0: -1≤du:=by omega
        have c1:du≤(k:Int):=by omega
        have cw:=aYs (du+1);clear af hd0;go_wp2;refine rL (gl [gEq (.slice (some ⟨gF,0,none⟩) n c),gEq (.slice (some ⟨gN,0,none⟩) nb c5),gEq (j:Int),gEq (.pointer (some ⟨gN,j,none⟩)),gEq (v:Int),gEq (.slice (some ⟨gF,0,none⟩) n c),gEq (.slice (some ⟨gL,0,none⟩) l2 lc),gEq (k:Int),gEq (.pointer (some ⟨gL,k,none⟩)),gEq (u:Int),gEq (.pointer (some ⟨gF,u,none⟩)),gEq du,gEq (du+1:Int),gEq (.pointer (some ⟨gF,v,none⟩))]) 14 15 [(0,some 63),(1,some 64),(2,some 65),(3,some 66),(4,some 67),(5,some 68),(6,some 69),(7,some 70),(8,some 71),(9,some 72),(10,some 73),(11,some 74),(12,some 75),(13,some 76)] ?steps ?fin
        case steps=>
         refine sC [] rfl (fun wj hx=> ?_) ?_
         ·intro K hK;go_simp;exact hK _ _ ⟨.slice (some ⟨gF,0,none⟩) n c,rfl,rfl,Ext.refl _⟩
         refine sC [] rfl (fun wj hx=> ?_) ?_
         ·intro K hK;go_simp;exact hK _ _ ⟨.slice (some ⟨gN,0,none⟩) nb c5,rfl,rfl,Ext.refl _⟩
         refine sC [] rfl (fun wj hx=> ?_) ?_
         ·intro K hK;go_simp;exact hK _ _ ⟨I j,rfl,rfl,Ext.refl _⟩
         refine sC [(1,some 64),(2,some 65)] rfl (fun wj hx=> ?_) ?_
         ·intro v1 h1 v2 h2 K hK;subst h1 h2;go_simp;exact hK _ _ ⟨.pointer (some ⟨gN,j,none⟩),rfl,rfl,Ext.refl _⟩
         refine sC [(3,some 66)] rfl (fun wj hx=> ?_) ?_
         ·intro v3 h3 K hK;obtain rfl:=h3;have cv:wj.cell? ⟨gN,j,none⟩=some (I v):=by have:=(aM HN hx.of_drew).cellAt j (by omega);rw[this];simp[ivs,bO,HV.out]
          go_simp;exact hK _ _ ⟨I v,rfl,rfl,Ext.refl _⟩
         refine sC [] rfl (fun wj hx=> ?_) ?_
         ·intro K hK;go_simp;exact hK _ _ ⟨.slice (some ⟨gF,0,none⟩) n c,rfl,rfl,Ext.refl _⟩
         refine sC [] rfl (fun wj hx=> ?_) ?_
         ·intro K hK;go_simp;exact hK _ _ ⟨.slice (some ⟨gL,0,none⟩) l2 lc,rfl,rfl,Ext.refl _⟩
         refine sC [] rfl (fun wj hx=> ?_) ?_
         ·intro K hK;go_simp;exact hK _ _ ⟨I k,rfl,rfl,Ext.refl _⟩
         refine sC [(6,some 69),(7,some 70)] rfl (fun wj hx=> ?_) ?_
         ·intro v6 h6 v7 h7 K hK;subst h6 h7;go_simp;exact hK _ _ ⟨.pointer (some ⟨gL,k,none⟩),rfl,rfl,Ext.refl _⟩
         refine sC [(8,some 71)] rfl (fun wj hx=> ?_) ?_
         ·intro v8 h8 K hK;obtain rfl:=h8;have cv:wj.cell? ⟨gL,k,none⟩=some (I u):=by have:=(aM HL hx.of_drew).cellAt k (by omega);rw[this];simp[ivs,bO,bw.out]
          go_simp;exact hK _ _ ⟨I u,rfl,rfl,Ext.refl _⟩
         refine sC [(5,some 68),(9,some 72)] rfl (fun wj hx=> ?_) ?_
         ·intro v5 h5 v9 h9 K hK;subst h5 h9;go_simp;exact hK _ _ ⟨.pointer (some ⟨gF,u,none⟩),rfl,rfl,Ext.refl _⟩
         refine sC [(10,some 73)] rfl (fun wj hx=> ?_) ?_
         ·intro co ax K hK;obtain rfl:=ax;have cv:wj.cell? ⟨gF,u,none⟩=some (I du):=by have:=(aM HF hx.of_drew).cellAt u (by omega);rw[this,am.out];simp only[ivs,aWp,bu.out,aX2]
          go_simp;exact hK _ _ ⟨I du,rfl,rfl,Ext.refl _⟩
         refine sC [(11,some 74)] rfl (fun wj hx=> ?_) ?_
         ·intro cp ay K hK;obtain rfl:=ay;go_simp;exact hK _ _ ⟨I (du+1),rfl,rfl,Ext.refl _⟩
         refine sC [(0,some 63),(4,some 67)] rfl (fun wj hx=> ?_) StepsL.nil
         ·intro v0 h0 v4 h4 K hK;subst h0 h4;go_simp;exact hK _ _ ⟨.pointer (some ⟨gF,v,none⟩),rfl,rfl,Ext.refl _⟩
        case fin=>
         intro wj hx v0 h0 v1 h1 v2 h2 v3 h3 v4 h4 v5 h5 v6 h6 v7 h7 v8 h8 v9 h9 co ax cp ay de b6 df b7;subst h0 h1 h2 h3 h4 h5 h6 h7 h8 h9;obtain rfl:=ax;obtain rfl:=ay;obtain rfl:=b6;obtain rfl:=b7;have d:=hx.of_drew;have F3:=xQ (aM HF d);have L3:=xQ (aM HL d);have N3:=xQ (aM HN d);have B3:=xQ (HB.out.ext d);have X3:=xQ (b.trans d);have z3:=d.sz;clear HF HL HN HB b hx d cn cf;have b3:wj.cell? ⟨gF,v,none⟩=some (I dv):=by have:=F3.out.cellAt v (by omega);rw[this];simp[ivs,ba.out]
         have b5:wj.frozen? ⟨gF,v,none⟩=false:=F3.out.frozenAt v;refine wpAny_ready (rs:= [14]) (by kernel_rfl) (by simp) ?_;refine AllReady.cons rfl (fun K hK=> ?_) AllReady.nil;go_simp;refine hK _ _ ?_;clear hK K b3 b5;have y4:=(F3.out.stored v (I (du+1))).1;have ae:ExtR gF wj _:=(F3.out.stored v (I (du+1))).2;generalize ci:World.setCell _ _ _=w4 at*;clear ci;have F4:=xQ (show w4.ownsRow (w.heap.size+1) TI 1 (.slice (some ⟨gF,0,none⟩) n c) n (ivs (D2.set v (du+1))) by rw[←eW];exact y4);have L4:=xQ (L3.out.kept ae (.inr (by simp[Value.ownBlock];omega)));have N4:=xQ (N3.out.kept ae (.inr (by simp[Value.ownBlock];omega)));have B4:=xQ (show Blk w4 w TH3 #[aA,aB,.slice p n f]from(ae.block _ B3.out.lt (by simp;omega)).trans B3.out);have X4:=xQ (ExtR.new X3 ae (by omega));have z4:=ae.sz;clear F3 L3 N3 B3 X3 y4 ae;refine wpAny_done (by kernel_rfl) ?_ _;have b4:w4.cell? ⟨gN,j,none⟩=some (I v):=by have:=N4.out.cellAt j (by omega);rw[this];simp[ivs,bO,HV.out]
         have c4:=(N4.out.lt gN rfl).2;have c3:=(L4.out.lt gL rfl).2;have cb:(w1:Nat)≤w4:=by omega
         go_wp2_with (at_builtin;refine jN rfl _ _ rfl w1 _ _ _ rfl (L4.out.alloc _) _ _ (v:Int) _ rfl (by simp) (by omega) (aW8 cb (by simp)) ?_;intro p' t w9 o bm ao;have s:World.grownBy _ w9 (Value.slice (some ⟨gL,0,none⟩) l2 lc).ownBlock:=bm;have ap:(Value.slice p' (l2+1) t).ownBlock=(Value.slice (some ⟨gL,0,none⟩) l2 lc).ownBlock∨(Value.slice p' (l2+1) t).ownBlock=some (w4.alloc (.cells #[v] TI)).heap.size:=ao;have F5:=xQ ((F4.out.alloc _).kept s (.inr (by simp[Value.ownBlock];omega)));have N5:=xQ ((N4.out.alloc _).kept s (.inr (Ne.symm ak.out)));have L5:=xQ o;have E5:=xQ (Ext.own (X4.out.alloc _) (L4.out.alloc _) s (by omega));have B5:=xQ ((B4.out.alloc _).grown s (by simp[Value.ownBlock];omega));have z9:=s.size;have A5:=xQ ap;clear o s ap bm ao);have bz:Hid ((Value.slice p' (l2+1) t).ownBlock≠(Value.slice (some ⟨gN,0,none⟩) nb c5).ownBlock):=by
          show _≠_;rcases A5.out with h|h
          ·rw[h];exact ak.out
          rw[h];simp[Value.ownBlock];omega
         have dg:(w4:Nat)≤w9:=aW8 (by simp) z9;clear z9 b4;go_roundw
         case rel=>
          refine⟨j+1,p',l2+1,t,D2.set v (du+1),Q2++ [v],by omega,by go_num,rfl,by simp[ad.out],?_,?_,F5.out,?_,N5.out,bz.out,E5.out,B5.out,by omega⟩
          ·rw[am.out,bx.out];exact aa.out
          ·intro x hx;rcases aXa hx with h|h
           ·exact ab x h
           omega
          have:=L5.out;simpa[bO]using this
         case measure=>simp[intOf];omega
       have t1:decide (dv<0)=false:=by simp[hd0]
       have aa:Hid ((D2,Q2)=bY (D.getD u 0+1) (D,Q) ((nb.take (j+1)).filter (fun(v:Nat)=>decide ((v:Int)≠a)))):=by show _=_;rw[y.out,eT,←aj.out,pV (by rw[an.out];exact hd0)]
       clear hd0;go_wp2;go_roundw
       case rel=>exact⟨j+1,_,l2,lc,D2,Q2,by omega,by go_num,rfl,ad.out,aa.out,ab.out,HF.out,HL.out,HN.out,ak.out,b,HB.out,av⟩
       case measure=>simp[intOf];omega
      have bn:j=nb.length:=by omega
      have bg:Hid (Inv (uU aA n a) [src] n (k+1) (D2,Q2)):=by
       have h1:=HI.out.step HU (fun v hv=>aNc hv);have h2:=aj.out;rw[bn,aXt]at h2;have h3:nb.filter (fun(v:Nat)=>decide ((v:Int)≠a))=uU aA n a u:=by rw[aw.out];rfl
       rw[h3]at h2;rw[h2];exact h1
      have bk:Hid (∀x∈D2,-1≤x∧x≤((k+1:Nat):Int)):=fun x hx=>by have:=ab x hx;omega
      clear bn;go_wp2;go_roundw
      case rel=>exact⟨k+1,_,l2,lc,D2,Q2,by omega,by go_num,rfl,ad.out,bk.out,bg.out,HF.out,HL.out,b,HB.out,by omega⟩
      case measure=>simp[intOf];omega
   have a0:=xQ (HI.out.dist (by have:=ag.out;dsimp only;omega));have bf:=HI.out.len;have bt:=xQ bf;clear bf;go_wp2;go_ret;exact⟨D,a0.out,fE bt (bF HF (Nat.le_succ _)) b⟩
theorem aOm (b:Int)(xs:List Int)(w:World)(hS:Sl w p n a 1 (ivs xs))(c:aO aA aB xs=true)(hs:src<n):
  U 216 #[aH aA aB p n a,src,b] w fun e w'=> ∃D,yD (uU aA n b) [src] n D∧cC D w e w':=by
 have hl:=hS.ilen;obtain⟨g1,g2,g3,g4,g5,g6,g7,g8,g9⟩:=bS c
 exact aNy aA aB p n a src b w (by omega) (by omega) hs (fun k hk w' hx=>by
  have:=aKm aA aB k p n a xs w' (hS.ext hx) c (by omega) (by omega)
  rwa[nY]at this)
end
def oA (aA:Int)(n u:Nat):Nat:=((aU aA n u).find? (fun(v:Nat)=>decide (bE aA v 0=bE aA u 0-1))).getD 0
def dS (aA:Int)(n:Nat):Nat→Nat→List Nat
 |0,u=> [u]
 |f+1,u=>if u=0 then [u]else u::dS aA n f (oA aA n u)
def lD:List (Int×Nat):= [(2,4),(2,6),(3,6),(3,9),(4,8),(4,12)]
def aU6 (aA:Int)(n:Nat):Bool:=
 (List.range n).all fun u=>decide (0≤bE aA u 0∧bE aA u 0≤5)&&decide (bE aA u 0=0↔u=0)
  &&(decide (u=0) || (decide (oA aA n u<n)&&decide (oA aA n u∈aU aA n u)&&decide (bE aA (oA aA n u) 0=bE aA u 0-1)))
  &&(List.range n).all fun v=> !decide (v∈aU aA n u) || decide (bE aA u 0≤bE aA v 0+1)
theorem aSb:(lD.all fun g=>aU6 g.1 g.2)=true:=by decide+kernel
theorem vY {aA aB:Int}{n:Nat}(h0:2≤aA)(h1:aA≤4)(h2:2≤aB)(h3:aB≤3)(hn:(n:Int)=aA*aB):(aA,n)∈lD:=by
 have hw:aA=2∨aA=3∨aA=4:=by omega
 have hd:aB=2∨aB=3:=by omega
 rcases hw with rfl|rfl|rfl<;>rcases hd with rfl|rfl
 ·obtain rfl:n=4:=by omega
  decide
 ·obtain rfl:n=6:=by omega
  decide
 ·obtain rfl:n=6:=by omega
  decide
 ·obtain rfl:n=9:=by omega
  decide
 ·obtain rfl:n=8:=by omega
  decide
 obtain rfl:n=12:=by omega
 decide
theorem cL {aA:Int}{n:Nat}(h:(aA,n)∈lD){u:Nat}(hu:u<n):
  0≤bE aA u 0∧bE aA u 0≤5∧(bE aA u 0=0↔u=0)
  ∧(u≠0→oA aA n u<n∧oA aA n u∈aU aA n u∧bE aA (oA aA n u) 0=bE aA u 0-1)
  ∧ ∀v∈aU aA n u,bE aA u 0≤bE aA v 0+1:=by
 have h1:=aWo.1 aSb _ h;have h2:=aWo.1 h1 u (aWm.2 hu);simp only[aWc,Bool.or_eq_true,decide_eq_true_eq]at h2;obtain⟨⟨⟨⟨a,b⟩,c⟩,d⟩,e⟩:=h2;refine⟨a,b,c,fun h=> ?_,fun v hv=> ?_⟩
 ·rcases d with d|d
  ·exact absurd d h
  exact⟨d.1.1,d.1.2,d.2⟩
 have:=aWo.1 e v (aWm.2 (cH.1 hv).1);simpa[hv]using this
theorem aEz {aA:Int}{n:Nat}(h:(aA,n)∈lD){adj:Nat→List Nat}(ha: ∀u,adj u=aU aA n u)(hD:yD adj [0] n D){u:Nat}(hu:u<n):D.getD u 0=bE aA u 0:=by
 have hn:0<n:=by omega
 have up: ∀(d:Nat) v,v<n→bE aA v 0=d→0≤D.getD v 0∧D.getD v 0≤d:=by
  intro d;induction d with
  |zero=>intro v hv e;have e0:=(cL h hv).2.2.1.1 e;have:=(hD.zero v hv).2 (by simp[e0]);omega
  |succ d ih=>
   intro v hv e;have g:v≠0:=fun e0=>by have:=(cL h hv).2.2.1.2 e0;omega
   obtain⟨h1,h2,h3⟩:=(cL h hv).2.2.2.1 g;obtain⟨i1,i2⟩:=ih _ h1 (by omega);have:=hD.edge _ v h1 i1 (by rw[ha];exact jD hv h2);omega
 have f: ∀(d:Nat) v,v<n→D.getD v 0=d→bE aA v 0≤d:=by
  intro d;induction d with
  |zero=>intro v hv e;have hm:=(hD.zero v hv).1 e;simp at hm;have:=(cL h hv).2.2.1.2 hm;omega
  |succ d ih=>intro v hv e;obtain⟨x,hx,hm,e2⟩:=hD.back v hv (by omega);have i1:=ih x hx (by omega);rw[ha]at hm;have:=(cL h hv).2.2.2.2 x (jD hx hm);omega
 obtain⟨a,b,_⟩:=cL h hu;obtain⟨c,e⟩:=up (bE aA u 0).toNat u hu (by omega);have:=f (D.getD u 0).toNat u hu (by omega);omega
theorem aN1 {α:Type}{p:α→Bool}{d x:α}: ∀ {l:List α},x∈l→p x=true→ ∃j,j<l.length∧l[j]? =some ((l.find? p).getD d)∧p ((l.find? p).getD d)=true∧ ∀i y,i<j→l[i]? =some y→p y=false:=by
 intro l;induction l with
 |nil=>intro h;simp at h
 |cons a l ih=>
  intro hx hp;by_cases ha:p a=true
  ·refine⟨0,by simp,by simp[ha],by simp[ha],fun i y hi=>by omega⟩
  have b:p a=false:=by simpa using ha
  have c:x∈l:=by
   rcases aWd.1 hx with e|e
   ·subst e;exact absurd hp ha
   exact e
  obtain⟨j,h1,h2,h3,h4⟩:=ih c hp;have e:((a::l).find? p).getD d=(l.find? p).getD d:=by rw[List.find?_cons_of_neg (by simp[b])]
  refine⟨j+1,by simp;omega,by rw[e];simpa using h2,by rw[e];exact h3,?_⟩;intro i y hi hy;cases i with
  |zero=>simp at hy;subst hy;exact b
  |succ i=>exact h4 i y (by omega) (by simpa using hy)
theorem aMm {aA:Int}{n:Nat}(h:(aA,n)∈lD){u:Nat}(hu:u<n)(h0:u≠0):
  ∃j,j<(aU aA n u).length∧(aU aA n u)[j]? =some (oA aA n u)∧ ∀i v,i<j→(aU aA n u)[i]? =some v→bE aA v 0≠bE aA u 0-1:=by
 obtain⟨a,b,c⟩:=(cL h hu).2.2.2.1 h0;obtain⟨j,h1,h2,_,h4⟩:=aN1 (p:=fun(v:Nat)=>decide (bE aA v 0=bE aA u 0-1)) (d:=0) b (by simpa using c);exact⟨j,h1,h2,fun i v hi hv=>by simpa using h4 i v hi hv⟩
theorem pR {aA:Int}{n:Nat}(h:(aA,n)∈lD): ∀(f u:Nat),u<n→bE aA u 0≤f→((dS aA n f u).length:Int)=bE aA u 0+1:=by
 intro f;induction f with
 |zero=>intro u hu hf;have:=(cL h hu).1;simp[dS];omega
 |succ f ih=>
  intro u hu hf;unfold dS;by_cases h0:u=0
  ·rw[if_pos h0];have:=(cL h hu).2.2.1.2 h0;simp;omega
  rw[if_neg h0];obtain⟨a,b,c⟩:=(cL h hu).2.2.2.1 h0;have:=ih _ a (by omega);simp;omega
theorem yF:(dS aA n f u)[0]? =some u:=by
 cases f with
 |zero=>simp[dS]
 |succ f=>unfold dS;split<;>simp
theorem zO {aA:Int}{n:Nat}(h:(aA,n)∈lD): ∀(f u k x y:Nat),u<n→(dS aA n f u)[k]? =some x→(dS aA n f u)[k+1]? =some y→y<n∧y∈aU aA n x:=by
 intro f;induction f with
 |zero=>intro u k x y hu hx hy;simp[dS]at hy
 |succ f ih=>
  intro u k x y hu hx hy;unfold dS at hx hy;by_cases h0:u=0
  ·rw[if_pos h0]at hy;simp at hy
  rw[if_neg h0]at hx hy;obtain⟨a,b,c⟩:=(cL h hu).2.2.2.1 h0;cases k with
  |zero=>simp at hx hy;have:=yF aA n f (oA aA n u);rw[hy]at this;injection this with e;subst hx e;exact⟨a,b⟩
  |succ k=>exact ih _ k x y a (by simpa using hx) (by simpa using hy)
theorem aMi {aA:Int}{n:Nat}(h:(aA,n)∈lD): ∀(f u x:Nat),u<n→x∈dS aA n f u→x<n:=by
 intro f;induction f with
 |zero=>intro u x hu hx;simp[dS]at hx;omega
 |succ f ih=>
  intro u x hu hx;unfold dS at hx;by_cases h0:u=0
  ·rw[if_pos h0]at hx;simp at hx;omega
  rw[if_neg h0]at hx;obtain⟨a,b,c⟩:=(cL h hu).2.2.2.1 h0;rcases aWd.1 hx with e|e
  ·omega
  exact ih _ x a e
section
open Go.RowKit
theorem aJr:uU aA n (-1) u=aU aA n u:=by unfold uU;rw[List.filter_eq_self];intro v hv;first|(simp;done)|(simp;omega)
theorem aQ0 (g u:Nat)(R:Int)(w:World)(hg:Hid ((aA,n)∈lD))(bw:4≤n)(hn:n≤12)(hu:u<n)(hR:Hid (R=bE aA u 0))(bu:0≤R)(HP:xC 170 #[aH aA aB p n g,u,()] w fun w' e w''=>e= .returned (I R)∧Ext w' w'')(HF:xC 216 #[aH aA aB p n g,(),(-1:Int)] w fun w' e w''=> ∃D,(D.length=n∧ ∀v,v<n→D.getD v 0=bE aA v 0)∧cC D w' e w'')(HC:Hid (∀(k:Nat),k<n→ ∀w',Ext w w'→U 217 #[aH aA aB p n g,k] w' (cC (bO (aU aA n k)) w'))):
  U 196 #[aH aA aB p n g,u,(),(-1:Int)] w (cC (bO (dS aA n 12 u)) w):=by
 have a1:=aYp u;have a2:=aYq u n;have a3:((-1:Int)==(u:Int))=false:=by first|(simp;done)|(simp;omega)
 have a4:decide (R<0)=false:=by first|(simp;done)|(simp;omega)
 go_enter func196,ntmps196;go_wp2_with fail;refine Ω (HP _ (by exact .alloc (.alloc (.refl _) _) _)) fun w1 ah=>?_
 have B1:=xQ (((Blk.new w TH3 #[aA,aB,.slice p n g]).alloc (.cells #[] TI)).ext ah);have ho:((w.alloc (.cells #[aA,aB,.slice p n g] TH3)).alloc (.cells #[] TI)).ownsRow (w.heap.size+1) TI 1 (.slice (some ⟨(w.alloc (.cells #[aA,aB,.slice p n g] TH3)).heap.size,0,none⟩) 0 0) 0 []:=aX7 _ #[] 0 (by simp) (by simp[maxLen]) rfl;have O1:=xQ (aM ho ah);have X1:Ext w w1:=(((Ext.refl _).alloc _).alloc _).trans ah;have s1:w.heap.size+1<w1.heap.size:=by have:=ah.sz;simp at this;omega
 clear ho ah;obtain⟨b0,b1,b2⟩:=B1.out.cells3;have n1:=aYs ((n:Int)-1);have t1:decide ((-1:Int)≤ -1∧(-1:Int)≤(n:Int)-1)=true:=by first|(simp;done)|(simp;omega)
 have HI:Hid (∀w,U 32 #[(-1:Int),(-1:Int),((n:Int)-1:Int)] w fun e w'=>e= .returned (.bool true)∧w=w'):=fun w=>by have:=xH (-1) (-1) ((n:Int)-1) w;rwa[t1]at this
 clear t1;go_wp2_with fail;refine(HI _).mono ?_;rintro e w2 ⟨rfl,rfl⟩;go_wp2_with fail;clear b0 b1 b2;refine(HF _ (by exact X1)).mono ?_;rintro e w2 ⟨D,⟨au,a8⟩,q2,c2,rfl,o2,an⟩;rw[au]at o2⊢;have HD:=xQ au;have HV:=xQ a8;have X2:=xQ (X1.trans an);have O2:=xQ (aM O1 an);have ar:=xQ (show w2.ownsRow (w.heap.size+1) TI 1 (.slice (some ⟨w.heap.size+1,0,none⟩) 0 0) 0 (ivs []) by simpa using O2.out);have B2:=xQ (B1.out.ext an);clear au a8 an O1 X1;have s2:=B2.out.lt;obtain⟨gF,rfl,bq,br⟩:=gH o2 (by omega);have F2:=xQ (bF o2 (Nat.le_of_lt s1));clear o2 B1;have dU:D[u]? =some R:=by have:=(eE (D:=D) (v:=u) (by rw[HD.out];exact hu)).1;rw[this,HV u hu,hR.out]
 have cU:w2.cell? ⟨gF,u,none⟩=some (I R):=by have:=F2.out.cellAt u (by omega);rw[this];simp[ivs,dU]
 clear dU;obtain⟨wA,bm⟩: ∃wA:World,wA=w2:=⟨_,rfl⟩
 have bj:w.heap.size+1≤w2.heap.size:=s2;go_wp2_with (at_builtin;go_loud (refine jN rfl _ _ rfl (w.heap.size+1) _ _ [] rfl (ar.out.alloc _) _ _ (u:Int) _ rfl (by simp) (by omega) (aW8 bj (by simp)) ?_;intro p' a w3 c ad m;have r:(Value.slice p' (0+1) a).ownBlock=(Value.slice (some ⟨w.heap.size+1,0,none⟩) 0 0).ownBlock∨(Value.slice p' (0+1) a).ownBlock=some (w2.alloc (.cells #[u] TI)).heap.size:=m;have b:World.grownBy _ w3 (Value.slice (some ⟨w.heap.size+1,0,none⟩) 0 0).ownBlock:=ad;have X3:=xQ (Ext.own (X2.out.alloc _) (ar.out.alloc _) b (by omega));have B3:=xQ ((B2.out.alloc _).grown b (by first|(simp[Value.ownBlock];done)|(simp[Value.ownBlock];omega)));have F3:=xQ ((F2.out.alloc _).kept b (.inr (by first|(simp[Value.ownBlock];done)|(simp[Value.ownBlock];omega))));have O3:=xQ c;have z3:=b.size;have A3:=xQ r;clear c ad r b m));have a7:Hid ((Value.slice p' (0+1) a).ownBlock≠some gF):=by
  show _≠_;rcases A3.out with h|h
  ·rw[h];simp[Value.ownBlock];(try omega)
  rw[h];simp;omega
 clear A3 X2 B2 F2 O2 ar bm wA z3 cU;have aw:=xQ (cL hg.out hu);go_wp2;go_loopw [1,9] (fun v o wr=> ∃(x f:Nat) (pre:List Nat) (q:OA) (l lc:Nat),v=I x∧x<n∧bE aA x 0≤f∧pre++dS aA n f x=dS aA n 12 u∧o= .slice q l lc∧l=pre.length+1∧wr.ownsRow (w.heap.size+1) TI 1 (.slice q l lc) l (ivs (bO (pre++ [x])))∧wr.ownsRow (w.heap.size+1) TI 1 (.slice (some ⟨gF,0,none⟩) n c2) n (ivs D)∧(Value.slice q l lc).ownBlock≠some gF∧Ext w wr∧Blk wr w TH3 #[aA,aB,.slice p n g]∧w3.heap.size≤wr.heap.size) (fun v _ _=>(bE aA (intOf v) 0).toNat)
 case atStart=>exact⟨u,12,[],p',1,a,rfl,hu,by have:=aw.out.2.1;omega,rfl,rfl,rfl,by simpa[bO]using O3.out,F3.out,a7.out,X3.out,B3.out,aVz _⟩
 case round=>
  clear O3 F3 a7 X3 B3;obtain⟨x,f,pre,q,l,lc,rfl,hx,hf,ag,rfl,hl,hO,hF,bd,al,hB,bx⟩:=hrel;have aq:=xQ hO;have a0:=xQ hF;have a6:=xQ bd;have HB:=xQ hB;have HW:=xQ ag;have ap:=xQ (cL hg.out hx);have az:=xQ hf;have bo:l≤12:=by have h1:=congrArg List.length ag;have h2:=pR hg.out f x hx hf;have h3:=pR hg.out 12 u hu (by have:=aw.out.2.1;omega);have h4:=aw.out.2.1;have h5:=ap.out.1;rw[aW5]at h1;omega
  have bz:=HB.out.lt;have a5:=xQ hl;clear hO hF bd hB ag hf hl;by_cases h0:x=0
  ·have t0:((x:Int)!=0)=false:=by simp[h0]
   have ao:Hid (pre++ [x]=dS aA n 12 u):=by show _=_;rw[←HW.out];subst h0;cases f<;>simp[dS]
   clear h0;go_wp2;go_ret;exact fE (by rw[←ao.out];have:=a5.out;simp[bO];omega) (by rw[←ao.out];exact bF aq (Nat.le_succ _)) al
  have t0:((x:Int)!=0)=true:=by simp[h0]
  obtain⟨J,bi,am,av⟩:=aMm hg.out hx h0;obtain⟨e1,e2,e3⟩:=ap.out.2.2.2.1 h0;have bn:=xQ h0;obtain⟨y,hy⟩: ∃y,y=oA aA n x:=⟨_,rfl⟩
  rw[←hy]at am e1 e2 e3;have HY:=xQ hy;clear hy h0;obtain⟨nb,ae⟩: ∃nb,nb=aU aA n x:=⟨_,rfl⟩
  rw[←ae]at bi am av;have ay:Hid (∀w',Ext w w'→U 217 #[aH aA aB p n g,x] w' (cC (bO nb) w')):=by rw[ae];exact HC x hx
  have bg:=xQ ae;have bk:nb.length≤12:=by rw[ae];exact aW8 (aXc _ _) (by simp;omega)
  have a9:=xQ am;have ba:=xQ av;have ak:=xQ e3;clear ae am av e2 e3;have bc:(bO nb).length=nb.length:=by simp[bO]
  obtain⟨b0,b1,b2⟩:=HB.out.cells3;go_wp2_with fail;clear b0 b1 b2;refine(ay _ al).mono ?_;rintro e w5 ⟨q5,c5,rfl,o5,ai⟩;rw[bc]at o5⊢;obtain⟨gN,rfl,bs,bt⟩:=gH o5 (by omega);have O5:=xQ (aM aq ai);have F5:=xQ (aM a0 ai);have B5:=xQ (HB.out.ext ai);have X5:=xQ (al.trans ai);have N5:=xQ o5;clear aq a0 HB al o5 ai ay;go_wp2;go_loopw [12] (fun i wz=> ∃j:Nat,j≤J∧i=I j∧Ext w5 wz) (fun i _=>J-(intOf i).toNat)
  case atStart=>exact⟨0,aW6 _,rfl,Ext.refl _⟩
  case round=>
   obtain⟨j,hj,rfl,hZ⟩:=hrel;obtain⟨v,hv⟩: ∃v,nb[j]? =some v:=⟨_,aW0 (by omega)⟩
   have af:v<n:=(cH.1 (by rw[←bg.out];exact aW1 hv:v∈aU aA n x)).1;have aj:=xQ hv;have aa:=(eE (D:=D) (v:=v) (by rw[HD.out];exact af)).1;have ab:=(eE (D:=D) (v:=x) (by rw[HD.out];exact hx)).1;rw[HV v af]at aa;rw[HV x hx]at ab;obtain⟨dv,s⟩: ∃d,d=bE aA v 0:=⟨_,rfl⟩
   obtain⟨dx,z⟩: ∃d,d=bE aA x 0:=⟨_,rfl⟩
   have gv:=cL hg.out af;have gx:=ap.out;rw[←s]at aa gv;rw[←z]at ab gx;have m1:=aYp j;have m2:(j:Int)<(nb.length:Int):=by omega
   have m3:=aYp v;have m4:=aYq v n;have m5:=aYp x;have m6:=aYq x n;have m7:((v:Int)== -1)=false:=by first|(simp;done)|(simp;omega)
   have w7:=aYs (dx-1);have FZ:=xQ (aM F5 hZ);have NZ:=xQ (aM N5 hZ);have cn:wr.cell? ⟨gN,j,none⟩=some (I v):=by have:=NZ.out.cellAt j (by omega);rw[this];simp[ivs,bO,aj.out]
   have cf:wr.cell? ⟨gF,v,none⟩=some (I dv):=by have:=FZ.out.cellAt v (by omega);rw[this];simp only[ivs,aWp,aa,aX2]
   have cx:wr.cell? ⟨gF,x,none⟩=some (I dx):=by have:=FZ.out.cellAt x (by omega);rw[this];simp only[ivs,aWp,ab,aX2]
   by_cases hjJ:j<J
   ·have be:(dv !=dx-1)=true:=by
     have:=ba.out j v hjJ aj.out;rw[←s,←z]at this;simpa using this
    clear aa ab s z gv gx;go_wp2;go_quiet (fail);go_wp2;go_roundw
    case rel=>exact⟨j+1,by omega,by go_num,by exact .drewN hZ _⟩
    case measure=>simp[intOf];omega
   obtain rfl:j=J:=by omega
   have bl:v=y:=by have h1:=aj.out;rw[a9.out]at h1;injection h1 with h1;exact h1.symm
   subst bl;have be:(dv !=dx-1)=false:=by have:=ak.out;rw[←s,←z]at this;simp[this]
   have bb:=xQ (show 1≤bE aA (x:Int) 0 by have h1:=(cL hg.out af).1;have h2:=ak.out;omega);clear aa ab s gv;go_wp2;go_quiet (fail);generalize bf:World.drewN _ _=wq;have t:Ext w5 wq:=by rw[←bf];exact hZ.drewN _
   clear bf cn cf cx FZ NZ hZ;have OQ:=xQ (aM O5 t);have FQ:=xQ (aM F5 t);have NQ:=xQ (aM N5 t);have BQ:=xQ (B5.out.ext t);have XQ:=xQ (X5.out.trans t);have zq:=t.sz;clear O5 F5 N5 B5 X5 t;have cn:wq.cell? ⟨gN,j,none⟩=some (I v):=by have:=NQ.out.cellAt j (by omega);rw[this];simp[ivs,bO,aj.out]
   have lO:w.heap.size+1≤wq.heap.size:=by omega
   have bp:=(FQ.out.lt gF rfl).2;go_wp2_with (at_builtin;go_loud (refine jN rfl _ _ rfl (w.heap.size+1) (.slice q l lc) l (bO (pre++ [x])) rfl (OQ.out.alloc _) _ _ (v:Int) _ rfl (by simp) (by omega) (aW8 lO (by simp)) ?_;intro p' a w9 c ad m;have r:(Value.slice p' (l+1) a).ownBlock=(Value.slice q l lc).ownBlock∨(Value.slice p' (l+1) a).ownBlock=some (wq.alloc (.cells #[v] TI)).heap.size:=m;have b:World.grownBy _ w9 (Value.slice q l lc).ownBlock:=ad;have X9:=xQ (Ext.own (XQ.out.alloc _) (OQ.out.alloc _) b (by omega));have B9:=xQ (uL OQ b BQ.out);have F9:=xQ ((FQ.out.alloc _).kept b (.inr (Ne.symm a6.out)));have O9:=xQ c;have z9:=b.size;have A9:=xQ r;clear c ad r b m));have bh:Hid ((Value.slice p' (l+1) a).ownBlock≠some gF):=by
    show _≠_;rcases A9.out with h|h
    ·rw[h];exact a6.out
    rw[h];simp;omega
   have b3:(wq:Nat)≤w9:=aW8 (by simp) z9;clear z9 cn;have bv:0<f:=by have:=az.out;have:=bb.out;omega
   obtain⟨f',rfl⟩: ∃f',f=f'+1:=⟨f-1,by omega⟩
   have ax:Hid ((pre++ [x])++dS aA n f' v=dS aA n 12 u):=by
    show _=_;rw[←HW.out]
    conv=>rhs;rw[dS,if_neg bn.out,←HY.out]
    simp
   go_roundw
   case rel=>exact⟨v,f',pre++ [x],p',l+1,a,by go_num,af,by have:=ak.out;have:=az.out;omega,ax.out,rfl,by have:=a5.out;simp;omega,by have:=O9.out;simpa[bO]using this,F9.out,bh.out,X9.out,B9.out,by omega⟩
   case measure=>simp[intOf];have:=ak.out;have:=bb.out;omega
theorem aF6 (w:World)(hS:Sl w p n a 1 (ivs xs))(b:aO aA aB xs=true)(hu:u<n):
  U 196 #[aH aA aB p n a,u,(),(-1:Int)] w (cC (bO (dS aA n 12 u)) w):=by
 have hl:=hS.ilen;obtain⟨g1,g2,g3,g4,g5,g6,g7,g8,g9⟩:=bS b;have hg:=vY (n:=n) g1 g2 g3 g4 (by omega);refine aQ0 aA aB p n a u (bE aA u 0) w hg (by omega) (by omega) hu rfl (cL hg hu).1 (fun w' hx=> ?_) (fun w' hx=> ?_) (fun k hk w' hx=> ?_)
 ·have:=aFq aA aB u 0 p n a xs w' (hS.ext hx);rwa[eG,if_pos ⟨b,by omega,by omega⟩]at this
 ·refine(aOm aA aB p n a 0 (-1) xs w' (hS.ext hx) b (by omega)).mono ?_;rintro e w2 ⟨D,hD,hr⟩;exact⟨D,⟨hD.len,fun v hv=>aEz hg (aJr aA n) hD hv⟩,hr⟩
 have:=aKm aA aB k p n a xs w' (hS.ext hx) b (by omega) (by omega);rwa[nY]at this
def cT:List Int→Nat→List Nat→List Int×List Sl2
 |xs,_,[]=>(xs,[])
 |xs,a,b::l=>if xs.getD b 0=0 then cT xs b l else((cT ((xs.set a (xs.getD b 0)).set b 0) b l).1,((b:Int),(a:Int))::(cT ((xs.set a (xs.getD b 0)).set b 0) b l).2)
theorem vW {xs:List Int}{a:Nat}{l:List Nat}(h:xs.getD b 0=0):cT xs a (b::l)=cT xs b l:=by rw[cT,if_pos h]
theorem sX {xs:List Int}{a:Nat}{l:List Nat}(h: ¬xs.getD b 0=0):cT xs a (b::l)=((cT ((xs.set a (xs.getD b 0)).set b 0) b l).1,((b:Int),(a:Int))::(cT ((xs.set a (xs.getD b 0)).set b 0) b l).2):=by rw[cT,if_neg h]
def qO (aA:Int)(n:Nat):Nat→List Nat→Prop
 |_,[]=>True
 |a,b::l=>b∈aU aA n a∧qO aA n b l
theorem dH {aA aB:Int}{xs:List Int}(h:aO aA aB xs=true):iU aA aB xs.length=true:=by unfold aO at h;rw[aWc]at h;exact h.1
theorem sZ {aA aB:Int}{xs:List Int}(h:aO aA aB xs=true)(b:Nat):0≤xs.getD b 0:=by
 unfold aO at h;rw[aWc]at h;have h1:=((fW _ _).1 h.2).1;rw[aW7];cases hx:xs[b]? with
 |none=>simp
 |some x=>exact(h1 x (aW1 hx)).1
theorem aJ6 {aA aB:Int}{xs:List Int}{a:Nat}(h:aO aA aB xs=true)(ha:a<xs.length)(h0:xs.getD a 0=0)(hb:b∈aU aA xs.length a):bM aA aB xs (b:Int) (a:Int)=decide (0<xs.getD b 0):=by
 obtain⟨h1,h2⟩:=cH.1 hb;have h3:eG aA aB xs (b:Int) (a:Int)=1:=by unfold eG;rw[if_pos ⟨h,⟨by omega,by omega⟩,by omega,by omega⟩,aCt];exact h2
 unfold bM;rw[h3];simp only[aXo,h0];simp
theorem aGt {aA aB:Int}{xs:List Int}{a:Nat}(h:aO aA aB xs=true)(ha:a<xs.length)(h0:xs.getD a 0=0)(hb:b∈aU aA xs.length a)(hx: ¬xs.getD b 0=0):bM aA aB xs (b:Int) (a:Int)=true∧bQ aA aB xs (b:Int) (a:Int)=(xs.set a (xs.getD b 0)).set b 0:=by
 have h1:=aJ6 h ha h0 hb;have h2:decide (0<xs.getD b 0)=true:=by have:=sZ h b;simp only[decide_eq_true_eq];omega
 rw[h2]at h1;exact⟨h1,by unfold bQ;rw[if_pos h1];simp only[aXo]⟩
theorem aS9 {aA aB:Int}{xs:List Int}{a:Nat}(h:aO aA aB xs=true)(ha:a<xs.length)(h0:xs.getD a 0=0)(hb:b∈aU aA xs.length a)(hx:xs.getD b 0=0):bM aA aB xs (b:Int) (a:Int)=false:=by rw[aJ6 h ha h0 hb,hx];rfl
theorem zC {aA aB:Int}{xs:List Int}{a:Nat}(h:aO aA aB xs=true)(ha:a<xs.length)(h0:xs.getD a 0=0)(hb:b∈aU aA xs.length a)(hx: ¬xs.getD b 0=0):
  aO aA aB ((xs.set a (xs.getD b 0)).set b 0)=true∧((xs.set a (xs.getD b 0)).set b 0).length=xs.length∧((xs.set a (xs.getD b 0)).set b 0).getD b 0=0:=by
 obtain⟨h1,h2⟩:=aGt h ha h0 hb hx;refine⟨by rw[←h2];exact kS _ _ h,by simp,?_⟩;have hl:=(cH.1 hb).1;rw[aW7,aWa (by simp;exact hl)];rfl
theorem aDm {aA aB:Int}: ∀(l:List Nat) (xs:List Int) (a:Nat),aO aA aB xs=true→a<xs.length→xs.getD a 0=0→qO aA xs.length a l→
  bJ aA aB xs (cT xs a l).2=((cT xs a l).1,(cT xs a l).2.length)∧aO aA aB (cT xs a l).1=true∧(cT xs a l).1.length=xs.length∧(cT xs a l).2.length≤l.length∧(cT xs a l).1.getD ((a::l).getLast (by simp)) 0=0:=by
 intro l;induction l with
 |nil=>intro xs a h ha h0 _;exact⟨rfl,h,rfl,aVz _,by simpa[cT]using h0⟩
 |cons b l ih=>
  intro xs a h ha h0 hs;obtain⟨hb,d⟩:=hs;have c:=(cH.1 hb).1;by_cases hx:xs.getD b 0=0
  ·rw[vW hx];obtain⟨i1,i2,i3,i4,i5⟩:=ih xs b h c hx d;exact⟨i1,i2,i3,by simp;omega,by simpa using i5⟩
  obtain⟨n1,n2,n3⟩:=zC h ha h0 hb hx;obtain⟨d1,d2⟩:=aGt h ha h0 hb hx;obtain⟨i1,i2,i3,i4,i5⟩:=ih _ b n1 (by rw[n2];exact c) n3 (by rw[n2];exact d);rw[sX hx];refine⟨?_,i2,by rw[i3,n2],by simp only[aX0];omega,by simpa using i5⟩;dsimp only;rw[fQ d1,d2,i1];rfl
theorem yE {aA:Int}{n:Nat}(h:(aA,n)∈lD): ∀(f u:Nat),u<n→qO aA n u (dS aA n f u).tail:=by
 intro f;induction f with
 |zero=>intro u _;exact trivial
 |succ f ih=>
  intro u hu;unfold dS;by_cases h0:u=0
  ·rw[if_pos h0];exact trivial
  rw[if_neg h0];obtain⟨h1,h2,_⟩:=(cL h hu).2.2.2.1 h0;have:=ih (oA aA n u) h1;have hh:=yF aA n f (oA aA n u);simp only[List.tail_cons];cases hw:dS aA n f (oA aA n u)with
  |nil=>rw[hw]at hh;simp at hh
  |cons x l=>rw[hw]at hh this;simp at hh;subst hh;exact⟨h2,this⟩
theorem aAw:dS aA n f u=u::(dS aA n f u).tail:=by
 have hh:=yF aA n f u;cases hw:dS aA n f u with
 |nil=>rw[hw]at hh;simp at hh
 |cons x l=>rw[hw]at hh;simp at hh;subst hh;rfl
theorem aPt {aA:Int}{n:Nat}(h:(aA,n)∈lD): ∀(f u:Nat),u<n→bE aA u 0≤f→(dS aA n f u).getLast? =some 0:=by
 intro f;induction f with
 |zero=>intro u hu ha;have g:=cL h hu;have:u=0:=g.2.2.1.1 (by have:=g.1;simp at ha;omega);subst this;rfl
 |succ f ih=>
  intro u hu ha;unfold dS;by_cases h0:u=0
  ·rw[if_pos h0];simp[h0]
  rw[if_neg h0];obtain⟨h1,h2,h3⟩:=(cL h hu).2.2.2.1 h0;have:=ih (oA aA n u) h1 (by rw[h3];simp at ha;omega);rw[List.getLast?_cons,this];rfl
def bX (xs:List Int):List Nat:=(List.range xs.length).filter (dQ xs)
theorem aCc:vI xs=(bX xs).map (fun(k:Nat)=>(k:Int)):=by
 unfold vI bX;generalize xs.length=k;induction k with
 |zero=>rfl
 |succ k ih=>rw[aXj,aX8,aWs,iV,ih];congr 1;cases h:dQ xs k<;>simp[h]
theorem mL {xs:List Int}{u:Nat}(h:u∈bX xs):u<xs.length∧xs.getD u 0=0:=by unfold bX at h;rw[aWy]at h;refine⟨by simpa using h.1,?_⟩;have h2:=h.2;unfold dQ at h2;rw[aW7,eq_of_beq h2];rfl
def qY (aA:Int)(best:Option Nat)(u:Nat):Option Nat:=
 match best with
 |none=>some u
 |some v=>if bE aA u 0<bE aA v 0 then some u else some v
def dY (aA:Int)(l:List Nat):Option Nat:=l.foldl (qY aA) none
theorem aFy (l:List Nat)(u:Nat):dY aA (l++ [u])=qY aA (dY aA l) u:=by simp[dY]
theorem mX (l:List Nat):(dY aA l=none↔l= [])∧ ∀u,dY aA l=some u→u∈l:=by
 suffices h: ∀(l pre:List Nat) (b:Option Nat),(b=none↔pre= [])→(∀u,b=some u→u∈pre)→((l.foldl (qY aA) b=none↔pre++l= [])∧ ∀u,l.foldl (qY aA) b=some u→u∈pre++l)from by simpa[dY]using h l [] none (by simp) (by simp)
 intro l;induction l with
 |nil=>intro pre b h1 h2;simpa using⟨h1,h2⟩
 |cons x l ih=>
  intro pre b h1 h2
  have:=ih (pre++ [x]) (qY aA b x) (by
   unfold qY;cases b with
   |none=>simp
   |some v=>simp;split<;>simp) (by
   intro u hu;unfold qY at hu;cases b with
   |none=>simp at hu;simp[hu]
   |some v=>
    simp only at hu;split at hu
    ·injection hu with hu;simp[hu]
    ·injection hu with hu;subst hu;exact aX9 _ (h2 v rfl))
  simpa using this
def kI (aA:Int)(xs:List Int):Option (List Int×List Sl2):=(dY aA (bX xs)).map (fun u=>cT xs u (dS aA xs.length 12 u).tail)
def oQ (aA aB:Int)(xs:List Int)(id:Int):Option (List Int×Nat):=
 match kI aA xs with
 |none=>none
 |some r=>if(dM aA aB r.1 id).2 then some ((dM aA aB r.1 id).1,r.2.length)else none
theorem mJ {aA aB:Int}{xs:List Int}(h:aO aA aB xs=true):(aA,xs.length)∈lD:=by obtain⟨h1,h2,h3,h4,h5,h6,h7⟩:=cQ (dH h);exact vY h1 h2 h3 h4 h7
theorem tG {aA aB:Int}{xs:List Int}(h:aO aA aB xs=true){r:List Int×List Sl2}(hr:kI aA xs=some r):
  bJ aA aB xs r.2=(r.1,r.2.length)∧aO aA aB r.1=true∧r.1.length=xs.length∧r.2.length≤5∧r.1.getD 0 0=0:=by
 unfold kI at hr;cases hn:dY aA (bX xs)with
 |none=>rw[hn]at hr;simp at hr
 |some u=>
  rw[hn]at hr;simp at hr;subst hr;obtain⟨hu,h0⟩:=mL ((mX aA _).2 u hn);have hg:=mJ h;have g:=cL hg hu;obtain⟨f1,f2,f3,f4,f5⟩:=aDm _ xs u h hu h0 (yE hg 12 u hu);have hl:=pR hg 12 u hu (by have:=g.2.1;omega);have hw:=aPt hg 12 u hu (by have:=g.2.1;omega);refine⟨f1,f2,f3,?_,?_⟩
  ·have:=g.2.1;rw[List.length_tail]at f4;omega
  have hc:=aAw aA xs.length 12 u;rw[hc,List.getLast?_eq_some_getLast (by simp)]at hw;injection hw with hw;rw[hw]at f5;exact f5
theorem aNk (c:Nat)(b a m c2:Nat)(ws:List Nat)(w:World)(ai:4≤n)(hn:n≤12)(ah:0<m)(hm:m≤12)(j:Hid (ws.length=m))(hb:b<w.heap.size)(HS:Hid (∀(k x:Nat),ws[k]? =some x→w.cell? ⟨b,a+k,none⟩=some (I x)))(x0:Nat)(c0:w.cell? ⟨b,a,none⟩=some (I x0))(HA:Hid (∀(k x y:Nat),ws[k]? =some x→ws[k+1]? =some y→ ∀w',Ext w w'→U 170 #[aH aA aB p n c,x,y] w' (Z (I 1) w')))(HV:xB 30 #[aH aA aB p n c] w true)(HI:Hid (∀w,U 32 #[x0,(),((n:Int)-1:Int)] w fun e w'=>e= .returned (.bool true)∧w=w')):
  U 197 #[aH aA aB p n c,.slice (some ⟨b,a,none⟩) m c2] w (Z (.bool true) w):=by
 go_enter func197,ntmps197;go_wp2;go_loopw [5] (fun i wr=> ∃k:Nat,1≤k∧k≤m∧i=I k∧Ext w wr∧Blk wr w TH3 #[aA,aB,.slice p n c]) (fun i _=>m-(intOf i).toNat)
 case atStart=>exact⟨1,aVz _,by omega,rfl,by exact .alloc (.refl _) _,Blk.new _ _ _⟩
 case round=>
  obtain⟨k,ag,hk,rfl,hE,hB⟩:=hrel;have HB:=xQ hB;have o:b<wr:=aVy hb hE.sz;by_cases hlt:k<m
  ·obtain⟨x,hx⟩: ∃x,ws[k-1]? =some x:=⟨_,aW0 (by rw[j.out];omega)⟩
   obtain⟨y,hy⟩: ∃y,ws[k]? =some y:=⟨_,aW0 (by rw[j.out];omega)⟩
   have HK:=xQ (HA (k-1) x y hx (by rw[show k-1+1=k by omega];exact hy));have ca:wr.cell? ⟨b,a+(k-1),none⟩=some (I x):=(hE.cells.1 _ _ hb).trans (HS (k-1) x hx);have cb:wr.cell? ⟨b,a+k,none⟩=some (I y):=(hE.cells.1 _ _ hb).trans (HS k y hy);have i1:=aYp k;have i2:=aYq k m;have i3:(k:Int)-1<(m:Int):=by omega
   have i4:((k:Int)-1).toNat=k-1:=by omega
   have i5:(1:Int)≤(k:Int):=by omega
   go_wp2;refine rL (gl [gEq (.agg #[aA,aB,.slice p n c]),gEq (.slice (some ⟨b,a,none⟩) m c2),gEq (k:Int),gEq ((k:Int)-1:Int),gEq (.pointer (some ⟨b,a+(k-1),none⟩)),gEq (x:Int),gEq (.slice (some ⟨b,a,none⟩) m c2),gEq (k:Int),gEq (.pointer (some ⟨b,a+k,none⟩)),gEq (y:Int),gEq (I 1),gEq (.bool false)]) 12 12 [(0,some 12),(1,some 13),(2,some 14),(3,some 15),(4,some 16),(5,some 17),(6,some 18),(7,some 19),(8,some 20),(9,some 21),(10,some 22),(11,some 23)] ?steps ?fin
   case steps=>
    refine sC [] rfl (fun wi hx=> ?_) ?_
    ·intro K hK;have hX:=hx.of_drew;obtain⟨d,u,v⟩:=(HB.out.ext hX).tri;go_simp;exact hK _ _ ⟨.agg #[aA,aB,.slice p n c],rfl,rfl,Ext.refl _⟩
    refine sS0 [] (sS0 [] ?_);refine sC [(2,some 14)] rfl (fun wi hx=> ?_) ?_
    ·intro v2 h2 K hK;obtain rfl:=h2;have aj:=aYs ((k:Int)-1);go_simp;exact hK _ _ ⟨I ((k:Int)-1),rfl,rfl,Ext.refl _⟩
    refine sS2 [(1,some 13),(3,some 15)] ?_;refine sC [(4,some 16)] rfl (fun wi hx=> ?_) ?_
    ·intro v4 h4 K hK;obtain rfl:=h4;have hX:=hx.of_drew;have d:wi.cell? ⟨b,a+(k-1),none⟩=some (I x):=(hX.cells.1 _ _ o).trans ca;go_simp;exact hK _ _ ⟨I x,rfl,rfl,Ext.refl _⟩
    refine sS0 [] (sS0 [] (sS2 [(6,some 18),(7,some 19)] ?_));refine sC [(8,some 20)] rfl (fun wi hx=> ?_) ?_
    ·intro v8 h8 K hK;obtain rfl:=h8;have hX:=hx.of_drew;have d:wi.cell? ⟨b,a+k,none⟩=some (I y):=(hX.cells.1 _ _ o).trans cb;go_simp;exact hK _ _ ⟨I y,rfl,rfl,Ext.refl _⟩
    refine sC [(0,some 12),(5,some 17),(9,some 21)] rfl (fun wi hx=> ?_) ?_
    ·intro v0 h0 v5 h5 v9 h9 K hK;subst h0 h5 h9;go_wp2_with fail;refine Ω (HK _ (hE.trans hx.of_drew)) fun w5 q=>?_
     go_simp;exact hK _ _ ⟨I 1,rfl,rfl,q⟩
    exact sS1 [(10,some 22)] StepsL.nil
   case fin=>
    intro wi hx v0 h0 v1 h1 v2 h2 v3 h3 v4 h4 v5 h5 v6 h6 v7 h7 v8 h8 v9 h9 r f s g;subst h0 h1 h2 h3 h4 h5 h6 h7 h8 h9;obtain rfl:=f;obtain rfl:=g;refine wpAny_done (by kernel_rfl) ?_ _;go_frame;have h:=hx.of_drew;go_wp2;go_roundw
    case rel=>exact⟨k+1,by omega,by omega,by go_num,hE.trans h,HB.out.ext h⟩
    case measure=>simp[intOf];omega
  obtain rfl:m=k:=by omega
  have t:=(hE.cells.1 _ _ hb).trans c0;have c0:=t;have i2:(0:Int)<(m:Int):=by omega
  have i6:=aYs ((n:Int)-1);go_wp2;refine rL (gl [gEq (.agg #[aA,aB,.slice p n c]),gEq (.bool true),gEq (.bool true),gEq (.slice (some ⟨b,a,none⟩) m c2),gEq (m:Int),gEq (.bool true),gEq (.bool true),gEq (.bool true),gEq (.slice (some ⟨b,a,none⟩) m c2),gEq (.pointer (some ⟨b,a,none⟩)),gEq (x0:Int),gEq (.pointer (some ⟨w,2,none⟩)),gEq (.slice p n c),gEq (n:Int),gEq ((n:Int)-1:Int),gEq (.bool true),gEq (.bool true),gEq (.bool true)]) 18 18 [(0,some 24),(1,some 25),(2,some 26),(3,some 27),(4,some 28),(5,some 29),(6,some 30),(7,some 31),(8,some 32),(9,some 33),(10,some 34),(11,some 35),(12,some 36),(13,some 37),(14,some 38),(15,some 39),(16,some 40),(17,some 4)] ?steps ?fin
  case steps=>
   refine sC [] rfl (fun wi hx=> ?_) ?_
   ·intro K hK;have hX:=hx.of_drew;obtain⟨d,u,v⟩:=(HB.out.ext hX).tri;go_simp;exact hK _ _ ⟨.agg #[aA,aB,.slice p n c],rfl,rfl,Ext.refl _⟩
   refine sC [(0,some 24)] rfl (fun wi hx=> ?_) ?_
   ·intro v0 h0 K hK;obtain rfl:=h0;go_wp2_with fail;refine Ω (HV _ (hE.trans hx.of_drew)) fun w5 q=>?_
    go_simp;exact hK _ _ ⟨.bool true,rfl,rfl,q⟩
   refine sS1 [(1,some 25)] (sS1 [(2,some 26)] (sS2 [(2,some 26),(3,some 27)] (sS2 [(2,some 26),(4,some 28)] (sS2 [(2,some 26),(5,some 29)] (sS1 [(6,some 30)] (sS1 [(7,some 31)] (sS2 [(7,some 31),(8,some 32)] ?_)))))));refine sC [(7,some 31),(9,some 33)] rfl (fun wi hx=> ?_) ?_
   ·intro v7 h7 v9 h9 K hK;subst h7 h9;have hX:=hx.of_drew;have d:wi.cell? ⟨b,a,none⟩=some (I x0):=(hX.cells.1 _ _ o).trans c0;go_simp;exact hK _ _ ⟨I x0,rfl,rfl,Ext.refl _⟩
   refine sS1 [(7,some 31)] ?_;refine sC [(7,some 31),(11,some 35)] rfl (fun wi hx=> ?_) ?_
   ·intro v7 h7 s g K hK;obtain rfl:=h7;obtain rfl:=g;have hX:=hx.of_drew;have d:=(HB.out.ext hX).cl 2;go_simp;exact hK _ _ ⟨.slice p n c,rfl,rfl,Ext.refl _⟩
   refine sS2 [(7,some 31),(12,some 36)] (sS2 [(7,some 31),(13,some 37)] ?_);refine sC [(7,some 31),(10,some 34),(14,some 38)] rfl (fun wi hx=> ?_) ?_
   ·intro v7 h7 r f af l K hK;obtain rfl:=h7;obtain rfl:=f;obtain rfl:=l;go_wp2_with fail;refine(HI _).mono ?_;rintro e w5 ⟨rfl,rfl⟩;go_simp;exact hK _ _ ⟨.bool true,rfl,rfl,Ext.refl _⟩
   exact sS2 [(7,some 31),(15,some 39)] (sS1 [(16,some 40)] StepsL.nil)
  case fin=>intro wi hx v0 h0 v1 h1 v2 h2 v3 h3 v4 h4 v5 h5 v6 h6 v7 h7 v8 h8 v9 h9 r f s g ak z al aa af l am ab an ad ao ae;subst h0 h1 h2 h3 h4 h5 h6 h7 h8 h9;obtain rfl:=f;obtain rfl:=g;obtain rfl:=z;obtain rfl:=aa;obtain rfl:=l;obtain rfl:=ab;obtain rfl:=ad;obtain rfl:=ae;refine wpAny_done (by kernel_rfl) ?_ _;go_frame;have h:=hx.of_drew;go_wp2;go_ret;exact⟨rfl,hE.trans h⟩
end
end Go.Proofs.YthfmmibomhhmpabGreatDoor
