/-
  Texts of this proof, packed (@packed).
-/
import Derived.Test.YtpelpnfhbepokaaGreatDoorV10
namespace Go.Proofs.YtpelpnfhbepokaaGreatDoor
open Go.RowKit
set_option linter.unusedVariables false
set_option linter.unusedSimpArgs false
set_option maxHeartbeats 8000000
set_option maxRecDepth 100000
theorem zZ {w:World}{q:OA}{m c2:Nat}{l:List Sl2}(h:Sl w q m c2 2 (l.flatMap aK)){k:Nat}(hk:k<m):
  ∃b off f t,q=some ⟨b,off,none⟩∧l[k]? =some (f,t)∧b<w.heap.size∧w.cell? ⟨b,off+k*2,none⟩=some (.int .i64 f)∧w.cell? ⟨b,off+k*2+1,none⟩=some (.int .i64 t):=by
 obtain⟨b,off,x,hp,hx,hb,hc⟩:=Sl.at_ (sz:=2) (f:=aK) (fun _=>rfl) h hk (by omega);obtain⟨f,t⟩:=x;exact⟨b,off,f,t,hp,hx,hb,hc 0 (by omega),hc 1 (by omega)⟩
theorem aCc {w:World}{q:OA}{m c2:Nat}{l:List Sl2}(h:Sl w q m c2 2 (l.flatMap aK)):l.length=m:=by have:=h.len;rw[dC aK 2 (fun _=>rfl)]at this;omega
theorem aH1 (aA aB:Int)(p:OA)(ah:Nat)(xs:List Int)(lq:OA)(m lc:Nat)(l:List Sl2)(w:World)(cd:4≤xs.length)(hn:xs.length≤12)(hm:m≤60)(bz:Hid (aM aA aB xs=true))(HS:Hid (Sl w lq m lc 2 (l.flatMap aK)))
  (HV:xB 41 #[aH aA aB p xs.length ah] w true)
  (HC:Hid (∀w',Ext w w'→Calls Tryz.prog 81 #[aH aA aB p xs.length ah] w' (cY aA aB xs w'))):
  Calls Tryz.prog 132 #[aH aA aB p xs.length ah,.slice lq m lc] w (cN aA aB (aY aA aB xs l).1 ((aY aA aB xs l).2:Nat) w):=by
 have hl:=xQ (aCc HS.out);have b8:decide (60<m)=false:=by simp;omega
 have b9:decide ((60:Int)<(m:Int))=false:=by simp;omega
 go_enter Tryz.func132,Tryz.ntmps132;have ab:=xQ (Ext.refl w);go_wp2_with fail;refine(HV _ (by exact .alloc (.alloc (.refl _) _) _)).mono ?_;rintro e w1 ⟨rfl,an⟩;have bq:Ext w w1:=(((Ext.refl _).alloc _).alloc _).trans an;have z1:w.heap.size+2≤w1.heap.size:=by have:=an.sz;(try simp at this);omega
 have z:=xQ (ab.out.trans bq);clear ab;have au:=xQ (show Blk w1 (w.heap.size) TH3 #[aA,aB,.slice p xs.length ah] by have:=((Blk.new w TH3 #[aA,aB,.slice p xs.length ah]).alloc _).ext an;simpa using this);have g:=xQ (show Blk w1 (w.heap.size+1) TH3 #[(),(),((),())] by have:=(Blk.new (w.alloc (.cells #[aA,aB,.slice p xs.length ah] TH3)) TH3 #[(),(),((),())]).ext an;simpa using this);clear bq;have bc:w.heap.size<w1.heap.size:=au.out.lt;have aa:w.heap.size+1<w1.heap.size:=g.out.lt;clear an;obtain⟨c0,c1,c2⟩:=au.out.tri;go_wp2_with fail;clear c0 c1 c2;refine(HC _ z.out).mono ?_;rintro e w2 ⟨q0,c0,rfl,o0,a9⟩;have ay:Ext w1 w2:=by exact a9
 have z2:w1.heap.size+0≤w2.heap.size:=by have:=a9.sz;(try simp at this);omega
 have bi:=xQ (z.out.trans ay);have bg:=xQ (au.out.ext ay);have a8:=xQ (g.out.ext ay);clear z au g ay bc;have bd:w.heap.size<w2.heap.size:=bg.out.lt;clear aa;have be:w.heap.size+1<w2.heap.size:=a8.out.lt;have bh:=xQ (o0);clear a9 o0;go_wp2;go_loopw [7] (fun i wr=> ∃(k:Nat) (q:OA) (c:Nat),k≤m∧i= .int .i64 k∧(aY aA aB xs (l.take k)).2=k∧wr.ownsRow w1.heap.size TI 1 (.slice q xs.length c) xs.length (ivs (aY aA aB xs (l.take k)).1)∧Ext w wr∧Blk wr w2.heap.size TH3 #[aA,aB,.slice q xs.length c]∧Blk wr (w.heap.size+1) TH3 #[(),(),((),())]∧w2.heap.size<wr.heap.size) (fun i _=>m-(intOf i).toNat)
 case atStart=>exact⟨0,q0,c0,Nat.zero_le _,rfl,by simp[aY],by simpa[aY]using bG bh ((Ext.refl _).alloc _),bi.out.alloc _,Blk.new _ _ _,a8.out.alloc _,by simp⟩
 case round=>
  clear bh bi bg a8 bd be;obtain⟨k,q,c,hk,rfl,a3,a4,ad,bj,bk,ce⟩:=hrel;have HO:=xQ a4;have h:=xQ bj;have y:=xQ bk;have az:=xQ a3;clear a4 bj bk a3;obtain⟨bt,bu,b0⟩:=nC (l.take k) xs bz.out;have OK:=xQ bt;have a6:=xQ bu;clear bt bu b0;by_cases hlt:k<m
  ·obtain⟨b2,af,f,t,rfl,hx,bl,d0,d1⟩:=zZ (HS.out.ext ad) hlt;have HX:=xQ hx;clear hx;have i1:(0:Int)≤(k:Int):=by omega
   have i2:(k:Int)<(m:Int):=by omega
   have am:Hid (aY aA aB xs (l.take (k+1))=(if bB aA aB (aY aA aB xs (l.take k)).1 f t then(bH aA aB (aY aA aB xs (l.take k)).1 f t,k+1)else((aY aA aB xs (l.take k)).1,k))):=by
    show _=_;have aw:(l.take k).length=k:=by rw[List.length_take,hl.out];omega
    rw[bA HX.out,oN _ _ _ (by rw[az.out,aw]),aw]
   have HD:xC 88 #[aH aA aB q xs.length c,dQ f t] wr fun w' e w''=> ∃q5 c5,e= .returned (.tuple #[aH aA aB q5 xs.length c5,.bool (bB aA aB (aY aA aB xs (l.take k)).1 f t)])∧w''.ownsRow w'.heap.size TI 1 (.slice q5 xs.length c5) xs.length (ivs (bH aA aB (aY aA aB xs (l.take k)).1 f t))∧Ext w' w'':=
    fun w' hx=>(kX aA aB f t q xs.length c _ w' ((Sl.own HO.out).ext hx) OK.out).mono fun e w'' ⟨q5,c5,he,ho,hy⟩=>by
     have bx:(bH aA aB (aY aA aB xs (l.take k)).1 f t).length=xs.length:=by rw[cT,a6.out]
     rw[bx]at he ho;exact⟨q5,c5,he,ho,hy⟩
   generalize br:(aY aA aB xs (l.take k)).1=ys at*;have cb:=xQ br;clear br;generalize bs:bH aA aB ys f t=zs at*;have cc:=xQ bs;clear bs;generalize bn:bB aA aB ys f t=bm at*;have ca:=xQ bn;clear bn;obtain⟨v0,v1,v2⟩:=h.out.tri;have n1: ¬(w2.heap.size=wr.heap.size):=by omega
   have n2: ¬(wr.heap.size=w2.heap.size):=by omega
   have n3: ¬(b2=wr.heap.size):=by omega
   have n4: ¬(wr.heap.size=b2):=by omega
   go_upto_region 7 with fail;go_cut [8,9] (fun s8 s9 wx=> ∃(a:Nat) (q5:OA) (c5:Nat),s8= .pointer (some ⟨a,0,none⟩)∧s9= .bool bm∧Ext wr wx∧wr.heap.size≤a∧Blk wx a TH3 #[aA,aB,.slice q5 xs.length c5]∧wx.ownsRow wr.heap.size TI 1 (.slice q5 xs.length c5) xs.length (ivs zs))
   case first=>
    go_region_held3 (fun w'=>w'.cell? ⟨w2.heap.size,0,none⟩=some (.int .i64 aA)∧w'.cell? ⟨w2.heap.size,1,none⟩=some (.int .i64 aB)∧w'.cell? ⟨w2.heap.size,2,none⟩=some (.slice q xs.length c)∧w'.cell? ⟨b2,af+k*2,none⟩=some (.int .i64 f)∧w'.cell? ⟨b2,af+k*2+1,none⟩=some (.int .i64 t))
     (first|(refine⟨?_,?_,?_,?_,?_⟩<;>assumption)|go_keep)
     ((go_at_call 88
       refine(HD _ xE).mono ?_;rintro e w5 ⟨q5,c5,rfl,o5,bp⟩;have aj:Ext wr w5:=xE;obtain⟨g0,g1,g2⟩:=(h.out.ext aj).tri;have g3:w5.cell? ⟨b2,af+k*2,none⟩=some (.int .i64 f):=(aj.cells.1 _ _ bl).trans d0;have g4:w5.cell? ⟨b2,af+k*2+1,none⟩=some (.int .i64 t):=(aj.cells.1 _ _ bl).trans d1
       first
        |(have ba:Ext (wr.alloc (.cells #[(),(),((),())] TH3)) w5:=bp
          have BB:=(Blk.new wr TH3 #[(),(),((),())]).ext ba;obtain⟨b5,ap,b6,aq,b7,_⟩:=BB.trif
          have ar:w5.frozen? ⟨wr.heap.size,2,none⟩=false:=BB.frozen 2)
        |(have ba:Ext (wr.alloc (.cells #[(),(),((),())] TH3)) w5:=bp.of_drew
          have BB:=(Blk.new wr TH3 #[(),(),((),())]).ext ba;obtain⟨b5,ap,b6,aq,b7,_⟩:=BB.trif
          have ar:w5.frozen? ⟨wr.heap.size,2,none⟩=false:=BB.frozen 2)
        |skip))
    ·go_wp2_with fail;go_meet;exact⟨w5.heap.size,q5,c5,rfl,rfl,by exact .alloc aj _,by have:=aj.sz;omega,Blk.new _ _ _,bE (by exact o5.alloc _) (by simp)⟩
    have hR:ExtR wr.heap.size w5 _:=(((ExtR.refl wr.heap.size w5).setCell (p:=⟨wr.heap.size,0,none⟩) (.inl rfl) (.int .i64 aA)).setCell (p:=⟨wr.heap.size,1,none⟩) (.inl rfl) (.int .i64 aB)).setCell (p:=⟨wr.heap.size,2,none⟩) (.inl rfl) (.slice q5 xs.length c5);have hY:=((BB.set 0 (.int .i64 aA)).set 1 (.int .i64 aB)).set 2 (.slice q5 xs.length c5);simp only[List.setIfInBounds_toArray,List.set_cons_zero,List.set_cons_succ]at hY;go_wp2_with fail;go_meet;exact⟨wr.heap.size,q5,c5,rfl,rfl,ExtR.new aj hR (Nat.le_refl _),Nat.le_refl _,hY,bE (o5.kept hR (.inr (dF o5 BB (by decide)))) (by simp)⟩
   case rest=>
    clear v0 v1 v2 n1 n2 n3 n4 d0 d1;obtain⟨a,q5,c5,rfl,rfl,x,ha,av,ax⟩:=hcut;cases bm with
    |true=>
     have d:=am.out;rw[if_pos rfl]at d;have ai:aY aA aB xs (l.take (k+1))=(zs,k+1):=d;have ai:=xQ ai;clear d;have j:=xQ (h.out.ext x);have u:=xQ (y.out.ext x);have s:=xQ av;have ab:=xQ (ad.trans x);have ak:=xQ (bG HO x);have al:=xQ (bE ax (show w1.heap.size≤wr.heap.size by omega));clear h y av ad HO ax;have z0:=x.sz;have o:w2.heap.size<wc.heap.size:=j.out.lt;have r:w.heap.size+1<wc.heap.size:=u.out.lt;have ae:a<wc.heap.size:=s.out.lt;obtain⟨v0,b1,v1,b3,v2,b4⟩:=j.out.trif;obtain⟨a0,a1,a2⟩:=s.out.tri;go_wp2;clear ak;have y1:=((j.out.set 0 (.int .i64 aA)).set 1 (.int .i64 aB)).set 2 (.slice q5 xs.length c5);simp only[List.setIfInBounds_toArray,List.set_cons_zero,List.set_cons_succ]at y1;generalize n:World.setCell _ _ _=w1;rw[n]at y1;have b:ExtR (w2.heap.size) wc w1:=by rw[←n];exact(((ExtR.refl (w2.heap.size) wc).setCell (p:=⟨w2.heap.size,0,none⟩) (.inl rfl) (.int .i64 aA)).setCell (p:=⟨w2.heap.size,1,none⟩) (.inl rfl) (.int .i64 aB)).setCell (p:=⟨w2.heap.size,2,none⟩) (.inl rfl) (.slice q5 xs.length c5)
     clear n;have z1:wc.heap.size≤w1.heap.size:=b.sz;have ag:=xQ (y1);have g:=xQ (show Blk w1 (w.heap.size+1) _ _ from(b.block _ u.out.lt (by first|(simp;done)|(simp;omega))).trans u.out);have a5:=xQ (show Blk w1 (a) _ _ from(b.block _ s.out.lt (by first|(simp;done)|(simp;omega))).trans s.out);have z:=xQ (ExtR.new ab b (by omega));have bv:=xQ (al.out.kept b (.inr (dF al j.out (by decide))));clear j u s ab al b y1 o;have ao:w2.heap.size<w1.heap.size:=ag.out.lt;clear r;have aa:w.heap.size+1<w1.heap.size:=g.out.lt;clear ae;have bb:a<w1.heap.size:=a5.out.lt;clear v0 b1 v1 b3 v2 b4 a0 a1 a2;go_roundw
     case rel=>exact⟨k+1,q5,c5,by omega,by go_num,by rw[ai.out],by rw[ai.out];exact bv.out,z.out,ag.out,g.out,by omega⟩
     case measure=>simp[intOf];omega
    |false=>
     have d:=am.out;rw[if_neg (by simp)]at d;have ai:Hid (aY aA aB xs l=(ys,k)):=by
      show _=_;have aw:(l.take (k+1)).length=k+1:=by rw[List.length_take,hl.out];omega
      have:=vG (aA:=aA) (aB:=aB) (l.take (k+1)) (l.drop (k+1)) xs (by rw[d,aw];exact Nat.lt_succ_self k);rw[List.take_append_drop,d]at this;exact this
     clear d;have j:=xQ (h.out.ext x);have u:=xQ (y.out.ext x);have s:=xQ av;have ab:=xQ (ad.trans x);have ak:=xQ (bG HO x);have al:=xQ (bE ax (show w1.heap.size≤wr.heap.size by omega));clear h y av ad HO ax;have z0:=x.sz;have o:w2.heap.size<wc.heap.size:=j.out.lt;have r:w.heap.size+1<wc.heap.size:=u.out.lt;have ae:a<wc.heap.size:=s.out.lt;obtain⟨v0,v1,v2⟩:=j.out.tri;obtain⟨z0,ap,z1,aq,z2,ar⟩:=u.out.trif;go_wp2;clear al;have y1:=((u.out.set 0 (.int .i64 aA)).set 1 (.int .i64 aB)).set 2 (.slice q xs.length c);simp only[List.setIfInBounds_toArray,List.set_cons_zero,List.set_cons_succ]at y1;generalize n:World.setCell _ _ _=w1;rw[n]at y1;have b:ExtR (w.heap.size+1) wc w1:=by rw[←n];exact(((ExtR.refl (w.heap.size+1) wc).setCell (p:=⟨w.heap.size+1,0,none⟩) (.inl rfl) (.int .i64 aA)).setCell (p:=⟨w.heap.size+1,1,none⟩) (.inl rfl) (.int .i64 aB)).setCell (p:=⟨w.heap.size+1,2,none⟩) (.inl rfl) (.slice q xs.length c)
     clear n;have z1:wc.heap.size≤w1.heap.size:=b.sz;have ag:=xQ (show Blk w1 (w2.heap.size) _ _ from(b.block _ j.out.lt (by first|(simp;done)|(simp;omega))).trans j.out);have g:=xQ (y1);have a5:=xQ (show Blk w1 (a) _ _ from(b.block _ s.out.lt (by first|(simp;done)|(simp;omega))).trans s.out);have z:=xQ (ExtR.new ab b (by omega));have a7:=xQ (ak.out.kept b (.inr (dF ak u.out (by decide))));clear j u s ab ak b y1 o;have ao:w2.heap.size<w1.heap.size:=ag.out.lt;clear r;have aa:w.heap.size+1<w1.heap.size:=g.out.lt;clear ae;have bb:a<w1.heap.size:=a5.out.lt;clear v0 v1 v2 z0 ap z1 aq z2 ar;obtain⟨y0,y1,y2⟩:=g.out.tri;exact bodyPost_ret (v:= .tuple #[.agg #[aA,aB,.slice q xs.length c],(k:Int)]) (by simp[results,Tryz.results132,go_sem, *]) rfl (by rw[ai.out];exact eH a6 (bE a7 (by omega)) z.out)
  have bo:Hid (aY aA aB xs l=((aY aA aB xs (l.take k)).1,k)):=by have e1:l.take k=l:=List.take_of_length_le (by rw[hl.out];omega);have e2:=az.out;show _=_;rw[e1]at e2⊢;exact Prod.ext rfl e2
  have bw:k=m:=by omega
  subst bw;have bf:=xQ ad;clear ad;have o:w2.heap.size<wr.heap.size:=h.out.lt;have r:w.heap.size+1<wr.heap.size:=y.out.lt;obtain⟨v0,v1,v2⟩:=h.out.tri;obtain⟨z0,ap,z1,aq,z2,ar⟩:=y.out.trif;go_wp2;have y1:=((y.out.set 0 (.int .i64 aA)).set 1 (.int .i64 aB)).set 2 (.slice q xs.length c);simp only[List.setIfInBounds_toArray,List.set_cons_zero,List.set_cons_succ]at y1;generalize n:World.setCell _ _ _=w1;rw[n]at y1;have b:ExtR (w.heap.size+1) wr w1:=by rw[←n];exact(((ExtR.refl (w.heap.size+1) wr).setCell (p:=⟨w.heap.size+1,0,none⟩) (.inl rfl) (.int .i64 aA)).setCell (p:=⟨w.heap.size+1,1,none⟩) (.inl rfl) (.int .i64 aB)).setCell (p:=⟨w.heap.size+1,2,none⟩) (.inl rfl) (.slice q xs.length c)
  clear n;have z1:wr.heap.size≤w1.heap.size:=b.sz;have ag:=xQ (show Blk w1 (w2.heap.size) _ _ from(b.block _ h.out.lt (by first|(simp;done)|(simp;omega))).trans h.out);have g:=xQ (y1);have z:=xQ (ExtR.new bf b (by omega));have a7:=xQ (HO.out.kept b (.inr (dF HO y.out (by decide))));clear h y bf HO b y1 o;have ao:w2.heap.size<w1.heap.size:=ag.out.lt;clear r;have aa:w.heap.size+1<w1.heap.size:=g.out.lt;clear v0 v1 v2 z0 ap z1 aq z2 ar;obtain⟨y0,y1,y2⟩:=g.out.tri;exact bodyPost_ret (v:= .tuple #[.agg #[aA,aB,.slice q xs.length c],(k:Int)]) (by simp[results,Tryz.results132,go_sem, *]) rfl (by rw[bo.out];exact eH a6 (bE a7 (by omega)) z.out)
theorem pN (aA aB:Int)(p:OA)(n a:Nat)(xs:List Int)(lq:OA)(m lc:Nat)(l:List Sl2)(w:World)(hm:m≤60)(hS:Sl w p n a 1 (ivs xs))(hL:Sl w lq m lc 2 (l.flatMap aK))(b:aM aA aB xs=true):
  Calls Tryz.prog 132 #[aH aA aB p n a,.slice lq m lc] w (cN aA aB (aY aA aB xs l).1 ((aY aA aB xs l).2:Nat) w):=by
 have hl:=hS.ilen;subst hl;obtain⟨g1,g2,g3,g4,g5,g6,g7,g8,g9⟩:=bM b;have HV:=fun(w':World) (hy:Ext w w')=>fV aA aB p xs.length a xs w' (hS.ext hy)
 rw[b]at HV;exact aH1 aA aB p a xs lq m lc l w g5 g6 hm b hL HV (fun(w':World) (hy:Ext w w')=>fG aA aB p xs.length a xs w' (by omega) (hS.ext hy))
def oM (aA:Int)(n:Nat)(but:Int)(u:Nat):List Nat:=(aS aA n u).filter (fun(v:Nat)=>decide ((v:Int)≠but))
theorem aDt (aA:Int)(n:Nat)(a:Int):iV aA n a=((List.range n).filter (fun(b:Nat)=>decide (aW aA a b=1))).map (fun(k:Nat)=>(k:Int)):=by
 unfold iV;induction n with
 |zero=>rfl
 |succ n ih=>rw[eW,ih,List.range_succ,List.filter_append,List.map_append];congr 1;by_cases h:aW aA a n=1<;>simp[h]
theorem kH (aA:Int)(n u:Nat):iV aA n u=(aS aA n u).map (fun(k:Nat)=>(k:Int)):=aDt _ _ _
theorem aEr {aA:Int}{n:Nat}{a:Int}{u v:Nat}(h:v∈oM aA n a u):v<n:=(bQ.1 (List.mem_filter.1 h).1).1
theorem Inv.one {adj:Nat→List Nat}{N s:Nat}(hs:s<N):Inv adj [s] N 0 ((List.replicate N (-1)).set s 0,[s]):=by
 have hl:s<(List.replicate N (-1:Int)).length:=by simpa using hs
 have a: ∀v,v<N→s≠v→((List.replicate N (-1:Int)).set s 0).getD v 0= -1:=by intro v hv e;rw[bO e];simp[List.getD,hv]
 refine⟨by simp,by simpa using hs,?_,by simp,by simp,?_,?_,?_,fun i u hi=>by omega⟩
 ·intro v hv;dsimp only;by_cases e:s=v
  ·subst e;rw[cF hl];simp
  rw[a v hv e];simp;exact fun h=>e h.symm
 ·intro u hu v hv;simp at hu hv;subst hu hv;omega
 ·intro v hv;simp at hv;subst hv;dsimp only;rw[cF hl];simp[mW]
 intro v hv;simp at hv;subst hv;exact⟨by simp,cF hl⟩
theorem aHv (n s:Nat): ∀x∈(List.replicate n (-1:Int)).set s 0,-1≤x∧x≤((0:Nat):Int):=by
 intro x hx;rcases List.mem_or_eq_of_mem_set hx with h|h
 ·rw[List.mem_replicate]at h;omega
 omega
theorem dD {D:List Int}{v:Nat}(h:v<D.length):D[v]? =some (D.getD v 0)∧D.getD v 0∈D:=by
 have:D[v]? =some (D.getD v 0):=by rw[List.getD_eq_getElem?_getD,List.getElem?_eq_getElem h];rfl
 exact⟨this,List.mem_of_getElem? this⟩
theorem aEi {nb:List Nat}{j v:Nat}{a:Int}(h:nb[j]? =some v) (hb:(v:Int)=a):(nb.take (j+1)).filter (fun(v:Nat)=>decide ((v:Int)≠a))=(nb.take j).filter (fun(v:Nat)=>decide ((v:Int)≠a)):=by rw[bA h,List.filter_append];simp[hb]
theorem aB4 {nb:List Nat}{j v:Nat}{a:Int}(h:nb[j]? =some v) (hb:(v:Int)≠a):(nb.take (j+1)).filter (fun(v:Nat)=>decide ((v:Int)≠a))=(nb.take j).filter (fun(v:Nat)=>decide ((v:Int)≠a))++ [v]:=by rw[bA h,List.filter_append];simp[hb]
theorem kD {a:Int}{D:List Int}{Q:List Nat}{v:Nat}(h:D.getD v 0<0):eF a (D,Q) v=(D.set v a,Q++ [v]):=by unfold eF;rw[if_pos h]
theorem lR {a:Int}{D:List Int}{Q:List Nat}{v:Nat}(h: ¬D.getD v 0<0):eF a (D,Q) v=(D,Q):=by unfold eF;rw[if_neg h]
theorem aKx {w:World}{B B2 n m c c2 sz sz2:Nat}{e e2:TypeId}{q q2:OA}{xs ys:List Value}(h1:w.ownsRow B e sz (.slice q n c) n xs)(h2: ∀g,(Value.slice q2 m c2).ownBlock=some g→g<B)(h0:(Value.slice q2 m c2).ownBlock≠none):(Value.slice q2 m c2).ownBlock≠(Value.slice q n c).ownBlock:=by
 intro he;cases hq:(Value.slice q n c).ownBlock with
 |none=>rw[hq]at he;exact h0 he
 |some g=>rw[hq]at he;have:=h2 g he;have:=(h1.lt g hq).1;omega
theorem aKj {w:World}{g n base:Nat}{t:TypeId}{cs:Array Value}(h:Blk w g t cs)(hn:cs.size=n)(hm:n≤maxLen)(hb:base≤g):w.ownsRow base t 1 (.slice (some ⟨g,0,none⟩) n n) n cs.toList:=
 ⟨by simpa using hn,.inr ⟨g,n,cs,rfl,hb,h,Nat.le_refl _,hm,by omega,by rw[Nat.mul_one,List.take_of_length_le (by simp;omega)]⟩⟩
abbrev bF (q:List Nat):List Int:=q.map (fun(k:Nat)=>(k:Int))
theorem fU {w:World}{g:Array Oper}{rest:List Oper}{o:Oper}{a:Act}{Q:Exit→Act→World→Prop}(m:o.guard=none)(s x:Operand)
  (ho:o.op= .call {callee:= .builtin .append,args:=#[s,x],argTypes:=#[23,23]})
  (base:Nat)(v:Value)(n:Nat)(xs:List Int)(hs:a.eval s=v)(f:w.ownsRow base 3 1 v n (ivs xs))
  (b e:Nat)(y:Int)(c:Nat)(hx:a.eval x= .slice (some ⟨b,e,none⟩) 1 c)(hc:w.cell? ⟨b,e,none⟩=some (iv y))
  (hn:n≤1099511627776)(d:base≤w.heap.size)
  (h: ∀p' cap' w',w'.ownsRow base 3 1 (.slice p' (n+1) cap') (n+1) (ivs (xs++ [y]))→w.grownBy w' v.ownBlock→((Value.slice p' (n+1) cap').ownBlock=v.ownBlock∨(Value.slice p' (n+1) cap').ownBlock=some w.heap.size)→wpList Tryz.prog g Q rest (a.put o.dst (.slice p' (n+1) cap')) w'):wpList Tryz.prog g Q (o::rest) a w:=by
 obtain⟨i,z,hi,hz,q,l,r⟩:=eV.info;refine wpList_append_own_at w m s x 23 ho base 3 i z 1 i.bytes eV.ht hi hz q rfl r eV.pos v n _ hs f ⟨b,e,none⟩ 1 c [iv y] hx rfl (fun j u hu=> ?_) (fun u hu=>by simp at hu;subst hu;rfl) (by unfold maxLen;omega) ?_ d ?_
 ·match j,hu with
  |0,hu=>simp at hu;subst hu;rw[jQ];exact hc
 ·have:(n+1)*i.bytes≤(n+1)*64:=Nat.mul_le_mul_left _ l;omega
 intro v' w' h2 h3 _ h5;obtain⟨p,k,rfl⟩:=lS h2;exact h p k w' (by simpa[ivs]using h2) h3 h5
theorem aF9 (aA aB:Int)(p:OA)(n f src:Nat)(a:Int)(w:World)(db:4≤n)(hn:n≤12)(hs:src<n)
  (HC:Hid (∀(k:Nat),k<n→ ∀w',Ext w w'→Calls Tryz.prog 228 #[aH aA aB p n f,k] w' (aX (bF (aS aA n k)) w'))):
  Calls Tryz.prog 227 #[aH aA aB p n f,(src:Int),a] w fun e w'=> ∃D,qR (oM aA n a) [src] n D∧aX D w e w':=by
 have a1:(0:Int)≤(src:Int):=by omega
 have a2:(src:Int)<(n:Int):=by omega
 go_enter Tryz.func227,Tryz.ntmps227;go_wp2;go_loopw [7,8] (fun v i wr=> ∃(k:Nat) (q:OA) (c:Nat),k≤n∧i= .int .i64 k∧v= .slice q k c∧wr.ownsRow (w.heap.size+1) TI 1 (.slice q k c) k (ivs (List.replicate k (-1)))∧Ext w wr∧Blk wr w.heap.size TH3 #[aA,aB,.slice p n f]) (fun _ i _=>n-(intOf i).toNat)
 case atStart=>have ho:((w.alloc (.cells #[aA,aB,.slice p n f] TH3)).alloc (.cells #[] TI)).ownsRow (w.heap.size+1) TI 1 (.slice (some ⟨(w.alloc (.cells #[aA,aB,.slice p n f] TH3)).heap.size,0,none⟩) 0 0) 0 []:=World.ownsRow_made _ #[] 0 (by simp) (by simp[maxLen]) rfl;exact⟨0,_,0,Nat.zero_le _,rfl,rfl,by simpa using ho,by exact .alloc (.alloc (.refl _) _) _,(Blk.new w _ _).alloc _⟩
 case round=>
  obtain⟨k,q,c,hk,rfl,rfl,au,b,hB⟩:=hrel;have HO:=xQ au;have HB:=xQ hB;have bq:w.heap.size<wr.heap.size:=hB.lt;clear au hB;obtain⟨b0,b1,b2⟩:=HB.out.cells3;by_cases hlt:k<n
  ·have y:Hid (List.replicate (k+1) (-1:Int)=List.replicate k (-1)++ [-1]):=by show _=_;rw[List.replicate_succ']
   go_wp2_with (at_builtin;refine cI eV rfl _ _ rfl (w.heap.size+1) _ _ _ rfl (HO.out.alloc _) _ _ (-1:Int) _ rfl (by simp) (by omega) (by first|(simp;done)|(simp;omega)) ?_;intro p' t w2 o s;have bv:=xQ o;have b8:Ext w w2:=Ext.own (b.alloc _) (HO.out.alloc _) s (by omega);have bs:=xQ (oG HO s HB.out);clear o s);go_roundw
   case rel=>exact⟨k+1,p',t,by omega,by go_num,rfl,by rw[y.out];exact bv.out,b8,bs.out⟩
   case measure=>simp[intOf];omega
  obtain rfl:n=k:=by omega
  obtain⟨gF,rfl,c6,c7⟩:=eM HO (by omega);have ck:wr.cell? ⟨gF,src,none⟩=some (.int .i64 (-1)):=by have:=HO.out.cellAt src (by omega);rw[this];simp[ivs,hs]
  have cm:wr.frozen? ⟨gF,src,none⟩=false:=HO.out.frozenAt src;go_upto_region 8 with fail;clear ck cm b0 b1 b2;have y1:=(HO.out.stored src (.int .i64 0)).1;have az:ExtR gF wr _:=(HO.out.stored src (.int .i64 0)).2;have a7:(World.setCell wr ⟨gF,src,none⟩ (.int .i64 0)).heap.size=wr.heap.size:=by simp
  generalize ch:World.setCell _ _ _=w1 at*;rw[←a7];clear ch;have F1:=xQ (show w1.ownsRow (w.heap.size+1) TI 1 (.slice (some ⟨gF,0,none⟩) n c) n (ivs ((List.replicate n (-1)).set src 0)) by rw[←dR];exact y1);have B1:=xQ (show Blk w1 w.heap.size TH3 #[aA,aB,.slice p n f]from(az.block _ HB.out.lt (by simp;omega)).trans HB.out);have X1:=xQ (ExtR.new b az (by omega));have z1:wr.heap.size≤w1.heap.size:=Nat.le_of_eq a7.symm;have dd:=B1.out.lt;clear a7 y1 az HO HB b bq;have bh:(w1.alloc (.cells #[(src:Int)] TI)).ownsRow w1.heap.size TI 1 (.slice (some ⟨w1.heap.size,0,none⟩) 1 1) 1 [.int .i64 (src:Int)]:=aKj (n:=1) (Blk.new w1 TI #[(src:Int)]) rfl (by simp[maxLen]) (Nat.le_refl _);have L1:=xQ bh;clear bh;have I1:=xQ (Inv.one (adj:=oM aA n a) hs);go_wp2;go_loopw [9,10] (fun v i wr=> ∃(k:Nat) (q:OA) (l lc:Nat) (D:List Int) (Q:List Nat),k≤l∧i= .int .i64 k∧v= .slice q l lc∧l=Q.length∧(∀x∈D,-1≤x∧x≤k)∧Inv (oM aA n a) [src] n k (D,Q)∧wr.ownsRow (w.heap.size+1) TI 1 (.slice (some ⟨gF,0,none⟩) n c) n (ivs D)∧wr.ownsRow w1.heap.size TI 1 (.slice q l lc) l (ivs (bF Q))∧Ext w wr∧Blk wr w.heap.size TH3 #[aA,aB,.slice p n f]∧w1.heap.size≤wr.heap.size) (fun _ i _=>n-(intOf i).toNat)
  case atStart=>exact⟨0,_,1,1,_,[src],Nat.zero_le _,rfl,rfl,rfl,aHv _ _,I1.out,F1.out.alloc _,L1.out,X1.out.alloc _,B1.out.alloc _,by simp⟩
  case round=>
   clear F1 B1 X1 L1 I1;obtain⟨wr1,rfl⟩: ∃wr1:World,wr1=wr:=⟨_,rfl⟩
   obtain⟨k,q,l,lc,D,Q,hk,rfl,rfl,a4,bj,ai,hF,hL,b,hB,bq⟩:=hrel;have HF:=xQ hF;have HL:=xQ hL;have HB:=xQ hB;have HI:=xQ ai;have ag:=xQ a4;have dc:l≤n:=by rw[a4];exact ai.qlen
   have a8:=xQ bj;clear hF hL hB ai a4 bj;by_cases hlt2:k<l
   ·obtain⟨gL,rfl,b9,ca⟩:=eM HL (by omega);obtain⟨u,hu⟩: ∃u,Q[k]? =some u:=⟨_,List.getElem?_eq_getElem (by rw[←ag.out];exact hlt2)⟩
    have ce:u<n:=HI.out.bd u (List.mem_of_getElem? hu);have HU:=xQ hu;clear hu;have i1:(0:Int)≤(k:Int):=by omega
    have i2:(k:Int)<(l:Int):=by omega
    have j1:(0:Int)≤(u:Int):=by omega
    have j2:(u:Int)<(n:Int):=by omega
    obtain⟨nb,al⟩: ∃nb,nb=aS aA n u:=⟨_,rfl⟩
    have aw:=xQ al;have a9:Hid (∀w',Ext w w'→Calls Tryz.prog 228 #[aH aA aB p n f,(u:Int)] w' (aX (bF nb) w')):=by rw[al];exact HC u ce
    have cd:nb.length≤n:=by rw[al];exact Nat.le_trans (List.length_filter_le _ _) (by simp)
    clear al;have bo:(bF nb).length=nb.length:=by simp[bF]
    go_wp2;refine rL (gl [gEq (aH aA aB p n f),gEq (.slice (some ⟨gL,0,none⟩) l lc),gEq (k:Int),gEq (.pointer (some ⟨gL,k,none⟩)),gEq (u:Int),(fun v w'=> ∃q c,v= .slice q nb.length c∧w'.ownsRow wr1.heap.size TI 1 (.slice q nb.length c) nb.length (ivs (bF nb)))]) 6 7 [(0,some 35),(1,some 36),(2,some 37),(3,some 38),(4,some 39),(5,some 40)] ?steps ?fin (hG:=(mN (bN (bS _) (bN (bS _) (bN (bS _) (bN (bS _) (bN (bS _) (bN (fun v w w' ⟨q,c,he,ho⟩ hx=>⟨q,c,he,bG ho hx⟩) (pD)))))))))
    case steps=>
     refine sC [] rfl (fun wi hx=> ?_) ?_
     ·intro K hK;have B:=HB.out.ext hx.of_drew;have cx:=B.cl 0;have B:=HB.out.ext hx.of_drew;have cy:=B.cl 1;have B:=HB.out.ext hx.of_drew;have cz:=B.cl 2;go_simp;exact hK _ _ ⟨aH aA aB p n f,rfl,rfl,Ext.refl _⟩
     refine sS0 [] (sS0 [] (sS2 [(1,some 36),(2,some 37)] ?_));refine sC [(3,some 38)] rfl (fun wi hx=> ?_) ?_
     ·intro v3 h3 K hK;obtain rfl:=h3;have cu:wi.cell? ⟨gL,k,none⟩=some (.int .i64 (u:Int)):=by have:=(bG HL hx.of_drew).cellAt k (by omega);rw[this];simp[ivs,bF,HU.out]
      go_simp;exact hK _ _ ⟨.int .i64 (u:Int),rfl,rfl,Ext.refl _⟩
     refine sC [(0,some 35),(4,some 39)] rfl (fun wi hx=> ?_) StepsL.nil
     ·intro v0 h0 v4 h4 K hK;obtain rfl:=h0;obtain rfl:=h4;go_wp2_with fail;refine(a9 _ (b.trans hx.of_drew)).mono ?_;rintro e w5 ⟨q5,c5,rfl,o5,cj⟩;rw[bo]at o5⊢;go_simp;exact hK _ _ ⟨.slice q5 nb.length c5,rfl,⟨q5,c5,rfl,bE o5 (by have:=hx.sz;simpa using this)⟩,cj⟩
    case fin=>
     intro wi hx v0 h0 v1 h1 v2 h2 v3 h3 v4 h4 v5 h5;obtain rfl:=h0;obtain rfl:=h1;obtain rfl:=h2;obtain rfl:=h3;obtain rfl:=h4;obtain⟨q5,c5,rfl,a5⟩:=h5;refine wpAny_ready (rs:= [6]) (by kernel_rfl) (by simp) ?_;refine AllReady.cons rfl (fun K hK=> ?_) AllReady.nil;go_simp;refine hK _ _ ?_;clear hK K;refine wpAny_done (by kernel_rfl) ?_ _;have d:=hx.of_drew;have F2:=xQ (bG HF d);have L2:=xQ (bG HL d);have B2:=xQ (HB.out.ext d);have X2:=xQ (b.trans d);have N2:=xQ a5;have z2:=d.sz;have bb:=xQ (aKx (q2:=some ⟨gL,0,none⟩) (m:=l) (c2:=lc) (B2:=0) (sz2:=0) (e2:=TI) (ys:= []) a5 (fun g hg=>by simp[Value.ownBlock]at hg;omega) (by simp[Value.ownBlock]));clear HF HL HB b a5 hx d a9;go_wp2;obtain⟨wo,rfl⟩: ∃wo:World,wo=wi:=⟨_,rfl⟩
     go_loopw [9,12] (fun v i wr=> ∃(j:Nat) (q:OA) (l2 lc:Nat) (D2:List Int) (Q2:List Nat),j≤nb.length∧i= .int .i64 j∧v= .slice q l2 lc∧l2=Q2.length∧(D2,Q2)=bL (D.getD u 0+1) (D,Q) ((nb.take j).filter (fun(v:Nat)=>decide ((v:Int)≠a)))∧(∀x∈D2,-1≤x∧x≤(k:Int)+1)∧wr.ownsRow (w.heap.size+1) TI 1 (.slice (some ⟨gF,0,none⟩) n c) n (ivs D2)∧wr.ownsRow w1.heap.size TI 1 (.slice q l2 lc) l2 (ivs (bF Q2))∧wr.ownsRow wr1.heap.size TI 1 (.slice q5 nb.length c5) nb.length (ivs (bF nb))∧(Value.slice q l2 lc).ownBlock≠(Value.slice q5 nb.length c5).ownBlock∧Ext w wr∧Blk wr w.heap.size TH3 #[aA,aB,.slice p n f]∧wo.heap.size≤wr.heap.size) (fun _ i _=>nb.length-(intOf i).toNat)
     case atStart=>exact⟨0,_,l,lc,D,Q,Nat.zero_le _,rfl,rfl,ag.out,by simp[bL],fun x hx=>by have:=a8 x hx;omega,F2.out,L2.out,N2.out,bb.out,X2.out,B2.out,Nat.le_refl _⟩
     case round=>
      clear F2 L2 B2 X2 N2 bb;obtain⟨j,q,l2,lc,D2,Q2,hj,rfl,rfl,ar,a3,ah,hF,hL,hN,bp,b,hB,av⟩:=hrel;have br:u∈Q:=List.mem_of_getElem? HU.out;have z:Mid (oM aA n a) [src] n k u ((nb.take j).filter (fun(v:Nat)=>decide ((v:Int)≠a))) (D,Q) (D2,Q2):=by
       rw[a3]
       have:=Mid.many br ((nb.take j).filter (fun(v:Nat)=>decide ((v:Int)≠a))) [] (D,Q) (HI.out.mid HU.out) (fun v hv=>by
        have h1:=List.mem_filter.1 hv;have h2:v∈aS aA n u:=by rw[←aw.out];exact List.mem_of_mem_take h1.1
        exact⟨List.mem_filter.2 ⟨h2,h1.2⟩,(bQ.1 h2).1⟩)
       simpa using this
      have bc:D2.length=n:=z.len;have da:Q2.length≤n:=nF z.nodup z.bd;have a6:D2.getD u 0=D.getD u 0:=z.same u br;obtain⟨r,hr⟩:=z.pre;dsimp only at hr;have cc:k<Q2.length:=by rw[hr,List.length_append];have:=ag.out;omega
      have bi:Q2[k]? =some u:=by have:=ag.out;rw[hr,List.getElem?_append_left (by omega)];exact HU.out
      have af:=dD (D:=D2) (v:=u) (by omega);have cq: -1≤D2.getD u 0:=(ah _ af.2).1;have cr:D2.getD u 0≤(k:Int):=by rw[a6];exact(a8 _ (dD (D:=D) (v:=u) (by have:=HI.out.len;dsimp only at this;omega)).2).2
      have HF:=xQ hF;have HL:=xQ hL;have HN:=xQ hN;have ak:=xQ bp;have HB:=xQ hB;have aj:=xQ a3;have ab:=xQ ah;have ad:=xQ ar;have bw:=xQ bi;have bu:=xQ af.1;have bx:=xQ a6;have ct:l2≤n:=by omega
      have cs:k<l2:=by omega
      have be:=xQ bc;have sB:w.heap.size<wr.heap.size:=hB.lt;clear hF hL hN bp hB a3 ah ar bi af a6 hr z bc cc;by_cases hlt3:j<nb.length
      ·obtain⟨v,hv⟩: ∃v,nb[j]? =some v:=⟨_,List.getElem?_eq_getElem hlt3⟩
       have cg:v<n:=(bQ.1 (by rw[←aw.out];exact List.mem_of_getElem? hv:v∈aS aA n u)).1;have HV:=xQ hv;clear hv;obtain⟨gN,rfl,c8,c9⟩:=eM HN (by omega);obtain⟨gL,rfl,b9,ca⟩:=eM HL (by omega);obtain⟨dv,bl,aq⟩: ∃dv,D2[v]? =some dv∧D2.getD v 0=dv:=⟨_,(dD (D:=D2) (v:=v) (by rw[be.out];exact cg)).1,rfl⟩
       have ba:=xQ bl;have an:=xQ aq;clear bl aq;have m1:(0:Int)≤(j:Int):=by omega
       have m2:(j:Int)<(nb.length:Int):=by omega
       have m3:(0:Int)≤(v:Int):=by omega
       have m4:(v:Int)<(n:Int):=by omega
       have m5:(k:Int)<(l2:Int):=by omega
       have cn:wr.cell? ⟨gN,j,none⟩=some (.int .i64 (v:Int)):=by have:=HN.out.cellAt j (by omega);rw[this];simp[ivs,bF,HV.out]
       have cf:wr.cell? ⟨gF,v,none⟩=some (.int .i64 dv):=by have:=HF.out.cellAt v (by omega);rw[this];simp[ivs,ba.out]
       by_cases hvb:(v:Int)=a
       ·have t0:((v:Int)!=a)=false:=by simp[hvb]
        have y:=xQ (aEi HV hvb);clear hvb;go_wp2;go_roundw
        case rel=>exact⟨j+1,_,l2,lc,D2,Q2,by omega,by go_num,rfl,ad.out,by rw[y.out];exact aj.out,ab.out,HF.out,HL.out,HN.out,ak.out,b,HB.out,av⟩
        case measure=>simp[intOf];omega
       have t0:((v:Int)!=a)=true:=by simp[hvb]
       have y:=xQ (aB4 HV hvb);clear hvb;by_cases hd0:dv<0
       ·have t1:decide (dv<0)=true:=by simp[hd0]
        have aa:Hid ((D2.set v (D.getD u 0+1),Q2++ [v])=bL (D.getD u 0+1) (D,Q) ((nb.take (j+1)).filter (fun(v:Nat)=>decide ((v:Int)≠a)))):=by show _=_;rw[y.out,dM,←aj.out,kD (by rw[an.out];exact hd0)]
        obtain⟨du,af⟩: ∃du,du=D2.getD u 0:=⟨_,rfl⟩
        have am:=xQ af;have c0: -1≤du:=by omega
        have c1:du≤(k:Int):=by omega
        have cw:IntKind.i64.wrap (du+1)=du+1:=IntWalk.i64_in _ (by omega);clear af hd0;go_wp2;refine rL (gl [gEq (.slice (some ⟨gF,0,none⟩) n c),gEq (.slice (some ⟨gN,0,none⟩) nb.length c5),gEq (j:Int),gEq (.pointer (some ⟨gN,j,none⟩)),gEq (v:Int),gEq (.slice (some ⟨gF,0,none⟩) n c),gEq (.slice (some ⟨gL,0,none⟩) l2 lc),gEq (k:Int),gEq (.pointer (some ⟨gL,k,none⟩)),gEq (u:Int),gEq (.pointer (some ⟨gF,u,none⟩)),gEq du,gEq (du+1:Int),gEq (.pointer (some ⟨gF,v,none⟩))]) 14 15 [(0,some 63),(1,some 64),(2,some 65),(3,some 66),(4,some 67),(5,some 68),(6,some 69),(7,some 70),(8,some 71),(9,some 72),(10,some 73),(11,some 74),(12,some 75),(13,some 76)] ?steps ?fin
        case steps=>
         refine sC [] rfl (fun wj hx=> ?_) ?_
         ·intro K hK;go_simp;exact hK _ _ ⟨.slice (some ⟨gF,0,none⟩) n c,rfl,rfl,Ext.refl _⟩
         refine sC [] rfl (fun wj hx=> ?_) ?_
         ·intro K hK;go_simp;exact hK _ _ ⟨.slice (some ⟨gN,0,none⟩) nb.length c5,rfl,rfl,Ext.refl _⟩
         refine sC [] rfl (fun wj hx=> ?_) ?_
         ·intro K hK;go_simp;exact hK _ _ ⟨.int .i64 (j:Int),rfl,rfl,Ext.refl _⟩
         refine sC [(1,some 64),(2,some 65)] rfl (fun wj hx=> ?_) ?_
         ·intro v1 h1 v2 h2 K hK;obtain rfl:=h1;obtain rfl:=h2;go_simp;exact hK _ _ ⟨.pointer (some ⟨gN,j,none⟩),rfl,rfl,Ext.refl _⟩
         refine sC [(3,some 66)] rfl (fun wj hx=> ?_) ?_
         ·intro v3 h3 K hK;obtain rfl:=h3;have cv:wj.cell? ⟨gN,j,none⟩=some (.int .i64 (v:Int)):=by have:=(bG HN hx.of_drew).cellAt j (by omega);rw[this];simp[ivs,bF,HV.out]
          go_simp;exact hK _ _ ⟨.int .i64 (v:Int),rfl,rfl,Ext.refl _⟩
         refine sC [] rfl (fun wj hx=> ?_) ?_
         ·intro K hK;go_simp;exact hK _ _ ⟨.slice (some ⟨gF,0,none⟩) n c,rfl,rfl,Ext.refl _⟩
         refine sC [] rfl (fun wj hx=> ?_) ?_
         ·intro K hK;go_simp;exact hK _ _ ⟨.slice (some ⟨gL,0,none⟩) l2 lc,rfl,rfl,Ext.refl _⟩
         refine sC [] rfl (fun wj hx=> ?_) ?_
         ·intro K hK;go_simp;exact hK _ _ ⟨.int .i64 (k:Int),rfl,rfl,Ext.refl _⟩
         refine sC [(6,some 69),(7,some 70)] rfl (fun wj hx=> ?_) ?_
         ·intro v6 h6 v7 h7 K hK;obtain rfl:=h6;obtain rfl:=h7;go_simp;exact hK _ _ ⟨.pointer (some ⟨gL,k,none⟩),rfl,rfl,Ext.refl _⟩
         refine sC [(8,some 71)] rfl (fun wj hx=> ?_) ?_
         ·intro v8 h8 K hK;obtain rfl:=h8;have cv:wj.cell? ⟨gL,k,none⟩=some (.int .i64 (u:Int)):=by have:=(bG HL hx.of_drew).cellAt k (by omega);rw[this];simp[ivs,bF,bw.out]
          go_simp;exact hK _ _ ⟨.int .i64 (u:Int),rfl,rfl,Ext.refl _⟩
         refine sC [(5,some 68),(9,some 72)] rfl (fun wj hx=> ?_) ?_
         ·intro v5 h5 v9 h9 K hK;obtain rfl:=h5;obtain rfl:=h9;go_simp;exact hK _ _ ⟨.pointer (some ⟨gF,u,none⟩),rfl,rfl,Ext.refl _⟩
         refine sC [(10,some 73)] rfl (fun wj hx=> ?_) ?_
         ·intro co ax K hK;obtain rfl:=ax;have cv:wj.cell? ⟨gF,u,none⟩=some (.int .i64 du):=by have:=(bG HF hx.of_drew).cellAt u (by omega);rw[this,am.out];simp only[ivs,List.getElem?_map,bu.out,Option.map_some]
          go_simp;exact hK _ _ ⟨.int .i64 du,rfl,rfl,Ext.refl _⟩
         refine sC [(11,some 74)] rfl (fun wj hx=> ?_) ?_
         ·intro cp ay K hK;obtain rfl:=ay;go_simp;exact hK _ _ ⟨.int .i64 (du+1),rfl,rfl,Ext.refl _⟩
         refine sC [(0,some 63),(4,some 67)] rfl (fun wj hx=> ?_) StepsL.nil
         ·intro v0 h0 v4 h4 K hK;obtain rfl:=h0;obtain rfl:=h4;go_simp;exact hK _ _ ⟨.pointer (some ⟨gF,v,none⟩),rfl,rfl,Ext.refl _⟩
        case fin=>
         intro wj hx v0 h0 v1 h1 v2 h2 v3 h3 v4 h4 v5 h5 v6 h6 v7 h7 v8 h8 v9 h9 co ax cp ay de b6 df b7;obtain rfl:=h0;obtain rfl:=h1;obtain rfl:=h2;obtain rfl:=h3;obtain rfl:=h4;obtain rfl:=h5;obtain rfl:=h6;obtain rfl:=h7;obtain rfl:=h8;obtain rfl:=h9;obtain rfl:=ax;obtain rfl:=ay;obtain rfl:=b6;obtain rfl:=b7;have d:=hx.of_drew;have F3:=xQ (bG HF d);have L3:=xQ (bG HL d);have N3:=xQ (bG HN d);have B3:=xQ (HB.out.ext d);have X3:=xQ (b.trans d);have z3:=d.sz;clear HF HL HN HB b hx d cn cf;have b3:wj.cell? ⟨gF,v,none⟩=some (.int .i64 dv):=by have:=F3.out.cellAt v (by omega);rw[this];simp[ivs,ba.out]
         have b5:wj.frozen? ⟨gF,v,none⟩=false:=F3.out.frozenAt v;refine wpAny_ready (rs:= [14]) (by kernel_rfl) (by simp) ?_;refine AllReady.cons rfl (fun K hK=> ?_) AllReady.nil;go_simp;refine hK _ _ ?_;clear hK K b3 b5;have y4:=(F3.out.stored v (.int .i64 (du+1))).1;have ae:ExtR gF wj _:=(F3.out.stored v (.int .i64 (du+1))).2;generalize ci:World.setCell _ _ _=w4 at*;clear ci;have F4:=xQ (show w4.ownsRow (w.heap.size+1) TI 1 (.slice (some ⟨gF,0,none⟩) n c) n (ivs (D2.set v (du+1))) by rw[←dR];exact y4);have L4:=xQ (L3.out.kept ae (.inr (by simp[Value.ownBlock];omega)));have N4:=xQ (N3.out.kept ae (.inr (by simp[Value.ownBlock];omega)));have B4:=xQ (show Blk w4 w.heap.size TH3 #[aA,aB,.slice p n f]from(ae.block _ B3.out.lt (by simp;omega)).trans B3.out);have X4:=xQ (ExtR.new X3 ae (by omega));have z4:=ae.sz;clear F3 L3 N3 B3 X3 y4 ae;refine wpAny_done (by kernel_rfl) ?_ _;have b4:w4.cell? ⟨gN,j,none⟩=some (.int .i64 (v:Int)):=by have:=N4.out.cellAt j (by omega);rw[this];simp[ivs,bF,HV.out]
         have c4:=(N4.out.lt gN rfl).2;have c3:=(L4.out.lt gL rfl).2;have cb:w1.heap.size≤w4.heap.size:=by omega
         go_wp2_with (at_builtin;refine fU rfl _ _ rfl w1.heap.size _ _ _ rfl (L4.out.alloc _) _ _ (v:Int) _ rfl (by simp) (by omega) (Nat.le_trans cb (by simp)) ?_;intro p' t w9 o bm ao;have s:World.grownBy _ w9 (Value.slice (some ⟨gL,0,none⟩) l2 lc).ownBlock:=bm;have ap:(Value.slice p' (l2+1) t).ownBlock=(Value.slice (some ⟨gL,0,none⟩) l2 lc).ownBlock∨(Value.slice p' (l2+1) t).ownBlock=some (w4.alloc (.cells #[(v:Int)] TI)).heap.size:=ao;have F5:=xQ ((F4.out.alloc _).kept s (.inr (by simp[Value.ownBlock];omega)));have N5:=xQ ((N4.out.alloc _).kept s (.inr (Ne.symm ak.out)));have L5:=xQ o;have E5:=xQ (Ext.own (X4.out.alloc _) (L4.out.alloc _) s (by omega));have B5:=xQ ((B4.out.alloc _).grown s (by simp[Value.ownBlock];omega));have z9:=s.size;have A5:=xQ ap;clear o s ap bm ao);have bz:Hid ((Value.slice p' (l2+1) t).ownBlock≠(Value.slice (some ⟨gN,0,none⟩) nb.length c5).ownBlock):=by
          show _≠_;rcases A5.out with h|h
          ·rw[h];exact ak.out
          rw[h];simp[Value.ownBlock];omega
         have dg:w4.heap.size≤w9.heap.size:=Nat.le_trans (by simp) z9;clear z9 b4;go_roundw
         case rel=>
          refine⟨j+1,p',l2+1,t,D2.set v (du+1),Q2++ [v],by omega,by go_num,rfl,by simp[ad.out],?_,?_,F5.out,?_,N5.out,bz.out,E5.out,B5.out,by omega⟩
          ·rw[am.out,bx.out];exact aa.out
          ·intro x hx;rcases List.mem_or_eq_of_mem_set hx with h|h
           ·exact ab x h
           omega
          have:=L5.out;simpa[bF]using this
         case measure=>simp[intOf];omega
       have t1:decide (dv<0)=false:=by simp[hd0]
       have aa:Hid ((D2,Q2)=bL (D.getD u 0+1) (D,Q) ((nb.take (j+1)).filter (fun(v:Nat)=>decide ((v:Int)≠a)))):=by show _=_;rw[y.out,dM,←aj.out,lR (by rw[an.out];exact hd0)]
       clear hd0;go_wp2;go_roundw
       case rel=>exact⟨j+1,_,l2,lc,D2,Q2,by omega,by go_num,rfl,ad.out,aa.out,ab.out,HF.out,HL.out,HN.out,ak.out,b,HB.out,av⟩
       case measure=>simp[intOf];omega
      have bn:j=nb.length:=by omega
      have bg:Hid (Inv (oM aA n a) [src] n (k+1) (D2,Q2)):=by
       have h1:=HI.out.step HU (fun v hv=>aEr hv);have h2:=aj.out;rw[bn,List.take_length]at h2;have h3:nb.filter (fun(v:Nat)=>decide ((v:Int)≠a))=oM aA n a u:=by rw[aw.out];rfl
       rw[h3]at h2;rw[h2];exact h1
      have bk:Hid (∀x∈D2,-1≤x∧x≤((k+1:Nat):Int)):=fun x hx=>by have:=ab x hx;omega
      clear bn;go_wp2;go_roundw
      case rel=>exact⟨k+1,_,l2,lc,D2,Q2,by omega,by go_num,rfl,ad.out,bk.out,bg.out,HF.out,HL.out,b,HB.out,by omega⟩
      case measure=>simp[intOf];omega
   have a0:=xQ (HI.out.dist (by have:=ag.out;dsimp only;omega));have bf:=HI.out.len;have bt:=xQ bf;clear bf;go_wp2;go_ret;exact⟨D,a0.out,cZ bt (bE HF (Nat.le_succ _)) b⟩
theorem aFr (aA aB:Int)(p:OA)(n a src:Nat)(b:Int)(xs:List Int)(w:World)(hS:Sl w p n a 1 (ivs xs))(c:aM aA aB xs=true)(hs:src<n):
  Calls Tryz.prog 227 #[aH aA aB p n a,(src:Int),b] w fun e w'=> ∃D,qR (oM aA n b) [src] n D∧aX D w e w':=by
 have hl:=hS.ilen;obtain⟨g1,g2,g3,g4,g5,g6,g7,g8,g9⟩:=bM c
 exact aF9 aA aB p n a src b w (by omega) (by omega) hs (fun k hk w' hx=>by
  have:=aCa aA aB k p n a xs w' (hS.ext hx) c (by omega) (by omega)
  rwa[kH]at this)
end Go.Proofs.YtpelpnfhbepokaaGreatDoor
namespace Go.Proofs.YtpelpnfhbepokaaGreatDoor
set_option linter.unusedVariables false
def kI (aA:Int)(n u:Nat):Nat:=((aS aA n u).find? (fun(v:Nat)=>decide (aW aA v 0=aW aA u 0-1))).getD 0
def cX (aA:Int)(n:Nat):Nat→Nat→List Nat
 |0,u=> [u]
 |f+1,u=>if u=0 then [u]else u::cX aA n f (kI aA n u)
def gU:List (Int×Nat):= [(2,4),(2,6),(3,6),(3,9),(4,8),(4,12)]
def aK8 (aA:Int)(n:Nat):Bool:=
 (List.range n).all fun u=>decide (0≤aW aA u 0∧aW aA u 0≤5)&&decide (aW aA u 0=0↔u=0)
  &&(decide (u=0) || (decide (kI aA n u<n)&&decide (kI aA n u∈aS aA n u)&&decide (aW aA (kI aA n u) 0=aW aA u 0-1)))
  &&(List.range n).all fun v=> !decide (v∈aS aA n u) || decide (aW aA u 0≤aW aA v 0+1)
theorem aIv:(gU.all fun g=>aK8 g.1 g.2)=true:=by decide+kernel
theorem pC {aA aB:Int}{n:Nat}(h0:2≤aA)(h1:aA≤4)(h2:2≤aB)(h3:aB≤3)(hn:(n:Int)=aA*aB):(aA,n)∈gU:=by
 have hw:aA=2∨aA=3∨aA=4:=by omega
 have hd:aB=2∨aB=3:=by omega
 rcases hw with rfl|rfl|rfl<;>rcases hd with rfl|rfl
 ·obtain rfl:n=4:=by omega
  decide
 ·obtain rfl:n=6:=by omega
  decide
 ·obtain rfl:n=6:=by omega
  decide
 ·obtain rfl:n=9:=by omega
  decide
 ·obtain rfl:n=8:=by omega
  decide
 obtain rfl:n=12:=by omega
 decide
theorem bT {aA:Int}{n:Nat}(h:(aA,n)∈gU){u:Nat}(hu:u<n):
  0≤aW aA u 0∧aW aA u 0≤5∧(aW aA u 0=0↔u=0)
  ∧(u≠0→kI aA n u<n∧kI aA n u∈aS aA n u∧aW aA (kI aA n u) 0=aW aA u 0-1)
  ∧ ∀v∈aS aA n u,aW aA u 0≤aW aA v 0+1:=by
 have h1:=List.all_eq_true.1 aIv _ h;have h2:=List.all_eq_true.1 h1 u (List.mem_range.2 hu);simp only[Bool.and_eq_true,Bool.or_eq_true,decide_eq_true_eq]at h2;obtain⟨⟨⟨⟨a,b⟩,c⟩,d⟩,e⟩:=h2;refine⟨a,b,c,fun h=> ?_,fun v hv=> ?_⟩
 ·rcases d with d|d
  ·exact absurd d h
  exact⟨d.1.1,d.1.2,d.2⟩
 have:=List.all_eq_true.1 e v (List.mem_range.2 (bQ.1 hv).1);simpa[hv]using this
theorem wX {aA:Int}{n:Nat}(h:(aA,n)∈gU){adj:Nat→List Nat}(ha: ∀u,adj u=aS aA n u){D:List Int}(hD:qR adj [0] n D){u:Nat}(hu:u<n):D.getD u 0=aW aA u 0:=by
 have hn:0<n:=by omega
 have up: ∀(d:Nat) v,v<n→aW aA v 0=d→0≤D.getD v 0∧D.getD v 0≤d:=by
  intro d;induction d with
  |zero=>intro v hv e;have e0:=(bT h hv).2.2.1.1 e;have:=(hD.zero v hv).2 (by simp[e0]);omega
  |succ d ih=>
   intro v hv e;have g:v≠0:=fun e0=>by have:=(bT h hv).2.2.1.2 e0;omega
   obtain⟨h1,h2,h3⟩:=(bT h hv).2.2.2.1 g;obtain⟨i1,i2⟩:=ih _ h1 (by omega);have:=hD.edge _ v h1 i1 (by rw[ha];exact fK hv h2);omega
 have f: ∀(d:Nat) v,v<n→D.getD v 0=d→aW aA v 0≤d:=by
  intro d;induction d with
  |zero=>intro v hv e;have hm:=(hD.zero v hv).1 e;simp at hm;have:=(bT h hv).2.2.1.2 hm;omega
  |succ d ih=>intro v hv e;obtain⟨x,hx,hm,e2⟩:=hD.back v hv (by omega);have i1:=ih x hx (by omega);rw[ha]at hm;have:=(bT h hv).2.2.2.2 x (fK hx hm);omega
 obtain⟨a,b,_⟩:=bT h hu;obtain⟨c,e⟩:=up (aW aA u 0).toNat u hu (by omega);have:=f (D.getD u 0).toNat u hu (by omega);omega
theorem aEh {α:Type}{p:α→Bool}{d x:α}: ∀ {l:List α},x∈l→p x=true→ ∃j,j<l.length∧l[j]? =some ((l.find? p).getD d)∧p ((l.find? p).getD d)=true∧ ∀i y,i<j→l[i]? =some y→p y=false:=by
 intro l;induction l with
 |nil=>intro h;simp at h
 |cons a l ih=>
  intro hx hp;by_cases ha:p a=true
  ·refine⟨0,by simp,by simp[ha],by simp[ha],fun i y hi=>by omega⟩
  have b:p a=false:=by simpa using ha
  have c:x∈l:=by
   rcases List.mem_cons.1 hx with e|e
   ·subst e;exact absurd hp ha
   exact e
  obtain⟨j,h1,h2,h3,h4⟩:=ih c hp;have e:((a::l).find? p).getD d=(l.find? p).getD d:=by rw[List.find?_cons_of_neg (by simp[b])]
  refine⟨j+1,by simp;omega,by rw[e];simpa using h2,by rw[e];exact h3,?_⟩;intro i y hi hy;cases i with
  |zero=>simp at hy;subst hy;exact b
  |succ i=>exact h4 i y (by omega) (by simpa using hy)
theorem aE2 {aA:Int}{n:Nat}(h:(aA,n)∈gU){u:Nat}(hu:u<n)(h0:u≠0):
  ∃j,j<(aS aA n u).length∧(aS aA n u)[j]? =some (kI aA n u)∧ ∀i v,i<j→(aS aA n u)[i]? =some v→aW aA v 0≠aW aA u 0-1:=by
 obtain⟨a,b,c⟩:=(bT h hu).2.2.2.1 h0;obtain⟨j,h1,h2,_,h4⟩:=aEh (p:=fun(v:Nat)=>decide (aW aA v 0=aW aA u 0-1)) (d:=0) b (by simpa using c);exact⟨j,h1,h2,fun i v hi hv=>by simpa using h4 i v hi hv⟩
theorem lP {aA:Int}{n:Nat}(h:(aA,n)∈gU): ∀(f u:Nat),u<n→aW aA u 0≤f→((cX aA n f u).length:Int)=aW aA u 0+1:=by
 intro f;induction f with
 |zero=>intro u hu hf;have:=(bT h hu).1;simp[cX];omega
 |succ f ih=>
  intro u hu hf;unfold cX;by_cases h0:u=0
  ·rw[if_pos h0];have:=(bT h hu).2.2.1.2 h0;simp;omega
  rw[if_neg h0];obtain⟨a,b,c⟩:=(bT h hu).2.2.2.1 h0;have:=ih _ a (by omega);simp;omega
theorem qT (aA:Int)(n f u:Nat):(cX aA n f u)[0]? =some u:=by
 cases f with
 |zero=>simp[cX]
 |succ f=>unfold cX;split<;>simp
theorem rX {aA:Int}{n:Nat}(h:(aA,n)∈gU): ∀(f u k x y:Nat),u<n→(cX aA n f u)[k]? =some x→(cX aA n f u)[k+1]? =some y→y<n∧y∈aS aA n x:=by
 intro f;induction f with
 |zero=>intro u k x y hu hx hy;simp[cX]at hy
 |succ f ih=>
  intro u k x y hu hx hy;unfold cX at hx hy;by_cases h0:u=0
  ·rw[if_pos h0]at hy;simp at hy
  rw[if_neg h0]at hx hy;obtain⟨a,b,c⟩:=(bT h hu).2.2.2.1 h0;cases k with
  |zero=>simp at hx hy;have:=qT aA n f (kI aA n u);rw[hy]at this;injection this with e;subst hx e;exact⟨a,b⟩
  |succ k=>exact ih _ k x y a (by simpa using hx) (by simpa using hy)
theorem aDz {aA:Int}{n:Nat}(h:(aA,n)∈gU): ∀(f u x:Nat),u<n→x∈cX aA n f u→x<n:=by
 intro f;induction f with
 |zero=>intro u x hu hx;simp[cX]at hx;omega
 |succ f ih=>
  intro u x hu hx;unfold cX at hx;by_cases h0:u=0
  ·rw[if_pos h0]at hx;simp at hx;omega
  rw[if_neg h0]at hx;obtain⟨a,b,c⟩:=(bT h hu).2.2.2.1 h0;rcases List.mem_cons.1 hx with e|e
  ·omega
  exact ih _ x a e
end Go.Proofs.YtpelpnfhbepokaaGreatDoor
