/-
  Texts of this proof, packed (@packed).
-/
import Derived.Test.YthfmmibomhhmpaaGreatDoorY10
namespace Go.Proofs.YthfmmibomhhmpaaGreatDoor
set_option linter.unusedSimpArgs false
set_option linter.unusedVariables false
set_option maxHeartbeats 8000000
set_option maxRecDepth 100000
section
open Go.RowKit
theorem aNv {xs:List Int}{i j:Nat}{a b:Int}(hi:xs[i]? =some a) (hj:xs[j]? =some b) (d:i≠j):List.Perm ((xs.set j a).set i b) xs:=by
 induction xs generalizing i j with
 |nil=>simp at hi
 |cons x xs ih=>
  cases i with
  |zero=>
   cases j with
   |zero=>exact absurd rfl d
   |succ j=>
    simp only[aVm,aUq,aVi]at hi hj;subst hi;simp only[aTj,aTk];obtain⟨c,rfl⟩:=aT9.1 hj;clear ih d hj;induction xs generalizing j with
    |nil=>simp at c
    |cons y ys ih2=>
     cases j with
     |zero=>simpa using List.Perm.swap x y ys
     |succ j=>simp only[aUh,Nat.add_lt_add_iff_right]at c;simp only[aTj,List.getElem_cons_succ];exact(List.Perm.swap y _ _).trans ((List.Perm.cons y (ih2 j c)).trans (List.Perm.swap x y ys))
  |succ i=>
   cases j with
   |zero=>
    simp only[aVm,aUq,aVi]at hi hj;subst hj;simp only[aTj,aTk];obtain⟨c,rfl⟩:=aT9.1 hi;clear ih d hi;induction xs generalizing i with
    |nil=>simp at c
    |cons y ys ih2=>
     cases i with
     |zero=>simpa using List.Perm.swap x y ys
     |succ i=>simp only[aUh,Nat.add_lt_add_iff_right]at c;simp only[aTj,List.getElem_cons_succ];exact(List.Perm.swap y _ _).trans ((List.Perm.cons y (ih2 i c)).trans (List.Perm.swap x y ys))
   |succ j=>simp only[aVi]at hi hj;simp only[aTj];exact List.Perm.cons x (ih hi hj (by omega))
theorem wQ {aA aB:Int}{xs ys:List Int}(h:aN aA aB xs=true)(hp:List.Perm ys xs):aN aA aB ys=true:=by unfold aN at*;rw[aTf]at*;refine⟨by rw[hp.length_eq];exact h.1,?_⟩;obtain⟨h1,h2,h3⟩:=(eI _ _).1 h.2;exact(eI _ _).2 ⟨fun x hx=>h1 x (hp.mem_iff.1 hx),fun x hx=>h2 x (hp.mem_iff.1 hx),(hp.filter _).nodup_iff.2 h3⟩
theorem oT {aA aB:Int}{xs:List Int}(f t:Int):List.Perm (bL aA aB xs f t) xs:=by
 unfold bL;cases h:bH aA aB xs f t with
 |false=>exact List.Perm.refl _
 |true=>
  rw[if_pos rfl];obtain⟨k1,k2,k3,k4,k5,k6,k7,k8,k9⟩:=kH h;refine aNv ?_ ?_ (by omega)
  ·rw[aTb,aT6 (by omega)];rfl
  rw[aT6 (by omega)];rw[aTb,aT6 (by omega)]at k8;simpa using k8
theorem jK {aA aB:Int}{xs:List Int}(f t:Int)(h:aN aA aB xs=true):aN aA aB (bL aA aB xs f t)=true:=wQ h (oT f t)
def bD (aA aB:Int):List Int→List Sl2→List Int×Nat
 |xs,[]=>(xs,0)
 |xs,s::l=>if bH aA aB xs s.1 s.2 then((bD aA aB (bL aA aB xs s.1 s.2) l).1,(bD aA aB (bL aA aB xs s.1 s.2) l).2+1)else(xs,0)
theorem eW {aA aB:Int}{xs:List Int}{s:Sl2}{l:List Sl2}(h:bH aA aB xs s.1 s.2=true):bD aA aB xs (s::l)=((bD aA aB (bL aA aB xs s.1 s.2) l).1,(bD aA aB (bL aA aB xs s.1 s.2) l).2+1):=by rw[bD,if_pos h]
theorem lJ {aA aB:Int}{xs:List Int}{s:Sl2}{l:List Sl2}(h:bH aA aB xs s.1 s.2=false):bD aA aB xs (s::l)=(xs,0):=by rw[bD,if_neg (by rw[h];simp)]
theorem sF {aA aB:Int}: ∀(l:List Sl2) (xs:List Int) (s:Sl2),(bD aA aB xs l).2=l.length→bD aA aB xs (l++ [s])=(if bH aA aB (bD aA aB xs l).1 s.1 s.2 then(bL aA aB (bD aA aB xs l).1 s.1 s.2,l.length+1)else((bD aA aB xs l).1,l.length)):=by
 intro l;induction l with
 |nil=>
  intro xs s _;cases h:bH aA aB xs s.1 s.2 with
  |true=>rw[aUx,eW h];simp[bD,h]
  |false=>rw[aUx,lJ h];simp[bD,h]
 |cons a l ih=>
  intro xs s h;cases ha:bH aA aB xs a.1 a.2 with
  |false=>rw[lJ ha]at h;simp at h
  |true=>
   rw[eW ha]at h;have h':(bD aA aB (bL aA aB xs a.1 a.2) l).2=l.length:=by simpa using h
   rw[aUu,eW ha,eW ha,ih _ s h'];dsimp only;split<;>simp
theorem aAe {aA aB:Int}: ∀(l r:List Sl2) (xs:List Int),(bD aA aB xs l).2<l.length→bD aA aB xs (l++r)=bD aA aB xs l:=by
 intro l;induction l with
 |nil=>intro r xs h;simp at h
 |cons a l ih=>
  intro r xs h;cases ha:bH aA aB xs a.1 a.2 with
  |false=>rw[aUu,lJ ha,lJ ha]
  |true=>
   rw[eW ha]at h;have h':(bD aA aB (bL aA aB xs a.1 a.2) l).2<l.length:=by simpa using h
   rw[aUu,eW ha,eW ha,ih r _ h']
theorem qC {aA aB:Int}: ∀(l:List Sl2) (xs:List Int),aN aA aB xs=true→aN aA aB (bD aA aB xs l).1=true∧(bD aA aB xs l).1.length=xs.length∧List.Perm (bD aA aB xs l).1 xs:=by
 intro l;induction l with
 |nil=>intro xs h;exact⟨h,rfl,List.Perm.refl _⟩
 |cons a l ih=>
  intro xs h;unfold bD;split
  ·obtain⟨a1,a2,a3⟩:=ih _ (jK a.1 a.2 h);exact⟨a1,a2.trans (dG _ _ _ _ _),a3.trans (oT _ _)⟩
  exact⟨h,rfl,List.Perm.refl _⟩
end
section
open Go.RowKit Go.Proofs.Tryz
theorem aEr {w:World}{q:OA}{m c2:Nat}{l:List Sl2}(h:Sl w q m c2 2 (l.flatMap aM)){k:Nat}(hk:k<m):
  ∃b off f t,q=some ⟨b,off,none⟩∧l[k]? =some (f,t)∧b<w.heap.size∧w.cell? ⟨b,off+k*2,none⟩=some (I f)∧w.cell? ⟨b,off+k*2+1,none⟩=some (I t):=by
 obtain⟨b,off,x,hp,hx,hb,hc⟩:=Sl.at_ (sz:=2) (f:=aM) (fun _=>rfl) h hk (by omega);obtain⟨f,t⟩:=x;exact⟨b,off,f,t,hp,hx,hb,hc 0 (by omega),hc 1 (by omega)⟩
theorem aHn {w:World}{q:OA}{m c2:Nat}{l:List Sl2}(h:Sl w q m c2 2 (l.flatMap aM)):l.length=m:=by have:=h.len;rw[dD aM 2 (fun _=>rfl)]at this;omega
theorem aN8 (aA aB:Int)(p:OA)(ab:Nat)(xs:List Int)(lq:OA)(m lc:Nat)(l:List Sl2)(w:World)(bw:4≤xs.length)(hn:xs.length≤12)(hm:m≤60)(bi:Hid (aN aA aB xs=true))(HS:Hid (Sl w lq m lc 2 (l.flatMap aM)))
  (HV:xB 25 #[aH aA aB p xs.length ab] w true)
  (HC:Hid (∀w',Ext w w'→U 48 #[aH aA aB p xs.length ab] w' (dN aA aB xs w'))):
  U 112 #[aH aA aB p xs.length ab,.slice lq m lc] w (dA aA aB (bD aA aB xs l).1 ((bD aA aB xs l).2:Nat) w):=by
 have hl:=xQ (aHn HS.out);have bt:decide (60<m)=false:=by simp;omega
 have bu:decide ((60:Int)<(m:Int))=false:=by simp;omega
 go_enter func112,ntmps112;have s:=xQ (Ext.refl w);go_wp2_with fail;refine Z (HV _ (by exact .alloc (.alloc (.refl _) _) _)) fun w1 ai=>?_
 have bc:Ext w w1:=(((Ext.refl _).alloc _).alloc _).trans ai;have z1:w.heap.size+2≤w1.heap.size:=by have:=ai.sz;(try simp at this);omega
 have o:=xQ (s.out.trans bc);clear s;have a2:=xQ (show Blk w1 w TH3 #[aA,aB,.slice p xs ab] by have:=((Blk.new w TH3 #[aA,aB,.slice p xs ab]).alloc _).ext ai;simpa using this);have x:=xQ (show Blk w1 (w.heap.size+1) TH3 #[(),(),((),())] by have:=(Blk.new (w.alloc (.cells #[aA,aB,.slice p xs ab] TH3)) TH3 #[(),(),((),())]).ext ai;simpa using this);clear bc ai;obtain⟨c0,c1,c2⟩:=a2.out.tri;go_wp2_with fail;clear c0 c1 c2;refine(HC _ o.out).mono ?_;rintro e w2 ⟨q0,c0,rfl,o0,ay⟩;have az:Ext w1 w2:=by exact ay
 have z2:w1.heap.size+0≤w2.heap.size:=by have:=ay.sz;(try simp at this);omega
 have a4:=xQ (o.out.trans az);have a5:=xQ (x.out.ext az);clear o a2 x az;have a3:=xQ (o0);clear ay o0;go_wp2;go_loopw [7] (fun i wr=> ∃(k:Nat) (q:OA) (c:Nat),k≤m∧i=I k∧(bD aA aB xs (l.take k)).2=k∧wr.ownsRow w1 TI 1 (.slice q xs c) xs.length (ivs (bD aA aB xs (l.take k)).1)∧Ext w wr∧Blk wr w2 TH3 #[aA,aB,.slice q xs c]∧Blk wr (w.heap.size+1) TH3 #[(),(),((),())]∧w2.heap.size<wr.heap.size) (fun i _=>m-(intOf i).toNat)
 case atStart=>exact⟨0,q0,c0,aTd _,rfl,by simp[bD],by simpa[bD]using aW a3 ((Ext.refl _).alloc _),a4.out.alloc _,Blk.new _ _ _,a5.out.alloc _,by simp⟩
 case round=>
  clear a3 a4 a5;obtain⟨k,q,c,hk,rfl,au,av,y,a6,a7,bx⟩:=hrel;have HO:=xQ av;have h:=xQ a6;have r:=xQ a7;have ar:=xQ au;clear av a6 a7 au;obtain⟨bd,be,bl⟩:=qC (l.take k) xs bi.out;have OK:=xQ bd;have aw:=xQ be;clear bd be bl;by_cases hlt:k<m
  ·obtain⟨b2,z,f,t,rfl,hx,a8,d0,d1⟩:=aEr (HS.out.ext y) hlt;have HX:=xQ hx;clear hx;have i1:=aVt k;have i2:=aVu k m;have ah:Hid (bD aA aB xs (l.take (k+1))=(if bH aA aB (bD aA aB xs (l.take k)).1 f t then(bL aA aB (bD aA aB xs (l.take k)).1 f t,k+1)else((bD aA aB xs (l.take k)).1,k))):=by
    show _=_;have ap:(l.take k).length=k:=by rw[aTt,hl.out];omega
    rw[bA HX.out,sF _ _ _ (by rw[ar.out,ap]),ap]
   have HD:xC 80 #[aH aA aB q xs.length c,eK f t] wr fun w' e w''=> ∃q5 c5,e= .returned (.tuple #[aH aA aB q5 xs.length c5,.bool (bH aA aB (bD aA aB xs (l.take k)).1 f t)])∧w''.ownsRow w' TI 1 (.slice q5 xs c5) xs.length (ivs (bL aA aB (bD aA aB xs (l.take k)).1 f t))∧Ext w' w'':=
    fun w' hx=>(nB aA aB f t q xs.length c _ w' ((Sl.own HO.out).ext hx) OK.out).mono fun e w'' ⟨q5,c5,he,ho,hy⟩=>by
     have bh:(bL aA aB (bD aA aB xs (l.take k)).1 f t).length=xs.length:=by rw[dG,aw.out]
     rw[bh]at he ho;exact⟨q5,c5,he,ho,hy⟩
   generalize bj:(bD aA aB xs (l.take k)).1=ys at*;clear bj;generalize bk:bL aA aB ys f t=zs at*;clear bk;generalize a9:bH aA aB ys f t=bm at*;have bv:=xQ a9;clear a9;obtain⟨v0,v1,v2⟩:=h.out.tri;have n2: ¬(wr.heap.size=w2.heap.size):=by omega
   have n4: ¬(wr.heap.size=b2):=by omega
   go_upto_region 7 with fail;go_cut [8,9] (fun s8 s9 wx=> ∃(a:Nat) (q5:OA) (c5:Nat),s8= .pointer (some ⟨a,0,none⟩)∧s9= .bool bm∧Ext wr wx∧wr.heap.size≤a∧Blk wx a TH3 #[aA,aB,.slice q5 xs c5]∧wx.ownsRow wr TI 1 (.slice q5 xs c5) xs.length (ivs zs))
   case first=>
    go_region_held3 (fun w'=>w'.cell? ⟨w2,0,none⟩=some (I aA)∧w'.cell? ⟨w2,1,none⟩=some (I aB)∧w'.cell? ⟨w2,2,none⟩=some (.slice q xs c)∧w'.cell? ⟨b2,z+k*2,none⟩=some (I f)∧w'.cell? ⟨b2,z+k*2+1,none⟩=some (I t))
     (first|(refine⟨?_,?_,?_,?_,?_⟩<;>assumption)|go_keep)
     ((go_at_call 80
       refine(HD _ xE).mono ?_;rintro e w5 ⟨q5,c5,rfl,o5,bb⟩;have ae:Ext wr w5:=xE;have g_:=(h.out.ext ae).tri;have g3:w5.cell? ⟨b2,z+k*2,none⟩=some (I f):=(ae.cells.1 _ _ a8).trans d0;have g4:w5.cell? ⟨b2,z+k*2+1,none⟩=some (I t):=(ae.cells.1 _ _ a8).trans d1
       first
        |(have a0:Ext (wr.alloc (.cells #[(),(),((),())] TH3)) w5:=bb
          have BB:=(Blk.new wr TH3 #[(),(),((),())]).ext a0;obtain⟨bq,ak,br,al,bs,_⟩:=BB.trif
          have am:w5.frozen? ⟨wr,2,none⟩=false:=BB.frozen 2)
        |(have a0:Ext (wr.alloc (.cells #[(),(),((),())] TH3)) w5:=bb.of_drew
          have BB:=(Blk.new wr TH3 #[(),(),((),())]).ext a0;obtain⟨bq,ak,br,al,bs,_⟩:=BB.trif
          have am:w5.frozen? ⟨wr,2,none⟩=false:=BB.frozen 2)
        |skip))
    ·go_wp2_with fail;go_meet;exact⟨w5.heap.size,q5,c5,rfl,rfl,by exact .alloc ae _,by have:=ae.sz;omega,Blk.new _ _ _,bM (by exact o5.alloc _) (by simp)⟩
    have hR:ExtR wr w5 _:=(((ExtR.refl wr w5).setCell (p:=⟨wr,0,none⟩) (.inl rfl) (I aA)).setCell (p:=⟨wr,1,none⟩) (.inl rfl) (I aB)).setCell (p:=⟨wr,2,none⟩) (.inl rfl) (.slice q5 xs c5);have hY:=((BB.set 0 (I aA)).set 1 (I aB)).set 2 (.slice q5 xs c5);simp only[aTm,aTk,aTj]at hY;go_wp2_with fail;go_meet;exact⟨wr.heap.size,q5,c5,rfl,rfl,ExtR.new ae hR (aT5 _),aT5 _,hY,bM (o5.kept hR (.inr (dV o5 BB (by decide)))) (by simp)⟩
   case rest=>
    clear v0 v1 v2 n2 n4 d0 d1;obtain⟨a,q5,c5,rfl,rfl,j,ha,ao,aq⟩:=hcut;cases bm with
    |true=>
     have d:=ah.out;rw[if_pos rfl]at d;have ad:bD aA aB xs (l.take (k+1))=(zs,k+1):=d;have ad:=xQ ad;clear d;have n:=xQ (h.out.ext j);have u:=xQ (r.out.ext j);have an:=xQ ao;have s:=xQ (y.trans j);have af:=xQ (aW HO j);have ag:=xQ (bM aq (show w1.heap.size≤wr.heap.size by omega));clear h r ao y HO aq;have z0:=j.sz;obtain⟨v0,bn,v1,bo,v2,bp⟩:=n.out.trif;have a_:=an.out.tri;go_wp2;clear af;have y1:=((n.out.set 0 (I aA)).set 1 (I aB)).set 2 (.slice q5 xs c5);simp only[aTm,aTk,aTj]at y1;generalize g:World.setCell _ _ _=w1;rw[g]at y1;have b:ExtR w2 wc w1:=by rw[←g];exact(((ExtR.refl w2 wc).setCell (p:=⟨w2,0,none⟩) (.inl rfl) (I aA)).setCell (p:=⟨w2,1,none⟩) (.inl rfl) (I aB)).setCell (p:=⟨w2,2,none⟩) (.inl rfl) (.slice q5 xs c5)
     clear g;have z1:(wc:Nat)≤w1:=b.sz;have aa:=xQ (y1);have x:=xQ (show Blk w1 (w.heap.size+1) _ _ from(b.block _ u.out.lt (by first|(simp;done)|(simp;omega))).trans u.out);have o:=xQ (ExtR.new s b (by omega));have bf:=xQ (ag.out.kept b (.inr (dV ag n.out (by decide))));clear n u an s ag b y1;have aj:(w2:Nat)<w1:=aa.out.lt;clear v0 bn v1 bo v2 bp a_;go_roundw
     case rel=>exact⟨k+1,q5,c5,by omega,by go_num,by rw[ad.out],by rw[ad.out];exact bf.out,o.out,aa.out,x.out,by omega⟩
     case measure=>simp[intOf];omega
    |false=>
     have d:=ah.out;rw[if_neg (by simp)]at d;have ad:Hid (bD aA aB xs l=(ys,k)):=by
      show _=_;have ap:(l.take (k+1)).length=k+1:=by rw[aTt,hl.out];omega
      have:=aAe (aA:=aA) (aB:=aB) (l.take (k+1)) (l.drop (k+1)) xs (by rw[d,ap];exact Nat.lt_succ_self k);rw[List.take_append_drop,d]at this;exact this
     clear d;have n:=xQ (h.out.ext j);have u:=xQ (r.out.ext j);have an:=xQ ao;have s:=xQ (y.trans j);have af:=xQ (aW HO j);have ag:=xQ (bM aq (show w1.heap.size≤wr.heap.size by omega));clear h r ao y HO aq;have z0:=j.sz;obtain⟨v0,v1,v2⟩:=n.out.tri;obtain⟨z0,ak,z1,al,z2,am⟩:=u.out.trif;go_wp2;clear ag;have y1:=((u.out.set 0 (I aA)).set 1 (I aB)).set 2 (.slice q xs c);simp only[aTm,aTk,aTj]at y1;generalize g:World.setCell _ _ _=w1;rw[g]at y1;have b:ExtR (w.heap.size+1) wc w1:=by rw[←g];exact(((ExtR.refl (w.heap.size+1) wc).setCell (p:=⟨w.heap.size+1,0,none⟩) (.inl rfl) (I aA)).setCell (p:=⟨w.heap.size+1,1,none⟩) (.inl rfl) (I aB)).setCell (p:=⟨w.heap.size+1,2,none⟩) (.inl rfl) (.slice q xs c)
     clear g;have z1:(wc:Nat)≤w1:=b.sz;have aa:=xQ (show Blk w1 w2 _ _ from(b.block _ n.out.lt (by first|(simp;done)|(simp;omega))).trans n.out);have x:=xQ (y1);have o:=xQ (ExtR.new s b (by omega));have ax:=xQ (af.out.kept b (.inr (dV af u.out (by decide))));clear n u an s af b y1;have aj:(w2:Nat)<w1:=aa.out.lt;clear v0 v1 v2 z0 ak z1 al z2 am;obtain⟨y0,y1,y2⟩:=x.out.tri;exact bodyPost_ret (v:= .tuple #[.agg #[aA,aB,.slice q xs c],k]) (by simp[results,results112,go_sem, *]) rfl (by rw[ad.out];exact fE aw (bM ax (by omega)) o.out)
  have ba:Hid (bD aA aB xs l=((bD aA aB xs (l.take k)).1,k)):=by have e1:l.take k=l:=aTa (by rw[hl.out];omega);have e2:=ar.out;show _=_;rw[e1]at e2⊢;exact Prod.ext rfl e2
  have bg:k=m:=by omega
  subst bg;have a1:=xQ y;clear y;obtain⟨v0,v1,v2⟩:=h.out.tri;obtain⟨z0,ak,z1,al,z2,am⟩:=r.out.trif;go_wp2;have y1:=((r.out.set 0 (I aA)).set 1 (I aB)).set 2 (.slice q xs c);simp only[aTm,aTk,aTj]at y1;generalize g:World.setCell _ _ _=w1;rw[g]at y1;have b:ExtR (w.heap.size+1) wr w1:=by rw[←g];exact(((ExtR.refl (w.heap.size+1) wr).setCell (p:=⟨w.heap.size+1,0,none⟩) (.inl rfl) (I aA)).setCell (p:=⟨w.heap.size+1,1,none⟩) (.inl rfl) (I aB)).setCell (p:=⟨w.heap.size+1,2,none⟩) (.inl rfl) (.slice q xs c)
  clear g;have z1:(wr:Nat)≤w1:=b.sz;have aa:=xQ (show Blk w1 w2 _ _ from(b.block _ h.out.lt (by first|(simp;done)|(simp;omega))).trans h.out);have x:=xQ (y1);have o:=xQ (ExtR.new a1 b (by omega));have ax:=xQ (HO.out.kept b (.inr (dV HO r.out (by decide))));clear h r a1 HO b y1;have aj:(w2:Nat)<w1:=aa.out.lt;clear v0 v1 v2 z0 ak z1 al z2 am;obtain⟨y0,y1,y2⟩:=x.out.tri;exact bodyPost_ret (v:= .tuple #[.agg #[aA,aB,.slice q xs c],k]) (by simp[results,results112,go_sem, *]) rfl (by rw[ba.out];exact fE aw (bM ax (by omega)) o.out)
theorem tK (aA aB:Int)(p:OA)(n a:Nat)(xs:List Int)(lq:OA)(m lc:Nat)(l:List Sl2)(w:World)(hm:m≤60)(hS:Sl w p n a 1 (ivs xs))(hL:Sl w lq m lc 2 (l.flatMap aM))(b:aN aA aB xs=true):
  U 112 #[aH aA aB p n a,.slice lq m lc] w (dA aA aB (bD aA aB xs l).1 ((bD aA aB xs l).2:Nat) w):=by
 have hl:=hS.ilen;subst hl;obtain⟨g1,g2,g3,g4,g5,g6,g7,g8,g9⟩:=bN b;have HV:=fun(w':World) (hy:Ext w w')=>gM aA aB p xs.length a xs w' (hS.ext hy)
 rw[b]at HV;exact aN8 aA aB p a xs lq m lc l w g5 g6 hm b hL HV (fun(w':World) (hy:Ext w w')=>gQ aA aB p xs.length a xs w' (by omega) (hS.ext hy))
def sD (aA:Int)(n:Nat)(but:Int)(u:Nat):List Nat:=(aU aA n u).filter (fun(v:Nat)=>decide ((v:Int)≠but))
theorem aJb (aA:Int)(n:Nat)(a:Int):kN aA n a=((List.range n).filter (fun(b:Nat)=>decide (aZ aA a b=1))).map (fun(k:Nat)=>(k:Int)):=by
 unfold kN;induction n with
 |zero=>rfl
 |succ n ih=>rw[fZ,ih,aUt,aU2,aUj];congr 1;by_cases h:aZ aA a n=1<;>simp[h]
theorem mM (aA:Int)(n u:Nat):kN aA n u=(aU aA n u).map (fun(k:Nat)=>(k:Int)):=aJb _ _ _
theorem aKa {aA:Int}{n:Nat}{a:Int}{u v:Nat}(h:v∈sD aA n a u):v<n:=(bZ.1 (aTs.1 h).1).1
theorem Inv.one {adj:Nat→List Nat}{N s:Nat}(hs:s<N):Inv adj [s] N 0 ((List.replicate N (-1)).set s 0,[s]):=by
 have hl:s<(List.replicate N (-1:Int)).length:=by simpa using hs
 have a: ∀v,v<N→s≠v→((List.replicate N (-1:Int)).set s 0).getD v 0= -1:=by intro v hv e;rw[bU e];simp[List.getD,hv]
 refine⟨by simp,by simpa using hs,?_,by simp,by simp,?_,?_,?_,fun i u hi=>by omega⟩
 ·intro v hv;dsimp only;by_cases e:s=v
  ·subst e;rw[cP hl];simp
  rw[a v hv e];simp;exact fun h=>e h.symm
 ·intro u hu v hv;simp at hu hv;subst hu hv;omega
 ·intro v hv;simp at hv;subst hv;dsimp only;rw[cP hl];simp[pS]
 intro v hv;simp at hv;subst hv;exact⟨by simp,cP hl⟩
theorem aO4 (n s:Nat): ∀x∈(List.replicate n (-1:Int)).set s 0,-1≤x∧x≤((0:Nat):Int):=by
 intro x hx;rcases aU9 hx with h|h
 ·rw[List.mem_replicate]at h;omega
 omega
theorem dR {D:List Int}{v:Nat}(h:v<D.length):D[v]? =some (D.getD v 0)∧D.getD v 0∈D:=by
 have:D[v]? =some (D.getD v 0):=by rw[aTb,aT6 h];rfl
 exact⟨this,aT7 this⟩
theorem aJy {nb:List Nat}{j v:Nat}{a:Int}(h:nb[j]? =some v) (hb:(v:Int)=a):(nb.take (j+1)).filter (fun(v:Nat)=>decide ((v:Int)≠a))=(nb.take j).filter (fun(v:Nat)=>decide ((v:Int)≠a)):=by rw[bA h,aU2];simp[hb]
theorem aGa {nb:List Nat}{j v:Nat}{a:Int}(h:nb[j]? =some v) (hb:(v:Int)≠a):(nb.take (j+1)).filter (fun(v:Nat)=>decide ((v:Int)≠a))=(nb.take j).filter (fun(v:Nat)=>decide ((v:Int)≠a))++ [v]:=by rw[bA h,aU2];simp[hb]
theorem mH {a:Int}{D:List Int}{Q:List Nat}{v:Nat}(h:D.getD v 0<0):eZ a (D,Q) v=(D.set v a,Q++ [v]):=by unfold eZ;rw[if_pos h]
theorem oB {a:Int}{D:List Int}{Q:List Nat}{v:Nat}(h: ¬D.getD v 0<0):eZ a (D,Q) v=(D,Q):=by unfold eZ;rw[if_neg h]
theorem aS0 {w:World}{B B2 n m c c2 sz sz2:Nat}{e e2:TypeId}{q q2:OA}{xs ys:List Value}(h1:w.ownsRow B e sz (.slice q n c) n xs)(h2: ∀g,(Value.slice q2 m c2).ownBlock=some g→g<B)(h0:(Value.slice q2 m c2).ownBlock≠none):(Value.slice q2 m c2).ownBlock≠(Value.slice q n c).ownBlock:=by
 intro he;cases hq:(Value.slice q n c).ownBlock with
 |none=>rw[hq]at he;exact h0 he
 |some g=>rw[hq]at he;have:=h2 g he;have:=(h1.lt g hq).1;omega
theorem aRi {w:World}{g n base:Nat}{t:TypeId}{cs:Array Value}(h:Blk w g t cs)(hn:cs.size=n)(hm:n≤maxLen)(hb:base≤g):w.ownsRow base t 1 (.slice (some ⟨g,0,none⟩) n n) n cs.toList:=
 ⟨by simpa using hn,.inr ⟨g,n,cs,rfl,hb,h,aT5 _,hm,by omega,by rw[Nat.mul_one,aTa (by simp;omega)]⟩⟩
abbrev bK (q:List Nat):List Int:=q.map (fun(k:Nat)=>(k:Int))
theorem iK {w:World}{g:Array Oper}{rest:List Oper}{o:Oper}{a:Act}{Q:Exit→Act→World→Prop}(m:o.guard=none)(s x:Operand)
  (ho:o.op= .call {callee:= .builtin .append,args:=#[s,x],argTypes:=#[23,23]})
  (base:Nat)(v:Value)(n:Nat)(xs:List Int)(hs:a.eval s=v)(f:w.ownsRow base 3 1 v n (ivs xs))
  (b e:Nat)(y:Int)(c:Nat)(hx:a.eval x= .slice (some ⟨b,e,none⟩) 1 c)(hc:w.cell? ⟨b,e,none⟩=some (iv y))
  (hn:n≤1099511627776)(d:base≤w.heap.size)
  (h: ∀p' cap' w',w'.ownsRow base 3 1 (.slice p' (n+1) cap') (n+1) (ivs (xs++ [y]))→w.grownBy w' v.ownBlock→((Value.slice p' (n+1) cap').ownBlock=v.ownBlock∨(Value.slice p' (n+1) cap').ownBlock=some w)→wpList prog g Q rest (a.put o.dst (.slice p' (n+1) cap')) w'):wpList prog g Q (o::rest) a w:=by
 obtain⟨i,z,hi,hz,q,l,r⟩:=fY.info;refine wpList_append_own_at w m s x 23 ho base 3 i z 1 i.bytes fY.ht hi hz q rfl r fY.pos v n _ hs f ⟨b,e,none⟩ 1 c [iv y] hx rfl (fun j u hu=> ?_) (fun u hu=>by simp at hu;subst hu;rfl) (by unfold maxLen;omega) ?_ d ?_
 ·match j,hu with
  |0,hu=>simp at hu;subst hu;rw[lT];exact hc
 ·have:(n+1)*i.bytes≤(n+1)*64:=Nat.mul_le_mul_left _ l;omega
 intro v' w' h2 h3 _ h5;obtain⟨p,k,rfl⟩:=oC h2;exact h p k w' (by simpa[ivs]using h2) h3 h5
theorem aL4 (aA aB:Int)(p:OA)(n f src:Nat)(a:Int)(w:World)(db:4≤n)(hn:n≤12)(hs:src<n)
  (HC:Hid (∀(k:Nat),k<n→ ∀w',Ext w w'→U 208 #[aH aA aB p n f,k] w' (bC (bK (aU aA n k)) w'))):
  U 207 #[aH aA aB p n f,src,a] w fun e w'=> ∃D,uP (sD aA n a) [src] n D∧bC D w e w':=by
 have a1:=aVt src;have a2:=aVu src n;go_enter func207,ntmps207;go_wp2;go_loopw [7,8] (fun v i wr=> ∃(k:Nat) (q:OA) (c:Nat),k≤n∧i=I k∧v= .slice q k c∧wr.ownsRow (w.heap.size+1) TI 1 (.slice q k c) k (ivs (List.replicate k (-1)))∧Ext w wr∧Blk wr w TH3 #[aA,aB,.slice p n f]) (fun _ i _=>n-(intOf i).toNat)
 case atStart=>have ho:((w.alloc (.cells #[aA,aB,.slice p n f] TH3)).alloc (.cells #[] TI)).ownsRow (w.heap.size+1) TI 1 (.slice (some ⟨(w.alloc (.cells #[aA,aB,.slice p n f] TH3)).heap.size,0,none⟩) 0 0) 0 []:=aU5 _ #[] 0 (by simp) (by simp[maxLen]) rfl;exact⟨0,_,0,aTd _,rfl,rfl,by simpa using ho,by exact .alloc (.alloc (.refl _) _) _,(Blk.new w _ _).alloc _⟩
 case round=>
  obtain⟨k,q,c,hk,rfl,rfl,au,b,hB⟩:=hrel;have HO:=xQ au;have HB:=xQ hB;have bq:(w:Nat)<wr:=hB.lt;clear au hB;obtain⟨b0,b1,b2⟩:=HB.out.cells3;by_cases hlt:k<n
  ·have y:Hid (List.replicate (k+1) (-1:Int)=List.replicate k (-1)++ [-1]):=by show _=_;rw[List.replicate_succ']
   go_wp2_with (at_builtin;refine cW fY rfl _ _ rfl (w.heap.size+1) _ _ _ rfl (HO.out.alloc _) _ _ (-1:Int) _ rfl (by simp) (by omega) (by first|(simp;done)|(simp;omega)) ?_;intro p' t w2 o s;have bv:=xQ o;have b8:Ext w w2:=Ext.own (b.alloc _) (HO.out.alloc _) s (by omega);have bs:=xQ (rW HO s HB.out);clear o s);go_roundw
   case rel=>exact⟨k+1,p',t,by omega,by go_num,rfl,by rw[y.out];exact bv.out,b8,bs.out⟩
   case measure=>simp[intOf];omega
  obtain rfl:n=k:=by omega
  obtain⟨gF,rfl,c6,c7⟩:=fK HO (by omega);have ck:wr.cell? ⟨gF,src,none⟩=some (I (-1)):=by have:=HO.out.cellAt src (by omega);rw[this];simp[ivs,hs]
  have cm:wr.frozen? ⟨gF,src,none⟩=false:=HO.out.frozenAt src;go_upto_region 8 with fail;clear ck cm b0 b1 b2;have y1:=(HO.out.stored src (I 0)).1;have az:ExtR gF wr _:=(HO.out.stored src (I 0)).2;have a7:(World.setCell wr ⟨gF,src,none⟩ (I 0)).heap.size=wr.heap.size:=by simp
  generalize ch:World.setCell _ _ _=w1 at*;rw[←a7];clear ch;have F1:=xQ (show w1.ownsRow (w.heap.size+1) TI 1 (.slice (some ⟨gF,0,none⟩) n c) n (ivs ((List.replicate n (-1)).set src 0)) by rw[←eL];exact y1);have B1:=xQ (show Blk w1 w TH3 #[aA,aB,.slice p n f]from(az.block _ HB.out.lt (by simp;omega)).trans HB.out);have X1:=xQ (ExtR.new b az (by omega));have z1:(wr:Nat)≤w1:=aVk a7.symm;have dd:=B1.out.lt;clear a7 y1 az HO HB b bq;have bh:(w1.alloc (.cells #[src] TI)).ownsRow w1 TI 1 (.slice (some ⟨w1,0,none⟩) 1 1) 1 [I src]:=aRi (n:=1) (Blk.new w1 TI #[src]) rfl (by simp[maxLen]) (aT5 _);have L1:=xQ bh;clear bh;have I1:=xQ (Inv.one (adj:=sD aA n a) hs);go_wp2;go_loopw [9,10] (fun v i wr=> ∃(k:Nat) (q:OA) (l lc:Nat) (D:List Int) (Q:List Nat),k≤l∧i=I k∧v= .slice q l lc∧l=Q.length∧(∀x∈D,-1≤x∧x≤k)∧Inv (sD aA n a) [src] n k (D,Q)∧wr.ownsRow (w.heap.size+1) TI 1 (.slice (some ⟨gF,0,none⟩) n c) n (ivs D)∧wr.ownsRow w1 TI 1 (.slice q l lc) l (ivs (bK Q))∧Ext w wr∧Blk wr w TH3 #[aA,aB,.slice p n f]∧w1.heap.size≤wr.heap.size) (fun _ i _=>n-(intOf i).toNat)
  case atStart=>exact⟨0,_,1,1,_,[src],aTd _,rfl,rfl,rfl,aO4 _ _,I1.out,F1.out.alloc _,L1.out,X1.out.alloc _,B1.out.alloc _,by simp⟩
  case round=>
   clear F1 B1 X1 L1 I1;obtain⟨wr1,rfl⟩: ∃wr1:World,wr1=wr:=⟨_,rfl⟩
   obtain⟨k,q,l,lc,D,Q,hk,rfl,rfl,a4,bj,ai,hF,hL,b,hB,bq⟩:=hrel;have HF:=xQ hF;have HL:=xQ hL;have HB:=xQ hB;have HI:=xQ ai;have ag:=xQ a4;have dc:l≤n:=by rw[a4];exact ai.qlen
   have a8:=xQ bj;clear hF hL hB ai a4 bj;by_cases hlt2:k<l
   ·obtain⟨gL,rfl,b9,ca⟩:=fK HL (by omega);obtain⟨u,hu⟩: ∃u,Q[k]? =some u:=⟨_,aT6 (by rw[←ag.out];exact hlt2)⟩
    have ce:u<n:=HI.out.bd u (aT7 hu);have HU:=xQ hu;clear hu;have i1:=aVt k;have i2:=aVu k l;have j1:=aVt u;have j2:=aVu u n;obtain⟨nb,al⟩: ∃nb,nb=aU aA n u:=⟨_,rfl⟩
    have aw:=xQ al;have a9:Hid (∀w',Ext w w'→U 208 #[aH aA aB p n f,u] w' (bC (bK nb) w')):=by rw[al];exact HC u ce
    have cd:nb.length≤n:=by rw[al];exact aTg (aUb _ _) (by simp)
    clear al;have bo:(bK nb).length=nb.length:=by simp[bK]
    go_wp2;refine rL (gl [gEq (aH aA aB p n f),gEq (.slice (some ⟨gL,0,none⟩) l lc),gEq (k:Int),gEq (.pointer (some ⟨gL,k,none⟩)),gEq (u:Int),(fun v w'=> ∃q c,v= .slice q nb c∧w'.ownsRow wr1 TI 1 (.slice q nb c) nb.length (ivs (bK nb)))]) 6 7 [(0,some 35),(1,some 36),(2,some 37),(3,some 38),(4,some 39),(5,some 40)] ?steps ?fin (hG:=(kK (aX (bB _) (aX (bB _) (aX (bB _) (aX (bB _) (aX (bB _) (aX (fun v w w' ⟨q,c,he,ho⟩ hx=>⟨q,c,he,aW ho hx⟩) (mU)))))))))
    case steps=>
     refine sC [] rfl (fun wi hx=> ?_) ?_
     ·intro K hK;have B:=HB.out.ext hx.of_drew;have cx:=B.cl 0;have B:=HB.out.ext hx.of_drew;have cy:=B.cl 1;have B:=HB.out.ext hx.of_drew;have cz:=B.cl 2;go_simp;exact hK _ _ ⟨aH aA aB p n f,rfl,rfl,Ext.refl _⟩
     refine sS0 [] (sS0 [] (sS2 [(1,some 36),(2,some 37)] ?_));refine sC [(3,some 38)] rfl (fun wi hx=> ?_) ?_
     ·intro v3 h3 K hK;obtain rfl:=h3;have cu:wi.cell? ⟨gL,k,none⟩=some (I u):=by have:=(aW HL hx.of_drew).cellAt k (by omega);rw[this];simp[ivs,bK,HU.out]
      go_simp;exact hK _ _ ⟨I u,rfl,rfl,Ext.refl _⟩
     refine sC [(0,some 35),(4,some 39)] rfl (fun wi hx=> ?_) StepsL.nil
     ·intro v0 h0 v4 h4 K hK;subst h0 h4;go_wp2_with fail;refine(a9 _ (b.trans hx.of_drew)).mono ?_;rintro e w5 ⟨q5,c5,rfl,o5,cj⟩;rw[bo]at o5⊢;go_simp;exact hK _ _ ⟨.slice q5 nb c5,rfl,⟨q5,c5,rfl,bM o5 (by have:=hx.sz;simpa using this)⟩,cj⟩
    case fin=>
     intro wi hx v0 h0 v1 h1 v2 h2 v3 h3 v4 h4 v5 h5;subst h0 h1 h2 h3 h4;obtain⟨q5,c5,rfl,a5⟩:=h5;refine wpAny_ready (rs:= [6]) (by kernel_rfl) (by simp) ?_;refine AllReady.cons rfl (fun K hK=> ?_) AllReady.nil;go_simp;refine hK _ _ ?_;clear hK K;refine wpAny_done (by kernel_rfl) ?_ _;have d:=hx.of_drew;have F2:=xQ (aW HF d);have L2:=xQ (aW HL d);have B2:=xQ (HB.out.ext d);have X2:=xQ (b.trans d);have N2:=xQ a5;have z2:=d.sz;have bb:=xQ (aS0 (q2:=some ⟨gL,0,none⟩) (m:=l) (c2:=lc) (B2:=0) (sz2:=0) (e2:=TI) (ys:= []) a5 (fun g hg=>by simp[Value.ownBlock]at hg;omega) (by simp[Value.ownBlock]));clear HF HL HB b a5 hx d a9;go_wp2;obtain⟨wo,rfl⟩: ∃wo:World,wo=wi:=⟨_,rfl⟩
     go_loopw [9,12] (fun v i wr=> ∃(j:Nat) (q:OA) (l2 lc:Nat) (D2:List Int) (Q2:List Nat),j≤nb.length∧i=I j∧v= .slice q l2 lc∧l2=Q2.length∧(D2,Q2)=bS (D.getD u 0+1) (D,Q) ((nb.take j).filter (fun(v:Nat)=>decide ((v:Int)≠a)))∧(∀x∈D2,-1≤x∧x≤(k:Int)+1)∧wr.ownsRow (w.heap.size+1) TI 1 (.slice (some ⟨gF,0,none⟩) n c) n (ivs D2)∧wr.ownsRow w1 TI 1 (.slice q l2 lc) l2 (ivs (bK Q2))∧wr.ownsRow wr1 TI 1 (.slice q5 nb c5) nb.length (ivs (bK nb))∧(Value.slice q l2 lc).ownBlock≠(Value.slice q5 nb c5).ownBlock∧Ext w wr∧Blk wr w TH3 #[aA,aB,.slice p n f]∧wo.heap.size≤wr.heap.size) (fun _ i _=>nb.length-(intOf i).toNat)
     case atStart=>exact⟨0,_,l,lc,D,Q,aTd _,rfl,rfl,ag.out,by simp[bS],fun x hx=>by have:=a8 x hx;omega,F2.out,L2.out,N2.out,bb.out,X2.out,B2.out,aT5 _⟩
     case round=>
      clear F2 L2 B2 X2 N2 bb;obtain⟨j,q,l2,lc,D2,Q2,hj,rfl,rfl,ar,a3,ah,hF,hL,hN,bp,b,hB,av⟩:=hrel;have br:u∈Q:=aT7 HU.out;have z:Mid (sD aA n a) [src] n k u ((nb.take j).filter (fun(v:Nat)=>decide ((v:Int)≠a))) (D,Q) (D2,Q2):=by
       rw[a3]
       have:=Mid.many br ((nb.take j).filter (fun(v:Nat)=>decide ((v:Int)≠a))) [] (D,Q) (HI.out.mid HU.out) (fun v hv=>by
        have h1:=aTs.1 hv;have h2:v∈aU aA n u:=by rw[←aw.out];exact aUl h1.1
        exact⟨aTs.2 ⟨h2,h1.2⟩,(bZ.1 h2).1⟩)
       simpa using this
      have bc:D2.length=n:=z.len;have da:Q2.length≤n:=qJ z.nodup z.bd;have a6:D2.getD u 0=D.getD u 0:=z.same u br;obtain⟨r,hr⟩:=z.pre;dsimp only at hr;have cc:k<Q2.length:=by rw[hr,aTc];have:=ag.out;omega
      have bi:Q2[k]? =some u:=by have:=ag.out;rw[hr,aTr (by omega)];exact HU.out
      have af:=dR (D:=D2) (v:=u) (by omega);have cq: -1≤D2.getD u 0:=(ah _ af.2).1;have cr:D2.getD u 0≤(k:Int):=by rw[a6];exact(a8 _ (dR (D:=D) (v:=u) (by have:=HI.out.len;dsimp only at this;omega)).2).2
      have HF:=xQ hF;have HL:=xQ hL;have HN:=xQ hN;have ak:=xQ bp;have HB:=xQ hB;have aj:=xQ a3;have ab:=xQ ah;have ad:=xQ ar;have bw:=xQ bi;have bu:=xQ af.1;have bx:=xQ a6;have ct:l2≤n:=by omega
      have cs:k<l2:=by omega
      have be:=xQ bc;clear hF hL hN bp hB a3 ah ar bi af a6 hr z bc cc;by_cases hlt3:j<nb.length
      ·obtain⟨v,hv⟩: ∃v,nb[j]? =some v:=⟨_,aT6 hlt3⟩
       have cg:v<n:=(bZ.1 (by rw[←aw.out];exact aT7 hv:v∈aU aA n u)).1;have HV:=xQ hv;clear hv;obtain⟨gN,rfl,c8,c9⟩:=fK HN (by omega);obtain⟨gL,rfl,b9,ca⟩:=fK HL (by omega);obtain⟨dv,bl,aq⟩: ∃dv,D2[v]? =some dv∧D2.getD v 0=dv:=⟨_,(dR (D:=D2) (v:=v) (by rw[be.out];exact cg)).1,rfl⟩
       have ba:=xQ bl;have an:=xQ aq;clear bl aq;have m1:=aVt j;have m2:(j:Int)<(nb.length:Int):=by omega
       have m3:=aVt v;have m4:=aVu v n;have m5:=aVu k l2;have cn:wr.cell? ⟨gN,j,none⟩=some (I v):=by have:=HN.out.cellAt j (by omega);rw[this];simp[ivs,bK,HV.out]
       have cf:wr.cell? ⟨gF,v,none⟩=some (I dv):=by have:=HF.out.cellAt v (by omega);rw[this];simp[ivs,ba.out]
       by_cases hvb:(v:Int)=a
       ·have t0:((v:Int)!=a)=false:=by simp[hvb]
        have y:=xQ (aJy HV hvb);clear hvb;go_wp2;go_roundw
        case rel=>exact⟨j+1,_,l2,lc,D2,Q2,by omega,by go_num,rfl,ad.out,by rw[y.out];exact aj.out,ab.out,HF.out,HL.out,HN.out,ak.out,b,HB.out,av⟩
        case measure=>simp[intOf];omega
       have t0:((v:Int)!=a)=true:=by simp[hvb]
       have y:=xQ (aGa HV hvb);clear hvb;by_cases hd0:dv<0
       ·have t1:decide (dv<0)=true:=by simp[hd0]
        have aa:Hid ((D2.set v (D.getD u 0+1),Q2++ [v])=bS (D.getD u 0+1) (D,Q) ((nb.take (j+1)).filter (fun(v:Nat)=>decide ((v:Int)≠a)))):=by show _=_;rw[y.out,eG,←aj.out,mH (by rw[an.out];exact hd0)]
        obtain⟨du,af⟩: ∃du,du=D2.getD u 0:=⟨_,rfl⟩
        have am:=xQ af;have c0: -1≤du:=by omega
        have c1:du≤(k:Int):=by omega
        have cw:=aVw (du+1);clear af hd0;go_wp2;refine rL (gl [gEq (.slice (some ⟨gF,0,none⟩) n c),gEq (.slice (some ⟨gN,0,none⟩) nb c5),gEq (j:Int),gEq (.pointer (some ⟨gN,j,none⟩)),gEq (v:Int),gEq (.slice (some ⟨gF,0,none⟩) n c),gEq (.slice (some ⟨gL,0,none⟩) l2 lc),gEq (k:Int),gEq (.pointer (some ⟨gL,k,none⟩)),gEq (u:Int),gEq (.pointer (some ⟨gF,u,none⟩)),gEq du,gEq (du+1:Int),gEq (.pointer (some ⟨gF,v,none⟩))]) 14 15 [(0,some 63),(1,some 64),(2,some 65),(3,some 66),(4,some 67),(5,some 68),(6,some 69),(7,some 70),(8,some 71),(9,some 72),(10,some 73),(11,some 74),(12,some 75),(13,some 76)] ?steps ?fin
        case steps=>
         refine sC [] rfl (fun wj hx=> ?_) ?_
         ·intro K hK;go_simp;exact hK _ _ ⟨.slice (some ⟨gF,0,none⟩) n c,rfl,rfl,Ext.refl _⟩
         refine sC [] rfl (fun wj hx=> ?_) ?_
         ·intro K hK;go_simp;exact hK _ _ ⟨.slice (some ⟨gN,0,none⟩) nb c5,rfl,rfl,Ext.refl _⟩
         refine sC [] rfl (fun wj hx=> ?_) ?_
         ·intro K hK;go_simp;exact hK _ _ ⟨I j,rfl,rfl,Ext.refl _⟩
         refine sC [(1,some 64),(2,some 65)] rfl (fun wj hx=> ?_) ?_
         ·intro v1 h1 v2 h2 K hK;subst h1 h2;go_simp;exact hK _ _ ⟨.pointer (some ⟨gN,j,none⟩),rfl,rfl,Ext.refl _⟩
         refine sC [(3,some 66)] rfl (fun wj hx=> ?_) ?_
         ·intro v3 h3 K hK;obtain rfl:=h3;have cv:wj.cell? ⟨gN,j,none⟩=some (I v):=by have:=(aW HN hx.of_drew).cellAt j (by omega);rw[this];simp[ivs,bK,HV.out]
          go_simp;exact hK _ _ ⟨I v,rfl,rfl,Ext.refl _⟩
         refine sC [] rfl (fun wj hx=> ?_) ?_
         ·intro K hK;go_simp;exact hK _ _ ⟨.slice (some ⟨gF,0,none⟩) n c,rfl,rfl,Ext.refl _⟩
         refine sC [] rfl (fun wj hx=> ?_) ?_
         ·intro K hK;go_simp;exact hK _ _ ⟨.slice (some ⟨gL,0,none⟩) l2 lc,rfl,rfl,Ext.refl _⟩
         refine sC [] rfl (fun wj hx=> ?_) ?_
         ·intro K hK;go_simp;exact hK _ _ ⟨I k,rfl,rfl,Ext.refl _⟩
         refine sC [(6,some 69),(7,some 70)] rfl (fun wj hx=> ?_) ?_
         ·intro v6 h6 v7 h7 K hK;subst h6 h7;go_simp;exact hK _ _ ⟨.pointer (some ⟨gL,k,none⟩),rfl,rfl,Ext.refl _⟩
         refine sC [(8,some 71)] rfl (fun wj hx=> ?_) ?_
         ·intro v8 h8 K hK;obtain rfl:=h8;have cv:wj.cell? ⟨gL,k,none⟩=some (I u):=by have:=(aW HL hx.of_drew).cellAt k (by omega);rw[this];simp[ivs,bK,bw.out]
          go_simp;exact hK _ _ ⟨I u,rfl,rfl,Ext.refl _⟩
         refine sC [(5,some 68),(9,some 72)] rfl (fun wj hx=> ?_) ?_
         ·intro v5 h5 v9 h9 K hK;subst h5 h9;go_simp;exact hK _ _ ⟨.pointer (some ⟨gF,u,none⟩),rfl,rfl,Ext.refl _⟩
         refine sC [(10,some 73)] rfl (fun wj hx=> ?_) ?_
         ·intro co ax K hK;obtain rfl:=ax;have cv:wj.cell? ⟨gF,u,none⟩=some (I du):=by have:=(aW HF hx.of_drew).cellAt u (by omega);rw[this,am.out];simp only[ivs,aTo,bu.out,aU4]
          go_simp;exact hK _ _ ⟨I du,rfl,rfl,Ext.refl _⟩
         refine sC [(11,some 74)] rfl (fun wj hx=> ?_) ?_
         ·intro cp ay K hK;obtain rfl:=ay;go_simp;exact hK _ _ ⟨I (du+1),rfl,rfl,Ext.refl _⟩
         refine sC [(0,some 63),(4,some 67)] rfl (fun wj hx=> ?_) StepsL.nil
         ·intro v0 h0 v4 h4 K hK;subst h0 h4;go_simp;exact hK _ _ ⟨.pointer (some ⟨gF,v,none⟩),rfl,rfl,Ext.refl _⟩
        case fin=>
         intro wj hx v0 h0 v1 h1 v2 h2 v3 h3 v4 h4 v5 h5 v6 h6 v7 h7 v8 h8 v9 h9 co ax cp ay de b6 df b7;subst h0 h1 h2 h3 h4 h5 h6 h7 h8 h9;obtain rfl:=ax;obtain rfl:=ay;obtain rfl:=b6;obtain rfl:=b7;have d:=hx.of_drew;have F3:=xQ (aW HF d);have L3:=xQ (aW HL d);have N3:=xQ (aW HN d);have B3:=xQ (HB.out.ext d);have X3:=xQ (b.trans d);have z3:=d.sz;clear HF HL HN HB b hx d cn cf;have b3:wj.cell? ⟨gF,v,none⟩=some (I dv):=by have:=F3.out.cellAt v (by omega);rw[this];simp[ivs,ba.out]
         have b5:wj.frozen? ⟨gF,v,none⟩=false:=F3.out.frozenAt v;refine wpAny_ready (rs:= [14]) (by kernel_rfl) (by simp) ?_;refine AllReady.cons rfl (fun K hK=> ?_) AllReady.nil;go_simp;refine hK _ _ ?_;clear hK K b3 b5;have y4:=(F3.out.stored v (I (du+1))).1;have ae:ExtR gF wj _:=(F3.out.stored v (I (du+1))).2;generalize ci:World.setCell _ _ _=w4 at*;clear ci;have F4:=xQ (show w4.ownsRow (w.heap.size+1) TI 1 (.slice (some ⟨gF,0,none⟩) n c) n (ivs (D2.set v (du+1))) by rw[←eL];exact y4);have L4:=xQ (L3.out.kept ae (.inr (by simp[Value.ownBlock];omega)));have N4:=xQ (N3.out.kept ae (.inr (by simp[Value.ownBlock];omega)));have B4:=xQ (show Blk w4 w TH3 #[aA,aB,.slice p n f]from(ae.block _ B3.out.lt (by simp;omega)).trans B3.out);have X4:=xQ (ExtR.new X3 ae (by omega));have z4:=ae.sz;clear F3 L3 N3 B3 X3 y4 ae;refine wpAny_done (by kernel_rfl) ?_ _;have b4:w4.cell? ⟨gN,j,none⟩=some (I v):=by have:=N4.out.cellAt j (by omega);rw[this];simp[ivs,bK,HV.out]
         have c4:=(N4.out.lt gN rfl).2;have c3:=(L4.out.lt gL rfl).2;have cb:(w1:Nat)≤w4:=by omega
         go_wp2_with (at_builtin;refine iK rfl _ _ rfl w1 _ _ _ rfl (L4.out.alloc _) _ _ (v:Int) _ rfl (by simp) (by omega) (aTg cb (by simp)) ?_;intro p' t w9 o bm ao;have s:World.grownBy _ w9 (Value.slice (some ⟨gL,0,none⟩) l2 lc).ownBlock:=bm;have ap:(Value.slice p' (l2+1) t).ownBlock=(Value.slice (some ⟨gL,0,none⟩) l2 lc).ownBlock∨(Value.slice p' (l2+1) t).ownBlock=some (w4.alloc (.cells #[v] TI)).heap.size:=ao;have F5:=xQ ((F4.out.alloc _).kept s (.inr (by simp[Value.ownBlock];omega)));have N5:=xQ ((N4.out.alloc _).kept s (.inr (Ne.symm ak.out)));have L5:=xQ o;have E5:=xQ (Ext.own (X4.out.alloc _) (L4.out.alloc _) s (by omega));have B5:=xQ ((B4.out.alloc _).grown s (by simp[Value.ownBlock];omega));have z9:=s.size;have A5:=xQ ap;clear o s ap bm ao);have bz:Hid ((Value.slice p' (l2+1) t).ownBlock≠(Value.slice (some ⟨gN,0,none⟩) nb c5).ownBlock):=by
          show _≠_;rcases A5.out with h|h
          ·rw[h];exact ak.out
          rw[h];simp[Value.ownBlock];omega
         have dg:(w4:Nat)≤w9:=aTg (by simp) z9;clear z9 b4;go_roundw
         case rel=>
          refine⟨j+1,p',l2+1,t,D2.set v (du+1),Q2++ [v],by omega,by go_num,rfl,by simp[ad.out],?_,?_,F5.out,?_,N5.out,bz.out,E5.out,B5.out,by omega⟩
          ·rw[am.out,bx.out];exact aa.out
          ·intro x hx;rcases aU9 hx with h|h
           ·exact ab x h
           omega
          have:=L5.out;simpa[bK]using this
         case measure=>simp[intOf];omega
       have t1:decide (dv<0)=false:=by simp[hd0]
       have aa:Hid ((D2,Q2)=bS (D.getD u 0+1) (D,Q) ((nb.take (j+1)).filter (fun(v:Nat)=>decide ((v:Int)≠a)))):=by show _=_;rw[y.out,eG,←aj.out,oB (by rw[an.out];exact hd0)]
       clear hd0;go_wp2;go_roundw
       case rel=>exact⟨j+1,_,l2,lc,D2,Q2,by omega,by go_num,rfl,ad.out,aa.out,ab.out,HF.out,HL.out,HN.out,ak.out,b,HB.out,av⟩
       case measure=>simp[intOf];omega
      have bn:j=nb.length:=by omega
      have bg:Hid (Inv (sD aA n a) [src] n (k+1) (D2,Q2)):=by
       have h1:=HI.out.step HU (fun v hv=>aKa hv);have h2:=aj.out;rw[bn,aUv]at h2;have h3:nb.filter (fun(v:Nat)=>decide ((v:Int)≠a))=sD aA n a u:=by rw[aw.out];rfl
       rw[h3]at h2;rw[h2];exact h1
      have bk:Hid (∀x∈D2,-1≤x∧x≤((k+1:Nat):Int)):=fun x hx=>by have:=ab x hx;omega
      clear bn;go_wp2;go_roundw
      case rel=>exact⟨k+1,_,l2,lc,D2,Q2,by omega,by go_num,rfl,ad.out,bk.out,bg.out,HF.out,HL.out,b,HB.out,by omega⟩
      case measure=>simp[intOf];omega
   have a0:=xQ (HI.out.dist (by have:=ag.out;dsimp only;omega));have bf:=HI.out.len;have bt:=xQ bf;clear bf;go_wp2;go_ret;exact⟨D,a0.out,dO bt (bM HF (Nat.le_succ _)) b⟩
theorem aLu (aA aB:Int)(p:OA)(n a src:Nat)(b:Int)(xs:List Int)(w:World)(hS:Sl w p n a 1 (ivs xs))(c:aN aA aB xs=true)(hs:src<n):
  U 207 #[aH aA aB p n a,src,b] w fun e w'=> ∃D,uP (sD aA n b) [src] n D∧bC D w e w':=by
 have hl:=hS.ilen;obtain⟨g1,g2,g3,g4,g5,g6,g7,g8,g9⟩:=bN c
 exact aL4 aA aB p n a src b w (by omega) (by omega) hs (fun k hk w' hx=>by
  have:=aHl aA aB k p n a xs w' (hS.ext hx) c (by omega) (by omega)
  rwa[mM]at this)
end
def mO (aA:Int)(n u:Nat):Nat:=((aU aA n u).find? (fun(v:Nat)=>decide (aZ aA v 0=aZ aA u 0-1))).getD 0
def dK (aA:Int)(n:Nat):Nat→Nat→List Nat
 |0,u=> [u]
 |f+1,u=>if u=0 then [u]else u::dK aA n f (mO aA n u)
def jW:List (Int×Nat):= [(2,4),(2,6),(3,6),(3,9),(4,8),(4,12)]
def aR9 (aA:Int)(n:Nat):Bool:=
 (List.range n).all fun u=>decide (0≤aZ aA u 0∧aZ aA u 0≤5)&&decide (aZ aA u 0=0↔u=0)
  &&(decide (u=0) || (decide (mO aA n u<n)&&decide (mO aA n u∈aU aA n u)&&decide (aZ aA (mO aA n u) 0=aZ aA u 0-1)))
  &&(List.range n).all fun v=> !decide (v∈aU aA n u) || decide (aZ aA u 0≤aZ aA v 0+1)
theorem aPc:(jW.all fun g=>aR9 g.1 g.2)=true:=by decide+kernel
theorem sV {aA aB:Int}{n:Nat}(h0:2≤aA)(h1:aA≤4)(h2:2≤aB)(h3:aB≤3)(hn:(n:Int)=aA*aB):(aA,n)∈jW:=by
 have hw:aA=2∨aA=3∨aA=4:=by omega
 have hd:aB=2∨aB=3:=by omega
 rcases hw with rfl|rfl|rfl<;>rcases hd with rfl|rfl
 ·obtain rfl:n=4:=by omega
  decide
 ·obtain rfl:n=6:=by omega
  decide
 ·obtain rfl:n=6:=by omega
  decide
 ·obtain rfl:n=9:=by omega
  decide
 ·obtain rfl:n=8:=by omega
  decide
 obtain rfl:n=12:=by omega
 decide
theorem cA {aA:Int}{n:Nat}(h:(aA,n)∈jW){u:Nat}(hu:u<n):
  0≤aZ aA u 0∧aZ aA u 0≤5∧(aZ aA u 0=0↔u=0)
  ∧(u≠0→mO aA n u<n∧mO aA n u∈aU aA n u∧aZ aA (mO aA n u) 0=aZ aA u 0-1)
  ∧ ∀v∈aU aA n u,aZ aA u 0≤aZ aA v 0+1:=by
 have h1:=aU6.1 aPc _ h;have h2:=aU6.1 h1 u (aTq.2 hu);simp only[aTf,Bool.or_eq_true,decide_eq_true_eq]at h2;obtain⟨⟨⟨⟨a,b⟩,c⟩,d⟩,e⟩:=h2;refine⟨a,b,c,fun h=> ?_,fun v hv=> ?_⟩
 ·rcases d with d|d
  ·exact absurd d h
  exact⟨d.1.1,d.1.2,d.2⟩
 have:=aU6.1 e v (aTq.2 (bZ.1 hv).1);simpa[hv]using this
theorem aBz {aA:Int}{n:Nat}(h:(aA,n)∈jW){adj:Nat→List Nat}(ha: ∀u,adj u=aU aA n u){D:List Int}(hD:uP adj [0] n D){u:Nat}(hu:u<n):D.getD u 0=aZ aA u 0:=by
 have hn:0<n:=by omega
 have up: ∀(d:Nat) v,v<n→aZ aA v 0=d→0≤D.getD v 0∧D.getD v 0≤d:=by
  intro d;induction d with
  |zero=>intro v hv e;have e0:=(cA h hv).2.2.1.1 e;have:=(hD.zero v hv).2 (by simp[e0]);omega
  |succ d ih=>
   intro v hv e;have g:v≠0:=fun e0=>by have:=(cA h hv).2.2.1.2 e0;omega
   obtain⟨h1,h2,h3⟩:=(cA h hv).2.2.2.1 g;obtain⟨i1,i2⟩:=ih _ h1 (by omega);have:=hD.edge _ v h1 i1 (by rw[ha];exact gZ hv h2);omega
 have f: ∀(d:Nat) v,v<n→D.getD v 0=d→aZ aA v 0≤d:=by
  intro d;induction d with
  |zero=>intro v hv e;have hm:=(hD.zero v hv).1 e;simp at hm;have:=(cA h hv).2.2.1.2 hm;omega
  |succ d ih=>intro v hv e;obtain⟨x,hx,hm,e2⟩:=hD.back v hv (by omega);have i1:=ih x hx (by omega);rw[ha]at hm;have:=(cA h hv).2.2.2.2 x (gZ hx hm);omega
 obtain⟨a,b,_⟩:=cA h hu;obtain⟨c,e⟩:=up (aZ aA u 0).toNat u hu (by omega);have:=f (D.getD u 0).toNat u hu (by omega);omega
theorem aJx {α:Type}{p:α→Bool}{d x:α}: ∀ {l:List α},x∈l→p x=true→ ∃j,j<l.length∧l[j]? =some ((l.find? p).getD d)∧p ((l.find? p).getD d)=true∧ ∀i y,i<j→l[i]? =some y→p y=false:=by
 intro l;induction l with
 |nil=>intro h;simp at h
 |cons a l ih=>
  intro hx hp;by_cases ha:p a=true
  ·refine⟨0,by simp,by simp[ha],by simp[ha],fun i y hi=>by omega⟩
  have b:p a=false:=by simpa using ha
  have c:x∈l:=by
   rcases aTi.1 hx with e|e
   ·subst e;exact absurd hp ha
   exact e
  obtain⟨j,h1,h2,h3,h4⟩:=ih c hp;have e:((a::l).find? p).getD d=(l.find? p).getD d:=by rw[List.find?_cons_of_neg (by simp[b])]
  refine⟨j+1,by simp;omega,by rw[e];simpa using h2,by rw[e];exact h3,?_⟩;intro i y hi hy;cases i with
  |zero=>simp at hy;subst hy;exact b
  |succ i=>exact h4 i y (by omega) (by simpa using hy)
theorem aJh {aA:Int}{n:Nat}(h:(aA,n)∈jW){u:Nat}(hu:u<n)(h0:u≠0):
  ∃j,j<(aU aA n u).length∧(aU aA n u)[j]? =some (mO aA n u)∧ ∀i v,i<j→(aU aA n u)[i]? =some v→aZ aA v 0≠aZ aA u 0-1:=by
 obtain⟨a,b,c⟩:=(cA h hu).2.2.2.1 h0;obtain⟨j,h1,h2,_,h4⟩:=aJx (p:=fun(v:Nat)=>decide (aZ aA v 0=aZ aA u 0-1)) (d:=0) b (by simpa using c);exact⟨j,h1,h2,fun i v hi hv=>by simpa using h4 i v hi hv⟩
theorem nZ {aA:Int}{n:Nat}(h:(aA,n)∈jW): ∀(f u:Nat),u<n→aZ aA u 0≤f→((dK aA n f u).length:Int)=aZ aA u 0+1:=by
 intro f;induction f with
 |zero=>intro u hu hf;have:=(cA h hu).1;simp[dK];omega
 |succ f ih=>
  intro u hu hf;unfold dK;by_cases h0:u=0
  ·rw[if_pos h0];have:=(cA h hu).2.2.1.2 h0;simp;omega
  rw[if_neg h0];obtain⟨a,b,c⟩:=(cA h hu).2.2.2.1 h0;have:=ih _ a (by omega);simp;omega
theorem uR (aA:Int)(n f u:Nat):(dK aA n f u)[0]? =some u:=by
 cases f with
 |zero=>simp[dK]
 |succ f=>unfold dK;split<;>simp
theorem wD {aA:Int}{n:Nat}(h:(aA,n)∈jW): ∀(f u k x y:Nat),u<n→(dK aA n f u)[k]? =some x→(dK aA n f u)[k+1]? =some y→y<n∧y∈aU aA n x:=by
 intro f;induction f with
 |zero=>intro u k x y hu hx hy;simp[dK]at hy
 |succ f ih=>
  intro u k x y hu hx hy;unfold dK at hx hy;by_cases h0:u=0
  ·rw[if_pos h0]at hy;simp at hy
  rw[if_neg h0]at hx hy;obtain⟨a,b,c⟩:=(cA h hu).2.2.2.1 h0;cases k with
  |zero=>simp at hx hy;have:=uR aA n f (mO aA n u);rw[hy]at this;injection this with e;subst hx e;exact⟨a,b⟩
  |succ k=>exact ih _ k x y a (by simpa using hx) (by simpa using hy)
theorem aJf {aA:Int}{n:Nat}(h:(aA,n)∈jW): ∀(f u x:Nat),u<n→x∈dK aA n f u→x<n:=by
 intro f;induction f with
 |zero=>intro u x hu hx;simp[dK]at hx;omega
 |succ f ih=>
  intro u x hu hx;unfold dK at hx;by_cases h0:u=0
  ·rw[if_pos h0]at hx;simp at hx;omega
  rw[if_neg h0]at hx;obtain⟨a,b,c⟩:=(cA h hu).2.2.2.1 h0;rcases aTi.1 hx with e|e
  ·omega
  exact ih _ x a e
end Go.Proofs.YthfmmibomhhmpaaGreatDoor
