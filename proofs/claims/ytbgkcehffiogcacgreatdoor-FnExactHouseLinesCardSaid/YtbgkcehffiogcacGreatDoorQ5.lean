/-
  Texts of this proof, packed (@packed).
-/
import Derived.Test.YtbgkcehffiogcacGreatDoorQ4
namespace Go.Proofs.YtbgkcehffiogcacGreatDoor
open Go.RowKit Go.Proofs.Tryz
set_option linter.unusedSimpArgs false
set_option linter.unusedVariables false
set_option maxHeartbeats 8000000
set_option maxRecDepth 100000
abbrev bM (h:aL)(p:OA)(n cap:Nat)(q:OA)(m c2:Nat):Value:=
 .agg #[h.aA,h.aB,.slice p n cap,h.free,h.step,h.aD,h.aF,h.aC,h.aG,.slice q m c2]
structure IsHouse (w:World) (h:aL) (p:OA) (n cap:Nat) (q:OA) (m c2:Nat):Prop where
 cells:Sl w p n cap 1 (ivs h.cells)
 vs:Sl w q m c2 4 (h.vs.flatMap aE)
theorem IsHouse.ext {w w':World}{h:aL}{p q:OA}{n cap m c2:Nat}(i:IsHouse w h p n cap q m c2)(hx:Ext w w'):IsHouse w' h p n cap q m c2:=⟨i.cells.ext hx,i.vs.ext hx⟩
theorem IsHouse.vlen {w:World}{h:aL}{p q:OA}{n cap m c2:Nat}(i:IsHouse w h p n cap q m c2):h.vs.length=m:=by have:=i.vs.len;rw[cR aE 4 (fun _=>rfl)]at this;omega
theorem IsHouse.clen {w:World}{h:aL}{p q:OA}{n cap m c2:Nat}(i:IsHouse w h p n cap q m c2):h.cells.length=n:=i.cells.ilen
theorem eH {w:World}{q:OA}{m c2:Nat}{vs:List aP}(h:Sl w q m c2 4 (vs.flatMap aE)){k:Nat}(hk:k<m):
  ∃b off a0 a1 a2 a3,q=some ⟨b,off,none⟩∧vs[k]? =some (a0,a1,a2,a3)∧b<w.heap.size∧w.cell? ⟨b,off+k*4,none⟩=some (I a0)∧w.cell? ⟨b,off+k*4+1,none⟩=some (I a1)∧w.cell? ⟨b,off+k*4+2,none⟩=some (I a2)∧w.cell? ⟨b,off+k*4+3,none⟩=some (I a3):=by
 obtain⟨b,off,x,hp,hx,hb,hc⟩:=Sl.at_ (sz:=4) (f:=aE) (fun _=>rfl) h hk (by omega);obtain⟨a0,a1,a2,a3⟩:=x;exact⟨b,off,a0,a1,a2,a3,hp,hx,hb,hc 0 (by omega),hc 1 (by omega),hc 2 (by omega),hc 3 (by omega)⟩
def OwnZ (w:World)(p:OA)(n c:Nat)(xs:List Int):Prop:=Sl w p n c 1 (ivs xs)
theorem OwnZ.ext {w w':World}{p:OA}{n c:Nat}{xs:List Int}(h:OwnZ w p n c xs)(hx:Ext w w'):Sl w' p n c 1 (ivs xs):=Sl.ext h hx
theorem aQ8 {w:World}{B n c:Nat}{p:OA}{xs:List Int}(h:w.ownsRow B TI 1 (.slice p n c) n (ivs xs)):OwnZ w p n c xs:=Sl.own h
theorem aNf (aA aB j l aD aF aC aG:Int)(p:OA)(n cap:Nat)(q:OA)(m c2:Nat)(Cs:List Int)(vs:List aP)(b1 b2 R:Bool)(w:World)(hm:m≤9223372036854775807)
  (HV:xB 72 #[aH aA aB p n cap] w b1)
  (TV:Hid (∀w',U 73 #[aT j l aD aF] w' (O (.bool b2) w')))
  (HC:Hid (∀w',Ext w w'→U 74 #[aH aA aB p n cap] w' (bA Cs w')))(ar:Hid (b1=true→Cs.length≤100))(ad:Hid (Sl w q m c2 4 (vs.flatMap aE)))
  (HR:Hid (R=(b1&&b2&&decide (0≤aC∧aC≤9999∧0≤aG∧aG≤99999)&&bW aC Cs vs))):
  U 31 #[.agg #[aA,aB,.slice p n cap,j,l,aD,aF,aC,aG,.slice q m c2]] w (O (.bool R) w):=by
 have ak:vs.length=m:=by have:=ad.out.len;rw[cR aE 4 (fun _=>rfl)]at this;omega
 have ab:=xQ ak;clear ak;go_enter func31,ntmps31;go_wp2_with fail;refine Z (HV _ ((Mem.start w).c0 35 #[aA,aB,.slice p n cap,j,l,aD,aF,aC,aG,.slice q m c2]).ext) fun w1 al=>?_
 have M1:=(((Mem.start w).c0 35 #[aA,aB,.slice p n cap,j,l,aD,aF,aC,aG,.slice q m c2]).adv al)
 clear al;cases b1 with
 |false=>
  have hR:Hid (R=false):=by show _=_;rw[HR.out];rfl
  obtain⟨e0,e1,e2,e3,e4,e5,e6,e7,e8,e9⟩:=(M1.bk 0).ten;go_wp2;go_ret;exact⟨aQ hR.out.symm,M1.ext⟩
 |true=>
  obtain⟨e0,e1,e2,e3,e4,e5,e6,e7,e8,e9⟩:=(M1.bk 0).ten;go_wp2_with fail;clear e0 e1 e2 e3 e4 e5 e6 e7 e8 e9;refine Z (TV _) fun w2 am=>?_
  have M2:=(M1.adv am)
  clear M1 am;cases b2 with
  |false=>
   have hR:Hid (R=false):=by show _=_;rw[HR.out];rfl
   obtain⟨e0,e1,e2,e3,e4,e5,e6,e7,e8,e9⟩:=(M2.bk 0).ten;go_wp2;go_ret;exact⟨aQ hR.out.symm,M2.ext⟩
  |true=>
   by_cases h3:0≤aC∧aC≤9999∧0≤aG∧aG≤99999
   ·skip;obtain⟨h0,h1,h2,h3⟩:=h3;obtain⟨e0,e1,e2,e3,e4,e5,e6,e7,e8,e9⟩:=(M2.bk 0).ten;go_wp2_with fail;clear e0 e1 e2 e3 e4 e5 e6 e7 e8 e9;refine(HC _ M2.ext).mono ?_;rintro e w3 ⟨cp,cc,rfl,aj,an⟩;have M3:=(M2.call an aj)
    clear M2 an aj;by_cases hL2:Cs.length=m
    ·skip;have au:R=bW aC Cs vs:=by rw[HR.out];simp[h0,h1,h2,h3]
     subst au;have hL:((Cs.length:Int)!=(m:Int))=false:=by simp[hL2]
     have bb:m≤100:=by have:=ar.out (by trivial);omega
     have y:=xQ hL2;clear hL2;have av:OwnZ w3 cp Cs.length cc Cs:=aQ8 (M3.ow 0);have ax:Ext w w3:=M3.ext;have x:(w:Nat)<w3:=(M3.hi 1)
     obtain⟨ay,az,a4,a5,a6,a7,a8,ae,a9,af⟩:=(M3.bk 1).ten;go_wp2;clear hL;go_loopw [48] (fun i wr=> ∃k:Nat,k≤m∧i=I k∧bW aC Cs vs=bW aC (Cs.drop k) (vs.drop k)∧Ext w3 wr) (fun i _=>m-(intOf i).toNat)
     case atStart=>exact⟨0,aRv _,rfl,rfl,Ext.refl _⟩
     case round=>
      obtain⟨k,hk,rfl,t,hE⟩:=hrel;have ai:wr.cell? ⟨w,7,none⟩=some (I aC):=(hE.cells.1 _ _ x).trans ae;have ba:wr.cell? ⟨w,9,none⟩=some (.slice q m c2):=(hE.cells.1 _ _ x).trans af;have u:(w:Nat)<wr:=aRo x hE.sz;have z:=y.out;by_cases hlt:k<m
      ·obtain⟨b,bc,a0,a1,a2,a3,rfl,hv,hb,g0,g1,g2,g3⟩:=eH (ad.out.ext (ax.trans hE)) hlt;obtain⟨cb,d,c,rfl,hc,s,gc⟩:=(av.ext hE).int_at (show k<Cs.length by omega);have f:=xQ (t.trans (uO hc hv));have i1:(0:Int)≤(k:Int):=by omega
       have i2:(k:Int)<(m:Int):=by omega
       have i3:(k:Int)<(Cs.length:Int):=by omega
       clear t hc hv z;have r:Hid (∀w',U 75 #[bS a1 a2 a3] w' (O (.bool (dF a1 a2 a3)) w')):=fun w'=>aN5 a1 a2 a3 w'
       go_wp2_with fail;by_cases t0:a0=c
       ·have q0:(a0 !=c)=false:=by simp[t0]
        have T0:=xQ t0;clear t0;cases hst:dF a1 a2 a3 with
        |true=>
         rw[hst]at r;have aa:=xQ hst;clear hst;by_cases t1:aC<a3
         ·have g:Hid (bW aC Cs vs=false):=by show _=_;rw[f.out];simp[fC,aa.out];omega
          go_region_held3 (fun w'=>w'.cell? ⟨wr,0,none⟩=some (I a0)∧w'.cell? ⟨wr,1,none⟩=some (I a1)∧w'.cell? ⟨wr,2,none⟩=some (I a2)∧w'.cell? ⟨wr,3,none⟩=some (I a3)∧w'.cell? ⟨cb,d+k,none⟩=some (I c)∧w'.cell? ⟨w,7,none⟩=some (I aC)) (go_keep) ((go_at_call 75;refine Z (r.out _) fun w9 h9=>?_;(try replace h9:=h9.of_drew);have x9:Ext wr w9:=(by first|exact((Ext.refl wr).alloc _).trans h9|exact(((Ext.refl wr).alloc _).drew).trans h9);have ag:=(x9.cells.1 cb (d+k) s).trans gc;have aq:=(x9.cells.1 w 7 u).trans ai;have ah:=h9.cells.1;have o:(wr:Nat)<w9:=aRo (by simp) h9.sz;have ao:(w:Nat)<w9:=aTp u o;have ap:cb<w9:=aTp s o));all_goals go_wp2
          all_goals go_ret
          all_goals exact⟨aQ g.out.symm,xE⟩
         have g:Hid (bW aC Cs vs=bW aC (Cs.drop (k+1)) (vs.drop (k+1))):=by show _=_;rw[f.out];simp[fC,aa.out,T0.out];intro h;omega
         go_region_held3 (fun w'=>w'.cell? ⟨wr,0,none⟩=some (I a0)∧w'.cell? ⟨wr,1,none⟩=some (I a1)∧w'.cell? ⟨wr,2,none⟩=some (I a2)∧w'.cell? ⟨wr,3,none⟩=some (I a3)∧w'.cell? ⟨cb,d+k,none⟩=some (I c)∧w'.cell? ⟨w,7,none⟩=some (I aC)) (go_keep) ((go_at_call 75;refine Z (r.out _) fun w9 h9=>?_;(try replace h9:=h9.of_drew);have x9:Ext wr w9:=(by first|exact((Ext.refl wr).alloc _).trans h9|exact(((Ext.refl wr).alloc _).drew).trans h9);have ag:=(x9.cells.1 cb (d+k) s).trans gc;have aq:=(x9.cells.1 w 7 u).trans ai;have ah:=h9.cells.1;have o:(wr:Nat)<w9:=aRo (by simp) h9.sz;have ao:(w:Nat)<w9:=aTp u o;have ap:cb<w9:=aTp s o));all_goals go_wp2
         all_goals go_roundw
         all_goals first
          |(case rel=>first|exact⟨k+1,by omega,by go_num,g.out,xE⟩|((repeat apply Exists.intro);exact⟨⟨k+1,by omega,by go_num,g.out,xE⟩,rfl⟩))
          |(case measure=>simp[intOf];omega)
        |false=>
         rw[hst]at r;have g:Hid (bW aC Cs vs=false):=by show _=_;rw[f.out];simp[fC,hst]
         clear hst;refine wp_region_held_drew (S:=fun w'=>w'.cell? ⟨wr,0,none⟩=some (I a0)∧w'.cell? ⟨wr,1,none⟩=some (I a1)∧w'.cell? ⟨wr,2,none⟩=some (I a2)∧w'.cell? ⟨wr,3,none⟩=some (I a3)∧w'.cell? ⟨cb,d+k,none⟩=some (I c)) (by kernel_rfl) (by go_keep) (fun hHeld=> ?_);refine eE (i:=0) (v:= ?_) rfl (by kernel_rfl) (by kernel_rfl) (by kernel_rfl) (fun _ _ _ h=>h) (by rfl) ?_ (by assumption) ?_
         rotate_left
         ·(intro w a;(try dsimp only at a);go_simp;(try with_reducible rfl))
         (try go_frame);refine eE (i:=1) (v:= ?_) rfl (by kernel_rfl) (by kernel_rfl) (by kernel_rfl) (fun _ _ _ h=>h) (by rfl) ?_ (by assumption) ?_
         rotate_left
         ·(intro w a;(try dsimp only at a);go_simp;(try with_reducible rfl))
         (try go_frame);refine eE (i:=2) (v:= ?_) rfl (by kernel_rfl) (by kernel_rfl) (by kernel_rfl) (fun _ _ _ h=>h) (by rfl) ?_ (by assumption) ?_
         rotate_left
         ·(intro w a;(try dsimp only at a);go_simp;(try with_reducible rfl))
         (try go_frame);refine eE (i:=3) (v:= ?_) rfl (by kernel_rfl) (by kernel_rfl) (by kernel_rfl) (fun _ _ _ h=>h) (by rfl) ?_ (by assumption) ?_
         rotate_left
         ·(intro w a;(try dsimp only at a);go_simp;(try with_reducible rfl))
         (try go_frame);refine eE (i:=4) (v:= ?_) rfl (by kernel_rfl) (by kernel_rfl) (by kernel_rfl) (fun _ _ _ h=>h) (by rfl) ?_ (by assumption) ?_
         rotate_left
         ·(intro w a;(try dsimp only at a);go_simp;(try with_reducible rfl))
         (try go_frame);refine eE (i:=5) (v:= ?_) rfl (by kernel_rfl) (by kernel_rfl) (by kernel_rfl) (fun _ _ _ h=>h) (by rfl) ?_ (by assumption) ?_
         rotate_left
         ·(intro w a;(try dsimp only at a);go_simp;(try with_reducible rfl))
         (try go_frame);refine eE (i:=6) (v:= ?_) rfl (by kernel_rfl) (by kernel_rfl) (by kernel_rfl) (fun _ _ _ h=>h) (by rfl) ?_ (by assumption) ?_
         rotate_left
         ·(intro w a;(try dsimp only at a);go_simp;(try with_reducible rfl))
         (try go_frame);refine eE (i:=7) (v:= ?_) rfl (by kernel_rfl) (by kernel_rfl) (by kernel_rfl) (fun _ _ _ h=>h) (by rfl) ?_ (by assumption) ?_
         rotate_left
         ·(intro w a;(try dsimp only at a);go_simp;(try with_reducible rfl))
         (try go_frame);refine eE (i:=8) (v:= ?_) rfl (by kernel_rfl) (by kernel_rfl) (by kernel_rfl) (fun _ _ _ h=>h) (by rfl) ?_ (by assumption) ?_
         rotate_left
         ·(intro w a;(try dsimp only at a);go_simp;(try with_reducible rfl))
         (try go_frame);refine eE (i:=9) (v:= ?_) rfl (by kernel_rfl) (by kernel_rfl) (by kernel_rfl) (fun _ _ _ h=>h) (by rfl) ?_ (by assumption) ?_
         rotate_left
         ·(intro w a;(try dsimp only at a);go_simp;(try with_reducible rfl))
         (try go_frame);refine wpAnyH_ready (rs:= [10]) (by kernel_rfl) (by simp) ?_;refine aOh rfl (fun K hK=> ?_);go_simp;go_at_call 75;refine Z (r.out _) fun w9 h9=>?_
         (try replace h9:=h9.of_drew);have x9:Ext wr w9:=(by first|exact((Ext.refl wr).alloc _).trans h9|exact(((Ext.refl wr).alloc _).drew).trans h9)
         have ag:=(x9.cells.1 cb (d+k) s).trans gc;have ah:=h9.cells.1;have o:(wr:Nat)<w9:=aRo (by simp) h9.sz;go_wp2_with fail;refine hK.out _ _ (by(try dsimp only);go_keep) (fun hHeld=> ?_);clear hK K;(try go_frame);refine eE (i:=11) (v:= ?_) rfl (by kernel_rfl) (by kernel_rfl) (by kernel_rfl) (fun _ _ _ h=>h) (by rfl) ?_ (by assumption) ?_
         rotate_left
         ·(intro w a;(try dsimp only at a);go_simp;(try with_reducible rfl))
         (try go_frame);refine eE (i:=12) (v:= ?_) rfl (by kernel_rfl) (by kernel_rfl) (by kernel_rfl) (fun _ _ _ h=>h) (by rfl) ?_ (by assumption) ?_
         rotate_left
         ·(intro w a;(try dsimp only at a);go_simp;(try with_reducible rfl))
         (try go_frame);refine eE (i:=13) (v:= ?_) rfl (by kernel_rfl) (by kernel_rfl) (by kernel_rfl) (fun _ _ _ h=>h) (by rfl) ?_ (by assumption) ?_
         rotate_left
         ·(intro w a;(try dsimp only at a);go_simp;(try with_reducible rfl))
         (try go_frame);refine lB (i:=14) rfl (by kernel_rfl) (by kernel_rfl) (by kernel_rfl) (fun _ _ _ h=>h) (by rfl) (by assumption) ?_;(try go_frame);refine lB (i:=15) rfl (by kernel_rfl) (by kernel_rfl) (by kernel_rfl) (fun _ _ _ h=>h) (by rfl) (by assumption) ?_;(try go_frame);refine lB (i:=16) rfl (by kernel_rfl) (by kernel_rfl) (by kernel_rfl) (fun _ _ _ h=>h) (by rfl) (by assumption) ?_;(try go_frame);refine lB (i:=17) rfl (by kernel_rfl) (by kernel_rfl) (by kernel_rfl) (fun _ _ _ h=>h) (by rfl) (by assumption) ?_;(try go_frame);refine lB (i:=18) rfl (by kernel_rfl) (by kernel_rfl) (by kernel_rfl) (fun _ _ _ h=>h) (by rfl) (by assumption) ?_;(try go_frame);refine lB (i:=19) rfl (by kernel_rfl) (by kernel_rfl) (by kernel_rfl) (fun _ _ _ h=>h) (by rfl) (by assumption) ?_;(try go_frame);refine eE (i:=20) (v:= ?_) rfl (by kernel_rfl) (by kernel_rfl) (by kernel_rfl) (fun _ _ _ h=>h) (by rfl) ?_ (by assumption) ?_
         rotate_left
         ·(intro w a;(try dsimp only at a);go_simp;(try with_reducible rfl))
         (try go_frame);refine wpAnyH_done (by kernel_rfl) ?_ _;all_goals go_wp2
         all_goals go_ret
         all_goals exact⟨aQ g.out.symm,xE⟩
       have q0:(a0 !=c)=true:=by simp[t0]
       have g:Hid (bW aC Cs vs=false):=by show _=_;rw[f.out];simp[t0]
       clear t0;go_quiet (fail);all_goals go_wp2
       all_goals go_ret
       all_goals exact⟨aQ g.out.symm,xE⟩
      have f:Hid (bW aC Cs vs=true):=by show _=_;rw[t,aT7 (by rw[y.out];omega),aT7 (by rw[ab.out];omega)];rfl
      clear t;go_wp2;go_ret;exact⟨aQ f.out.symm,xE⟩
    skip;have hL:((Cs.length:Int)!=(m:Int))=true:=by simp;omega
    have hR:Hid (R=false):=by show _=_;rw[HR.out,uN (by rw[ab.out];exact hL2)];simp
    obtain⟨e0,e1,e2,e3,e4,e5,e6,e7,e8,e9⟩:=(M3.bk 1).ten;go_wp2;go_ret;exact⟨aQ hR.out.symm,M3.ext⟩
   skip;have hR:Hid (R=false):=by show _=_;rw[HR.out];simp[h3]
   have h:aC<0∨0≤aC∧9999<aC∨0≤aC∧aC≤9999∧aG<0∨0≤aC∧aC≤9999∧0≤aG∧99999<aG:=by omega
   clear h3;obtain⟨e0,e1,e2,e3,e4,e5,e6,e7,e8,e9⟩:=(M2.bk 0).ten;rcases h with h|⟨h0,h⟩|⟨h0,h1,h⟩|⟨h0,h1,h2,h⟩
   all_goals
    (try (have aw:decide (aC≤9999)=false:=by simp;omega));(try (have aw:decide (aG≤99999)=false:=by simp;omega));go_wp2;go_ret;exact⟨aQ hR.out.symm,M2.ext⟩
theorem iF (h:aL)(p:OA)(n cap:Nat)(q:OA)(m c2:Nat)(w:World)(hi:IsHouse w h p n cap q m c2):
  U 31 #[bM h p n cap q m c2] w (O (.bool (aR h)) w):=by
 obtain⟨aA,aB,a,b,c,aD,aF,aC,aG,vs⟩:=h;refine aNf aA aB b c aD aF aC aG p n cap q m c2 (if aO aA aB a then dY a else []) vs _ _ _ w hi.vs.bd (fun w' hx=>fY aA aB p n cap a w' (hi.cells.ext hx)) (fun w'=>aC0 b c aD aF w') (fun w' hx=>aNg aA aB p n cap a w' (hi.cells.ext hx)) (xQ fun h1=> ?_) hi.vs (xQ ?_)
 ·rw[if_pos h1];have e1:=iX a;have e2:=kG a;have e3:a.length≤12:=by simp only[aO,aRy]at h1;exact(cE h1.1).2.2.2.2.2.1
  omega
 show aR _=_;unfold aR rF;dsimp only;cases aO aA aB a<;>simp
theorem aM4 (aA aB j l aD aF aC aG:Int)(p:OA)(n cap:Nat)(q:OA)(m c2:Nat)(Cs:List Int)(vs:List aP)(b1 b2 R:Bool)(w:World)(hm:m≤9223372036854775807)
  (HV:xB 48 #[aH aA aB p n cap] w b1)
  (TV:Hid (∀w',U 49 #[aT j l aD aF] w' (O (.bool b2) w')))
  (HC:Hid (∀w',Ext w w'→U 47 #[aH aA aB p n cap] w' (bA Cs w')))(ar:Hid (b1=true→Cs.length≤100))(ad:Hid (Sl w q m c2 4 (vs.flatMap aE)))
  (HR:Hid (R=(b1&&b2&&decide (0≤aC∧aC≤9999∧0≤aG∧aG≤99999)&&bW aC Cs vs))):
  U 21 #[.agg #[aA,aB,.slice p n cap,j,l,aD,aF,aC,aG,.slice q m c2]] w (O (.bool R) w):=by
 have ak:vs.length=m:=by have:=ad.out.len;rw[cR aE 4 (fun _=>rfl)]at this;omega
 have ab:=xQ ak;clear ak;go_enter func21,ntmps21;go_wp2_with fail;refine(HC _ ((Mem.start w).c0 35 #[aA,aB,.slice p n cap,j,l,aD,aF,aC,aG,.slice q m c2]).ext).mono ?_;rintro e w1 ⟨cp,cc,rfl,aj,al⟩;have M1:=(((Mem.start w).c0 35 #[aA,aB,.slice p n cap,j,l,aD,aF,aC,aG,.slice q m c2]).call al aj)
 clear al aj;obtain⟨e0,e1,e2,e3,e4,e5,e6,e7,e8,e9⟩:=(M1.bk 1).ten;go_wp2_with fail;clear e0 e1 e2 e3 e4 e5 e6 e7 e8 e9;refine Z (HV _ M1.ext) fun w2 am=>?_
 have M2:=(M1.adv am)
 clear M1 am;cases b1 with
 |false=>
  have hR:Hid (R=false):=by show _=_;rw[HR.out];rfl
  obtain⟨e0,e1,e2,e3,e4,e5,e6,e7,e8,e9⟩:=(M2.bk 1).ten;go_wp2_with go_in;go_ret;exact⟨aQ hR.out.symm,M2.ext⟩
 |true=>
  obtain⟨e0,e1,e2,e3,e4,e5,e6,e7,e8,e9⟩:=(M2.bk 1).ten;go_wp2_with fail;clear e0 e1 e2 e3 e4 e5 e6 e7 e8 e9;refine Z (TV _) fun w3 an=>?_
  have M3:=(M2.adv an)
  clear M2 an;cases b2 with
  |false=>
   have hR:Hid (R=false):=by show _=_;rw[HR.out];rfl
   obtain⟨e0,e1,e2,e3,e4,e5,e6,e7,e8,e9⟩:=(M3.bk 1).ten;go_wp2_with go_in;go_ret;exact⟨aQ hR.out.symm,M3.ext⟩
  |true=>
   by_cases h3:0≤aC∧aC≤9999∧0≤aG∧aG≤99999
   ·skip;obtain⟨h0,h1,h2,h3⟩:=h3;by_cases hL2:Cs.length=m
    ·skip;have au:R=bW aC Cs vs:=by rw[HR.out];simp[h0,h1,h2,h3]
     subst au;have hL:((Cs.length:Int)!=(m:Int))=false:=by simp[hL2]
     have bb:m≤100:=by have:=ar.out (by trivial);omega
     have y:=xQ hL2;clear hL2;have av:OwnZ w3 cp Cs.length cc Cs:=aQ8 (M3.ow 0);have ax:Ext w w3:=M3.ext;have x:(w:Nat)<w3:=(M3.hi 1)
     obtain⟨ay,az,a4,a5,a6,a7,a8,ae,a9,af⟩:=(M3.bk 1).ten;go_wp2_with go_in;clear hL;go_loopw [4] (fun i wr=> ∃k:Nat,k≤m∧i=I k∧bW aC Cs vs=bW aC (Cs.drop k) (vs.drop k)∧Ext w3 wr) (fun i _=>m-(intOf i).toNat)
     case atStart=>exact⟨0,aRv _,rfl,rfl,Ext.refl _⟩
     case round=>
      obtain⟨k,hk,rfl,t,hE⟩:=hrel;have ai:wr.cell? ⟨w,7,none⟩=some (I aC):=(hE.cells.1 _ _ x).trans ae;have ba:wr.cell? ⟨w,9,none⟩=some (.slice q m c2):=(hE.cells.1 _ _ x).trans af;have u:(w:Nat)<wr:=aRo x hE.sz;have z:=y.out;by_cases hlt:k<m
      ·obtain⟨b,bc,a0,a1,a2,a3,rfl,hv,hb,g0,g1,g2,g3⟩:=eH (ad.out.ext (ax.trans hE)) hlt;obtain⟨cb,d,c,rfl,hc,s,gc⟩:=(av.ext hE).int_at (show k<Cs.length by omega);have f:=xQ (t.trans (uO hc hv));have i1:(0:Int)≤(k:Int):=by omega
       have i2:(k:Int)<(m:Int):=by omega
       have i3:(k:Int)<(Cs.length:Int):=by omega
       clear t hc hv z;have r:Hid (∀w',U 51 #[bS a1 a2 a3] w' (O (.bool (dF a1 a2 a3)) w')):=fun w'=>aLr a1 a2 a3 w'
       go_wp2_with fail;by_cases t0:a0=c
       ·have q0:(a0 !=c)=false:=by simp[t0]
        have T0:=xQ t0;clear t0;cases hst:dF a1 a2 a3 with
        |true=>
         rw[hst]at r;have aa:=xQ hst;clear hst;by_cases t1:aC<a3
         ·have g:Hid (bW aC Cs vs=false):=by show _=_;rw[f.out];simp[fC,aa.out];omega
          go_region_held3 (fun w'=>w'.cell? ⟨wr,0,none⟩=some (I a0)∧w'.cell? ⟨wr,1,none⟩=some (I a1)∧w'.cell? ⟨wr,2,none⟩=some (I a2)∧w'.cell? ⟨wr,3,none⟩=some (I a3)∧w'.cell? ⟨cb,d+k,none⟩=some (I c)∧w'.cell? ⟨w,7,none⟩=some (I aC)) (go_keep) ((go_at_call 51;refine Z (r.out _) fun w9 h9=>?_;(try replace h9:=h9.of_drew);have x9:Ext wr w9:=(by first|exact((Ext.refl wr).alloc _).trans h9|exact(((Ext.refl wr).alloc _).drew).trans h9);have ag:=(x9.cells.1 cb (d+k) s).trans gc;have aq:=(x9.cells.1 w 7 u).trans ai;have ah:=h9.cells.1;have o:(wr:Nat)<w9:=aRo (by simp) h9.sz;have ao:(w:Nat)<w9:=aTp u o;have ap:cb<w9:=aTp s o));all_goals go_wp2
          all_goals go_ret
          all_goals exact⟨aQ g.out.symm,xE⟩
         have g:Hid (bW aC Cs vs=bW aC (Cs.drop (k+1)) (vs.drop (k+1))):=by show _=_;rw[f.out];simp[fC,aa.out,T0.out];intro h;omega
         go_region_held3 (fun w'=>w'.cell? ⟨wr,0,none⟩=some (I a0)∧w'.cell? ⟨wr,1,none⟩=some (I a1)∧w'.cell? ⟨wr,2,none⟩=some (I a2)∧w'.cell? ⟨wr,3,none⟩=some (I a3)∧w'.cell? ⟨cb,d+k,none⟩=some (I c)∧w'.cell? ⟨w,7,none⟩=some (I aC)) (go_keep) ((go_at_call 51;refine Z (r.out _) fun w9 h9=>?_;(try replace h9:=h9.of_drew);have x9:Ext wr w9:=(by first|exact((Ext.refl wr).alloc _).trans h9|exact(((Ext.refl wr).alloc _).drew).trans h9);have ag:=(x9.cells.1 cb (d+k) s).trans gc;have aq:=(x9.cells.1 w 7 u).trans ai;have ah:=h9.cells.1;have o:(wr:Nat)<w9:=aRo (by simp) h9.sz;have ao:(w:Nat)<w9:=aTp u o;have ap:cb<w9:=aTp s o));all_goals go_wp2
         all_goals go_roundw
         all_goals first
          |(case rel=>first|exact⟨k+1,by omega,by go_num,g.out,xE⟩|((repeat apply Exists.intro);exact⟨⟨k+1,by omega,by go_num,g.out,xE⟩,rfl⟩))
          |(case measure=>simp[intOf];omega)
        |false=>
         rw[hst]at r;have g:Hid (bW aC Cs vs=false):=by show _=_;rw[f.out];simp[fC,hst]
         clear hst;refine wp_region_held_drew (S:=fun w'=>w'.cell? ⟨wr,0,none⟩=some (I a0)∧w'.cell? ⟨wr,1,none⟩=some (I a1)∧w'.cell? ⟨wr,2,none⟩=some (I a2)∧w'.cell? ⟨wr,3,none⟩=some (I a3)∧w'.cell? ⟨cb,d+k,none⟩=some (I c)) (by kernel_rfl) (by go_keep) (fun hHeld=> ?_);refine eE (i:=0) (v:= ?_) rfl (by kernel_rfl) (by kernel_rfl) (by kernel_rfl) (fun _ _ _ h=>h) (by rfl) ?_ (by assumption) ?_
         rotate_left
         ·(intro w a;(try dsimp only at a);go_simp;(try with_reducible rfl))
         (try go_frame);refine eE (i:=1) (v:= ?_) rfl (by kernel_rfl) (by kernel_rfl) (by kernel_rfl) (fun _ _ _ h=>h) (by rfl) ?_ (by assumption) ?_
         rotate_left
         ·(intro w a;(try dsimp only at a);go_simp;(try with_reducible rfl))
         (try go_frame);refine eE (i:=2) (v:= ?_) rfl (by kernel_rfl) (by kernel_rfl) (by kernel_rfl) (fun _ _ _ h=>h) (by rfl) ?_ (by assumption) ?_
         rotate_left
         ·(intro w a;(try dsimp only at a);go_simp;(try with_reducible rfl))
         (try go_frame);refine eE (i:=3) (v:= ?_) rfl (by kernel_rfl) (by kernel_rfl) (by kernel_rfl) (fun _ _ _ h=>h) (by rfl) ?_ (by assumption) ?_
         rotate_left
         ·(intro w a;(try dsimp only at a);go_simp;(try with_reducible rfl))
         (try go_frame);refine eE (i:=4) (v:= ?_) rfl (by kernel_rfl) (by kernel_rfl) (by kernel_rfl) (fun _ _ _ h=>h) (by rfl) ?_ (by assumption) ?_
         rotate_left
         ·(intro w a;(try dsimp only at a);go_simp;(try with_reducible rfl))
         (try go_frame);refine eE (i:=5) (v:= ?_) rfl (by kernel_rfl) (by kernel_rfl) (by kernel_rfl) (fun _ _ _ h=>h) (by rfl) ?_ (by assumption) ?_
         rotate_left
         ·(intro w a;(try dsimp only at a);go_simp;(try with_reducible rfl))
         (try go_frame);refine eE (i:=6) (v:= ?_) rfl (by kernel_rfl) (by kernel_rfl) (by kernel_rfl) (fun _ _ _ h=>h) (by rfl) ?_ (by assumption) ?_
         rotate_left
         ·(intro w a;(try dsimp only at a);go_simp;(try with_reducible rfl))
         (try go_frame);refine eE (i:=7) (v:= ?_) rfl (by kernel_rfl) (by kernel_rfl) (by kernel_rfl) (fun _ _ _ h=>h) (by rfl) ?_ (by assumption) ?_
         rotate_left
         ·(intro w a;(try dsimp only at a);go_simp;(try with_reducible rfl))
         (try go_frame);refine eE (i:=8) (v:= ?_) rfl (by kernel_rfl) (by kernel_rfl) (by kernel_rfl) (fun _ _ _ h=>h) (by rfl) ?_ (by assumption) ?_
         rotate_left
         ·(intro w a;(try dsimp only at a);go_simp;(try with_reducible rfl))
         (try go_frame);refine eE (i:=9) (v:= ?_) rfl (by kernel_rfl) (by kernel_rfl) (by kernel_rfl) (fun _ _ _ h=>h) (by rfl) ?_ (by assumption) ?_
         rotate_left
         ·(intro w a;(try dsimp only at a);go_simp;(try with_reducible rfl))
         (try go_frame);refine wpAnyH_ready (rs:= [10]) (by kernel_rfl) (by simp) ?_;refine aOh rfl (fun K hK=> ?_);go_simp;go_at_call 51;refine Z (r.out _) fun w9 h9=>?_
         (try replace h9:=h9.of_drew);have x9:Ext wr w9:=(by first|exact((Ext.refl wr).alloc _).trans h9|exact(((Ext.refl wr).alloc _).drew).trans h9)
         have ag:=(x9.cells.1 cb (d+k) s).trans gc;have ah:=h9.cells.1;have o:(wr:Nat)<w9:=aRo (by simp) h9.sz;go_wp2_with fail;refine hK.out _ _ (by(try dsimp only);go_keep) (fun hHeld=> ?_);clear hK K;(try go_frame);refine eE (i:=11) (v:= ?_) rfl (by kernel_rfl) (by kernel_rfl) (by kernel_rfl) (fun _ _ _ h=>h) (by rfl) ?_ (by assumption) ?_
         rotate_left
         ·(intro w a;(try dsimp only at a);go_simp;(try with_reducible rfl))
         (try go_frame);refine eE (i:=12) (v:= ?_) rfl (by kernel_rfl) (by kernel_rfl) (by kernel_rfl) (fun _ _ _ h=>h) (by rfl) ?_ (by assumption) ?_
         rotate_left
         ·(intro w a;(try dsimp only at a);go_simp;(try with_reducible rfl))
         (try go_frame);refine eE (i:=13) (v:= ?_) rfl (by kernel_rfl) (by kernel_rfl) (by kernel_rfl) (fun _ _ _ h=>h) (by rfl) ?_ (by assumption) ?_
         rotate_left
         ·(intro w a;(try dsimp only at a);go_simp;(try with_reducible rfl))
         (try go_frame);refine lB (i:=14) rfl (by kernel_rfl) (by kernel_rfl) (by kernel_rfl) (fun _ _ _ h=>h) (by rfl) (by assumption) ?_;(try go_frame);refine lB (i:=15) rfl (by kernel_rfl) (by kernel_rfl) (by kernel_rfl) (fun _ _ _ h=>h) (by rfl) (by assumption) ?_;(try go_frame);refine lB (i:=16) rfl (by kernel_rfl) (by kernel_rfl) (by kernel_rfl) (fun _ _ _ h=>h) (by rfl) (by assumption) ?_;(try go_frame);refine lB (i:=17) rfl (by kernel_rfl) (by kernel_rfl) (by kernel_rfl) (fun _ _ _ h=>h) (by rfl) (by assumption) ?_;(try go_frame);refine lB (i:=18) rfl (by kernel_rfl) (by kernel_rfl) (by kernel_rfl) (fun _ _ _ h=>h) (by rfl) (by assumption) ?_;(try go_frame);refine lB (i:=19) rfl (by kernel_rfl) (by kernel_rfl) (by kernel_rfl) (fun _ _ _ h=>h) (by rfl) (by assumption) ?_;(try go_frame);refine eE (i:=20) (v:= ?_) rfl (by kernel_rfl) (by kernel_rfl) (by kernel_rfl) (fun _ _ _ h=>h) (by rfl) ?_ (by assumption) ?_
         rotate_left
         ·(intro w a;(try dsimp only at a);go_simp;(try with_reducible rfl))
         (try go_frame);refine wpAnyH_done (by kernel_rfl) ?_ _;all_goals go_wp2
         all_goals go_ret
         all_goals exact⟨aQ g.out.symm,xE⟩
       have q0:(a0 !=c)=true:=by simp[t0]
       have g:Hid (bW aC Cs vs=false):=by show _=_;rw[f.out];simp[t0]
       clear t0;go_quiet (fail);all_goals go_wp2
       all_goals go_ret
       all_goals exact⟨aQ g.out.symm,xE⟩
      have f:Hid (bW aC Cs vs=true):=by show _=_;rw[t,aT7 (by rw[y.out];omega),aT7 (by rw[ab.out];omega)];rfl
      clear t;go_wp2;go_ret;exact⟨aQ f.out.symm,xE⟩
    skip;have hL:((Cs.length:Int)!=(m:Int))=true:=by simp;omega
    have hR:Hid (R=false):=by show _=_;rw[HR.out,uN (by rw[ab.out];exact hL2)];simp
    obtain⟨e0,e1,e2,e3,e4,e5,e6,e7,e8,e9⟩:=(M3.bk 1).ten;go_wp2_with go_in;go_ret;exact⟨aQ hR.out.symm,M3.ext⟩
   skip;have hR:Hid (R=false):=by show _=_;rw[HR.out];simp[h3]
   have h:aC<0∨0≤aC∧9999<aC∨0≤aC∧aC≤9999∧aG<0∨0≤aC∧aC≤9999∧0≤aG∧99999<aG:=by omega
   clear h3;obtain⟨e0,e1,e2,e3,e4,e5,e6,e7,e8,e9⟩:=(M3.bk 1).ten;rcases h with h|⟨h0,h⟩|⟨h0,h1,h⟩|⟨h0,h1,h2,h⟩
   all_goals
    (try (have aw:decide (aC≤9999)=false:=by simp;omega));(try (have aw:decide (aG≤99999)=false:=by simp;omega));go_wp2_with go_in;go_ret;exact⟨aQ hR.out.symm,M3.ext⟩
theorem iE (h:aL)(p:OA)(n cap:Nat)(q:OA)(m c2:Nat)(w:World)(hi:IsHouse w h p n cap q m c2):
  U 21 #[bM h p n cap q m c2] w (O (.bool (aR h)) w):=by
 obtain⟨aA,aB,a,b,c,aD,aF,aC,aG,vs⟩:=h;refine aM4 aA aB b c aD aF aC aG p n cap q m c2 (if aO aA aB a then dY a else []) vs _ _ _ w hi.vs.bd (fun w' hx=>gJ aA aB p n cap a w' (hi.cells.ext hx)) (fun w'=>aB5 b c aD aF w') (fun w' hx=>aQc aA aB p n cap a w' (hi.cells.ext hx)) (xQ fun h1=> ?_) hi.vs (xQ ?_)
 ·rw[if_pos h1];have e1:=iX a;have e2:=kG a;have e3:a.length≤12:=by simp only[aO,aRy]at h1;exact(cE h1.1).2.2.2.2.2.1
  omega
 show aR _=_;unfold aR rF;dsimp only;cases aO aA aB a<;>simp
abbrev aUc (w:World)(p:Option Addr)(xs:List Int)(c:Nat):Item:=aI w.heap.size TI 1 p xs.length c (ivs xs)
abbrev aUe (r:aL)(p:Option Addr)(c:Nat)(q:Option Addr)(d:Nat):Array Value:=#[.int .i64 r.aA,.int .i64 r.aB,.slice p r.cells.length c,.int .i64 r.free,.int .i64 r.step,.int .i64 r.aD,.int .i64 r.aF,.int .i64 r.aC,.int .i64 r.aG,.slice q r.vs.length d]
abbrev TV:TypeId:=77
abbrev mW (a b c d:Int):Value:= .agg #[a,b,c,d]
theorem aNv {xs:List Int}{k n:Nat}(h:k<n)(hl:(xs.take k).length=k):(ivs (xs.take k++List.replicate (n-k) 0))[k]? =some (I 0):=by simp only[ivs,aSq];rw[aS3 (by rw[aSg,hl];exact aRp _),aSg,hl,aT0];rw[show n-k=(n-(k+1))+1 by omega,aT9];rfl
theorem aMh {xs:List Int}{k n:Nat}{x:Int}(h:k<n)(hx:xs[k]? =some x) (hl:(xs.take k).length=k):(ivs (xs.take k++List.replicate (n-k) 0)).set k (I x)=ivs (xs.take (k+1)++List.replicate (n-(k+1)) 0):=by rw[aY hx];rw[show n-k=(n-(k+1))+1 by omega,aT9];simp only[ivs,aSq,aTn];rw[aT8 _ _ (by rw[aSg,hl];exact aRp _)];simp only[aSg,hl,aT0,aS1];simp[iv]
theorem aFm (p:OA)(n cap:Nat)(xs:List Int)(w:World)(hn:n≤1099511627776)(hS:Sl w p n cap 1 (ivs xs)):
  U 70 #[.slice p n cap] w (bA xs w):=by
 obtain⟨i0,hi,g,h,j⟩:=info_parts (show(prog.info? 3).map (fun i=>(i.zero,i.size,i.bytes))=some (some (I 0),1,8) by kernel_rfl);have hl:=xQ hS.ilen;have HS:=xQ hS;clear hS;go_enter func70,ntmps70;go_wp2_with (at_make;refine wpList_make_full _ rfl _ _ 22 rfl w 3 i0 (I 0) 1 underlying22 hi g h .i64 .i64 _ _ n rfl rfl rfl rfl (by rw[j];omega) (by unfold maxLen;omega) (aRp _) ?_;intro w0 c d);have m:Ext w w0:=(Ext.refl w).grown d (fun q hq=>by cases hq);have r:=(c.lt w rfl).2;rw[aK6]at c;have l:=xQ c;clear c d hi g h j;go_loopw [4] (fun i wr=> ∃k:Nat,k≤n∧i=I k∧wr.ownsRow w TI 1 (.slice (some ⟨w,0,none⟩) n n) n (ivs (xs.take k++List.replicate (n-k) 0))∧Ext w wr) (fun i _=>n-(intOf i).toNat)
 case atStart=>exact⟨0,aRv _,rfl,by simpa using l.out,m⟩
 case round=>
  obtain⟨k,hk,rfl,a,hE⟩:=hrel;by_cases hlt:k<n
  ·obtain⟨b,t,x,rfl,hx,hb,o⟩:=(HS.out.ext hE).int_at hlt;have HX:=xQ hx;have f:(xs.take k).length=k:=by rw[aSd,hl.out];omega
   have o0:wr.cell? ⟨w,k,none⟩=some (I 0):=by rw[a.cellAt k (by omega)];exact aNv hlt f
   have f0:wr.frozen? ⟨w,k,none⟩=false:=a.frozenAt k;have HN:Hid ((wr.setCell ⟨w,k,none⟩ (I x)).ownsRow w TI 1 (.slice (some ⟨w,0,none⟩) n n) n (ivs (xs.take (k+1)++List.replicate (n-(k+1)) 0))):=by have:=(a.stored k (I x)).1;rw[aMh hlt HX f]at this;exact this
   have s:=hE.sz;clear a hx;go_wp2;go_roundw
   case rel=>exact⟨k+1,by omega,by go_num,HN.out,xE⟩
   case measure=>simp[intOf];omega
  obtain rfl:k=n:=by omega
  have e:xs.take k=xs:=aRu (by rw[hl.out];exact aRp _);have HO:=xQ (show wr.ownsRow w TI 1 (.slice (some ⟨w,0,none⟩) k k) k (ivs xs) by rw[e]at a;simpa using a);clear a e;go_wp2;go_ret;exact dG hl.out HO hE
theorem aHs (p q:OA)(n c1 c2:Nat)(xs:List Int)(w:World)(h1:Sl w p n c1 1 (ivs xs))(h2:Sl w q n c2 1 (ivs xs)):
  U 94 #[.slice p n c1,.slice q n c2] w (O (.bool true) w):=by
 have hn:=h1.bd;have H1:=xQ h1;have H2:=xQ h2;clear h1 h2;go_enter func94,ntmps94;go_wp2;go_loopw [5] (fun i wr=> ∃k:Nat,k≤n∧i=I k∧Ext w wr) (fun i _=>n-(intOf i).toNat)
 case atStart=>exact⟨0,aRv _,rfl,Ext.refl _⟩
 case round=>
  obtain⟨k,hk,rfl,hE⟩:=hrel;by_cases hlt:k<n
  ·obtain⟨b,g,x,rfl,hx,hb,c⟩:=(H1.out.ext hE).int_at hlt;obtain⟨b2,d,y,rfl,hy,f,a⟩:=(H2.out.ext hE).int_at hlt;rw[hx]at hy;injection hy with hy;subst hy;clear hx;have i1:(0:Int)≤(k:Int):=by omega
   have i2:(k:Int)<(n:Int):=by omega
   go_wp2;go_quiet (fail);go_wp2;go_roundw
   case rel=>exact⟨k+1,by omega,by go_num,xE⟩
   case measure=>simp[intOf];omega
  go_wp2;go_ret;exact⟨rfl,hE⟩
theorem wJ (p:OA)(n cap:Nat)(left:Int)(w:World)(hn:n≤9223372036854775807)(hl:0≤left)(a:left≤1048576):
  U 46 #[.slice p n cap,left] w fun e w'=>e= .returned (I (if left<n then -1 else left-n))∧w=w':=by
 by_cases h:left<n
 ·rw[if_pos h];go_enter func46,ntmps46;go_wp2;go_ret;exact⟨rfl,rfl⟩
 rw[if_neg h];go_enter func46,ntmps46;go_wp2;go_ret;exact⟨rfl,rfl⟩
theorem rT (p:OA)(n cap:Nat)(left:Int)(w:World)(hn:n≤9223372036854775807)(hl:0≤left)(a:left≤1048576):
  U 20 #[.slice p n cap,left] w fun e w'=>e= .returned (I (if left<n then -1 else left-n))∧w=w':=by
 by_cases h:left<n
 ·rw[if_pos h];go_enter func20,ntmps20;go_wp2;go_ret;exact⟨rfl,rfl⟩
 rw[if_neg h];go_enter func20,ntmps20;go_wp2;go_ret;exact⟨rfl,rfl⟩
theorem uQ (h:aL)(p:OA)(n cap:Nat)(q:OA)(m c2:Nat)(w:World)(hn:n≤9223372036854775807)(hm:m≤9223372036854775807):
  U 5 #[bM h p n cap q m c2,I 1048576] w fun e w'=>e= .returned (I (if 1048576<n+m then -1 else 1048576-n-m))∧Ext w w':=by
 obtain⟨aA,aB,a,b,c,aD,aF,aC,aG,vs⟩:=h;by_cases h1:(1048576:Int)<n
 ·have HA:Hid (∀w,U 46 #[.slice p n cap,I 1048576] w fun e w'=>e= .returned (I (-1))∧w=w'):=fun w=>by have:=wJ p n cap 1048576 w hn (by omega) (by omega);rwa[if_pos h1]at this
  rw[if_pos (by omega)];go_enter func5,ntmps5;go_wp2_with (first|(go_at_call 46;refine(HA _).mono ?_;rintro e w1 ⟨rfl,rfl⟩)|go_in);go_ret;exact⟨rfl,xE⟩
 have HA:Hid (∀w,U 46 #[.slice p n cap,I 1048576] w fun e w'=>e= .returned (I (1048576-n))∧w=w'):=fun w=>by have:=wJ p n cap 1048576 w hn (by omega) (by omega);rwa[if_neg h1]at this
 by_cases h2:(1048576-n:Int)<m
 ·have HB:Hid (∀w,U 20 #[.slice q m c2,(1048576-n:Int)] w fun e w'=>e= .returned (I (-1))∧w=w'):=fun w=>by have:=rT q m c2 (1048576-n) w hm (by omega) (by omega);rwa[if_pos h2]at this
  rw[if_pos (by omega)];go_enter func5,ntmps5;go_wp2_with (first|(go_at_call 46;refine(HA _).mono ?_;rintro e w1 ⟨rfl,rfl⟩)|(go_at_call 20;refine(HB _).mono ?_;rintro e w1 ⟨rfl,rfl⟩)|go_in);go_ret;exact⟨rfl,xE⟩
 have HB:Hid (∀w,U 20 #[.slice q m c2,(1048576-n:Int)] w fun e w'=>e= .returned (I (1048576-n-m))∧w=w'):=fun w=>by have:=rT q m c2 (1048576-n) w hm (by omega) (by omega);rwa[if_neg h2]at this
 rw[if_neg (by omega)];go_enter func5,ntmps5;go_wp2_with (first|(go_at_call 46;refine(HA _).mono ?_;rintro e w1 ⟨rfl,rfl⟩)|(go_at_call 20;refine(HB _).mono ?_;rintro e w1 ⟨rfl,rfl⟩)|go_in);go_ret;exact⟨rfl,xE⟩
theorem aB3 (f s p c:Int)(w:World):U 29 #[aT f s p c] w (O (aT f s p c) w):=by go_enter func29,ntmps29;go_wp2;exact bodyPost_ret (v:=aT f s p c) (by simp[results,results29,go_sem]) rfl ⟨rfl,xE⟩
theorem aCy (a b c d:Int)(w:World):U 71 #[mW a b c d] w (O (mW a b c d) w):=by go_enter func71,ntmps71;go_wp2_with go_in;exact bodyPost_ret (v:=mW a b c d) (by simp[results,results71,go_sem]) rfl ⟨rfl,xE⟩
theorem aCn (f s p c:Int)(w:World):U 39 #[aT f s p c,aT f s p c] w (O (.bool true) w):=by go_enter func39,ntmps39;go_wp2;go_ret;exact⟨rfl,xE⟩
theorem aHr (a b c:Int)(w:World):U 136 #[bS a b c,bS a b c] w (O (.bool true) w):=by go_enter func136,ntmps136;go_wp2;go_ret;exact⟨rfl,xE⟩
theorem aF2 (a b c d:Int)(w:World):U 95 #[mW a b c d,mW a b c d] w (O (.bool true) w):=by
 go_enter func95,ntmps95;go_wp2_with fail;refine Z (aHr b c d _) fun w1 h1=>?_
 go_wp2;go_ret;exact⟨rfl,xE⟩
def aAy (vs:List aP)(w:World)(e:Ending)(w':World):Prop:=
 ∃p cap,e= .returned (.slice p vs.length cap)∧w'.ownsRow w.heap.size TV 4 (.slice p vs.length cap) vs.length (vs.flatMap aE)∧Ext w w'
theorem aGg {p:OA}{n cap:Nat}{vs:List aP}{w w':World}(hn:vs.length=n)(ho:w'.ownsRow w TV 4 (.slice p n cap) n (vs.flatMap aE))(hx:Ext w w'):aAy vs w (.returned (.slice p n cap)) w':=by subst hn;exact⟨p,cap,rfl,ho,hx⟩
def vz:aP:=(0,0,0,0)
theorem aE4 (n:Nat):(madeCells (mW 0 0 0 0).cells (n*4)).toList=(List.replicate n vz).flatMap aE:=by
 apply List.ext_getElem?;intro j;by_cases hj:j<n*4
 ·have h1:j/4<n:=by omega
  have hv:(List.replicate n vz)[j/4]? =some vz:=by simp[h1]
  have:=eP aE 4 (fun _=>rfl) _ _ _ hv (j%4) (by omega);rw[show j/4*4+j%4=j by omega]at this;rw[this];simp[madeCells,Value.cells,hj];have:j%4=0∨j%4=1∨j%4=2∨j%4=3:=by omega
  rcases this with h|h|h|h<;>simp[h,aE,vz]
 rw[aSu (by simp[madeCells];omega),aSu (by rw[cR aE 4 (fun _=>rfl)];simp;omega)]
theorem aJ2 {vs:List aP}{k n:Nat}{a b c d:Int}(h:k<n)(hx:vs[k]? =some (a,b,c,d)) (hl:(vs.take k).length=k):
  (((((vs.take k++List.replicate (n-k) vz).flatMap aE).set (k*4) (I a)).set (k*4+1) (I b)).set (k*4+2) (I c)).set (k*4+3) (I d)=(vs.take (k+1)++List.replicate (n-(k+1)) vz).flatMap aE:=by
 rw[aY hx,show n-k=(n-(k+1))+1 by omega,aT9];have hf:((vs.take k).flatMap aE).length=k*4:=by rw[cR aE 4 (fun _=>rfl),hl]
 simp only[aSk,aSn,aSh];generalize (vs.take k).flatMap aE=A at hf;rw[aT8 _ _ (by omega),aT8 _ _ (by omega),aT8 _ _ (by omega),aT8 _ _ (by omega)];simp[hf,aE,vz]
theorem pY {vs:List aP}{k n:Nat}(h:k<n)(hl:(vs.take k).length=k)(j:Nat)(hj:j<4):((vs.take k++List.replicate (n-k) vz).flatMap aE)[k*4+j]? =some (I 0):=by
 have hv:(vs.take k++List.replicate (n-k) vz)[k]? =some vz:=by rw[aS3 (by omega),hl,aT0,aTe,if_pos (by omega)]
 rw[eP aE 4 (fun _=>rfl) _ _ _ hv j hj]
 match j,hj with
 |0,_=>rfl
 |1,_=>rfl
 |2,_=>rfl
 |3,_=>rfl
theorem aB2 (p:OA)(n cap:Nat)(vs:List aP)(w:World)(hn:n≤1099511627776)(hS:Sl w p n cap 4 (vs.flatMap aE)):
  U 30 #[.slice p n cap] w (aAy vs w):=by
 obtain⟨i0,hi,o,r,s⟩:=info_parts (show(prog.info? TV).map (fun i=>(i.zero,i.size,i.bytes))=some (some (mW 0 0 0 0),4,32) by kernel_rfl);have m:vs.length=n:=by have:=hS.len;rw[cR aE 4 (fun _=>rfl)]at this;omega
 have hl:=xQ m;have HS:=xQ hS;clear hS m;go_enter func30,ntmps30;go_wp2_with (at_make;refine wpList_make_full _ rfl _ _ 33 rfl w TV i0 (mW 0 0 0 0) 4 underlying33 hi o r .i64 .i64 _ _ n rfl rfl rfl rfl (by rw[s];omega) (by unfold maxLen;omega) (aRp _) ?_;intro w0 c f);have v:Ext w w0:=(Ext.refl w).grown f (fun q hq=>by cases hq);have x:=(c.lt w rfl).2;rw[aE4]at c;have t:=xQ c;clear c f hi o r s;go_loopw [4] (fun i wr=> ∃k:Nat,k≤n∧i=I k∧wr.ownsRow w TV 4 (.slice (some ⟨w,0,none⟩) n n) n ((vs.take k++List.replicate (n-k) vz).flatMap aE)∧Ext w wr) (fun i _=>n-(intOf i).toNat)
 case atStart=>exact⟨0,aRv _,rfl,by rw[List.take_zero,aTa,Nat.sub_zero];exact t.out,v⟩
 case round=>
  obtain⟨k,hk,rfl,d,hE⟩:=hrel;by_cases hlt:k<n
  ·obtain⟨b,z,a0,a1,a2,a3,rfl,hx,hb,g0,g1,g2,g3⟩:=eH (HS.out.ext hE) hlt;have HX:=xQ hx;have h:(vs.take k).length=k:=by rw[aSd,hl.out];omega
   have l:=xQ d;have g:=xQ h;clear d hx h;go_wp2_with fail;refine Z (aCy a0 a1 a2 a3 _) fun w1 h1=>?_
   have a:=aZ l h1;have y:(w:Nat)<w1:=(a.lt w rfl).2;have o0:w1.cell? ⟨w,k*4,none⟩=some (I 0):=(a.cellAt _ (by omega)).trans (pY hlt g.out 0 (by omega));have o1:w1.cell? ⟨w,k*4+1,none⟩=some (I 0):=(a.cellAt _ (by omega)).trans (pY hlt g.out 1 (by omega));have o2:w1.cell? ⟨w,k*4+2,none⟩=some (I 0):=(a.cellAt _ (by omega)).trans (pY hlt g.out 2 (by omega));have o3:w1.cell? ⟨w,k*4+3,none⟩=some (I 0):=(a.cellAt _ (by omega)).trans (pY hlt g.out 3 (by omega));have f0:w1.frozen? ⟨w,k*4,none⟩=false:=a.frozenAt _;have f1:w1.frozen? ⟨w,k*4+1,none⟩=false:=a.frozenAt _;have f2:w1.frozen? ⟨w,k*4+2,none⟩=false:=a.frozenAt _;have f3:w1.frozen? ⟨w,k*4+3,none⟩=false:=a.frozenAt _;have j:=((((a.stored (k*4) (I a0)).1.stored (k*4+1) (I a1)).1.stored (k*4+2) (I a2)).1.stored (k*4+3) (I a3)).1;rw[aJ2 hlt HX g.out]at j;have u:=xQ j;clear a j;go_wp2;go_roundw
   case rel=>exact⟨k+1,by omega,by go_num,u.out,xE⟩
   case measure=>simp[intOf];omega
  obtain rfl:k=n:=by omega
  have e:vs.take k=vs:=aRu (by rw[hl.out];exact aRp _);have HO:=xQ (show wr.ownsRow w TV 4 (.slice (some ⟨w,0,none⟩) k k) k (vs.flatMap aE) by rw[e]at d;simpa using d);clear d e;go_wp2;go_ret;exact aGg hl.out HO hE
theorem aCm (p q:OA)(n c1 c2:Nat)(vs:List aP)(w:World)(h1:Sl w p n c1 4 (vs.flatMap aE))(h2:Sl w q n c2 4 (vs.flatMap aE)):
  U 40 #[.slice p n c1,.slice q n c2] w (O (.bool true) w):=by
 have hn:=h1.bd;have H1:=xQ h1;have H2:=xQ h2;clear h1 h2;go_enter func40,ntmps40;go_wp2;go_loopw [5] (fun i wr=> ∃k:Nat,k≤n∧i=I k∧Ext w wr) (fun i _=>n-(intOf i).toNat)
 case atStart=>exact⟨0,aRv _,rfl,Ext.refl _⟩
 case round=>
  obtain⟨k,hk,rfl,hE⟩:=hrel;by_cases hlt:k<n
  ·obtain⟨b,c,a0,a1,a2,a3,rfl,hx,hb,g0,g1,g2,g3⟩:=eH (H1.out.ext hE) hlt;obtain⟨b2,a,d0,d1,d2,d3,rfl,hy,d,k0,k1,k2,k3⟩:=eH (H2.out.ext hE) hlt;rw[hx]at hy;injection hy with hy;simp only[aSy]at hy;obtain⟨rfl,rfl,rfl,rfl⟩:=hy;clear hx;have i1:(0:Int)≤(k:Int):=by omega
   have i2:(k:Int)<(n:Int):=by omega
   have HQ:Hid (∀w,U 95 #[mW a0 a1 a2 a3,mW a0 a1 a2 a3] w (O (.bool true) w)):=fun w=>aF2 a0 a1 a2 a3 w
   go_wp2;go_region_held3 (fun w'=>w'.cell? ⟨b,c+k*4,none⟩=some (I a0)∧w'.cell? ⟨b,c+k*4+1,none⟩=some (I a1)∧w'.cell? ⟨b,c+k*4+2,none⟩=some (I a2)∧w'.cell? ⟨b,c+k*4+3,none⟩=some (I a3)∧w'.cell? ⟨b2,a+k*4,none⟩=some (I a0)∧w'.cell? ⟨b2,a+k*4+1,none⟩=some (I a1)∧w'.cell? ⟨b2,a+k*4+2,none⟩=some (I a2)∧w'.cell? ⟨b2,a+k*4+3,none⟩=some (I a3)) (go_keep) ((go_at_call 95;refine Z (HQ _) fun w1 h1=>?_;(try replace h1:=h1.of_drew);have f:=h1.cells.1));all_goals go_wp2
   all_goals go_roundw
   all_goals first
    |(case rel=>exact⟨k+1,by omega,by go_num,xE⟩)
    |(case measure=>simp[intOf];omega)
  go_wp2;go_ret;exact⟨rfl,hE⟩
abbrev aUd (w:World)(p:Option Addr)(xs:List aP)(c:Nat):Item:=aI w.heap.size TV 4 p xs.length c (xs.flatMap aE)
end Go.Proofs.YtbgkcehffiogcacGreatDoor
