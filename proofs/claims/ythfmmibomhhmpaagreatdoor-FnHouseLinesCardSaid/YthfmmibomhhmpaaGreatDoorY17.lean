/-
  Texts of this proof, packed (@packed).
-/
import Derived.Test.YthfmmibomhhmpaaGreatDoorY16
namespace Go.Proofs.YthfmmibomhhmpaaGreatDoor
open Go.RowKit
set_option linter.unusedSimpArgs false
set_option linter.unusedVariables false
set_option maxHeartbeats 8000000
set_option maxRecDepth 100000
section
open Go.Proofs.Tryz
abbrev bG (h:aL)(p:OA)(n cap:Nat)(q:OA)(m c2:Nat):Value:=
 .agg #[h.aA,h.aB,.slice p n cap,h.free,h.step,h.aD,h.aF,h.aC,h.aG,.slice q m c2]
structure IsHouse (w:World) (h:aL) (p:OA) (n cap:Nat) (q:OA) (m c2:Nat):Prop where
 cells:Sl w p n cap 1 (ivs h.cells)
 vs:Sl w q m c2 4 (h.vs.flatMap aE)
theorem IsHouse.ext {w w':World}{h:aL}{p q:OA}{n a m c2:Nat}(i:IsHouse w h p n a q m c2)(hx:Ext w w'):IsHouse w' h p n a q m c2:=⟨i.cells.ext hx,i.vs.ext hx⟩
theorem IsHouse.vlen {w:World}{h:aL}{p q:OA}{n a m c2:Nat}(i:IsHouse w h p n a q m c2):h.vs.length=m:=by have:=i.vs.len;rw[dD aE 4 (fun _=>rfl)]at this;omega
theorem IsHouse.clen {w:World}{h:aL}{p q:OA}{n a m c2:Nat}(i:IsHouse w h p n a q m c2):h.cells.length=n:=i.cells.ilen
theorem eN {w:World}{q:OA}{m c2:Nat}{vs:List aR}(h:Sl w q m c2 4 (vs.flatMap aE)){k:Nat}(hk:k<m):
  ∃b off a0 a1 a2 a3,q=some ⟨b,off,none⟩∧vs[k]? =some (a0,a1,a2,a3)∧b<w.heap.size∧w.cell? ⟨b,off+k*4,none⟩=some (I a0)∧w.cell? ⟨b,off+k*4+1,none⟩=some (I a1)∧w.cell? ⟨b,off+k*4+2,none⟩=some (I a2)∧w.cell? ⟨b,off+k*4+3,none⟩=some (I a3):=by
 obtain⟨b,off,x,hp,hx,hb,hc⟩:=Sl.at_ (sz:=4) (f:=aE) (fun _=>rfl) h hk (by omega);obtain⟨a0,a1,a2,a3⟩:=x;exact⟨b,off,a0,a1,a2,a3,hp,hx,hb,hc 0 (by omega),hc 1 (by omega),hc 2 (by omega),hc 3 (by omega)⟩
def OwnZ (w:World)(p:OA)(n c:Nat)(xs:List Int):Prop:=Sl w p n c 1 (ivs xs)
theorem OwnZ.ext {w w':World}{p:OA}{n c:Nat}{xs:List Int}(h:OwnZ w p n c xs)(hx:Ext w w'):Sl w' p n c 1 (ivs xs):=Sl.ext h hx
theorem aRo {w:World}{B n c:Nat}{p:OA}{xs:List Int}(h:w.ownsRow B TI 1 (.slice p n c) n (ivs xs)):OwnZ w p n c xs:=Sl.own h
theorem aOy (aA aB j l aD aF aC aG:Int)(p:OA)(n r:Nat)(q:OA)(m c2:Nat)(Cs:List Int)(vs:List aR)(b1 b2 R:Bool)(w:World)(hm:m≤9223372036854775807)
  (HV:xB 42 #[aH aA aB p n r] w b1)
  (TV:Hid (∀w',U 43 #[aS j l aD aF] w' (O (.bool b2) w')))
  (HC:Hid (∀w',Ext w w'→U 44 #[aH aA aB p n r] w' (bC Cs w')))(au:Hid (b1=true→Cs.length≤100))(ae:Hid (Sl w q m c2 4 (vs.flatMap aE)))
  (HR:Hid (R=(b1&&b2&&decide (0≤aC∧aC≤9999∧0≤aG∧aG≤99999)&&cE aC Cs vs))):
  U 19 #[.agg #[aA,aB,.slice p n r,j,l,aD,aF,aC,aG,.slice q m c2]] w (O (.bool R) w):=by
 have al:vs.length=m:=by have:=ae.out.len;rw[dD aE 4 (fun _=>rfl)]at this;omega
 have ad:=xQ al;clear al;go_enter func19,ntmps19;go_wp2_with fail;refine Z (HV _ ((Mem.start w).c0 30 #[aA,aB,.slice p n r,j,l,aD,aF,aC,aG,.slice q m c2]).ext) fun w1 am=>?_
 have M1:=(((Mem.start w).c0 30 #[aA,aB,.slice p n r,j,l,aD,aF,aC,aG,.slice q m c2]).adv am)
 clear am;cases b1 with
 |false=>
  have hR:Hid (R=false):=by show _=_;rw[HR.out];rfl
  have e_:=(M1.bk 0).ten;go_wp2;go_ret;exact⟨aT hR.out.symm,M1.ext⟩
 |true=>
  have e_:=(M1.bk 0).ten;go_wp2_with fail;clear e_;refine Z (TV _) fun w2 an=>?_
  have M2:=(M1.adv an)
  clear M1 an;cases b2 with
  |false=>
   have hR:Hid (R=false):=by show _=_;rw[HR.out];rfl
   have e_:=(M2.bk 0).ten;go_wp2;go_ret;exact⟨aT hR.out.symm,M2.ext⟩
  |true=>
   by_cases h3:0≤aC∧aC≤9999∧0≤aG∧aG≤99999
   ·skip;obtain⟨h0,h1,h2,h3⟩:=h3;have e_:=(M2.bk 0).ten;go_wp2_with fail;clear e_;refine(HC _ M2.ext).mono ?_;rintro e w3 ⟨cp,cc,rfl,ak,ao⟩;have M3:=(M2.call ao ak)
    clear M2 ao ak;by_cases hL2:Cs.length=m
    ·skip;have av:R=cE aC Cs vs:=by rw[HR.out];simp[h0,h1,h2,h3]
     subst av;have hL:((Cs.length:Int)!=(m:Int))=false:=by simp[hL2]
     have bc:m≤100:=by have:=au.out (by trivial);omega
     have z:=xQ hL2;clear hL2;have aw:OwnZ w3 cp Cs.length cc Cs:=aRo (M3.ow 0);have ay:Ext w w3:=M3.ext;have y:(w:Nat)<w3:=(M3.hi 1)
     obtain⟨az,a4,a5,a6,a7,a8,a9,af,ba,ag⟩:=(M3.bk 1).ten;go_wp2;clear hL;go_loopw [48] (fun i wr=> ∃k:Nat,k≤m∧i=I k∧cE aC Cs vs=cE aC (Cs.drop k) (vs.drop k)∧Ext w3 wr) (fun i _=>m-(intOf i).toNat)
     case atStart=>exact⟨0,aTd _,rfl,rfl,Ext.refl _⟩
     case round=>
      obtain⟨k,hk,rfl,u,hE⟩:=hrel;have aj:wr.cell? ⟨w,7,none⟩=some (I aC):=(hE.cells.1 _ _ y).trans af;have bb:wr.cell? ⟨w,9,none⟩=some (.slice q m c2):=(hE.cells.1 _ _ y).trans ag;have x:(w:Nat)<wr:=aT4 y hE.sz;have aa:=z.out;by_cases hlt:k<m
      ·obtain⟨b,bd,a0,a1,a2,a3,rfl,hv,hb,g0,g1,g2,g3⟩:=eN (ae.out.ext (ay.trans hE)) hlt;obtain⟨cb,d,c,rfl,hc,t,gc⟩:=(aw.ext hE).int_at (show k<Cs.length by omega);have f:=xQ (u.trans (wF hc hv));have i1:=aVt k;have i2:=aVu k m;have i3:(k:Int)<(Cs.length:Int):=by omega
       clear u hc hv aa;have s:Hid (∀w',U 45 #[bX a1 a2 a3] w' (O (.bool (dI a1 a2 a3)) w')):=fun w'=>aOp a1 a2 a3 w'
       go_wp2_with fail;by_cases t0:a0=c
       ·have q0:(a0 !=c)=false:=by simp[t0]
        have T0:=xQ t0;clear t0;cases hst:dI a1 a2 a3 with
        |true=>
         rw[hst]at s;have ab:=xQ hst;clear hst;by_cases t1:aC<a3
         ·have g:Hid (cE aC Cs vs=false):=by show _=_;rw[f.out];simp[fP,ab.out];omega
          go_region_held3 (fun w'=>w'.cell? ⟨wr,0,none⟩=some (I a0)∧w'.cell? ⟨wr,1,none⟩=some (I a1)∧w'.cell? ⟨wr,2,none⟩=some (I a2)∧w'.cell? ⟨wr,3,none⟩=some (I a3)∧w'.cell? ⟨cb,d+k,none⟩=some (I c)∧w'.cell? ⟨w,7,none⟩=some (I aC)) (go_keep) ((go_at_call 45;refine Z (s.out _) fun w9 h9=>?_;(try replace h9:=h9.of_drew);have x9:Ext wr w9:=(by first|exact((Ext.refl wr).alloc _).trans h9|exact(((Ext.refl wr).alloc _).drew).trans h9);have ah:=(x9.cells.1 cb (d+k) t).trans gc;have ar:=(x9.cells.1 w 7 x).trans aj;have ai:=h9.cells.1;have o:(wr:Nat)<w9:=aT4 (by simp) h9.sz;have ap:(w:Nat)<w9:=aV4 x o;have aq:cb<w9:=aV4 t o));all_goals go_wp2
          all_goals go_ret
          all_goals exact⟨aT g.out.symm,xE⟩
         have g:Hid (cE aC Cs vs=cE aC (Cs.drop (k+1)) (vs.drop (k+1))):=by show _=_;rw[f.out];simp[fP,ab.out,T0.out];intro h;omega
         go_region_held3 (fun w'=>w'.cell? ⟨wr,0,none⟩=some (I a0)∧w'.cell? ⟨wr,1,none⟩=some (I a1)∧w'.cell? ⟨wr,2,none⟩=some (I a2)∧w'.cell? ⟨wr,3,none⟩=some (I a3)∧w'.cell? ⟨cb,d+k,none⟩=some (I c)∧w'.cell? ⟨w,7,none⟩=some (I aC)) (go_keep) ((go_at_call 45;refine Z (s.out _) fun w9 h9=>?_;(try replace h9:=h9.of_drew);have x9:Ext wr w9:=(by first|exact((Ext.refl wr).alloc _).trans h9|exact(((Ext.refl wr).alloc _).drew).trans h9);have ah:=(x9.cells.1 cb (d+k) t).trans gc;have ar:=(x9.cells.1 w 7 x).trans aj;have ai:=h9.cells.1;have o:(wr:Nat)<w9:=aT4 (by simp) h9.sz;have ap:(w:Nat)<w9:=aV4 x o;have aq:cb<w9:=aV4 t o));all_goals go_wp2
         all_goals go_roundw
         all_goals first
          |(case rel=>first|exact⟨k+1,by omega,by go_num,g.out,xE⟩|((repeat apply Exists.intro);exact⟨⟨k+1,by omega,by go_num,g.out,xE⟩,rfl⟩))
          |(case measure=>simp[intOf];omega)
        |false=>
         rw[hst]at s;have g:Hid (cE aC Cs vs=false):=by show _=_;rw[f.out];simp[fP,hst]
         clear hst;refine wp_region_held_drew (S:=fun w'=>w'.cell? ⟨wr,0,none⟩=some (I a0)∧w'.cell? ⟨wr,1,none⟩=some (I a1)∧w'.cell? ⟨wr,2,none⟩=some (I a2)∧w'.cell? ⟨wr,3,none⟩=some (I a3)∧w'.cell? ⟨cb,d+k,none⟩=some (I c)) (by kernel_rfl) (by go_keep) (fun hHeld=> ?_);refine eJ 0 (v:= ?_) ?_ ?_
         rotate_left
         ·(intro w a;(try dsimp only at a);go_simp;(try with_reducible rfl))
         (try go_frame);refine eJ 1 (v:= ?_) ?_ ?_
         rotate_left
         ·(intro w a;(try dsimp only at a);go_simp;(try with_reducible rfl))
         (try go_frame);refine eJ 2 (v:= ?_) ?_ ?_
         rotate_left
         ·(intro w a;(try dsimp only at a);go_simp;(try with_reducible rfl))
         (try go_frame);refine eJ 3 (v:= ?_) ?_ ?_
         rotate_left
         ·(intro w a;(try dsimp only at a);go_simp;(try with_reducible rfl))
         (try go_frame);refine eJ 4 (v:= ?_) ?_ ?_
         rotate_left
         ·(intro w a;(try dsimp only at a);go_simp;(try with_reducible rfl))
         (try go_frame);refine eJ 5 (v:= ?_) ?_ ?_
         rotate_left
         ·(intro w a;(try dsimp only at a);go_simp;(try with_reducible rfl))
         (try go_frame);refine eJ 6 (v:= ?_) ?_ ?_
         rotate_left
         ·(intro w a;(try dsimp only at a);go_simp;(try with_reducible rfl))
         (try go_frame);refine eJ 7 (v:= ?_) ?_ ?_
         rotate_left
         ·(intro w a;(try dsimp only at a);go_simp;(try with_reducible rfl))
         (try go_frame);refine eJ 8 (v:= ?_) ?_ ?_
         rotate_left
         ·(intro w a;(try dsimp only at a);go_simp;(try with_reducible rfl))
         (try go_frame);refine eJ 9 (v:= ?_) ?_ ?_
         rotate_left
         ·(intro w a;(try dsimp only at a);go_simp;(try with_reducible rfl))
         (try go_frame);refine wpAnyH_ready (rs:= [10]) (by kernel_rfl) (by simp) ?_;refine aQ0 rfl (fun K hK=> ?_);go_simp;go_at_call 45;refine Z (s.out _) fun w9 h9=>?_
         (try replace h9:=h9.of_drew);have x9:Ext wr w9:=(by first|exact((Ext.refl wr).alloc _).trans h9|exact(((Ext.refl wr).alloc _).drew).trans h9)
         have ah:=(x9.cells.1 cb (d+k) t).trans gc;have ai:=h9.cells.1;have o:(wr:Nat)<w9:=aT4 (by simp) h9.sz;go_wp2_with fail;refine hK.out _ _ (by(try dsimp only);go_keep) (fun hHeld=> ?_);clear hK K;(try go_frame);refine eJ 11 (v:= ?_) ?_ ?_
         rotate_left
         ·(intro w a;(try dsimp only at a);go_simp;(try with_reducible rfl))
         (try go_frame);refine eJ 12 (v:= ?_) ?_ ?_
         rotate_left
         ·(intro w a;(try dsimp only at a);go_simp;(try with_reducible rfl))
         (try go_frame);refine eJ 13 (v:= ?_) ?_ ?_
         rotate_left
         ·(intro w a;(try dsimp only at a);go_simp;(try with_reducible rfl))
         (try go_frame);refine lW 14 ?_;(try go_frame);refine lW 15 ?_;(try go_frame);refine lW 16 ?_;(try go_frame);refine lW 17 ?_;(try go_frame);refine lW 18 ?_;(try go_frame);refine lW 19 ?_;(try go_frame);refine eJ 20 (v:= ?_) ?_ ?_
         rotate_left
         ·(intro w a;(try dsimp only at a);go_simp;(try with_reducible rfl))
         (try go_frame);refine wpAnyH_done (by kernel_rfl) ?_ _;all_goals go_wp2
         all_goals go_ret
         all_goals exact⟨aT g.out.symm,xE⟩
       have q0:(a0 !=c)=true:=by simp[t0]
       have g:Hid (cE aC Cs vs=false):=by show _=_;rw[f.out];simp[t0]
       clear t0;go_quiet (fail);all_goals go_wp2
       all_goals go_ret
       all_goals exact⟨aT g.out.symm,xE⟩
      have f:Hid (cE aC Cs vs=true):=by show _=_;rw[u,aUr (by rw[z.out];omega),aUr (by rw[ad.out];omega)];rfl
      clear u;go_wp2;go_ret;exact⟨aT f.out.symm,xE⟩
    skip;have hL:((Cs.length:Int)!=(m:Int))=true:=by simp;omega
    have hR:Hid (R=false):=by show _=_;rw[HR.out,wE (by rw[ad.out];exact hL2)];simp
    have e_:=(M3.bk 1).ten;go_wp2;go_ret;exact⟨aT hR.out.symm,M3.ext⟩
   skip;have hR:Hid (R=false):=by show _=_;rw[HR.out];simp[h3]
   have h:aC<0∨0≤aC∧9999<aC∨0≤aC∧aC≤9999∧aG<0∨0≤aC∧aC≤9999∧0≤aG∧99999<aG:=by omega
   clear h3;have e_:=(M2.bk 0).ten;rcases h with h|⟨h0,h⟩|⟨h0,h1,h⟩|⟨h0,h1,h2,h⟩
   all_goals
    (try (have ax:decide (aC≤9999)=false:=by simp;omega));(try (have ax:decide (aG≤99999)=false:=by simp;omega));go_wp2;go_ret;exact⟨aT hR.out.symm,M2.ext⟩
theorem iW (h:aL)(p:OA)(n b:Nat)(q:OA)(m c2:Nat)(w:World)(hi:IsHouse w h p n b q m c2):
  U 19 #[bG h p n b q m c2] w (O (.bool (aP h)) w):=by
 obtain⟨aA,aB,a,c,d,aD,aF,aC,aG,vs⟩:=h;refine aOy aA aB c d aD aF aC aG p n b q m c2 (if aN aA aB a then cS a else []) vs _ _ _ w hi.vs.bd (fun w' hx=>gU aA aB p n b a w' (hi.cells.ext hx)) (fun w'=>aD6 c d aD aF w') (fun w' hx=>aOz aA aB p n b a w' (hi.cells.ext hx)) (xQ fun h1=> ?_) hi.vs (xQ ?_)
 ·rw[if_pos h1];have e1:=jM a;have e2:=kT a;have e3:a.length≤12:=by simp only[aN,aTf]at h1;exact(cG h1.1).2.2.2.2.2.1
  omega
 show aP _=_;unfold aP sP;dsimp only;cases aN aA aB a<;>simp
theorem aNk (aA aB j l aD aF aC aG:Int)(p:OA)(n r:Nat)(q:OA)(m c2:Nat)(Cs:List Int)(vs:List aR)(b1 b2 R:Bool)(w:World)(hm:m≤9223372036854775807)
  (HV:xB 25 #[aH aA aB p n r] w b1)
  (TV:Hid (∀w',U 26 #[aS j l aD aF] w' (O (.bool b2) w')))
  (HC:Hid (∀w',Ext w w'→U 24 #[aH aA aB p n r] w' (bC Cs w')))(au:Hid (b1=true→Cs.length≤100))(ae:Hid (Sl w q m c2 4 (vs.flatMap aE)))
  (HR:Hid (R=(b1&&b2&&decide (0≤aC∧aC≤9999∧0≤aG∧aG≤99999)&&cE aC Cs vs))):
  U 9 #[.agg #[aA,aB,.slice p n r,j,l,aD,aF,aC,aG,.slice q m c2]] w (O (.bool R) w):=by
 have al:vs.length=m:=by have:=ae.out.len;rw[dD aE 4 (fun _=>rfl)]at this;omega
 have ad:=xQ al;clear al;go_enter func9,ntmps9;go_wp2_with fail;refine(HC _ ((Mem.start w).c0 30 #[aA,aB,.slice p n r,j,l,aD,aF,aC,aG,.slice q m c2]).ext).mono ?_;rintro e w1 ⟨cp,cc,rfl,ak,am⟩;have M1:=(((Mem.start w).c0 30 #[aA,aB,.slice p n r,j,l,aD,aF,aC,aG,.slice q m c2]).call am ak)
 clear am ak;have e_:=(M1.bk 1).ten;go_wp2_with fail;clear e_;refine Z (HV _ M1.ext) fun w2 an=>?_
 have M2:=(M1.adv an)
 clear M1 an;cases b1 with
 |false=>
  have hR:Hid (R=false):=by show _=_;rw[HR.out];rfl
  have e_:=(M2.bk 1).ten;go_wp2_with go_in;go_ret;exact⟨aT hR.out.symm,M2.ext⟩
 |true=>
  have e_:=(M2.bk 1).ten;go_wp2_with fail;clear e_;refine Z (TV _) fun w3 ao=>?_
  have M3:=(M2.adv ao)
  clear M2 ao;cases b2 with
  |false=>
   have hR:Hid (R=false):=by show _=_;rw[HR.out];rfl
   have e_:=(M3.bk 1).ten;go_wp2_with go_in;go_ret;exact⟨aT hR.out.symm,M3.ext⟩
  |true=>
   by_cases h3:0≤aC∧aC≤9999∧0≤aG∧aG≤99999
   ·skip;obtain⟨h0,h1,h2,h3⟩:=h3;by_cases hL2:Cs.length=m
    ·skip;have av:R=cE aC Cs vs:=by rw[HR.out];simp[h0,h1,h2,h3]
     subst av;have hL:((Cs.length:Int)!=(m:Int))=false:=by simp[hL2]
     have bc:m≤100:=by have:=au.out (by trivial);omega
     have z:=xQ hL2;clear hL2;have aw:OwnZ w3 cp Cs.length cc Cs:=aRo (M3.ow 0);have ay:Ext w w3:=M3.ext;have y:(w:Nat)<w3:=(M3.hi 1)
     obtain⟨az,a4,a5,a6,a7,a8,a9,af,ba,ag⟩:=(M3.bk 1).ten;go_wp2_with go_in;clear hL;go_loopw [4] (fun i wr=> ∃k:Nat,k≤m∧i=I k∧cE aC Cs vs=cE aC (Cs.drop k) (vs.drop k)∧Ext w3 wr) (fun i _=>m-(intOf i).toNat)
     case atStart=>exact⟨0,aTd _,rfl,rfl,Ext.refl _⟩
     case round=>
      obtain⟨k,hk,rfl,u,hE⟩:=hrel;have aj:wr.cell? ⟨w,7,none⟩=some (I aC):=(hE.cells.1 _ _ y).trans af;have bb:wr.cell? ⟨w,9,none⟩=some (.slice q m c2):=(hE.cells.1 _ _ y).trans ag;have x:(w:Nat)<wr:=aT4 y hE.sz;have aa:=z.out;by_cases hlt:k<m
      ·obtain⟨b,bd,a0,a1,a2,a3,rfl,hv,hb,g0,g1,g2,g3⟩:=eN (ae.out.ext (ay.trans hE)) hlt;obtain⟨cb,d,c,rfl,hc,t,gc⟩:=(aw.ext hE).int_at (show k<Cs.length by omega);have f:=xQ (u.trans (wF hc hv));have i1:=aVt k;have i2:=aVu k m;have i3:(k:Int)<(Cs.length:Int):=by omega
       clear u hc hv aa;have s:Hid (∀w',U 28 #[bX a1 a2 a3] w' (O (.bool (dI a1 a2 a3)) w')):=fun w'=>aN7 a1 a2 a3 w'
       go_wp2_with fail;by_cases t0:a0=c
       ·have q0:(a0 !=c)=false:=by simp[t0]
        have T0:=xQ t0;clear t0;cases hst:dI a1 a2 a3 with
        |true=>
         rw[hst]at s;have ab:=xQ hst;clear hst;by_cases t1:aC<a3
         ·have g:Hid (cE aC Cs vs=false):=by show _=_;rw[f.out];simp[fP,ab.out];omega
          go_region_held3 (fun w'=>w'.cell? ⟨wr,0,none⟩=some (I a0)∧w'.cell? ⟨wr,1,none⟩=some (I a1)∧w'.cell? ⟨wr,2,none⟩=some (I a2)∧w'.cell? ⟨wr,3,none⟩=some (I a3)∧w'.cell? ⟨cb,d+k,none⟩=some (I c)∧w'.cell? ⟨w,7,none⟩=some (I aC)) (go_keep) ((go_at_call 28;refine Z (s.out _) fun w9 h9=>?_;(try replace h9:=h9.of_drew);have x9:Ext wr w9:=(by first|exact((Ext.refl wr).alloc _).trans h9|exact(((Ext.refl wr).alloc _).drew).trans h9);have ah:=(x9.cells.1 cb (d+k) t).trans gc;have ar:=(x9.cells.1 w 7 x).trans aj;have ai:=h9.cells.1;have o:(wr:Nat)<w9:=aT4 (by simp) h9.sz;have ap:(w:Nat)<w9:=aV4 x o;have aq:cb<w9:=aV4 t o));all_goals go_wp2
          all_goals go_ret
          all_goals exact⟨aT g.out.symm,xE⟩
         have g:Hid (cE aC Cs vs=cE aC (Cs.drop (k+1)) (vs.drop (k+1))):=by show _=_;rw[f.out];simp[fP,ab.out,T0.out];intro h;omega
         go_region_held3 (fun w'=>w'.cell? ⟨wr,0,none⟩=some (I a0)∧w'.cell? ⟨wr,1,none⟩=some (I a1)∧w'.cell? ⟨wr,2,none⟩=some (I a2)∧w'.cell? ⟨wr,3,none⟩=some (I a3)∧w'.cell? ⟨cb,d+k,none⟩=some (I c)∧w'.cell? ⟨w,7,none⟩=some (I aC)) (go_keep) ((go_at_call 28;refine Z (s.out _) fun w9 h9=>?_;(try replace h9:=h9.of_drew);have x9:Ext wr w9:=(by first|exact((Ext.refl wr).alloc _).trans h9|exact(((Ext.refl wr).alloc _).drew).trans h9);have ah:=(x9.cells.1 cb (d+k) t).trans gc;have ar:=(x9.cells.1 w 7 x).trans aj;have ai:=h9.cells.1;have o:(wr:Nat)<w9:=aT4 (by simp) h9.sz;have ap:(w:Nat)<w9:=aV4 x o;have aq:cb<w9:=aV4 t o));all_goals go_wp2
         all_goals go_roundw
         all_goals first
          |(case rel=>first|exact⟨k+1,by omega,by go_num,g.out,xE⟩|((repeat apply Exists.intro);exact⟨⟨k+1,by omega,by go_num,g.out,xE⟩,rfl⟩))
          |(case measure=>simp[intOf];omega)
        |false=>
         rw[hst]at s;have g:Hid (cE aC Cs vs=false):=by show _=_;rw[f.out];simp[fP,hst]
         clear hst;refine wp_region_held_drew (S:=fun w'=>w'.cell? ⟨wr,0,none⟩=some (I a0)∧w'.cell? ⟨wr,1,none⟩=some (I a1)∧w'.cell? ⟨wr,2,none⟩=some (I a2)∧w'.cell? ⟨wr,3,none⟩=some (I a3)∧w'.cell? ⟨cb,d+k,none⟩=some (I c)) (by kernel_rfl) (by go_keep) (fun hHeld=> ?_);refine eJ 0 (v:= ?_) ?_ ?_
         rotate_left
         ·(intro w a;(try dsimp only at a);go_simp;(try with_reducible rfl))
         (try go_frame);refine eJ 1 (v:= ?_) ?_ ?_
         rotate_left
         ·(intro w a;(try dsimp only at a);go_simp;(try with_reducible rfl))
         (try go_frame);refine eJ 2 (v:= ?_) ?_ ?_
         rotate_left
         ·(intro w a;(try dsimp only at a);go_simp;(try with_reducible rfl))
         (try go_frame);refine eJ 3 (v:= ?_) ?_ ?_
         rotate_left
         ·(intro w a;(try dsimp only at a);go_simp;(try with_reducible rfl))
         (try go_frame);refine eJ 4 (v:= ?_) ?_ ?_
         rotate_left
         ·(intro w a;(try dsimp only at a);go_simp;(try with_reducible rfl))
         (try go_frame);refine eJ 5 (v:= ?_) ?_ ?_
         rotate_left
         ·(intro w a;(try dsimp only at a);go_simp;(try with_reducible rfl))
         (try go_frame);refine eJ 6 (v:= ?_) ?_ ?_
         rotate_left
         ·(intro w a;(try dsimp only at a);go_simp;(try with_reducible rfl))
         (try go_frame);refine eJ 7 (v:= ?_) ?_ ?_
         rotate_left
         ·(intro w a;(try dsimp only at a);go_simp;(try with_reducible rfl))
         (try go_frame);refine eJ 8 (v:= ?_) ?_ ?_
         rotate_left
         ·(intro w a;(try dsimp only at a);go_simp;(try with_reducible rfl))
         (try go_frame);refine eJ 9 (v:= ?_) ?_ ?_
         rotate_left
         ·(intro w a;(try dsimp only at a);go_simp;(try with_reducible rfl))
         (try go_frame);refine wpAnyH_ready (rs:= [10]) (by kernel_rfl) (by simp) ?_;refine aQ0 rfl (fun K hK=> ?_);go_simp;go_at_call 28;refine Z (s.out _) fun w9 h9=>?_
         (try replace h9:=h9.of_drew);have x9:Ext wr w9:=(by first|exact((Ext.refl wr).alloc _).trans h9|exact(((Ext.refl wr).alloc _).drew).trans h9)
         have ah:=(x9.cells.1 cb (d+k) t).trans gc;have ai:=h9.cells.1;have o:(wr:Nat)<w9:=aT4 (by simp) h9.sz;go_wp2_with fail;refine hK.out _ _ (by(try dsimp only);go_keep) (fun hHeld=> ?_);clear hK K;(try go_frame);refine eJ 11 (v:= ?_) ?_ ?_
         rotate_left
         ·(intro w a;(try dsimp only at a);go_simp;(try with_reducible rfl))
         (try go_frame);refine eJ 12 (v:= ?_) ?_ ?_
         rotate_left
         ·(intro w a;(try dsimp only at a);go_simp;(try with_reducible rfl))
         (try go_frame);refine eJ 13 (v:= ?_) ?_ ?_
         rotate_left
         ·(intro w a;(try dsimp only at a);go_simp;(try with_reducible rfl))
         (try go_frame);refine lW 14 ?_;(try go_frame);refine lW 15 ?_;(try go_frame);refine lW 16 ?_;(try go_frame);refine lW 17 ?_;(try go_frame);refine lW 18 ?_;(try go_frame);refine lW 19 ?_;(try go_frame);refine eJ 20 (v:= ?_) ?_ ?_
         rotate_left
         ·(intro w a;(try dsimp only at a);go_simp;(try with_reducible rfl))
         (try go_frame);refine wpAnyH_done (by kernel_rfl) ?_ _;all_goals go_wp2
         all_goals go_ret
         all_goals exact⟨aT g.out.symm,xE⟩
       have q0:(a0 !=c)=true:=by simp[t0]
       have g:Hid (cE aC Cs vs=false):=by show _=_;rw[f.out];simp[t0]
       clear t0;go_quiet (fail);all_goals go_wp2
       all_goals go_ret
       all_goals exact⟨aT g.out.symm,xE⟩
      have f:Hid (cE aC Cs vs=true):=by show _=_;rw[u,aUr (by rw[z.out];omega),aUr (by rw[ad.out];omega)];rfl
      clear u;go_wp2;go_ret;exact⟨aT f.out.symm,xE⟩
    skip;have hL:((Cs.length:Int)!=(m:Int))=true:=by simp;omega
    have hR:Hid (R=false):=by show _=_;rw[HR.out,wE (by rw[ad.out];exact hL2)];simp
    have e_:=(M3.bk 1).ten;go_wp2_with go_in;go_ret;exact⟨aT hR.out.symm,M3.ext⟩
   skip;have hR:Hid (R=false):=by show _=_;rw[HR.out];simp[h3]
   have h:aC<0∨0≤aC∧9999<aC∨0≤aC∧aC≤9999∧aG<0∨0≤aC∧aC≤9999∧0≤aG∧99999<aG:=by omega
   clear h3;have e_:=(M3.bk 1).ten;rcases h with h|⟨h0,h⟩|⟨h0,h1,h⟩|⟨h0,h1,h2,h⟩
   all_goals
    (try (have ax:decide (aC≤9999)=false:=by simp;omega));(try (have ax:decide (aG≤99999)=false:=by simp;omega));go_wp2_with go_in;go_ret;exact⟨aT hR.out.symm,M3.ext⟩
theorem iA (h:aL)(p:OA)(n b:Nat)(q:OA)(m c2:Nat)(w:World)(hi:IsHouse w h p n b q m c2):
  U 9 #[bG h p n b q m c2] w (O (.bool (aP h)) w):=by
 obtain⟨aA,aB,a,c,d,aD,aF,aC,aG,vs⟩:=h;refine aNk aA aB c d aD aF aC aG p n b q m c2 (if aN aA aB a then cS a else []) vs _ _ _ w hi.vs.bd (fun w' hx=>gM aA aB p n b a w' (hi.cells.ext hx)) (fun w'=>yE c d aD aF w') (fun w' hx=>aRw aA aB p n b a w' (hi.cells.ext hx)) (xQ fun h1=> ?_) hi.vs (xQ ?_)
 ·rw[if_pos h1];have e1:=jM a;have e2:=kT a;have e3:a.length≤12:=by simp only[aN,aTf]at h1;exact(cG h1.1).2.2.2.2.2.1
  omega
 show aP _=_;unfold aP sP;dsimp only;cases aN aA aB a<;>simp
end
abbrev TV:TypeId:=54
abbrev aVr (w:World)(p:Option Addr)(xs:List aR)(c:Nat):Item:=aJ w.heap.size TV 4 p xs.length c (xs.flatMap aE)
def RetHouse (h:aL)(w:World)(e:Ending)(w':World):Prop:=
 ∃p cap q c2,e= .returned (bG h p h.cells.length cap q h.vs.length c2)∧w'.ownsRow w.heap.size TI 1 (.slice p h.cells.length cap) h.cells.length (ivs h.cells)∧w'.ownsRow w.heap.size TV 4 (.slice q h.vs.length c2) h.vs.length (h.vs.flatMap aE)∧Ext w w'
section
open Go.Proofs.Tryz
abbrev aK:TypeId:=30
theorem vU:ElT prog 28 TV 4:=
 ⟨underlying28,by
  obtain⟨i,hi,h0,h1,h2⟩:=info_parts (show(prog.info? TV).map (fun i=>(i.zero,i.size,i.bytes))=some (some (.agg #[(),(),(),()]),4,32) by kernel_rfl)
  exact⟨i,_,hi,h0,h1,by omega,rfl⟩,by omega⟩
theorem fI (vs:List aR): ∀u∈vs.flatMap aE,u.oneCell'=true:=by intro u hu;obtain⟨v,_,hv⟩:=List.mem_flatMap.1 hu;simp only[aE,aTi,List.not_mem_nil,or_false]at hv;rcases hv with rfl|rfl|rfl|rfl<;>rfl
theorem rD (v:aR): ∀u∈aE v,u.oneCell'=true:=by intro u hu;simp only[aE,aTi,List.not_mem_nil,or_false]at hu;rcases hu with rfl|rfl|rfl|rfl<;>rfl
theorem aNn (aA aB a b aD aF aC aG:Int)(p:OA)(n d:Nat)(q:OA)(m c2:Nat)(xs:List Int)(vs:List aR)(w:World)(hm:m≤1000)(hS:Hid (Sl w q m c2 4 (vs.flatMap aE)))
  (HL:xC 48 #[aH aA aB p n d] w fun w' e w''=> ∃q c,e= .returned (aH aA aB q n c)∧w''.ownsRow w' TI 1 (.slice q n c) n (ivs xs)∧Ext w' w''):
  U 21 #[.agg #[aA,aB,.slice p n d,a,b,aD,aF,aC,aG,.slice q m c2]] w fun e w'=> ∃p' cap' q' c2',e= .returned (.agg #[aA,aB,.slice p' n cap',a,b,aD,aF,aC,aG,.slice q' m c2'])∧w'.ownsRow w TI 1 (.slice p' n cap') n (ivs xs)∧w'.ownsRow w TV 4 (.slice q' m c2') m (vs.flatMap aE)∧Ext w w':=by
 go_enter func21,ntmps21;go_wp2_with fail;refine(HL _ ((((Mem.start w).c0 aK #[aA,aB,.slice p n d,a,b,aD,aF,aC,aG,.slice q m c2]).c1 aK zT).c2 aK #[aA,aB,.slice p n d,a,b,aD,aF,aC,aG,.slice q m c2]).ext).mono ?_;rintro e w1 ⟨q0,c0,rfl,z,ab⟩;have M1:=(((((Mem.start w).c0 aK #[aA,aB,.slice p n d,a,b,aD,aF,aC,aG,.slice q m c2]).c1 aK zT).c2 aK #[aA,aB,.slice p n d,a,b,aD,aF,aC,aG,.slice q m c2]).call ab z)
 have k:=M1.hi 1;have l:=M1.hi 2;have o:=M1.hi 3;clear ab z;have c9:=(M1.bk 3).cl 9;have d0:=(M1.bk 1).cl 0;have ae:=(M1.bk 1).frozen 0;have d1:=(M1.bk 1).cl 1;have af:=(M1.bk 1).frozen 1;have d2:=(M1.bk 1).cl 2;have ag:=(M1.bk 1).frozen 2;go_wp2_with (at_builtin;refine cJ vU rfl _ _ rfl ((((M1.store (i:=1) rfl 0 (I aA)).store (i:=1) rfl 1 (I aB)).store (i:=1) rfl 2 (.slice q0 n c0)).made0 TV 4 w1 (by simp)) 0 rfl rfl (vs.flatMap aE) rfl (hS.out.ext ((((M1.store (i:=1) rfl 0 (I aA)).store (i:=1) rfl 1 (I aB)).store (i:=1) rfl 2 (.slice q0 n c0)).made0 TV 4 w1 (by simp)).ext) (fI vs) (by omega) ?_;intro q7 c7 w6 y;have M6:=xQ (show Mem w w6 [aJ w TV 4 (q7) (m) (c7) (vs.flatMap aE),aJ w TI 1 (q0) (n) (c0) (ivs xs),aI w (w.heap.size+1+1) aK #[aA,aB,.slice q0 n c0,a,b,aD,aF,aC,aG,.slice q m c2],aI w (w.heap.size+1) aK #[(),(),((),()),(),(),(),(),(),(),((),())],aI w w aK #[aA,aB,.slice p n d,a,b,aD,aF,aC,aG,.slice q m c2]]from by have:=(show Mem w w6 [aJ w TV 4 (q7) (0+m) (c7) ([]++vs.flatMap aE),aJ w TI 1 (q0) (n) (c0) (ivs xs),aI w (w.heap.size+1+1) aK #[aA,aB,.slice q0 n c0,a,b,aD,aF,aC,aG,.slice q m c2],aI w (w.heap.size+1) aK #[(),(),((),()),(),(),(),(),(),(),((),())],aI w w aK #[aA,aB,.slice p n d,a,b,aD,aF,aC,aG,.slice q m c2]]from y);simpa only[aUf,aUx]using this);clear y c9 d0 ae d1 af d2 ag M1 k l o;(have g:w.heap.size+1+1<w6.heap.size:=(M6.out.hi 2));(have h:w.heap.size+1<w6.heap.size:=(M6.out.hi 3));(have j:(w:Nat)<w6:=(M6.out.hi 4));(obtain⟨x0,x1,x2,x3,x4,x5,x6,x7,x8,x9⟩:=(M6.out.bk 2).ten);(have ah:w6.cell? ⟨w.heap.size+1+1,9,none⟩=some (.slice q m c2):=(M6.out.bk 2).cell 9);(have ad:w6.frozen? ⟨w.heap.size+1+1,9,none⟩=false:=(M6.out.bk 2).frozen 9);(obtain⟨y0,yf0,y1,yf1,y2,yf2,y3,yf3,y4,yf4,y5,yf5,y6,yf6,y7,yf7,y8,yf8,y9,yf9⟩:=(M6.out.bk 3).tenf))
 have r:=(((M6.out.st 2 9 (.slice q7 m c7)).st 3 0 (I aA)).st 3 1 (I aB))
 have s:=((r.st 3 2 (.slice q0 n c0)).st 3 3 (I a))
 have t:=((s.st 3 4 (I b)).st 3 5 (I aD))
 have u:=((t.st 3 6 (I aF)).st 3 7 (I aC))
 have x:=((u.st 3 8 (I aG)).st 3 9 (.slice q7 m c7))
 clear x0 x1 x2 x3 x4 x5 x6 x7 x8 x9 ah ad y0 yf0 y1 yf1 y2 yf2 y3 yf3 y4 yf4 y5 yf5 y6 yf6 y7 yf7 y8 yf8 y9 yf9 g h j;have f:=(show Mem w (((((((((((w6.setCell ⟨w.heap.size+1+1,9,none⟩ (.slice q7 m c7)).setCell ⟨w.heap.size+1,0,none⟩ (I aA)).setCell ⟨w.heap.size+1,1,none⟩ (I aB)).setCell ⟨w.heap.size+1,2,none⟩ (.slice q0 n c0)).setCell ⟨w.heap.size+1,3,none⟩ (I a)).setCell ⟨w.heap.size+1,4,none⟩ (I b)).setCell ⟨w.heap.size+1,5,none⟩ (I aD)).setCell ⟨w.heap.size+1,6,none⟩ (I aF)).setCell ⟨w.heap.size+1,7,none⟩ (I aC)).setCell ⟨w.heap.size+1,8,none⟩ (I aG)).setCell ⟨w.heap.size+1,9,none⟩ (.slice q7 m c7)) [aJ w TV 4 (q7) (m) (c7) (vs.flatMap aE),aJ w TI 1 (q0) (n) (c0) (ivs xs),aI w (w.heap.size+1+1) aK #[aA,aB,.slice q0 n c0,a,b,aD,aF,aC,aG,.slice q7 m c7],aI w (w.heap.size+1) aK #[aA,aB,.slice q0 n c0,a,b,aD,aF,aC,aG,.slice q7 m c7],aI w w aK #[aA,aB,.slice p n d,a,b,aD,aF,aC,aG,.slice q m c2]]from x)
 generalize aa:World.setCell _ _ _=wz;rw[aa]at f;clear aa M6 r s t u x;obtain⟨y0,y1,y2,y3,y4,y5,y6,y7,y8,y9⟩:=(f.bk 3).ten;exact bodyPost_ret (v:= .agg #[aA,aB,.slice q0 n c0,a,b,aD,aF,aC,aG,.slice q7 m c7]) (by simp[results,results21,go_sem, *]) rfl ⟨q0,c0,q7,c7,rfl,(f.ow 1),by have:=(f.ow 0);simpa using this,f.ext⟩
theorem mQ (h:aL)(p:OA)(n a:Nat)(q:OA)(m c2:Nat)(w:World)(hn:n≤1000)(hm:m≤1000)(hi:IsHouse w h p n a q m c2):
  U 21 #[bG h p n a q m c2] w (RetHouse h w):=by
 have hl:=hi.clen;have f:=hi.vlen;refine(aNn h.aA h.aB h.free h.step h.aD h.aF h.aC h.aG p n a q m c2 h.cells h.vs w hm (xQ hi.vs) (xQ fun w' hx=> ?_)).mono ?_
 ·refine(gQ h.aA h.aB p n a h.cells w' (by omega) (hi.cells.ext hx)).mono ?_;rintro e i ⟨q,c,rfl,ho,g⟩;rw[hl]at ho⊢;exact⟨q,c,rfl,ho,g⟩
 rintro e w' ⟨p',b,q',d,rfl,h1,h2,h3⟩;subst hl f;exact⟨p',b,q',d,rfl,h1,h2,h3⟩
def lX (v:aR)(vs:List aR):List aR:=vs.takeWhile (fun u=>decide (u.1<v.1))++v::vs.dropWhile (fun u=>decide (u.1<v.1))
theorem tN (v:aR): ∀(vs:List aR) (k:Nat),(∀u∈vs.take k,u.1<v.1)→(∀u,vs[k]? =some u→ ¬u.1<v.1)→lX v vs=vs.take k++v::vs.drop k
 | [],k,_,_=>by simp[lX]
 |u::vs,0,_,h2=>by simp[lX,h2 u (by simp)]
 |u::vs,k+1,h1,h2=>by have h:=tN v vs k (fun z hz=>h1 z (by simp[hz])) (fun z hz=>h2 z (by simpa using hz));have hu:u.1<v.1:=h1 u (by simp);simp only[lX]at h⊢;simp[hu,h]
theorem lR: ∀(k:Nat) (vs:List aR),(vs.flatMap aE).drop (k*4)=(vs.drop k).flatMap aE
 |0,vs=>by simp
 |k+1,[]=>by simp
 |k+1,v::vs=>by rw[aUc,show(k+1)*4=(aE v).length+k*4 by simp[aE];omega,List.drop_length_add_append,lR k vs];rfl
theorem yL {w:World}{b c n a sz k:Nat}{xs:List Value}(h:Sl w (some ⟨b,c,none⟩) n a sz xs)(hk:k≤n):Sl w (some ⟨b,c+k*sz,none⟩) (n-k) (a-k) sz (xs.drop (k*sz)):=by have hl:=h.len;have f:=h.le;have g:=h.mx;refine⟨by rw[aUm,hl,Nat.sub_mul],by omega,by omega,fun h0=> ?_⟩;obtain⟨b',d,e,hb,hc⟩:=h.rd (by omega);injection e with e;injection e with e1 e2;subst e1 e2;refine⟨_,_,rfl,hb,fun j hj=> ?_⟩;rw[Nat.add_assoc,hc (k*sz+j) (by rw[Nat.sub_mul]at hj;omega)];simp
theorem aLs (id a1 a2 a3:Int)(q:OA)(m c2:Nat)(vs:List aR)(w:World)(hm:m≤1000)(hS:Sl w q m c2 4 (vs.flatMap aE)):
  U 75 #[.slice q m c2,.agg #[id,a1,a2,a3]] w fun e w'=> ∃q' c',e= .returned (.slice q' (m+1) c')∧w'.ownsRow w TV 4 (.slice q' (m+1) c') (m+1) ((lX (id,a1,a2,a3) vs).flatMap aE)∧Ext w w':=by
 have hl:Hid (vs.length=m):=by have:=hS.len;rw[dD aE 4 (fun _=>rfl)]at this;exact(by omega:vs.length=m)
 have n:=hS.le;have HS:=xQ hS;clear hS;have j:=xQ (((Mem.start w).c0 TV #[id,a1,a2,a3]).made0 TV 4 (w.heap.size+1) (by simp));go_enter func75,ntmps75;go_wp2;go_loopw [5,6] (fun v i wr=> ∃(k:Nat) (q5:OA) (c5:Nat),k≤m∧i=I k∧v= .slice q5 k c5∧(∀u∈vs.take k,u.1<id)∧Mem w wr [aJ w TV 4 (q5) (k) (c5) ((vs.take k).flatMap aE),aI w w TV #[id,a1,a2,a3]]) (fun _ i _=>m-(intOf i).toNat)
 case atStart=>exact⟨0,some ⟨w.heap.size+1,0,none⟩,0,aTd _,rfl,rfl,by simp,j.out⟩
 case round=>
  clear j;obtain⟨k,q5,c5,hk,rfl,rfl,f,hM⟩:=hrel;have HM:=hM;have HL:=xQ f;clear hM f;by_cases hlt:k<m
  ·obtain⟨b,p,c0,c1,c4,c3,rfl,hx,hb,g0,g1,g2,g3⟩:=eN (HS.out.ext HM.ext) hlt;have b0:=(HM.bk 1).cl 0;have b1:=(HM.bk 1).cl 1;have b2:=(HM.bk 1).cl 2;have b3:=(HM.bk 1).cl 3;have HX:=xQ hx;clear hx;have i1:=aVt k;have i2:=aVu k m;have i3:=aVv k m;by_cases hy:c0<id
   ·have c:Hid (∀z∈vs.take (k+1),z.1<id):=by
     show∀z∈vs.take (k+1),z.1<id;rw[bA HX.out];intro z hz;rcases aTn.1 hz with h|h
     ·exact HL z h
     simp at h;subst h;exact hy
    have hd:decide (c0<id)=true:=by simp[hy]
    go_wp2;go_quiet (fail);generalize d:World.drewN wr _=wi;have hX:Ext wr wi:=by rw[←d];exact Ext.drewN (Ext.refl _) _
    clear d b0 b1 b2 b3 hd;have a:=(HM.adv hX)
    clear HM;have d0:=(a.bk 1).cl 0;have d1:=(a.bk 1).cl 1;have d2:=(a.bk 1).cl 2;have d3:=(a.bk 1).cl 3;have e0:=(hX.cells.1 _ _ hb).trans g0;have e1:=(hX.cells.1 _ _ hb).trans g1;have e2:=(hX.cells.1 _ _ hb).trans g2;have e3:=(hX.cells.1 _ _ hb).trans g3;clear hX g0 g1 g2 g3 hb;go_wp2_with (at_builtin;go_loud (refine cJ vU rfl _ _ rfl (a.adv ((Ext.refl _).alloc (.cells #[c0,c1,c4,c3] TV))) 0 rfl rfl (aE (c0,c1,c4,c3)) rfl (eD _ _ _ 1 4 _ (by simp) (by simp) (by simp[maxLen])) (rD _) (by omega) ?_;intro q7 c7 w6 M6));have M7:=(show Mem w w6 [aJ w TV 4 (q7) (k+1) (c7) ((vs.take k).flatMap aE++aE (c0,c1,c4,c3)),aI w w TV #[id,a1,a2,a3]]from M6)
    have g:Hid ((vs.take k).flatMap aE++aE (c0,c1,c4,c3)=(vs.take (k+1)).flatMap aE):=by show _=_;rw[bA HX.out,aTz];simp
    rw[g.out]at M7;clear g M6;go_roundw
    case rel=>exact⟨k+1,q7,c7,by omega,by go_num,rfl,c.out,M7⟩
    case measure=>simp[intOf];omega
   have c:Hid (lX (id,a1,a2,a3) vs=vs.take k++(id,a1,a2,a3)::vs.drop k):=tN _ vs k HL (fun z hz=>by rw[HX.out]at hz;injection hz with hz;subst hz;exact hy);have o: ¬c2=k:=by omega
   have hd:decide (c0<id)=false:=by simp[hy]
   clear HX HL;go_wp2;go_quiet (fail);generalize d:World.drewN wr _=wi;have hX:Ext wr wi:=by rw[←d];exact Ext.drewN (Ext.refl _) _
   clear d b0 b1 b2 b3 hd;have a:=(HM.adv hX)
   clear HM;have d0:=(a.bk 1).cl 0;have d1:=(a.bk 1).cl 1;have d2:=(a.bk 1).cl 2;have d3:=(a.bk 1).cl 3;clear hX g0 g1 g2 g3 hb hy;go_wp2
   go_region_law ((first
    |(refine hU vU (by rfl) _ _ (by rfl) (a.adv (by exact .drew (.alloc (.refl _) _))) 0 (by rfl) (by rfl) (aE (id,a1,a2,a3)) (by rfl) (by first|exact eD wi #[id,a1,a2,a3] _ 1 4 _ rfl (by simp) (by simp[maxLen])|exact(eD wi #[id,a1,a2,a3] _ 1 4 _ rfl (by simp) (by simp[maxLen])).ext (Ext.drew (Ext.refl _))|exact eD wi.drew #[id,a1,a2,a3] _ 1 4 _ rfl (by simp) (by simp[maxLen])) (rD _) (by omega) ?_
      intro q7 c7 w6 M6;have M7:=(show Mem w w6 [aJ w TV 4 (q7) (k+1) (c7) ((vs.take k).flatMap aE++aE (id,a1,a2,a3)),aI w w TV #[id,a1,a2,a3]]from M6)
      clear M6)
    |(refine hU vU (by rfl) _ _ (by rfl) (M7.adv (by exact .refl _)) 0 (by rfl) (by rfl) ((vs.drop k).flatMap aE) (by rfl) (lR k vs▸yL (HS.out.ext (M7.ext.trans (by exact .refl _))) (by omega)) (fI _) (by omega) ?_
      intro q9 c9 w9 M9
      have M9:=xQ (show Mem w w9 [aJ w TV 4 (q9) (k+1+(m-k)) (c9) (((vs.take k).flatMap aE++aE (id,a1,a2,a3))++(vs.drop k).flatMap aE),aI w w TV #[id,a1,a2,a3]]from M9))))
   all_goals (
    have e1:k+1+(m-k)=m+1:=by omega
    have e2:((vs.take k).flatMap aE++aE (id,a1,a2,a3))++(vs.drop k).flatMap aE=(vs.take k++(id,a1,a2,a3)::vs.drop k).flatMap aE:=by simp
    have MZ:=(show Mem w w9 [aJ w TV 4 (q9) (m+1) (c9) ((vs.take k++(id,a1,a2,a3)::vs.drop k).flatMap aE),aI w w TV #[id,a1,a2,a3]]from by have:=M9.out;rw[e2]at this;simpa only[e1]using this)
    clear e2 M9 M7)
   all_goals go_wp2
   all_goals exact bodyPost_ret (v:= .slice q9 (m+1) c9) (by simp[results,results75,go_sem, *]) rfl ⟨q9,c9,rfl,by rw[c.out];exact MZ.ow 0,MZ.ext⟩
  obtain rfl:k=m:=by omega
  have b0:=(HM.bk 1).cl 0;have b1:=(HM.bk 1).cl 1;have b2:=(HM.bk 1).cl 2;have b3:=(HM.bk 1).cl 3;have c:Hid (lX (id,a1,a2,a3) vs=vs.take k++(id,a1,a2,a3)::vs.drop k):=tN _ vs k HL (fun z hz=>by rw[aUn (by rw[hl.out];exact aT5 _)]at hz;cases hz);have l:Hid (vs.drop k= []):=aUr (by rw[hl.out];exact aT5 _);have i1:=aVt k;clear HL;go_wp2;go_quiet (fail);generalize d:World.drewN wr _=wi;have hX:Ext wr wi:=by rw[←d];exact Ext.drewN (Ext.refl _) _
  clear d b0 b1 b2 b3;have a:=(HM.adv hX)
  clear HM;have d0:=(a.bk 1).cl 0;have d1:=(a.bk 1).cl 1;have d2:=(a.bk 1).cl 2;have d3:=(a.bk 1).cl 3;clear hX;go_wp2
  go_region_law ((first
   |(refine hU vU (by rfl) _ _ (by rfl) (a.adv (by exact .drew (.alloc (.refl _) _))) 0 (by rfl) (by rfl) (aE (id,a1,a2,a3)) (by rfl) (by first|exact eD wi #[id,a1,a2,a3] _ 1 4 _ rfl (by simp) (by simp[maxLen])|exact(eD wi #[id,a1,a2,a3] _ 1 4 _ rfl (by simp) (by simp[maxLen])).ext (Ext.drew (Ext.refl _))|exact eD wi.drew #[id,a1,a2,a3] _ 1 4 _ rfl (by simp) (by simp[maxLen])) (rD _) (by omega) ?_
     intro q7 c7 w6 M6;have M7:=(show Mem w w6 [aJ w TV 4 (q7) (k+1) (c7) ((vs.take k).flatMap aE++aE (id,a1,a2,a3)),aI w w TV #[id,a1,a2,a3]]from M6)
     clear M6)
   |(refine hU vU (by rfl) _ _ (by rfl) (M7.adv (by exact .refl _)) 0 (by rfl) (by rfl) (([]:List aR).flatMap aE) (by rfl) (⟨by simp,aTd _,by have:=HS.out.mx;omega,fun h=>absurd h (by omega)⟩) (fI _) (by omega) ?_
     intro q9 c9 w9 M9
     have M9:=xQ (show Mem w w9 [aJ w TV 4 (q9) (k+1+0) (c9) (((vs.take k).flatMap aE++aE (id,a1,a2,a3))++([]:List aR).flatMap aE),aI w w TV #[id,a1,a2,a3]]from M9))))
  all_goals (
   have e1:k+1+0=k+1:=by omega
   have e2:((vs.take k).flatMap aE++aE (id,a1,a2,a3))++([]:List aR).flatMap aE=(vs.take k++(id,a1,a2,a3)::vs.drop k).flatMap aE:=by simp[l.out]
   have MZ:=(show Mem w w9 [aJ w TV 4 (q9) (k+1) (c9) ((vs.take k++(id,a1,a2,a3)::vs.drop k).flatMap aE),aI w w TV #[id,a1,a2,a3]]from by have:=M9.out;rw[e2]at this;simpa only[e1]using this)
   clear e2 M9 M7)
  all_goals go_wp2
  all_goals exact bodyPost_ret (v:= .slice q9 (k+1) c9) (by simp[results,results75,go_sem, *]) rfl ⟨q9,c9,rfl,by rw[c.out];exact MZ.ow 0,MZ.ext⟩
def vix (id:Int)(vs:List aR):Int:=if vs.any (fun v=>v.1==id)then(vs.findIdx (fun v=>v.1==id):Int)else -1
theorem aJg {id:Int}{vs:List aR}{k:Nat}{v:aR}(hv:vs[k]? =some v) (h:v.1=id) (hp:(vs.take k).any (fun v=>v.1==id)=false):vix id vs=k:=by
 have a:k<vs.length:=(aT9.1 hv).1;have e:vs[k]=v:=by have:=(aT9.1 hv).2;exact this
 have ha:vs.any (fun v=>v.1==id)=true:=List.any_eq_true.2 ⟨v,aT7 hv,by simp[h]⟩;have hi:vs.findIdx (fun v=>v.1==id)=k:=by rw[List.findIdx_eq a];refine⟨by simp[e,h],fun j hj=> ?_⟩;have:=List.any_eq_false.1 hp vs[j] (by rw[List.mem_take_iff_getElem];exact⟨j,by omega,rfl⟩);simpa using this
 unfold vix;rw[if_pos ha,hi]
theorem xY {id:Int}{vs:List aR}(hp:vs.any (fun v=>v.1==id)=false):vix id vs= -1:=by unfold vix;simp[hp]
theorem aGp {id:Int}{vs:List aR}{k:Nat}{v:aR}(hv:vs[k]? =some v) (h: ¬v.1=id) (hp:(vs.take k).any (fun v=>v.1==id)=false):(vs.take (k+1)).any (fun v=>v.1==id)=false:=by rw[bA hv,List.any_append,hp];simp[h]
theorem oA (id:Int)(vs:List aR):(vix id vs= -1∧bT id vs=none)∨ ∃(k:Nat) (a1 a2 a3:Int),k<vs.length∧vix id vs=k∧vs[k]? =some (id,a1,a2,a3)∧bT id vs=some (id,a1,a2,a3):=by
 cases h:vs.any (fun v=>v.1==id)with
 |false=>exact .inl ⟨xY h,by unfold bT;rw[List.find?_eq_none];simpa using h⟩
 |true=>
  right;have a:vs.findIdx (fun v=>v.1==id)<vs.length:=List.findIdx_lt_length.2 (by simpa using h);have hg:=List.findIdx_getElem (w:=a);have hf:bT id vs=some (vs[vs.findIdx (fun v=>v.1==id)]):=by unfold bT;rw[List.find?_eq_some_iff_getElem];exact⟨hg,_,a,rfl,fun j hj=>by simpa using List.not_of_lt_findIdx hj⟩
  have h0:vs[vs.findIdx (fun v=>v.1==id)].1=id:=by simpa using hg
  generalize hb:vs[vs.findIdx (fun v=>v.1==id)]=v at*;obtain⟨b0,b1,b2,b3⟩:=v;dsimp only at h0;subst h0;exact⟨_,b1,b2,b3,a,by unfold vix;rw[if_pos h],by rw[aT6 a,hb],hf⟩
theorem aAl (B:Nat)(q:OA)(m c2:Nat)(vs:List aR)(id:Int)(w:World)(hS:Sl w q m c2 4 (vs.flatMap aE))(hB:B<w.heap.size)(hc:w.cell? ⟨B,0,none⟩=some (I id)):
  U 135 #[.slice q m c2,.func (.func 136) #[] #[.pointer (some ⟨B,0,none⟩)]] w (O (I (vix id vs)) w):=by
 have hn:=hS.bd;have HS:=xQ hS;have hl:Hid (vs.length=m):=by have:=hS.len;rw[dD aE 4 (fun _=>rfl)]at this;exact(by omega:vs.length=m)
 clear hS;go_enter func135,ntmps135;go_wp2;go_loopw [8] (fun i wr=> ∃k:Nat,k≤m∧i=I k∧(vs.take k).any (fun v=>v.1==id)=false∧Ext w wr∧w.heap.size≤wr.heap.size∧wr.cell? ⟨B,0,none⟩=some (I id)) (fun i _=>m-(intOf i).toNat)
 case atStart=>exact⟨0,aTd _,rfl,by simp,by exact .refl _,by simp,by simpa using hc⟩
 case round=>
  obtain⟨k,hk,rfl,hp,hE,f,d⟩:=hrel;have HP:=xQ hp;clear hp;by_cases hlt:k<m
  ·obtain⟨b,g,a0,a1,a2,a3,rfl,hv,hb,g0,g1,g2,g3⟩:=eN (HS.out.ext hE) hlt;have HV:=xQ hv;clear hv;have c:(wr.alloc (.cells #[a0,a1,a2,a3] 54)).cell? ⟨B,0,none⟩=some (I id):=by rw[((Ext.refl wr).alloc _).cells.1 _ _ (by omega)];exact d
   by_cases t:a0=id
   ·have q0:(a0==id)=true:=by simp[t]
    have a:Hid (vix id vs=k):=aJg HV t HP.out;clear t;go_wp2_with go_in;go_ret;exact⟨by rw[a.out];rfl,by exact .alloc hE _⟩
   have q0:(a0==id)=false:=by simp[t]
   have a:Hid ((vs.take (k+1)).any (fun v=>v.1==id)=false):=aGp HV t HP.out;clear t;go_wp2_with go_in;go_roundw
   case rel=>exact⟨k+1,by omega,by go_num,a.out,by exact .alloc hE _,by simp;omega,c⟩
   case measure=>simp[intOf];omega
  have a:Hid (vix id vs= -1):=xY (by have:=HP.out;rwa[aTa (by rw[hl.out];omega)]at this);go_wp2;go_ret;exact⟨by rw[a.out];rfl,by exact hE⟩
theorem kE (aA aB a b aD aF aC aG id:Int)(p:OA)(n c:Nat)(q:OA)(m c2:Nat)(vs:List aR)(w:World)(hS:Sl w q m c2 4 (vs.flatMap aE)):
  U 98 #[.agg #[aA,aB,.slice p n c,a,b,aD,aF,aC,aG,.slice q m c2],id] w (O (I (vix id vs)) w):=by
 have HI:Hid (∀w1 B,Ext w w1→B<w1.heap.size→w1.cell? ⟨B,0,none⟩=some (I id)→U 135 #[.slice q m c2,.func (.func 136) #[] #[.pointer (some ⟨B,0,none⟩)]] w1 (O (I (vix id vs)) w1)):=
  fun w1 B hx hB hc=>aAl B q m c2 vs id w1 (hS.ext hx) hB hc
 clear hS;go_enter func98,ntmps98;go_wp2_with fail;refine Z (HI _ _ (by exact .alloc (.alloc (.refl _) _) _) (by simp) (by simp)) fun w1 h1=>?_
 go_wp2;go_ret;exact⟨rfl,by exact .trans (.alloc (.alloc (.refl _) _) _) h1⟩
theorem sQ (aA aB c d aD aF aC aG id:Int)(p:OA)(n f:Nat)(q:OA)(m c2:Nat)(vs:List aR)(w:World)(hS:Sl w q m c2 4 (vs.flatMap aE)):
  U 78 #[.agg #[aA,aB,.slice p n f,c,d,aD,aF,aC,aG,.slice q m c2],id] w (O (I (vix id vs)) w):=by
 have hn:=hS.bd;have HS:=xQ hS;have hl:Hid (vs.length=m):=by have:=hS.len;rw[dD aE 4 (fun _=>rfl)]at this;exact(by omega:vs.length=m)
 clear hS;go_enter func78,ntmps78;go_wp2;go_loop [5] (fun i=> ∃k:Nat,k≤m∧i=I k∧(vs.take k).any (fun v=>v.1==id)=false) (fun i=>m-(intOf i).toNat)
 case atStart=>exact⟨0,aTd _,rfl,by simp⟩
 case round=>
  obtain⟨k,hk,rfl,hp⟩:=hrel;have HP:=xQ hp;clear hp;by_cases hlt:k<m
  ·obtain⟨b,g,a0,a1,a2,a3,rfl,hv,hb,g0,g1,g2,g3⟩:=eN HS hlt;have HV:=xQ hv;clear hv;by_cases t:a0=id
   ·have q0:(a0==id)=true:=by simp[t]
    have a:Hid (vix id vs=k):=aJg HV t HP.out;clear t;go_wp2;go_ret;exact⟨by rw[a.out];rfl,by exact .alloc (.refl _) _⟩
   have q0:(a0==id)=false:=by simp[t]
   have a:Hid ((vs.take (k+1)).any (fun v=>v.1==id)=false):=aGp HV t HP.out;clear t;go_wp2;go_round
   case rel=>exact⟨k+1,by omega,by go_num,a.out⟩
   case measure=>simp[intOf];omega
  have a:Hid (vix id vs= -1):=xY (by have:=HP.out;rwa[aTa (by rw[hl.out];omega)]at this);go_wp2;go_ret;exact⟨by rw[a.out];rfl,by exact .alloc (.refl _) _⟩
end
end Go.Proofs.YthfmmibomhhmpaaGreatDoor
