/-
  Texts of this proof, packed (@packed).
-/
import Derived.Test.YtbgkcehffiogcabGreatDoorX15
namespace Go.Proofs.YtbgkcehffiogcabGreatDoor
open Go.RowKit
set_option linter.unusedSimpArgs false
set_option linter.unusedVariables false
set_option maxHeartbeats 8000000
set_option maxRecDepth 100000
section
open Go.Proofs.Tryz
abbrev cY (h:aS)(p:OA)(n cap:Nat)(q:OA)(m c2:Nat):Value:=
 .agg #[h.aA,h.aB,.slice p n cap,h.free,h.step,h.aE,h.aF,h.aC,h.aG,.slice q m c2]
structure IsHouse (w:World) (h:aS) (p:OA) (n cap:Nat) (q:OA) (m c2:Nat):Prop where
 cells:Sl w p n cap 1 (ivs h.cells)
 vs:Sl w q m c2 4 (h.vs.flatMap aD)
theorem IsHouse.ext {w w':World}{h:aS}{p q:OA}{n a m c2:Nat}(i:IsHouse w h p n a q m c2)(hx:Ext w w'):IsHouse w' h p n a q m c2:=⟨i.cells.ext hx,i.vs.ext hx⟩
theorem IsHouse.vlen {w:World}{h:aS}{p q:OA}{n a m c2:Nat}(i:IsHouse w h p n a q m c2):h.vs.length=m:=by have:=i.vs.len;rw[eA aD 4 (fun _=>rfl)]at this;omega
theorem IsHouse.clen {w:World}{h:aS}{p q:OA}{n a m c2:Nat}(i:IsHouse w h p n a q m c2):h.cells.length=n:=i.cells.ilen
theorem gQ {w:World}{q:OA}{m c2:Nat}{vs:List aU}(h:Sl w q m c2 4 (vs.flatMap aD)){k:Nat}(hk:k<m):
  ∃b off a0 a1 a2 a3,q=some ⟨b,off,none⟩∧vs[k]? =some (a0,a1,a2,a3)∧b<w.heap.size∧w.cell? ⟨b,off+k*4,none⟩=some (I a0)∧w.cell? ⟨b,off+k*4+1,none⟩=some (I a1)∧w.cell? ⟨b,off+k*4+2,none⟩=some (I a2)∧w.cell? ⟨b,off+k*4+3,none⟩=some (I a3):=by
 obtain⟨b,off,x,hp,hx,hb,hc⟩:=Sl.at_ (sz:=4) (f:=aD) (fun _=>rfl) h hk (by omega);obtain⟨a0,a1,a2,a3⟩:=x;exact⟨b,off,a0,a1,a2,a3,hp,hx,hb,hc 0 (by omega),hc 1 (by omega),hc 2 (by omega),hc 3 (by omega)⟩
def OwnZ (w:World)(p:OA)(n c:Nat)(xs:List Int):Prop:=Sl w p n c 1 (ivs xs)
theorem OwnZ.ext {w w':World}{p:OA}{n c:Nat}{xs:List Int}(h:OwnZ w p n c xs)(hx:Ext w w'):Sl w' p n c 1 (ivs xs):=Sl.ext h hx
theorem aRq {w:World}{B n c:Nat}{p:OA}{xs:List Int}(h:w.ownsRow B TI 1 (.slice p n c) n (ivs xs)):OwnZ w p n c xs:=Sl.own h
theorem aPe (aA aB j l aE aF aC aG:Int)(p:OA)(n r:Nat)(q:OA)(m c2:Nat)(Cs:List Int)(vs:List aU)(b1 b2 R:Bool)(w:World)(hm:m≤9223372036854775807)
  (HV:xB 45 #[aH aA aB p n r] w b1)
  (TV:Hid (∀w',U 46 #[aV j l aE aF] w' (Z (.bool b2) w')))
  (HC:Hid (∀w',Ext w w'→U 47 #[aH aA aB p n r] w' (bY Cs w')))(au:Hid (b1=true→Cs.length≤100))(ae:Hid (Sl w q m c2 4 (vs.flatMap aD)))
  (HR:Hid (R=(b1&&b2&&decide (0≤aC∧aC≤9999∧0≤aG∧aG≤99999)&&cK aC Cs vs))):
  U 16 #[.agg #[aA,aB,.slice p n r,j,l,aE,aF,aC,aG,.slice q m c2]] w (Z (.bool R) w):=by
 have al:vs.length=m:=by have:=ae.out.len;rw[eA aD 4 (fun _=>rfl)]at this;omega
 have ad:=xQ al;clear al;go_enter func16,ntmps16;go_wp2_with fail;refine Ω (HV _ ((Mem.start w).c0 29 #[aA,aB,.slice p n r,j,l,aE,aF,aC,aG,.slice q m c2]).ext) fun w1 am=>?_
 have M1:=(((Mem.start w).c0 29 #[aA,aB,.slice p n r,j,l,aE,aF,aC,aG,.slice q m c2]).adv am)
 clear am;cases b1 with
 |false=>
  have hR:Hid (R=false):=by show _=_;rw[HR.out];rfl
  obtain⟨e0,e1,e2,e3,e4,e5,e6,e7,e8,e9⟩:=(M1.bk 0).ten;go_wp2;go_ret;exact⟨aQ hR.out.symm,M1.ext⟩
 |true=>
  obtain⟨e0,e1,e2,e3,e4,e5,e6,e7,e8,e9⟩:=(M1.bk 0).ten;go_wp2_with fail;clear e0 e1 e2 e3 e4 e5 e6 e7 e8 e9;refine Ω (TV _) fun w2 an=>?_
  have M2:=(M1.adv an)
  clear M1 an;cases b2 with
  |false=>
   have hR:Hid (R=false):=by show _=_;rw[HR.out];rfl
   obtain⟨e0,e1,e2,e3,e4,e5,e6,e7,e8,e9⟩:=(M2.bk 0).ten;go_wp2;go_ret;exact⟨aQ hR.out.symm,M2.ext⟩
  |true=>
   by_cases h3:0≤aC∧aC≤9999∧0≤aG∧aG≤99999
   ·skip;obtain⟨h0,h1,h2,h3⟩:=h3;obtain⟨e0,e1,e2,e3,e4,e5,e6,e7,e8,e9⟩:=(M2.bk 0).ten;go_wp2_with fail;clear e0 e1 e2 e3 e4 e5 e6 e7 e8 e9;refine(HC _ M2.ext).mono ?_;rintro e w3 ⟨cp,cc,rfl,ak,ao⟩;have M3:=(M2.call ao ak)
    clear M2 ao ak;by_cases hL2:Cs.length=m
    ·skip;have av:R=cK aC Cs vs:=by rw[HR.out];simp[h0,h1,h2,h3]
     subst av;have hL:((Cs.length:Int)!=(m:Int))=false:=by simp[hL2]
     have bc:m≤100:=by have:=au.out (by trivial);omega
     have z:=xQ hL2;clear hL2;have aw:OwnZ w3 cp Cs.length cc Cs:=aRq (M3.ow 0);have ay:Ext w w3:=M3.ext;have y:(w:Nat)<w3:=(M3.hi 1)
     obtain⟨az,a4,a5,a6,a7,a8,a9,af,ba,ag⟩:=(M3.bk 1).ten;go_wp2;clear hL;go_loopw [48] (fun i wr=> ∃k:Nat,k≤m∧i=I k∧cK aC Cs vs=cK aC (Cs.drop k) (vs.drop k)∧Ext w3 wr) (fun i _=>m-(intOf i).toNat)
     case atStart=>exact⟨0,aT8 _,rfl,rfl,Ext.refl _⟩
     case round=>
      obtain⟨k,hk,rfl,u,hE⟩:=hrel;have aj:wr.cell? ⟨w,7,none⟩=some (I aC):=(hE.cells.1 _ _ y).trans af;have bb:wr.cell? ⟨w,9,none⟩=some (.slice q m c2):=(hE.cells.1 _ _ y).trans ag;have x:(w:Nat)<wr:=aT1 y hE.sz;have aa:=z.out;by_cases hlt:k<m
      ·obtain⟨b,bd,a0,a1,a2,a3,rfl,hv,hb,g0,g1,g2,g3⟩:=gQ (ae.out.ext (ay.trans hE)) hlt;obtain⟨cb,d,c,rfl,hc,t,gc⟩:=(aw.ext hE).int_at (show k<Cs.length by omega);have f:=xQ (u.trans (xJ hc hv));have i1:(0:Int)≤(k:Int):=by omega
       have i2:(k:Int)<(m:Int):=by omega
       have i3:(k:Int)<(Cs.length:Int):=by omega
       clear u hc hv aa;have s:Hid (∀w',U 48 #[cF a1 a2 a3] w' (Z (.bool (dP a1 a2 a3)) w')):=fun w'=>aP5 a1 a2 a3 w'
       go_wp2_with fail;by_cases t0:a0=c
       ·have q0:(a0 !=c)=false:=by simp[t0]
        have T0:=xQ t0;clear t0;cases hst:dP a1 a2 a3 with
        |true=>
         rw[hst]at s;have ab:=xQ hst;clear hst;by_cases t1:aC<a3
         ·have g:Hid (cK aC Cs vs=false):=by show _=_;rw[f.out];simp[gM,ab.out];omega
          go_region_held3 (fun w'=>w'.cell? ⟨wr,0,none⟩=some (I a0)∧w'.cell? ⟨wr,1,none⟩=some (I a1)∧w'.cell? ⟨wr,2,none⟩=some (I a2)∧w'.cell? ⟨wr,3,none⟩=some (I a3)∧w'.cell? ⟨cb,d+k,none⟩=some (I c)∧w'.cell? ⟨w,7,none⟩=some (I aC)) (go_keep) ((go_at_call 48;refine Ω (s.out _) fun w9 h9=>?_;(try replace h9:=h9.of_drew);have x9:Ext wr w9:=(by first|exact((Ext.refl wr).alloc _).trans h9|exact(((Ext.refl wr).alloc _).drew).trans h9);have ah:=(x9.cells.1 cb (d+k) t).trans gc;have ar:=(x9.cells.1 w 7 x).trans aj;have ai:=h9.cells.1;have o:(wr:Nat)<w9:=aT1 (by simp) h9.sz;have ap:(w:Nat)<w9:=aUw x o;have aq:cb<w9:=aUw t o));all_goals go_wp2
          all_goals go_ret
          all_goals exact⟨aQ g.out.symm,xE⟩
         have g:Hid (cK aC Cs vs=cK aC (Cs.drop (k+1)) (vs.drop (k+1))):=by show _=_;rw[f.out];simp[gM,ab.out,T0.out];intro h;omega
         go_region_held3 (fun w'=>w'.cell? ⟨wr,0,none⟩=some (I a0)∧w'.cell? ⟨wr,1,none⟩=some (I a1)∧w'.cell? ⟨wr,2,none⟩=some (I a2)∧w'.cell? ⟨wr,3,none⟩=some (I a3)∧w'.cell? ⟨cb,d+k,none⟩=some (I c)∧w'.cell? ⟨w,7,none⟩=some (I aC)) (go_keep) ((go_at_call 48;refine Ω (s.out _) fun w9 h9=>?_;(try replace h9:=h9.of_drew);have x9:Ext wr w9:=(by first|exact((Ext.refl wr).alloc _).trans h9|exact(((Ext.refl wr).alloc _).drew).trans h9);have ah:=(x9.cells.1 cb (d+k) t).trans gc;have ar:=(x9.cells.1 w 7 x).trans aj;have ai:=h9.cells.1;have o:(wr:Nat)<w9:=aT1 (by simp) h9.sz;have ap:(w:Nat)<w9:=aUw x o;have aq:cb<w9:=aUw t o));all_goals go_wp2
         all_goals go_roundw
         all_goals first
          |(case rel=>first|exact⟨k+1,by omega,by go_num,g.out,xE⟩|((repeat apply Exists.intro);exact⟨⟨k+1,by omega,by go_num,g.out,xE⟩,rfl⟩))
          |(case measure=>simp[intOf];omega)
        |false=>
         rw[hst]at s;have g:Hid (cK aC Cs vs=false):=by show _=_;rw[f.out];simp[gM,hst]
         clear hst;refine wp_region_held_drew (S:=fun w'=>w'.cell? ⟨wr,0,none⟩=some (I a0)∧w'.cell? ⟨wr,1,none⟩=some (I a1)∧w'.cell? ⟨wr,2,none⟩=some (I a2)∧w'.cell? ⟨wr,3,none⟩=some (I a3)∧w'.cell? ⟨cb,d+k,none⟩=some (I c)) (by kernel_rfl) (by go_keep) (fun hHeld=> ?_);refine eL (i:=0) (v:= ?_) rfl (by kernel_rfl) (by kernel_rfl) (by kernel_rfl) (fun _ _ _ h=>h) (by rfl) ?_ (by assumption) ?_
         rotate_left
         ·(intro w a;(try dsimp only at a);go_simp;(try with_reducible rfl))
         (try go_frame);refine eL (i:=1) (v:= ?_) rfl (by kernel_rfl) (by kernel_rfl) (by kernel_rfl) (fun _ _ _ h=>h) (by rfl) ?_ (by assumption) ?_
         rotate_left
         ·(intro w a;(try dsimp only at a);go_simp;(try with_reducible rfl))
         (try go_frame);refine eL (i:=2) (v:= ?_) rfl (by kernel_rfl) (by kernel_rfl) (by kernel_rfl) (fun _ _ _ h=>h) (by rfl) ?_ (by assumption) ?_
         rotate_left
         ·(intro w a;(try dsimp only at a);go_simp;(try with_reducible rfl))
         (try go_frame);refine eL (i:=3) (v:= ?_) rfl (by kernel_rfl) (by kernel_rfl) (by kernel_rfl) (fun _ _ _ h=>h) (by rfl) ?_ (by assumption) ?_
         rotate_left
         ·(intro w a;(try dsimp only at a);go_simp;(try with_reducible rfl))
         (try go_frame);refine eL (i:=4) (v:= ?_) rfl (by kernel_rfl) (by kernel_rfl) (by kernel_rfl) (fun _ _ _ h=>h) (by rfl) ?_ (by assumption) ?_
         rotate_left
         ·(intro w a;(try dsimp only at a);go_simp;(try with_reducible rfl))
         (try go_frame);refine eL (i:=5) (v:= ?_) rfl (by kernel_rfl) (by kernel_rfl) (by kernel_rfl) (fun _ _ _ h=>h) (by rfl) ?_ (by assumption) ?_
         rotate_left
         ·(intro w a;(try dsimp only at a);go_simp;(try with_reducible rfl))
         (try go_frame);refine eL (i:=6) (v:= ?_) rfl (by kernel_rfl) (by kernel_rfl) (by kernel_rfl) (fun _ _ _ h=>h) (by rfl) ?_ (by assumption) ?_
         rotate_left
         ·(intro w a;(try dsimp only at a);go_simp;(try with_reducible rfl))
         (try go_frame);refine eL (i:=7) (v:= ?_) rfl (by kernel_rfl) (by kernel_rfl) (by kernel_rfl) (fun _ _ _ h=>h) (by rfl) ?_ (by assumption) ?_
         rotate_left
         ·(intro w a;(try dsimp only at a);go_simp;(try with_reducible rfl))
         (try go_frame);refine eL (i:=8) (v:= ?_) rfl (by kernel_rfl) (by kernel_rfl) (by kernel_rfl) (fun _ _ _ h=>h) (by rfl) ?_ (by assumption) ?_
         rotate_left
         ·(intro w a;(try dsimp only at a);go_simp;(try with_reducible rfl))
         (try go_frame);refine eL (i:=9) (v:= ?_) rfl (by kernel_rfl) (by kernel_rfl) (by kernel_rfl) (fun _ _ _ h=>h) (by rfl) ?_ (by assumption) ?_
         rotate_left
         ·(intro w a;(try dsimp only at a);go_simp;(try with_reducible rfl))
         (try go_frame);refine wpAnyH_ready (rs:= [10]) (by kernel_rfl) (by simp) ?_;refine aQb rfl (fun K hK=> ?_);go_simp;go_at_call 48;refine Ω (s.out _) fun w9 h9=>?_
         (try replace h9:=h9.of_drew);have x9:Ext wr w9:=(by first|exact((Ext.refl wr).alloc _).trans h9|exact(((Ext.refl wr).alloc _).drew).trans h9)
         have ah:=(x9.cells.1 cb (d+k) t).trans gc;have ai:=h9.cells.1;have o:(wr:Nat)<w9:=aT1 (by simp) h9.sz;go_wp2_with fail;refine hK.out _ _ (by(try dsimp only);go_keep) (fun hHeld=> ?_);clear hK K;(try go_frame);refine eL (i:=11) (v:= ?_) rfl (by kernel_rfl) (by kernel_rfl) (by kernel_rfl) (fun _ _ _ h=>h) (by rfl) ?_ (by assumption) ?_
         rotate_left
         ·(intro w a;(try dsimp only at a);go_simp;(try with_reducible rfl))
         (try go_frame);refine eL (i:=12) (v:= ?_) rfl (by kernel_rfl) (by kernel_rfl) (by kernel_rfl) (fun _ _ _ h=>h) (by rfl) ?_ (by assumption) ?_
         rotate_left
         ·(intro w a;(try dsimp only at a);go_simp;(try with_reducible rfl))
         (try go_frame);refine eL (i:=13) (v:= ?_) rfl (by kernel_rfl) (by kernel_rfl) (by kernel_rfl) (fun _ _ _ h=>h) (by rfl) ?_ (by assumption) ?_
         rotate_left
         ·(intro w a;(try dsimp only at a);go_simp;(try with_reducible rfl))
         (try go_frame);refine mI (i:=14) rfl (by kernel_rfl) (by kernel_rfl) (by kernel_rfl) (fun _ _ _ h=>h) (by rfl) (by assumption) ?_;(try go_frame);refine mI (i:=15) rfl (by kernel_rfl) (by kernel_rfl) (by kernel_rfl) (fun _ _ _ h=>h) (by rfl) (by assumption) ?_;(try go_frame);refine mI (i:=16) rfl (by kernel_rfl) (by kernel_rfl) (by kernel_rfl) (fun _ _ _ h=>h) (by rfl) (by assumption) ?_;(try go_frame);refine mI (i:=17) rfl (by kernel_rfl) (by kernel_rfl) (by kernel_rfl) (fun _ _ _ h=>h) (by rfl) (by assumption) ?_;(try go_frame);refine mI (i:=18) rfl (by kernel_rfl) (by kernel_rfl) (by kernel_rfl) (fun _ _ _ h=>h) (by rfl) (by assumption) ?_;(try go_frame);refine mI (i:=19) rfl (by kernel_rfl) (by kernel_rfl) (by kernel_rfl) (fun _ _ _ h=>h) (by rfl) (by assumption) ?_;(try go_frame);refine eL (i:=20) (v:= ?_) rfl (by kernel_rfl) (by kernel_rfl) (by kernel_rfl) (fun _ _ _ h=>h) (by rfl) ?_ (by assumption) ?_
         rotate_left
         ·(intro w a;(try dsimp only at a);go_simp;(try with_reducible rfl))
         (try go_frame);refine wpAnyH_done (by kernel_rfl) ?_ _;all_goals go_wp2
         all_goals go_ret
         all_goals exact⟨aQ g.out.symm,xE⟩
       have q0:(a0 !=c)=true:=by simp[t0]
       have g:Hid (cK aC Cs vs=false):=by show _=_;rw[f.out];simp[t0]
       clear t0;go_quiet (fail);all_goals go_wp2
       all_goals go_ret
       all_goals exact⟨aQ g.out.symm,xE⟩
      have f:Hid (cK aC Cs vs=true):=by show _=_;rw[u,aUf (by rw[z.out];omega),aUf (by rw[ad.out];omega)];rfl
      clear u;go_wp2;go_ret;exact⟨aQ f.out.symm,xE⟩
    skip;have hL:((Cs.length:Int)!=(m:Int))=true:=by simp;omega
    have hR:Hid (R=false):=by show _=_;rw[HR.out,xI (by rw[ad.out];exact hL2)];simp
    obtain⟨e0,e1,e2,e3,e4,e5,e6,e7,e8,e9⟩:=(M3.bk 1).ten;go_wp2;go_ret;exact⟨aQ hR.out.symm,M3.ext⟩
   skip;have hR:Hid (R=false):=by show _=_;rw[HR.out];simp[h3]
   have h:aC<0∨0≤aC∧9999<aC∨0≤aC∧aC≤9999∧aG<0∨0≤aC∧aC≤9999∧0≤aG∧99999<aG:=by omega
   clear h3;obtain⟨e0,e1,e2,e3,e4,e5,e6,e7,e8,e9⟩:=(M2.bk 0).ten;rcases h with h|⟨h0,h⟩|⟨h0,h1,h⟩|⟨h0,h1,h2,h⟩
   all_goals
    (try (have ax:decide (aC≤9999)=false:=by simp;omega));(try (have ax:decide (aG≤99999)=false:=by simp;omega));go_wp2;go_ret;exact⟨aQ hR.out.symm,M2.ext⟩
theorem mZ (h:aS)(p:OA)(n b:Nat)(q:OA)(m c2:Nat)(w:World)(hi:IsHouse w h p n b q m c2):
  U 16 #[cY h p n b q m c2] w (Z (.bool (bJ h)) w):=by
 obtain⟨aA,aB,a,c,d,aE,aF,aC,aG,vs⟩:=h;refine aPe aA aB c d aE aF aC aG p n b q m c2 (if aO aA aB a then iL a else []) vs _ _ _ w hi.vs.bd (fun w' hx=>gS aA aB p n b a w' (hi.cells.ext hx)) (fun w'=>aEe c d aE aF w') (fun w' hx=>aSc aA aB p n b a w' (hi.cells.ext hx)) (xQ fun h1=> ?_) hi.vs (xQ ?_)
 ·rw[if_pos h1];have e1:=pZ a;have e2:=sG a;have e3:a.length≤12:=by simp only[aO,aTd]at h1;exact(cO h1.1).2.2.2.2.2.1
  omega
 show bJ _=_;unfold bJ wQ;dsimp only;cases aO aA aB a<;>simp
theorem aNx (aA aB j l aE aF aC aG:Int)(p:OA)(n r:Nat)(q:OA)(m c2:Nat)(Cs:List Int)(vs:List aU)(b1 b2 R:Bool)(w:World)(hm:m≤9223372036854775807)
  (HV:xB 41 #[aH aA aB p n r] w b1)
  (TV:Hid (∀w',U 42 #[aV j l aE aF] w' (Z (.bool b2) w')))
  (HC:Hid (∀w',Ext w w'→U 40 #[aH aA aB p n r] w' (bY Cs w')))(au:Hid (b1=true→Cs.length≤100))(ae:Hid (Sl w q m c2 4 (vs.flatMap aD)))
  (HR:Hid (R=(b1&&b2&&decide (0≤aC∧aC≤9999∧0≤aG∧aG≤99999)&&cK aC Cs vs))):
  U 15 #[.agg #[aA,aB,.slice p n r,j,l,aE,aF,aC,aG,.slice q m c2]] w (Z (.bool R) w):=by
 have al:vs.length=m:=by have:=ae.out.len;rw[eA aD 4 (fun _=>rfl)]at this;omega
 have ad:=xQ al;clear al;go_enter func15,ntmps15;go_wp2_with fail;refine(HC _ ((Mem.start w).c0 29 #[aA,aB,.slice p n r,j,l,aE,aF,aC,aG,.slice q m c2]).ext).mono ?_;rintro e w1 ⟨cp,cc,rfl,ak,am⟩;have M1:=(((Mem.start w).c0 29 #[aA,aB,.slice p n r,j,l,aE,aF,aC,aG,.slice q m c2]).call am ak)
 clear am ak;obtain⟨e0,e1,e2,e3,e4,e5,e6,e7,e8,e9⟩:=(M1.bk 1).ten;go_wp2_with fail;clear e0 e1 e2 e3 e4 e5 e6 e7 e8 e9;refine Ω (HV _ M1.ext) fun w2 an=>?_
 have M2:=(M1.adv an)
 clear M1 an;cases b1 with
 |false=>
  have hR:Hid (R=false):=by show _=_;rw[HR.out];rfl
  obtain⟨e0,e1,e2,e3,e4,e5,e6,e7,e8,e9⟩:=(M2.bk 1).ten;go_wp2_with go_in;go_ret;exact⟨aQ hR.out.symm,M2.ext⟩
 |true=>
  obtain⟨e0,e1,e2,e3,e4,e5,e6,e7,e8,e9⟩:=(M2.bk 1).ten;go_wp2_with fail;clear e0 e1 e2 e3 e4 e5 e6 e7 e8 e9;refine Ω (TV _) fun w3 ao=>?_
  have M3:=(M2.adv ao)
  clear M2 ao;cases b2 with
  |false=>
   have hR:Hid (R=false):=by show _=_;rw[HR.out];rfl
   obtain⟨e0,e1,e2,e3,e4,e5,e6,e7,e8,e9⟩:=(M3.bk 1).ten;go_wp2_with go_in;go_ret;exact⟨aQ hR.out.symm,M3.ext⟩
  |true=>
   by_cases h3:0≤aC∧aC≤9999∧0≤aG∧aG≤99999
   ·skip;obtain⟨h0,h1,h2,h3⟩:=h3;by_cases hL2:Cs.length=m
    ·skip;have av:R=cK aC Cs vs:=by rw[HR.out];simp[h0,h1,h2,h3]
     subst av;have hL:((Cs.length:Int)!=(m:Int))=false:=by simp[hL2]
     have bc:m≤100:=by have:=au.out (by trivial);omega
     have z:=xQ hL2;clear hL2;have aw:OwnZ w3 cp Cs.length cc Cs:=aRq (M3.ow 0);have ay:Ext w w3:=M3.ext;have y:(w:Nat)<w3:=(M3.hi 1)
     obtain⟨az,a4,a5,a6,a7,a8,a9,af,ba,ag⟩:=(M3.bk 1).ten;go_wp2_with go_in;clear hL;go_loopw [4] (fun i wr=> ∃k:Nat,k≤m∧i=I k∧cK aC Cs vs=cK aC (Cs.drop k) (vs.drop k)∧Ext w3 wr) (fun i _=>m-(intOf i).toNat)
     case atStart=>exact⟨0,aT8 _,rfl,rfl,Ext.refl _⟩
     case round=>
      obtain⟨k,hk,rfl,u,hE⟩:=hrel;have aj:wr.cell? ⟨w,7,none⟩=some (I aC):=(hE.cells.1 _ _ y).trans af;have bb:wr.cell? ⟨w,9,none⟩=some (.slice q m c2):=(hE.cells.1 _ _ y).trans ag;have x:(w:Nat)<wr:=aT1 y hE.sz;have aa:=z.out;by_cases hlt:k<m
      ·obtain⟨b,bd,a0,a1,a2,a3,rfl,hv,hb,g0,g1,g2,g3⟩:=gQ (ae.out.ext (ay.trans hE)) hlt;obtain⟨cb,d,c,rfl,hc,t,gc⟩:=(aw.ext hE).int_at (show k<Cs.length by omega);have f:=xQ (u.trans (xJ hc hv));have i1:(0:Int)≤(k:Int):=by omega
       have i2:(k:Int)<(m:Int):=by omega
       have i3:(k:Int)<(Cs.length:Int):=by omega
       clear u hc hv aa;have s:Hid (∀w',U 44 #[cF a1 a2 a3] w' (Z (.bool (dP a1 a2 a3)) w')):=fun w'=>aNl a1 a2 a3 w'
       go_wp2_with fail;by_cases t0:a0=c
       ·have q0:(a0 !=c)=false:=by simp[t0]
        have T0:=xQ t0;clear t0;cases hst:dP a1 a2 a3 with
        |true=>
         rw[hst]at s;have ab:=xQ hst;clear hst;by_cases t1:aC<a3
         ·have g:Hid (cK aC Cs vs=false):=by show _=_;rw[f.out];simp[gM,ab.out];omega
          go_region_held3 (fun w'=>w'.cell? ⟨wr,0,none⟩=some (I a0)∧w'.cell? ⟨wr,1,none⟩=some (I a1)∧w'.cell? ⟨wr,2,none⟩=some (I a2)∧w'.cell? ⟨wr,3,none⟩=some (I a3)∧w'.cell? ⟨cb,d+k,none⟩=some (I c)∧w'.cell? ⟨w,7,none⟩=some (I aC)) (go_keep) ((go_at_call 44;refine Ω (s.out _) fun w9 h9=>?_;(try replace h9:=h9.of_drew);have x9:Ext wr w9:=(by first|exact((Ext.refl wr).alloc _).trans h9|exact(((Ext.refl wr).alloc _).drew).trans h9);have ah:=(x9.cells.1 cb (d+k) t).trans gc;have ar:=(x9.cells.1 w 7 x).trans aj;have ai:=h9.cells.1;have o:(wr:Nat)<w9:=aT1 (by simp) h9.sz;have ap:(w:Nat)<w9:=aUw x o;have aq:cb<w9:=aUw t o));all_goals go_wp2
          all_goals go_ret
          all_goals exact⟨aQ g.out.symm,xE⟩
         have g:Hid (cK aC Cs vs=cK aC (Cs.drop (k+1)) (vs.drop (k+1))):=by show _=_;rw[f.out];simp[gM,ab.out,T0.out];intro h;omega
         go_region_held3 (fun w'=>w'.cell? ⟨wr,0,none⟩=some (I a0)∧w'.cell? ⟨wr,1,none⟩=some (I a1)∧w'.cell? ⟨wr,2,none⟩=some (I a2)∧w'.cell? ⟨wr,3,none⟩=some (I a3)∧w'.cell? ⟨cb,d+k,none⟩=some (I c)∧w'.cell? ⟨w,7,none⟩=some (I aC)) (go_keep) ((go_at_call 44;refine Ω (s.out _) fun w9 h9=>?_;(try replace h9:=h9.of_drew);have x9:Ext wr w9:=(by first|exact((Ext.refl wr).alloc _).trans h9|exact(((Ext.refl wr).alloc _).drew).trans h9);have ah:=(x9.cells.1 cb (d+k) t).trans gc;have ar:=(x9.cells.1 w 7 x).trans aj;have ai:=h9.cells.1;have o:(wr:Nat)<w9:=aT1 (by simp) h9.sz;have ap:(w:Nat)<w9:=aUw x o;have aq:cb<w9:=aUw t o));all_goals go_wp2
         all_goals go_roundw
         all_goals first
          |(case rel=>first|exact⟨k+1,by omega,by go_num,g.out,xE⟩|((repeat apply Exists.intro);exact⟨⟨k+1,by omega,by go_num,g.out,xE⟩,rfl⟩))
          |(case measure=>simp[intOf];omega)
        |false=>
         rw[hst]at s;have g:Hid (cK aC Cs vs=false):=by show _=_;rw[f.out];simp[gM,hst]
         clear hst;refine wp_region_held_drew (S:=fun w'=>w'.cell? ⟨wr,0,none⟩=some (I a0)∧w'.cell? ⟨wr,1,none⟩=some (I a1)∧w'.cell? ⟨wr,2,none⟩=some (I a2)∧w'.cell? ⟨wr,3,none⟩=some (I a3)∧w'.cell? ⟨cb,d+k,none⟩=some (I c)) (by kernel_rfl) (by go_keep) (fun hHeld=> ?_);refine eL (i:=0) (v:= ?_) rfl (by kernel_rfl) (by kernel_rfl) (by kernel_rfl) (fun _ _ _ h=>h) (by rfl) ?_ (by assumption) ?_
         rotate_left
         ·(intro w a;(try dsimp only at a);go_simp;(try with_reducible rfl))
         (try go_frame);refine eL (i:=1) (v:= ?_) rfl (by kernel_rfl) (by kernel_rfl) (by kernel_rfl) (fun _ _ _ h=>h) (by rfl) ?_ (by assumption) ?_
         rotate_left
         ·(intro w a;(try dsimp only at a);go_simp;(try with_reducible rfl))
         (try go_frame);refine eL (i:=2) (v:= ?_) rfl (by kernel_rfl) (by kernel_rfl) (by kernel_rfl) (fun _ _ _ h=>h) (by rfl) ?_ (by assumption) ?_
         rotate_left
         ·(intro w a;(try dsimp only at a);go_simp;(try with_reducible rfl))
         (try go_frame);refine eL (i:=3) (v:= ?_) rfl (by kernel_rfl) (by kernel_rfl) (by kernel_rfl) (fun _ _ _ h=>h) (by rfl) ?_ (by assumption) ?_
         rotate_left
         ·(intro w a;(try dsimp only at a);go_simp;(try with_reducible rfl))
         (try go_frame);refine eL (i:=4) (v:= ?_) rfl (by kernel_rfl) (by kernel_rfl) (by kernel_rfl) (fun _ _ _ h=>h) (by rfl) ?_ (by assumption) ?_
         rotate_left
         ·(intro w a;(try dsimp only at a);go_simp;(try with_reducible rfl))
         (try go_frame);refine eL (i:=5) (v:= ?_) rfl (by kernel_rfl) (by kernel_rfl) (by kernel_rfl) (fun _ _ _ h=>h) (by rfl) ?_ (by assumption) ?_
         rotate_left
         ·(intro w a;(try dsimp only at a);go_simp;(try with_reducible rfl))
         (try go_frame);refine eL (i:=6) (v:= ?_) rfl (by kernel_rfl) (by kernel_rfl) (by kernel_rfl) (fun _ _ _ h=>h) (by rfl) ?_ (by assumption) ?_
         rotate_left
         ·(intro w a;(try dsimp only at a);go_simp;(try with_reducible rfl))
         (try go_frame);refine eL (i:=7) (v:= ?_) rfl (by kernel_rfl) (by kernel_rfl) (by kernel_rfl) (fun _ _ _ h=>h) (by rfl) ?_ (by assumption) ?_
         rotate_left
         ·(intro w a;(try dsimp only at a);go_simp;(try with_reducible rfl))
         (try go_frame);refine eL (i:=8) (v:= ?_) rfl (by kernel_rfl) (by kernel_rfl) (by kernel_rfl) (fun _ _ _ h=>h) (by rfl) ?_ (by assumption) ?_
         rotate_left
         ·(intro w a;(try dsimp only at a);go_simp;(try with_reducible rfl))
         (try go_frame);refine eL (i:=9) (v:= ?_) rfl (by kernel_rfl) (by kernel_rfl) (by kernel_rfl) (fun _ _ _ h=>h) (by rfl) ?_ (by assumption) ?_
         rotate_left
         ·(intro w a;(try dsimp only at a);go_simp;(try with_reducible rfl))
         (try go_frame);refine wpAnyH_ready (rs:= [10]) (by kernel_rfl) (by simp) ?_;refine aQb rfl (fun K hK=> ?_);go_simp;go_at_call 44;refine Ω (s.out _) fun w9 h9=>?_
         (try replace h9:=h9.of_drew);have x9:Ext wr w9:=(by first|exact((Ext.refl wr).alloc _).trans h9|exact(((Ext.refl wr).alloc _).drew).trans h9)
         have ah:=(x9.cells.1 cb (d+k) t).trans gc;have ai:=h9.cells.1;have o:(wr:Nat)<w9:=aT1 (by simp) h9.sz;go_wp2_with fail;refine hK.out _ _ (by(try dsimp only);go_keep) (fun hHeld=> ?_);clear hK K;(try go_frame);refine eL (i:=11) (v:= ?_) rfl (by kernel_rfl) (by kernel_rfl) (by kernel_rfl) (fun _ _ _ h=>h) (by rfl) ?_ (by assumption) ?_
         rotate_left
         ·(intro w a;(try dsimp only at a);go_simp;(try with_reducible rfl))
         (try go_frame);refine eL (i:=12) (v:= ?_) rfl (by kernel_rfl) (by kernel_rfl) (by kernel_rfl) (fun _ _ _ h=>h) (by rfl) ?_ (by assumption) ?_
         rotate_left
         ·(intro w a;(try dsimp only at a);go_simp;(try with_reducible rfl))
         (try go_frame);refine eL (i:=13) (v:= ?_) rfl (by kernel_rfl) (by kernel_rfl) (by kernel_rfl) (fun _ _ _ h=>h) (by rfl) ?_ (by assumption) ?_
         rotate_left
         ·(intro w a;(try dsimp only at a);go_simp;(try with_reducible rfl))
         (try go_frame);refine mI (i:=14) rfl (by kernel_rfl) (by kernel_rfl) (by kernel_rfl) (fun _ _ _ h=>h) (by rfl) (by assumption) ?_;(try go_frame);refine mI (i:=15) rfl (by kernel_rfl) (by kernel_rfl) (by kernel_rfl) (fun _ _ _ h=>h) (by rfl) (by assumption) ?_;(try go_frame);refine mI (i:=16) rfl (by kernel_rfl) (by kernel_rfl) (by kernel_rfl) (fun _ _ _ h=>h) (by rfl) (by assumption) ?_;(try go_frame);refine mI (i:=17) rfl (by kernel_rfl) (by kernel_rfl) (by kernel_rfl) (fun _ _ _ h=>h) (by rfl) (by assumption) ?_;(try go_frame);refine mI (i:=18) rfl (by kernel_rfl) (by kernel_rfl) (by kernel_rfl) (fun _ _ _ h=>h) (by rfl) (by assumption) ?_;(try go_frame);refine mI (i:=19) rfl (by kernel_rfl) (by kernel_rfl) (by kernel_rfl) (fun _ _ _ h=>h) (by rfl) (by assumption) ?_;(try go_frame);refine eL (i:=20) (v:= ?_) rfl (by kernel_rfl) (by kernel_rfl) (by kernel_rfl) (fun _ _ _ h=>h) (by rfl) ?_ (by assumption) ?_
         rotate_left
         ·(intro w a;(try dsimp only at a);go_simp;(try with_reducible rfl))
         (try go_frame);refine wpAnyH_done (by kernel_rfl) ?_ _;all_goals go_wp2
         all_goals go_ret
         all_goals exact⟨aQ g.out.symm,xE⟩
       have q0:(a0 !=c)=true:=by simp[t0]
       have g:Hid (cK aC Cs vs=false):=by show _=_;rw[f.out];simp[t0]
       clear t0;go_quiet (fail);all_goals go_wp2
       all_goals go_ret
       all_goals exact⟨aQ g.out.symm,xE⟩
      have f:Hid (cK aC Cs vs=true):=by show _=_;rw[u,aUf (by rw[z.out];omega),aUf (by rw[ad.out];omega)];rfl
      clear u;go_wp2;go_ret;exact⟨aQ f.out.symm,xE⟩
    skip;have hL:((Cs.length:Int)!=(m:Int))=true:=by simp;omega
    have hR:Hid (R=false):=by show _=_;rw[HR.out,xI (by rw[ad.out];exact hL2)];simp
    obtain⟨e0,e1,e2,e3,e4,e5,e6,e7,e8,e9⟩:=(M3.bk 1).ten;go_wp2_with go_in;go_ret;exact⟨aQ hR.out.symm,M3.ext⟩
   skip;have hR:Hid (R=false):=by show _=_;rw[HR.out];simp[h3]
   have h:aC<0∨0≤aC∧9999<aC∨0≤aC∧aC≤9999∧aG<0∨0≤aC∧aC≤9999∧0≤aG∧99999<aG:=by omega
   clear h3;obtain⟨e0,e1,e2,e3,e4,e5,e6,e7,e8,e9⟩:=(M3.bk 1).ten;rcases h with h|⟨h0,h⟩|⟨h0,h1,h⟩|⟨h0,h1,h2,h⟩
   all_goals
    (try (have ax:decide (aC≤9999)=false:=by simp;omega));(try (have ax:decide (aG≤99999)=false:=by simp;omega));go_wp2_with go_in;go_ret;exact⟨aQ hR.out.symm,M3.ext⟩
theorem oO (h:aS)(p:OA)(n b:Nat)(q:OA)(m c2:Nat)(w:World)(hi:IsHouse w h p n b q m c2):
  U 15 #[cY h p n b q m c2] w (Z (.bool (bJ h)) w):=by
 obtain⟨aA,aB,a,c,d,aE,aF,aC,aG,vs⟩:=h;refine aNx aA aB c d aE aF aC aG p n b q m c2 (if aO aA aB a then iL a else []) vs _ _ _ w hi.vs.bd (fun w' hx=>iC aA aB p n b a w' (hi.cells.ext hx)) (fun w'=>aDh c d aE aF w') (fun w' hx=>aRw aA aB p n b a w' (hi.cells.ext hx)) (xQ fun h1=> ?_) hi.vs (xQ ?_)
 ·rw[if_pos h1];have e1:=pZ a;have e2:=sG a;have e3:a.length≤12:=by simp only[aO,aTd]at h1;exact(cO h1.1).2.2.2.2.2.1
  omega
 show bJ _=_;unfold bJ wQ;dsimp only;cases aO aA aB a<;>simp
abbrev TV:TypeId:=68
abbrev aDg (a b c d:Int):Value:= .agg #[a,b,c,d]
theorem aJu (p q:OA)(n c1 c2:Nat)(xs:List Int)(w:World)(h1:Sl w p n c1 1 (ivs xs))(h2:Sl w q n c2 1 (ivs xs)):
  U 64 #[.slice p n c1,.slice q n c2] w (Z (.bool true) w):=by
 have hn:=h1.bd;have H1:=xQ h1;have H2:=xQ h2;clear h1 h2;go_enter func64,ntmps64;go_wp2;go_loopw [5] (fun i wr=> ∃k:Nat,k≤n∧i=I k∧Ext w wr) (fun i _=>n-(intOf i).toNat)
 case atStart=>exact⟨0,aT8 _,rfl,Ext.refl _⟩
 case round=>
  obtain⟨k,hk,rfl,hE⟩:=hrel;by_cases hlt:k<n
  ·obtain⟨b,g,x,rfl,hx,hb,c⟩:=(H1.out.ext hE).int_at hlt;obtain⟨b2,d,y,rfl,hy,f,a⟩:=(H2.out.ext hE).int_at hlt;rw[hx]at hy;injection hy with hy;subst hy;clear hx;have i1:(0:Int)≤(k:Int):=by omega
   have i2:(k:Int)<(n:Int):=by omega
   go_wp2;go_quiet (fail);go_wp2;go_roundw
   case rel=>exact⟨k+1,by omega,by go_num,by exact .drewN hE _⟩
   case measure=>simp[intOf];omega
  go_wp2;go_ret;exact⟨rfl,hE⟩
theorem aFa (f s p c:Int)(w:World):U 26 #[aV f s p c,aV f s p c] w (Z (.bool true) w):=by go_enter func26,ntmps26;go_wp2;go_ret;exact⟨rfl,by exact .alloc (.alloc (.refl _) _) _⟩
theorem aJt (a b c:Int)(w:World):U 112 #[cF a b c,cF a b c] w (Z (.bool true) w):=by go_enter func112,ntmps112;go_wp2;go_ret;exact⟨rfl,by exact .alloc (.alloc (.refl _) _) _⟩
theorem aHm (a b c d:Int)(w:World):U 65 #[aDg a b c d,aDg a b c d] w (Z (.bool true) w):=by
 go_enter func65,ntmps65;go_wp2_with fail;refine Ω (aJt b c d _) fun w1 h1=>?_
 go_wp2;go_ret;exact⟨rfl,by exact .trans (.alloc (.alloc (.refl _) _) _) h1⟩
theorem aF9 (p q:OA)(n c1 c2:Nat)(vs:List aU)(w:World)(h1:Sl w p n c1 4 (vs.flatMap aD))(h2:Sl w q n c2 4 (vs.flatMap aD)):
  U 27 #[.slice p n c1,.slice q n c2] w (Z (.bool true) w):=by
 have hn:=h1.bd;have H1:=xQ h1;have H2:=xQ h2;clear h1 h2;go_enter func27,ntmps27;go_wp2;go_loopw [5] (fun i wr=> ∃k:Nat,k≤n∧i=I k∧Ext w wr) (fun i _=>n-(intOf i).toNat)
 case atStart=>exact⟨0,aT8 _,rfl,Ext.refl _⟩
 case round=>
  obtain⟨k,hk,rfl,hE⟩:=hrel;by_cases hlt:k<n
  ·obtain⟨b,c,a0,a1,a2,a3,rfl,hx,hb,g0,g1,g2,g3⟩:=gQ (H1.out.ext hE) hlt;obtain⟨b2,a,d0,d1,d2,d3,rfl,hy,d,k0,k1,k2,k3⟩:=gQ (H2.out.ext hE) hlt;rw[hx]at hy;injection hy with hy;simp only[aUk]at hy;obtain⟨rfl,rfl,rfl,rfl⟩:=hy;clear hx;have i1:(0:Int)≤(k:Int):=by omega
   have i2:(k:Int)<(n:Int):=by omega
   have HQ:Hid (∀w,U 65 #[aDg a0 a1 a2 a3,aDg a0 a1 a2 a3] w (Z (.bool true) w)):=fun w=>aHm a0 a1 a2 a3 w
   go_wp2;go_region_held3 (fun w'=>w'.cell? ⟨b,c+k*4,none⟩=some (I a0)∧w'.cell? ⟨b,c+k*4+1,none⟩=some (I a1)∧w'.cell? ⟨b,c+k*4+2,none⟩=some (I a2)∧w'.cell? ⟨b,c+k*4+3,none⟩=some (I a3)∧w'.cell? ⟨b2,a+k*4,none⟩=some (I a0)∧w'.cell? ⟨b2,a+k*4+1,none⟩=some (I a1)∧w'.cell? ⟨b2,a+k*4+2,none⟩=some (I a2)∧w'.cell? ⟨b2,a+k*4+3,none⟩=some (I a3)) (go_keep) ((go_at_call 65;refine Ω (HQ _) fun w1 h1=>?_;(try replace h1:=h1.of_drew);have f:=h1.cells.1));all_goals go_wp2
   all_goals go_roundw
   all_goals first
    |(case rel=>exact⟨k+1,by omega,by go_num,by exact .trans hE h1⟩)
    |(case measure=>simp[intOf];omega)
  go_wp2;go_ret;exact⟨rfl,hE⟩
abbrev aVq (w:World)(p:Option Addr)(xs:List aU)(c:Nat):Item:=aJ w.heap.size TV 4 p xs.length c (xs.flatMap aD)
end
def RetHouse (h:aS)(w:World)(e:Ending)(w':World):Prop:=
 ∃p cap q c2,e= .returned (cY h p h.cells.length cap q h.vs.length c2)∧w'.ownsRow w.heap.size TI 1 (.slice p h.cells.length cap) h.cells.length (ivs h.cells)∧w'.ownsRow w.heap.size TV 4 (.slice q h.vs.length c2) h.vs.length (h.vs.flatMap aD)∧Ext w w'
end Go.Proofs.YtbgkcehffiogcabGreatDoor
