/-
  Texts of this proof, packed (@packed).
-/
import Derived.Test.YtpelpnfhbepokaaGreatDoorV7
namespace Go.Proofs.YtpelpnfhbepokaaGreatDoor
open Go.RowKit
set_option linter.unusedVariables false
section
variable {P:Program} {l:List Oper} {Q:Exit→Act→World→Prop} {md:Region.Mode} {S:World→Prop}
theorem dP {i:Nat}{oi:Oper}{v:Value}{d:Nat}{b:Array Bool}{a:Act}{w:World}(hi:l[i]? =some oi)
  (hs:Region.noSelect l.toArray=true) (hf:Region.free md l.toArray b i=true) (hr:(Region.ready md l.toArray b).contains i=true)
  (hQ: ∀c a w,Q (.panic c) (a.put oi.dst v) w→Q (.panic c) a w) (hw:Region.wanted oi (yielded l.toArray a.tmps)=true) (hy: ∀w,S w→(execOp a.eval oi).run P w= .ok (.value v) w) (hS:S w)
  (h:wpAnyH P md l.toArray Q S d (b.setIfInBounds i true) (a.put oi.dst v) w):wpAnyH P md l.toArray Q S (d+1) b a w:=
 wpAnyH_take (by simpa using hi) hs hf hr hQ (.inl ⟨hw,hy⟩) hS h
theorem jS {i:Nat}{oi:Oper}{d:Nat}{b:Array Bool}{a:Act}{w:World}(hi:l[i]? =some oi)
  (hs:Region.noSelect l.toArray=true) (hf:Region.free md l.toArray b i=true) (hr:(Region.ready md l.toArray b).contains i=true)
  (hQ: ∀c a w,Q (.panic c) (a.put oi.dst undef) w→Q (.panic c) a w) (hw:Region.wanted oi (yielded l.toArray a.tmps)=false) (hS:S w)
  (h:wpAnyH P md l.toArray Q S d (b.setIfInBounds i true) (a.put oi.dst undef) w):wpAnyH P md l.toArray Q S (d+1) b a w:=
 wpAnyH_take (by simpa using hi) hs hf hr hQ (.inr ⟨hw,rfl⟩) hS h
theorem aJd {c:Nat}{b:Array Bool}{a:Act}{w:World}{i:Nat}{o:Oper}(ho:l[i]? =some o)
  (h: ∀K':Act→World→Prop,Shut (∀a w,S w→(S w→wpAnyH P md l.toArray Q S c (b.setIfInBounds i true) a w)→K' a w)→if Region.wanted o (yielded l.toArray a.tmps)=true then Oper.wp P o a w K' Q else K' (a.put o.dst undef) w):
  AllReadyH P md l.toArray Q S c b a w [i]:=AllReadyH.cons (by simpa using ho) h AllReadyH.nil
end
end Go.Proofs.YtpelpnfhbepokaaGreatDoor
namespace Go.Proofs.YtpelpnfhbepokaaGreatDoor
open Go.RowKit
set_option linter.unusedVariables false
set_option maxHeartbeats 8000000
set_option maxRecDepth 100000
abbrev bK (h:aO)(p:OA)(n cap:Nat)(q:OA)(m c2:Nat):Value:=
 .agg #[h.aA,h.aB,.slice p n cap,h.free,h.step,h.aE,h.aF,h.aC,h.aG,.slice q m c2]
structure IsHouse (w:World) (h:aO) (p:OA) (n cap:Nat) (q:OA) (m c2:Nat):Prop where
 cells:Sl w p n cap 1 (ivs h.cells)
 vs:Sl w q m c2 4 (h.vs.flatMap aD)
theorem IsHouse.ext {w w':World}{h:aO}{p q:OA}{n a m c2:Nat}(i:IsHouse w h p n a q m c2)(hx:Ext w w'):IsHouse w' h p n a q m c2:=⟨i.cells.ext hx,i.vs.ext hx⟩
theorem IsHouse.vlen {w:World}{h:aO}{p q:OA}{n a m c2:Nat}(i:IsHouse w h p n a q m c2):h.vs.length=m:=by have:=i.vs.len;rw[dC aD 4 (fun _=>rfl)]at this;omega
theorem IsHouse.clen {w:World}{h:aO}{p q:OA}{n a m c2:Nat}(i:IsHouse w h p n a q m c2):h.cells.length=n:=i.cells.ilen
theorem eB {w:World}{q:OA}{m c2:Nat}{vs:List aP}(h:Sl w q m c2 4 (vs.flatMap aD)){k:Nat}(hk:k<m):
  ∃b off a0 a1 a2 a3,q=some ⟨b,off,none⟩∧vs[k]? =some (a0,a1,a2,a3)∧b<w.heap.size∧w.cell? ⟨b,off+k*4,none⟩=some (.int .i64 a0)∧w.cell? ⟨b,off+k*4+1,none⟩=some (.int .i64 a1)∧w.cell? ⟨b,off+k*4+2,none⟩=some (.int .i64 a2)∧w.cell? ⟨b,off+k*4+3,none⟩=some (.int .i64 a3):=by
 obtain⟨b,off,x,hp,hx,hb,hc⟩:=Sl.at_ (sz:=4) (f:=aD) (fun _=>rfl) h hk (by omega);obtain⟨a0,a1,a2,a3⟩:=x;exact⟨b,off,a0,a1,a2,a3,hp,hx,hb,hc 0 (by omega),hc 1 (by omega),hc 2 (by omega),hc 3 (by omega)⟩
def OwnZ (w:World)(p:OA)(n c:Nat)(xs:List Int):Prop:=Sl w p n c 1 (ivs xs)
theorem OwnZ.ext {w w':World}{p:OA}{n c:Nat}{xs:List Int}(h:OwnZ w p n c xs)(hx:Ext w w'):Sl w' p n c 1 (ivs xs):=Sl.ext h hx
theorem aKo {w:World}{B n c:Nat}{p:OA}{xs:List Int}(h:w.ownsRow B TI 1 (.slice p n c) n (ivs xs)):OwnZ w p n c xs:=Sl.own h
theorem aIk (aA aB j l aE aF aC aG:Int)(p:OA)(n r:Nat)(q:OA)(m c2:Nat)(Cs:List Int)(vs:List aP)(b1 b2 R:Bool)(w:World)(hm:m≤9223372036854775807)
  (HV:xB 53 #[aH aA aB p n r] w b1)
  (TV:Hid (∀w',Calls Tryz.prog 51 #[aQ j l aE aF] w' fun e w''=>e= .returned (.bool b2)∧Ext w' w''))
  (HC:Hid (∀w',Ext w w'→Calls Tryz.prog 23 #[aH aA aB p n r] w' (aX Cs w')))(aw:Hid (b1=true→Cs.length≤100))(ag:Hid (Sl w q m c2 4 (vs.flatMap aD)))
  (HR:Hid (R=(b1&&b2&&decide (0≤aC∧aC≤9999∧0≤aG∧aG≤99999)&&bW aC Cs vs))):
  Calls Tryz.prog 18 #[.agg #[aA,aB,.slice p n r,j,l,aE,aF,aC,aG,.slice q m c2]] w fun e w'=>e= .returned (.bool R)∧Ext w w':=by
 have an:vs.length=m:=by have:=ag.out.len;rw[dC aD 4 (fun _=>rfl)]at this;omega
 have af:=xQ an;clear an;go_enter Tryz.func18,Tryz.ntmps18;go_wp2_with fail;refine(HV _ ((Mem.start w).c0 30 #[aA,aB,.slice p n r,j,l,aE,aF,aC,aG,.slice q m c2]).ext).mono ?_;rintro e w1 ⟨rfl,ao⟩;have M1:=(((Mem.start w).c0 30 #[aA,aB,.slice p n r,j,l,aE,aF,aC,aG,.slice q m c2]).adv ao)
 have z:=M1.hi 0;clear ao;cases b1 with
 |false=>
  have hR:Hid (R=false):=by show _=_;rw[HR.out];rfl
  obtain⟨e0,e1,e2,e3,e4,e5,e6,e7,e8,e9⟩:=(M1.bk 0).ten;go_wp2;go_ret;exact⟨aR hR.out.symm,M1.ext⟩
 |true=>
  obtain⟨e0,e1,e2,e3,e4,e5,e6,e7,e8,e9⟩:=(M1.bk 0).ten;go_wp2_with fail;clear e0 e1 e2 e3 e4 e5 e6 e7 e8 e9;refine(TV _).mono ?_;rintro e w2 ⟨rfl,ap⟩;have M2:=(M1.adv ap)
  clear M1 z ap;have aa:=M2.hi 0;cases b2 with
  |false=>
   have hR:Hid (R=false):=by show _=_;rw[HR.out];rfl
   obtain⟨e0,e1,e2,e3,e4,e5,e6,e7,e8,e9⟩:=(M2.bk 0).ten;go_wp2;go_ret;exact⟨aR hR.out.symm,M2.ext⟩
  |true=>
   by_cases h3:0≤aC∧aC≤9999∧0≤aG∧aG≤99999
   ·skip;obtain⟨h0,h1,h2,h3⟩:=h3;obtain⟨e0,e1,e2,e3,e4,e5,e6,e7,e8,e9⟩:=(M2.bk 0).ten;go_wp2_with fail;clear e0 e1 e2 e3 e4 e5 e6 e7 e8 e9;refine(HC _ M2.ext).mono ?_;rintro e w3 ⟨cp,cc,rfl,am,aq⟩;have M3:=(M2.call aq am)
    clear M2 aa aq am;have a5:=M3.hi 1;by_cases hL2:Cs.length=m
    ·skip;have ax:R=bW aC Cs vs:=by rw[HR.out];simp[h0,h1,h2,h3]
     subst ax;have hL:((Cs.length:Int)!=(m:Int))=false:=by simp[hL2]
     have bf:m≤100:=by have:=aw.out (by trivial);omega
     have ab:=xQ hL2;clear hL2;have ay:OwnZ w3 cp Cs.length cc Cs:=aKo (M3.ow 0);have a4:Ext w w3:=M3.ext;have y:w.heap.size<w3.heap.size:=(M3.hi 1)
     obtain⟨a6,a7,a8,a9,ba,bb,bc,ah,bd,ai⟩:=(M3.bk 1).ten;go_wp2;clear hL;go_loopw [48] (fun i wr=> ∃k:Nat,k≤m∧i= .int .i64 k∧bW aC Cs vs=bW aC (Cs.drop k) (vs.drop k)∧Ext w3 wr) (fun i _=>m-(intOf i).toNat)
     case atStart=>exact⟨0,Nat.zero_le _,rfl,rfl,Ext.refl _⟩
     case round=>
      obtain⟨k,hk,rfl,u,hE⟩:=hrel;have al:wr.cell? ⟨w.heap.size,7,none⟩=some (.int .i64 aC):=(hE.cells.1 _ _ y).trans ah;have be:wr.cell? ⟨w.heap.size,9,none⟩=some (.slice q m c2):=(hE.cells.1 _ _ y).trans ai;have x:w.heap.size<wr.heap.size:=Nat.lt_of_lt_of_le y hE.sz;have ad:=ab.out;by_cases hlt:k<m
      ·obtain⟨b,bg,a0,a1,a2,a3,rfl,hv,hb,g0,g1,g2,g3⟩:=eB (ag.out.ext (a4.trans hE)) hlt;obtain⟨cb,d,c,rfl,hc,t,gc⟩:=(ay.ext hE).int_at (show k<Cs.length by omega);have f:=xQ (u.trans (rZ hc hv));have i1:(0:Int)≤(k:Int):=by omega
       have i2:(k:Int)<(m:Int):=by omega
       have i3:(k:Int)<(Cs.length:Int):=by omega
       clear u hc hv ad;have s:Hid (∀w',Calls Tryz.prog 54 #[bP a1 a2 a3] w' fun e w''=>e= .returned (.bool (cW a1 a2 a3))∧Ext w' w''):=fun w'=>aIb a1 a2 a3 w'
       go_wp2_with fail;by_cases t0:a0=c
       ·have q0:(a0 !=c)=false:=by simp[t0]
        have T0:=xQ t0;clear t0;cases hst:cW a1 a2 a3 with
        |true=>
         rw[hst]at s;have ae:=xQ hst;clear hst;by_cases t1:aC<a3
         ·have g:Hid (bW aC Cs vs=false):=by show _=_;rw[f.out];simp[eX,ae.out];omega
          go_region_held3 (fun w'=>w'.cell? ⟨wr.heap.size,0,none⟩=some (.int .i64 a0)∧w'.cell? ⟨wr.heap.size,1,none⟩=some (.int .i64 a1)∧w'.cell? ⟨wr.heap.size,2,none⟩=some (.int .i64 a2)∧w'.cell? ⟨wr.heap.size,3,none⟩=some (.int .i64 a3)∧w'.cell? ⟨cb,d+k,none⟩=some (.int .i64 c)∧w'.cell? ⟨w.heap.size,7,none⟩=some (.int .i64 aC)) (go_keep) ((go_at_call 54;refine(s.out _).mono ?_;rintro e w9 ⟨rfl,h9⟩;(try replace h9:=h9.of_drew);have x9:Ext wr w9:=(by first|exact((Ext.refl wr).alloc _).trans h9|exact(((Ext.refl wr).alloc _).drew).trans h9);have aj:=(x9.cells.1 cb (d+k) t).trans gc;have av:=(x9.cells.1 w.heap.size 7 x).trans al;have ak:=h9.cells.1;have o:wr.heap.size<w9.heap.size:=Nat.lt_of_lt_of_le (by simp) h9.sz;have ar:w.heap.size<w9.heap.size:=Nat.lt_trans x o;have au:cb<w9.heap.size:=Nat.lt_trans t o));all_goals go_wp2
          all_goals go_ret
          all_goals exact⟨aR g.out.symm,xE⟩
         have g:Hid (bW aC Cs vs=bW aC (Cs.drop (k+1)) (vs.drop (k+1))):=by show _=_;rw[f.out];simp[eX,ae.out,T0.out];intro h;omega
         go_region_held3 (fun w'=>w'.cell? ⟨wr.heap.size,0,none⟩=some (.int .i64 a0)∧w'.cell? ⟨wr.heap.size,1,none⟩=some (.int .i64 a1)∧w'.cell? ⟨wr.heap.size,2,none⟩=some (.int .i64 a2)∧w'.cell? ⟨wr.heap.size,3,none⟩=some (.int .i64 a3)∧w'.cell? ⟨cb,d+k,none⟩=some (.int .i64 c)∧w'.cell? ⟨w.heap.size,7,none⟩=some (.int .i64 aC)) (go_keep) ((go_at_call 54;refine(s.out _).mono ?_;rintro e w9 ⟨rfl,h9⟩;(try replace h9:=h9.of_drew);have x9:Ext wr w9:=(by first|exact((Ext.refl wr).alloc _).trans h9|exact(((Ext.refl wr).alloc _).drew).trans h9);have aj:=(x9.cells.1 cb (d+k) t).trans gc;have av:=(x9.cells.1 w.heap.size 7 x).trans al;have ak:=h9.cells.1;have o:wr.heap.size<w9.heap.size:=Nat.lt_of_lt_of_le (by simp) h9.sz;have ar:w.heap.size<w9.heap.size:=Nat.lt_trans x o;have au:cb<w9.heap.size:=Nat.lt_trans t o));all_goals go_wp2
         all_goals go_roundw
         all_goals first
          |(case rel=>first|exact⟨k+1,by omega,by go_num,g.out,xE⟩|((repeat apply Exists.intro);exact⟨⟨k+1,by omega,by go_num,g.out,xE⟩,rfl⟩))
          |(case measure=>simp[intOf];omega)
        |false=>
         rw[hst]at s;have g:Hid (bW aC Cs vs=false):=by show _=_;rw[f.out];simp[eX,hst]
         clear hst;refine wp_region_held_drew (S:=fun w'=>w'.cell? ⟨wr.heap.size,0,none⟩=some (.int .i64 a0)∧w'.cell? ⟨wr.heap.size,1,none⟩=some (.int .i64 a1)∧w'.cell? ⟨wr.heap.size,2,none⟩=some (.int .i64 a2)∧w'.cell? ⟨wr.heap.size,3,none⟩=some (.int .i64 a3)∧w'.cell? ⟨cb,d+k,none⟩=some (.int .i64 c)) (by kernel_rfl) (by go_keep) (fun hHeld=> ?_);refine dP (i:=0) (v:= ?_) rfl (by kernel_rfl) (by kernel_rfl) (by kernel_rfl) (fun _ _ _ h=>h) (by rfl) ?_ (by assumption) ?_
         rotate_left
         ·(intro w a;(try dsimp only at a);go_simp;(try with_reducible rfl))
         (try go_frame);refine dP (i:=1) (v:= ?_) rfl (by kernel_rfl) (by kernel_rfl) (by kernel_rfl) (fun _ _ _ h=>h) (by rfl) ?_ (by assumption) ?_
         rotate_left
         ·(intro w a;(try dsimp only at a);go_simp;(try with_reducible rfl))
         (try go_frame);refine dP (i:=2) (v:= ?_) rfl (by kernel_rfl) (by kernel_rfl) (by kernel_rfl) (fun _ _ _ h=>h) (by rfl) ?_ (by assumption) ?_
         rotate_left
         ·(intro w a;(try dsimp only at a);go_simp;(try with_reducible rfl))
         (try go_frame);refine dP (i:=3) (v:= ?_) rfl (by kernel_rfl) (by kernel_rfl) (by kernel_rfl) (fun _ _ _ h=>h) (by rfl) ?_ (by assumption) ?_
         rotate_left
         ·(intro w a;(try dsimp only at a);go_simp;(try with_reducible rfl))
         (try go_frame);refine dP (i:=4) (v:= ?_) rfl (by kernel_rfl) (by kernel_rfl) (by kernel_rfl) (fun _ _ _ h=>h) (by rfl) ?_ (by assumption) ?_
         rotate_left
         ·(intro w a;(try dsimp only at a);go_simp;(try with_reducible rfl))
         (try go_frame);refine dP (i:=5) (v:= ?_) rfl (by kernel_rfl) (by kernel_rfl) (by kernel_rfl) (fun _ _ _ h=>h) (by rfl) ?_ (by assumption) ?_
         rotate_left
         ·(intro w a;(try dsimp only at a);go_simp;(try with_reducible rfl))
         (try go_frame);refine dP (i:=6) (v:= ?_) rfl (by kernel_rfl) (by kernel_rfl) (by kernel_rfl) (fun _ _ _ h=>h) (by rfl) ?_ (by assumption) ?_
         rotate_left
         ·(intro w a;(try dsimp only at a);go_simp;(try with_reducible rfl))
         (try go_frame);refine dP (i:=7) (v:= ?_) rfl (by kernel_rfl) (by kernel_rfl) (by kernel_rfl) (fun _ _ _ h=>h) (by rfl) ?_ (by assumption) ?_
         rotate_left
         ·(intro w a;(try dsimp only at a);go_simp;(try with_reducible rfl))
         (try go_frame);refine dP (i:=8) (v:= ?_) rfl (by kernel_rfl) (by kernel_rfl) (by kernel_rfl) (fun _ _ _ h=>h) (by rfl) ?_ (by assumption) ?_
         rotate_left
         ·(intro w a;(try dsimp only at a);go_simp;(try with_reducible rfl))
         (try go_frame);refine dP (i:=9) (v:= ?_) rfl (by kernel_rfl) (by kernel_rfl) (by kernel_rfl) (fun _ _ _ h=>h) (by rfl) ?_ (by assumption) ?_
         rotate_left
         ·(intro w a;(try dsimp only at a);go_simp;(try with_reducible rfl))
         (try go_frame);refine wpAnyH_ready (rs:= [10]) (by kernel_rfl) (by simp) ?_;refine aJd rfl (fun K hK=> ?_);go_simp;go_at_call 54;refine(s.out _).mono ?_;rintro e w9 ⟨rfl,h9⟩;(try replace h9:=h9.of_drew);have x9:Ext wr w9:=(by first|exact((Ext.refl wr).alloc _).trans h9|exact(((Ext.refl wr).alloc _).drew).trans h9)
         have aj:=(x9.cells.1 cb (d+k) t).trans gc;have ak:=h9.cells.1;have o:wr.heap.size<w9.heap.size:=Nat.lt_of_lt_of_le (by simp) h9.sz;go_wp2_with fail;refine hK.out _ _ (by(try dsimp only);go_keep) (fun hHeld=> ?_);clear hK K;(try go_frame);refine dP (i:=11) (v:= ?_) rfl (by kernel_rfl) (by kernel_rfl) (by kernel_rfl) (fun _ _ _ h=>h) (by rfl) ?_ (by assumption) ?_
         rotate_left
         ·(intro w a;(try dsimp only at a);go_simp;(try with_reducible rfl))
         (try go_frame);refine dP (i:=12) (v:= ?_) rfl (by kernel_rfl) (by kernel_rfl) (by kernel_rfl) (fun _ _ _ h=>h) (by rfl) ?_ (by assumption) ?_
         rotate_left
         ·(intro w a;(try dsimp only at a);go_simp;(try with_reducible rfl))
         (try go_frame);refine dP (i:=13) (v:= ?_) rfl (by kernel_rfl) (by kernel_rfl) (by kernel_rfl) (fun _ _ _ h=>h) (by rfl) ?_ (by assumption) ?_
         rotate_left
         ·(intro w a;(try dsimp only at a);go_simp;(try with_reducible rfl))
         (try go_frame);refine jS (i:=14) rfl (by kernel_rfl) (by kernel_rfl) (by kernel_rfl) (fun _ _ _ h=>h) (by rfl) (by assumption) ?_;(try go_frame);refine jS (i:=15) rfl (by kernel_rfl) (by kernel_rfl) (by kernel_rfl) (fun _ _ _ h=>h) (by rfl) (by assumption) ?_;(try go_frame);refine jS (i:=16) rfl (by kernel_rfl) (by kernel_rfl) (by kernel_rfl) (fun _ _ _ h=>h) (by rfl) (by assumption) ?_;(try go_frame);refine jS (i:=17) rfl (by kernel_rfl) (by kernel_rfl) (by kernel_rfl) (fun _ _ _ h=>h) (by rfl) (by assumption) ?_;(try go_frame);refine jS (i:=18) rfl (by kernel_rfl) (by kernel_rfl) (by kernel_rfl) (fun _ _ _ h=>h) (by rfl) (by assumption) ?_;(try go_frame);refine jS (i:=19) rfl (by kernel_rfl) (by kernel_rfl) (by kernel_rfl) (fun _ _ _ h=>h) (by rfl) (by assumption) ?_;(try go_frame);refine dP (i:=20) (v:= ?_) rfl (by kernel_rfl) (by kernel_rfl) (by kernel_rfl) (fun _ _ _ h=>h) (by rfl) ?_ (by assumption) ?_
         rotate_left
         ·(intro w a;(try dsimp only at a);go_simp;(try with_reducible rfl))
         (try go_frame);refine wpAnyH_done (by kernel_rfl) ?_ _;all_goals go_wp2
         all_goals go_ret
         all_goals exact⟨aR g.out.symm,xE⟩
       have q0:(a0 !=c)=true:=by simp[t0]
       have g:Hid (bW aC Cs vs=false):=by show _=_;rw[f.out];simp[t0]
       clear t0;go_quiet (fail);all_goals go_wp2
       all_goals go_ret
       all_goals exact⟨aR g.out.symm,xE⟩
      have f:Hid (bW aC Cs vs=true):=by show _=_;rw[u,List.drop_eq_nil_of_le (by rw[ab.out];omega),List.drop_eq_nil_of_le (by rw[af.out];omega)];rfl
      clear u;go_wp2;go_ret;exact⟨aR f.out.symm,xE⟩
    skip;have hL:((Cs.length:Int)!=(m:Int))=true:=by simp;omega
    have hR:Hid (R=false):=by show _=_;rw[HR.out,rY (by rw[af.out];exact hL2)];simp
    obtain⟨e0,e1,e2,e3,e4,e5,e6,e7,e8,e9⟩:=(M3.bk 1).ten;go_wp2;go_ret;exact⟨aR hR.out.symm,M3.ext⟩
   skip;have hR:Hid (R=false):=by show _=_;rw[HR.out];simp[h3]
   have h:aC<0∨0≤aC∧9999<aC∨0≤aC∧aC≤9999∧aG<0∨0≤aC∧aC≤9999∧0≤aG∧99999<aG:=by omega
   clear h3;obtain⟨e0,e1,e2,e3,e4,e5,e6,e7,e8,e9⟩:=(M2.bk 0).ten;rcases h with h|⟨h0,h⟩|⟨h0,h1,h⟩|⟨h0,h1,h2,h⟩
   all_goals
    (try (have az:decide (aC≤9999)=false:=by simp;omega));(try (have az:decide (aG≤99999)=false:=by simp;omega));go_wp2;go_ret;exact⟨aR hR.out.symm,M2.ext⟩
theorem kF (h:aO)(p:OA)(n b:Nat)(q:OA)(m c2:Nat)(w:World)(hi:IsHouse w h p n b q m c2):
  Calls Tryz.prog 18 #[bK h p n b q m c2] w fun e w'=>e= .returned (.bool (aT h))∧Ext w w':=by
 obtain⟨aA,aB,a,c,d,aE,aF,aC,aG,vs⟩:=h;refine aIk aA aB c d aE aF aC aG p n b q m c2 (if aM aA aB a then cJ a else []) vs _ _ _ w hi.vs.bd (fun w' hx=>fI aA aB p n b a w' (hi.cells.ext hx)) (fun w'=>yG c d aE aF w') (fun w' hx=>aDc aA aB p n b a w' (hi.cells.ext hx)) (xQ fun h1=> ?_) hi.vs (xQ ?_)
 ·rw[if_pos h1];have e1:=hU a;have e2:=jA a;have e3:a.length≤12:=by simp only[aM,Bool.and_eq_true]at h1;exact(bZ h1.1).2.2.2.2.2.1
  omega
 show aT _=_;unfold aT rG;dsimp only;cases aM aA aB a<;>simp
theorem aHc (aA aB j l aE aF aC aG:Int)(p:OA)(n r:Nat)(q:OA)(m c2:Nat)(Cs:List Int)(vs:List aP)(b1 b2 R:Bool)(w:World)(hm:m≤9223372036854775807)
  (HV:xB 41 #[aH aA aB p n r] w b1)
  (TV:Hid (∀w',Calls Tryz.prog 42 #[aQ j l aE aF] w' fun e w''=>e= .returned (.bool b2)∧Ext w' w''))
  (HC:Hid (∀w',Ext w w'→Calls Tryz.prog 40 #[aH aA aB p n r] w' (aX Cs w')))(aw:Hid (b1=true→Cs.length≤100))(ag:Hid (Sl w q m c2 4 (vs.flatMap aD)))
  (HR:Hid (R=(b1&&b2&&decide (0≤aC∧aC≤9999∧0≤aG∧aG≤99999)&&bW aC Cs vs))):
  Calls Tryz.prog 12 #[.agg #[aA,aB,.slice p n r,j,l,aE,aF,aC,aG,.slice q m c2]] w fun e w'=>e= .returned (.bool R)∧Ext w w':=by
 have an:vs.length=m:=by have:=ag.out.len;rw[dC aD 4 (fun _=>rfl)]at this;omega
 have af:=xQ an;clear an;go_enter Tryz.func12,Tryz.ntmps12;go_wp2_with fail;refine(HC _ ((Mem.start w).c0 30 #[aA,aB,.slice p n r,j,l,aE,aF,aC,aG,.slice q m c2]).ext).mono ?_;rintro e w1 ⟨cp,cc,rfl,am,ao⟩;have M1:=(((Mem.start w).c0 30 #[aA,aB,.slice p n r,j,l,aE,aF,aC,aG,.slice q m c2]).call ao am)
 have z:=M1.hi 1;clear ao am;obtain⟨e0,e1,e2,e3,e4,e5,e6,e7,e8,e9⟩:=(M1.bk 1).ten;go_wp2_with fail;clear e0 e1 e2 e3 e4 e5 e6 e7 e8 e9;refine(HV _ M1.ext).mono ?_;rintro e w2 ⟨rfl,ap⟩;have M2:=(M1.adv ap)
 clear M1 z ap;have aa:=M2.hi 1;cases b1 with
 |false=>
  have hR:Hid (R=false):=by show _=_;rw[HR.out];rfl
  obtain⟨e0,e1,e2,e3,e4,e5,e6,e7,e8,e9⟩:=(M2.bk 1).ten;go_wp2_with go_in;go_ret;exact⟨aR hR.out.symm,M2.ext⟩
 |true=>
  obtain⟨e0,e1,e2,e3,e4,e5,e6,e7,e8,e9⟩:=(M2.bk 1).ten;go_wp2_with fail;clear e0 e1 e2 e3 e4 e5 e6 e7 e8 e9;refine(TV _).mono ?_;rintro e w3 ⟨rfl,aq⟩;have M3:=(M2.adv aq)
  clear M2 aa aq;have a5:=M3.hi 1;cases b2 with
  |false=>
   have hR:Hid (R=false):=by show _=_;rw[HR.out];rfl
   obtain⟨e0,e1,e2,e3,e4,e5,e6,e7,e8,e9⟩:=(M3.bk 1).ten;go_wp2_with go_in;go_ret;exact⟨aR hR.out.symm,M3.ext⟩
  |true=>
   by_cases h3:0≤aC∧aC≤9999∧0≤aG∧aG≤99999
   ·skip;obtain⟨h0,h1,h2,h3⟩:=h3;by_cases hL2:Cs.length=m
    ·skip;have ax:R=bW aC Cs vs:=by rw[HR.out];simp[h0,h1,h2,h3]
     subst ax;have hL:((Cs.length:Int)!=(m:Int))=false:=by simp[hL2]
     have bf:m≤100:=by have:=aw.out (by trivial);omega
     have ab:=xQ hL2;clear hL2;have ay:OwnZ w3 cp Cs.length cc Cs:=aKo (M3.ow 0);have a4:Ext w w3:=M3.ext;have y:w.heap.size<w3.heap.size:=(M3.hi 1)
     obtain⟨a6,a7,a8,a9,ba,bb,bc,ah,bd,ai⟩:=(M3.bk 1).ten;go_wp2_with go_in;clear hL;go_loopw [4] (fun i wr=> ∃k:Nat,k≤m∧i= .int .i64 k∧bW aC Cs vs=bW aC (Cs.drop k) (vs.drop k)∧Ext w3 wr) (fun i _=>m-(intOf i).toNat)
     case atStart=>exact⟨0,Nat.zero_le _,rfl,rfl,Ext.refl _⟩
     case round=>
      obtain⟨k,hk,rfl,u,hE⟩:=hrel;have al:wr.cell? ⟨w.heap.size,7,none⟩=some (.int .i64 aC):=(hE.cells.1 _ _ y).trans ah;have be:wr.cell? ⟨w.heap.size,9,none⟩=some (.slice q m c2):=(hE.cells.1 _ _ y).trans ai;have x:w.heap.size<wr.heap.size:=Nat.lt_of_lt_of_le y hE.sz;have ad:=ab.out;by_cases hlt:k<m
      ·obtain⟨b,bg,a0,a1,a2,a3,rfl,hv,hb,g0,g1,g2,g3⟩:=eB (ag.out.ext (a4.trans hE)) hlt;obtain⟨cb,d,c,rfl,hc,t,gc⟩:=(ay.ext hE).int_at (show k<Cs.length by omega);have f:=xQ (u.trans (rZ hc hv));have i1:(0:Int)≤(k:Int):=by omega
       have i2:(k:Int)<(m:Int):=by omega
       have i3:(k:Int)<(Cs.length:Int):=by omega
       clear u hc hv ad;have s:Hid (∀w',Calls Tryz.prog 44 #[bP a1 a2 a3] w' fun e w''=>e= .returned (.bool (cW a1 a2 a3))∧Ext w' w''):=fun w'=>aH0 a1 a2 a3 w'
       go_wp2_with fail;by_cases t0:a0=c
       ·have q0:(a0 !=c)=false:=by simp[t0]
        have T0:=xQ t0;clear t0;cases hst:cW a1 a2 a3 with
        |true=>
         rw[hst]at s;have ae:=xQ hst;clear hst;by_cases t1:aC<a3
         ·have g:Hid (bW aC Cs vs=false):=by show _=_;rw[f.out];simp[eX,ae.out];omega
          go_region_held3 (fun w'=>w'.cell? ⟨wr.heap.size,0,none⟩=some (.int .i64 a0)∧w'.cell? ⟨wr.heap.size,1,none⟩=some (.int .i64 a1)∧w'.cell? ⟨wr.heap.size,2,none⟩=some (.int .i64 a2)∧w'.cell? ⟨wr.heap.size,3,none⟩=some (.int .i64 a3)∧w'.cell? ⟨cb,d+k,none⟩=some (.int .i64 c)∧w'.cell? ⟨w.heap.size,7,none⟩=some (.int .i64 aC)) (go_keep) ((go_at_call 44;refine(s.out _).mono ?_;rintro e w9 ⟨rfl,h9⟩;(try replace h9:=h9.of_drew);have x9:Ext wr w9:=(by first|exact((Ext.refl wr).alloc _).trans h9|exact(((Ext.refl wr).alloc _).drew).trans h9);have aj:=(x9.cells.1 cb (d+k) t).trans gc;have av:=(x9.cells.1 w.heap.size 7 x).trans al;have ak:=h9.cells.1;have o:wr.heap.size<w9.heap.size:=Nat.lt_of_lt_of_le (by simp) h9.sz;have ar:w.heap.size<w9.heap.size:=Nat.lt_trans x o;have au:cb<w9.heap.size:=Nat.lt_trans t o));all_goals go_wp2
          all_goals go_ret
          all_goals exact⟨aR g.out.symm,xE⟩
         have g:Hid (bW aC Cs vs=bW aC (Cs.drop (k+1)) (vs.drop (k+1))):=by show _=_;rw[f.out];simp[eX,ae.out,T0.out];intro h;omega
         go_region_held3 (fun w'=>w'.cell? ⟨wr.heap.size,0,none⟩=some (.int .i64 a0)∧w'.cell? ⟨wr.heap.size,1,none⟩=some (.int .i64 a1)∧w'.cell? ⟨wr.heap.size,2,none⟩=some (.int .i64 a2)∧w'.cell? ⟨wr.heap.size,3,none⟩=some (.int .i64 a3)∧w'.cell? ⟨cb,d+k,none⟩=some (.int .i64 c)∧w'.cell? ⟨w.heap.size,7,none⟩=some (.int .i64 aC)) (go_keep) ((go_at_call 44;refine(s.out _).mono ?_;rintro e w9 ⟨rfl,h9⟩;(try replace h9:=h9.of_drew);have x9:Ext wr w9:=(by first|exact((Ext.refl wr).alloc _).trans h9|exact(((Ext.refl wr).alloc _).drew).trans h9);have aj:=(x9.cells.1 cb (d+k) t).trans gc;have av:=(x9.cells.1 w.heap.size 7 x).trans al;have ak:=h9.cells.1;have o:wr.heap.size<w9.heap.size:=Nat.lt_of_lt_of_le (by simp) h9.sz;have ar:w.heap.size<w9.heap.size:=Nat.lt_trans x o;have au:cb<w9.heap.size:=Nat.lt_trans t o));all_goals go_wp2
         all_goals go_roundw
         all_goals first
          |(case rel=>first|exact⟨k+1,by omega,by go_num,g.out,xE⟩|((repeat apply Exists.intro);exact⟨⟨k+1,by omega,by go_num,g.out,xE⟩,rfl⟩))
          |(case measure=>simp[intOf];omega)
        |false=>
         rw[hst]at s;have g:Hid (bW aC Cs vs=false):=by show _=_;rw[f.out];simp[eX,hst]
         clear hst;refine wp_region_held_drew (S:=fun w'=>w'.cell? ⟨wr.heap.size,0,none⟩=some (.int .i64 a0)∧w'.cell? ⟨wr.heap.size,1,none⟩=some (.int .i64 a1)∧w'.cell? ⟨wr.heap.size,2,none⟩=some (.int .i64 a2)∧w'.cell? ⟨wr.heap.size,3,none⟩=some (.int .i64 a3)∧w'.cell? ⟨cb,d+k,none⟩=some (.int .i64 c)) (by kernel_rfl) (by go_keep) (fun hHeld=> ?_);refine dP (i:=0) (v:= ?_) rfl (by kernel_rfl) (by kernel_rfl) (by kernel_rfl) (fun _ _ _ h=>h) (by rfl) ?_ (by assumption) ?_
         rotate_left
         ·(intro w a;(try dsimp only at a);go_simp;(try with_reducible rfl))
         (try go_frame);refine dP (i:=1) (v:= ?_) rfl (by kernel_rfl) (by kernel_rfl) (by kernel_rfl) (fun _ _ _ h=>h) (by rfl) ?_ (by assumption) ?_
         rotate_left
         ·(intro w a;(try dsimp only at a);go_simp;(try with_reducible rfl))
         (try go_frame);refine dP (i:=2) (v:= ?_) rfl (by kernel_rfl) (by kernel_rfl) (by kernel_rfl) (fun _ _ _ h=>h) (by rfl) ?_ (by assumption) ?_
         rotate_left
         ·(intro w a;(try dsimp only at a);go_simp;(try with_reducible rfl))
         (try go_frame);refine dP (i:=3) (v:= ?_) rfl (by kernel_rfl) (by kernel_rfl) (by kernel_rfl) (fun _ _ _ h=>h) (by rfl) ?_ (by assumption) ?_
         rotate_left
         ·(intro w a;(try dsimp only at a);go_simp;(try with_reducible rfl))
         (try go_frame);refine dP (i:=4) (v:= ?_) rfl (by kernel_rfl) (by kernel_rfl) (by kernel_rfl) (fun _ _ _ h=>h) (by rfl) ?_ (by assumption) ?_
         rotate_left
         ·(intro w a;(try dsimp only at a);go_simp;(try with_reducible rfl))
         (try go_frame);refine dP (i:=5) (v:= ?_) rfl (by kernel_rfl) (by kernel_rfl) (by kernel_rfl) (fun _ _ _ h=>h) (by rfl) ?_ (by assumption) ?_
         rotate_left
         ·(intro w a;(try dsimp only at a);go_simp;(try with_reducible rfl))
         (try go_frame);refine dP (i:=6) (v:= ?_) rfl (by kernel_rfl) (by kernel_rfl) (by kernel_rfl) (fun _ _ _ h=>h) (by rfl) ?_ (by assumption) ?_
         rotate_left
         ·(intro w a;(try dsimp only at a);go_simp;(try with_reducible rfl))
         (try go_frame);refine dP (i:=7) (v:= ?_) rfl (by kernel_rfl) (by kernel_rfl) (by kernel_rfl) (fun _ _ _ h=>h) (by rfl) ?_ (by assumption) ?_
         rotate_left
         ·(intro w a;(try dsimp only at a);go_simp;(try with_reducible rfl))
         (try go_frame);refine dP (i:=8) (v:= ?_) rfl (by kernel_rfl) (by kernel_rfl) (by kernel_rfl) (fun _ _ _ h=>h) (by rfl) ?_ (by assumption) ?_
         rotate_left
         ·(intro w a;(try dsimp only at a);go_simp;(try with_reducible rfl))
         (try go_frame);refine dP (i:=9) (v:= ?_) rfl (by kernel_rfl) (by kernel_rfl) (by kernel_rfl) (fun _ _ _ h=>h) (by rfl) ?_ (by assumption) ?_
         rotate_left
         ·(intro w a;(try dsimp only at a);go_simp;(try with_reducible rfl))
         (try go_frame);refine wpAnyH_ready (rs:= [10]) (by kernel_rfl) (by simp) ?_;refine aJd rfl (fun K hK=> ?_);go_simp;go_at_call 44;refine(s.out _).mono ?_;rintro e w9 ⟨rfl,h9⟩;(try replace h9:=h9.of_drew);have x9:Ext wr w9:=(by first|exact((Ext.refl wr).alloc _).trans h9|exact(((Ext.refl wr).alloc _).drew).trans h9)
         have aj:=(x9.cells.1 cb (d+k) t).trans gc;have ak:=h9.cells.1;have o:wr.heap.size<w9.heap.size:=Nat.lt_of_lt_of_le (by simp) h9.sz;go_wp2_with fail;refine hK.out _ _ (by(try dsimp only);go_keep) (fun hHeld=> ?_);clear hK K;(try go_frame);refine dP (i:=11) (v:= ?_) rfl (by kernel_rfl) (by kernel_rfl) (by kernel_rfl) (fun _ _ _ h=>h) (by rfl) ?_ (by assumption) ?_
         rotate_left
         ·(intro w a;(try dsimp only at a);go_simp;(try with_reducible rfl))
         (try go_frame);refine dP (i:=12) (v:= ?_) rfl (by kernel_rfl) (by kernel_rfl) (by kernel_rfl) (fun _ _ _ h=>h) (by rfl) ?_ (by assumption) ?_
         rotate_left
         ·(intro w a;(try dsimp only at a);go_simp;(try with_reducible rfl))
         (try go_frame);refine dP (i:=13) (v:= ?_) rfl (by kernel_rfl) (by kernel_rfl) (by kernel_rfl) (fun _ _ _ h=>h) (by rfl) ?_ (by assumption) ?_
         rotate_left
         ·(intro w a;(try dsimp only at a);go_simp;(try with_reducible rfl))
         (try go_frame);refine jS (i:=14) rfl (by kernel_rfl) (by kernel_rfl) (by kernel_rfl) (fun _ _ _ h=>h) (by rfl) (by assumption) ?_;(try go_frame);refine jS (i:=15) rfl (by kernel_rfl) (by kernel_rfl) (by kernel_rfl) (fun _ _ _ h=>h) (by rfl) (by assumption) ?_;(try go_frame);refine jS (i:=16) rfl (by kernel_rfl) (by kernel_rfl) (by kernel_rfl) (fun _ _ _ h=>h) (by rfl) (by assumption) ?_;(try go_frame);refine jS (i:=17) rfl (by kernel_rfl) (by kernel_rfl) (by kernel_rfl) (fun _ _ _ h=>h) (by rfl) (by assumption) ?_;(try go_frame);refine jS (i:=18) rfl (by kernel_rfl) (by kernel_rfl) (by kernel_rfl) (fun _ _ _ h=>h) (by rfl) (by assumption) ?_;(try go_frame);refine jS (i:=19) rfl (by kernel_rfl) (by kernel_rfl) (by kernel_rfl) (fun _ _ _ h=>h) (by rfl) (by assumption) ?_;(try go_frame);refine dP (i:=20) (v:= ?_) rfl (by kernel_rfl) (by kernel_rfl) (by kernel_rfl) (fun _ _ _ h=>h) (by rfl) ?_ (by assumption) ?_
         rotate_left
         ·(intro w a;(try dsimp only at a);go_simp;(try with_reducible rfl))
         (try go_frame);refine wpAnyH_done (by kernel_rfl) ?_ _;all_goals go_wp2
         all_goals go_ret
         all_goals exact⟨aR g.out.symm,xE⟩
       have q0:(a0 !=c)=true:=by simp[t0]
       have g:Hid (bW aC Cs vs=false):=by show _=_;rw[f.out];simp[t0]
       clear t0;go_quiet (fail);all_goals go_wp2
       all_goals go_ret
       all_goals exact⟨aR g.out.symm,xE⟩
      have f:Hid (bW aC Cs vs=true):=by show _=_;rw[u,List.drop_eq_nil_of_le (by rw[ab.out];omega),List.drop_eq_nil_of_le (by rw[af.out];omega)];rfl
      clear u;go_wp2;go_ret;exact⟨aR f.out.symm,xE⟩
    skip;have hL:((Cs.length:Int)!=(m:Int))=true:=by simp;omega
    have hR:Hid (R=false):=by show _=_;rw[HR.out,rY (by rw[af.out];exact hL2)];simp
    obtain⟨e0,e1,e2,e3,e4,e5,e6,e7,e8,e9⟩:=(M3.bk 1).ten;go_wp2_with go_in;go_ret;exact⟨aR hR.out.symm,M3.ext⟩
   skip;have hR:Hid (R=false):=by show _=_;rw[HR.out];simp[h3]
   have h:aC<0∨0≤aC∧9999<aC∨0≤aC∧aC≤9999∧aG<0∨0≤aC∧aC≤9999∧0≤aG∧99999<aG:=by omega
   clear h3;obtain⟨e0,e1,e2,e3,e4,e5,e6,e7,e8,e9⟩:=(M3.bk 1).ten;rcases h with h|⟨h0,h⟩|⟨h0,h1,h⟩|⟨h0,h1,h2,h⟩
   all_goals
    (try (have az:decide (aC≤9999)=false:=by simp;omega));(try (have az:decide (aG≤99999)=false:=by simp;omega));go_wp2_with go_in;go_ret;exact⟨aR hR.out.symm,M3.ext⟩
theorem kC (h:aO)(p:OA)(n b:Nat)(q:OA)(m c2:Nat)(w:World)(hi:IsHouse w h p n b q m c2):
  Calls Tryz.prog 12 #[bK h p n b q m c2] w fun e w'=>e= .returned (.bool (aT h))∧Ext w w':=by
 obtain⟨aA,aB,a,c,d,aE,aF,aC,aG,vs⟩:=h;refine aHc aA aB c d aE aF aC aG p n b q m c2 (if aM aA aB a then cJ a else []) vs _ _ _ w hi.vs.bd (fun w' hx=>fV aA aB p n b a w' (hi.cells.ext hx)) (fun w'=>tS c d aE aF w') (fun w' hx=>aKu aA aB p n b a w' (hi.cells.ext hx)) (xQ fun h1=> ?_) hi.vs (xQ ?_)
 ·rw[if_pos h1];have e1:=hU a;have e2:=jA a;have e3:a.length≤12:=by simp only[aM,Bool.and_eq_true]at h1;exact(bZ h1.1).2.2.2.2.2.1
  omega
 show aT _=_;unfold aT rG;dsimp only;cases aM aA aB a<;>simp
end Go.Proofs.YtpelpnfhbepokaaGreatDoor
namespace Go.Proofs.YtpelpnfhbepokaaGreatDoor
open Go.RowKit
set_option linter.unusedVariables false
abbrev TV:TypeId:=76
def dG (h:aO)(w:World)(e:Ending)(w':World):Prop:=
 ∃p cap q c2,e= .returned (bK h p h.cells.length cap q h.vs.length c2)∧w'.ownsRow w.heap.size TI 1 (.slice p h.cells.length cap) h.cells.length (ivs h.cells)∧w'.ownsRow w.heap.size TV 4 (.slice q h.vs.length c2) h.vs.length (h.vs.flatMap aD)∧Ext w w'
end Go.Proofs.YtpelpnfhbepokaaGreatDoor
