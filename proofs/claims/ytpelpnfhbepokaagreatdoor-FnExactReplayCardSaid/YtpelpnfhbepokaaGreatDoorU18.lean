/-
  Texts of this proof, packed (@packed).
-/
import Derived.Deep.RegionHeld3
import Derived.Test.YtpelpnfhbepokaaGreatDoorU1
import Derived.Test.YtpelpnfhbepokaaGreatDoorU4
import Derived.Test.YtpelpnfhbepokaaGreatDoorU12
namespace Go.Proofs.YtpelpnfhbepokaaGreatDoor
open Go.RowKit
set_option linter.unusedVariables false
section
variable {P:Program} {l:List Oper} {Q:Exit→Act→World→Prop} {md:Region.Mode} {S:World→Prop}
theorem dM {i:Nat}{oi:Oper}{v:Value}{d:Nat}{b:Array Bool}{a:Act}{w:World}(hi:l[i]? =some oi)
  (hs:Region.noSelect l.toArray=true) (hf:Region.free md l.toArray b i=true) (hr:(Region.ready md l.toArray b).contains i=true)
  (hQ: ∀c a w,Q (.panic c) (a.put oi.dst v) w→Q (.panic c) a w) (hw:Region.wanted oi (yielded l.toArray a.tmps)=true) (hy: ∀w,S w→(execOp a.eval oi).run P w= .ok (.value v) w) (hS:S w)
  (h:wpAnyH P md l.toArray Q S d (b.setIfInBounds i true) (a.put oi.dst v) w):wpAnyH P md l.toArray Q S (d+1) b a w:=
 wpAnyH_take (by simpa using hi) hs hf hr hQ (.inl ⟨hw,hy⟩) hS h
theorem kA {i:Nat}{oi:Oper}{d:Nat}{b:Array Bool}{a:Act}{w:World}(hi:l[i]? =some oi)
  (hs:Region.noSelect l.toArray=true) (hf:Region.free md l.toArray b i=true) (hr:(Region.ready md l.toArray b).contains i=true)
  (hQ: ∀c a w,Q (.panic c) (a.put oi.dst undef) w→Q (.panic c) a w) (hw:Region.wanted oi (yielded l.toArray a.tmps)=false) (hS:S w)
  (h:wpAnyH P md l.toArray Q S d (b.setIfInBounds i true) (a.put oi.dst undef) w):wpAnyH P md l.toArray Q S (d+1) b a w:=
 wpAnyH_take (by simpa using hi) hs hf hr hQ (.inr ⟨hw,rfl⟩) hS h
theorem aKx {c:Nat}{b:Array Bool}{a:Act}{w:World}{i:Nat}{o:Oper}(ho:l[i]? =some o)
  (h: ∀K':Act→World→Prop,Shut (∀a w,S w→(S w→wpAnyH P md l.toArray Q S c (b.setIfInBounds i true) a w)→K' a w)→if Region.wanted o (yielded l.toArray a.tmps)=true then Oper.wp P o a w K' Q else K' (a.put o.dst undef) w):
  AllReadyH P md l.toArray Q S c b a w [i]:=AllReadyH.cons (by simpa using ho) h AllReadyH.nil
end
end Go.Proofs.YtpelpnfhbepokaaGreatDoor
namespace Go.Proofs.YtpelpnfhbepokaaGreatDoor
open Go.RowKit
set_option linter.unusedVariables false
set_option maxHeartbeats 8000000
set_option maxRecDepth 100000
abbrev cA (h:aW)(p:OA)(n cap:Nat)(q:OA)(m c2:Nat):Value:=
 .agg #[h.aA,h.aB,.slice p n cap,h.free,h.step,h.aE,h.aG,h.aD,h.aF,.slice q m c2]
structure IsHouse (w:World) (h:aW) (p:OA) (n cap:Nat) (q:OA) (m c2:Nat):Prop where
 cells:Sl w p n cap 1 (ivs h.cells)
 vs:Sl w q m c2 4 (h.vs.flatMap aC)
theorem IsHouse.ext {w w':World}{h:aW}{p q:OA}{n cap m c2:Nat}(i:IsHouse w h p n cap q m c2)(hx:Ext w w'):IsHouse w' h p n cap q m c2:=⟨i.cells.ext hx,i.vs.ext hx⟩
theorem IsHouse.vlen {w:World}{h:aW}{p q:OA}{n cap m c2:Nat}(i:IsHouse w h p n cap q m c2):h.vs.length=m:=by have:=i.vs.len;rw[cX aC 4 (fun _=>rfl)]at this;omega
theorem IsHouse.clen {w:World}{h:aW}{p q:OA}{n cap m c2:Nat}(i:IsHouse w h p n cap q m c2):h.cells.length=n:=i.cells.ilen
theorem eN {w:World}{q:OA}{m c2:Nat}{vs:List aQ}(h:Sl w q m c2 4 (vs.flatMap aC)){k:Nat}(hk:k<m):
  ∃b off a0 a1 a2 a3,q=some ⟨b,off,none⟩∧vs[k]? =some (a0,a1,a2,a3)∧b<w.heap.size∧w.cell? ⟨b,off+k*4,none⟩=some (.int .i64 a0)∧w.cell? ⟨b,off+k*4+1,none⟩=some (.int .i64 a1)∧w.cell? ⟨b,off+k*4+2,none⟩=some (.int .i64 a2)∧w.cell? ⟨b,off+k*4+3,none⟩=some (.int .i64 a3):=by
 obtain⟨b,off,x,hp,hx,hb,hc⟩:=Sl.at_ (sz:=4) (f:=aC) (fun _=>rfl) h hk (by omega);obtain⟨a0,a1,a2,a3⟩:=x;exact⟨b,off,a0,a1,a2,a3,hp,hx,hb,hc 0 (by omega),hc 1 (by omega),hc 2 (by omega),hc 3 (by omega)⟩
def OwnZ (w:World)(p:OA)(n c:Nat)(xs:List Int):Prop:=Sl w p n c 1 (ivs xs)
theorem OwnZ.ext {w w':World}{p:OA}{n c:Nat}{xs:List Int}(h:OwnZ w p n c xs)(hx:Ext w w'):Sl w' p n c 1 (ivs xs):=Sl.ext h hx
theorem aM6 {w:World}{B n c:Nat}{p:OA}{xs:List Int}(h:w.ownsRow B TI 1 (.slice p n c) n (ivs xs)):OwnZ w p n c xs:=Sl.own h
theorem aK5 (aA aB j l aE aG aD aF:Int)(p:OA)(n cap:Nat)(q:OA)(m c2:Nat)(Cs:List Int)(vs:List aQ)(b1 b2 R:Bool)(w:World)(hm:m≤9223372036854775807)
  (HV:xB 53 #[aH aA aB p n cap] w b1)
  (TV:Hid (∀w',Calls Tryz.prog 51 #[aR j l aE aG] w' fun e w''=>e= .returned (.bool b2)∧Ext w' w''))
  (HC:Hid (∀w',Ext w w'→Calls Tryz.prog 23 #[aH aA aB p n cap] w' (bH Cs w')))(av:Hid (b1=true→Cs.length≤100))(af:Hid (Sl w q m c2 4 (vs.flatMap aC)))
  (HR:Hid (R=(b1&&b2&&decide (0≤aD∧aD≤9999∧0≤aF∧aF≤99999)&&bS aD Cs vs))):
  Calls Tryz.prog 18 #[.agg #[aA,aB,.slice p n cap,j,l,aE,aG,aD,aF,.slice q m c2]] w fun e w'=>e= .returned (.bool R)∧Ext w w':=by
 have am:vs.length=m:=by have:=af.out.len;rw[cX aC 4 (fun _=>rfl)]at this;omega
 have ae:=xQ am;clear am;go_enter Tryz.func18,Tryz.ntmps18;go_wp2_with fail;refine(HV _ ((Mem.start w).c0 30 #[aA,aB,.slice p n cap,j,l,aE,aG,aD,aF,.slice q m c2]).ext).mono ?_;rintro e w1 ⟨rfl,an⟩;have M1:=(((Mem.start w).c0 30 #[aA,aB,.slice p n cap,j,l,aE,aG,aD,aF,.slice q m c2]).adv an)
 have y:=M1.hi 0;clear an;cases b1 with
 |false=>
  have hR:Hid (R=false):=by show _=_;rw[HR.out];rfl
  obtain⟨e0,e1,e2,e3,e4,e5,e6,e7,e8,e9⟩:=(M1.bk 0).ten;go_wp2;go_ret;exact⟨aO hR.out.symm,M1.ext⟩
 |true=>
  obtain⟨e0,e1,e2,e3,e4,e5,e6,e7,e8,e9⟩:=(M1.bk 0).ten;go_wp2_with fail;clear e0 e1 e2 e3 e4 e5 e6 e7 e8 e9;refine(TV _).mono ?_;rintro e w2 ⟨rfl,ao⟩;have M2:=(M1.adv ao)
  clear M1 y ao;have z:=M2.hi 0;cases b2 with
  |false=>
   have hR:Hid (R=false):=by show _=_;rw[HR.out];rfl
   obtain⟨e0,e1,e2,e3,e4,e5,e6,e7,e8,e9⟩:=(M2.bk 0).ten;go_wp2;go_ret;exact⟨aO hR.out.symm,M2.ext⟩
  |true=>
   by_cases h3:0≤aD∧aD≤9999∧0≤aF∧aF≤99999
   ·skip;obtain⟨h0,h1,h2,h3⟩:=h3;obtain⟨e0,e1,e2,e3,e4,e5,e6,e7,e8,e9⟩:=(M2.bk 0).ten;go_wp2_with fail;clear e0 e1 e2 e3 e4 e5 e6 e7 e8 e9;refine(HC _ M2.ext).mono ?_;rintro e w3 ⟨cp,cc,rfl,al,ap⟩;have M3:=(M2.call ap al)
    clear M2 z ap al;have a4:=M3.hi 1;by_cases hL2:Cs.length=m
    ·skip;have aw:R=bS aD Cs vs:=by rw[HR.out];simp[h0,h1,h2,h3]
     subst aw;have hL:((Cs.length:Int)!=(m:Int))=false:=by simp[hL2]
     have be:m≤100:=by have:=av.out (by trivial);omega
     have aa:=xQ hL2;clear hL2;have ax:OwnZ w3 cp Cs.length cc Cs:=aM6 (M3.ow 0);have az:Ext w w3:=M3.ext;have x:w.heap.size<w3.heap.size:=(M3.hi 1)
     obtain⟨a5,a6,a7,a8,a9,ba,bb,ag,bc,ah⟩:=(M3.bk 1).ten;go_wp2;clear hL;go_loopw [48] (fun i wr=> ∃k:Nat,k≤m∧i= .int .i64 k∧bS aD Cs vs=bS aD (Cs.drop k) (vs.drop k)∧Ext w3 wr) (fun i _=>m-(intOf i).toNat)
     case atStart=>exact⟨0,Nat.zero_le _,rfl,rfl,Ext.refl _⟩
     case round=>
      obtain⟨k,hk,rfl,t,hE⟩:=hrel;have ak:wr.cell? ⟨w.heap.size,7,none⟩=some (.int .i64 aD):=(hE.cells.1 _ _ x).trans ag;have bd:wr.cell? ⟨w.heap.size,9,none⟩=some (.slice q m c2):=(hE.cells.1 _ _ x).trans ah;have u:w.heap.size<wr.heap.size:=Nat.lt_of_lt_of_le x hE.sz;have ab:=aa.out;by_cases hlt:k<m
      ·obtain⟨b,bf,a0,a1,a2,a3,rfl,hv,hb,g0,g1,g2,g3⟩:=eN (af.out.ext (az.trans hE)) hlt;obtain⟨cb,d,c,rfl,hc,s,gc⟩:=(ax.ext hE).int_at (show k<Cs.length by omega);have f:=xQ (t.trans (sR hc hv));have i1:(0:Int)≤(k:Int):=by omega
       have i2:(k:Int)<(m:Int):=by omega
       have i3:(k:Int)<(Cs.length:Int):=by omega
       clear t hc hv ab;have r:Hid (∀w',Calls Tryz.prog 54 #[bN a1 a2 a3] w' fun e w''=>e= .returned (.bool (cZ a1 a2 a3))∧Ext w' w''):=fun w'=>aJw a1 a2 a3 w'
       go_wp2_with fail;by_cases t0:a0=c
       ·have q0:(a0 !=c)=false:=by simp[t0]
        have T0:=xQ t0;clear t0;cases hst:cZ a1 a2 a3 with
        |true=>
         rw[hst]at r;have ad:=xQ hst;clear hst;by_cases t1:aD<a3
         ·have g:Hid (bS aD Cs vs=false):=by show _=_;rw[f.out];simp[fN,ad.out];omega
          go_region_held3 (fun w'=>w'.cell? ⟨wr.heap.size,0,none⟩=some (.int .i64 a0)∧w'.cell? ⟨wr.heap.size,1,none⟩=some (.int .i64 a1)∧w'.cell? ⟨wr.heap.size,2,none⟩=some (.int .i64 a2)∧w'.cell? ⟨wr.heap.size,3,none⟩=some (.int .i64 a3)∧w'.cell? ⟨cb,d+k,none⟩=some (.int .i64 c)∧w'.cell? ⟨w.heap.size,7,none⟩=some (.int .i64 aD)) (go_keep) ((go_at_call 54;refine(r.out _).mono ?_;rintro e w9 ⟨rfl,h9⟩;(try replace h9:=h9.of_drew);have x9:Ext wr w9:=(by first|exact((Ext.refl wr).alloc _).trans h9|exact(((Ext.refl wr).alloc _).drew).trans h9);have ai:=(x9.cells.1 cb (d+k) s).trans gc;have au:=(x9.cells.1 w.heap.size 7 u).trans ak;have aj:=h9.cells.1;have o:wr.heap.size<w9.heap.size:=Nat.lt_of_lt_of_le (by simp) h9.sz;have aq:w.heap.size<w9.heap.size:=Nat.lt_trans u o;have ar:cb<w9.heap.size:=Nat.lt_trans s o));all_goals go_wp2
          all_goals go_ret
          all_goals exact⟨aO g.out.symm,xE⟩
         have g:Hid (bS aD Cs vs=bS aD (Cs.drop (k+1)) (vs.drop (k+1))):=by show _=_;rw[f.out];simp[fN,ad.out,T0.out];intro h;omega
         go_region_held3 (fun w'=>w'.cell? ⟨wr.heap.size,0,none⟩=some (.int .i64 a0)∧w'.cell? ⟨wr.heap.size,1,none⟩=some (.int .i64 a1)∧w'.cell? ⟨wr.heap.size,2,none⟩=some (.int .i64 a2)∧w'.cell? ⟨wr.heap.size,3,none⟩=some (.int .i64 a3)∧w'.cell? ⟨cb,d+k,none⟩=some (.int .i64 c)∧w'.cell? ⟨w.heap.size,7,none⟩=some (.int .i64 aD)) (go_keep) ((go_at_call 54;refine(r.out _).mono ?_;rintro e w9 ⟨rfl,h9⟩;(try replace h9:=h9.of_drew);have x9:Ext wr w9:=(by first|exact((Ext.refl wr).alloc _).trans h9|exact(((Ext.refl wr).alloc _).drew).trans h9);have ai:=(x9.cells.1 cb (d+k) s).trans gc;have au:=(x9.cells.1 w.heap.size 7 u).trans ak;have aj:=h9.cells.1;have o:wr.heap.size<w9.heap.size:=Nat.lt_of_lt_of_le (by simp) h9.sz;have aq:w.heap.size<w9.heap.size:=Nat.lt_trans u o;have ar:cb<w9.heap.size:=Nat.lt_trans s o));all_goals go_wp2
         all_goals go_roundw
         all_goals first
          |(case rel=>first|exact⟨k+1,by omega,by go_num,g.out,xE⟩|((repeat apply Exists.intro);exact⟨⟨k+1,by omega,by go_num,g.out,xE⟩,rfl⟩))
          |(case measure=>simp[intOf];omega)
        |false=>
         rw[hst]at r;have g:Hid (bS aD Cs vs=false):=by show _=_;rw[f.out];simp[fN,hst]
         clear hst;refine wp_region_held_drew (S:=fun w'=>w'.cell? ⟨wr.heap.size,0,none⟩=some (.int .i64 a0)∧w'.cell? ⟨wr.heap.size,1,none⟩=some (.int .i64 a1)∧w'.cell? ⟨wr.heap.size,2,none⟩=some (.int .i64 a2)∧w'.cell? ⟨wr.heap.size,3,none⟩=some (.int .i64 a3)∧w'.cell? ⟨cb,d+k,none⟩=some (.int .i64 c)) (by kernel_rfl) (by go_keep) (fun hHeld=> ?_);refine dM (i:=0) (v:= ?_) rfl (by kernel_rfl) (by kernel_rfl) (by kernel_rfl) (fun _ _ _ h=>h) (by rfl) ?_ (by assumption) ?_
         rotate_left
         ·(intro w a;(try dsimp only at a);go_simp;(try with_reducible rfl))
         (try go_frame);refine dM (i:=1) (v:= ?_) rfl (by kernel_rfl) (by kernel_rfl) (by kernel_rfl) (fun _ _ _ h=>h) (by rfl) ?_ (by assumption) ?_
         rotate_left
         ·(intro w a;(try dsimp only at a);go_simp;(try with_reducible rfl))
         (try go_frame);refine dM (i:=2) (v:= ?_) rfl (by kernel_rfl) (by kernel_rfl) (by kernel_rfl) (fun _ _ _ h=>h) (by rfl) ?_ (by assumption) ?_
         rotate_left
         ·(intro w a;(try dsimp only at a);go_simp;(try with_reducible rfl))
         (try go_frame);refine dM (i:=3) (v:= ?_) rfl (by kernel_rfl) (by kernel_rfl) (by kernel_rfl) (fun _ _ _ h=>h) (by rfl) ?_ (by assumption) ?_
         rotate_left
         ·(intro w a;(try dsimp only at a);go_simp;(try with_reducible rfl))
         (try go_frame);refine dM (i:=4) (v:= ?_) rfl (by kernel_rfl) (by kernel_rfl) (by kernel_rfl) (fun _ _ _ h=>h) (by rfl) ?_ (by assumption) ?_
         rotate_left
         ·(intro w a;(try dsimp only at a);go_simp;(try with_reducible rfl))
         (try go_frame);refine dM (i:=5) (v:= ?_) rfl (by kernel_rfl) (by kernel_rfl) (by kernel_rfl) (fun _ _ _ h=>h) (by rfl) ?_ (by assumption) ?_
         rotate_left
         ·(intro w a;(try dsimp only at a);go_simp;(try with_reducible rfl))
         (try go_frame);refine dM (i:=6) (v:= ?_) rfl (by kernel_rfl) (by kernel_rfl) (by kernel_rfl) (fun _ _ _ h=>h) (by rfl) ?_ (by assumption) ?_
         rotate_left
         ·(intro w a;(try dsimp only at a);go_simp;(try with_reducible rfl))
         (try go_frame);refine dM (i:=7) (v:= ?_) rfl (by kernel_rfl) (by kernel_rfl) (by kernel_rfl) (fun _ _ _ h=>h) (by rfl) ?_ (by assumption) ?_
         rotate_left
         ·(intro w a;(try dsimp only at a);go_simp;(try with_reducible rfl))
         (try go_frame);refine dM (i:=8) (v:= ?_) rfl (by kernel_rfl) (by kernel_rfl) (by kernel_rfl) (fun _ _ _ h=>h) (by rfl) ?_ (by assumption) ?_
         rotate_left
         ·(intro w a;(try dsimp only at a);go_simp;(try with_reducible rfl))
         (try go_frame);refine dM (i:=9) (v:= ?_) rfl (by kernel_rfl) (by kernel_rfl) (by kernel_rfl) (fun _ _ _ h=>h) (by rfl) ?_ (by assumption) ?_
         rotate_left
         ·(intro w a;(try dsimp only at a);go_simp;(try with_reducible rfl))
         (try go_frame);refine wpAnyH_ready (rs:= [10]) (by kernel_rfl) (by simp) ?_;refine aKx rfl (fun K hK=> ?_);go_simp;go_at_call 54;refine(r.out _).mono ?_;rintro e w9 ⟨rfl,h9⟩;(try replace h9:=h9.of_drew);have x9:Ext wr w9:=(by first|exact((Ext.refl wr).alloc _).trans h9|exact(((Ext.refl wr).alloc _).drew).trans h9)
         have ai:=(x9.cells.1 cb (d+k) s).trans gc;have aj:=h9.cells.1;have o:wr.heap.size<w9.heap.size:=Nat.lt_of_lt_of_le (by simp) h9.sz;go_wp2_with fail;refine hK.out _ _ (by(try dsimp only);go_keep) (fun hHeld=> ?_);clear hK K;(try go_frame);refine dM (i:=11) (v:= ?_) rfl (by kernel_rfl) (by kernel_rfl) (by kernel_rfl) (fun _ _ _ h=>h) (by rfl) ?_ (by assumption) ?_
         rotate_left
         ·(intro w a;(try dsimp only at a);go_simp;(try with_reducible rfl))
         (try go_frame);refine dM (i:=12) (v:= ?_) rfl (by kernel_rfl) (by kernel_rfl) (by kernel_rfl) (fun _ _ _ h=>h) (by rfl) ?_ (by assumption) ?_
         rotate_left
         ·(intro w a;(try dsimp only at a);go_simp;(try with_reducible rfl))
         (try go_frame);refine dM (i:=13) (v:= ?_) rfl (by kernel_rfl) (by kernel_rfl) (by kernel_rfl) (fun _ _ _ h=>h) (by rfl) ?_ (by assumption) ?_
         rotate_left
         ·(intro w a;(try dsimp only at a);go_simp;(try with_reducible rfl))
         (try go_frame);refine kA (i:=14) rfl (by kernel_rfl) (by kernel_rfl) (by kernel_rfl) (fun _ _ _ h=>h) (by rfl) (by assumption) ?_;(try go_frame);refine kA (i:=15) rfl (by kernel_rfl) (by kernel_rfl) (by kernel_rfl) (fun _ _ _ h=>h) (by rfl) (by assumption) ?_;(try go_frame);refine kA (i:=16) rfl (by kernel_rfl) (by kernel_rfl) (by kernel_rfl) (fun _ _ _ h=>h) (by rfl) (by assumption) ?_;(try go_frame);refine kA (i:=17) rfl (by kernel_rfl) (by kernel_rfl) (by kernel_rfl) (fun _ _ _ h=>h) (by rfl) (by assumption) ?_;(try go_frame);refine kA (i:=18) rfl (by kernel_rfl) (by kernel_rfl) (by kernel_rfl) (fun _ _ _ h=>h) (by rfl) (by assumption) ?_;(try go_frame);refine kA (i:=19) rfl (by kernel_rfl) (by kernel_rfl) (by kernel_rfl) (fun _ _ _ h=>h) (by rfl) (by assumption) ?_;(try go_frame);refine dM (i:=20) (v:= ?_) rfl (by kernel_rfl) (by kernel_rfl) (by kernel_rfl) (fun _ _ _ h=>h) (by rfl) ?_ (by assumption) ?_
         rotate_left
         ·(intro w a;(try dsimp only at a);go_simp;(try with_reducible rfl))
         (try go_frame);refine wpAnyH_done (by kernel_rfl) ?_ _;all_goals go_wp2
         all_goals go_ret
         all_goals exact⟨aO g.out.symm,xE⟩
       have q0:(a0 !=c)=true:=by simp[t0]
       have g:Hid (bS aD Cs vs=false):=by show _=_;rw[f.out];simp[t0]
       clear t0;go_quiet (fail);all_goals go_wp2
       all_goals go_ret
       all_goals exact⟨aO g.out.symm,xE⟩
      have f:Hid (bS aD Cs vs=true):=by show _=_;rw[t,List.drop_eq_nil_of_le (by rw[aa.out];omega),List.drop_eq_nil_of_le (by rw[ae.out];omega)];rfl
      clear t;go_wp2;go_ret;exact⟨aO f.out.symm,xE⟩
    skip;have hL:((Cs.length:Int)!=(m:Int))=true:=by simp;omega
    have hR:Hid (R=false):=by show _=_;rw[HR.out,sQ (by rw[ae.out];exact hL2)];simp
    obtain⟨e0,e1,e2,e3,e4,e5,e6,e7,e8,e9⟩:=(M3.bk 1).ten;go_wp2;go_ret;exact⟨aO hR.out.symm,M3.ext⟩
   skip;have hR:Hid (R=false):=by show _=_;rw[HR.out];simp[h3]
   have h:aD<0∨0≤aD∧9999<aD∨0≤aD∧aD≤9999∧aF<0∨0≤aD∧aD≤9999∧0≤aF∧99999<aF:=by omega
   clear h3;obtain⟨e0,e1,e2,e3,e4,e5,e6,e7,e8,e9⟩:=(M2.bk 0).ten;rcases h with h|⟨h0,h⟩|⟨h0,h1,h⟩|⟨h0,h1,h2,h⟩
   all_goals
    (try (have ay:decide (aD≤9999)=false:=by simp;omega));(try (have ay:decide (aF≤99999)=false:=by simp;omega));go_wp2;go_ret;exact⟨aO hR.out.symm,M2.ext⟩
theorem oP (h:aW)(p:OA)(n cap:Nat)(q:OA)(m c2:Nat)(w:World)(hi:IsHouse w h p n cap q m c2):
  Calls Tryz.prog 18 #[cA h p n cap q m c2] w fun e w'=>e= .returned (.bool (bU h))∧Ext w w':=by
 obtain⟨aA,aB,a,b,c,aE,aG,aD,aF,vs⟩:=h;refine aK5 aA aB b c aE aG aD aF p n cap q m c2 (if aN aA aB a then gE a else []) vs _ _ _ w hi.vs.bd (fun w' hx=>fW aA aB p n cap a w' (hi.cells.ext hx)) (fun w'=>aA7 b c aE aG w') (fun w' hx=>aMt aA aB p n cap a w' (hi.cells.ext hx)) (xQ fun h1=> ?_) hi.vs (xQ ?_)
 ·rw[if_pos h1];have e1:=pX a;have e2:=rV a;have e3:a.length≤12:=by simp only[aN,Bool.and_eq_true]at h1;exact(cG h1.1).2.2.2.2.2.1
  omega
 show bU _=_;unfold bU uV;dsimp only;cases aN aA aB a<;>simp
theorem aIy (aA aB j l aE aG aD aF:Int)(p:OA)(n cap:Nat)(q:OA)(m c2:Nat)(Cs:List Int)(vs:List aQ)(b1 b2 R:Bool)(w:World)(hm:m≤9223372036854775807)
  (HV:xB 41 #[aH aA aB p n cap] w b1)
  (TV:Hid (∀w',Calls Tryz.prog 42 #[aR j l aE aG] w' fun e w''=>e= .returned (.bool b2)∧Ext w' w''))
  (HC:Hid (∀w',Ext w w'→Calls Tryz.prog 40 #[aH aA aB p n cap] w' (bH Cs w')))(av:Hid (b1=true→Cs.length≤100))(af:Hid (Sl w q m c2 4 (vs.flatMap aC)))
  (HR:Hid (R=(b1&&b2&&decide (0≤aD∧aD≤9999∧0≤aF∧aF≤99999)&&bS aD Cs vs))):
  Calls Tryz.prog 12 #[.agg #[aA,aB,.slice p n cap,j,l,aE,aG,aD,aF,.slice q m c2]] w fun e w'=>e= .returned (.bool R)∧Ext w w':=by
 have am:vs.length=m:=by have:=af.out.len;rw[cX aC 4 (fun _=>rfl)]at this;omega
 have ae:=xQ am;clear am;go_enter Tryz.func12,Tryz.ntmps12;go_wp2_with fail;refine(HC _ ((Mem.start w).c0 30 #[aA,aB,.slice p n cap,j,l,aE,aG,aD,aF,.slice q m c2]).ext).mono ?_;rintro e w1 ⟨cp,cc,rfl,al,an⟩;have M1:=(((Mem.start w).c0 30 #[aA,aB,.slice p n cap,j,l,aE,aG,aD,aF,.slice q m c2]).call an al)
 have y:=M1.hi 1;clear an al;obtain⟨e0,e1,e2,e3,e4,e5,e6,e7,e8,e9⟩:=(M1.bk 1).ten;go_wp2_with fail;clear e0 e1 e2 e3 e4 e5 e6 e7 e8 e9;refine(HV _ M1.ext).mono ?_;rintro e w2 ⟨rfl,ao⟩;have M2:=(M1.adv ao)
 clear M1 y ao;have z:=M2.hi 1;cases b1 with
 |false=>
  have hR:Hid (R=false):=by show _=_;rw[HR.out];rfl
  obtain⟨e0,e1,e2,e3,e4,e5,e6,e7,e8,e9⟩:=(M2.bk 1).ten;go_wp2_with go_in;go_ret;exact⟨aO hR.out.symm,M2.ext⟩
 |true=>
  obtain⟨e0,e1,e2,e3,e4,e5,e6,e7,e8,e9⟩:=(M2.bk 1).ten;go_wp2_with fail;clear e0 e1 e2 e3 e4 e5 e6 e7 e8 e9;refine(TV _).mono ?_;rintro e w3 ⟨rfl,ap⟩;have M3:=(M2.adv ap)
  clear M2 z ap;have a4:=M3.hi 1;cases b2 with
  |false=>
   have hR:Hid (R=false):=by show _=_;rw[HR.out];rfl
   obtain⟨e0,e1,e2,e3,e4,e5,e6,e7,e8,e9⟩:=(M3.bk 1).ten;go_wp2_with go_in;go_ret;exact⟨aO hR.out.symm,M3.ext⟩
  |true=>
   by_cases h3:0≤aD∧aD≤9999∧0≤aF∧aF≤99999
   ·skip;obtain⟨h0,h1,h2,h3⟩:=h3;by_cases hL2:Cs.length=m
    ·skip;have aw:R=bS aD Cs vs:=by rw[HR.out];simp[h0,h1,h2,h3]
     subst aw;have hL:((Cs.length:Int)!=(m:Int))=false:=by simp[hL2]
     have be:m≤100:=by have:=av.out (by trivial);omega
     have aa:=xQ hL2;clear hL2;have ax:OwnZ w3 cp Cs.length cc Cs:=aM6 (M3.ow 0);have az:Ext w w3:=M3.ext;have x:w.heap.size<w3.heap.size:=(M3.hi 1)
     obtain⟨a5,a6,a7,a8,a9,ba,bb,ag,bc,ah⟩:=(M3.bk 1).ten;go_wp2_with go_in;clear hL;go_loopw [4] (fun i wr=> ∃k:Nat,k≤m∧i= .int .i64 k∧bS aD Cs vs=bS aD (Cs.drop k) (vs.drop k)∧Ext w3 wr) (fun i _=>m-(intOf i).toNat)
     case atStart=>exact⟨0,Nat.zero_le _,rfl,rfl,Ext.refl _⟩
     case round=>
      obtain⟨k,hk,rfl,t,hE⟩:=hrel;have ak:wr.cell? ⟨w.heap.size,7,none⟩=some (.int .i64 aD):=(hE.cells.1 _ _ x).trans ag;have bd:wr.cell? ⟨w.heap.size,9,none⟩=some (.slice q m c2):=(hE.cells.1 _ _ x).trans ah;have u:w.heap.size<wr.heap.size:=Nat.lt_of_lt_of_le x hE.sz;have ab:=aa.out;by_cases hlt:k<m
      ·obtain⟨b,bf,a0,a1,a2,a3,rfl,hv,hb,g0,g1,g2,g3⟩:=eN (af.out.ext (az.trans hE)) hlt;obtain⟨cb,d,c,rfl,hc,s,gc⟩:=(ax.ext hE).int_at (show k<Cs.length by omega);have f:=xQ (t.trans (sR hc hv));have i1:(0:Int)≤(k:Int):=by omega
       have i2:(k:Int)<(m:Int):=by omega
       have i3:(k:Int)<(Cs.length:Int):=by omega
       clear t hc hv ab;have r:Hid (∀w',Calls Tryz.prog 44 #[bN a1 a2 a3] w' fun e w''=>e= .returned (.bool (cZ a1 a2 a3))∧Ext w' w''):=fun w'=>aIm a1 a2 a3 w'
       go_wp2_with fail;by_cases t0:a0=c
       ·have q0:(a0 !=c)=false:=by simp[t0]
        have T0:=xQ t0;clear t0;cases hst:cZ a1 a2 a3 with
        |true=>
         rw[hst]at r;have ad:=xQ hst;clear hst;by_cases t1:aD<a3
         ·have g:Hid (bS aD Cs vs=false):=by show _=_;rw[f.out];simp[fN,ad.out];omega
          go_region_held3 (fun w'=>w'.cell? ⟨wr.heap.size,0,none⟩=some (.int .i64 a0)∧w'.cell? ⟨wr.heap.size,1,none⟩=some (.int .i64 a1)∧w'.cell? ⟨wr.heap.size,2,none⟩=some (.int .i64 a2)∧w'.cell? ⟨wr.heap.size,3,none⟩=some (.int .i64 a3)∧w'.cell? ⟨cb,d+k,none⟩=some (.int .i64 c)∧w'.cell? ⟨w.heap.size,7,none⟩=some (.int .i64 aD)) (go_keep) ((go_at_call 44;refine(r.out _).mono ?_;rintro e w9 ⟨rfl,h9⟩;(try replace h9:=h9.of_drew);have x9:Ext wr w9:=(by first|exact((Ext.refl wr).alloc _).trans h9|exact(((Ext.refl wr).alloc _).drew).trans h9);have ai:=(x9.cells.1 cb (d+k) s).trans gc;have au:=(x9.cells.1 w.heap.size 7 u).trans ak;have aj:=h9.cells.1;have o:wr.heap.size<w9.heap.size:=Nat.lt_of_lt_of_le (by simp) h9.sz;have aq:w.heap.size<w9.heap.size:=Nat.lt_trans u o;have ar:cb<w9.heap.size:=Nat.lt_trans s o));all_goals go_wp2
          all_goals go_ret
          all_goals exact⟨aO g.out.symm,xE⟩
         have g:Hid (bS aD Cs vs=bS aD (Cs.drop (k+1)) (vs.drop (k+1))):=by show _=_;rw[f.out];simp[fN,ad.out,T0.out];intro h;omega
         go_region_held3 (fun w'=>w'.cell? ⟨wr.heap.size,0,none⟩=some (.int .i64 a0)∧w'.cell? ⟨wr.heap.size,1,none⟩=some (.int .i64 a1)∧w'.cell? ⟨wr.heap.size,2,none⟩=some (.int .i64 a2)∧w'.cell? ⟨wr.heap.size,3,none⟩=some (.int .i64 a3)∧w'.cell? ⟨cb,d+k,none⟩=some (.int .i64 c)∧w'.cell? ⟨w.heap.size,7,none⟩=some (.int .i64 aD)) (go_keep) ((go_at_call 44;refine(r.out _).mono ?_;rintro e w9 ⟨rfl,h9⟩;(try replace h9:=h9.of_drew);have x9:Ext wr w9:=(by first|exact((Ext.refl wr).alloc _).trans h9|exact(((Ext.refl wr).alloc _).drew).trans h9);have ai:=(x9.cells.1 cb (d+k) s).trans gc;have au:=(x9.cells.1 w.heap.size 7 u).trans ak;have aj:=h9.cells.1;have o:wr.heap.size<w9.heap.size:=Nat.lt_of_lt_of_le (by simp) h9.sz;have aq:w.heap.size<w9.heap.size:=Nat.lt_trans u o;have ar:cb<w9.heap.size:=Nat.lt_trans s o));all_goals go_wp2
         all_goals go_roundw
         all_goals first
          |(case rel=>first|exact⟨k+1,by omega,by go_num,g.out,xE⟩|((repeat apply Exists.intro);exact⟨⟨k+1,by omega,by go_num,g.out,xE⟩,rfl⟩))
          |(case measure=>simp[intOf];omega)
        |false=>
         rw[hst]at r;have g:Hid (bS aD Cs vs=false):=by show _=_;rw[f.out];simp[fN,hst]
         clear hst;refine wp_region_held_drew (S:=fun w'=>w'.cell? ⟨wr.heap.size,0,none⟩=some (.int .i64 a0)∧w'.cell? ⟨wr.heap.size,1,none⟩=some (.int .i64 a1)∧w'.cell? ⟨wr.heap.size,2,none⟩=some (.int .i64 a2)∧w'.cell? ⟨wr.heap.size,3,none⟩=some (.int .i64 a3)∧w'.cell? ⟨cb,d+k,none⟩=some (.int .i64 c)) (by kernel_rfl) (by go_keep) (fun hHeld=> ?_);refine dM (i:=0) (v:= ?_) rfl (by kernel_rfl) (by kernel_rfl) (by kernel_rfl) (fun _ _ _ h=>h) (by rfl) ?_ (by assumption) ?_
         rotate_left
         ·(intro w a;(try dsimp only at a);go_simp;(try with_reducible rfl))
         (try go_frame);refine dM (i:=1) (v:= ?_) rfl (by kernel_rfl) (by kernel_rfl) (by kernel_rfl) (fun _ _ _ h=>h) (by rfl) ?_ (by assumption) ?_
         rotate_left
         ·(intro w a;(try dsimp only at a);go_simp;(try with_reducible rfl))
         (try go_frame);refine dM (i:=2) (v:= ?_) rfl (by kernel_rfl) (by kernel_rfl) (by kernel_rfl) (fun _ _ _ h=>h) (by rfl) ?_ (by assumption) ?_
         rotate_left
         ·(intro w a;(try dsimp only at a);go_simp;(try with_reducible rfl))
         (try go_frame);refine dM (i:=3) (v:= ?_) rfl (by kernel_rfl) (by kernel_rfl) (by kernel_rfl) (fun _ _ _ h=>h) (by rfl) ?_ (by assumption) ?_
         rotate_left
         ·(intro w a;(try dsimp only at a);go_simp;(try with_reducible rfl))
         (try go_frame);refine dM (i:=4) (v:= ?_) rfl (by kernel_rfl) (by kernel_rfl) (by kernel_rfl) (fun _ _ _ h=>h) (by rfl) ?_ (by assumption) ?_
         rotate_left
         ·(intro w a;(try dsimp only at a);go_simp;(try with_reducible rfl))
         (try go_frame);refine dM (i:=5) (v:= ?_) rfl (by kernel_rfl) (by kernel_rfl) (by kernel_rfl) (fun _ _ _ h=>h) (by rfl) ?_ (by assumption) ?_
         rotate_left
         ·(intro w a;(try dsimp only at a);go_simp;(try with_reducible rfl))
         (try go_frame);refine dM (i:=6) (v:= ?_) rfl (by kernel_rfl) (by kernel_rfl) (by kernel_rfl) (fun _ _ _ h=>h) (by rfl) ?_ (by assumption) ?_
         rotate_left
         ·(intro w a;(try dsimp only at a);go_simp;(try with_reducible rfl))
         (try go_frame);refine dM (i:=7) (v:= ?_) rfl (by kernel_rfl) (by kernel_rfl) (by kernel_rfl) (fun _ _ _ h=>h) (by rfl) ?_ (by assumption) ?_
         rotate_left
         ·(intro w a;(try dsimp only at a);go_simp;(try with_reducible rfl))
         (try go_frame);refine dM (i:=8) (v:= ?_) rfl (by kernel_rfl) (by kernel_rfl) (by kernel_rfl) (fun _ _ _ h=>h) (by rfl) ?_ (by assumption) ?_
         rotate_left
         ·(intro w a;(try dsimp only at a);go_simp;(try with_reducible rfl))
         (try go_frame);refine dM (i:=9) (v:= ?_) rfl (by kernel_rfl) (by kernel_rfl) (by kernel_rfl) (fun _ _ _ h=>h) (by rfl) ?_ (by assumption) ?_
         rotate_left
         ·(intro w a;(try dsimp only at a);go_simp;(try with_reducible rfl))
         (try go_frame);refine wpAnyH_ready (rs:= [10]) (by kernel_rfl) (by simp) ?_;refine aKx rfl (fun K hK=> ?_);go_simp;go_at_call 44;refine(r.out _).mono ?_;rintro e w9 ⟨rfl,h9⟩;(try replace h9:=h9.of_drew);have x9:Ext wr w9:=(by first|exact((Ext.refl wr).alloc _).trans h9|exact(((Ext.refl wr).alloc _).drew).trans h9)
         have ai:=(x9.cells.1 cb (d+k) s).trans gc;have aj:=h9.cells.1;have o:wr.heap.size<w9.heap.size:=Nat.lt_of_lt_of_le (by simp) h9.sz;go_wp2_with fail;refine hK.out _ _ (by(try dsimp only);go_keep) (fun hHeld=> ?_);clear hK K;(try go_frame);refine dM (i:=11) (v:= ?_) rfl (by kernel_rfl) (by kernel_rfl) (by kernel_rfl) (fun _ _ _ h=>h) (by rfl) ?_ (by assumption) ?_
         rotate_left
         ·(intro w a;(try dsimp only at a);go_simp;(try with_reducible rfl))
         (try go_frame);refine dM (i:=12) (v:= ?_) rfl (by kernel_rfl) (by kernel_rfl) (by kernel_rfl) (fun _ _ _ h=>h) (by rfl) ?_ (by assumption) ?_
         rotate_left
         ·(intro w a;(try dsimp only at a);go_simp;(try with_reducible rfl))
         (try go_frame);refine dM (i:=13) (v:= ?_) rfl (by kernel_rfl) (by kernel_rfl) (by kernel_rfl) (fun _ _ _ h=>h) (by rfl) ?_ (by assumption) ?_
         rotate_left
         ·(intro w a;(try dsimp only at a);go_simp;(try with_reducible rfl))
         (try go_frame);refine kA (i:=14) rfl (by kernel_rfl) (by kernel_rfl) (by kernel_rfl) (fun _ _ _ h=>h) (by rfl) (by assumption) ?_;(try go_frame);refine kA (i:=15) rfl (by kernel_rfl) (by kernel_rfl) (by kernel_rfl) (fun _ _ _ h=>h) (by rfl) (by assumption) ?_;(try go_frame);refine kA (i:=16) rfl (by kernel_rfl) (by kernel_rfl) (by kernel_rfl) (fun _ _ _ h=>h) (by rfl) (by assumption) ?_;(try go_frame);refine kA (i:=17) rfl (by kernel_rfl) (by kernel_rfl) (by kernel_rfl) (fun _ _ _ h=>h) (by rfl) (by assumption) ?_;(try go_frame);refine kA (i:=18) rfl (by kernel_rfl) (by kernel_rfl) (by kernel_rfl) (fun _ _ _ h=>h) (by rfl) (by assumption) ?_;(try go_frame);refine kA (i:=19) rfl (by kernel_rfl) (by kernel_rfl) (by kernel_rfl) (fun _ _ _ h=>h) (by rfl) (by assumption) ?_;(try go_frame);refine dM (i:=20) (v:= ?_) rfl (by kernel_rfl) (by kernel_rfl) (by kernel_rfl) (fun _ _ _ h=>h) (by rfl) ?_ (by assumption) ?_
         rotate_left
         ·(intro w a;(try dsimp only at a);go_simp;(try with_reducible rfl))
         (try go_frame);refine wpAnyH_done (by kernel_rfl) ?_ _;all_goals go_wp2
         all_goals go_ret
         all_goals exact⟨aO g.out.symm,xE⟩
       have q0:(a0 !=c)=true:=by simp[t0]
       have g:Hid (bS aD Cs vs=false):=by show _=_;rw[f.out];simp[t0]
       clear t0;go_quiet (fail);all_goals go_wp2
       all_goals go_ret
       all_goals exact⟨aO g.out.symm,xE⟩
      have f:Hid (bS aD Cs vs=true):=by show _=_;rw[t,List.drop_eq_nil_of_le (by rw[aa.out];omega),List.drop_eq_nil_of_le (by rw[ae.out];omega)];rfl
      clear t;go_wp2;go_ret;exact⟨aO f.out.symm,xE⟩
    skip;have hL:((Cs.length:Int)!=(m:Int))=true:=by simp;omega
    have hR:Hid (R=false):=by show _=_;rw[HR.out,sQ (by rw[ae.out];exact hL2)];simp
    obtain⟨e0,e1,e2,e3,e4,e5,e6,e7,e8,e9⟩:=(M3.bk 1).ten;go_wp2_with go_in;go_ret;exact⟨aO hR.out.symm,M3.ext⟩
   skip;have hR:Hid (R=false):=by show _=_;rw[HR.out];simp[h3]
   have h:aD<0∨0≤aD∧9999<aD∨0≤aD∧aD≤9999∧aF<0∨0≤aD∧aD≤9999∧0≤aF∧99999<aF:=by omega
   clear h3;obtain⟨e0,e1,e2,e3,e4,e5,e6,e7,e8,e9⟩:=(M3.bk 1).ten;rcases h with h|⟨h0,h⟩|⟨h0,h1,h⟩|⟨h0,h1,h2,h⟩
   all_goals
    (try (have ay:decide (aD≤9999)=false:=by simp;omega));(try (have ay:decide (aF≤99999)=false:=by simp;omega));go_wp2_with go_in;go_ret;exact⟨aO hR.out.symm,M3.ext⟩
theorem oG (h:aW)(p:OA)(n cap:Nat)(q:OA)(m c2:Nat)(w:World)(hi:IsHouse w h p n cap q m c2):
  Calls Tryz.prog 12 #[cA h p n cap q m c2] w fun e w'=>e= .returned (.bool (bU h))∧Ext w w':=by
 obtain⟨aA,aB,a,b,c,aE,aG,aD,aF,vs⟩:=h;refine aIy aA aB b c aE aG aD aF p n cap q m c2 (if aN aA aB a then gE a else []) vs _ _ _ w hi.vs.bd (fun w' hx=>gZ aA aB p n cap a w' (hi.cells.ext hx)) (fun w'=>zC b c aE aG w') (fun w' hx=>aMb aA aB p n cap a w' (hi.cells.ext hx)) (xQ fun h1=> ?_) hi.vs (xQ ?_)
 ·rw[if_pos h1];have e1:=pX a;have e2:=rV a;have e3:a.length≤12:=by simp only[aN,Bool.and_eq_true]at h1;exact(cG h1.1).2.2.2.2.2.1
  omega
 show bU _=_;unfold bU uV;dsimp only;cases aN aA aB a<;>simp
end Go.Proofs.YtpelpnfhbepokaaGreatDoor
