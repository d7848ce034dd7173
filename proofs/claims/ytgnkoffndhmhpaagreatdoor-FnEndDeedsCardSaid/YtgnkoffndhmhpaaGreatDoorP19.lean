/-
  Texts of this proof, packed (@packed).
-/
import Derived.Test.YtgnkoffndhmhpaaGreatDoorP5
import Derived.Test.YtgnkoffndhmhpaaGreatDoorP7
import Derived.Test.YtgnkoffndhmhpaaGreatDoorP18
namespace Go.Proofs.YtgnkoffndhmhpaaGreatDoor
open Go.RowKit
set_option linter.unusedVariables false
set_option maxHeartbeats 8000000
set_option maxRecDepth 100000
abbrev bK (h:aO)(p:OA)(n cap:Nat)(q:OA)(m c2:Nat):Value:=
 .agg #[h.aA,h.aB,.slice p n cap,h.free,h.step,h.aD,h.aG,h.aC,h.aF,.slice q m c2]
structure IsHouse (w:World) (h:aO) (p:OA) (n cap:Nat) (q:OA) (m c2:Nat):Prop where
 cells:Sl w p n cap 1 (ivs h.cells)
 vs:Sl w q m c2 4 (h.vs.flatMap aE)
theorem IsHouse.ext {w w':World}{h:aO}{p q:OA}{n cap m c2:Nat}(i:IsHouse w h p n cap q m c2)(hx:Ext w w'):IsHouse w' h p n cap q m c2:=⟨i.cells.ext hx,i.vs.ext hx⟩
theorem IsHouse.vlen {w:World}{h:aO}{p q:OA}{n cap m c2:Nat}(i:IsHouse w h p n cap q m c2):h.vs.length=m:=by
 have:=i.vs.len;rw[dD aE 4 (fun _=>rfl)]at this;omega
theorem IsHouse.clen {w:World}{h:aO}{p q:OA}{n cap m c2:Nat}(i:IsHouse w h p n cap q m c2):h.cells.length=n:=i.cells.ilen
theorem dW {w:World}{q:OA}{m c2:Nat}{vs:List aP}(h:Sl w q m c2 4 (vs.flatMap aE)){k:Nat}(hk:k<m):
  ∃b off a0 a1 a2 a3,q=some ⟨b,off,none⟩∧vs[k]? =some (a0,a1,a2,a3)∧b<w.heap.size∧w.cell? ⟨b,off+k*4,none⟩=some (.int .i64 a0)∧w.cell? ⟨b,off+k*4+1,none⟩=some (.int .i64 a1)∧w.cell? ⟨b,off+k*4+2,none⟩=some (.int .i64 a2)∧w.cell? ⟨b,off+k*4+3,none⟩=some (.int .i64 a3):=by
 obtain⟨b,off,x,hp,hx,hb,hc⟩:=Sl.at_ (sz:=4) (f:=aE) (fun _=>rfl) h hk (by omega)
 obtain⟨a0,a1,a2,a3⟩:=x
 exact⟨b,off,a0,a1,a2,a3,hp,hx,hb,hc 0 (by omega),hc 1 (by omega),hc 2 (by omega),hc 3 (by omega)⟩
def OwnZ (w:World)(p:OA)(n c:Nat)(xs:List Int):Prop:=Sl w p n c 1 (ivs xs)
theorem OwnZ.ext {w w':World}{p:OA}{n c:Nat}{xs:List Int}(h:OwnZ w p n c xs)(hx:Ext w w'):Sl w' p n c 1 (ivs xs):=Sl.ext h hx
theorem aLb {w:World}{B n c:Nat}{p:OA}{xs:List Int}(h:w.ownsRow B TI 1 (.slice p n c) n (ivs xs)):OwnZ w p n c xs:=Sl.own h
theorem aB6 (aA aB free step aD aG aC aF:Int)(p:OA)(n cap:Nat)(q:OA)(m c2:Nat)(w:World)(hm:m≤9223372036854775807)
  (HV:xB 80 #[aH aA aB p n cap] w false):
  Calls Tryz.prog 30 #[.agg #[aA,aB,.slice p n cap,free,step,aD,aG,aC,aF,.slice q m c2]] w fun e w'=>e= .returned (.bool false)∧Ext w w':=by
 go_enter Tryz.func30,Tryz.ntmps30
 go_wp2_with fail
 refine(HV _ (by exact .alloc (.refl _) _)).mono ?_
 rintro e w1 ⟨rfl,b⟩
 have a:Ext (w.alloc (.cells #[aA,aB,.slice p n cap,free,step,aD,aG,aC,aF,.slice q m c2] 35)) w1:=b
 have r:w.heap.size<w1.heap.size:=Nat.lt_of_lt_of_le (by simp) a.sz
 obtain⟨j,c,l,k,g,f,i,h,o,d⟩:=((Blk.new _ _ _).ext a).ten
 go_wp2
 go_ret
 exact⟨rfl,by exact .trans (.alloc (.refl _) _) a⟩
theorem aB5 (aA aB free step aD aG aC aF:Int)(p:OA)(n cap:Nat)(q:OA)(m c2:Nat)(w:World)(hm:m≤9223372036854775807)
  (HV:xB 80 #[aH aA aB p n cap] w true)
  (TV:Hid (∀w',Calls Tryz.prog 81 #[aR free step aD aG] w' fun e w''=>e= .returned (.bool false)∧Ext w' w'')):
  Calls Tryz.prog 30 #[.agg #[aA,aB,.slice p n cap,free,step,aD,aG,aC,aF,.slice q m c2]] w fun e w'=>e= .returned (.bool false)∧Ext w w':=by
 go_enter Tryz.func30,Tryz.ntmps30
 go_wp2_with fail
 refine(HV _ (by exact .alloc (.refl _) _)).mono ?_
 rintro e w1 ⟨rfl,s⟩
 have b:Ext (w.alloc (.cells #[aA,aB,.slice p n cap,free,step,aD,aG,aC,aF,.slice q m c2] 35)) w1:=s
 have t:w.heap.size<w1.heap.size:=Nat.lt_of_lt_of_le (by simp) b.sz
 obtain⟨j,h,k,o,d,c,l,i,g,f⟩:=((Blk.new _ _ _).ext b).ten
 go_wp2_with fail
 refine(TV _).mono ?_
 rintro e w2 ⟨rfl,r⟩
 have a:Ext (w.alloc (.cells #[aA,aB,.slice p n cap,free,step,aD,aG,aC,aF,.slice q m c2] 35)) w2:=b.trans r
 have ag:w.heap.size<w2.heap.size:=Nat.lt_of_lt_of_le (by simp) a.sz
 obtain⟨aa,u,x,ad,v,ab,ae,z,y,af⟩:=((Blk.new _ _ _).ext a).ten
 clear t j h k o d c l i g f
 go_wp2
 go_ret
 exact⟨rfl,by exact .trans (.alloc (.refl _) _) a⟩
theorem aB4 (aA aB free step aD aG aC aF:Int)(p:OA)(n cap:Nat)(q:OA)(m c2:Nat)(w:World)(hm:m≤9223372036854775807)
  (HV:xB 80 #[aH aA aB p n cap] w true)
  (TV:Hid (∀w',Calls Tryz.prog 81 #[aR free step aD aG] w' fun e w''=>e= .returned (.bool true)∧Ext w' w''))
  (h:aC<0∨0≤aC∧9999<aC∨0≤aC∧aC≤9999∧aF<0∨0≤aC∧aC≤9999∧0≤aF∧99999<aF):
  Calls Tryz.prog 30 #[.agg #[aA,aB,.slice p n cap,free,step,aD,aG,aC,aF,.slice q m c2]] w fun e w'=>e= .returned (.bool false)∧Ext w w':=by
 rcases h with h|⟨h0,h⟩|⟨h0,h1,h⟩|⟨h0,h1,h2,h⟩
 all_goals
  (try (have v:decide (aC≤9999)=false:=by simp;omega))
  (try (have v:decide (aF≤99999)=false:=by simp;omega))
  go_enter Tryz.func30,Tryz.ntmps30
  go_wp2_with fail
  refine(HV _ (by exact .alloc (.refl _) _)).mono ?_
  rintro e w1 ⟨rfl,t⟩
  have b:Ext (w.alloc (.cells #[aA,aB,.slice p n cap,free,step,aD,aG,aC,aF,.slice q m c2] 35)) w1:=t
  have u:w.heap.size<w1.heap.size:=Nat.lt_of_lt_of_le (by simp) b.sz
  obtain⟨k,i,l,r,d,c,o,j,g,f⟩:=((Blk.new _ _ _).ext b).ten
  go_wp2_with fail
  refine(TV _).mono ?_
  rintro e w2 ⟨rfl,s⟩
  have a:Ext (w.alloc (.cells #[aA,aB,.slice p n cap,free,step,aD,aG,aC,aF,.slice q m c2] 35)) w2:=b.trans s
  have ai:w.heap.size<w2.heap.size:=Nat.lt_of_lt_of_le (by simp) a.sz
  obtain⟨ad,x,z,af,y,ae,ag,ab,aa,ah⟩:=((Blk.new _ _ _).ext a).ten
  clear u k i l r d c o j g f
  go_wp2
  go_ret
  exact⟨rfl,by exact .trans (.alloc (.refl _) _) a⟩
theorem aB3 (aA aB free step aD aG aC aF:Int)(p:OA)(n cap:Nat)(q:OA)(m c2:Nat)(w:World)(hm:m≤9223372036854775807)
  (Cs:List Int)(HC:Hid (∀w',Ext w w'→Calls Tryz.prog 47 #[aH aA aB p n cap] w' (aX Cs w')))
  (HV:xB 80 #[aH aA aB p n cap] w true)
  (TV:Hid (∀w',Calls Tryz.prog 81 #[aR free step aD aG] w' fun e w''=>e= .returned (.bool true)∧Ext w' w''))
  (h0:0≤aC)(h1:aC≤9999)(h2:0≤aF)(h3:aF≤99999)(hL:((Cs.length:Int)!=m)=true):
  Calls Tryz.prog 30 #[.agg #[aA,aB,.slice p n cap,free,step,aD,aG,aC,aF,.slice q m c2]] w fun e w'=>e= .returned (.bool false)∧Ext w w':=by
 go_enter Tryz.func30,Tryz.ntmps30
 go_wp2_with fail
 refine(HV _ (by exact .alloc (.refl _) _)).mono ?_
 rintro e w1 ⟨rfl,ai⟩
 have c:Ext (w.alloc (.cells #[aA,aB,.slice p n cap,free,step,aD,aG,aC,aF,.slice q m c2] 35)) w1:=ai
 have aj:w.heap.size<w1.heap.size:=Nat.lt_of_lt_of_le (by simp) c.sz
 obtain⟨u,l,v,ae,g,f,aa,s,k,j⟩:=((Blk.new _ _ _).ext c).ten
 go_wp2_with fail
 refine(TV _).mono ?_
 rintro e w2 ⟨rfl,ah⟩
 have a:Ext (w.alloc (.cells #[aA,aB,.slice p n cap,free,step,aD,aG,aC,aF,.slice q m c2] 35)) w2:=c.trans ah
 have af:w.heap.size<w2.heap.size:=Nat.lt_of_lt_of_le (by simp) a.sz
 obtain⟨t,d,i,y,h,x,ab,r,o,ad⟩:=((Blk.new _ _ _).ext a).ten
 clear aj u l v ae g f aa s k j
 go_wp2_with fail
 refine(HC _ (by exact .trans (.alloc (.refl _) _) a)).mono ?_
 rintro e w3 ⟨cp,cc,rfl,z,ag⟩
 have ax:=xQ z
 clear z
 have b:Ext (w.alloc (.cells #[aA,aB,.slice p n cap,free,step,aD,aG,aC,aF,.slice q m c2] 35)) w3:=a.trans ag
 have aw:w.heap.size<w3.heap.size:=Nat.lt_of_lt_of_le (by simp) b.sz
 obtain⟨al,aq,ar,au,an,ak,ao,av,am,ap⟩:=((Blk.new _ _ _).ext b).ten
 clear af t d i y h x ab r o ad
 go_wp2
 go_ret
 exact⟨rfl,by exact .trans (.alloc (.refl _) _) b⟩
theorem aB2 (aA aB free step aD aG aC aF:Int)(p:OA)(n cap:Nat)(q:OA)(m c2:Nat)(w:World)(hm:m≤9223372036854775807)
  (Cs:List Int)(HC:Hid (∀w',Ext w w'→Calls Tryz.prog 47 #[aH aA aB p n cap] w' (aX Cs w')))
  (HV:xB 80 #[aH aA aB p n cap] w true)
  (TV:Hid (∀w',Calls Tryz.prog 81 #[aR free step aD aG] w' fun e w''=>e= .returned (.bool true)∧Ext w' w''))
  (h0:0≤aC)(h1:aC≤9999)(h2:0≤aF)(h3:aF≤99999)(hL:((Cs.length:Int)!=m)=false)(hL2:Cs.length=m)(hm2:m≤100)(vs:List aP)(HVS:Hid (Sl w q m c2 4 (vs.flatMap aE))):
  Calls Tryz.prog 30 #[.agg #[aA,aB,.slice p n cap,free,step,aD,aG,aC,aF,.slice q m c2]] w fun e w'=>e= .returned (.bool (bY aC Cs vs))∧Ext w w':=by
 have a5:vs.length=m:=by have:=HVS.out.len;rw[dD aE 4 (fun _=>rfl)]at this;omega
 have bi:=xQ a5
 have ax:=xQ hL2
 clear a5 hL2
 go_enter Tryz.func30,Tryz.ntmps30
 go_wp2_with fail
 refine(HV _ (by exact .alloc (.refl _) _)).mono ?_
 rintro e w1 ⟨rfl,bk⟩
 have z:Ext (w.alloc (.cells #[aA,aB,.slice p n cap,free,step,aD,aG,aC,aF,.slice q m c2] 35)) w1:=bk
 have bf:w.heap.size<w1.heap.size:=Nat.lt_of_lt_of_le (by simp) z.sz
 obtain⟨a4,a7,a9,bc,am,a6,aq,az,ad,ay⟩:=((Blk.new _ _ _).ext z).ten
 go_wp2_with fail
 refine(TV _).mono ?_
 rintro e w2 ⟨rfl,bh⟩
 have s:Ext (w.alloc (.cells #[aA,aB,.slice p n cap,free,step,aD,aG,aC,aF,.slice q m c2] 35)) w2:=z.trans bh
 have bd:w.heap.size<w2.heap.size:=Nat.lt_of_lt_of_le (by simp) s.sz
 obtain⟨a8,ak,ab,ai,al,ao,ah,ae,an,ba⟩:=((Blk.new _ _ _).ext s).ten
 clear bf a4 a7 a9 bc am a6 aq az ad ay
 go_wp2_with fail
 refine(HC _ (by exact .trans (.alloc (.refl _) _) s)).mono ?_
 rintro e w3 ⟨cp,cc,rfl,t,be⟩
 have bg:=xQ t
 clear t
 have y:Ext (w.alloc (.cells #[aA,aB,.slice p n cap,free,step,aD,aG,aC,aF,.slice q m c2] 35)) w3:=s.trans be
 have aa:w.heap.size<w3.heap.size:=Nat.lt_of_lt_of_le (by simp) y.sz
 obtain⟨bm,bo,bq,bl,bn,bp,bs,aj,br,bb⟩:=((Blk.new _ _ _).ext y).ten
 clear bd a8 ak ab ai al ao ah ae an ba
 have t:OwnZ w3 cp Cs.length cc Cs:=(aLb bg.out)
 have o:Ext w w3:=(Ext.alloc (Ext.refl w) _).trans y
 go_wp2
 clear hL
 go_loopw [48] (fun i wr=> ∃k:Nat,k≤m∧i= .int .i64 k∧bY aC Cs vs=bY aC (Cs.drop k) (vs.drop k)∧Ext w3 wr) (fun i _=>m-(intOf i).toNat)
 case atStart=>exact⟨0,Nat.zero_le _,rfl,rfl,Ext.refl _⟩
 case round=>
  obtain⟨k,hk,rfl,x,hE⟩:=hrel
  have ap:wr.cell? ⟨w.heap.size,7,none⟩=some (.int .i64 aC):=(hE.cells.1 _ _ aa).trans aj
  have bu:wr.cell? ⟨w.heap.size,9,none⟩=some (.slice q m c2):=(hE.cells.1 _ _ aa).trans bb
  have u:w.heap.size<wr.heap.size:=Nat.lt_of_lt_of_le aa hE.sz
  have af:=ax.out
  by_cases hlt:k<m
  ·obtain⟨b,bt,a0,a1,a2,a3,rfl,hv,hb,g0,g1,g2,g3⟩:=dW (HVS.out.ext (o.trans hE)) hlt
   obtain⟨cb,d,c,rfl,hc,l,gc⟩:=(t.ext hE).int_at (show k<Cs.length by omega)
   have f:=xQ (x.trans (sE hc hv))
   have i1:(0:Int)≤(k:Int):=by omega
   have i2:(k:Int)<(m:Int):=by omega
   have i3:(k:Int)<(Cs.length:Int):=by omega
   clear x hc hv af
   have r:Hid (∀w',Calls Tryz.prog 82 #[bP a1 a2 a3] w' fun e w''=>e= .returned (.bool (cS a1 a2 a3))∧Ext w' w''):=fun w'=>aIj a1 a2 a3 w'
   go_wp2_with fail
   by_cases t0:a0=c
   ·have q0:(a0 !=c)=false:=by simp[t0]
    have T0:=xQ t0
    clear t0
    cases hst:cS a1 a2 a3 with
    |true=>
     rw[hst]at r
     have av:=xQ hst
     clear hst
     by_cases t1:aC<a3
     ·have g:Hid (bY aC Cs vs=false):=by show _=_;rw[f.out];simp[eV,av.out];omega
      go_region_held3 (fun w'=>w'.cell? ⟨wr.heap.size,0,none⟩=some (.int .i64 a0)∧w'.cell? ⟨wr.heap.size,1,none⟩=some (.int .i64 a1)∧w'.cell? ⟨wr.heap.size,2,none⟩=some (.int .i64 a2)∧w'.cell? ⟨wr.heap.size,3,none⟩=some (.int .i64 a3)∧w'.cell? ⟨cb,d+k,none⟩=some (.int .i64 c)∧w'.cell? ⟨w.heap.size,7,none⟩=some (.int .i64 aC)) (go_keep) ((go_at_call 82;refine(r.out _).mono ?_;rintro e w9 ⟨rfl,h9⟩;(try replace h9:=h9.of_drew);have x9:Ext wr w9:=(by first|exact((Ext.refl wr).alloc _).trans h9|exact(((Ext.refl wr).alloc _).drew).trans h9);have ag:=(x9.cells.1 cb (d+k) l).trans gc;have bj:=(x9.cells.1 w.heap.size 7 u).trans ap;have ar:=h9.cells.1;have j:wr.heap.size<w9.heap.size:=Nat.lt_of_lt_of_le (by simp) h9.sz;have aw:w.heap.size<w9.heap.size:=Nat.lt_trans u j;have au:cb<w9.heap.size:=Nat.lt_trans l j))
      all_goals go_wp2
      all_goals go_ret
      all_goals exact⟨aU g.out.symm,by exact .trans (.trans o hE) x9⟩
     ·have g:Hid (bY aC Cs vs=bY aC (Cs.drop (k+1)) (vs.drop (k+1))):=by show _=_;rw[f.out];simp[eV,av.out,T0.out];intro h;omega
      go_region_held3 (fun w'=>w'.cell? ⟨wr.heap.size,0,none⟩=some (.int .i64 a0)∧w'.cell? ⟨wr.heap.size,1,none⟩=some (.int .i64 a1)∧w'.cell? ⟨wr.heap.size,2,none⟩=some (.int .i64 a2)∧w'.cell? ⟨wr.heap.size,3,none⟩=some (.int .i64 a3)∧w'.cell? ⟨cb,d+k,none⟩=some (.int .i64 c)∧w'.cell? ⟨w.heap.size,7,none⟩=some (.int .i64 aC)) (go_keep) ((go_at_call 82;refine(r.out _).mono ?_;rintro e w9 ⟨rfl,h9⟩;(try replace h9:=h9.of_drew);have x9:Ext wr w9:=(by first|exact((Ext.refl wr).alloc _).trans h9|exact(((Ext.refl wr).alloc _).drew).trans h9);have ag:=(x9.cells.1 cb (d+k) l).trans gc;have bj:=(x9.cells.1 w.heap.size 7 u).trans ap;have ar:=h9.cells.1;have j:wr.heap.size<w9.heap.size:=Nat.lt_of_lt_of_le (by simp) h9.sz;have aw:w.heap.size<w9.heap.size:=Nat.lt_trans u j;have au:cb<w9.heap.size:=Nat.lt_trans l j))
      all_goals go_wp2
      all_goals go_roundw
      all_goals first
       |(case rel=>first|exact⟨k+1,by omega,by go_num,g.out,by exact .trans hE x9⟩|((repeat apply Exists.intro);exact⟨⟨k+1,by omega,by go_num,g.out,xE⟩,rfl⟩))
       |(case measure=>simp[intOf];omega)
    |false=>
     rw[hst]at r
     have g:Hid (bY aC Cs vs=false):=by show _=_;rw[f.out];simp[eV,hst]
     clear hst
     refine wp_region_held_drew (S:=fun w'=>w'.cell? ⟨wr.heap.size,0,none⟩=some (.int .i64 a0)∧w'.cell? ⟨wr.heap.size,1,none⟩=some (.int .i64 a1)∧w'.cell? ⟨wr.heap.size,2,none⟩=some (.int .i64 a2)∧w'.cell? ⟨wr.heap.size,3,none⟩=some (.int .i64 a3)∧w'.cell? ⟨cb,d+k,none⟩=some (.int .i64 c)) (by kernel_rfl) (by go_keep) (fun hHeld=> ?_)
     refine dR (i:=0) (v:= ?_) rfl (by kernel_rfl) (by kernel_rfl) (by kernel_rfl) (fun _ _ _ h=>h) (by rfl) ?_ (by assumption) ?_
     rotate_left
     ·(intro w a;(try dsimp only at a);go_simp;(try with_reducible rfl))
     (try simp only[Act.put,List.setIfInBounds_toArray,List.set_cons_zero,List.set_cons_succ])
     refine dR (i:=1) (v:= ?_) rfl (by kernel_rfl) (by kernel_rfl) (by kernel_rfl) (fun _ _ _ h=>h) (by rfl) ?_ (by assumption) ?_
     rotate_left
     ·(intro w a;(try dsimp only at a);go_simp;(try with_reducible rfl))
     (try simp only[Act.put,List.setIfInBounds_toArray,List.set_cons_zero,List.set_cons_succ])
     refine dR (i:=2) (v:= ?_) rfl (by kernel_rfl) (by kernel_rfl) (by kernel_rfl) (fun _ _ _ h=>h) (by rfl) ?_ (by assumption) ?_
     rotate_left
     ·(intro w a;(try dsimp only at a);go_simp;(try with_reducible rfl))
     (try simp only[Act.put,List.setIfInBounds_toArray,List.set_cons_zero,List.set_cons_succ])
     refine dR (i:=3) (v:= ?_) rfl (by kernel_rfl) (by kernel_rfl) (by kernel_rfl) (fun _ _ _ h=>h) (by rfl) ?_ (by assumption) ?_
     rotate_left
     ·(intro w a;(try dsimp only at a);go_simp;(try with_reducible rfl))
     (try simp only[Act.put,List.setIfInBounds_toArray,List.set_cons_zero,List.set_cons_succ])
     refine dR (i:=4) (v:= ?_) rfl (by kernel_rfl) (by kernel_rfl) (by kernel_rfl) (fun _ _ _ h=>h) (by rfl) ?_ (by assumption) ?_
     rotate_left
     ·(intro w a;(try dsimp only at a);go_simp;(try with_reducible rfl))
     (try simp only[Act.put,List.setIfInBounds_toArray,List.set_cons_zero,List.set_cons_succ])
     refine dR (i:=5) (v:= ?_) rfl (by kernel_rfl) (by kernel_rfl) (by kernel_rfl) (fun _ _ _ h=>h) (by rfl) ?_ (by assumption) ?_
     rotate_left
     ·(intro w a;(try dsimp only at a);go_simp;(try with_reducible rfl))
     (try simp only[Act.put,List.setIfInBounds_toArray,List.set_cons_zero,List.set_cons_succ])
     refine dR (i:=6) (v:= ?_) rfl (by kernel_rfl) (by kernel_rfl) (by kernel_rfl) (fun _ _ _ h=>h) (by rfl) ?_ (by assumption) ?_
     rotate_left
     ·(intro w a;(try dsimp only at a);go_simp;(try with_reducible rfl))
     (try simp only[Act.put,List.setIfInBounds_toArray,List.set_cons_zero,List.set_cons_succ])
     refine dR (i:=7) (v:= ?_) rfl (by kernel_rfl) (by kernel_rfl) (by kernel_rfl) (fun _ _ _ h=>h) (by rfl) ?_ (by assumption) ?_
     rotate_left
     ·(intro w a;(try dsimp only at a);go_simp;(try with_reducible rfl))
     (try simp only[Act.put,List.setIfInBounds_toArray,List.set_cons_zero,List.set_cons_succ])
     refine dR (i:=8) (v:= ?_) rfl (by kernel_rfl) (by kernel_rfl) (by kernel_rfl) (fun _ _ _ h=>h) (by rfl) ?_ (by assumption) ?_
     rotate_left
     ·(intro w a;(try dsimp only at a);go_simp;(try with_reducible rfl))
     (try simp only[Act.put,List.setIfInBounds_toArray,List.set_cons_zero,List.set_cons_succ])
     refine dR (i:=9) (v:= ?_) rfl (by kernel_rfl) (by kernel_rfl) (by kernel_rfl) (fun _ _ _ h=>h) (by rfl) ?_ (by assumption) ?_
     rotate_left
     ·(intro w a;(try dsimp only at a);go_simp;(try with_reducible rfl))
     (try simp only[Act.put,List.setIfInBounds_toArray,List.set_cons_zero,List.set_cons_succ])
     refine wpAnyH_ready (rs:= [10]) (by kernel_rfl) (by simp) ?_
     refine aJq rfl (fun K hK=> ?_)
     go_simp
     go_at_call 82
     refine(r.out _).mono ?_
     rintro e w9 ⟨rfl,h9⟩
     (try replace h9:=h9.of_drew)
     have x9:Ext wr w9:=(by first|exact((Ext.refl wr).alloc _).trans h9|exact(((Ext.refl wr).alloc _).drew).trans h9)
     have ag:=(x9.cells.1 cb (d+k) l).trans gc
     have ar:=h9.cells.1
     have j:wr.heap.size<w9.heap.size:=Nat.lt_of_lt_of_le (by simp) h9.sz
     go_wp2_with fail
     refine hK.out _ _ (by(try dsimp only);go_keep) (fun hHeld=> ?_)
     clear hK K
     (try simp only[Act.put,List.setIfInBounds_toArray,List.set_cons_zero,List.set_cons_succ])
     refine dR (i:=11) (v:= ?_) rfl (by kernel_rfl) (by kernel_rfl) (by kernel_rfl) (fun _ _ _ h=>h) (by rfl) ?_ (by assumption) ?_
     rotate_left
     ·(intro w a;(try dsimp only at a);go_simp;(try with_reducible rfl))
     (try simp only[Act.put,List.setIfInBounds_toArray,List.set_cons_zero,List.set_cons_succ])
     refine dR (i:=12) (v:= ?_) rfl (by kernel_rfl) (by kernel_rfl) (by kernel_rfl) (fun _ _ _ h=>h) (by rfl) ?_ (by assumption) ?_
     rotate_left
     ·(intro w a;(try dsimp only at a);go_simp;(try with_reducible rfl))
     (try simp only[Act.put,List.setIfInBounds_toArray,List.set_cons_zero,List.set_cons_succ])
     refine dR (i:=13) (v:= ?_) rfl (by kernel_rfl) (by kernel_rfl) (by kernel_rfl) (fun _ _ _ h=>h) (by rfl) ?_ (by assumption) ?_
     rotate_left
     ·(intro w a;(try dsimp only at a);go_simp;(try with_reducible rfl))
     (try simp only[Act.put,List.setIfInBounds_toArray,List.set_cons_zero,List.set_cons_succ])
     refine jX (i:=14) rfl (by kernel_rfl) (by kernel_rfl) (by kernel_rfl) (fun _ _ _ h=>h) (by rfl) (by assumption) ?_
     (try simp only[Act.put,List.setIfInBounds_toArray,List.set_cons_zero,List.set_cons_succ])
     refine jX (i:=15) rfl (by kernel_rfl) (by kernel_rfl) (by kernel_rfl) (fun _ _ _ h=>h) (by rfl) (by assumption) ?_
     (try simp only[Act.put,List.setIfInBounds_toArray,List.set_cons_zero,List.set_cons_succ])
     refine jX (i:=16) rfl (by kernel_rfl) (by kernel_rfl) (by kernel_rfl) (fun _ _ _ h=>h) (by rfl) (by assumption) ?_
     (try simp only[Act.put,List.setIfInBounds_toArray,List.set_cons_zero,List.set_cons_succ])
     refine jX (i:=17) rfl (by kernel_rfl) (by kernel_rfl) (by kernel_rfl) (fun _ _ _ h=>h) (by rfl) (by assumption) ?_
     (try simp only[Act.put,List.setIfInBounds_toArray,List.set_cons_zero,List.set_cons_succ])
     refine jX (i:=18) rfl (by kernel_rfl) (by kernel_rfl) (by kernel_rfl) (fun _ _ _ h=>h) (by rfl) (by assumption) ?_
     (try simp only[Act.put,List.setIfInBounds_toArray,List.set_cons_zero,List.set_cons_succ])
     refine jX (i:=19) rfl (by kernel_rfl) (by kernel_rfl) (by kernel_rfl) (fun _ _ _ h=>h) (by rfl) (by assumption) ?_
     (try simp only[Act.put,List.setIfInBounds_toArray,List.set_cons_zero,List.set_cons_succ])
     refine dR (i:=20) (v:= ?_) rfl (by kernel_rfl) (by kernel_rfl) (by kernel_rfl) (fun _ _ _ h=>h) (by rfl) ?_ (by assumption) ?_
     rotate_left
     ·(intro w a;(try dsimp only at a);go_simp;(try with_reducible rfl))
     (try simp only[Act.put,List.setIfInBounds_toArray,List.set_cons_zero,List.set_cons_succ])
     refine wpAnyH_done (by kernel_rfl) ?_ _
     all_goals go_wp2
     all_goals go_ret
     all_goals exact⟨aU g.out.symm,by exact .trans (.trans o hE) x9⟩
   ·have q0:(a0 !=c)=true:=by simp[t0]
    have g:Hid (bY aC Cs vs=false):=by show _=_;rw[f.out];simp[t0]
    clear t0
    go_quiet (fail)
    all_goals go_wp2
    all_goals go_ret
    all_goals exact⟨aU g.out.symm,by exact .drewN (.alloc (.trans o hE) _) _⟩
  ·have f:Hid (bY aC Cs vs=true):=by
    show _=_
    rw[x,List.drop_eq_nil_of_le (by rw[ax.out];omega),List.drop_eq_nil_of_le (by rw[bi.out];omega)];rfl
   clear x
   go_wp2
   go_ret
   exact⟨aU f.out.symm,by exact .trans o hE⟩
theorem iI (h:aO)(p:OA)(n cap:Nat)(q:OA)(m c2:Nat)(w:World)(hi:IsHouse w h p n cap q m c2):
  Calls Tryz.prog 30 #[bK h p n cap q m c2] w fun e w'=>e= .returned (.bool (aS h))∧Ext w w':=by
 obtain⟨aA,aB,a,b,c,aD,aG,aC,aF,vs⟩:=h
 have hm:=hi.vs.bd
 have f:=hi.vlen
 have d:=hi.clen
 have HV:=fun(w':World) (hx:Ext w w')=>fI aA aB p n cap a w' (hi.cells.ext hx)
 have HC:=fun(w':World) (hx:Ext w w')=>aIs aA aB p n cap a w' (hi.cells.ext hx)
 have TV:=fun(w':World)=>yK b c aD aG w'
 unfold aS
 simp only at f d HV HC TV⊢
 cases h1:aN aA aB a with
 |false=>
  rw[h1]at HV HC
  simpa using aB6 aA aB b c aD aG aC aF p n cap q m c2 w hm HV
 |true=>
  rw[h1]at HV HC
  rw[if_pos rfl]at HC
  cases h2:aY b c aD aG with
  |false=>
   rw[h2]at TV
   simpa using aB5 aA aB b c aD aG aC aF p n cap q m c2 w hm HV TV
  |true=>
   rw[h2]at TV
   by_cases h3:0≤aC∧aC≤9999∧0≤aF∧aF≤99999
   ·obtain⟨a1,a2,a3,a4⟩:=h3
    have hn:jZ ⟨aA,aB,a,b,c,aD,aG,aC,aF,vs⟩=true:=by simp[jZ,a1,a2,a3,a4]
    rw[hn]
    by_cases hL:(cE a).length=m
    ·simpa using aB2 aA aB b c aD aG aC aF p n cap q m c2 w hm (cE a) HC HV TV a1 a2 a3 a4 (by simp[hL]) hL (by
      have e1:=iC a;have e2:=jF a
      have e3:a.length≤12:=by simp only[aN,Bool.and_eq_true]at h1;exact(bX h1.1).2.2.2.2.2.1
      omega) vs hi.vs
    ·rw[sD (by omega)]
     simpa using aB3 aA aB b c aD aG aC aF p n cap q m c2 w hm (cE a) HC HV TV a1 a2 a3 a4 (by simp;omega)
   ·have hn:jZ ⟨aA,aB,a,b,c,aD,aG,aC,aF,vs⟩=false:=by simp[jZ];omega
    rw[hn]
    simpa using aB4 aA aB b c aD aG aC aF p n cap q m c2 w hm HV TV (by omega)
theorem aA4 (aA aB free step aD aG aC aF:Int)(p:OA)(n cap:Nat)(q:OA)(m c2:Nat)(w:World)(hm:m≤9223372036854775807)
  (Cs:List Int)(HC:Hid (∀w',Ext w w'→Calls Tryz.prog 89 #[aH aA aB p n cap] w' (aX Cs w')))
  (HV:xB 90 #[aH aA aB p n cap] w false):
  Calls Tryz.prog 40 #[.agg #[aA,aB,.slice p n cap,free,step,aD,aG,aC,aF,.slice q m c2]] w fun e w'=>e= .returned (.bool false)∧Ext w w':=by
 go_enter Tryz.func40,Tryz.ntmps40
 go_wp2_with fail
 refine(HC _ (by exact .alloc (.refl _) _)).mono ?_
 rintro e w1 ⟨cp,cc,rfl,l,t⟩
 have ah:=xQ l
 clear l
 have a:Ext (w.alloc (.cells #[aA,aB,.slice p n cap,free,step,aD,aG,aC,aF,.slice q m c2] 35)) w1:=t
 have u:w.heap.size<w1.heap.size:=Nat.lt_of_lt_of_le (by simp) a.sz
 obtain⟨j,h,k,r,d,c,o,i,g,f⟩:=((Blk.new _ _ _).ext a).ten
 go_wp2_with fail
 refine(HV _ (by exact .trans (.alloc (.refl _) _) a)).mono ?_
 rintro e w2 ⟨rfl,s⟩
 have b:Ext (w.alloc (.cells #[aA,aB,.slice p n cap,free,step,aD,aG,aC,aF,.slice q m c2] 35)) w2:=a.trans s
 have ai:w.heap.size<w2.heap.size:=Nat.lt_of_lt_of_le (by simp) b.sz
 obtain⟨ab,v,y,ae,x,ad,af,aa,z,ag⟩:=((Blk.new _ _ _).ext b).ten
 clear u j h k r d c o i g f
 go_wp2_with go_in
 go_ret
 exact⟨rfl,by exact .trans (.alloc (.refl _) _) b⟩
theorem aA3 (aA aB free step aD aG aC aF:Int)(p:OA)(n cap:Nat)(q:OA)(m c2:Nat)(w:World)(hm:m≤9223372036854775807)
  (Cs:List Int)(HC:Hid (∀w',Ext w w'→Calls Tryz.prog 89 #[aH aA aB p n cap] w' (aX Cs w')))
  (HV:xB 90 #[aH aA aB p n cap] w true)
  (TV:Hid (∀w',Calls Tryz.prog 91 #[aR free step aD aG] w' fun e w''=>e= .returned (.bool false)∧Ext w' w'')):
  Calls Tryz.prog 40 #[.agg #[aA,aB,.slice p n cap,free,step,aD,aG,aC,aF,.slice q m c2]] w fun e w'=>e= .returned (.bool false)∧Ext w w':=by
 go_enter Tryz.func40,Tryz.ntmps40
 go_wp2_with fail
 refine(HC _ (by exact .alloc (.refl _) _)).mono ?_
 rintro e w1 ⟨cp,cc,rfl,z,ai⟩
 have ax:=xQ z
 clear z
 have a:Ext (w.alloc (.cells #[aA,aB,.slice p n cap,free,step,aD,aG,aC,aF,.slice q m c2] 35)) w1:=ai
 have aj:w.heap.size<w1.heap.size:=Nat.lt_of_lt_of_le (by simp) a.sz
 obtain⟨u,l,v,ae,g,f,aa,s,k,j⟩:=((Blk.new _ _ _).ext a).ten
 go_wp2_with fail
 refine(HV _ (by exact .trans (.alloc (.refl _) _) a)).mono ?_
 rintro e w2 ⟨rfl,ah⟩
 have b:Ext (w.alloc (.cells #[aA,aB,.slice p n cap,free,step,aD,aG,aC,aF,.slice q m c2] 35)) w2:=a.trans ah
 have ag:w.heap.size<w2.heap.size:=Nat.lt_of_lt_of_le (by simp) b.sz
 obtain⟨t,d,i,y,h,x,ab,r,o,ad⟩:=((Blk.new _ _ _).ext b).ten
 clear aj u l v ae g f aa s k j
 go_wp2_with fail
 refine(TV _).mono ?_
 rintro e w3 ⟨rfl,af⟩
 have c:Ext (w.alloc (.cells #[aA,aB,.slice p n cap,free,step,aD,aG,aC,aF,.slice q m c2] 35)) w3:=b.trans af
 have aw:w.heap.size<w3.heap.size:=Nat.lt_of_lt_of_le (by simp) c.sz
 obtain⟨al,aq,ar,au,an,ak,ao,av,am,ap⟩:=((Blk.new _ _ _).ext c).ten
 clear ag t d i y h x ab r o ad
 go_wp2_with go_in
 go_ret
 exact⟨rfl,by exact .trans (.alloc (.refl _) _) c⟩
theorem aA2 (aA aB free step aD aG aC aF:Int)(p:OA)(n cap:Nat)(q:OA)(m c2:Nat)(w:World)(hm:m≤9223372036854775807)
  (Cs:List Int)(HC:Hid (∀w',Ext w w'→Calls Tryz.prog 89 #[aH aA aB p n cap] w' (aX Cs w')))
  (HV:xB 90 #[aH aA aB p n cap] w true)
  (TV:Hid (∀w',Calls Tryz.prog 91 #[aR free step aD aG] w' fun e w''=>e= .returned (.bool true)∧Ext w' w''))
  (h:aC<0∨0≤aC∧9999<aC∨0≤aC∧aC≤9999∧aF<0∨0≤aC∧aC≤9999∧0≤aF∧99999<aF):
  Calls Tryz.prog 40 #[.agg #[aA,aB,.slice p n cap,free,step,aD,aG,aC,aF,.slice q m c2]] w fun e w'=>e= .returned (.bool false)∧Ext w w':=by
 rcases h with h|⟨h0,h⟩|⟨h0,h1,h⟩|⟨h0,h1,h2,h⟩
 all_goals
  (try (have al:decide (aC≤9999)=false:=by simp;omega))
  (try (have al:decide (aF≤99999)=false:=by simp;omega))
  go_enter Tryz.func40,Tryz.ntmps40
  go_wp2_with fail
  refine(HC _ (by exact .alloc (.refl _) _)).mono ?_
  rintro e w1 ⟨cp,cc,rfl,aa,aj⟩
  have az:=xQ aa
  clear aa
  have a:Ext (w.alloc (.cells #[aA,aB,.slice p n cap,free,step,aD,aG,aC,aF,.slice q m c2] 35)) w1:=aj
  have ak:w.heap.size<w1.heap.size:=Nat.lt_of_lt_of_le (by simp) a.sz
  obtain⟨v,o,x,af,g,f,ab,t,l,k⟩:=((Blk.new _ _ _).ext a).ten
  go_wp2_with fail
  refine(HV _ (by exact .trans (.alloc (.refl _) _) a)).mono ?_
  rintro e w2 ⟨rfl,ai⟩
  have b:Ext (w.alloc (.cells #[aA,aB,.slice p n cap,free,step,aD,aG,aC,aF,.slice q m c2] 35)) w2:=a.trans ai
  have ah:w.heap.size<w2.heap.size:=Nat.lt_of_lt_of_le (by simp) b.sz
  obtain⟨u,d,j,z,i,y,ad,s,r,ae⟩:=((Blk.new _ _ _).ext b).ten
  clear ak v o x af g f ab t l k
  go_wp2_with fail
  refine(TV _).mono ?_
  rintro e w3 ⟨rfl,ag⟩
  have c:Ext (w.alloc (.cells #[aA,aB,.slice p n cap,free,step,aD,aG,aC,aF,.slice q m c2] 35)) w3:=b.trans ag
  have ay:w.heap.size<w3.heap.size:=Nat.lt_of_lt_of_le (by simp) c.sz
  obtain⟨an,au,av,aw,ap,am,aq,ax,ao,ar⟩:=((Blk.new _ _ _).ext c).ten
  clear ah u d j z i y ad s r ae
  go_wp2_with go_in
  go_ret
  exact⟨rfl,by exact .trans (.alloc (.refl _) _) c⟩
theorem aA1 (aA aB free step aD aG aC aF:Int)(p:OA)(n cap:Nat)(q:OA)(m c2:Nat)(w:World)(hm:m≤9223372036854775807)
  (Cs:List Int)(HC:Hid (∀w',Ext w w'→Calls Tryz.prog 89 #[aH aA aB p n cap] w' (aX Cs w')))
  (HV:xB 90 #[aH aA aB p n cap] w true)
  (TV:Hid (∀w',Calls Tryz.prog 91 #[aR free step aD aG] w' fun e w''=>e= .returned (.bool true)∧Ext w' w''))
  (h0:0≤aC)(h1:aC≤9999)(h2:0≤aF)(h3:aF≤99999)(hL:((Cs.length:Int)!=m)=true):
  Calls Tryz.prog 40 #[.agg #[aA,aB,.slice p n cap,free,step,aD,aG,aC,aF,.slice q m c2]] w fun e w'=>e= .returned (.bool false)∧Ext w w':=by
 go_enter Tryz.func40,Tryz.ntmps40
 go_wp2_with fail
 refine(HC _ (by exact .alloc (.refl _) _)).mono ?_
 rintro e w1 ⟨cp,cc,rfl,z,ai⟩
 have ax:=xQ z
 clear z
 have a:Ext (w.alloc (.cells #[aA,aB,.slice p n cap,free,step,aD,aG,aC,aF,.slice q m c2] 35)) w1:=ai
 have aj:w.heap.size<w1.heap.size:=Nat.lt_of_lt_of_le (by simp) a.sz
 obtain⟨u,l,v,ae,g,f,aa,s,k,j⟩:=((Blk.new _ _ _).ext a).ten
 go_wp2_with fail
 refine(HV _ (by exact .trans (.alloc (.refl _) _) a)).mono ?_
 rintro e w2 ⟨rfl,ah⟩
 have b:Ext (w.alloc (.cells #[aA,aB,.slice p n cap,free,step,aD,aG,aC,aF,.slice q m c2] 35)) w2:=a.trans ah
 have ag:w.heap.size<w2.heap.size:=Nat.lt_of_lt_of_le (by simp) b.sz
 obtain⟨t,d,i,y,h,x,ab,r,o,ad⟩:=((Blk.new _ _ _).ext b).ten
 clear aj u l v ae g f aa s k j
 go_wp2_with fail
 refine(TV _).mono ?_
 rintro e w3 ⟨rfl,af⟩
 have c:Ext (w.alloc (.cells #[aA,aB,.slice p n cap,free,step,aD,aG,aC,aF,.slice q m c2] 35)) w3:=b.trans af
 have aw:w.heap.size<w3.heap.size:=Nat.lt_of_lt_of_le (by simp) c.sz
 obtain⟨al,aq,ar,au,an,ak,ao,av,am,ap⟩:=((Blk.new _ _ _).ext c).ten
 clear ag t d i y h x ab r o ad
 go_wp2_with go_in
 go_ret
 exact⟨rfl,by exact .trans (.alloc (.refl _) _) c⟩
theorem aA0 (aA aB free step aD aG aC aF:Int)(p:OA)(n cap:Nat)(q:OA)(m c2:Nat)(w:World)(hm:m≤9223372036854775807)
  (Cs:List Int)(HC:Hid (∀w',Ext w w'→Calls Tryz.prog 89 #[aH aA aB p n cap] w' (aX Cs w')))
  (HV:xB 90 #[aH aA aB p n cap] w true)
  (TV:Hid (∀w',Calls Tryz.prog 91 #[aR free step aD aG] w' fun e w''=>e= .returned (.bool true)∧Ext w' w''))
  (h0:0≤aC)(h1:aC≤9999)(h2:0≤aF)(h3:aF≤99999)(hL:((Cs.length:Int)!=m)=false)(hL2:Cs.length=m)(hm2:m≤100)(vs:List aP)(HVS:Hid (Sl w q m c2 4 (vs.flatMap aE))):
  Calls Tryz.prog 40 #[.agg #[aA,aB,.slice p n cap,free,step,aD,aG,aC,aF,.slice q m c2]] w fun e w'=>e= .returned (.bool (bY aC Cs vs))∧Ext w w':=by
 have a6:vs.length=m:=by have:=HVS.out.len;rw[dD aE 4 (fun _=>rfl)]at this;omega
 have bj:=xQ a6
 have ax:=xQ hL2
 clear a6 hL2
 go_enter Tryz.func40,Tryz.ntmps40
 go_wp2_with fail
 refine(HC _ (by exact .alloc (.refl _) _)).mono ?_
 rintro e w1 ⟨cp,cc,rfl,s,bg⟩
 have bi:=xQ s
 clear s
 have t:Ext (w.alloc (.cells #[aA,aB,.slice p n cap,free,step,aD,aG,aC,aF,.slice q m c2] 35)) w1:=bg
 have bh:w.heap.size<w1.heap.size:=Nat.lt_of_lt_of_le (by simp) t.sz
 obtain⟨a4,a8,bb,be,am,a7,aq,az,ad,ay⟩:=((Blk.new _ _ _).ext t).ten
 go_wp2_with fail
 refine(HV _ (by exact .trans (.alloc (.refl _) _) t)).mono ?_
 rintro e w2 ⟨rfl,a5⟩
 have y:Ext (w.alloc (.cells #[aA,aB,.slice p n cap,free,step,aD,aG,aC,aF,.slice q m c2] 35)) w2:=t.trans a5
 have bf:w.heap.size<w2.heap.size:=Nat.lt_of_lt_of_le (by simp) y.sz
 obtain⟨a9,ak,ab,ai,al,ao,ah,ae,an,bc⟩:=((Blk.new _ _ _).ext y).ten
 clear bh a4 a8 bb be am a7 aq az ad ay
 go_wp2_with fail
 refine(TV _).mono ?_
 rintro e w3 ⟨rfl,ba⟩
 have z:Ext (w.alloc (.cells #[aA,aB,.slice p n cap,free,step,aD,aG,aC,aF,.slice q m c2] 35)) w3:=y.trans ba
 have aa:w.heap.size<w3.heap.size:=Nat.lt_of_lt_of_le (by simp) z.sz
 obtain⟨bm,bo,bq,bl,bn,bp,bs,aj,br,bd⟩:=((Blk.new _ _ _).ext z).ten
 clear bf a9 ak ab ai al ao ah ae an bc
 have s:OwnZ w3 cp Cs.length cc Cs:=(aLb (bC bi (Ext.trans a5 ba)))
 have o:Ext w w3:=(Ext.alloc (Ext.refl w) _).trans z
 go_wp2_with go_in
 clear hL
 go_loopw [4] (fun i wr=> ∃k:Nat,k≤m∧i= .int .i64 k∧bY aC Cs vs=bY aC (Cs.drop k) (vs.drop k)∧Ext w3 wr) (fun i _=>m-(intOf i).toNat)
 case atStart=>exact⟨0,Nat.zero_le _,rfl,rfl,Ext.refl _⟩
 case round=>
  obtain⟨k,hk,rfl,x,hE⟩:=hrel
  have ap:wr.cell? ⟨w.heap.size,7,none⟩=some (.int .i64 aC):=(hE.cells.1 _ _ aa).trans aj
  have bu:wr.cell? ⟨w.heap.size,9,none⟩=some (.slice q m c2):=(hE.cells.1 _ _ aa).trans bd
  have u:w.heap.size<wr.heap.size:=Nat.lt_of_lt_of_le aa hE.sz
  have af:=ax.out
  by_cases hlt:k<m
  ·obtain⟨b,bt,a0,a1,a2,a3,rfl,hv,hb,g0,g1,g2,g3⟩:=dW (HVS.out.ext (o.trans hE)) hlt
   obtain⟨cb,d,c,rfl,hc,l,gc⟩:=(s.ext hE).int_at (show k<Cs.length by omega)
   have f:=xQ (x.trans (sE hc hv))
   have i1:(0:Int)≤(k:Int):=by omega
   have i2:(k:Int)<(m:Int):=by omega
   have i3:(k:Int)<(Cs.length:Int):=by omega
   clear x hc hv af
   have r:Hid (∀w',Calls Tryz.prog 92 #[bP a1 a2 a3] w' fun e w''=>e= .returned (.bool (cS a1 a2 a3))∧Ext w' w''):=fun w'=>aHa a1 a2 a3 w'
   go_wp2_with fail
   by_cases t0:a0=c
   ·have q0:(a0 !=c)=false:=by simp[t0]
    have T0:=xQ t0
    clear t0
    cases hst:cS a1 a2 a3 with
    |true=>
     rw[hst]at r
     have av:=xQ hst
     clear hst
     by_cases t1:aC<a3
     ·have g:Hid (bY aC Cs vs=false):=by show _=_;rw[f.out];simp[eV,av.out];omega
      go_region_held3 (fun w'=>w'.cell? ⟨wr.heap.size,0,none⟩=some (.int .i64 a0)∧w'.cell? ⟨wr.heap.size,1,none⟩=some (.int .i64 a1)∧w'.cell? ⟨wr.heap.size,2,none⟩=some (.int .i64 a2)∧w'.cell? ⟨wr.heap.size,3,none⟩=some (.int .i64 a3)∧w'.cell? ⟨cb,d+k,none⟩=some (.int .i64 c)∧w'.cell? ⟨w.heap.size,7,none⟩=some (.int .i64 aC)) (go_keep) ((go_at_call 92;refine(r.out _).mono ?_;rintro e w9 ⟨rfl,h9⟩;(try replace h9:=h9.of_drew);have x9:Ext wr w9:=(by first|exact((Ext.refl wr).alloc _).trans h9|exact(((Ext.refl wr).alloc _).drew).trans h9);have ag:=(x9.cells.1 cb (d+k) l).trans gc;have bk:=(x9.cells.1 w.heap.size 7 u).trans ap;have ar:=h9.cells.1;have j:wr.heap.size<w9.heap.size:=Nat.lt_of_lt_of_le (by simp) h9.sz;have aw:w.heap.size<w9.heap.size:=Nat.lt_trans u j;have au:cb<w9.heap.size:=Nat.lt_trans l j))
      all_goals go_wp2
      all_goals go_ret
      all_goals exact⟨aU g.out.symm,by exact .trans (.trans o hE) x9⟩
     ·have g:Hid (bY aC Cs vs=bY aC (Cs.drop (k+1)) (vs.drop (k+1))):=by show _=_;rw[f.out];simp[eV,av.out,T0.out];intro h;omega
      go_region_held3 (fun w'=>w'.cell? ⟨wr.heap.size,0,none⟩=some (.int .i64 a0)∧w'.cell? ⟨wr.heap.size,1,none⟩=some (.int .i64 a1)∧w'.cell? ⟨wr.heap.size,2,none⟩=some (.int .i64 a2)∧w'.cell? ⟨wr.heap.size,3,none⟩=some (.int .i64 a3)∧w'.cell? ⟨cb,d+k,none⟩=some (.int .i64 c)∧w'.cell? ⟨w.heap.size,7,none⟩=some (.int .i64 aC)) (go_keep) ((go_at_call 92;refine(r.out _).mono ?_;rintro e w9 ⟨rfl,h9⟩;(try replace h9:=h9.of_drew);have x9:Ext wr w9:=(by first|exact((Ext.refl wr).alloc _).trans h9|exact(((Ext.refl wr).alloc _).drew).trans h9);have ag:=(x9.cells.1 cb (d+k) l).trans gc;have bk:=(x9.cells.1 w.heap.size 7 u).trans ap;have ar:=h9.cells.1;have j:wr.heap.size<w9.heap.size:=Nat.lt_of_lt_of_le (by simp) h9.sz;have aw:w.heap.size<w9.heap.size:=Nat.lt_trans u j;have au:cb<w9.heap.size:=Nat.lt_trans l j))
      all_goals go_wp2
      all_goals go_roundw
      all_goals first
       |(case rel=>first|exact⟨k+1,by omega,by go_num,g.out,xE⟩|((repeat apply Exists.intro);exact⟨⟨k+1,by omega,by go_num,g.out,by exact .trans hE x9⟩,rfl⟩))
       |(case measure=>simp[intOf];omega)
    |false=>
     rw[hst]at r
     have g:Hid (bY aC Cs vs=false):=by show _=_;rw[f.out];simp[eV,hst]
     clear hst
     refine wp_region_held_drew (S:=fun w'=>w'.cell? ⟨wr.heap.size,0,none⟩=some (.int .i64 a0)∧w'.cell? ⟨wr.heap.size,1,none⟩=some (.int .i64 a1)∧w'.cell? ⟨wr.heap.size,2,none⟩=some (.int .i64 a2)∧w'.cell? ⟨wr.heap.size,3,none⟩=some (.int .i64 a3)∧w'.cell? ⟨cb,d+k,none⟩=some (.int .i64 c)) (by kernel_rfl) (by go_keep) (fun hHeld=> ?_)
     refine dR (i:=0) (v:= ?_) rfl (by kernel_rfl) (by kernel_rfl) (by kernel_rfl) (fun _ _ _ h=>h) (by rfl) ?_ (by assumption) ?_
     rotate_left
     ·(intro w a;(try dsimp only at a);go_simp;(try with_reducible rfl))
     (try simp only[Act.put,List.setIfInBounds_toArray,List.set_cons_zero,List.set_cons_succ])
     refine dR (i:=1) (v:= ?_) rfl (by kernel_rfl) (by kernel_rfl) (by kernel_rfl) (fun _ _ _ h=>h) (by rfl) ?_ (by assumption) ?_
     rotate_left
     ·(intro w a;(try dsimp only at a);go_simp;(try with_reducible rfl))
     (try simp only[Act.put,List.setIfInBounds_toArray,List.set_cons_zero,List.set_cons_succ])
     refine dR (i:=2) (v:= ?_) rfl (by kernel_rfl) (by kernel_rfl) (by kernel_rfl) (fun _ _ _ h=>h) (by rfl) ?_ (by assumption) ?_
     rotate_left
     ·(intro w a;(try dsimp only at a);go_simp;(try with_reducible rfl))
     (try simp only[Act.put,List.setIfInBounds_toArray,List.set_cons_zero,List.set_cons_succ])
     refine dR (i:=3) (v:= ?_) rfl (by kernel_rfl) (by kernel_rfl) (by kernel_rfl) (fun _ _ _ h=>h) (by rfl) ?_ (by assumption) ?_
     rotate_left
     ·(intro w a;(try dsimp only at a);go_simp;(try with_reducible rfl))
     (try simp only[Act.put,List.setIfInBounds_toArray,List.set_cons_zero,List.set_cons_succ])
     refine dR (i:=4) (v:= ?_) rfl (by kernel_rfl) (by kernel_rfl) (by kernel_rfl) (fun _ _ _ h=>h) (by rfl) ?_ (by assumption) ?_
     rotate_left
     ·(intro w a;(try dsimp only at a);go_simp;(try with_reducible rfl))
     (try simp only[Act.put,List.setIfInBounds_toArray,List.set_cons_zero,List.set_cons_succ])
     refine dR (i:=5) (v:= ?_) rfl (by kernel_rfl) (by kernel_rfl) (by kernel_rfl) (fun _ _ _ h=>h) (by rfl) ?_ (by assumption) ?_
     rotate_left
     ·(intro w a;(try dsimp only at a);go_simp;(try with_reducible rfl))
     (try simp only[Act.put,List.setIfInBounds_toArray,List.set_cons_zero,List.set_cons_succ])
     refine dR (i:=6) (v:= ?_) rfl (by kernel_rfl) (by kernel_rfl) (by kernel_rfl) (fun _ _ _ h=>h) (by rfl) ?_ (by assumption) ?_
     rotate_left
     ·(intro w a;(try dsimp only at a);go_simp;(try with_reducible rfl))
     (try simp only[Act.put,List.setIfInBounds_toArray,List.set_cons_zero,List.set_cons_succ])
     refine dR (i:=7) (v:= ?_) rfl (by kernel_rfl) (by kernel_rfl) (by kernel_rfl) (fun _ _ _ h=>h) (by rfl) ?_ (by assumption) ?_
     rotate_left
     ·(intro w a;(try dsimp only at a);go_simp;(try with_reducible rfl))
     (try simp only[Act.put,List.setIfInBounds_toArray,List.set_cons_zero,List.set_cons_succ])
     refine dR (i:=8) (v:= ?_) rfl (by kernel_rfl) (by kernel_rfl) (by kernel_rfl) (fun _ _ _ h=>h) (by rfl) ?_ (by assumption) ?_
     rotate_left
     ·(intro w a;(try dsimp only at a);go_simp;(try with_reducible rfl))
     (try simp only[Act.put,List.setIfInBounds_toArray,List.set_cons_zero,List.set_cons_succ])
     refine dR (i:=9) (v:= ?_) rfl (by kernel_rfl) (by kernel_rfl) (by kernel_rfl) (fun _ _ _ h=>h) (by rfl) ?_ (by assumption) ?_
     rotate_left
     ·(intro w a;(try dsimp only at a);go_simp;(try with_reducible rfl))
     (try simp only[Act.put,List.setIfInBounds_toArray,List.set_cons_zero,List.set_cons_succ])
     refine wpAnyH_ready (rs:= [10]) (by kernel_rfl) (by simp) ?_
     refine aJq rfl (fun K hK=> ?_)
     go_simp
     go_at_call 92
     refine(r.out _).mono ?_
     rintro e w9 ⟨rfl,h9⟩
     (try replace h9:=h9.of_drew)
     have x9:Ext wr w9:=(by first|exact((Ext.refl wr).alloc _).trans h9|exact(((Ext.refl wr).alloc _).drew).trans h9)
     have ag:=(x9.cells.1 cb (d+k) l).trans gc
     have ar:=h9.cells.1
     have j:wr.heap.size<w9.heap.size:=Nat.lt_of_lt_of_le (by simp) h9.sz
     go_wp2_with fail
     refine hK.out _ _ (by(try dsimp only);go_keep) (fun hHeld=> ?_)
     clear hK K
     (try simp only[Act.put,List.setIfInBounds_toArray,List.set_cons_zero,List.set_cons_succ])
     refine dR (i:=11) (v:= ?_) rfl (by kernel_rfl) (by kernel_rfl) (by kernel_rfl) (fun _ _ _ h=>h) (by rfl) ?_ (by assumption) ?_
     rotate_left
     ·(intro w a;(try dsimp only at a);go_simp;(try with_reducible rfl))
     (try simp only[Act.put,List.setIfInBounds_toArray,List.set_cons_zero,List.set_cons_succ])
     refine dR (i:=12) (v:= ?_) rfl (by kernel_rfl) (by kernel_rfl) (by kernel_rfl) (fun _ _ _ h=>h) (by rfl) ?_ (by assumption) ?_
     rotate_left
     ·(intro w a;(try dsimp only at a);go_simp;(try with_reducible rfl))
     (try simp only[Act.put,List.setIfInBounds_toArray,List.set_cons_zero,List.set_cons_succ])
     refine dR (i:=13) (v:= ?_) rfl (by kernel_rfl) (by kernel_rfl) (by kernel_rfl) (fun _ _ _ h=>h) (by rfl) ?_ (by assumption) ?_
     rotate_left
     ·(intro w a;(try dsimp only at a);go_simp;(try with_reducible rfl))
     (try simp only[Act.put,List.setIfInBounds_toArray,List.set_cons_zero,List.set_cons_succ])
     refine jX (i:=14) rfl (by kernel_rfl) (by kernel_rfl) (by kernel_rfl) (fun _ _ _ h=>h) (by rfl) (by assumption) ?_
     (try simp only[Act.put,List.setIfInBounds_toArray,List.set_cons_zero,List.set_cons_succ])
     refine jX (i:=15) rfl (by kernel_rfl) (by kernel_rfl) (by kernel_rfl) (fun _ _ _ h=>h) (by rfl) (by assumption) ?_
     (try simp only[Act.put,List.setIfInBounds_toArray,List.set_cons_zero,List.set_cons_succ])
     refine jX (i:=16) rfl (by kernel_rfl) (by kernel_rfl) (by kernel_rfl) (fun _ _ _ h=>h) (by rfl) (by assumption) ?_
     (try simp only[Act.put,List.setIfInBounds_toArray,List.set_cons_zero,List.set_cons_succ])
     refine jX (i:=17) rfl (by kernel_rfl) (by kernel_rfl) (by kernel_rfl) (fun _ _ _ h=>h) (by rfl) (by assumption) ?_
     (try simp only[Act.put,List.setIfInBounds_toArray,List.set_cons_zero,List.set_cons_succ])
     refine jX (i:=18) rfl (by kernel_rfl) (by kernel_rfl) (by kernel_rfl) (fun _ _ _ h=>h) (by rfl) (by assumption) ?_
     (try simp only[Act.put,List.setIfInBounds_toArray,List.set_cons_zero,List.set_cons_succ])
     refine jX (i:=19) rfl (by kernel_rfl) (by kernel_rfl) (by kernel_rfl) (fun _ _ _ h=>h) (by rfl) (by assumption) ?_
     (try simp only[Act.put,List.setIfInBounds_toArray,List.set_cons_zero,List.set_cons_succ])
     refine dR (i:=20) (v:= ?_) rfl (by kernel_rfl) (by kernel_rfl) (by kernel_rfl) (fun _ _ _ h=>h) (by rfl) ?_ (by assumption) ?_
     rotate_left
     ·(intro w a;(try dsimp only at a);go_simp;(try with_reducible rfl))
     (try simp only[Act.put,List.setIfInBounds_toArray,List.set_cons_zero,List.set_cons_succ])
     refine wpAnyH_done (by kernel_rfl) ?_ _
     all_goals go_wp2
     all_goals go_ret
     all_goals exact⟨aU g.out.symm,by exact .trans (.trans o hE) x9⟩
   ·have q0:(a0 !=c)=true:=by simp[t0]
    have g:Hid (bY aC Cs vs=false):=by show _=_;rw[f.out];simp[t0]
    clear t0
    go_quiet (fail)
    all_goals go_wp2
    all_goals go_ret
    all_goals exact⟨aU g.out.symm,by exact .drewN (.alloc (.trans o hE) _) _⟩
  ·have f:Hid (bY aC Cs vs=true):=by
    show _=_
    rw[x,List.drop_eq_nil_of_le (by rw[ax.out];omega),List.drop_eq_nil_of_le (by rw[bj.out];omega)];rfl
   clear x
   go_wp2
   go_ret
   exact⟨aU f.out.symm,by exact .trans o hE⟩
theorem kH (h:aO)(p:OA)(n cap:Nat)(q:OA)(m c2:Nat)(w:World)(hi:IsHouse w h p n cap q m c2):
  Calls Tryz.prog 40 #[bK h p n cap q m c2] w fun e w'=>e= .returned (.bool (aS h))∧Ext w w':=by
 obtain⟨aA,aB,a,b,c,aD,aG,aC,aF,vs⟩:=h
 have hm:=hi.vs.bd
 have f:=hi.vlen
 have d:=hi.clen
 have HV:=fun(w':World) (hx:Ext w w')=>fX aA aB p n cap a w' (hi.cells.ext hx)
 have HC:=fun(w':World) (hx:Ext w w')=>aLh aA aB p n cap a w' (hi.cells.ext hx)
 have TV:=fun(w':World)=>tQ b c aD aG w'
 unfold aS
 simp only at f d HV HC TV⊢
 cases h1:aN aA aB a with
 |false=>
  rw[h1]at HV HC
  simpa using aA4 aA aB b c aD aG aC aF p n cap q m c2 w hm _ HC HV
 |true=>
  rw[h1]at HV HC
  rw[if_pos rfl]at HC
  cases h2:aY b c aD aG with
  |false=>
   rw[h2]at TV
   simpa using aA3 aA aB b c aD aG aC aF p n cap q m c2 w hm _ HC HV TV
  |true=>
   rw[h2]at TV
   by_cases h3:0≤aC∧aC≤9999∧0≤aF∧aF≤99999
   ·obtain⟨a1,a2,a3,a4⟩:=h3
    have hn:jZ ⟨aA,aB,a,b,c,aD,aG,aC,aF,vs⟩=true:=by simp[jZ,a1,a2,a3,a4]
    rw[hn]
    by_cases hL:(cE a).length=m
    ·simpa using aA0 aA aB b c aD aG aC aF p n cap q m c2 w hm (cE a) HC HV TV a1 a2 a3 a4 (by simp[hL]) hL (by
      have e1:=iC a;have e2:=jF a
      have e3:a.length≤12:=by simp only[aN,Bool.and_eq_true]at h1;exact(bX h1.1).2.2.2.2.2.1
      omega) vs hi.vs
    ·rw[sD (by omega)]
     simpa using aA1 aA aB b c aD aG aC aF p n cap q m c2 w hm (cE a) HC HV TV a1 a2 a3 a4 (by simp;omega)
   ·have hn:jZ ⟨aA,aB,a,b,c,aD,aG,aC,aF,vs⟩=false:=by simp[jZ];omega
    rw[hn]
    simpa using aA2 aA aB b c aD aG aC aF p n cap q m c2 w hm _ HC HV TV (by omega)
end Go.Proofs.YtgnkoffndhmhpaaGreatDoor
namespace Go.Proofs.YtgnkoffndhmhpaaGreatDoor
open Go.RowKit
set_option linter.unusedVariables false
abbrev TV:TypeId:=68
def fM (h:aO)(w:World)(e:Ending)(w':World):Prop:=
 ∃p cap q c2,e= .returned (bK h p h.cells.length cap q h.vs.length c2)∧w'.ownsRow w.heap.size TI 1 (.slice p h.cells.length cap) h.cells.length (ivs h.cells)∧w'.ownsRow w.heap.size TV 4 (.slice q h.vs.length c2) h.vs.length (h.vs.flatMap aE)∧Ext w w'
end Go.Proofs.YtgnkoffndhmhpaaGreatDoor
