/-
  Texts of this proof, packed (@packed).
-/
import Derived.Test.YtgnkoffndhmhpaaGreatDoorP2
import Derived.Test.YtgnkoffndhmhpaaGreatDoorP3
import Derived.Test.YtgnkoffndhmhpaaGreatDoorP19
import Derived.Test.YtgnkoffndhmhpaaGreatDoorP25
namespace Go.Proofs.YtgnkoffndhmhpaaGreatDoor
open Go.RowKit
set_option linter.unusedVariables false
set_option linter.unusedSimpArgs false
set_option maxHeartbeats 8000000
set_option maxRecDepth 100000
def nP (aA aB f s p c:Int):aO:=if aY f s p c=true∧2≤aA∧aA≤4∧2≤aB∧aB≤3 then⟨aA,aB,List.replicate (aA*aB).toNat 0,f,s,p,c,0,0,[]⟩else iK
theorem aCw {w w':World}{W D:Int}{xs:List Int}{f s p c:Int}{q:OA}{cap:Nat}(ho:w'.ownsRow w.heap.size TI 1 (.slice q xs.length cap) xs.length (ivs xs))(hx:Ext w w'):
  fM ⟨W,D,xs,f,s,p,c,0,0,[]⟩ w (.returned (bK ⟨W,D,xs,f,s,p,c,0,0,[]⟩ q xs.length cap none 0 0)) w':=⟨q,cap,none,0,rfl,ho,World.ownsRow_nil _ _ _ _,hx⟩
theorem aD4 {w:World}{B n:Nat}{q:OA}{cap:Nat}{xs:List Value}{g:Nat}{t:TypeId}{cs:Array Value}(ho:w.ownsRow B TI 1 (.slice q n cap) n xs)(hb:Blk w g t cs)(ht:t≠TI):(Value.slice q n cap).ownBlock≠some g:=by
 intro he
 rcases ho.2 with⟨h1,h2⟩|⟨g',cap',cur,h1,hb',hg,hn,hm,hs,ht'⟩
 ·injection h1 with e1;subst e1;simp[Value.ownBlock]at he
 ·injection h1 with e1 e2 e3
  subst e1
  simp[Value.ownBlock]at he
  subst he
  unfold Blk at hb
  rw[hb]at hg
  injection hg with e;injection e with e1 e2
  exact ht e2
theorem aCf (aA aB free step aD aG W D:Int)(xs:List Int)(w:World)(tok:Bool)(HE:Hid (∀w',Ext w w'→Calls Tryz.prog 144 #[aA,aB] w' (cZ W D xs w')))
  (HV:Hid (∀w' p c,Sl w' p xs.length c 1 (ivs xs)→Calls Tryz.prog 90 #[aH W D p xs.length c] w' fun e w''=>e= .returned (.bool false)∧Ext w' w''))
  (HT:Hid (∀w',Calls Tryz.prog 91 #[aR free step aD aG] w' fun e w''=>e= .returned (.bool tok)∧Ext w' w'')):
  Calls Tryz.prog 107 #[aA,aB,aR free step aD aG] w (fM iK w):=by
 go_enter Tryz.func107,Tryz.ntmps107
 go_wp2_with fail
 refine(HE _ (by exact .alloc (.alloc (.refl _) _) _)).mono ?_
 rintro e w1 ⟨p1,c1,rfl,o1,b⟩
 have BT:Blk w1 (w.heap.size) 32 #[free,step,aD,aG]:=by have:=(Blk.new w 32 #[free,step,aD,aG]).ext (((Ext.refl _).alloc _).trans b);simpa using this
 have BZ:Blk w1 (w.heap.size+1) 35 #[(),(),((),()),(),(),(),(),(),(),((),())]:=by have:=(Blk.new (w.alloc (.cells #[free,step,aD,aG] 32)) 35 #[(),(),((),()),(),(),(),(),(),(),((),())]).ext ((Ext.refl _).trans b);simpa using this
 have X1:=xQ (show Ext w w1 by exact .trans (.alloc (.alloc (.refl _) _) _) b)
 have O1:=xQ (bH o1 (show w.heap.size≤_ by simp;omega))
 have H1:=xQ (Sl.own O1.out)
 have g:=xQ BT
 have f:=xQ BZ
 have s1:w.heap.size+1<w1.heap.size:=BZ.lt
 clear BT BZ o1 b
 go_wp2_with fail
 refine(HV _ _ _ (H1.out.ext (by exact .alloc (.refl _) _))).mono ?_
 rintro e w2 ⟨rfl,d⟩
 have h:=xQ ((Blk.new w1 31 #[W,D,.slice p1 xs.length c1]).ext d)
 have a:Ext w1 w2:=by exact .trans (.alloc (.refl _) _) d
 have l:=xQ (g.out.ext a)
 have i:=xQ (f.out.ext a)
 have O2:=xQ (bC O1 a)
 have X2:=xQ (X1.out.trans a)
 have s2:w1.heap.size<w2.heap.size:=h.out.lt
 clear d a g f O1 X1 H1
 obtain⟨z0,s,z1,m,z2,u,z3,t,z4,k,z5,j,z6,o,z7,r,z8,q,z9,n⟩:=i.out.tenf
 go_wp2
 exact bodyPost_ret (v:= .agg #[(),(),((),()),(),(),(),(),(),(),((),())]) (by simp[results,Tryz.results107,go_sem, *]) rfl ⟨none,0,none,0,rfl,World.ownsRow_nil _ _ _ _,World.ownsRow_nil _ _ _ _,((((((((((X2.out.setCell (p:=⟨w.heap.size+1,0,none⟩) (by dsimp only;omega) (.int .i64 0)).setCell (p:=⟨w.heap.size+1,1,none⟩) (by dsimp only;omega) (.int .i64 0)).setCell (p:=⟨w.heap.size+1,2,none⟩) (by dsimp only;omega) (.slice none 0 0)).setCell (p:=⟨w.heap.size+1,3,none⟩) (by dsimp only;omega) (.int .i64 0)).setCell (p:=⟨w.heap.size+1,4,none⟩) (by dsimp only;omega) (.int .i64 0)).setCell (p:=⟨w.heap.size+1,5,none⟩) (by dsimp only;omega) (.int .i64 0)).setCell (p:=⟨w.heap.size+1,6,none⟩) (by dsimp only;omega) (.int .i64 0)).setCell (p:=⟨w.heap.size+1,7,none⟩) (by dsimp only;omega) (.int .i64 0)).setCell (p:=⟨w.heap.size+1,8,none⟩) (by dsimp only;omega) (.int .i64 0)).setCell (p:=⟨w.heap.size+1,9,none⟩) (by dsimp only;omega) (.slice none 0 0))⟩
theorem aCe (aA aB free step aD aG W D:Int)(xs:List Int)(w:World)(tok:Bool)(HE:Hid (∀w',Ext w w'→Calls Tryz.prog 144 #[aA,aB] w' (cZ W D xs w')))
  (HV:Hid (∀w' p c,Sl w' p xs.length c 1 (ivs xs)→Calls Tryz.prog 90 #[aH W D p xs.length c] w' fun e w''=>e= .returned (.bool true)∧Ext w' w''))
  (HT:Hid (∀w',Calls Tryz.prog 91 #[aR free step aD aG] w' fun e w''=>e= .returned (.bool false)∧Ext w' w'')):
  Calls Tryz.prog 107 #[aA,aB,aR free step aD aG] w (fM iK w):=by
 go_enter Tryz.func107,Tryz.ntmps107
 go_wp2_with fail
 refine(HE _ (by exact .alloc (.alloc (.refl _) _) _)).mono ?_
 rintro e w1 ⟨p1,c1,rfl,o1,f⟩
 have BT:Blk w1 (w.heap.size) 32 #[free,step,aD,aG]:=by have:=(Blk.new w 32 #[free,step,aD,aG]).ext (((Ext.refl _).alloc _).trans f);simpa using this
 have BZ:Blk w1 (w.heap.size+1) 35 #[(),(),((),()),(),(),(),(),(),(),((),())]:=by have:=(Blk.new (w.alloc (.cells #[free,step,aD,aG] 32)) 35 #[(),(),((),()),(),(),(),(),(),(),((),())]).ext ((Ext.refl _).trans f);simpa using this
 have X1:=xQ (show Ext w w1 by exact .trans (.alloc (.alloc (.refl _) _) _) f)
 have O1:=xQ (bH o1 (show w.heap.size≤_ by simp;omega))
 have H1:=xQ (Sl.own O1.out)
 have k:=xQ BT
 have i:=xQ BZ
 have s1:w.heap.size+1<w1.heap.size:=BZ.lt
 clear BT BZ o1 f
 go_wp2_with fail
 refine(HV _ _ _ (H1.out.ext (by exact .alloc (.refl _) _))).mono ?_
 rintro e w2 ⟨rfl,h⟩
 have g:=xQ ((Blk.new w1 31 #[W,D,.slice p1 xs.length c1]).ext h)
 have d:Ext w1 w2:=by exact .trans (.alloc (.refl _) _) h
 have b:=xQ (k.out.ext d)
 have j:=xQ (i.out.ext d)
 have O2:=xQ (bC O1 d)
 have X2:=xQ (X1.out.trans d)
 have s2:w1.heap.size<w2.heap.size:=g.out.lt
 clear h d k i O1 X1 H1
 have t0:=b.out.cl 0
 have t1:=b.out.cl 1
 have t2:=b.out.cl 2
 have t3:=b.out.cl 3
 go_wp2_with fail
 clear t0 t1 t2 t3
 refine(HT _).mono ?_
 rintro e w3 ⟨rfl,a⟩
 have s:=xQ (b.out.ext a)
 have l:=xQ (j.out.ext a)
 have t:=xQ (g.out.ext a)
 have O3:=xQ (bC O2 a)
 have X3:=xQ (X2.out.trans a)
 have s3:w2.heap.size≤w3.heap.size:=a.sz
 clear a b j g O2 X2
 obtain⟨z0,y,z1,o,z2,aa,z3,z,z4,n,z5,m,z6,r,z7,x,z8,u,z9,q⟩:=l.out.tenf
 go_wp2
 exact bodyPost_ret (v:= .agg #[(),(),((),()),(),(),(),(),(),(),((),())]) (by simp[results,Tryz.results107,go_sem, *]) rfl ⟨none,0,none,0,rfl,World.ownsRow_nil _ _ _ _,World.ownsRow_nil _ _ _ _,((((((((((X3.out.setCell (p:=⟨w.heap.size+1,0,none⟩) (by dsimp only;omega) (.int .i64 0)).setCell (p:=⟨w.heap.size+1,1,none⟩) (by dsimp only;omega) (.int .i64 0)).setCell (p:=⟨w.heap.size+1,2,none⟩) (by dsimp only;omega) (.slice none 0 0)).setCell (p:=⟨w.heap.size+1,3,none⟩) (by dsimp only;omega) (.int .i64 0)).setCell (p:=⟨w.heap.size+1,4,none⟩) (by dsimp only;omega) (.int .i64 0)).setCell (p:=⟨w.heap.size+1,5,none⟩) (by dsimp only;omega) (.int .i64 0)).setCell (p:=⟨w.heap.size+1,6,none⟩) (by dsimp only;omega) (.int .i64 0)).setCell (p:=⟨w.heap.size+1,7,none⟩) (by dsimp only;omega) (.int .i64 0)).setCell (p:=⟨w.heap.size+1,8,none⟩) (by dsimp only;omega) (.int .i64 0)).setCell (p:=⟨w.heap.size+1,9,none⟩) (by dsimp only;omega) (.slice none 0 0))⟩
theorem aCd (aA aB free step aD aG W D:Int)(xs:List Int)(w:World)(tok:Bool)(HE:Hid (∀w',Ext w w'→Calls Tryz.prog 144 #[aA,aB] w' (cZ W D xs w')))
  (HV:Hid (∀w' p c,Sl w' p xs.length c 1 (ivs xs)→Calls Tryz.prog 90 #[aH W D p xs.length c] w' fun e w''=>e= .returned (.bool true)∧Ext w' w''))
  (HT:Hid (∀w',Calls Tryz.prog 91 #[aR free step aD aG] w' fun e w''=>e= .returned (.bool true)∧Ext w' w'')):
  Calls Tryz.prog 107 #[aA,aB,aR free step aD aG] w (fM ⟨W,D,xs,free,step,aD,aG,0,0,[]⟩ w):=by
 go_enter Tryz.func107,Tryz.ntmps107
 go_wp2_with fail
 refine(HE _ (by exact .alloc (.alloc (.refl _) _) _)).mono ?_
 rintro e w1 ⟨p1,c1,rfl,o1,g⟩
 have BT:Blk w1 (w.heap.size) 32 #[free,step,aD,aG]:=by have:=(Blk.new w 32 #[free,step,aD,aG]).ext (((Ext.refl _).alloc _).trans g);simpa using this
 have BZ:Blk w1 (w.heap.size+1) 35 #[(),(),((),()),(),(),(),(),(),(),((),())]:=by have:=(Blk.new (w.alloc (.cells #[free,step,aD,aG] 32)) 35 #[(),(),((),()),(),(),(),(),(),(),((),())]).ext ((Ext.refl _).trans g);simpa using this
 have X1:=xQ (show Ext w w1 by exact .trans (.alloc (.alloc (.refl _) _) _) g)
 have O1:=xQ (bH o1 (show w.heap.size≤_ by simp;omega))
 have H1:=xQ (Sl.own O1.out)
 have o:=xQ BT
 have m:=xQ BZ
 have s1:w.heap.size+1<w1.heap.size:=BZ.lt
 clear BT BZ o1 g
 go_wp2_with fail
 refine(HV _ _ _ (H1.out.ext (by exact .alloc (.refl _) _))).mono ?_
 rintro e w2 ⟨rfl,i⟩
 have h:=xQ ((Blk.new w1 31 #[W,D,.slice p1 xs.length c1]).ext i)
 have d:Ext w1 w2:=by exact .trans (.alloc (.refl _) _) i
 have b:=xQ (o.out.ext d)
 have n:=xQ (m.out.ext d)
 have O2:=xQ (bC O1 d)
 have X2:=xQ (X1.out.trans d)
 have s2:w1.heap.size<w2.heap.size:=h.out.lt
 clear i d o m O1 X1 H1
 have t0:=b.out.cl 0
 have t1:=b.out.cl 1
 have t2:=b.out.cl 2
 have t3:=b.out.cl 3
 go_wp2_with fail
 clear t0 t1 t2 t3
 refine(HT _).mono ?_
 rintro e w3 ⟨rfl,a⟩
 have f:=xQ (b.out.ext a)
 have l:=xQ (n.out.ext a)
 have k:=xQ (h.out.ext a)
 have O3:=xQ (bC O2 a)
 have X3:=xQ (X2.out.trans a)
 have s3:w2.heap.size≤w3.heap.size:=a.sz
 clear a b n h O2 X2
 have t0:=f.out.cl 0
 have t1:=f.out.cl 1
 have t2:=f.out.cl 2
 have t3:=f.out.cl 3
 have h0:=k.out.cl 0
 have h1:=k.out.cl 1
 have h2:=k.out.cl 2
 obtain⟨z0,z,z1,s,z2,ab,z3,aa,z4,r,z5,q,z6,u,z7,y,z8,x,z9,t⟩:=l.out.tenf
 go_wp2
 generalize j:World.setCell _ _ _=w5
 have hR:ExtR (w.heap.size+1) w3 w5:=by rw[←j];exact((((((((((ExtR.refl (w.heap.size+1) w3).setCell (p:=⟨w.heap.size+1,0,none⟩) (.inl rfl) (.int .i64 W)).setCell (p:=⟨w.heap.size+1,1,none⟩) (.inl rfl) (.int .i64 D)).setCell (p:=⟨w.heap.size+1,2,none⟩) (.inl rfl) (.slice p1 xs.length c1)).setCell (p:=⟨w.heap.size+1,3,none⟩) (.inl rfl) (.int .i64 free)).setCell (p:=⟨w.heap.size+1,4,none⟩) (.inl rfl) (.int .i64 step)).setCell (p:=⟨w.heap.size+1,5,none⟩) (.inl rfl) (.int .i64 aD)).setCell (p:=⟨w.heap.size+1,6,none⟩) (.inl rfl) (.int .i64 aG)).setCell (p:=⟨w.heap.size+1,7,none⟩) (.inl rfl) (.int .i64 0)).setCell (p:=⟨w.heap.size+1,8,none⟩) (.inl rfl) (.int .i64 0)).setCell (p:=⟨w.heap.size+1,9,none⟩) (.inl rfl) (.slice none 0 0)
 have O5:=O3.out.kept hR (.inr (aD4 O3 l.out (by decide)))
 have X5:=ExtR.new X3 hR (by omega)
 have Y5:=(((((((((l.out.set 0 (.int .i64 W)).set 1 (.int .i64 D)).set 2 (.slice p1 xs.length c1)).set 3 (.int .i64 free)).set 4 (.int .i64 step)).set 5 (.int .i64 aD)).set 6 (.int .i64 aG)).set 7 (.int .i64 0)).set 8 (.int .i64 0)).set 9 (.slice none 0 0)
 simp only[List.setIfInBounds_toArray,List.set_cons_zero,List.set_cons_succ]at Y5
 rw[j]at Y5
 clear j z0 z z1 s z2 ab z3 aa z4 r z5 q z6 u z7 y z8 x z9 t t0 t1 t2 t3 h0 h1 h2
 obtain⟨y0,y1,y2,y3,y4,y5,y6,y7,y8,y9⟩:=Y5.ten
 exact bodyPost_ret (v:= .agg #[W,D,.slice p1 xs.length c1,free,step,aD,aG,(),(),((),())]) (by simp[results,Tryz.results107,go_sem, *]) rfl (aCw O5 X5)
theorem aLg (aA aB:Int)(w:World):Calls Tryz.prog 144 #[aA,aB] w (cZ (cH aA aB).1 (cH aA aB).2.1 (cH aA aB).2.2 w):=by
 by_cases h:2≤aA∧aA≤4∧2≤aB∧aB≤3
 ·have h1:cH aA aB=(aA,aB,List.replicate (aA*aB).toNat 0):=by unfold cH;rw[if_pos h]
  rw[h1]
  obtain⟨a,b,c,d⟩:=h
  have h4:0≤aA*aB:=Int.mul_nonneg (by omega) (by omega)
  have h5:aA*aB≤12:=by have:=Int.mul_le_mul b d (by omega) (by omega);omega
  exact aFi aA aB (aA*aB).toNat w a b c d h4 h5 (by omega) (by omega)
 ·have h1:cH aA aB=(0,0,[]):=by unfold cH;rw[if_neg h]
  rw[h1]
  exact aCj aA aB w (by omega)
theorem uN {aA aB:Int}(h:2≤aA∧aA≤4∧2≤aB∧aB≤3):aN aA aB (List.replicate (aA*aB).toNat 0)=true:=by
 obtain⟨h0,h1,h2,h3⟩:=h
 have h4:0≤aA*aB:=Int.mul_nonneg (by omega) (by omega)
 unfold aN
 rw[Bool.and_eq_true]
 refine⟨by simp only[fP,decide_eq_true_eq,List.length_replicate];omega,?_⟩
 rw[dQ]
 refine⟨fun x hx=> ?_,fun x hx h=> ?_,?_⟩
 ·rw[List.mem_replicate]at hx;omega
 ·rw[List.mem_replicate]at hx;omega
 ·have:(List.replicate (aA*aB).toNat (0:Int)).filter (fun x=>decide (0<x))= []:=by
   rw[List.filter_eq_nil_iff];intro x hx;rw[List.mem_replicate]at hx;simp[hx.2]
  rw[this];exact List.nodup_nil
theorem aBd (aA aB f s p c:Int):nP aA aB f s p c=(if aN (cH aA aB).1 (cH aA aB).2.1 (cH aA aB).2.2&&aY f s p c then⟨(cH aA aB).1,(cH aA aB).2.1,(cH aA aB).2.2,f,s,p,c,0,0,[]⟩else iK):=by
 unfold nP
 by_cases h:2≤aA∧aA≤4∧2≤aB∧aB≤3
 ·have h1:cH aA aB=(aA,aB,List.replicate (aA*aB).toNat 0):=by unfold cH;rw[if_pos h]
  rw[h1,uN h,Bool.true_and]
  cases aY f s p c<;>simp[h]
 ·have h1:cH aA aB=(0,0,[]):=by unfold cH;rw[if_neg h]
  rw[h1]
  have h2:aN 0 0 []=false:=by simp[aN,fP]
  rw[h2,Bool.false_and]
  have h3: ¬(aY f s p c=true∧2≤aA∧aA≤4∧2≤aB∧aB≤3):=fun k=>h k.2
  rw[if_neg h3];rfl
theorem aLf (aA aB free step aD aG:Int)(w:World):Calls Tryz.prog 107 #[aA,aB,aR free step aD aG] w (fM (nP aA aB free step aD aG) w):=by
 have HE:=fun(w':World) (hx:Ext w w')=>aLg aA aB w'
 have HV:=fun(w':World) p c (hS:Sl w' p (cH aA aB).2.2.length c 1 (ivs (cH aA aB).2.2))=>fX (cH aA aB).1 (cH aA aB).2.1 p _ c (cH aA aB).2.2 w' hS
 have HT:=fun(w':World)=>tQ free step aD aG w'
 rw[aBd]
 cases h1:aN (cH aA aB).1 (cH aA aB).2.1 (cH aA aB).2.2 with
 |false=>rw[h1]at HV;cases h2:aY free step aD aG<;>(rw[h2]at HT;exact aCf aA aB free step aD aG _ _ _ w _ HE HV HT)
 |true=>
  rw[h1]at HV
  cases h2:aY free step aD aG with
  |false=>rw[h2]at HT;exact aCe aA aB free step aD aG _ _ _ w true HE HV HT
  |true=>rw[h2]at HT;exact aCd aA aB free step aD aG _ _ _ w true HE HV HT
end Go.Proofs.YtgnkoffndhmhpaaGreatDoor
namespace Go.Proofs.YtgnkoffndhmhpaaGreatDoor
open Go.RowKit
set_option linter.unusedVariables false
set_option linter.unusedSimpArgs false
def Good (h:aO):Prop:=aS h=true∨h=iK
theorem Good.small {h:aO}(hg:Good h):h.cells.length≤12∧h.vs.length≤12:=by
 rcases hg with hg|rfl
 ·have:=iJ hg;omega
 ·simp[iK]
theorem vN (a b f s p c:Int):Good (nP a b f s p c):=by
 unfold nP
 split
 ·rename_i hc
  left
  have hk:=uN hc.2
  refine(dH _).2 ⟨hk,hc.1,by simp,?_,by simp⟩
  have e:dB (List.replicate (a*b).toNat (0:Int))= []:=by
   unfold dB
   rw[List.filter_eq_nil_iff]
   intro x hx
   rw[(List.mem_replicate.1 hx).2];simp
  unfold cE
  rw[e];rfl
 ·exact .inr rfl
def aF5 (w:World)(e:Ending)(w':World):Prop:=
 ∃(h:aO) (p:OA) (cap:Nat) (q:OA) (c2:Nat) (nn:Int) (ok:Bool),e= .returned (.tuple #[bK h p h.cells.length cap q h.vs.length c2,nn,.bool ok])∧Good h∧
  w'.ownsRow w.heap.size TI 1 (.slice p h.cells.length cap) h.cells.length (ivs h.cells)∧w'.ownsRow w.heap.size TV 4 (.slice q h.vs.length c2) h.vs.length (h.vs.flatMap aE)∧Ext w w'
theorem yS (h:aO)(hg:Good h)(k a b:Int)(p:OA)(n cap:Nat)(q:OA)(m c2:Nat)(w:World)(hi:IsHouse w h p n cap q m c2):
  Calls Tryz.prog 28 #[bK h p n cap q m c2,jC k a b] w (aF5 w):=by
 cases hok:aS h with
 |true=>
  refine(sH h k a b p n cap q m c2 w hi hok).mono ?_
  intro e w' hr
  cases hd:bL h k a b with
  |none=>
   rw[hd]at hr
   obtain⟨p',c,q',d,rfl,o1,o2,hx⟩:=hr
   exact⟨h,p',c,q',d,_,_,rfl,hg,o1,o2,hx⟩
  |some r=>
   obtain⟨h',x⟩:=r
   rw[hd]at hr
   obtain⟨p',c,q',d,rfl,o1,o2,hx⟩:=hr
   exact⟨h',p',c,q',d,_,_,rfl,.inl (gE hok hd).1,o1,o2,hx⟩
 |false=>
  refine(mY h k a b p n cap q m c2 w hi hok).mono ?_
  rintro e w' ⟨rfl,hx⟩
  exact⟨iK,none,0,none,0,_,_,rfl,.inr rfl,World.ownsRow_nil _ _ _ _,World.ownsRow_nil _ _ _ _,hx⟩
theorem lY (R k:Nat)(h:aO)(p:OA)(cap:Nat)(q:OA)(c2:Nat)(w:World)(hr:Rand w R k)(hk:k≤1099511600000)(hs:h.cells.length≤100∧h.vs.length≤1000)
  (hi:IsHouse w h p h.cells.length cap q h.vs.length c2)(hp:0<h.cells.length→ ∀b off,p=some ⟨b,off,none⟩→b≠R)(hq:0<h.vs.length→ ∀b off,q=some ⟨b,off,none⟩→b≠R):
  Calls Tryz.prog 66 #[.pointer (some ⟨R,0,none⟩),bK h p h.cells.length cap q h.vs.length c2] w (zJ R k w):=by
 refine uF R k h.aA h.aB h.free h.step h.aD h.aG h.aC h.aF p _ cap q _ c2 h.vs (gJ h.aA h.aB h.cells) w hr hk hs.2 _ (xQ rfl) ?_ (xQ rfl) (xQ hi.vs) (xQ fun b off h0 e=>hq h0 b off e) (xQ fun w' hx=> ?_)
 ·have h1:=vG h.aA h.aB h.cells
  have h2:=Nat.mul_le_mul hs.1 hs.1
  omega
 ·exact aA9 h.aA h.aB p _ cap h.cells w' (hx.sl (b0:=0) hi.cells hp) (by omega)
def aH0 (R k:Nat)(w:World)(e:Ending)(w':World):Prop:=
 ∃(h:aO) (p:OA) (cap:Nat) (q:OA) (c2:Nat),e= .returned (bK h p h.cells.length cap q h.vs.length c2)∧h.cells.length≤13∧h.vs.length≤13∧
  w'.ownsRow w.heap.size TI 1 (.slice p h.cells.length cap) h.cells.length (ivs h.cells)∧w'.ownsRow w.heap.size TV 4 (.slice q h.vs.length c2) h.vs.length (h.vs.flatMap aE)∧Rand w' R (k+20000)∧ExtR R w w'
theorem mO {R:Nat}{w0 w:World}{L:List Item}{i j B1 B2 cap c2:Nat}{h:aO}{p q:OA}(m:MemR R w0 w L)(hi:L[i]? =some (aJ B1 TI 1 p h.cells.length cap (ivs h.cells))) (hj:L[j]? =some (aJ B2 TV 4 q h.vs.length c2 (h.vs.flatMap aE))):IsHouse w h p h.cells.length cap q h.vs.length c2:=⟨m.sl hi,m.sl hj⟩
theorem qA {R:Nat}{w0 w:World}{L:List Item}{i B n c sz:Nat}{e:TypeId}{p:OA}{xs:List Value}(m:MemR R w0 w L)(hi:L[i]? =some (aJ B e sz p n c xs)):0<n→ ∀b off,p=some ⟨b,off,none⟩→b≠R:=by
 intro h0 b off he
 obtain⟨g,hg,h1,_⟩:=m.some hi h0
 rw[hg]at he
 injection he with he;injection he with he
 have:=m.old
 omega
abbrev hvc (h:aO)(p:OA)(cap:Nat)(q:OA)(c2:Nat):Array Value:=#[h.aA,h.aB,.slice p h.cells.length cap,h.free,h.step,h.aD,h.aG,h.aC,h.aF,.slice q h.vs.length c2]
def oA (lo:Nat)(w:World)(a:Nat):Prop:=
 ∃(h:aO) (p:OA) (cap:Nat) (q:OA) (c2:Nat),Blk w a aL (hvc h p cap q c2)∧Good h∧w.ownsRow lo TI 1 (.slice p h.cells.length cap) h.cells.length (ivs h.cells)∧w.ownsRow lo TV 4 (.slice q h.vs.length c2) h.vs.length (h.vs.flatMap aE)
structure RG (R lo:Nat) (w w':World):Prop where
 os:w'.os=w.os
 tape:w'.tape=w.tape
 output:w'.output=w.output
 size:w.heap.size≤w'.heap.size
 block: ∀i,i<w.heap.size→i≠R→w'.heap[i]? =w.heap[i]? ∨(lo≤i∧(∃cs,Blk w i aL cs)∧oA lo w' i)
theorem RG.refl (R lo:Nat)(w:World):RG R lo w w:=⟨rfl,rfl,rfl,Nat.le_refl _,fun i _ _=> .inl rfl⟩
theorem RG.ofR {R lo:Nat}{w w':World}(h:ExtR R w w'):RG R lo w w':=⟨h.os,h.tape,h.output,h.size,fun i hi hne=> .inl (h.block i hi (fun e=>hne (by injection e)))⟩
theorem RG.ofE {R lo:Nat}{w w':World}(h:Ext w w'):RG R lo w w':=RG.ofR (h.r R)
theorem oG {w:World}{b1 s1 n1:Nat}{e1:TypeId}{v1:Value}{xs1:List Value}{g:Nat}{t:TypeId}{cs:Array Value}(h1:w.ownsRow b1 e1 s1 v1 n1 xs1)(h2:Blk w g t cs)(ne:e1≠t):v1.ownBlock≠some g:=by
 intro hg
 rcases h1.2 with⟨b1,_⟩|⟨g1,cap1,cur1,b1,_,b3,_⟩
 ·rw[b1]at hg;cases hg
 ·rw[b1]at hg
  injection hg with hg
  have x1:g1=g:=hg
  subst x1
  unfold Blk at h2
  rw[h2]at b3
  injection b3 with b3;injection b3 with _ b3
  exact ne b3.symm
theorem RG.own {R lo B n sz:Nat}{e:TypeId}{w w':World}{v:Value}{xs:List Value}(h:RG R lo w w')(ho:w.ownsRow B e sz v n xs)(hB:R<B)(he:e≠aL):w'.ownsRow B e sz v n xs:=by
 refine jP ho (fun g hg=> ?_)
 have hl:=World.ownsRow.lt ho g hg
 rcases h.block g hl.2 (by omega)with h1|⟨_,⟨cs,hb⟩,_⟩
 ·exact h1
 ·exfalso
  rcases ho.2 with⟨b1,_⟩|⟨g1,cap1,cur1,b1,_,b3,_⟩
  ·rw[b1]at hg;cases hg
  ·rw[b1]at hg
   injection hg with hg
   have x1:g1=g:=hg
   subst x1
   unfold Blk at hb
   rw[hb]at b3
   injection b3 with b3;injection b3 with _ b3
   exact he b3.symm
theorem RG.house {R lo a:Nat}{w w':World}(h:RG R lo w w')(hR:R<lo)(ha:lo≤a)(hb:oA lo w a):oA lo w' a:=by
 obtain⟨h2,p,b,q,c2,b1,b2,b3,b4⟩:=hb
 rcases h.block a b1.lt (by omega)with h1|⟨_,_,h1⟩
 ·exact⟨h2,p,b,q,c2,by unfold Blk at*;rw[h1];exact b1,b2,h.own b3 hR (by decide),h.own b4 hR (by decide)⟩
 ·exact h1
theorem RG.trans {R lo:Nat}{a b c:World}(hR:R<lo)(h:RG R lo a b)(k:RG R lo b c):RG R lo a c:=
 ⟨k.os.trans h.os,k.tape.trans h.tape,k.output.trans h.output,Nat.le_trans h.size k.size,fun i hi hne=>by
  rcases h.block i hi hne with h1|⟨l1,h2,h3⟩
  ·rcases k.block i (Nat.lt_of_lt_of_le hi h.size) hne with k1|⟨l2,⟨cs,k2⟩,k3⟩
   ·exact .inl (k1.trans h1)
   ·exact .inr ⟨l2,⟨cs,by unfold Blk at*;rw[←h1];exact k2⟩,k3⟩
  ·exact .inr ⟨l1,h2,k.house hR l1 h3⟩⟩
theorem RG.extR {R:Nat}{w w':World}(h:RG R w.heap.size w.drew w'):ExtR R w w':=
 ⟨h.os,h.tape,h.output,h.size,fun i hi hne=>by
  rcases h.block i hi (fun e=>hne (by rw[e]))with h1|⟨h2,_⟩
  ·exact h1
  ·omega⟩
theorem yT {lo:Nat}(w:World):oA lo (w.alloc (.cells #[(),(),((),()),(),(),(),(),(),(),((),())] aL)) w.heap.size:=
 ⟨iK,none,0,none,0,Blk.new _ _ _,.inr rfl,World.ownsRow_nil _ _ _ _,World.ownsRow_nil _ _ _ _⟩
theorem RG.put {R lo g:Nat}{w w':World}{cs:Array Value}{h:aO}{p q:OA}{cap c2:Nat}(hx:ExtR g w w')(hl:lo≤g)(hb:Blk w g aL cs)(hb':Blk w' g aL (hvc h p cap q c2))(hg:Good h)
  (h1:w.ownsRow lo TI 1 (.slice p h.cells.length cap) h.cells.length (ivs h.cells))(h2:w.ownsRow lo TV 4 (.slice q h.vs.length c2) h.vs.length (h.vs.flatMap aE)):RG R lo w w':=
 ⟨hx.os,hx.tape,hx.output,hx.size,fun i hi hne=>by
  by_cases e:i=g
  ·subst e
   refine .inr ⟨hl,⟨cs,hb⟩,h,p,cap,q,c2,hb',hg,?_,?_⟩
   ·exact jP h1 (fun k hk=>hx.block k (World.ownsRow.lt h1 k hk).2 (fun e=>oG h1 hb (by decide) (by rw[hk];exact e)))
   ·exact jP h2 (fun k hk=>hx.block k (World.ownsRow.lt h2 k hk).2 (fun e=>oG h2 hb (by decide) (by rw[hk];exact e)))
  ·exact .inl (hx.block i hi (fun e'=>e (by injection e')))⟩
structure XS (R g:Nat) (t:TypeId) (cs:Array Value) (w w':World):Prop where
 os:w'.os=w.os
 tape:w'.tape=w.tape
 output:w'.output=w.output
 size:w.heap.size≤w'.heap.size
 block: ∀i,i<w.heap.size→i≠R→i≠g→w'.heap[i]? =w.heap[i]?
 put:g<w.heap.size→w'.heap[g]? =w.heap[g]? ∨Blk w' g t cs
theorem XS.blk {R g:Nat}{t:TypeId}{cs:Array Value}{w w':World}(h:XS R g t cs w w')(hb:Blk w g t cs):Blk w' g t cs:=by
 rcases h.put hb.lt with h1|h1
 ·unfold Blk at*;rw[h1];exact hb
 ·exact h1
theorem XS.trans {R g:Nat}{t:TypeId}{cs:Array Value}{a b c:World}(h:XS R g t cs a b)(k:XS R g t cs b c):XS R g t cs a c:=
 ⟨k.os.trans h.os,k.tape.trans h.tape,k.output.trans h.output,Nat.le_trans h.size k.size,fun i hi h1 h2=>(k.block i (Nat.lt_of_lt_of_le hi h.size) h1 h2).trans (h.block i hi h1 h2),fun hg=>by
  rcases h.put hg with h1|h1
  ·rcases k.put (Nat.lt_of_lt_of_le hg h.size)with k1|k1
   ·exact .inl (k1.trans h1)
   ·exact .inr k1
  ·exact .inr (k.blk h1)⟩
theorem XS.other {R g a:Nat}{t t':TypeId}{cs cs':Array Value}{w w':World}(h:XS R g t cs w.drew w')(hb:Blk w a t' cs')(h1:a≠R)(h2:a≠g):Blk w' a t' cs':=by
 have:=h.block a hb.lt h1 h2
 unfold Blk at*
 rw[this];exact hb
section
variable {R:Nat} {w0 w w':World} {L:List Item}
end
end Go.Proofs.YtgnkoffndhmhpaaGreatDoor
