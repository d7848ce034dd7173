/-
  Texts of this proof, packed (@packed).
-/
import Derived.Test.YtahglfakiobbcaaGreatDoorK7
namespace Go.Proofs.YtahglfakiobbcaaGreatDoor
open Go.RowKit
set_option linter.unusedVariables false
set_option linter.unusedSimpArgs false
theorem vI {w:World}{q:Option Addr}{m c2:Nat}{l:List Sl2}(h:Sl w q m c2 2 (l.flatMap aM)){k:Nat}(hk:k<m):
  ∃b off f t,q=some ⟨b,off,none⟩∧l[k]? =some (f,t)∧b<w.heap.size∧w.cell? ⟨b,off+k*2,none⟩=some (.int .i64 f)∧w.cell? ⟨b,off+k*2+1,none⟩=some (.int .i64 t):=by
 obtain⟨b,off,x,hp,hx,hb,hc⟩:=Sl.at_ (sz:=2) (f:=aM) (fun _=>rfl) h hk (by omega)
 obtain⟨f,t⟩:=x
 exact⟨b,off,f,t,hp,hx,hb,hc 0 (by omega),hc 1 (by omega)⟩
theorem yM {w:World}{q:Option Addr}{m c2:Nat}{l:List Sl2}(h:Sl w q m c2 2 (l.flatMap aM)):l.length=m:=by
 have:=h.len;rw[cM aM 2 (fun _=>rfl)]at this;omega
set_option maxRecDepth 100000 in
set_option maxHeartbeats 1000000 in
theorem aCx (aA aB:Int)(p:Option Addr)(cap:Nat)(xs:List Int)(lq:Option Addr)(m lc:Nat)(l:List Sl2)(w:World)(hn0:4≤xs.length)(hn:xs.length≤12)(hm:m≤60)(hok:Hid (aP aA aB xs=true))(HS:Hid (Sl w lq m lc 2 (l.flatMap aM)))
  (HV:Hid (∀w',Ext w w'→Calls Tryz.prog 58 #[aK aA aB p xs.length cap] w' fun e w''=>e= .returned (.bool true)∧Ext w' w''))
  (HC:Hid (∀w',Ext w w'→Calls Tryz.prog 61 #[aK aA aB p xs.length cap] w' (cW aA aB xs w'))):
  Calls Tryz.prog 63 #[aK aA aB p xs.length cap,.slice lq m lc] w (bY aA aB (aW aA aB xs l).1 ((aW aA aB xs l).2:Nat) w):=by
 have hl:=xQ (yM HS.out)
 have hd60:decide (60<m)=false:=by simp;omega
 have hd61:decide ((60:Int)<(m:Int))=false:=by simp;omega
 go_enter Tryz.func63,Tryz.ntmps63
 have X_0:=xQ (Ext.refl w)
 go_wp2_with fail
 refine(HV.out _ (by exact .alloc (.alloc (.refl _) _) _)).mono ?_
 rintro e w1 ⟨rfl,hx1⟩
 have hy1:Ext w w1:=(((Ext.refl _).alloc _).alloc _).trans hx1
 have z1:w.heap.size+2≤w1.heap.size:=by have:=hx1.sz;(try simp at this);omega
 have X_1:=xQ (X_0.out.trans hy1)
 clear X_0
 have H_1:=xQ (show Blk w1 (w.heap.size) TH3 #[.int .i64 aA,.int .i64 aB,.slice p xs.length cap] by have:=((Blk.new w TH3 #[.int .i64 aA,.int .i64 aB,.slice p xs.length cap]).alloc _).ext hx1;simpa using this)
 have Z_1:=xQ (show Blk w1 (w.heap.size+1) TH3 #[.int .i64 0,.int .i64 0,.slice none 0 0] by have:=(Blk.new (w.alloc (.cells #[.int .i64 aA,.int .i64 aB,.slice p xs.length cap] TH3)) TH3 #[.int .i64 0,.int .i64 0,.slice none 0 0]).ext hx1;simpa using this)
 clear hy1
 have ltH_1:w.heap.size<w1.heap.size:=H_1.out.lt
 have ltZ_1:w.heap.size+1<w1.heap.size:=Z_1.out.lt
 clear hx1
 obtain⟨c0,c1,c2⟩:=(H_1.out).tri
 go_wp2_with fail
 clear c0 c1 c2
 refine(HC.out _ X_1.out).mono ?_
 rintro e w2 ⟨q0,c0,rfl,o0,hx2⟩
 have hy2:Ext w1 w2:=by exact hx2
 have z2:w1.heap.size+0≤w2.heap.size:=by have:=hx2.sz;(try simp at this);omega
 have X_2:=xQ (X_1.out.trans hy2)
 have H_2:=xQ (H_1.out.ext hy2)
 have Z_2:=xQ (Z_1.out.ext hy2)
 clear X_1 H_1 Z_1
 clear hy2
 clear ltH_1
 have ltH_2:w.heap.size<w2.heap.size:=H_2.out.lt
 clear ltZ_1
 have ltZ_2:w.heap.size+1<w2.heap.size:=Z_2.out.lt
 have O_2:=xQ (o0)
 clear hx2 o0
 go_wp2
 go_loopw [7] (fun i wr=> ∃(k:Nat) (q:Option Addr) (c:Nat),k≤m∧i= .int .i64 k∧(aW aA aB xs (l.take k)).2=k∧wr.ownsRow w1.heap.size TI 1 (.slice q xs.length c) xs.length (ivs (aW aA aB xs (l.take k)).1)∧Ext w wr∧Blk wr w2.heap.size TH3 #[.int .i64 aA,.int .i64 aB,.slice q xs.length c]∧Blk wr (w.heap.size+1) TH3 #[.int .i64 0,.int .i64 0,.slice none 0 0]∧w2.heap.size<wr.heap.size) (fun i _=>m-(intOf i).toNat)
 case atStart=>exact⟨0,q0,c0,Nat.zero_le _,rfl,by simp[aW],by simpa[aW]using bC O_2.out ((Ext.refl _).alloc _),X_2.out.alloc _,Blk.new _ _ _,Z_2.out.alloc _,by simp⟩
 case round=>
  clear O_2 X_2 H_2 Z_2 ltH_2 ltZ_2
  obtain⟨k,q,c,hk,rfl,hcnt,hown,hEw,hBV,hBZ,hsz⟩:=hrel
  have HO:=xQ hown
  have HBV:=xQ hBV
  have HBZ:=xQ hBZ
  have HCNT:=xQ hcnt
  clear hown hBV hBZ hcnt
  obtain⟨ok1,ok2,ok3⟩:=kN (l.take k) xs hok.out
  have OK:=xQ ok1
  have LEN:=xQ ok2
  clear ok1 ok2 ok3
  by_cases hlt:k<m
  ·obtain⟨b2,off2,f,t,rfl,hx,hb2,d0,d1⟩:=vI (HS.out.ext hEw) hlt
   have HX:=xQ hx
   clear hx
   have i1:(0:Int)≤(k:Int):=by omega
   have i2:(k:Int)<(m:Int):=by omega
   have hstep:Hid (aW aA aB xs (l.take (k+1))=(if aZ aA aB (aW aA aB xs (l.take k)).1 f t then(bA aA aB (aW aA aB xs (l.take k)).1 f t,k+1)else((aW aA aB xs (l.take k)).1,k))):=by
    show _=_
    have hlk:(l.take k).length=k:=by rw[List.length_take,hl.out];omega
    rw[bH HX.out,lP _ _ _ (by rw[HCNT.out,hlk]),hlk]
   have HD:Hid (∀w',Ext wr w'→Calls Tryz.prog 36 #[aK aA aB q xs.length c,dC f t] w' fun e w''=> ∃q5 c5,e= .returned (.tuple #[aK aA aB q5 xs.length c5,.bool (aZ aA aB (aW aA aB xs (l.take k)).1 f t)])∧w''.ownsRow w'.heap.size TI 1 (.slice q5 xs.length c5) xs.length (ivs (bA aA aB (aW aA aB xs (l.take k)).1 f t))∧Ext w' w''):=
    fun w' hx=>(iY aA aB f t q xs.length c _ w' ((Sl.own HO.out).ext hx) OK.out).mono fun e w'' ⟨q5,c5,he,ho,hy⟩=>by
     have hl5:(bA aA aB (aW aA aB xs (l.take k)).1 f t).length=xs.length:=by rw[cE,LEN.out]
     rw[hl5]at he ho
     exact⟨q5,c5,he,ho,hy⟩
   generalize hys:(aW aA aB xs (l.take k)).1=ys at*
   have HYS:=xQ hys
   clear hys
   generalize hzs:bA aA aB ys f t=zs at*
   have HZS:=xQ hzs
   clear hzs
   generalize hbm:aZ aA aB ys f t=bm at*
   have HBM:=xQ hbm
   clear hbm
   obtain⟨v0,v1,v2⟩:=(HBV.out).tri
   have n1: ¬(w2.heap.size=wr.heap.size):=by omega
   have n2: ¬(wr.heap.size=w2.heap.size):=by omega
   have n3: ¬(b2=wr.heap.size):=by omega
   have n4: ¬(wr.heap.size=b2):=by omega
   go_upto_region 7 with fail
   go_cut [8,9] (fun s8 s9 wx=> ∃(a:Nat) (q5:Option Addr) (c5:Nat),s8= .pointer (some ⟨a,0,none⟩)∧s9= .bool bm∧Ext wr wx∧wr.heap.size≤a∧Blk wx a TH3 #[.int .i64 aA,.int .i64 aB,.slice q5 xs.length c5]∧wx.ownsRow wr.heap.size TI 1 (.slice q5 xs.length c5) xs.length (ivs zs))
   case first=>
    go_region_held3 (fun w'=>w'.cell? ⟨w2.heap.size,0,none⟩=some (.int .i64 aA)∧w'.cell? ⟨w2.heap.size,1,none⟩=some (.int .i64 aB)∧w'.cell? ⟨w2.heap.size,2,none⟩=some (.slice q xs.length c)∧w'.cell? ⟨b2,off2+k*2,none⟩=some (.int .i64 f)∧w'.cell? ⟨b2,off2+k*2+1,none⟩=some (.int .i64 t))
     (first|(refine⟨?_,?_,?_,?_,?_⟩<;>assumption)|go_keep)
     ((go_at_call 36
       refine(HD.out _ xE).mono ?_
       rintro e w5 ⟨q5,c5,rfl,o5,hx5⟩
       have hy5:Ext wr w5:=xE
       obtain⟨g0,g1,g2⟩:=((HBV.out.ext hy5)).tri
       have g3:w5.cell? ⟨b2,off2+k*2,none⟩=some (.int .i64 f):=(hy5.cells.1 _ _ hb2).trans d0
       have g4:w5.cell? ⟨b2,off2+k*2+1,none⟩=some (.int .i64 t):=(hy5.cells.1 _ _ hb2).trans d1
       first
        |(have hz5:Ext (wr.alloc (.cells #[.int .i64 0,.int .i64 0,.slice none 0 0] TH3)) w5:=hx5
          have BB:=(Blk.new wr TH3 #[.int .i64 0,.int .i64 0,.slice none 0 0]).ext hz5
          obtain⟨zc0,zf0,zc1,zf1,zc2,_⟩:=(BB).trif
          have zf2:w5.frozen? ⟨wr.heap.size,2,none⟩=false:=BB.frozen 2)
        |(have hz5:Ext (wr.alloc (.cells #[.int .i64 0,.int .i64 0,.slice none 0 0] TH3)) w5:=hx5.of_drew
          have BB:=(Blk.new wr TH3 #[.int .i64 0,.int .i64 0,.slice none 0 0]).ext hz5
          obtain⟨zc0,zf0,zc1,zf1,zc2,_⟩:=(BB).trif
          have zf2:w5.frozen? ⟨wr.heap.size,2,none⟩=false:=BB.frozen 2)
        |skip))
    ·go_wp2_with fail
     go_meet
     exact⟨w5.heap.size,q5,c5,rfl,rfl,by exact .alloc hy5 _,by have:=hy5.sz;omega,Blk.new _ _ _,bG (by exact o5.alloc _) (by simp)⟩
    ·have hR:ExtR wr.heap.size w5 _:=(((ExtR.refl wr.heap.size w5).setCell (p:=⟨wr.heap.size,0,none⟩) (.inl rfl) (.int .i64 aA)).setCell (p:=⟨wr.heap.size,1,none⟩) (.inl rfl) (.int .i64 aB)).setCell (p:=⟨wr.heap.size,2,none⟩) (.inl rfl) (.slice q5 xs.length c5)
     have hY:=((BB.set 0 (.int .i64 aA)).set 1 (.int .i64 aB)).set 2 (.slice q5 xs.length c5)
     simp only[List.setIfInBounds_toArray,List.set_cons_zero,List.set_cons_succ]at hY
     go_wp2_with fail
     go_meet
     exact⟨wr.heap.size,q5,c5,rfl,rfl,ExtR.new hy5 hR (Nat.le_refl _),Nat.le_refl _,hY,bG (o5.kept hR (.inr (cO o5 BB (by decide)))) (by simp)⟩
   case rest=>
    clear v0 v1 v2 n1 n2 n3 n4 d0 d1
    obtain⟨a,q5,c5,rfl,rfl,hE5,ha,hBa,ho5⟩:=hcut
    cases bm with
    |true=>
     have hst':=hstep.out
     rw[if_pos rfl]at hst'
     have hst:aW aA aB xs (l.take (k+1))=(zs,k+1):=hst'
     have hst:=xQ hst
     clear hst'
     have V_0:=xQ (HBV.out.ext hE5)
     have Z_0:=xQ (HBZ.out.ext hE5)
     have A_0:=xQ hBa
     have X_0:=xQ (hEw.trans hE5)
     have O_0:=xQ (bC HO.out hE5)
     have P_0:=xQ (bG ho5 (show w1.heap.size≤wr.heap.size by omega))
     clear HBV HBZ hBa hEw HO ho5
     have z0:=hE5.sz
     have ltV_0:w2.heap.size<wc.heap.size:=V_0.out.lt
     have ltZ_0:w.heap.size+1<wc.heap.size:=Z_0.out.lt
     have ltA_0:a<wc.heap.size:=A_0.out.lt
     obtain⟨v0,vf0,v1,vf1,v2,vf2⟩:=(V_0.out).trif
     obtain⟨a0,a1,a2⟩:=(A_0.out).tri
     go_wp2
     clear O_0
     have y1:=(((V_0.out).set 0 (.int .i64 aA)).set 1 (.int .i64 aB)).set 2 (.slice q5 xs.length c5)
     simp only[List.setIfInBounds_toArray,List.set_cons_zero,List.set_cons_succ]at y1
     generalize hw1:World.setCell _ _ _=w1
     rw[hw1]at y1
     have hR1:ExtR (w2.heap.size) wc w1:=by rw[←hw1];exact(((ExtR.refl (w2.heap.size) wc).setCell (p:=⟨w2.heap.size,0,none⟩) (.inl rfl) (.int .i64 aA)).setCell (p:=⟨w2.heap.size,1,none⟩) (.inl rfl) (.int .i64 aB)).setCell (p:=⟨w2.heap.size,2,none⟩) (.inl rfl) (.slice q5 xs.length c5)
     clear hw1
     have z1:wc.heap.size≤w1.heap.size:=hR1.sz
     have V_1:=xQ (y1)
     have Z_1:=xQ (show Blk w1 (w.heap.size+1) _ _ from(hR1.block _ Z_0.out.lt (by first|(simp;done)|(simp;omega))).trans Z_0.out)
     have A_1:=xQ (show Blk w1 (a) _ _ from(hR1.block _ A_0.out.lt (by first|(simp;done)|(simp;omega))).trans A_0.out)
     have X_1:=xQ (ExtR.new X_0.out hR1 (by omega))
     have P_1:=xQ (P_0.out.kept hR1 (.inr (cO P_0.out V_0.out (by decide))))
     clear V_0 Z_0 A_0 X_0 P_0 hR1 y1
     clear ltV_0
     have ltV_1:w2.heap.size<w1.heap.size:=V_1.out.lt
     clear ltZ_0
     have ltZ_1:w.heap.size+1<w1.heap.size:=Z_1.out.lt
     clear ltA_0
     have ltA_1:a<w1.heap.size:=A_1.out.lt
     clear v0 vf0 v1 vf1 v2 vf2 a0 a1 a2
     go_roundw
     case rel=>exact⟨k+1,q5,c5,by omega,by go_num,by rw[hst.out],by rw[hst.out];exact P_1.out,X_1.out,V_1.out,Z_1.out,by omega⟩
     case measure=>simp[intOf];omega
    |false=>
     have hst':=hstep.out
     rw[if_neg (by simp)]at hst'
     have hst:Hid (aW aA aB xs l=(ys,k)):=by
      show _=_
      have hlk:(l.take (k+1)).length=k+1:=by rw[List.length_take,hl.out];omega
      have:=rF (aA:=aA) (aB:=aB) (l.take (k+1)) (l.drop (k+1)) xs (by rw[hst',hlk];exact Nat.lt_succ_self k)
      rw[List.take_append_drop,hst']at this
      exact this
     clear hst'
     have V_0:=xQ (HBV.out.ext hE5)
     have Z_0:=xQ (HBZ.out.ext hE5)
     have A_0:=xQ hBa
     have X_0:=xQ (hEw.trans hE5)
     have O_0:=xQ (bC HO.out hE5)
     have P_0:=xQ (bG ho5 (show w1.heap.size≤wr.heap.size by omega))
     clear HBV HBZ hBa hEw HO ho5
     have z0:=hE5.sz
     have ltV_0:w2.heap.size<wc.heap.size:=V_0.out.lt
     have ltZ_0:w.heap.size+1<wc.heap.size:=Z_0.out.lt
     have ltA_0:a<wc.heap.size:=A_0.out.lt
     obtain⟨v0,v1,v2⟩:=(V_0.out).tri
     obtain⟨z0,zf0,z1,zf1,z2,zf2⟩:=(Z_0.out).trif
     go_wp2
     clear P_0
     have y1:=(((Z_0.out).set 0 (.int .i64 aA)).set 1 (.int .i64 aB)).set 2 (.slice q xs.length c)
     simp only[List.setIfInBounds_toArray,List.set_cons_zero,List.set_cons_succ]at y1
     generalize hw1:World.setCell _ _ _=w1
     rw[hw1]at y1
     have hR1:ExtR (w.heap.size+1) wc w1:=by rw[←hw1];exact(((ExtR.refl (w.heap.size+1) wc).setCell (p:=⟨w.heap.size+1,0,none⟩) (.inl rfl) (.int .i64 aA)).setCell (p:=⟨w.heap.size+1,1,none⟩) (.inl rfl) (.int .i64 aB)).setCell (p:=⟨w.heap.size+1,2,none⟩) (.inl rfl) (.slice q xs.length c)
     clear hw1
     have z1:wc.heap.size≤w1.heap.size:=hR1.sz
     have V_1:=xQ (show Blk w1 (w2.heap.size) _ _ from(hR1.block _ V_0.out.lt (by first|(simp;done)|(simp;omega))).trans V_0.out)
     have Z_1:=xQ (y1)
     have A_1:=xQ (show Blk w1 (a) _ _ from(hR1.block _ A_0.out.lt (by first|(simp;done)|(simp;omega))).trans A_0.out)
     have X_1:=xQ (ExtR.new X_0.out hR1 (by omega))
     have O_1:=xQ (O_0.out.kept hR1 (.inr (cO O_0.out Z_0.out (by decide))))
     clear V_0 Z_0 A_0 X_0 O_0 hR1 y1
     clear ltV_0
     have ltV_1:w2.heap.size<w1.heap.size:=V_1.out.lt
     clear ltZ_0
     have ltZ_1:w.heap.size+1<w1.heap.size:=Z_1.out.lt
     clear ltA_0
     have ltA_1:a<w1.heap.size:=A_1.out.lt
     clear v0 v1 v2 z0 zf0 z1 zf1 z2 zf2
     obtain⟨y0,y1,y2⟩:=(Z_1.out).tri
     exact bodyPost_ret (v:= .tuple #[.agg #[.int .i64 aA,.int .i64 aB,.slice q xs.length c],.int .i64 (k:Int)]) (by simp[results,Tryz.results63,go_sem, *]) rfl (by rw[hst.out];exact dJ LEN.out (bG O_1.out (by omega)) X_1.out)
  ·have hfin:Hid (aW aA aB xs l=((aW aA aB xs (l.take k)).1,k)):=by
    have e1:l.take k=l:=List.take_of_length_le (by rw[hl.out];omega)
    have e2:=HCNT.out
    show _=_
    rw[e1]at e2⊢
    exact Prod.ext rfl e2
   have hkm:k=m:=by omega
   subst hkm
   have HX0:=xQ hEw
   clear hEw
   have ltV_0:w2.heap.size<wr.heap.size:=HBV.out.lt
   have ltZ_0:w.heap.size+1<wr.heap.size:=HBZ.out.lt
   obtain⟨v0,v1,v2⟩:=(HBV.out).tri
   obtain⟨z0,zf0,z1,zf1,z2,zf2⟩:=(HBZ.out).trif
   go_wp2
   have y1:=(((HBZ.out).set 0 (.int .i64 aA)).set 1 (.int .i64 aB)).set 2 (.slice q xs.length c)
   simp only[List.setIfInBounds_toArray,List.set_cons_zero,List.set_cons_succ]at y1
   generalize hw1:World.setCell _ _ _=w1
   rw[hw1]at y1
   have hR1:ExtR (w.heap.size+1) wr w1:=by rw[←hw1];exact(((ExtR.refl (w.heap.size+1) wr).setCell (p:=⟨w.heap.size+1,0,none⟩) (.inl rfl) (.int .i64 aA)).setCell (p:=⟨w.heap.size+1,1,none⟩) (.inl rfl) (.int .i64 aB)).setCell (p:=⟨w.heap.size+1,2,none⟩) (.inl rfl) (.slice q xs.length c)
   clear hw1
   have z1:wr.heap.size≤w1.heap.size:=hR1.sz
   have V_1:=xQ (show Blk w1 (w2.heap.size) _ _ from(hR1.block _ HBV.out.lt (by first|(simp;done)|(simp;omega))).trans HBV.out)
   have Z_1:=xQ (y1)
   have X_1:=xQ (ExtR.new HX0.out hR1 (by omega))
   have O_1:=xQ (HO.out.kept hR1 (.inr (cO HO.out HBZ.out (by decide))))
   clear HBV HBZ HX0 HO hR1 y1
   clear ltV_0
   have ltV_1:w2.heap.size<w1.heap.size:=V_1.out.lt
   clear ltZ_0
   have ltZ_1:w.heap.size+1<w1.heap.size:=Z_1.out.lt
   clear v0 v1 v2 z0 zf0 z1 zf1 z2 zf2
   obtain⟨y0,y1,y2⟩:=(Z_1.out).tri
   exact bodyPost_ret (v:= .tuple #[.agg #[.int .i64 aA,.int .i64 aB,.slice q xs.length c],.int .i64 (k:Int)]) (by simp[results,Tryz.results63,go_sem, *]) rfl (by rw[hfin.out];exact dJ LEN.out (bG O_1.out (by omega)) X_1.out)
theorem mJ (aA aB:Int)(p:Option Addr)(n cap:Nat)(xs:List Int)(lq:Option Addr)(m lc:Nat)(l:List Sl2)(w:World)(hm:m≤60)(hS:Sl w p n cap 1 (ivs xs))(hL:Sl w lq m lc 2 (l.flatMap aM))(hok:aP aA aB xs=true):
  Calls Tryz.prog 63 #[aK aA aB p n cap,.slice lq m lc] w (bY aA aB (aW aA aB xs l).1 ((aW aA aB xs l).2:Nat) w):=by
 have hl:=hS.ilen
 subst hl
 obtain⟨g1,g2,g3,g4,g5,g6,g7,g8,g9⟩:=bL hok
 have HV:=fun(w':World) (hy:Ext w w')=>fI aA aB p xs.length cap xs w' (hS.ext hy)
 rw[hok]at HV
 exact aCx aA aB p cap xs lq m lc l w g5 g6 hm hok hL HV (fun(w':World) (hy:Ext w w')=>eG aA aB p xs.length cap xs w' (by omega) (hS.ext hy))
end Go.Proofs.YtahglfakiobbcaaGreatDoor
