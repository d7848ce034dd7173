/-
  Texts of this proof, packed (@packed).
-/
import Derived.Test.YtgnkoffndhmhpaaGreatDoorR1
import Derived.Test.YtgnkoffndhmhpaaGreatDoorR5
import Derived.Test.YtgnkoffndhmhpaaGreatDoorR7
namespace Go.Proofs.YtgnkoffndhmhpaaGreatDoor
open Go.RowKit
set_option linter.unusedVariables false
set_option linter.unusedSimpArgs false
set_option maxHeartbeats 8000000
set_option maxRecDepth 100000
theorem xS {w:World}{q:OA}{m c2:Nat}{l:List Sl2}(h:Sl w q m c2 2 (l.flatMap aM)){k:Nat}(hk:k<m):
  ∃b off f t,q=some ⟨b,off,none⟩∧l[k]? =some (f,t)∧b<w.heap.size∧w.cell? ⟨b,off+k*2,none⟩=some (.int .i64 f)∧w.cell? ⟨b,off+k*2+1,none⟩=some (.int .i64 t):=by
 obtain⟨b,off,x,hp,hx,hb,hc⟩:=Sl.at_ (sz:=2) (f:=aM) (fun _=>rfl) h hk (by omega)
 obtain⟨f,t⟩:=x
 exact⟨b,off,f,t,hp,hx,hb,hc 0 (by omega),hc 1 (by omega)⟩
theorem aAt {w:World}{q:OA}{m c2:Nat}{l:List Sl2}(h:Sl w q m c2 2 (l.flatMap aM)):l.length=m:=by
 have:=h.len;rw[cH aM 2 (fun _=>rfl)]at this;omega
theorem aF6 (aA aB:Int)(p:OA)(cap:Nat)(xs:List Int)(lq:OA)(m lc:Nat)(l:List Sl2)(w:World)(hn0:4≤xs.length)(hn:xs.length≤12)(hm:m≤60)(hok:Hid (aP aA aB xs=true))(HS:Hid (Sl w lq m lc 2 (l.flatMap aM)))
  (HV:xB 90 #[aI aA aB p xs.length cap] w true)
  (HC:Hid (∀w',Ext w w'→Calls Tryz.prog 104 #[aI aA aB p xs.length cap] w' (dF aA aB xs w'))):
  Calls Tryz.prog 120 #[aI aA aB p xs.length cap,.slice lq m lc] w (cI aA aB (bA aA aB xs l).1 ((bA aA aB xs l).2:Nat) w):=by
 have hl:=xQ (aAt HS.out)
 have hd60:decide (60<m)=false:=by simp;omega
 have hd61:decide ((60:Int)<(m:Int))=false:=by simp;omega
 go_enter Tryz.func120,Tryz.ntmps120
 have X_0:=xQ (Ext.refl w)
 go_wp2_with fail
 refine(HV.out _ (by exact .alloc (.alloc (.refl _) _) _)).mono ?_
 rintro e w1 ⟨rfl,hx1⟩
 have hy1:Ext w w1:=(((Ext.refl _).alloc _).alloc _).trans hx1
 have z1:w.heap.size+2≤w1.heap.size:=by have:=hx1.sz;(try simp at this);omega
 have X_1:=xQ (X_0.out.trans hy1)
 clear X_0
 have H_1:=xQ (show Blk w1 (w.heap.size) TH3 #[aA,aB,.slice p xs.length cap] by have:=((Blk.new w TH3 #[aA,aB,.slice p xs.length cap]).alloc _).ext hx1;simpa using this)
 have Z_1:=xQ (show Blk w1 (w.heap.size+1) TH3 #[(),(),((),())] by have:=(Blk.new (w.alloc (.cells #[aA,aB,.slice p xs.length cap] TH3)) TH3 #[(),(),((),())]).ext hx1;simpa using this)
 clear hy1
 have ltH_1:w.heap.size<w1.heap.size:=H_1.out.lt
 have ltZ_1:w.heap.size+1<w1.heap.size:=Z_1.out.lt
 clear hx1
 obtain⟨c0,c1,c2⟩:=(H_1.out).tri
 go_wp2_with fail
 clear c0 c1 c2
 refine(HC.out _ X_1.out).mono ?_
 rintro e w2 ⟨q0,c0,rfl,o0,hx2⟩
 have hy2:Ext w1 w2:=by exact hx2
 have z2:w1.heap.size+0≤w2.heap.size:=by have:=hx2.sz;(try simp at this);omega
 have X_2:=xQ (X_1.out.trans hy2)
 have H_2:=xQ (H_1.out.ext hy2)
 have Z_2:=xQ (Z_1.out.ext hy2)
 clear X_1 H_1 Z_1 hy2 ltH_1
 have ltH_2:w.heap.size<w2.heap.size:=H_2.out.lt
 clear ltZ_1
 have ltZ_2:w.heap.size+1<w2.heap.size:=Z_2.out.lt
 have O_2:=xQ (o0)
 clear hx2 o0
 go_wp2
 go_loopw [7] (fun i wr=> ∃(k:Nat) (q:OA) (c:Nat),k≤m∧i= .int .i64 k∧(bA aA aB xs (l.take k)).2=k∧wr.ownsRow w1.heap.size TI 1 (.slice q xs.length c) xs.length (ivs (bA aA aB xs (l.take k)).1)∧Ext w wr∧Blk wr w2.heap.size TH3 #[aA,aB,.slice q xs.length c]∧Blk wr (w.heap.size+1) TH3 #[(),(),((),())]∧w2.heap.size<wr.heap.size) (fun i _=>m-(intOf i).toNat)
 case atStart=>exact⟨0,q0,c0,Nat.zero_le _,rfl,by simp[bA],by simpa[bA]using bB O_2.out ((Ext.refl _).alloc _),X_2.out.alloc _,Blk.new _ _ _,Z_2.out.alloc _,by simp⟩
 case round=>
  clear O_2 X_2 H_2 Z_2 ltH_2 ltZ_2
  obtain⟨k,q,c,hk,rfl,hcnt,hown,hEw,hBV,hBZ,hsz⟩:=hrel
  have HO:=xQ hown
  have HBV:=xQ hBV
  have HBZ:=xQ hBZ
  have HCNT:=xQ hcnt
  clear hown hBV hBZ hcnt
  obtain⟨ok1,ok2,ok3⟩:=lP (l.take k) xs hok.out
  have OK:=xQ ok1
  have LEN:=xQ ok2
  clear ok1 ok2 ok3
  by_cases hlt:k<m
  ·obtain⟨b2,off2,f,t,rfl,hx,hb2,d0,d1⟩:=xS (HS.out.ext hEw) hlt
   have HX:=xQ hx
   clear hx
   have i1:(0:Int)≤(k:Int):=by omega
   have i2:(k:Int)<(m:Int):=by omega
   have hstep:Hid (bA aA aB xs (l.take (k+1))=(if bC aA aB (bA aA aB xs (l.take k)).1 f t then(bE aA aB (bA aA aB xs (l.take k)).1 f t,k+1)else((bA aA aB xs (l.take k)).1,k))):=by
    show _=_
    have hlk:(l.take k).length=k:=by rw[List.length_take,hl.out];omega
    rw[bF HX.out,mY _ _ _ (by rw[HCNT.out,hlk]),hlk]
   have HD:xC 78 #[aI aA aB q xs.length c,dK f t] wr fun w' e w''=> ∃q5 c5,e= .returned (.tuple #[aI aA aB q5 xs.length c5,.bool (bC aA aB (bA aA aB xs (l.take k)).1 f t)])∧w''.ownsRow w'.heap.size TI 1 (.slice q5 xs.length c5) xs.length (ivs (bE aA aB (bA aA aB xs (l.take k)).1 f t))∧Ext w' w'':=
    fun w' hx=>(jW aA aB f t q xs.length c _ w' ((Sl.own HO.out).ext hx) OK.out).mono fun e w'' ⟨q5,c5,he,ho,hy⟩=>by
     have hl5:(bE aA aB (bA aA aB xs (l.take k)).1 f t).length=xs.length:=by rw[cN,LEN.out]
     rw[hl5]at he ho
     exact⟨q5,c5,he,ho,hy⟩
   generalize hys:(bA aA aB xs (l.take k)).1=ys at*
   have HYS:=xQ hys
   clear hys
   generalize hzs:bE aA aB ys f t=zs at*
   have HZS:=xQ hzs
   clear hzs
   generalize hbm:bC aA aB ys f t=bm at*
   have HBM:=xQ hbm
   clear hbm
   obtain⟨v0,v1,v2⟩:=(HBV.out).tri
   have n1: ¬(w2.heap.size=wr.heap.size):=by omega
   have n2: ¬(wr.heap.size=w2.heap.size):=by omega
   have n3: ¬(b2=wr.heap.size):=by omega
   have n4: ¬(wr.heap.size=b2):=by omega
   go_upto_region 7 with fail
   go_cut [8,9] (fun s8 s9 wx=> ∃(a:Nat) (q5:OA) (c5:Nat),s8= .pointer (some ⟨a,0,none⟩)∧s9= .bool bm∧Ext wr wx∧wr.heap.size≤a∧Blk wx a TH3 #[aA,aB,.slice q5 xs.length c5]∧wx.ownsRow wr.heap.size TI 1 (.slice q5 xs.length c5) xs.length (ivs zs))
   case first=>
    go_region_held3 (fun w'=>w'.cell? ⟨w2.heap.size,0,none⟩=some (.int .i64 aA)∧w'.cell? ⟨w2.heap.size,1,none⟩=some (.int .i64 aB)∧w'.cell? ⟨w2.heap.size,2,none⟩=some (.slice q xs.length c)∧w'.cell? ⟨b2,off2+k*2,none⟩=some (.int .i64 f)∧w'.cell? ⟨b2,off2+k*2+1,none⟩=some (.int .i64 t))
     (first|(refine⟨?_,?_,?_,?_,?_⟩<;>assumption)|go_keep)
     ((go_at_call 78
       refine(HD.out _ xE).mono ?_
       rintro e w5 ⟨q5,c5,rfl,o5,hx5⟩
       have hy5:Ext wr w5:=xE
       obtain⟨g0,g1,g2⟩:=((HBV.out.ext hy5)).tri
       have g3:w5.cell? ⟨b2,off2+k*2,none⟩=some (.int .i64 f):=(hy5.cells.1 _ _ hb2).trans d0
       have g4:w5.cell? ⟨b2,off2+k*2+1,none⟩=some (.int .i64 t):=(hy5.cells.1 _ _ hb2).trans d1
       first
        |(have hz5:Ext (wr.alloc (.cells #[(),(),((),())] TH3)) w5:=hx5
          have BB:=(Blk.new wr TH3 #[(),(),((),())]).ext hz5
          obtain⟨zc0,zf0,zc1,zf1,zc2,_⟩:=(BB).trif
          have zf2:w5.frozen? ⟨wr.heap.size,2,none⟩=false:=BB.frozen 2)
        |(have hz5:Ext (wr.alloc (.cells #[(),(),((),())] TH3)) w5:=hx5.of_drew
          have BB:=(Blk.new wr TH3 #[(),(),((),())]).ext hz5
          obtain⟨zc0,zf0,zc1,zf1,zc2,_⟩:=(BB).trif
          have zf2:w5.frozen? ⟨wr.heap.size,2,none⟩=false:=BB.frozen 2)
        |skip))
    ·go_wp2_with fail
     go_meet
     exact⟨w5.heap.size,q5,c5,rfl,rfl,by exact .alloc hy5 _,by have:=hy5.sz;omega,Blk.new _ _ _,bG (by exact o5.alloc _) (by simp)⟩
    ·have hR:ExtR wr.heap.size w5 _:=(((ExtR.refl wr.heap.size w5).setCell (p:=⟨wr.heap.size,0,none⟩) (.inl rfl) (.int .i64 aA)).setCell (p:=⟨wr.heap.size,1,none⟩) (.inl rfl) (.int .i64 aB)).setCell (p:=⟨wr.heap.size,2,none⟩) (.inl rfl) (.slice q5 xs.length c5)
     have hY:=((BB.set 0 (.int .i64 aA)).set 1 (.int .i64 aB)).set 2 (.slice q5 xs.length c5)
     simp only[List.setIfInBounds_toArray,List.set_cons_zero,List.set_cons_succ]at hY
     go_wp2_with fail
     go_meet
     exact⟨wr.heap.size,q5,c5,rfl,rfl,ExtR.new hy5 hR (Nat.le_refl _),Nat.le_refl _,hY,bG (o5.kept hR (.inr (cY o5 BB (by decide)))) (by simp)⟩
   case rest=>
    clear v0 v1 v2 n1 n2 n3 n4 d0 d1
    obtain⟨a,q5,c5,rfl,rfl,hE5,ha,hBa,ho5⟩:=hcut
    cases bm with
    |true=>
     have hst':=hstep.out
     rw[if_pos rfl]at hst'
     have hst:bA aA aB xs (l.take (k+1))=(zs,k+1):=hst'
     have hst:=xQ hst
     clear hst'
     have V_0:=xQ (HBV.out.ext hE5)
     have Z_0:=xQ (HBZ.out.ext hE5)
     have A_0:=xQ hBa
     have X_0:=xQ (hEw.trans hE5)
     have O_0:=xQ (bB HO.out hE5)
     have P_0:=xQ (bG ho5 (show w1.heap.size≤wr.heap.size by omega))
     clear HBV HBZ hBa hEw HO ho5
     have z0:=hE5.sz
     have ltV_0:w2.heap.size<wc.heap.size:=V_0.out.lt
     have ltZ_0:w.heap.size+1<wc.heap.size:=Z_0.out.lt
     have ltA_0:a<wc.heap.size:=A_0.out.lt
     obtain⟨v0,vf0,v1,vf1,v2,vf2⟩:=(V_0.out).trif
     obtain⟨a0,a1,a2⟩:=(A_0.out).tri
     go_wp2
     clear O_0
     have y1:=(((V_0.out).set 0 (.int .i64 aA)).set 1 (.int .i64 aB)).set 2 (.slice q5 xs.length c5)
     simp only[List.setIfInBounds_toArray,List.set_cons_zero,List.set_cons_succ]at y1
     generalize hw1:World.setCell _ _ _=w1
     rw[hw1]at y1
     have hR1:ExtR (w2.heap.size) wc w1:=by rw[←hw1];exact(((ExtR.refl (w2.heap.size) wc).setCell (p:=⟨w2.heap.size,0,none⟩) (.inl rfl) (.int .i64 aA)).setCell (p:=⟨w2.heap.size,1,none⟩) (.inl rfl) (.int .i64 aB)).setCell (p:=⟨w2.heap.size,2,none⟩) (.inl rfl) (.slice q5 xs.length c5)
     clear hw1
     have z1:wc.heap.size≤w1.heap.size:=hR1.sz
     have V_1:=xQ (y1)
     have Z_1:=xQ (show Blk w1 (w.heap.size+1) _ _ from(hR1.block _ Z_0.out.lt (by first|(simp;done)|(simp;omega))).trans Z_0.out)
     have A_1:=xQ (show Blk w1 (a) _ _ from(hR1.block _ A_0.out.lt (by first|(simp;done)|(simp;omega))).trans A_0.out)
     have X_1:=xQ (ExtR.new X_0.out hR1 (by omega))
     have P_1:=xQ (P_0.out.kept hR1 (.inr (cY P_0.out V_0.out (by decide))))
     clear V_0 Z_0 A_0 X_0 P_0 hR1 y1 ltV_0
     have ltV_1:w2.heap.size<w1.heap.size:=V_1.out.lt
     clear ltZ_0
     have ltZ_1:w.heap.size+1<w1.heap.size:=Z_1.out.lt
     clear ltA_0
     have ltA_1:a<w1.heap.size:=A_1.out.lt
     clear v0 vf0 v1 vf1 v2 vf2 a0 a1 a2
     go_roundw
     case rel=>exact⟨k+1,q5,c5,by omega,by go_num,by rw[hst.out],by rw[hst.out];exact P_1.out,X_1.out,V_1.out,Z_1.out,by omega⟩
     case measure=>simp[intOf];omega
    |false=>
     have hst':=hstep.out
     rw[if_neg (by simp)]at hst'
     have hst:Hid (bA aA aB xs l=(ys,k)):=by
      show _=_
      have hlk:(l.take (k+1)).length=k+1:=by rw[List.length_take,hl.out];omega
      have:=sY (aA:=aA) (aB:=aB) (l.take (k+1)) (l.drop (k+1)) xs (by rw[hst',hlk];exact Nat.lt_succ_self k)
      rw[List.take_append_drop,hst']at this
      exact this
     clear hst'
     have V_0:=xQ (HBV.out.ext hE5)
     have Z_0:=xQ (HBZ.out.ext hE5)
     have A_0:=xQ hBa
     have X_0:=xQ (hEw.trans hE5)
     have O_0:=xQ (bB HO.out hE5)
     have P_0:=xQ (bG ho5 (show w1.heap.size≤wr.heap.size by omega))
     clear HBV HBZ hBa hEw HO ho5
     have z0:=hE5.sz
     have ltV_0:w2.heap.size<wc.heap.size:=V_0.out.lt
     have ltZ_0:w.heap.size+1<wc.heap.size:=Z_0.out.lt
     have ltA_0:a<wc.heap.size:=A_0.out.lt
     obtain⟨v0,v1,v2⟩:=(V_0.out).tri
     obtain⟨z0,zf0,z1,zf1,z2,zf2⟩:=(Z_0.out).trif
     go_wp2
     clear P_0
     have y1:=(((Z_0.out).set 0 (.int .i64 aA)).set 1 (.int .i64 aB)).set 2 (.slice q xs.length c)
     simp only[List.setIfInBounds_toArray,List.set_cons_zero,List.set_cons_succ]at y1
     generalize hw1:World.setCell _ _ _=w1
     rw[hw1]at y1
     have hR1:ExtR (w.heap.size+1) wc w1:=by rw[←hw1];exact(((ExtR.refl (w.heap.size+1) wc).setCell (p:=⟨w.heap.size+1,0,none⟩) (.inl rfl) (.int .i64 aA)).setCell (p:=⟨w.heap.size+1,1,none⟩) (.inl rfl) (.int .i64 aB)).setCell (p:=⟨w.heap.size+1,2,none⟩) (.inl rfl) (.slice q xs.length c)
     clear hw1
     have z1:wc.heap.size≤w1.heap.size:=hR1.sz
     have V_1:=xQ (show Blk w1 (w2.heap.size) _ _ from(hR1.block _ V_0.out.lt (by first|(simp;done)|(simp;omega))).trans V_0.out)
     have Z_1:=xQ (y1)
     have A_1:=xQ (show Blk w1 (a) _ _ from(hR1.block _ A_0.out.lt (by first|(simp;done)|(simp;omega))).trans A_0.out)
     have X_1:=xQ (ExtR.new X_0.out hR1 (by omega))
     have O_1:=xQ (O_0.out.kept hR1 (.inr (cY O_0.out Z_0.out (by decide))))
     clear V_0 Z_0 A_0 X_0 O_0 hR1 y1 ltV_0
     have ltV_1:w2.heap.size<w1.heap.size:=V_1.out.lt
     clear ltZ_0
     have ltZ_1:w.heap.size+1<w1.heap.size:=Z_1.out.lt
     clear ltA_0
     have ltA_1:a<w1.heap.size:=A_1.out.lt
     clear v0 v1 v2 z0 zf0 z1 zf1 z2 zf2
     obtain⟨y0,y1,y2⟩:=(Z_1.out).tri
     exact bodyPost_ret (v:= .tuple #[.agg #[aA,aB,.slice q xs.length c],(k:Int)]) (by simp[results,Tryz.results120,go_sem, *]) rfl (by rw[hst.out];exact dX LEN.out (bG O_1.out (by omega)) X_1.out)
  ·have hfin:Hid (bA aA aB xs l=((bA aA aB xs (l.take k)).1,k)):=by
    have e1:l.take k=l:=List.take_of_length_le (by rw[hl.out];omega)
    have e2:=HCNT.out
    show _=_
    rw[e1]at e2⊢
    exact Prod.ext rfl e2
   have hkm:k=m:=by omega
   subst hkm
   have HX0:=xQ hEw
   clear hEw
   have ltV_0:w2.heap.size<wr.heap.size:=HBV.out.lt
   have ltZ_0:w.heap.size+1<wr.heap.size:=HBZ.out.lt
   obtain⟨v0,v1,v2⟩:=(HBV.out).tri
   obtain⟨z0,zf0,z1,zf1,z2,zf2⟩:=(HBZ.out).trif
   go_wp2
   have y1:=(((HBZ.out).set 0 (.int .i64 aA)).set 1 (.int .i64 aB)).set 2 (.slice q xs.length c)
   simp only[List.setIfInBounds_toArray,List.set_cons_zero,List.set_cons_succ]at y1
   generalize hw1:World.setCell _ _ _=w1
   rw[hw1]at y1
   have hR1:ExtR (w.heap.size+1) wr w1:=by rw[←hw1];exact(((ExtR.refl (w.heap.size+1) wr).setCell (p:=⟨w.heap.size+1,0,none⟩) (.inl rfl) (.int .i64 aA)).setCell (p:=⟨w.heap.size+1,1,none⟩) (.inl rfl) (.int .i64 aB)).setCell (p:=⟨w.heap.size+1,2,none⟩) (.inl rfl) (.slice q xs.length c)
   clear hw1
   have z1:wr.heap.size≤w1.heap.size:=hR1.sz
   have V_1:=xQ (show Blk w1 (w2.heap.size) _ _ from(hR1.block _ HBV.out.lt (by first|(simp;done)|(simp;omega))).trans HBV.out)
   have Z_1:=xQ (y1)
   have X_1:=xQ (ExtR.new HX0.out hR1 (by omega))
   have O_1:=xQ (HO.out.kept hR1 (.inr (cY HO.out HBZ.out (by decide))))
   clear HBV HBZ HX0 HO hR1 y1 ltV_0
   have ltV_1:w2.heap.size<w1.heap.size:=V_1.out.lt
   clear ltZ_0
   have ltZ_1:w.heap.size+1<w1.heap.size:=Z_1.out.lt
   clear v0 v1 v2 z0 zf0 z1 zf1 z2 zf2
   obtain⟨y0,y1,y2⟩:=(Z_1.out).tri
   exact bodyPost_ret (v:= .tuple #[.agg #[aA,aB,.slice q xs.length c],(k:Int)]) (by simp[results,Tryz.results120,go_sem, *]) rfl (by rw[hfin.out];exact dX LEN.out (bG O_1.out (by omega)) X_1.out)
theorem nX (aA aB:Int)(p:OA)(n cap:Nat)(xs:List Int)(lq:OA)(m lc:Nat)(l:List Sl2)(w:World)(hm:m≤60)(hS:Sl w p n cap 1 (ivs xs))(hL:Sl w lq m lc 2 (l.flatMap aM))(hok:aP aA aB xs=true):
  Calls Tryz.prog 120 #[aI aA aB p n cap,.slice lq m lc] w (cI aA aB (bA aA aB xs l).1 ((bA aA aB xs l).2:Nat) w):=by
 have hl:=hS.ilen
 subst hl
 obtain⟨g1,g2,g3,g4,g5,g6,g7,g8,g9⟩:=bN hok
 have HV:=fun(w':World) (hy:Ext w w')=>fV aA aB p xs.length cap xs w' (hS.ext hy)
 rw[hok]at HV
 exact aF6 aA aB p cap xs lq m lc l w g5 g6 hm hok hL HV (fun(w':World) (hy:Ext w w')=>eU aA aB p xs.length cap xs w' (by omega) (hS.ext hy))
def mX (aA:Int)(n:Nat)(but:Int)(u:Nat):List Nat:=(aS aA n u).filter (fun(v:Nat)=>decide ((v:Int)≠but))
theorem aC5 (aA:Int)(n:Nat)(a:Int):iC aA n a=((List.range n).filter (fun(b:Nat)=>decide (aZ aA a b=1))).map (fun(k:Nat)=>(k:Int)):=by
 unfold iC
 induction n with
 |zero=>rfl
 |succ n ih=>
  rw[eL,ih,List.range_succ,List.filter_append,List.map_append]
  congr 1
  by_cases h:aZ aA a n=1<;>simp[h]
theorem jF (aA:Int)(n u:Nat):iC aA n u=(aS aA n u).map (fun(k:Nat)=>(k:Int)):=aC5 _ _ _
theorem aCy {aA:Int}{n:Nat}{but:Int}{u v:Nat}(h:v∈mX aA n but u):v<n:=(bM.1 (List.mem_filter.1 h).1).1
theorem Inv.one {adj:Nat→List Nat}{N s:Nat}(hs:s<N):Inv adj [s] N 0 ((List.replicate N (-1)).set s 0,[s]):=by
 have hl:s<(List.replicate N (-1:Int)).length:=by simpa using hs
 have hne: ∀v,v<N→s≠v→((List.replicate N (-1:Int)).set s 0).getD v 0= -1:=by
  intro v hv e
  rw[bV e]
  simp[List.getD,hv]
 refine⟨by simp,by simpa using hs,?_,by simp,by simp,?_,?_,?_,fun i u hi=>by omega⟩
 ·intro v hv
  dsimp only
  by_cases e:s=v
  ·subst e;rw[bY hl];simp
  ·rw[hne v hv e];simp;exact fun h=>e h.symm
 ·intro u hu v hv
  simp at hu hv;subst hu hv
  omega
 ·intro v hv
  simp at hv;subst hv
  dsimp only
  rw[bY hl]
  simp[lJ]
 ·intro v hv
  simp at hv;subst hv
  exact⟨by simp,bY hl⟩
theorem aFy (n s:Nat): ∀x∈(List.replicate n (-1:Int)).set s 0,-1≤x∧x≤((0:Nat):Int):=by
 intro x hx
 rcases List.mem_or_eq_of_mem_set hx with h|h
 ·rw[List.mem_replicate]at h;omega
 ·omega
theorem cW {D:List Int}{v:Nat}(h:v<D.length):D[v]? =some (D.getD v 0)∧D.getD v 0∈D:=by
 have:D[v]? =some (D.getD v 0):=by rw[List.getD_eq_getElem?_getD,List.getElem?_eq_getElem h];rfl
 exact⟨this,List.mem_of_getElem? this⟩
theorem aCo {nb:List Nat}{j v:Nat}{but:Int}(h:nb[j]? =some v) (hb:(v:Int)=but):(nb.take (j+1)).filter (fun(v:Nat)=>decide ((v:Int)≠but))=(nb.take j).filter (fun(v:Nat)=>decide ((v:Int)≠but)):=by
 rw[bF h,List.filter_append];simp[hb]
theorem zN {nb:List Nat}{j v:Nat}{but:Int}(h:nb[j]? =some v) (hb:(v:Int)≠but):(nb.take (j+1)).filter (fun(v:Nat)=>decide ((v:Int)≠but))=(nb.take j).filter (fun(v:Nat)=>decide ((v:Int)≠but))++ [v]:=by
 rw[bF h,List.filter_append];simp[hb]
theorem jC {val:Int}{D:List Int}{Q:List Nat}{v:Nat}(h:D.getD v 0<0):dV val (D,Q) v=(D.set v val,Q++ [v]):=by unfold dV;rw[if_pos h]
theorem kM {val:Int}{D:List Int}{Q:List Nat}{v:Nat}(h: ¬D.getD v 0<0):dV val (D,Q) v=(D,Q):=by unfold dV;rw[if_neg h]
theorem aIp {w:World}{B B2 n m c c2 sz sz2:Nat}{e e2:TypeId}{q q2:OA}{xs ys:List Value}(h1:w.ownsRow B e sz (.slice q n c) n xs)(h2: ∀g,(Value.slice q2 m c2).ownBlock=some g→g<B)(h0:(Value.slice q2 m c2).ownBlock≠none):(Value.slice q2 m c2).ownBlock≠(Value.slice q n c).ownBlock:=by
 intro he
 cases hq:(Value.slice q n c).ownBlock with
 |none=>rw[hq]at he;exact h0 he
 |some g=>rw[hq]at he;have:=h2 g he;have:=(h1.lt g hq).1;omega
theorem aIf {w:World}{g n base:Nat}{t:TypeId}{cs:Array Value}(h:Blk w g t cs)(hn:cs.size=n)(hm:n≤maxLen)(hb:base≤g):w.ownsRow base t 1 (.slice (some ⟨g,0,none⟩) n n) n cs.toList:=
 ⟨by simpa using hn,.inr ⟨g,n,cs,rfl,hb,h,Nat.le_refl _,hm,by omega,by rw[Nat.mul_one,List.take_of_length_le (by simp;omega)]⟩⟩
abbrev bD (q:List Nat):List Int:=q.map (fun(k:Nat)=>(k:Int))
theorem fG {w:World}{ops:Array Oper}{rest:List Oper}{o:Oper}{a:Act}{Q:Exit→Act→World→Prop}(hgd:o.guard=none)(s x:Operand)
  (ho:o.op= .call {callee:= .builtin .append,args:=#[s,x],argTypes:=#[22,22]})
  (base:Nat)(v:Value)(n:Nat)(xs:List Int)(hs:a.eval s=v)(hown:w.ownsRow base 3 1 v n (ivs xs))
  (b off:Nat)(y:Int)(c:Nat)(hx:a.eval x= .slice (some ⟨b,off,none⟩) 1 c)(hc:w.cell? ⟨b,off,none⟩=some (iv y))
  (hn:n≤1099511627776)(hbase:base≤w.heap.size)
  (h: ∀p' cap' w',w'.ownsRow base 3 1 (.slice p' (n+1) cap') (n+1) (ivs (xs++ [y]))→w.grownBy w' v.ownBlock→((Value.slice p' (n+1) cap').ownBlock=v.ownBlock∨(Value.slice p' (n+1) cap').ownBlock=some w.heap.size)→wpList Tryz.prog ops Q rest (a.put o.dst (.slice p' (n+1) cap')) w'):wpList Tryz.prog ops Q (o::rest) a w:=by
 obtain⟨i,z,hi,hz,hsz,hby,hzs⟩:=eP.info
 refine wpList_append_own_at w hgd s x 22 ho base 3 i z 1 i.bytes eP.ht hi hz hsz rfl hzs eP.pos v n _ hs hown ⟨b,off,none⟩ 1 c [iv y] hx rfl (fun j u hu=> ?_) (fun u hu=>by simp at hu;subst hu;rfl) (by unfold maxLen;omega) ?_ hbase ?_
 ·match j,hu with
  |0,hu=>simp at hu;subst hu;rw[jS];exact hc
 ·have:(n+1)*i.bytes≤(n+1)*64:=Nat.mul_le_mul_left _ hby
  omega
 ·intro v' w' h2 h3 _ h5
  obtain⟨p,cap,rfl⟩:=lR h2
  exact h p cap w' (by simpa[ivs]using h2) h3 h5
theorem aDe (aA aB:Int)(p:OA)(n cap src:Nat)(but:Int)(w:World)(hn0:4≤n)(hn:n≤12)(hs:src<n)
  (HC:Hid (∀(k:Nat),k<n→ ∀w',Ext w w'→Calls Tryz.prog 201 #[aI aA aB p n cap,k] w' (aY (bD (aS aA n k)) w'))):
  Calls Tryz.prog 200 #[aI aA aB p n cap,(src:Int),but] w fun e w'=> ∃D,oU (mX aA n but) [src] n D∧aY D w e w':=by
 have a1:(0:Int)≤(src:Int):=by omega
 have a2:(src:Int)<(n:Int):=by omega
 go_enter Tryz.func200,Tryz.ntmps200
 go_wp2
 go_loopw [7,8] (fun v i wr=> ∃(k:Nat) (q:OA) (c:Nat),k≤n∧i= .int .i64 k∧v= .slice q k c∧wr.ownsRow (w.heap.size+1) TI 1 (.slice q k c) k (ivs (List.replicate k (-1)))∧Ext w wr∧Blk wr w.heap.size TH3 #[aA,aB,.slice p n cap]) (fun _ i _=>n-(intOf i).toNat)
 case atStart=>
  have ho:((w.alloc (.cells #[aA,aB,.slice p n cap] TH3)).alloc (.cells #[] TI)).ownsRow (w.heap.size+1) TI 1 (.slice (some ⟨(w.alloc (.cells #[aA,aB,.slice p n cap] TH3)).heap.size,0,none⟩) 0 0) 0 []:=World.ownsRow_made _ #[] 0 (by simp) (by simp[maxLen]) rfl
  exact⟨0,_,0,Nat.zero_le _,rfl,rfl,by simpa using ho,by exact .alloc (.alloc (.refl _) _) _,(Blk.new w _ _).alloc _⟩
 case round=>
  obtain⟨k,q,c,hk,rfl,rfl,hown,hEw,hB⟩:=hrel
  have HO:=xQ hown
  have HB:=xQ hB
  have hsz:w.heap.size<wr.heap.size:=hB.lt
  clear hown hB
  obtain⟨b0,b1,b2⟩:=HB.out.cells3
  by_cases hlt:k<n
  ·have hfin:Hid (List.replicate (k+1) (-1:Int)=List.replicate k (-1)++ [-1]):=by show _=_;rw[List.replicate_succ']
   go_wp2_with (at_builtin;refine cA eP rfl _ _ rfl (w.heap.size+1) _ _ _ rfl (HO.out.alloc _) _ _ (-1:Int) _ rfl (by simp) (by omega) (by first|(simp;done)|(simp;omega)) ?_;intro p' cap' w2 hown1 hg1;have HO2:=xQ hown1;have hE1:Ext w w2:=Ext.own (hEw.alloc _) (HO.out.alloc _) hg1 (by omega);have HB2:=xQ (oS HO.out hg1 HB.out);clear hown1 hg1)
   go_roundw
   case rel=>exact⟨k+1,p',cap',by omega,by go_num,rfl,by rw[hfin.out];exact HO2.out,hE1,HB2.out⟩
   case measure=>simp[intOf];omega
  ·obtain rfl:n=k:=by omega
   obtain⟨gF,rfl,hF1,hF2⟩:=eB HO.out (by omega)
   have ow0:wr.cell? ⟨gF,src,none⟩=some (.int .i64 (-1)):=by
    have:=HO.out.cellAt src (by omega);rw[this];simp[ivs,hs]
   have ow1:wr.frozen? ⟨gF,src,none⟩=false:=HO.out.frozenAt src
   go_upto_region 8 with fail
   clear ow0 ow1 b0 b1 b2
   have y1:=(HO.out.stored src (.int .i64 0)).1
   have hR1:ExtR gF wr _:=(HO.out.stored src (.int .i64 0)).2
   have se1:(World.setCell wr ⟨gF,src,none⟩ (.int .i64 0)).heap.size=wr.heap.size:=by simp
   generalize hw1:World.setCell _ _ _=w1 at*
   rw[←se1]
   clear hw1
   have F1:=xQ (show w1.ownsRow (w.heap.size+1) TI 1 (.slice (some ⟨gF,0,none⟩) n c) n (ivs ((List.replicate n (-1)).set src 0)) by rw[←dI];exact y1)
   have B1:=xQ (show Blk w1 w.heap.size TH3 #[aA,aB,.slice p n cap]from(hR1.block _ HB.out.lt (by simp;omega)).trans HB.out)
   have X1:=xQ (ExtR.new hEw hR1 (by omega))
   have z1:wr.heap.size≤w1.heap.size:=Nat.le_of_eq se1.symm
   have sz1:=B1.out.lt
   clear se1 y1 hR1 HO HB hEw hsz
   have hL0:(w1.alloc (.cells #[(src:Int)] TI)).ownsRow w1.heap.size TI 1 (.slice (some ⟨w1.heap.size,0,none⟩) 1 1) 1 [.int .i64 (src:Int)]:=aIf (n:=1) (Blk.new w1 TI #[(src:Int)]) rfl (by simp[maxLen]) (Nat.le_refl _)
   have L1:=xQ hL0
   clear hL0
   have I1:=xQ (Inv.one (adj:=mX aA n but) hs)
   go_wp2
   go_loopw [9,10] (fun v i wr=> ∃(k:Nat) (q:OA) (l lc:Nat) (D:List Int) (Q:List Nat),k≤l∧i= .int .i64 k∧v= .slice q l lc∧l=Q.length∧(∀x∈D,-1≤x∧x≤k)∧Inv (mX aA n but) [src] n k (D,Q)∧wr.ownsRow (w.heap.size+1) TI 1 (.slice (some ⟨gF,0,none⟩) n c) n (ivs D)∧wr.ownsRow w1.heap.size TI 1 (.slice q l lc) l (ivs (bD Q))∧Ext w wr∧Blk wr w.heap.size TH3 #[aA,aB,.slice p n cap]∧w1.heap.size≤wr.heap.size) (fun _ i _=>n-(intOf i).toNat)
   case atStart=>exact⟨0,_,1,1,_,[src],Nat.zero_le _,rfl,rfl,rfl,aFy _ _,I1.out,F1.out.alloc _,L1.out,X1.out.alloc _,B1.out.alloc _,by simp⟩
   case round=>
    clear F1 B1 X1 L1 I1
    obtain⟨wr1,rfl⟩: ∃wr1:World,wr1=wr:=⟨_,rfl⟩
    obtain⟨k,q,l,lc,D,Q,hk,rfl,rfl,hlq,hbd,hinv,hF,hL,hEw,hB,hsz⟩:=hrel
    have HF:=xQ hF
    have HL:=xQ hL
    have HB:=xQ hB
    have HI:=xQ hinv
    have HLQ:=xQ hlq
    have hqn:l≤n:=by rw[hlq];exact hinv.qlen
    have HBD:=xQ hbd
    clear hF hL hB hinv hlq hbd
    by_cases hlt2:k<l
    ·obtain⟨gL,rfl,hL1,hL2⟩:=eB HL.out (by omega)
     obtain⟨u,hu⟩: ∃u,Q[k]? =some u:=⟨_,List.getElem?_eq_getElem (by rw[←HLQ.out];exact hlt2)⟩
     have hun:u<n:=HI.out.bd u (List.mem_of_getElem? hu)
     have HU:=xQ hu
     clear hu
     have i1:(0:Int)≤(k:Int):=by omega
     have i2:(k:Int)<(l:Int):=by omega
     have j1:(0:Int)≤(u:Int):=by omega
     have j2:(u:Int)<(n:Int):=by omega
     obtain⟨nb,hnb⟩: ∃nb,nb=aS aA n u:=⟨_,rfl⟩
     have HNB:=xQ hnb
     have HCU:Hid (∀w',Ext w w'→Calls Tryz.prog 201 #[aI aA aB p n cap,(u:Int)] w' (aY (bD nb) w')):=by rw[hnb];exact HC.out u hun
     have hnb12:nb.length≤n:=by rw[hnb];exact Nat.le_trans (List.length_filter_le _ _) (by simp)
     clear hnb
     have hnbl:(bD nb).length=nb.length:=by simp[bD]
     go_wp2
     refine cS (gl [gEq (aI aA aB p n cap),gEq (.slice (some ⟨gL,0,none⟩) l lc),gEq (k:Int),gEq (.pointer (some ⟨gL,k,none⟩)),gEq (u:Int),(fun v w'=> ∃q c,v= .slice q nb.length c∧w'.ownsRow wr1.heap.size TI 1 (.slice q nb.length c) nb.length (ivs (bD nb)))]) 6 (by kernel_rfl) rfl (by kernel_rfl) (by kernel_rfl) (by kernel_rfl) (eG (aK (aH _) (aK (aH _) (aK (aH _) (aK (aH _) (aK (aH _) (aK (fun v w w' ⟨q,c,he,ho⟩ hx=>⟨q,c,he,bB ho hx⟩) (fK)))))))) (k:=7) (by kernel_rfl) (by decide) (ls:= [(0,some 35),(1,some 36),(2,some 37),(3,some 38),(4,some 39),(5,some 40)]) (by kernel_rfl) (ir:= [0,1,2,3,4,5]) (by kernel_rfl) ?steps (tl:=#[true,true,true,true,true,true,false]) (by kernel_rfl) ?fin
     case steps=>
      refine sC [] rfl (fun wi hx=> ?_) ?_
      ·intro K hK
       have B:=HB.out.ext hx.of_drew
       have cc0:wi.cell? ⟨w.heap.size,0,none⟩=some (.int .i64 aA):=B.cell 0
       have B:=HB.out.ext hx.of_drew
       have cc1:wi.cell? ⟨w.heap.size,1,none⟩=some (.int .i64 aB):=B.cell 1
       have B:=HB.out.ext hx.of_drew
       have cc2:wi.cell? ⟨w.heap.size,2,none⟩=some (.slice p n cap):=B.cell 2
       go_simp
       exact hK _ _ ⟨aI aA aB p n cap,rfl,rfl,Ext.refl _⟩
      refine sC [] rfl (fun wi hx=> ?_) ?_
      ·intro K hK
       go_simp
       exact hK _ _ ⟨.slice (some ⟨gL,0,none⟩) l lc,rfl,rfl,Ext.refl _⟩
      refine sC [] rfl (fun wi hx=> ?_) ?_
      ·intro K hK
       go_simp
       exact hK _ _ ⟨.int .i64 (k:Int),rfl,rfl,Ext.refl _⟩
      refine sC [(1,some 36),(2,some 37)] rfl (fun wi hx=> ?_) ?_
      ·intro v1 h1 v2 h2 K hK
       obtain rfl:=h1
       obtain rfl:=h2
       go_simp
       exact hK _ _ ⟨.pointer (some ⟨gL,k,none⟩),rfl,rfl,Ext.refl _⟩
      refine sC [(3,some 38)] rfl (fun wi hx=> ?_) ?_
      ·intro v3 h3 K hK
       obtain rfl:=h3
       have cu:wi.cell? ⟨gL,k,none⟩=some (.int .i64 (u:Int)):=by have:=(bB HL.out hx.of_drew).cellAt k (by omega);rw[this];simp[ivs,bD,HU.out]
       go_simp
       exact hK _ _ ⟨.int .i64 (u:Int),rfl,rfl,Ext.refl _⟩
      refine sC [(0,some 35),(4,some 39)] rfl (fun wi hx=> ?_) StepsL.nil
      ·intro v0 h0 v4 h4 K hK
       obtain rfl:=h0
       obtain rfl:=h4
       go_wp2_with fail
       refine(HCU.out _ (hEw.trans hx.of_drew)).mono ?_
       rintro e w5 ⟨q5,c5,rfl,o5,hx5⟩
       rw[hnbl]at o5⊢
       go_simp
       exact hK _ _ ⟨.slice q5 nb.length c5,rfl,⟨q5,c5,rfl,bG o5 (by have:=hx.sz;simpa using this)⟩,hx5⟩
     case fin=>
      intro wi hx v0 h0 v1 h1 v2 h2 v3 h3 v4 h4 v5 h5
      obtain rfl:=h0
      obtain rfl:=h1
      obtain rfl:=h2
      obtain rfl:=h3
      obtain rfl:=h4
      obtain⟨q5,c5,rfl,ho5⟩:=h5
      refine wpAny_ready (rs:= [6]) (by kernel_rfl) (by simp) ?_
      refine AllReady.cons rfl (fun K hK=> ?_) AllReady.nil
      go_simp
      refine hK _ _ ?_
      clear hK K
      refine wpAny_done (by kernel_rfl) ?_ _
      have hx':=hx.of_drew
      have F2:=xQ (bB HF.out hx')
      have L2:=xQ (bB HL.out hx')
      have B2:=xQ (HB.out.ext hx')
      have X2:=xQ (hEw.trans hx')
      have N2:=xQ ho5
      have z2:=hx'.sz
      have NE2:=xQ (aIp (q2:=some ⟨gL,0,none⟩) (m:=l) (c2:=lc) (B2:=0) (sz2:=0) (e2:=TI) (ys:= []) ho5 (fun g hg=>by simp[Value.ownBlock]at hg;omega) (by simp[Value.ownBlock]))
      clear HF HL HB hEw ho5 hx hx' HCU
      go_wp2
      obtain⟨wo,rfl⟩: ∃wo:World,wo=wi:=⟨_,rfl⟩
      go_loopw [9,12] (fun v i wr=> ∃(j:Nat) (q:OA) (l2 lc:Nat) (D2:List Int) (Q2:List Nat),j≤nb.length∧i= .int .i64 j∧v= .slice q l2 lc∧l2=Q2.length∧(D2,Q2)=bJ (D.getD u 0+1) (D,Q) ((nb.take j).filter (fun(v:Nat)=>decide ((v:Int)≠but)))∧(∀x∈D2,-1≤x∧x≤(k:Int)+1)∧wr.ownsRow (w.heap.size+1) TI 1 (.slice (some ⟨gF,0,none⟩) n c) n (ivs D2)∧wr.ownsRow w1.heap.size TI 1 (.slice q l2 lc) l2 (ivs (bD Q2))∧wr.ownsRow wr1.heap.size TI 1 (.slice q5 nb.length c5) nb.length (ivs (bD nb))∧(Value.slice q l2 lc).ownBlock≠(Value.slice q5 nb.length c5).ownBlock∧Ext w wr∧Blk wr w.heap.size TH3 #[aA,aB,.slice p n cap]∧wo.heap.size≤wr.heap.size) (fun _ i _=>nb.length-(intOf i).toNat)
      case atStart=>exact⟨0,_,l,lc,D,Q,Nat.zero_le _,rfl,rfl,HLQ.out,by simp[bJ],fun x hx=>by have:=HBD.out x hx;omega,F2.out,L2.out,N2.out,NE2.out,X2.out,B2.out,Nat.le_refl _⟩
      case round=>
       clear F2 L2 B2 X2 N2 NE2
       obtain⟨j,q,l2,lc,D2,Q2,hj,rfl,rfl,hlq2,heq,hbd2,hF,hL,hN,hne,hEw,hB,hsz2⟩:=hrel
       have hum:u∈Q:=List.mem_of_getElem? HU.out
       have hmid:Mid (mX aA n but) [src] n k u ((nb.take j).filter (fun(v:Nat)=>decide ((v:Int)≠but))) (D,Q) (D2,Q2):=by
        rw[heq]
        have:=Mid.many hum ((nb.take j).filter (fun(v:Nat)=>decide ((v:Int)≠but))) [] (D,Q) (HI.out.mid HU.out) (fun v hv=>by
         have h1:=List.mem_filter.1 hv
         have h2:v∈aS aA n u:=by rw[←HNB.out];exact List.mem_of_mem_take h1.1
         exact⟨List.mem_filter.2 ⟨h2,h1.2⟩,(bM.1 h2).1⟩)
        simpa using this
       have hD2:D2.length=n:=hmid.len
       have hQ2:Q2.length≤n:=lT hmid.nodup hmid.bd
       have hsu:D2.getD u 0=D.getD u 0:=hmid.same u hum
       obtain⟨r,hr⟩:=hmid.pre
       dsimp only at hr
       have hkl:k<Q2.length:=by rw[hr,List.length_append];have:=HLQ.out;omega
       have hQk:Q2[k]? =some u:=by
        have:=HLQ.out
        rw[hr,List.getElem?_append_left (by omega)];exact HU.out
       have hdu:=cW (D:=D2) (v:=u) (by omega)
       have hdu1: -1≤D2.getD u 0:=(hbd2 _ hdu.2).1
       have hdu2:D2.getD u 0≤(k:Int):=by
        rw[hsu];exact(HBD.out _ (cW (D:=D) (v:=u) (by have:=HI.out.len;dsimp only at this;omega)).2).2
       have HF:=xQ hF
       have HL:=xQ hL
       have HN:=xQ hN
       have HNE:=xQ hne
       have HB:=xQ hB
       have HEQ:=xQ heq
       have HBD2:=xQ hbd2
       have HLQ2:=xQ hlq2
       have HQK:=xQ hQk
       have HDU:=xQ hdu.1
       have HSU:=xQ hsu
       have hl2n:l2≤n:=by omega
       have hkl2:k<l2:=by omega
       have hD2':=xQ hD2
       have sB:w.heap.size<wr.heap.size:=hB.lt
       clear hF hL hN hne hB heq hbd2 hlq2 hQk hdu hsu hr hmid hD2 hkl
       by_cases hlt3:j<nb.length
       ·obtain⟨v,hv⟩: ∃v,nb[j]? =some v:=⟨_,List.getElem?_eq_getElem hlt3⟩
        have hvn:v<n:=(bM.1 (by rw[←HNB.out];exact List.mem_of_getElem? hv:v∈aS aA n u)).1
        have HV:=xQ hv
        clear hv
        obtain⟨gN,rfl,hN1,hN2⟩:=eB HN.out (by omega)
        obtain⟨gL,rfl,hL1,hL2⟩:=eB HL.out (by omega)
        obtain⟨dv,hdv,hdvm⟩: ∃dv,D2[v]? =some dv∧D2.getD v 0=dv:=⟨_,(cW (D:=D2) (v:=v) (by rw[hD2'.out];exact hvn)).1,rfl⟩
        have HDV:=xQ hdv
        have HDVM:=xQ hdvm
        clear hdv hdvm
        have m1:(0:Int)≤(j:Int):=by omega
        have m2:(j:Int)<(nb.length:Int):=by omega
        have m3:(0:Int)≤(v:Int):=by omega
        have m4:(v:Int)<(n:Int):=by omega
        have m5:(k:Int)<(l2:Int):=by omega
        have cn:wr.cell? ⟨gN,j,none⟩=some (.int .i64 (v:Int)):=by have:=HN.out.cellAt j (by omega);rw[this];simp[ivs,bD,HV.out]
        have cf:wr.cell? ⟨gF,v,none⟩=some (.int .i64 dv):=by have:=HF.out.cellAt v (by omega);rw[this];simp[ivs,HDV.out]
        by_cases hvb:(v:Int)=but
        ·have t0:((v:Int)!=but)=false:=by simp[hvb]
         have hfin:=xQ (aCo HV.out hvb)
         clear hvb
         go_wp2
         go_roundw
         case rel=>exact⟨j+1,_,l2,lc,D2,Q2,by omega,by go_num,rfl,HLQ2.out,by rw[hfin.out];exact HEQ.out,HBD2.out,HF.out,HL.out,HN.out,HNE.out,hEw,HB.out,hsz2⟩
         case measure=>simp[intOf];omega
        ·have t0:((v:Int)!=but)=true:=by simp[hvb]
         have hfin:=xQ (zN HV.out hvb)
         clear hvb
         by_cases hd0:dv<0
         ·have t1:decide (dv<0)=true:=by simp[hd0]
          have hrel2:Hid ((D2.set v (D.getD u 0+1),Q2++ [v])=bJ (D.getD u 0+1) (D,Q) ((nb.take (j+1)).filter (fun(v:Nat)=>decide ((v:Int)≠but)))):=by
           show _=_
           rw[hfin.out,dG,←HEQ.out,jC (by rw[HDVM.out];exact hd0)]
          obtain⟨du,hdu⟩: ∃du,du=D2.getD u 0:=⟨_,rfl⟩
          have HDU2:=xQ hdu
          have du1: -1≤du:=by omega
          have du2:du≤(k:Int):=by omega
          have hw12:IntKind.i64.wrap (du+1)=du+1:=IntWalk.i64_in _ (by omega)
          clear hdu hd0
          go_wp2
          refine cS (gl [gEq (.slice (some ⟨gF,0,none⟩) n c),gEq (.slice (some ⟨gN,0,none⟩) nb.length c5),gEq (j:Int),gEq (.pointer (some ⟨gN,j,none⟩)),gEq (v:Int),gEq (.slice (some ⟨gF,0,none⟩) n c),gEq (.slice (some ⟨gL,0,none⟩) l2 lc),gEq (k:Int),gEq (.pointer (some ⟨gL,k,none⟩)),gEq (u:Int),gEq (.pointer (some ⟨gF,u,none⟩)),gEq du,gEq (du+1:Int),gEq (.pointer (some ⟨gF,v,none⟩))]) 14 (by kernel_rfl) rfl (by kernel_rfl) (by kernel_rfl) (by kernel_rfl) (eG (aK (aH _) (aK (aH _) (aK (aH _) (aK (aH _) (aK (aH _) (aK (aH _) (aK (aH _) (aK (aH _) (aK (aH _) (aK (aH _) (aK (aH _) (aK (aH _) (aK (aH _) (aK (aH _) (fK)))))))))))))))) (k:=15) (by kernel_rfl) (by decide) (ls:= [(0,some 63),(1,some 64),(2,some 65),(3,some 66),(4,some 67),(5,some 68),(6,some 69),(7,some 70),(8,some 71),(9,some 72),(10,some 73),(11,some 74),(12,some 75),(13,some 76)]) (by kernel_rfl) (ir:= [0,1,2,3,4,5,6,7,8,9,10,11,12,13]) (by kernel_rfl) ?steps (tl:=#[true,true,true,true,true,true,true,true,true,true,true,true,true,true,false]) (by kernel_rfl) ?fin
          case steps=>
           refine sC [] rfl (fun wj hx=> ?_) ?_
           ·intro K hK
            go_simp
            exact hK _ _ ⟨.slice (some ⟨gF,0,none⟩) n c,rfl,rfl,Ext.refl _⟩
           refine sC [] rfl (fun wj hx=> ?_) ?_
           ·intro K hK
            go_simp
            exact hK _ _ ⟨.slice (some ⟨gN,0,none⟩) nb.length c5,rfl,rfl,Ext.refl _⟩
           refine sC [] rfl (fun wj hx=> ?_) ?_
           ·intro K hK
            go_simp
            exact hK _ _ ⟨.int .i64 (j:Int),rfl,rfl,Ext.refl _⟩
           refine sC [(1,some 64),(2,some 65)] rfl (fun wj hx=> ?_) ?_
           ·intro v1 h1 v2 h2 K hK
            obtain rfl:=h1
            obtain rfl:=h2
            go_simp
            exact hK _ _ ⟨.pointer (some ⟨gN,j,none⟩),rfl,rfl,Ext.refl _⟩
           refine sC [(3,some 66)] rfl (fun wj hx=> ?_) ?_
           ·intro v3 h3 K hK
            obtain rfl:=h3
            have cv:wj.cell? ⟨gN,j,none⟩=some (.int .i64 (v:Int)):=by have:=(bB HN.out hx.of_drew).cellAt j (by omega);rw[this];simp[ivs,bD,HV.out]
            go_simp
            exact hK _ _ ⟨.int .i64 (v:Int),rfl,rfl,Ext.refl _⟩
           refine sC [] rfl (fun wj hx=> ?_) ?_
           ·intro K hK
            go_simp
            exact hK _ _ ⟨.slice (some ⟨gF,0,none⟩) n c,rfl,rfl,Ext.refl _⟩
           refine sC [] rfl (fun wj hx=> ?_) ?_
           ·intro K hK
            go_simp
            exact hK _ _ ⟨.slice (some ⟨gL,0,none⟩) l2 lc,rfl,rfl,Ext.refl _⟩
           refine sC [] rfl (fun wj hx=> ?_) ?_
           ·intro K hK
            go_simp
            exact hK _ _ ⟨.int .i64 (k:Int),rfl,rfl,Ext.refl _⟩
           refine sC [(6,some 69),(7,some 70)] rfl (fun wj hx=> ?_) ?_
           ·intro v6 h6 v7 h7 K hK
            obtain rfl:=h6
            obtain rfl:=h7
            go_simp
            exact hK _ _ ⟨.pointer (some ⟨gL,k,none⟩),rfl,rfl,Ext.refl _⟩
           refine sC [(8,some 71)] rfl (fun wj hx=> ?_) ?_
           ·intro v8 h8 K hK
            obtain rfl:=h8
            have cv:wj.cell? ⟨gL,k,none⟩=some (.int .i64 (u:Int)):=by have:=(bB HL.out hx.of_drew).cellAt k (by omega);rw[this];simp[ivs,bD,HQK.out]
            go_simp
            exact hK _ _ ⟨.int .i64 (u:Int),rfl,rfl,Ext.refl _⟩
           refine sC [(5,some 68),(9,some 72)] rfl (fun wj hx=> ?_) ?_
           ·intro v5 h5 v9 h9 K hK
            obtain rfl:=h5
            obtain rfl:=h9
            go_simp
            exact hK _ _ ⟨.pointer (some ⟨gF,u,none⟩),rfl,rfl,Ext.refl _⟩
           refine sC [(10,some 73)] rfl (fun wj hx=> ?_) ?_
           ·intro v10 h10 K hK
            obtain rfl:=h10
            have cv:wj.cell? ⟨gF,u,none⟩=some (.int .i64 du):=by have:=(bB HF.out hx.of_drew).cellAt u (by omega);rw[this,HDU2.out];simp only[ivs,List.getElem?_map,HDU.out,Option.map_some]
            go_simp
            exact hK _ _ ⟨.int .i64 du,rfl,rfl,Ext.refl _⟩
           refine sC [(11,some 74)] rfl (fun wj hx=> ?_) ?_
           ·intro v11 h11 K hK
            obtain rfl:=h11
            go_simp
            exact hK _ _ ⟨.int .i64 (du+1),rfl,rfl,Ext.refl _⟩
           refine sC [(0,some 63),(4,some 67)] rfl (fun wj hx=> ?_) StepsL.nil
           ·intro v0 h0 v4 h4 K hK
            obtain rfl:=h0
            obtain rfl:=h4
            go_simp
            exact hK _ _ ⟨.pointer (some ⟨gF,v,none⟩),rfl,rfl,Ext.refl _⟩
          case fin=>
           intro wj hx v0 h0 v1 h1 v2 h2 v3 h3 v4 h4 v5 h5 v6 h6 v7 h7 v8 h8 v9 h9 v10 h10 v11 h11 v12 h12 v13 h13
           obtain rfl:=h0
           obtain rfl:=h1
           obtain rfl:=h2
           obtain rfl:=h3
           obtain rfl:=h4
           obtain rfl:=h5
           obtain rfl:=h6
           obtain rfl:=h7
           obtain rfl:=h8
           obtain rfl:=h9
           obtain rfl:=h10
           obtain rfl:=h11
           obtain rfl:=h12
           obtain rfl:=h13
           have hx':=hx.of_drew
           have F3:=xQ (bB HF.out hx')
           have L3:=xQ (bB HL.out hx')
           have N3:=xQ (bB HN.out hx')
           have B3:=xQ (HB.out.ext hx')
           have X3:=xQ (hEw.trans hx')
           have z3:=hx'.sz
           clear HF HL HN HB hEw hx hx' cn cf
           have cf2:wj.cell? ⟨gF,v,none⟩=some (.int .i64 dv):=by have:=F3.out.cellAt v (by omega);rw[this];simp[ivs,HDV.out]
           have ff2:wj.frozen? ⟨gF,v,none⟩=false:=F3.out.frozenAt v
           refine wpAny_ready (rs:= [14]) (by kernel_rfl) (by simp) ?_
           refine AllReady.cons rfl (fun K hK=> ?_) AllReady.nil
           go_simp
           refine hK _ _ ?_
           clear hK K cf2 ff2
           have y4:=(F3.out.stored v (.int .i64 (du+1))).1
           have hR4:ExtR gF wj _:=(F3.out.stored v (.int .i64 (du+1))).2
           generalize hw4:World.setCell _ _ _=w4 at*
           clear hw4
           have F4:=xQ (show w4.ownsRow (w.heap.size+1) TI 1 (.slice (some ⟨gF,0,none⟩) n c) n (ivs (D2.set v (du+1))) by rw[←dI];exact y4)
           have L4:=xQ (L3.out.kept hR4 (.inr (by simp[Value.ownBlock];omega)))
           have N4:=xQ (N3.out.kept hR4 (.inr (by simp[Value.ownBlock];omega)))
           have B4:=xQ (show Blk w4 w.heap.size TH3 #[aA,aB,.slice p n cap]from(hR4.block _ B3.out.lt (by simp;omega)).trans B3.out)
           have X4:=xQ (ExtR.new X3.out hR4 (by omega))
           have z4:=hR4.sz
           clear F3 L3 N3 B3 X3 y4 hR4
           refine wpAny_done (by kernel_rfl) ?_ _
           have cn4:w4.cell? ⟨gN,j,none⟩=some (.int .i64 (v:Int)):=by have:=N4.out.cellAt j (by omega);rw[this];simp[ivs,bD,HV.out]
           have gN4:=(N4.out.lt gN rfl).2
           have gL4:=(L4.out.lt gL rfl).2
           have hb4:w1.heap.size≤w4.heap.size:=by omega
           go_wp2_with (at_builtin;refine fG rfl _ _ rfl w1.heap.size _ _ _ rfl (L4.out.alloc _) _ _ (v:Int) _ rfl (by simp) (by omega) (Nat.le_trans hb4 (by simp)) ?_;intro p' cap' w9 hown1 hg0 hat0;have hg1:World.grownBy _ w9 (Value.slice (some ⟨gL,0,none⟩) l2 lc).ownBlock:=hg0;have hat1:(Value.slice p' (l2+1) cap').ownBlock=(Value.slice (some ⟨gL,0,none⟩) l2 lc).ownBlock∨(Value.slice p' (l2+1) cap').ownBlock=some (w4.alloc (.cells #[(v:Int)] TI)).heap.size:=hat0;have F5:=xQ ((F4.out.alloc _).kept hg1 (.inr (by simp[Value.ownBlock];omega)));have N5:=xQ ((N4.out.alloc _).kept hg1 (.inr (Ne.symm HNE.out)));have L5:=xQ hown1;have E5:=xQ (Ext.own (X4.out.alloc _) (L4.out.alloc _) hg1 (by omega));have B5:=xQ ((B4.out.alloc _).grown hg1 (by simp[Value.ownBlock];omega));have z9:=hg1.size;have A5:=xQ hat1;clear hown1 hg1 hat1 hg0 hat0)
           have NE5:Hid ((Value.slice p' (l2+1) cap').ownBlock≠(Value.slice (some ⟨gN,0,none⟩) nb.length c5).ownBlock):=by
            show _≠_
            rcases A5.out with h|h
            ·rw[h];exact HNE.out
            ·rw[h];simp[Value.ownBlock];omega
           have z9':w4.heap.size≤w9.heap.size:=Nat.le_trans (by simp) z9
           clear z9 cn4
           go_roundw
           case rel=>
            refine⟨j+1,p',l2+1,cap',D2.set v (du+1),Q2++ [v],by omega,by go_num,rfl,by simp[HLQ2.out],?_,?_,F5.out,?_,N5.out,NE5.out,E5.out,B5.out,by omega⟩
            ·rw[HDU2.out,HSU.out];exact hrel2.out
            ·intro x hx
             rcases List.mem_or_eq_of_mem_set hx with h|h
             ·exact HBD2.out x h
             ·omega
            ·have:=L5.out
             simpa[bD]using this
           case measure=>simp[intOf];omega
         ·have t1:decide (dv<0)=false:=by simp[hd0]
          have hrel2:Hid ((D2,Q2)=bJ (D.getD u 0+1) (D,Q) ((nb.take (j+1)).filter (fun(v:Nat)=>decide ((v:Int)≠but)))):=by
           show _=_
           rw[hfin.out,dG,←HEQ.out,kM (by rw[HDVM.out];exact hd0)]
          clear hd0
          go_wp2
          go_roundw
          case rel=>exact⟨j+1,_,l2,lc,D2,Q2,by omega,by go_num,rfl,HLQ2.out,hrel2.out,HBD2.out,HF.out,HL.out,HN.out,HNE.out,hEw,HB.out,hsz2⟩
          case measure=>simp[intOf];omega
       ·have hje:j=nb.length:=by omega
        have hInv:Hid (Inv (mX aA n but) [src] n (k+1) (D2,Q2)):=by
         have h1:=HI.out.step HU.out (fun v hv=>aCy hv)
         have h2:=HEQ.out
         rw[hje,List.take_length]at h2
         have h3:nb.filter (fun(v:Nat)=>decide ((v:Int)≠but))=mX aA n but u:=by rw[HNB.out];rfl
         rw[h3]at h2
         rw[h2]
         exact h1
        have hbdf:Hid (∀x∈D2,-1≤x∧x≤((k+1:Nat):Int)):=fun x hx=>by have:=HBD2.out x hx;omega
        clear hje
        go_wp2
        go_roundw
        case rel=>exact⟨k+1,_,l2,lc,D2,Q2,by omega,by go_num,rfl,HLQ2.out,hbdf.out,hInv.out,HF.out,HL.out,hEw,HB.out,by omega⟩
        case measure=>simp[intOf];omega
    ·have hdist:=xQ (HI.out.dist (by have:=HLQ.out;dsimp only;omega))
     have hDl:=HI.out.len
     have HDL:=xQ hDl
     clear hDl
     go_wp2
     go_ret
     exact⟨D,hdist.out,cQ HDL.out (bG HF.out (Nat.le_succ _)) hEw⟩
theorem aDw (aA aB:Int)(p:OA)(n cap src:Nat)(but:Int)(xs:List Int)(w:World)(hS:Sl w p n cap 1 (ivs xs))(hok:aP aA aB xs=true)(hs:src<n):
  Calls Tryz.prog 200 #[aI aA aB p n cap,(src:Int),but] w fun e w'=> ∃D,oU (mX aA n but) [src] n D∧aY D w e w':=by
 have hl:=hS.ilen
 obtain⟨g1,g2,g3,g4,g5,g6,g7,g8,g9⟩:=bN hok
 exact aDe aA aB p n cap src but w (by omega) (by omega) hs (fun k hk w' hx=>by
  have:=aAr aA aB k p n cap xs w' (hS.ext hx) hok (by omega) (by omega)
  rwa[jF]at this)
end Go.Proofs.YtgnkoffndhmhpaaGreatDoor
