/-
  Texts of this proof, packed (@packed).
-/
import Derived.Deep.RegionLaw
import Derived.Test.YteejdnmmpmcmeaaGreatDoorP2
import Derived.Test.YteejdnmmpmcmeaaGreatDoorP3
import Derived.Test.YteejdnmmpmcmeaaGreatDoorP5
import Derived.Test.YteejdnmmpmcmeaaGreatDoorP8
import Derived.Test.YteejdnmmpmcmeaaGreatDoorP34
namespace Go.Proofs.YteejdnmmpmcmeaaGreatDoor
open Go.RowKit
set_option linter.unusedVariables false
set_option linter.unusedSimpArgs false
theorem wR {w1 wr w':World}{g n b:Nat}{t:TypeId}{cs:Array Value}{v:Value}{xs:List Value}{e:TypeId}{sz:Nat}(X:Ext w1 wr)(B:Blk wr g t cs)(ht:e≠t)(O:wr.ownsRow b e sz v n xs)(hb:w1.heap.size≤b)(hgrow:wr.grownBy w' v.ownBlock):
  Ext w1 w'∧Blk w' g t cs:=
 ⟨X.grown hgrow (fun q hq=>Nat.le_trans hb (O.lt q hq).1),B.grown hgrow (fun h=>fL O B ht h.symm)⟩
theorem wQ {wr w':World}{n b:Nat}{v:Value}{xs:List Value}{e:TypeId}{sz:Nat}(O:wr.ownsRow b e sz v n xs)(hgrow:wr.grownBy w' v.ownBlock){b2 s2 n2:Nat}{v2:Value}{xs2:List Value}{e2:TypeId}(h2:wr.ownsRow b2 e2 s2 v2 n2 xs2)(ne:e2≠e):w'.ownsRow b2 e2 s2 v2 n2 xs2:=
 h2.kept hgrow (aI7 h2 O ne)
theorem aJ4 (c:UInt8): ∀l:List UInt8,((aL c l).map (fun p=>p.length+1)).sum=l.length+1:=by
 intro l
 induction l with
 |nil=>rfl
 |cons x xs ih=>
  unfold aL
  split
  ·simp[ih];omega
  ·cases hq:aL c xs with
   |nil=>exact absurd hq (eH c xs)
   |cons p ps=>rw[hq]at ih;simp at ih⊢;omega
theorem aGs (rows:List (List UInt8)):(cV (rows.map (aL 44))).length≤(rows.map (fun p=>p.length+1)).sum:=by
 induction rows with
 |nil=>simp[cV]
 |cons r rs ih=>
  have:=(dZ 44 r).2
  simp only[cV,List.map_cons,List.flatten_cons,List.map_append,List.length_append,List.length_map,List.sum_cons]at ih⊢
  omega
theorem aH1 (rows:List (List UInt8))(k:Nat):((rows.take k).map (fun p=>p.length+1)).sum≤(rows.map (fun p=>p.length+1)).sum:=by
 conv=>rhs;rw[←List.take_append_drop k rows,List.map_append,List.sum_append]
 omega
theorem aJ6 (l:List UInt8)(k:Nat):(cV (bU (aL 47 l) k)).length≤l.length+1:=by
 have h1:=aGs ((aL 47 l).take k)
 have h2:=aH1 (aL 47 l) k
 have h3:=aJ4 47 l
 unfold bU
 omega
set_option maxRecDepth 100000 in
set_option maxHeartbeats 2000000 in
theorem zT (l:List UInt8)(w:World)(hs:l.length≤1048576):Calls Tryz.prog 82 #[str l] w (mN (cF l) w):=by
 have HS:Hid (∀q:List UInt8,q.length≤1048576→ ∀(c:UInt8) (ci:Int),ci=(c.toNat:Int)→ ∀w,Calls Tryz.prog 81 #[str q,.int .u8 ci] w fun e w'=> ∃v,e= .returned v∧w'.ownsRow w.heap.size nD 1 v (aL c q).length (iQ (aL c q))∧Ext w w'):=
  fun q hq c ci hc w=>oT ⟨q.toArray⟩ c ci hc w (by simp only[ByteArray.size,List.size_toArray];omega)
 have hlen:=dZ 47 l
 have HL:Hid (∀p∈aL 47 l,p.length≤1048576):=fun p hp=>Nat.le_trans (hlen.1 p hp) hs
 have HR:Hid (∀(q:List UInt8) (x:Int),q.length≤1048576→(bQ 4 q).getD (-1)=x→ ∀w,Calls Tryz.prog 95 #[str q] w fun e w'=>e= .returned (.int .i64 x)∧w=w'):=by
  intro q x hq hx w
  subst hx
  exact lH q (by unfold maxLen;omega) w
 have HBD:Hid (∀k,(cV (bU (aL 47 l) k)).length≤1048577):=fun k=>by have:=aJ6 l k;omega
 have hlen2:=hlen.2
 have hpos:0<(aL 47 l).length:=List.length_pos_iff.2 (eH 47 l)
 clear hlen
 go_enter Tryz.func82,Tryz.ntmps82
 go_wp2_with fail
 refine(HS.out l hs 47 _ rfl _).mono ?_
 rintro e w1 ⟨v,rfl,hown,h1⟩
 have hown1:=xQ (show w1.ownsRow (w.heap.size+1) nD 1 v (aL 47 l).length (iQ (aL 47 l)) by simpa using hown)
 have hX1:Ext w w1:=xE
 have HZ1:Hid (Blk w1 w.heap.size jZ Z3):=(Blk.new w _ _).ext h1
 have hz1:w.heap.size<w1.heap.size:=HZ1.out.lt
 have HX1:=xQ hX1
 clear hown h1 hX1
 obtain⟨gr,cr,rfl⟩:=Joins.ownsRow_form hown1.out hpos
 generalize hRq:(aL 47 l).length=R at*
 have HRq:=xQ hRq
 clear hRq
 have hR2:R≤4294967281:=by omega
 go_wp2
 go_loopw [6] (fun i wr=> ∃(k n:Nat) (p:Option Addr) (cap:Nat),k≤R∧i= .int .i64 k∧n=(cV (bU (aL 47 l) k)).length∧Ext w1 wr∧Blk wr w1.heap.size jZ #[.int .i64 (jC (bU (aL 47 l) k)),.int .i64 R,.slice p n cap]∧
  wr.ownsRow (w1.heap.size+1) TI 1 (.slice p n cap) n (ivs (cV (bU (aL 47 l) k)))) (fun i _=>R-(intOf i).toNat)
 case atStart=>
  refine⟨0,0,none,0,Nat.zero_le _,rfl,rfl,xE,?_,World.ownsRow_nil _ _ _ _⟩
  have:=Blk.new w1 jZ #[.int .i64 0,.int .i64 R,.slice none 0 0]
  simpa[bU,jC]using this
 case round=>
  obtain⟨k,n,p,cap,hk,rfl,hn,hEr,hB,hO⟩:=hrel
  have HB:=xQ hB
  have HO:=xQ hO
  have HN:=xQ hn
  clear hB hO hn
  by_cases hlt:k<R
  ·obtain⟨q,hq⟩: ∃q,(aL 47 l)[k]? =some q:=⟨_,List.getElem?_eq_getElem (by rw[HRq.out];exact hlt)⟩
   have HQ:=xQ hq
   have hql:q.length≤1048576:=HL.out q (List.mem_of_getElem? hq)
   have e1:wr.cell? ⟨gr,k,none⟩=some (str q):=cY (aO hown1.out hEr) k hlt q hq
   clear hq
   have i1:(0:Int)≤(k:Int):=by omega
   have i2:(k:Int)<(R:Int):=by omega
   have hzr:w1.heap.size<wr.heap.size:=HB.out.lt
   go_wp2_with fail
   refine(HS.out q hql 44 _ rfl _).mono ?_
   rintro e w2 ⟨v2,rfl,hown2,h2⟩
   clear e1
   have hlen3:=(dZ 44 q).2
   have hpos2:0<(aL 44 q).length:=List.length_pos_iff.2 (eH 44 q)
   have XM:=xQ (hEr.trans h2)
   have BM:=xQ (HB.out.ext h2)
   have OM:=xQ (aO HO.out h2)
   obtain⟨bW,OW⟩: ∃bW,Hid (w2.ownsRow bW nD 1 v2 (aL 44 q).length (iQ (aL 44 q))):=⟨_,hown2⟩
   have hzr2:wr.heap.size≤w2.heap.size:=h2.sz
   clear hown2 h2
   obtain⟨g2,c2,rfl⟩:=Joins.ownsRow_form OW.out hpos2
   have HLR:Hid (∀c∈aL 44 q,c.length≤1048576):=fun c hc=>Nat.le_trans ((dZ 44 q).1 c hc) hql
   generalize hm:(aL 44 q).length=m at*
   have HM:=xQ hm
   clear hm
   obtain⟨b0,bf0,b1,bf1,b2,bf2⟩:=(BM.out).trif
   go_wp2
   clear b0 b1 b2 bf0 bf1 bf2
   go_loopw [8] (fun i wz=> ∃(j n:Nat) (p:Option Addr) (cap:Nat),j≤m∧i= .int .i64 j∧n=(cV (bU (aL 47 l) k)++((aL 44 q).take j).map fF).length∧Ext w1 wz∧Blk wz w1.heap.size jZ #[.int .i64 m,.int .i64 R,.slice p n cap]∧
    wz.ownsRow (w1.heap.size+1) TI 1 (.slice p n cap) n (ivs (cV (bU (aL 47 l) k)++((aL 44 q).take j).map fF))∧wz.ownsRow bW nD 1 (.slice (some ⟨g2,0,none⟩) m c2) m (iQ (aL 44 q))) (fun i _=>m-(intOf i).toNat)
   case atStart=>
    refine⟨0,n,p,cap,Nat.zero_le _,rfl,by simpa using HN.out,XM.out.setCell (Nat.le_refl _) _,?_,?_,fW BM.out OW.out (by decide)⟩
    ·have:=BM.out.set 0 (.int .i64 m)
     simpa using this
    ·have:=fW (i:=0) (u:= .int .i64 m) BM.out OM.out (by decide)
     simpa using this
   case round=>
    clear HN HO HB XM BM OM OW n p cap
    obtain⟨j,n,p,cap,hj,rfl,hn,hEz,hB,hO,hW⟩:=hrel
    have XZ:=xQ hEz
    have BZ:=xQ hB
    have OZ:=xQ hO
    have OWZ:=xQ hW
    have HNZ:=xQ hn
    have hzz2:w1.heap.size<wr.heap.size:=hB.lt
    have hnbd:n≤1048577:=by
     have h3:=HBD.out (k+1)
     rw[eQ HQ.out,iY,List.length_append,List.length_map]at h3
     rw[hn,List.length_append,List.length_map,List.length_take]
     omega
    clear hEz hB hO hW hn
    by_cases hlt2:j<m
    ·obtain⟨c,hc⟩: ∃c,(aL 44 q)[j]? =some c:=⟨_,List.getElem?_eq_getElem (by rw[HM.out];exact hlt2)⟩
     have HC:=xQ hc
     have hcl:c.length≤1048576:=HLR.out c (List.mem_of_getElem? hc)
     have e2:wr.cell? ⟨g2,j,none⟩=some (str c):=cY OWZ.out j hlt2 c hc
     clear hc
     have i3:(0:Int)≤(j:Int):=by omega
     have i4:(j:Int)<(m:Int):=by omega
     obtain⟨b0,bf0,b1,bf1,b2,bf2⟩:=(BZ.out).trif
     by_cases hd:c= [46]
     ·have hd2:(c== [46])=true:=by simp[hd]
      have HCS:Hid (fF c=0):=by show _=_;rw[hd];rfl
      clear hd
      go_wp2_with (at_builtin;refine cP gW rfl _ _ rfl (w1.heap.size+1) (.slice p n cap) n _ rfl (OZ.out.alloc _) _ _ (0) _ rfl (by simp) (by omega) (by simp;omega) ?_;intro p2 cap2 w3 hown3 hgrow3;obtain⟨X3,B3⟩:=aAz XZ.out BZ.out (by decide) OZ.out (by omega) hgrow3;have OW3:=aAy OZ.out hgrow3 OWZ.out (by decide);clear hgrow3 b0 b1 b2 bf0 bf1 bf2 e2;(have b0:w3.cell? ⟨w1.heap.size,0,none⟩=some (.int .i64 m):=B3.cell 0);(have b1:w3.cell? ⟨w1.heap.size,1,none⟩=some (.int .i64 R):=B3.cell 1);(have b2:w3.cell? ⟨w1.heap.size,2,none⟩=some (.slice p n cap):=B3.cell 2);(have bf0:w3.frozen? ⟨w1.heap.size,0,none⟩=false:=B3.frozen 0);(have bf1:w3.frozen? ⟨w1.heap.size,1,none⟩=false:=B3.frozen 1);(have bf2:w3.frozen? ⟨w1.heap.size,2,none⟩=false:=B3.frozen 2);have hz3:w1.heap.size<w3.heap.size:=B3.lt)
      have B4:=xQ (show Blk (w3.setCell ⟨w1.heap.size,2,none⟩ (.slice p2 (n+1) cap2)) w1.heap.size jZ #[.int .i64 m,.int .i64 R,.slice p2 (n+1) cap2] by have:=B3.set 2 (.slice p2 (n+1) cap2);simpa using this)
      have O4:Hid ((w3.setCell ⟨w1.heap.size,2,none⟩ (.slice p2 (n+1) cap2)).ownsRow (w1.heap.size+1) TI 1 (.slice p2 (n+1) cap2) (n+1) (ivs (cV (bU (aL 47 l) k)++((aL 44 q).take (j+1)).map fF))):=by
       have:=fW (i:=2) (u:= .slice p2 (n+1) cap2) B3 hown3 (by decide)
       rw[show ivs (cV (bU (aL 47 l) k)++((aL 44 q).take j).map fF++ [0])=ivs (cV (bU (aL 47 l) k)++((aL 44 q).take (j+1)).map fF) by rw[bF HC.out,List.map_append];simp[HCS.out,ivs]]at this
       exact this
      have OW4:=xQ (fW (i:=2) (u:= .slice p2 (n+1) cap2) B3 OW3 (by decide))
      have X4:Ext w1 (w3.setCell ⟨w1.heap.size,2,none⟩ (.slice p2 (n+1) cap2)):=X3.setCell (Nat.le_refl _) _
      clear hown3 OW3 B3 X3
      go_roundw
      case rel=>exact⟨j+1,n+1,p2,cap2,by omega,by go_num,by have hmm:=HM.out;rw[HNZ.out];simp only[List.length_append,List.length_map,List.length_take];omega,X4,B4.out,O4.out,OW4.out⟩
      case measure=>simp[intOf];omega
     ·have hd2:(c== [46])=false:=by simp[hd]
      obtain⟨x,hx⟩: ∃x,(bQ 4 c).getD (-1)=x:=⟨_,rfl⟩
      have HCS:Hid (fF c=x):=by show _=_;unfold fF;rw[if_neg hd,hx]
      have HRc:=xQ (HR.out c x hcl hx)
      clear hx hd
      go_wp2_with fail
      go_region_law (first|(refine eK _ gW rfl (.tmp 45) (.tmp 51) rfl (w1.heap.size+1) (.slice p n cap) n _ (by simp[Act.eval,Act.put];done) (aO OZ.out xE) _ 1 1 [iv x] (by simp[Act.eval,Act.put];rfl) ((Sl.new _ #[.int .i64 x] _ 1 rfl (by decide)).ext xE) (oU [x]) (by omega) (by simp;omega) ?_;intro p2 cap2 w3 hown3 hgrow3;obtain⟨X3,B3⟩:=wR (XZ.out.trans xE) (BZ.out.ext xE) (by decide) (aO OZ.out xE) (by omega) hgrow3;have OW3:=wQ (aO OZ.out xE) hgrow3 (aO OWZ.out xE) (by decide);clear hgrow3;(have c0:w3.cell? ⟨w1.heap.size,0,none⟩=some (.int .i64 m):=B3.cell 0);(have c1:w3.cell? ⟨w1.heap.size,1,none⟩=some (.int .i64 R):=B3.cell 1);(have c2:w3.cell? ⟨w1.heap.size,2,none⟩=some (.slice p n cap):=B3.cell 2);(have cf0:w3.frozen? ⟨w1.heap.size,0,none⟩=false:=B3.frozen 0);(have cf1:w3.frozen? ⟨w1.heap.size,1,none⟩=false:=B3.frozen 1);(have cf2:w3.frozen? ⟨w1.heap.size,2,none⟩=false:=B3.frozen 2);have hz3:w1.heap.size<w3.heap.size:=B3.lt)|(go_simp;go_at_call 95;refine(HRc.out _).mono ?_;rintro e w2 ⟨rfl,rfl⟩))
      all_goals
       clear c0 c1 c2 cf0 cf1 cf2
       have B4:=xQ (show Blk (w3.setCell ⟨w1.heap.size,2,none⟩ (.slice p2 (n+1) cap2)) w1.heap.size jZ #[.int .i64 m,.int .i64 R,.slice p2 (n+1) cap2] by have:=B3.set 2 (.slice p2 (n+1) cap2);simpa using this)
       have O4:Hid ((w3.setCell ⟨w1.heap.size,2,none⟩ (.slice p2 (n+1) cap2)).ownsRow (w1.heap.size+1) TI 1 (.slice p2 (n+1) cap2) (n+1) (ivs (cV (bU (aL 47 l) k)++((aL 44 q).take (j+1)).map fF))):=by
        have:=fW (i:=2) (u:= .slice p2 (n+1) cap2) B3 hown3 (by decide)
        rw[show ivs (cV (bU (aL 47 l) k)++((aL 44 q).take j).map fF)++ [iv x]=ivs (cV (bU (aL 47 l) k)++((aL 44 q).take (j+1)).map fF) by rw[bF HC.out,List.map_append];simp[HCS.out,ivs]]at this
        exact this
       have OW4:=xQ (fW (i:=2) (u:= .slice p2 (n+1) cap2) B3 OW3 (by decide))
       have X4:Ext w1 (w3.setCell ⟨w1.heap.size,2,none⟩ (.slice p2 (n+1) cap2)):=X3.setCell (Nat.le_refl _) _
       clear hown3 OW3 B3 X3
       go_wp2
       go_roundw
       case rel=>exact⟨j+1,n+1,p2,cap2,by omega,by go_num,by have hmm:=HM.out;rw[HNZ.out];simp only[List.length_append,List.length_map,List.length_take];omega,X4,B4.out,O4.out,OW4.out⟩
       case measure=>simp[intOf];omega
    ·obtain rfl:j=m:=by omega
     have HT:Hid ((aL 44 q).take j=aL 44 q):=List.take_of_length_le (by rw[HM.out];exact Nat.le_refl _)
     go_wp2
     go_roundw
     case rel=>
      refine⟨k+1,n,p,cap,by omega,by go_num,?_,XZ.out,?_,?_⟩
      ·rw[eQ HQ.out,iY,HNZ.out,HT.out]
      ·rw[eQ HQ.out,sP,HM.out];exact BZ.out
      ·rw[eQ HQ.out,iY];have:=OZ.out;rw[HT.out]at this;exact this
     case measure=>simp[intOf];omega
  ·obtain rfl:k=R:=by omega
   have hWW:Hid (bU (aL 47 l) k=gR l):=sO l (by rw[HRq.out];exact Nat.le_refl _)
   have hHP:Hid (cS l=(jC (bU (aL 47 l) k),(k:Int),cV (bU (aL 47 l) k))):=by show _=_;unfold cS;rw[hWW.out,HRq.out];rfl
   clear HBD
   generalize hwd:jC (bU (aL 47 l) k)=wd at*
   generalize hxs:cV (bU (aL 47 l) k)=xs at*
   clear hwd hxs
   have hzr:w1.heap.size<wr.heap.size:=HB.out.lt
   obtain⟨b0,b1,b2⟩:=(HB.out).tri
   have HV:=xQ (fun w' (hx:Ext wr w')=>eY wd k p n cap xs w' ((Sl.own HO.out).ext hx))
   cases hok:aR wd k xs with
   |false=>
    have hno:Hid (cF l=none):=by show _=_;rw[gO,hHP.out];simp[hok]
    rw[hok]at HV
    clear hok
    go_wp2_with fail
    refine(HV.out _ xE).mono ?_
    rintro e w2 ⟨rfl,h2⟩
    clear b0 b1 b2
    have XF:=xQ (show Ext w1 w2 from xE)
    clear h2
    obtain⟨z0,zf0,z1,zf1,z2,zf2⟩:=((HZ1.out.ext XF.out)).trif
    have hxw:Ext w w2:=HX1.out.trans XF.out
    have hzz:w.heap.size<w2.heap.size:=(HZ1.out.ext XF.out).lt
    go_wp2
    exact bodyPost_ret (v:= .tuple #[aJ 0 0 none 0 0,.bool false]) (by simp[results,Tryz.results82,go_sem, *]) rfl (gG hno.out xE)
   |true=>
    rw[hok]at HV
    go_wp2_with fail
    refine(HV.out _ xE).mono ?_
    rintro e w2 ⟨rfl,h2⟩
    clear b0 b1 b2
    have h2':Ext wr w2:=xE
    have B2:=xQ (HB.out.ext h2')
    have O2:=xQ (aO HO.out h2')
    have X2:=xQ (show Ext w1 w2 from xE)
    have hz2:w1.heap.size<w2.heap.size:=B2.out.lt
    clear h2 h2'
    have HT:=xQ (fun w' (hx:Ext w2 w')=>qH wd k p n cap xs w' ((Sl.own O2.out).ext hx))
    obtain⟨b0,b1,b2⟩:=(B2.out).tri
    go_wp2_with fail
    refine(HT.out _ xE).mono ?_
    rintro e w3 ⟨rfl,h3⟩
    clear b0 b1 b2
    have h3':Ext w2 w3:=xE
    have B3:=xQ (B2.out.ext h3')
    have O3:=xQ (aO O2.out h3')
    have X3:=xQ (show Ext w1 w3 by have:=X2.out;exact xE)
    clear h3 h3'
    by_cases ht:bO wd k xs=l
    ·have hd2:(bO wd k xs==l)=true:=by simp[ht]
     have hyes:Hid (cF l=some (wd,(k:Int),xs)):=by show _=_;rw[gO,hHP.out];simp[hok,ht]
     clear ht hok
     obtain⟨b0,b1,b2⟩:=(B3.out).tri
     obtain⟨z0,zf0,z1,zf1,z2,zf2⟩:=((HZ1.out.ext X3.out)).trif
     have hzz:w.heap.size<w3.heap.size:=(HZ1.out.ext X3.out).lt
     have hne: ¬w.heap.size=w1.heap.size:=by omega
     go_wp2
     generalize hw5:World.setCell _ _ _=w5
     have hR5:ExtR w.heap.size w3 w5:=by rw[←hw5];exact(((ExtR.refl _ w3).setCell (p:=⟨w.heap.size,0,none⟩) (.inl rfl) _).setCell (p:=⟨w.heap.size,1,none⟩) (.inl rfl) _).setCell (p:=⟨w.heap.size,2,none⟩) (.inl rfl) _
     have Y5:=(((HZ1.out.ext X3.out).set 0 (.int .i64 wd)).set 1 (.int .i64 k)).set 2 (.slice p n cap)
     simp only[Z3,List.setIfInBounds_toArray,List.set_cons_zero,List.set_cons_succ]at Y5
     rw[hw5]at Y5
     have O5:w5.ownsRow w.heap.size TI 1 (.slice p n cap) n (ivs xs):=aZ (O3.out.kept hR5 (.inr (fL O3.out (HZ1.out.ext X3.out) (by decide)))) (by omega)
     have X5:Ext w w5:=ExtR.new (HX1.out.trans X3.out) hR5 (Nat.le_refl _)
     clear hw5 z0 z1 z2 zf0 zf1 zf2 b0 b1 b2
     obtain⟨y0,y1,y2⟩:=(Y5).tri
     exact bodyPost_ret (v:= .tuple #[aJ wd k p n cap,.bool true]) (by simp[results,Tryz.results82,go_sem, *]) rfl (qM hyes.out HN.out O5 X5)
    ·have hd2:(bO wd k xs==l)=false:=by simp[ht]
     have hno:Hid (cF l=none):=by show _=_;rw[gO,hHP.out];simp[ht]
     clear ht hok
     obtain⟨z0,zf0,z1,zf1,z2,zf2⟩:=((HZ1.out.ext X3.out)).trif
     have hxw:Ext w w3:=HX1.out.trans X3.out
     have hzz:w.heap.size<w3.heap.size:=(HZ1.out.ext X3.out).lt
     go_wp2
     exact bodyPost_ret (v:= .tuple #[aJ 0 0 none 0 0,.bool false]) (by simp[results,Tryz.results82,go_sem, *]) rfl (gG hno.out xE)
abbrev iH:TypeId:=30
abbrev pG:TypeId:=38
theorem aKh:ElT Tryz.prog 28 pG 4:=
 ⟨Tryz.underlying28,by
  obtain⟨i,hi,h0,h1,h2⟩:=info_parts (show(Tryz.prog.info? pG).map (fun i=>(i.zero,i.size,i.bytes))=some (some (.agg #[.int .i64 0,.int .i64 0,.int .i64 0,.int .i64 0]),4,32) by kernel_rfl)
  exact⟨i,_,hi,h0,h1,by omega,rfl⟩,by omega⟩
theorem Sl.blkS {w:World}{g:Nat}{t:TypeId}{cs:Array Value}(hb:Blk w g t cs):Sl w (some ⟨g,0,none⟩) 1 1 cs.size cs.toList:=by
 refine⟨by simp,Nat.le_refl _,by unfold maxLen;omega,fun _=>⟨g,0,rfl,hb.lt,?_⟩⟩
 intro j hj
 rw[Nat.zero_add,hb.cell]
 simp
theorem aF1 (v:bC): ∀u∈aE v,u.oneCell'=true:=by
 intro u hu
 simp only[aE,List.mem_cons,List.not_mem_nil,or_false]at hu
 rcases hu with rfl|rfl|rfl|rfl<;>rfl
def tL (r:aV)(b:Bool)(w:World)(e:Ending)(w':World):Prop:=
 ∃p c q d,e= .returned (.tuple #[cH r p r.cells.length c q r.vs.length d,.bool b])∧w'.ownsRow w.heap.size TI 1 (.slice p r.cells.length c) r.cells.length (ivs r.cells)∧
  w'.ownsRow w.heap.size pG 4 (.slice q r.vs.length d) r.vs.length (r.vs.flatMap aE)∧Ext w w'
theorem eJ {o:Option aV}{w w':World}(h:o=none)(hx:Ext w w'):tL (o.getD bT) o.isSome w (.returned (.tuple #[.agg #[.int .i64 0,.int .i64 0,.slice none 0 0,.int .i64 0,.int .i64 0,.int .i64 0,.int .i64 0,.int .i64 0,.int .i64 0,.slice none 0 0],.bool false])) w':=by
 subst h;exact⟨none,0,none,0,rfl,World.ownsRow_nil _ _ _ _,World.ownsRow_nil _ _ _ _,hx⟩
theorem vA {o:Option aV}{W D f s pr cp ck bk:Int}{xs:List Int}{vs:List bC}{w w':World}{p q:Option Addr}{n c m d:Nat}(h:o=some ⟨W,D,xs,f,s,pr,cp,ck,bk,vs⟩)(hn:n=xs.length)(hm:m=vs.length)
  (ho:w'.ownsRow w.heap.size TI 1 (.slice p n c) n (ivs xs))(hv:w'.ownsRow w.heap.size pG 4 (.slice q m d) m (vs.flatMap aE))(hx:Ext w w'):
  tL (o.getD bT) o.isSome w (.returned (.tuple #[.agg #[.int .i64 W,.int .i64 D,.slice p n c,.int .i64 f,.int .i64 s,.int .i64 pr,.int .i64 cp,.int .i64 ck,.int .i64 bk,.slice q m d],.bool true])) w':=by
 subst h;subst hn;subst hm;exact⟨p,c,q,d,rfl,ho,hv,hx⟩
theorem mB {l:List UInt8}(h:dD (aL 59 l)=false):aW l=none:=by
 unfold aW;rw[if_neg];rintro⟨a,_⟩;rw[h]at a;simp at a
def cZ (ps:List (List UInt8))(k:Nat):List bC:=((ps.drop 4).take k).map (fun p=>oJ (jB p))
theorem pH {ps:List (List UInt8)}{k:Nat}{q:List UInt8}(h:ps[4+k]? =some q):cZ ps (k+1)=cZ ps k++ [oJ (jB q)]:=by
 unfold cZ;rw[bF (x:=q) (by rw[List.getElem?_drop];exact h),List.map_append];rfl
theorem qC {ps:List (List UInt8)}{k N:Nat}(h:ps.length=N+4)(hk:k≤N):(cZ ps k).length=k:=by
 simp only[cZ,List.length_map,List.length_take,List.length_drop];omega
theorem zN {ps:List (List UInt8)}{N:Nat}(h:ps.length=N+4):cZ ps N=(ps.drop 4).map (fun p=>oJ (jB p)):=by
 unfold cZ;rw[List.take_of_length_le (by rw[List.length_drop];omega)]
theorem aC4 {p:List UInt8}{xs:List Int}(h:bI 1 p=some xs):xs= [eF p]:=by
 unfold bI at h
 split at h
 ·rename_i hc
  cases h
  have h1:aL 44 p= [p]:=by
   obtain⟨a,ha⟩:=List.length_eq_one_iff.1 hc.1
   have hj:(44:UInt8)∉p:=by
    intro hm
    obtain⟨x,y,rfl,hx⟩:=zE 44 p hm
    rw[lJ 44 x y hx]at ha
    simp only[List.cons.injEq]at ha
    exact absurd ha.2 (eH 44 y)
   exact mI 44 p hj
  rw[h1]
  have h2:=List.all_eq_true.1 hc.2 p (by rw[h1];simp)
  cases hr:bQ 5 p with
  |none=>rw[hr]at h2;simp at h2
  |some x=>simp[eF,hr]
 ·simp at h
theorem oS {xs:List Int}(h:xs.length=4): ∃a b c d,xs= [a,b,c,d]:=by
 match xs,h with
 | [a,b,c,d],_=>exact⟨a,b,c,d,rfl⟩
theorem aC7 {m:Nat}{p:List UInt8}{xs:List Int}(h:bI m p=some xs):xs.length=m:=by
 have:=kP h
 rw[←this.1];simp[jB,this.2]
theorem bY {w:World}{base n:Nat}{g cap:Nat}{xs:List Int}(h:w.ownsRow base TI 1 (.slice (some ⟨g,0,none⟩) n cap) n (ivs xs))(k:Nat)(hk:k<n)(x:Int)(hx:xs[k]? =some x):w.cell? ⟨g,k,none⟩=some (.int .i64 x):=by
 rw[h.cellAt k (by omega)];simp[ivs,iv,hx]
theorem aIs {ps:List (List UInt8)}(h4:4≤ps.length){o0:zJ}{t:List Int}{x y:List Int}(h0:cF (eO ps 0)=some o0)(h1:bI 4 (eO ps 1)=some t)(h2:bI 1 (eO ps 2)=some x)(h3:bI 1 (eO ps 3)=some y):
  dD ps=(ps.drop 4).all (fun p=>(bI 4 p).isSome):=by
 simp[dD,h4,h0,h1,h2,h3]
theorem qX {ps:List (List UInt8)}(h:(cF (eO ps 0)).isSome=false∨(bI 4 (eO ps 1)).isSome=false∨(bI 1 (eO ps 2)).isSome=false∨(bI 1 (eO ps 3)).isSome=false):dD ps=false:=by
 unfold dD
 rcases h with h|h|h|h<;>simp[h]
theorem aGn {ps:List (List UInt8)}{k:Nat}{q:List UInt8}(hk:ps[4+k]? =some q) (h:bI 4 q=none):dD ps=false:=by
 unfold dD
 rw[Bool.and_eq_false_iff];right
 rw[List.all_eq_false]
 refine⟨q,?_,by simp[h]⟩
 rw[List.mem_iff_getElem?]
 exact⟨k,by rw[List.getElem?_drop];exact hk⟩
theorem vL {ps:List (List UInt8)}{N:Nat}(hl:ps.length=N+4){W D:Int}{xs:List Int}(h0:(cF (eO ps 0)).getD (0,0,[])=(W,D,xs)){t:List Int}(ht:jB (eO ps 1)=t):
  cI ps=⟨W,D,xs,at4 t 0,at4 t 1,at4 t 2,at4 t 3,eF (eO ps 2),eF (eO ps 3),cZ ps N⟩:=by
 unfold cI;rw[h0,ht,zN hl]
theorem vF {l:List UInt8}(h:dD (aL 59 l)=true):aW l=if bN (cI (aL 59 l))=true∧aU (cI (aL 59 l))=l then some (cI (aL 59 l))else none:=by
 unfold aW;simp[h]
theorem vE {l:List UInt8}(h4:4≤(aL 59 l).length)(h:eE (aL 59 l)=true):aW l=if aU (cI (aL 59 l))=l then some (cI (aL 59 l))else none:=by
 rw[sU]
 by_cases ht:aU (cI (aL 59 l))=l
 ·have hok:bN (cI (aL 59 l))=true:=by
   cases hq:bN (cI (aL 59 l))with
   |true=>rfl
   |false=>
    have e:l= []:=by rw[←ht];unfold aU;rw[if_neg (by simp[hq])]
    rw[e]at h4;simp[aL]at h4
  rw[if_pos ⟨h,hok,ht⟩,if_pos ht]
 ·rw[if_neg (fun hc=>ht hc.2.2),if_neg ht]
theorem oX {l:List UInt8}(h:eE (aL 59 l)=false):aW l=none:=by
 rw[sU,if_neg];rintro⟨a,_⟩;rw[h]at a;simp at a
theorem yX {ps:List (List UInt8)}(h:(cF (eO ps 0)).isSome=false∨ ¬(aL 44 (eO ps 1)).length=4):eE ps=false:=by
 unfold eE
 rcases h with h|h<;>simp[h]
theorem aEs {ps:List (List UInt8)}{k:Nat}{q:List UInt8}(hk:ps[4+k]? =some q) (h: ¬(aL 44 q).length=4):eE ps=false:=by
 unfold eE
 rw[Bool.and_eq_false_iff];right
 rw[List.all_eq_false]
 refine⟨q,?_,by simp[h]⟩
 rw[List.mem_iff_getElem?]
 exact⟨k,by rw[List.getElem?_drop];exact hk⟩
theorem iU {ps:List (List UInt8)}{k:Nat}{q:List UInt8}(h:ps[k]? =some q):eO ps k=q:=by simp[eO,h]
open Go
theorem Blk.putx {w w5 w9:World}{t:TypeId}{a0 a1 a2 a3 a4 a5 a6 a7 a8 a9 b0 b1 b2 b3 b4 b5 b6 b7 b8 b9:Value}(H:Blk w5 w.heap.size t #[a0,a1,a2,a3,a4,a5,a6,a7,a8,a9])(X:Ext w w5)(h9:((((((((((w5.setCell ⟨w.heap.size,0,none⟩ b0).setCell ⟨w.heap.size,1,none⟩ b1).setCell ⟨w.heap.size,2,none⟩ b2).setCell ⟨w.heap.size,3,none⟩ b3).setCell ⟨w.heap.size,4,none⟩ b4).setCell ⟨w.heap.size,5,none⟩ b5).setCell ⟨w.heap.size,6,none⟩ b6).setCell ⟨w.heap.size,7,none⟩ b7).setCell ⟨w.heap.size,8,none⟩ b8).setCell ⟨w.heap.size,9,none⟩ b9)=w9):Blk w9 w.heap.size t #[b0,b1,b2,b3,b4,b5,b6,b7,b8,b9]∧ExtR w.heap.size w5 w9∧Ext w w9:=by
 subst h9
 have hR:=(((((((((((ExtR.refl _ w5).setCell (p:=⟨w.heap.size,0,none⟩) (.inl rfl) b0).setCell (p:=⟨w.heap.size,1,none⟩) (.inl rfl) b1).setCell (p:=⟨w.heap.size,2,none⟩) (.inl rfl) b2).setCell (p:=⟨w.heap.size,3,none⟩) (.inl rfl) b3).setCell (p:=⟨w.heap.size,4,none⟩) (.inl rfl) b4).setCell (p:=⟨w.heap.size,5,none⟩) (.inl rfl) b5).setCell (p:=⟨w.heap.size,6,none⟩) (.inl rfl) b6).setCell (p:=⟨w.heap.size,7,none⟩) (.inl rfl) b7).setCell (p:=⟨w.heap.size,8,none⟩) (.inl rfl) b8).setCell (p:=⟨w.heap.size,9,none⟩) (.inl rfl) b9)
 have Y:=((((((((((H.set 0 b0).set 1 b1).set 2 b2).set 3 b3).set 4 b4).set 5 b5).set 6 b6).set 7 b7).set 8 b8).set 9 b9)
 simp only[List.setIfInBounds_toArray,List.set_cons_zero,List.set_cons_succ]at Y
 exact⟨Y,hR,ExtR.new X hR (Nat.le_refl _)⟩
end Go.Proofs.YteejdnmmpmcmeaaGreatDoor
