/-
  Texts of this proof, packed (@packed).
-/
import Derived.Test.YteejdnmmpmcmeaaGreatDoorP5
import Derived.Test.YteejdnmmpmcmeaaGreatDoorP31
import Derived.Test.YteejdnmmpmcmeaaGreatDoorP36
import Derived.Test.YteejdnmmpmcmeaaGreatDoorP37
import Derived.Test.YteejdnmmpmcmeaaGreatDoorP38
namespace Go.Proofs.YteejdnmmpmcmeaaGreatDoor
open Go.RowKit
set_option linter.unusedVariables false
set_option linter.unusedSimpArgs false
def aB1 (r:aV)(n:Int)(b:Bool)(w:World)(e:Ending)(w':World):Prop:=
 ∃p c q d,e= .returned (.tuple #[cH r p r.cells.length c q r.vs.length d,.int .i64 n,.bool b])∧w'.ownsRow w.heap.size TI 1 (.slice p r.cells.length c) r.cells.length (ivs r.cells)∧
  w'.ownsRow w.heap.size pG 4 (.slice q r.vs.length d) r.vs.length (r.vs.flatMap aE)∧Ext w w'
def kJ (o:Option (aV×Int))(w:World)(e:Ending)(w':World):Prop:=aB1 ((o.map (·.1)).getD bT) ((o.map (·.2)).getD 0) o.isSome w e w'
theorem gE {o:Option (aV×Int)}{w w':World}(h:o=none)(hx:Ext w w'):kJ o w (.returned (.tuple #[.agg #[.int .i64 0,.int .i64 0,.slice none 0 0,.int .i64 0,.int .i64 0,.int .i64 0,.int .i64 0,.int .i64 0,.int .i64 0,.slice none 0 0],.int .i64 0,.bool false])) w':=by
 subst h;exact⟨none,0,none,0,rfl,World.ownsRow_nil _ _ _ _,World.ownsRow_nil _ _ _ _,hx⟩
theorem qL {o:Option (aV×Int)}{W D f s pr cp ck bk x:Int}{xs:List Int}{vs:List bC}{w w':World}{p q:Option Addr}{c d:Nat}(h:o=some (⟨W,D,xs,f,s,pr,cp,ck,bk,vs⟩,x))
  (ho:w'.ownsRow w.heap.size TI 1 (.slice p xs.length c) xs.length (ivs xs))(hv:w'.ownsRow w.heap.size pG 4 (.slice q vs.length d) vs.length (vs.flatMap aE))(hx:Ext w w'):
  kJ o w (.returned (.tuple #[.agg #[.int .i64 W,.int .i64 D,.slice p xs.length c,.int .i64 f,.int .i64 s,.int .i64 pr,.int .i64 cp,.int .i64 ck,.int .i64 bk,.slice q vs.length d],.int .i64 x,.bool true])) w':=by
 subst h;exact⟨p,c,q,d,rfl,ho,hv,hx⟩
theorem oC (c:UInt8): ∀l:List UInt8,(fE c l).length≤l.length∧(iG c l).length≤l.length:=by
 intro l
 induction l with
 |nil=>simp[fE,iG]
 |cons x xs ih=>
  simp only[fE,iG]
  split<;>simp<;>omega
set_option maxRecDepth 100000 in
set_option maxHeartbeats 8000000 in
theorem kG (l:List UInt8)(w:World)(hs:l.length≤1048576)(hE:Env w):Calls Tryz.prog 44 #[str l] w (kJ (bZ l) w):=by
 have HC:Hid (∀(q:List UInt8) (c:UInt8),q.length≤1048576→ ∀w,Env w→Calls Tryz.prog 96 #[str q,.string ⟨#[c]⟩] w fun e w'=>e= .returned (.tuple #[str (fE c q),str (iG c q),.bool (Lib.cut q [c]).2.2])∧Ext w w'):=fun q c hq w hE=>aJ3 q c w (by omega) hE
 obtain⟨fs,hfs⟩: ∃x,fE 124 l=x:=⟨_,rfl⟩
 obtain⟨rs,hrs⟩: ∃x,iG 124 l=x:=⟨_,rfl⟩
 have hfl:fs.length≤1048576:=by rw[←hfs];exact Nat.le_trans (oC 124 l).1 hs
 have hrl:rs.length≤1048576:=by rw[←hrs];exact Nat.le_trans (oC 124 l).2 hs
 have HC1:=xQ (HC.out l 124 hs)
 rw[hfs,hrs]at HC1
 obtain⟨hh,hhh⟩: ∃x,fE 35 rs=x:=⟨_,rfl⟩
 have hhl:hh.length≤1048576:=by rw[←hhh];exact Nat.le_trans (oC 35 rs).1 hrl
 have HC2:=xQ (HC.out rs 35 hrl)
 rw[hhh]at HC2
 generalize (Lib.cut l [124]).2.2=k1 at HC1
 generalize (Lib.cut rs [35]).2.2=k2 at HC2
 generalize iG 35 rs=rr at HC2
 have HRV:Hid (bZ l=match bQ 2 fs,aW hh with|some n,some h=>if bK h n=l then some (h,n)else none|_,_=>none):=by show _=_;unfold bZ;rw[hfs,hrs,hhh];rfl
 obtain⟨x,hx⟩: ∃x,(bQ 2 fs).getD 0=x:=⟨_,rfl⟩
 obtain⟨b2,hb2⟩: ∃x,(bQ 2 fs).isSome=x:=⟨_,rfl⟩
 have HX0:=xQ hx
 have HB2:=xQ hb2
 have HRN:Hid (∀w,Calls Tryz.prog 97 #[str fs,.int .i64 2] w fun e w'=>e= .returned (.tuple #[.int .i64 x,.bool b2])∧w=w'):=by
  intro w
  subst hx;subst hb2
  exact nS fs 2 (by omega) (by unfold maxLen;omega) w
 have HE:=xQ hE
 obtain⟨⟨W,D,xs,f,s,pr,cp,ck,bk,vs⟩,hH⟩: ∃H:aV,(aW hh).getD bT=H:=⟨_,rfl⟩
 obtain⟨b,hb⟩: ∃b:Bool,(aW hh).isSome=b:=⟨_,rfl⟩
 have HB:=xQ hb
 have HH:=xQ hH
 have HRH:Hid (∀w,Env w→Calls Tryz.prog 39 #[str hh] w fun e w'=> ∃p c q d,e= .returned (.tuple #[.agg #[.int .i64 W,.int .i64 D,.slice p xs.length c,.int .i64 f,.int .i64 s,.int .i64 pr,.int .i64 cp,.int .i64 ck,.int .i64 bk,.slice q vs.length d],.bool b])∧w'.ownsRow w.heap.size TI 1 (.slice p xs.length c) xs.length (ivs xs)∧w'.ownsRow w.heap.size pG 4 (.slice q vs.length d) vs.length (vs.flatMap aE)∧Ext w w'):=by
  intro w hE
  have h:=jM hh w hhl hE
  rw[hH,hb]at h
  exact h
 clear HC hfs hrs hhh hx hb2 hE hb hH
 go_enter Tryz.func44,Tryz.ntmps44
 go_wp2_with fail
 refine(HC1.out _ (HE.out.ext (((Mem.start w).blkNew iH #[.int .i64 0,.int .i64 0,.slice none 0 0,.int .i64 0,.int .i64 0,.int .i64 0,.int .i64 0,.int .i64 0,.int .i64 0,.slice none 0 0] (w.heap.size) (by simp))).ext)).mono ?_
 rintro e w1 ⟨rfl,hx1⟩
 have M1:=xQ ((((Mem.start w).blkNew iH #[.int .i64 0,.int .i64 0,.slice none 0 0,.int .i64 0,.int .i64 0,.int .i64 0,.int .i64 0,.int .i64 0,.int .i64 0,.slice none 0 0] (w.heap.size) (by simp))).adv hx1)
 have lt1_0:=M1.out.hi 0
 clear hx1
 go_wp2_with fail
 refine(HC2.out _ (HE.out.ext (M1.out).ext)).mono ?_
 rintro e w2 ⟨rfl,hx2⟩
 have M2:=xQ ((M1.out).adv hx2)
 clear M1
 clear lt1_0
 have lt2_0:=M2.out.hi 0
 clear hx2
 go_wp2_with fail
 refine(HRN.out _).mono ?_
 rintro e w2' ⟨rfl,rfl⟩
 cases b2 with
 |false=>
  have hno:Hid (bZ l=none):=by
   show _=_
   rw[HRV.out]
   have:=HB2.out
   cases hq:bQ 2 fs with
   |none=>rfl
   |some z=>rw[hq]at this;simp at this
  obtain⟨z0,zf0,z1,zf1,z2,zf2,z3,zf3,z4,zf4,z5,zf5,z6,zf6,z7,zf7,z8,zf8,z9,zf9⟩:=(M2.out.blk (i:=0) rfl).tenf
  go_wp2
  clear z0 zf0 z1 zf1 z2 zf2 z3 zf3 z4 zf4 z5 zf5 z6 zf6 z7 zf7 z8 zf8 z9 zf9 lt2_0
  have M3:=xQ (((M2.out).put10 (i:=0) rfl (.int .i64 0) (.int .i64 0) (.slice none 0 0) (.int .i64 0) (.int .i64 0) (.int .i64 0) (.int .i64 0) (.int .i64 0) (.int .i64 0) (.slice none 0 0)))
  generalize hwz:World.setCell _ _ _=wz
  rw[hwz]at M3
  clear hwz M2
  obtain⟨y0,y1,y2,y3,y4,y5,y6,y7,y8,y9⟩:=(M3.out.blk (i:=0) rfl).ten
  exact bodyPost_ret (v:= .tuple #[.agg #[.int .i64 0,.int .i64 0,.slice none 0 0,.int .i64 0,.int .i64 0,.int .i64 0,.int .i64 0,.int .i64 0,.int .i64 0,.slice none 0 0],.int .i64 0,.bool false]) (by simp[results,Tryz.results44,go_sem, *]) rfl (gE hno.out M3.out.ext)
 |true=>
  have hn:Hid (bQ 2 fs=some x):=by
   show _=_
   have h1:=HB2.out;have h2:=HX0.out
   cases hq:bQ 2 fs with
   |none=>rw[hq]at h1;simp at h1
   |some z=>rw[hq]at h2;simpa using h2
  go_wp2_with fail
  refine(HRH.out _ (HE.out.ext (M2.out).ext)).mono ?_
  rintro e w3 ⟨p,c,q,d,rfl,oc,os,hx3⟩
  have M3:=xQ ((M2.out).own2s hx3 oc os (Nat.le_refl _) (by decide))
  clear M2
  clear lt2_0
  have lt3_2:=M3.out.hi 2
  clear hx3 oc os
  go_upto_region 7 with fail
  have M4:=xQ (((M3.out).blkNew iH #[.int .i64 W,.int .i64 D,.slice p xs.length c,.int .i64 f,.int .i64 s,.int .i64 pr,.int .i64 cp,.int .i64 ck,.int .i64 bk,.slice q vs.length d] (w3.heap.size) (by simp)))
  generalize (w3.alloc (.cells #[.int .i64 W,.int .i64 D,.slice p xs.length c,.int .i64 f,.int .i64 s,.int .i64 pr,.int .i64 cp,.int .i64 ck,.int .i64 bk,.slice q vs.length d] iH))=w5 at M4⊢
  clear M3
  clear lt3_2
  have lt4_0:=M4.out.hi 0
  have lt4_3:=M4.out.hi 3
  cases b with
  |false=>
   have hno:Hid (bZ l=none):=by
    show _=_
    rw[HRV.out,hn.out]
    have:=HB.out
    cases hq:aW hh with
    |none=>rfl
    |some z=>rw[hq]at this;simp at this
   obtain⟨z0,zf0,z1,zf1,z2,zf2,z3,zf3,z4,zf4,z5,zf5,z6,zf6,z7,zf7,z8,zf8,z9,zf9⟩:=(M4.out.blk (i:=3) rfl).tenf
   go_wp2
   clear z0 zf0 z1 zf1 z2 zf2 z3 zf3 z4 zf4 z5 zf5 z6 zf6 z7 zf7 z8 zf8 z9 zf9 lt4_0 lt4_3
   have M5:=xQ (((M4.out).put10 (i:=3) rfl (.int .i64 0) (.int .i64 0) (.slice none 0 0) (.int .i64 0) (.int .i64 0) (.int .i64 0) (.int .i64 0) (.int .i64 0) (.int .i64 0) (.slice none 0 0)))
   generalize hwz:World.setCell _ _ _=wz
   rw[hwz]at M5
   clear hwz M4
   obtain⟨y0,y1,y2,y3,y4,y5,y6,y7,y8,y9⟩:=(M5.out.blk (i:=3) rfl).ten
   exact bodyPost_ret (v:= .tuple #[.agg #[.int .i64 0,.int .i64 0,.slice none 0 0,.int .i64 0,.int .i64 0,.int .i64 0,.int .i64 0,.int .i64 0,.int .i64 0,.slice none 0 0],.int .i64 0,.bool false]) (by simp[results,Tryz.results44,go_sem, *]) rfl (gE hno.out M5.out.ext)
  |true=>
   have hsome:Hid (aW hh=some ⟨W,D,xs,f,s,pr,cp,ck,bk,vs⟩):=by
    show _=_
    have h1:=HB.out;have h2:=HH.out
    cases hq:aW hh with
    |none=>rw[hq]at h1;simp at h1
    |some z=>rw[hq]at h2;simpa using h2
   have HI:Hid (IsHouse w5 ⟨W,D,xs,f,s,pr,cp,ck,bk,vs⟩ p xs.length c q vs.length d):=⟨M4.out.sl (i:=1) rfl,M4.out.sl (i:=2) rfl⟩
   have HT:Hid (∀(w':World),Ext w5 w'→Env w'→Calls Tryz.prog 50 #[.agg #[.int .i64 W,.int .i64 D,.slice p xs.length c,.int .i64 f,.int .i64 s,.int .i64 pr,.int .i64 cp,.int .i64 ck,.int .i64 bk,.slice q vs.length d],.int .i64 x] w' fun e w''=>e= .returned (str (bK ⟨W,D,xs,f,s,pr,cp,ck,bk,vs⟩ x))∧Ext w' w''):=fun w' hx hE=>mX ⟨W,D,xs,f,s,pr,cp,ck,bk,vs⟩ x p xs.length c q vs.length d w' hE (HI.out.ext hx)
   generalize hht:bK ⟨W,D,xs,f,s,pr,cp,ck,bk,vs⟩ x=t at*
   have HTT:=xQ hht
   clear hht HI
   obtain⟨ce0,ce1,ce2,ce3,ce4,ce5,ce6,ce7,ce8,ce9⟩:=(M4.out.blk (i:=0) rfl).ten
   go_wp2_with fail
   clear ce0 ce1 ce2 ce3 ce4 ce5 ce6 ce7 ce8 ce9
   refine(HT.out _ (Ext.refl _) (HE.out.ext (M4.out).ext)).mono ?_
   rintro e w4 ⟨rfl,hx4⟩
   have M5:=xQ ((M4.out).adv hx4)
   clear M4
   clear lt4_0 lt4_3
   have lt5_0:=M5.out.hi 0
   have lt5_3:=M5.out.hi 3
   clear hx4
   by_cases ht:t=l
   ·skip
    have hd2:(t==l)=true:=by simp[ht]
    have hyes:Hid (bZ l=some (⟨W,D,xs,f,s,pr,cp,ck,bk,vs⟩,x)):=by show _=_;rw[HRV.out,hn.out,hsome.out];simp[HTT.out,ht]
    clear ht
    obtain⟨z0,zf0,z1,zf1,z2,zf2,z3,zf3,z4,zf4,z5,zf5,z6,zf6,z7,zf7,z8,zf8,z9,zf9⟩:=(M5.out.blk (i:=3) rfl).tenf
    obtain⟨b0,b1,b2,b3,b4,b5,b6,b7,b8,b9⟩:=(M5.out.blk (i:=0) rfl).ten
    have ne0_1a: ¬(w3.heap.size=w.heap.size):=M5.out.ne (i:=0) (j:=3) (by omega) rfl rfl rfl rfl
    have ne0_1b: ¬(w.heap.size=w3.heap.size):=fun h=>ne0_1a h.symm
    go_wp2
    clear z0 zf0 z1 zf1 z2 zf2 z3 zf3 z4 zf4 z5 zf5 z6 zf6 z7 zf7 z8 zf8 z9 zf9 b0 b1 b2 b3 b4 b5 b6 b7 b8 b9 ne0_1a ne0_1b lt5_0 lt5_3
    have M6:=xQ (((M5.out).put10 (i:=3) rfl (.int .i64 W) (.int .i64 D) (.slice p xs.length c) (.int .i64 f) (.int .i64 s) (.int .i64 pr) (.int .i64 cp) (.int .i64 ck) (.int .i64 bk) (.slice q vs.length d)))
    generalize hwz:World.setCell _ _ _=wz
    rw[hwz]at M6
    clear hwz M5
    obtain⟨y0,y1,y2,y3,y4,y5,y6,y7,y8,y9⟩:=(M6.out.blk (i:=3) rfl).ten
    exact bodyPost_ret (v:= .tuple #[.agg #[.int .i64 W,.int .i64 D,.slice p xs.length c,.int .i64 f,.int .i64 s,.int .i64 pr,.int .i64 cp,.int .i64 ck,.int .i64 bk,.slice q vs.length d],.int .i64 x,.bool true]) (by simp[results,Tryz.results44,go_sem, *]) rfl (qL hyes.out (M6.out.own (i:=1) rfl) (M6.out.own (i:=2) rfl) M6.out.ext)
   ·skip
    have hd2:(t==l)=false:=by simp[ht]
    have hno:Hid (bZ l=none):=by show _=_;rw[HRV.out,hn.out,hsome.out];simp[HTT.out,ht]
    clear ht
    obtain⟨z0,zf0,z1,zf1,z2,zf2,z3,zf3,z4,zf4,z5,zf5,z6,zf6,z7,zf7,z8,zf8,z9,zf9⟩:=(M5.out.blk (i:=3) rfl).tenf
    go_wp2
    clear z0 zf0 z1 zf1 z2 zf2 z3 zf3 z4 zf4 z5 zf5 z6 zf6 z7 zf7 z8 zf8 z9 zf9 lt5_0 lt5_3
    have M6:=xQ (((M5.out).put10 (i:=3) rfl (.int .i64 0) (.int .i64 0) (.slice none 0 0) (.int .i64 0) (.int .i64 0) (.int .i64 0) (.int .i64 0) (.int .i64 0) (.int .i64 0) (.slice none 0 0)))
    generalize hwz:World.setCell _ _ _=wz
    rw[hwz]at M6
    clear hwz M5
    obtain⟨y0,y1,y2,y3,y4,y5,y6,y7,y8,y9⟩:=(M6.out.blk (i:=3) rfl).ten
    exact bodyPost_ret (v:= .tuple #[.agg #[.int .i64 0,.int .i64 0,.slice none 0 0,.int .i64 0,.int .i64 0,.int .i64 0,.int .i64 0,.int .i64 0,.int .i64 0,.slice none 0 0],.int .i64 0,.bool false]) (by simp[results,Tryz.results44,go_sem, *]) rfl (gE hno.out M6.out.ext)
set_option maxRecDepth 100000 in
set_option maxHeartbeats 8000000 in
theorem zS (l:List UInt8)(w:World)(hs:l.length≤1048576):Calls Tryz.prog 43 #[str l] w (kJ (bZ l) w):=by
 have HS:Hid (∀q:List UInt8,q.length≤1048576→ ∀(c:UInt8) (ci:Int),ci=(c.toNat:Int)→ ∀w,Calls Tryz.prog 81 #[str q,.int .u8 ci] w fun e w'=> ∃v,e= .returned v∧w'.ownsRow w.heap.size nD 1 v (aL c q).length (iQ (aL c q))∧Ext w w'):=
  fun q hq c ci hc w=>oT ⟨q.toArray⟩ c ci hc w (by simp only[ByteArray.size,List.size_toArray];omega)
 have hpos:0<(aL 35 l).length:=List.length_pos_iff.2 (eH 35 l)
 obtain⟨u,hu⟩: ∃q,(aL 35 l)[0]? =some q:=⟨_,List.getElem?_eq_getElem hpos⟩
 have hul:u.length≤1048576:=Nat.le_trans ((dZ 35 l).1 u (List.mem_of_getElem? hu)) hs
 have hpu:eO (aL 35 l) 0=u:=iU hu
 have hpos2:0<(aL 124 u).length:=List.length_pos_iff.2 (eH 124 u)
 obtain⟨fs,hfs⟩: ∃q,(aL 124 u)[0]? =some q:=⟨_,List.getElem?_eq_getElem hpos2⟩
 have hfl:fs.length≤1048576:=Nat.le_trans ((dZ 124 u).1 fs (List.mem_of_getElem? hfs)) hul
 have hl1:=(dZ 35 l).2
 have hl2:=(dZ 124 u).2
 have HS1:=xQ (HS.out l hs 35 35 rfl)
 have HS2:=xQ (HS.out u hul 124 124 rfl)
 have HRV:Hid (bZ l=if(aL 35 l).length=2∧(aL 124 u).length=2 then(match aW (eO (aL 124 u) 1)with|some h=>if bK h ((bQ 4 fs).getD (-1))=l then some (h,(bQ 4 fs).getD (-1))else none|none=>none)else none):=by
  show _=_
  rw[aE4]
  unfold kL kS lU
  rw[hpu,iU hfs]
  simp
  rfl
 have HU:=xQ hu
 have HFS:=xQ hfs
 have HRD:Hid (∀w,Calls Tryz.prog 95 #[str fs] w fun e w'=>e= .returned (.int .i64 ((bQ 4 fs).getD (-1)))∧w=w'):=fun w=>lH fs (by unfold maxLen;omega) w
 generalize hx:(bQ 4 fs).getD (-1)=x at*
 have hT0:=hpos
 have hP0:=hpos2
 have HU0:=xQ HU.out
 have HS1':Hid (∀w,Calls Tryz.prog 81 #[str l,.int .u8 35] w fun e w'=> ∃g c,e= .returned (.slice (some ⟨g,0,none⟩) (aL 35 l).length c)∧w'.ownsRow w.heap.size nD 1 (.slice (some ⟨g,0,none⟩) (aL 35 l).length c) (aL 35 l).length (iQ (aL 35 l))∧Ext w w'):=by
  intro w
  refine(HS1.out w).mono ?_
  rintro e w' ⟨v,rfl,ho,hx⟩
  obtain⟨g,c,rfl⟩:=Joins.ownsRow_form ho hpos
  exact⟨g,c,rfl,ho,hx⟩
 have HS2':Hid (∀w,Calls Tryz.prog 81 #[str u,.int .u8 124] w fun e w'=> ∃g c,e= .returned (.slice (some ⟨g,0,none⟩) (aL 124 u).length c)∧w'.ownsRow w.heap.size nD 1 (.slice (some ⟨g,0,none⟩) (aL 124 u).length c) (aL 124 u).length (iQ (aL 124 u))∧Ext w w'):=by
  intro w
  refine(HS2.out w).mono ?_
  rintro e w' ⟨v,rfl,ho,hx⟩
  obtain⟨g,c,rfl⟩:=Joins.ownsRow_form ho hpos2
  exact⟨g,c,rfl,ho,hx⟩
 generalize hT:(aL 35 l).length=T at*
 generalize hP:(aL 124 u).length=P at*
 have HTl:=xQ hT
 have HPl:=xQ hP
 clear HS HS1 HS2 hu hfs hpu hx hT hP HU0
 go_enter Tryz.func43,Tryz.ntmps43
 go_wp2_with fail
 refine(HS1'.out _).mono ?_
 rintro e w1 ⟨g1,c1,rfl,ho1,hx1⟩
 have M1:=xQ ((((Mem.start w).blkNew iH #[.int .i64 0,.int .i64 0,.slice none 0 0,.int .i64 0,.int .i64 0,.int .i64 0,.int .i64 0,.int .i64 0,.int .i64 0,.slice none 0 0] (w.heap.size) (by simp))).call hx1 ho1)
 have lt1_1:=M1.out.hi 1
 clear hx1 ho1
 have hg1:g1<w1.heap.size:=(M1.out.lt (i:=0) rfl rfl).2
 have e0:w1.cell? ⟨g1,0,none⟩=some (str u):=cY (M1.out.own (i:=0) rfl) 0 hT0 _ HU.out
 have i1:(0:Int)<(T:Int):=by omega
 go_wp2_with fail
 clear e0 hg1
 refine(HS2'.out _).mono ?_
 rintro e w2 ⟨g2,c2,rfl,ho2,hx2⟩
 have M2:=xQ ((M1.out).call hx2 ho2)
 clear M1
 clear lt1_1
 have lt2_2:=M2.out.hi 2
 clear hx2 ho2
 by_cases hTT:T=2
 ·by_cases hPP:P=2
  ·skip
   subst hTT;subst hPP
   obtain⟨hh,hhh⟩: ∃q,(aL 124 u)[1]? =some q:=⟨_,List.getElem?_eq_getElem (by rw[HPl.out];omega)⟩
   have hhl:hh.length≤1048576:=Nat.le_trans ((dZ 124 u).1 hh (List.mem_of_getElem? hhh)) hul
   have HHH:=xQ hhh
   rw[iU hhh]at HRV
   obtain⟨⟨W,D,xs,f,s,pr,cp,ck,bk,vs⟩,hH⟩: ∃H:aV,(aW hh).getD bT=H:=⟨_,rfl⟩
   obtain⟨b,hb⟩: ∃b:Bool,(aW hh).isSome=b:=⟨_,rfl⟩
   have HB:=xQ hb
   have HH:=xQ hH
   have HRH:Hid (∀w,Calls Tryz.prog 38 #[str hh] w fun e w'=> ∃p c q d,e= .returned (.tuple #[.agg #[.int .i64 W,.int .i64 D,.slice p xs.length c,.int .i64 f,.int .i64 s,.int .i64 pr,.int .i64 cp,.int .i64 ck,.int .i64 bk,.slice q vs.length d],.bool b])∧w'.ownsRow w.heap.size TI 1 (.slice p xs.length c) xs.length (ivs xs)∧w'.ownsRow w.heap.size pG 4 (.slice q vs.length d) vs.length (vs.flatMap aE)∧Ext w w'):=by
    intro w
    have h:=pI hh w hhl
    rw[hH,hb]at h
    exact h
   have hg2:g2<w2.heap.size:=(M2.out.lt (i:=0) rfl rfl).2
   have e1:w2.cell? ⟨g2,1,none⟩=some (str hh):=cY (M2.out.own (i:=0) rfl) 1 (by omega) _ HHH.out
   clear hb hH hhh i1
   go_wp2_with fail
   refine(HRH.out _).mono ?_
   rintro e w3 ⟨p,c,q,d,rfl,oc,os,hx3⟩
   clear e1 hg2
   have M3:=xQ ((M2.out).own2s hx3 oc os (Nat.le_refl _) (by decide))
   clear M2
   clear lt2_2
   have lt3_4:=M3.out.hi 4
   clear hx3 oc os
   have hg2:g2<w3.heap.size:=(M3.out.lt (i:=2) rfl rfl).2
   have e2:w3.cell? ⟨g2,0,none⟩=some (str fs):=cY (M3.out.own (i:=2) rfl) 0 (by omega) _ HFS.out
   go_wp2_with fail
   refine(HRD.out _).mono ?_
   rintro e w3' ⟨rfl,rfl⟩
   clear e2 hg2
   go_upto_region 7 with fail
   have M4:=xQ (((M3.out).blkNew iH #[.int .i64 W,.int .i64 D,.slice p xs.length c,.int .i64 f,.int .i64 s,.int .i64 pr,.int .i64 cp,.int .i64 ck,.int .i64 bk,.slice q vs.length d] (w3.heap.size) (by simp)))
   generalize (w3.alloc (.cells #[.int .i64 W,.int .i64 D,.slice p xs.length c,.int .i64 f,.int .i64 s,.int .i64 pr,.int .i64 cp,.int .i64 ck,.int .i64 bk,.slice q vs.length d] iH))=w5 at M4⊢
   clear M3
   clear lt3_4
   have lt4_0:=M4.out.hi 0
   have lt4_5:=M4.out.hi 5
   cases b with
   |false=>
    have hno:Hid (bZ l=none):=by
     show _=_
     rw[HRV.out]
     have:=HB.out
     cases hq:aW hh with
     |none=>simp
     |some z=>rw[hq]at this;simp at this
    obtain⟨z0,zf0,z1,zf1,z2,zf2,z3,zf3,z4,zf4,z5,zf5,z6,zf6,z7,zf7,z8,zf8,z9,zf9⟩:=(M4.out.blk (i:=5) rfl).tenf
    go_wp2
    clear z0 zf0 z1 zf1 z2 zf2 z3 zf3 z4 zf4 z5 zf5 z6 zf6 z7 zf7 z8 zf8 z9 zf9 lt4_0 lt4_5
    have M5:=xQ (((M4.out).put10 (i:=5) rfl (.int .i64 0) (.int .i64 0) (.slice none 0 0) (.int .i64 0) (.int .i64 0) (.int .i64 0) (.int .i64 0) (.int .i64 0) (.int .i64 0) (.slice none 0 0)))
    generalize hwz:World.setCell _ _ _=wz
    rw[hwz]at M5
    clear hwz M4
    obtain⟨y0,y1,y2,y3,y4,y5,y6,y7,y8,y9⟩:=(M5.out.blk (i:=5) rfl).ten
    exact bodyPost_ret (v:= .tuple #[.agg #[.int .i64 0,.int .i64 0,.slice none 0 0,.int .i64 0,.int .i64 0,.int .i64 0,.int .i64 0,.int .i64 0,.int .i64 0,.slice none 0 0],.int .i64 0,.bool false]) (by simp[results,Tryz.results43,go_sem, *]) rfl (gE hno.out M5.out.ext)
   |true=>
    have hsome:Hid (aW hh=some ⟨W,D,xs,f,s,pr,cp,ck,bk,vs⟩):=by
     show _=_
     have h1:=HB.out;have h2:=HH.out
     cases hq:aW hh with
     |none=>rw[hq]at h1;simp at h1
     |some z=>rw[hq]at h2;simpa using h2
    have HI:Hid (IsHouse w5 ⟨W,D,xs,f,s,pr,cp,ck,bk,vs⟩ p xs.length c q vs.length d):=⟨M4.out.sl (i:=1) rfl,M4.out.sl (i:=2) rfl⟩
    have HT:Hid (∀(w':World),Ext w5 w'→Calls Tryz.prog 51 #[.agg #[.int .i64 W,.int .i64 D,.slice p xs.length c,.int .i64 f,.int .i64 s,.int .i64 pr,.int .i64 cp,.int .i64 ck,.int .i64 bk,.slice q vs.length d],.int .i64 x] w' fun e w''=>e= .returned (str (bK ⟨W,D,xs,f,s,pr,cp,ck,bk,vs⟩ x))∧Ext w' w''):=fun w' hx=>mP ⟨W,D,xs,f,s,pr,cp,ck,bk,vs⟩ x p xs.length c q vs.length d w' (HI.out.ext hx)
    generalize hht:bK ⟨W,D,xs,f,s,pr,cp,ck,bk,vs⟩ x=t at*
    have HTT:=xQ hht
    clear hht HI
    obtain⟨ce0,ce1,ce2,ce3,ce4,ce5,ce6,ce7,ce8,ce9⟩:=(M4.out.blk (i:=0) rfl).ten
    go_wp2_with fail
    clear ce0 ce1 ce2 ce3 ce4 ce5 ce6 ce7 ce8 ce9
    refine(HT.out _ (Ext.refl _)).mono ?_
    rintro e w4 ⟨rfl,hx4⟩
    have M5:=xQ ((M4.out).adv hx4)
    clear M4
    clear lt4_0 lt4_5
    have lt5_0:=M5.out.hi 0
    have lt5_5:=M5.out.hi 5
    clear hx4
    by_cases ht:t=l
    ·skip
     have hd2:(t==l)=true:=by simp[ht]
     have hyes:Hid (bZ l=some (⟨W,D,xs,f,s,pr,cp,ck,bk,vs⟩,x)):=by show _=_;rw[HRV.out,hsome.out];simp[HTT.out,ht]
     clear ht
     obtain⟨z0,zf0,z1,zf1,z2,zf2,z3,zf3,z4,zf4,z5,zf5,z6,zf6,z7,zf7,z8,zf8,z9,zf9⟩:=(M5.out.blk (i:=5) rfl).tenf
     obtain⟨b0,b1,b2,b3,b4,b5,b6,b7,b8,b9⟩:=(M5.out.blk (i:=0) rfl).ten
     have ne0_1a: ¬(w3.heap.size=w.heap.size):=M5.out.ne (i:=0) (j:=5) (by omega) rfl rfl rfl rfl
     have ne0_1b: ¬(w.heap.size=w3.heap.size):=fun h=>ne0_1a h.symm
     go_wp2
     clear z0 zf0 z1 zf1 z2 zf2 z3 zf3 z4 zf4 z5 zf5 z6 zf6 z7 zf7 z8 zf8 z9 zf9 b0 b1 b2 b3 b4 b5 b6 b7 b8 b9 ne0_1a ne0_1b lt5_0 lt5_5
     have M6:=xQ (((M5.out).put10 (i:=5) rfl (.int .i64 W) (.int .i64 D) (.slice p xs.length c) (.int .i64 f) (.int .i64 s) (.int .i64 pr) (.int .i64 cp) (.int .i64 ck) (.int .i64 bk) (.slice q vs.length d)))
     generalize hwz:World.setCell _ _ _=wz
     rw[hwz]at M6
     clear hwz M5
     obtain⟨y0,y1,y2,y3,y4,y5,y6,y7,y8,y9⟩:=(M6.out.blk (i:=5) rfl).ten
     exact bodyPost_ret (v:= .tuple #[.agg #[.int .i64 W,.int .i64 D,.slice p xs.length c,.int .i64 f,.int .i64 s,.int .i64 pr,.int .i64 cp,.int .i64 ck,.int .i64 bk,.slice q vs.length d],.int .i64 x,.bool true]) (by simp[results,Tryz.results43,go_sem, *]) rfl (qL hyes.out (M6.out.own (i:=1) rfl) (M6.out.own (i:=2) rfl) M6.out.ext)
    ·skip
     have hd2:(t==l)=false:=by simp[ht]
     have hno:Hid (bZ l=none):=by show _=_;rw[HRV.out,hsome.out];simp[HTT.out,ht]
     clear ht
     obtain⟨z0,zf0,z1,zf1,z2,zf2,z3,zf3,z4,zf4,z5,zf5,z6,zf6,z7,zf7,z8,zf8,z9,zf9⟩:=(M5.out.blk (i:=5) rfl).tenf
     go_wp2
     clear z0 zf0 z1 zf1 z2 zf2 z3 zf3 z4 zf4 z5 zf5 z6 zf6 z7 zf7 z8 zf8 z9 zf9 lt5_0 lt5_5
     have M6:=xQ (((M5.out).put10 (i:=5) rfl (.int .i64 0) (.int .i64 0) (.slice none 0 0) (.int .i64 0) (.int .i64 0) (.int .i64 0) (.int .i64 0) (.int .i64 0) (.int .i64 0) (.slice none 0 0)))
     generalize hwz:World.setCell _ _ _=wz
     rw[hwz]at M6
     clear hwz M5
     obtain⟨y0,y1,y2,y3,y4,y5,y6,y7,y8,y9⟩:=(M6.out.blk (i:=5) rfl).ten
     exact bodyPost_ret (v:= .tuple #[.agg #[.int .i64 0,.int .i64 0,.slice none 0 0,.int .i64 0,.int .i64 0,.int .i64 0,.int .i64 0,.int .i64 0,.int .i64 0,.slice none 0 0],.int .i64 0,.bool false]) (by simp[results,Tryz.results43,go_sem, *]) rfl (gE hno.out M6.out.ext)
  ·skip
   have hno:Hid (bZ l=none):=by show _=_;rw[HRV.out,if_neg];rintro⟨_,h⟩;exact hPP h
   have q2:((P:Int)!=2)=true:=by simp;omega
   subst hTT
   clear hPP
   obtain⟨z0,zf0,z1,zf1,z2,zf2,z3,zf3,z4,zf4,z5,zf5,z6,zf6,z7,zf7,z8,zf8,z9,zf9⟩:=(M2.out.blk (i:=2) rfl).tenf
   go_wp2
   clear z0 zf0 z1 zf1 z2 zf2 z3 zf3 z4 zf4 z5 zf5 z6 zf6 z7 zf7 z8 zf8 z9 zf9 lt2_2
   have M3:=xQ (((M2.out).put10 (i:=2) rfl (.int .i64 0) (.int .i64 0) (.slice none 0 0) (.int .i64 0) (.int .i64 0) (.int .i64 0) (.int .i64 0) (.int .i64 0) (.int .i64 0) (.slice none 0 0)))
   generalize hwz:World.setCell _ _ _=wz
   rw[hwz]at M3
   clear hwz M2
   obtain⟨y0,y1,y2,y3,y4,y5,y6,y7,y8,y9⟩:=(M3.out.blk (i:=2) rfl).ten
   exact bodyPost_ret (v:= .tuple #[.agg #[.int .i64 0,.int .i64 0,.slice none 0 0,.int .i64 0,.int .i64 0,.int .i64 0,.int .i64 0,.int .i64 0,.int .i64 0,.slice none 0 0],.int .i64 0,.bool false]) (by simp[results,Tryz.results43,go_sem, *]) rfl (gE hno.out M3.out.ext)
 ·skip
  have hno:Hid (bZ l=none):=by show _=_;rw[HRV.out,if_neg];rintro⟨h,_⟩;exact hTT h
  have q1:((T:Int)!=2)=true:=by simp;omega
  clear hTT
  obtain⟨z0,zf0,z1,zf1,z2,zf2,z3,zf3,z4,zf4,z5,zf5,z6,zf6,z7,zf7,z8,zf8,z9,zf9⟩:=(M2.out.blk (i:=2) rfl).tenf
  go_wp2
  clear z0 zf0 z1 zf1 z2 zf2 z3 zf3 z4 zf4 z5 zf5 z6 zf6 z7 zf7 z8 zf8 z9 zf9 lt2_2
  have M3:=xQ (((M2.out).put10 (i:=2) rfl (.int .i64 0) (.int .i64 0) (.slice none 0 0) (.int .i64 0) (.int .i64 0) (.int .i64 0) (.int .i64 0) (.int .i64 0) (.int .i64 0) (.slice none 0 0)))
  generalize hwz:World.setCell _ _ _=wz
  rw[hwz]at M3
  clear hwz M2
  obtain⟨y0,y1,y2,y3,y4,y5,y6,y7,y8,y9⟩:=(M3.out.blk (i:=2) rfl).ten
  exact bodyPost_ret (v:= .tuple #[.agg #[.int .i64 0,.int .i64 0,.slice none 0 0,.int .i64 0,.int .i64 0,.int .i64 0,.int .i64 0,.int .i64 0,.int .i64 0,.slice none 0 0],.int .i64 0,.bool false]) (by simp[results,Tryz.results43,go_sem, *]) rfl (gE hno.out M3.out.ext)
set_option maxRecDepth 100000 in
set_option maxHeartbeats 8000000 in
theorem aAr (v:Value)(w:World)(hc:Code w v):Calls Tryz.prog 49 #[v] w (wX w):=by
 go_enter Tryz.func49,Tryz.ntmps49
 go_wp2_with fail
 refine(lG v _ (hc.ext xE)).mono ?_
 rintro e w1 ⟨R,rfl,hR,r1,x1⟩
 have M1:=xQ ((((Mem.start w).blkNew aQ #[.int .i64 0,.int .i64 0,.slice none 0 0,.int .i64 0,.int .i64 0,.int .i64 0,.int .i64 0,.int .i64 0,.int .i64 0,.slice none 0 0] (w.heap.size) (by simp))).adv x1)
 have lt1_0:=M1.out.hi 0
 clear x1
 go_wp2_with fail
 refine(kF R 0 9 _ r1 (by omega) (by omega) (by omega)).mono ?_
 rintro e w2 ⟨h,p,cap,q,c2,rfl,hs1,hs2,ho,hv,r2,x2⟩
 have hRw:w.heap.size<R:=by have:=hR;simp at this;omega
 have X2:Ext w w2:=ExtR.new M1.out.ext x2 (by omega)
 have B2:Blk w2 w.heap.size aQ #[.int .i64 0,.int .i64 0,.slice none 0 0,.int .i64 0,.int .i64 0,.int .i64 0,.int .i64 0,.int .i64 0,.int .i64 0,.slice none 0 0]:=x2.blk (M1.out.blk (i:=0) rfl) (by omega)
 have l2:=B2.lt
 have hR1:=r1.lt
 go_wp2_with fail
 refine(bS R (0+20000) 100 _ r2 (by omega)).mono ?_
 rintro e w3 ⟨x,rfl,xa,xb,r3,x3⟩
 go_wp2_with fail
 refine(bS R (0+20000+1) 20 _ r3 (by omega)).mono ?_
 rintro e w4 ⟨y,rfl,ya,yb,r4,x4⟩
 go_wp2_with fail
 refine(bS R (0+20000+1+1) 20 _ r4 (by omega)).mono ?_
 rintro e w5 ⟨z,rfl,za,zb,r5,x5⟩
 have X25:=(x3.trans x4).trans x5
 have X5:Ext w w5:=ExtR.new M1.out.ext (x2.trans X25) (by omega)
 have B5:Blk w5 w.heap.size aQ #[.int .i64 0,.int .i64 0,.slice none 0 0,.int .i64 0,.int .i64 0,.int .i64 0,.int .i64 0,.int .i64 0,.int .i64 0,.slice none 0 0]:=X25.blk B2 (by omega)
 have l5:=B5.lt
 have ho5:=X25.own ho (by omega)
 have hv5:=X25.own hv (by omega)
 clear x2 x3 x4 x5 X25 X2 B2 ho hv
 obtain⟨z0,zf0,z1,zf1,z2,zf2,z3,zf3,z4,zf4,z5,zf5,z6,zf6,z7,zf7,z8,zf8,z9,zf9⟩:=(B5).tenf
 obtain⟨yd,hyd,yd0,yd1⟩: ∃a,a=y/19∧0≤a∧a≤1:=⟨_,rfl,by omega,by omega⟩
 obtain⟨zd,hzd,zd0,zd1⟩: ∃a,a=z/19∧0≤a∧a≤1:=⟨_,rfl,by omega,by omega⟩
 go_wp2
 generalize hw9:World.setCell _ _ _=w9
 obtain⟨Y9,hR9⟩:=(B5).putr hw9
 have X9:Ext w w9:=ExtR.new X5 hR9 (Nat.le_refl _)
 have o9:w9.ownsRow w1.heap.size TI 1 (.slice p h.cells.length cap) h.cells.length (ivs h.cells):=ho5.kept hR9 (.inr (oO ho5 B5 (by decide)))
 have v9:w9.ownsRow w1.heap.size TV 4 (.slice q h.vs.length c2) h.vs.length (h.vs.flatMap aE):=hv5.kept hR9 (.inr (oO hv5 B5 (by decide)))
 clear hw9 hR9 z0 zf0 z1 zf1 z2 zf2 z3 zf3 z4 zf4 z5 zf5 z6 zf6 z7 zf7 z8 zf8 z9 zf9
 obtain⟨y0,y1,y2,y3,y4,y5,y6,y7,y8,y9⟩:=(Y9).ten
 exact bodyPost_ret (v:= .tuple #[.agg #[.int .i64 h.aA,.int .i64 h.aB,.slice p h.cells.length cap,.int .i64 h.free,.int .i64 h.step,.int .i64 h.aD,.int .i64 h.aH,.int .i64 h.aC,.int .i64 h.aI,.slice q h.vs.length c2],.int .i64 (x+yd*99-zd*200)]) (by simp[results,Tryz.results49,go_sem, *]) rfl ⟨h,p,cap,q,c2,_,rfl,hs1,hs2,by omega,⟨Sl.own o9,Sl.own v9⟩,X9⟩
theorem aKj {α:Type}(c:α): ∀(A B A' B':List α),c∉A→c∉A'→A++c::B=A'++c::B'→A=A'∧B=B':=by
 intro A
 induction A with
 |nil=>
  intro B A' B' _ h2 h
  cases A' with
  |nil=>simpa using h
  |cons a A'=>simp at h;exact absurd h.1 (fun e=>h2 (by simp[e]))
 |cons a A ih=>
  intro B A' B' h1 h2 h
  cases A' with
  |nil=>simp at h;exact absurd h.1.symm (fun e=>h1 (by simp[e]))
  |cons a' A'=>
   simp only[List.cons_append,List.cons.injEq]at h
   obtain⟨e1,e2⟩:=ih B A' B' (fun hh=>h1 (by simp[hh])) (fun hh=>h2 (by simp[hh])) h.2
   exact⟨by rw[h.1,e1],e2⟩
theorem rR {h:aV}{e:Int}(hne:bK h e≠ []):bN h=true∧ ∃u:List UInt8,(35:UInt8)∉u∧u≠ []∧bK h e=u++35::Lib.decDigits (gA u).toNat:=by
 unfold bK at hne⊢
 split at hne
 ·rename_i hc
  rw[if_pos hc]
  refine⟨hc.1,dec e++ [124]++aU h,?_,by simp,by simp[kY]⟩
  intro hm
  simp only[List.mem_append,List.mem_singleton]at hm
  rcases hm with(hm|hm)|hm
  ·exact gU _ _ (by decide) hm
  ·exact absurd hm (by decide)
  ·exact oW (by decide) (by decide) (by decide) (by decide) (by decide) hm
 ·exact absurd rfl hne
theorem aGq (n:Nat):0<(Lib.decDigits n).length:=by
 rw[Lib.decDigits]
 split<;>simp
theorem uY {h:aV}{e:Int}(hne:bK h e≠ [])(k:Nat)(hk:k=1∨k=2):bZ ((bK h e).take ((bK h e).length-k))=none:=by
 obtain⟨ok,u,h1,h2,h3⟩:=rR hne
 have hD:=aGq (gA u).toNat
 have hu:0<u.length:=by cases u with|nil=>exact absurd rfl h2|cons _ _=>simp
 cases hr:bZ ((bK h e).take ((bK h e).length-k))with
 |none=>rfl
 |some z=>
  exfalso
  obtain⟨h',n'⟩:=z
  obtain⟨_,ht⟩:=lM hr
  have hlen:(bK h e).length=u.length+1+(Lib.decDigits (gA u).toNat).length:=by rw[h3];simp;omega
  have hne':bK h' n'≠ []:=by
   intro e0
   rw[e0]at ht
   have:=congrArg List.length ht
   simp only[List.length_nil,List.length_take]at this
   omega
  obtain⟨_,u',g1,_,g3⟩:=rR hne'
  rw[g3,hlen,h3]at ht
  by_cases hc:k≤(Lib.decDigits (gA u).toNat).length
  ·have e1:(u++35::Lib.decDigits (gA u).toNat).take (u.length+1+(Lib.decDigits (gA u).toNat).length-k)=u++35::(Lib.decDigits (gA u).toNat).take ((Lib.decDigits (gA u).toNat).length-k):=by
    rw[List.take_append,List.take_of_length_le (by omega),show u.length+1+(Lib.decDigits (gA u).toNat).length-k-u.length=((Lib.decDigits (gA u).toNat).length-k)+1 from by omega,List.take_succ_cons]
   rw[e1]at ht
   obtain⟨a1,a2⟩:=aKj 35 _ _ _ _ g1 h1 ht
   rw[a1]at a2
   have:=congrArg List.length a2
   simp at this
   omega
  ·have e1:(u++35::Lib.decDigits (gA u).toNat).take (u.length+1+(Lib.decDigits (gA u).toNat).length-k)=u:=by
    rw[show u.length+1+(Lib.decDigits (gA u).toNat).length-k=u.length from by omega];simp
   rw[e1]at ht
   exact h1 (by rw[←ht];simp)
end Go.Proofs.YteejdnmmpmcmeaaGreatDoor
