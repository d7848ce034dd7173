/-
  Texts of this proof, packed (@packed).
-/
import Derived.Test.YthfmmibomhhmpaaGreatDoorY25
namespace Go.Proofs.YthfmmibomhhmpaaGreatDoor
open Go.RowKit Go.Proofs.Tryz
set_option linter.unusedSimpArgs false
set_option linter.unusedVariables false
set_option maxHeartbeats 8000000
set_option maxRecDepth 100000
theorem aN3 (l:List UInt8):(⟨l.toArray⟩:ByteArray).size=l.length:=by simp[ByteArray.size]
theorem aSl:(⟨#[59]⟩:ByteArray).size=1:=rfl
theorem aSy:(⟨#[44]⟩:ByteArray).size=1:=rfl
theorem aF0 {a:ByteArray}{l:List UInt8}(h:a=⟨l.toArray⟩):Ending.returned (.string a)= .returned (str l):=by rw[h]
theorem eT (l:List UInt8)(m:Nat)(h:l.length≤m): ∃s:ByteArray,s=⟨l.toArray⟩∧s.size≤m:=⟨_,rfl,by rw[aN3];exact h⟩
theorem yF (a b aD aF:Int)(w:World)(h0:0≤a)(h1:0≤b)(h2:0≤aD)(h3:0≤aF)(h4:a≤9223372036854775807)(h5:b≤9223372036854775807)(h6:aD≤9223372036854775807)(h7:aF≤9223372036854775807):
  U 124 #[aS a b aD aF] w (O (str (bO [a,b,aD,aF])) w):=by
 obtain⟨s1,e1,l1⟩:=eT (dec a) 21 (fM _ h4);obtain⟨s2,e2,l2⟩:=eT (dec b) 21 (fM _ h5);obtain⟨s3,e3,l3⟩:=eT (dec aD) 21 (fM _ h6);obtain⟨s4,e4,l4⟩:=eT (dec aF) 21 (fM _ h7);have h:Hid (∀w,U 40 #[a] w (O (.string s1) w)):=fun w=>by rw[e1];exact jS a w h0 h4
 have i:Hid (∀w,U 40 #[b] w (O (.string s2) w)):=fun w=>by rw[e2];exact jS b w h1 h5
 have j:Hid (∀w,U 40 #[aD] w (O (.string s3) w)):=fun w=>by rw[e3];exact jS aD w h2 h6
 have k:Hid (∀w,U 40 #[aF] w (O (.string s4) w)):=fun w=>by rw[e4];exact jS aF w h3 h7
 have HF:Hid (s1++⟨#[44]⟩++s2++⟨#[44]⟩++s3++⟨#[44]⟩++s4=⟨(bO [a,b,aD,aF]).toArray⟩):=by show _=_;rw[nP,e1,e2,e3,e4];apply Go.WideShapes.bytes_inj;simp[ByteArray.data_append]
 clear e1 e2 e3 e4 h0 h1 h2 h3 h4 h5 h6 h7;have q1:=aVx (s1.size+1);have q2:=aVx (s1.size+1+s2.size);have q3:=aVx (s1.size+1+s2.size+1);have q4:=aVx (s1.size+1+s2.size+1+s3.size);have q5:=aVx (s1.size+1+s2.size+1+s3.size+1);have q6:=aVx (s1.size+1+s2.size+1+s3.size+1+s4.size);have B0:Hid (Blk (w.alloc (.cells #[a,b,aD,aF] 27)) w 27 #[a,b,aD,aF]):=Blk.new w _ _;have X0:Hid (Ext w (w.alloc (.cells #[a,b,aD,aF] 27))):=(Ext.refl w).alloc _;go_enter func124,ntmps124;go_wp2
 go_region_held3 (fun w'=>w'.cell? ⟨w,0,none⟩=some (I a)∧w'.cell? ⟨w,1,none⟩=some (I b)∧w'.cell? ⟨w,2,none⟩=some (I aD)∧w'.cell? ⟨w,3,none⟩=some (I aF)) (first|(refine⟨?_,?_,?_,?_⟩<;>assumption)|go_keep)
  ((go_at_call 40;(first
    |((with_reducible refine(h _).mono ?_)
      rintro e w1 ⟨rfl,c⟩;(try replace c:=c.of_drew);have B1:=xQ (B0.out.ext c);have X1:=xQ (X0.out.trans c);skip;clear c;have l:=B1.out.cl 0;have m:=B1.out.cl 1;have n:=B1.out.cl 2
      have o:w1.cell? ⟨w,3,none⟩=some (I aF):=B1.out.cell 3)
    |((with_reducible refine(i _).mono ?_)
      rintro e w2 ⟨rfl,d⟩;(try replace d:=d.of_drew);have B2:=xQ (B1.out.ext d);have X2:=xQ (X1.out.trans d);skip;clear d;have p:=B2.out.cl 0;have q:=B2.out.cl 1;have r:=B2.out.cl 2
      have s:w2.cell? ⟨w,3,none⟩=some (I aF):=B2.out.cell 3)
    |((with_reducible refine(j _).mono ?_)
      rintro e w3 ⟨rfl,f⟩;(try replace f:=f.of_drew);have B3:=xQ (B2.out.ext f);have X3:=xQ (X2.out.trans f);skip;clear f;have t:=B3.out.cl 0;have u:=B3.out.cl 1;have v:=B3.out.cl 2
      have x:w3.cell? ⟨w,3,none⟩=some (I aF):=B3.out.cell 3)
    |((with_reducible refine(k _).mono ?_)
      rintro e w4 ⟨rfl,g⟩;(try replace g:=g.of_drew);have B4:=xQ (B3.out.ext g);have X4:=xQ (X3.out.trans g);skip;clear g;have y:=B4.out.cl 0;have z:=B4.out.cl 1;have aa:=B4.out.cl 2
      have ab:w4.cell? ⟨w,3,none⟩=some (I aF):=B4.out.cell 3))))
 all_goals go_wp2
 all_goals go_ret
 all_goals exact⟨aF0 HF.out,X4.out⟩
theorem aA5 (aA aB a b aD aF aC aG:Int)(p:OA)(n c:Nat)(q:OA)(m c2:Nat)(w:World)(HV:xB 9 #[.agg #[aA,aB,.slice p n c,a,b,aD,aF,aC,aG,.slice q m c2]] w false):
  U 92 #[.agg #[aA,aB,.slice p n c,a,b,aD,aF,aC,aG,.slice q m c2]] w (O (str []) w):=by
 go_enter func92,ntmps92;go_wp2_with fail;refine Z (HV _ (by exact .alloc (.refl _) _)) fun w1 d=>?_
 go_wp2;go_ret;exact⟨rfl,by exact .trans (.alloc (.refl _) _) d⟩
theorem aQ3 (s1 s2 s3 s4:ByteArray)(p1 p2 p3 p4:List UInt8)(e1:s1=⟨p1.toArray⟩)(e2:s2=⟨p2.toArray⟩)(e3:s3=⟨p3.toArray⟩)(e4:s4=⟨p4.toArray⟩):
  s1++⟨#[59]⟩++s2++⟨#[59]⟩++s3++⟨#[59]⟩++s4=⟨(iG 59 [p1,p2,p3,p4]).toArray⟩:=by
 rw[e1,e2,e3,e4];apply Go.WideShapes.bytes_inj;simp[ByteArray.data_append,iG,sE]
theorem aKg (S t1 t2 t3 t4:ByteArray)(a0 a1 a2 a3:Int)(P:List UInt8)(e0:S=⟨P.toArray⟩)(e1:t1=⟨(dec a0).toArray⟩)(e2:t2=⟨(dec a1).toArray⟩)(e3:t3=⟨(dec a2).toArray⟩)(e4:t4=⟨(dec a3).toArray⟩):
  S++⟨#[59]⟩++t1++⟨#[44]⟩++t2++⟨#[44]⟩++t3++⟨#[44]⟩++t4=⟨(P++59::bO [a0,a1,a2,a3]).toArray⟩:=by
 rw[e0,e1,e2,e3,e4,nP];apply Go.WideShapes.bytes_inj;simp[ByteArray.data_append]
theorem aCf (aA aB a c aD aF aC aG:Int)(p:OA)(n d:Nat)(q:OA)(m c2:Nat)(w:World)(vs:List aR)(p1 p2 p3 p4:List UInt8)(l1:p1.length≤400)(l2:p2.length≤100)(l3:p3.length≤30)(l4:p4.length≤30)(hm:m≤12)(HS:Hid (Sl w q m c2 4 (vs.flatMap aE)))
  (HG:Hid (∀v∈vs,0≤v.1∧v.1≤99999∧0≤v.2.1∧v.2.1≤99999∧0≤v.2.2.1∧v.2.2.1≤99999∧0≤v.2.2.2∧v.2.2.2≤99999))
  (HV:xB 9 #[.agg #[aA,aB,.slice p n d,a,c,aD,aF,aC,aG,.slice q m c2]] w true)
  (H1:xC 90 #[aH aA aB p n d] w fun w' e w''=>e= .returned (str p1)∧Ext w' w'')
  (H2:Hid (∀w',U 124 #[aS a c aD aF] w' (O (str p2) w')))
  (H3:Hid (∀w',U 40 #[aC] w' (O (str p3) w')))
  (H4:Hid (∀w',U 40 #[aG] w' (O (str p4) w'))):
  U 92 #[.agg #[aA,aB,.slice p n d,a,c,aD,aF,aC,aG,.slice q m c2]] w (O (str (iG 59 ([p1,p2,p3,p4]++vs.map (fun v=>bO (cL v))))) w):=by
 obtain⟨s1,e1,m1⟩:=eT p1 400 l1;obtain⟨s2,e2,m2⟩:=eT p2 100 l2;obtain⟨s3,e3,m3⟩:=eT p3 30 l3;obtain⟨s4,e4,m4⟩:=eT p4 30 l4;have cj:xC 90 #[aH aA aB p n d] w fun w' e w''=>e= .returned (.string s1)∧Ext w' w'':=by rw[e1];exact H1.out
 have ck:Hid (∀w',U 124 #[aS a c aD aF] w' (O (.string s2) w')):=by rw[e2];exact H2.out
 have cm:Hid (∀w',U 40 #[aC] w' (O (.string s3) w')):=by rw[e3];exact H3.out
 have cn:Hid (∀w',U 40 #[aG] w' (O (.string s4) w')):=by rw[e4];exact H4.out
 have HF:=xQ (aQ3 s1 s2 s3 s4 p1 p2 p3 p4 e1 e2 e3 e4);have hl:Hid (vs.length=m):=by have:=HS.out.len;rw[dD aE 4 (fun _=>rfl)]at this;exact(by omega:vs.length=m)
 clear e1 e2 e3 e4 l1 l2 l3 l4 H1 H2 H3 H4;have q1:=aVx (s1.size+1);have q2:=aVx (s1.size+1+s2.size);have q3:=aVx (s1.size+1+s2.size+1);have q4:=aVx (s1.size+1+s2.size+1+s3.size);have q5:=aVx (s1.size+1+s2.size+1+s3.size+1);have q6:=aVx (s1.size+1+s2.size+1+s3.size+1+s4.size);go_enter func92,ntmps92;go_wp2_with fail;refine Z (HV _ (by exact .alloc (.refl _) _)) fun w0 x=>?_
 have B0:Hid (Blk w0 w 30 #[aA,aB,.slice p n d,a,c,aD,aF,aC,aG,.slice q m c2]):=(Blk.new w _ _).ext x;have X0:Hid (Ext w w0):=by show Ext w w0;exact .trans (.alloc (.refl _) _) x
 clear x;obtain⟨a0,a1,a2,a3,a4,a5,a6,a7,a8,a9⟩:=B0.out.ten;go_wp2
 go_region_held3 (fun w'=>w'.cell? ⟨w,0,none⟩=some (I aA)∧w'.cell? ⟨w,1,none⟩=some (I aB)∧w'.cell? ⟨w,2,none⟩=some (.slice p n d)∧w'.cell? ⟨w,3,none⟩=some (I a)∧w'.cell? ⟨w,4,none⟩=some (I c)∧w'.cell? ⟨w,5,none⟩=some (I aD)∧w'.cell? ⟨w,6,none⟩=some (I aF)∧w'.cell? ⟨w,7,none⟩=some (I aC)∧w'.cell? ⟨w,8,none⟩=some (I aG)∧w'.cell? ⟨w,9,none⟩=some (.slice q m c2)) (first|(refine⟨?_,?_,?_,?_,?_,?_,?_,?_,?_,?_⟩<;>assumption)|go_keep)
  ((first
    |(go_at_call 90;(with_reducible refine(cj _ (by first|exact X0.out|exact X0.out.drew)).mono ?_)
      rintro e w1 ⟨rfl,l⟩;(try replace l:=l.of_drew);have B1:=xQ (B0.out.ext l);have X1:=xQ (X0.out.trans l);skip;clear l;have z:=B1.out.cl 0;have aa:=B1.out.cl 1;have ab:=B1.out.cl 2;have ad:=B1.out.cl 3;have ae:=B1.out.cl 4;have af:=B1.out.cl 5;have ag:=B1.out.cl 6;have ah:=B1.out.cl 7;have ai:=B1.out.cl 8
      have aj:w1.cell? ⟨w,9,none⟩=some (.slice q m c2):=B1.out.cell 9)
    |(go_at_call 124;(with_reducible refine(ck _).mono ?_)
      rintro e w2 ⟨rfl,r⟩;(try replace r:=r.of_drew);have B2:=xQ (B1.out.ext r);have X2:=xQ (X1.out.trans r);skip;clear r;have ak:=B2.out.cl 0;have al:=B2.out.cl 1;have am:=B2.out.cl 2;have an:=B2.out.cl 3;have ao:=B2.out.cl 4;have ap:=B2.out.cl 5;have aq:=B2.out.cl 6;have ar:=B2.out.cl 7;have au:=B2.out.cl 8
      have av:w2.cell? ⟨w,9,none⟩=some (.slice q m c2):=B2.out.cell 9)
    |(go_at_call 40;(with_reducible refine(cm _).mono ?_)
      rintro e w3 ⟨rfl,s⟩;(try replace s:=s.of_drew);have B3:=xQ (B2.out.ext s);have X3:=xQ (X2.out.trans s);skip;clear s;have aw:=B3.out.cl 0;have ax:=B3.out.cl 1;have ay:=B3.out.cl 2;have az:=B3.out.cl 3;have ba:=B3.out.cl 4;have bb:=B3.out.cl 5;have bc:=B3.out.cl 6;have bd:=B3.out.cl 7;have be:=B3.out.cl 8
      have bf:w3.cell? ⟨w,9,none⟩=some (.slice q m c2):=B3.out.cell 9)
    |(go_at_call 40;(with_reducible refine(cn _).mono ?_)
      rintro e w4 ⟨rfl,t⟩;(try replace t:=t.of_drew);have B4:=xQ (B3.out.ext t);have X4:=xQ (X3.out.trans t);skip;clear t;have bg:=B4.out.cl 0;have bh:=B4.out.cl 1;have bi:=B4.out.cl 2;have bj:=B4.out.cl 3;have bk:=B4.out.cl 4;have bl:=B4.out.cl 5;have bm:=B4.out.cl 6;have bn:=B4.out.cl 7;have bo:=B4.out.cl 8
      have bp:w4.cell? ⟨w,9,none⟩=some (.slice q m c2):=B4.out.cell 9)))
 clear q1 q2 q3 q4 q5 q6 z aa ab ad ae af ag ah ai aj ak al am an ao ap aq ar au av aw ax ay az ba bb bc bd be bf bg bh bi bj bk bl bm bn bo bp a0 a1 a2 a3 a4 a5 a6 a7 a8 a9;have b9:=B4.out.cl 9;go_wp2;clear b9;go_loopw [3,4] (fun o i wr=> ∃(k:Nat) (S:ByteArray),k≤m∧i=I k∧o= .string S∧S=⟨(iG 59 ([p1,p2,p3,p4]++(vs.take k).map (fun v=>bO (cL v)))).toArray⟩∧S.size≤700+100*k∧Ext w wr∧Blk wr w 30 #[aA,aB,.slice p n d,a,c,aD,aF,aC,aG,.slice q m c2]) (fun _ i _=>m-(intOf i).toNat)
 case atStart=>exact⟨0,_,aTd _,rfl,rfl,by rw[HF.out];simp,by simp only[ByteArray.size_append,aSl];omega,X4.out,B4.out⟩
 case round=>
  obtain⟨k,S,hk,rfl,rfl,hS,b7,hE,hB⟩:=hrel;have y:=xQ hS;have u:=xQ hB;have cw:(w:Nat)<wr:=hB.lt;clear X4 B4 hS hB HF;by_cases hlt:k<m
  ·obtain⟨b,cx,a0,a1,a2,a3,rfl,hv,hb,g0,g1,g2,g3⟩:=eN (HS.out.ext hE) hlt;obtain⟨v0,ca,v1,cb,v2,cc,v3,cd⟩:=HG _ (aT7 hv);dsimp only at v0 ca v1 cb v2 cc v3 cd;have cu:Hid (iG 59 ([p1,p2,p3,p4]++(vs.take (k+1)).map (fun v=>bO (cL v)))=iG 59 ([p1,p2,p3,p4]++(vs.take k).map (fun v=>bO (cL v)))++59::bO [a0,a1,a2,a3]):=by
    show _=_;rw[bA hv,aUj];simp[iG,sE,cL]
   obtain⟨t1,e1,m1⟩:=eT (dec a0) 21 (fM _ (by omega));obtain⟨t2,e2,m2⟩:=eT (dec a1) 21 (fM _ (by omega));obtain⟨t3,e3,m3⟩:=eT (dec a2) 21 (fM _ (by omega));obtain⟨t4,e4,m4⟩:=eT (dec a3) 21 (fM _ (by omega));have co:Hid (∀w,U 40 #[a0] w (O (.string t1) w)):=fun w=>by rw[e1];exact jS a0 w v0 (by omega)
   have cp:Hid (∀w,U 40 #[a1] w (O (.string t2) w)):=fun w=>by rw[e2];exact jS a1 w v1 (by omega)
   have cq:Hid (∀w,U 40 #[a2] w (O (.string t3) w)):=fun w=>by rw[e3];exact jS a2 w v2 (by omega)
   have cr:Hid (∀w,U 40 #[a3] w (O (.string t4) w)):=fun w=>by rw[e4];exact jS a3 w v3 (by omega)
   have cv:S.size≤1900:=by omega
   have cs:=xQ b7;have ct:=xQ (aKg S t1 t2 t3 t4 a0 a1 a2 a3 _ y e1 e2 e3 e4);clear e1 e2 e3 e4 v0 ca v1 cb v2 cc v3 cd hv b7;have i1:=aVt k;have i2:=aVu k m;have r1:=aVx (S.size+1);have r2:=aVx (S.size+1+t1.size);have r3:=aVx (S.size+1+t1.size+1);have r4:=aVx (S.size+1+t1.size+1+t2.size);have r5:=aVx (S.size+1+t1.size+1+t2.size+1);have r6:=aVx (S.size+1+t1.size+1+t2.size+1+t3.size);have r7:=aVx (S.size+1+t1.size+1+t2.size+1+t3.size+1);have r8:=aVx (S.size+1+t1.size+1+t2.size+1+t3.size+1+t4.size);have B4:Hid (Blk (wr.alloc (.cells #[a0,a1,a2,a3] 54)) wr 54 #[a0,a1,a2,a3]):=Blk.new wr _ _;have X4:Hid (Ext w (wr.alloc (.cells #[a0,a1,a2,a3] 54))):=hE.alloc _;have ce:=xQ (u.out.alloc (.cells #[a0,a1,a2,a3] 54));have b9:=u.out.cl 9;go_wp2;go_region_held3 (fun w'=>w'.cell? ⟨wr,0,none⟩=some (I a0)∧w'.cell? ⟨wr,1,none⟩=some (I a1)∧w'.cell? ⟨wr,2,none⟩=some (I a2)∧w'.cell? ⟨wr,3,none⟩=some (I a3)) (first|(refine⟨?_,?_,?_,?_⟩<;>assumption)|go_keep)
  ((go_at_call 40;(first
      |((with_reducible refine(co _).mono ?_)
        rintro e w5 ⟨rfl,f⟩;(try replace f:=f.of_drew);have B5:=xQ (B4.out.ext f);have X5:=xQ (X4.out.trans f);have cf:=xQ (ce.out.ext f);clear f;have bq:=B5.out.cl 0;have br:=B5.out.cl 1;have bs:=B5.out.cl 2
        have bt:w5.cell? ⟨wr,3,none⟩=some (I a3):=B5.out.cell 3)
      |((with_reducible refine(cp _).mono ?_)
        rintro e w6 ⟨rfl,g⟩;(try replace g:=g.of_drew);have B6:=xQ (B5.out.ext g);have X6:=xQ (X5.out.trans g);have cg:=xQ (cf.out.ext g);clear g;have bu:=B6.out.cl 0;have bv:=B6.out.cl 1;have bw:=B6.out.cl 2
        have bx:w6.cell? ⟨wr,3,none⟩=some (I a3):=B6.out.cell 3)
      |((with_reducible refine(cq _).mono ?_)
        rintro e w7 ⟨rfl,h⟩;(try replace h:=h.of_drew);have B7:=xQ (B6.out.ext h);have X7:=xQ (X6.out.trans h);have ch:=xQ (cg.out.ext h);clear h;have bz:=B7.out.cl 0;have b0:=B7.out.cl 1;have b1:=B7.out.cl 2
        have b2:w7.cell? ⟨wr,3,none⟩=some (I a3):=B7.out.cell 3)
      |((with_reducible refine(cr _).mono ?_)
        rintro e w8 ⟨rfl,j⟩;(try replace j:=j.of_drew);have B8:=xQ (B7.out.ext j);have X8:=xQ (X7.out.trans j);have ci:=xQ (ch.out.ext j);clear j;have b3:=B8.out.cl 0;have b4:=B8.out.cl 1;have b5:=B8.out.cl 2
        have b6:w8.cell? ⟨wr,3,none⟩=some (I a3):=B8.out.cell 3))))
   clear bq br bs bt bu bv bw bx bz b0 b1 b2 b3 b4 b5 b6 r1 r2 r3 r4 r5 r6 r7 r8;go_wp2;go_roundw
   case rel=>exact⟨k+1,_,by omega,by go_num,rfl,by rw[ct.out,cu.out],by have:=cs.out;simp only[ByteArray.size_append,aSl,aSy];omega,X8.out,ci.out⟩
   case measure=>simp[intOf];omega
  ·have b8:Hid (iG 59 ([p1,p2,p3,p4]++(vs.take k).map (fun v=>bO (cL v)))=iG 59 ([p1,p2,p3,p4]++vs.map (fun v=>bO (cL v)))):=by
    show _=_;rw[aTa (by rw[hl.out];omega)]
   have b9:=u.out.cl 9;go_wp2;go_ret;exact⟨aF0 (by rw[y.out,b8.out];rfl),hE⟩
theorem uD {aA aB:Int}{xs:List Int}:(eA aA aB xs).length≤400:=by
 unfold eA;cases h:aN aA aB xs with
 |false=>simp
 |true=>obtain⟨h1,h2,h3,h4,h5,h6,h7,h8,h9⟩:=bN h;rw[if_pos rfl];have:=nT aA xs (fun x hx=>(h8 x hx).2) xs.length;omega
theorem zI {h:aL}(f:aP h=true):aN h.aA h.aB h.cells=true∧0≤h.free∧h.free≤1440∧0≤h.step∧h.step≤1440∧0≤h.aD∧h.aD≤99∧0≤h.aF∧h.aF≤99∧0≤h.aC∧h.aC≤9999∧0≤h.aG∧h.aG≤99999∧h.vs.length≤12∧
  ∀v∈h.vs,0≤v.1∧v.1≤99999∧0≤v.2.1∧v.2.1≤99999∧0≤v.2.2.1∧v.2.2.1≤99999∧0≤v.2.2.2∧v.2.2.2≤99999:=by
 have hv:=(eC f).2;unfold aP at f;simp only[aTf]at f;obtain⟨⟨⟨h1,h2⟩,h3⟩,h4⟩:=f;have ht:=iU h2;unfold sP at h3;simp at h3;obtain⟨q1,q2⟩:=kD h4;obtain⟨_,_,_,_,_,_,_,hc,_⟩:=bN h1;refine⟨h1,by omega,by omega,by omega,by omega,by omega,by omega,by omega,by omega,by omega,by omega,by omega,by omega,hv.1,fun v hm=> ?_⟩;have a:=q2 v hm;unfold fP at a;rw[aTf]at a;have b:=fJ a.1;have c:v.1∈cS h.cells:=by rw[←q1];exact List.mem_map_of_mem hm
 have d:v.1∈dL h.cells:=(fW _).mem_iff.1 c;have e:=hc v.1 (aTs.1 d).1;omega
theorem aA6 (h:aL)(p:OA)(n a:Nat)(q:OA)(m c2:Nat)(w:World)(hi:IsHouse w h p n a q m c2):
  U 92 #[bG h p n a q m c2] w (O (str (kY h)) w):=by
 have HV:=fun(w':World) (hx:Ext w w')=>iA h p n a q m c2 w' (hi.ext hx)
 have i:=hi.vlen;unfold kY;cases hok:aP h with
 |false=>rw[hok]at HV;simpa using aA5 h.aA h.aB h.free h.step h.aD h.aF h.aC h.aG p n a q m c2 w HV
 |true=>
  rw[hok]at HV;obtain⟨g0,g1,g2,g3,g4,g5,g6,g7,g8,g9,c,d,f,g,b⟩:=zI hok;rw[if_pos rfl];have l3:=fM h.aC (by omega);have l4:=fM h.aG (by omega);have l2:=vI h.free h.step h.aD h.aF (by omega) (by omega) (by omega) (by omega)
  exact aCf h.aA h.aB h.free h.step h.aD h.aF h.aC h.aG p n a q m c2 w h.vs _ _ _ _ uD (by omega) (by omega) (by omega) (by omega) hi.vs b HV
   (fun w' hx=>tI h.aA h.aB p n a h.cells w' (hi.cells.ext hx)) (fun w'=>yF h.free h.step h.aD h.aF w' (by omega) (by omega) (by omega) (by omega) (by omega) (by omega) (by omega) (by omega))
   (fun w'=>jS h.aC w' (by omega) (by omega)) (fun w'=>jS h.aG w' (by omega) (by omega))
theorem aLo (n:Nat):(madeCells (Value.string ⟨#[]⟩).cells (n*1)).toList=List.replicate n (Value.string ⟨#[]⟩):=by apply List.ext_getElem<;>simp[madeCells,Value.cells,Nat.mod_one]
theorem tG {xs:List Int}{k:Nat}(hl:(xs.take k).length=k):(cM ((xs.take k).map dec)).length=k:=by simp only[cM,aU1];exact hl
theorem aKk {xs:List Int}{k n:Nat}{x:Int}(h:k<n)(hx:xs[k]? =some x) (hl:(xs.take k).length=k):(cM ((xs.take k).map dec)++List.replicate (n-k) (Value.string ⟨#[]⟩)).set k (str (dec x))=cM ((xs.take (k+1)).map dec)++List.replicate (n-(k+1)) (Value.string ⟨#[]⟩):=by rw[bA hx,show n-k=(n-(k+1))+1 by omega,aV9];rw[aVj _ _ (by rw[tG hl];exact aT5 _),tG hl,aV0,aTk];simp[cM]
theorem aN2 {xs:List Int}{k n:Nat}(h:k<n)(hl:(xs.take k).length=k):(cM ((xs.take k).map dec)++List.replicate (n-k) (Value.string ⟨#[]⟩))[k]? =some (Value.string ⟨#[]⟩):=by rw[aTy (by rw[tG hl];exact aT5 _),tG hl,aV0,show n-k=(n-(k+1))+1 by omega,aV9];rfl
theorem nG (p:OA)(n l:Nat)(xs:List Int)(w:World)(ad:0<n)(hn:n≤10)(hx: ∀x∈xs,0≤x∧x≤9223372036854775807)(hE:Env w)(hS:Sl w p n l 1 (ivs xs)):
  U 105 #[.slice p n l] w (O (str (bO xs)) w):=by
 obtain⟨i0,hi,o,s,t⟩:=info_parts (show(prog.info? 9).map (fun i=>(i.zero,i.size,i.bytes))=some (some (.string ⟨#[]⟩),1,16) by kernel_rfl);have hl:=xQ hS.ilen;have HS:=xQ hS;have HX:=xQ hx;have HE:=xQ hE;have HL:Hid ((bO xs).length≤140737488355328):=by
  show _≤_
  have h1:=aE9 44 21 ((xs.map dec).drop 1) (fun y hy=>by
   obtain⟨z,hz,rfl⟩:=List.mem_map.1 (List.mem_of_mem_drop hy)
   exact fM z (hx z hz).2)
  have h2:xs.length=n:=hS.ilen;unfold bO;cases hq:xs.map dec with
  |nil=>simp[iG]
  |cons a r=>
   have ha:a.length≤21:=by
    have:a∈xs.map dec:=by rw[hq];simp
    obtain⟨z,hz,rfl⟩:=List.mem_map.1 this;exact fM z (hx z hz).2
   have hr:r.length+1=n:=by have:=congrArg List.length hq;simp at this;omega
   rw[hq]at h1;simp only[List.drop_succ_cons,List.drop_zero]at h1;simp only[iG,aTc];omega
 clear hS hx hE;go_enter func105,ntmps105;go_wp2_with (at_make;refine wpList_make_full _ rfl _ _ 31 rfl w 9 i0 (.string ⟨#[]⟩) 1 underlying31 hi o s .i64 .i64 _ _ n rfl rfl rfl rfl (by rw[t];omega) (by unfold maxLen;omega) (aT5 _) ?_;intro w0 d f);have aa:Ext w w0:=(Ext.refl w).grown f (fun q hq=>by cases hq);have ah:=(d.lt w rfl).2;rw[aLo]at d;have u:=xQ d;clear d f hi o s t;go_loopw [11] (fun i wr=> ∃k:Nat,k≤n∧i=I k∧wr.ownsRow w 9 1 (.slice (some ⟨w,0,none⟩) n n) n (cM ((xs.take k).map dec)++List.replicate (n-k) (Value.string ⟨#[]⟩))∧Ext w wr) (fun i _=>n-(intOf i).toNat)
 case atStart=>exact⟨0,aTd _,rfl,by simpa[cM]using u.out,aa⟩
 case round=>
  obtain⟨k,hk,rfl,j,g⟩:=hrel;have HO:=xQ j;clear j;by_cases hlt:k<n
  ·obtain⟨b,aj,x,rfl,hx,hb,ab⟩:=(HS.out.ext g).int_at hlt;obtain⟨ae,af⟩:=HX x (aT7 hx);have v:=xQ hx;clear hx;have h:(xs.take k).length=k:=by rw[aTt,hl.out];omega
   go_wp2_with fail;refine Z (pQ x _ ae af (HE.out.ext (by exact g))) fun w1 h1=>?_
   have c:=HO.out.kept h1.gb (by simp[Value.ownBlock]);have ai:(w:Nat)<w1:=(c.lt w rfl).2;have o0:w1.cell? ⟨w,k,none⟩=some (.string ⟨#[]⟩):=by rw[c.cellAt k (by omega)];exact aN2 hlt h
   have f0:w1.frozen? ⟨w,k,none⟩=false:=c.frozenAt k;have HN:Hid ((w1.setCell ⟨w,k,none⟩ (str (dec x))).ownsRow w 9 1 (.slice (some ⟨w,0,none⟩) n n) n (cM ((xs.take (k+1)).map dec)++List.replicate (n-(k+1)) (Value.string ⟨#[]⟩))):=by have:=(c.stored k (str (dec x))).1;rw[aKk hlt v h]at this;exact this
   have ag:=g.sz;clear c;go_wp2;go_roundw
   case rel=>exact⟨k+1,by omega,by go_num,HN.out,xE⟩
   case measure=>simp[intOf];omega
  have m:Hid (wr.ownsRow w 9 1 (.slice (some ⟨w,0,none⟩) n n) n (cM (xs.map dec))):=by have:=HO.out;rw[show n-k=0 by omega,List.replicate_zero,aTv,aTa (by rw[hl.out];omega)]at this;exact this
  go_wp2_with fail;refine Z (aFe (xs.map dec) 44 _ n n _ (by rw[aU1];exact hl.out) ad (Sl.own m.out) HL (by omega)) fun w1 h1=>?_
  go_wp2;go_ret;exact⟨rfl,by exact .trans g h1⟩
theorem aGd:ElT prog 31 9 1:=
 ⟨underlying31,by
  obtain⟨i,hi,h0,h1,h2⟩:=info_parts (show(prog.info? 9).map (fun i=>(i.zero,i.size,i.bytes))=some (some (.string ⟨#[]⟩),1,16) by kernel_rfl)
  exact⟨i,_,hi,h0,h1,by omega,rfl⟩,Nat.one_pos⟩
theorem uS (xs:List (List UInt8)):xs.flatMap (fun s=> [str s])=cM xs:=by induction xs with|nil=>rfl|cons x xs ih=>simp_all [cM]
theorem tC {w:World}{i:Array Oper}{rest:List Oper}{o:Oper}{a:Act}{Q:Exit→Act→World→Prop}(k:o.guard=none)(s x:Operand)
  (ho:o.op= .call {callee:= .builtin .append,args:=#[s,x],argTypes:=#[31,31]})
  (base:Nat)(v:Value)(n:Nat)(xs:List (List UInt8))(hs:a.eval s=v)(g:w.ownsRow base 9 1 v n (cM xs))
  (b e:Nat)(y:List UInt8)(c:Nat)(hx:a.eval x= .slice (some ⟨b,e,none⟩) 1 c)(hc:w.cell? ⟨b,e,none⟩=some (str y))
  (hn:n≤1099511627776)(d:base≤w.heap.size)
  (h: ∀p' cap' w',w'.ownsRow base 9 1 (.slice p' (n+1) cap') (n+1) (cM (xs++ [y]))→w.grownBy w' v.ownBlock→wpList prog i Q rest (a.put o.dst (.slice p' (n+1) cap')) w'):wpList prog i Q (o::rest) a w:=by
 refine iS aGd (f:=fun x=> [str x]) (fun _=>rfl) (fun _ u hu=>by simp at hu;subst hu;rfl) k s x ho base v n xs hs (by rw[uS];exact g) b e y c hx (fun j u hu=> ?_) hn d (fun p' cap' w' h2 h3=>h p' cap' w' (by rw[uS]at h2;exact h2) h3)
 match j,hu with
 |0,hu=>simp at hu;subst hu;exact hc
theorem Blk.sl {w:World}{g n:Nat}{t:TypeId}{cs:Array Value}(h:Blk w g t cs)(hn:cs.size=n)(hm:n≤maxLen):Sl w (some ⟨g,0,none⟩) n n 1 cs.toList:=
 ⟨by simpa using hn,aT5 _,hm,fun _=>⟨g,0,rfl,h.lt,fun k hk=>by rw[aUf,h.cell k];simp⟩⟩
theorem Blk.own {w:World}{g n base:Nat}{t:TypeId}{cs:Array Value}(h:Blk w g t cs)(hn:cs.size=n)(hm:n≤maxLen)(hb:base≤g):w.ownsRow base t 1 (.slice (some ⟨g,0,none⟩) n n) n cs.toList:=
 ⟨by simpa using hn,.inr ⟨g,n,cs,rfl,hb,h,aT5 _,hm,by omega,by rw[Nat.mul_one,aTa (by simp;omega)]⟩⟩
theorem aDd (aA aB a c aD aF aC aG:Int)(p:OA)(n f:Nat)(q:OA)(m c2:Nat)(w:World)(vs:List aR)(p1 p2 p3 p4:List UInt8)(br:m≤12)(hl:Hid (vs.length=m))(HS:Hid (Sl w q m c2 4 (vs.flatMap aE)))
  (HL:Hid ((iG 59 ([p1,p2,p3,p4]++vs.map (fun v=>bO (cL v)))).length≤140737488355328))
  (HN:Hid (∀v∈vs,∀w' g,Ext w w'→Sl w' (some g) 4 4 1 (ivs (cL v))→U 105 #[.slice (some g) 4 4] w' (O (str (bO (cL v))) w')))
  (HV:xB 19 #[.agg #[aA,aB,.slice p n f,a,c,aD,aF,aC,aG,.slice q m c2]] w true)
  (H1:xC 29 #[aH aA aB p n f] w fun w' e w''=>e= .returned (str p1)∧Ext w' w'')
  (H2:Hid (∀w' g,Ext w w'→Sl w' (some g) 4 4 1 (ivs [a,c,aD,aF])→U 105 #[.slice (some g) 4 4] w' (O (str p2) w')))
  (H3:Hid (∀w' g,Ext w w'→Sl w' (some g) 1 1 1 (ivs [aC])→U 105 #[.slice (some g) 1 1] w' (O (str p3) w')))
  (H4:Hid (∀w' g,Ext w w'→Sl w' (some g) 1 1 1 (ivs [aG])→U 105 #[.slice (some g) 1 1] w' (O (str p4) w'))):
  U 68 #[.agg #[aA,aB,.slice p n f,a,c,aD,aF,aC,aG,.slice q m c2]] w (O (str (iG 59 ([p1,p2,p3,p4]++vs.map (fun v=>bO (cL v))))) w):=by
 go_enter func68,ntmps68;go_wp2_with fail;refine Z (HV _ (by exact .alloc (.refl _) _)) fun w0 aj=>?_
 have B0:=xQ ((Blk.new w 30 #[aA,aB,.slice p n f,a,c,aD,aF,aC,aG,.slice q m c2]).ext aj);have X0:Hid (Ext w w0):=by show Ext w w0;exact .trans (.alloc (.refl _) _) aj
 have h:=X0.out;have bw:(w:Nat)<w0:=B0.out.lt;clear aj;go_wp2;refine rL (gl [gEq (.pointer (some ⟨w,0,none⟩)),gEq (aH aA aB p n f),gEq (str p1),gEq (.pointer (some ⟨w,3,none⟩)),gEq (.pointer (some ⟨w,3,none⟩)),gEq a,gEq (.pointer (some ⟨w,3,none⟩)),gEq (.pointer (some ⟨w,4,none⟩)),gEq c,gEq (.pointer (some ⟨w,3,none⟩)),gEq (.pointer (some ⟨w,5,none⟩)),gEq aD,gEq (.pointer (some ⟨w,3,none⟩)),gEq (.pointer (some ⟨w,6,none⟩)),gEq aF,aDr w TI #[a,c,aD,aF] 4,gEq (str p2),gEq (.pointer (some ⟨w,7,none⟩)),gEq aC,aDr w TI #[aC] 1,gEq (str p3),gEq (.pointer (some ⟨w,8,none⟩)),gEq aG,aDr w TI #[aG] 1,gEq (str p4),aDr (w.heap.size+1) 9 #[str p1,str p2,str p3,str p4] 4]) 26 27 [(0,some 9),(1,some 10),(2,some 11),(3,some 12),(4,some 13),(5,some 14),(6,some 15),(7,some 16),(8,some 17),(9,some 18),(10,some 19),(11,some 20),(12,some 21),(13,some 22),(14,some 23),(15,some 24),(16,some 25),(17,some 26),(18,some 27),(19,some 28),(20,some 29),(21,some 30),(22,some 31),(23,some 32),(24,some 33),(25,some 34)] ?steps ?fin
 case steps=>
  refine sS0 [] ?_;refine sC [(0,some 9)] rfl (fun wi hx=> ?_) ?_
  ·intro v0 h0 K hK;obtain rfl:=h0;have B:=xQ (B0.out.ext hx.of_drew);have c0:=B.out.cl 0;have c1:=B.out.cl 1;have c2:=B.out.cl 2;go_simp;exact hK _ _ ⟨aH aA aB p n f,rfl,rfl,Ext.refl _⟩
  refine sC [(1,some 10)] rfl (fun wi hx=> ?_) ?_
  ·intro v1 h1 K hK;obtain rfl:=h1;go_wp2_with fail;refine Z (H1 _ (by exact .trans (.drew h) hx)) fun w2 d=>?_
   go_simp;exact hK _ _ ⟨str p1,rfl,rfl,d⟩
  refine sS0 [] (sS1 [(3,some 12)] ?_);refine sC [(4,some 13)] rfl (fun wi hx=> ?_) ?_
  ·intro v4 h4 K hK;obtain rfl:=h4;have B:=xQ (B0.out.ext hx.of_drew);have c3:=B.out.cl 3;go_simp;exact hK _ _ ⟨I a,rfl,rfl,Ext.refl _⟩
  refine sS0 [] (sS1 [(6,some 15)] ?_);refine sC [(7,some 16)] rfl (fun wi hx=> ?_) ?_
  ·intro v7 h7 K hK;obtain rfl:=h7;have B:=xQ (B0.out.ext hx.of_drew);have c4:=B.out.cl 4;go_simp;exact hK _ _ ⟨I c,rfl,rfl,Ext.refl _⟩
  refine sS0 [] (sS1 [(9,some 18)] ?_);refine sC [(10,some 19)] rfl (fun wi hx=> ?_) ?_
  ·intro bd r K hK;obtain rfl:=r;have B:=xQ (B0.out.ext hx.of_drew);have c5:=B.out.cl 5;go_simp;exact hK _ _ ⟨I aD,rfl,rfl,Ext.refl _⟩
  refine sS0 [] (sS1 [(12,some 21)] ?_);refine sC [(13,some 22)] rfl (fun wi hx=> ?_) ?_
  ·intro bf t K hK;obtain rfl:=t;have B:=xQ (B0.out.ext hx.of_drew);have c6:=B.out.cl 6;go_simp;exact hK _ _ ⟨I aF,rfl,rfl,Ext.refl _⟩
  refine sC [(5,some 14),(8,some 17),(11,some 20),(14,some 23)] rfl (fun wi hx=> ?_) ?_
  ·intro v5 h5 v8 h8 be s bg u K hK;subst h5 h8;obtain rfl:=s;obtain rfl:=u;go_simp;exact hK _ _ ⟨.slice (some ⟨wi,0,none⟩) 4 4,rfl,⟨wi.heap.size,rfl,by have:=hx.sz;simp at this;omega,Blk.new _ _ _⟩,(Ext.refl _).alloc _⟩
  refine sC [(15,some 24)] rfl (fun wi hx=> ?_) ?_
  ·intro bh x K hK;obtain⟨a4,rfl,ar,ak⟩:=x;go_wp2_with fail;refine Z (H2 _ _ (by exact .trans (.drew h) hx) (by have:=ak.sl (n:=4) rfl (by simp[maxLen]);simpa using this)) fun w2 d=>?_
   go_simp;exact hK _ _ ⟨str p2,rfl,rfl,d⟩
  refine sS0 [] ?_;refine sC [(17,some 26)] rfl (fun wi hx=> ?_) ?_
  ·intro bj z K hK;obtain rfl:=z;have B:=xQ (B0.out.ext hx.of_drew);have c7:=B.out.cl 7;go_simp;exact hK _ _ ⟨I aC,rfl,rfl,Ext.refl _⟩
  refine sC [(18,some 27)] rfl (fun wi hx=> ?_) ?_
  ·intro bk aa K hK;obtain rfl:=aa;go_simp;exact hK _ _ ⟨.slice (some ⟨wi,0,none⟩) 1 1,rfl,⟨wi.heap.size,rfl,by have:=hx.sz;simp at this;omega,Blk.new _ _ _⟩,(Ext.refl _).alloc _⟩
  refine sC [(19,some 28)] rfl (fun wi hx=> ?_) ?_
  ·intro bl ab K hK;obtain⟨a5,rfl,au,al⟩:=ab;go_wp2_with fail;refine Z (H3 _ _ (by exact .trans (.drew h) hx) (by have:=al.sl (n:=1) rfl (by simp[maxLen]);simpa using this)) fun w2 d=>?_
   go_simp;exact hK _ _ ⟨str p3,rfl,rfl,d⟩
  refine sS0 [] ?_;refine sC [(21,some 30)] rfl (fun wi hx=> ?_) ?_
  ·intro bn ae K hK;obtain rfl:=ae;have B:=xQ (B0.out.ext hx.of_drew);have c8:=B.out.cl 8;go_simp;exact hK _ _ ⟨I aG,rfl,rfl,Ext.refl _⟩
  refine sC [(22,some 31)] rfl (fun wi hx=> ?_) ?_
  ·intro bo af K hK;obtain rfl:=af;go_simp;exact hK _ _ ⟨.slice (some ⟨wi,0,none⟩) 1 1,rfl,⟨wi.heap.size,rfl,by have:=hx.sz;simp at this;omega,Blk.new _ _ _⟩,(Ext.refl _).alloc _⟩
  refine sC [(23,some 32)] rfl (fun wi hx=> ?_) ?_
  ·intro bp ag K hK;obtain⟨a6,rfl,av,am⟩:=ag;go_wp2_with fail;refine Z (H4 _ _ (by exact .trans (.drew h) hx) (by have:=am.sl (n:=1) rfl (by simp[maxLen]);simpa using this)) fun w2 d=>?_
   go_simp;exact hK _ _ ⟨str p4,rfl,rfl,d⟩
  refine sC [(2,some 11),(16,some 25),(20,some 29),(24,some 33)] rfl (fun wi hx=> ?_) StepsL.nil
  ·intro v2 h2 bi y bm ad bq ah K hK;obtain rfl:=h2;obtain rfl:=y;obtain rfl:=ad;obtain rfl:=ah;go_simp;exact hK _ _ ⟨.slice (some ⟨wi,0,none⟩) 4 4,rfl,⟨wi.heap.size,rfl,by have:=hx.sz;simp at this;omega,Blk.new _ _ _⟩,(Ext.refl _).alloc _⟩
 case fin=>
  intro wi hx v0 h0 v1 h1 v2 h2 v3 h3 v4 h4 v5 h5 v6 h6 v7 h7 v8 h8 v9 h9 bd r be s bz a8 bf t bg u bh x bi y bj z bk aa bl ab bm ad bn ae bo af bp ag bq ah b0 a9;subst h0 h1 h2 h3 h4 h5 h6 h7 h8 h9;obtain rfl:=r;obtain rfl:=s;obtain rfl:=a8;obtain rfl:=t;obtain rfl:=u;obtain⟨a4,rfl,ar,ak⟩:=x;obtain rfl:=y;obtain rfl:=z;obtain rfl:=aa;obtain⟨a5,rfl,au,al⟩:=ab;obtain rfl:=ad;obtain rfl:=ae;obtain rfl:=af;obtain⟨a6,rfl,av,am⟩:=ag;obtain rfl:=ah;obtain⟨a7,rfl,aw,an⟩:=a9;refine wpAny_ready (rs:= [26]) (by kernel_rfl) (by simp) ?_;refine AllReady.cons rfl (fun K hK=> ?_) AllReady.nil;go_simp;refine hK _ _ ?_;clear hK K;refine wpAny_done (by kernel_rfl) ?_ _;have B1:=xQ (B0.out.ext hx.of_drew);have X1:=xQ (X0.out.trans hx.of_drew);have O1:=xQ (an.own (n:=4) rfl (by simp[maxLen]) aw);have z1:(w:Nat)<wi:=B1.out.lt;clear an hx B0 X0 h;have b9:=B1.out.cl 9;go_wp2;clear b9;go_loopw [3,38] (fun v i wr=> ∃(k:Nat) (p':OA) (cp:Nat),k≤m∧i=I k∧v= .slice p' (4+k) cp∧wr.ownsRow (w.heap.size+1) 9 1 (.slice p' (4+k) cp) (4+k) (cM ([p1,p2,p3,p4]++(vs.take k).map (fun v=>bO (cL v))))∧Ext w wr∧w.heap.size+1≤wr.heap.size) (fun _ i _=>m-(intOf i).toNat)
  case atStart=>exact⟨0,some ⟨a7,0,none⟩,4,aTd _,rfl,rfl,by simpa[cM]using O1.out,X1.out,by omega⟩
  case round=>
   clear O1 X1 B1 z1;obtain⟨k,p',cp,hk,rfl,rfl,o,hE,bv⟩:=hrel;have HO:=xQ o;clear o;by_cases hlt:k<m
   ·obtain⟨b,bx,a0,a1,a2,a3,rfl,hv,hb,d0,d1,d2,d3⟩:=eN (HS.out.ext hE) hlt;have ay:=xQ (HN (a0,a1,a2,a3) (aT7 hv));have HT:Hid ((vs.take (k+1)).map (fun v=>bO (cL v))=(vs.take k).map (fun v=>bO (cL v))++ [bO (cL (a0,a1,a2,a3))]):=by
     show _=_;rw[bA hv];simp
    clear hv;go_wp2_with fail
    refine(ay _ _ (hE.trans (by exact .alloc (.alloc (.refl _) _) _)) (by
     have:=(Blk.new (wr.alloc (.cells #[a0,a1,a2,a3] 54)) TI #[a0,a1,a2,a3]).sl (n:=4) rfl (by simp[maxLen])
     simpa[ivs,cL]using this)).mono ?_
    rintro e w2 ⟨rfl,d⟩;have l:Ext wr w2:=by exact .trans (.alloc (.alloc (.refl _) _) _) d
    have ao:=xQ (aW HO l);have bs:(wr:Nat)≤w2:=l.sz;have bb:=xQ (hE.trans l);clear d l HO d0 d1 d2 d3;go_wp2_with (at_builtin;refine tC rfl _ _ rfl (w.heap.size+1) _ _ _ rfl (ao.out.alloc _) _ _ (bO (cL (a0,a1,a2,a3))) _ rfl (by simp) (by omega) (by first|(simp;done)|(simp;omega)|omega) ?_;intro bc ap w3 j ai;have az:=xQ j;have ba:Ext w w3:=Ext.own (bb.out.alloc _) (ao.out.alloc _) ai (by omega);have bt:(w2:Nat)≤w3:=aTg (by simp) ai.size;clear j ai);go_roundw
    case rel=>exact⟨k+1,bc,ap,by omega,by go_num,rfl,by rw[HT.out,←aTx];exact az.out,ba,by omega⟩
    case measure=>simp[intOf];omega
   have aq:Hid (wr.ownsRow (w.heap.size+1) 9 1 (.slice p' (4+k) cp) (4+k) (cM ([p1,p2,p3,p4]++vs.map (fun v=>bO (cL v))))):=by have:=HO.out;rw[aTa (by rw[hl.out];omega)]at this;exact this
   have bu:k≤12:=by omega
   have ax:Hid (([p1,p2,p3,p4]++vs.map (fun v=>bO (cL v))).length=4+k):=by show _=_;simp[hl.out];omega
   clear HO;go_wp2_with fail;refine Z (aFe ([p1,p2,p3,p4]++vs.map (fun v=>bO (cL v))) 59 _ (4+k) cp _ ax.out (by omega) (Sl.own aq.out) HL (by omega)) fun w1 h1=>?_
   go_wp2;go_ret;exact⟨rfl,by exact .trans hE h1⟩
theorem aAm (aA aB a b aD aF aC aG:Int)(p:OA)(n c:Nat)(q:OA)(m c2:Nat)(w:World)
  (HV:xB 19 #[.agg #[aA,aB,.slice p n c,a,b,aD,aF,aC,aG,.slice q m c2]] w false):
  U 68 #[.agg #[aA,aB,.slice p n c,a,b,aD,aF,aC,aG,.slice q m c2]] w (O (str []) w):=by
 go_enter func68,ntmps68;go_wp2_with fail;refine Z (HV _ (by exact .alloc (.refl _) _)) fun w0 d=>?_
 go_wp2;go_ret;exact⟨rfl,by exact .trans (.alloc (.refl _) _) d⟩
theorem aOj (c:UInt8)(M:Nat)(x:List UInt8)(r:List (List UInt8))(hx:x.length≤M)(h: ∀y∈r,y.length≤M):(iG c (x::r)).length≤(M+1)*(r.length+1):=by have:=aE9 c M r h;simp only[iG,aTc];rw[Nat.mul_succ];unfold sE at*;omega
theorem aAn (h:aL)(p:OA)(n a:Nat)(q:OA)(m c2:Nat)(w:World)(hE:Env w)(hi:IsHouse w h p n a q m c2):
  U 68 #[bG h p n a q m c2] w (O (str (kY h)) w):=by
 have HV:=fun(w':World) (hx:Ext w w')=>iW h p n a q m c2 w' (hi.ext hx)
 have d:=hi.vlen;unfold kY;cases hok:aP h with
 |false=>rw[hok]at HV;simpa using aAm h.aA h.aB h.free h.step h.aD h.aF h.aC h.aG p n a q m c2 w HV
 |true=>
  rw[hok]at HV;obtain⟨g0,g1,g2,g3,g4,g5,g6,g7,g8,g9,f,i,j,k,b⟩:=zI hok;rw[if_pos rfl];have e:sR h= [eA h.aA h.aB h.cells,bO [h.free,h.step,h.aD,h.aF],bO [h.aC],bO [h.aG]]++h.vs.map (fun v=>bO (cL v)):=by rw[oZ,oZ];rfl
  rw[e];have l1:(eA h.aA h.aB h.cells).length≤400:=uD;have l2:=vI h.free h.step h.aD h.aF (by omega) (by omega) (by omega) (by omega);have l3:=fM h.aC (by omega);have l4:=fM h.aG (by omega);rw[←oZ]at l3 l4;have lv: ∀v∈h.vs,(bO (cL v)).length≤90:=fun v hv=>by have:=b v hv;exact vI _ _ _ _ (by omega) (by omega) (by omega) (by omega)
  have HL:=aOj 59 400 (eA h.aA h.aB h.cells) ([bO [h.free,h.step,h.aD,h.aF],bO [h.aC],bO [h.aG]]++h.vs.map (fun v=>bO (cL v))) l1 (fun y hy=>by
   rcases aTn.1 hy with hy|hy
   ·simp only[aTi,List.not_mem_nil,or_false]at hy;rcases hy with rfl|rfl|rfl<;>omega
   ·obtain⟨v,hv,rfl⟩:=List.mem_map.1 hy
    have:=lv v hv;omega)
  have c:(iG 59 ([eA h.aA h.aB h.cells,bO [h.free,h.step,h.aD,h.aF],bO [h.aC],bO [h.aG]]++h.vs.map (fun v=>bO (cL v)))).length≤140737488355328:=by refine aTg HL ?_;simp only[aTc,aU1,aUh,List.length_nil];omega
  exact aDd h.aA h.aB h.free h.step h.aD h.aF h.aC h.aG p n a q m c2 w h.vs _ _ _ _ (by omega) d hi.vs c
   (fun v hv w' g hx hs=>nG (some g) 4 4 (cL v) w' (by omega) (by omega) (fun x hx'=>by
    have:=b v hv;simp only[cL,aTi,List.not_mem_nil,or_false]at hx'
    rcases hx' with rfl|rfl|rfl|rfl<;>omega) (hE.ext hx) hs)
   HV (fun w' hx=>mC h.aA h.aB p n a h.cells w' (hE.ext hx) (hi.cells.ext hx))
   (fun w' g hx hs=>nG (some g) 4 4 _ w' (by omega) (by omega) (fun x hx'=>by
    simp only[aTi,List.not_mem_nil,or_false]at hx'
    rcases hx' with rfl|rfl|rfl|rfl<;>omega) (hE.ext hx) hs)
   (fun w' g hx hs=>nG (some g) 1 1 _ w' (by omega) (by omega) (fun x hx'=>by
    simp only[aTi,List.not_mem_nil,or_false]at hx'
    subst hx';omega) (hE.ext hx) hs)
   (fun w' g hx hs=>nG (some g) 1 1 _ w' (by omega) (by omega) (fun x hx'=>by
    simp only[aTi,List.not_mem_nil,or_false]at hx'
    subst hx';omega) (hE.ext hx) hs)
end Go.Proofs.YthfmmibomhhmpaaGreatDoor
