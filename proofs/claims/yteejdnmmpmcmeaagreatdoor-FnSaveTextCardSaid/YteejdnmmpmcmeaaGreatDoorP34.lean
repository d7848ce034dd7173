/-
  Texts of this proof, packed (@packed).
-/
import Derived.Test.YteejdnmmpmcmeaaGreatDoorP3
import Derived.Test.YteejdnmmpmcmeaaGreatDoorP6
import Derived.Test.YteejdnmmpmcmeaaGreatDoorP8
import Derived.Test.YteejdnmmpmcmeaaGreatDoorP33
namespace Go.Proofs.YteejdnmmpmcmeaaGreatDoor
open Go.RowKit
set_option linter.unusedVariables false
set_option linter.unusedSimpArgs false
theorem lH (q:List UInt8)(hq:q.length≤maxLen)(w:World):Calls Tryz.prog 95 #[str q] w fun e w'=>e= .returned (.int .i64 ((bQ 4 q).getD (-1)))∧w=w':=
 aEi ⟨q.toArray⟩ w (by simpa[ByteArray.size]using hq)
theorem aIb (l:List UInt8)(h:l.all cQ=true)(hl:l.length≤4):gC l≤9999:=by
 match l,hl with
 | [],_=>simp[gC]
 | [a],_=>simp[gC,cQ]at h⊢;omega
 | [a,b],_=>simp[gC,cQ]at h⊢;omega
 | [a,b,c],_=>simp[gC,cQ]at h⊢;omega
 | [a,b,c,d],_=>simp[gC,cQ]at h⊢;omega
theorem aB2 {l:List UInt8}(h: ¬l.length=5):eF l=(bQ 4 l).getD (-1):=by
 unfold eF bQ
 by_cases hc:1≤l.length∧l.length≤4∧(l.length≤1∨l.head? ≠some 48)∧l.all cQ=true
 ·rw[if_pos hc,if_pos ⟨hc.1,by omega,hc.2.2⟩]
 ·rw[if_neg hc,if_neg (fun q=>hc ⟨q.1,by omega,q.2.2⟩)]
theorem aD8 {l:List UInt8}(h:l.length=5):eF l=if l.head? =some 48∨(bQ 4 (l.take 4)).getD (-1)<0∨(bQ 4 (l.drop 4)).getD (-1)<0 then -1 else 10*(bQ 4 (l.take 4)).getD (-1)+(bQ 4 (l.drop 4)).getD (-1):=by
 match l,h with
 | [a,b,c,d,e],_=>
   have h1:bQ 4 [e]=if cQ e=true then some ((e.toNat:Int)-48)else none:=by simp[bQ,gC]
   have h2:bQ 4 [a,b,c,d]=if a≠48∧ [a,b,c,d].all cQ=true then some (gC [a,b,c,d])else none:=by simp[bQ]
   have h3:bQ 5 [a,b,c,d,e]=if a≠48∧ [a,b,c,d].all cQ=true∧cQ e=true then some (10*gC [a,b,c,d]+((e.toNat:Int)-48))else none:=by
    have:gC [a,b,c,d,e]=10*gC [a,b,c,d]+((e.toNat:Int)-48):=oQ [a,b,c,d] e
    simp[bQ,this,and_assoc]
   simp only[List.take_succ_cons,List.take_zero,List.drop_succ_cons,List.drop_zero,List.head?_cons,Option.some.injEq]
   unfold eF
   rw[h1,h2,h3]
   by_cases q1:a=48
   ·simp[q1]
   ·by_cases q2: [a,b,c,d].all cQ=true
    ·have hb:=vM [a,b,c,d] q2 (by simp)
     by_cases q3:cQ e=true
     ·have q4:0≤(e.toNat:Int)-48:=by simp[cQ]at q3;omega
      simp only[q1,q2,q3,not_false_eq_true,ne_eq,and_self,if_true,Option.getD_some]
      rw[if_neg (by simp only[false_or,not_or];constructor<;>omega)]
     ·simp[q1,q3]
    ·simp only[q1,q2,not_false_eq_true,ne_eq,and_false,and_true,false_and,if_false,Option.getD_none]
     simp
set_option maxRecDepth 100000 in
set_option maxHeartbeats 1000000 in
theorem xI (s:ByteArray)(w:World)(h5: ¬s.size=5)(hs:s.size≤maxLen)(v:Int)(HR:Hid (∀w,Calls Tryz.prog 95 #[.string s] w fun e w'=>e= .returned (.int .i64 v)∧w=w')):
  Calls Tryz.prog 84 #[.string s] w fun e w'=>e= .returned (.int .i64 (v))∧Ext w w':=by
 have h6: ¬(s.size:Int)=5:=by omega
 go_enter Tryz.func84,Tryz.ntmps84
 go_wp2_with fail
 refine(HR.out _).mono ?_
 rintro e w1 ⟨rfl,rfl⟩
 go_wp2
 exact bodyPost_ret (v:= .int .i64 (v)) (by simp[results,Tryz.results84,go_sem, *]) rfl ⟨rfl,xE⟩
set_option maxRecDepth 100000 in
set_option maxHeartbeats 1000000 in
theorem aA7 (s:ByteArray)(w:World)(h5:s.size=5)(a b:Int)(hz:((s[0].toNat:Int)==48)=true):
  Calls Tryz.prog 84 #[.string s] w fun e w'=>e= .returned (.int .i64 (-1))∧Ext w w':=by
 go_enter Tryz.func84,Tryz.ntmps84
 go_wp2
 exact bodyPost_ret (v:= .int .i64 (-1)) (by simp[results,Tryz.results84,go_sem, *]) rfl ⟨rfl,xE⟩
set_option maxRecDepth 100000 in
set_option maxHeartbeats 1000000 in
theorem aGe (s:ByteArray)(w:World)(h5:s.size=5)(a b:Int)(hz:((s[0].toNat:Int)==48)=false)(ha:a<0)(HA:Hid (∀w,Calls Tryz.prog 95 #[.string (s.extract 0 4)] w fun e w'=>e= .returned (.int .i64 a)∧w=w')):
  Calls Tryz.prog 84 #[.string s] w fun e w'=>e= .returned (.int .i64 (-1))∧Ext w w':=by
 go_enter Tryz.func84,Tryz.ntmps84
 go_wp2_with fail
 refine(HA.out _).mono ?_
 rintro e w1 ⟨rfl,rfl⟩
 go_wp2
 exact bodyPost_ret (v:= .int .i64 (-1)) (by simp[results,Tryz.results84,go_sem, *]) rfl ⟨rfl,xE⟩
set_option maxRecDepth 100000 in
set_option maxHeartbeats 1000000 in
theorem aGd (s:ByteArray)(w:World)(h5:s.size=5)(a b:Int)(hz:((s[0].toNat:Int)==48)=false)(ha:0≤a)(hb:b<0)(HA:Hid (∀w,Calls Tryz.prog 95 #[.string (s.extract 0 4)] w fun e w'=>e= .returned (.int .i64 a)∧w=w'))(HB:Hid (∀w,Calls Tryz.prog 95 #[.string (s.extract 4 5)] w fun e w'=>e= .returned (.int .i64 b)∧w=w')):
  Calls Tryz.prog 84 #[.string s] w fun e w'=>e= .returned (.int .i64 (-1))∧Ext w w':=by
 go_enter Tryz.func84,Tryz.ntmps84
 go_wp2_with fail
 refine(HA.out _).mono ?_
 rintro e w1 ⟨rfl,rfl⟩
 go_wp2_with fail
 refine(HB.out _).mono ?_
 rintro e w1 ⟨rfl,rfl⟩
 go_wp2
 exact bodyPost_ret (v:= .int .i64 (-1)) (by simp[results,Tryz.results84,go_sem, *]) rfl ⟨rfl,xE⟩
set_option maxRecDepth 100000 in
set_option maxHeartbeats 1000000 in
theorem aEf (s:ByteArray)(w:World)(h5:s.size=5)(a b:Int)(hz:((s[0].toNat:Int)==48)=false)(ha:0≤a)(ha2:a≤9999)(hb:0≤b)(hb2:b≤9999)(HA:Hid (∀w,Calls Tryz.prog 95 #[.string (s.extract 0 4)] w fun e w'=>e= .returned (.int .i64 a)∧w=w'))(HB:Hid (∀w,Calls Tryz.prog 95 #[.string (s.extract 4 5)] w fun e w'=>e= .returned (.int .i64 b)∧w=w')):
  Calls Tryz.prog 84 #[.string s] w fun e w'=>e= .returned (.int .i64 (10*a+b))∧Ext w w':=by
 have q1:IntKind.i64.wrap (10*a)=10*a:=IntWalk.i64_in _ (by omega)
 have q2:IntKind.i64.wrap (10*a+b)=10*a+b:=IntWalk.i64_in _ (by omega)
 go_enter Tryz.func84,Tryz.ntmps84
 go_wp2_with fail
 refine(HA.out _).mono ?_
 rintro e w1 ⟨rfl,rfl⟩
 go_wp2_with fail
 refine(HB.out _).mono ?_
 rintro e w1 ⟨rfl,rfl⟩
 go_wp2_with fail
 refine cM (gl [gEq (.string s),gEq (.string (s.extract 0 4)),gEq (.int .i64 a),gEq (.int .i64 (10*a)),gEq (.string s),gEq (.string (s.extract 4 5)),gEq (.int .i64 b),gEq (.int .i64 (10*a+b))]) 8 (by kernel_rfl) rfl (by kernel_rfl) (by kernel_rfl) (by kernel_rfl) (eG (aG (aF _) (aG (aF _) (aG (aF _) (aG (aF _) (aG (aF _) (aG (aF _) (aG (aF _) (aG (aF _) (fN)))))))))) (k:=9) (by kernel_rfl) (by decide) (ls:= [(0,some 23),(1,some 24),(2,some 25),(3,some 26),(4,some 27),(5,some 28),(6,some 29),(7,some 30)]) (by kernel_rfl) (ir:= [0,1,2,3,4,5,6,7]) (by kernel_rfl) ?steps (tl:=#[true,true,true,true,true,true,true,true,false]) (by kernel_rfl) ?fin
 case steps=>
  refine sC [] rfl (fun wi hx=> ?_) ?_
  ·intro K hK
   go_simp
   exact hK _ _ ⟨.string s,rfl,rfl,Ext.refl _⟩
  refine sC [(0,some 23)] rfl (fun wi hx=> ?_) ?_
  ·intro v0 h0 K hK
   obtain rfl:=h0
   go_simp
   exact hK _ _ ⟨.string (s.extract 0 4),rfl,rfl,Ext.refl _⟩
  refine sC [(1,some 24)] rfl (fun wi hx=> ?_) ?_
  ·intro v1 h1 K hK
   obtain rfl:=h1
   go_wp2_with fail
   refine(HA.out _).mono ?_
   rintro e w2 ⟨rfl,rfl⟩
   go_simp
   exact hK _ _ ⟨.int .i64 a,rfl,rfl,Ext.refl _⟩
  refine sC [(2,some 25)] rfl (fun wi hx=> ?_) ?_
  ·intro v2 h2 K hK
   obtain rfl:=h2
   go_simp
   exact hK _ _ ⟨.int .i64 (10*a),rfl,rfl,Ext.refl _⟩
  refine sC [] rfl (fun wi hx=> ?_) ?_
  ·intro K hK
   go_simp
   exact hK _ _ ⟨.string s,rfl,rfl,Ext.refl _⟩
  refine sC [(4,some 27)] rfl (fun wi hx=> ?_) ?_
  ·intro v4 h4 K hK
   obtain rfl:=h4
   go_simp
   exact hK _ _ ⟨.string (s.extract 4 5),rfl,rfl,Ext.refl _⟩
  refine sC [(5,some 28)] rfl (fun wi hx=> ?_) ?_
  ·intro v5 h5 K hK
   obtain rfl:=h5
   go_wp2_with fail
   refine(HB.out _).mono ?_
   rintro e w2 ⟨rfl,rfl⟩
   go_simp
   exact hK _ _ ⟨.int .i64 b,rfl,rfl,Ext.refl _⟩
  refine sC [(3,some 26),(6,some 29)] rfl (fun wi hx=> ?_) StepsL.nil
  ·intro v3 h3 v6 h6 K hK
   obtain rfl:=h3
   obtain rfl:=h6
   go_simp
   exact hK _ _ ⟨.int .i64 (10*a+b),rfl,rfl,Ext.refl _⟩
 case fin=>
  intro wi hx v0 h0 v1 h1 v2 h2 v3 h3 v4 h4 v5 h5 v6 h6 v7 h7
  obtain rfl:=h0
  obtain rfl:=h1
  obtain rfl:=h2
  obtain rfl:=h3
  obtain rfl:=h4
  obtain rfl:=h5
  obtain rfl:=h6
  obtain rfl:=h7
  refine wpAny_ready (rs:= [8]) (by kernel_rfl) (by simp) ?_
  refine AllReady.cons rfl (fun K hK=> ?_) AllReady.nil
  go_simp
  refine hK _ _ ?_
  clear hK K
  refine wpAny_done (by kernel_rfl) ?_ _
  go_wp2
  exact bodyPost_ret (v:= .int .i64 (10*a+b)) (by simp[results,Tryz.results84,go_sem, *]) rfl ⟨rfl,xE⟩
theorem sY (l:List UInt8)(w:World)(hs:l.length≤maxLen):Calls Tryz.prog 84 #[str l] w fun e w'=>e= .returned (.int .i64 (eF l))∧Ext w w':=by
 by_cases h:l.length=5
 ·rw[aD8 h]
  have hsz:(⟨l.toArray⟩:ByteArray).size=5:=by simpa[ByteArray.size]using h
  have hz0:((⟨l.toArray⟩:ByteArray)[0]'(by rw[hsz];omega))=l[0]'(by omega):=by simp[ByteArray.getElem_eq_getElem_data]
  have hh:l.head? =some (l[0]'(by omega)):=by rw[List.head?_eq_getElem?,List.getElem?_eq_getElem]
  have rd: ∀(i j:Nat) (q:List UInt8),(l.take j).drop i=q→q.length≤maxLen→ ∀w,Calls Tryz.prog 95 #[.string ((⟨l.toArray⟩:ByteArray).extract i j)] w fun e w'=>e= .returned (.int .i64 ((bQ 4 q).getD (-1)))∧w=w':=by
   intro i j q hq hl w
   rw[nY ⟨l.toArray⟩ i j q (by simpa using hq)]
   exact lH q hl w
  have rA:=rd 0 4 (l.take 4) (by simp) (by simp;unfold maxLen;omega)
  have rB:=rd 4 5 (l.drop 4) (by rw[List.take_of_length_le (by omega)]) (by simp;unfold maxLen;omega)
  have bd: ∀(m:Nat) (q:List UInt8),m≤4→(bQ m q).getD (-1)≤9999:=by
   intro m q hm
   cases hr:bQ m q with
   |none=>simp
   |some x=>
    unfold bQ at hr
    split at hr
    ·rename_i hc
     cases hr
     exact aIb q hc.2.2.2 (by omega)
    ·simp at hr
  have bA:=bd 4 (l.take 4) (by omega)
  have bB:=bd 4 (l.drop 4) (by omega)
  by_cases c0:l.head? =some 48
  ·rw[if_pos (.inl c0)]
   rw[hh]at c0
   injection c0 with c0
   exact aA7 ⟨l.toArray⟩ w hsz 0 0 (by rw[hz0,c0];rfl)
  ·have c1:((((⟨l.toArray⟩:ByteArray)[0]'(by rw[hsz];omega)).toNat:Int)==48)=false:=by
    rw[hz0,beq_eq_false_iff_ne]
    intro e
    apply c0
    rw[hh]
    congr 1
    exact UInt8.toNat_inj.1 (by have:(48:UInt8).toNat=48:=rfl;omega)
   by_cases cA:(bQ 4 (l.take 4)).getD (-1)<0
   ·rw[if_pos (.inr (.inl cA))]
    exact aGe ⟨l.toArray⟩ w hsz _ 0 c1 cA rA
   ·by_cases cB:(bQ 4 (l.drop 4)).getD (-1)<0
    ·rw[if_pos (.inr (.inr cB))]
     exact aGd ⟨l.toArray⟩ w hsz _ _ c1 (by omega) cB rA rB
    ·rw[if_neg (by rintro(h|h|h);exact c0 h;exact cA h;exact cB h)]
     exact aEf ⟨l.toArray⟩ w hsz _ _ c1 (by omega) bA (by omega) bB rA rB
 ·rw[aB2 h]
  exact xI ⟨l.toArray⟩ w (by simpa[ByteArray.size]using h) (by simpa[ByteArray.size]using hs) _ (fun w=>lH l hs w)
abbrev jZ:TypeId:=25
abbrev nD:TypeId:=9
abbrev Z3:Array Value:=#[.int .i64 0,.int .i64 0,.slice none 0 0]
theorem aI7 {w:World}{b1 b2 s1 s2 n1 n2:Nat}{e1 e2:TypeId}{v1 v2:Value}{xs1 xs2:List Value}(h1:w.ownsRow b1 e1 s1 v1 n1 xs1)(h2:w.ownsRow b2 e2 s2 v2 n2 xs2)(ne:e1≠e2):v1.ownBlock=none∨v1.ownBlock≠v2.ownBlock:=by
 rcases h1.2 with⟨rfl,_⟩|⟨g,cap,cur,rfl,hb,hg,_⟩
 ·exact .inl rfl
 ·right
  rcases h2.2 with⟨rfl,_⟩|⟨g2,cap2,cur2,rfl,hb2,hg2,_⟩
  ·simp[Value.ownBlock]
  ·simp only[Value.ownBlock,ne_eq,Option.some.injEq]
   rintro rfl
   rw[hg]at hg2
   injection hg2 with e;injection e with _ e
   exact ne e
theorem fL {w:World}{b1 s1 n1:Nat}{e1:TypeId}{v1:Value}{xs1:List Value}{g:Nat}{t:TypeId}{cs:Array Value}(h1:w.ownsRow b1 e1 s1 v1 n1 xs1)(h2:Blk w g t cs)(ne:e1≠t):v1.ownBlock≠some g:=by
 rcases h1.2 with⟨rfl,_⟩|⟨g1,cap,cur,rfl,hb,hg,_⟩
 ·simp[Value.ownBlock]
 ·simp only[Value.ownBlock,ne_eq,Option.some.injEq]
  rintro rfl
  unfold Blk at h2
  rw[hg]at h2
  injection h2 with e;injection e with _ e
  exact ne e
theorem aAz {w1 wr w':World}{g n b:Nat}{o:Obj}{t:TypeId}{cs:Array Value}{v:Value}{xs:List Value}(X:Ext w1 wr)(B:Blk wr g t cs)(ht:TI≠t)(O:wr.ownsRow b TI 1 v n xs)(hb:w1.heap.size≤b)(hgrow:(wr.alloc o).grownBy w' v.ownBlock):
  Ext w1 w'∧Blk w' g t cs:=
 ⟨(X.alloc o).grown hgrow (fun q hq=>Nat.le_trans hb (O.lt q hq).1),(B.alloc o).grown hgrow (fun e=>fL O B ht e.symm)⟩
theorem aAy {wr w':World}{n b:Nat}{o:Obj}{v:Value}{xs:List Value}(O:wr.ownsRow b TI 1 v n xs)(hgrow:(wr.alloc o).grownBy w' v.ownBlock){b2 s2 n2:Nat}{v2:Value}{xs2:List Value}{e2:TypeId}(h2:wr.ownsRow b2 e2 s2 v2 n2 xs2)(ne:e2≠TI):w'.ownsRow b2 e2 s2 v2 n2 xs2:=
 (h2.alloc o).kept hgrow (aI7 h2 O ne)
theorem fW {w':World}{g i:Nat}{t:TypeId}{cs:Array Value}(B:Blk w' g t cs){u:Value}{b2 s2 n2:Nat}{v2:Value}{xs2:List Value}{e2:TypeId}(h2:w'.ownsRow b2 e2 s2 v2 n2 xs2)(ne:e2≠t):(w'.setCell ⟨g,i,none⟩ u).ownsRow b2 e2 s2 v2 n2 xs2:=
 h2.kept (((ExtR.refl g w').setCell (p:=⟨g,i,none⟩) (.inl rfl) u)) (.inr (fL h2 B ne))
def mN (o:Option zJ)(w:World)(e:Ending)(w':World):Prop:=
 ∃p n cap,n=(o.getD (0,0,[])).2.2.length∧e= .returned (.tuple #[aJ (o.getD (0,0,[])).1 (o.getD (0,0,[])).2.1 p n cap,.bool o.isSome])∧w'.ownsRow w.heap.size TI 1 (.slice p n cap) n (ivs (o.getD (0,0,[])).2.2)∧Ext w w'
theorem gG {o:Option zJ}{w w':World}(h:o=none)(hx:Ext w w'):mN o w (.returned (.tuple #[aJ 0 0 none 0 0,.bool false])) w':=by
 subst h;exact⟨none,0,0,rfl,rfl,World.ownsRow_nil _ _ _ _,hx⟩
theorem qM {o:Option zJ}{wd dp:Int}{xs:List Int}{w w':World}{p:Option Addr}{n cap:Nat}(h:o=some (wd,dp,xs))(hn:n=xs.length)(ho:w'.ownsRow w.heap.size TI 1 (.slice p n cap) n (ivs xs))(hx:Ext w w'):mN o w (.returned (.tuple #[aJ wd dp p n cap,.bool true])) w':=by
 subst h;subst hn;exact⟨p,_,cap,rfl,rfl,ho,hx⟩
def bU (rows:List (List UInt8))(k:Nat):List (List (List UInt8)):=(rows.take k).map (aL 44)
theorem sO (l:List UInt8){k:Nat}(h:(aL 47 l).length≤k):bU (aL 47 l) k=gR l:=by
 unfold bU gR;rw[List.take_of_length_le h]
theorem eQ {rows:List (List UInt8)}{k:Nat}{q:List UInt8}(h:rows[k]? =some q):bU rows (k+1)=bU rows k++ [aL 44 q]:=by
 unfold bU;rw[bF h,List.map_append];rfl
theorem sP (ps:List (List (List UInt8)))(r:List (List UInt8)):jC (ps++ [r])=r.length:=by simp[jC]
def cV (ps:List (List (List UInt8))):List Int:=ps.flatten.map fF
theorem iY (ps:List (List (List UInt8)))(r:List (List UInt8)):cV (ps++ [r])=cV ps++r.map fF:=by simp[cV]
theorem aCy {l:List UInt8}{k:Nat}{q:List UInt8}(h:(aL 47 l)[k]? =some q) (hf:kD (aL 44 q)=false):cF l=none:=by
 refine pM ?_
 unfold nW
 rw[Bool.and_eq_false_iff];right
 rw[List.all_eq_false]
 exact⟨aL 44 q,List.mem_map_of_mem (List.mem_of_getElem? h),by simp[hf]⟩
theorem aI2 {r:List (List UInt8)}(h:4<r.length):kD r=false:=by simp[kD];omega
theorem aJq {r:List (List UInt8)}{j:Nat}{c:List UInt8}(h:r[j]? =some c) (hc:nL c=none):kD r=false:=by
 unfold kD
 rw[Bool.and_eq_false_iff];right
 rw[List.all_eq_false]
 exact⟨c,List.mem_of_getElem? h,by simp[hc]⟩
theorem gO (l:List UInt8):cF l=if aR (cS l).1 (cS l).2.1 (cS l).2.2=true∧bO (cS l).1 (cS l).2.1 (cS l).2.2=l then some (cS l)else none:=rfl
set_option maxRecDepth 100000 in
set_option maxHeartbeats 1000000 in
theorem aAe (l:List UInt8)(w:World)(hs:l.length<4294967281)(hE:Env w):Calls Tryz.prog 86 #[str l] w (mN (cF l) w):=by
 have HS:Hid (∀q:List UInt8,q.length<4294967281→ ∀c w,Env w→Calls Tryz.prog 85 #[str q,.string ⟨#[c]⟩] w fun e w'=> ∃v,e= .returned v∧w'.ownsRow w.heap.size nD 1 v (aL c q).length (iQ (aL c q))∧Ext w w'):=
  fun q hq c w hE=>rL ⟨q.toArray⟩ c w (by simpa[ByteArray.size]using hq) hE
 have hlen:=dZ 47 l
 have HL:Hid (∀p∈aL 47 l,p.length<4294967281):=fun p hp=>Nat.lt_of_le_of_lt (hlen.1 p hp) hs
 have HR:Hid (∀(q:List UInt8) (x:Int) (b:Bool),q.length<4294967281→(bQ 2 q).getD 0=x→(bQ 2 q).isSome=b→ ∀w,Calls Tryz.prog 97 #[str q,.int .i64 2] w fun e w'=>e= .returned (.tuple #[.int .i64 x,.bool b])∧w=w'):=by
  intro q x b hq hx hb w
  subst hx;subst hb
  exact nS q 2 (by omega) (by unfold maxLen;omega) w
 have HE:=xQ hE
 have hlen2:=hlen.2
 have hpos:0<(aL 47 l).length:=List.length_pos_iff.2 (eH 47 l)
 clear hlen hE
 go_enter Tryz.func86,Tryz.ntmps86
 go_wp2_with fail
 refine(HS.out l hs 47 _ (HE.out.ext xE)).mono ?_
 rintro e w1 ⟨v,rfl,hown,h1⟩
 have hown1:=xQ (show w1.ownsRow (w.heap.size+1) nD 1 v (aL 47 l).length (iQ (aL 47 l)) by simpa using hown)
 have hX1:Ext w w1:=xE
 have HZ1:Hid (Blk w1 w.heap.size jZ Z3):=(Blk.new w _ _).ext h1
 have hz1:w.heap.size<w1.heap.size:=HZ1.out.lt
 have HX1:=xQ hX1
 clear hown h1 hX1
 obtain⟨gr,cr,rfl⟩:=Joins.ownsRow_form hown1.out hpos
 generalize hRq:(aL 47 l).length=R at*
 have HRq:=xQ hRq
 clear hRq
 have hR2:R≤4294967281:=by omega
 by_cases hR3:3<R
 ·have hno:Hid (cF l=none):=pM (by unfold nW;rw[HRq.out];simp;omega)
  have hR3':(3:Int)<(R:Int):=by omega
  obtain⟨z0,zf0,z1,zf1,z2,zf2⟩:=((HZ1.out.ext (Ext.refl w1))).trif
  have hxw:Ext w w1:=HX1.out.trans (Ext.refl w1)
  have hzz:w.heap.size<w1.heap.size:=(HZ1.out.ext (Ext.refl w1)).lt
  go_wp2
  exact bodyPost_ret (v:= .tuple #[aJ 0 0 none 0 0,.bool false]) (by simp[results,Tryz.results86,go_sem, *]) rfl (gG hno.out xE)
 ·have hR3': ¬(3:Int)<(R:Int):=by omega
  go_wp2
  go_loopw [25] (fun i wr=> ∃(k n:Nat) (p:Option Addr) (cap:Nat),k≤R∧i= .int .i64 k∧n=(cV (bU (aL 47 l) k)).length∧n≤4*k∧Ext w1 wr∧Blk wr w1.heap.size jZ #[.int .i64 (jC (bU (aL 47 l) k)),.int .i64 R,.slice p n cap]∧
   wr.ownsRow (w1.heap.size+1) TI 1 (.slice p n cap) n (ivs (cV (bU (aL 47 l) k)))∧ ∀r∈(bU (aL 47 l) k),kD r=true) (fun i _=>R-(intOf i).toNat)
  case atStart=>
   refine⟨0,0,none,0,Nat.zero_le _,rfl,rfl,Nat.zero_le _,xE,?_,World.ownsRow_nil _ _ _ _,by simp[bU]⟩
   have:=Blk.new w1 jZ #[.int .i64 0,.int .i64 R,.slice none 0 0]
   simpa[bU,jC]using this
  case round=>
   obtain⟨k,n,p,cap,hk,rfl,hn,hn4,hEr,hB,hO,hfine⟩:=hrel
   have HB:=xQ hB
   have HO:=xQ hO
   have HN:=xQ hn
   have HF:=xQ hfine
   clear hB hO hn hfine
   by_cases hlt:k<R
   ·obtain⟨q,hq⟩: ∃q,(aL 47 l)[k]? =some q:=⟨_,List.getElem?_eq_getElem (by rw[HRq.out];exact hlt)⟩
    have HQ:=xQ hq
    have hql:q.length<4294967281:=HL.out q (List.mem_of_getElem? hq)
    have e1:wr.cell? ⟨gr,k,none⟩=some (str q):=cY (aO hown1.out hEr) k hlt q hq
    clear hq
    have i1:(0:Int)≤(k:Int):=by omega
    have i2:(k:Int)<(R:Int):=by omega
    have hzr:w1.heap.size<wr.heap.size:=HB.out.lt
    go_wp2_with fail
    refine(HS.out q hql 44 _ (HE.out.ext (HX1.out.trans xE))).mono ?_
    rintro e w2 ⟨v2,rfl,hown2,h2⟩
    clear e1
    have hlen3:=(dZ 44 q).2
    have hpos2:0<(aL 44 q).length:=List.length_pos_iff.2 (eH 44 q)
    have XM:=xQ (hEr.trans h2)
    have BM:=xQ (HB.out.ext h2)
    have OM:=xQ (aO HO.out h2)
    obtain⟨bW,OW⟩: ∃bW,Hid (w2.ownsRow bW nD 1 v2 (aL 44 q).length (iQ (aL 44 q))):=⟨_,hown2⟩
    have hzr2:wr.heap.size≤w2.heap.size:=h2.sz
    clear hown2 h2
    obtain⟨g2,c2,rfl⟩:=Joins.ownsRow_form OW.out hpos2
    have HLR:Hid (∀c∈aL 44 q,c.length<4294967281):=fun c hc=>Nat.lt_of_le_of_lt ((dZ 44 q).1 c hc) hql
    generalize hm:(aL 44 q).length=m at*
    have HM:=xQ hm
    clear hm
    by_cases hm4:4<m
    ·have hno:Hid (cF l=none):=aCy HQ.out (aI2 (by rw[HM.out];exact hm4))
     have hm4':(4:Int)<(m:Int):=by omega
     obtain⟨z0,zf0,z1,zf1,z2,zf2⟩:=((HZ1.out.ext XM.out)).trif
     have hxw:Ext w w2:=HX1.out.trans XM.out
     have hzz:w.heap.size<w2.heap.size:=(HZ1.out.ext XM.out).lt
     go_wp2
     exact bodyPost_ret (v:= .tuple #[aJ 0 0 none 0 0,.bool false]) (by simp[results,Tryz.results86,go_sem, *]) rfl (gG hno.out xE)
    ·have hm4': ¬(4:Int)<(m:Int):=by omega
     obtain⟨b0,bf0,b1,bf1,b2,bf2⟩:=(BM.out).trif
     go_wp2
     clear b0 b1 b2 bf0 bf1 bf2
     go_loopw [40] (fun i wz=> ∃(j n:Nat) (p:Option Addr) (cap:Nat),j≤m∧i= .int .i64 j∧n=(cV (bU (aL 47 l) k)++((aL 44 q).take j).map fF).length∧n≤4*k+j∧Ext w1 wz∧Blk wz w1.heap.size jZ #[.int .i64 m,.int .i64 R,.slice p n cap]∧
      wz.ownsRow (w1.heap.size+1) TI 1 (.slice p n cap) n (ivs (cV (bU (aL 47 l) k)++((aL 44 q).take j).map fF))∧wz.ownsRow bW nD 1 (.slice (some ⟨g2,0,none⟩) m c2) m (iQ (aL 44 q))∧ ∀c∈(aL 44 q).take j,(nL c).isSome=true) (fun i _=>m-(intOf i).toNat)
     case atStart=>
      refine⟨0,n,p,cap,Nat.zero_le _,rfl,by simpa using HN.out,by omega,XM.out.setCell (Nat.le_refl _) _,?_,?_,fW BM.out OW.out (by decide),by simp⟩
      ·have:=BM.out.set 0 (.int .i64 m)
       simpa using this
      ·have:=fW (i:=0) (u:= .int .i64 m) BM.out OM.out (by decide)
       simpa using this
     case round=>
      clear HN HO HB XM BM OM OW hn4 n p cap
      obtain⟨j,n,p,cap,hj,rfl,hn,hn4,hEz,hB,hO,hW,hfn⟩:=hrel
      have XZ:=xQ hEz
      have BZ:=xQ hB
      have OZ:=xQ hO
      have OWZ:=xQ hW
      have HNZ:=xQ hn
      have HF2:=xQ hfn
      have hzz2:w1.heap.size<wr.heap.size:=hB.lt
      clear hEz hB hO hW hn hfn
      by_cases hlt2:j<m
      ·obtain⟨c,hc⟩: ∃c,(aL 44 q)[j]? =some c:=⟨_,List.getElem?_eq_getElem (by rw[HM.out];exact hlt2)⟩
       have HC:=xQ hc
       have hcl:c.length<4294967281:=HLR.out c (List.mem_of_getElem? hc)
       have e2:wr.cell? ⟨g2,j,none⟩=some (str c):=cY OWZ.out j hlt2 c hc
       clear hc
       have i3:(0:Int)≤(j:Int):=by omega
       have i4:(j:Int)<(m:Int):=by omega
       obtain⟨b0,bf0,b1,bf1,b2,bf2⟩:=(BZ.out).trif
       by_cases hd:c= [46]
       ·have hd2:(c== [46])=true:=by simp[hd]
        have HCS:Hid (fF c=0):=by show _=_;rw[hd];rfl
        have HFN:Hid (∀c∈(aL 44 q).take (j+1),(nL c).isSome=true):=by
         rw[xQ (bF HC.out)]
         intro x hx
         rcases List.mem_append.1 hx with h|h
         ·exact HF2.out x h
         ·obtain rfl:x=c:=by simpa using h
          rw[hd];rfl
        clear hd
        go_wp2_with (at_builtin;refine cP gW rfl _ _ rfl (w1.heap.size+1) (.slice p n cap) n _ rfl (OZ.out.alloc _) _ _ (0) _ rfl (by simp) (by omega) (by simp;omega) ?_;intro p2 cap2 w3 hown3 hgrow3;obtain⟨X3,B3⟩:=aAz XZ.out BZ.out (by decide) OZ.out (by omega) hgrow3;have OW3:=aAy OZ.out hgrow3 OWZ.out (by decide);clear hgrow3 b0 b1 b2 bf0 bf1 bf2 e2;(have b0:w3.cell? ⟨w1.heap.size,0,none⟩=some (.int .i64 m):=B3.cell 0);(have b1:w3.cell? ⟨w1.heap.size,1,none⟩=some (.int .i64 R):=B3.cell 1);(have b2:w3.cell? ⟨w1.heap.size,2,none⟩=some (.slice p n cap):=B3.cell 2);(have bf0:w3.frozen? ⟨w1.heap.size,0,none⟩=false:=B3.frozen 0);(have bf1:w3.frozen? ⟨w1.heap.size,1,none⟩=false:=B3.frozen 1);(have bf2:w3.frozen? ⟨w1.heap.size,2,none⟩=false:=B3.frozen 2);have hz3:w1.heap.size<w3.heap.size:=B3.lt)
        have B4:=xQ (show Blk (w3.setCell ⟨w1.heap.size,2,none⟩ (.slice p2 (n+1) cap2)) w1.heap.size jZ #[.int .i64 m,.int .i64 R,.slice p2 (n+1) cap2] by have:=B3.set 2 (.slice p2 (n+1) cap2);simpa using this)
        have O4:Hid ((w3.setCell ⟨w1.heap.size,2,none⟩ (.slice p2 (n+1) cap2)).ownsRow (w1.heap.size+1) TI 1 (.slice p2 (n+1) cap2) (n+1) (ivs (cV (bU (aL 47 l) k)++((aL 44 q).take (j+1)).map fF))):=by
         have:=fW (i:=2) (u:= .slice p2 (n+1) cap2) B3 hown3 (by decide)
         rw[List.append_assoc,show((aL 44 q).take j).map fF++ [0]=((aL 44 q).take (j+1)).map fF by rw[bF HC.out,List.map_append];simp[HCS.out]]at this
         exact this
        have OW4:Hid ((w3.setCell ⟨w1.heap.size,2,none⟩ (.slice p2 (n+1) cap2)).ownsRow bW nD 1 (.slice (some ⟨g2,0,none⟩) m c2) m (iQ (aL 44 q))):=fW B3 OW3 (by decide)
        have X4:Ext w1 (w3.setCell ⟨w1.heap.size,2,none⟩ (.slice p2 (n+1) cap2)):=X3.setCell (Nat.le_refl _) _
        clear hown3 OW3 B3
        go_roundw
        case rel=>exact⟨j+1,n+1,p2,cap2,by omega,by go_num,by have hmm:=HM.out;rw[HNZ.out];simp only[List.length_append,List.length_map,List.length_take];omega,by omega,X4,B4.out,O4.out,OW4.out,HFN.out⟩
        case measure=>simp[intOf];omega
       ·have hd2:(c== [46])=false:=by simp[hd]
        cases hr:bQ 2 c with
        |none=>
         have hno:Hid (cF l=none):=aCy HQ.out (aJq HC.out (by unfold nL;rw[if_neg hd,hr]))
         have HRc:=xQ (HR.out c 0 false hcl (by rw[hr];rfl) (by rw[hr];rfl))
         clear hr hd
         go_wp2_with fail
         refine(HRc.out _).mono ?_
         rintro e w2 ⟨rfl,rfl⟩
         clear b0 b1 b2 bf0 bf1 bf2 e2
         obtain⟨z0,zf0,z1,zf1,z2,zf2⟩:=((HZ1.out.ext XZ.out)).trif
         have hxw:Ext w wr:=HX1.out.trans XZ.out
         have hzz:w.heap.size<wr.heap.size:=(HZ1.out.ext XZ.out).lt
         go_wp2
         exact bodyPost_ret (v:= .tuple #[aJ 0 0 none 0 0,.bool false]) (by simp[results,Tryz.results86,go_sem, *]) rfl (gG hno.out xE)
        |some x=>
         have HCS:Hid (fF c=x):=aFe (by unfold nL;rw[if_neg hd,hr])
         have HFN:Hid (∀c∈(aL 44 q).take (j+1),(nL c).isSome=true):=by
          rw[xQ (bF HC.out)]
          intro y hy
          rcases List.mem_append.1 hy with h|h
          ·exact HF2.out y h
          ·obtain rfl:y=c:=by simpa using h
           unfold nL;rw[if_neg hd,hr];rfl
         have HRc:=xQ (HR.out c x true hcl (by rw[hr];rfl) (by rw[hr];rfl))
         clear hr hd
         go_wp2_with fail
         refine(HRc.out _).mono ?_
         rintro e w2 ⟨rfl,rfl⟩
         go_wp2_with (at_builtin;refine cP gW rfl _ _ rfl (w1.heap.size+1) (.slice p n cap) n _ rfl (OZ.out.alloc _) _ _ (x) _ rfl (by simp) (by omega) (by simp;omega) ?_;intro p2 cap2 w3 hown3 hgrow3;obtain⟨X3,B3⟩:=aAz XZ.out BZ.out (by decide) OZ.out (by omega) hgrow3;have OW3:=aAy OZ.out hgrow3 OWZ.out (by decide);clear hgrow3 b0 b1 b2 bf0 bf1 bf2 e2;(have b0:w3.cell? ⟨w1.heap.size,0,none⟩=some (.int .i64 m):=B3.cell 0);(have b1:w3.cell? ⟨w1.heap.size,1,none⟩=some (.int .i64 R):=B3.cell 1);(have b2:w3.cell? ⟨w1.heap.size,2,none⟩=some (.slice p n cap):=B3.cell 2);(have bf0:w3.frozen? ⟨w1.heap.size,0,none⟩=false:=B3.frozen 0);(have bf1:w3.frozen? ⟨w1.heap.size,1,none⟩=false:=B3.frozen 1);(have bf2:w3.frozen? ⟨w1.heap.size,2,none⟩=false:=B3.frozen 2);have hz3:w1.heap.size<w3.heap.size:=B3.lt)
         have B4:=xQ (show Blk (w3.setCell ⟨w1.heap.size,2,none⟩ (.slice p2 (n+1) cap2)) w1.heap.size jZ #[.int .i64 m,.int .i64 R,.slice p2 (n+1) cap2] by have:=B3.set 2 (.slice p2 (n+1) cap2);simpa using this)
         have O4:Hid ((w3.setCell ⟨w1.heap.size,2,none⟩ (.slice p2 (n+1) cap2)).ownsRow (w1.heap.size+1) TI 1 (.slice p2 (n+1) cap2) (n+1) (ivs (cV (bU (aL 47 l) k)++((aL 44 q).take (j+1)).map fF))):=by
          have:=fW (i:=2) (u:= .slice p2 (n+1) cap2) B3 hown3 (by decide)
          rw[List.append_assoc,show((aL 44 q).take j).map fF++ [x]=((aL 44 q).take (j+1)).map fF by rw[bF HC.out,List.map_append];simp[HCS.out]]at this
          exact this
         have OW4:Hid ((w3.setCell ⟨w1.heap.size,2,none⟩ (.slice p2 (n+1) cap2)).ownsRow bW nD 1 (.slice (some ⟨g2,0,none⟩) m c2) m (iQ (aL 44 q))):=fW B3 OW3 (by decide)
         have X4:Ext w1 (w3.setCell ⟨w1.heap.size,2,none⟩ (.slice p2 (n+1) cap2)):=X3.setCell (Nat.le_refl _) _
         clear hown3 OW3 B3
         go_roundw
         case rel=>exact⟨j+1,n+1,p2,cap2,by omega,by go_num,by have hmm:=HM.out;rw[HNZ.out];simp only[List.length_append,List.length_map,List.length_take];omega,by omega,X4,B4.out,O4.out,OW4.out,HFN.out⟩
         case measure=>simp[intOf];omega
      ·obtain rfl:j=m:=by omega
       have HT:Hid ((aL 44 q).take j=aL 44 q):=List.take_of_length_le (by rw[HM.out];exact Nat.le_refl _)
       go_wp2
       go_roundw
       case rel=>
        refine⟨k+1,n,p,cap,by omega,by go_num,?_,by omega,XZ.out,?_,?_,?_⟩
        ·rw[eQ HQ.out,iY,HNZ.out,HT.out]
        ·rw[eQ HQ.out,sP,HM.out];exact BZ.out
        ·rw[eQ HQ.out,iY];have:=OZ.out;rw[HT.out]at this;exact this
        ·rw[eQ HQ.out]
         intro r hr
         rcases List.mem_append.1 hr with h|h
         ·exact HF.out r h
         ·obtain rfl:r=aL 44 q:=by simpa using h
          have h2:=HF2.out
          rw[HT.out]at h2
          simp only[kD,Bool.and_eq_true,decide_eq_true_eq,List.all_eq_true]
          exact⟨by rw[HM.out];omega,h2⟩
       case measure=>simp[intOf];omega
   ·obtain rfl:k=R:=by omega
    have hWW:Hid (bU (aL 47 l) k=gR l):=sO l (by rw[HRq.out];exact Nat.le_refl _)
    have hHP:Hid (cS l=(jC (bU (aL 47 l) k),(k:Int),cV (bU (aL 47 l) k))):=by show _=_;unfold cS;rw[hWW.out,HRq.out];rfl
    generalize hwd:jC (bU (aL 47 l) k)=wd at*
    generalize hxs:cV (bU (aL 47 l) k)=xs at*
    clear hwd hxs
    have hzr:w1.heap.size<wr.heap.size:=HB.out.lt
    obtain⟨b0,b1,b2⟩:=(HB.out).tri
    have HV:=xQ (fun w' (hx:Ext wr w')=>rY wd k p n cap xs w' ((Sl.own HO.out).ext hx))
    cases hok:aR wd k xs with
    |false=>
     have hno:Hid (cF l=none):=by show _=_;rw[gO,hHP.out];simp[hok]
     rw[hok]at HV
     clear hok
     go_wp2_with fail
     refine(HV.out _ xE).mono ?_
     rintro e w2 ⟨rfl,h2⟩
     clear b0 b1 b2
     have XF:=xQ (show Ext w1 w2 from xE)
     clear h2
     obtain⟨z0,zf0,z1,zf1,z2,zf2⟩:=((HZ1.out.ext XF.out)).trif
     have hxw:Ext w w2:=HX1.out.trans XF.out
     have hzz:w.heap.size<w2.heap.size:=(HZ1.out.ext XF.out).lt
     go_wp2
     exact bodyPost_ret (v:= .tuple #[aJ 0 0 none 0 0,.bool false]) (by simp[results,Tryz.results86,go_sem, *]) rfl (gG hno.out xE)
    |true=>
     rw[hok]at HV
     go_wp2_with fail
     refine(HV.out _ xE).mono ?_
     rintro e w2 ⟨rfl,h2⟩
     clear b0 b1 b2
     have h2':Ext wr w2:=xE
     have B2:=xQ (HB.out.ext h2')
     have O2:=xQ (aO HO.out h2')
     have X2:=xQ (show Ext w1 w2 from xE)
     have hz2:w1.heap.size<w2.heap.size:=B2.out.lt
     clear h2 h2'
     have HT:=xQ (fun w' (hx:Ext w2 w') (hE:Env w')=>kH wd k p n cap xs w' hE ((Sl.own O2.out).ext hx))
     obtain⟨b0,b1,b2⟩:=(B2.out).tri
     go_wp2_with fail
     refine(HT.out _ xE (HE.out.ext (HX1.out.trans (X2.out.trans xE)))).mono ?_
     rintro e w3 ⟨rfl,h3⟩
     clear b0 b1 b2
     have h3':Ext w2 w3:=xE
     have B3:=xQ (B2.out.ext h3')
     have O3:=xQ (aO O2.out h3')
     have X3:=xQ (show Ext w1 w3 by have:=X2.out;exact xE)
     clear h3 h3'
     by_cases ht:bO wd k xs=l
     ·have hd2:(bO wd k xs==l)=true:=by simp[ht]
      have hyes:Hid (cF l=some (wd,(k:Int),xs)):=by show _=_;rw[gO,hHP.out];simp[hok,ht]
      clear ht hok
      obtain⟨b0,b1,b2⟩:=(B3.out).tri
      obtain⟨z0,zf0,z1,zf1,z2,zf2⟩:=((HZ1.out.ext X3.out)).trif
      have hzz:w.heap.size<w3.heap.size:=(HZ1.out.ext X3.out).lt
      have hne: ¬w.heap.size=w1.heap.size:=by omega
      go_wp2
      generalize hw5:World.setCell _ _ _=w5
      have hR5:ExtR w.heap.size w3 w5:=by rw[←hw5];exact(((ExtR.refl _ w3).setCell (p:=⟨w.heap.size,0,none⟩) (.inl rfl) _).setCell (p:=⟨w.heap.size,1,none⟩) (.inl rfl) _).setCell (p:=⟨w.heap.size,2,none⟩) (.inl rfl) _
      have Y5:=(((HZ1.out.ext X3.out).set 0 (.int .i64 wd)).set 1 (.int .i64 k)).set 2 (.slice p n cap)
      simp only[Z3,List.setIfInBounds_toArray,List.set_cons_zero,List.set_cons_succ]at Y5
      rw[hw5]at Y5
      have O5:w5.ownsRow w.heap.size TI 1 (.slice p n cap) n (ivs xs):=aZ (O3.out.kept hR5 (.inr (fL O3.out (HZ1.out.ext X3.out) (by decide)))) (by omega)
      have X5:Ext w w5:=ExtR.new (HX1.out.trans X3.out) hR5 (Nat.le_refl _)
      clear hw5 z0 z1 z2 zf0 zf1 zf2 b0 b1 b2
      obtain⟨y0,y1,y2⟩:=(Y5).tri
      exact bodyPost_ret (v:= .tuple #[aJ wd k p n cap,.bool true]) (by simp[results,Tryz.results86,go_sem, *]) rfl (qM hyes.out HN.out O5 X5)
     ·have hd2:(bO wd k xs==l)=false:=by simp[ht]
      have hno:Hid (cF l=none):=by show _=_;rw[gO,hHP.out];simp[ht]
      clear ht hok
      obtain⟨z0,zf0,z1,zf1,z2,zf2⟩:=((HZ1.out.ext X3.out)).trif
      have hxw:Ext w w3:=HX1.out.trans X3.out
      have hzz:w.heap.size<w3.heap.size:=(HZ1.out.ext X3.out).lt
      go_wp2
      exact bodyPost_ret (v:= .tuple #[aJ 0 0 none 0 0,.bool false]) (by simp[results,Tryz.results86,go_sem, *]) rfl (gG hno.out xE)
def rG (l:List UInt8)(w:World)(e:Ending)(w':World):Prop:=
 ∃p n cap,n=(aL 44 l).length∧e= .returned (.tuple #[.slice p n cap,.bool ((n:Int)==4)])∧w'.ownsRow w.heap.size TI 1 (.slice p n cap) n (ivs (jB l))∧Ext w w'
set_option maxRecDepth 100000 in
set_option maxHeartbeats 1000000 in
theorem aHm (l:List UInt8)(w:World)(hs:l.length≤1099511627776):Calls Tryz.prog 83 #[str l] w (rG l w):=by
 have HC:Hid (∀w,Calls Tryz.prog 81 #[str l,.int .u8 44] w fun e w'=> ∃v,e= .returned v∧w'.ownsRow w.heap.size nD 1 v (aL 44 l).length (iQ (aL 44 l))∧Ext w w'):=fun w=>oT ⟨l.toArray⟩ 44 44 rfl w (by simpa[ByteArray.size]using hs)
 have HLR:Hid (∀c∈aL 44 l,c.length≤maxLen):=fun c hc=>by have:=(dZ 44 l).1 c hc;unfold maxLen;omega
 have HW:Hid (∀c:List UInt8,c.length≤maxLen→ ∀w,Calls Tryz.prog 84 #[str c] w fun e w'=>e= .returned (.int .i64 (eF c))∧Ext w w'):=fun c hc w=>sY c w hc
 have hlen:=(dZ 44 l).2
 have hpos:0<(aL 44 l).length:=List.length_pos_iff.2 (eH 44 l)
 have HF:Hid (jB l=(aL 44 l).map eF):=rfl
 unfold rG
 rw[HF.out]
 generalize hm:(aL 44 l).length=m at*
 have HM:=xQ hm
 clear hm
 go_enter Tryz.func83,Tryz.ntmps83
 go_wp2_with fail
 refine(HC.out _).mono ?_
 rintro e w1 ⟨v,rfl,hown,h1⟩
 obtain⟨g,c,rfl⟩:=Joins.ownsRow_form hown hpos
 have OW:=xQ hown
 have X1:=xQ (show Ext w w1 from xE)
 have hz1:w.heap.size≤w1.heap.size:=h1.sz
 clear hown h1
 go_wp2
 go_loopw [5,6] (fun v i wr=> ∃(k:Nat) (p:Option Addr) (cap:Nat),k≤m∧i= .int .i64 k∧v= .slice p k cap∧Ext w1 wr∧wr.ownsRow w1.heap.size TI 1 (.slice p k cap) k (ivs (((aL 44 l).take k).map eF))) (fun _ i _=>m-(intOf i).toNat)
 case atStart=>exact⟨0,_,_,Nat.zero_le _,rfl,rfl,xE,World.ownsRow_made _ #[] 0 (Nat.le_refl _) (by simp[maxLen]) rfl⟩
 case round=>
  obtain⟨k,p,cap,hk,rfl,rfl,hE,hO⟩:=hrel
  have HO:=xQ hO
  clear hO
  by_cases hlt:k<m
  ·obtain⟨q,hq⟩: ∃q,(aL 44 l)[k]? =some q:=⟨_,List.getElem?_eq_getElem (by rw[HM.out];exact hlt)⟩
   have HQ:=xQ hq
   have hql:=HLR.out q (List.mem_of_getElem? hq)
   have e1:wr.cell? ⟨g,k,none⟩=some (str q):=cY (aO OW.out hE) k hlt q hq
   clear hq
   have i1:(0:Int)≤(k:Int):=by omega
   have i2:(k:Int)<(m:Int):=by omega
   go_wp2_with fail
   refine(HW.out q hql _).mono ?_
   rintro e w2 ⟨rfl,h2⟩
   have h2':Ext wr w2:=xE
   have O2:=xQ (aO HO.out h2')
   have X2:Ext w1 w2:=hE.trans h2'
   have hsz2:=X2.sz
   clear h2 e1
   go_wp2_with (at_builtin;refine cP gW rfl _ _ rfl w1.heap.size (.slice p k cap) k _ rfl (O2.out.alloc _) _ _ (eF q) _ rfl (by simp) (by omega) (by simp;omega) ?_;intro p2 cap2 w3 hown3 hgrow3)
   have X3:Ext w1 w3:=(X2.alloc _).grown hgrow3 (fun q hq=>(O2.out.lt q hq).1)
   have O3:Hid (w3.ownsRow w1.heap.size TI 1 (.slice p2 (k+1) cap2) (k+1) (ivs (((aL 44 l).take (k+1)).map eF))):=by
    rw[bF HQ.out,List.map_append];exact hown3
   clear hown3 hgrow3
   go_roundw
   case rel=>exact⟨k+1,p2,cap2,by omega,by go_num,rfl,X3,O3.out⟩
   case measure=>simp[intOf];omega
  ·obtain rfl:k=m:=by omega
   go_wp2
   refine bodyPost_ret (v:= .tuple #[.slice p k cap,.bool ((k:Int)==4)]) (by simp[results,Tryz.results83,go_sem, *]) rfl ?_
   refine⟨p,k,cap,rfl,rfl,?_,X1.out.trans hE⟩
   have:=HO.out
   rw[List.take_of_length_le (by rw[HM.out];exact Nat.le_refl _)]at this
   exact aZ this hz1
def pD (o:Option (List Int))(w:World)(e:Ending)(w':World):Prop:=
 ∃p n cap,n=(o.getD []).length∧e= .returned (.tuple #[.slice p n cap,.bool o.isSome])∧w'.ownsRow w.heap.size TI 1 (.slice p n cap) n (ivs (o.getD []))∧Ext w w'
theorem sS {o:Option (List Int)}{w w':World}(h:o=none)(hx:Ext w w'):pD o w (.returned (.tuple #[.slice none 0 0,.bool false])) w':=by
 subst h;exact⟨none,0,0,rfl,rfl,World.ownsRow_nil _ _ _ _,hx⟩
theorem aC5 {m:Nat}{l:List UInt8}(h: ¬(aL 44 l).length=m):bI m l=none:=by unfold bI;rw[if_neg (fun hc=>h hc.1)]
theorem aC6 {m k:Nat}{l q:List UInt8}(h:(aL 44 l)[k]? =some q) (hq:bQ 5 q=none):bI m l=none:=by
 unfold bI;rw[if_neg]
 rintro⟨_,h2⟩
 have:=List.all_eq_true.1 h2 q (List.mem_of_getElem? h)
 rw[hq]at this;simp at this
abbrev nI (c:List UInt8):Int:=(bQ 5 c).getD 0
theorem aI9 {m:Nat}{l:List UInt8}(h:(aL 44 l).length=m)(h2: ∀q∈aL 44 l,(bQ 5 q).isSome=true):bI m l=some ((aL 44 l).map nI):=by
 unfold bI;rw[if_pos ⟨h,List.all_eq_true.2 h2⟩]
theorem aGi {xs:List (List UInt8)}{k n:Nat}{c:List UInt8}(h:k<n)(hx:xs[k]? =some c) (hl:(xs.take k).length=k) (x:Int) (hc:nI c=x):(ivs ((xs.take k).map nI++List.replicate (n-k) 0)).set k (.int .i64 x)=ivs ((xs.take (k+1)).map nI++List.replicate (n-(k+1)) 0):=by
 subst hc
 rw[bF hx,show n-k=(n-(k+1))+1 by omega,List.replicate_succ]
 simp only[ivs,List.map_append,List.map_cons,List.map_nil]
 have hl':(List.map iv (List.map nI (xs.take k))).length=k:=by rw[List.length_map,List.length_map,hl]
 rw[List.set_append_right _ _ (by rw[hl'];exact Nat.le_refl _),hl',Nat.sub_self,List.set_cons_zero,List.append_assoc]
 rfl
theorem aIg {xs:List (List UInt8)}{k n:Nat}(h:k<n)(hl:(xs.take k).length=k):(ivs ((xs.take k).map nI++List.replicate (n-k) 0))[k]? =some (.int .i64 0):=by
 rw[show n-k=(n-(k+1))+1 by omega,List.replicate_succ]
 simp only[ivs,List.map_append,List.map_cons]
 have hl':(List.map iv (List.map nI (xs.take k))).length=k:=by rw[List.length_map,List.length_map,hl]
 rw[List.getElem?_append_right (by rw[hl'];exact Nat.le_refl _),hl',Nat.sub_self]
 rfl
set_option maxRecDepth 100000 in
set_option maxHeartbeats 1000000 in
theorem qV (l:List UInt8)(n:Nat)(w:World)(hn0:1≤n)(hn:n≤10)(hs:l.length<4294967281)(hE:Env w):Calls Tryz.prog 87 #[str l,.int .i64 n] w (pD (bI n l) w):=by
 obtain⟨i0,hi,hz0,hz1,hz2⟩:=info_parts (show(Tryz.prog.info? 3).map (fun i=>(i.zero,i.size,i.bytes))=some (some (.int .i64 0),1,8) by kernel_rfl)
 have HS:Hid (∀w,Env w→Calls Tryz.prog 85 #[str l,.string ⟨#[44]⟩] w fun e w'=> ∃v,e= .returned v∧w'.ownsRow w.heap.size nD 1 v (aL 44 l).length (iQ (aL 44 l))∧Ext w w'):=
  fun w hE=>rL ⟨l.toArray⟩ 44 w (by simpa[ByteArray.size]using hs) hE
 have hlen:=dZ 44 l
 have HL:Hid (∀p∈aL 44 l,p.length<4294967281):=fun p hp=>Nat.lt_of_le_of_lt (hlen.1 p hp) hs
 have HR:Hid (∀(q:List UInt8) (x:Int) (b:Bool),q.length<4294967281→(bQ 5 q).getD 0=x→(bQ 5 q).isSome=b→ ∀w,Calls Tryz.prog 97 #[str q,.int .i64 5] w fun e w'=>e= .returned (.tuple #[.int .i64 x,.bool b])∧w=w'):=by
  intro q x b hq hx hb w
  subst hx;subst hb
  exact nS q 5 (by omega) (by unfold maxLen;omega) w
 have HE:=xQ hE
 have hlen2:=hlen.2
 have hpos:0<(aL 44 l).length:=List.length_pos_iff.2 (eH 44 l)
 clear hlen hE
 go_enter Tryz.func87,Tryz.ntmps87
 go_wp2_with fail
 refine(HS.out _ (HE.out.ext xE)).mono ?_
 rintro e w1 ⟨v,rfl,hown,h1⟩
 obtain⟨g,c,rfl⟩:=Joins.ownsRow_form hown hpos
 have OW:=xQ hown
 have X1:=xQ (show Ext w w1 from xE)
 have hz1':w.heap.size≤w1.heap.size:=h1.sz
 clear hown h1
 by_cases hm:(aL 44 l).length=n
 ·have HM:=xQ hm
  have hq0:(((aL 44 l).length:Int)==(n:Int))=true:=by simp[hm]
  rw[hm]at OW hpos hlen2 hq0⊢
  clear hm
  go_wp2_with (at_make;refine wpList_make_full _ rfl _ _ 23 rfl w1.heap.size 3 i0 (.int .i64 0) 1 Tryz.underlying23 hi hz0 hz1 .i64 .i64 _ _ n rfl rfl rfl rfl (by rw[hz2];omega) (by unfold maxLen;omega) (by simp) ?_;intro w0 hown0 hgrow0)
  have hE0:Ext w1 w0:=(Ext.refl w1).grown hgrow0 (fun q hq=>by cases hq)
  have hg0:=(hown0.lt w1.heap.size rfl).2
  rw[yM]at hown0
  have HO0:=xQ hown0
  clear hown0 hgrow0 hi hz0 hz1 hz2
  go_loopw [22] (fun i wr=> ∃k:Nat,k≤n∧i= .int .i64 k∧wr.ownsRow w1.heap.size TI 1 (.slice (some ⟨w1.heap.size,0,none⟩) n n) n (ivs (((aL 44 l).take k).map nI++List.replicate (n-k) 0))∧Ext w1 wr∧ ∀q∈(aL 44 l).take k,(bQ 5 q).isSome=true) (fun i _=>n-(intOf i).toNat)
  case atStart=>exact⟨0,Nat.zero_le _,rfl,by simpa using HO0.out,hE0,by simp⟩
  case round=>
   obtain⟨k,hk,rfl,hown,hEr,hfn⟩:=hrel
   have HO:=xQ hown
   have HF:=xQ hfn
   clear hown hfn
   by_cases hlt:k<n
   ·obtain⟨q,hq⟩: ∃q,(aL 44 l)[k]? =some q:=⟨_,List.getElem?_eq_getElem (by rw[HM.out];exact hlt)⟩
    have HQ:=xQ hq
    have hql:=HL.out q (List.mem_of_getElem? hq)
    have e1:wr.cell? ⟨g,k,none⟩=some (str q):=cY (aO OW.out hEr) k hlt q hq
    clear hq
    have i1:(0:Int)≤(k:Int):=by omega
    have i2:(k:Int)<(n:Int):=by omega
    cases hr:bQ 5 q with
    |none=>
     have hno:Hid (bI n l=none):=aC6 HQ.out hr
     have HRc:=xQ (HR.out q 0 false hql (by rw[hr];rfl) (by rw[hr];rfl))
     clear hr
     go_wp2_with fail
     refine(HRc.out _).mono ?_
     rintro e w2 ⟨rfl,rfl⟩
     go_wp2
     exact bodyPost_ret (v:= .tuple #[.slice none 0 0,.bool false]) (by simp[results,Tryz.results87,go_sem, *]) rfl <| sS hno.out (X1.out.trans xE)
    |some x=>
     have HRc:=xQ (HR.out q x true hql (by rw[hr];rfl) (by rw[hr];rfl))
     have HFN:Hid (∀q∈(aL 44 l).take (k+1),(bQ 5 q).isSome=true):=by
      rw[xQ (bF HQ.out)]
      intro y hy
      rcases List.mem_append.1 hy with h|h
      ·exact HF.out y h
      ·obtain rfl:y=q:=by simpa using h
       rw[hr];rfl
     have hxq:Hid (nI q=x):=by show _=_;unfold nI;rw[hr];rfl
     clear hr
     have hlt':((aL 44 l).take k).length=k:=by rw[List.length_take,HM.out];omega
     have hg1:w1.heap.size<wr.heap.size:=(HO.out.lt w1.heap.size rfl).2
     have o0:wr.cell? ⟨w1.heap.size,k,none⟩=some (.int .i64 0):=by
      rw[HO.out.cellAt k (by omega)]
      exact aIg hlt hlt'
     have f0:wr.frozen? ⟨w1.heap.size,k,none⟩=false:=HO.out.frozenAt k
     have HN:Hid ((wr.setCell ⟨w1.heap.size,k,none⟩ (.int .i64 x)).ownsRow w1.heap.size TI 1 (.slice (some ⟨w1.heap.size,0,none⟩) n n) n (ivs (((aL 44 l).take (k+1)).map nI++List.replicate (n-(k+1)) 0))):=by
      have:=(HO.out.stored k (.int .i64 x)).1
      rw[aGi hlt HQ.out hlt' x hxq.out]at this
      exact this
     go_wp2_with fail
     refine(HRc.out _).mono ?_
     rintro e w2 ⟨rfl,rfl⟩
     go_wp2
     go_roundw
     case rel=>exact⟨k+1,by omega,by go_num,HN.out,xE,HFN.out⟩
     case measure=>simp[intOf];omega
   ·obtain rfl:k=n:=by omega
    have hT:Hid ((aL 44 l).take k=aL 44 l):=List.take_of_length_le (by rw[HM.out];exact Nat.le_refl _)
    have hyes:Hid (bI k l=some ((aL 44 l).map nI)):=aI9 HM.out (by have:=HF.out;rwa[hT.out]at this)
    go_wp2
    refine bodyPost_ret (v:= .tuple #[.slice (some ⟨w1.heap.size,0,none⟩) k k,.bool true]) (by simp[results,Tryz.results87,go_sem, *]) rfl ?_
    rw[hyes.out]
    refine⟨_,k,_,by simp[HM.out],rfl,?_,X1.out.trans xE⟩
    have:=HO.out
    rw[hT.out,Nat.sub_self,List.replicate_zero,List.append_nil]at this
    exact aZ this hz1'
 ·have hno:Hid (bI n l=none):=aC5 hm
  have hq0:(((aL 44 l).length:Int)==(n:Int))=false:=by rw[beq_eq_false_iff_ne];omega
  generalize (aL 44 l).length=m at*
  clear hm
  go_wp2
  exact bodyPost_ret (v:= .tuple #[.slice none 0 0,.bool false]) (by simp[results,Tryz.results87,go_sem, *]) rfl <| sS hno.out (X1.out.trans xE)
end Go.Proofs.YteejdnmmpmcmeaaGreatDoor
