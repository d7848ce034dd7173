/-
  Texts of this proof, packed (@packed).
-/
import Derived.Test.YtahglfakiobbcaaGreatDoorK1
import Derived.Test.YtahglfakiobbcaaGreatDoorK5
import Derived.Test.YtahglfakiobbcaaGreatDoorK8
namespace Go.Proofs.YtahglfakiobbcaaGreatDoor
open Go.RowKit
set_option linter.unusedVariables false
set_option linter.unusedSimpArgs false
def lN (aA:Int)(n:Nat)(but:Int)(u:Nat):List Nat:=(aR aA n u).filter (fun(v:Nat)=>decide ((v:Int)≠but))
theorem aA6 (aA:Int)(n:Nat)(a:Int):gH aA n a=((List.range n).filter (fun(b:Nat)=>decide (aV aA a b=1))).map (fun(k:Nat)=>(k:Int)):=by
 unfold gH
 induction n with
 |zero=>rfl
 |succ n ih=>
  rw[eE,ih,List.range_succ,List.filter_append,List.map_append]
  congr 1
  by_cases h:aV aA a n=1<;>simp[h]
theorem iK (aA:Int)(n u:Nat):gH aA n u=(aR aA n u).map (fun(k:Nat)=>(k:Int)):=aA6 _ _ _
theorem aAv {aA:Int}{n:Nat}{but:Int}{u v:Nat}(h:v∈lN aA n but u):v<n:=(bI.1 (List.mem_filter.1 h).1).1
theorem Inv.one {adj:Nat→List Nat}{N s:Nat}(hs:s<N):Inv adj [s] N 0 ((List.replicate N (-1)).set s 0,[s]):=by
 have hl:s<(List.replicate N (-1:Int)).length:=by simpa using hs
 have hne: ∀v,v<N→s≠v→((List.replicate N (-1:Int)).set s 0).getD v 0= -1:=by
  intro v hv e
  rw[bP e]
  simp[List.getD,hv]
 refine⟨by simp,by simpa using hs,?_,by simp,by simp,?_,?_,?_,fun i u hi=>by omega⟩
 ·intro v hv
  dsimp only
  by_cases e:s=v
  ·subst e;rw[bR hl];simp
  ·rw[hne v hv e];simp;exact fun h=>e h.symm
 ·intro u hu v hv
  simp at hu hv;subst hu hv
  omega
 ·intro v hv
  simp at hv;subst hv
  dsimp only
  rw[bR hl]
  simp[kJ]
 ·intro v hv
  simp at hv;subst hv
  exact⟨by simp,bR hl⟩
theorem aDp (n s:Nat): ∀x∈(List.replicate n (-1:Int)).set s 0,-1≤x∧x≤((0:Nat):Int):=by
 intro x hx
 rcases List.mem_or_eq_of_mem_set hx with h|h
 ·rw[List.mem_replicate]at h;omega
 ·omega
theorem cL {D:List Int}{v:Nat}(h:v<D.length):D[v]? =some (D.getD v 0)∧D.getD v 0∈D:=by
 have:D[v]? =some (D.getD v 0):=by rw[List.getD_eq_getElem?_getD,List.getElem?_eq_getElem h];rfl
 exact⟨this,List.mem_of_getElem? this⟩
theorem aAm {nb:List Nat}{j v:Nat}{but:Int}(h:nb[j]? =some v) (hb:(v:Int)=but):(nb.take (j+1)).filter (fun(v:Nat)=>decide ((v:Int)≠but))=(nb.take j).filter (fun(v:Nat)=>decide ((v:Int)≠but)):=by
 rw[bH h,List.filter_append];simp[hb]
theorem wZ {nb:List Nat}{j v:Nat}{but:Int}(h:nb[j]? =some v) (hb:(v:Int)≠but):(nb.take (j+1)).filter (fun(v:Nat)=>decide ((v:Int)≠but))=(nb.take j).filter (fun(v:Nat)=>decide ((v:Int)≠but))++ [v]:=by
 rw[bH h,List.filter_append];simp[hb]
theorem iI {val:Int}{D:List Int}{Q:List Nat}{v:Nat}(h:D.getD v 0<0):dH val (D,Q) v=(D.set v val,Q++ [v]):=by unfold dH;rw[if_pos h]
theorem jM {val:Int}{D:List Int}{Q:List Nat}{v:Nat}(h: ¬D.getD v 0<0):dH val (D,Q) v=(D,Q):=by unfold dH;rw[if_neg h]
theorem aG3 {w:World}{B B2 n m c c2 sz sz2:Nat}{e e2:TypeId}{q q2:Option Addr}{xs ys:List Value}(h1:w.ownsRow B e sz (.slice q n c) n xs)(h2: ∀g,(Value.slice q2 m c2).ownBlock=some g→g<B)(h0:(Value.slice q2 m c2).ownBlock≠none):(Value.slice q2 m c2).ownBlock≠(Value.slice q n c).ownBlock:=by
 intro he
 cases hq:(Value.slice q n c).ownBlock with
 |none=>rw[hq]at he;exact h0 he
 |some g=>rw[hq]at he;have:=h2 g he;have:=(h1.lt g hq).1;omega
theorem aFu {w:World}{g n base:Nat}{t:TypeId}{cs:Array Value}(h:Blk w g t cs)(hn:cs.size=n)(hm:n≤maxLen)(hb:base≤g):w.ownsRow base t 1 (.slice (some ⟨g,0,none⟩) n n) n cs.toList:=
 ⟨by simpa using hn,.inr ⟨g,n,cs,rfl,hb,h,Nat.le_refl _,hm,by omega,by rw[Nat.mul_one,List.take_of_length_le (by simp;omega)]⟩⟩
abbrev aY (q:List Nat):List Int:=q.map (fun(k:Nat)=>(k:Int))
theorem eN {w:World}{ops:Array Oper}{rest:List Oper}{o:Oper}{a:Act}{Q:Exit→Act→World→Prop}(hgd:o.guard=none)(s x:Operand)
  (ho:o.op= .call {callee:= .builtin .append,args:=#[s,x],argTypes:=#[22,22]})
  (base:Nat)(v:Value)(n:Nat)(xs:List Int)(hs:a.eval s=v)(hown:w.ownsRow base 3 1 v n (ivs xs))
  (b off:Nat)(y:Int)(c:Nat)(hx:a.eval x= .slice (some ⟨b,off,none⟩) 1 c)(hc:w.cell? ⟨b,off,none⟩=some (iv y))
  (hn:n≤1099511627776)(hbase:base≤w.heap.size)
  (h: ∀p' cap' w',w'.ownsRow base 3 1 (.slice p' (n+1) cap') (n+1) (ivs (xs++ [y]))→w.grownBy w' v.ownBlock→((Value.slice p' (n+1) cap').ownBlock=v.ownBlock∨(Value.slice p' (n+1) cap').ownBlock=some w.heap.size)→wpList Tryz.prog ops Q rest (a.put o.dst (.slice p' (n+1) cap')) w'):wpList Tryz.prog ops Q (o::rest) a w:=by
 obtain⟨i,z,hi,hz,hsz,hby,hzs⟩:=eT.info
 refine wpList_append_own_at w hgd s x 22 ho base 3 i z 1 i.bytes eT.ht hi hz hsz rfl hzs eT.pos v n _ hs hown ⟨b,off,none⟩ 1 c [iv y] hx rfl (fun j u hu=> ?_) (fun u hu=>by simp at hu;subst hu;rfl) (by unfold maxLen;omega) ?_ hbase ?_
 ·match j,hu with
  |0,hu=>simp at hu;subst hu;rw[iV];exact hc
 ·have:(n+1)*i.bytes≤(n+1)*64:=Nat.mul_le_mul_left _ hby
  omega
 ·intro v' w' h2 h3 _ h5
  obtain⟨p,cap,rfl⟩:=kP h2
  exact h p cap w' (by simpa[ivs]using h2) h3 h5
set_option maxRecDepth 100000 in
set_option maxHeartbeats 1000000 in
theorem aBa (aA aB:Int)(p:Option Addr)(n cap src:Nat)(but:Int)(w:World)(hn0:4≤n)(hn:n≤12)(hs:src<n)
  (HC:Hid (∀(k:Nat),k<n→ ∀w',Ext w w'→Calls Tryz.prog 140 #[aK aA aB p n cap,.int .i64 k] w' (bB (aY (aR aA n k)) w'))):
  Calls Tryz.prog 139 #[aK aA aB p n cap,.int .i64 (src:Int),.int .i64 but] w fun e w'=> ∃D,nF (lN aA n but) [src] n D∧bB D w e w':=by
 have a1:(0:Int)≤(src:Int):=by omega
 have a2:(src:Int)<(n:Int):=by omega
 go_enter Tryz.func139,Tryz.ntmps139
 go_wp2
 go_loopw [7,8] (fun v i wr=> ∃(k:Nat) (q:Option Addr) (c:Nat),k≤n∧i= .int .i64 k∧v= .slice q k c∧wr.ownsRow (w.heap.size+1) TI 1 (.slice q k c) k (ivs (List.replicate k (-1)))∧Ext w wr∧Blk wr w.heap.size TH3 #[.int .i64 aA,.int .i64 aB,.slice p n cap]) (fun _ i _=>n-(intOf i).toNat)
 case atStart=>
  have ho:((w.alloc (.cells #[.int .i64 aA,.int .i64 aB,.slice p n cap] TH3)).alloc (.cells #[] TI)).ownsRow (w.heap.size+1) TI 1 (.slice (some ⟨(w.alloc (.cells #[.int .i64 aA,.int .i64 aB,.slice p n cap] TH3)).heap.size,0,none⟩) 0 0) 0 []:=World.ownsRow_made _ #[] 0 (by simp) (by simp[maxLen]) rfl
  exact⟨0,_,0,Nat.zero_le _,rfl,rfl,by simpa using ho,by exact .alloc (.alloc (.refl _) _) _,(Blk.new w _ _).alloc _⟩
 case round=>
  obtain⟨k,q,c,hk,rfl,rfl,hown,hEw,hB⟩:=hrel
  have HO:=xQ hown
  have HB:=xQ hB
  have hsz:w.heap.size<wr.heap.size:=hB.lt
  clear hown hB
  obtain⟨b0,b1,b2⟩:=HB.out.cells3
  by_cases hlt:k<n
  ·have hfin:Hid (List.replicate (k+1) (-1:Int)=List.replicate k (-1)++ [-1]):=by show _=_;rw[List.replicate_succ']
   go_wp2_with (at_builtin;refine cS eT rfl _ _ rfl (w.heap.size+1) _ _ _ rfl (HO.out.alloc _) _ _ (-1:Int) _ rfl (by simp) (by omega) (by first|(simp;done)|(simp;omega)) ?_;intro p' cap' w2 hown1 hg1;have HO2:=xQ hown1;have hE1:Ext w w2:=Ext.own (hEw.alloc _) (HO.out.alloc _) hg1 (by omega);have HB2:=xQ (nD HO.out hg1 HB.out);clear hown1 hg1)
   go_roundw
   case rel=>exact⟨k+1,p',cap',by omega,by go_num,rfl,by rw[hfin.out];exact HO2.out,hE1,HB2.out⟩
   case measure=>simp[intOf];omega
  ·obtain rfl:n=k:=by omega
   obtain⟨gF,rfl,hF1,hF2⟩:=dN HO.out (by omega)
   have ow0:wr.cell? ⟨gF,src,none⟩=some (.int .i64 (-1)):=by
    have:=HO.out.cellAt src (by omega);rw[this];simp[ivs,hs]
   have ow1:wr.frozen? ⟨gF,src,none⟩=false:=HO.out.frozenAt src
   go_upto_region 8 with fail
   clear ow0 ow1 b0 b1 b2
   have y1:=(HO.out.stored src (.int .i64 0)).1
   have hR1:ExtR gF wr _:=(HO.out.stored src (.int .i64 0)).2
   have se1:(World.setCell wr ⟨gF,src,none⟩ (.int .i64 0)).heap.size=wr.heap.size:=by simp
   generalize hw1:World.setCell _ _ _=w1 at*
   rw[←se1]
   clear hw1
   have F1:=xQ (show w1.ownsRow (w.heap.size+1) TI 1 (.slice (some ⟨gF,0,none⟩) n c) n (ivs ((List.replicate n (-1)).set src 0)) by rw[←cZ];exact y1)
   have B1:=xQ (show Blk w1 w.heap.size TH3 #[.int .i64 aA,.int .i64 aB,.slice p n cap]from(hR1.block _ HB.out.lt (by simp;omega)).trans HB.out)
   have X1:=xQ (ExtR.new hEw hR1 (by omega))
   have z1:wr.heap.size≤w1.heap.size:=Nat.le_of_eq se1.symm
   have sz1:=B1.out.lt
   clear se1 y1 hR1 HO HB hEw hsz
   have hL0:(w1.alloc (.cells #[.int .i64 (src:Int)] TI)).ownsRow w1.heap.size TI 1 (.slice (some ⟨w1.heap.size,0,none⟩) 1 1) 1 [.int .i64 (src:Int)]:=aFu (n:=1) (Blk.new w1 TI #[.int .i64 (src:Int)]) rfl (by simp[maxLen]) (Nat.le_refl _)
   have L1:=xQ hL0
   clear hL0
   have I1:=xQ (Inv.one (adj:=lN aA n but) hs)
   go_wp2
   go_loopw [9,10] (fun v i wr=> ∃(k:Nat) (q:Option Addr) (l lc:Nat) (D:List Int) (Q:List Nat),k≤l∧i= .int .i64 k∧v= .slice q l lc∧l=Q.length∧(∀x∈D,-1≤x∧x≤k)∧Inv (lN aA n but) [src] n k (D,Q)∧wr.ownsRow (w.heap.size+1) TI 1 (.slice (some ⟨gF,0,none⟩) n c) n (ivs D)∧wr.ownsRow w1.heap.size TI 1 (.slice q l lc) l (ivs (aY Q))∧Ext w wr∧Blk wr w.heap.size TH3 #[.int .i64 aA,.int .i64 aB,.slice p n cap]∧w1.heap.size≤wr.heap.size) (fun _ i _=>n-(intOf i).toNat)
   case atStart=>exact⟨0,_,1,1,_,[src],Nat.zero_le _,rfl,rfl,rfl,aDp _ _,I1.out,F1.out.alloc _,L1.out,X1.out.alloc _,B1.out.alloc _,by simp⟩
   case round=>
    clear F1 B1 X1 L1 I1
    obtain⟨wr1,rfl⟩: ∃wr1:World,wr1=wr:=⟨_,rfl⟩
    obtain⟨k,q,l,lc,D,Q,hk,rfl,rfl,hlq,hbd,hinv,hF,hL,hEw,hB,hsz⟩:=hrel
    have HF:=xQ hF
    have HL:=xQ hL
    have HB:=xQ hB
    have HI:=xQ hinv
    have HLQ:=xQ hlq
    have hqn:l≤n:=by rw[hlq];exact hinv.qlen
    have HBD:=xQ hbd
    clear hF hL hB hinv hlq hbd
    by_cases hlt2:k<l
    ·obtain⟨gL,rfl,hL1,hL2⟩:=dN HL.out (by omega)
     obtain⟨u,hu⟩: ∃u,Q[k]? =some u:=⟨_,List.getElem?_eq_getElem (by rw[←HLQ.out];exact hlt2)⟩
     have hun:u<n:=HI.out.bd u (List.mem_of_getElem? hu)
     have HU:=xQ hu
     clear hu
     have i1:(0:Int)≤(k:Int):=by omega
     have i2:(k:Int)<(l:Int):=by omega
     have j1:(0:Int)≤(u:Int):=by omega
     have j2:(u:Int)<(n:Int):=by omega
     obtain⟨nb,hnb⟩: ∃nb,nb=aR aA n u:=⟨_,rfl⟩
     have HNB:=xQ hnb
     have HCU:Hid (∀w',Ext w w'→Calls Tryz.prog 140 #[aK aA aB p n cap,.int .i64 (u:Int)] w' (bB (aY nb) w')):=by rw[hnb];exact HC.out u hun
     have hnb12:nb.length≤n:=by rw[hnb];exact Nat.le_trans (List.length_filter_le _ _) (by simp)
     clear hnb
     have hnbl:(aY nb).length=nb.length:=by simp[aY]
     go_wp2
     refine cK (gl [gEq (aK aA aB p n cap),gEq (.slice (some ⟨gL,0,none⟩) l lc),gEq (.int .i64 (k:Int)),gEq (.pointer (some ⟨gL,k,none⟩)),gEq (.int .i64 (u:Int)),(fun v w'=> ∃q c,v= .slice q nb.length c∧w'.ownsRow wr1.heap.size TI 1 (.slice q nb.length c) nb.length (ivs (aY nb)))]) 6 (by kernel_rfl) rfl (by kernel_rfl) (by kernel_rfl) (by kernel_rfl) (dW (aL (aI _) (aL (aI _) (aL (aI _) (aL (aI _) (aL (aI _) (aL (fun v w w' ⟨q,c,he,ho⟩ hx=>⟨q,c,he,bC ho hx⟩) (eS)))))))) (k:=7) (by kernel_rfl) (by decide) (ls:= [(0,some 35),(1,some 36),(2,some 37),(3,some 38),(4,some 39),(5,some 40)]) (by kernel_rfl) (ir:= [0,1,2,3,4,5]) (by kernel_rfl) ?steps (tl:=#[true,true,true,true,true,true,false]) (by kernel_rfl) ?fin
     case steps=>
      refine sC [] rfl (fun wi hx=> ?_) ?_
      ·intro K hK
       have B:=HB.out.ext hx.of_drew
       have cc0:wi.cell? ⟨w.heap.size,0,none⟩=some (.int .i64 aA):=B.cell 0
       have B:=HB.out.ext hx.of_drew
       have cc1:wi.cell? ⟨w.heap.size,1,none⟩=some (.int .i64 aB):=B.cell 1
       have B:=HB.out.ext hx.of_drew
       have cc2:wi.cell? ⟨w.heap.size,2,none⟩=some (.slice p n cap):=B.cell 2
       go_simp
       exact hK _ _ ⟨aK aA aB p n cap,rfl,rfl,Ext.refl _⟩
      refine sC [] rfl (fun wi hx=> ?_) ?_
      ·intro K hK
       go_simp
       exact hK _ _ ⟨.slice (some ⟨gL,0,none⟩) l lc,rfl,rfl,Ext.refl _⟩
      refine sC [] rfl (fun wi hx=> ?_) ?_
      ·intro K hK
       go_simp
       exact hK _ _ ⟨.int .i64 (k:Int),rfl,rfl,Ext.refl _⟩
      refine sC [(1,some 36),(2,some 37)] rfl (fun wi hx=> ?_) ?_
      ·intro v1 h1 v2 h2 K hK
       obtain rfl:=h1
       obtain rfl:=h2
       go_simp
       exact hK _ _ ⟨.pointer (some ⟨gL,k,none⟩),rfl,rfl,Ext.refl _⟩
      refine sC [(3,some 38)] rfl (fun wi hx=> ?_) ?_
      ·intro v3 h3 K hK
       obtain rfl:=h3
       have cu:wi.cell? ⟨gL,k,none⟩=some (.int .i64 (u:Int)):=by have:=(bC HL.out hx.of_drew).cellAt k (by omega);rw[this];simp[ivs,aY,HU.out]
       go_simp
       exact hK _ _ ⟨.int .i64 (u:Int),rfl,rfl,Ext.refl _⟩
      refine sC [(0,some 35),(4,some 39)] rfl (fun wi hx=> ?_) StepsL.nil
      ·intro v0 h0 v4 h4 K hK
       obtain rfl:=h0
       obtain rfl:=h4
       go_wp2_with fail
       refine(HCU.out _ (hEw.trans hx.of_drew)).mono ?_
       rintro e w5 ⟨q5,c5,rfl,o5,hx5⟩
       rw[hnbl]at o5⊢
       go_simp
       exact hK _ _ ⟨.slice q5 nb.length c5,rfl,⟨q5,c5,rfl,bG o5 (by have:=hx.sz;simpa using this)⟩,hx5⟩
     case fin=>
      intro wi hx v0 h0 v1 h1 v2 h2 v3 h3 v4 h4 v5 h5
      obtain rfl:=h0
      obtain rfl:=h1
      obtain rfl:=h2
      obtain rfl:=h3
      obtain rfl:=h4
      obtain⟨q5,c5,rfl,ho5⟩:=h5
      refine wpAny_ready (rs:= [6]) (by kernel_rfl) (by simp) ?_
      refine AllReady.cons rfl (fun K hK=> ?_) AllReady.nil
      go_simp
      refine hK _ _ ?_
      clear hK K
      refine wpAny_done (by kernel_rfl) ?_ _
      have hx':=hx.of_drew
      have F2:=xQ (bC HF.out hx')
      have L2:=xQ (bC HL.out hx')
      have B2:=xQ (HB.out.ext hx')
      have X2:=xQ (hEw.trans hx')
      have N2:=xQ ho5
      have z2:=hx'.sz
      have NE2:=xQ (aG3 (q2:=some ⟨gL,0,none⟩) (m:=l) (c2:=lc) (B2:=0) (sz2:=0) (e2:=TI) (ys:= []) ho5 (fun g hg=>by simp[Value.ownBlock]at hg;omega) (by simp[Value.ownBlock]))
      clear HF HL HB hEw ho5 hx hx' HCU
      go_wp2
      obtain⟨wo,rfl⟩: ∃wo:World,wo=wi:=⟨_,rfl⟩
      go_loopw [9,12] (fun v i wr=> ∃(j:Nat) (q:Option Addr) (l2 lc:Nat) (D2:List Int) (Q2:List Nat),j≤nb.length∧i= .int .i64 j∧v= .slice q l2 lc∧l2=Q2.length∧(D2,Q2)=bF (D.getD u 0+1) (D,Q) ((nb.take j).filter (fun(v:Nat)=>decide ((v:Int)≠but)))∧(∀x∈D2,-1≤x∧x≤(k:Int)+1)∧wr.ownsRow (w.heap.size+1) TI 1 (.slice (some ⟨gF,0,none⟩) n c) n (ivs D2)∧wr.ownsRow w1.heap.size TI 1 (.slice q l2 lc) l2 (ivs (aY Q2))∧wr.ownsRow wr1.heap.size TI 1 (.slice q5 nb.length c5) nb.length (ivs (aY nb))∧(Value.slice q l2 lc).ownBlock≠(Value.slice q5 nb.length c5).ownBlock∧Ext w wr∧Blk wr w.heap.size TH3 #[.int .i64 aA,.int .i64 aB,.slice p n cap]∧wo.heap.size≤wr.heap.size) (fun _ i _=>nb.length-(intOf i).toNat)
      case atStart=>exact⟨0,_,l,lc,D,Q,Nat.zero_le _,rfl,rfl,HLQ.out,by simp[bF],fun x hx=>by have:=HBD.out x hx;omega,F2.out,L2.out,N2.out,NE2.out,X2.out,B2.out,Nat.le_refl _⟩
      case round=>
       clear F2 L2 B2 X2 N2 NE2
       obtain⟨j,q,l2,lc,D2,Q2,hj,rfl,rfl,hlq2,heq,hbd2,hF,hL,hN,hne,hEw,hB,hsz2⟩:=hrel
       have hum:u∈Q:=List.mem_of_getElem? HU.out
       have hmid:Mid (lN aA n but) [src] n k u ((nb.take j).filter (fun(v:Nat)=>decide ((v:Int)≠but))) (D,Q) (D2,Q2):=by
        rw[heq]
        have:=Mid.many hum ((nb.take j).filter (fun(v:Nat)=>decide ((v:Int)≠but))) [] (D,Q) (HI.out.mid HU.out) (fun v hv=>by
         have h1:=List.mem_filter.1 hv
         have h2:v∈aR aA n u:=by rw[←HNB.out];exact List.mem_of_mem_take h1.1
         exact⟨List.mem_filter.2 ⟨h2,h1.2⟩,(bI.1 h2).1⟩)
        simpa using this
       have hD2:D2.length=n:=hmid.len
       have hQ2:Q2.length≤n:=kR hmid.nodup hmid.bd
       have hsu:D2.getD u 0=D.getD u 0:=hmid.same u hum
       obtain⟨r,hr⟩:=hmid.pre
       dsimp only at hr
       have hkl:k<Q2.length:=by rw[hr,List.length_append];have:=HLQ.out;omega
       have hQk:Q2[k]? =some u:=by
        have:=HLQ.out
        rw[hr,List.getElem?_append_left (by omega)];exact HU.out
       have hdu:=cL (D:=D2) (v:=u) (by omega)
       have hdu1: -1≤D2.getD u 0:=(hbd2 _ hdu.2).1
       have hdu2:D2.getD u 0≤(k:Int):=by
        rw[hsu];exact(HBD.out _ (cL (D:=D) (v:=u) (by have:=HI.out.len;dsimp only at this;omega)).2).2
       have HF:=xQ hF
       have HL:=xQ hL
       have HN:=xQ hN
       have HNE:=xQ hne
       have HB:=xQ hB
       have HEQ:=xQ heq
       have HBD2:=xQ hbd2
       have HLQ2:=xQ hlq2
       have HQK:=xQ hQk
       have HDU:=xQ hdu.1
       have HSU:=xQ hsu
       have hl2n:l2≤n:=by omega
       have hkl2:k<l2:=by omega
       have hD2':=xQ hD2
       have sB:w.heap.size<wr.heap.size:=hB.lt
       clear hF hL hN hne hB heq hbd2 hlq2 hQk hdu hsu hr hmid hD2 hkl
       by_cases hlt3:j<nb.length
       ·obtain⟨v,hv⟩: ∃v,nb[j]? =some v:=⟨_,List.getElem?_eq_getElem hlt3⟩
        have hvn:v<n:=(bI.1 (by rw[←HNB.out];exact List.mem_of_getElem? hv:v∈aR aA n u)).1
        have HV:=xQ hv
        clear hv
        obtain⟨gN,rfl,hN1,hN2⟩:=dN HN.out (by omega)
        obtain⟨gL,rfl,hL1,hL2⟩:=dN HL.out (by omega)
        obtain⟨dv,hdv,hdvm⟩: ∃dv,D2[v]? =some dv∧D2.getD v 0=dv:=⟨_,(cL (D:=D2) (v:=v) (by rw[hD2'.out];exact hvn)).1,rfl⟩
        have HDV:=xQ hdv
        have HDVM:=xQ hdvm
        clear hdv hdvm
        have m1:(0:Int)≤(j:Int):=by omega
        have m2:(j:Int)<(nb.length:Int):=by omega
        have m3:(0:Int)≤(v:Int):=by omega
        have m4:(v:Int)<(n:Int):=by omega
        have m5:(k:Int)<(l2:Int):=by omega
        have cn:wr.cell? ⟨gN,j,none⟩=some (.int .i64 (v:Int)):=by have:=HN.out.cellAt j (by omega);rw[this];simp[ivs,aY,HV.out]
        have cf:wr.cell? ⟨gF,v,none⟩=some (.int .i64 dv):=by have:=HF.out.cellAt v (by omega);rw[this];simp[ivs,HDV.out]
        by_cases hvb:(v:Int)=but
        ·have t0:((v:Int)!=but)=false:=by simp[hvb]
         have hfin:=xQ (aAm HV.out hvb)
         clear hvb
         go_wp2
         go_roundw
         case rel=>exact⟨j+1,_,l2,lc,D2,Q2,by omega,by go_num,rfl,HLQ2.out,by rw[hfin.out];exact HEQ.out,HBD2.out,HF.out,HL.out,HN.out,HNE.out,hEw,HB.out,hsz2⟩
         case measure=>simp[intOf];omega
        ·have t0:((v:Int)!=but)=true:=by simp[hvb]
         have hfin:=xQ (wZ HV.out hvb)
         clear hvb
         by_cases hd0:dv<0
         ·have t1:decide (dv<0)=true:=by simp[hd0]
          have hrel2:Hid ((D2.set v (D.getD u 0+1),Q2++ [v])=bF (D.getD u 0+1) (D,Q) ((nb.take (j+1)).filter (fun(v:Nat)=>decide ((v:Int)≠but)))):=by
           show _=_
           rw[hfin.out,cX,←HEQ.out,iI (by rw[HDVM.out];exact hd0)]
          obtain⟨du,hdu⟩: ∃du,du=D2.getD u 0:=⟨_,rfl⟩
          have HDU2:=xQ hdu
          have du1: -1≤du:=by omega
          have du2:du≤(k:Int):=by omega
          have hw12:IntKind.i64.wrap (du+1)=du+1:=IntWalk.i64_in _ (by omega)
          clear hdu
          clear hd0
          go_wp2
          refine cK (gl [gEq (.slice (some ⟨gF,0,none⟩) n c),gEq (.slice (some ⟨gN,0,none⟩) nb.length c5),gEq (.int .i64 (j:Int)),gEq (.pointer (some ⟨gN,j,none⟩)),gEq (.int .i64 (v:Int)),gEq (.slice (some ⟨gF,0,none⟩) n c),gEq (.slice (some ⟨gL,0,none⟩) l2 lc),gEq (.int .i64 (k:Int)),gEq (.pointer (some ⟨gL,k,none⟩)),gEq (.int .i64 (u:Int)),gEq (.pointer (some ⟨gF,u,none⟩)),gEq (.int .i64 du),gEq (.int .i64 (du+1)),gEq (.pointer (some ⟨gF,v,none⟩))]) 14 (by kernel_rfl) rfl (by kernel_rfl) (by kernel_rfl) (by kernel_rfl) (dW (aL (aI _) (aL (aI _) (aL (aI _) (aL (aI _) (aL (aI _) (aL (aI _) (aL (aI _) (aL (aI _) (aL (aI _) (aL (aI _) (aL (aI _) (aL (aI _) (aL (aI _) (aL (aI _) (eS)))))))))))))))) (k:=15) (by kernel_rfl) (by decide) (ls:= [(0,some 63),(1,some 64),(2,some 65),(3,some 66),(4,some 67),(5,some 68),(6,some 69),(7,some 70),(8,some 71),(9,some 72),(10,some 73),(11,some 74),(12,some 75),(13,some 76)]) (by kernel_rfl) (ir:= [0,1,2,3,4,5,6,7,8,9,10,11,12,13]) (by kernel_rfl) ?steps (tl:=#[true,true,true,true,true,true,true,true,true,true,true,true,true,true,false]) (by kernel_rfl) ?fin
          case steps=>
           refine sC [] rfl (fun wj hx=> ?_) ?_
           ·intro K hK
            go_simp
            exact hK _ _ ⟨.slice (some ⟨gF,0,none⟩) n c,rfl,rfl,Ext.refl _⟩
           refine sC [] rfl (fun wj hx=> ?_) ?_
           ·intro K hK
            go_simp
            exact hK _ _ ⟨.slice (some ⟨gN,0,none⟩) nb.length c5,rfl,rfl,Ext.refl _⟩
           refine sC [] rfl (fun wj hx=> ?_) ?_
           ·intro K hK
            go_simp
            exact hK _ _ ⟨.int .i64 (j:Int),rfl,rfl,Ext.refl _⟩
           refine sC [(1,some 64),(2,some 65)] rfl (fun wj hx=> ?_) ?_
           ·intro v1 h1 v2 h2 K hK
            obtain rfl:=h1
            obtain rfl:=h2
            go_simp
            exact hK _ _ ⟨.pointer (some ⟨gN,j,none⟩),rfl,rfl,Ext.refl _⟩
           refine sC [(3,some 66)] rfl (fun wj hx=> ?_) ?_
           ·intro v3 h3 K hK
            obtain rfl:=h3
            have cv:wj.cell? ⟨gN,j,none⟩=some (.int .i64 (v:Int)):=by have:=(bC HN.out hx.of_drew).cellAt j (by omega);rw[this];simp[ivs,aY,HV.out]
            go_simp
            exact hK _ _ ⟨.int .i64 (v:Int),rfl,rfl,Ext.refl _⟩
           refine sC [] rfl (fun wj hx=> ?_) ?_
           ·intro K hK
            go_simp
            exact hK _ _ ⟨.slice (some ⟨gF,0,none⟩) n c,rfl,rfl,Ext.refl _⟩
           refine sC [] rfl (fun wj hx=> ?_) ?_
           ·intro K hK
            go_simp
            exact hK _ _ ⟨.slice (some ⟨gL,0,none⟩) l2 lc,rfl,rfl,Ext.refl _⟩
           refine sC [] rfl (fun wj hx=> ?_) ?_
           ·intro K hK
            go_simp
            exact hK _ _ ⟨.int .i64 (k:Int),rfl,rfl,Ext.refl _⟩
           refine sC [(6,some 69),(7,some 70)] rfl (fun wj hx=> ?_) ?_
           ·intro v6 h6 v7 h7 K hK
            obtain rfl:=h6
            obtain rfl:=h7
            go_simp
            exact hK _ _ ⟨.pointer (some ⟨gL,k,none⟩),rfl,rfl,Ext.refl _⟩
           refine sC [(8,some 71)] rfl (fun wj hx=> ?_) ?_
           ·intro v8 h8 K hK
            obtain rfl:=h8
            have cv:wj.cell? ⟨gL,k,none⟩=some (.int .i64 (u:Int)):=by have:=(bC HL.out hx.of_drew).cellAt k (by omega);rw[this];simp[ivs,aY,HQK.out]
            go_simp
            exact hK _ _ ⟨.int .i64 (u:Int),rfl,rfl,Ext.refl _⟩
           refine sC [(5,some 68),(9,some 72)] rfl (fun wj hx=> ?_) ?_
           ·intro v5 h5 v9 h9 K hK
            obtain rfl:=h5
            obtain rfl:=h9
            go_simp
            exact hK _ _ ⟨.pointer (some ⟨gF,u,none⟩),rfl,rfl,Ext.refl _⟩
           refine sC [(10,some 73)] rfl (fun wj hx=> ?_) ?_
           ·intro v10 h10 K hK
            obtain rfl:=h10
            have cv:wj.cell? ⟨gF,u,none⟩=some (.int .i64 du):=by have:=(bC HF.out hx.of_drew).cellAt u (by omega);rw[this,HDU2.out];simp only[ivs,List.getElem?_map,HDU.out,Option.map_some]
            go_simp
            exact hK _ _ ⟨.int .i64 du,rfl,rfl,Ext.refl _⟩
           refine sC [(11,some 74)] rfl (fun wj hx=> ?_) ?_
           ·intro v11 h11 K hK
            obtain rfl:=h11
            go_simp
            exact hK _ _ ⟨.int .i64 (du+1),rfl,rfl,Ext.refl _⟩
           refine sC [(0,some 63),(4,some 67)] rfl (fun wj hx=> ?_) StepsL.nil
           ·intro v0 h0 v4 h4 K hK
            obtain rfl:=h0
            obtain rfl:=h4
            go_simp
            exact hK _ _ ⟨.pointer (some ⟨gF,v,none⟩),rfl,rfl,Ext.refl _⟩
          case fin=>
           intro wj hx v0 h0 v1 h1 v2 h2 v3 h3 v4 h4 v5 h5 v6 h6 v7 h7 v8 h8 v9 h9 v10 h10 v11 h11 v12 h12 v13 h13
           obtain rfl:=h0
           obtain rfl:=h1
           obtain rfl:=h2
           obtain rfl:=h3
           obtain rfl:=h4
           obtain rfl:=h5
           obtain rfl:=h6
           obtain rfl:=h7
           obtain rfl:=h8
           obtain rfl:=h9
           obtain rfl:=h10
           obtain rfl:=h11
           obtain rfl:=h12
           obtain rfl:=h13
           have hx':=hx.of_drew
           have F3:=xQ (bC HF.out hx')
           have L3:=xQ (bC HL.out hx')
           have N3:=xQ (bC HN.out hx')
           have B3:=xQ (HB.out.ext hx')
           have X3:=xQ (hEw.trans hx')
           have z3:=hx'.sz
           clear HF HL HN HB hEw hx hx' cn cf
           have cf2:wj.cell? ⟨gF,v,none⟩=some (.int .i64 dv):=by have:=F3.out.cellAt v (by omega);rw[this];simp[ivs,HDV.out]
           have ff2:wj.frozen? ⟨gF,v,none⟩=false:=F3.out.frozenAt v
           refine wpAny_ready (rs:= [14]) (by kernel_rfl) (by simp) ?_
           refine AllReady.cons rfl (fun K hK=> ?_) AllReady.nil
           go_simp
           refine hK _ _ ?_
           clear hK K
           clear cf2 ff2
           have y4:=(F3.out.stored v (.int .i64 (du+1))).1
           have hR4:ExtR gF wj _:=(F3.out.stored v (.int .i64 (du+1))).2
           generalize hw4:World.setCell _ _ _=w4 at*
           clear hw4
           have F4:=xQ (show w4.ownsRow (w.heap.size+1) TI 1 (.slice (some ⟨gF,0,none⟩) n c) n (ivs (D2.set v (du+1))) by rw[←cZ];exact y4)
           have L4:=xQ (L3.out.kept hR4 (.inr (by simp[Value.ownBlock];omega)))
           have N4:=xQ (N3.out.kept hR4 (.inr (by simp[Value.ownBlock];omega)))
           have B4:=xQ (show Blk w4 w.heap.size TH3 #[.int .i64 aA,.int .i64 aB,.slice p n cap]from(hR4.block _ B3.out.lt (by simp;omega)).trans B3.out)
           have X4:=xQ (ExtR.new X3.out hR4 (by omega))
           have z4:=hR4.sz
           clear F3 L3 N3 B3 X3 y4 hR4
           refine wpAny_done (by kernel_rfl) ?_ _
           have cn4:w4.cell? ⟨gN,j,none⟩=some (.int .i64 (v:Int)):=by have:=N4.out.cellAt j (by omega);rw[this];simp[ivs,aY,HV.out]
           have gN4:=(N4.out.lt gN rfl).2
           have gL4:=(L4.out.lt gL rfl).2
           have hb4:w1.heap.size≤w4.heap.size:=by omega
           go_wp2_with (at_builtin;refine eN rfl _ _ rfl w1.heap.size _ _ _ rfl (L4.out.alloc _) _ _ (v:Int) _ rfl (by simp) (by omega) (Nat.le_trans hb4 (by simp)) ?_;intro p' cap' w9 hown1 hg0 hat0;have hg1:World.grownBy _ w9 (Value.slice (some ⟨gL,0,none⟩) l2 lc).ownBlock:=hg0;have hat1:(Value.slice p' (l2+1) cap').ownBlock=(Value.slice (some ⟨gL,0,none⟩) l2 lc).ownBlock∨(Value.slice p' (l2+1) cap').ownBlock=some (w4.alloc (.cells #[.int .i64 (v:Int)] TI)).heap.size:=hat0;have F5:=xQ ((F4.out.alloc _).kept hg1 (.inr (by simp[Value.ownBlock];omega)));have N5:=xQ ((N4.out.alloc _).kept hg1 (.inr (Ne.symm HNE.out)));have L5:=xQ hown1;have E5:=xQ (Ext.own (X4.out.alloc _) (L4.out.alloc _) hg1 (by omega));have B5:=xQ ((B4.out.alloc _).grown hg1 (by simp[Value.ownBlock];omega));have z9:=hg1.size;have A5:=xQ hat1;clear hown1 hg1 hat1 hg0 hat0)
           have NE5:Hid ((Value.slice p' (l2+1) cap').ownBlock≠(Value.slice (some ⟨gN,0,none⟩) nb.length c5).ownBlock):=by
            show _≠_
            rcases A5.out with h|h
            ·rw[h];exact HNE.out
            ·rw[h];simp[Value.ownBlock];omega
           have z9':w4.heap.size≤w9.heap.size:=Nat.le_trans (by simp) z9
           clear z9 cn4
           go_roundw
           case rel=>
            refine⟨j+1,p',l2+1,cap',D2.set v (du+1),Q2++ [v],by omega,by go_num,rfl,by simp[HLQ2.out],?_,?_,F5.out,?_,N5.out,NE5.out,E5.out,B5.out,by omega⟩
            ·rw[HDU2.out,HSU.out];exact hrel2.out
            ·intro x hx
             rcases List.mem_or_eq_of_mem_set hx with h|h
             ·exact HBD2.out x h
             ·omega
            ·have:=L5.out
             simpa[aY]using this
           case measure=>simp[intOf];omega
         ·have t1:decide (dv<0)=false:=by simp[hd0]
          have hrel2:Hid ((D2,Q2)=bF (D.getD u 0+1) (D,Q) ((nb.take (j+1)).filter (fun(v:Nat)=>decide ((v:Int)≠but)))):=by
           show _=_
           rw[hfin.out,cX,←HEQ.out,jM (by rw[HDVM.out];exact hd0)]
          clear hd0
          go_wp2
          go_roundw
          case rel=>exact⟨j+1,_,l2,lc,D2,Q2,by omega,by go_num,rfl,HLQ2.out,hrel2.out,HBD2.out,HF.out,HL.out,HN.out,HNE.out,hEw,HB.out,hsz2⟩
          case measure=>simp[intOf];omega
       ·have hje:j=nb.length:=by omega
        have hInv:Hid (Inv (lN aA n but) [src] n (k+1) (D2,Q2)):=by
         have h1:=HI.out.step HU.out (fun v hv=>aAv hv)
         have h2:=HEQ.out
         rw[hje,List.take_length]at h2
         have h3:nb.filter (fun(v:Nat)=>decide ((v:Int)≠but))=lN aA n but u:=by rw[HNB.out];rfl
         rw[h3]at h2
         rw[h2]
         exact h1
        have hbdf:Hid (∀x∈D2,-1≤x∧x≤((k+1:Nat):Int)):=fun x hx=>by have:=HBD2.out x hx;omega
        clear hje
        go_wp2
        go_roundw
        case rel=>exact⟨k+1,_,l2,lc,D2,Q2,by omega,by go_num,rfl,HLQ2.out,hbdf.out,hInv.out,HF.out,HL.out,hEw,HB.out,by omega⟩
        case measure=>simp[intOf];omega
    ·have hdist:=xQ (HI.out.dist (by have:=HLQ.out;dsimp only;omega))
     have hDl:=HI.out.len
     have HDL:=xQ hDl
     clear hDl
     go_wp2
     go_ret
     exact⟨D,hdist.out,dB HDL.out (bG HF.out (Nat.le_succ _)) hEw⟩
theorem aBr (aA aB:Int)(p:Option Addr)(n cap src:Nat)(but:Int)(xs:List Int)(w:World)(hS:Sl w p n cap 1 (ivs xs))(hok:aP aA aB xs=true)(hs:src<n):
  Calls Tryz.prog 139 #[aK aA aB p n cap,.int .i64 (src:Int),.int .i64 but] w fun e w'=> ∃D,nF (lN aA n but) [src] n D∧bB D w e w':=by
 have hl:=hS.ilen
 obtain⟨g1,g2,g3,g4,g5,g6,g7,g8,g9⟩:=bL hok
 exact aBa aA aB p n cap src but w (by omega) (by omega) hs (fun k hk w' hx=>by
  have:=yK aA aB k p n cap xs w' (hS.ext hx) hok (by omega) (by omega)
  rwa[iK]at this)
end Go.Proofs.YtahglfakiobbcaaGreatDoor
