/-
  Texts of this proof, packed (@packed).
-/
import Derived.Test.YtahglfakiobbcaaGreatDoorK9
import Derived.Test.YtahglfakiobbcaaGreatDoorK10
namespace Go.Proofs.YtahglfakiobbcaaGreatDoor
open Go.RowKit
set_option linter.unusedVariables false
set_option linter.unusedSimpArgs false
theorem xK (aA:Int)(n u:Nat):lN aA n (-1) u=aR aA n u:=by
 unfold lN
 rw[List.filter_eq_self]
 intro v hv
 first|(simp;done)|(simp;omega)
set_option maxRecDepth 100000 in
set_option maxHeartbeats 1000000 in
theorem aCv (aA aB:Int)(p:Option Addr)(n cap u:Nat)(R:Int)(w:World)(hg:Hid ((aA,n)∈fN))(hn0:4≤n)(hn:n≤12)(hu:u<n)(hR:Hid (R=aV aA u 0))(hR0:0≤R)
  (HP:Hid (∀w',Ext w w'→Calls Tryz.prog 105 #[aK aA aB p n cap,.int .i64 (u:Int),.int .i64 0] w' fun e w''=>e= .returned (.int .i64 R)∧Ext w' w''))
  (HF:Hid (∀w',Ext w w'→Calls Tryz.prog 139 #[aK aA aB p n cap,.int .i64 0,.int .i64 (-1)] w' fun e w''=> ∃D,(D.length=n∧ ∀v,v<n→D.getD v 0=aV aA v 0)∧bB D w' e w''))
  (HC:Hid (∀(k:Nat),k<n→ ∀w',Ext w w'→Calls Tryz.prog 140 #[aK aA aB p n cap,.int .i64 k] w' (bB (aY (aR aA n k)) w'))):
  Calls Tryz.prog 124 #[aK aA aB p n cap,.int .i64 (u:Int),.int .i64 0,.int .i64 (-1)] w (bB (aY (cH aA n 12 u)) w):=by
 have a1:(0:Int)≤(u:Int):=by omega
 have a2:(u:Int)<(n:Int):=by omega
 have a3:((-1:Int)==(u:Int))=false:=by first|(simp;done)|(simp;omega)
 have a4:decide (R<0)=false:=by first|(simp;done)|(simp;omega)
 go_enter Tryz.func124,Tryz.ntmps124
 go_wp2_with fail
 refine(HP.out _ (by exact .alloc (.alloc (.refl _) _) _)).mono ?_
 rintro e w1 ⟨rfl,hx1⟩
 have B1:=xQ (((Blk.new w TH3 #[.int .i64 aA,.int .i64 aB,.slice p n cap]).alloc (.cells #[] TI)).ext hx1)
 have ho:((w.alloc (.cells #[.int .i64 aA,.int .i64 aB,.slice p n cap] TH3)).alloc (.cells #[] TI)).ownsRow (w.heap.size+1) TI 1 (.slice (some ⟨(w.alloc (.cells #[.int .i64 aA,.int .i64 aB,.slice p n cap] TH3)).heap.size,0,none⟩) 0 0) 0 []:=World.ownsRow_made _ #[] 0 (by simp) (by simp[maxLen]) rfl
 have O1:=xQ (bC ho hx1)
 have X1:Ext w w1:=(((Ext.refl _).alloc _).alloc _).trans hx1
 have s1:w.heap.size+1<w1.heap.size:=by have:=hx1.sz;simp at this;omega
 clear ho hx1
 obtain⟨b0,b1,b2⟩:=B1.out.cells3
 have n1:IntKind.i64.wrap ((n:Int)-1)=(n:Int)-1:=IntWalk.i64_in _ (by omega)
 have t1:decide ((-1:Int)≤ -1∧(-1:Int)≤(n:Int)-1)=true:=by first|(simp;done)|(simp;omega)
 have HI:Hid (∀w,Calls Tryz.prog 35 #[.int .i64 (-1),.int .i64 (-1),.int .i64 ((n:Int)-1)] w fun e w'=>e= .returned (.bool true)∧w=w'):=fun w=>by have:=mQ (-1) (-1) ((n:Int)-1) w;rwa[t1]at this
 clear t1
 go_wp2_with fail
 refine(HI.out _).mono ?_
 rintro e w2 ⟨rfl,rfl⟩
 go_wp2_with fail
 clear b0 b1 b2
 refine(HF.out _ (by exact X1)).mono ?_
 rintro e w2 ⟨D,⟨hDl,hDv⟩,q2,c2,rfl,o2,hx2⟩
 rw[hDl]at o2⊢
 have HD:=xQ hDl
 have HV:=xQ hDv
 have X2:=xQ (X1.trans hx2)
 have O2:=xQ (bC O1.out hx2)
 have O2':=xQ (show w2.ownsRow (w.heap.size+1) TI 1 (.slice (some ⟨w.heap.size+1,0,none⟩) 0 0) 0 (ivs []) by simpa using O2.out)
 have B2:=xQ (B1.out.ext hx2)
 have z2:=hx2.sz
 clear hDl hDv hx2 O1 X1
 have s2:=B2.out.lt
 obtain⟨gF,rfl,hF1,hF2⟩:=dN o2 (by omega)
 have F2:=xQ (bG o2 (Nat.le_of_lt s1))
 have NE2:Hid (gF≠w.heap.size+1):=by show _≠_;omega
 clear o2 B1
 have dU:D[u]? =some R:=by
  have:=(cL (D:=D) (v:=u) (by rw[HD.out];exact hu)).1
  rw[this,HV.out u hu,hR.out]
 have cU:w2.cell? ⟨gF,u,none⟩=some (.int .i64 R):=by have:=F2.out.cellAt u (by omega);rw[this];simp[ivs,dU]
 clear dU
 obtain⟨wA,hwA⟩: ∃wA:World,wA=w2:=⟨_,rfl⟩
 have hb2:w.heap.size+1≤w2.heap.size:=s2
 go_wp2_with (at_builtin;go_loud (refine eN rfl _ _ rfl (w.heap.size+1) _ _ [] rfl (O2'.out.alloc _) _ _ (u:Int) _ rfl (by simp) (by omega) (Nat.le_trans hb2 (by simp)) ?_;intro p' cap' w3 hown1 hg1 hat0;have hat1:(Value.slice p' (0+1) cap').ownBlock=(Value.slice (some ⟨w.heap.size+1,0,none⟩) 0 0).ownBlock∨(Value.slice p' (0+1) cap').ownBlock=some (w2.alloc (.cells #[.int .i64 (u:Int)] TI)).heap.size:=hat0;have hg2:World.grownBy _ w3 (Value.slice (some ⟨w.heap.size+1,0,none⟩) 0 0).ownBlock:=hg1;have X3:=xQ (Ext.own (X2.out.alloc _) (O2'.out.alloc _) hg2 (by omega));have B3:=xQ ((B2.out.alloc _).grown hg2 (by first|(simp[Value.ownBlock];done)|(simp[Value.ownBlock];omega)));have F3:=xQ ((F2.out.alloc _).kept hg2 (.inr (by first|(simp[Value.ownBlock];done)|(simp[Value.ownBlock];omega))));have O3:=xQ hown1;have z3:=hg2.size;have A3:=xQ hat1;clear hown1 hg1 hat1 hg2 hat0))
 have NE3:Hid ((Value.slice p' (0+1) cap').ownBlock≠some gF):=by
  show _≠_
  rcases A3.out with h|h
  ·rw[h];simp[Value.ownBlock];(try omega)
  ·rw[h];simp;omega
 have s3:w2.heap.size≤w3.heap.size:=Nat.le_trans (by simp) z3
 clear A3 X2 B2 F2 O2 O2' hwA wA z3 cU
 have hap:=xQ (bM hg.out hu)
 go_wp2
 go_loopw [1,9] (fun v o wr=> ∃(x f:Nat) (pre:List Nat) (q:Option Addr) (l lc:Nat),v= .int .i64 (x:Int)∧x<n∧aV aA x 0≤f∧pre++cH aA n f x=cH aA n 12 u∧o= .slice q l lc∧l=pre.length+1∧wr.ownsRow (w.heap.size+1) TI 1 (.slice q l lc) l (ivs (aY (pre++ [x])))∧wr.ownsRow (w.heap.size+1) TI 1 (.slice (some ⟨gF,0,none⟩) n c2) n (ivs D)∧(Value.slice q l lc).ownBlock≠some gF∧Ext w wr∧Blk wr w.heap.size TH3 #[.int .i64 aA,.int .i64 aB,.slice p n cap]∧w3.heap.size≤wr.heap.size) (fun v _ _=>(aV aA (intOf v) 0).toNat)
 case atStart=>exact⟨u,12,[],p',1,cap',rfl,hu,by have:=hap.out.2.1;omega,rfl,rfl,rfl,by simpa[aY]using O3.out,F3.out,NE3.out,X3.out,B3.out,Nat.le_refl _⟩
 case round=>
  clear O3 F3 NE3 X3 B3
  obtain⟨x,f,pre,q,l,lc,rfl,hx,hf,hway,rfl,hl,hO,hF,hne,hEw,hB,hsz⟩:=hrel
  have HOo:=xQ hO
  have HFf:=xQ hF
  have HNE:=xQ hne
  have HB:=xQ hB
  have HW:=xQ hway
  have HGX:=xQ (bM hg.out hx)
  have HFL:=xQ hf
  have hlen:l≤12:=by
   have h1:=congrArg List.length hway
   have h2:=jJ hg.out f x hx hf
   have h3:=jJ hg.out 12 u hu (by have:=hap.out.2.1;omega)
   have h4:=hap.out.2.1
   have h5:=HGX.out.1
   rw[List.length_append]at h1
   omega
  have szB:=HB.out.lt
  have HLl:=xQ hl
  clear hO hF hne hB hway hf hl
  by_cases h0:x=0
  ·have t0:((x:Int)!=0)=false:=by simp[h0]
   have hfin:Hid (pre++ [x]=cH aA n 12 u):=by
    show _=_
    rw[←HW.out]
    subst h0
    cases f<;>simp[cH]
   clear h0
   go_wp2
   go_ret
   exact dB (by rw[←hfin.out];have:=HLl.out;simp[aY];omega) (by rw[←hfin.out];exact bG HOo.out (Nat.le_succ _)) hEw
  ·have t0:((x:Int)!=0)=true:=by simp[h0]
   obtain⟨J,hJ1,hJ2,hJ3⟩:=aAb hg.out hx h0
   obtain⟨e1,e2,e3⟩:=HGX.out.2.2.2.1 h0
   have hx0:=xQ h0
   obtain⟨y,hy⟩: ∃y,y=iL aA n x:=⟨_,rfl⟩
   rw[←hy]at hJ2 e1 e2 e3
   have HY:=xQ hy
   clear hy h0
   obtain⟨nb,hnb⟩: ∃nb,nb=aR aA n x:=⟨_,rfl⟩
   rw[←hnb]at hJ1 hJ2 hJ3
   have HCX:Hid (∀w',Ext w w'→Calls Tryz.prog 140 #[aK aA aB p n cap,.int .i64 (x:Int)] w' (bB (aY nb) w')):=by rw[hnb];exact HC.out x hx
   have HNB:=xQ hnb
   have hnb12:nb.length≤12:=by rw[hnb];exact Nat.le_trans (List.length_filter_le _ _) (by simp;omega)
   have hJ2':=xQ hJ2
   have hJ3':=xQ hJ3
   have hE3:=xQ e3
   clear hnb hJ2 hJ3 e2 e3
   have hnbl:(aY nb).length=nb.length:=by simp[aY]
   obtain⟨b0,b1,b2⟩:=HB.out.cells3
   go_wp2_with fail
   clear b0 b1 b2
   refine(HCX.out _ hEw).mono ?_
   rintro e w5 ⟨q5,c5,rfl,o5,hx5⟩
   rw[hnbl]at o5⊢
   obtain⟨gN,rfl,hN1,hN2⟩:=dN o5 (by omega)
   have O5:=xQ (bC HOo.out hx5)
   have F5:=xQ (bC HFf.out hx5)
   have B5:=xQ (HB.out.ext hx5)
   have X5:=xQ (hEw.trans hx5)
   have N5:=xQ o5
   have z5:=hx5.sz
   clear HOo HFf HB hEw o5 hx5 HCX
   go_wp2
   go_loopw [12] (fun i wz=> ∃j:Nat,j≤J∧i= .int .i64 j∧Ext w5 wz) (fun i _=>J-(intOf i).toNat)
   case atStart=>exact⟨0,Nat.zero_le _,rfl,Ext.refl _⟩
   case round=>
    obtain⟨j,hj,rfl,hZ⟩:=hrel
    obtain⟨v,hv⟩: ∃v,nb[j]? =some v:=⟨_,List.getElem?_eq_getElem (by omega)⟩
    have hvn:v<n:=(bI.1 (by rw[←HNB.out];exact List.mem_of_getElem? hv:v∈aR aA n x)).1
    have HVV:=xQ hv
    have hdv:=(cL (D:=D) (v:=v) (by rw[HD.out];exact hvn)).1
    have hdx:=(cL (D:=D) (v:=x) (by rw[HD.out];exact hx)).1
    rw[HV.out v hvn]at hdv
    rw[HV.out x hx]at hdx
    obtain⟨dv,hdv2⟩: ∃d,d=aV aA v 0:=⟨_,rfl⟩
    obtain⟨dx,hdx2⟩: ∃d,d=aV aA x 0:=⟨_,rfl⟩
    have gv:=bM hg.out hvn
    have gx:=HGX.out
    rw[←hdv2]at hdv gv
    rw[←hdx2]at hdx gx
    have m1:(0:Int)≤(j:Int):=by omega
    have m2:(j:Int)<(nb.length:Int):=by omega
    have m3:(0:Int)≤(v:Int):=by omega
    have m4:(v:Int)<(n:Int):=by omega
    have m5:(0:Int)≤(x:Int):=by omega
    have m6:(x:Int)<(n:Int):=by omega
    have m7:((v:Int)== -1)=false:=by first|(simp;done)|(simp;omega)
    have w7:IntKind.i64.wrap (dx-1)=dx-1:=IntWalk.i64_in _ (by omega)
    have FZ:=xQ (bC F5.out hZ)
    have NZ:=xQ (bC N5.out hZ)
    have cn:wr.cell? ⟨gN,j,none⟩=some (.int .i64 (v:Int)):=by have:=NZ.out.cellAt j (by omega);rw[this];simp[ivs,aY,HVV.out]
    have cf:wr.cell? ⟨gF,v,none⟩=some (.int .i64 dv):=by have:=FZ.out.cellAt v (by omega);rw[this];simp only[ivs,List.getElem?_map,hdv,Option.map_some]
    have cx:wr.cell? ⟨gF,x,none⟩=some (.int .i64 dx):=by have:=FZ.out.cellAt x (by omega);rw[this];simp only[ivs,List.getElem?_map,hdx,Option.map_some]
    by_cases hjJ:j<J
    ·have hne2:(dv !=dx-1)=true:=by
      have:=hJ3'.out j v hjJ HVV.out
      rw[←hdv2,←hdx2]at this
      simpa using this
     clear hdv hdx hdv2 hdx2 gv gx
     go_wp2
     go_quiet (fail)
     go_wp2
     go_roundw
     case rel=>exact⟨j+1,by omega,by go_num,by exact .drewN hZ _⟩
     case measure=>simp[intOf];omega
    ·obtain rfl:j=J:=by omega
     have hvy:v=y:=by
      have h1:=HVV.out
      rw[hJ2'.out]at h1
      injection h1 with h1;exact h1.symm
     subst hvy
     have hne2:(dv !=dx-1)=false:=by
      have:=hE3.out
      rw[←hdv2,←hdx2]at this
      simp[this]
     have hax:=xQ (show 1≤aV aA (x:Int) 0 by have h1:=(bM hg.out hvn).1;have h2:=hE3.out;omega)
     clear hdv hdx hdv2 gv
     go_wp2
     go_quiet (fail)
     generalize hwq:World.drewN _ _=wq
     have hZq:Ext w5 wq:=by rw[←hwq];exact hZ.drewN _
     clear hwq cn cf cx FZ NZ hZ
     have OQ:=xQ (bC O5.out hZq)
     have FQ:=xQ (bC F5.out hZq)
     have NQ:=xQ (bC N5.out hZq)
     have BQ:=xQ (B5.out.ext hZq)
     have XQ:=xQ (X5.out.trans hZq)
     have zq:=hZq.sz
     clear O5 F5 N5 B5 X5 hZq
     have cn:wq.cell? ⟨gN,j,none⟩=some (.int .i64 (v:Int)):=by have:=NQ.out.cellAt j (by omega);rw[this];simp[ivs,aY,HVV.out]
     have lO:w.heap.size+1≤wq.heap.size:=by omega
     have gFl:=(FQ.out.lt gF rfl).2
     go_wp2_with (at_builtin;go_loud (refine eN rfl _ _ rfl (w.heap.size+1) (.slice q l lc) l (aY (pre++ [x])) rfl (OQ.out.alloc _) _ _ (v:Int) _ rfl (by simp) (by omega) (Nat.le_trans lO (by simp)) ?_;intro p' cap' w9 hown1 hg1 hat0;have hat1:(Value.slice p' (l+1) cap').ownBlock=(Value.slice q l lc).ownBlock∨(Value.slice p' (l+1) cap').ownBlock=some (wq.alloc (.cells #[.int .i64 (v:Int)] TI)).heap.size:=hat0;have hg2:World.grownBy _ w9 (Value.slice q l lc).ownBlock:=hg1;have X9:=xQ (Ext.own (XQ.out.alloc _) (OQ.out.alloc _) hg2 (by omega));have B9:=xQ (nD OQ.out hg2 BQ.out);have F9:=xQ ((FQ.out.alloc _).kept hg2 (.inr (Ne.symm HNE.out)));have O9:=xQ hown1;have z9:=hg2.size;have A9:=xQ hat1;clear hown1 hg1 hat1 hg2 hat0))
     have NE9:Hid ((Value.slice p' (l+1) cap').ownBlock≠some gF):=by
      show _≠_
      rcases A9.out with h|h
      ·rw[h];exact HNE.out
      ·rw[h];simp;omega
     have z9':wq.heap.size≤w9.heap.size:=Nat.le_trans (by simp) z9
     clear z9 cn
     have hf9:0<f:=by have:=HFL.out;have:=hax.out;omega
     obtain⟨f',rfl⟩: ∃f',f=f'+1:=⟨f-1,by omega⟩
     have hway9:Hid ((pre++ [x])++cH aA n f' v=cH aA n 12 u):=by
      show _=_
      rw[←HW.out]
      conv=>rhs;rw[cH,if_neg hx0.out,←HY.out]
      simp
     go_roundw
     case rel=>exact⟨v,f',pre++ [x],p',l+1,cap',by go_num,hvn,by have:=hE3.out;have:=HFL.out;omega,hway9.out,rfl,by have:=HLl.out;simp;omega,by have:=O9.out;simpa[aY]using this,F9.out,NE9.out,X9.out,B9.out,by omega⟩
     case measure=>simp[intOf];have:=hE3.out;have:=hax.out;omega
theorem tB (aA aB:Int)(p:Option Addr)(n cap u:Nat)(xs:List Int)(w:World)(hS:Sl w p n cap 1 (ivs xs))(hok:aP aA aB xs=true)(hu:u<n):
  Calls Tryz.prog 124 #[aK aA aB p n cap,.int .i64 (u:Int),.int .i64 0,.int .i64 (-1)] w (bB (aY (cH aA n 12 u)) w):=by
 have hl:=hS.ilen
 obtain⟨g1,g2,g3,g4,g5,g6,g7,g8,g9⟩:=bL hok
 have hg:=mA (n:=n) g1 g2 g3 g4 (by omega)
 refine aCv aA aB p n cap u (aV aA u 0) w hg (by omega) (by omega) hu rfl (bM hg hu).1 (fun w' hx=> ?_) (fun w' hx=> ?_) (fun k hk w' hx=> ?_)
 ·have:=tM aA aB u 0 p n cap xs w' (hS.ext hx)
  rwa[cN,if_pos ⟨hok,by omega,by omega⟩]at this
 ·refine(aBr aA aB p n cap 0 (-1) xs w' (hS.ext hx) hok (by omega)).mono ?_
  rintro e w2 ⟨D,hD,hr⟩
  exact⟨D,⟨hD.len,fun v hv=>sV hg (xK aA n) hD hv⟩,hr⟩
 ·have:=yK aA aB k p n cap xs w' (hS.ext hx) hok (by omega) (by omega)
  rwa[iK]at this
def bQ:List Int→Nat→List Nat→List Int×List Sl2
 |xs,_,[]=>(xs,[])
 |xs,a,b::l=>if xs.getD b 0=0 then bQ xs b l else((bQ ((xs.set a (xs.getD b 0)).set b 0) b l).1,((b:Int),(a:Int))::(bQ ((xs.set a (xs.getD b 0)).set b 0) b l).2)
theorem lZ {xs:List Int}{a b:Nat}{l:List Nat}(h:xs.getD b 0=0):bQ xs a (b::l)=bQ xs b l:=by rw[bQ,if_pos h]
theorem kU {xs:List Int}{a b:Nat}{l:List Nat}(h: ¬xs.getD b 0=0):bQ xs a (b::l)=((bQ ((xs.set a (xs.getD b 0)).set b 0) b l).1,((b:Int),(a:Int))::(bQ ((xs.set a (xs.getD b 0)).set b 0) b l).2):=by rw[bQ,if_neg h]
def jV (aA:Int)(n:Nat):Nat→List Nat→Prop
 |_,[]=>True
 |a,b::l=>b∈aR aA n a∧jV aA n b l
theorem bW {aA aB:Int}{xs:List Int}(h:aP aA aB xs=true):gY aA aB xs.length=true:=by
 unfold aP at h;rw[Bool.and_eq_true]at h;exact h.1
theorem kV {aA aB:Int}{xs:List Int}(h:aP aA aB xs=true)(b:Nat):0≤xs.getD b 0:=by
 unfold aP at h
 rw[Bool.and_eq_true]at h
 have h1:=((eW _ _).1 h.2).1
 rw[List.getD_eq_getElem?_getD]
 cases hx:xs[b]? with
 |none=>simp
 |some x=>exact(h1 x (List.mem_of_getElem? hx)).1
theorem wV {aA aB:Int}{xs:List Int}{a b:Nat}(h:aP aA aB xs=true)(ha:a<xs.length)(h0:xs.getD a 0=0)(hb:b∈aR aA xs.length a):aZ aA aB xs (b:Int) (a:Int)=decide (0<xs.getD b 0):=by
 obtain⟨h1,h2⟩:=bI.1 hb
 have h3:cN aA aB xs (b:Int) (a:Int)=1:=by
  unfold cN
  rw[if_pos ⟨h,⟨by omega,by omega⟩,by omega,by omega⟩,qX];exact h2
 unfold aZ
 rw[h3]
 simp only[Int.toNat_natCast,h0]
 simp
theorem uB {aA aB:Int}{xs:List Int}{a b:Nat}(h:aP aA aB xs=true)(ha:a<xs.length)(h0:xs.getD a 0=0)(hb:b∈aR aA xs.length a)(hx: ¬xs.getD b 0=0):aZ aA aB xs (b:Int) (a:Int)=true∧bA aA aB xs (b:Int) (a:Int)=(xs.set a (xs.getD b 0)).set b 0:=by
 have h1:=wV h ha h0 hb
 have h2:decide (0<xs.getD b 0)=true:=by have:=kV h b;simp only[decide_eq_true_eq];omega
 rw[h2]at h1
 exact⟨h1,by unfold bA;rw[if_pos h1];simp only[Int.toNat_natCast]⟩
theorem aEf {aA aB:Int}{xs:List Int}{a b:Nat}(h:aP aA aB xs=true)(ha:a<xs.length)(h0:xs.getD a 0=0)(hb:b∈aR aA xs.length a)(hx:xs.getD b 0=0):aZ aA aB xs (b:Int) (a:Int)=false:=by
 rw[wV h ha h0 hb,hx];rfl
theorem nZ {aA aB:Int}{xs:List Int}{a b:Nat}(h:aP aA aB xs=true)(ha:a<xs.length)(h0:xs.getD a 0=0)(hb:b∈aR aA xs.length a)(hx: ¬xs.getD b 0=0):
  aP aA aB ((xs.set a (xs.getD b 0)).set b 0)=true∧((xs.set a (xs.getD b 0)).set b 0).length=xs.length∧((xs.set a (xs.getD b 0)).set b 0).getD b 0=0:=by
 obtain⟨h1,h2⟩:=uB h ha h0 hb hx
 refine⟨by rw[←h2];exact fO _ _ h,by simp,?_⟩
 have hl:=(bI.1 hb).1
 rw[List.getD_eq_getElem?_getD,List.getElem?_set_self (by simp;exact hl)];rfl
theorem rJ {aA aB:Int}: ∀(l:List Nat) (xs:List Int) (a:Nat),aP aA aB xs=true→a<xs.length→xs.getD a 0=0→jV aA xs.length a l→
  aW aA aB xs (bQ xs a l).2=((bQ xs a l).1,(bQ xs a l).2.length)∧aP aA aB (bQ xs a l).1=true∧(bQ xs a l).1.length=xs.length∧(bQ xs a l).2.length≤l.length∧(bQ xs a l).1.getD ((a::l).getLast (by simp)) 0=0:=by
 intro l
 induction l with
 |nil=>intro xs a h ha h0 _;exact⟨rfl,h,rfl,Nat.le_refl _,by simpa[bQ]using h0⟩
 |cons b l ih=>
  intro xs a h ha h0 hs
  obtain⟨hb,hs'⟩:=hs
  have hbl:=(bI.1 hb).1
  by_cases hx:xs.getD b 0=0
  ·rw[lZ hx]
   obtain⟨i1,i2,i3,i4,i5⟩:=ih xs b h hbl hx hs'
   exact⟨i1,i2,i3,by simp;omega,by simpa using i5⟩
  ·obtain⟨n1,n2,n3⟩:=nZ h ha h0 hb hx
   obtain⟨d1,d2⟩:=uB h ha h0 hb hx
   obtain⟨i1,i2,i3,i4,i5⟩:=ih _ b n1 (by rw[n2];exact hbl) n3 (by rw[n2];exact hs')
   rw[kU hx]
   refine⟨?_,i2,by rw[i3,n2],by simp only[List.length_cons];omega,by simpa using i5⟩
   dsimp only
   rw[dG d1,d2,i1]
   rfl
theorem nG {aA:Int}{n:Nat}(h:(aA,n)∈fN): ∀(f u:Nat),u<n→jV aA n u (cH aA n f u).tail:=by
 intro f
 induction f with
 |zero=>intro u _;exact trivial
 |succ f ih=>
  intro u hu
  unfold cH
  by_cases h0:u=0
  ·rw[if_pos h0];exact trivial
  ·rw[if_neg h0]
   obtain⟨h1,h2,_⟩:=(bM h hu).2.2.2.1 h0
   have:=ih (iL aA n u) h1
   have hh:=nH aA n f (iL aA n u)
   simp only[List.tail_cons]
   cases hw:cH aA n f (iL aA n u)with
   |nil=>rw[hw]at hh;simp at hh
   |cons x l=>
    rw[hw]at hh this
    simp at hh
    subst hh
    exact⟨h2,this⟩
theorem pL (aA:Int)(n f u:Nat):cH aA n f u=u::(cH aA n f u).tail:=by
 have hh:=nH aA n f u
 cases hw:cH aA n f u with
 |nil=>rw[hw]at hh;simp at hh
 |cons x l=>rw[hw]at hh;simp at hh;subst hh;rfl
theorem aCr {aA:Int}{n:Nat}(h:(aA,n)∈fN): ∀(f u:Nat),u<n→aV aA u 0≤f→(cH aA n f u).getLast? =some 0:=by
 intro f
 induction f with
 |zero=>
  intro u hu ha
  have g:=bM h hu
  have:u=0:=g.2.2.1.1 (by have:=g.1;simp at ha;omega)
  subst this;rfl
 |succ f ih=>
  intro u hu ha
  unfold cH
  by_cases h0:u=0
  ·rw[if_pos h0];simp[h0]
  ·rw[if_neg h0]
   obtain⟨h1,h2,h3⟩:=(bM h hu).2.2.2.1 h0
   have:=ih (iL aA n u) h1 (by rw[h3];simp at ha;omega)
   rw[List.getLast?_cons,this];rfl
def bE (xs:List Int):List Nat:=(List.range xs.length).filter (cG xs)
theorem qS (xs:List Int):lT xs=(bE xs).map (fun(k:Nat)=>(k:Int)):=by
 unfold lT bE
 generalize xs.length=k
 induction k with
 |zero=>rfl
 |succ k ih=>
  rw[List.range_succ,List.filter_append,List.map_append,eE,ih]
  congr 1
  cases h:cG xs k<;>simp[h]
theorem gW {xs:List Int}{u:Nat}(h:u∈bE xs):u<xs.length∧xs.getD u 0=0:=by
 unfold bE at h
 rw[List.mem_filter]at h
 refine⟨by simpa using h.1,?_⟩
 have h2:=h.2
 unfold cG at h2
 rw[List.getD_eq_getElem?_getD,eq_of_beq h2];rfl
def kA (aA:Int)(best:Option Nat)(u:Nat):Option Nat:=
 match best with
 |none=>some u
 |some v=>if aV aA u 0<aV aA v 0 then some u else some v
def cA (aA:Int)(l:List Nat):Option Nat:=l.foldl (kA aA) none
theorem tQ (aA:Int)(l:List Nat)(u:Nat):cA aA (l++ [u])=kA aA (cA aA l) u:=by simp[cA]
theorem fS (aA:Int)(l:List Nat):(cA aA l=none↔l= [])∧ ∀u,cA aA l=some u→u∈l:=by
 suffices h: ∀(l pre:List Nat) (b:Option Nat),(b=none↔pre= [])→(∀u,b=some u→u∈pre)→((l.foldl (kA aA) b=none↔pre++l= [])∧ ∀u,l.foldl (kA aA) b=some u→u∈pre++l)from by
  simpa[cA]using h l [] none (by simp) (by simp)
 intro l
 induction l with
 |nil=>intro pre b h1 h2;simpa using⟨h1,h2⟩
 |cons x l ih=>
  intro pre b h1 h2
  have:=ih (pre++ [x]) (kA aA b x) (by
   unfold kA
   cases b with
   |none=>simp
   |some v=>simp;split<;>simp) (by
   intro u hu
   unfold kA at hu
   cases b with
   |none=>simp at hu;simp[hu]
   |some v=>
    simp only at hu
    split at hu
    ·injection hu with hu;simp[hu]
    ·injection hu with hu;subst hu;exact List.mem_append_left _ (h2 v rfl))
  simpa using this
def fA (aA:Int)(xs:List Int):Option (List Int×List Sl2):=(cA aA (bE xs)).map (fun u=>bQ xs u (cH aA xs.length 12 u).tail)
def iX (aA aB:Int)(xs:List Int)(id:Int):Option (List Int×Nat):=
 match fA aA xs with
 |none=>none
 |some r=>if(cD aA aB r.1 id).2 then some ((cD aA aB r.1 id).1,r.2.length)else none
theorem gU {aA aB:Int}{xs:List Int}(h:aP aA aB xs=true):(aA,xs.length)∈fN:=by
 obtain⟨h1,h2,h3,h4,h5,h6,h7⟩:=bU (bW h)
 exact mA h1 h2 h3 h4 h7
theorem kX {aA aB:Int}{xs:List Int}(h:aP aA aB xs=true){r:List Int×List Sl2}(hr:fA aA xs=some r):
  aW aA aB xs r.2=(r.1,r.2.length)∧aP aA aB r.1=true∧r.1.length=xs.length∧r.2.length≤5∧r.1.getD 0 0=0:=by
 unfold fA at hr
 cases hn:cA aA (bE xs)with
 |none=>rw[hn]at hr;simp at hr
 |some u=>
  rw[hn]at hr
  simp at hr
  subst hr
  obtain⟨hu,h0⟩:=gW ((fS aA _).2 u hn)
  have hg:=gU h
  have g:=bM hg hu
  obtain⟨f1,f2,f3,f4,f5⟩:=rJ _ xs u h hu h0 (nG hg 12 u hu)
  have hl:=jJ hg 12 u hu (by have:=g.2.1;omega)
  have hw:=aCr hg 12 u hu (by have:=g.2.1;omega)
  refine⟨f1,f2,f3,?_,?_⟩
  ·have:=g.2.1;rw[List.length_tail]at f4;omega
  ·have hc:=pL aA xs.length 12 u
   rw[hc,List.getLast?_eq_some_getLast (by simp)]at hw
   injection hw with hw
   rw[hw]at f5
   exact f5
set_option maxRecDepth 100000 in
set_option maxHeartbeats 8000000 in
theorem aB1 (aA aB:Int)(p:Option Addr)(n cap:Nat)(b off m c2:Nat)(ws:List Nat)(w:World)(hn0:4≤n)(hn:n≤12)(hm0:0<m)(hm:m≤12)(hlen:Hid (ws.length=m))(hb:b<w.heap.size)
  (HS:Hid (∀(k x:Nat),ws[k]? =some x→w.cell? ⟨b,off+k,none⟩=some (.int .i64 (x:Int)))) (x0:Nat) (c0:w.cell? ⟨b,off,none⟩=some (.int .i64 (x0:Int)))
  (HA:Hid (∀(k x y:Nat),ws[k]? =some x→ws[k+1]? =some y→ ∀w',Ext w w'→Calls Tryz.prog 105 #[aK aA aB p n cap,.int .i64 (x:Int),.int .i64 (y:Int)] w' fun e w''=>e= .returned (.int .i64 1)∧Ext w' w''))
  (HV:Hid (∀w',Ext w w'→Calls Tryz.prog 58 #[aK aA aB p n cap] w' fun e w''=>e= .returned (.bool true)∧Ext w' w''))
  (HI:Hid (∀w,Calls Tryz.prog 35 #[.int .i64 (x0:Int),.int .i64 0,.int .i64 ((n:Int)-1)] w fun e w'=>e= .returned (.bool true)∧w=w')):
  Calls Tryz.prog 125 #[aK aA aB p n cap,.slice (some ⟨b,off,none⟩) m c2] w fun e w'=>e= .returned (.bool true)∧Ext w w':=by
 go_enter Tryz.func125,Tryz.ntmps125
 go_wp2
 go_loopw [5] (fun i wr=> ∃k:Nat,1≤k∧k≤m∧i= .int .i64 (k:Int)∧Ext w wr∧Blk wr w.heap.size TH3 #[.int .i64 aA,.int .i64 aB,.slice p n cap]) (fun i _=>m-(intOf i).toNat)
 case atStart=>exact⟨1,Nat.le_refl _,by omega,rfl,by exact .alloc (.refl _) _,Blk.new _ _ _⟩
 case round=>
  obtain⟨k,hk1,hk,rfl,hE,hB⟩:=hrel
  have HB:=xQ hB
  clear hB
  have hb':b<wr.heap.size:=Nat.lt_of_lt_of_le hb hE.sz
  by_cases hlt:k<m
  ·obtain⟨x,hx⟩: ∃x,ws[k-1]? =some x:=⟨_,List.getElem?_eq_getElem (by rw[hlen.out];omega)⟩
   obtain⟨y,hy⟩: ∃y,ws[k]? =some y:=⟨_,List.getElem?_eq_getElem (by rw[hlen.out];omega)⟩
   have HK:=xQ (HA.out (k-1) x y hx (by rw[show k-1+1=k by omega];exact hy))
   have ca:wr.cell? ⟨b,off+(k-1),none⟩=some (.int .i64 (x:Int)):=(hE.cells.1 _ _ hb).trans (HS.out (k-1) x hx)
   have cb:wr.cell? ⟨b,off+k,none⟩=some (.int .i64 (y:Int)):=(hE.cells.1 _ _ hb).trans (HS.out k y hy)
   clear hx hy c0
   have i1:(0:Int)≤(k:Int):=by omega
   have i2:(k:Int)<(m:Int):=by omega
   have i3:(k:Int)-1<(m:Int):=by omega
   have i4:((k:Int)-1).toNat=k-1:=by omega
   have i5:(1:Int)≤(k:Int):=by omega
   go_wp2
   refine cK (gl [gEq (.agg #[.int .i64 aA,.int .i64 aB,.slice p n cap]),gEq (.slice (some ⟨b,off,none⟩) m c2),gEq (.int .i64 (k:Int)),gEq (.int .i64 ((k:Int)-1)),gEq (.pointer (some ⟨b,off+(k-1),none⟩)),gEq (.int .i64 (x:Int)),gEq (.slice (some ⟨b,off,none⟩) m c2),gEq (.int .i64 (k:Int)),gEq (.pointer (some ⟨b,off+k,none⟩)),gEq (.int .i64 (y:Int)),gEq (.int .i64 1),gEq (.bool false)]) 12 (by kernel_rfl) rfl (by kernel_rfl) (by kernel_rfl) (by kernel_rfl) (dW (aL (aI _) (aL (aI _) (aL (aI _) (aL (aI _) (aL (aI _) (aL (aI _) (aL (aI _) (aL (aI _) (aL (aI _) (aL (aI _) (aL (aI _) (aL (aI _) (eS)))))))))))))) (k:=12) (by kernel_rfl) (by decide) (ls:= [(0,some 12),(1,some 13),(2,some 14),(3,some 15),(4,some 16),(5,some 17),(6,some 18),(7,some 19),(8,some 20),(9,some 21),(10,some 22),(11,some 23)]) (by kernel_rfl) (ir:= [0,1,2,3,4,5,6,7,8,9,10,11]) (by kernel_rfl) ?steps (tl:=#[true,true,true,true,true,true,true,true,true,true,true,true]) (by kernel_rfl) ?fin
   case steps=>
    refine sC [] rfl (fun wi hx=> ?_) ?_
    ·intro K hK
     have hX:Ext wr wi:=by exact .trans (.drew (.refl _)) hx
     obtain⟨cl0,cl1,cl2⟩:=((HB.out.ext hX)).tri
     go_simp
     exact hK _ _ ⟨.agg #[.int .i64 aA,.int .i64 aB,.slice p n cap],rfl,rfl,Ext.refl _⟩
    refine sC [] rfl (fun wi hx=> ?_) ?_
    ·intro K hK
     go_simp
     exact hK _ _ ⟨.slice (some ⟨b,off,none⟩) m c2,rfl,rfl,Ext.refl _⟩
    refine sC [] rfl (fun wi hx=> ?_) ?_
    ·intro K hK
     go_simp
     exact hK _ _ ⟨.int .i64 (k:Int),rfl,rfl,Ext.refl _⟩
    refine sC [(2,some 14)] rfl (fun wi hx=> ?_) ?_
    ·intro v2 h2 K hK
     obtain rfl:=h2
     have hwr:IntKind.i64.wrap ((k:Int)-1)=(k:Int)-1:=IntWalk.i64_in _ (by omega)
     go_simp
     exact hK _ _ ⟨.int .i64 ((k:Int)-1),rfl,rfl,Ext.refl _⟩
    refine sC [(1,some 13),(3,some 15)] rfl (fun wi hx=> ?_) ?_
    ·intro v1 h1 v3 h3 K hK
     obtain rfl:=h1
     obtain rfl:=h3
     go_simp
     exact hK _ _ ⟨.pointer (some ⟨b,off+(k-1),none⟩),rfl,rfl,Ext.refl _⟩
    refine sC [(4,some 16)] rfl (fun wi hx=> ?_) ?_
    ·intro v4 h4 K hK
     obtain rfl:=h4
     have hX:Ext wr wi:=by exact .trans (.drew (.refl _)) hx
     have cl0:wi.cell? ⟨b,off+(k-1),none⟩=some (.int .i64 (x:Int)):=(hX.cells.1 _ _ hb').trans ca
     go_simp
     exact hK _ _ ⟨.int .i64 (x:Int),rfl,rfl,Ext.refl _⟩
    refine sC [] rfl (fun wi hx=> ?_) ?_
    ·intro K hK
     go_simp
     exact hK _ _ ⟨.slice (some ⟨b,off,none⟩) m c2,rfl,rfl,Ext.refl _⟩
    refine sC [] rfl (fun wi hx=> ?_) ?_
    ·intro K hK
     go_simp
     exact hK _ _ ⟨.int .i64 (k:Int),rfl,rfl,Ext.refl _⟩
    refine sC [(6,some 18),(7,some 19)] rfl (fun wi hx=> ?_) ?_
    ·intro v6 h6 v7 h7 K hK
     obtain rfl:=h6
     obtain rfl:=h7
     go_simp
     exact hK _ _ ⟨.pointer (some ⟨b,off+k,none⟩),rfl,rfl,Ext.refl _⟩
    refine sC [(8,some 20)] rfl (fun wi hx=> ?_) ?_
    ·intro v8 h8 K hK
     obtain rfl:=h8
     have hX:Ext wr wi:=by exact .trans (.drew (.refl _)) hx
     have cl0:wi.cell? ⟨b,off+k,none⟩=some (.int .i64 (y:Int)):=(hX.cells.1 _ _ hb').trans cb
     go_simp
     exact hK _ _ ⟨.int .i64 (y:Int),rfl,rfl,Ext.refl _⟩
    refine sC [(0,some 12),(5,some 17),(9,some 21)] rfl (fun wi hx=> ?_) ?_
    ·intro v0 h0 v5 h5 v9 h9 K hK
     obtain rfl:=h0
     obtain rfl:=h5
     obtain rfl:=h9
     go_wp2_with fail
     refine(HK.out _ (hE.trans hx.of_drew)).mono ?_
     rintro e w5 ⟨rfl,hx5⟩
     go_simp
     exact hK _ _ ⟨.int .i64 1,rfl,rfl,hx5⟩
    refine sC [(10,some 22)] rfl (fun wi hx=> ?_) StepsL.nil
    ·intro v10 h10 K hK
     obtain rfl:=h10
     go_simp
     exact hK _ _ ⟨.bool false,rfl,rfl,Ext.refl _⟩
   case fin=>
    intro wi hx v0 h0 v1 h1 v2 h2 v3 h3 v4 h4 v5 h5 v6 h6 v7 h7 v8 h8 v9 h9 v10 h10 v11 h11
    obtain rfl:=h0
    obtain rfl:=h1
    obtain rfl:=h2
    obtain rfl:=h3
    obtain rfl:=h4
    obtain rfl:=h5
    obtain rfl:=h6
    obtain rfl:=h7
    obtain rfl:=h8
    obtain rfl:=h9
    obtain rfl:=h10
    obtain rfl:=h11
    refine wpAny_done (by kernel_rfl) ?_ _
    simp only[Act.put,List.setIfInBounds_toArray,List.set_cons_zero,List.set_cons_succ]
    have hx':=hx.of_drew
    go_wp2
    go_roundw
    case rel=>exact⟨k+1,by omega,by omega,by go_num,hE.trans hx',HB.out.ext hx'⟩
    case measure=>simp[intOf];omega
  ·obtain rfl:m=k:=by omega
   have c0':=(hE.cells.1 _ _ hb).trans c0
   clear c0
   have c0:=c0'
   clear c0'
   have i2:(0:Int)<(m:Int):=by omega
   have i6:IntKind.i64.wrap ((n:Int)-1)=(n:Int)-1:=IntWalk.i64_in _ (by omega)
   go_wp2
   refine cK (gl [gEq (.agg #[.int .i64 aA,.int .i64 aB,.slice p n cap]),gEq (.bool true),gEq (.bool true),gEq (.slice (some ⟨b,off,none⟩) m c2),gEq (.int .i64 (m:Int)),gEq (.bool true),gEq (.bool true),gEq (.bool true),gEq (.slice (some ⟨b,off,none⟩) m c2),gEq (.pointer (some ⟨b,off,none⟩)),gEq (.int .i64 (x0:Int)),gEq (.pointer (some ⟨w.heap.size,2,none⟩)),gEq (.slice p n cap),gEq (.int .i64 (n:Int)),gEq (.int .i64 ((n:Int)-1)),gEq (.bool true),gEq (.bool true),gEq (.bool true)]) 18 (by kernel_rfl) rfl (by kernel_rfl) (by kernel_rfl) (by kernel_rfl) (dW (aL (aI _) (aL (aI _) (aL (aI _) (aL (aI _) (aL (aI _) (aL (aI _) (aL (aI _) (aL (aI _) (aL (aI _) (aL (aI _) (aL (aI _) (aL (aI _) (aL (aI _) (aL (aI _) (aL (aI _) (aL (aI _) (aL (aI _) (aL (aI _) (eS)))))))))))))))))))) (k:=18) (by kernel_rfl) (by decide) (ls:= [(0,some 24),(1,some 25),(2,some 26),(3,some 27),(4,some 28),(5,some 29),(6,some 30),(7,some 31),(8,some 32),(9,some 33),(10,some 34),(11,some 35),(12,some 36),(13,some 37),(14,some 38),(15,some 39),(16,some 40),(17,some 4)]) (by kernel_rfl) (ir:= [0,1,2,3,4,5,6,7,8,9,10,11,12,13,14,15,16,17]) (by kernel_rfl) ?steps (tl:=#[true,true,true,true,true,true,true,true,true,true,true,true,true,true,true,true,true,true]) (by kernel_rfl) ?fin
   case steps=>
    refine sC [] rfl (fun wi hx=> ?_) ?_
    ·intro K hK
     have hX:Ext wr wi:=by exact .trans (.drew (.refl _)) hx
     obtain⟨cl0,cl1,cl2⟩:=((HB.out.ext hX)).tri
     go_simp
     exact hK _ _ ⟨.agg #[.int .i64 aA,.int .i64 aB,.slice p n cap],rfl,rfl,Ext.refl _⟩
    refine sC [(0,some 24)] rfl (fun wi hx=> ?_) ?_
    ·intro v0 h0 K hK
     obtain rfl:=h0
     go_wp2_with fail
     refine(HV.out _ (hE.trans hx.of_drew)).mono ?_
     rintro e w5 ⟨rfl,hx5⟩
     go_simp
     exact hK _ _ ⟨.bool true,rfl,rfl,hx5⟩
    refine sC [(1,some 25)] rfl (fun wi hx=> ?_) ?_
    ·intro v1 h1 K hK
     obtain rfl:=h1
     go_simp
     exact hK _ _ ⟨.bool true,rfl,rfl,Ext.refl _⟩
    refine sC [(2,some 26)] rfl (fun wi hx=> ?_) ?_
    ·intro v2 h2 K hK
     obtain rfl:=h2
     go_simp
     exact hK _ _ ⟨.slice (some ⟨b,off,none⟩) m c2,rfl,rfl,Ext.refl _⟩
    refine sC [(2,some 26),(3,some 27)] rfl (fun wi hx=> ?_) ?_
    ·intro v2 h2 v3 h3 K hK
     obtain rfl:=h2
     obtain rfl:=h3
     go_simp
     exact hK _ _ ⟨.int .i64 (m:Int),rfl,rfl,Ext.refl _⟩
    refine sC [(2,some 26),(4,some 28)] rfl (fun wi hx=> ?_) ?_
    ·intro v2 h2 v4 h4 K hK
     obtain rfl:=h2
     obtain rfl:=h4
     go_simp
     exact hK _ _ ⟨.bool true,rfl,rfl,Ext.refl _⟩
    refine sC [(2,some 26),(5,some 29)] rfl (fun wi hx=> ?_) ?_
    ·intro v2 h2 v5 h5 K hK
     obtain rfl:=h2
     obtain rfl:=h5
     go_simp
     exact hK _ _ ⟨.bool true,rfl,rfl,Ext.refl _⟩
    refine sC [(6,some 30)] rfl (fun wi hx=> ?_) ?_
    ·intro v6 h6 K hK
     obtain rfl:=h6
     go_simp
     exact hK _ _ ⟨.bool true,rfl,rfl,Ext.refl _⟩
    refine sC [(7,some 31)] rfl (fun wi hx=> ?_) ?_
    ·intro v7 h7 K hK
     obtain rfl:=h7
     go_simp
     exact hK _ _ ⟨.slice (some ⟨b,off,none⟩) m c2,rfl,rfl,Ext.refl _⟩
    refine sC [(7,some 31),(8,some 32)] rfl (fun wi hx=> ?_) ?_
    ·intro v7 h7 v8 h8 K hK
     obtain rfl:=h7
     obtain rfl:=h8
     go_simp
     exact hK _ _ ⟨.pointer (some ⟨b,off,none⟩),rfl,rfl,Ext.refl _⟩
    refine sC [(7,some 31),(9,some 33)] rfl (fun wi hx=> ?_) ?_
    ·intro v7 h7 v9 h9 K hK
     obtain rfl:=h7
     obtain rfl:=h9
     have hX:Ext wr wi:=by exact .trans (.drew (.refl _)) hx
     have cl0:wi.cell? ⟨b,off,none⟩=some (.int .i64 (x0:Int)):=(hX.cells.1 _ _ hb').trans c0
     go_simp
     exact hK _ _ ⟨.int .i64 (x0:Int),rfl,rfl,Ext.refl _⟩
    refine sC [(7,some 31)] rfl (fun wi hx=> ?_) ?_
    ·intro v7 h7 K hK
     obtain rfl:=h7
     go_simp
     exact hK _ _ ⟨.pointer (some ⟨w.heap.size,2,none⟩),rfl,rfl,Ext.refl _⟩
    refine sC [(7,some 31),(11,some 35)] rfl (fun wi hx=> ?_) ?_
    ·intro v7 h7 v11 h11 K hK
     obtain rfl:=h7
     obtain rfl:=h11
     have hX:Ext wr wi:=by exact .trans (.drew (.refl _)) hx
     have cl0:wi.cell? ⟨w.heap.size,2,none⟩=some (.slice p n cap):=(HB.out.ext hX).cell 2
     go_simp
     exact hK _ _ ⟨.slice p n cap,rfl,rfl,Ext.refl _⟩
    refine sC [(7,some 31),(12,some 36)] rfl (fun wi hx=> ?_) ?_
    ·intro v7 h7 v12 h12 K hK
     obtain rfl:=h7
     obtain rfl:=h12
     go_simp
     exact hK _ _ ⟨.int .i64 (n:Int),rfl,rfl,Ext.refl _⟩
    refine sC [(7,some 31),(13,some 37)] rfl (fun wi hx=> ?_) ?_
    ·intro v7 h7 v13 h13 K hK
     obtain rfl:=h7
     obtain rfl:=h13
     go_simp
     exact hK _ _ ⟨.int .i64 ((n:Int)-1),rfl,rfl,Ext.refl _⟩
    refine sC [(7,some 31),(10,some 34),(14,some 38)] rfl (fun wi hx=> ?_) ?_
    ·intro v7 h7 v10 h10 v14 h14 K hK
     obtain rfl:=h7
     obtain rfl:=h10
     obtain rfl:=h14
     go_wp2_with fail
     refine(HI.out _).mono ?_
     rintro e w5 ⟨rfl,rfl⟩
     go_simp
     exact hK _ _ ⟨.bool true,rfl,rfl,Ext.refl _⟩
    refine sC [(7,some 31),(15,some 39)] rfl (fun wi hx=> ?_) ?_
    ·intro v7 h7 v15 h15 K hK
     obtain rfl:=h7
     obtain rfl:=h15
     go_simp
     exact hK _ _ ⟨.bool true,rfl,rfl,Ext.refl _⟩
    refine sC [(16,some 40)] rfl (fun wi hx=> ?_) StepsL.nil
    ·intro v16 h16 K hK
     obtain rfl:=h16
     go_simp
     exact hK _ _ ⟨.bool true,rfl,rfl,Ext.refl _⟩
   case fin=>
    intro wi hx v0 h0 v1 h1 v2 h2 v3 h3 v4 h4 v5 h5 v6 h6 v7 h7 v8 h8 v9 h9 v10 h10 v11 h11 v12 h12 v13 h13 v14 h14 v15 h15 v16 h16 v17 h17
    obtain rfl:=h0
    obtain rfl:=h1
    obtain rfl:=h2
    obtain rfl:=h3
    obtain rfl:=h4
    obtain rfl:=h5
    obtain rfl:=h6
    obtain rfl:=h7
    obtain rfl:=h8
    obtain rfl:=h9
    obtain rfl:=h10
    obtain rfl:=h11
    obtain rfl:=h12
    obtain rfl:=h13
    obtain rfl:=h14
    obtain rfl:=h15
    obtain rfl:=h16
    obtain rfl:=h17
    refine wpAny_done (by kernel_rfl) ?_ _
    simp only[Act.put,List.setIfInBounds_toArray,List.set_cons_zero,List.set_cons_succ]
    have hx':=hx.of_drew
    go_wp2
    go_ret
    exact⟨rfl,hE.trans hx'⟩
open Go
theorem Mem.put3 {w0 w:World}{L:List Item}{i g B:Nat}{t:TypeId}{a0 a1 a2:Value}(h:Mem w0 w L)(hi:L[i]? =Option.some (aF B g t #[a0,a1,a2])) (b0 b1 b2:Value):Mem w0 (((w.setCell ⟨g,0,none⟩ b0).setCell ⟨g,1,none⟩ b1).setCell ⟨g,2,none⟩ b2) (L.set i (aF w0.heap.size g t #[b0,b1,b2])):=by
 have hl:i<L.length:=(List.getElem?_eq_some_iff.1 hi).1
 have h0:Mem w0 (w.setCell ⟨g,0,none⟩ b0) (L.set i (aF w0.heap.size g t #[b0,a1,a2])):=by have:=h.store (i:=i) hi 0 b0;simpa[List.set_set]using this
 have i0:(L.set i (aF w0.heap.size g t #[b0,a1,a2]))[i]? =Option.some (aF w0.heap.size g t #[b0,a1,a2]):=by rw[List.getElem?_set_self hl]
 have h1:Mem w0 ((w.setCell ⟨g,0,none⟩ b0).setCell ⟨g,1,none⟩ b1) (L.set i (aF w0.heap.size g t #[b0,b1,a2])):=by have:=h0.store (i:=i) i0 1 b1;simpa[List.set_set]using this
 have i1:(L.set i (aF w0.heap.size g t #[b0,b1,a2]))[i]? =Option.some (aF w0.heap.size g t #[b0,b1,a2]):=by rw[List.getElem?_set_self hl]
 have h2:Mem w0 (((w.setCell ⟨g,0,none⟩ b0).setCell ⟨g,1,none⟩ b1).setCell ⟨g,2,none⟩ b2) (L.set i (aF w0.heap.size g t #[b0,b1,b2])):=by have:=h1.store (i:=i) i1 2 b2;simpa[List.set_set]using this
 have i2:(L.set i (aF w0.heap.size g t #[b0,b1,b2]))[i]? =Option.some (aF w0.heap.size g t #[b0,b1,b2]):=by rw[List.getElem?_set_self hl]
 exact h2
theorem Mem.put10 {w0 w:World}{L:List Item}{i g B:Nat}{t:TypeId}{a0 a1 a2 a3 a4 a5 a6 a7 a8 a9:Value}(h:Mem w0 w L)(hi:L[i]? =Option.some (aF B g t #[a0,a1,a2,a3,a4,a5,a6,a7,a8,a9])) (b0 b1 b2 b3 b4 b5 b6 b7 b8 b9:Value):Mem w0 ((((((((((w.setCell ⟨g,0,none⟩ b0).setCell ⟨g,1,none⟩ b1).setCell ⟨g,2,none⟩ b2).setCell ⟨g,3,none⟩ b3).setCell ⟨g,4,none⟩ b4).setCell ⟨g,5,none⟩ b5).setCell ⟨g,6,none⟩ b6).setCell ⟨g,7,none⟩ b7).setCell ⟨g,8,none⟩ b8).setCell ⟨g,9,none⟩ b9) (L.set i (aF w0.heap.size g t #[b0,b1,b2,b3,b4,b5,b6,b7,b8,b9])):=by
 have hl:i<L.length:=(List.getElem?_eq_some_iff.1 hi).1
 have h0:Mem w0 (w.setCell ⟨g,0,none⟩ b0) (L.set i (aF w0.heap.size g t #[b0,a1,a2,a3,a4,a5,a6,a7,a8,a9])):=by have:=h.store (i:=i) hi 0 b0;simpa[List.set_set]using this
 have i0:(L.set i (aF w0.heap.size g t #[b0,a1,a2,a3,a4,a5,a6,a7,a8,a9]))[i]? =Option.some (aF w0.heap.size g t #[b0,a1,a2,a3,a4,a5,a6,a7,a8,a9]):=by rw[List.getElem?_set_self hl]
 have h1:Mem w0 ((w.setCell ⟨g,0,none⟩ b0).setCell ⟨g,1,none⟩ b1) (L.set i (aF w0.heap.size g t #[b0,b1,a2,a3,a4,a5,a6,a7,a8,a9])):=by have:=h0.store (i:=i) i0 1 b1;simpa[List.set_set]using this
 have i1:(L.set i (aF w0.heap.size g t #[b0,b1,a2,a3,a4,a5,a6,a7,a8,a9]))[i]? =Option.some (aF w0.heap.size g t #[b0,b1,a2,a3,a4,a5,a6,a7,a8,a9]):=by rw[List.getElem?_set_self hl]
 have h2:Mem w0 (((w.setCell ⟨g,0,none⟩ b0).setCell ⟨g,1,none⟩ b1).setCell ⟨g,2,none⟩ b2) (L.set i (aF w0.heap.size g t #[b0,b1,b2,a3,a4,a5,a6,a7,a8,a9])):=by have:=h1.store (i:=i) i1 2 b2;simpa[List.set_set]using this
 have i2:(L.set i (aF w0.heap.size g t #[b0,b1,b2,a3,a4,a5,a6,a7,a8,a9]))[i]? =Option.some (aF w0.heap.size g t #[b0,b1,b2,a3,a4,a5,a6,a7,a8,a9]):=by rw[List.getElem?_set_self hl]
 have h3:Mem w0 ((((w.setCell ⟨g,0,none⟩ b0).setCell ⟨g,1,none⟩ b1).setCell ⟨g,2,none⟩ b2).setCell ⟨g,3,none⟩ b3) (L.set i (aF w0.heap.size g t #[b0,b1,b2,b3,a4,a5,a6,a7,a8,a9])):=by have:=h2.store (i:=i) i2 3 b3;simpa[List.set_set]using this
 have i3:(L.set i (aF w0.heap.size g t #[b0,b1,b2,b3,a4,a5,a6,a7,a8,a9]))[i]? =Option.some (aF w0.heap.size g t #[b0,b1,b2,b3,a4,a5,a6,a7,a8,a9]):=by rw[List.getElem?_set_self hl]
 have h4:Mem w0 (((((w.setCell ⟨g,0,none⟩ b0).setCell ⟨g,1,none⟩ b1).setCell ⟨g,2,none⟩ b2).setCell ⟨g,3,none⟩ b3).setCell ⟨g,4,none⟩ b4) (L.set i (aF w0.heap.size g t #[b0,b1,b2,b3,b4,a5,a6,a7,a8,a9])):=by have:=h3.store (i:=i) i3 4 b4;simpa[List.set_set]using this
 have i4:(L.set i (aF w0.heap.size g t #[b0,b1,b2,b3,b4,a5,a6,a7,a8,a9]))[i]? =Option.some (aF w0.heap.size g t #[b0,b1,b2,b3,b4,a5,a6,a7,a8,a9]):=by rw[List.getElem?_set_self hl]
 have h5:Mem w0 ((((((w.setCell ⟨g,0,none⟩ b0).setCell ⟨g,1,none⟩ b1).setCell ⟨g,2,none⟩ b2).setCell ⟨g,3,none⟩ b3).setCell ⟨g,4,none⟩ b4).setCell ⟨g,5,none⟩ b5) (L.set i (aF w0.heap.size g t #[b0,b1,b2,b3,b4,b5,a6,a7,a8,a9])):=by have:=h4.store (i:=i) i4 5 b5;simpa[List.set_set]using this
 have i5:(L.set i (aF w0.heap.size g t #[b0,b1,b2,b3,b4,b5,a6,a7,a8,a9]))[i]? =Option.some (aF w0.heap.size g t #[b0,b1,b2,b3,b4,b5,a6,a7,a8,a9]):=by rw[List.getElem?_set_self hl]
 have h6:Mem w0 (((((((w.setCell ⟨g,0,none⟩ b0).setCell ⟨g,1,none⟩ b1).setCell ⟨g,2,none⟩ b2).setCell ⟨g,3,none⟩ b3).setCell ⟨g,4,none⟩ b4).setCell ⟨g,5,none⟩ b5).setCell ⟨g,6,none⟩ b6) (L.set i (aF w0.heap.size g t #[b0,b1,b2,b3,b4,b5,b6,a7,a8,a9])):=by have:=h5.store (i:=i) i5 6 b6;simpa[List.set_set]using this
 have i6:(L.set i (aF w0.heap.size g t #[b0,b1,b2,b3,b4,b5,b6,a7,a8,a9]))[i]? =Option.some (aF w0.heap.size g t #[b0,b1,b2,b3,b4,b5,b6,a7,a8,a9]):=by rw[List.getElem?_set_self hl]
 have h7:Mem w0 ((((((((w.setCell ⟨g,0,none⟩ b0).setCell ⟨g,1,none⟩ b1).setCell ⟨g,2,none⟩ b2).setCell ⟨g,3,none⟩ b3).setCell ⟨g,4,none⟩ b4).setCell ⟨g,5,none⟩ b5).setCell ⟨g,6,none⟩ b6).setCell ⟨g,7,none⟩ b7) (L.set i (aF w0.heap.size g t #[b0,b1,b2,b3,b4,b5,b6,b7,a8,a9])):=by have:=h6.store (i:=i) i6 7 b7;simpa[List.set_set]using this
 have i7:(L.set i (aF w0.heap.size g t #[b0,b1,b2,b3,b4,b5,b6,b7,a8,a9]))[i]? =Option.some (aF w0.heap.size g t #[b0,b1,b2,b3,b4,b5,b6,b7,a8,a9]):=by rw[List.getElem?_set_self hl]
 have h8:Mem w0 (((((((((w.setCell ⟨g,0,none⟩ b0).setCell ⟨g,1,none⟩ b1).setCell ⟨g,2,none⟩ b2).setCell ⟨g,3,none⟩ b3).setCell ⟨g,4,none⟩ b4).setCell ⟨g,5,none⟩ b5).setCell ⟨g,6,none⟩ b6).setCell ⟨g,7,none⟩ b7).setCell ⟨g,8,none⟩ b8) (L.set i (aF w0.heap.size g t #[b0,b1,b2,b3,b4,b5,b6,b7,b8,a9])):=by have:=h7.store (i:=i) i7 8 b8;simpa[List.set_set]using this
 have i8:(L.set i (aF w0.heap.size g t #[b0,b1,b2,b3,b4,b5,b6,b7,b8,a9]))[i]? =Option.some (aF w0.heap.size g t #[b0,b1,b2,b3,b4,b5,b6,b7,b8,a9]):=by rw[List.getElem?_set_self hl]
 have h9:Mem w0 ((((((((((w.setCell ⟨g,0,none⟩ b0).setCell ⟨g,1,none⟩ b1).setCell ⟨g,2,none⟩ b2).setCell ⟨g,3,none⟩ b3).setCell ⟨g,4,none⟩ b4).setCell ⟨g,5,none⟩ b5).setCell ⟨g,6,none⟩ b6).setCell ⟨g,7,none⟩ b7).setCell ⟨g,8,none⟩ b8).setCell ⟨g,9,none⟩ b9) (L.set i (aF w0.heap.size g t #[b0,b1,b2,b3,b4,b5,b6,b7,b8,b9])):=by have:=h8.store (i:=i) i8 9 b9;simpa[List.set_set]using this
 have i9:(L.set i (aF w0.heap.size g t #[b0,b1,b2,b3,b4,b5,b6,b7,b8,b9]))[i]? =Option.some (aF w0.heap.size g t #[b0,b1,b2,b3,b4,b5,b6,b7,b8,b9]):=by rw[List.getElem?_set_self hl]
 exact h9
end Go.Proofs.YtahglfakiobbcaaGreatDoor
