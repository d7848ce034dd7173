/-
  Texts of this proof, packed (@packed).
-/
import Derived.Test.YtgnkoffndhmhpaaGreatDoorR1
import Derived.Test.YtgnkoffndhmhpaaGreatDoorR8
namespace Go.Proofs.YtgnkoffndhmhpaaGreatDoor
set_option linter.unusedVariables false
def jG (aA:Int)(n u:Nat):Nat:=((aS aA n u).find? (fun(v:Nat)=>decide (aZ aA v 0=aZ aA u 0-1))).getD 0
def cR (aA:Int)(n:Nat):Nat→Nat→List Nat
 |0,u=> [u]
 |f+1,u=>if u=0 then [u]else u::cR aA n f (jG aA n u)
def fY:List (Int×Nat):= [(2,4),(2,6),(3,6),(3,9),(4,8),(4,12)]
def aI6 (aA:Int)(n:Nat):Bool:=
 (List.range n).all fun u=>decide (0≤aZ aA u 0∧aZ aA u 0≤5)&&decide (aZ aA u 0=0↔u=0)
  &&(decide (u=0) || (decide (jG aA n u<n)&&decide (jG aA n u∈aS aA n u)&&decide (aZ aA (jG aA n u) 0=aZ aA u 0-1)))
  &&(List.range n).all fun v=> !decide (v∈aS aA n u) || decide (aZ aA u 0≤aZ aA v 0+1)
theorem aGv:(fY.all fun g=>aI6 g.1 g.2)=true:=by decide+kernel
theorem nP {aA aB:Int}{n:Nat}(h0:2≤aA)(h1:aA≤4)(h2:2≤aB)(h3:aB≤3)(hn:(n:Int)=aA*aB):(aA,n)∈fY:=by
 have hw:aA=2∨aA=3∨aA=4:=by omega
 have hd:aB=2∨aB=3:=by omega
 rcases hw with rfl|rfl|rfl<;>rcases hd with rfl|rfl
 ·obtain rfl:n=4:=by omega
  decide
 ·obtain rfl:n=6:=by omega
  decide
 ·obtain rfl:n=6:=by omega
  decide
 ·obtain rfl:n=9:=by omega
  decide
 ·obtain rfl:n=8:=by omega
  decide
 ·obtain rfl:n=12:=by omega
  decide
theorem bO {aA:Int}{n:Nat}(h:(aA,n)∈fY){u:Nat}(hu:u<n):
  0≤aZ aA u 0∧aZ aA u 0≤5∧(aZ aA u 0=0↔u=0)
  ∧(u≠0→jG aA n u<n∧jG aA n u∈aS aA n u∧aZ aA (jG aA n u) 0=aZ aA u 0-1)
  ∧ ∀v∈aS aA n u,aZ aA u 0≤aZ aA v 0+1:=by
 have h1:=List.all_eq_true.1 aGv _ h
 have h2:=List.all_eq_true.1 h1 u (List.mem_range.2 hu)
 simp only[Bool.and_eq_true,Bool.or_eq_true,decide_eq_true_eq]at h2
 obtain⟨⟨⟨⟨a,b⟩,c⟩,d⟩,e⟩:=h2
 refine⟨a,b,c,fun h=> ?_,fun v hv=> ?_⟩
 ·rcases d with d|d
  ·exact absurd d h
  ·exact⟨d.1.1,d.1.2,d.2⟩
 ·have:=List.all_eq_true.1 e v (List.mem_range.2 (bM.1 hv).1)
  simpa[hv]using this
theorem uK {aA:Int}{n:Nat}(h:(aA,n)∈fY){adj:Nat→List Nat}(ha: ∀u,adj u=aS aA n u){D:List Int}(hD:oU adj [0] n D){u:Nat}(hu:u<n):D.getD u 0=aZ aA u 0:=by
 have hn:0<n:=by omega
 have up: ∀(d:Nat) v,v<n→aZ aA v 0=d→0≤D.getD v 0∧D.getD v 0≤d:=by
  intro d
  induction d with
  |zero=>
   intro v hv e
   have e0:=(bO h hv).2.2.1.1 e
   have:=(hD.zero v hv).2 (by simp[e0])
   omega
  |succ d ih=>
   intro v hv e
   have hv0:v≠0:=fun e0=>by have:=(bO h hv).2.2.1.2 e0;omega
   obtain⟨h1,h2,h3⟩:=(bO h hv).2.2.2.1 hv0
   obtain⟨i1,i2⟩:=ih _ h1 (by omega)
   have:=hD.edge _ v h1 i1 (by rw[ha];exact eW hv h2)
   omega
 have down: ∀(d:Nat) v,v<n→D.getD v 0=d→aZ aA v 0≤d:=by
  intro d
  induction d with
  |zero=>
   intro v hv e
   have hm:=(hD.zero v hv).1 e
   simp at hm
   have:=(bO h hv).2.2.1.2 hm
   omega
  |succ d ih=>
   intro v hv e
   obtain⟨x,hx,hm,e2⟩:=hD.back v hv (by omega)
   have i1:=ih x hx (by omega)
   rw[ha]at hm
   have:=(bO h hv).2.2.2.2 x (eW hx hm)
   omega
 obtain⟨a,b,_⟩:=bO h hu
 obtain⟨c,e⟩:=up (aZ aA u 0).toNat u hu (by omega)
 have:=down (D.getD u 0).toNat u hu (by omega)
 omega
theorem aCn {α:Type}{p:α→Bool}{d x:α}: ∀ {l:List α},x∈l→p x=true→ ∃j,j<l.length∧l[j]? =some ((l.find? p).getD d)∧p ((l.find? p).getD d)=true∧ ∀i y,i<j→l[i]? =some y→p y=false:=by
 intro l
 induction l with
 |nil=>intro h;simp at h
 |cons a l ih=>
  intro hx hp
  by_cases ha:p a=true
  ·refine⟨0,by simp,by simp[ha],by simp[ha],fun i y hi=>by omega⟩
  ·have ha':p a=false:=by simpa using ha
   have hxl:x∈l:=by
    rcases List.mem_cons.1 hx with e|e
    ·subst e;exact absurd hp ha
    ·exact e
   obtain⟨j,h1,h2,h3,h4⟩:=ih hxl hp
   have e:((a::l).find? p).getD d=(l.find? p).getD d:=by rw[List.find?_cons_of_neg (by simp[ha'])]
   refine⟨j+1,by simp;omega,by rw[e];simpa using h2,by rw[e];exact h3,?_⟩
   intro i y hi hy
   cases i with
   |zero=>simp at hy;subst hy;exact ha'
   |succ i=>exact h4 i y (by omega) (by simpa using hy)
theorem aCb {aA:Int}{n:Nat}(h:(aA,n)∈fY){u:Nat}(hu:u<n)(h0:u≠0):
  ∃j,j<(aS aA n u).length∧(aS aA n u)[j]? =some (jG aA n u)∧ ∀i v,i<j→(aS aA n u)[i]? =some v→aZ aA v 0≠aZ aA u 0-1:=by
 obtain⟨a,b,c⟩:=(bO h hu).2.2.2.1 h0
 obtain⟨j,h1,h2,_,h4⟩:=aCn (p:=fun(v:Nat)=>decide (aZ aA v 0=aZ aA u 0-1)) (d:=0) b (by simpa using c)
 exact⟨j,h1,h2,fun i v hi hv=>by simpa using h4 i v hi hv⟩
theorem kK {aA:Int}{n:Nat}(h:(aA,n)∈fY): ∀(f u:Nat),u<n→aZ aA u 0≤f→((cR aA n f u).length:Int)=aZ aA u 0+1:=by
 intro f
 induction f with
 |zero=>
  intro u hu hf
  have:=(bO h hu).1
  simp[cR];omega
 |succ f ih=>
  intro u hu hf
  unfold cR
  by_cases h0:u=0
  ·rw[if_pos h0]
   have:=(bO h hu).2.2.1.2 h0
   simp;omega
  ·rw[if_neg h0]
   obtain⟨a,b,c⟩:=(bO h hu).2.2.2.1 h0
   have:=ih _ a (by omega)
   simp;omega
theorem oW (aA:Int)(n f u:Nat):(cR aA n f u)[0]? =some u:=by
 cases f with
 |zero=>simp[cR]
 |succ f=>unfold cR;split<;>simp
theorem pW {aA:Int}{n:Nat}(h:(aA,n)∈fY): ∀(f u k x y:Nat),u<n→(cR aA n f u)[k]? =some x→(cR aA n f u)[k+1]? =some y→y<n∧y∈aS aA n x:=by
 intro f
 induction f with
 |zero=>intro u k x y hu hx hy;simp[cR]at hy
 |succ f ih=>
  intro u k x y hu hx hy
  unfold cR at hx hy
  by_cases h0:u=0
  ·rw[if_pos h0]at hy;simp at hy
  ·rw[if_neg h0]at hx hy
   obtain⟨a,b,c⟩:=(bO h hu).2.2.2.1 h0
   cases k with
   |zero=>
    simp at hx hy
    have:=oW aA n f (jG aA n u)
    rw[hy]at this
    injection this with e
    subst hx e
    exact⟨a,b⟩
   |succ k=>exact ih _ k x y a (by simpa using hx) (by simpa using hy)
theorem aC8 {aA:Int}{n:Nat}(h:(aA,n)∈fY): ∀(f u x:Nat),u<n→x∈cR aA n f u→x<n:=by
 intro f
 induction f with
 |zero=>intro u x hu hx;simp[cR]at hx;omega
 |succ f ih=>
  intro u x hu hx
  unfold cR at hx
  by_cases h0:u=0
  ·rw[if_pos h0]at hx;simp at hx;omega
  ·rw[if_neg h0]at hx
   obtain⟨a,b,c⟩:=(bO h hu).2.2.2.1 h0
   rcases List.mem_cons.1 hx with e|e
   ·omega
   ·exact ih _ x a e
open Go.RowKit
set_option linter.unusedSimpArgs false
set_option maxHeartbeats 8000000
set_option maxRecDepth 100000
theorem aA0 (aA:Int)(n u:Nat):mX aA n (-1) u=aS aA n u:=by
 unfold mX
 rw[List.filter_eq_self]
 intro v hv
 first|(simp;done)|(simp;omega)
theorem aF4 (aA aB:Int)(p:OA)(n cap u:Nat)(R:Int)(w:World)(hg:Hid ((aA,n)∈fY))(hn0:4≤n)(hn:n≤12)(hu:u<n)(hR:Hid (R=aZ aA u 0))(hR0:0≤R)
  (HP:xC 159 #[aI aA aB p n cap,(u:Int),()] w fun w' e w''=>e= .returned (.int .i64 R)∧Ext w' w'')
  (HF:xC 200 #[aI aA aB p n cap,(),(-1:Int)] w fun w' e w''=> ∃D,(D.length=n∧ ∀v,v<n→D.getD v 0=aZ aA v 0)∧aY D w' e w'')
  (HC:Hid (∀(k:Nat),k<n→ ∀w',Ext w w'→Calls Tryz.prog 201 #[aI aA aB p n cap,k] w' (aY (bD (aS aA n k)) w'))):
  Calls Tryz.prog 180 #[aI aA aB p n cap,(u:Int),(),(-1:Int)] w (aY (bD (cR aA n 12 u)) w):=by
 have a1:(0:Int)≤(u:Int):=by omega
 have a2:(u:Int)<(n:Int):=by omega
 have a3:((-1:Int)==(u:Int))=false:=by first|(simp;done)|(simp;omega)
 have a4:decide (R<0)=false:=by first|(simp;done)|(simp;omega)
 go_enter Tryz.func180,Tryz.ntmps180
 go_wp2_with fail
 refine(HP.out _ (by exact .alloc (.alloc (.refl _) _) _)).mono ?_
 rintro e w1 ⟨rfl,hx1⟩
 have B1:=xQ (((Blk.new w TH3 #[aA,aB,.slice p n cap]).alloc (.cells #[] TI)).ext hx1)
 have ho:((w.alloc (.cells #[aA,aB,.slice p n cap] TH3)).alloc (.cells #[] TI)).ownsRow (w.heap.size+1) TI 1 (.slice (some ⟨(w.alloc (.cells #[aA,aB,.slice p n cap] TH3)).heap.size,0,none⟩) 0 0) 0 []:=World.ownsRow_made _ #[] 0 (by simp) (by simp[maxLen]) rfl
 have O1:=xQ (bB ho hx1)
 have X1:Ext w w1:=(((Ext.refl _).alloc _).alloc _).trans hx1
 have s1:w.heap.size+1<w1.heap.size:=by have:=hx1.sz;simp at this;omega
 clear ho hx1
 obtain⟨b0,b1,b2⟩:=B1.out.cells3
 have n1:IntKind.i64.wrap ((n:Int)-1)=(n:Int)-1:=IntWalk.i64_in _ (by omega)
 have t1:decide ((-1:Int)≤ -1∧(-1:Int)≤(n:Int)-1)=true:=by first|(simp;done)|(simp;omega)
 have HI:Hid (∀w,Calls Tryz.prog 77 #[(-1:Int),(-1:Int),((n:Int)-1:Int)] w fun e w'=>e= .returned (.bool true)∧w=w'):=fun w=>by have:=oF (-1) (-1) ((n:Int)-1) w;rwa[t1]at this
 clear t1
 go_wp2_with fail
 refine(HI.out _).mono ?_
 rintro e w2 ⟨rfl,rfl⟩
 go_wp2_with fail
 clear b0 b1 b2
 refine(HF.out _ (by exact X1)).mono ?_
 rintro e w2 ⟨D,⟨hDl,hDv⟩,q2,c2,rfl,o2,hx2⟩
 rw[hDl]at o2⊢
 have HD:=xQ hDl
 have HV:=xQ hDv
 have X2:=xQ (X1.trans hx2)
 have O2:=xQ (bB O1.out hx2)
 have O2':=xQ (show w2.ownsRow (w.heap.size+1) TI 1 (.slice (some ⟨w.heap.size+1,0,none⟩) 0 0) 0 (ivs []) by simpa using O2.out)
 have B2:=xQ (B1.out.ext hx2)
 have z2:=hx2.sz
 clear hDl hDv hx2 O1 X1
 have s2:=B2.out.lt
 obtain⟨gF,rfl,hF1,hF2⟩:=eB o2 (by omega)
 have F2:=xQ (bG o2 (Nat.le_of_lt s1))
 have NE2:Hid (gF≠w.heap.size+1):=by show _≠_;omega
 clear o2 B1
 have dU:D[u]? =some R:=by
  have:=(cW (D:=D) (v:=u) (by rw[HD.out];exact hu)).1
  rw[this,HV.out u hu,hR.out]
 have cU:w2.cell? ⟨gF,u,none⟩=some (.int .i64 R):=by have:=F2.out.cellAt u (by omega);rw[this];simp[ivs,dU]
 clear dU
 obtain⟨wA,hwA⟩: ∃wA:World,wA=w2:=⟨_,rfl⟩
 have hb2:w.heap.size+1≤w2.heap.size:=s2
 go_wp2_with (at_builtin;go_loud (refine fG rfl _ _ rfl (w.heap.size+1) _ _ [] rfl (O2'.out.alloc _) _ _ (u:Int) _ rfl (by simp) (by omega) (Nat.le_trans hb2 (by simp)) ?_;intro p' cap' w3 hown1 hg1 hat0;have hat1:(Value.slice p' (0+1) cap').ownBlock=(Value.slice (some ⟨w.heap.size+1,0,none⟩) 0 0).ownBlock∨(Value.slice p' (0+1) cap').ownBlock=some (w2.alloc (.cells #[(u:Int)] TI)).heap.size:=hat0;have hg2:World.grownBy _ w3 (Value.slice (some ⟨w.heap.size+1,0,none⟩) 0 0).ownBlock:=hg1;have X3:=xQ (Ext.own (X2.out.alloc _) (O2'.out.alloc _) hg2 (by omega));have B3:=xQ ((B2.out.alloc _).grown hg2 (by first|(simp[Value.ownBlock];done)|(simp[Value.ownBlock];omega)));have F3:=xQ ((F2.out.alloc _).kept hg2 (.inr (by first|(simp[Value.ownBlock];done)|(simp[Value.ownBlock];omega))));have O3:=xQ hown1;have z3:=hg2.size;have A3:=xQ hat1;clear hown1 hg1 hat1 hg2 hat0))
 have NE3:Hid ((Value.slice p' (0+1) cap').ownBlock≠some gF):=by
  show _≠_
  rcases A3.out with h|h
  ·rw[h];simp[Value.ownBlock];(try omega)
  ·rw[h];simp;omega
 have s3:w2.heap.size≤w3.heap.size:=Nat.le_trans (by simp) z3
 clear A3 X2 B2 F2 O2 O2' hwA wA z3 cU
 have hap:=xQ (bO hg.out hu)
 go_wp2
 go_loopw [1,9] (fun v o wr=> ∃(x f:Nat) (pre:List Nat) (q:OA) (l lc:Nat),v= .int .i64 (x:Int)∧x<n∧aZ aA x 0≤f∧pre++cR aA n f x=cR aA n 12 u∧o= .slice q l lc∧l=pre.length+1∧wr.ownsRow (w.heap.size+1) TI 1 (.slice q l lc) l (ivs (bD (pre++ [x])))∧wr.ownsRow (w.heap.size+1) TI 1 (.slice (some ⟨gF,0,none⟩) n c2) n (ivs D)∧(Value.slice q l lc).ownBlock≠some gF∧Ext w wr∧Blk wr w.heap.size TH3 #[aA,aB,.slice p n cap]∧w3.heap.size≤wr.heap.size) (fun v _ _=>(aZ aA (intOf v) 0).toNat)
 case atStart=>exact⟨u,12,[],p',1,cap',rfl,hu,by have:=hap.out.2.1;omega,rfl,rfl,rfl,by simpa[bD]using O3.out,F3.out,NE3.out,X3.out,B3.out,Nat.le_refl _⟩
 case round=>
  clear O3 F3 NE3 X3 B3
  obtain⟨x,f,pre,q,l,lc,rfl,hx,hf,hway,rfl,hl,hO,hF,hne,hEw,hB,hsz⟩:=hrel
  have HOo:=xQ hO
  have HFf:=xQ hF
  have HNE:=xQ hne
  have HB:=xQ hB
  have HW:=xQ hway
  have HGX:=xQ (bO hg.out hx)
  have HFL:=xQ hf
  have hlen:l≤12:=by
   have h1:=congrArg List.length hway
   have h2:=kK hg.out f x hx hf
   have h3:=kK hg.out 12 u hu (by have:=hap.out.2.1;omega)
   have h4:=hap.out.2.1
   have h5:=HGX.out.1
   rw[List.length_append]at h1
   omega
  have szB:=HB.out.lt
  have HLl:=xQ hl
  clear hO hF hne hB hway hf hl
  by_cases h0:x=0
  ·have t0:((x:Int)!=0)=false:=by simp[h0]
   have hfin:Hid (pre++ [x]=cR aA n 12 u):=by
    show _=_
    rw[←HW.out]
    subst h0
    cases f<;>simp[cR]
   clear h0
   go_wp2
   go_ret
   exact cQ (by rw[←hfin.out];have:=HLl.out;simp[bD];omega) (by rw[←hfin.out];exact bG HOo.out (Nat.le_succ _)) hEw
  ·have t0:((x:Int)!=0)=true:=by simp[h0]
   obtain⟨J,hJ1,hJ2,hJ3⟩:=aCb hg.out hx h0
   obtain⟨e1,e2,e3⟩:=HGX.out.2.2.2.1 h0
   have hx0:=xQ h0
   obtain⟨y,hy⟩: ∃y,y=jG aA n x:=⟨_,rfl⟩
   rw[←hy]at hJ2 e1 e2 e3
   have HY:=xQ hy
   clear hy h0
   obtain⟨nb,hnb⟩: ∃nb,nb=aS aA n x:=⟨_,rfl⟩
   rw[←hnb]at hJ1 hJ2 hJ3
   have HCX:Hid (∀w',Ext w w'→Calls Tryz.prog 201 #[aI aA aB p n cap,(x:Int)] w' (aY (bD nb) w')):=by rw[hnb];exact HC.out x hx
   have HNB:=xQ hnb
   have hnb12:nb.length≤12:=by rw[hnb];exact Nat.le_trans (List.length_filter_le _ _) (by simp;omega)
   have hJ2':=xQ hJ2
   have hJ3':=xQ hJ3
   have hE3:=xQ e3
   clear hnb hJ2 hJ3 e2 e3
   have hnbl:(bD nb).length=nb.length:=by simp[bD]
   obtain⟨b0,b1,b2⟩:=HB.out.cells3
   go_wp2_with fail
   clear b0 b1 b2
   refine(HCX.out _ hEw).mono ?_
   rintro e w5 ⟨q5,c5,rfl,o5,hx5⟩
   rw[hnbl]at o5⊢
   obtain⟨gN,rfl,hN1,hN2⟩:=eB o5 (by omega)
   have O5:=xQ (bB HOo.out hx5)
   have F5:=xQ (bB HFf.out hx5)
   have B5:=xQ (HB.out.ext hx5)
   have X5:=xQ (hEw.trans hx5)
   have N5:=xQ o5
   have z5:=hx5.sz
   clear HOo HFf HB hEw o5 hx5 HCX
   go_wp2
   go_loopw [12] (fun i wz=> ∃j:Nat,j≤J∧i= .int .i64 j∧Ext w5 wz) (fun i _=>J-(intOf i).toNat)
   case atStart=>exact⟨0,Nat.zero_le _,rfl,Ext.refl _⟩
   case round=>
    obtain⟨j,hj,rfl,hZ⟩:=hrel
    obtain⟨v,hv⟩: ∃v,nb[j]? =some v:=⟨_,List.getElem?_eq_getElem (by omega)⟩
    have hvn:v<n:=(bM.1 (by rw[←HNB.out];exact List.mem_of_getElem? hv:v∈aS aA n x)).1
    have HVV:=xQ hv
    have hdv:=(cW (D:=D) (v:=v) (by rw[HD.out];exact hvn)).1
    have hdx:=(cW (D:=D) (v:=x) (by rw[HD.out];exact hx)).1
    rw[HV.out v hvn]at hdv
    rw[HV.out x hx]at hdx
    obtain⟨dv,hdv2⟩: ∃d,d=aZ aA v 0:=⟨_,rfl⟩
    obtain⟨dx,hdx2⟩: ∃d,d=aZ aA x 0:=⟨_,rfl⟩
    have gv:=bO hg.out hvn
    have gx:=HGX.out
    rw[←hdv2]at hdv gv
    rw[←hdx2]at hdx gx
    have m1:(0:Int)≤(j:Int):=by omega
    have m2:(j:Int)<(nb.length:Int):=by omega
    have m3:(0:Int)≤(v:Int):=by omega
    have m4:(v:Int)<(n:Int):=by omega
    have m5:(0:Int)≤(x:Int):=by omega
    have m6:(x:Int)<(n:Int):=by omega
    have m7:((v:Int)== -1)=false:=by first|(simp;done)|(simp;omega)
    have w7:IntKind.i64.wrap (dx-1)=dx-1:=IntWalk.i64_in _ (by omega)
    have FZ:=xQ (bB F5.out hZ)
    have NZ:=xQ (bB N5.out hZ)
    have cn:wr.cell? ⟨gN,j,none⟩=some (.int .i64 (v:Int)):=by have:=NZ.out.cellAt j (by omega);rw[this];simp[ivs,bD,HVV.out]
    have cf:wr.cell? ⟨gF,v,none⟩=some (.int .i64 dv):=by have:=FZ.out.cellAt v (by omega);rw[this];simp only[ivs,List.getElem?_map,hdv,Option.map_some]
    have cx:wr.cell? ⟨gF,x,none⟩=some (.int .i64 dx):=by have:=FZ.out.cellAt x (by omega);rw[this];simp only[ivs,List.getElem?_map,hdx,Option.map_some]
    by_cases hjJ:j<J
    ·have hne2:(dv !=dx-1)=true:=by
      have:=hJ3'.out j v hjJ HVV.out
      rw[←hdv2,←hdx2]at this
      simpa using this
     clear hdv hdx hdv2 hdx2 gv gx
     go_wp2
     go_quiet (fail)
     go_wp2
     go_roundw
     case rel=>exact⟨j+1,by omega,by go_num,by exact .drewN hZ _⟩
     case measure=>simp[intOf];omega
    ·obtain rfl:j=J:=by omega
     have hvy:v=y:=by
      have h1:=HVV.out
      rw[hJ2'.out]at h1
      injection h1 with h1;exact h1.symm
     subst hvy
     have hne2:(dv !=dx-1)=false:=by
      have:=hE3.out
      rw[←hdv2,←hdx2]at this
      simp[this]
     have hax:=xQ (show 1≤aZ aA (x:Int) 0 by have h1:=(bO hg.out hvn).1;have h2:=hE3.out;omega)
     clear hdv hdx hdv2 gv
     go_wp2
     go_quiet (fail)
     generalize hwq:World.drewN _ _=wq
     have hZq:Ext w5 wq:=by rw[←hwq];exact hZ.drewN _
     clear hwq cn cf cx FZ NZ hZ
     have OQ:=xQ (bB O5.out hZq)
     have FQ:=xQ (bB F5.out hZq)
     have NQ:=xQ (bB N5.out hZq)
     have BQ:=xQ (B5.out.ext hZq)
     have XQ:=xQ (X5.out.trans hZq)
     have zq:=hZq.sz
     clear O5 F5 N5 B5 X5 hZq
     have cn:wq.cell? ⟨gN,j,none⟩=some (.int .i64 (v:Int)):=by have:=NQ.out.cellAt j (by omega);rw[this];simp[ivs,bD,HVV.out]
     have lO:w.heap.size+1≤wq.heap.size:=by omega
     have gFl:=(FQ.out.lt gF rfl).2
     go_wp2_with (at_builtin;go_loud (refine fG rfl _ _ rfl (w.heap.size+1) (.slice q l lc) l (bD (pre++ [x])) rfl (OQ.out.alloc _) _ _ (v:Int) _ rfl (by simp) (by omega) (Nat.le_trans lO (by simp)) ?_;intro p' cap' w9 hown1 hg1 hat0;have hat1:(Value.slice p' (l+1) cap').ownBlock=(Value.slice q l lc).ownBlock∨(Value.slice p' (l+1) cap').ownBlock=some (wq.alloc (.cells #[(v:Int)] TI)).heap.size:=hat0;have hg2:World.grownBy _ w9 (Value.slice q l lc).ownBlock:=hg1;have X9:=xQ (Ext.own (XQ.out.alloc _) (OQ.out.alloc _) hg2 (by omega));have B9:=xQ (oS OQ.out hg2 BQ.out);have F9:=xQ ((FQ.out.alloc _).kept hg2 (.inr (Ne.symm HNE.out)));have O9:=xQ hown1;have z9:=hg2.size;have A9:=xQ hat1;clear hown1 hg1 hat1 hg2 hat0))
     have NE9:Hid ((Value.slice p' (l+1) cap').ownBlock≠some gF):=by
      show _≠_
      rcases A9.out with h|h
      ·rw[h];exact HNE.out
      ·rw[h];simp;omega
     have z9':wq.heap.size≤w9.heap.size:=Nat.le_trans (by simp) z9
     clear z9 cn
     have hf9:0<f:=by have:=HFL.out;have:=hax.out;omega
     obtain⟨f',rfl⟩: ∃f',f=f'+1:=⟨f-1,by omega⟩
     have hway9:Hid ((pre++ [x])++cR aA n f' v=cR aA n 12 u):=by
      show _=_
      rw[←HW.out]
      conv=>rhs;rw[cR,if_neg hx0.out,←HY.out]
      simp
     go_roundw
     case rel=>exact⟨v,f',pre++ [x],p',l+1,cap',by go_num,hvn,by have:=hE3.out;have:=HFL.out;omega,hway9.out,rfl,by have:=HLl.out;simp;omega,by have:=O9.out;simpa[bD]using this,F9.out,NE9.out,X9.out,B9.out,by omega⟩
     case measure=>simp[intOf];have:=hE3.out;have:=hax.out;omega
theorem uR (aA aB:Int)(p:OA)(n cap u:Nat)(xs:List Int)(w:World)(hS:Sl w p n cap 1 (ivs xs))(hok:aP aA aB xs=true)(hu:u<n):
  Calls Tryz.prog 180 #[aI aA aB p n cap,(u:Int),(),(-1:Int)] w (aY (bD (cR aA n 12 u)) w):=by
 have hl:=hS.ilen
 obtain⟨g1,g2,g3,g4,g5,g6,g7,g8,g9⟩:=bN hok
 have hg:=nP (n:=n) g1 g2 g3 g4 (by omega)
 refine aF4 aA aB p n cap u (aZ aA u 0) w hg (by omega) (by omega) hu rfl (bO hg hu).1 (fun w' hx=> ?_) (fun w' hx=> ?_) (fun k hk w' hx=> ?_)
 ·have:=vH aA aB u 0 p n cap xs w' (hS.ext hx)
  rwa[cX,if_pos ⟨hok,by omega,by omega⟩]at this
 ·refine(aDw aA aB p n cap 0 (-1) xs w' (hS.ext hx) hok (by omega)).mono ?_
  rintro e w2 ⟨D,hD,hr⟩
  exact⟨D,⟨hD.len,fun v hv=>uK hg (aA0 aA n) hD hv⟩,hr⟩
 ·have:=aAr aA aB k p n cap xs w' (hS.ext hx) hok (by omega) (by omega)
  rwa[jF]at this
end Go.Proofs.YtgnkoffndhmhpaaGreatDoor
namespace Go.Proofs.YtgnkoffndhmhpaaGreatDoor
open Go.RowKit
set_option linter.unusedVariables false
set_option linter.unusedSimpArgs false
def bW:List Int→Nat→List Nat→List Int×List Sl2
 |xs,_,[]=>(xs,[])
 |xs,a,b::l=>if xs.getD b 0=0 then bW xs b l else((bW ((xs.set a (xs.getD b 0)).set b 0) b l).1,((b:Int),(a:Int))::(bW ((xs.set a (xs.getD b 0)).set b 0) b l).2)
theorem nO {xs:List Int}{a b:Nat}{l:List Nat}(h:xs.getD b 0=0):bW xs a (b::l)=bW xs b l:=by rw[bW,if_pos h]
theorem lW {xs:List Int}{a b:Nat}{l:List Nat}(h: ¬xs.getD b 0=0):bW xs a (b::l)=((bW ((xs.set a (xs.getD b 0)).set b 0) b l).1,((b:Int),(a:Int))::(bW ((xs.set a (xs.getD b 0)).set b 0) b l).2):=by rw[bW,if_neg h]
def kU (aA:Int)(n:Nat):Nat→List Nat→Prop
 |_,[]=>True
 |a,b::l=>b∈aS aA n a∧kU aA n b l
theorem cF {aA aB:Int}{xs:List Int}(h:aP aA aB xs=true):iN aA aB xs.length=true:=by
 unfold aP at h;rw[Bool.and_eq_true]at h;exact h.1
theorem lX {aA aB:Int}{xs:List Int}(h:aP aA aB xs=true)(b:Nat):0≤xs.getD b 0:=by
 unfold aP at h
 rw[Bool.and_eq_true]at h
 have h1:=((eI _ _).1 h.2).1
 rw[List.getD_eq_getElem?_getD]
 cases hx:xs[b]? with
 |none=>simp
 |some x=>exact(h1 x (List.mem_of_getElem? hx)).1
theorem zI {aA aB:Int}{xs:List Int}{a b:Nat}(h:aP aA aB xs=true)(ha:a<xs.length)(h0:xs.getD a 0=0)(hb:b∈aS aA xs.length a):bC aA aB xs (b:Int) (a:Int)=decide (0<xs.getD b 0):=by
 obtain⟨h1,h2⟩:=bM.1 hb
 have h3:cX aA aB xs (b:Int) (a:Int)=1:=by
  unfold cX
  rw[if_pos ⟨h,⟨by omega,by omega⟩,by omega,by omega⟩,sP];exact h2
 unfold bC
 rw[h3]
 simp only[Int.toNat_natCast,h0]
 simp
theorem wC {aA aB:Int}{xs:List Int}{a b:Nat}(h:aP aA aB xs=true)(ha:a<xs.length)(h0:xs.getD a 0=0)(hb:b∈aS aA xs.length a)(hx: ¬xs.getD b 0=0):bC aA aB xs (b:Int) (a:Int)=true∧bE aA aB xs (b:Int) (a:Int)=(xs.set a (xs.getD b 0)).set b 0:=by
 have h1:=zI h ha h0 hb
 have h2:decide (0<xs.getD b 0)=true:=by have:=lX h b;simp only[decide_eq_true_eq];omega
 rw[h2]at h1
 exact⟨h1,by unfold bE;rw[if_pos h1];simp only[Int.toNat_natCast]⟩
theorem aGt {aA aB:Int}{xs:List Int}{a b:Nat}(h:aP aA aB xs=true)(ha:a<xs.length)(h0:xs.getD a 0=0)(hb:b∈aS aA xs.length a)(hx:xs.getD b 0=0):bC aA aB xs (b:Int) (a:Int)=false:=by
 rw[zI h ha h0 hb,hx];rfl
theorem pM {aA aB:Int}{xs:List Int}{a b:Nat}(h:aP aA aB xs=true)(ha:a<xs.length)(h0:xs.getD a 0=0)(hb:b∈aS aA xs.length a)(hx: ¬xs.getD b 0=0):
  aP aA aB ((xs.set a (xs.getD b 0)).set b 0)=true∧((xs.set a (xs.getD b 0)).set b 0).length=xs.length∧((xs.set a (xs.getD b 0)).set b 0).getD b 0=0:=by
 obtain⟨h1,h2⟩:=wC h ha h0 hb hx
 refine⟨by rw[←h2];exact fZ _ _ h,by simp,?_⟩
 have hl:=(bM.1 hb).1
 rw[List.getD_eq_getElem?_getD,List.getElem?_set_self (by simp;exact hl)];rfl
theorem tE {aA aB:Int}: ∀(l:List Nat) (xs:List Int) (a:Nat),aP aA aB xs=true→a<xs.length→xs.getD a 0=0→kU aA xs.length a l→
  bA aA aB xs (bW xs a l).2=((bW xs a l).1,(bW xs a l).2.length)∧aP aA aB (bW xs a l).1=true∧(bW xs a l).1.length=xs.length∧(bW xs a l).2.length≤l.length∧(bW xs a l).1.getD ((a::l).getLast (by simp)) 0=0:=by
 intro l
 induction l with
 |nil=>intro xs a h ha h0 _;exact⟨rfl,h,rfl,Nat.le_refl _,by simpa[bW]using h0⟩
 |cons b l ih=>
  intro xs a h ha h0 hs
  obtain⟨hb,hs'⟩:=hs
  have hbl:=(bM.1 hb).1
  by_cases hx:xs.getD b 0=0
  ·rw[nO hx]
   obtain⟨i1,i2,i3,i4,i5⟩:=ih xs b h hbl hx hs'
   exact⟨i1,i2,i3,by simp;omega,by simpa using i5⟩
  ·obtain⟨n1,n2,n3⟩:=pM h ha h0 hb hx
   obtain⟨d1,d2⟩:=wC h ha h0 hb hx
   obtain⟨i1,i2,i3,i4,i5⟩:=ih _ b n1 (by rw[n2];exact hbl) n3 (by rw[n2];exact hs')
   rw[lW hx]
   refine⟨?_,i2,by rw[i3,n2],by simp only[List.length_cons];omega,by simpa using i5⟩
   dsimp only
   rw[dR d1,d2,i1]
   rfl
theorem oV {aA:Int}{n:Nat}(h:(aA,n)∈fY): ∀(f u:Nat),u<n→kU aA n u (cR aA n f u).tail:=by
 intro f
 induction f with
 |zero=>intro u _;exact trivial
 |succ f ih=>
  intro u hu
  unfold cR
  by_cases h0:u=0
  ·rw[if_pos h0];exact trivial
  ·rw[if_neg h0]
   obtain⟨h1,h2,_⟩:=(bO h hu).2.2.2.1 h0
   have:=ih (jG aA n u) h1
   have hh:=oW aA n f (jG aA n u)
   simp only[List.tail_cons]
   cases hw:cR aA n f (jG aA n u)with
   |nil=>rw[hw]at hh;simp at hh
   |cons x l=>
    rw[hw]at hh this
    simp at hh
    subst hh
    exact⟨h2,this⟩
theorem qZ (aA:Int)(n f u:Nat):cR aA n f u=u::(cR aA n f u).tail:=by
 have hh:=oW aA n f u
 cases hw:cR aA n f u with
 |nil=>rw[hw]at hh;simp at hh
 |cons x l=>rw[hw]at hh;simp at hh;subst hh;rfl
theorem aEz {aA:Int}{n:Nat}(h:(aA,n)∈fY): ∀(f u:Nat),u<n→aZ aA u 0≤f→(cR aA n f u).getLast? =some 0:=by
 intro f
 induction f with
 |zero=>
  intro u hu ha
  have g:=bO h hu
  have:u=0:=g.2.2.1.1 (by have:=g.1;simp at ha;omega)
  subst this;rfl
 |succ f ih=>
  intro u hu ha
  unfold cR
  by_cases h0:u=0
  ·rw[if_pos h0];simp[h0]
  ·rw[if_neg h0]
   obtain⟨h1,h2,h3⟩:=(bO h hu).2.2.2.1 h0
   have:=ih (jG aA n u) h1 (by rw[h3];simp at ha;omega)
   rw[List.getLast?_cons,this];rfl
def bI (xs:List Int):List Nat:=(List.range xs.length).filter (cK xs)
theorem sI (xs:List Int):kE xs=(bI xs).map (fun(k:Nat)=>(k:Int)):=by
 unfold kE bI
 generalize xs.length=k
 induction k with
 |zero=>rfl
 |succ k ih=>
  rw[List.range_succ,List.filter_append,List.map_append,eL,ih]
  congr 1
  cases h:cK xs k<;>simp[h]
theorem iM {xs:List Int}{u:Nat}(h:u∈bI xs):u<xs.length∧xs.getD u 0=0:=by
 unfold bI at h
 rw[List.mem_filter]at h
 refine⟨by simpa using h.1,?_⟩
 have h2:=h.2
 unfold cK at h2
 rw[List.getD_eq_getElem?_getD,eq_of_beq h2];rfl
def kZ (aA:Int)(best:Option Nat)(u:Nat):Option Nat:=
 match best with
 |none=>some u
 |some v=>if aZ aA u 0<aZ aA v 0 then some u else some v
def cL (aA:Int)(l:List Nat):Option Nat:=l.foldl (kZ aA) none
theorem vM (aA:Int)(l:List Nat)(u:Nat):cL aA (l++ [u])=kZ aA (cL aA l) u:=by simp[cL]
theorem gK (aA:Int)(l:List Nat):(cL aA l=none↔l= [])∧ ∀u,cL aA l=some u→u∈l:=by
 suffices h: ∀(l pre:List Nat) (b:Option Nat),(b=none↔pre= [])→(∀u,b=some u→u∈pre)→((l.foldl (kZ aA) b=none↔pre++l= [])∧ ∀u,l.foldl (kZ aA) b=some u→u∈pre++l)from by
  simpa[cL]using h l [] none (by simp) (by simp)
 intro l
 induction l with
 |nil=>intro pre b h1 h2;simpa using⟨h1,h2⟩
 |cons x l ih=>
  intro pre b h1 h2
  have:=ih (pre++ [x]) (kZ aA b x) (by
   unfold kZ
   cases b with
   |none=>simp
   |some v=>simp;split<;>simp) (by
   intro u hu
   unfold kZ at hu
   cases b with
   |none=>simp at hu;simp[hu]
   |some v=>
    simp only at hu
    split at hu
    ·injection hu with hu;simp[hu]
    ·injection hu with hu;subst hu;exact List.mem_append_left _ (h2 v rfl))
  simpa using this
def fQ (aA:Int)(xs:List Int):Option (List Int×List Sl2):=(cL aA (bI xs)).map (fun u=>bW xs u (cR aA xs.length 12 u).tail)
def jV (aA aB:Int)(xs:List Int)(id:Int):Option (List Int×Nat):=
 match fQ aA xs with
 |none=>none
 |some r=>if(cM aA aB r.1 id).2 then some ((cM aA aB r.1 id).1,r.2.length)else none
theorem iL {aA aB:Int}{xs:List Int}(h:aP aA aB xs=true):(aA,xs.length)∈fY:=by
 obtain⟨h1,h2,h3,h4,h5,h6,h7⟩:=bR (cF h)
 exact nP h1 h2 h3 h4 h7
theorem mB {aA aB:Int}{xs:List Int}(h:aP aA aB xs=true){r:List Int×List Sl2}(hr:fQ aA xs=some r):
  bA aA aB xs r.2=(r.1,r.2.length)∧aP aA aB r.1=true∧r.1.length=xs.length∧r.2.length≤5∧r.1.getD 0 0=0:=by
 unfold fQ at hr
 cases hn:cL aA (bI xs)with
 |none=>rw[hn]at hr;simp at hr
 |some u=>
  rw[hn]at hr
  simp at hr
  subst hr
  obtain⟨hu,h0⟩:=iM ((gK aA _).2 u hn)
  have hg:=iL h
  have g:=bO hg hu
  obtain⟨f1,f2,f3,f4,f5⟩:=tE _ xs u h hu h0 (oV hg 12 u hu)
  have hl:=kK hg 12 u hu (by have:=g.2.1;omega)
  have hw:=aEz hg 12 u hu (by have:=g.2.1;omega)
  refine⟨f1,f2,f3,?_,?_⟩
  ·have:=g.2.1;rw[List.length_tail]at f4;omega
  ·have hc:=qZ aA xs.length 12 u
   rw[hc,List.getLast?_eq_some_getLast (by simp)]at hw
   injection hw with hw
   rw[hw]at f5
   exact f5
set_option maxHeartbeats 8000000
set_option maxRecDepth 100000
theorem aD4 (aA aB:Int)(p:OA)(n cap:Nat)(b off m c2:Nat)(ws:List Nat)(w:World)(hn0:4≤n)(hn:n≤12)(hm0:0<m)(hm:m≤12)(hlen:Hid (ws.length=m))(hb:b<w.heap.size)
  (HS:Hid (∀(k x:Nat),ws[k]? =some x→w.cell? ⟨b,off+k,none⟩=some (.int .i64 (x:Int)))) (x0:Nat) (c0:w.cell? ⟨b,off,none⟩=some (.int .i64 (x0:Int)))
  (HA:Hid (∀(k x y:Nat),ws[k]? =some x→ws[k+1]? =some y→ ∀w',Ext w w'→Calls Tryz.prog 159 #[aI aA aB p n cap,(x:Int),(y:Int)] w' fun e w''=>e= .returned (.int .i64 1)∧Ext w' w''))
  (HV:xB 90 #[aI aA aB p n cap] w true)
  (HI:Hid (∀w,Calls Tryz.prog 77 #[(x0:Int),(),((n:Int)-1:Int)] w fun e w'=>e= .returned (.bool true)∧w=w')):
  Calls Tryz.prog 181 #[aI aA aB p n cap,.slice (some ⟨b,off,none⟩) m c2] w fun e w'=>e= .returned (.bool true)∧Ext w w':=by
 go_enter Tryz.func181,Tryz.ntmps181
 go_wp2
 go_loopw [5] (fun i wr=> ∃k:Nat,1≤k∧k≤m∧i= .int .i64 (k:Int)∧Ext w wr∧Blk wr w.heap.size TH3 #[aA,aB,.slice p n cap]) (fun i _=>m-(intOf i).toNat)
 case atStart=>exact⟨1,Nat.le_refl _,by omega,rfl,by exact .alloc (.refl _) _,Blk.new _ _ _⟩
 case round=>
  obtain⟨k,hk1,hk,rfl,hE,hB⟩:=hrel
  have HB:=xQ hB
  clear hB
  have hb':b<wr.heap.size:=Nat.lt_of_lt_of_le hb hE.sz
  by_cases hlt:k<m
  ·obtain⟨x,hx⟩: ∃x,ws[k-1]? =some x:=⟨_,List.getElem?_eq_getElem (by rw[hlen.out];omega)⟩
   obtain⟨y,hy⟩: ∃y,ws[k]? =some y:=⟨_,List.getElem?_eq_getElem (by rw[hlen.out];omega)⟩
   have HK:=xQ (HA.out (k-1) x y hx (by rw[show k-1+1=k by omega];exact hy))
   have ca:wr.cell? ⟨b,off+(k-1),none⟩=some (.int .i64 (x:Int)):=(hE.cells.1 _ _ hb).trans (HS.out (k-1) x hx)
   have cb:wr.cell? ⟨b,off+k,none⟩=some (.int .i64 (y:Int)):=(hE.cells.1 _ _ hb).trans (HS.out k y hy)
   clear hx hy c0
   have i1:(0:Int)≤(k:Int):=by omega
   have i2:(k:Int)<(m:Int):=by omega
   have i3:(k:Int)-1<(m:Int):=by omega
   have i4:((k:Int)-1).toNat=k-1:=by omega
   have i5:(1:Int)≤(k:Int):=by omega
   go_wp2
   refine cS (gl [gEq (.agg #[aA,aB,.slice p n cap]),gEq (.slice (some ⟨b,off,none⟩) m c2),gEq (k:Int),gEq ((k:Int)-1:Int),gEq (.pointer (some ⟨b,off+(k-1),none⟩)),gEq (x:Int),gEq (.slice (some ⟨b,off,none⟩) m c2),gEq (k:Int),gEq (.pointer (some ⟨b,off+k,none⟩)),gEq (y:Int),gEq (.int .i64 1),gEq (.bool false)]) 12 (by kernel_rfl) rfl (by kernel_rfl) (by kernel_rfl) (by kernel_rfl) (eG (aK (aH _) (aK (aH _) (aK (aH _) (aK (aH _) (aK (aH _) (aK (aH _) (aK (aH _) (aK (aH _) (aK (aH _) (aK (aH _) (aK (aH _) (aK (aH _) (fK)))))))))))))) (k:=12) (by kernel_rfl) (by decide) (ls:= [(0,some 12),(1,some 13),(2,some 14),(3,some 15),(4,some 16),(5,some 17),(6,some 18),(7,some 19),(8,some 20),(9,some 21),(10,some 22),(11,some 23)]) (by kernel_rfl) (ir:= [0,1,2,3,4,5,6,7,8,9,10,11]) (by kernel_rfl) ?steps (tl:=#[true,true,true,true,true,true,true,true,true,true,true,true]) (by kernel_rfl) ?fin
   case steps=>
    refine sC [] rfl (fun wi hx=> ?_) ?_
    ·intro K hK
     have hX:Ext wr wi:=by exact .trans (.drew (.refl _)) hx
     obtain⟨cl0,cl1,cl2⟩:=((HB.out.ext hX)).tri
     go_simp
     exact hK _ _ ⟨.agg #[aA,aB,.slice p n cap],rfl,rfl,Ext.refl _⟩
    refine sC [] rfl (fun wi hx=> ?_) ?_
    ·intro K hK
     go_simp
     exact hK _ _ ⟨.slice (some ⟨b,off,none⟩) m c2,rfl,rfl,Ext.refl _⟩
    refine sC [] rfl (fun wi hx=> ?_) ?_
    ·intro K hK
     go_simp
     exact hK _ _ ⟨.int .i64 (k:Int),rfl,rfl,Ext.refl _⟩
    refine sC [(2,some 14)] rfl (fun wi hx=> ?_) ?_
    ·intro v2 h2 K hK
     obtain rfl:=h2
     have hwr:IntKind.i64.wrap ((k:Int)-1)=(k:Int)-1:=IntWalk.i64_in _ (by omega)
     go_simp
     exact hK _ _ ⟨.int .i64 ((k:Int)-1),rfl,rfl,Ext.refl _⟩
    refine sC [(1,some 13),(3,some 15)] rfl (fun wi hx=> ?_) ?_
    ·intro v1 h1 v3 h3 K hK
     obtain rfl:=h1
     obtain rfl:=h3
     go_simp
     exact hK _ _ ⟨.pointer (some ⟨b,off+(k-1),none⟩),rfl,rfl,Ext.refl _⟩
    refine sC [(4,some 16)] rfl (fun wi hx=> ?_) ?_
    ·intro v4 h4 K hK
     obtain rfl:=h4
     have hX:Ext wr wi:=by exact .trans (.drew (.refl _)) hx
     have cl0:wi.cell? ⟨b,off+(k-1),none⟩=some (.int .i64 (x:Int)):=(hX.cells.1 _ _ hb').trans ca
     go_simp
     exact hK _ _ ⟨.int .i64 (x:Int),rfl,rfl,Ext.refl _⟩
    refine sC [] rfl (fun wi hx=> ?_) ?_
    ·intro K hK
     go_simp
     exact hK _ _ ⟨.slice (some ⟨b,off,none⟩) m c2,rfl,rfl,Ext.refl _⟩
    refine sC [] rfl (fun wi hx=> ?_) ?_
    ·intro K hK
     go_simp
     exact hK _ _ ⟨.int .i64 (k:Int),rfl,rfl,Ext.refl _⟩
    refine sC [(6,some 18),(7,some 19)] rfl (fun wi hx=> ?_) ?_
    ·intro v6 h6 v7 h7 K hK
     obtain rfl:=h6
     obtain rfl:=h7
     go_simp
     exact hK _ _ ⟨.pointer (some ⟨b,off+k,none⟩),rfl,rfl,Ext.refl _⟩
    refine sC [(8,some 20)] rfl (fun wi hx=> ?_) ?_
    ·intro v8 h8 K hK
     obtain rfl:=h8
     have hX:Ext wr wi:=by exact .trans (.drew (.refl _)) hx
     have cl0:wi.cell? ⟨b,off+k,none⟩=some (.int .i64 (y:Int)):=(hX.cells.1 _ _ hb').trans cb
     go_simp
     exact hK _ _ ⟨.int .i64 (y:Int),rfl,rfl,Ext.refl _⟩
    refine sC [(0,some 12),(5,some 17),(9,some 21)] rfl (fun wi hx=> ?_) ?_
    ·intro v0 h0 v5 h5 v9 h9 K hK
     obtain rfl:=h0
     obtain rfl:=h5
     obtain rfl:=h9
     go_wp2_with fail
     refine(HK.out _ (hE.trans hx.of_drew)).mono ?_
     rintro e w5 ⟨rfl,hx5⟩
     go_simp
     exact hK _ _ ⟨.int .i64 1,rfl,rfl,hx5⟩
    refine sC [(10,some 22)] rfl (fun wi hx=> ?_) StepsL.nil
    ·intro v10 h10 K hK
     obtain rfl:=h10
     go_simp
     exact hK _ _ ⟨.bool false,rfl,rfl,Ext.refl _⟩
   case fin=>
    intro wi hx v0 h0 v1 h1 v2 h2 v3 h3 v4 h4 v5 h5 v6 h6 v7 h7 v8 h8 v9 h9 v10 h10 v11 h11
    obtain rfl:=h0
    obtain rfl:=h1
    obtain rfl:=h2
    obtain rfl:=h3
    obtain rfl:=h4
    obtain rfl:=h5
    obtain rfl:=h6
    obtain rfl:=h7
    obtain rfl:=h8
    obtain rfl:=h9
    obtain rfl:=h10
    obtain rfl:=h11
    refine wpAny_done (by kernel_rfl) ?_ _
    simp only[Act.put,List.setIfInBounds_toArray,List.set_cons_zero,List.set_cons_succ]
    have hx':=hx.of_drew
    go_wp2
    go_roundw
    case rel=>exact⟨k+1,by omega,by omega,by go_num,hE.trans hx',HB.out.ext hx'⟩
    case measure=>simp[intOf];omega
  ·obtain rfl:m=k:=by omega
   have c0':=(hE.cells.1 _ _ hb).trans c0
   clear c0
   have c0:=c0'
   clear c0'
   have i2:(0:Int)<(m:Int):=by omega
   have i6:IntKind.i64.wrap ((n:Int)-1)=(n:Int)-1:=IntWalk.i64_in _ (by omega)
   go_wp2
   refine cS (gl [gEq (.agg #[aA,aB,.slice p n cap]),gEq (.bool true),gEq (.bool true),gEq (.slice (some ⟨b,off,none⟩) m c2),gEq (m:Int),gEq (.bool true),gEq (.bool true),gEq (.bool true),gEq (.slice (some ⟨b,off,none⟩) m c2),gEq (.pointer (some ⟨b,off,none⟩)),gEq (x0:Int),gEq (.pointer (some ⟨w.heap.size,2,none⟩)),gEq (.slice p n cap),gEq (n:Int),gEq ((n:Int)-1:Int),gEq (.bool true),gEq (.bool true),gEq (.bool true)]) 18 (by kernel_rfl) rfl (by kernel_rfl) (by kernel_rfl) (by kernel_rfl) (eG (aK (aH _) (aK (aH _) (aK (aH _) (aK (aH _) (aK (aH _) (aK (aH _) (aK (aH _) (aK (aH _) (aK (aH _) (aK (aH _) (aK (aH _) (aK (aH _) (aK (aH _) (aK (aH _) (aK (aH _) (aK (aH _) (aK (aH _) (aK (aH _) (fK)))))))))))))))))))) (k:=18) (by kernel_rfl) (by decide) (ls:= [(0,some 24),(1,some 25),(2,some 26),(3,some 27),(4,some 28),(5,some 29),(6,some 30),(7,some 31),(8,some 32),(9,some 33),(10,some 34),(11,some 35),(12,some 36),(13,some 37),(14,some 38),(15,some 39),(16,some 40),(17,some 4)]) (by kernel_rfl) (ir:= [0,1,2,3,4,5,6,7,8,9,10,11,12,13,14,15,16,17]) (by kernel_rfl) ?steps (tl:=#[true,true,true,true,true,true,true,true,true,true,true,true,true,true,true,true,true,true]) (by kernel_rfl) ?fin
   case steps=>
    refine sC [] rfl (fun wi hx=> ?_) ?_
    ·intro K hK
     have hX:Ext wr wi:=by exact .trans (.drew (.refl _)) hx
     obtain⟨cl0,cl1,cl2⟩:=((HB.out.ext hX)).tri
     go_simp
     exact hK _ _ ⟨.agg #[aA,aB,.slice p n cap],rfl,rfl,Ext.refl _⟩
    refine sC [(0,some 24)] rfl (fun wi hx=> ?_) ?_
    ·intro v0 h0 K hK
     obtain rfl:=h0
     go_wp2_with fail
     refine(HV.out _ (hE.trans hx.of_drew)).mono ?_
     rintro e w5 ⟨rfl,hx5⟩
     go_simp
     exact hK _ _ ⟨.bool true,rfl,rfl,hx5⟩
    refine sC [(1,some 25)] rfl (fun wi hx=> ?_) ?_
    ·intro v1 h1 K hK
     obtain rfl:=h1
     go_simp
     exact hK _ _ ⟨.bool true,rfl,rfl,Ext.refl _⟩
    refine sC [(2,some 26)] rfl (fun wi hx=> ?_) ?_
    ·intro v2 h2 K hK
     obtain rfl:=h2
     go_simp
     exact hK _ _ ⟨.slice (some ⟨b,off,none⟩) m c2,rfl,rfl,Ext.refl _⟩
    refine sC [(2,some 26),(3,some 27)] rfl (fun wi hx=> ?_) ?_
    ·intro v2 h2 v3 h3 K hK
     obtain rfl:=h2
     obtain rfl:=h3
     go_simp
     exact hK _ _ ⟨.int .i64 (m:Int),rfl,rfl,Ext.refl _⟩
    refine sC [(2,some 26),(4,some 28)] rfl (fun wi hx=> ?_) ?_
    ·intro v2 h2 v4 h4 K hK
     obtain rfl:=h2
     obtain rfl:=h4
     go_simp
     exact hK _ _ ⟨.bool true,rfl,rfl,Ext.refl _⟩
    refine sC [(2,some 26),(5,some 29)] rfl (fun wi hx=> ?_) ?_
    ·intro v2 h2 v5 h5 K hK
     obtain rfl:=h2
     obtain rfl:=h5
     go_simp
     exact hK _ _ ⟨.bool true,rfl,rfl,Ext.refl _⟩
    refine sC [(6,some 30)] rfl (fun wi hx=> ?_) ?_
    ·intro v6 h6 K hK
     obtain rfl:=h6
     go_simp
     exact hK _ _ ⟨.bool true,rfl,rfl,Ext.refl _⟩
    refine sC [(7,some 31)] rfl (fun wi hx=> ?_) ?_
    ·intro v7 h7 K hK
     obtain rfl:=h7
     go_simp
     exact hK _ _ ⟨.slice (some ⟨b,off,none⟩) m c2,rfl,rfl,Ext.refl _⟩
    refine sC [(7,some 31),(8,some 32)] rfl (fun wi hx=> ?_) ?_
    ·intro v7 h7 v8 h8 K hK
     obtain rfl:=h7
     obtain rfl:=h8
     go_simp
     exact hK _ _ ⟨.pointer (some ⟨b,off,none⟩),rfl,rfl,Ext.refl _⟩
    refine sC [(7,some 31),(9,some 33)] rfl (fun wi hx=> ?_) ?_
    ·intro v7 h7 v9 h9 K hK
     obtain rfl:=h7
     obtain rfl:=h9
     have hX:Ext wr wi:=by exact .trans (.drew (.refl _)) hx
     have cl0:wi.cell? ⟨b,off,none⟩=some (.int .i64 (x0:Int)):=(hX.cells.1 _ _ hb').trans c0
     go_simp
     exact hK _ _ ⟨.int .i64 (x0:Int),rfl,rfl,Ext.refl _⟩
    refine sC [(7,some 31)] rfl (fun wi hx=> ?_) ?_
    ·intro v7 h7 K hK
     obtain rfl:=h7
     go_simp
     exact hK _ _ ⟨.pointer (some ⟨w.heap.size,2,none⟩),rfl,rfl,Ext.refl _⟩
    refine sC [(7,some 31),(11,some 35)] rfl (fun wi hx=> ?_) ?_
    ·intro v7 h7 v11 h11 K hK
     obtain rfl:=h7
     obtain rfl:=h11
     have hX:Ext wr wi:=by exact .trans (.drew (.refl _)) hx
     have cl0:wi.cell? ⟨w.heap.size,2,none⟩=some (.slice p n cap):=(HB.out.ext hX).cell 2
     go_simp
     exact hK _ _ ⟨.slice p n cap,rfl,rfl,Ext.refl _⟩
    refine sC [(7,some 31),(12,some 36)] rfl (fun wi hx=> ?_) ?_
    ·intro v7 h7 v12 h12 K hK
     obtain rfl:=h7
     obtain rfl:=h12
     go_simp
     exact hK _ _ ⟨.int .i64 (n:Int),rfl,rfl,Ext.refl _⟩
    refine sC [(7,some 31),(13,some 37)] rfl (fun wi hx=> ?_) ?_
    ·intro v7 h7 v13 h13 K hK
     obtain rfl:=h7
     obtain rfl:=h13
     go_simp
     exact hK _ _ ⟨.int .i64 ((n:Int)-1),rfl,rfl,Ext.refl _⟩
    refine sC [(7,some 31),(10,some 34),(14,some 38)] rfl (fun wi hx=> ?_) ?_
    ·intro v7 h7 v10 h10 v14 h14 K hK
     obtain rfl:=h7
     obtain rfl:=h10
     obtain rfl:=h14
     go_wp2_with fail
     refine(HI.out _).mono ?_
     rintro e w5 ⟨rfl,rfl⟩
     go_simp
     exact hK _ _ ⟨.bool true,rfl,rfl,Ext.refl _⟩
    refine sC [(7,some 31),(15,some 39)] rfl (fun wi hx=> ?_) ?_
    ·intro v7 h7 v15 h15 K hK
     obtain rfl:=h7
     obtain rfl:=h15
     go_simp
     exact hK _ _ ⟨.bool true,rfl,rfl,Ext.refl _⟩
    refine sC [(16,some 40)] rfl (fun wi hx=> ?_) StepsL.nil
    ·intro v16 h16 K hK
     obtain rfl:=h16
     go_simp
     exact hK _ _ ⟨.bool true,rfl,rfl,Ext.refl _⟩
   case fin=>
    intro wi hx v0 h0 v1 h1 v2 h2 v3 h3 v4 h4 v5 h5 v6 h6 v7 h7 v8 h8 v9 h9 v10 h10 v11 h11 v12 h12 v13 h13 v14 h14 v15 h15 v16 h16 v17 h17
    obtain rfl:=h0
    obtain rfl:=h1
    obtain rfl:=h2
    obtain rfl:=h3
    obtain rfl:=h4
    obtain rfl:=h5
    obtain rfl:=h6
    obtain rfl:=h7
    obtain rfl:=h8
    obtain rfl:=h9
    obtain rfl:=h10
    obtain rfl:=h11
    obtain rfl:=h12
    obtain rfl:=h13
    obtain rfl:=h14
    obtain rfl:=h15
    obtain rfl:=h16
    obtain rfl:=h17
    refine wpAny_done (by kernel_rfl) ?_ _
    simp only[Act.put,List.setIfInBounds_toArray,List.set_cons_zero,List.set_cons_succ]
    have hx':=hx.of_drew
    go_wp2
    go_ret
    exact⟨rfl,hE.trans hx'⟩
end Go.Proofs.YtgnkoffndhmhpaaGreatDoor
