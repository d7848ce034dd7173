/-
  Texts of this proof, packed (@packed).
-/
import Derived.Test.YtgnkoffndhmhpaaGreatDoorP5
import Derived.Test.YtgnkoffndhmhpaaGreatDoorP11
namespace Go.Proofs.YtgnkoffndhmhpaaGreatDoor
set_option linter.unusedVariables false
def kN (aA:Int)(n u:Nat):Nat:=((aT aA n u).find? (fun(v:Nat)=>decide (aW aA v 0=aW aA u 0-1))).getD 0
def cY (aA:Int)(n:Nat):Nat→Nat→List Nat
 |0,u=> [u]
 |f+1,u=>if u=0 then [u]else u::cY aA n f (kN aA n u)
def gZ:List (Int×Nat):= [(2,4),(2,6),(3,6),(3,9),(4,8),(4,12)]
def aKt (aA:Int)(n:Nat):Bool:=
 (List.range n).all fun u=>decide (0≤aW aA u 0∧aW aA u 0≤5)&&decide (aW aA u 0=0↔u=0)
  &&(decide (u=0) || (decide (kN aA n u<n)&&decide (kN aA n u∈aT aA n u)&&decide (aW aA (kN aA n u) 0=aW aA u 0-1)))
  &&(List.range n).all fun v=> !decide (v∈aT aA n u) || decide (aW aA u 0≤aW aA v 0+1)
theorem aJ3:(gZ.all fun g=>aKt g.1 g.2)=true:=by decide+kernel
theorem pL {aA aB:Int}{n:Nat}(h0:2≤aA)(h1:aA≤4)(h2:2≤aB)(h3:aB≤3)(hn:(n:Int)=aA*aB):(aA,n)∈gZ:=by
 have hw:aA=2∨aA=3∨aA=4:=by omega
 have hd:aB=2∨aB=3:=by omega
 rcases hw with rfl|rfl|rfl<;>rcases hd with rfl|rfl
 ·obtain rfl:n=4:=by omega
  decide
 ·obtain rfl:n=6:=by omega
  decide
 ·obtain rfl:n=6:=by omega
  decide
 ·obtain rfl:n=9:=by omega
  decide
 ·obtain rfl:n=8:=by omega
  decide
 ·obtain rfl:n=12:=by omega
  decide
theorem bT {aA:Int}{n:Nat}(h:(aA,n)∈gZ){u:Nat}(hu:u<n):
  0≤aW aA u 0∧aW aA u 0≤5∧(aW aA u 0=0↔u=0)
  ∧(u≠0→kN aA n u<n∧kN aA n u∈aT aA n u∧aW aA (kN aA n u) 0=aW aA u 0-1)
  ∧ ∀v∈aT aA n u,aW aA u 0≤aW aA v 0+1:=by
 have h1:=List.all_eq_true.1 aJ3 _ h
 have h2:=List.all_eq_true.1 h1 u (List.mem_range.2 hu)
 simp only[Bool.and_eq_true,Bool.or_eq_true,decide_eq_true_eq]at h2
 obtain⟨⟨⟨⟨a,b⟩,c⟩,d⟩,e⟩:=h2
 refine⟨a,b,c,fun h=> ?_,fun v hv=> ?_⟩
 ·rcases d with d|d
  ·exact absurd d h
  ·exact⟨d.1.1,d.1.2,d.2⟩
 ·have:=List.all_eq_true.1 e v (List.mem_range.2 (bR.1 hv).1)
  simpa[hv]using this
theorem xF {aA:Int}{n:Nat}(h:(aA,n)∈gZ){adj:Nat→List Nat}(ha: ∀u,adj u=aT aA n u){D:List Int}(hD:qR adj [0] n D){u:Nat}(hu:u<n):D.getD u 0=aW aA u 0:=by
 have hn:0<n:=by omega
 have up: ∀(d:Nat) v,v<n→aW aA v 0=d→0≤D.getD v 0∧D.getD v 0≤d:=by
  intro d
  induction d with
  |zero=>
   intro v hv e
   have e0:=(bT h hv).2.2.1.1 e
   have:=(hD.zero v hv).2 (by simp[e0])
   omega
  |succ d ih=>
   intro v hv e
   have g:v≠0:=fun e0=>by have:=(bT h hv).2.2.1.2 e0;omega
   obtain⟨h1,h2,h3⟩:=(bT h hv).2.2.2.1 g
   obtain⟨i1,i2⟩:=ih _ h1 (by omega)
   have:=hD.edge _ v h1 i1 (by rw[ha];exact fK hv h2)
   omega
 have f: ∀(d:Nat) v,v<n→D.getD v 0=d→aW aA v 0≤d:=by
  intro d
  induction d with
  |zero=>
   intro v hv e
   have hm:=(hD.zero v hv).1 e
   simp at hm
   have:=(bT h hv).2.2.1.2 hm
   omega
  |succ d ih=>
   intro v hv e
   obtain⟨x,hx,hm,e2⟩:=hD.back v hv (by omega)
   have i1:=ih x hx (by omega)
   rw[ha]at hm
   have:=(bT h hv).2.2.2.2 x (fK hx hm)
   omega
 obtain⟨a,b,_⟩:=bT h hu
 obtain⟨c,e⟩:=up (aW aA u 0).toNat u hu (by omega)
 have:=f (D.getD u 0).toNat u hu (by omega)
 omega
theorem aEt {α:Type}{p:α→Bool}{d x:α}: ∀ {l:List α},x∈l→p x=true→ ∃j,j<l.length∧l[j]? =some ((l.find? p).getD d)∧p ((l.find? p).getD d)=true∧ ∀i y,i<j→l[i]? =some y→p y=false:=by
 intro l
 induction l with
 |nil=>intro h;simp at h
 |cons a l ih=>
  intro hx hp
  by_cases ha:p a=true
  ·refine⟨0,by simp,by simp[ha],by simp[ha],fun i y hi=>by omega⟩
  ·have b:p a=false:=by simpa using ha
   have c:x∈l:=by
    rcases List.mem_cons.1 hx with e|e
    ·subst e;exact absurd hp ha
    ·exact e
   obtain⟨j,h1,h2,h3,h4⟩:=ih c hp
   have e:((a::l).find? p).getD d=(l.find? p).getD d:=by rw[List.find?_cons_of_neg (by simp[b])]
   refine⟨j+1,by simp;omega,by rw[e];simpa using h2,by rw[e];exact h3,?_⟩
   intro i y hi hy
   cases i with
   |zero=>simp at hy;subst hy;exact b
   |succ i=>exact h4 i y (by omega) (by simpa using hy)
theorem aEe {aA:Int}{n:Nat}(h:(aA,n)∈gZ){u:Nat}(hu:u<n)(h0:u≠0):
  ∃j,j<(aT aA n u).length∧(aT aA n u)[j]? =some (kN aA n u)∧ ∀i v,i<j→(aT aA n u)[i]? =some v→aW aA v 0≠aW aA u 0-1:=by
 obtain⟨a,b,c⟩:=(bT h hu).2.2.2.1 h0
 obtain⟨j,h1,h2,_,h4⟩:=aEt (p:=fun(v:Nat)=>decide (aW aA v 0=aW aA u 0-1)) (d:=0) b (by simpa using c)
 exact⟨j,h1,h2,fun i v hi hv=>by simpa using h4 i v hi hv⟩
theorem lS {aA:Int}{n:Nat}(h:(aA,n)∈gZ): ∀(f u:Nat),u<n→aW aA u 0≤f→((cY aA n f u).length:Int)=aW aA u 0+1:=by
 intro f
 induction f with
 |zero=>
  intro u hu hf
  have:=(bT h hu).1
  simp[cY];omega
 |succ f ih=>
  intro u hu hf
  unfold cY
  by_cases h0:u=0
  ·rw[if_pos h0]
   have:=(bT h hu).2.2.1.2 h0
   simp;omega
  ·rw[if_neg h0]
   obtain⟨a,b,c⟩:=(bT h hu).2.2.2.1 h0
   have:=ih _ a (by omega)
   simp;omega
theorem qT (aA:Int)(n f u:Nat):(cY aA n f u)[0]? =some u:=by
 cases f with
 |zero=>simp[cY]
 |succ f=>unfold cY;split<;>simp
theorem rZ {aA:Int}{n:Nat}(h:(aA,n)∈gZ): ∀(f u k x y:Nat),u<n→(cY aA n f u)[k]? =some x→(cY aA n f u)[k+1]? =some y→y<n∧y∈aT aA n x:=by
 intro f
 induction f with
 |zero=>intro u k x y hu hx hy;simp[cY]at hy
 |succ f ih=>
  intro u k x y hu hx hy
  unfold cY at hx hy
  by_cases h0:u=0
  ·rw[if_pos h0]at hy;simp at hy
  ·rw[if_neg h0]at hx hy
   obtain⟨a,b,c⟩:=(bT h hu).2.2.2.1 h0
   cases k with
   |zero=>
    simp at hx hy
    have:=qT aA n f (kN aA n u)
    rw[hy]at this
    injection this with e
    subst hx e
    exact⟨a,b⟩
   |succ k=>exact ih _ k x y a (by simpa using hx) (by simpa using hy)
theorem aEc {aA:Int}{n:Nat}(h:(aA,n)∈gZ): ∀(f u x:Nat),u<n→x∈cY aA n f u→x<n:=by
 intro f
 induction f with
 |zero=>intro u x hu hx;simp[cY]at hx;omega
 |succ f ih=>
  intro u x hu hx
  unfold cY at hx
  by_cases h0:u=0
  ·rw[if_pos h0]at hx;simp at hx;omega
  ·rw[if_neg h0]at hx
   obtain⟨a,b,c⟩:=(bT h hu).2.2.2.1 h0
   rcases List.mem_cons.1 hx with e|e
   ·omega
   ·exact ih _ x a e
open Go.RowKit
set_option linter.unusedSimpArgs false
set_option maxHeartbeats 8000000
set_option maxRecDepth 100000
theorem aBw (aA:Int)(n u:Nat):oW aA n (-1) u=aT aA n u:=by
 unfold oW
 rw[List.filter_eq_self]
 intro v hv
 first|(simp;done)|(simp;omega)
theorem aH9 (aA aB:Int)(p:OA)(n cap u:Nat)(R:Int)(w:World)(hg:Hid ((aA,n)∈gZ))(hn0:4≤n)(hn:n≤12)(hu:u<n)(hR:Hid (R=aW aA u 0))(hR0:0≤R)
  (HP:xC 159 #[aH aA aB p n cap,(u:Int),()] w fun w' e w''=>e= .returned (.int .i64 R)∧Ext w' w'')
  (HF:xC 200 #[aH aA aB p n cap,(),(-1:Int)] w fun w' e w''=> ∃D,(D.length=n∧ ∀v,v<n→D.getD v 0=aW aA v 0)∧aX D w' e w'')
  (HC:Hid (∀(k:Nat),k<n→ ∀w',Ext w w'→Calls Tryz.prog 201 #[aH aA aB p n cap,k] w' (aX (bE (aT aA n k)) w'))):
  Calls Tryz.prog 180 #[aH aA aB p n cap,(u:Int),(),(-1:Int)] w (aX (bE (cY aA n 12 u)) w):=by
 have a1:(0:Int)≤(u:Int):=by omega
 have a2:(u:Int)<(n:Int):=by omega
 have a3:((-1:Int)==(u:Int))=false:=by first|(simp;done)|(simp;omega)
 have a4:decide (R<0)=false:=by first|(simp;done)|(simp;omega)
 go_enter Tryz.func180,Tryz.ntmps180
 go_wp2_with fail
 refine(HP _ (by exact .alloc (.alloc (.refl _) _) _)).mono ?_
 rintro e w1 ⟨rfl,ae⟩
 have B1:=xQ (((Blk.new w TH3 #[aA,aB,.slice p n cap]).alloc (.cells #[] TI)).ext ae)
 have ho:((w.alloc (.cells #[aA,aB,.slice p n cap] TH3)).alloc (.cells #[] TI)).ownsRow (w.heap.size+1) TI 1 (.slice (some ⟨(w.alloc (.cells #[aA,aB,.slice p n cap] TH3)).heap.size,0,none⟩) 0 0) 0 []:=World.ownsRow_made _ #[] 0 (by simp) (by simp[maxLen]) rfl
 have O1:=xQ (bC ho ae)
 have X1:Ext w w1:=(((Ext.refl _).alloc _).alloc _).trans ae
 have s1:w.heap.size+1<w1.heap.size:=by have:=ae.sz;simp at this;omega
 clear ho ae
 obtain⟨b0,b1,b2⟩:=B1.out.cells3
 have n1:IntKind.i64.wrap ((n:Int)-1)=(n:Int)-1:=IntWalk.i64_in _ (by omega)
 have t1:decide ((-1:Int)≤ -1∧(-1:Int)≤(n:Int)-1)=true:=by first|(simp;done)|(simp;omega)
 have HI:Hid (∀w,Calls Tryz.prog 77 #[(-1:Int),(-1:Int),((n:Int)-1:Int)] w fun e w'=>e= .returned (.bool true)∧w=w'):=fun w=>by have:=qD (-1) (-1) ((n:Int)-1) w;rwa[t1]at this
 clear t1
 go_wp2_with fail
 refine(HI _).mono ?_
 rintro e w2 ⟨rfl,rfl⟩
 go_wp2_with fail
 clear b0 b1 b2
 refine(HF _ (by exact X1)).mono ?_
 rintro e w2 ⟨D,⟨aq,a6⟩,q2,c2,rfl,o2,aa⟩
 rw[aq]at o2⊢
 have HD:=xQ aq
 have HV:=xQ a6
 have X2:=xQ (X1.trans aa)
 have O2:=xQ (bC O1 aa)
 have aw:=xQ (show w2.ownsRow (w.heap.size+1) TI 1 (.slice (some ⟨w.heap.size+1,0,none⟩) 0 0) 0 (ivs []) by simpa using O2.out)
 have B2:=xQ (B1.out.ext aa)
 have z2:=aa.sz
 clear aq a6 aa O1 X1
 have s2:=B2.out.lt
 obtain⟨gF,rfl,bq,bx⟩:=eL o2 (by omega)
 have F2:=xQ (bH o2 (Nat.le_of_lt s1))
 have br:Hid (gF≠w.heap.size+1):=by show _≠_;omega
 clear o2 B1
 have dU:D[u]? =some R:=by
  have:=(dE (D:=D) (v:=u) (by rw[HD.out];exact hu)).1
  rw[this,HV u hu,hR.out]
 have cU:w2.cell? ⟨gF,u,none⟩=some (.int .i64 R):=by have:=F2.out.cellAt u (by omega);rw[this];simp[ivs,dU]
 clear dU
 obtain⟨wA,bg⟩: ∃wA:World,wA=w2:=⟨_,rfl⟩
 have bl:w.heap.size+1≤w2.heap.size:=s2
 go_wp2_with (at_builtin;go_loud (refine fW rfl _ _ rfl (w.heap.size+1) _ _ [] rfl (aw.out.alloc _) _ _ (u:Int) _ rfl (by simp) (by omega) (Nat.le_trans bl (by simp)) ?_;intro p' a w3 b ai m;have g:(Value.slice p' (0+1) a).ownBlock=(Value.slice (some ⟨w.heap.size+1,0,none⟩) 0 0).ownBlock∨(Value.slice p' (0+1) a).ownBlock=some (w2.alloc (.cells #[(u:Int)] TI)).heap.size:=m;have c:World.grownBy _ w3 (Value.slice (some ⟨w.heap.size+1,0,none⟩) 0 0).ownBlock:=ai;have X3:=xQ (Ext.own (X2.out.alloc _) (aw.out.alloc _) c (by omega));have B3:=xQ ((B2.out.alloc _).grown c (by first|(simp[Value.ownBlock];done)|(simp[Value.ownBlock];omega)));have F3:=xQ ((F2.out.alloc _).kept c (.inr (by first|(simp[Value.ownBlock];done)|(simp[Value.ownBlock];omega))));have O3:=xQ b;have z3:=c.size;have A3:=xQ g;clear b ai g c m))
 have bc:Hid ((Value.slice p' (0+1) a).ownBlock≠some gF):=by
  show _≠_
  rcases A3.out with h|h
  ·rw[h];simp[Value.ownBlock];(try omega)
  ·rw[h];simp;omega
 have s3:w2.heap.size≤w3.heap.size:=Nat.le_trans (by simp) z3
 clear A3 X2 B2 F2 O2 aw bg wA z3 cU
 have ao:=xQ (bT hg.out hu)
 go_wp2
 go_loopw [1,9] (fun v o wr=> ∃(x f:Nat) (pre:List Nat) (q:OA) (l lc:Nat),v= .int .i64 (x:Int)∧x<n∧aW aA x 0≤f∧pre++cY aA n f x=cY aA n 12 u∧o= .slice q l lc∧l=pre.length+1∧wr.ownsRow (w.heap.size+1) TI 1 (.slice q l lc) l (ivs (bE (pre++ [x])))∧wr.ownsRow (w.heap.size+1) TI 1 (.slice (some ⟨gF,0,none⟩) n c2) n (ivs D)∧(Value.slice q l lc).ownBlock≠some gF∧Ext w wr∧Blk wr w.heap.size TH3 #[aA,aB,.slice p n cap]∧w3.heap.size≤wr.heap.size) (fun v _ _=>(aW aA (intOf v) 0).toNat)
 case atStart=>exact⟨u,12,[],p',1,a,rfl,hu,by have:=ao.out.2.1;omega,rfl,rfl,rfl,by simpa[bE]using O3.out,F3.out,bc.out,X3.out,B3.out,Nat.le_refl _⟩
 case round=>
  clear O3 F3 bc X3 B3
  obtain⟨x,f,pre,q,l,lc,rfl,hx,hf,ad,rfl,hl,hO,hF,a8,al,hB,bt⟩:=hrel
  have av:=xQ hO
  have a7:=xQ hF
  have a0:=xQ a8
  have HB:=xQ hB
  have HW:=xQ ad
  have ap:=xQ (bT hg.out hx)
  have bd:=xQ hf
  have bn:l≤12:=by
   have h1:=congrArg List.length ad
   have h2:=lS hg.out f x hx hf
   have h3:=lS hg.out 12 u hu (by have:=ao.out.2.1;omega)
   have h4:=ao.out.2.1
   have h5:=ap.out.1
   rw[List.length_append]at h1
   omega
  have bv:=HB.out.lt
  have bb:=xQ hl
  clear hO hF a8 hB ad hf hl
  by_cases h0:x=0
  ·have t0:((x:Int)!=0)=false:=by simp[h0]
   have an:Hid (pre++ [x]=cY aA n 12 u):=by
    show _=_
    rw[←HW.out]
    subst h0
    cases f<;>simp[cY]
   clear h0
   go_wp2
   go_ret
   exact dA (by rw[←an.out];have:=bb.out;simp[bE];omega) (by rw[←an.out];exact bH av (Nat.le_succ _)) al
  ·have t0:((x:Int)!=0)=true:=by simp[h0]
   obtain⟨J,bf,ak,au⟩:=aEe hg.out hx h0
   obtain⟨e1,e2,e3⟩:=ap.out.2.2.2.1 h0
   have bm:=xQ h0
   obtain⟨y,hy⟩: ∃y,y=kN aA n x:=⟨_,rfl⟩
   rw[←hy]at ak e1 e2 e3
   have HY:=xQ hy
   clear hy h0
   obtain⟨nb,ah⟩: ∃nb,nb=aT aA n x:=⟨_,rfl⟩
   rw[←ah]at bf ak au
   have be:Hid (∀w',Ext w w'→Calls Tryz.prog 201 #[aH aA aB p n cap,(x:Int)] w' (aX (bE nb) w')):=by rw[ah];exact HC x hx
   have bj:=xQ ah
   have bh:nb.length≤12:=by rw[ah];exact Nat.le_trans (List.length_filter_le _ _) (by simp;omega)
   have a5:=xQ ak
   have a9:=xQ au
   have am:=xQ e3
   clear ah ak au e2 e3
   have ax:(bE nb).length=nb.length:=by simp[bE]
   obtain⟨b0,b1,b2⟩:=HB.out.cells3
   go_wp2_with fail
   clear b0 b1 b2
   refine(be _ al).mono ?_
   rintro e w5 ⟨q5,c5,rfl,o5,z⟩
   rw[ax]at o5⊢
   obtain⟨gN,rfl,bu,bp⟩:=eL o5 (by omega)
   have O5:=xQ (bC av z)
   have F5:=xQ (bC a7 z)
   have B5:=xQ (HB.out.ext z)
   have X5:=xQ (al.trans z)
   have N5:=xQ o5
   have z5:=z.sz
   clear av a7 HB al o5 z be
   go_wp2
   go_loopw [12] (fun i wz=> ∃j:Nat,j≤J∧i= .int .i64 j∧Ext w5 wz) (fun i _=>J-(intOf i).toNat)
   case atStart=>exact⟨0,Nat.zero_le _,rfl,Ext.refl _⟩
   case round=>
    obtain⟨j,hj,rfl,hZ⟩:=hrel
    obtain⟨v,hv⟩: ∃v,nb[j]? =some v:=⟨_,List.getElem?_eq_getElem (by omega)⟩
    have ab:v<n:=(bR.1 (by rw[←bj.out];exact List.mem_of_getElem? hv:v∈aT aA n x)).1
    have aj:=xQ hv
    have ag:=(dE (D:=D) (v:=v) (by rw[HD.out];exact ab)).1
    have af:=(dE (D:=D) (v:=x) (by rw[HD.out];exact hx)).1
    rw[HV v ab]at ag
    rw[HV x hx]at af
    obtain⟨dv,r⟩: ∃d,d=aW aA v 0:=⟨_,rfl⟩
    obtain⟨dx,t⟩: ∃d,d=aW aA x 0:=⟨_,rfl⟩
    have gv:=bT hg.out ab
    have gx:=ap.out
    rw[←r]at ag gv
    rw[←t]at af gx
    have m1:(0:Int)≤(j:Int):=by omega
    have m2:(j:Int)<(nb.length:Int):=by omega
    have m3:(0:Int)≤(v:Int):=by omega
    have m4:(v:Int)<(n:Int):=by omega
    have m5:(0:Int)≤(x:Int):=by omega
    have m6:(x:Int)<(n:Int):=by omega
    have m7:((v:Int)== -1)=false:=by first|(simp;done)|(simp;omega)
    have w7:IntKind.i64.wrap (dx-1)=dx-1:=IntWalk.i64_in _ (by omega)
    have FZ:=xQ (bC F5 hZ)
    have NZ:=xQ (bC N5 hZ)
    have cn:wr.cell? ⟨gN,j,none⟩=some (.int .i64 (v:Int)):=by have:=NZ.out.cellAt j (by omega);rw[this];simp[ivs,bE,aj.out]
    have cf:wr.cell? ⟨gF,v,none⟩=some (.int .i64 dv):=by have:=FZ.out.cellAt v (by omega);rw[this];simp only[ivs,List.getElem?_map,ag,Option.map_some]
    have cx:wr.cell? ⟨gF,x,none⟩=some (.int .i64 dx):=by have:=FZ.out.cellAt x (by omega);rw[this];simp only[ivs,List.getElem?_map,af,Option.map_some]
    by_cases hjJ:j<J
    ·have ba:(dv !=dx-1)=true:=by
      have:=a9.out j v hjJ aj.out
      rw[←r,←t]at this
      simpa using this
     clear ag af r t gv gx
     go_wp2
     go_quiet (fail)
     go_wp2
     go_roundw
     case rel=>exact⟨j+1,by omega,by go_num,by exact .drewN hZ _⟩
     case measure=>simp[intOf];omega
    ·obtain rfl:j=J:=by omega
     have bk:v=y:=by
      have h1:=aj.out
      rw[a5.out]at h1
      injection h1 with h1;exact h1.symm
     subst bk
     have ba:(dv !=dx-1)=false:=by
      have:=am.out
      rw[←r,←t]at this
      simp[this]
     have ay:=xQ (show 1≤aW aA (x:Int) 0 by have h1:=(bT hg.out ab).1;have h2:=am.out;omega)
     clear ag af r gv
     go_wp2
     go_quiet (fail)
     generalize az:World.drewN _ _=wq
     have s:Ext w5 wq:=by rw[←az];exact hZ.drewN _
     clear az cn cf cx FZ NZ hZ
     have OQ:=xQ (bC O5 s)
     have FQ:=xQ (bC F5 s)
     have NQ:=xQ (bC N5 s)
     have BQ:=xQ (B5.out.ext s)
     have XQ:=xQ (X5.out.trans s)
     have zq:=s.sz
     clear O5 F5 N5 B5 X5 s
     have cn:wq.cell? ⟨gN,j,none⟩=some (.int .i64 (v:Int)):=by have:=NQ.out.cellAt j (by omega);rw[this];simp[ivs,bE,aj.out]
     have lO:w.heap.size+1≤wq.heap.size:=by omega
     have bs:=(FQ.out.lt gF rfl).2
     go_wp2_with (at_builtin;go_loud (refine fW rfl _ _ rfl (w.heap.size+1) (.slice q l lc) l (bE (pre++ [x])) rfl (OQ.out.alloc _) _ _ (v:Int) _ rfl (by simp) (by omega) (Nat.le_trans lO (by simp)) ?_;intro p' a w9 b ai m;have g:(Value.slice p' (l+1) a).ownBlock=(Value.slice q l lc).ownBlock∨(Value.slice p' (l+1) a).ownBlock=some (wq.alloc (.cells #[(v:Int)] TI)).heap.size:=m;have c:World.grownBy _ w9 (Value.slice q l lc).ownBlock:=ai;have X9:=xQ (Ext.own (XQ.out.alloc _) (OQ.out.alloc _) c (by omega));have B9:=xQ (oR OQ c BQ.out);have F9:=xQ ((FQ.out.alloc _).kept c (.inr (Ne.symm a0.out)));have O9:=xQ b;have z9:=c.size;have A9:=xQ g;clear b ai g c m))
     have bi:Hid ((Value.slice p' (l+1) a).ownBlock≠some gF):=by
      show _≠_
      rcases A9.out with h|h
      ·rw[h];exact a0.out
      ·rw[h];simp;omega
     have bo:wq.heap.size≤w9.heap.size:=Nat.le_trans (by simp) z9
     clear z9 cn
     have bw:0<f:=by have:=bd.out;have:=ay.out;omega
     obtain⟨f',rfl⟩: ∃f',f=f'+1:=⟨f-1,by omega⟩
     have ar:Hid ((pre++ [x])++cY aA n f' v=cY aA n 12 u):=by
      show _=_
      rw[←HW.out]
      conv=>rhs;rw[cY,if_neg bm.out,←HY.out]
      simp
     go_roundw
     case rel=>exact⟨v,f',pre++ [x],p',l+1,a,by go_num,ab,by have:=am.out;have:=bd.out;omega,ar.out,rfl,by have:=bb.out;simp;omega,by have:=O9.out;simpa[bE]using this,F9.out,bi.out,X9.out,B9.out,by omega⟩
     case measure=>simp[intOf];have:=am.out;have:=ay.out;omega
theorem xK (aA aB:Int)(p:OA)(n cap u:Nat)(xs:List Int)(w:World)(hS:Sl w p n cap 1 (ivs xs))(hok:aN aA aB xs=true)(hu:u<n):
  Calls Tryz.prog 180 #[aH aA aB p n cap,(u:Int),(),(-1:Int)] w (aX (bE (cY aA n 12 u)) w):=by
 have hl:=hS.ilen
 obtain⟨g1,g2,g3,g4,g5,g6,g7,g8,g9⟩:=bM hok
 have hg:=pL (n:=n) g1 g2 g3 g4 (by omega)
 refine aH9 aA aB p n cap u (aW aA u 0) w hg (by omega) (by omega) hu rfl (bT hg hu).1 (fun w' hx=> ?_) (fun w' hx=> ?_) (fun k hk w' hx=> ?_)
 ·have:=xY aA aB u 0 p n cap xs w' (hS.ext hx)
  rwa[dF,if_pos ⟨hok,by omega,by omega⟩]at this
 ·refine(aG2 aA aB p n cap 0 (-1) xs w' (hS.ext hx) hok (by omega)).mono ?_
  rintro e w2 ⟨D,hD,hr⟩
  exact⟨D,⟨hD.len,fun v hv=>xF hg (aBw aA n) hD hv⟩,hr⟩
 ·have:=aCq aA aB k p n cap xs w' (hS.ext hx) hok (by omega) (by omega)
  rwa[kL]at this
end Go.Proofs.YtgnkoffndhmhpaaGreatDoor
namespace Go.Proofs.YtgnkoffndhmhpaaGreatDoor
open Go.RowKit
set_option linter.unusedVariables false
set_option linter.unusedSimpArgs false
def cF:List Int→Nat→List Nat→List Int×List Sl2
 |xs,_,[]=>(xs,[])
 |xs,a,b::l=>if xs.getD b 0=0 then cF xs b l else((cF ((xs.set a (xs.getD b 0)).set b 0) b l).1,((b:Int),(a:Int))::(cF ((xs.set a (xs.getD b 0)).set b 0) b l).2)
theorem pK {xs:List Int}{a b:Nat}{l:List Nat}(h:xs.getD b 0=0):cF xs a (b::l)=cF xs b l:=by rw[cF,if_pos h]
theorem nQ {xs:List Int}{a b:Nat}{l:List Nat}(h: ¬xs.getD b 0=0):cF xs a (b::l)=((cF ((xs.set a (xs.getD b 0)).set b 0) b l).1,((b:Int),(a:Int))::(cF ((xs.set a (xs.getD b 0)).set b 0) b l).2):=by rw[cF,if_neg h]
def mH (aA:Int)(n:Nat):Nat→List Nat→Prop
 |_,[]=>True
 |a,b::l=>b∈aT aA n a∧mH aA n b l
theorem cM {aA aB:Int}{xs:List Int}(h:aN aA aB xs=true):fP aA aB xs.length=true:=by
 unfold aN at h;rw[Bool.and_eq_true]at h;exact h.1
theorem nR {aA aB:Int}{xs:List Int}(h:aN aA aB xs=true)(b:Nat):0≤xs.getD b 0:=by
 unfold aN at h
 rw[Bool.and_eq_true]at h
 have h1:=((dQ _ _).1 h.2).1
 rw[List.getD_eq_getElem?_getD]
 cases hx:xs[b]? with
 |none=>simp
 |some x=>exact(h1 x (List.mem_of_getElem? hx)).1
theorem aBe {aA aB:Int}{xs:List Int}{a b:Nat}(h:aN aA aB xs=true)(ha:a<xs.length)(h0:xs.getD a 0=0)(hb:b∈aT aA xs.length a):bA aA aB xs (b:Int) (a:Int)=decide (0<xs.getD b 0):=by
 obtain⟨h1,h2⟩:=bR.1 hb
 have h3:dF aA aB xs (b:Int) (a:Int)=1:=by
  unfold dF
  rw[if_pos ⟨h,⟨by omega,by omega⟩,by omega,by omega⟩,uZ];exact h2
 unfold bA
 rw[h3]
 simp only[Int.toNat_natCast,h0]
 simp
theorem yU {aA aB:Int}{xs:List Int}{a b:Nat}(h:aN aA aB xs=true)(ha:a<xs.length)(h0:xs.getD a 0=0)(hb:b∈aT aA xs.length a)(hx: ¬xs.getD b 0=0):bA aA aB xs (b:Int) (a:Int)=true∧bG aA aB xs (b:Int) (a:Int)=(xs.set a (xs.getD b 0)).set b 0:=by
 have h1:=aBe h ha h0 hb
 have h2:decide (0<xs.getD b 0)=true:=by have:=nR h b;simp only[decide_eq_true_eq];omega
 rw[h2]at h1
 exact⟨h1,by unfold bG;rw[if_pos h1];simp only[Int.toNat_natCast]⟩
theorem aJ1 {aA aB:Int}{xs:List Int}{a b:Nat}(h:aN aA aB xs=true)(ha:a<xs.length)(h0:xs.getD a 0=0)(hb:b∈aT aA xs.length a)(hx:xs.getD b 0=0):bA aA aB xs (b:Int) (a:Int)=false:=by
 rw[aBe h ha h0 hb,hx];rfl
theorem rJ {aA aB:Int}{xs:List Int}{a b:Nat}(h:aN aA aB xs=true)(ha:a<xs.length)(h0:xs.getD a 0=0)(hb:b∈aT aA xs.length a)(hx: ¬xs.getD b 0=0):
  aN aA aB ((xs.set a (xs.getD b 0)).set b 0)=true∧((xs.set a (xs.getD b 0)).set b 0).length=xs.length∧((xs.set a (xs.getD b 0)).set b 0).getD b 0=0:=by
 obtain⟨h1,h2⟩:=yU h ha h0 hb hx
 refine⟨by rw[←h2];exact iB _ _ h,by simp,?_⟩
 have hl:=(bR.1 hb).1
 rw[List.getD_eq_getElem?_getD,List.getElem?_set_self (by simp;exact hl)];rfl
theorem vO {aA aB:Int}: ∀(l:List Nat) (xs:List Int) (a:Nat),aN aA aB xs=true→a<xs.length→xs.getD a 0=0→mH aA xs.length a l→
  aZ aA aB xs (cF xs a l).2=((cF xs a l).1,(cF xs a l).2.length)∧aN aA aB (cF xs a l).1=true∧(cF xs a l).1.length=xs.length∧(cF xs a l).2.length≤l.length∧(cF xs a l).1.getD ((a::l).getLast (by simp)) 0=0:=by
 intro l
 induction l with
 |nil=>intro xs a h ha h0 _;exact⟨rfl,h,rfl,Nat.le_refl _,by simpa[cF]using h0⟩
 |cons b l ih=>
  intro xs a h ha h0 hs
  obtain⟨hb,d⟩:=hs
  have c:=(bR.1 hb).1
  by_cases hx:xs.getD b 0=0
  ·rw[pK hx]
   obtain⟨i1,i2,i3,i4,i5⟩:=ih xs b h c hx d
   exact⟨i1,i2,i3,by simp;omega,by simpa using i5⟩
  ·obtain⟨n1,n2,n3⟩:=rJ h ha h0 hb hx
   obtain⟨d1,d2⟩:=yU h ha h0 hb hx
   obtain⟨i1,i2,i3,i4,i5⟩:=ih _ b n1 (by rw[n2];exact c) n3 (by rw[n2];exact d)
   rw[nQ hx]
   refine⟨?_,i2,by rw[i3,n2],by simp only[List.length_cons];omega,by simpa using i5⟩
   dsimp only
   rw[eD d1,d2,i1]
   rfl
theorem qS {aA:Int}{n:Nat}(h:(aA,n)∈gZ): ∀(f u:Nat),u<n→mH aA n u (cY aA n f u).tail:=by
 intro f
 induction f with
 |zero=>intro u _;exact trivial
 |succ f ih=>
  intro u hu
  unfold cY
  by_cases h0:u=0
  ·rw[if_pos h0];exact trivial
  ·rw[if_neg h0]
   obtain⟨h1,h2,_⟩:=(bT h hu).2.2.2.1 h0
   have:=ih (kN aA n u) h1
   have hh:=qT aA n f (kN aA n u)
   simp only[List.tail_cons]
   cases hw:cY aA n f (kN aA n u)with
   |nil=>rw[hw]at hh;simp at hh
   |cons x l=>
    rw[hw]at hh this
    simp at hh
    subst hh
    exact⟨h2,this⟩
theorem tK (aA:Int)(n f u:Nat):cY aA n f u=u::(cY aA n f u).tail:=by
 have hh:=qT aA n f u
 cases hw:cY aA n f u with
 |nil=>rw[hw]at hh;simp at hh
 |cons x l=>rw[hw]at hh;simp at hh;subst hh;rfl
theorem aH5 {aA:Int}{n:Nat}(h:(aA,n)∈gZ): ∀(f u:Nat),u<n→aW aA u 0≤f→(cY aA n f u).getLast? =some 0:=by
 intro f
 induction f with
 |zero=>
  intro u hu ha
  have g:=bT h hu
  have:u=0:=g.2.2.1.1 (by have:=g.1;simp at ha;omega)
  subst this;rfl
 |succ f ih=>
  intro u hu ha
  unfold cY
  by_cases h0:u=0
  ·rw[if_pos h0];simp[h0]
  ·rw[if_neg h0]
   obtain⟨h1,h2,h3⟩:=(bT h hu).2.2.2.1 h0
   have:=ih (kN aA n u) h1 (by rw[h3];simp at ha;omega)
   rw[List.getLast?_cons,this];rfl
def bI (xs:List Int):List Nat:=(List.range xs.length).filter (cR xs)
theorem qK (xs:List Int):lE xs=(bI xs).map (fun(k:Nat)=>(k:Int)):=by
 unfold lE bI
 generalize xs.length=k
 induction k with
 |zero=>rfl
 |succ k ih=>
  rw[List.range_succ,List.filter_append,List.map_append,eT,ih]
  congr 1
  cases h:cR xs k<;>simp[h]
theorem jJ {xs:List Int}{u:Nat}(h:u∈bI xs):u<xs.length∧xs.getD u 0=0:=by
 unfold bI at h
 rw[List.mem_filter]at h
 refine⟨by simpa using h.1,?_⟩
 have h2:=h.2
 unfold cR at h2
 rw[List.getD_eq_getElem?_getD,eq_of_beq h2];rfl
def mN (aA:Int)(best:Option Nat)(u:Nat):Option Nat:=
 match best with
 |none=>some u
 |some v=>if aW aA u 0<aW aA v 0 then some u else some v
def cT (aA:Int)(l:List Nat):Option Nat:=l.foldl (mN aA) none
theorem yH (aA:Int)(l:List Nat)(u:Nat):cT aA (l++ [u])=mN aA (cT aA l) u:=by simp[cT]
theorem iH (aA:Int)(l:List Nat):(cT aA l=none↔l= [])∧ ∀u,cT aA l=some u→u∈l:=by
 suffices h: ∀(l pre:List Nat) (b:Option Nat),(b=none↔pre= [])→(∀u,b=some u→u∈pre)→((l.foldl (mN aA) b=none↔pre++l= [])∧ ∀u,l.foldl (mN aA) b=some u→u∈pre++l)from by
  simpa[cT]using h l [] none (by simp) (by simp)
 intro l
 induction l with
 |nil=>intro pre b h1 h2;simpa using⟨h1,h2⟩
 |cons x l ih=>
  intro pre b h1 h2
  have:=ih (pre++ [x]) (mN aA b x) (by
   unfold mN
   cases b with
   |none=>simp
   |some v=>simp;split<;>simp) (by
   intro u hu
   unfold mN at hu
   cases b with
   |none=>simp at hu;simp[hu]
   |some v=>
    simp only at hu
    split at hu
    ·injection hu with hu;simp[hu]
    ·injection hu with hu;subst hu;exact List.mem_append_left _ (h2 v rfl))
  simpa using this
def gO (aA:Int)(xs:List Int):Option (List Int×List Sl2):=(cT aA (bI xs)).map (fun u=>cF xs u (cY aA xs.length 12 u).tail)
def kX (aA aB:Int)(xs:List Int)(id:Int):Option (List Int×Nat):=
 match gO aA xs with
 |none=>none
 |some r=>if(cV aA aB r.1 id).2 then some ((cV aA aB r.1 id).1,r.2.length)else none
theorem jI {aA aB:Int}{xs:List Int}(h:aN aA aB xs=true):(aA,xs.length)∈gZ:=by
 obtain⟨h1,h2,h3,h4,h5,h6,h7⟩:=bX (cM h)
 exact pL h1 h2 h3 h4 h7
theorem nW {aA aB:Int}{xs:List Int}(h:aN aA aB xs=true){r:List Int×List Sl2}(hr:gO aA xs=some r):
  aZ aA aB xs r.2=(r.1,r.2.length)∧aN aA aB r.1=true∧r.1.length=xs.length∧r.2.length≤5∧r.1.getD 0 0=0:=by
 unfold gO at hr
 cases hn:cT aA (bI xs)with
 |none=>rw[hn]at hr;simp at hr
 |some u=>
  rw[hn]at hr
  simp at hr
  subst hr
  obtain⟨hu,h0⟩:=jJ ((iH aA _).2 u hn)
  have hg:=jI h
  have g:=bT hg hu
  obtain⟨f1,f2,f3,f4,f5⟩:=vO _ xs u h hu h0 (qS hg 12 u hu)
  have hl:=lS hg 12 u hu (by have:=g.2.1;omega)
  have hw:=aH5 hg 12 u hu (by have:=g.2.1;omega)
  refine⟨f1,f2,f3,?_,?_⟩
  ·have:=g.2.1;rw[List.length_tail]at f4;omega
  ·have hc:=tK aA xs.length 12 u
   rw[hc,List.getLast?_eq_some_getLast (by simp)]at hw
   injection hw with hw
   rw[hw]at f5
   exact f5
set_option maxHeartbeats 8000000
set_option maxRecDepth 100000
theorem aFa (aA aB:Int)(p:OA)(n cap:Nat)(b off m c2:Nat)(ws:List Nat)(w:World)(hn0:4≤n)(hn:n≤12)(hm0:0<m)(hm:m≤12)(hlen:Hid (ws.length=m))(hb:b<w.heap.size)
  (HS:Hid (∀(k x:Nat),ws[k]? =some x→w.cell? ⟨b,off+k,none⟩=some (.int .i64 (x:Int)))) (x0:Nat) (c0:w.cell? ⟨b,off,none⟩=some (.int .i64 (x0:Int)))
  (HA:Hid (∀(k x y:Nat),ws[k]? =some x→ws[k+1]? =some y→ ∀w',Ext w w'→Calls Tryz.prog 159 #[aH aA aB p n cap,(x:Int),(y:Int)] w' fun e w''=>e= .returned (.int .i64 1)∧Ext w' w''))
  (HV:xB 90 #[aH aA aB p n cap] w true)
  (HI:Hid (∀w,Calls Tryz.prog 77 #[(x0:Int),(),((n:Int)-1:Int)] w fun e w'=>e= .returned (.bool true)∧w=w')):
  Calls Tryz.prog 181 #[aH aA aB p n cap,.slice (some ⟨b,off,none⟩) m c2] w fun e w'=>e= .returned (.bool true)∧Ext w w':=by
 go_enter Tryz.func181,Tryz.ntmps181
 go_wp2
 go_loopw [5] (fun i wr=> ∃k:Nat,1≤k∧k≤m∧i= .int .i64 (k:Int)∧Ext w wr∧Blk wr w.heap.size TH3 #[aA,aB,.slice p n cap]) (fun i _=>m-(intOf i).toNat)
 case atStart=>exact⟨1,Nat.le_refl _,by omega,rfl,by exact .alloc (.refl _) _,Blk.new _ _ _⟩
 case round=>
  obtain⟨k,ag,hk,rfl,hE,hB⟩:=hrel
  have HB:=xQ hB
  clear hB
  have h:b<wr.heap.size:=Nat.lt_of_lt_of_le hb hE.sz
  by_cases hlt:k<m
  ·obtain⟨x,hx⟩: ∃x,ws[k-1]? =some x:=⟨_,List.getElem?_eq_getElem (by rw[hlen.out];omega)⟩
   obtain⟨y,hy⟩: ∃y,ws[k]? =some y:=⟨_,List.getElem?_eq_getElem (by rw[hlen.out];omega)⟩
   have HK:=xQ (HA (k-1) x y hx (by rw[show k-1+1=k by omega];exact hy))
   have ca:wr.cell? ⟨b,off+(k-1),none⟩=some (.int .i64 (x:Int)):=(hE.cells.1 _ _ hb).trans (HS (k-1) x hx)
   have cb:wr.cell? ⟨b,off+k,none⟩=some (.int .i64 (y:Int)):=(hE.cells.1 _ _ hb).trans (HS k y hy)
   clear hx hy c0
   have i1:(0:Int)≤(k:Int):=by omega
   have i2:(k:Int)<(m:Int):=by omega
   have i3:(k:Int)-1<(m:Int):=by omega
   have i4:((k:Int)-1).toNat=k-1:=by omega
   have i5:(1:Int)≤(k:Int):=by omega
   go_wp2
   refine rL (gl [gEq (.agg #[aA,aB,.slice p n cap]),gEq (.slice (some ⟨b,off,none⟩) m c2),gEq (k:Int),gEq ((k:Int)-1:Int),gEq (.pointer (some ⟨b,off+(k-1),none⟩)),gEq (x:Int),gEq (.slice (some ⟨b,off,none⟩) m c2),gEq (k:Int),gEq (.pointer (some ⟨b,off+k,none⟩)),gEq (y:Int),gEq (.int .i64 1),gEq (.bool false)]) 12 12 [(0,some 12),(1,some 13),(2,some 14),(3,some 15),(4,some 16),(5,some 17),(6,some 18),(7,some 19),(8,some 20),(9,some 21),(10,some 22),(11,some 23)] ?steps ?fin
   case steps=>
    refine sC [] rfl (fun wi hx=> ?_) ?_
    ·intro K hK
     have hX:Ext wr wi:=by exact .trans (.drew (.refl _)) hx
     obtain⟨d,z,aa⟩:=(HB.out.ext hX).tri
     go_simp
     exact hK _ _ ⟨.agg #[aA,aB,.slice p n cap],rfl,rfl,Ext.refl _⟩
    refine sS0 [] (sS0 [] ?_)
    refine sC [(2,some 14)] rfl (fun wi hx=> ?_) ?_
    ·intro v2 h2 K hK
     obtain rfl:=h2
     have ai:IntKind.i64.wrap ((k:Int)-1)=(k:Int)-1:=IntWalk.i64_in _ (by omega)
     go_simp
     exact hK _ _ ⟨.int .i64 ((k:Int)-1),rfl,rfl,Ext.refl _⟩
    refine sS2 [(1,some 13),(3,some 15)] ?_
    refine sC [(4,some 16)] rfl (fun wi hx=> ?_) ?_
    ·intro v4 h4 K hK
     obtain rfl:=h4
     have hX:Ext wr wi:=by exact .trans (.drew (.refl _)) hx
     have d:wi.cell? ⟨b,off+(k-1),none⟩=some (.int .i64 (x:Int)):=(hX.cells.1 _ _ h).trans ca
     go_simp
     exact hK _ _ ⟨.int .i64 (x:Int),rfl,rfl,Ext.refl _⟩
    refine sS0 [] (sS0 [] (sS2 [(6,some 18),(7,some 19)] ?_))
    refine sC [(8,some 20)] rfl (fun wi hx=> ?_) ?_
    ·intro v8 h8 K hK
     obtain rfl:=h8
     have hX:Ext wr wi:=by exact .trans (.drew (.refl _)) hx
     have d:wi.cell? ⟨b,off+k,none⟩=some (.int .i64 (y:Int)):=(hX.cells.1 _ _ h).trans cb
     go_simp
     exact hK _ _ ⟨.int .i64 (y:Int),rfl,rfl,Ext.refl _⟩
    refine sC [(0,some 12),(5,some 17),(9,some 21)] rfl (fun wi hx=> ?_) ?_
    ·intro v0 h0 v5 h5 v9 h9 K hK
     obtain rfl:=h0
     obtain rfl:=h5
     obtain rfl:=h9
     go_wp2_with fail
     refine(HK _ (hE.trans hx.of_drew)).mono ?_
     rintro e w5 ⟨rfl,j⟩
     go_simp
     exact hK _ _ ⟨.int .i64 1,rfl,rfl,j⟩
    exact sS1 [(10,some 22)] StepsL.nil
   case fin=>
    intro wi hx v0 h0 v1 h1 v2 h2 v3 h3 v4 h4 v5 h5 v6 h6 v7 h7 v8 h8 v9 h9 q a o c
    obtain rfl:=h0
    obtain rfl:=h1
    obtain rfl:=h2
    obtain rfl:=h3
    obtain rfl:=h4
    obtain rfl:=h5
    obtain rfl:=h6
    obtain rfl:=h7
    obtain rfl:=h8
    obtain rfl:=h9
    obtain rfl:=a
    obtain rfl:=c
    refine wpAny_done (by kernel_rfl) ?_ _
    simp only[Act.put,List.setIfInBounds_toArray,List.set_cons_zero,List.set_cons_succ]
    have f:=hx.of_drew
    go_wp2
    go_roundw
    case rel=>exact⟨k+1,by omega,by omega,by go_num,hE.trans f,HB.out.ext f⟩
    case measure=>simp[intOf];omega
  ·obtain rfl:m=k:=by omega
   have l:=(hE.cells.1 _ _ hb).trans c0
   clear c0
   have c0:=l
   clear l
   have i2:(0:Int)<(m:Int):=by omega
   have i6:IntKind.i64.wrap ((n:Int)-1)=(n:Int)-1:=IntWalk.i64_in _ (by omega)
   go_wp2
   refine rL (gl [gEq (.agg #[aA,aB,.slice p n cap]),gEq (.bool true),gEq (.bool true),gEq (.slice (some ⟨b,off,none⟩) m c2),gEq (m:Int),gEq (.bool true),gEq (.bool true),gEq (.bool true),gEq (.slice (some ⟨b,off,none⟩) m c2),gEq (.pointer (some ⟨b,off,none⟩)),gEq (x0:Int),gEq (.pointer (some ⟨w.heap.size,2,none⟩)),gEq (.slice p n cap),gEq (n:Int),gEq ((n:Int)-1:Int),gEq (.bool true),gEq (.bool true),gEq (.bool true)]) 18 18 [(0,some 24),(1,some 25),(2,some 26),(3,some 27),(4,some 28),(5,some 29),(6,some 30),(7,some 31),(8,some 32),(9,some 33),(10,some 34),(11,some 35),(12,some 36),(13,some 37),(14,some 38),(15,some 39),(16,some 40),(17,some 4)] ?steps ?fin
   case steps=>
    refine sC [] rfl (fun wi hx=> ?_) ?_
    ·intro K hK
     have hX:Ext wr wi:=by exact .trans (.drew (.refl _)) hx
     obtain⟨d,z,aa⟩:=(HB.out.ext hX).tri
     go_simp
     exact hK _ _ ⟨.agg #[aA,aB,.slice p n cap],rfl,rfl,Ext.refl _⟩
    refine sC [(0,some 24)] rfl (fun wi hx=> ?_) ?_
    ·intro v0 h0 K hK
     obtain rfl:=h0
     go_wp2_with fail
     refine(HV _ (hE.trans hx.of_drew)).mono ?_
     rintro e w5 ⟨rfl,j⟩
     go_simp
     exact hK _ _ ⟨.bool true,rfl,rfl,j⟩
    refine sS1 [(1,some 25)] (sS1 [(2,some 26)] (sS2 [(2,some 26),(3,some 27)] (sS2 [(2,some 26),(4,some 28)] (sS2 [(2,some 26),(5,some 29)] (sS1 [(6,some 30)] (sS1 [(7,some 31)] (sS2 [(7,some 31),(8,some 32)] ?_)))))))
    refine sC [(7,some 31),(9,some 33)] rfl (fun wi hx=> ?_) ?_
    ·intro v7 h7 v9 h9 K hK
     obtain rfl:=h7
     obtain rfl:=h9
     have hX:Ext wr wi:=by exact .trans (.drew (.refl _)) hx
     have d:wi.cell? ⟨b,off,none⟩=some (.int .i64 (x0:Int)):=(hX.cells.1 _ _ h).trans c0
     go_simp
     exact hK _ _ ⟨.int .i64 (x0:Int),rfl,rfl,Ext.refl _⟩
    refine sS1 [(7,some 31)] ?_
    refine sC [(7,some 31),(11,some 35)] rfl (fun wi hx=> ?_) ?_
    ·intro v7 h7 o c K hK
     obtain rfl:=h7
     obtain rfl:=c
     have hX:Ext wr wi:=by exact .trans (.drew (.refl _)) hx
     have d:=(HB.out.ext hX).cl 2
     go_simp
     exact hK _ _ ⟨.slice p n cap,rfl,rfl,Ext.refl _⟩
    refine sS2 [(7,some 31),(12,some 36)] (sS2 [(7,some 31),(13,some 37)] ?_)
    refine sC [(7,some 31),(10,some 34),(14,some 38)] rfl (fun wi hx=> ?_) ?_
    ·intro v7 h7 q a r g K hK
     obtain rfl:=h7
     obtain rfl:=a
     obtain rfl:=g
     go_wp2_with fail
     refine(HI _).mono ?_
     rintro e w5 ⟨rfl,rfl⟩
     go_simp
     exact hK _ _ ⟨.bool true,rfl,rfl,Ext.refl _⟩
    exact sS2 [(7,some 31),(15,some 39)] (sS1 [(16,some 40)] StepsL.nil)
   case fin=>
    intro wi hx v0 h0 v1 h1 v2 h2 v3 h3 v4 h4 v5 h5 v6 h6 v7 h7 v8 h8 v9 h9 q a o c aj v ad u r g ah s ae t af ab
    obtain rfl:=h0
    obtain rfl:=h1
    obtain rfl:=h2
    obtain rfl:=h3
    obtain rfl:=h4
    obtain rfl:=h5
    obtain rfl:=h6
    obtain rfl:=h7
    obtain rfl:=h8
    obtain rfl:=h9
    obtain rfl:=a
    obtain rfl:=c
    obtain rfl:=v
    obtain rfl:=u
    obtain rfl:=g
    obtain rfl:=s
    obtain rfl:=t
    obtain rfl:=ab
    refine wpAny_done (by kernel_rfl) ?_ _
    simp only[Act.put,List.setIfInBounds_toArray,List.set_cons_zero,List.set_cons_succ]
    have f:=hx.of_drew
    go_wp2
    go_ret
    exact⟨rfl,hE.trans f⟩
end Go.Proofs.YtgnkoffndhmhpaaGreatDoor
