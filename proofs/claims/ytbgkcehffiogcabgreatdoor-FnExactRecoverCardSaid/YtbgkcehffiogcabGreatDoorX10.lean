/-
  Texts of this proof, packed (@packed).
-/
import Derived.Test.YtbgkcehffiogcabGreatDoorX9
namespace Go.Proofs.YtbgkcehffiogcabGreatDoor
set_option linter.unusedSimpArgs false
set_option linter.unusedVariables false
set_option maxHeartbeats 8000000
set_option maxRecDepth 100000
def nE (aA:Int)(n u:Nat):Nat:=((aT aA n u).find? (fun(v:Nat)=>decide (bE aA v 0=bE aA u 0-1))).getD 0
def dO (aA:Int)(n:Nat):Nat→Nat→List Nat
 |0,u=> [u]
 |f+1,u=>if u=0 then [u]else u::dO aA n f (nE aA n u)
def kN:List (Int×Nat):= [(2,4),(2,6),(3,6),(3,9),(4,8),(4,12)]
def aRf (aA:Int)(n:Nat):Bool:=
 (List.range n).all fun u=>decide (0≤bE aA u 0∧bE aA u 0≤5)&&decide (bE aA u 0=0↔u=0)
  &&(decide (u=0) || (decide (nE aA n u<n)&&decide (nE aA n u∈aT aA n u)&&decide (bE aA (nE aA n u) 0=bE aA u 0-1)))
  &&(List.range n).all fun v=> !decide (v∈aT aA n u) || decide (bE aA u 0≤bE aA v 0+1)
theorem aPr:(kN.all fun g=>aRf g.1 g.2)=true:=by decide+kernel
theorem uD {aA aB:Int}{n:Nat}(h0:2≤aA)(h1:aA≤4)(h2:2≤aB)(h3:aB≤3)(hn:(n:Int)=aA*aB):(aA,n)∈kN:=by
 have hw:aA=2∨aA=3∨aA=4:=by omega
 have hd:aB=2∨aB=3:=by omega
 rcases hw with rfl|rfl|rfl<;>rcases hd with rfl|rfl
 ·obtain rfl:n=4:=by omega
  decide
 ·obtain rfl:n=6:=by omega
  decide
 ·obtain rfl:n=6:=by omega
  decide
 ·obtain rfl:n=9:=by omega
  decide
 ·obtain rfl:n=8:=by omega
  decide
 obtain rfl:n=12:=by omega
 decide
theorem cJ {aA:Int}{n:Nat}(h:(aA,n)∈kN){u:Nat}(hu:u<n):
  0≤bE aA u 0∧bE aA u 0≤5∧(bE aA u 0=0↔u=0)
  ∧(u≠0→nE aA n u<n∧nE aA n u∈aT aA n u∧bE aA (nE aA n u) 0=bE aA u 0-1)
  ∧ ∀v∈aT aA n u,bE aA u 0≤bE aA v 0+1:=by
 have h1:=aTp.1 aPr _ h;have h2:=aTp.1 h1 u (aTo.2 hu);simp only[aTd,Bool.or_eq_true,decide_eq_true_eq]at h2;obtain⟨⟨⟨⟨a,b⟩,c⟩,d⟩,e⟩:=h2;refine⟨a,b,c,fun h=> ?_,fun v hv=> ?_⟩
 ·rcases d with d|d
  ·exact absurd d h
  exact⟨d.1.1,d.1.2,d.2⟩
 have:=aTp.1 e v (aTo.2 (cE.1 hv).1);simpa[hv]using this
theorem aD4 {aA:Int}{n:Nat}(h:(aA,n)∈kN){adj:Nat→List Nat}(ha: ∀u,adj u=aT aA n u){D:List Int}(hD:vW adj [0] n D){u:Nat}(hu:u<n):D.getD u 0=bE aA u 0:=by
 have hn:0<n:=by omega
 have up: ∀(d:Nat) v,v<n→bE aA v 0=d→0≤D.getD v 0∧D.getD v 0≤d:=by
  intro d;induction d with
  |zero=>intro v hv e;have e0:=(cJ h hv).2.2.1.1 e;have:=(hD.zero v hv).2 (by simp[e0]);omega
  |succ d ih=>
   intro v hv e;have g:v≠0:=fun e0=>by have:=(cJ h hv).2.2.1.2 e0;omega
   obtain⟨h1,h2,h3⟩:=(cJ h hv).2.2.2.1 g;obtain⟨i1,i2⟩:=ih _ h1 (by omega);have:=hD.edge _ v h1 i1 (by rw[ha];exact iK hv h2);omega
 have f: ∀(d:Nat) v,v<n→D.getD v 0=d→bE aA v 0≤d:=by
  intro d;induction d with
  |zero=>intro v hv e;have hm:=(hD.zero v hv).1 e;simp at hm;have:=(cJ h hv).2.2.1.2 hm;omega
  |succ d ih=>intro v hv e;obtain⟨x,hx,hm,e2⟩:=hD.back v hv (by omega);have i1:=ih x hx (by omega);rw[ha]at hm;have:=(cJ h hv).2.2.2.2 x (iK hx hm);omega
 obtain⟨a,b,_⟩:=cJ h hu;obtain⟨c,e⟩:=up (bE aA u 0).toNat u hu (by omega);have:=f (D.getD u 0).toNat u hu (by omega);omega
theorem aKl {α:Type}{p:α→Bool}{d x:α}: ∀ {l:List α},x∈l→p x=true→ ∃j,j<l.length∧l[j]? =some ((l.find? p).getD d)∧p ((l.find? p).getD d)=true∧ ∀i y,i<j→l[i]? =some y→p y=false:=by
 intro l;induction l with
 |nil=>intro h;simp at h
 |cons a l ih=>
  intro hx hp;by_cases ha:p a=true
  ·refine⟨0,by simp,by simp[ha],by simp[ha],fun i y hi=>by omega⟩
  have b:p a=false:=by simpa using ha
  have c:x∈l:=by
   rcases aTj.1 hx with e|e
   ·subst e;exact absurd hp ha
   exact e
  obtain⟨j,h1,h2,h3,h4⟩:=ih c hp;have e:((a::l).find? p).getD d=(l.find? p).getD d:=by rw[List.find?_cons_of_neg (by simp[b])]
  refine⟨j+1,by simp;omega,by rw[e];simpa using h2,by rw[e];exact h3,?_⟩;intro i y hi hy;cases i with
  |zero=>simp at hy;subst hy;exact b
  |succ i=>exact h4 i y (by omega) (by simpa using hy)
theorem aK9 {aA:Int}{n:Nat}(h:(aA,n)∈kN){u:Nat}(hu:u<n)(h0:u≠0):
  ∃j,j<(aT aA n u).length∧(aT aA n u)[j]? =some (nE aA n u)∧ ∀i v,i<j→(aT aA n u)[i]? =some v→bE aA v 0≠bE aA u 0-1:=by
 obtain⟨a,b,c⟩:=(cJ h hu).2.2.2.1 h0;obtain⟨j,h1,h2,_,h4⟩:=aKl (p:=fun(v:Nat)=>decide (bE aA v 0=bE aA u 0-1)) (d:=0) b (by simpa using c);exact⟨j,h1,h2,fun i v hi hv=>by simpa using h4 i v hi hv⟩
theorem oM {aA:Int}{n:Nat}(h:(aA,n)∈kN): ∀(f u:Nat),u<n→bE aA u 0≤f→((dO aA n f u).length:Int)=bE aA u 0+1:=by
 intro f;induction f with
 |zero=>intro u hu hf;have:=(cJ h hu).1;simp[dO];omega
 |succ f ih=>
  intro u hu hf;unfold dO;by_cases h0:u=0
  ·rw[if_pos h0];have:=(cJ h hu).2.2.1.2 h0;simp;omega
  rw[if_neg h0];obtain⟨a,b,c⟩:=(cJ h hu).2.2.2.1 h0;have:=ih _ a (by omega);simp;omega
theorem vY (aA:Int)(n f u:Nat):(dO aA n f u)[0]? =some u:=by
 cases f with
 |zero=>simp[dO]
 |succ f=>unfold dO;split<;>simp
theorem xH {aA:Int}{n:Nat}(h:(aA,n)∈kN): ∀(f u k x y:Nat),u<n→(dO aA n f u)[k]? =some x→(dO aA n f u)[k+1]? =some y→y<n∧y∈aT aA n x:=by
 intro f;induction f with
 |zero=>intro u k x y hu hx hy;simp[dO]at hy
 |succ f ih=>
  intro u k x y hu hx hy;unfold dO at hx hy;by_cases h0:u=0
  ·rw[if_pos h0]at hy;simp at hy
  rw[if_neg h0]at hx hy;obtain⟨a,b,c⟩:=(cJ h hu).2.2.2.1 h0;cases k with
  |zero=>simp at hx hy;have:=vY aA n f (nE aA n u);rw[hy]at this;injection this with e;subst hx e;exact⟨a,b⟩
  |succ k=>exact ih _ k x y a (by simpa using hx) (by simpa using hy)
theorem aK5 {aA:Int}{n:Nat}(h:(aA,n)∈kN): ∀(f u x:Nat),u<n→x∈dO aA n f u→x<n:=by
 intro f;induction f with
 |zero=>intro u x hu hx;simp[dO]at hx;omega
 |succ f ih=>
  intro u x hu hx;unfold dO at hx;by_cases h0:u=0
  ·rw[if_pos h0]at hx;simp at hx;omega
  rw[if_neg h0]at hx;obtain⟨a,b,c⟩:=(cJ h hu).2.2.2.1 h0;rcases aTj.1 hx with e|e
  ·omega
  exact ih _ x a e
section
open Go.RowKit Go.Proofs.Tryz
theorem aHx (aA:Int)(n u:Nat):tB aA n (-1) u=aT aA n u:=by unfold tB;rw[List.filter_eq_self];intro v hv;first|(simp;done)|(simp;omega)
theorem aNk (aA aB:Int)(p:OA)(n g u:Nat)(R:Int)(w:World)(hg:Hid ((aA,n)∈kN))(bw:4≤n)(hn:n≤12)(hu:u<n)(hR:Hid (R=bE aA u 0))(bu:0≤R)
  (HP:xC 186 #[aH aA aB p n g,u,()] w fun w' e w''=>e= .returned (I R)∧Ext w' w'')
  (HF:xC 232 #[aH aA aB p n g,(),(-1:Int)] w fun w' e w''=> ∃D,(D.length=n∧ ∀v,v<n→D.getD v 0=bE aA v 0)∧bY D w' e w'')
  (HC:Hid (∀(k:Nat),k<n→ ∀w',Ext w w'→U 233 #[aH aA aB p n g,k] w' (bY (bN (aT aA n k)) w'))):
  U 212 #[aH aA aB p n g,u,(),(-1:Int)] w (bY (bN (dO aA n 12 u)) w):=by
 have a1:(0:Int)≤(u:Int):=by omega
 have a2:(u:Int)<(n:Int):=by omega
 have a3:((-1:Int)==(u:Int))=false:=by first|(simp;done)|(simp;omega)
 have a4:decide (R<0)=false:=by first|(simp;done)|(simp;omega)
 go_enter func212,ntmps212;go_wp2_with fail;refine Ω (HP _ (by exact .alloc (.alloc (.refl _) _) _)) fun w1 ah=>?_
 have B1:=xQ (((Blk.new w TH3 #[aA,aB,.slice p n g]).alloc (.cells #[] TI)).ext ah);have ho:((w.alloc (.cells #[aA,aB,.slice p n g] TH3)).alloc (.cells #[] TI)).ownsRow (w.heap.size+1) TI 1 (.slice (some ⟨(w.alloc (.cells #[aA,aB,.slice p n g] TH3)).heap.size,0,none⟩) 0 0) 0 []:=aUc _ #[] 0 (by simp) (by simp[maxLen]) rfl;have O1:=xQ (aP ho ah);have X1:Ext w w1:=(((Ext.refl _).alloc _).alloc _).trans ah;have s1:w.heap.size+1<w1.heap.size:=by have:=ah.sz;simp at this;omega
 clear ho ah;obtain⟨b0,b1,b2⟩:=B1.out.cells3;have n1:IntKind.i64.wrap ((n:Int)-1)=(n:Int)-1:=aT5 _ (by omega);have t1:decide ((-1:Int)≤ -1∧(-1:Int)≤(n:Int)-1)=true:=by first|(simp;done)|(simp;omega)
 have HI:Hid (∀w,U 43 #[(-1:Int),(-1:Int),((n:Int)-1:Int)] w fun e w'=>e= .returned (.bool true)∧w=w'):=fun w=>by have:=vB (-1) (-1) ((n:Int)-1) w;rwa[t1]at this
 clear t1;go_wp2_with fail;refine(HI _).mono ?_;rintro e w2 ⟨rfl,rfl⟩;go_wp2_with fail;clear b0 b1 b2;refine(HF _ (by exact X1)).mono ?_;rintro e w2 ⟨D,⟨au,a8⟩,q2,c2,rfl,o2,an⟩;rw[au]at o2⊢;have HD:=xQ au;have HV:=xQ a8;have X2:=xQ (X1.trans an);have O2:=xQ (aP O1 an);have ar:=xQ (show w2.ownsRow (w.heap.size+1) TI 1 (.slice (some ⟨w.heap.size+1,0,none⟩) 0 0) 0 (ivs []) by simpa using O2.out);have B2:=xQ (B1.out.ext an);clear au a8 an O1 X1;have s2:=B2.out.lt;obtain⟨gF,rfl,bq,br⟩:=fP o2 (by omega);have F2:=xQ (bD o2 (Nat.le_of_lt s1));clear o2 B1;have dU:D[u]? =some R:=by have:=(dW (D:=D) (v:=u) (by rw[HD.out];exact hu)).1;rw[this,HV u hu,hR.out]
 have cU:w2.cell? ⟨gF,u,none⟩=some (I R):=by have:=F2.out.cellAt u (by omega);rw[this];simp[ivs,dU]
 clear dU;obtain⟨wA,bm⟩: ∃wA:World,wA=w2:=⟨_,rfl⟩
 have bj:w.heap.size+1≤w2.heap.size:=s2;go_wp2_with (at_builtin;go_loud (refine iR rfl _ _ rfl (w.heap.size+1) _ _ [] rfl (ar.out.alloc _) _ _ (u:Int) _ rfl (by simp) (by omega) (aTb bj (by simp)) ?_;intro p' a w3 c ad m;have r:(Value.slice p' (0+1) a).ownBlock=(Value.slice (some ⟨w.heap.size+1,0,none⟩) 0 0).ownBlock∨(Value.slice p' (0+1) a).ownBlock=some (w2.alloc (.cells #[u] TI)).heap.size:=m;have b:World.grownBy _ w3 (Value.slice (some ⟨w.heap.size+1,0,none⟩) 0 0).ownBlock:=ad;have X3:=xQ (Ext.own (X2.out.alloc _) (ar.out.alloc _) b (by omega));have B3:=xQ ((B2.out.alloc _).grown b (by first|(simp[Value.ownBlock];done)|(simp[Value.ownBlock];omega)));have F3:=xQ ((F2.out.alloc _).kept b (.inr (by first|(simp[Value.ownBlock];done)|(simp[Value.ownBlock];omega))));have O3:=xQ c;have z3:=b.size;have A3:=xQ r;clear c ad r b m));have a7:Hid ((Value.slice p' (0+1) a).ownBlock≠some gF):=by
  show _≠_;rcases A3.out with h|h
  ·rw[h];simp[Value.ownBlock];(try omega)
  rw[h];simp;omega
 clear A3 X2 B2 F2 O2 ar bm wA z3 cU;have aw:=xQ (cJ hg.out hu);go_wp2;go_loopw [1,9] (fun v o wr=> ∃(x f:Nat) (pre:List Nat) (q:OA) (l lc:Nat),v=I x∧x<n∧bE aA x 0≤f∧pre++dO aA n f x=dO aA n 12 u∧o= .slice q l lc∧l=pre.length+1∧wr.ownsRow (w.heap.size+1) TI 1 (.slice q l lc) l (ivs (bN (pre++ [x])))∧wr.ownsRow (w.heap.size+1) TI 1 (.slice (some ⟨gF,0,none⟩) n c2) n (ivs D)∧(Value.slice q l lc).ownBlock≠some gF∧Ext w wr∧Blk wr w TH3 #[aA,aB,.slice p n g]∧w3.heap.size≤wr.heap.size) (fun v _ _=>(bE aA (intOf v) 0).toNat)
 case atStart=>exact⟨u,12,[],p',1,a,rfl,hu,by have:=aw.out.2.1;omega,rfl,rfl,rfl,by simpa[bN]using O3.out,F3.out,a7.out,X3.out,B3.out,aT2 _⟩
 case round=>
  clear O3 F3 a7 X3 B3;obtain⟨x,f,pre,q,l,lc,rfl,hx,hf,ag,rfl,hl,hO,hF,bd,al,hB,bx⟩:=hrel;have aq:=xQ hO;have a0:=xQ hF;have a6:=xQ bd;have HB:=xQ hB;have HW:=xQ ag;have ap:=xQ (cJ hg.out hx);have az:=xQ hf;have bo:l≤12:=by have h1:=congrArg List.length ag;have h2:=oM hg.out f x hx hf;have h3:=oM hg.out 12 u hu (by have:=aw.out.2.1;omega);have h4:=aw.out.2.1;have h5:=ap.out.1;rw[aTa]at h1;omega
  have bz:=HB.out.lt;have a5:=xQ hl;clear hO hF bd hB ag hf hl;by_cases h0:x=0
  ·have t0:((x:Int)!=0)=false:=by simp[h0]
   have ao:Hid (pre++ [x]=dO aA n 12 u):=by show _=_;rw[←HW.out];subst h0;cases f<;>simp[dO]
   clear h0;go_wp2;go_ret;exact eV (by rw[←ao.out];have:=a5.out;simp[bN];omega) (by rw[←ao.out];exact bD aq (Nat.le_succ _)) al
  have t0:((x:Int)!=0)=true:=by simp[h0]
  obtain⟨J,bi,am,av⟩:=aK9 hg.out hx h0;obtain⟨e1,e2,e3⟩:=ap.out.2.2.2.1 h0;have bn:=xQ h0;obtain⟨y,hy⟩: ∃y,y=nE aA n x:=⟨_,rfl⟩
  rw[←hy]at am e1 e2 e3;have HY:=xQ hy;clear hy h0;obtain⟨nb,ae⟩: ∃nb,nb=aT aA n x:=⟨_,rfl⟩
  rw[←ae]at bi am av;have ay:Hid (∀w',Ext w w'→U 233 #[aH aA aB p n g,x] w' (bY (bN nb) w')):=by rw[ae];exact HC x hx
  have bg:=xQ ae;have bk:nb.length≤12:=by rw[ae];exact aTb (aUb _ _) (by simp;omega)
  have a9:=xQ am;have ba:=xQ av;have ak:=xQ e3;clear ae am av e2 e3;have bc:(bN nb).length=nb.length:=by simp[bN]
  obtain⟨b0,b1,b2⟩:=HB.out.cells3;go_wp2_with fail;clear b0 b1 b2;refine(ay _ al).mono ?_;rintro e w5 ⟨q5,c5,rfl,o5,ai⟩;rw[bc]at o5⊢;obtain⟨gN,rfl,bs,bt⟩:=fP o5 (by omega);have O5:=xQ (aP aq ai);have F5:=xQ (aP a0 ai);have B5:=xQ (HB.out.ext ai);have X5:=xQ (al.trans ai);have N5:=xQ o5;clear aq a0 HB al o5 ai ay;go_wp2;go_loopw [12] (fun i wz=> ∃j:Nat,j≤J∧i=I j∧Ext w5 wz) (fun i _=>J-(intOf i).toNat)
  case atStart=>exact⟨0,aT8 _,rfl,Ext.refl _⟩
  case round=>
   obtain⟨j,hj,rfl,hZ⟩:=hrel;obtain⟨v,hv⟩: ∃v,nb[j]? =some v:=⟨_,aT3 (by omega)⟩
   have af:v<n:=(cE.1 (by rw[←bg.out];exact aT4 hv:v∈aT aA n x)).1;have aj:=xQ hv;have aa:=(dW (D:=D) (v:=v) (by rw[HD.out];exact af)).1;have ab:=(dW (D:=D) (v:=x) (by rw[HD.out];exact hx)).1;rw[HV v af]at aa;rw[HV x hx]at ab;obtain⟨dv,s⟩: ∃d,d=bE aA v 0:=⟨_,rfl⟩
   obtain⟨dx,z⟩: ∃d,d=bE aA x 0:=⟨_,rfl⟩
   have gv:=cJ hg.out af;have gx:=ap.out;rw[←s]at aa gv;rw[←z]at ab gx;have m1:(0:Int)≤(j:Int):=by omega
   have m2:(j:Int)<(nb.length:Int):=by omega
   have m3:(0:Int)≤(v:Int):=by omega
   have m4:(v:Int)<(n:Int):=by omega
   have m5:(0:Int)≤(x:Int):=by omega
   have m6:(x:Int)<(n:Int):=by omega
   have m7:((v:Int)== -1)=false:=by first|(simp;done)|(simp;omega)
   have w7:IntKind.i64.wrap (dx-1)=dx-1:=aT5 _ (by omega);have FZ:=xQ (aP F5 hZ);have NZ:=xQ (aP N5 hZ);have cn:wr.cell? ⟨gN,j,none⟩=some (I v):=by have:=NZ.out.cellAt j (by omega);rw[this];simp[ivs,bN,aj.out]
   have cf:wr.cell? ⟨gF,v,none⟩=some (I dv):=by have:=FZ.out.cellAt v (by omega);rw[this];simp only[ivs,aTs,aa,aU4]
   have cx:wr.cell? ⟨gF,x,none⟩=some (I dx):=by have:=FZ.out.cellAt x (by omega);rw[this];simp only[ivs,aTs,ab,aU4]
   by_cases hjJ:j<J
   ·have be:(dv !=dx-1)=true:=by
     have:=ba.out j v hjJ aj.out;rw[←s,←z]at this;simpa using this
    clear aa ab s z gv gx;go_wp2;go_quiet (fail);go_wp2;go_roundw
    case rel=>exact⟨j+1,by omega,by go_num,by exact .drewN hZ _⟩
    case measure=>simp[intOf];omega
   obtain rfl:j=J:=by omega
   have bl:v=y:=by have h1:=aj.out;rw[a9.out]at h1;injection h1 with h1;exact h1.symm
   subst bl;have be:(dv !=dx-1)=false:=by have:=ak.out;rw[←s,←z]at this;simp[this]
   have bb:=xQ (show 1≤bE aA (x:Int) 0 by have h1:=(cJ hg.out af).1;have h2:=ak.out;omega);clear aa ab s gv;go_wp2;go_quiet (fail);generalize bf:World.drewN _ _=wq;have t:Ext w5 wq:=by rw[←bf];exact hZ.drewN _
   clear bf cn cf cx FZ NZ hZ;have OQ:=xQ (aP O5 t);have FQ:=xQ (aP F5 t);have NQ:=xQ (aP N5 t);have BQ:=xQ (B5.out.ext t);have XQ:=xQ (X5.out.trans t);have zq:=t.sz;clear O5 F5 N5 B5 X5 t;have cn:wq.cell? ⟨gN,j,none⟩=some (I v):=by have:=NQ.out.cellAt j (by omega);rw[this];simp[ivs,bN,aj.out]
   have lO:w.heap.size+1≤wq.heap.size:=by omega
   have bp:=(FQ.out.lt gF rfl).2;go_wp2_with (at_builtin;go_loud (refine iR rfl _ _ rfl (w.heap.size+1) (.slice q l lc) l (bN (pre++ [x])) rfl (OQ.out.alloc _) _ _ (v:Int) _ rfl (by simp) (by omega) (aTb lO (by simp)) ?_;intro p' a w9 c ad m;have r:(Value.slice p' (l+1) a).ownBlock=(Value.slice q l lc).ownBlock∨(Value.slice p' (l+1) a).ownBlock=some (wq.alloc (.cells #[v] TI)).heap.size:=m;have b:World.grownBy _ w9 (Value.slice q l lc).ownBlock:=ad;have X9:=xQ (Ext.own (XQ.out.alloc _) (OQ.out.alloc _) b (by omega));have B9:=xQ (vT OQ b BQ.out);have F9:=xQ ((FQ.out.alloc _).kept b (.inr (Ne.symm a6.out)));have O9:=xQ c;have z9:=b.size;have A9:=xQ r;clear c ad r b m));have bh:Hid ((Value.slice p' (l+1) a).ownBlock≠some gF):=by
    show _≠_;rcases A9.out with h|h
    ·rw[h];exact a6.out
    rw[h];simp;omega
   have b3:(wq:Nat)≤w9:=aTb (by simp) z9;clear z9 cn;have bv:0<f:=by have:=az.out;have:=bb.out;omega
   obtain⟨f',rfl⟩: ∃f',f=f'+1:=⟨f-1,by omega⟩
   have ax:Hid ((pre++ [x])++dO aA n f' v=dO aA n 12 u):=by
    show _=_;rw[←HW.out]
    conv=>rhs;rw[dO,if_neg bn.out,←HY.out]
    simp
   go_roundw
   case rel=>exact⟨v,f',pre++ [x],p',l+1,a,by go_num,af,by have:=ak.out;have:=az.out;omega,ax.out,rfl,by have:=a5.out;simp;omega,by have:=O9.out;simpa[bN]using this,F9.out,bh.out,X9.out,B9.out,by omega⟩
   case measure=>simp[intOf];have:=ak.out;have:=bb.out;omega
theorem aDc (aA aB:Int)(p:OA)(n a u:Nat)(xs:List Int)(w:World)(hS:Sl w p n a 1 (ivs xs))(b:aO aA aB xs=true)(hu:u<n):
  U 212 #[aH aA aB p n a,u,(),(-1:Int)] w (bY (bN (dO aA n 12 u)) w):=by
 have hl:=hS.ilen;obtain⟨g1,g2,g3,g4,g5,g6,g7,g8,g9⟩:=bQ b;have hg:=uD (n:=n) g1 g2 g3 g4 (by omega);refine aNk aA aB p n a u (bE aA u 0) w hg (by omega) (by omega) hu rfl (cJ hg hu).1 (fun w' hx=> ?_) (fun w' hx=> ?_) (fun k hk w' hx=> ?_)
 ·have:=aE0 aA aB u 0 p n a xs w' (hS.ext hx);rwa[dY,if_pos ⟨b,by omega,by omega⟩]at this
 ·refine(aM8 aA aB p n a 0 (-1) xs w' (hS.ext hx) b (by omega)).mono ?_;rintro e w2 ⟨D,hD,hr⟩;exact⟨D,⟨hD.len,fun v hv=>aD4 hg (aHx aA n) hD hv⟩,hr⟩
 have:=aIk aA aB k p n a xs w' (hS.ext hx) b (by omega) (by omega);rwa[nC]at this
end
section
open Go.RowKit
def cP:List Int→Nat→List Nat→List Int×List Sl2
 |xs,_,[]=>(xs,[])
 |xs,a,b::l=>if xs.getD b 0=0 then cP xs b l else((cP ((xs.set a (xs.getD b 0)).set b 0) b l).1,((b:Int),(a:Int))::(cP ((xs.set a (xs.getD b 0)).set b 0) b l).2)
theorem uB {xs:List Int}{a b:Nat}{l:List Nat}(h:xs.getD b 0=0):cP xs a (b::l)=cP xs b l:=by rw[cP,if_pos h]
theorem rF {xs:List Int}{a b:Nat}{l:List Nat}(h: ¬xs.getD b 0=0):cP xs a (b::l)=((cP ((xs.set a (xs.getD b 0)).set b 0) b l).1,((b:Int),(a:Int))::(cP ((xs.set a (xs.getD b 0)).set b 0) b l).2):=by rw[cP,if_neg h]
def pD (aA:Int)(n:Nat):Nat→List Nat→Prop
 |_,[]=>True
 |a,b::l=>b∈aT aA n a∧pD aA n b l
theorem dC {aA aB:Int}{xs:List Int}(h:aO aA aB xs=true):kU aA aB xs.length=true:=by unfold aO at h;rw[aTd]at h;exact h.1
theorem rG {aA aB:Int}{xs:List Int}(h:aO aA aB xs=true)(b:Nat):0≤xs.getD b 0:=by
 unfold aO at h;rw[aTd]at h;have h1:=((gC _ _).1 h.2).1;rw[aT9];cases hx:xs[b]? with
 |none=>simp
 |some x=>exact(h1 x (aT4 hx)).1
theorem aHc {aA aB:Int}{xs:List Int}{a b:Nat}(h:aO aA aB xs=true)(ha:a<xs.length)(h0:xs.getD a 0=0)(hb:b∈aT aA xs.length a):bL aA aB xs (b:Int) (a:Int)=decide (0<xs.getD b 0):=by
 obtain⟨h1,h2⟩:=cE.1 hb;have h3:dY aA aB xs (b:Int) (a:Int)=1:=by unfold dY;rw[if_pos ⟨h,⟨by omega,by omega⟩,by omega,by omega⟩,aB6];exact h2
 unfold bL;rw[h3];simp only[aUz,h0];simp
theorem aF1 {aA aB:Int}{xs:List Int}{a b:Nat}(h:aO aA aB xs=true)(ha:a<xs.length)(h0:xs.getD a 0=0)(hb:b∈aT aA xs.length a)(hx: ¬xs.getD b 0=0):bL aA aB xs (b:Int) (a:Int)=true∧bO aA aB xs (b:Int) (a:Int)=(xs.set a (xs.getD b 0)).set b 0:=by
 have h1:=aHc h ha h0 hb;have h2:decide (0<xs.getD b 0)=true:=by have:=rG h b;simp only[decide_eq_true_eq];omega
 rw[h2]at h1;exact⟨h1,by unfold bO;rw[if_pos h1];simp only[aUz]⟩
theorem aPn {aA aB:Int}{xs:List Int}{a b:Nat}(h:aO aA aB xs=true)(ha:a<xs.length)(h0:xs.getD a 0=0)(hb:b∈aT aA xs.length a)(hx:xs.getD b 0=0):bL aA aB xs (b:Int) (a:Int)=false:=by rw[aHc h ha h0 hb,hx];rfl
theorem wV {aA aB:Int}{xs:List Int}{a b:Nat}(h:aO aA aB xs=true)(ha:a<xs.length)(h0:xs.getD a 0=0)(hb:b∈aT aA xs.length a)(hx: ¬xs.getD b 0=0):
  aO aA aB ((xs.set a (xs.getD b 0)).set b 0)=true∧((xs.set a (xs.getD b 0)).set b 0).length=xs.length∧((xs.set a (xs.getD b 0)).set b 0).getD b 0=0:=by
 obtain⟨h1,h2⟩:=aF1 h ha h0 hb hx;refine⟨by rw[←h2];exact kC _ _ h,by simp,?_⟩;have hl:=(cE.1 hb).1;rw[aT9,aTt (by simp;exact hl)];rfl
theorem aBv {aA aB:Int}: ∀(l:List Nat) (xs:List Int) (a:Nat),aO aA aB xs=true→a<xs.length→xs.getD a 0=0→pD aA xs.length a l→
  bG aA aB xs (cP xs a l).2=((cP xs a l).1,(cP xs a l).2.length)∧aO aA aB (cP xs a l).1=true∧(cP xs a l).1.length=xs.length∧(cP xs a l).2.length≤l.length∧(cP xs a l).1.getD ((a::l).getLast (by simp)) 0=0:=by
 intro l;induction l with
 |nil=>intro xs a h ha h0 _;exact⟨rfl,h,rfl,aT2 _,by simpa[cP]using h0⟩
 |cons b l ih=>
  intro xs a h ha h0 hs;obtain⟨hb,d⟩:=hs;have c:=(cE.1 hb).1;by_cases hx:xs.getD b 0=0
  ·rw[uB hx];obtain⟨i1,i2,i3,i4,i5⟩:=ih xs b h c hx d;exact⟨i1,i2,i3,by simp;omega,by simpa using i5⟩
  obtain⟨n1,n2,n3⟩:=wV h ha h0 hb hx;obtain⟨d1,d2⟩:=aF1 h ha h0 hb hx;obtain⟨i1,i2,i3,i4,i5⟩:=ih _ b n1 (by rw[n2];exact c) n3 (by rw[n2];exact d);rw[rF hx];refine⟨?_,i2,by rw[i3,n2],by simp only[aU1];omega,by simpa using i5⟩;dsimp only;rw[fE d1,d2,i1];rfl
theorem vX {aA:Int}{n:Nat}(h:(aA,n)∈kN): ∀(f u:Nat),u<n→pD aA n u (dO aA n f u).tail:=by
 intro f;induction f with
 |zero=>intro u _;exact trivial
 |succ f ih=>
  intro u hu;unfold dO;by_cases h0:u=0
  ·rw[if_pos h0];exact trivial
  rw[if_neg h0];obtain⟨h1,h2,_⟩:=(cJ h hu).2.2.2.1 h0;have:=ih (nE aA n u) h1;have hh:=vY aA n f (nE aA n u);simp only[List.tail_cons];cases hw:dO aA n f (nE aA n u)with
  |nil=>rw[hw]at hh;simp at hh
  |cons x l=>rw[hw]at hh this;simp at hh;subst hh;exact⟨h2,this⟩
theorem yZ (aA:Int)(n f u:Nat):dO aA n f u=u::(dO aA n f u).tail:=by
 have hh:=vY aA n f u;cases hw:dO aA n f u with
 |nil=>rw[hw]at hh;simp at hh
 |cons x l=>rw[hw]at hh;simp at hh;subst hh;rfl
theorem aNd {aA:Int}{n:Nat}(h:(aA,n)∈kN): ∀(f u:Nat),u<n→bE aA u 0≤f→(dO aA n f u).getLast? =some 0:=by
 intro f;induction f with
 |zero=>intro u hu ha;have g:=cJ h hu;have:u=0:=g.2.2.1.1 (by have:=g.1;simp at ha;omega);subst this;rfl
 |succ f ih=>
  intro u hu ha;unfold dO;by_cases h0:u=0
  ·rw[if_pos h0];simp[h0]
  rw[if_neg h0];obtain⟨h1,h2,h3⟩:=(cJ h hu).2.2.2.1 h0;have:=ih (nE aA n u) h1 (by rw[h3];simp at ha;omega);rw[List.getLast?_cons,this];rfl
def bS (xs:List Int):List Nat:=(List.range xs.length).filter (dM xs)
theorem aAs (xs:List Int):tN xs=(bS xs).map (fun(k:Nat)=>(k:Int)):=by
 unfold tN bS;generalize xs.length=k;induction k with
 |zero=>rfl
 |succ k ih=>rw[aUl,aU5,aTu,iD,ih];congr 1;cases h:dM xs k<;>simp[h]
theorem lU {xs:List Int}{u:Nat}(h:u∈bS xs):u<xs.length∧xs.getD u 0=0:=by unfold bS at h;rw[aU0]at h;refine⟨by simpa using h.1,?_⟩;have h2:=h.2;unfold dM at h2;rw[aT9,eq_of_beq h2];rfl
def pL (aA:Int)(best:Option Nat)(u:Nat):Option Nat:=
 match best with
 |none=>some u
 |some v=>if bE aA u 0<bE aA v 0 then some u else some v
def dR (aA:Int)(l:List Nat):Option Nat:=l.foldl (pL aA) none
theorem aE5 (aA:Int)(l:List Nat)(u:Nat):dR aA (l++ [u])=pL aA (dR aA l) u:=by simp[dR]
theorem mC (aA:Int)(l:List Nat):(dR aA l=none↔l= [])∧ ∀u,dR aA l=some u→u∈l:=by
 suffices h: ∀(l pre:List Nat) (b:Option Nat),(b=none↔pre= [])→(∀u,b=some u→u∈pre)→((l.foldl (pL aA) b=none↔pre++l= [])∧ ∀u,l.foldl (pL aA) b=some u→u∈pre++l)from by simpa[dR]using h l [] none (by simp) (by simp)
 intro l;induction l with
 |nil=>intro pre b h1 h2;simpa using⟨h1,h2⟩
 |cons x l ih=>
  intro pre b h1 h2
  have:=ih (pre++ [x]) (pL aA b x) (by
   unfold pL;cases b with
   |none=>simp
   |some v=>simp;split<;>simp) (by
   intro u hu;unfold pL at hu;cases b with
   |none=>simp at hu;simp[hu]
   |some v=>
    simp only at hu;split at hu
    ·injection hu with hu;simp[hu]
    ·injection hu with hu;subst hu;exact aU7 _ (h2 v rfl))
  simpa using this
def jM (aA:Int)(xs:List Int):Option (List Int×List Sl2):=(dR aA (bS xs)).map (fun u=>cP xs u (dO aA xs.length 12 u).tail)
def nR (aA aB:Int)(xs:List Int)(id:Int):Option (List Int×Nat):=
 match jM aA xs with
 |none=>none
 |some r=>if(dH aA aB r.1 id).2 then some ((dH aA aB r.1 id).1,r.2.length)else none
theorem lS {aA aB:Int}{xs:List Int}(h:aO aA aB xs=true):(aA,xs.length)∈kN:=by obtain⟨h1,h2,h3,h4,h5,h6,h7⟩:=cO (dC h);exact uD h1 h2 h3 h4 h7
theorem rP {aA aB:Int}{xs:List Int}(h:aO aA aB xs=true){r:List Int×List Sl2}(hr:jM aA xs=some r):
  bG aA aB xs r.2=(r.1,r.2.length)∧aO aA aB r.1=true∧r.1.length=xs.length∧r.2.length≤5∧r.1.getD 0 0=0:=by
 unfold jM at hr;cases hn:dR aA (bS xs)with
 |none=>rw[hn]at hr;simp at hr
 |some u=>
  rw[hn]at hr;simp at hr;subst hr;obtain⟨hu,h0⟩:=lU ((mC aA _).2 u hn);have hg:=lS h;have g:=cJ hg hu;obtain⟨f1,f2,f3,f4,f5⟩:=aBv _ xs u h hu h0 (vX hg 12 u hu);have hl:=oM hg 12 u hu (by have:=g.2.1;omega);have hw:=aNd hg 12 u hu (by have:=g.2.1;omega);refine⟨f1,f2,f3,?_,?_⟩
  ·have:=g.2.1;rw[List.length_tail]at f4;omega
  have hc:=yZ aA xs.length 12 u;rw[hc,List.getLast?_eq_some_getLast (by simp)]at hw;injection hw with hw;rw[hw]at f5;exact f5
end
section
open Go.RowKit Go.Proofs.Tryz
theorem aL5 (aA aB:Int)(p:OA)(n c:Nat)(b a m c2:Nat)(ws:List Nat)(w:World)(ai:4≤n)(hn:n≤12)(ah:0<m)(hm:m≤12)(j:Hid (ws.length=m))(hb:b<w.heap.size)
  (HS:Hid (∀(k x:Nat),ws[k]? =some x→w.cell? ⟨b,a+k,none⟩=some (I x))) (x0:Nat) (c0:w.cell? ⟨b,a,none⟩=some (I x0))
  (HA:Hid (∀(k x y:Nat),ws[k]? =some x→ws[k+1]? =some y→ ∀w',Ext w w'→U 186 #[aH aA aB p n c,x,y] w' (Z (I 1) w')))
  (HV:xB 41 #[aH aA aB p n c] w true)
  (HI:Hid (∀w,U 43 #[x0,(),((n:Int)-1:Int)] w fun e w'=>e= .returned (.bool true)∧w=w')):
  U 213 #[aH aA aB p n c,.slice (some ⟨b,a,none⟩) m c2] w (Z (.bool true) w):=by
 go_enter func213,ntmps213;go_wp2;go_loopw [5] (fun i wr=> ∃k:Nat,1≤k∧k≤m∧i=I k∧Ext w wr∧Blk wr w TH3 #[aA,aB,.slice p n c]) (fun i _=>m-(intOf i).toNat)
 case atStart=>exact⟨1,aT2 _,by omega,rfl,by exact .alloc (.refl _) _,Blk.new _ _ _⟩
 case round=>
  obtain⟨k,ag,hk,rfl,hE,hB⟩:=hrel;have HB:=xQ hB;clear hB;have o:b<wr:=aT1 hb hE.sz;by_cases hlt:k<m
  ·obtain⟨x,hx⟩: ∃x,ws[k-1]? =some x:=⟨_,aT3 (by rw[j.out];omega)⟩
   obtain⟨y,hy⟩: ∃y,ws[k]? =some y:=⟨_,aT3 (by rw[j.out];omega)⟩
   have HK:=xQ (HA (k-1) x y hx (by rw[show k-1+1=k by omega];exact hy));have ca:wr.cell? ⟨b,a+(k-1),none⟩=some (I x):=(hE.cells.1 _ _ hb).trans (HS (k-1) x hx);have cb:wr.cell? ⟨b,a+k,none⟩=some (I y):=(hE.cells.1 _ _ hb).trans (HS k y hy);clear hx hy c0;have i1:(0:Int)≤(k:Int):=by omega
   have i2:(k:Int)<(m:Int):=by omega
   have i3:(k:Int)-1<(m:Int):=by omega
   have i4:((k:Int)-1).toNat=k-1:=by omega
   have i5:(1:Int)≤(k:Int):=by omega
   go_wp2;refine rL (gl [gEq (.agg #[aA,aB,.slice p n c]),gEq (.slice (some ⟨b,a,none⟩) m c2),gEq (k:Int),gEq ((k:Int)-1:Int),gEq (.pointer (some ⟨b,a+(k-1),none⟩)),gEq (x:Int),gEq (.slice (some ⟨b,a,none⟩) m c2),gEq (k:Int),gEq (.pointer (some ⟨b,a+k,none⟩)),gEq (y:Int),gEq (I 1),gEq (.bool false)]) 12 12 [(0,some 12),(1,some 13),(2,some 14),(3,some 15),(4,some 16),(5,some 17),(6,some 18),(7,some 19),(8,some 20),(9,some 21),(10,some 22),(11,some 23)] ?steps ?fin
   case steps=>
    refine sC [] rfl (fun wi hx=> ?_) ?_
    ·intro K hK;have hX:=hx.of_drew;obtain⟨d,u,v⟩:=(HB.out.ext hX).tri;go_simp;exact hK _ _ ⟨.agg #[aA,aB,.slice p n c],rfl,rfl,Ext.refl _⟩
    refine sS0 [] (sS0 [] ?_);refine sC [(2,some 14)] rfl (fun wi hx=> ?_) ?_
    ·intro v2 h2 K hK;obtain rfl:=h2;have aj:IntKind.i64.wrap ((k:Int)-1)=(k:Int)-1:=aT5 _ (by omega);go_simp;exact hK _ _ ⟨I ((k:Int)-1),rfl,rfl,Ext.refl _⟩
    refine sS2 [(1,some 13),(3,some 15)] ?_;refine sC [(4,some 16)] rfl (fun wi hx=> ?_) ?_
    ·intro v4 h4 K hK;obtain rfl:=h4;have hX:=hx.of_drew;have d:wi.cell? ⟨b,a+(k-1),none⟩=some (I x):=(hX.cells.1 _ _ o).trans ca;go_simp;exact hK _ _ ⟨I x,rfl,rfl,Ext.refl _⟩
    refine sS0 [] (sS0 [] (sS2 [(6,some 18),(7,some 19)] ?_));refine sC [(8,some 20)] rfl (fun wi hx=> ?_) ?_
    ·intro v8 h8 K hK;obtain rfl:=h8;have hX:=hx.of_drew;have d:wi.cell? ⟨b,a+k,none⟩=some (I y):=(hX.cells.1 _ _ o).trans cb;go_simp;exact hK _ _ ⟨I y,rfl,rfl,Ext.refl _⟩
    refine sC [(0,some 12),(5,some 17),(9,some 21)] rfl (fun wi hx=> ?_) ?_
    ·intro v0 h0 v5 h5 v9 h9 K hK;subst h0 h5 h9;go_wp2_with fail;refine Ω (HK _ (hE.trans hx.of_drew)) fun w5 q=>?_
     go_simp;exact hK _ _ ⟨I 1,rfl,rfl,q⟩
    exact sS1 [(10,some 22)] StepsL.nil
   case fin=>
    intro wi hx v0 h0 v1 h1 v2 h2 v3 h3 v4 h4 v5 h5 v6 h6 v7 h7 v8 h8 v9 h9 s f t g;subst h0 h1 h2 h3 h4 h5 h6 h7 h8 h9;obtain rfl:=f;obtain rfl:=g;refine wpAny_done (by kernel_rfl) ?_ _;go_frame;have h:=hx.of_drew;go_wp2;go_roundw
    case rel=>exact⟨k+1,by omega,by omega,by go_num,hE.trans h,HB.out.ext h⟩
    case measure=>simp[intOf];omega
  obtain rfl:m=k:=by omega
  have r:=(hE.cells.1 _ _ hb).trans c0;clear c0;have c0:=r;clear r;have i2:(0:Int)<(m:Int):=by omega
  have i6:IntKind.i64.wrap ((n:Int)-1)=(n:Int)-1:=aT5 _ (by omega);go_wp2;refine rL (gl [gEq (.agg #[aA,aB,.slice p n c]),gEq (.bool true),gEq (.bool true),gEq (.slice (some ⟨b,a,none⟩) m c2),gEq (m:Int),gEq (.bool true),gEq (.bool true),gEq (.bool true),gEq (.slice (some ⟨b,a,none⟩) m c2),gEq (.pointer (some ⟨b,a,none⟩)),gEq (x0:Int),gEq (.pointer (some ⟨w,2,none⟩)),gEq (.slice p n c),gEq (n:Int),gEq ((n:Int)-1:Int),gEq (.bool true),gEq (.bool true),gEq (.bool true)]) 18 18 [(0,some 24),(1,some 25),(2,some 26),(3,some 27),(4,some 28),(5,some 29),(6,some 30),(7,some 31),(8,some 32),(9,some 33),(10,some 34),(11,some 35),(12,some 36),(13,some 37),(14,some 38),(15,some 39),(16,some 40),(17,some 4)] ?steps ?fin
  case steps=>
   refine sC [] rfl (fun wi hx=> ?_) ?_
   ·intro K hK;have hX:=hx.of_drew;obtain⟨d,u,v⟩:=(HB.out.ext hX).tri;go_simp;exact hK _ _ ⟨.agg #[aA,aB,.slice p n c],rfl,rfl,Ext.refl _⟩
   refine sC [(0,some 24)] rfl (fun wi hx=> ?_) ?_
   ·intro v0 h0 K hK;obtain rfl:=h0;go_wp2_with fail;refine Ω (HV _ (hE.trans hx.of_drew)) fun w5 q=>?_
    go_simp;exact hK _ _ ⟨.bool true,rfl,rfl,q⟩
   refine sS1 [(1,some 25)] (sS1 [(2,some 26)] (sS2 [(2,some 26),(3,some 27)] (sS2 [(2,some 26),(4,some 28)] (sS2 [(2,some 26),(5,some 29)] (sS1 [(6,some 30)] (sS1 [(7,some 31)] (sS2 [(7,some 31),(8,some 32)] ?_)))))));refine sC [(7,some 31),(9,some 33)] rfl (fun wi hx=> ?_) ?_
   ·intro v7 h7 v9 h9 K hK;subst h7 h9;have hX:=hx.of_drew;have d:wi.cell? ⟨b,a,none⟩=some (I x0):=(hX.cells.1 _ _ o).trans c0;go_simp;exact hK _ _ ⟨I x0,rfl,rfl,Ext.refl _⟩
   refine sS1 [(7,some 31)] ?_;refine sC [(7,some 31),(11,some 35)] rfl (fun wi hx=> ?_) ?_
   ·intro v7 h7 t g K hK;obtain rfl:=h7;obtain rfl:=g;have hX:=hx.of_drew;have d:=(HB.out.ext hX).cl 2;go_simp;exact hK _ _ ⟨.slice p n c,rfl,rfl,Ext.refl _⟩
   refine sS2 [(7,some 31),(12,some 36)] (sS2 [(7,some 31),(13,some 37)] ?_);refine sC [(7,some 31),(10,some 34),(14,some 38)] rfl (fun wi hx=> ?_) ?_
   ·intro v7 h7 s f af l K hK;obtain rfl:=h7;obtain rfl:=f;obtain rfl:=l;go_wp2_with fail;refine(HI _).mono ?_;rintro e w5 ⟨rfl,rfl⟩;go_simp;exact hK _ _ ⟨.bool true,rfl,rfl,Ext.refl _⟩
   exact sS2 [(7,some 31),(15,some 39)] (sS1 [(16,some 40)] StepsL.nil)
  case fin=>intro wi hx v0 h0 v1 h1 v2 h2 v3 h3 v4 h4 v5 h5 v6 h6 v7 h7 v8 h8 v9 h9 s f t g ak z al aa af l am ab an ad ao ae;subst h0 h1 h2 h3 h4 h5 h6 h7 h8 h9;obtain rfl:=f;obtain rfl:=g;obtain rfl:=z;obtain rfl:=aa;obtain rfl:=l;obtain rfl:=ab;obtain rfl:=ad;obtain rfl:=ae;refine wpAny_done (by kernel_rfl) ?_ _;go_frame;have h:=hx.of_drew;go_wp2;go_ret;exact⟨rfl,hE.trans h⟩
end
end Go.Proofs.YtbgkcehffiogcabGreatDoor
