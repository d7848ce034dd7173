/-
  Texts of this proof, packed (@packed).
-/
import Derived.Lib.SlicesMore
import Derived.Test.YtbgkcehffiogcacGreatDoorZ24
namespace Go.Proofs.YtbgkcehffiogcacGreatDoor
open Go.RowKit
set_option linter.unusedSimpArgs false
set_option linter.unusedVariables false
set_option maxHeartbeats 8000000
set_option maxRecDepth 100000
section
open Go.Proofs.Tryz
theorem tG: ∀(l:List Sl2) (i:Nat) (s:Sl2),(l.set i s).flatMap aL=((l.flatMap aL).set (i*2) (I s.1)).set (i*2+1) (I s.2)
 | [],i,s=>by simp
 |x::l,0,s=>by simp[aL]
 |x::l,i+1,s=>by rw[aR0,aRl,aRl,tG l i s,show(i+1)*2=i*2+1+1 by omega];simp[aL]
theorem aKy (d:Array Sl2)(i j:Nat):(Sort.swp d i j).toList=(d.toList.set i d[j]!).set j d[i]! :=by simp[Sort.swp]
theorem aHt (l:List Sl2)(i:Nat)(s:Sl2)(h:l[i]? =some s):(l.flatMap aL)[i*2]? =some (I s.1)∧(l.flatMap aL)[i*2+1]? =some (I s.2):=by have h0:=eK aL 2 (fun _=>rfl) l i s h 0 (by omega);have h1:=eK aL 2 (fun _=>rfl) l i s h 1 (by omega);exact⟨h0,h1⟩
theorem aQ7 (g n c:Nat)(d:Array Sl2)(w0 w:World)(hn:n≤1000)(hd:Hid (d.size=n))(h0:Hid (Mem w0 w [aI w0 TSL 2 (some ⟨g,0,none⟩) n c (d.toList.flatMap aL)])):
  U 228 #[.slice (some ⟨g,0,none⟩) n c] w fun e w'=>e= .returned (.tuple #[])∧Mem w0 w' [aI w0 TSL 2 (some ⟨g,0,none⟩) n c (d.reverse.toList.flatMap aL)]:=by
 have ae:IntKind.i64.wrap ((n:Int)-1)=(n:Int)-1:=aQp _ (by omega);go_enter func228,ntmps228;go_wp2;go_loopw [2,3] (fun s2 s3 wr=> ∃(i jn:Nat) (jz:Int) (dk:Array Sl2),s2=I i∧s3=I jz∧i≤n∧ -1≤jz∧jz≤n∧((i:Int)<jz→jz=(jn:Int)∧jn<n)∧(¬(i:Int)<jz→ ¬i<jn)∧dk.size=n∧Sort.reverseLoop i jn dk=Sort.reverseLoop 0 (d.size-1) d∧Mem w0 wr [aI w0 TSL 2 (some ⟨g,0,none⟩) n c (dk.toList.flatMap aL)]) (fun a b _=>(Lib.intOf b-Lib.intOf a).toNat)
 case atStart=>exact⟨0,d.size-1,(n:Int)-1,d,rfl,rfl,aQt _,by omega,by omega,fun h=>⟨by rw[hd.out];omega,by rw[hd.out];omega⟩,fun h=>by rw[hd.out];omega,hd.out,rfl,h0.out⟩
 case round=>
  clear h0 ae;obtain⟨i,jn,jz,dk,rfl,rfl,af,ag,ah,h1,h2,r,t,hM⟩:=hrel;have HM:=hM;have j:=xQ t;have f:=xQ r;clear hM t r;by_cases hlt:(i:Int)<jz
  ·obtain⟨rfl,ad⟩:=h1 hlt;have ab:i<jn:=by omega
   obtain⟨⟨a0,a1⟩,ha⟩: ∃s,dk[i]! =s:=⟨_,rfl⟩
   obtain⟨⟨b0,b1⟩,hb⟩: ∃s,dk[jn]! =s:=⟨_,rfl⟩
   have p:dk.toList[i]? =some (a0,a1):=by rw[←ha];simp[f.out,show i<n by omega]
   have q:dk.toList[jn]? =some (b0,b1):=by rw[←hb];simp[f.out,ad]
   obtain⟨k,l⟩:=aHt _ _ _ p;obtain⟨m,o⟩:=aHt _ _ _ q;have x:wr.cell? ⟨g,i*2,none⟩=some (I a0):=((HM.ow 0).cellAt (i*2) (by omega)).trans k;have y:wr.cell? ⟨g,i*2+1,none⟩=some (I a1):=((HM.ow 0).cellAt (i*2+1) (by omega)).trans l;have z:wr.cell? ⟨g,jn*2,none⟩=some (I b0):=((HM.ow 0).cellAt (jn*2) (by omega)).trans m;have aa:wr.cell? ⟨g,jn*2+1,none⟩=some (I b1):=((HM.ow 0).cellAt (jn*2+1) (by omega)).trans o;have f0:wr.frozen? ⟨g,i*2,none⟩=false:=(HM.ow 0).frozenAt _;have f1:wr.frozen? ⟨g,i*2+1,none⟩=false:=(HM.ow 0).frozenAt _;have f2:wr.frozen? ⟨g,jn*2,none⟩=false:=(HM.ow 0).frozenAt _;have f3:wr.frozen? ⟨g,jn*2+1,none⟩=false:=(HM.ow 0).frozenAt _;have v:Hid ((Sort.swp dk i jn).toList.flatMap aL=((((dk.toList.flatMap aL).set (i*2) (I b0)).set (i*2+1) (I b1)).set (jn*2) (I a0)).set (jn*2+1) (I a1)):=by show _=_;rw[aKy,ha,hb,tG,tG]
   clear k l m o p q ha hb h1 h2
   have M2:=(show Mem w0 ((((wr.drew.setCell ⟨g,i*2,none⟩ (I b0)).setCell ⟨g,i*2+1,none⟩ (I b1)).setCell ⟨g,jn*2,none⟩ (I a0)).setCell ⟨g,jn*2+1,none⟩ (I a1)) [aI w0 TSL 2 (some ⟨g,0,none⟩) n c ((Sort.swp dk i jn).toList.flatMap aL)]from by
    rw[v.out]
    exact((((HM.adv (Ext.drew (Ext.refl _))).ostore (i:=0) rfl (i*2) (I b0)).ostore (i:=0) rfl (i*2+1) (I b1)).ostore (i:=0) rfl (jn*2) (I a0)).ostore (i:=0) rfl (jn*2+1) (I a1))
   clear HM v;have i1:(0:Int)≤(i:Int):=by omega
   have i2:(i:Int)<(n:Int):=by omega
   have i3:(0:Int)≤(jn:Int):=by omega
   have i4:(jn:Int)<(n:Int):=by omega
   have i5:IntKind.i64.wrap ((jn:Int)-1)=(jn:Int)-1:=aQp _ (by omega);go_wp2_with fail;go_region;clear x y z aa f0 f1 f2 f3;go_wp2;go_roundw
   case rel=>have h9:=j.out;rw[Sort.reverseLoop,if_pos ab]at h9;exact⟨i+1,jn-1,(jn:Int)-1,Sort.swp dk i jn,by go_num,rfl,by omega,by omega,by omega,fun h=>⟨by omega,by omega⟩,fun h=>by omega,by rw[Sort.size_swp];exact f.out,h9,M2⟩
   case measure=>simp[Lib.intOf];omega
  have u:=h2 hlt;have h9:=j.out;rw[Sort.reverseLoop,if_neg u,Lib.reverseLoop_reverse]at h9;rw[h9]at HM;clear j h1 h2 h9;go_wp2;go_end0;exact⟨rfl,by simpa using HM⟩
theorem aLz (g n c:Nat)(l:List Sl2)(w0 w:World)(hn:n≤1000)(hl:l.length=n)(h0:Mem w0 w [aI w0 TSL 2 (some ⟨g,0,none⟩) n c (l.flatMap aL)]):
  U 228 #[.slice (some ⟨g,0,none⟩) n c] w fun e w'=>e= .returned (.tuple #[])∧Mem w0 w' [aI w0 TSL 2 (some ⟨g,0,none⟩) n c (l.reverse.flatMap aL)]:=by
 have:=aQ7 g n c l.toArray w0 w hn (xQ (by simpa using hl)) (xQ (by simpa using h0));simpa using this
theorem aJ7 (a:OA)(c:Nat)(w:World):U 228 #[.slice a 0 c] w fun e w'=>e= .returned (.tuple #[])∧w=w':=by
 go_enter func228,ntmps228;go_wp2;go_loopw [2,3] (fun s2 s3 wr=>s2=I 0∧s3=I (-1)∧w=wr) (fun _ _ _=>0)
 case atStart=>exact⟨rfl,rfl,rfl⟩
 case round=>obtain⟨rfl,rfl,rfl⟩:=hrel;go_wp2;go_end0;exact⟨rfl,rfl⟩
def nW (xs:List Int):List Value:=xs.map (fun x=> .int .i32 x)
def aQ9:Value→Nat
 | .slice _ n _=>n
 |_=>0
structure Trail (n N d:Nat) (B:List Int) (code:Nat→Nat) (e:Nat→Nat×Nat):Prop where
 len:B.length=N
 lt: ∀j,j≤d→code j<N
 far: ∀j,j≤d→code j=code 0→j=0
 back: ∀j,j<d→B.getD (code (j+1)) 0=code j
 f: ∀j,j<d→(e j).1<n
 t: ∀j,j<d→(e j).2<n
 hf: ∀j,j<d→(code j%2 ^ n).testBit (e j).1=false
 ht: ∀j,j<d→(code j%2 ^ n).testBit (e j).2=true
 mv: ∀j,j<d→code (j+1)%2 ^ n=dA (code j%2 ^ n) (e j).1 (e j).2
def oG (e:Nat→Nat×Nat)(d k:Nat):List Sl2:=(List.range k).map (fun i=>jE (e (d-1-i)))
theorem aHf (e:Nat→Nat×Nat)(d k:Nat):oG e d (k+1)=oG e d k++ [jE (e (d-1-k))]:=by unfold oG;rw[aS7,aRp];rfl
theorem aKn (e:Nat→Nat×Nat)(d k:Nat):(oG e d k).length=k:=by simp[oG]
theorem aKm (e:Nat→Nat×Nat)(d:Nat):(oG e d d).reverse=(List.range d).map (fun i=>jE (e i)):=by
 apply List.ext_getElem (by simp[oG]);intro i h1 h2;have hi:i<d:=by simpa using h2
 simp only[oG,List.getElem_reverse,List.getElem_map,List.getElem_range,aRb,List.length_range];congr 2;omega
structure aQ3 (n j:Nat) (B:List Int) (code:Nat→Nat) (e:Nat→Nat×Nat) (A C1 C0 S1 S0 F T:Nat):Prop where
 a1:bits .and .i64 (C1:Int) (A:Int)=(S1:Int)
 a0:bits .and .i64 (C0:Int) (A:Int)=(S0:Int)
 n1:bits .andNot .i64 (S1:Int) (S0:Int)=((2 ^ F:Nat):Int)
 n0:bits .andNot .i64 (S0:Int) (S1:Int)=((2 ^ T:Nat):Int)
 f:F<12
 t:T<12
 w0:IntKind.i64.wrap (C0:Int)=(C0:Int)
 at1:B[C1]? =some (C0:Int)
theorem Trail.step {n N d:Nat}{B:List Int}{a:Nat→Nat}{e:Nat→Nat×Nat}(h:Trail n N d B a e)(hn:n≤12)(hN:N≤49152){j:Nat}(hj:j<d):
  aQ3 n j B a e (2 ^ n-1) (a (j+1)) (a j) (a (j+1)%2 ^ n) (a j%2 ^ n) (e j).1 (e j).2:=by
 have l1:=h.lt (j+1) (by omega);have l0:=h.lt j (by omega);have hf:=h.f j hj;have ht:=h.t j hj;have p0:2 ^ n≤2 ^ 12:=aQx (n:=2) (by omega) hn;have p1:2 ^ (e j).1≤2 ^ 11:=aQx (n:=2) (by omega) (by omega);have p2:2 ^ (e j).2≤2 ^ 11:=aQx (n:=2) (by omega) (by omega);have hp:=aT3 n;have m1:=Nat.mod_lt (a (j+1)) hp;have m0:=Nat.mod_lt (a j) hp;refine⟨aI7 _ n (by omega) hn,aI7 _ n (by omega) hn,?_,?_,by omega,by omega,aQp _ (by omega),?_⟩
 ·have hm:=h.mv j hj;rw[hm]at m1⊢;exact aN7 (h.hf j hj) (h.ht j hj) (by omega) (by omega) (by omega)
 ·have hm:=h.mv j hj;rw[hm]at m1⊢;exact aN6 (h.hf j hj) (h.ht j hj) (by omega) (by omega) (by omega)
 have:=h.back j hj;rw[aQs,aQo (by rw[h.len];exact l1)]at this;rw[aQo (by rw[h.len];exact l1)];exact congrArg some this
theorem aMe (n N d cB gB:Nat)(B:List Int)(a:Nat→Nat)(e:Nat→Nat×Nat)(w:World)(hn:n≤12)(hN:N≤49152)(hd:d≤60)(hT:Hid (Trail n N d B a e))(hS:Hid (Sl w (some ⟨gB,0,none⟩) N cB 1 (nW B)))(hE:Hid (BitTab w))(hb:gB<w.heap.size):
  U 221 #[.slice (some ⟨gB,0,none⟩) N cB,I ((a 0:Nat)),I ((a d:Nat)),n] w (iD ((List.range d).map (fun i=>jE (e i))) w):=by
 have hp:=aT3 n;have s:2 ^ n≤2 ^ 12:=aQx (n:=2) (by omega) hn;obtain⟨A,hA⟩: ∃A,A=2 ^ n-1:=⟨_,rfl⟩
 have b:=xQ (show∀j,j<d→_ from fun j hj=>hT.out.step hn hN hj);rw[←hA]at b;obtain⟨Q,hQ⟩: ∃Q:Nat,Q=2 ^ n:=⟨_,rfl⟩
 have ad:(2:Int) ^ n=(Q:Int):=by rw[hQ];simp
 have af:IntKind.i64.wrap (Q:Int)=(Q:Int):=aQp _ (by omega);have ae:IntKind.i64.wrap ((Q:Int)-1)=(A:Int):=by rw[aQp _ (by omega)];omega
 clear hA hQ hp s;obtain⟨s0,c⟩: ∃s0,s0=a 0:=⟨_,rfl⟩
 have f:=xQ c;rw[←c];clear c;go_enter func221,ntmps221;have M0:=(show Mem w w [aI w TSL 2 (none) (0) (0) ((oG e d 0).flatMap aL)]from(Mem.start w).ownNew (Ext.refl _) (aR9 _ _ TSL 2) (aQn _))
 go_wp2;go_loopw [2,10] (fun st v wr=> ∃(k:Nat) (q:OA) (lc:Nat),k≤d∧st=I ((a (d-k):Nat))∧v= .slice q k lc∧Mem w wr [aI w TSL 2 (q) (k) (lc) ((oG e d k).flatMap aL)]) (fun _ v _=>d-aQ9 v)
 case atStart=>exact⟨0,none,0,aQt _,rfl,rfl,M0⟩
 case round=>
  clear M0;obtain⟨k,q,lc,hk,rfl,rfl,hM⟩:=hrel;have HM:=hM;clear hM;by_cases hlt:k<d
  ·obtain⟨j,hj⟩: ∃j,j=d-1-k:=⟨_,rfl⟩
   have hB:=b j (by omega);have h:=hT.out.lt (j+1) (by omega);have x:a (j+1)≠s0:=by rw[f.out];intro e2;have:=hT.out.far (j+1) (by omega) e2;omega
   have m:=xQ (aHf e d k);rw[←hj]at m;have o:d-k=j+1:=by omega
   have p:=xQ (show d-(k+1)=j by omega);rw[o];generalize a (j+1)=C1 at*;have t:=xQ (show a (d-(k+1))=a j by rw[p.out]);generalize a j=C0 at*;generalize C1%2 ^ n=S1 at*;generalize C0%2 ^ n=S0 at*;have u:Hid (jE (e j)=(((e j).1:Int),((e j).2:Int))):=rfl;generalize (e j).1=F at*;generalize (e j).2=T at*;obtain⟨b1,b2,b3,b4,b5,b6,b7,b8⟩:=hB;have HF:=xQ (fun(w':World) (hx:Ext w w')=>zC F w' b5 (hE.out.ext hx));have HT:=xQ (fun(w':World) (hx:Ext w w')=>zC T w' b6 (hE.out.ext hx));have pF:2 ^ F≤2 ^ 11:=aQx (n:=2) (by omega) (by omega);have pT:2 ^ T≤2 ^ 11:=aQx (n:=2) (by omega) (by omega);generalize 2 ^ F=PF at*;generalize 2 ^ T=PT at*;have u1:IntKind.u64.wrap (PF:Int)=(PF:Int):=by rw[IntKind.wrap_u64];omega
   have u2:IntKind.u64.wrap (PT:Int)=(PT:Int):=by rw[IntKind.wrap_u64];omega
   have t0:((C1:Int)!=(s0:Int))=true:=by simp;omega
   have i1:(0:Int)≤(C1:Int):=by omega
   have i2:(C1:Int)<(N:Int):=by omega
   have cb:wr.cell? ⟨gB,C1,none⟩=some (.int .i32 (C0:Int)):=by refine(HM.ext.cells.1 _ _ hb).trans ?_;obtain⟨b',o',e1,_,hc⟩:=hS.out.rd (by omega);injection e1 with e1;injection e1 with e1 e2;subst e1 e2;have:=hc C1 (by omega);rw[aRq]at this;rw[this];simp[nW,b8]
   clear x h pF pT b5 b6 b8 b hT o
   go_wp2_with (first
    |(go_at_call 198;first
      |((with_reducible refine(HF _ HM.ext).mono ?_);rintro e9 w9 ⟨rfl,rfl⟩)
      |((with_reducible refine(HT _ HM.ext).mono ?_);rintro e9 w9 ⟨rfl,rfl⟩))
    |(at_builtin;go_loud (refine cH sL rfl _ _ rfl (HM.adv ((Ext.refl _).alloc (.cells #[F,T] TSL))) 0 rfl rfl (aL ((F:Int),(T:Int))) rfl (eH _ _ _ 1 2 _ (by first|rfl|simp) (by first|rfl|simp) (by simp[maxLen])) (nL _ _) (by omega) ?_;intro q7 c7 w6 M7)))
   have M8:=(show Mem w w6 [aI w TSL 2 (q7) (k+1) (c7) ((oG e d (k+1)).flatMap aL)]from by rw[m.out,aRh,aRl,List.flatMap_nil,aRi,u.out];exact M7)
   clear M7 HM;go_wp2;go_roundw
   case rel=>exact⟨k+1,q7,c7,by omega,by rw[t.out],rfl,M8⟩
   case measure=>simp[aQ9];omega
  obtain rfl:d=k:=by omega
  have t0:((s0:Int)!=(s0:Int))=false:=by simp
  rw[show a (d-d)=s0 by rw[aSg,f.out]];have ab:=xQ (aKm e d);have y:=xQ (aKn e d d);by_cases h0:d=0
  ·subst h0;go_wp2_with fail;refine(aJ7 q lc _).mono ?_;rintro e9 w9 ⟨rfl,rfl⟩;go_wp2;go_ret;exact⟨q,lc,rfl,HM.ow 0,HM.ext⟩
  obtain⟨g,rfl,z,aa⟩:=HM.so 0;clear z aa;have HR:=xQ (aLz g d lc (oG e d d) w wr (by omega) y.out HM);go_wp2_with fail;refine HR.out.mono ?_;rintro e9 w9 ⟨rfl,l⟩;have M9:=(show Mem w w9 [aI w TSL 2 (some ⟨g,0,none⟩) (d) (lc) (((List.range d).map (fun i=>jE (e i))).flatMap aL)]from by rw[←ab.out];exact l)
  clear l HM HR;go_wp2;go_ret;have r:((List.range d).map (fun i=>jE (e i))).length=d:=by simp
  exact⟨some ⟨g,0,none⟩,lc,by rw[r];rfl,by rw[r];exact M9.ow 0,M9.ext⟩
end
theorem mW (v:Value)(n:Nat):(madeCells #[v] n).toList=List.replicate n v∧(madeCells #[v] n).size=n:=by
 constructor
 ·apply List.ext_getElem<;>simp[madeCells,Nat.mod_one]
 simp[madeCells]
def iG (n:Nat)(rows:List RowD):List Value:=rows.map RowD.v++List.replicate (n-rows.length) (.slice none 0 0)
theorem aN1 {n:Nat}{rows:List RowD}(h:rows.length<n):(iG n rows)[rows.length]? =some (.slice none 0 0):=by unfold iG;rw[aR2 (by simp)];simp[aSi];omega
theorem aKc {n:Nat}{rows:List RowD}(h:rows.length<n)(r:RowD):(iG n rows).set rows.length r.v=iG n (rows++ [r]):=by
 unfold iG;have e:n-rows.length=(n-(rows++ [r]).length)+1:=by simp;omega
 rw[e,aSe,aS5 _ _ (by simp),aRp,aRe];simp
theorem aKd {n k:Nat}{rows:List RowD}{r:RowD}(h:rows[k]? =some r):(iG n rows)[k]? =some r.v:=by unfold iG;rw[aR4 (by simpa using(aQr.1 h).1),aR6,h];rfl
theorem sG (xs:List Int)(k:Nat)(x:Int):(nW xs).set k (.int .i32 x)=nW (xs.set k x):=by simp[nW,List.map_set]
theorem aBx {xs:List Int}{k:Nat}{x:Int}(h:xs[k]? =some x):(nW xs)[k]? =some (.int .i32 x):=by simp[nW,h]
theorem tM {aA:Int}{n M s f:Nat}(hf:f≤n): ∀v∈iF aA n M s f,v∈oB aA n M s:=by intro v hv;rw[←zO];unfold iF at hv⊢;obtain⟨x,hx,hv⟩:=List.mem_flatMap.1 hv;exact List.mem_flatMap.2 ⟨x,aR3.2 (aQm (aR3.1 hx) hf),hv⟩
theorem zN {aA:Int}{n M s f j:Nat}(hf:f<n)(hb:(s%M).testBit f=false): ∀v∈iW aA n M s f j,v∈oB aA n M s:=by intro v hv;refine tM (f:=f+1) hf v ?_;rw[qS,aNb hb];refine List.mem_append_right _ ?_;unfold iW at hv⊢;rw[aS9];obtain⟨t,ht,e⟩:=List.mem_map.1 hv;obtain⟨h1,h2⟩:=aRf.1 ht;exact List.mem_map.2 ⟨t,aRf.2 ⟨aSc h1,h2⟩,e⟩
structure aQ2 (n u f t PF PT P2 X1 mv nx:Nat) (D:Int):Prop where
 x1:bits .xor .i64 (u:Int) (PF:Int)=(X1:Int)
 x2:bits .xor .i64 (X1:Int) (PT:Int)=(mv:Int)
 no:f≠u/P2→mv=nx
 yes:f=u/P2→IntKind.i64.wrap ((mv:Int)+D)=(nx:Int)
 d:IntKind.i64.wrap (((t:Int)-(f:Int))*(P2:Int))=D
theorem aOh {n u f t:Nat}(hn:n≤12)(hu:u<n*2 ^ n)(a:f<n)(b:t<n)(hf:u.testBit f=false)(ht:u.testBit t=true)(hb:gH (2 ^ n) (u/2 ^ n) (u%2 ^ n) f t<n*2 ^ n):
  aQ2 n u f t (2 ^ f) (2 ^ t) (2 ^ n) (u ^^^ 2 ^ f) (dA u f t) (gH (2 ^ n) (u/2 ^ n) (u%2 ^ n) f t) (((t:Int)-(f:Int))*(2 ^ n:Nat)):=by
 have p0:2 ^ n≤2 ^ 12:=aQx (n:=2) (by omega) hn;have p1:2 ^ f≤2 ^ 11:=aQx (n:=2) (by omega) (by omega);have p2:2 ^ t≤2 ^ 11:=aQx (n:=2) (by omega) (by omega);have hN:n*2 ^ n≤12*4096:=Nat.mul_le_mul hn (by omega);have e:u ^^^ 2 ^ f<2 ^ 16:=Nat.xor_lt_two_pow (by omega) (by omega);have c:((t:Int)-(f:Int))*(2 ^ n:Nat)≤12*4096:=by
  have h1:((t:Int)-(f:Int))*(2 ^ n:Nat)=(t:Int)*(2 ^ n:Nat)-(f:Int)*(2 ^ n:Nat):=Int.sub_mul _ _ _;have h2:t*2 ^ n≤12*4096:=Nat.mul_le_mul (by omega) (by omega);have h3:(t:Int)*(2 ^ n:Nat)=((t*2 ^ n:Nat):Int):=by push_cast;rfl
  have h4:(f:Int)*(2 ^ n:Nat)=((f*2 ^ n:Nat):Int):=by push_cast;rfl
  omega
 have d: -(12*4096)≤((t:Int)-(f:Int))*(2 ^ n:Nat):=by
  have h1:((t:Int)-(f:Int))*(2 ^ n:Nat)=(t:Int)*(2 ^ n:Nat)-(f:Int)*(2 ^ n:Nat):=Int.sub_mul _ _ _;have h2:f*2 ^ n≤12*4096:=Nat.mul_le_mul (by omega) (by omega);have h3:(t:Int)*(2 ^ n:Nat)=((t*2 ^ n:Nat):Int):=by push_cast;rfl
  have h4:(f:Int)*(2 ^ n:Nat)=((f*2 ^ n:Nat):Int):=by push_cast;rfl
  omega
 refine⟨uO _ _ (by omega) (by omega),?_,fun hc=>(aOi a b hf ht hc).symm,fun hc=> ?_,aQp _ (by omega)⟩
 ·rw[uO _ _ (by omega) (by omega),aKt hf ht]
 have h1:=aM5 a b hf ht hc;have h2:((2 ^ n:Nat):Int)=(2:Int) ^ n:=by simp
 rw[h2,←h1];exact aQp _ (by omega)
theorem aNs {u f:Nat}(hu:u<9223372036854775808)(hf:f<12)(hb:u.testBit f=false):bits .and .i64 (u:Int) ((2 ^ f:Nat):Int)=0:=by have p1:2 ^ f≤2 ^ 11:=aQx (n:=2) (by omega) (by omega);rw[oW u _ hu (by omega),aI6,hb];rfl
theorem aI3 {u f:Nat}(hu:u<9223372036854775808)(hf:f<12)(hb:u.testBit f=true):bits .and .i64 (u:Int) ((2 ^ f:Nat):Int)=((2 ^ f:Nat):Int):=by have p1:2 ^ f≤2 ^ 11:=aQx (n:=2) (by omega) (by omega);rw[oW u _ hu (by omega),aI6,hb];rfl
theorem SGoal.trail {aA:Int}{xs:List Int}{c d u:Nat}{B:List Int}(hn:xs.length≤12)(h:SGoal aA xs c d u B)(hl:B.length=xs.length*2 ^ xs.length):
  Trail xs.length (xs.length*2 ^ xs.length) d B (fun j=>eV xs.length (gP aA xs.length (aV (gJ aA xs.length (bP xs).length)) (st0 xs c) j)) (fun j=>gI aA xs.length (aV (gJ aA xs.length (bP xs).length)) (st0 xs c) j):=by
 have a: ∀j,j≤d→eV xs.length (gP aA xs.length (aV (gJ aA xs.length (bP xs).length)) (st0 xs c) j)%2 ^ xs.length=(gP aA xs.length (aV (gJ aA xs.length (bP xs).length)) (st0 xs c) j).2:=fun j hj=>(kO (h.pt j hj).set).2
 refine⟨hl,fun j hj=>sP (h.pt j hj).car (h.pt j hj).set,fun j hj e=>h.far j hj e,h.back,fun j hj=> ?_,fun j hj=> ?_,fun j hj=> ?_,fun j hj=> ?_,fun j hj=> ?_⟩
 ·exact(fJ.1 (h.edge j hj).1).1
 ·exact(fJ.1 (h.edge j hj).1).2.1
 ·rw[a j (by omega)];exact(fJ.1 (h.edge j hj).1).2.2.2.1
 ·rw[a j (by omega)];exact(fJ.1 (h.edge j hj).1).2.2.2.2
 rw[a j (by omega),a (j+1) (by omega),(h.edge j hj).2];rfl
section
open Go.Proofs.Tryz
abbrev uA:TypeId:=21
theorem aMz (x:Int)(h: -2147483648≤x∧x≤2147483647):IntKind.i32.wrap x=x:=by simp[IntKind.wrap,IntKind.signed,IntKind.bits];omega
theorem aMw (aA aB:Int)(pb po:Nat)(n cap N P2 c C0 st:Nat)(xs:List Int)(pf:Nat→Bool)(adj:Nat→List Nat)(w:World)(d3:4≤n)(hn:n≤12)(cm:Hid (xs.length=n))(dl:pb<w.heap.size)(hE:Hid (BitTab w))(cb:N≤49152)(bp:n≤N)(dp:C0≤12*4096)
  (ag:Hid (P2=2 ^ n))(cc:Hid (N=n*2 ^ n))(ca:Hid (C0=c*2 ^ n))(cy:Hid (st=C0+jF pf n))(cz:st<N)
  (du:(2:Int) ^ n=(P2:Int))(d0:IntKind.i64.wrap ((c:Int)*(P2:Int))=(C0:Int))(d4:IntKind.i64.wrap ((n:Int)*(P2:Int))=(N:Int))
  (dm:Hid (∀k x,xs[k]? =some x→pf k=decide (x=0))) (cf:Hid (adj=fun u=>oB aA n P2 u))
  (c9:Hid (∀k x,xs[k]? =some x→w.cell? ⟨pb,po+k,none⟩=some (I x)))
  (HC:Hid (∀(k:Nat),k<n→ ∀w',Ext w w'→U 217 #[aH aA aB (some ⟨pb,po,none⟩) n cap,k] w' (aY (bF (aR aA n k)) w')))
  (ad:Hid (∀u v,u<N→v∈oB aA n P2 u→v<N))
  (b1:Hid (∀k B Q,SRun adj (fun v=>v/P2=0) N st k B Q→SOk N B Q))
  (HG:Hid (∀k u B Q,SRun adj (fun v=>v/P2=0) N st k B Q→Q[k]? =some u→u/P2=0→ ∃(d:Nat) (code:Nat→Nat) (e:Nat→Nat×Nat),d≤60∧Trail n N d B code e∧code 0=st∧code d=u∧dP aA xs c=some ((List.range d).map (fun i=>jE (e i)))))
  (bx:Hid (∀k B Q,SRun adj (fun v=>v/P2=0) N st k B Q→Q.length≤k→dP aA xs c=none)):
  U 194 #[aH aA aB (some ⟨pb,po,none⟩) n cap,c] w (jQ (dP aA xs c) w):=by
 obtain⟨AR,a3⟩: ∃AR:Array Value,AR=madeCells #[((),())] n:=⟨_,rfl⟩
 have di: ∀w:World,(Instr.makeSlice 183 (I n) (I n)).run prog w= .ok (.slice (some ⟨w,0,none⟩) n n) (w.alloc (.cells AR TSS)):=fun w=>by rw[a3];exact run_make_row' _ _ (.slice none 0 0) 24 underlying183 (by kernel_rfl) rfl .i64 .i64 n (by omega) (by omega) w
 have b6:Hid (AR.toList=iG n []):=by show _=_;rw[a3,(mW _ n).1];simp[iG]
 have b7:Hid (AR.size=n):=by show _=_;rw[a3];exact(mW _ n).2
 obtain⟨AB,a2⟩: ∃AB:Array Value,AB=madeCells #[.int .i32 0] N:=⟨_,rfl⟩
 have cq: ∀w:World,(Instr.makeSlice 212 (I N) (I N)).run prog w= .ok (.slice (some ⟨w,0,none⟩) N N) (w.alloc (.cells AB uA)):=fun w=>by rw[a2];exact run_make_row' _ _ (.int .i32 0) 4 underlying212 (by kernel_rfl) rfl .i64 .i64 N (by omega) (by omega) w
 have b8:Hid (AB.toList=nW (List.replicate N 0)):=by show _=_;rw[a2,(mW _ N).1];simp[nW]
 have b9:Hid (AB.size=N):=by show _=_;rw[a2];exact(mW _ N).2
 clear a3 a2;go_enter func194,ntmps194;go_upto_region 4 with fail
 have ME:=(show Mem w ((w.alloc (.cells #[aA,aB,.slice (some ⟨pb,po,none⟩) n cap] TH3)).alloc (.cells AR TSS)) [iE w TI 1 [],aI w TSS 1 (some ⟨w.heap.size+1,0,none⟩) n n (iG n []),aJ w w TH3 #[aA,aB,.slice (some ⟨pb,po,none⟩) n cap]]from by
  have h1:=((Mem.start w).c0 TH3 #[aA,aB,.slice (some ⟨pb,po,none⟩) n cap]).lit TSS 1 n (w.heap.size+1) AR (by simp) (by rw[b7.out];omega) (by simp[maxLen];omega);rw[b6.out]at h1
  exact h1.rows0 rfl)
 clear b6 b7 di;have e0:=(ME.bk 2).tri;obtain⟨h0,h1,h2⟩:=e0;go_wp2;clear h0 h1 h2;go_loopw [8,32] (fun s i wr=> ∃(k S:Nat) (rows:List RowD),k≤n∧i=I k∧s=I S∧S=C0+jF pf k∧qE aA n k rows∧Mem w wr [iE w TI 1 rows,aI w TSS 1 (some ⟨w.heap.size+1,0,none⟩) n n (iG n rows),aJ w w TH3 #[aA,aB,.slice (some ⟨pb,po,none⟩) n cap]]) (fun _ i _=>n-(intOf i).toNat)
 case atStart=>exact⟨0,C0,[],aQt _,rfl,rfl,rfl,⟨rfl,fun j r h=>by simp at h⟩,ME⟩
 case round=>
  clear ME;obtain⟨k,S,rows,hk,rfl,rfl,hS,aq,hM⟩:=hrel;have HM:=hM;have HR:=xQ aq;have HS:=xQ hS;have dg:S<12*4096+4096:=by have h1:=pP pf k;have h2:2 ^ k≤2 ^ 12:=aQx (n:=2) (by omega) (by omega);omega
  clear hM aq hS;by_cases hlt:k<n
  ·obtain⟨x,hx⟩: ∃x,xs[k]? =some x:=⟨_,aQo (by rw[cm.out];exact hlt)⟩
   have i1:(0:Int)≤(k:Int):=by omega
   have i2:(k:Int)<(n:Int):=by omega
   have cx:wr.cell? ⟨pb,po+k,none⟩=some (I x):=(HM.ext.cells.1 _ _ dl).trans (c9 k x hx);obtain⟨h0,h1,h2⟩:=(HM.bk 2).tri;have a1:=xQ (dm.out k x hx);clear hx;have cw:=HR.out.1;obtain⟨nb,o⟩: ∃nb,nb=aR aA n k:=⟨_,rfl⟩
   have ah:=xQ o;have bw:Hid (∀w',Ext w w'→U 217 #[aH aA aB (some ⟨pb,po,none⟩) n cap,k] w' (aY (bF nb) w')):=by rw[o];exact HC k hlt
   have cs:(bF nb).length=nb.length:=by simp[bF]
   clear o;go_wp2_with fail;clear h0 h1 h2 cx;refine(bw _ HM.ext).mono ?_;rintro e w5 ⟨q5,c5,rfl,o5,aw⟩;rw[cs]at o5⊢;have M5:=((HM.call aw o5).rowsAdd rfl)
   clear o5 aw HM bw;have co:w5.cell? ⟨w.heap.size+1,k,none⟩=some (.slice none 0 0):=by have h7:=(M5.ow 1).cellAt k (by omega);rw[h7];have h8:=aN1 (n:=n) (rows:=rows) (by omega);rw[cw]at h8;exact h8
   have da:w5.frozen? ⟨w.heap.size+1,k,none⟩=false:=(M5.ow 1).frozenAt k
   have cd:=xQ (show qE aA n (k+1) (rows++ [⟨q5,nb.length,c5,ivs (bF nb)⟩])from by
    have h7:=uY (q:=q5) (c:=c5) HR.out;rw[←ah.out]at h7
    exact h7)
   have M6:=(show Mem w (w5.setCell ⟨w.heap.size+1,k,none⟩ (.slice q5 nb c5)) [iE w TI 1 (rows++ [⟨q5,nb.length,c5,ivs (bF nb)⟩]),aI w TSS 1 (some ⟨w.heap.size+1,0,none⟩) n n (iG n (rows++ [⟨q5,nb.length,c5,ivs (bF nb)⟩])),aJ w w TH3 #[aA,aB,.slice (some ⟨pb,po,none⟩) n cap]]from by
    have h7:=aKc (n:=n) (rows:=rows) (by omega) ⟨q5,nb.length,c5,ivs (bF nb)⟩;rw[←h7,cw]
    exact M5.ostore (i:=1) rfl k (.slice q5 nb c5))
   clear M5 HR ah;go_upto_region 8 with fail;clear co da;generalize c1:World.setCell _ _ _=w6;rw[c1]at M6;clear c1;by_cases hx0:x=0
   ·have t0:(x==0)=true:=by simp[hx0]
    have ab:=a1.out;rw[decide_eq_true hx0]at ab;obtain⟨PK,a4⟩: ∃PK:Nat,PK=2 ^ k:=⟨_,rfl⟩
    have d6:(2:Int) ^ k=(PK:Int):=by rw[a4];simp
    have dz:PK≤2048:=by rw[a4];exact aQy (aQx (by omega) (show k≤11 by omega)) (by decide)
    have bv:IntKind.i64.wrap (PK:Int)=(PK:Int):=aQp _ (by omega);obtain⟨S2,bh⟩: ∃S2,S2=C0+jF pf (k+1):=⟨_,rfl⟩
    have d5:bits .or .i64 (S:Int) (PK:Int)=(S2:Int):=by rw[aH3 S PK (by omega) (by omega),a4,HS.out,ca.out,aLp hlt ab,bh,ca.out]
    have bg:=xQ bh;clear ab a4 hx0 bh;go_wp2;go_roundw
    case rel=>exact⟨k+1,S2,_,by omega,by go_num,rfl,bg.out,cd.out,M6⟩
    case measure=>simp[intOf];omega
   have t0:(x==0)=false:=by simp[hx0]
   have ab:=a1.out;rw[decide_eq_false hx0]at ab;have bg:=xQ (show S=C0+jF pf (k+1) by rw[aLq ab];exact HS.out);clear ab hx0;go_wp2;go_roundw
   case rel=>exact⟨k+1,S,_,by omega,by go_num,rfl,bg.out,cd.out,M6⟩
   case measure=>simp[intOf];omega
  obtain rfl:n=k:=by omega
  obtain rfl:S=st:=by rw[HS.out,cy.out]
  have a7:=xQ HR.out;clear HS HR dg;obtain⟨gB,bo⟩: ∃gB,gB=wr.heap.size:=⟨_,rfl⟩
  have M2:=(show Mem w (wr.alloc (.cells AB uA)) [aI w uA 1 (some ⟨gB,0,none⟩) N N (nW (List.replicate N 0)),iE w TI 1 rows,aI w TSS 1 (some ⟨w.heap.size+1,0,none⟩) n n (iG n rows),aJ w w TH3 #[aA,aB,.slice (some ⟨pb,po,none⟩) n cap]]from by
   have h1:=HM.lit uA 1 N gB AB bo.symm (by rw[b9.out];omega) (by simp[maxLen];omega);rw[b8.out]at h1
   exact h1)
  go_upto_region 12 with fail;rw[←bo];clear b8 b9 cq HM bo;generalize c0:World.alloc _ _=w2;rw[c0]at M2;clear c0;go_wp2;go_loopw [56] (fun i wr=> ∃(k:Nat),k≤N∧i=I k∧Mem w wr [aI w uA 1 (some ⟨gB,0,none⟩) N N (nW (List.replicate k (-1)++List.replicate (N-k) 0)),iE w TI 1 rows,aI w TSS 1 (some ⟨w.heap.size+1,0,none⟩) n n (iG n rows),aJ w w TH3 #[aA,aB,.slice (some ⟨pb,po,none⟩) n cap]]) (fun i _=>N-(intOf i).toNat)
  case atStart=>exact⟨0,aQt _,rfl,by simpa using M2⟩
  case round=>
   clear M2;obtain⟨k,hk,rfl,hM⟩:=hrel;have HM:=hM;clear hM;by_cases hlt:k<N
   ·have i1:(0:Int)≤(k:Int):=by omega
    have i2:(k:Int)<(N:Int):=by omega
    have hl:(List.replicate k (-1:Int)++List.replicate (N-k) 0)[k]? =some 0:=by rw[aR2 (by simp)];simp[aSi];omega
    have c2:wr.cell? ⟨gB,k,none⟩=some (.int .i32 0):=by have:=(HM.ow 0).cellAt k (by omega);rw[this];exact aBx hl
    have c3:wr.frozen? ⟨gB,k,none⟩=false:=(HM.ow 0).frozenAt k;clear hl;have M2:=(HM.ostore (i:=0) rfl k (.int .i32 (-1)))
    go_wp2;go_roundw
    case rel=>exact⟨k+1,by omega,by go_num,by have:=M2;rw[sG,aHn hlt]at this;exact this⟩
    case measure=>simp[intOf];omega
   obtain rfl:N=k:=by omega
   rw[aSg,show List.replicate N (-1:Int)++List.replicate 0 0=List.replicate N (-1) by simp]at HM;have i1:(0:Int)≤(S:Int):=by omega
   have i2:(S:Int)<(N:Int):=by omega
   have i3:IntKind.i32.wrap (S:Int)=(S:Int):=aMz _ (by omega);have c2:wr.cell? ⟨gB,S,none⟩=some (.int .i32 (-1)):=by have:=(HM.ow 0).cellAt S (by omega);rw[this];exact aBx (by rw[aSi,if_pos cz])
   have c3:wr.frozen? ⟨gB,S,none⟩=false:=(HM.ow 0).frozenAt S;have M2:=(show Mem w (wr.setCell ⟨gB,S,none⟩ (.int .i32 (S:Int))) [aI w uA 1 (some ⟨gB,0,none⟩) N N (nW ((List.replicate N (-1)).set S (S:Int))),iE w TI 1 rows,aI w TSS 1 (some ⟨w.heap.size+1,0,none⟩) n n (iG n rows),aJ w w TH3 #[aA,aB,.slice (some ⟨pb,po,none⟩) n cap]]from by rw[←sG];exact HM.ostore (i:=0) rfl S (.int .i32 (S:Int)))
   go_upto_region 18 with fail;clear c2 c3 HM;generalize bv:World.setCell _ _ _=w1;rw[bv]at M2;clear bv;have M3:=(M2.lit TI 1 1 w1 #[S] rfl rfl (by simp[maxLen]))
   have I1:=xQ (show SRun adj (fun v=>v/P2=0) N S 0 ((List.replicate N (-1)).set S (S:Int)) [S]from .init);clear M2;go_wp2;go_loopw [13,14] (fun v i wr=> ∃(k:Nat) (q:OA) (l lc:Nat) (B:List Int) (Q:List Nat),k≤l∧i=I k∧v= .slice q l lc∧l=Q.length∧l≤N∧SRun adj (fun v=>v/P2=0) N S k B Q∧Mem w wr [aI w TI 1 (q) (l) lc (ivs (bF (Q))),aI w uA 1 (some ⟨gB,0,none⟩) N N (nW (B)),iE w TI 1 rows,aI w TSS 1 (some ⟨w.heap.size+1,0,none⟩) n n (iG n rows),aJ w w TH3 #[aA,aB,.slice (some ⟨pb,po,none⟩) n cap]]) (fun _ i _=>N-(intOf i).toNat)
   case atStart=>exact⟨0,some ⟨w1,0,none⟩,1,1,_,[S],aQt _,rfl,rfl,rfl,by omega,I1.out,M3⟩
   case round=>
    clear M3 I1;obtain⟨k,q,l,lc,B,Q,hk,rfl,rfl,cp,d2,ar,hM⟩:=hrel;have HM:=hM;have ai:=xQ ar;have a0:=xQ cp;have be:=xQ (b1 k B Q ar);clear hM ar cp;by_cases hlt2:k<l
    ·obtain⟨u,hu⟩: ∃u,Q[k]? =some u:=⟨_,aQo (by rw[←a0.out];exact hlt2)⟩
     have au:u<N:=be.out.bd u (aQq hu);have HU:=xQ hu;clear hu;obtain⟨gL,rfl,de,df⟩:=HM.so 0;clear de df;have i3:(0:Int)≤(k:Int):=by omega
     have i4:(k:Int)<(l:Int):=by omega
     have cu:wr.cell? ⟨gL,k,none⟩=some (I u):=by have:=(HM.ow 0).cellAt k (by omega);rw[this];simp[ivs,bF,HU.out]
     obtain⟨cr,bl⟩: ∃cr,cr=u/P2:=⟨_,rfl⟩
     have dv:(u:Int)/(P2:Int)=(cr:Int):=by rw[bl];simp
     have ay:=xQ bl;clear bl;by_cases hc0:cr=0
     ·have t0:((cr:Int)==0)=true:=by simp[hc0]
      obtain⟨d,code,ed,dc,ce,a9,ci,ch⟩:=HG k u B Q ai HU.out (by rw[←ay.out];exact hc0);have b3:=xQ (fun(w':World) (hx:Ext wr w')=>aMe n N d N gB B code ed w' hn cb dc ce ((HM.sq 1).ext hx) (hE.out.ext (HM.ext.trans hx)) (aQm (HM.hi 1) hx.sz));rw[a9,ci]at b3;have c6:=xQ ch;clear ce a9 ci ch hc0;go_wp2_with fail;clear cu;refine(b3 _ (Ext.refl _)).mono ?_;rintro e w5 ⟨q5,c5,rfl,o5,aw⟩;have M5:=(HM.call aw o5)
      clear o5 aw HM;go_wp2;exact bodyPost_ret (v:= .tuple #[.slice q5 ((List.range d).map (fun i=>jE (ed i))).length c5,.bool true]) (by simp[results,results194,go_sem]) rfl (by rw[c6.out];exact⟨q5,c5,rfl,M5.ow 0,M5.ext⟩)
     have t0:((cr:Int)==0)=false:=by simp;omega
     have dd:Hid (¬u/P2=0):=by show¬_;rw[←ay.out];exact hc0
     clear hc0;go_wp2;clear cu;go_loopw [13,91] (fun v i wr=> ∃(f:Nat) (q:OA) (l2 lc:Nat) (B2:List Int) (Q2:List Nat),f≤n∧i=I f∧v= .slice q l2 lc∧l2=Q2.length∧(B2,Q2)=bQ (u:Int) (B,Q) (iF aA n P2 u f)∧Mem w wr [aI w TI 1 (q) (l2) lc (ivs (bF (Q2))),aI w uA 1 (some ⟨gB,0,none⟩) N N (nW (B2)),iE w TI 1 rows,aI w TSS 1 (some ⟨w.heap.size+1,0,none⟩) n n (iG n rows),aJ w w TH3 #[aA,aB,.slice (some ⟨pb,po,none⟩) n cap]]) (fun _ i _=>n-(intOf i).toNat)
     case atStart=>exact⟨0,some ⟨gL,0,none⟩,l,lc,B,Q,aQt _,rfl,rfl,a0.out,rfl,HM⟩
     case round=>
      clear HM;obtain⟨f,q,l2,lc,B2,Q2,hf,rfl,rfl,ba,bm,hM⟩:=hrel;have bb:SOk N B2 Q2:=by have:=SOk.expand (u:=(u:Int)) (by omega) (iF aA n P2 u f) be (fun v hv=>ad u v au (tM hf v hv));rw[←bm]at this;exact this
      have HM:=hM;have az:=xQ bm;have p:=xQ ba;have bz:=xQ bb;clear hM bm ba bb;by_cases hlt3:f<n
      ·obtain⟨PF,y⟩: ∃PF:Nat,PF=2 ^ f:=⟨_,rfl⟩
       have dt:(2:Int) ^ f=(PF:Int):=by rw[y];simp
       have dq:PF≤2048:=by rw[y];exact aQy (aQx (by omega) (show f≤11 by omega)) (by decide)
       have d7:IntKind.i64.wrap (PF:Int)=(PF:Int):=aQp _ (by omega);have a1:=xQ y;have j1:(0:Int)≤(f:Int):=by omega
       have j2:(f:Int)<(n:Int):=by omega
       by_cases hbf:u.testBit f=true
       ·have cg:bits .and .i64 (u:Int) (PF:Int)=(PF:Int):=by rw[y];exact aI3 (by omega) (by omega) hbf
        have ds:0<PF:=by rw[y];exact aT3 f
        have t1:((PF:Int)!=0)=true:=by simp;omega
        have bq:Hid (iF aA n P2 u (f+1)=iF aA n P2 u f):=by show _=_;rw[qS,aQe (by rw[ag.out,pW u hlt3];exact hbf),aRi]
        clear hbf y;go_wp2;go_roundw
        case rel=>exact⟨f+1,q,l2,lc,B2,Q2,by omega,by go_num,rfl,p.out,by rw[bq.out];exact az.out,HM⟩
        case measure=>simp[intOf];omega
       have hbf:u.testBit f=false:=by simpa using hbf
       have cg:bits .and .i64 (u:Int) (PF:Int)=0:=by rw[y];exact aNs (by omega) (by omega) hbf
       have aj:(u%P2).testBit f=false:=by rw[ag.out,pW u hlt3];exact hbf
       have c4:=xQ hbf;have a6:=xQ aj;obtain⟨⟨rq,rn,rc,d9⟩,af⟩: ∃r,rows[f]? =some r:=⟨_,aQo (by rw[a7.out.1];exact hlt3)⟩
       obtain⟨br,bt⟩:=a7.out.2 f _ af;dsimp only at br bt;have bf:=xQ af;obtain⟨nb,o⟩: ∃nb,nb=aR aA n f:=⟨_,rfl⟩
       rw[←o]at br bt;have dk:nb.length≤n:=by rw[o];exact aQy (aRr _ _) (by simp)
       have ah:=xQ o;subst br bt;have db:wr.cell? ⟨w.heap.size+1,f,none⟩=some (.slice rq nb rc):=by have h7:=(HM.ow 3).cellAt f (by omega);rw[h7];exact aKd af
       have bq:Hid (iF aA n P2 u (f+1)=iF aA n P2 u f++iW aA n P2 u f nb.length):=by show _=_;rw[qS,aNb aj,o]
       clear hbf aj y af o;go_wp2;clear db;go_loopw [13,104] (fun v i wr=> ∃(j:Nat) (q:OA) (l3 lc:Nat) (B3:List Int) (Q3:List Nat),j≤nb.length∧i=I j∧v= .slice q l3 lc∧l3=Q3.length∧(B3,Q3)=bQ (u:Int) (B,Q) (iF aA n P2 u f++iW aA n P2 u f j)∧Mem w wr [aI w TI 1 (q) (l3) lc (ivs (bF (Q3))),aI w uA 1 (some ⟨gB,0,none⟩) N N (nW (B3)),iE w TI 1 rows,aI w TSS 1 (some ⟨w.heap.size+1,0,none⟩) n n (iG n rows),aJ w w TH3 #[aA,aB,.slice (some ⟨pb,po,none⟩) n cap]]) (fun _ i _=>nb.length-(intOf i).toNat)
       case atStart=>exact⟨0,q,l2,lc,B2,Q2,aQt _,rfl,rfl,p.out,by rw[aG2,aRi];exact az.out,HM⟩
       case round=>
        clear HM;obtain⟨j,q,l3,lc,B3,Q3,hj,rfl,rfl,am,al,hM⟩:=hrel;have an:SOk N B3 Q3:=by
         have:=SOk.expand (u:=(u:Int)) (by omega) (iF aA n P2 u f++iW aA n P2 u f j) be (fun v hv=>by
          rcases aR7.1 hv with hv|hv
          ·exact ad u v au (tM hf v hv)
          ·exact ad u v au (zN hlt3 a6 v hv))
         rw[←al]at this;exact this
        have HM:=hM;have a:=xQ al;have m:=xQ am;have b0:=xQ an;have d1:l3≤N:=by rw[am];exact an.qlen
        clear hM al am an;by_cases hlt4:j<nb.length
        ·obtain⟨t,a5⟩: ∃t,nb[j]? =some t:=⟨_,aQo hlt4⟩
         have bu:t<n:=(bU.1 (by rw[←ah.out];exact aQq a5:t∈aR aA n f)).1;have bc:(aR aA n f)[j]? =some t:=by rw[←ah.out];exact a5
         have ap:wr.ownsRow w TI 1 (.slice rq nb rc) nb.length (ivs (bF nb)):=HM.ok (iE w TI 1 rows) (by simp) _ (aQq bf.out);obtain⟨gR,dh⟩: ∃gR,rq=some ⟨gR,0,none⟩:=by
          rcases ap.2 with⟨_,h3⟩|⟨g,_,_,h3,_⟩
          ·omega
          injection h3 with h3;exact⟨g,h3⟩
         subst dh;have ct:wr.cell? ⟨gR,j,none⟩=some (I t):=by have:=ap.cellAt j (by omega);rw[this];simp[ivs,bF,a5]
         have b2:=xQ bc;clear a5 bc ap;obtain⟨PT,z⟩: ∃PT:Nat,PT=2 ^ t:=⟨_,rfl⟩
         have dw:(2:Int) ^ t=(PT:Int):=by rw[z];simp
         have dr:PT≤2048:=by rw[z];exact aQy (aQx (by omega) (show t≤11 by omega)) (by decide)
         have d8:IntKind.i64.wrap (PT:Int)=(PT:Int):=aQp _ (by omega);have m1:(0:Int)≤(j:Int):=by omega
         have m2:(j:Int)<(nb.length:Int):=by omega
         by_cases hbt:u.testBit t=true
         ·have a8:(u%P2).testBit t=true:=by rw[ag.out,pW u bu];exact hbt
          have bi:bits .and .i64 (u:Int) (PT:Int)=(PT:Int):=by rw[z];exact aI3 (by omega) (by omega) hbt
          have dn:0<PT:=by rw[z];exact aT3 t
          have t2:((PT:Int)==0)=false:=by simp;omega
          have aa:=aJb b2 a8;have bp:gH P2 (u/P2) (u%P2) f t<N:=ad u _ au (zN (j:=j+1) hlt3 a6 _ (by rw[aa];simp));have cv:=aOh (u:=u) (f:=f) (t:=t) hn (by rw[←cc.out];exact au) hlt3 bu c4 hbt (by rw[←cc.out,←ag.out];exact bp);rw[←ag.out,←a1.out,←z]at cv;generalize gH P2 (u/P2) (u%P2) f t=nx at*;have ao:iF aA n P2 u f++iW aA n P2 u f (j+1)=(iF aA n P2 u f++iW aA n P2 u f j)++ [nx]:=by rw[aa,aRe]
          have ae:=xQ ao;clear aa ao hbt a8 z;generalize u ^^^ 2 ^ f=X1 at*;generalize dA u f t=mv at*;generalize ((t:Int)-(f:Int))*(P2:Int)=D at*;obtain⟨x1,x2,x3,x4,x5⟩:=cv;have c8:=xQ x3;have b4:=xQ x4;have dx:IntKind.i64.wrap ((t:Int)-(f:Int))=(t:Int)-(f:Int):=aQp _ (by omega);clear x3 x4;obtain⟨bn,bj⟩: ∃bn,bn=B3.getD nx 0:=⟨_,rfl⟩
          have ak:=dH (D:=B3) (v:=nx) (by rw[b0.out.len];exact bp);rw[←bj]at ak;have cn:wr.cell? ⟨gB,nx,none⟩=some (.int .i32 bn):=by have:=(HM.ow 1).cellAt nx (by omega);rw[this];exact aBx ak.1
          have b5:wr.frozen? ⟨gB,nx,none⟩=false:=(HM.ow 1).frozenAt nx;have ax:=xQ bj;clear bj ak;have m5:(0:Int)≤(nx:Int):=by omega
          have m6:(nx:Int)<(N:Int):=by omega
          have dy:IntKind.i32.wrap (u:Int)=(u:Int):=aMz _ (by omega);by_cases hfc:f=cr
          ·have t3:((f:Int)==(cr:Int))=true:=by simp[hfc]
           have x4:IntKind.i64.wrap ((mv:Int)+D)=(nx:Int):=b4 (hfc.trans ay.out);clear hfc;by_cases hneg:bn<0
           ·have t4:decide (bn<0)=true:=by simp[hneg]
            have b:Hid ((B3.set nx (u:Int),Q3++ [nx])=bQ (u:Int) (B,Q) (iF aA n P2 u f++iW aA n P2 u f (j+1))):=by show _=_;rw[ae.out,dX,←a.out,lC (by rw[←ax.out];exact hneg)]
            have M6:=(show Mem w (wr.setCell ⟨gB,nx,none⟩ (.int .i32 (u:Int))).drew [aI w TI 1 (q) (l3) lc (ivs (bF (Q3))),aI w uA 1 (some ⟨gB,0,none⟩) N N (nW (B3.set nx (u:Int))),iE w TI 1 rows,aI w TSS 1 (some ⟨w.heap.size+1,0,none⟩) n n (iG n rows),aJ w w TH3 #[aA,aB,.slice (some ⟨pb,po,none⟩) n cap]]from by rw[←sG];exact(HM.ostore (i:=1) rfl nx (.int .i32 (u:Int))).adv (Ext.drew (Ext.refl _)))
            clear hneg a HM;go_upto_region 34 with fail;go_region;go_upto_region 39 with fail;clear ct cn b5;generalize av:World.setCell _ _ _=w4;rw[av]at M6;clear av;go_wp2_with (at_builtin;go_loud (refine cH fM rfl _ _ rfl (M6.adv ((Ext.refl _).alloc (.cells #[nx] TI))) 0 rfl rfl (ivs [(nx:Int)]) rfl ((eH w4 #[nx] TI 1 1 _ rfl rfl (by simp[maxLen])).ext (Ext.drew (Ext.refl _))) (fun u hu=>by obtain rfl:=aRd.1 hu;rfl) (by omega) ?_;intro q7 c7 w6 M7));have M8:=(show Mem w w6 [aI w TI 1 (q7) (l3+1) c7 (ivs (bF (Q3++ [nx]))),aI w uA 1 (some ⟨gB,0,none⟩) N N (nW (B3.set nx (u:Int))),iE w TI 1 rows,aI w TSS 1 (some ⟨w.heap.size+1,0,none⟩) n n (iG n rows),aJ w w TH3 #[aA,aB,.slice (some ⟨pb,po,none⟩) n cap]]from by rw[show ivs (bF (Q3++ [nx]))=ivs (bF Q3)++ivs [(nx:Int)] by simp[ivs,bF]];exact M7)
            clear M7 M6;go_wp2;go_roundw
            case rel=>exact⟨j+1,q7,l3+1,c7,B3.set nx (u:Int),Q3++ [nx],by omega,by go_num,rfl,by simp[m.out],b.out,M8⟩
            case measure=>simp[intOf];omega
           have t4:decide (bn<0)=false:=by simp;omega
           have b:Hid ((B3,Q3)=bQ (u:Int) (B,Q) (iF aA n P2 u f++iW aA n P2 u f (j+1))):=by show _=_;rw[ae.out,dX,←a.out,mV (by rw[←ax.out];exact hneg)]
           clear hneg a;go_upto_region 34 with fail;go_region;go_wp2;go_roundw
           case rel=>exact⟨j+1,q,l3,lc,B3,Q3,by omega,by go_num,rfl,m.out,b.out,HM.adv xE⟩
           case measure=>simp[intOf];omega
          have t3:((f:Int)==(cr:Int))=false:=by simp;omega
          have dj:nx=mv:=(c8 (fun e=>hfc (e.trans ay.out.symm))).symm;subst dj;clear hfc;by_cases hneg:bn<0
          ·have t4:decide (bn<0)=true:=by simp[hneg]
           have b:Hid ((B3.set nx (u:Int),Q3++ [nx])=bQ (u:Int) (B,Q) (iF aA n P2 u f++iW aA n P2 u f (j+1))):=by show _=_;rw[ae.out,dX,←a.out,lC (by rw[←ax.out];exact hneg)]
           have M6:=(show Mem w (wr.setCell ⟨gB,nx,none⟩ (.int .i32 (u:Int))).drew [aI w TI 1 (q) (l3) lc (ivs (bF (Q3))),aI w uA 1 (some ⟨gB,0,none⟩) N N (nW (B3.set nx (u:Int))),iE w TI 1 rows,aI w TSS 1 (some ⟨w.heap.size+1,0,none⟩) n n (iG n rows),aJ w w TH3 #[aA,aB,.slice (some ⟨pb,po,none⟩) n cap]]from by rw[←sG];exact(HM.ostore (i:=1) rfl nx (.int .i32 (u:Int))).adv (Ext.drew (Ext.refl _)))
           clear hneg a HM;go_upto_region 34 with fail;go_region;go_upto_region 39 with fail;clear ct cn b5;generalize av:World.setCell _ _ _=w4;rw[av]at M6;clear av;go_wp2_with (at_builtin;go_loud (refine cH fM rfl _ _ rfl (M6.adv ((Ext.refl _).alloc (.cells #[nx] TI))) 0 rfl rfl (ivs [(nx:Int)]) rfl ((eH w4 #[nx] TI 1 1 _ rfl rfl (by simp[maxLen])).ext (Ext.drew (Ext.refl _))) (fun u hu=>by obtain rfl:=aRd.1 hu;rfl) (by omega) ?_;intro q7 c7 w6 M7));have M8:=(show Mem w w6 [aI w TI 1 (q7) (l3+1) c7 (ivs (bF (Q3++ [nx]))),aI w uA 1 (some ⟨gB,0,none⟩) N N (nW (B3.set nx (u:Int))),iE w TI 1 rows,aI w TSS 1 (some ⟨w.heap.size+1,0,none⟩) n n (iG n rows),aJ w w TH3 #[aA,aB,.slice (some ⟨pb,po,none⟩) n cap]]from by rw[show ivs (bF (Q3++ [nx]))=ivs (bF Q3)++ivs [(nx:Int)] by simp[ivs,bF]];exact M7)
           clear M7 M6;go_wp2;go_roundw
           case rel=>exact⟨j+1,q7,l3+1,c7,B3.set nx (u:Int),Q3++ [nx],by omega,by go_num,rfl,by simp[m.out],b.out,M8⟩
           case measure=>simp[intOf];omega
          have t4:decide (bn<0)=false:=by simp;omega
          have b:Hid ((B3,Q3)=bQ (u:Int) (B,Q) (iF aA n P2 u f++iW aA n P2 u f (j+1))):=by show _=_;rw[ae.out,dX,←a.out,mV (by rw[←ax.out];exact hneg)]
          clear hneg a;go_upto_region 34 with fail;go_region;go_wp2;go_roundw
          case rel=>exact⟨j+1,q,l3,lc,B3,Q3,by omega,by go_num,rfl,m.out,b.out,HM.adv xE⟩
          case measure=>simp[intOf];omega
         have hbt:u.testBit t=false:=by simpa using hbt
         have bi:bits .and .i64 (u:Int) (PT:Int)=0:=by rw[z];exact aNs (by omega) (by omega) hbt
         have aa:=xQ (aM3 b2 (show(u%P2).testBit t=false by rw[ag.out,pW u bu];exact hbt));clear hbt z;go_wp2;go_roundw
         case rel=>exact⟨j+1,q,l3,lc,B3,Q3,by omega,by go_num,rfl,m.out,by rw[aa.out];exact a.out,HM⟩
         case measure=>simp[intOf];omega
        obtain rfl:nb.length=j:=by omega
        go_wp2;go_roundw
        case rel=>exact⟨f+1,q,l3,lc,B3,Q3,by omega,by go_num,rfl,m.out,by rw[bq.out];exact a.out,HM⟩
        case measure=>simp[intOf];omega
      obtain rfl:n=f:=by omega
      have bs:Hid (SRun adj (fun v=>v/P2=0) N S (k+1) B2 Q2):=by show SRun _ _ _ _ _ _ _;have h7:=SRun.step ai HU.out dd.out;have h8:=az.out;rw[zO,←(show adj u=oB aA n P2 u by rw[cf.out])]at h8;rw[←h8]at h7;exact h7
      have cl:l2≤N:=by rw[p.out];exact bz.out.qlen
      have ck:k+1≤l2:=by have h8:=az.out;obtain⟨r,h9,_⟩:=pB (u:Int) (iF aA n P2 u n) B Q;rw[←h8]at h9;dsimp only at h9;rw[p.out,h9,aQw];have:=a0.out;omega
      go_wp2;go_roundw
      case rel=>exact⟨k+1,q,l2,lc,B2,Q2,ck,by go_num,rfl,p.out,cl,bs.out,HM⟩
      case measure=>simp[intOf];omega
    have cj:=xQ (bx k B Q ai (by rw[←a0.out];omega));have hX:=xQ HM.ext;clear HM;go_wp2;exact bodyPost_ret (v:= .tuple #[((),()),.bool false]) (by simp[results,results194,go_sem]) rfl (by rw[cj.out];exact⟨_,rfl,hX.out⟩)
end
end Go.Proofs.YtbgkcehffiogcacGreatDoor
