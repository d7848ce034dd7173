/-
  Texts of this proof, packed (@packed).
-/
import Derived.Lib.SlicesMore
import Derived.Test.YtomgkjinhnkpnaaGreatDoorX28
namespace Go.Proofs.YtomgkjinhnkpnaaGreatDoor
open Go.RowKit
set_option linter.unusedSimpArgs false
set_option linter.unusedVariables false
set_option maxHeartbeats 8000000
set_option maxRecDepth 100000
section
open Go.Proofs.Tryz
theorem uD: ∀(l:List Sl2) (i:Nat) (s:Sl2),(l.set i s).flatMap aL=((l.flatMap aL).set (i*2) (I s.1)).set (i*2+1) (I s.2)
 | [],i,s=>by simp
 |x::l,0,s=>by simp[aL]
 |x::l,i+1,s=>by rw[aRt,aSm,aSm,uD l i s,show(i+1)*2=i*2+1+1 by omega];simp[aL]
theorem aLu (d:Array Sl2)(i j:Nat):(Sort.swp d i j).toList=(d.toList.set i d[j]!).set j d[i]! :=by simp[Sort.swp]
theorem aIu (l:List Sl2)(i:Nat)(s:Sl2)(h:l[i]? =some s):(l.flatMap aL)[i*2]? =some (I s.1)∧(l.flatMap aL)[i*2+1]? =some (I s.2):=by have h0:=eM aL 2 (fun _=>rfl) l i s h 0 (by omega);have h1:=eM aL 2 (fun _=>rfl) l i s h 1 (by omega);exact⟨h0,h1⟩
theorem aR0 (g n c:Nat)(d:Array Sl2)(w0 w:World)(hn:n≤1000)(hd:Hid (d.size=n))(h0:Hid (Mem w0 w [aJ w0 TSL 2 (some ⟨g,0,none⟩) n c (d.toList.flatMap aL)])):
  U 208 #[.slice (some ⟨g,0,none⟩) n c] w fun e w'=>e= .returned (.tuple #[])∧Mem w0 w' [aJ w0 TSL 2 (some ⟨g,0,none⟩) n c (d.reverse.toList.flatMap aL)]:=by
 have ae:IntKind.i64.wrap ((n:Int)-1)=(n:Int)-1:=aRj _ (by omega);go_enter func208,ntmps208;go_wp2;go_loopw [2,3] (fun s2 s3 wr=> ∃(i jn:Nat) (jz:Int) (dk:Array Sl2),s2=I i∧s3=I jz∧i≤n∧ -1≤jz∧jz≤n∧((i:Int)<jz→jz=(jn:Int)∧jn<n)∧(¬(i:Int)<jz→ ¬i<jn)∧dk.size=n∧Sort.reverseLoop i jn dk=Sort.reverseLoop 0 (d.size-1) d∧Mem w0 wr [aJ w0 TSL 2 (some ⟨g,0,none⟩) n c (dk.toList.flatMap aL)]) (fun a b _=>(Lib.intOf b-Lib.intOf a).toNat)
 case atStart=>exact⟨0,d.size-1,(n:Int)-1,d,rfl,rfl,aRo _,by omega,by omega,fun h=>⟨by rw[hd.out];omega,by rw[hd.out];omega⟩,fun h=>by rw[hd.out];omega,hd.out,rfl,h0.out⟩
 case round=>
  clear h0 ae;obtain⟨i,jn,jz,dk,rfl,rfl,af,ag,ah,h1,h2,r,t,hM⟩:=hrel;have HM:=hM;have j:=xQ t;have f:=xQ r;clear hM t r;by_cases hlt:(i:Int)<jz
  ·obtain⟨rfl,ad⟩:=h1 hlt;have ab:i<jn:=by omega
   obtain⟨⟨a0,a1⟩,ha⟩: ∃s,dk[i]! =s:=⟨_,rfl⟩
   obtain⟨⟨b0,b1⟩,hb⟩: ∃s,dk[jn]! =s:=⟨_,rfl⟩
   have p:dk.toList[i]? =some (a0,a1):=by rw[←ha];simp[f.out,show i<n by omega]
   have q:dk.toList[jn]? =some (b0,b1):=by rw[←hb];simp[f.out,ad]
   obtain⟨k,l⟩:=aIu _ _ _ p;obtain⟨m,o⟩:=aIu _ _ _ q;have x:wr.cell? ⟨g,i*2,none⟩=some (I a0):=((HM.ow 0).cellAt (i*2) (by omega)).trans k;have y:wr.cell? ⟨g,i*2+1,none⟩=some (I a1):=((HM.ow 0).cellAt (i*2+1) (by omega)).trans l;have z:wr.cell? ⟨g,jn*2,none⟩=some (I b0):=((HM.ow 0).cellAt (jn*2) (by omega)).trans m;have aa:wr.cell? ⟨g,jn*2+1,none⟩=some (I b1):=((HM.ow 0).cellAt (jn*2+1) (by omega)).trans o;have f0:wr.frozen? ⟨g,i*2,none⟩=false:=(HM.ow 0).frozenAt _;have f1:wr.frozen? ⟨g,i*2+1,none⟩=false:=(HM.ow 0).frozenAt _;have f2:wr.frozen? ⟨g,jn*2,none⟩=false:=(HM.ow 0).frozenAt _;have f3:wr.frozen? ⟨g,jn*2+1,none⟩=false:=(HM.ow 0).frozenAt _;have v:Hid ((Sort.swp dk i jn).toList.flatMap aL=((((dk.toList.flatMap aL).set (i*2) (I b0)).set (i*2+1) (I b1)).set (jn*2) (I a0)).set (jn*2+1) (I a1)):=by show _=_;rw[aLu,ha,hb,uD,uD]
   clear k l m o p q ha hb h1 h2
   have M2:=(show Mem w0 ((((wr.drew.setCell ⟨g,i*2,none⟩ (I b0)).setCell ⟨g,i*2+1,none⟩ (I b1)).setCell ⟨g,jn*2,none⟩ (I a0)).setCell ⟨g,jn*2+1,none⟩ (I a1)) [aJ w0 TSL 2 (some ⟨g,0,none⟩) n c ((Sort.swp dk i jn).toList.flatMap aL)]from by
    rw[v.out]
    exact((((HM.adv (Ext.drew (Ext.refl _))).ostore (i:=0) rfl (i*2) (I b0)).ostore (i:=0) rfl (i*2+1) (I b1)).ostore (i:=0) rfl (jn*2) (I a0)).ostore (i:=0) rfl (jn*2+1) (I a1))
   clear HM v;have i1:(0:Int)≤(i:Int):=by omega
   have i2:(i:Int)<(n:Int):=by omega
   have i3:(0:Int)≤(jn:Int):=by omega
   have i4:(jn:Int)<(n:Int):=by omega
   have i5:IntKind.i64.wrap ((jn:Int)-1)=(jn:Int)-1:=aRj _ (by omega);go_wp2_with fail;go_region;clear x y z aa f0 f1 f2 f3;go_wp2;go_roundw
   case rel=>have h9:=j.out;rw[Sort.reverseLoop,if_pos ab]at h9;exact⟨i+1,jn-1,(jn:Int)-1,Sort.swp dk i jn,by go_num,rfl,by omega,by omega,by omega,fun h=>⟨by omega,by omega⟩,fun h=>by omega,by rw[Sort.size_swp];exact f.out,h9,M2⟩
   case measure=>simp[Lib.intOf];omega
  have u:=h2 hlt;have h9:=j.out;rw[Sort.reverseLoop,if_neg u,Lib.reverseLoop_reverse]at h9;rw[h9]at HM;clear j h1 h2 h9;go_wp2;go_end0;exact⟨rfl,by simpa using HM⟩
theorem aMw (g n c:Nat)(l:List Sl2)(w0 w:World)(hn:n≤1000)(hl:l.length=n)(h0:Mem w0 w [aJ w0 TSL 2 (some ⟨g,0,none⟩) n c (l.flatMap aL)]):
  U 208 #[.slice (some ⟨g,0,none⟩) n c] w fun e w'=>e= .returned (.tuple #[])∧Mem w0 w' [aJ w0 TSL 2 (some ⟨g,0,none⟩) n c (l.reverse.flatMap aL)]:=by
 have:=aR0 g n c l.toArray w0 w hn (xQ (by simpa using hl)) (xQ (by simpa using h0));simpa using this
theorem aK7 (a:OA)(c:Nat)(w:World):U 208 #[.slice a 0 c] w fun e w'=>e= .returned (.tuple #[])∧w=w':=by
 go_enter func208,ntmps208;go_wp2;go_loopw [2,3] (fun s2 s3 wr=>s2=I 0∧s3=I (-1)∧w=wr) (fun _ _ _=>0)
 case atStart=>exact⟨rfl,rfl,rfl⟩
 case round=>obtain⟨rfl,rfl,rfl⟩:=hrel;go_wp2;go_end0;exact⟨rfl,rfl⟩
def oP (xs:List Int):List Value:=xs.map (fun x=> .int .i32 x)
def aR2:Value→Nat
 | .slice _ n _=>n
 |_=>0
structure Trail (n N d:Nat) (B:List Int) (code:Nat→Nat) (e:Nat→Nat×Nat):Prop where
 len:B.length=N
 lt: ∀j,j≤d→code j<N
 far: ∀j,j≤d→code j=code 0→j=0
 back: ∀j,j<d→B.getD (code (j+1)) 0=code j
 f: ∀j,j<d→(e j).1<n
 t: ∀j,j<d→(e j).2<n
 hf: ∀j,j<d→(code j%2 ^ n).testBit (e j).1=false
 ht: ∀j,j<d→(code j%2 ^ n).testBit (e j).2=true
 mv: ∀j,j<d→code (j+1)%2 ^ n=dB (code j%2 ^ n) (e j).1 (e j).2
def pB (e:Nat→Nat×Nat)(d k:Nat):List Sl2:=(List.range k).map (fun i=>jQ (e (d-1-i)))
theorem aI8 (e:Nat→Nat×Nat)(d k:Nat):pB e d (k+1)=pB e d k++ [jQ (e (d-1-k))]:=by unfold pB;rw[aT2,aSt];rfl
theorem aLh (e:Nat→Nat×Nat)(d k:Nat):(pB e d k).length=k:=by simp[pB]
theorem aLg (e:Nat→Nat×Nat)(d:Nat):(pB e d d).reverse=(List.range d).map (fun i=>jQ (e i)):=by
 apply List.ext_getElem (by simp[pB]);intro i h1 h2;have hi:i<d:=by simpa using h2
 simp only[pB,List.getElem_reverse,List.getElem_map,List.getElem_range,aSc,List.length_range];congr 2;omega
structure aQw (n j:Nat) (B:List Int) (code:Nat→Nat) (e:Nat→Nat×Nat) (A C1 C0 S1 S0 F T:Nat):Prop where
 a1:bits .and .i64 (C1:Int) (A:Int)=(S1:Int)
 a0:bits .and .i64 (C0:Int) (A:Int)=(S0:Int)
 n1:bits .andNot .i64 (S1:Int) (S0:Int)=((2 ^ F:Nat):Int)
 n0:bits .andNot .i64 (S0:Int) (S1:Int)=((2 ^ T:Nat):Int)
 f:F<12
 t:T<12
 w0:IntKind.i64.wrap (C0:Int)=(C0:Int)
 at1:B[C1]? =some (C0:Int)
theorem Trail.step {n N d:Nat}{B:List Int}{a:Nat→Nat}{e:Nat→Nat×Nat}(h:Trail n N d B a e)(hn:n≤12)(hN:N≤49152){j:Nat}(hj:j<d):
  aQw n j B a e (2 ^ n-1) (a (j+1)) (a j) (a (j+1)%2 ^ n) (a j%2 ^ n) (e j).1 (e j).2:=by
 have l1:=h.lt (j+1) (by omega);have l0:=h.lt j (by omega);have hf:=h.f j hj;have ht:=h.t j hj;have p0:2 ^ n≤2 ^ 12:=aRs (n:=2) (by omega) hn;have p1:2 ^ (e j).1≤2 ^ 11:=aRs (n:=2) (by omega) (by omega);have p2:2 ^ (e j).2≤2 ^ 11:=aRs (n:=2) (by omega) (by omega);have hp:=aTq n;have m1:=Nat.mod_lt (a (j+1)) hp;have m0:=Nat.mod_lt (a j) hp;refine⟨aJ8 _ n (by omega) hn,aJ8 _ n (by omega) hn,?_,?_,by omega,by omega,aRj _ (by omega),?_⟩
 ·have hm:=h.mv j hj;rw[hm]at m1⊢;exact aO6 (h.hf j hj) (h.ht j hj) (by omega) (by omega) (by omega)
 ·have hm:=h.mv j hj;rw[hm]at m1⊢;exact aO5 (h.hf j hj) (h.ht j hj) (by omega) (by omega) (by omega)
 have:=h.back j hj;rw[aRl,aRh (by rw[h.len];exact l1)]at this;rw[aRh (by rw[h.len];exact l1)];exact congrArg some this
theorem aNf (n N d cB gB:Nat)(B:List Int)(a:Nat→Nat)(e:Nat→Nat×Nat)(w:World)(hn:n≤12)(hN:N≤49152)(hd:d≤60)(hT:Hid (Trail n N d B a e))(hS:Hid (Sl w (some ⟨gB,0,none⟩) N cB 1 (oP B)))(hE:Hid (BitTab w))(hb:gB<w.heap.size):
  U 198 #[.slice (some ⟨gB,0,none⟩) N cB,I ((a 0:Nat)),I ((a d:Nat)),n] w (fY ((List.range d).map (fun i=>jQ (e i))) w):=by
 have hp:=aTq n;have s:2 ^ n≤2 ^ 12:=aRs (n:=2) (by omega) hn;obtain⟨A,hA⟩: ∃A,A=2 ^ n-1:=⟨_,rfl⟩
 have b:=xQ (show∀j,j<d→_ from fun j hj=>hT.out.step hn hN hj);rw[←hA]at b;obtain⟨Q,hQ⟩: ∃Q:Nat,Q=2 ^ n:=⟨_,rfl⟩
 have ad:(2:Int) ^ n=(Q:Int):=by rw[hQ];simp
 have af:IntKind.i64.wrap (Q:Int)=(Q:Int):=aRj _ (by omega);have ae:IntKind.i64.wrap ((Q:Int)-1)=(A:Int):=by rw[aRj _ (by omega)];omega
 clear hA hQ hp s;obtain⟨s0,c⟩: ∃s0,s0=a 0:=⟨_,rfl⟩
 have f:=xQ c;rw[←c];clear c;go_enter func198,ntmps198;have M0:=(show Mem w w [aJ w TSL 2 (none) (0) (0) ((pB e d 0).flatMap aL)]from(Mem.start w).ownNew (Ext.refl _) (aRw _ _ TSL 2) (aRg _))
 go_wp2;go_loopw [2,10] (fun st v wr=> ∃(k:Nat) (q:OA) (lc:Nat),k≤d∧st=I ((a (d-k):Nat))∧v= .slice q k lc∧Mem w wr [aJ w TSL 2 (q) (k) (lc) ((pB e d k).flatMap aL)]) (fun _ v _=>d-aR2 v)
 case atStart=>exact⟨0,none,0,aRo _,rfl,rfl,M0⟩
 case round=>
  clear M0;obtain⟨k,q,lc,hk,rfl,rfl,hM⟩:=hrel;have HM:=hM;clear hM;by_cases hlt:k<d
  ·obtain⟨j,hj⟩: ∃j,j=d-1-k:=⟨_,rfl⟩
   have hB:=b j (by omega);have h:=hT.out.lt (j+1) (by omega);have x:a (j+1)≠s0:=by rw[f.out];intro e2;have:=hT.out.far (j+1) (by omega) e2;omega
   have m:=xQ (aI8 e d k);rw[←hj]at m;have o:d-k=j+1:=by omega
   have p:=xQ (show d-(k+1)=j by omega);rw[o];generalize a (j+1)=C1 at*;have t:=xQ (show a (d-(k+1))=a j by rw[p.out]);generalize a j=C0 at*;generalize C1%2 ^ n=S1 at*;generalize C0%2 ^ n=S0 at*;have u:Hid (jQ (e j)=(((e j).1:Int),((e j).2:Int))):=rfl;generalize (e j).1=F at*;generalize (e j).2=T at*;obtain⟨b1,b2,b3,b4,b5,b6,b7,b8⟩:=hB;have HF:=xQ (fun(w':World) (hx:Ext w w')=>aAb F w' b5 (hE.out.ext hx));have HT:=xQ (fun(w':World) (hx:Ext w w')=>aAb T w' b6 (hE.out.ext hx));have pF:2 ^ F≤2 ^ 11:=aRs (n:=2) (by omega) (by omega);have pT:2 ^ T≤2 ^ 11:=aRs (n:=2) (by omega) (by omega);generalize 2 ^ F=PF at*;generalize 2 ^ T=PT at*;have u1:IntKind.u64.wrap (PF:Int)=(PF:Int):=by rw[IntKind.wrap_u64];omega
   have u2:IntKind.u64.wrap (PT:Int)=(PT:Int):=by rw[IntKind.wrap_u64];omega
   have t0:((C1:Int)!=(s0:Int))=true:=by simp;omega
   have i1:(0:Int)≤(C1:Int):=by omega
   have i2:(C1:Int)<(N:Int):=by omega
   have cb:wr.cell? ⟨gB,C1,none⟩=some (.int .i32 (C0:Int)):=by refine(HM.ext.cells.1 _ _ hb).trans ?_;obtain⟨b',o',e1,_,hc⟩:=hS.out.rd (by omega);injection e1 with e1;injection e1 with e1 e2;subst e1 e2;have:=hc C1 (by omega);rw[aSq]at this;rw[this];simp[oP,b8]
   clear x h pF pT b5 b6 b8 b hT o
   go_wp2_with (first
    |(go_at_call 173;first
      |((with_reducible refine(HF _ HM.ext).mono ?_);rintro e9 w9 ⟨rfl,rfl⟩)
      |((with_reducible refine(HT _ HM.ext).mono ?_);rintro e9 w9 ⟨rfl,rfl⟩))
    |(at_builtin;go_loud (refine cK rA rfl _ _ rfl (HM.adv ((Ext.refl _).alloc (.cells #[F,T] TSL))) 0 rfl rfl (aL ((F:Int),(T:Int))) rfl (eG _ _ _ 1 2 _ (by first|rfl|simp) (by first|rfl|simp) (by simp[maxLen])) (oD _ _) (by omega) ?_;intro q7 c7 w6 M7)))
   have M8:=(show Mem w w6 [aJ w TSL 2 (q7) (k+1) (c7) ((pB e d (k+1)).flatMap aL)]from by rw[m.out,aS8,aSm,List.flatMap_nil,aS6,u.out];exact M7)
   clear M7 HM;go_wp2;go_roundw
   case rel=>exact⟨k+1,q7,c7,by omega,by rw[t.out],rfl,M8⟩
   case measure=>simp[aR2];omega
  obtain rfl:d=k:=by omega
  have t0:((s0:Int)!=(s0:Int))=false:=by simp
  rw[show a (d-d)=s0 by rw[aTi,f.out]];have ab:=xQ (aLg e d);have y:=xQ (aLh e d d);by_cases h0:d=0
  ·subst h0;go_wp2_with fail;refine(aK7 q lc _).mono ?_;rintro e9 w9 ⟨rfl,rfl⟩;go_wp2;go_ret;exact⟨q,lc,rfl,HM.ow 0,HM.ext⟩
  obtain⟨g,rfl,z,aa⟩:=HM.so 0;clear z aa;have HR:=xQ (aMw g d lc (pB e d d) w wr (by omega) y.out HM);go_wp2_with fail;refine HR.out.mono ?_;rintro e9 w9 ⟨rfl,l⟩;have M9:=(show Mem w w9 [aJ w TSL 2 (some ⟨g,0,none⟩) (d) (lc) (((List.range d).map (fun i=>jQ (e i))).flatMap aL)]from by rw[←ab.out];exact l)
  clear l HM HR;go_wp2;go_ret;have r:((List.range d).map (fun i=>jQ (e i))).length=d:=by simp
  exact⟨some ⟨g,0,none⟩,lc,by rw[r];rfl,by rw[r];exact M9.ow 0,M9.ext⟩
end
theorem nL (v:Value)(n:Nat):(madeCells #[v] n).toList=List.replicate n v∧(madeCells #[v] n).size=n:=by
 constructor
 ·apply List.ext_getElem<;>simp[madeCells,Nat.mod_one]
 simp[madeCells]
def iU (n:Nat)(rows:List RowD):List Value:=rows.map RowD.v++List.replicate (n-rows.length) (.slice none 0 0)
theorem aO1 {n:Nat}{rows:List RowD}(h:rows.length<n):(iU n rows)[rows.length]? =some (.slice none 0 0):=by unfold iU;rw[aSb (by simp)];simp[aTh];omega
theorem aL7 {n:Nat}{rows:List RowD}(h:rows.length<n)(r:RowD):(iU n rows).set rows.length r.v=iU n (rows++ [r]):=by
 unfold iU;have e:n-rows.length=(n-(rows++ [r]).length)+1:=by simp;omega
 rw[e,aTm,aTu _ _ (by simp),aSt,aS5];simp
theorem aL8 {n k:Nat}{rows:List RowD}{r:RowD}(h:rows[k]? =some r):(iU n rows)[k]? =some r.v:=by unfold iU;rw[aS1 (by simpa using(aRk.1 h).1),aRy,h];rfl
theorem tG (xs:List Int)(k:Nat)(x:Int):(oP xs).set k (.int .i32 x)=oP (xs.set k x):=by simp[oP,List.map_set]
theorem aCo {xs:List Int}{k:Nat}{x:Int}(h:xs[k]? =some x):(oP xs)[k]? =some (.int .i32 x):=by simp[oP,h]
theorem uJ {aA:Int}{n M s f:Nat}(hf:f≤n): ∀v∈iT aA n M s f,v∈oT aA n M s:=by intro v hv;rw[←aAp];unfold iT at hv⊢;obtain⟨x,hx,hv⟩:=List.mem_flatMap.1 hv;exact List.mem_flatMap.2 ⟨x,aRz.2 (aRf (aRz.1 hx) hf),hv⟩
theorem aAo {aA:Int}{n M s f j:Nat}(hf:f<n)(hb:(s%M).testBit f=false): ∀v∈jI aA n M s f j,v∈oT aA n M s:=by intro v hv;refine uJ (f:=f+1) hf v ?_;rw[rT,aOa hb];refine List.mem_append_right _ ?_;unfold jI at hv⊢;rw[aT3];obtain⟨t,ht,e⟩:=List.mem_map.1 hv;obtain⟨h1,h2⟩:=aS4.1 ht;exact List.mem_map.2 ⟨t,aS4.2 ⟨aSz h1,h2⟩,e⟩
structure aQv (n u f t PF PT P2 X1 mv nx:Nat) (D:Int):Prop where
 x1:bits .xor .i64 (u:Int) (PF:Int)=(X1:Int)
 x2:bits .xor .i64 (X1:Int) (PT:Int)=(mv:Int)
 no:f≠u/P2→mv=nx
 yes:f=u/P2→IntKind.i64.wrap ((mv:Int)+D)=(nx:Int)
 d:IntKind.i64.wrap (((t:Int)-(f:Int))*(P2:Int))=D
theorem aP9 {n u f t:Nat}(hn:n≤12)(hu:u<n*2 ^ n)(a:f<n)(b:t<n)(hf:u.testBit f=false)(ht:u.testBit t=true)(hb:gY (2 ^ n) (u/2 ^ n) (u%2 ^ n) f t<n*2 ^ n):
  aQv n u f t (2 ^ f) (2 ^ t) (2 ^ n) (u ^^^ 2 ^ f) (dB u f t) (gY (2 ^ n) (u/2 ^ n) (u%2 ^ n) f t) (((t:Int)-(f:Int))*(2 ^ n:Nat)):=by
 have p0:2 ^ n≤2 ^ 12:=aRs (n:=2) (by omega) hn;have p1:2 ^ f≤2 ^ 11:=aRs (n:=2) (by omega) (by omega);have p2:2 ^ t≤2 ^ 11:=aRs (n:=2) (by omega) (by omega);have hN:n*2 ^ n≤12*4096:=Nat.mul_le_mul hn (by omega);have e:u ^^^ 2 ^ f<2 ^ 16:=Nat.xor_lt_two_pow (by omega) (by omega);have c:((t:Int)-(f:Int))*(2 ^ n:Nat)≤12*4096:=by
  have h1:((t:Int)-(f:Int))*(2 ^ n:Nat)=(t:Int)*(2 ^ n:Nat)-(f:Int)*(2 ^ n:Nat):=Int.sub_mul _ _ _;have h2:t*2 ^ n≤12*4096:=Nat.mul_le_mul (by omega) (by omega);have h3:(t:Int)*(2 ^ n:Nat)=((t*2 ^ n:Nat):Int):=by push_cast;rfl
  have h4:(f:Int)*(2 ^ n:Nat)=((f*2 ^ n:Nat):Int):=by push_cast;rfl
  omega
 have d: -(12*4096)≤((t:Int)-(f:Int))*(2 ^ n:Nat):=by
  have h1:((t:Int)-(f:Int))*(2 ^ n:Nat)=(t:Int)*(2 ^ n:Nat)-(f:Int)*(2 ^ n:Nat):=Int.sub_mul _ _ _;have h2:f*2 ^ n≤12*4096:=Nat.mul_le_mul (by omega) (by omega);have h3:(t:Int)*(2 ^ n:Nat)=((t*2 ^ n:Nat):Int):=by push_cast;rfl
  have h4:(f:Int)*(2 ^ n:Nat)=((f*2 ^ n:Nat):Int):=by push_cast;rfl
  omega
 refine⟨vO _ _ (by omega) (by omega),?_,fun hc=>(aPa a b hf ht hc).symm,fun hc=> ?_,aRj _ (by omega)⟩
 ·rw[vO _ _ (by omega) (by omega),aLp hf ht]
 have h1:=aN3 a b hf ht hc;have h2:((2 ^ n:Nat):Int)=(2:Int) ^ n:=by simp
 rw[h2,←h1];exact aRj _ (by omega)
theorem aOp {u f:Nat}(hu:u<9223372036854775808)(hf:f<12)(hb:u.testBit f=false):bits .and .i64 (u:Int) ((2 ^ f:Nat):Int)=0:=by have p1:2 ^ f≤2 ^ 11:=aRs (n:=2) (by omega) (by omega);rw[pR u _ hu (by omega),aJ7,hb];rfl
theorem aJ4 {u f:Nat}(hu:u<9223372036854775808)(hf:f<12)(hb:u.testBit f=true):bits .and .i64 (u:Int) ((2 ^ f:Nat):Int)=((2 ^ f:Nat):Int):=by have p1:2 ^ f≤2 ^ 11:=aRs (n:=2) (by omega) (by omega);rw[pR u _ hu (by omega),aJ7,hb];rfl
theorem SGoal.trail {aA:Int}{xs:List Int}{c d u:Nat}{B:List Int}(hn:xs.length≤12)(h:SGoal aA xs c d u B)(hl:B.length=xs.length*2 ^ xs.length):
  Trail xs.length (xs.length*2 ^ xs.length) d B (fun j=>fC xs.length (gP aA xs.length (aV (hU aA xs.length (bP xs).length)) (st0 xs c) j)) (fun j=>gZ aA xs.length (aV (hU aA xs.length (bP xs).length)) (st0 xs c) j):=by
 have a: ∀j,j≤d→fC xs.length (gP aA xs.length (aV (hU aA xs.length (bP xs).length)) (st0 xs c) j)%2 ^ xs.length=(gP aA xs.length (aV (hU aA xs.length (bP xs).length)) (st0 xs c) j).2:=fun j hj=>(lB (h.pt j hj).set).2
 refine⟨hl,fun j hj=>tQ (h.pt j hj).car (h.pt j hj).set,fun j hj e=>h.far j hj e,h.back,fun j hj=> ?_,fun j hj=> ?_,fun j hj=> ?_,fun j hj=> ?_,fun j hj=> ?_⟩
 ·exact(fT.1 (h.edge j hj).1).1
 ·exact(fT.1 (h.edge j hj).1).2.1
 ·rw[a j (by omega)];exact(fT.1 (h.edge j hj).1).2.2.2.1
 ·rw[a j (by omega)];exact(fT.1 (h.edge j hj).1).2.2.2.2
 rw[a j (by omega),a (j+1) (by omega),(h.edge j hj).2];rfl
section
open Go.Proofs.Tryz
abbrev uY:TypeId:=21
theorem aNz (x:Int)(h: -2147483648≤x∧x≤2147483647):IntKind.i32.wrap x=x:=by simp[IntKind.wrap,IntKind.signed,IntKind.bits];omega
theorem aNw (aA aB:Int)(pb po:Nat)(n a N P2 c C0 st:Nat)(xs:List Int)(pf:Nat→Bool)(adj:Nat→List Nat)(w:World)(d4:4≤n)(hn:n≤12)(cp:Hid (xs.length=n))(dm:pb<w.heap.size)(hE:Hid (BitTab w))(cc:N≤49152)(bq:n≤N)(dq:C0≤12*4096)
  (ah:Hid (P2=2 ^ n))(cd:Hid (N=n*2 ^ n))(cb:Hid (C0=c*2 ^ n))(cz:Hid (st=C0+jR pf n))(c0:st<N)
  (dv:(2:Int) ^ n=(P2:Int))(d1:IntKind.i64.wrap ((c:Int)*(P2:Int))=(C0:Int))(d5:IntKind.i64.wrap ((n:Int)*(P2:Int))=(N:Int))
  (dn:Hid (∀k x,xs[k]? =some x→pf k=decide (x=0))) (cg:Hid (adj=fun u=>oT aA n P2 u))
  (da:Hid (∀k x,xs[k]? =some x→w.cell? ⟨pb,po+k,none⟩=some (I x)))
  (HC:Hid (∀(k:Nat),k<n→ ∀w',Ext w w'→U 194 #[aH aA aB (some ⟨pb,po,none⟩) n a,k] w' (aZ (bF (aT aA n k)) w')))
  (ae:Hid (∀u v,u<N→v∈oT aA n P2 u→v<N))
  (b2:Hid (∀k B Q,SRun adj (fun v=>v/P2=0) N st k B Q→SOk N B Q))
  (HG:Hid (∀k u B Q,SRun adj (fun v=>v/P2=0) N st k B Q→Q[k]? =some u→u/P2=0→ ∃(d:Nat) (code:Nat→Nat) (e:Nat→Nat×Nat),d≤60∧Trail n N d B code e∧code 0=st∧code d=u∧dV aA xs c=some ((List.range d).map (fun i=>jQ (e i)))))
  (bz:Hid (∀k B Q,SRun adj (fun v=>v/P2=0) N st k B Q→Q.length≤k→dV aA xs c=none)):
  U 169 #[aH aA aB (some ⟨pb,po,none⟩) n a,c] w (kD (dV aA xs c) w):=by
 obtain⟨AR,a4⟩: ∃AR:Array Value,AR=madeCells #[((),())] n:=⟨_,rfl⟩
 have dj: ∀w:World,(Instr.makeSlice 185 (I n) (I n)).run prog w= .ok (.slice (some ⟨w,0,none⟩) n n) (w.alloc (.cells AR TSS)):=fun w=>by rw[a4];exact run_make_row' _ _ (.slice none 0 0) 24 underlying185 (by kernel_rfl) rfl .i64 .i64 n (by omega) (by omega) w
 have b7:Hid (AR.toList=iU n []):=by show _=_;rw[a4,(nL _ n).1];simp[iU]
 have b8:Hid (AR.size=n):=by show _=_;rw[a4];exact(nL _ n).2
 obtain⟨AB,a3⟩: ∃AB:Array Value,AB=madeCells #[.int .i32 0] N:=⟨_,rfl⟩
 have cs: ∀w:World,(Instr.makeSlice 196 (I N) (I N)).run prog w= .ok (.slice (some ⟨w,0,none⟩) N N) (w.alloc (.cells AB uY)):=fun w=>by rw[a3];exact run_make_row' _ _ (.int .i32 0) 4 underlying196 (by kernel_rfl) rfl .i64 .i64 N (by omega) (by omega) w
 have b9:Hid (AB.toList=oP (List.replicate N 0)):=by show _=_;rw[a3,(nL _ N).1];simp[oP]
 have ca:Hid (AB.size=N):=by show _=_;rw[a3];exact(nL _ N).2
 clear a4 a3;go_enter func169,ntmps169;go_upto_region 4 with fail
 have ME:=(show Mem w ((w.alloc (.cells #[aA,aB,.slice (some ⟨pb,po,none⟩) n a] TH3)).alloc (.cells AR TSS)) [gE w TI 1 [],aJ w TSS 1 (some ⟨w.heap.size+1,0,none⟩) n n (iU n []),aI w w TH3 #[aA,aB,.slice (some ⟨pb,po,none⟩) n a]]from by
  have h1:=((Mem.start w).c0 TH3 #[aA,aB,.slice (some ⟨pb,po,none⟩) n a]).lit TSS 1 n (w.heap.size+1) AR (by simp) (by rw[b8.out];omega) (by simp[maxLen];omega);rw[b7.out]at h1
  exact h1.rows0 rfl)
 clear b7 b8 dj;have e0:=(ME.bk 2).tri;obtain⟨h0,h1,h2⟩:=e0;go_wp2;clear h0 h1 h2;go_loopw [8,32] (fun s i wr=> ∃(k S:Nat) (rows:List RowD),k≤n∧i=I k∧s=I S∧S=C0+jR pf k∧rG aA n k rows∧Mem w wr [gE w TI 1 rows,aJ w TSS 1 (some ⟨w.heap.size+1,0,none⟩) n n (iU n rows),aI w w TH3 #[aA,aB,.slice (some ⟨pb,po,none⟩) n a]]) (fun _ i _=>n-(intOf i).toNat)
 case atStart=>exact⟨0,C0,[],aRo _,rfl,rfl,rfl,⟨rfl,fun j r h=>by simp at h⟩,ME⟩
 case round=>
  clear ME;obtain⟨k,S,rows,hk,rfl,rfl,hS,ar,hM⟩:=hrel;have HM:=hM;have HR:=xQ ar;have HS:=xQ hS;have dh:S<12*4096+4096:=by have h1:=qO pf k;have h2:2 ^ k≤2 ^ 12:=aRs (n:=2) (by omega) (by omega);omega
  clear hM ar hS;by_cases hlt:k<n
  ·obtain⟨x,hx⟩: ∃x,xs[k]? =some x:=⟨_,aRh (by rw[cp.out];exact hlt)⟩
   have i1:(0:Int)≤(k:Int):=by omega
   have i2:(k:Int)<(n:Int):=by omega
   have cx:wr.cell? ⟨pb,po+k,none⟩=some (I x):=(HM.ext.cells.1 _ _ dm).trans (da k x hx);obtain⟨h0,h1,h2⟩:=(HM.bk 2).tri;have a2:=xQ (dn.out k x hx);clear hx;have cy:=HR.out.1;obtain⟨nb,p⟩: ∃nb,nb=aT aA n k:=⟨_,rfl⟩
   have ai:=xQ p;have bx:Hid (∀w',Ext w w'→U 194 #[aH aA aB (some ⟨pb,po,none⟩) n a,k] w' (aZ (bF nb) w')):=by rw[p];exact HC k hlt
   have cv:(bF nb).length=nb.length:=by simp[bF]
   clear p;go_wp2_with fail;clear h0 h1 h2 cx;refine(bx _ HM.ext).mono ?_;rintro e w5 ⟨q5,c5,rfl,o5,ax⟩;rw[cv]at o5⊢;have M5:=((HM.call ax o5).rowsAdd rfl)
   clear o5 ax HM bx;have co:w5.cell? ⟨w.heap.size+1,k,none⟩=some (.slice none 0 0):=by have h7:=(M5.ow 1).cellAt k (by omega);rw[h7];have h8:=aO1 (n:=n) (rows:=rows) (by omega);rw[cy]at h8;exact h8
   have db:w5.frozen? ⟨w.heap.size+1,k,none⟩=false:=(M5.ow 1).frozenAt k
   have ce:=xQ (show rG aA n (k+1) (rows++ [⟨q5,nb.length,c5,ivs (bF nb)⟩])from by
    have h7:=vY (q:=q5) (c:=c5) HR.out;rw[←ai.out]at h7
    exact h7)
   have M6:=(show Mem w (w5.setCell ⟨w.heap.size+1,k,none⟩ (.slice q5 nb c5)) [gE w TI 1 (rows++ [⟨q5,nb.length,c5,ivs (bF nb)⟩]),aJ w TSS 1 (some ⟨w.heap.size+1,0,none⟩) n n (iU n (rows++ [⟨q5,nb.length,c5,ivs (bF nb)⟩])),aI w w TH3 #[aA,aB,.slice (some ⟨pb,po,none⟩) n a]]from by
    have h7:=aL7 (n:=n) (rows:=rows) (by omega) ⟨q5,nb.length,c5,ivs (bF nb)⟩;rw[←h7,cy]
    exact M5.ostore (i:=1) rfl k (.slice q5 nb c5))
   clear M5 HR ai;go_upto_region 8 with fail;clear co db;generalize c2:World.setCell _ _ _=w6;rw[c2]at M6;clear c2;by_cases hx0:x=0
   ·have t0:(x==0)=true:=by simp[hx0]
    have ad:=a2.out;rw[decide_eq_true hx0]at ad;obtain⟨PK,a5⟩: ∃PK:Nat,PK=2 ^ k:=⟨_,rfl⟩
    have d7:(2:Int) ^ k=(PK:Int):=by rw[a5];simp
    have d0:PK≤2048:=by rw[a5];exact aRp (aRs (by omega) (show k≤11 by omega)) (by decide)
    have bw:IntKind.i64.wrap (PK:Int)=(PK:Int):=aRj _ (by omega);obtain⟨S2,bi⟩: ∃S2,S2=C0+jR pf (k+1):=⟨_,rfl⟩
    have d6:bits .or .i64 (S:Int) (PK:Int)=(S2:Int):=by rw[aHz S PK (by omega) (by omega),a5,HS.out,cb.out,aMl hlt ad,bi,cb.out]
    have bh:=xQ bi;clear ad a5 hx0 bi;go_wp2;go_roundw
    case rel=>exact⟨k+1,S2,_,by omega,by go_num,rfl,bh.out,ce.out,M6⟩
    case measure=>simp[intOf];omega
   have t0:(x==0)=false:=by simp[hx0]
   have ad:=a2.out;rw[decide_eq_false hx0]at ad;have bh:=xQ (show S=C0+jR pf (k+1) by rw[aMm ad];exact HS.out);clear ad hx0;go_wp2;go_roundw
   case rel=>exact⟨k+1,S,_,by omega,by go_num,rfl,bh.out,ce.out,M6⟩
   case measure=>simp[intOf];omega
  obtain rfl:n=k:=by omega
  obtain rfl:S=st:=by rw[HS.out,cz.out]
  have a8:=xQ HR.out;clear HS HR dh;obtain⟨gB,bp⟩: ∃gB,gB=wr.heap.size:=⟨_,rfl⟩
  have M2:=(show Mem w (wr.alloc (.cells AB uY)) [aJ w uY 1 (some ⟨gB,0,none⟩) N N (oP (List.replicate N 0)),gE w TI 1 rows,aJ w TSS 1 (some ⟨w.heap.size+1,0,none⟩) n n (iU n rows),aI w w TH3 #[aA,aB,.slice (some ⟨pb,po,none⟩) n a]]from by
   have h1:=HM.lit uY 1 N gB AB bp.symm (by rw[ca.out];omega) (by simp[maxLen];omega);rw[b9.out]at h1
   exact h1)
  go_upto_region 12 with fail;rw[←bp];clear b9 ca cs HM bp;generalize c1:World.alloc _ _=w2;rw[c1]at M2;clear c1;go_wp2;go_loopw [56] (fun i wr=> ∃(k:Nat),k≤N∧i=I k∧Mem w wr [aJ w uY 1 (some ⟨gB,0,none⟩) N N (oP (List.replicate k (-1)++List.replicate (N-k) 0)),gE w TI 1 rows,aJ w TSS 1 (some ⟨w.heap.size+1,0,none⟩) n n (iU n rows),aI w w TH3 #[aA,aB,.slice (some ⟨pb,po,none⟩) n a]]) (fun i _=>N-(intOf i).toNat)
  case atStart=>exact⟨0,aRo _,rfl,by simpa using M2⟩
  case round=>
   clear M2;obtain⟨k,hk,rfl,hM⟩:=hrel;have HM:=hM;clear hM;by_cases hlt:k<N
   ·have i1:(0:Int)≤(k:Int):=by omega
    have i2:(k:Int)<(N:Int):=by omega
    have hl:(List.replicate k (-1:Int)++List.replicate (N-k) 0)[k]? =some 0:=by rw[aSb (by simp)];simp[aTh];omega
    have c3:wr.cell? ⟨gB,k,none⟩=some (.int .i32 0):=by have:=(HM.ow 0).cellAt k (by omega);rw[this];exact aCo hl
    have c4:wr.frozen? ⟨gB,k,none⟩=false:=(HM.ow 0).frozenAt k;clear hl;have M2:=(HM.ostore (i:=0) rfl k (.int .i32 (-1)))
    go_wp2;go_roundw
    case rel=>exact⟨k+1,by omega,by go_num,by have:=M2;rw[tG,aIi hlt]at this;exact this⟩
    case measure=>simp[intOf];omega
   obtain rfl:N=k:=by omega
   rw[aTi,show List.replicate N (-1:Int)++List.replicate 0 0=List.replicate N (-1) by simp]at HM;have i1:(0:Int)≤(S:Int):=by omega
   have i2:(S:Int)<(N:Int):=by omega
   have i3:IntKind.i32.wrap (S:Int)=(S:Int):=aNz _ (by omega);have c3:wr.cell? ⟨gB,S,none⟩=some (.int .i32 (-1)):=by have:=(HM.ow 0).cellAt S (by omega);rw[this];exact aCo (by rw[aTh,if_pos c0])
   have c4:wr.frozen? ⟨gB,S,none⟩=false:=(HM.ow 0).frozenAt S;have M2:=(show Mem w (wr.setCell ⟨gB,S,none⟩ (.int .i32 (S:Int))) [aJ w uY 1 (some ⟨gB,0,none⟩) N N (oP ((List.replicate N (-1)).set S (S:Int))),gE w TI 1 rows,aJ w TSS 1 (some ⟨w.heap.size+1,0,none⟩) n n (iU n rows),aI w w TH3 #[aA,aB,.slice (some ⟨pb,po,none⟩) n a]]from by rw[←tG];exact HM.ostore (i:=0) rfl S (.int .i32 (S:Int)))
   go_upto_region 18 with fail;clear c3 c4 HM;generalize bw:World.setCell _ _ _=w1;rw[bw]at M2;clear bw;have M3:=(M2.lit TI 1 1 w1 #[S] rfl rfl (by simp[maxLen]))
   have I1:=xQ (show SRun adj (fun v=>v/P2=0) N S 0 ((List.replicate N (-1)).set S (S:Int)) [S]from .init);clear M2;go_wp2;go_loopw [13,14] (fun v i wr=> ∃(k:Nat) (q:OA) (l lc:Nat) (B:List Int) (Q:List Nat),k≤l∧i=I k∧v= .slice q l lc∧l=Q.length∧l≤N∧SRun adj (fun v=>v/P2=0) N S k B Q∧Mem w wr [aJ w TI 1 (q) (l) lc (ivs (bF (Q))),aJ w uY 1 (some ⟨gB,0,none⟩) N N (oP (B)),gE w TI 1 rows,aJ w TSS 1 (some ⟨w.heap.size+1,0,none⟩) n n (iU n rows),aI w w TH3 #[aA,aB,.slice (some ⟨pb,po,none⟩) n a]]) (fun _ i _=>N-(intOf i).toNat)
   case atStart=>exact⟨0,some ⟨w1,0,none⟩,1,1,_,[S],aRo _,rfl,rfl,rfl,by omega,I1.out,M3⟩
   case round=>
    clear M3 I1;obtain⟨k,q,l,lc,B,Q,hk,rfl,rfl,cq,d3,au,hM⟩:=hrel;have HM:=hM;have aj:=xQ au;have a1:=xQ cq;have bf:=xQ (b2 k B Q au);clear hM au cq;by_cases hlt2:k<l
    ·obtain⟨u,hu⟩: ∃u,Q[k]? =some u:=⟨_,aRh (by rw[←a1.out];exact hlt2)⟩
     have av:u<N:=bf.out.bd u (aRi hu);have HU:=xQ hu;clear hu;obtain⟨gL,rfl,df,dg⟩:=HM.so 0;clear df dg;have i3:(0:Int)≤(k:Int):=by omega
     have i4:(k:Int)<(l:Int):=by omega
     have cu:wr.cell? ⟨gL,k,none⟩=some (I u):=by have:=(HM.ow 0).cellAt k (by omega);rw[this];simp[ivs,bF,HU.out]
     obtain⟨cr,bm⟩: ∃cr,cr=u/P2:=⟨_,rfl⟩
     have dw:(u:Int)/(P2:Int)=(cr:Int):=by rw[bm];simp
     have az:=xQ bm;clear bm;by_cases hc0:cr=0
     ·have t0:((cr:Int)==0)=true:=by simp[hc0]
      obtain⟨d,code,ed,dd,cf,ba,cj,ci⟩:=HG k u B Q aj HU.out (by rw[←az.out];exact hc0);have b4:=xQ (fun(w':World) (hx:Ext wr w')=>aNf n N d N gB B code ed w' hn cc dd cf ((HM.sq 1).ext hx) (hE.out.ext (HM.ext.trans hx)) (aRf (HM.hi 1) hx.sz));rw[ba,cj]at b4;have c8:=xQ ci;clear cf ba cj ci hc0;go_wp2_with fail;clear cu;refine(b4 _ (Ext.refl _)).mono ?_;rintro e w5 ⟨q5,c5,rfl,o5,ax⟩;have M5:=(HM.call ax o5)
      clear o5 ax HM;go_wp2;exact bodyPost_ret (v:= .tuple #[.slice q5 ((List.range d).map (fun i=>jQ (ed i))).length c5,.bool true]) (by simp[results,results169,go_sem]) rfl (by rw[c8.out];exact⟨q5,c5,rfl,M5.ow 0,M5.ext⟩)
     have t0:((cr:Int)==0)=false:=by simp;omega
     have de:Hid (¬u/P2=0):=by show¬_;rw[←az.out];exact hc0
     clear hc0;go_wp2;clear cu;go_loopw [13,91] (fun v i wr=> ∃(f:Nat) (q:OA) (l2 lc:Nat) (B2:List Int) (Q2:List Nat),f≤n∧i=I f∧v= .slice q l2 lc∧l2=Q2.length∧(B2,Q2)=bQ (u:Int) (B,Q) (iT aA n P2 u f)∧Mem w wr [aJ w TI 1 (q) (l2) lc (ivs (bF (Q2))),aJ w uY 1 (some ⟨gB,0,none⟩) N N (oP (B2)),gE w TI 1 rows,aJ w TSS 1 (some ⟨w.heap.size+1,0,none⟩) n n (iU n rows),aI w w TH3 #[aA,aB,.slice (some ⟨pb,po,none⟩) n a]]) (fun _ i _=>n-(intOf i).toNat)
     case atStart=>exact⟨0,some ⟨gL,0,none⟩,l,lc,B,Q,aRo _,rfl,rfl,a1.out,rfl,HM⟩
     case round=>
      clear HM;obtain⟨f,q,l2,lc,B2,Q2,hf,rfl,rfl,bb,bo,hM⟩:=hrel;have bc:SOk N B2 Q2:=by have:=SOk.expand (u:=(u:Int)) (by omega) (iT aA n P2 u f) bf (fun v hv=>ae u v av (uJ hf v hv));rw[←bo]at this;exact this
      have HM:=hM;have a0:=xQ bo;have y:=xQ bb;have b0:=xQ bc;clear hM bo bb bc;by_cases hlt3:f<n
      ·obtain⟨PF,z⟩: ∃PF:Nat,PF=2 ^ f:=⟨_,rfl⟩
       have du:(2:Int) ^ f=(PF:Int):=by rw[z];simp
       have dr:PF≤2048:=by rw[z];exact aRp (aRs (by omega) (show f≤11 by omega)) (by decide)
       have d8:IntKind.i64.wrap (PF:Int)=(PF:Int):=aRj _ (by omega);have a2:=xQ z;have j1:(0:Int)≤(f:Int):=by omega
       have j2:(f:Int)<(n:Int):=by omega
       by_cases hbf:u.testBit f=true
       ·have ch:bits .and .i64 (u:Int) (PF:Int)=(PF:Int):=by rw[z];exact aJ4 (by omega) (by omega) hbf
        have dt:0<PF:=by rw[z];exact aTq f
        have t1:((PF:Int)!=0)=true:=by simp;omega
        have br:Hid (iT aA n P2 u (f+1)=iT aA n P2 u f):=by show _=_;rw[rT,aR6 (by rw[ah.out,qU u hlt3];exact hbf),aS6]
        clear hbf z;go_wp2;go_roundw
        case rel=>exact⟨f+1,q,l2,lc,B2,Q2,by omega,by go_num,rfl,y.out,by rw[br.out];exact a0.out,HM⟩
        case measure=>simp[intOf];omega
       have hbf:u.testBit f=false:=by simpa using hbf
       have ch:bits .and .i64 (u:Int) (PF:Int)=0:=by rw[z];exact aOp (by omega) (by omega) hbf
       have ak:(u%P2).testBit f=false:=by rw[ah.out,qU u hlt3];exact hbf
       have c6:=xQ hbf;have a7:=xQ ak;obtain⟨⟨rq,rn,rc,ea⟩,ag⟩: ∃r,rows[f]? =some r:=⟨_,aRh (by rw[a8.out.1];exact hlt3)⟩
       obtain⟨bs,bu⟩:=a8.out.2 f _ ag;dsimp only at bs bu;have bg:=xQ ag;obtain⟨nb,p⟩: ∃nb,nb=aT aA n f:=⟨_,rfl⟩
       rw[←p]at bs bu;have dl:nb.length≤n:=by rw[p];exact aRp (aSl _ _) (by simp)
       have ai:=xQ p;subst bs bu;have dc:wr.cell? ⟨w.heap.size+1,f,none⟩=some (.slice rq nb rc):=by have h7:=(HM.ow 3).cellAt f (by omega);rw[h7];exact aL8 ag
       have br:Hid (iT aA n P2 u (f+1)=iT aA n P2 u f++jI aA n P2 u f nb.length):=by show _=_;rw[rT,aOa ak,p]
       clear hbf ak z ag p;go_wp2;clear dc;go_loopw [13,104] (fun v i wr=> ∃(j:Nat) (q:OA) (l3 lc:Nat) (B3:List Int) (Q3:List Nat),j≤nb.length∧i=I j∧v= .slice q l3 lc∧l3=Q3.length∧(B3,Q3)=bQ (u:Int) (B,Q) (iT aA n P2 u f++jI aA n P2 u f j)∧Mem w wr [aJ w TI 1 (q) (l3) lc (ivs (bF (Q3))),aJ w uY 1 (some ⟨gB,0,none⟩) N N (oP (B3)),gE w TI 1 rows,aJ w TSS 1 (some ⟨w.heap.size+1,0,none⟩) n n (iU n rows),aI w w TH3 #[aA,aB,.slice (some ⟨pb,po,none⟩) n a]]) (fun _ i _=>nb.length-(intOf i).toNat)
       case atStart=>exact⟨0,q,l2,lc,B2,Q2,aRo _,rfl,rfl,y.out,by rw[aGx,aS6];exact a0.out,HM⟩
       case round=>
        clear HM;obtain⟨j,q,l3,lc,B3,Q3,hj,rfl,rfl,an,am,hM⟩:=hrel;have ao:SOk N B3 Q3:=by
         have:=SOk.expand (u:=(u:Int)) (by omega) (iT aA n P2 u f++jI aA n P2 u f j) bf (fun v hv=>by
          rcases aS0.1 hv with hv|hv
          ·exact ae u v av (uJ hf v hv)
          ·exact ae u v av (aAo hlt3 a7 v hv))
         rw[←am]at this;exact this
        have HM:=hM;have b:=xQ am;have o:=xQ an;have b1:=xQ ao;have d2:l3≤N:=by rw[an];exact ao.qlen
        clear hM am an ao;by_cases hlt4:j<nb.length
        ·obtain⟨t,a6⟩: ∃t,nb[j]? =some t:=⟨_,aRh hlt4⟩
         have bv:t<n:=(bV.1 (by rw[←ai.out];exact aRi a6:t∈aT aA n f)).1;have be:(aT aA n f)[j]? =some t:=by rw[←ai.out];exact a6
         have aq:wr.ownsRow w TI 1 (.slice rq nb rc) nb.length (ivs (bF nb)):=HM.ok (gE w TI 1 rows) (by simp) _ (aRi bg.out);obtain⟨gR,di⟩: ∃gR,rq=some ⟨gR,0,none⟩:=by
          rcases aq.2 with⟨_,h3⟩|⟨g,_,_,h3,_⟩
          ·omega
          injection h3 with h3;exact⟨g,h3⟩
         subst di;have ct:wr.cell? ⟨gR,j,none⟩=some (I t):=by have:=aq.cellAt j (by omega);rw[this];simp[ivs,bF,a6]
         have b3:=xQ be;clear a6 be aq;obtain⟨PT,aa⟩: ∃PT:Nat,PT=2 ^ t:=⟨_,rfl⟩
         have dx:(2:Int) ^ t=(PT:Int):=by rw[aa];simp
         have ds:PT≤2048:=by rw[aa];exact aRp (aRs (by omega) (show t≤11 by omega)) (by decide)
         have d9:IntKind.i64.wrap (PT:Int)=(PT:Int):=aRj _ (by omega);have m1:(0:Int)≤(j:Int):=by omega
         have m2:(j:Int)<(nb.length:Int):=by omega
         by_cases hbt:u.testBit t=true
         ·have a9:(u%P2).testBit t=true:=by rw[ah.out,qU u bv];exact hbt
          have bj:bits .and .i64 (u:Int) (PT:Int)=(PT:Int):=by rw[aa];exact aJ4 (by omega) (by omega) hbt
          have dp:0<PT:=by rw[aa];exact aTq t
          have t2:((PT:Int)==0)=false:=by simp;omega
          have ab:=aKc b3 a9;have bq:gY P2 (u/P2) (u%P2) f t<N:=ae u _ av (aAo (j:=j+1) hlt3 a7 _ (by rw[ab];simp));have cw:=aP9 (u:=u) (f:=f) (t:=t) hn (by rw[←cd.out];exact av) hlt3 bv c6 hbt (by rw[←cd.out,←ah.out];exact bq);rw[←ah.out,←a2.out,←aa]at cw;generalize gY P2 (u/P2) (u%P2) f t=nx at*;have ap:iT aA n P2 u f++jI aA n P2 u f (j+1)=(iT aA n P2 u f++jI aA n P2 u f j)++ [nx]:=by rw[ab,aS5]
          have af:=xQ ap;clear ab ap hbt a9 aa;generalize u ^^^ 2 ^ f=X1 at*;generalize dB u f t=mv at*;generalize ((t:Int)-(f:Int))*(P2:Int)=D at*;obtain⟨x1,x2,x3,x4,x5⟩:=cw;have c9:=xQ x3;have b5:=xQ x4;have dy:IntKind.i64.wrap ((t:Int)-(f:Int))=(t:Int)-(f:Int):=aRj _ (by omega);clear x3 x4;obtain⟨bn,bl⟩: ∃bn,bn=B3.getD nx 0:=⟨_,rfl⟩
          have al:=dM (D:=B3) (v:=nx) (by rw[b1.out.len];exact bq);rw[←bl]at al;have cn:wr.cell? ⟨gB,nx,none⟩=some (.int .i32 bn):=by have:=(HM.ow 1).cellAt nx (by omega);rw[this];exact aCo al.1
          have b6:wr.frozen? ⟨gB,nx,none⟩=false:=(HM.ow 1).frozenAt nx;have ay:=xQ bl;clear bl al;have m5:(0:Int)≤(nx:Int):=by omega
          have m6:(nx:Int)<(N:Int):=by omega
          have dz:IntKind.i32.wrap (u:Int)=(u:Int):=aNz _ (by omega);by_cases hfc:f=cr
          ·have t3:((f:Int)==(cr:Int))=true:=by simp[hfc]
           have x4:IntKind.i64.wrap ((mv:Int)+D)=(nx:Int):=b5 (hfc.trans az.out);clear hfc;by_cases hneg:bn<0
           ·have t4:decide (bn<0)=true:=by simp[hneg]
            have m:Hid ((B3.set nx (u:Int),Q3++ [nx])=bQ (u:Int) (B,Q) (iT aA n P2 u f++jI aA n P2 u f (j+1))):=by show _=_;rw[af.out,eB,←b.out,lP (by rw[←ay.out];exact hneg)]
            have M6:=(show Mem w (wr.setCell ⟨gB,nx,none⟩ (.int .i32 (u:Int))).drew [aJ w TI 1 (q) (l3) lc (ivs (bF (Q3))),aJ w uY 1 (some ⟨gB,0,none⟩) N N (oP (B3.set nx (u:Int))),gE w TI 1 rows,aJ w TSS 1 (some ⟨w.heap.size+1,0,none⟩) n n (iU n rows),aI w w TH3 #[aA,aB,.slice (some ⟨pb,po,none⟩) n a]]from by rw[←tG];exact(HM.ostore (i:=1) rfl nx (.int .i32 (u:Int))).adv (Ext.drew (Ext.refl _)))
            clear hneg b HM;go_upto_region 34 with fail;go_region;go_upto_region 39 with fail;clear ct cn b6;generalize aw:World.setCell _ _ _=w4;rw[aw]at M6;clear aw;go_wp2_with (at_builtin;go_loud (refine cK fU rfl _ _ rfl (M6.adv ((Ext.refl _).alloc (.cells #[nx] TI))) 0 rfl rfl (ivs [(nx:Int)]) rfl ((eG w4 #[nx] TI 1 1 _ rfl rfl (by simp[maxLen])).ext (Ext.drew (Ext.refl _))) (fun u hu=>by obtain rfl:=aS2.1 hu;rfl) (by omega) ?_;intro q7 c7 w6 M7));have M8:=(show Mem w w6 [aJ w TI 1 (q7) (l3+1) c7 (ivs (bF (Q3++ [nx]))),aJ w uY 1 (some ⟨gB,0,none⟩) N N (oP (B3.set nx (u:Int))),gE w TI 1 rows,aJ w TSS 1 (some ⟨w.heap.size+1,0,none⟩) n n (iU n rows),aI w w TH3 #[aA,aB,.slice (some ⟨pb,po,none⟩) n a]]from by rw[show ivs (bF (Q3++ [nx]))=ivs (bF Q3)++ivs [(nx:Int)] by simp[ivs,bF]];exact M7)
            clear M7 M6;go_wp2;go_roundw
            case rel=>exact⟨j+1,q7,l3+1,c7,B3.set nx (u:Int),Q3++ [nx],by omega,by go_num,rfl,by simp[o.out],m.out,M8⟩
            case measure=>simp[intOf];omega
           have t4:decide (bn<0)=false:=by simp;omega
           have m:Hid ((B3,Q3)=bQ (u:Int) (B,Q) (iT aA n P2 u f++jI aA n P2 u f (j+1))):=by show _=_;rw[af.out,eB,←b.out,nJ (by rw[←ay.out];exact hneg)]
           clear hneg b;go_upto_region 34 with fail;go_region;go_wp2;go_roundw
           case rel=>exact⟨j+1,q,l3,lc,B3,Q3,by omega,by go_num,rfl,o.out,m.out,HM.adv xE⟩
           case measure=>simp[intOf];omega
          have t3:((f:Int)==(cr:Int))=false:=by simp;omega
          have dk:nx=mv:=(c9 (fun e=>hfc (e.trans az.out.symm))).symm;subst dk;clear hfc;by_cases hneg:bn<0
          ·have t4:decide (bn<0)=true:=by simp[hneg]
           have m:Hid ((B3.set nx (u:Int),Q3++ [nx])=bQ (u:Int) (B,Q) (iT aA n P2 u f++jI aA n P2 u f (j+1))):=by show _=_;rw[af.out,eB,←b.out,lP (by rw[←ay.out];exact hneg)]
           have M6:=(show Mem w (wr.setCell ⟨gB,nx,none⟩ (.int .i32 (u:Int))).drew [aJ w TI 1 (q) (l3) lc (ivs (bF (Q3))),aJ w uY 1 (some ⟨gB,0,none⟩) N N (oP (B3.set nx (u:Int))),gE w TI 1 rows,aJ w TSS 1 (some ⟨w.heap.size+1,0,none⟩) n n (iU n rows),aI w w TH3 #[aA,aB,.slice (some ⟨pb,po,none⟩) n a]]from by rw[←tG];exact(HM.ostore (i:=1) rfl nx (.int .i32 (u:Int))).adv (Ext.drew (Ext.refl _)))
           clear hneg b HM;go_upto_region 34 with fail;go_region;go_upto_region 39 with fail;clear ct cn b6;generalize aw:World.setCell _ _ _=w4;rw[aw]at M6;clear aw;go_wp2_with (at_builtin;go_loud (refine cK fU rfl _ _ rfl (M6.adv ((Ext.refl _).alloc (.cells #[nx] TI))) 0 rfl rfl (ivs [(nx:Int)]) rfl ((eG w4 #[nx] TI 1 1 _ rfl rfl (by simp[maxLen])).ext (Ext.drew (Ext.refl _))) (fun u hu=>by obtain rfl:=aS2.1 hu;rfl) (by omega) ?_;intro q7 c7 w6 M7));have M8:=(show Mem w w6 [aJ w TI 1 (q7) (l3+1) c7 (ivs (bF (Q3++ [nx]))),aJ w uY 1 (some ⟨gB,0,none⟩) N N (oP (B3.set nx (u:Int))),gE w TI 1 rows,aJ w TSS 1 (some ⟨w.heap.size+1,0,none⟩) n n (iU n rows),aI w w TH3 #[aA,aB,.slice (some ⟨pb,po,none⟩) n a]]from by rw[show ivs (bF (Q3++ [nx]))=ivs (bF Q3)++ivs [(nx:Int)] by simp[ivs,bF]];exact M7)
           clear M7 M6;go_wp2;go_roundw
           case rel=>exact⟨j+1,q7,l3+1,c7,B3.set nx (u:Int),Q3++ [nx],by omega,by go_num,rfl,by simp[o.out],m.out,M8⟩
           case measure=>simp[intOf];omega
          have t4:decide (bn<0)=false:=by simp;omega
          have m:Hid ((B3,Q3)=bQ (u:Int) (B,Q) (iT aA n P2 u f++jI aA n P2 u f (j+1))):=by show _=_;rw[af.out,eB,←b.out,nJ (by rw[←ay.out];exact hneg)]
          clear hneg b;go_upto_region 34 with fail;go_region;go_wp2;go_roundw
          case rel=>exact⟨j+1,q,l3,lc,B3,Q3,by omega,by go_num,rfl,o.out,m.out,HM.adv xE⟩
          case measure=>simp[intOf];omega
         have hbt:u.testBit t=false:=by simpa using hbt
         have bj:bits .and .i64 (u:Int) (PT:Int)=0:=by rw[aa];exact aOp (by omega) (by omega) hbt
         have ab:=xQ (aN0 b3 (show(u%P2).testBit t=false by rw[ah.out,qU u bv];exact hbt));clear hbt aa;go_wp2;go_roundw
         case rel=>exact⟨j+1,q,l3,lc,B3,Q3,by omega,by go_num,rfl,o.out,by rw[ab.out];exact b.out,HM⟩
         case measure=>simp[intOf];omega
        obtain rfl:nb.length=j:=by omega
        go_wp2;go_roundw
        case rel=>exact⟨f+1,q,l3,lc,B3,Q3,by omega,by go_num,rfl,o.out,by rw[br.out];exact b.out,HM⟩
        case measure=>simp[intOf];omega
      obtain rfl:n=f:=by omega
      have bt:Hid (SRun adj (fun v=>v/P2=0) N S (k+1) B2 Q2):=by show SRun _ _ _ _ _ _ _;have h7:=SRun.step aj HU.out de.out;have h8:=a0.out;rw[aAp,←(show adj u=oT aA n P2 u by rw[cg.out])]at h8;rw[←h8]at h7;exact h7
      have cm:l2≤N:=by rw[y.out];exact b0.out.qlen
      have cl:k+1≤l2:=by have h8:=a0.out;obtain⟨r,h9,_⟩:=pZ (u:Int) (iT aA n P2 u n) B Q;rw[←h8]at h9;dsimp only at h9;rw[y.out,h9,aRm];have:=a1.out;omega
      go_wp2;go_roundw
      case rel=>exact⟨k+1,q,l2,lc,B2,Q2,cl,by go_num,rfl,y.out,cm,bt.out,HM⟩
      case measure=>simp[intOf];omega
    have ck:=xQ (bz k B Q aj (by rw[←a1.out];omega));have hX:=xQ HM.ext;clear HM;go_wp2;exact bodyPost_ret (v:= .tuple #[((),()),.bool false]) (by simp[results,results169,go_sem]) rfl (by rw[ck.out];exact⟨_,rfl,hX.out⟩)
end
end Go.Proofs.YtomgkjinhnkpnaaGreatDoor
