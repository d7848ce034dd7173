/-
  Texts of this proof, packed (@packed).
-/
import Derived.Lib.SlicesMore
import Derived.Test.YtpelpnfhbepokaaGreatDoorU13
import Derived.Test.YtpelpnfhbepokaaGreatDoorU15
import Derived.Test.YtpelpnfhbepokaaGreatDoorU26
namespace Go.Proofs.YtpelpnfhbepokaaGreatDoor
open Go.RowKit
set_option linter.unusedVariables false
set_option linter.unusedSimpArgs false
set_option maxHeartbeats 8000000
set_option maxRecDepth 100000
theorem rS: ∀(l:List Sl2) (i:Nat) (s:Sl2),(l.set i s).flatMap aK=((l.flatMap aK).set (i*2) (.int .i64 s.1)).set (i*2+1) (.int .i64 s.2)
 | [],i,s=>by simp
 |x::l,0,s=>by simp[aK]
 |x::l,i+1,s=>by rw[List.set_cons_succ,List.flatMap_cons,List.flatMap_cons,rS l i s,show(i+1)*2=i*2+1+1 by omega];simp[aK]
theorem aIk (d:Array Sl2)(i j:Nat):(Sort.swp d i j).toList=(d.toList.set i d[j]!).set j d[i]! :=by simp[Sort.swp]
theorem aG0 (l:List Sl2)(i:Nat)(s:Sl2)(h:l[i]? =some s):(l.flatMap aK)[i*2]? =some (.int .i64 s.1)∧(l.flatMap aK)[i*2+1]? =some (.int .i64 s.2):=by have h0:=dW aK 2 (fun _=>rfl) l i s h 0 (by omega);have h1:=dW aK 2 (fun _=>rfl) l i s h 1 (by omega);exact⟨h0,h1⟩
theorem aN5 (g n c:Nat)(d:Array Sl2)(w0 w:World)(hn:n≤1000)(hd:Hid (d.size=n))(h0:Hid (Mem w0 w [aI w0.heap.size TSL 2 (some ⟨g,0,none⟩) n c (d.toList.flatMap aK)])):
  Calls Tryz.prog 234 #[.slice (some ⟨g,0,none⟩) n c] w fun e w'=>e= .returned (.tuple #[])∧Mem w0 w' [aI w0.heap.size TSL 2 (some ⟨g,0,none⟩) n c (d.reverse.toList.flatMap aK)]:=by
 have ae:IntKind.i64.wrap ((n:Int)-1)=(n:Int)-1:=IntWalk.i64_in _ (by omega);go_enter Tryz.func234,Tryz.ntmps234;go_wp2;go_loopw [2,3] (fun s2 s3 wr=> ∃(i jn:Nat) (jz:Int) (dk:Array Sl2),s2= .int .i64 (i:Int)∧s3= .int .i64 jz∧i≤n∧ -1≤jz∧jz≤n∧((i:Int)<jz→jz=(jn:Int)∧jn<n)∧(¬(i:Int)<jz→ ¬i<jn)∧dk.size=n∧Sort.reverseLoop i jn dk=Sort.reverseLoop 0 (d.size-1) d∧Mem w0 wr [aI w0.heap.size TSL 2 (some ⟨g,0,none⟩) n c (dk.toList.flatMap aK)]) (fun a b _=>(Lib.intOf b-Lib.intOf a).toNat)
 case atStart=>exact⟨0,d.size-1,(n:Int)-1,d,rfl,rfl,Nat.zero_le _,by omega,by omega,fun h=>⟨by rw[hd.out];omega,by rw[hd.out];omega⟩,fun h=>by rw[hd.out];omega,hd.out,rfl,h0.out⟩
 case round=>
  clear h0 ae;obtain⟨i,jn,jz,dk,rfl,rfl,af,ag,ah,h1,h2,r,t,hM⟩:=hrel;have HM:=hM;have j:=xQ t;have f:=xQ r;clear hM t r;by_cases hlt:(i:Int)<jz
  ·obtain⟨rfl,ad⟩:=h1 hlt;have ab:i<jn:=by omega
   obtain⟨⟨a0,a1⟩,ha⟩: ∃s,dk[i]! =s:=⟨_,rfl⟩
   obtain⟨⟨b0,b1⟩,hb⟩: ∃s,dk[jn]! =s:=⟨_,rfl⟩
   have p:dk.toList[i]? =some (a0,a1):=by rw[←ha];simp[f.out,show i<n by omega]
   have q:dk.toList[jn]? =some (b0,b1):=by rw[←hb];simp[f.out,ad]
   obtain⟨k,l⟩:=aG0 _ _ _ p;obtain⟨m,o⟩:=aG0 _ _ _ q;have x:wr.cell? ⟨g,i*2,none⟩=some (.int .i64 a0):=((HM.ow 0).cellAt (i*2) (by omega)).trans k;have y:wr.cell? ⟨g,i*2+1,none⟩=some (.int .i64 a1):=((HM.ow 0).cellAt (i*2+1) (by omega)).trans l;have z:wr.cell? ⟨g,jn*2,none⟩=some (.int .i64 b0):=((HM.ow 0).cellAt (jn*2) (by omega)).trans m;have aa:wr.cell? ⟨g,jn*2+1,none⟩=some (.int .i64 b1):=((HM.ow 0).cellAt (jn*2+1) (by omega)).trans o;have f0:wr.frozen? ⟨g,i*2,none⟩=false:=(HM.ow 0).frozenAt _;have f1:wr.frozen? ⟨g,i*2+1,none⟩=false:=(HM.ow 0).frozenAt _;have f2:wr.frozen? ⟨g,jn*2,none⟩=false:=(HM.ow 0).frozenAt _;have f3:wr.frozen? ⟨g,jn*2+1,none⟩=false:=(HM.ow 0).frozenAt _;have v:Hid ((Sort.swp dk i jn).toList.flatMap aK=((((dk.toList.flatMap aK).set (i*2) (.int .i64 b0)).set (i*2+1) (.int .i64 b1)).set (jn*2) (.int .i64 a0)).set (jn*2+1) (.int .i64 a1)):=by show _=_;rw[aIk,ha,hb,rS,rS]
   clear k l m o p q ha hb h1 h2
   have M2:=(show Mem w0 ((((wr.drew.setCell ⟨g,i*2,none⟩ (.int .i64 b0)).setCell ⟨g,i*2+1,none⟩ (.int .i64 b1)).setCell ⟨g,jn*2,none⟩ (.int .i64 a0)).setCell ⟨g,jn*2+1,none⟩ (.int .i64 a1)) [aI w0.heap.size TSL 2 (some ⟨g,0,none⟩) n c ((Sort.swp dk i jn).toList.flatMap aK)]from by
    rw[v.out]
    exact((((HM.adv (Ext.drew (Ext.refl _))).ostore (i:=0) rfl (i*2) (.int .i64 b0)).ostore (i:=0) rfl (i*2+1) (.int .i64 b1)).ostore (i:=0) rfl (jn*2) (.int .i64 a0)).ostore (i:=0) rfl (jn*2+1) (.int .i64 a1))
   clear HM v;have n1: ¬(i*2=jn*2):=by omega
   have n2: ¬(jn*2=i*2):=by omega
   have n3: ¬(i*2=jn*2+1):=by omega
   have n4: ¬(i*2+1=jn*2):=by omega
   have n5: ¬(jn*2=i*2+1):=by omega
   have n6: ¬(jn*2+1=i*2):=by omega
   have n7: ¬(i=jn):=by omega
   have n8: ¬(jn=i):=by omega
   have i1:(0:Int)≤(i:Int):=by omega
   have i2:(i:Int)<(n:Int):=by omega
   have i3:(0:Int)≤(jn:Int):=by omega
   have i4:(jn:Int)<(n:Int):=by omega
   have i5:IntKind.i64.wrap ((jn:Int)-1)=(jn:Int)-1:=IntWalk.i64_in _ (by omega);go_wp2_with fail;go_region;clear x y z aa f0 f1 f2 f3 n1 n2 n3 n4 n5 n6;go_wp2;go_roundw
   case rel=>have h9:=j.out;rw[Sort.reverseLoop,if_pos ab]at h9;exact⟨i+1,jn-1,(jn:Int)-1,Sort.swp dk i jn,by go_num,rfl,by omega,by omega,by omega,fun h=>⟨by omega,by omega⟩,fun h=>by omega,by rw[Sort.size_swp];exact f.out,h9,M2⟩
   case measure=>simp[Lib.intOf];omega
  have u:=h2 hlt;have h9:=j.out;rw[Sort.reverseLoop,if_neg u,Lib.reverseLoop_reverse]at h9;rw[h9]at HM;clear j h1 h2 h9;go_wp2;go_end0;exact⟨rfl,by simpa using HM⟩
theorem aJi (g n c:Nat)(l:List Sl2)(w0 w:World)(hn:n≤1000)(hl:l.length=n)(h0:Mem w0 w [aI w0.heap.size TSL 2 (some ⟨g,0,none⟩) n c (l.flatMap aK)]):
  Calls Tryz.prog 234 #[.slice (some ⟨g,0,none⟩) n c] w fun e w'=>e= .returned (.tuple #[])∧Mem w0 w' [aI w0.heap.size TSL 2 (some ⟨g,0,none⟩) n c (l.reverse.flatMap aK)]:=by
 have:=aN5 g n c l.toArray w0 w hn (xQ (by simpa using hl)) (xQ (by simpa using h0));simpa using this
theorem aH3 (a:OA)(c:Nat)(w:World):Calls Tryz.prog 234 #[.slice a 0 c] w fun e w'=>e= .returned (.tuple #[])∧w=w':=by
 go_enter Tryz.func234,Tryz.ntmps234;go_wp2;go_loopw [2,3] (fun s2 s3 wr=>s2= .int .i64 0∧s3= .int .i64 (-1)∧w=wr) (fun _ _ _=>0)
 case atStart=>exact⟨rfl,rfl,rfl⟩
 case round=>obtain⟨rfl,rfl,rfl⟩:=hrel;go_wp2;go_end0;exact⟨rfl,rfl⟩
def mS (xs:List Int):List Value:=xs.map (fun x=> .int .i32 x)
def aN7:Value→Nat
 | .slice _ n _=>n
 |_=>0
structure Trail (n N d:Nat) (B:List Int) (code:Nat→Nat) (e:Nat→Nat×Nat):Prop where
 len:B.length=N
 lt: ∀j,j≤d→code j<N
 far: ∀j,j≤d→code j=code 0→j=0
 back: ∀j,j<d→B.getD (code (j+1)) 0=code j
 f: ∀j,j<d→(e j).1<n
 t: ∀j,j<d→(e j).2<n
 hf: ∀j,j<d→(code j%2 ^ n).testBit (e j).1=false
 ht: ∀j,j<d→(code j%2 ^ n).testBit (e j).2=true
 mv: ∀j,j<d→code (j+1)%2 ^ n=cT (code j%2 ^ n) (e j).1 (e j).2
def nD (e:Nat→Nat×Nat)(d k:Nat):List Sl2:=(List.range k).map (fun i=>iR (e (d-1-i)))
theorem aFk (e:Nat→Nat×Nat)(d k:Nat):nD e d (k+1)=nD e d k++ [iR (e (d-1-k))]:=by unfold nD;rw[List.range_succ,List.map_append];rfl
theorem aI9 (e:Nat→Nat×Nat)(d k:Nat):(nD e d k).length=k:=by simp[nD]
theorem aI8 (e:Nat→Nat×Nat)(d:Nat):(nD e d d).reverse=(List.range d).map (fun i=>iR (e i)):=by
 apply List.ext_getElem (by simp[nD]);intro i h1 h2;have hi:i<d:=by simpa using h2
 simp only[nD,List.getElem_reverse,List.getElem_map,List.getElem_range,List.length_map,List.length_range];congr 2;omega
structure aN3 (n j:Nat) (B:List Int) (code:Nat→Nat) (e:Nat→Nat×Nat) (A C1 C0 S1 S0 F T:Nat):Prop where
 a1:bits .and .i64 (C1:Int) (A:Int)=(S1:Int)
 a0:bits .and .i64 (C0:Int) (A:Int)=(S0:Int)
 n1:bits .andNot .i64 (S1:Int) (S0:Int)=((2 ^ F:Nat):Int)
 n0:bits .andNot .i64 (S0:Int) (S1:Int)=((2 ^ T:Nat):Int)
 f:F<12
 t:T<12
 w0:IntKind.i64.wrap (C0:Int)=(C0:Int)
 at1:B[C1]? =some (C0:Int)
theorem Trail.step {n N d:Nat}{B:List Int}{a:Nat→Nat}{e:Nat→Nat×Nat}(h:Trail n N d B a e)(hn:n≤12)(hN:N≤49152){j:Nat}(hj:j<d):
  aN3 n j B a e (2 ^ n-1) (a (j+1)) (a j) (a (j+1)%2 ^ n) (a j%2 ^ n) (e j).1 (e j).2:=by
 have l1:=h.lt (j+1) (by omega);have l0:=h.lt j (by omega);have hf:=h.f j hj;have ht:=h.t j hj;have p0:2 ^ n≤2 ^ 12:=Nat.pow_le_pow_right (n:=2) (by omega) hn;have p1:2 ^ (e j).1≤2 ^ 11:=Nat.pow_le_pow_right (n:=2) (by omega) (by omega);have p2:2 ^ (e j).2≤2 ^ 11:=Nat.pow_le_pow_right (n:=2) (by omega) (by omega);have hp:=Nat.two_pow_pos n;have m1:=Nat.mod_lt (a (j+1)) hp;have m0:=Nat.mod_lt (a j) hp;refine⟨aGc _ n (by omega) hn,aGc _ n (by omega) hn,?_,?_,by omega,by omega,IntWalk.i64_in _ (by omega),?_⟩
 ·have hm:=h.mv j hj;rw[hm]at m1⊢;exact aKk (h.hf j hj) (h.ht j hj) (by omega) (by omega) (by omega)
 ·have hm:=h.mv j hj;rw[hm]at m1⊢;exact aKj (h.hf j hj) (h.ht j hj) (by omega) (by omega) (by omega)
 have:=h.back j hj;rw[List.getD_eq_getElem?_getD,List.getElem?_eq_getElem (by rw[h.len];exact l1)]at this;rw[List.getElem?_eq_getElem (by rw[h.len];exact l1)];exact congrArg some this
theorem aJv (n N d cB gB:Nat)(B:List Int)(a:Nat→Nat)(e:Nat→Nat×Nat)(w:World)(hn:n≤12)(hN:N≤49152)(hd:d≤60)(hT:Hid (Trail n N d B a e))(hS:Hid (Sl w (some ⟨gB,0,none⟩) N cB 1 (mS B)))(hE:Hid (BitTab w))(hb:gB<w.heap.size):
  Calls Tryz.prog 218 #[.slice (some ⟨gB,0,none⟩) N cB,.int .i64 ((a 0:Nat):Int),.int .i64 ((a d:Nat):Int),(n:Int)] w (gO ((List.range d).map (fun i=>iR (e i))) w):=by
 have hp:=Nat.two_pow_pos n;have s:2 ^ n≤2 ^ 12:=Nat.pow_le_pow_right (n:=2) (by omega) hn;obtain⟨A,hA⟩: ∃A,A=2 ^ n-1:=⟨_,rfl⟩
 have b:=xQ (show∀j,j<d→_ from fun j hj=>hT.out.step hn hN hj);rw[←hA]at b;obtain⟨Q,hQ⟩: ∃Q:Nat,Q=2 ^ n:=⟨_,rfl⟩
 have ad:(2:Int) ^ n=(Q:Int):=by rw[hQ];simp
 have af:IntKind.i64.wrap (Q:Int)=(Q:Int):=IntWalk.i64_in _ (by omega);have ae:IntKind.i64.wrap ((Q:Int)-1)=(A:Int):=by rw[IntWalk.i64_in _ (by omega)];omega
 clear hA hQ hp s;obtain⟨s0,c⟩: ∃s0,s0=a 0:=⟨_,rfl⟩
 have f:=xQ c;rw[←c];clear c;go_enter Tryz.func218,Tryz.ntmps218;have M0:=(show Mem w w [aI w.heap.size TSL 2 (none) (0) (0) ((nD e d 0).flatMap aK)]from(Mem.start w).ownNew (Ext.refl _) (World.ownsRow_nil _ _ TSL 2) (Nat.le_refl _))
 go_wp2;go_loopw [2,10] (fun st v wr=> ∃(k:Nat) (q:OA) (lc:Nat),k≤d∧st= .int .i64 ((a (d-k):Nat):Int)∧v= .slice q k lc∧Mem w wr [aI w.heap.size TSL 2 (q) (k) (lc) ((nD e d k).flatMap aK)]) (fun _ v _=>d-aN7 v)
 case atStart=>exact⟨0,none,0,Nat.zero_le _,rfl,rfl,M0⟩
 case round=>
  clear M0;obtain⟨k,q,lc,hk,rfl,rfl,hM⟩:=hrel;have HM:=hM;clear hM;by_cases hlt:k<d
  ·obtain⟨j,hj⟩: ∃j,j=d-1-k:=⟨_,rfl⟩
   have hB:=b j (by omega);have h:=hT.out.lt (j+1) (by omega);have x:a (j+1)≠s0:=by rw[f.out];intro e2;have:=hT.out.far (j+1) (by omega) e2;omega
   have m:=xQ (aFk e d k);rw[←hj]at m;have o:d-k=j+1:=by omega
   have p:=xQ (show d-(k+1)=j by omega);rw[o];generalize a (j+1)=C1 at*;have t:=xQ (show a (d-(k+1))=a j by rw[p.out]);generalize a j=C0 at*;generalize C1%2 ^ n=S1 at*;generalize C0%2 ^ n=S0 at*;have u:Hid (iR (e j)=(((e j).1:Int),((e j).2:Int))):=rfl;generalize (e j).1=F at*;generalize (e j).2=T at*;obtain⟨b1,b2,b3,b4,b5,b6,b7,b8⟩:=hB;have HF:=xQ (fun(w':World) (hx:Ext w w')=>xG F w' b5 (hE.out.ext hx));have HT:=xQ (fun(w':World) (hx:Ext w w')=>xG T w' b6 (hE.out.ext hx));have pF:2 ^ F≤2 ^ 11:=Nat.pow_le_pow_right (n:=2) (by omega) (by omega);have pT:2 ^ T≤2 ^ 11:=Nat.pow_le_pow_right (n:=2) (by omega) (by omega);generalize 2 ^ F=PF at*;generalize 2 ^ T=PT at*;have u1:IntKind.u64.wrap (PF:Int)=(PF:Int):=by rw[IntKind.wrap_u64];omega
   have u2:IntKind.u64.wrap (PT:Int)=(PT:Int):=by rw[IntKind.wrap_u64];omega
   have t0:((C1:Int)!=(s0:Int))=true:=by simp;omega
   have i1:(0:Int)≤(C1:Int):=by omega
   have i2:(C1:Int)<(N:Int):=by omega
   have cb:wr.cell? ⟨gB,C1,none⟩=some (.int .i32 (C0:Int)):=by refine(HM.ext.cells.1 _ _ hb).trans ?_;obtain⟨b',o',e1,_,hc⟩:=hS.out.rd (by omega);injection e1 with e1;injection e1 with e1 e2;subst e1 e2;have:=hc C1 (by omega);rw[Nat.zero_add]at this;rw[this];simp[mS,b8]
   clear x h pF pT b5 b6 b8 b hT o
   go_wp2_with (first
    |(go_at_call 233;first
      |((with_reducible refine(HF _ HM.ext).mono ?_);rintro e9 w9 ⟨rfl,rfl⟩)
      |((with_reducible refine(HT _ HM.ext).mono ?_);rintro e9 w9 ⟨rfl,rfl⟩))
    |(at_builtin;go_loud (refine cR qY rfl _ _ rfl (HM.adv ((Ext.refl _).alloc (.cells #[(F:Int),(T:Int)] TSL))) 0 rfl rfl (aK ((F:Int),(T:Int))) rfl (eU _ _ _ 1 2 _ (by first|rfl|simp) (by first|rfl|simp) (by simp[maxLen])) (mL _ _) (by omega) ?_;intro q7 c7 w6 M7)))
   have M8:=(show Mem w w6 [aI w.heap.size TSL 2 (q7) (k+1) (c7) ((nD e d (k+1)).flatMap aK)]from by rw[m.out,List.flatMap_append,List.flatMap_cons,List.flatMap_nil,List.append_nil,u.out];exact M7)
   clear M7 HM;go_wp2;go_roundw
   case rel=>exact⟨k+1,q7,c7,by omega,by rw[t.out],rfl,M8⟩
   case measure=>simp[aN7];omega
  obtain rfl:d=k:=by omega
  have t0:((s0:Int)!=(s0:Int))=false:=by simp
  rw[show a (d-d)=s0 by rw[Nat.sub_self,f.out]];have ab:=xQ (aI8 e d);have y:=xQ (aI9 e d d);by_cases h0:d=0
  ·subst h0;go_wp2_with fail;refine(aH3 q lc _).mono ?_;rintro e9 w9 ⟨rfl,rfl⟩;go_wp2;go_ret;exact⟨q,lc,rfl,HM.ow 0,HM.ext⟩
  obtain⟨g,rfl,z,aa⟩:=HM.so 0;clear z aa;have HR:=xQ (aJi g d lc (nD e d d) w wr (by omega) y.out HM);go_wp2_with fail;refine HR.out.mono ?_;rintro e9 w9 ⟨rfl,l⟩;have M9:=(show Mem w w9 [aI w.heap.size TSL 2 (some ⟨g,0,none⟩) (d) (lc) (((List.range d).map (fun i=>iR (e i))).flatMap aK)]from by rw[←ab.out];exact l)
  clear l HM HR;go_wp2;go_ret;have r:((List.range d).map (fun i=>iR (e i))).length=d:=by simp
  exact⟨some ⟨g,0,none⟩,lc,by rw[r];rfl,by rw[r];exact M9.ow 0,M9.ext⟩
end Go.Proofs.YtpelpnfhbepokaaGreatDoor
namespace Go.Proofs.YtpelpnfhbepokaaGreatDoor
open Go.RowKit
set_option linter.unusedVariables false
set_option linter.unusedSimpArgs false
theorem mA (v:Value)(n:Nat):(madeCells #[v] n).toList=List.replicate n v∧(madeCells #[v] n).size=n:=by
 constructor
 ·apply List.ext_getElem<;>simp[madeCells,Nat.mod_one]
 simp[madeCells]
def gW (n:Nat)(rows:List RowD):List Value:=rows.map RowD.v++List.replicate (n-rows.length) (.slice none 0 0)
theorem aKe {n:Nat}{rows:List RowD}(h:rows.length<n):(gW n rows)[rows.length]? =some (.slice none 0 0):=by unfold gW;rw[List.getElem?_append_right (by simp)];simp[List.getElem?_replicate];omega
theorem aI0 {n:Nat}{rows:List RowD}(h:rows.length<n)(r:RowD):(gW n rows).set rows.length r.v=gW n (rows++ [r]):=by
 unfold gW;have e:n-rows.length=(n-(rows++ [r]).length)+1:=by simp;omega
 rw[e,List.replicate_succ,List.set_append_right _ _ (by simp),List.map_append,List.append_assoc];simp
theorem aI1 {n k:Nat}{rows:List RowD}{r:RowD}(h:rows[k]? =some r):(gW n rows)[k]? =some r.v:=by unfold gW;rw[List.getElem?_append_left (by simpa using(List.getElem?_eq_some_iff.1 h).1),List.getElem?_map,h];rfl
theorem qT (xs:List Int)(k:Nat)(x:Int):(mS xs).set k (.int .i32 x)=mS (xs.set k x):=by simp[mS,List.map_set]
theorem aAn {xs:List Int}{k:Nat}{x:Int}(h:xs[k]? =some x):(mS xs)[k]? =some (.int .i32 x):=by simp[mS,h]
theorem rY {aA:Int}{n M s f:Nat}(hf:f≤n): ∀v∈gU aA n M s f,v∈mY aA n M s:=by intro v hv;rw[←xX];unfold gU at hv⊢;obtain⟨x,hx,hv⟩:=List.mem_flatMap.1 hv;exact List.mem_flatMap.2 ⟨x,List.mem_range.2 (Nat.lt_of_lt_of_le (List.mem_range.1 hx) hf),hv⟩
theorem xW {aA:Int}{n M s f j:Nat}(hf:f<n)(hb:(s%M).testBit f=false): ∀v∈iM aA n M s f j,v∈mY aA n M s:=by intro v hv;refine rY (f:=f+1) hf v ?_;rw[pM,aKo hb];refine List.mem_append_right _ ?_;unfold iM at hv⊢;rw[List.take_length];obtain⟨t,ht,e⟩:=List.mem_map.1 hv;obtain⟨h1,h2⟩:=List.mem_filter.1 ht;exact List.mem_map.2 ⟨t,List.mem_filter.2 ⟨List.mem_of_mem_take h1,h2⟩,e⟩
structure aN2 (n u f t PF PT P2 X1 mv nx:Nat) (D:Int):Prop where
 x1:bits .xor .i64 (u:Int) (PF:Int)=(X1:Int)
 x2:bits .xor .i64 (X1:Int) (PT:Int)=(mv:Int)
 no:f≠u/P2→mv=nx
 yes:f=u/P2→IntKind.i64.wrap ((mv:Int)+D)=(nx:Int)
 d:IntKind.i64.wrap (((t:Int)-(f:Int))*(P2:Int))=D
theorem aLl {n u f t:Nat}(hn:n≤12)(hu:u<n*2 ^ n)(a:f<n)(b:t<n)(hf:u.testBit f=false)(ht:u.testBit t=true)(hb:fO (2 ^ n) (u/2 ^ n) (u%2 ^ n) f t<n*2 ^ n):
  aN2 n u f t (2 ^ f) (2 ^ t) (2 ^ n) (u ^^^ 2 ^ f) (cT u f t) (fO (2 ^ n) (u/2 ^ n) (u%2 ^ n) f t) (((t:Int)-(f:Int))*(2 ^ n:Nat)):=by
 have p0:2 ^ n≤2 ^ 12:=Nat.pow_le_pow_right (n:=2) (by omega) hn;have p1:2 ^ f≤2 ^ 11:=Nat.pow_le_pow_right (n:=2) (by omega) (by omega);have p2:2 ^ t≤2 ^ 11:=Nat.pow_le_pow_right (n:=2) (by omega) (by omega);have hN:n*2 ^ n≤12*4096:=Nat.mul_le_mul hn (by omega);have e:u ^^^ 2 ^ f<2 ^ 16:=Nat.xor_lt_two_pow (by omega) (by omega);have c:((t:Int)-(f:Int))*(2 ^ n:Nat)≤12*4096:=by
  have h1:((t:Int)-(f:Int))*(2 ^ n:Nat)=(t:Int)*(2 ^ n:Nat)-(f:Int)*(2 ^ n:Nat):=Int.sub_mul _ _ _;have h2:t*2 ^ n≤12*4096:=Nat.mul_le_mul (by omega) (by omega);have h3:(t:Int)*(2 ^ n:Nat)=((t*2 ^ n:Nat):Int):=by push_cast;rfl
  have h4:(f:Int)*(2 ^ n:Nat)=((f*2 ^ n:Nat):Int):=by push_cast;rfl
  omega
 have d: -(12*4096)≤((t:Int)-(f:Int))*(2 ^ n:Nat):=by
  have h1:((t:Int)-(f:Int))*(2 ^ n:Nat)=(t:Int)*(2 ^ n:Nat)-(f:Int)*(2 ^ n:Nat):=Int.sub_mul _ _ _;have h2:f*2 ^ n≤12*4096:=Nat.mul_le_mul (by omega) (by omega);have h3:(t:Int)*(2 ^ n:Nat)=((t*2 ^ n:Nat):Int):=by push_cast;rfl
  have h4:(f:Int)*(2 ^ n:Nat)=((f*2 ^ n:Nat):Int):=by push_cast;rfl
  omega
 refine⟨sY _ _ (by omega) (by omega),?_,fun hc=>(aLm a b hf ht hc).symm,fun hc=> ?_,IntWalk.i64_in _ (by omega)⟩
 ·rw[sY _ _ (by omega) (by omega),aIe hf ht]
 have h1:=aJn a b hf ht hc;have h2:((2 ^ n:Nat):Int)=(2:Int) ^ n:=by simp
 rw[h2,←h1];exact IntWalk.i64_in _ (by omega)
theorem aL0 {u f:Nat}(hu:u<9223372036854775808)(hf:f<12)(hb:u.testBit f=false):bits .and .i64 (u:Int) ((2 ^ f:Nat):Int)=0:=by have p1:2 ^ f≤2 ^ 11:=Nat.pow_le_pow_right (n:=2) (by omega) (by omega);rw[nU u _ hu (by omega),aGb,hb];rfl
theorem aG9 {u f:Nat}(hu:u<9223372036854775808)(hf:f<12)(hb:u.testBit f=true):bits .and .i64 (u:Int) ((2 ^ f:Nat):Int)=((2 ^ f:Nat):Int):=by have p1:2 ^ f≤2 ^ 11:=Nat.pow_le_pow_right (n:=2) (by omega) (by omega);rw[nU u _ hu (by omega),aGb,hb];rfl
theorem SGoal.trail {aA:Int}{xs:List Int}{c d u:Nat}{B:List Int}(hn:xs.length≤12)(h:SGoal aA xs c d u B)(hl:B.length=xs.length*2 ^ xs.length):
  Trail xs.length (xs.length*2 ^ xs.length) d B (fun j=>eI xs.length (gP aA xs.length (aT (fR aA xs.length (bE xs).length)) (st0 xs c) j)) (fun j=>fP aA xs.length (aT (fR aA xs.length (bE xs).length)) (st0 xs c) j):=by
 have a: ∀j,j≤d→eI xs.length (gP aA xs.length (aT (fR aA xs.length (bE xs).length)) (st0 xs c) j)%2 ^ xs.length=(gP aA xs.length (aT (fR aA xs.length (bE xs).length)) (st0 xs c) j).2:=fun j hj=>(jY (h.pt j hj).set).2
 refine⟨hl,fun j hj=>rC (h.pt j hj).car (h.pt j hj).set,fun j hj e=>h.far j hj e,h.back,fun j hj=> ?_,fun j hj=> ?_,fun j hj=> ?_,fun j hj=> ?_,fun j hj=> ?_⟩
 ·exact(eW.1 (h.edge j hj).1).1
 ·exact(eW.1 (h.edge j hj).1).2.1
 ·rw[a j (by omega)];exact(eW.1 (h.edge j hj).1).2.2.2.1
 ·rw[a j (by omega)];exact(eW.1 (h.edge j hj).1).2.2.2.2
 rw[a j (by omega),a (j+1) (by omega),(h.edge j hj).2];rfl
end Go.Proofs.YtpelpnfhbepokaaGreatDoor
