/-
  Texts of this proof, packed (@packed).
-/
import Derived.Lib.LaidTab
import Derived.Lib.SlicesMore
import Derived.Lib.SmallJoins
import Derived.Test.YtgnkoffndhmhpaaGreatDoorR6
import Derived.Test.YtgnkoffndhmhpaaGreatDoorR11
import Derived.Test.YtgnkoffndhmhpaaGreatDoorR14
import Derived.Test.YtgnkoffndhmhpaaGreatDoorR29
namespace Go.Proofs.YtgnkoffndhmhpaaGreatDoor
open Go.RowKit
set_option linter.unusedVariables false
theorem aI8:Tryz.prog.globalNamed "math/bits.deBruijn64tab" =some 2:=by kernel_rfl
def BitTab (w:World):Prop:=Lib.TabIs Tryz.prog w "math/bits.deBruijn64tab" .u8 (Lib.deBruijn64tab.map (fun(n:Nat)=>(n:Int)))
theorem BitTab.ext {w w':World}(h:BitTab w)(hx:Ext w w'):BitTab w':=Joins.var_stays aI8 h hx (Nat.le_refl _)
theorem aHl: ∀k:Fin 12,∃idx:Fin 64,IntKind.u64.wrap (bits BinOp.and IntKind.u64 ((2 ^ k.val:Nat):Int) (IntKind.u64.wrap (-((2 ^ k.val:Nat):Int)))*285870213051353865)/288230376151711744=(idx.val:Int)∧(Lib.deBruijn64tab.map (fun(n:Nat)=>(n:Int)))[idx.val]? =some (k.val:Int):=by decide+kernel
theorem aD2 (x idx:Nat)(k:Int)(w:World)(hx0:((x:Int)==0)=false)(hxb:IntKind.u64.wrap (x:Int)=(x:Int))
  (key:IntKind.u64.wrap (bits BinOp.and IntKind.u64 (x:Int) (IntKind.u64.wrap (-(x:Int)))*285870213051353865)/288230376151711744=(idx:Int))
  (hi:idx<64)(hcell:w.cell? ⟨2,idx,none⟩=some (.int .u8 k))(hk:IntKind.i64.wrap k=k):
  Calls Tryz.prog 214 #[.int .u64 (x:Int)] w fun e w'=>e= .returned (.int .i64 k)∧w=w':=by
 go_enter Tryz.func214,Tryz.ntmps214
 go_wp2_with (simp only[key])
 go_ret
 exact⟨rfl,rfl⟩
theorem aHm (x:Nat)(k:Int)(w:World)(hxb:IntKind.u64.wrap (x:Int)=(x:Int))
  (H:Hid (Calls Tryz.prog 214 #[.int .u64 (x:Int)] w fun e w'=>e= .returned (.int .i64 k)∧w=w')):
  Calls Tryz.prog 208 #[.int .u64 (x:Int)] w fun e w'=>e= .returned (.int .i64 k)∧w=w':=by
 go_enter Tryz.func208,Tryz.ntmps208
 go_wp2_with fail
 refine H.out.mono ?_
 rintro e w' ⟨rfl,rfl⟩
 go_wp2
 go_ret
 exact⟨rfl,rfl⟩
theorem tL (k:Nat)(w:World)(hk:k<12)(hE:BitTab w):Calls Tryz.prog 208 #[.int .u64 ((2 ^ k:Nat):Int)] w fun e w'=>e= .returned (.int .i64 (k:Int))∧w=w':=by
 obtain⟨⟨idx,hi⟩,key,ht⟩:=aHl ⟨k,hk⟩
 dsimp only at key ht
 have hp:2 ^ k≤2 ^ 11:=Nat.pow_le_pow_right (n:=2) (by omega) (by omega)
 have h0:0<2 ^ k:=Nat.two_pow_pos k
 have hxb:IntKind.u64.wrap ((2 ^ k:Nat):Int)=((2 ^ k:Nat):Int):=by rw[IntKind.wrap_u64];omega
 have hc:=hE.cell aI8 idx (by simpa[Lib.deBruijn64tab]using hi)
 refine aHm (2 ^ k) k w hxb (aD2 (2 ^ k) idx k w (beq_eq_false_iff_ne.2 (by omega)) hxb key hi (by rw[hc,List.getD_eq_getElem?_getD,ht];rfl) (IntWalk.i64_in _ (by omega)))
set_option linter.unusedSimpArgs false
set_option maxHeartbeats 8000000
set_option maxRecDepth 100000
theorem pG: ∀(l:List Sl2) (i:Nat) (s:Sl2),(l.set i s).flatMap aM=((l.flatMap aM).set (i*2) (.int .i64 s.1)).set (i*2+1) (.int .i64 s.2)
 | [],i,s=>by simp
 |x::l,0,s=>by simp[aM]
 |x::l,i+1,s=>by
  rw[List.set_cons_succ,List.flatMap_cons,List.flatMap_cons,pG l i s,show(i+1)*2=i*2+1+1 by omega]
  simp[aM]
theorem aF3 (d:Array Sl2)(i j:Nat):(Sort.swp d i j).toList=(d.toList.set i d[j]!).set j d[i]! :=by simp[Sort.swp]
theorem aCl (l:List Sl2)(i:Nat)(s:Sl2)(h:l[i]? =some s):(l.flatMap aM)[i*2]? =some (.int .i64 s.1)∧(l.flatMap aM)[i*2+1]? =some (.int .i64 s.2):=by
 have h0:=dQ aM 2 (fun _=>rfl) l i s h 0 (by omega)
 have h1:=dQ aM 2 (fun _=>rfl) l i s h 1 (by omega)
 exact⟨h0,h1⟩
theorem aJc (g n c:Nat)(d:Array Sl2)(w0 w:World)(hn:n≤1000)(hd:Hid (d.size=n))(h0:Hid (Mem w0 w [aJ w0.heap.size TSL 2 (some ⟨g,0,none⟩) n c (d.toList.flatMap aM)])):
  Calls Tryz.prog 209 #[.slice (some ⟨g,0,none⟩) n c] w fun e w'=>e= .returned (.tuple #[])∧Mem w0 w' [aJ w0.heap.size TSL 2 (some ⟨g,0,none⟩) n c (d.reverse.toList.flatMap aM)]:=by
 have hw0:IntKind.i64.wrap ((n:Int)-1)=(n:Int)-1:=IntWalk.i64_in _ (by omega)
 go_enter Tryz.func209,Tryz.ntmps209
 go_wp2
 go_loopw [2,3] (fun s2 s3 wr=> ∃(i jn:Nat) (jz:Int) (dk:Array Sl2),s2= .int .i64 (i:Int)∧s3= .int .i64 jz∧i≤n∧ -1≤jz∧jz≤n∧((i:Int)<jz→jz=(jn:Int)∧jn<n)∧(¬(i:Int)<jz→ ¬i<jn)∧dk.size=n∧Sort.reverseLoop i jn dk=Sort.reverseLoop 0 (d.size-1) d∧Mem w0 wr [aJ w0.heap.size TSL 2 (some ⟨g,0,none⟩) n c (dk.toList.flatMap aM)]) (fun a b _=>(Lib.intOf b-Lib.intOf a).toNat)
 case atStart=>exact⟨0,d.size-1,(n:Int)-1,d,rfl,rfl,Nat.zero_le _,by omega,by omega,fun h=>⟨by rw[hd.out];omega,by rw[hd.out];omega⟩,fun h=>by rw[hd.out];omega,hd.out,rfl,h0.out⟩
 case round=>
  clear h0 hw0
  obtain⟨i,jn,jz,dk,rfl,rfl,hin,hz1,hz2,h1,h2,hds,heq,hM⟩:=hrel
  have HM:=xQ hM
  have HEQ:=xQ heq
  have HDS:=xQ hds
  clear hM heq hds
  by_cases hlt:(i:Int)<jz
  ·obtain⟨rfl,hjn⟩:=h1 hlt
   have hij:i<jn:=by omega
   obtain⟨⟨a0,a1⟩,ha⟩: ∃s,dk[i]! =s:=⟨_,rfl⟩
   obtain⟨⟨b0,b1⟩,hb⟩: ∃s,dk[jn]! =s:=⟨_,rfl⟩
   have hai:dk.toList[i]? =some (a0,a1):=by rw[←ha];simp[HDS.out,show i<n by omega]
   have hbj:dk.toList[jn]? =some (b0,b1):=by rw[←hb];simp[HDS.out,hjn]
   obtain⟨fa0,fa1⟩:=aCl _ _ _ hai
   obtain⟨fb0,fb1⟩:=aCl _ _ _ hbj
   have ca0:wr.cell? ⟨g,i*2,none⟩=some (.int .i64 a0):=((HM.out.own (i:=0) rfl).cellAt (i*2) (by omega)).trans fa0
   have ca1:wr.cell? ⟨g,i*2+1,none⟩=some (.int .i64 a1):=((HM.out.own (i:=0) rfl).cellAt (i*2+1) (by omega)).trans fa1
   have cb0:wr.cell? ⟨g,jn*2,none⟩=some (.int .i64 b0):=((HM.out.own (i:=0) rfl).cellAt (jn*2) (by omega)).trans fb0
   have cb1:wr.cell? ⟨g,jn*2+1,none⟩=some (.int .i64 b1):=((HM.out.own (i:=0) rfl).cellAt (jn*2+1) (by omega)).trans fb1
   have f0:wr.frozen? ⟨g,i*2,none⟩=false:=(HM.out.own (i:=0) rfl).frozenAt _
   have f1:wr.frozen? ⟨g,i*2+1,none⟩=false:=(HM.out.own (i:=0) rfl).frozenAt _
   have f2:wr.frozen? ⟨g,jn*2,none⟩=false:=(HM.out.own (i:=0) rfl).frozenAt _
   have f3:wr.frozen? ⟨g,jn*2+1,none⟩=false:=(HM.out.own (i:=0) rfl).frozenAt _
   have hsw:Hid ((Sort.swp dk i jn).toList.flatMap aM=((((dk.toList.flatMap aM).set (i*2) (.int .i64 b0)).set (i*2+1) (.int .i64 b1)).set (jn*2) (.int .i64 a0)).set (jn*2+1) (.int .i64 a1)):=by
    show _=_
    rw[aF3,ha,hb,pG,pG]
   clear fa0 fa1 fb0 fb1 hai hbj ha hb h1 h2
   have M2:=xQ (show Mem w0 ((((wr.drew.setCell ⟨g,i*2,none⟩ (.int .i64 b0)).setCell ⟨g,i*2+1,none⟩ (.int .i64 b1)).setCell ⟨g,jn*2,none⟩ (.int .i64 a0)).setCell ⟨g,jn*2+1,none⟩ (.int .i64 a1)) [aJ w0.heap.size TSL 2 (some ⟨g,0,none⟩) n c ((Sort.swp dk i jn).toList.flatMap aM)]from by
    rw[hsw.out]
    exact((((HM.out.adv (Ext.drew (Ext.refl _))).ostore (i:=0) rfl (i*2) (.int .i64 b0)).ostore (i:=0) rfl (i*2+1) (.int .i64 b1)).ostore (i:=0) rfl (jn*2) (.int .i64 a0)).ostore (i:=0) rfl (jn*2+1) (.int .i64 a1))
   clear HM hsw
   have n1: ¬(i*2=jn*2):=by omega
   have n2: ¬(jn*2=i*2):=by omega
   have n3: ¬(i*2=jn*2+1):=by omega
   have n4: ¬(i*2+1=jn*2):=by omega
   have n5: ¬(jn*2=i*2+1):=by omega
   have n6: ¬(jn*2+1=i*2):=by omega
   have n7: ¬(i=jn):=by omega
   have n8: ¬(jn=i):=by omega
   have i1:(0:Int)≤(i:Int):=by omega
   have i2:(i:Int)<(n:Int):=by omega
   have i3:(0:Int)≤(jn:Int):=by omega
   have i4:(jn:Int)<(n:Int):=by omega
   have i5:IntKind.i64.wrap ((jn:Int)-1)=(jn:Int)-1:=IntWalk.i64_in _ (by omega)
   go_wp2_with fail
   go_region
   clear ca0 ca1 cb0 cb1 f0 f1 f2 f3 n1 n2 n3 n4 n5 n6
   go_wp2
   go_roundw
   case rel=>
    have h9:=HEQ.out
    rw[Sort.reverseLoop,if_pos hij]at h9
    exact⟨i+1,jn-1,(jn:Int)-1,Sort.swp dk i jn,by go_num,rfl,by omega,by omega,by omega,fun h=>⟨by omega,by omega⟩,fun h=>by omega,by rw[Sort.size_swp];exact HDS.out,h9,M2.out⟩
   case measure=>simp[Lib.intOf];omega
  ·have hnot:=h2 hlt
   have h9:=HEQ.out
   rw[Sort.reverseLoop,if_neg hnot,Lib.reverseLoop_reverse]at h9
   rw[h9]at HM
   clear HEQ h1 h2 h9
   go_wp2
   go_end0
   exact⟨rfl,by simpa using HM.out⟩
theorem aFx (g n c:Nat)(l:List Sl2)(w0 w:World)(hn:n≤1000)(hl:l.length=n)(h0:Mem w0 w [aJ w0.heap.size TSL 2 (some ⟨g,0,none⟩) n c (l.flatMap aM)]):
  Calls Tryz.prog 209 #[.slice (some ⟨g,0,none⟩) n c] w fun e w'=>e= .returned (.tuple #[])∧Mem w0 w' [aJ w0.heap.size TSL 2 (some ⟨g,0,none⟩) n c (l.reverse.flatMap aM)]:=by
 have:=aJc g n c l.toArray w0 w hn (xQ (by simpa using hl)) (xQ (by simpa using h0))
 simpa using this
theorem aDk (a:OA)(c:Nat)(w:World):Calls Tryz.prog 209 #[.slice a 0 c] w fun e w'=>e= .returned (.tuple #[])∧w=w':=by
 go_enter Tryz.func209,Tryz.ntmps209
 go_wp2
 go_loopw [2,3] (fun s2 s3 wr=>s2= .int .i64 0∧s3= .int .i64 (-1)∧w=wr) (fun _ _ _=>0)
 case atStart=>exact⟨rfl,rfl,rfl⟩
 case round=>
  obtain⟨rfl,rfl,rfl⟩:=hrel
  go_wp2
  go_end0
  exact⟨rfl,rfl⟩
def lB (xs:List Int):List Value:=xs.map (fun x=> .int .i32 x)
def aJe:Value→Nat
 | .slice _ n _=>n
 |_=>0
structure Trail (n N d:Nat) (B:List Int) (code:Nat→Nat) (e:Nat→Nat×Nat):Prop where
 len:B.length=N
 lt: ∀j,j≤d→code j<N
 far: ∀j,j≤d→code j=code 0→j=0
 back: ∀j,j<d→B.getD (code (j+1)) 0=code j
 f: ∀j,j<d→(e j).1<n
 t: ∀j,j<d→(e j).2<n
 hf: ∀j,j<d→(code j%2 ^ n).testBit (e j).1=false
 ht: ∀j,j<d→(code j%2 ^ n).testBit (e j).2=true
 mv: ∀j,j<d→code (j+1)%2 ^ n=cO (code j%2 ^ n) (e j).1 (e j).2
def lI (e:Nat→Nat×Nat)(d k:Nat):List Sl2:=(List.range k).map (fun i=>gQ (e (d-1-i)))
theorem aC6 (e:Nat→Nat×Nat)(d k:Nat):lI e d (k+1)=lI e d k++ [gQ (e (d-1-k))]:=by unfold lI;rw[List.range_succ,List.map_append];rfl
theorem aEr (e:Nat→Nat×Nat)(d k:Nat):(lI e d k).length=k:=by simp[lI]
theorem aEq (e:Nat→Nat×Nat)(d:Nat):(lI e d d).reverse=(List.range d).map (fun i=>gQ (e i)):=by
 apply List.ext_getElem (by simp[lI])
 intro i h1 h2
 have hi:i<d:=by simpa using h2
 simp only[lI,List.getElem_reverse,List.getElem_map,List.getElem_range,List.length_map,List.length_range]
 congr 2;omega
structure aJ7 (n j:Nat) (B:List Int) (code:Nat→Nat) (e:Nat→Nat×Nat) (A C1 C0 S1 S0 F T:Nat):Prop where
 a1:bits .and .i64 (C1:Int) (A:Int)=(S1:Int)
 a0:bits .and .i64 (C0:Int) (A:Int)=(S0:Int)
 n1:bits .andNot .i64 (S1:Int) (S0:Int)=((2 ^ F:Nat):Int)
 n0:bits .andNot .i64 (S0:Int) (S1:Int)=((2 ^ T:Nat):Int)
 f:F<12
 t:T<12
 w0:IntKind.i64.wrap (C0:Int)=(C0:Int)
 at1:B[C1]? =some (C0:Int)
theorem Trail.step {n N d:Nat}{B:List Int}{code:Nat→Nat}{e:Nat→Nat×Nat}(h:Trail n N d B code e)(hn:n≤12)(hN:N≤49152){j:Nat}(hj:j<d):
  aJ7 n j B code e (2 ^ n-1) (code (j+1)) (code j) (code (j+1)%2 ^ n) (code j%2 ^ n) (e j).1 (e j).2:=by
 have l1:=h.lt (j+1) (by omega)
 have l0:=h.lt j (by omega)
 have hf:=h.f j hj
 have ht:=h.t j hj
 have p0:2 ^ n≤2 ^ 12:=Nat.pow_le_pow_right (n:=2) (by omega) hn
 have p1:2 ^ (e j).1≤2 ^ 11:=Nat.pow_le_pow_right (n:=2) (by omega) (by omega)
 have p2:2 ^ (e j).2≤2 ^ 11:=Nat.pow_le_pow_right (n:=2) (by omega) (by omega)
 have hp:=Nat.two_pow_pos n
 have m1:=Nat.mod_lt (code (j+1)) hp
 have m0:=Nat.mod_lt (code j) hp
 refine⟨aCx _ n (by omega) hn,aCx _ n (by omega) hn,?_,?_,by omega,by omega,IntWalk.i64_in _ (by omega),?_⟩
 ·have hm:=h.mv j hj
  rw[hm]at m1⊢
  exact aGz (h.hf j hj) (h.ht j hj) (by omega) (by omega) (by omega)
 ·have hm:=h.mv j hj
  rw[hm]at m1⊢
  exact aGy (h.hf j hj) (h.ht j hj) (by omega) (by omega) (by omega)
 ·have:=h.back j hj
  rw[List.getD_eq_getElem?_getD,List.getElem?_eq_getElem (by rw[h.len];exact l1)]at this
  rw[List.getElem?_eq_getElem (by rw[h.len];exact l1)]
  exact congrArg some this
theorem aGa (n N d cB gB:Nat)(B:List Int)(code:Nat→Nat)(e:Nat→Nat×Nat)(w:World)(hn:n≤12)(hN:N≤49152)(hd:d≤60)(hT:Hid (Trail n N d B code e))(hS:Hid (Sl w (some ⟨gB,0,none⟩) N cB 1 (lB B)))(hE:Hid (BitTab w))(hb:gB<w.heap.size):
  Calls Tryz.prog 199 #[.slice (some ⟨gB,0,none⟩) N cB,.int .i64 ((code 0:Nat):Int),.int .i64 ((code d:Nat):Int),(n:Int)] w (fR ((List.range d).map (fun i=>gQ (e i))) w):=by
 have hp:=Nat.two_pow_pos n
 have hp12:2 ^ n≤2 ^ 12:=Nat.pow_le_pow_right (n:=2) (by omega) hn
 obtain⟨A,hA⟩: ∃A,A=2 ^ n-1:=⟨_,rfl⟩
 have HSP:=xQ (show∀j,j<d→_ from fun j hj=>hT.out.step hn hN hj)
 rw[←hA]at HSP
 obtain⟨Q,hQ⟩: ∃Q:Nat,Q=2 ^ n:=⟨_,rfl⟩
 have hsh:(2:Int) ^ n=(Q:Int):=by rw[hQ];simp
 have hwQ:IntKind.i64.wrap (Q:Int)=(Q:Int):=IntWalk.i64_in _ (by omega)
 have hwA:IntKind.i64.wrap ((Q:Int)-1)=(A:Int):=by rw[IntWalk.i64_in _ (by omega)];omega
 clear hA hQ hp hp12
 obtain⟨s0,hs0⟩: ∃s0,s0=code 0:=⟨_,rfl⟩
 have HS0:=xQ hs0
 rw[←hs0]
 clear hs0
 go_enter Tryz.func199,Tryz.ntmps199
 have M0:=xQ (show Mem w w [aJ w.heap.size TSL 2 (none) (0) (0) ((lI e d 0).flatMap aM)]from(Mem.start w).ownNew (Ext.refl _) (World.ownsRow_nil _ _ TSL 2) (Nat.le_refl _))
 go_wp2
 go_loopw [2,10] (fun st v wr=> ∃(k:Nat) (q:OA) (lc:Nat),k≤d∧st= .int .i64 ((code (d-k):Nat):Int)∧v= .slice q k lc∧Mem w wr [aJ w.heap.size TSL 2 (q) (k) (lc) ((lI e d k).flatMap aM)]) (fun _ v _=>d-aJe v)
 case atStart=>exact⟨0,none,0,Nat.zero_le _,rfl,rfl,M0.out⟩
 case round=>
  clear M0
  obtain⟨k,q,lc,hk,rfl,rfl,hM⟩:=hrel
  have HM:=xQ hM
  clear hM
  by_cases hlt:k<d
  ·obtain⟨j,hj⟩: ∃j,j=d-1-k:=⟨_,rfl⟩
   have hB:=HSP.out j (by omega)
   have c1lt:=hT.out.lt (j+1) (by omega)
   have cne:code (j+1)≠s0:=by rw[HS0.out];intro e2;have:=hT.out.far (j+1) (by omega) e2;omega
   have hbk:=xQ (aC6 e d k)
   rw[←hj]at hbk
   have hdk:d-k=j+1:=by omega
   have hdk1:=xQ (show d-(k+1)=j by omega)
   rw[hdk]
   generalize code (j+1)=C1 at*
   have HC0:=xQ (show code (d-(k+1))=code j by rw[hdk1.out])
   generalize code j=C0 at*
   generalize C1%2 ^ n=S1 at*
   generalize C0%2 ^ n=S0 at*
   have HEJ:Hid (gQ (e j)=(((e j).1:Int),((e j).2:Int))):=rfl
   generalize (e j).1=F at*
   generalize (e j).2=T at*
   obtain⟨b1,b2,b3,b4,b5,b6,b7,b8⟩:=hB
   have HF:=xQ (fun(w':World) (hx:Ext w w')=>tL F w' b5 (hE.out.ext hx))
   have HT:=xQ (fun(w':World) (hx:Ext w w')=>tL T w' b6 (hE.out.ext hx))
   have pF:2 ^ F≤2 ^ 11:=Nat.pow_le_pow_right (n:=2) (by omega) (by omega)
   have pT:2 ^ T≤2 ^ 11:=Nat.pow_le_pow_right (n:=2) (by omega) (by omega)
   generalize 2 ^ F=PF at*
   generalize 2 ^ T=PT at*
   have u1:IntKind.u64.wrap (PF:Int)=(PF:Int):=by rw[IntKind.wrap_u64];omega
   have u2:IntKind.u64.wrap (PT:Int)=(PT:Int):=by rw[IntKind.wrap_u64];omega
   have t0:((C1:Int)!=(s0:Int))=true:=by simp;omega
   have i1:(0:Int)≤(C1:Int):=by omega
   have i2:(C1:Int)<(N:Int):=by omega
   have cb:wr.cell? ⟨gB,C1,none⟩=some (.int .i32 (C0:Int)):=by
    refine(HM.out.ext.cells.1 _ _ hb).trans ?_
    obtain⟨b',o',e1,_,hc⟩:=hS.out.rd (by omega)
    injection e1 with e1;injection e1 with e1 e2
    subst e1 e2
    have:=hc C1 (by omega)
    rw[Nat.zero_add]at this
    rw[this]
    simp[lB,b8]
   clear cne c1lt pF pT b5 b6 b8 HSP hT hdk
   go_wp2_with (first
    |(go_at_call 208;first
      |((with_reducible refine(HF.out _ HM.out.ext).mono ?_);rintro e9 w9 ⟨rfl,rfl⟩)
      |((with_reducible refine(HT.out _ HM.out.ext).mono ?_);rintro e9 w9 ⟨rfl,rfl⟩))
    |(at_builtin;go_loud (refine bX oN rfl _ _ rfl (HM.out.adv ((Ext.refl _).alloc (.cells #[(F:Int),(T:Int)] TSL))) 0 rfl rfl (aM ((F:Int),(T:Int))) rfl (dM _ _ _ 1 2 _ (by first|rfl|simp) (by first|rfl|simp) (by simp[maxLen])) (kW _ _) (by omega) ?_;intro q7 c7 w6 M7)))
   have M8:=xQ (show Mem w w6 [aJ w.heap.size TSL 2 (q7) (k+1) (c7) ((lI e d (k+1)).flatMap aM)]from by rw[hbk.out,List.flatMap_append,List.flatMap_cons,List.flatMap_nil,List.append_nil,HEJ.out];exact M7)
   clear M7 HM
   go_wp2
   go_roundw
   case rel=>exact⟨k+1,q7,c7,by omega,by rw[HC0.out],rfl,M8.out⟩
   case measure=>simp[aJe];omega
  ·obtain rfl:d=k:=by omega
   have t0:((s0:Int)!=(s0:Int))=false:=by simp
   rw[show code (d-d)=s0 by rw[Nat.sub_self,HS0.out]]
   have hrv:=xQ (aEq e d)
   have hbl:=xQ (aEr e d d)
   by_cases h0:d=0
   ·subst h0
    go_wp2_with fail
    refine(aDk q lc _).mono ?_
    rintro e9 w9 ⟨rfl,rfl⟩
    go_wp2
    go_ret
    exact⟨q,lc,rfl,HM.out.own (i:=0) rfl,HM.out.ext⟩
   ·obtain⟨g,rfl,hg1,hg2⟩:=HM.out.some (i:=0) rfl (by omega)
    clear hg1 hg2
    have HR:=xQ (aFx g d lc (lI e d d) w wr (by omega) hbl.out HM.out)
    go_wp2_with fail
    refine(HR.out).mono ?_
    rintro e9 w9 ⟨rfl,hM9⟩
    have M9:=xQ (show Mem w w9 [aJ w.heap.size TSL 2 (some ⟨g,0,none⟩) (d) (lc) (((List.range d).map (fun i=>gQ (e i))).flatMap aM)]from by rw[←hrv.out];exact hM9)
    clear hM9 HM HR
    go_wp2
    go_ret
    have hll:((List.range d).map (fun i=>gQ (e i))).length=d:=by simp
    exact⟨some ⟨g,0,none⟩,lc,by rw[hll];rfl,by rw[hll];exact M9.out.own (i:=0) rfl,M9.out.ext⟩
end Go.Proofs.YtgnkoffndhmhpaaGreatDoor
namespace Go.Proofs.YtgnkoffndhmhpaaGreatDoor
open Go.RowKit
set_option linter.unusedVariables false
set_option linter.unusedSimpArgs false
theorem kN (v:Value)(n:Nat):(madeCells #[v] n).toList=List.replicate n v∧(madeCells #[v] n).size=n:=by
 constructor
 ·apply List.ext_getElem<;>simp[madeCells,Nat.mod_one]
 ·simp[madeCells]
def fU (n:Nat)(rows:List RowD):List Value:=rows.map RowD.v++List.replicate (n-rows.length) (.slice none 0 0)
theorem aGu {n:Nat}{rows:List RowD}(h:rows.length<n):(fU n rows)[rows.length]? =some (.slice none 0 0):=by
 unfold fU
 rw[List.getElem?_append_right (by simp)]
 simp[List.getElem?_replicate];omega
theorem aEh {n:Nat}{rows:List RowD}(h:rows.length<n)(r:RowD):(fU n rows).set rows.length r.v=fU n (rows++ [r]):=by
 unfold fU
 have e:n-rows.length=(n-(rows++ [r]).length)+1:=by simp;omega
 rw[e,List.replicate_succ,List.set_append_right _ _ (by simp),List.map_append,List.append_assoc]
 simp
theorem aEi {n k:Nat}{rows:List RowD}{r:RowD}(h:rows[k]? =some r):(fU n rows)[k]? =some r.v:=by
 unfold fU
 rw[List.getElem?_append_left (by simpa using(List.getElem?_eq_some_iff.1 h).1),List.getElem?_map,h];rfl
theorem oJ (xs:List Int)(k:Nat)(x:Int):(lB xs).set k (.int .i32 x)=lB (xs.set k x):=by simp[lB,List.map_set]
theorem wB {xs:List Int}{k:Nat}{x:Int}(h:xs[k]? =some x):(lB xs)[k]? =some (.int .i32 x):=by simp[lB,h]
theorem pK {aA:Int}{n M s f:Nat}(hf:f≤n): ∀v∈fT aA n M s f,v∈lF aA n M s:=by
 intro v hv
 rw[←tV]
 unfold fT at hv⊢
 obtain⟨x,hx,hv⟩:=List.mem_flatMap.1 hv
 exact List.mem_flatMap.2 ⟨x,List.mem_range.2 (Nat.lt_of_lt_of_le (List.mem_range.1 hx) hf),hv⟩
theorem tU {aA:Int}{n M s f j:Nat}(hf:f<n)(hb:(s%M).testBit f=false): ∀v∈gH aA n M s f j,v∈lF aA n M s:=by
 intro v hv
 refine pK (f:=f+1) hf v ?_
 rw[nI,aH3 hb]
 refine List.mem_append_right _ ?_
 unfold gH at hv⊢
 rw[List.take_length]
 obtain⟨t,ht,e⟩:=List.mem_map.1 hv
 obtain⟨h1,h2⟩:=List.mem_filter.1 ht
 exact List.mem_map.2 ⟨t,List.mem_filter.2 ⟨List.mem_of_mem_take h1,h2⟩,e⟩
structure aJ6 (n u f t PF PT P2 X1 mv nx:Nat) (D:Int):Prop where
 x1:bits .xor .i64 (u:Int) (PF:Int)=(X1:Int)
 x2:bits .xor .i64 (X1:Int) (PT:Int)=(mv:Int)
 no:f≠u/P2→mv=nx
 yes:f=u/P2→IntKind.i64.wrap ((mv:Int)+D)=(nx:Int)
 d:IntKind.i64.wrap (((t:Int)-(f:Int))*(P2:Int))=D
theorem aHy {n u f t:Nat}(hn:n≤12)(hu:u<n*2 ^ n)(hfn:f<n)(htn:t<n)(hf:u.testBit f=false)(ht:u.testBit t=true)(hb:eZ (2 ^ n) (u/2 ^ n) (u%2 ^ n) f t<n*2 ^ n):
  aJ6 n u f t (2 ^ f) (2 ^ t) (2 ^ n) (u ^^^ 2 ^ f) (cO u f t) (eZ (2 ^ n) (u/2 ^ n) (u%2 ^ n) f t) (((t:Int)-(f:Int))*(2 ^ n:Nat)):=by
 have p0:2 ^ n≤2 ^ 12:=Nat.pow_le_pow_right (n:=2) (by omega) hn
 have p1:2 ^ f≤2 ^ 11:=Nat.pow_le_pow_right (n:=2) (by omega) (by omega)
 have p2:2 ^ t≤2 ^ 11:=Nat.pow_le_pow_right (n:=2) (by omega) (by omega)
 have hN:n*2 ^ n≤12*4096:=Nat.mul_le_mul hn (by omega)
 have hx1:u ^^^ 2 ^ f<2 ^ 16:=Nat.xor_lt_two_pow (by omega) (by omega)
 have hD1:((t:Int)-(f:Int))*(2 ^ n:Nat)≤12*4096:=by
  have h1:((t:Int)-(f:Int))*(2 ^ n:Nat)=(t:Int)*(2 ^ n:Nat)-(f:Int)*(2 ^ n:Nat):=Int.sub_mul _ _ _
  have h2:t*2 ^ n≤12*4096:=Nat.mul_le_mul (by omega) (by omega)
  have h3:(t:Int)*(2 ^ n:Nat)=((t*2 ^ n:Nat):Int):=by push_cast;rfl
  have h4:(f:Int)*(2 ^ n:Nat)=((f*2 ^ n:Nat):Int):=by push_cast;rfl
  omega
 have hD2: -(12*4096)≤((t:Int)-(f:Int))*(2 ^ n:Nat):=by
  have h1:((t:Int)-(f:Int))*(2 ^ n:Nat)=(t:Int)*(2 ^ n:Nat)-(f:Int)*(2 ^ n:Nat):=Int.sub_mul _ _ _
  have h2:f*2 ^ n≤12*4096:=Nat.mul_le_mul (by omega) (by omega)
  have h3:(t:Int)*(2 ^ n:Nat)=((t*2 ^ n:Nat):Int):=by push_cast;rfl
  have h4:(f:Int)*(2 ^ n:Nat)=((f*2 ^ n:Nat):Int):=by push_cast;rfl
  omega
 refine⟨qG _ _ (by omega) (by omega),?_,fun hc=>(aHz hfn htn hf ht hc).symm,fun hc=> ?_,IntWalk.i64_in _ (by omega)⟩
 ·rw[qG _ _ (by omega) (by omega),aEw hf ht]
 ·have h1:=aG3 hfn htn hf ht hc
  have h2:((2 ^ n:Nat):Int)=(2:Int) ^ n:=by simp
  rw[h2,←h1]
  exact IntWalk.i64_in _ (by omega)
theorem aHh {u f:Nat}(hu:u<9223372036854775808)(hf:f<12)(hb:u.testBit f=false):bits .and .i64 (u:Int) ((2 ^ f:Nat):Int)=0:=by
 have p1:2 ^ f≤2 ^ 11:=Nat.pow_le_pow_right (n:=2) (by omega) (by omega)
 rw[lV u _ hu (by omega),aCw,hb];rfl
theorem aCt {u f:Nat}(hu:u<9223372036854775808)(hf:f<12)(hb:u.testBit f=true):bits .and .i64 (u:Int) ((2 ^ f:Nat):Int)=((2 ^ f:Nat):Int):=by
 have p1:2 ^ f≤2 ^ 11:=Nat.pow_le_pow_right (n:=2) (by omega) (by omega)
 rw[lV u _ hu (by omega),aCw,hb];rfl
theorem SGoal.trail {aA:Int}{xs:List Int}{c d u:Nat}{B:List Int}(hn:xs.length≤12)(h:SGoal aA xs c d u B)(hl:B.length=xs.length*2 ^ xs.length):
  Trail xs.length (xs.length*2 ^ xs.length) d B (fun j=>eD xs.length (gP aA xs.length (aW (fE aA xs.length (bI xs).length)) (st0 xs c) j)) (fun j=>fA aA xs.length (aW (fE aA xs.length (bI xs).length)) (st0 xs c) j):=by
 have hmod: ∀j,j≤d→eD xs.length (gP aA xs.length (aW (fE aA xs.length (bI xs).length)) (st0 xs c) j)%2 ^ xs.length=(gP aA xs.length (aW (fE aA xs.length (bI xs).length)) (st0 xs c) j).2:=fun j hj=>(iT (h.pt j hj).set).2
 refine⟨hl,fun j hj=>oQ (h.pt j hj).car (h.pt j hj).set,fun j hj e=>h.far j hj e,h.back,fun j hj=> ?_,fun j hj=> ?_,fun j hj=> ?_,fun j hj=> ?_,fun j hj=> ?_⟩
 ·exact(eJ.1 (h.edge j hj).1).1
 ·exact(eJ.1 (h.edge j hj).1).2.1
 ·rw[hmod j (by omega)];exact(eJ.1 (h.edge j hj).1).2.2.2.1
 ·rw[hmod j (by omega)];exact(eJ.1 (h.edge j hj).1).2.2.2.2
 ·rw[hmod j (by omega),hmod (j+1) (by omega),(h.edge j hj).2];rfl
end Go.Proofs.YtgnkoffndhmhpaaGreatDoor
