/-
  Texts of this proof, packed (@packed).
-/
import Derived.Test.YtbgkcehffiogcacGreatDoorZ20
namespace Go.Proofs.YtbgkcehffiogcacGreatDoor
open Go.RowKit
set_option linter.unusedSimpArgs false
set_option linter.unusedVariables false
set_option maxHeartbeats 8000000
set_option maxRecDepth 100000
section
open Go.Proofs.Tryz
theorem aN2 {W0 wr:World}{B:Nat}(hg:W0.grownBy wr (some B))(o:Nat)(v:Value):W0.grownBy (wr.setCell ⟨B,o,none⟩ v) (some B):=
 ⟨hg.os,hg.tape,hg.output,by simpa using hg.size,fun k hk hne=>by rw[aT0 _ _ _ _ (fun e=>hne (by simp[e]))];exact hg.block k hk hne⟩
def ChgE (e:TypeId)(B T:Nat)(w w':World):Prop:= ∃row,w.grownBy w' row∧ ∀g,row=some g→B≤g∧g<T∧ ∃cur,w.heap[g]? =some (.cells cur e (0,0))
theorem ChgE.chg {e:TypeId}{B T:Nat}{w w':World}(h:ChgE e B T w w'):Chg B T w w':=by obtain⟨a,hg,hr⟩:=h;exact Chg.of_grown hg (fun g e=>⟨(hr g e).1,(hr g e).2.1⟩)
theorem ChgE.refl (e:TypeId)(B T:Nat)(w:World):ChgE e B T w w:=⟨none,aRt _ _,fun g h=>by cases h⟩
theorem Blk.chg {w w':World}{g B T:Nat}{t:TypeId}{cs:Array Value}(h:Blk w g t cs)(hc:Chg B T w w')(hd:g<B∨T≤g):Blk w' g t cs:=(hc.block g h.lt hd).trans h
theorem OwnT.held {w:World}{B T n cap:Nat}{e:TypeId}{sz:Nat}{p:OA}{K:Int}(h:OwnT w B T e sz p n cap (bG K (n*sz)))(hn:0<n):
  ∃g,p=some ⟨g,0,none⟩∧ ∀j,j<n*sz→w.cell? ⟨g,0+j,none⟩=some (I (K+j)):=by
 rcases h.2 with⟨rfl,_⟩|⟨h2,_⟩
 ·omega
 rcases h2.2 with⟨_,h3⟩|⟨g,cap',cur,h1,hb,hg,hn,hm,hs,ht⟩
 ·omega
 injection h1 with e1 e2 e3;refine⟨g,e1,fun j hj=> ?_⟩;subst e1;rw[aRq,h2.cellAt j hj];exact mN _ _ _ hj
theorem aBc (g n cap base:Nat)(xs:List Value)(K0:Int)(w:World)(q:n≤1099511627776)(h0:0≤K0)(h1:K0≤4611686018427387904)
  (HO:Hid (w.ownsRow base TI 1 (.slice (some ⟨g,0,none⟩) n cap) n xs)):
  U 96 #[.slice (some ⟨g,0,none⟩) n cap,K0] w fun e w'=>e= .returned (I (K0+(n*1:Nat)))∧w'.ownsRow base TI 1 (.slice (some ⟨g,0,none⟩) n cap) n (bG K0 (n*1))∧w.grownBy w' (some g):=by
 go_enter func96,ntmps96;go_wp2;go_loopw [1,5] (fun kk i wr=> ∃(k:Nat) (K:Int) (rest:List Value),k≤n∧kk=I K∧i=I k∧K=K0+(k*1:Nat)∧rest.length=(n-k)*1∧wr.ownsRow base TI 1 (.slice (some ⟨g,0,none⟩) n cap) n (bG K0 (k*1)++rest)∧w.grownBy wr (some g)) (fun _ i _=>n-(intOf i).toNat)
 case atStart=>exact⟨0,K0,xs,aQt _,rfl,rfl,by simp,by rw[HO.out.1];simp,by simpa[bG]using HO.out,aRt _ _⟩
 case round=>
  obtain⟨k,K,rest,hk,rfl,rfl,hK,j,d,hg⟩:=hrel;have o:0≤K:=by omega
  have p:K≤4611697013543665664:=by omega
  have HK:=xQ hK;have b:=xQ d;have f:=xQ j;have HG:=xQ hg;clear hK d j hg;by_cases hlt:k<n
  ·obtain⟨r0,rest',a⟩: ∃r0 rest',rest=r0::rest':=by
    have h3:1≤rest.length:=by rw[f.out];have:=aRg 1 (show 1≤n-k by omega);omega
    match rest,h3 with
    |r0::rest',_=>exact⟨r0,rest',rfl⟩
   have h:(bG K0 (k*1)).length=k*1:=iK _ _;have o0:wr.cell? ⟨g,k,none⟩=some r0:=by rw[b.out.cellAt _ (by have:=aRg 1 hlt;rw[aRz]at this;omega),a,aR2 (by omega),h];simp
   have f0:wr.frozen? ⟨g,k,none⟩=false:=b.out.frozenAt _;have m:=xQ h;have c:=xQ a;clear h a;go_wp2;go_roundw
   case rel=>
    refine⟨k+1,K+1,rest',by omega,by go_num,by go_num,by rw[HK.out];omega,?_,?_,?_⟩
    ·have:=f.out;rw[c.out]at this;simp only[aRm]at this;have e2:n-k=(n-(k+1))+1:=by omega
     rw[e2,aRz]at this;omega
    ·have hs:=(b.out.stored (k) (I (K))).1;have e:((bG K0 (k*1)++rest).set (k) (I (K)))=bG K0 ((k+1)*1)++rest':=by
      rw[aDk,c.out,←HK.out];have:=m.out;try simp only[Nat.mul_one]at this
      simp[this]
     rw[e]at hs;exact hs
    exact(aN2 HG _ _)
   case measure=>simp[intOf];omega
  obtain rfl:k=n:=by omega
  have e2:rest= []:=aR8 (by rw[f.out];simp);have l:=xQ e2;clear e2;go_wp2;go_ret;refine⟨dO (by simpa using HK.out),?_,HG.out⟩;have:=b.out;rw[l.out]at this;simpa using this
theorem aBb (p:OA)(cap:Nat)(K0:Int)(w:World):
  U 96 #[.slice p 0 cap,K0] w fun e w'=>e= .returned (I K0)∧w=w':=by
 go_enter func96,ntmps96;go_wp2;go_rounds 1;go_ret;exact⟨rfl,rfl⟩
theorem aC0 (b c n cap:Nat)(K0:Int)(w:World)(g:n≤1099511627776)(h0:0≤K0)(h1:K0≤4611686018427387904)
  (HR:Hid (∀j,j<n*1→w.cell? ⟨b,c+j,none⟩=some (I (K0+j)))):
  U 97 #[.slice (some ⟨b,c,none⟩) n cap,K0] w fun e w'=>e= .returned (I (K0+(n*1:Nat)))∧w=w':=by
 go_enter func97,ntmps97;go_wp2;go_loop [1,5] (fun kk i=> ∃(k:Nat) (K:Int),k≤n∧kk=I K∧i=I k∧K=K0+(k*1:Nat)) (fun _ i=>n-(intOf i).toNat)
 case atStart=>exact⟨0,K0,aQt _,rfl,rfl,by simp⟩
 case round=>
  obtain⟨k,K,hk,rfl,rfl,hK⟩:=hrel;have d:0≤K:=by omega
  have f:K≤4611697013543665664:=by omega
  by_cases hlt:k<n
  ·have a:=aRg 1 hlt;rw[aRz]at a;have v0:w.cell? ⟨b,c+k,none⟩=some (I (K)):=by have:=HR (k) (by omega);rw[show(K:Int)=K0+((k:Nat):Int) by omega];exact this
   have HK:=xQ hK;clear hK a;go_wp2;go_round
   case rel=>exact⟨k+1,K+1,by omega,by go_num,by go_num,by rw[HK.out];omega⟩
   case measure=>simp[intOf];omega
  obtain rfl:k=n:=by omega
  have HK:=xQ hK;clear hK;go_wp2;go_ret;exact⟨dO (by simpa using HK.out),rfl⟩
theorem aBz (p:OA)(cap:Nat)(K0:Int)(w:World):
  U 97 #[.slice p 0 cap,K0] w fun e w'=>e= .returned (I K0)∧w=w':=by
 go_enter func97,ntmps97;go_wp2;go_rounds 1;go_ret;exact⟨rfl,rfl⟩
theorem wR (g n cap base:Nat)(xs:List Value)(K0:Int)(w:World)(q:n≤1099511627776)(h0:0≤K0)(h1:K0≤4611686018427387904)
  (HO:Hid (w.ownsRow base TV 4 (.slice (some ⟨g,0,none⟩) n cap) n xs)):
  U 42 #[.slice (some ⟨g,0,none⟩) n cap,K0] w fun e w'=>e= .returned (I (K0+(n*4:Nat)))∧w'.ownsRow base TV 4 (.slice (some ⟨g,0,none⟩) n cap) n (bG K0 (n*4))∧w.grownBy w' (some g):=by
 go_enter func42,ntmps42;go_wp2;go_loopw [1,5] (fun kk i wr=> ∃(k:Nat) (K:Int) (rest:List Value),k≤n∧kk=I K∧i=I k∧K=K0+(k*4:Nat)∧rest.length=(n-k)*4∧wr.ownsRow base TV 4 (.slice (some ⟨g,0,none⟩) n cap) n (bG K0 (k*4)++rest)∧w.grownBy wr (some g)) (fun _ i _=>n-(intOf i).toNat)
 case atStart=>exact⟨0,K0,xs,aQt _,rfl,rfl,by simp,by rw[HO.out.1];simp,by simpa[bG]using HO.out,aRt _ _⟩
 case round=>
  obtain⟨k,K,rest,hk,rfl,rfl,hK,j,f,hg⟩:=hrel;have o:0≤K:=by omega
  have p:K≤4611697013543665664:=by omega
  have HK:=xQ hK;have a:=xQ f;have h:=xQ j;have HG:=xQ hg;clear hK f j hg;by_cases hlt:k<n
  ·obtain⟨r0,r1,r2,r3,rest',b⟩: ∃r0 r1 r2 r3 rest',rest=r0::r1::r2::r3::rest':=by
    have h3:4≤rest.length:=by rw[h.out];have:=aRg 4 (show 1≤n-k by omega);omega
    match rest,h3 with
    |r0::r1::r2::r3::rest',_=>exact⟨r0,r1,r2,r3,rest',rfl⟩
   have c:(bG K0 (k*4)).length=k*4:=iK _ _;have o0:wr.cell? ⟨g,k*4,none⟩=some r0:=by rw[a.out.cellAt _ (by have:=aRg 4 hlt;rw[aRz]at this;omega),b,aR2 (by omega),c];simp
   have f0:wr.frozen? ⟨g,k*4,none⟩=false:=a.out.frozenAt _;have o1:wr.cell? ⟨g,k*4+1,none⟩=some r1:=by rw[a.out.cellAt _ (by have:=aRg 4 hlt;rw[aRz]at this;omega),b,aR2 (by omega),c];simp
   have f1:wr.frozen? ⟨g,k*4+1,none⟩=false:=a.out.frozenAt _;have o2:wr.cell? ⟨g,k*4+2,none⟩=some r2:=by rw[a.out.cellAt _ (by have:=aRg 4 hlt;rw[aRz]at this;omega),b,aR2 (by omega),c];simp
   have f2:wr.frozen? ⟨g,k*4+2,none⟩=false:=a.out.frozenAt _;have o3:wr.cell? ⟨g,k*4+3,none⟩=some r3:=by rw[a.out.cellAt _ (by have:=aRg 4 hlt;rw[aRz]at this;omega),b,aR2 (by omega),c];simp
   have f3:wr.frozen? ⟨g,k*4+3,none⟩=false:=a.out.frozenAt _;have m:=xQ c;have d:=xQ b;clear c b;go_wp2;go_roundw
   case rel=>
    refine⟨k+1,K+1+1+1+1,rest',by omega,by go_num,by go_num,by rw[HK.out];omega,?_,?_,?_⟩
    ·have:=h.out;rw[d.out]at this;simp only[aRm]at this;have e2:n-k=(n-(k+1))+1:=by omega
     rw[e2,aRz]at this;omega
    ·have hs:=((((a.out.stored (k*4) (I (K))).1.stored (k*4+1) (I (K+1))).1.stored (k*4+2) (I (K+1+1))).1.stored (k*4+3) (I (K+1+1+1))).1;have e:(((((bG K0 (k*4)++rest).set (k*4) (I (K))).set (k*4+1) (I (K+1))).set (k*4+2) (I (K+1+1))).set (k*4+3) (I (K+1+1+1)))=bG K0 ((k+1)*4)++rest':=by
      rw[aDj,d.out,←HK.out];have:=m.out;try simp only[Nat.mul_one]at this
      simp[this]
     rw[e]at hs;exact hs
    exact(aN2 (aN2 (aN2 (aN2 HG _ _) _ _) _ _) _ _)
   case measure=>simp[intOf];omega
  obtain rfl:k=n:=by omega
  have e2:rest= []:=aR8 (by rw[h.out];simp);have l:=xQ e2;clear e2;go_wp2;go_ret;refine⟨dO (by simpa using HK.out),?_,HG.out⟩;have:=a.out;rw[l.out]at this;simpa using this
theorem wQ (p:OA)(cap:Nat)(K0:Int)(w:World):
  U 42 #[.slice p 0 cap,K0] w fun e w'=>e= .returned (I K0)∧w=w':=by
 go_enter func42,ntmps42;go_wp2;go_rounds 1;go_ret;exact⟨rfl,rfl⟩
theorem xK (b a n cap:Nat)(K0:Int)(w:World)(g:n≤1099511627776)(h0:0≤K0)(h1:K0≤4611686018427387904)
  (HR:Hid (∀j,j<n*4→w.cell? ⟨b,a+j,none⟩=some (I (K0+j)))):
  U 44 #[.slice (some ⟨b,a,none⟩) n cap,K0] w fun e w'=>e= .returned (I (K0+(n*4:Nat)))∧w=w':=by
 go_enter func44,ntmps44;go_wp2;go_loop [1,5] (fun kk i=> ∃(k:Nat) (K:Int),k≤n∧kk=I K∧i=I k∧K=K0+(k*4:Nat)) (fun _ i=>n-(intOf i).toNat)
 case atStart=>exact⟨0,K0,aQt _,rfl,rfl,by simp⟩
 case round=>
  obtain⟨k,K,hk,rfl,rfl,hK⟩:=hrel;have d:0≤K:=by omega
  have f:K≤4611697013543665664:=by omega
  by_cases hlt:k<n
  ·have c:=aRg 4 hlt;rw[aRz]at c;have v0:w.cell? ⟨b,a+k*4,none⟩=some (I (K)):=by have:=HR (k*4) (by omega);rw[show(K:Int)=K0+((k*4:Nat):Int) by omega];exact this
   have v1:w.cell? ⟨b,a+k*4+1,none⟩=some (I (K+1)):=by have:=HR (k*4+1) (by omega);rw[show(K+1:Int)=K0+((k*4+1:Nat):Int) by omega];exact this
   have v2:w.cell? ⟨b,a+k*4+2,none⟩=some (I (K+1+1)):=by have:=HR (k*4+2) (by omega);rw[show(K+1+1:Int)=K0+((k*4+2:Nat):Int) by omega];exact this
   have v3:w.cell? ⟨b,a+k*4+3,none⟩=some (I (K+1+1+1)):=by have:=HR (k*4+3) (by omega);rw[show(K+1+1+1:Int)=K0+((k*4+3:Nat):Int) by omega];exact this
   have HK:=xQ hK;clear hK c;go_wp2;go_round
   case rel=>exact⟨k+1,K+1+1+1+1,by omega,by go_num,by go_num,by rw[HK.out];omega⟩
   case measure=>simp[intOf];omega
  obtain rfl:k=n:=by omega
  have HK:=xQ hK;clear hK;go_wp2;go_ret;exact⟨dO (by simpa using HK.out),rfl⟩
theorem xJ (p:OA)(cap:Nat)(K0:Int)(w:World):
  U 44 #[.slice p 0 cap,K0] w fun e w'=>e= .returned (I K0)∧w=w':=by
 go_enter func44,ntmps44;go_wp2;go_rounds 1;go_ret;exact⟨rfl,rfl⟩
theorem ChgE.pre {e:TypeId}{B T:Nat}{w a w':World}(h:ChgE e B T a w')(hx:Ext w a)(hT:T≤w.heap.size):ChgE e B T w w':=by obtain⟨c,hg,hr⟩:=h;refine⟨c,⟨hg.os.trans hx.os,hg.tape.trans hx.tape,hg.output.trans hx.output,aQy hx.size hg.size,fun i hi hne=>(hg.block i (aQm hi hx.size) hne).trans (hx.block i hi)⟩,fun g e=> ?_⟩;obtain⟨h1,h2,b,h3⟩:=hr g e;exact⟨h1,h2,b,by rw[←hx.block g (by omega)];exact h3⟩
def nE (D:aP→Int)(vs:List aP):Int:=vs.foldl (fun a v=>a+D v) 0
theorem zD (D:aP→Int){vs:List aP}{k:Nat}{v:aP}(h:vs[k]? =some v):nE D (vs.take (k+1))=nE D (vs.take k)+D v:=by unfold nE;rw[bC h,List.foldl_append];rfl
theorem aAm (D:aP→Int): ∀(vs:List aP) (a:Int),(∀v∈vs,0≤D v∧D v≤693)→a≤vs.foldl (fun a v=>a+D v) a∧vs.foldl (fun a v=>a+D v) a≤a+693*vs.length:=by
 intro vs;induction vs with
 |nil=>intro a _;simp
 |cons v vs ih=>intro a h;obtain⟨h0,h1⟩:=h v (by simp);have:=ih (a+D v) (fun x hx=>h x (by simp[hx]));simp only[List.foldl_cons,aRm];omega
theorem aGk (aA aB a b aD aF aC aG:Int)(p:OA)(n cap:Nat)(q:OA)(m c2:Nat)(w:World)(HV:xB 31 #[.agg #[aA,aB,.slice p n cap,a,b,aD,aF,aC,aG,.slice q m c2]] w false):
  U 89 #[.agg #[aA,aB,.slice p n cap,a,b,aD,aF,aC,aG,.slice q m c2]] w (O (I (-1)) w):=by
 go_enter func89,ntmps89;go_wp2_with fail;refine Z (HV _ (by exact .alloc (.refl _) _)) fun w1 c=>?_
 go_wp2;go_ret;exact⟨rfl,by exact .trans (.alloc (.refl _) _) c⟩
theorem aFb (aA aB a b aD aF aC aG:Int)(p:OA)(n cap:Nat)(q:OA)(m c2:Nat)(w:World)(HV:xB 21 #[.agg #[aA,aB,.slice p n cap,a,b,aD,aF,aC,aG,.slice q m c2]] w false):
  U 67 #[.agg #[aA,aB,.slice p n cap,a,b,aD,aF,aC,aG,.slice q m c2]] w (O (I (-1)) w):=by
 go_enter func67,ntmps67;go_wp2_with fail;refine Z (HV _ (by exact .alloc (.refl _) _)) fun w1 c=>?_
 go_wp2;go_ret;exact⟨rfl,by exact .trans (.alloc (.refl _) _) c⟩
theorem aE1 (aA aB a c aD aF aC aG:Int)(p:OA)(n cap:Nat)(q:OA)(m c2:Nat)(w:World)(vs:List aP)(D:aP→Int)(hm:m≤12)(HB:Hid (∀v∈vs,0≤D v∧D v≤693))(HS:Hid (Sl w q m c2 4 (vs.flatMap aE)))
  (HV:xB 31 #[.agg #[aA,aB,.slice p n cap,a,c,aD,aF,aC,aG,.slice q m c2]] w true)
  (HD:Hid (∀w' (k:Nat) a0 a1 a2 a3,vs[k]? =some (a0,a1,a2,a3)→U 130 #[aS a c aD aF,bS a1 a2 a3,aC] w' (O (I (D (a0,a1,a2,a3))) w'))):
  U 89 #[.agg #[aA,aB,.slice p n cap,a,c,aD,aF,aC,aG,.slice q m c2]] w (O (I (nE D vs)) w):=by
 have hl:Hid (vs.length=m):=by have:=HS.out.len;rw[cQ aE 4 (fun _=>rfl)]at this;exact(by omega:vs.length=m)
 go_enter func89,ntmps89;go_wp2_with fail;refine Z (HV _ (by exact .alloc (.refl _) _)) fun w1 g=>?_
 have BA:Blk w1 w 35 #[aA,aB,.slice p n cap,a,c,aD,aF,aC,aG,.slice q m c2]:=(Blk.new w _ _).ext g;have j:=xQ BA;have X1:Ext w w1:=by exact .trans (.alloc (.refl _) _) g
 clear g;obtain⟨a0,a1,a2,a3,a4,a5,a6,a7,a8,a9⟩:=BA.ten;clear BA;go_wp2;clear a0 a1 a2 a3 a4 a5 a6 a7 a8 a9;go_loopw [3,12] (fun o i wr=> ∃k:Nat,k≤m∧i=I k∧o=I (nE D (vs.take k))∧Ext w wr∧Blk wr w 35 #[aA,aB,.slice p n cap,a,c,aD,aF,aC,aG,.slice q m c2]) (fun _ i _=>m-(intOf i).toNat)
 case atStart=>exact⟨0,aQt _,rfl,rfl,X1,j.out⟩
 case round=>
  obtain⟨k,hk,rfl,rfl,hE,hB⟩:=hrel;have f:=xQ hB;clear X1 j;have ah:(w:Nat)<wr:=hB.lt;clear hB;by_cases hlt:k<m
  ·obtain⟨b,ai,a0,a1,a2,a3,rfl,hv,hb,g0,g1,g2,g3⟩:=eC (HS.out.ext hE) hlt;have y:=xQ hv;have s:=xQ (zD D hv);have hd:=HB _ (aQq hv);have h:=aAm D (vs.take k) 0 (fun x hx=>HB x (aSc hx));have ab:(vs.take k).length≤12:=by rw[aRc,hl.out];omega
   obtain⟨S,hS⟩: ∃S,S=nE D (vs.take k):=⟨_,rfl⟩
   obtain⟨E,d⟩: ∃E,E=D (a0,a1,a2,a3):=⟨_,rfl⟩
   change 0≤nE D (vs.take k)∧nE D (vs.take k)≤_ at h;rw[←hS]at h⊢;rw[←d]at hd;obtain⟨ad,ae⟩:=hd;obtain⟨af,aa⟩:=h;have ag:S≤8316:=by omega
   have t:Hid (S+E=nE D (vs.take (k+1))):=by show _=_;rw[s.out,hS,d]
   have u:=xQ d;clear hS aa ab s hv d;obtain⟨e0,e1,e2,e3,e4,e5,e6,e7,e8,e9⟩:=f.out.ten;go_wp2_with fail;refine Z (HD _ k a0 a1 a2 a3 y.out) fun w2 r=>?_
   rw[←u.out];have z:=xQ ((f.out.alloc _).ext r);go_wp2;go_roundw
   case rel=>exact⟨k+1,by omega,by go_num,by rw[←t.out],by exact .trans (.alloc hE _) r,z.out⟩
   case measure=>simp[intOf];omega
  have l:Hid (nE D (vs.take k)=nE D vs):=by show _=_;rw[aQu (by rw[hl.out];omega)]
  have e9:=f.out.cl 9;go_wp2;go_ret;exact⟨dO l.out,hE⟩
theorem aCr (aA aB a c aD aF aC aG:Int)(p:OA)(n cap:Nat)(q:OA)(m c2:Nat)(w:World)(vs:List aP)(D:aP→Int)(hm:m≤12)(HB:Hid (∀v∈vs,0≤D v∧D v≤693))(HS:Hid (Sl w q m c2 4 (vs.flatMap aE)))
  (HV:xB 21 #[.agg #[aA,aB,.slice p n cap,a,c,aD,aF,aC,aG,.slice q m c2]] w true)
  (HD:Hid (∀w' (k:Nat) a0 a1 a2 a3,Ext w w'→vs[k]? =some (a0,a1,a2,a3)→U 69 #[.agg #[aA,aB,.slice p n cap,a,c,aD,aF,aC,aG,.slice q m c2],a0] w' (O (I (D (a0,a1,a2,a3))) w'))):
  U 67 #[.agg #[aA,aB,.slice p n cap,a,c,aD,aF,aC,aG,.slice q m c2]] w (O (I (nE D vs)) w):=by
 have hl:Hid (vs.length=m):=by have:=HS.out.len;rw[cQ aE 4 (fun _=>rfl)]at this;exact(by omega:vs.length=m)
 go_enter func67,ntmps67;go_wp2_with fail;refine Z (HV _ (by exact .alloc (.refl _) _)) fun w1 l=>?_
 have BA:Blk w1 w 35 #[aA,aB,.slice p n cap,a,c,aD,aF,aC,aG,.slice q m c2]:=(Blk.new w _ _).ext l;have t:=xQ BA;have X1:Ext w w1:=by exact .trans (.alloc (.refl _) _) l
 clear l;obtain⟨a0,a1,a2,a3,a4,a5,a6,a7,a8,a9⟩:=BA.ten;clear BA;go_wp2;clear a0 a1 a2 a3 a4 a5 a6 a7 a8 a9;go_loopw [3,4] (fun o i wr=> ∃k:Nat,k≤m∧i=I k∧o=I (nE D (vs.take k))∧Ext w wr∧Blk wr w 35 #[aA,aB,.slice p n cap,a,c,aD,aF,aC,aG,.slice q m c2]) (fun _ i _=>m-(intOf i).toNat)
 case atStart=>exact⟨0,aQt _,rfl,rfl,X1,t.out⟩
 case round=>
  obtain⟨k,hk,rfl,rfl,hE,hB⟩:=hrel;have h:=xQ hB;clear X1 t;have ai:(w:Nat)<wr:=hB.lt;clear hB;by_cases hlt:k<m
  ·obtain⟨b,s,a0,a1,a2,a3,rfl,hv,hb,g0,g1,g2,g3⟩:=eC (HS.out.ext hE) hlt;have aa:=xQ hv;have y:=xQ (zD D hv);have hd:=HB _ (aQq hv);have r:=aAm D (vs.take k) 0 (fun x hx=>HB x (aSc hx));have ad:(vs.take k).length≤12:=by rw[aRc,hl.out];omega
   obtain⟨S,hS⟩: ∃S,S=nE D (vs.take k):=⟨_,rfl⟩
   obtain⟨E,f⟩: ∃E,E=D (a0,a1,a2,a3):=⟨_,rfl⟩
   change 0≤nE D (vs.take k)∧nE D (vs.take k)≤_ at r;rw[←hS]at r⊢;rw[←f]at hd;obtain⟨ae,af⟩:=hd;obtain⟨ag,ab⟩:=r;have ah:S≤8316:=by omega
   have g:Hid (S+E=nE D (vs.take (k+1))):=by show _=_;rw[y.out,hS,f]
   have z:=xQ f;clear hS ab ad y hv f;obtain⟨e0,e1,e2,e3,e4,e5,e6,e7,e8,e9⟩:=h.out.ten;have i1:(0:Int)≤(k:Int):=by omega
   have i2:(k:Int)<(m:Int):=by omega
   have j1:IntKind.i64.wrap (S+E)=S+E:=aQp _ (by omega);go_wp2
   go_region_held3 (fun w'=>w'.cell? ⟨w,0,none⟩=some (I aA)∧w'.cell? ⟨w,1,none⟩=some (I aB)∧w'.cell? ⟨w,2,none⟩=some (.slice p n cap)∧w'.cell? ⟨w,3,none⟩=some (I a)∧w'.cell? ⟨w,4,none⟩=some (I c)∧w'.cell? ⟨w,5,none⟩=some (I aD)∧w'.cell? ⟨w,6,none⟩=some (I aF)∧w'.cell? ⟨w,7,none⟩=some (I aC)∧w'.cell? ⟨w,8,none⟩=some (I aG)∧w'.cell? ⟨w,9,none⟩=some (.slice (some ⟨b,s,none⟩) m c2)∧w'.cell? ⟨b,s+k*4,none⟩=some (I a0)) (first|(refine⟨?_,?_,?_,?_,?_,?_,?_,?_,?_,?_,?_⟩<;>assumption)|go_keep)
    ((go_at_call 69
      refine Z (HD _ k a0 a1 a2 a3 (by first|exact hE|exact hE.drew|exact Ext.drewN hE _) aa.out) fun w2 d=>?_
      (try replace d:=d.of_drew);rw[←z.out];have j:=xQ (h.out.ext d);have X2:Ext w w2:=hE.trans d;have gk:w2.cell? ⟨b,s+k*4,none⟩=some (I a0):=by rw[d.cells.1 _ _ hb];exact g0
      obtain⟨k0,k1,k2,k3,k4,k5,k6,k7,k8,k9⟩:=j.out.ten
      clear d))
   all_goals clear j1
   all_goals go_wp2
   all_goals go_roundw
   all_goals first
    |(case rel=>exact⟨k+1,by omega,by go_num,by rw[←g.out],by exact X2,j.out⟩)
    |(case rel=>exact⟨k+1,by omega,by go_num,by rw[←g.out],xE,j.out.ext xE⟩)
    |(case measure=>simp[intOf];omega)
  have u:Hid (nE D (vs.take k)=nE D vs):=by show _=_;rw[aQu (by rw[hl.out];omega)]
  have e9:=h.out.cl 9;go_wp2;go_ret;exact⟨dO u.out,hE⟩
theorem dR {h:aM}(a:aT h=true):(h.vs.map (·.1)).Nodup∧h.vs.length≤12∧ ∀v∈h.vs,eY h.aC v=true:=by
 unfold aT at a;simp only[aQv]at a;obtain⟨⟨⟨h1,h2⟩,h3⟩,h4⟩:=a;obtain⟨q1,q2⟩:=jG h4;unfold aO at h1;rw[aQv]at h1;have hc:=(fG _ _).1 h1.2;have hb:=cC h1.1;refine⟨?_,?_,q2⟩
 ·rw[q1];exact(gM _).nodup_iff.2 hc.2.2
 have:=congrArg List.length q1;rw[aRb,iQ]at this;have:=jX h.cells;omega
theorem aF0 {h:aM}(a:aT h=true){v:aP}(hv:v∈h.vs):dS v.1 h.vs=some v:=by
 have hn:=(dR a).1;unfold dS;generalize h.vs=vs at hn hv;induction vs with
 |nil=>simp at hv
 |cons x xs ih=>
  rw[aSk,List.nodup_cons]at hn;rcases aR5.1 hv with rfl|hv
  ·simp[List.find?_cons]
  rw[List.find?_cons];have:(x.1==v.1)=false:=by rw[beq_eq_false_iff_ne];intro e;exact hn.1 (by rw[e];exact List.mem_map_of_mem hv)
  rw[this];exact ih hn.2 hv
theorem aEl {h:aM}(a:aT h=true){v:aP}(hv:v∈h.vs):aZ h v.1=pD h v:=by unfold aZ cS pD;rw[if_pos a,aF0 a hv];rfl
theorem uS {h:aM}(a:aT h=true){v:aP}(hv:v∈h.vs):bN h.free h.step h.aD h.aF=true∧dB v.2.1 v.2.2.1 v.2.2.2=true∧v.2.2.2≤h.aC∧h.aC≤9999:=by have b:=(dR a).2.2 v hv;unfold aT at a;simp only[aQv]at a;obtain⟨⟨⟨h1,h2⟩,h3⟩,h4⟩:=a;unfold eY at b;unfold qT at h3;simp at b h3;exact⟨h2,b.1,b.2,h3.2.1⟩
theorem pC {h:aM}(f:aT h=true){v:aP}(hv:v∈h.vs):0≤pD h v∧pD h v≤693:=by obtain⟨a,b,c,d⟩:=uS f hv;have e:=fI b;unfold pD cA;rw[a,b];have hf:=pA a (m:=h.aC-v.2.1) (by omega) (by omega);simp only[Bool.and_self,Bool.true_and,decide_eq_true_eq];rw[if_pos ⟨c,d⟩];omega
theorem aOg {h:aM}(a:aT h=true):0≤vN h h.vs∧vN h h.vs≤8316:=by have:=aAm (pD h) h.vs 0 (fun v hv=>pC a hv);have hl:=(dR a).2.1;unfold vN;omega
theorem yR (h:aM)(p:OA)(n cap:Nat)(q:OA)(m c2:Nat)(w:World)(hi:IsHouse w h p n cap q m c2):
  U 89 #[bO h p n cap q m c2] w (O (I (iZ h)) w):=by
 have HV:=fun(w':World) (hx:Ext w w')=>iY h p n cap q m c2 w' (hi.ext hx)
 have f:=hi.vlen;unfold iZ;cases hok:aT h with
 |false=>rw[hok]at HV;obtain⟨aA,aB,c,a,b,aD,aF,aC,aG,vs⟩:=h;exact aGk aA aB a b aD aF aC aG p n cap q m c2 w HV
 |true=>
  rw[hok]at HV;have hn:=(dR hok).2.1;have d:=fun v (hv:v∈h.vs)=>pC hok hv
  rw[if_pos rfl];obtain⟨aA,aB,c,a,b,aD,aF,aC,aG,vs⟩:=h;simp only at f hn
  exact aE1 aA aB a b aD aF aC aG p n cap q m c2 w vs (pD ⟨aA,aB,c,a,b,aD,aF,aC,aG,vs⟩) (by omega) d hi.vs HV (fun w' k a0 a1 a2 a3 hv=>by
    obtain⟨x1,x2,x3,x4⟩:=uS hok (aQq hv)
    exact wX _ _ _ _ _ _ _ _ w' x1 x2 x3 x4)
theorem yE (h:aM)(p:OA)(n cap:Nat)(q:OA)(m c2:Nat)(w:World)(hi:IsHouse w h p n cap q m c2):
  U 67 #[bO h p n cap q m c2] w (O (I (iZ h)) w):=by
 have HV:=fun(w':World) (hx:Ext w w')=>iT h p n cap q m c2 w' (hi.ext hx)
 have f:=hi.vlen;unfold iZ;cases hok:aT h with
 |false=>rw[hok]at HV;obtain⟨aA,aB,c,a,b,aD,aF,aC,aG,vs⟩:=h;exact aFb aA aB a b aD aF aC aG p n cap q m c2 w HV
 |true=>
  rw[hok]at HV;have hn:=(dR hok).2.1;have d:=fun v (hv:v∈h.vs)=>pC hok hv
  rw[if_pos rfl];obtain⟨aA,aB,c,a,b,aD,aF,aC,aG,vs⟩:=h;simp only at f hn
  exact aCr aA aB a b aD aF aC aG p n cap q m c2 w vs (pD ⟨aA,aB,c,a,b,aD,aF,aC,aG,vs⟩) (by omega) d hi.vs HV (fun w' k a0 a1 a2 a3 hx hv=>by
    have:=nJ _ a0 p n cap q m c2 w' (hi.ext hx);rw[aEl hok (aQq hv)]at this
    exact this)
theorem aEg {aA aB:Int}{xs:List Int}(h:aO aA aB xs=true):(dQ xs).length<xs.length↔(0:Int)∈xs:=by
 unfold aO at h;rw[aQv]at h;have hc:=((fG _ _).1 h.2).1;rw[iQ];clear h;induction xs with
 |nil=>simp[dK]
 |cons x xs ih=>
  have hx:=hc x (by simp);have:=ih (fun y hy=>hc y (by simp[hy]));have a:=jX xs;unfold dK at this a⊢;by_cases h0:0<x
  ·rw[aSr (by simpa using h0)];simp only[aRm,aR5];constructor
   ·intro h;exact .inr (this.1 (by omega))
   rintro(h|h)
   ·omega
   have:=this.2 h;omega
  rw[aSs (by simpa using h0)];simp only[aRm,aR5];constructor
  ·intro _;exact .inl (by omega)
  intro _;omega
theorem aJe (w:World)(x:Int):(w.alloc (.cells #[x] TI)).ownsRow w TI 1 (.slice (some ⟨w,0,none⟩) 1 1) 1 (ivs [x]):=
 ⟨rfl,.inr ⟨w.heap.size,1,_,rfl,aQn _,heap_alloc_new w _,aQn _,by simp[maxLen],rfl,rfl⟩⟩
def cO (base:List Int)(C:List Int):List Int:=base++C.filter (fun x=> !base.contains x)
theorem qQ {base C:List Int}{k:Nat}{x:Int}(hx:C[k]? =some x) (h:base.contains x=false):cO base (C.take (k+1))=cO base (C.take k)++ [x]:=by unfold cO;rw[bC hx,aRj];simp[h]at*;simp[h]
theorem tI {base C:List Int}{k:Nat}{x:Int}(hx:C[k]? =some x) (h:base.contains x=true):cO base (C.take (k+1))=cO base (C.take k):=by unfold cO;rw[bC hx,aRj];simp[h]at*;simp[h]
theorem aJ8 (base C:List Int):(cO base C).length≤base.length+C.length:=by unfold cO;rw[aQw];have:=aRr (fun x=> !base.contains x) C;omega
theorem wH {base C:List Int}{k:Nat}{x:Int}(hn:C.Nodup)(hx:C[k]? =some x):(cO base (C.take k)).contains x=base.contains x:=by
 unfold cO;obtain⟨hk,rfl⟩:=aQr.1 hx;have a:C[k]∉C.take k:=by intro hm;obtain⟨j,hj,e⟩:=aS2 hm;rw[List.getElem_take]at e;rw[aRc]at hj;exact(List.pairwise_iff_getElem.1 hn j k (by omega) hk (by omega)) e
 simp only[List.contains_eq_mem,aR7,aRf];simp[a]
theorem mQ {h:aM}(a:aT h=true):dG h=cO (if(0:Int)∈h.cells then []else [h.cells.headD 0]) (dQ h.cells):=by
 unfold dG cO;rw[if_pos a];by_cases h0:(0:Int)∈h.cells
 ·rw[if_pos h0,if_pos h0];exact(List.filter_eq_self.2 (by simp)).symm
 rw[if_neg h0,if_neg h0];simp only[aSd,aS6];congr 1;apply List.filter_congr;intro x _;by_cases hx:x=h.cells.headD 0<;>simp[bne,hx,List.contains_eq_mem];rfl
theorem uX {h:aM}(a:aT h=true):h.vs.map (·.1)=dQ h.cells∧(dQ h.cells).Nodup:=by have hn:=(dR a).1;unfold aT at a;simp only[aQv]at a;have:=(jG a.2).1;exact⟨this,by rw[←this];exact hn⟩
theorem lS {h:aM}(a:aT h=true):aO h.aA h.aB h.cells=true:=by unfold aT at a;simp only[aQv]at a;exact a.1.1.1
theorem aGt (aA aB a b aD aF aC aG:Int)(p:OA)(n cap:Nat)(q:OA)(m c2:Nat)(w:World)(HV:xB 31 #[.agg #[aA,aB,.slice p n cap,a,b,aD,aF,aC,aG,.slice q m c2]] w false):
  U 125 #[.agg #[aA,aB,.slice p n cap,a,b,aD,aF,aC,aG,.slice q m c2]] w (aY [] w):=by
 go_enter func125,ntmps125;go_wp2_with fail;refine Z (HV _ (by exact .alloc (.refl _) _)) fun w1 c=>?_
 go_wp2;go_ret;exact dC (xs:= []) rfl (aR9 _ _ _ _) (by exact .trans (.alloc (.refl _) _) c)
theorem aFm (aA aB a b aD aF aC aG:Int)(p:OA)(n cap:Nat)(q:OA)(m c2:Nat)(w:World)(HV:xB 21 #[.agg #[aA,aB,.slice p n cap,a,b,aD,aF,aC,aG,.slice q m c2]] w false):
  U 110 #[.agg #[aA,aB,.slice p n cap,a,b,aD,aF,aC,aG,.slice q m c2]] w (aY [] w):=by
 go_enter func110,ntmps110;go_wp2_with fail;refine Z (HV _ (by exact .alloc (.alloc (.refl _) _) _)) fun w1 c=>?_
 have ho:((w.alloc (.cells #[aA,aB,.slice p n cap,a,b,aD,aF,aC,aG,.slice q m c2] 35)).alloc (.cells #[] TI)).ownsRow w TI 1 (.slice (some ⟨(w.alloc (.cells #[aA,aB,.slice p n cap,a,b,aD,aF,aC,aG,.slice q m c2] 35)).heap.size,0,none⟩) 0 0) 0 []:=aRu _ #[] 0 (by simp) (by simp[maxLen]) rfl;have d:=xQ (bB ho c);clear ho;go_wp2;go_ret;exact dC (xs:= []) rfl (by simpa using d.out) (by exact .trans (.alloc (.alloc (.refl _) _) _) c)
theorem aE8 (aA aB a b aD aF aC aG:Int)(p:OA)(n cap:Nat)(q:OA)(m c2:Nat)(C:List Int)(w:World)(hn:n≤12)(hl:C.length<n)(HV:xB 31 #[.agg #[aA,aB,.slice p n cap,a,b,aD,aF,aC,aG,.slice q m c2]] w true)
  (HC:Hid (∀w',Ext w w'→U 74 #[aH aA aB p n cap] w' (aY C w'))):
  U 125 #[.agg #[aA,aB,.slice p n cap,a,b,aD,aF,aC,aG,.slice q m c2]] w (aY C w):=by
 go_enter func125,ntmps125;go_wp2_with fail;refine Z (HV _ (by exact .alloc (.refl _) _)) fun w1 c=>?_
 have BA:Blk w1 w 35 #[aA,aB,.slice p n cap,a,b,aD,aF,aC,aG,.slice q m c2]:=(Blk.new w _ _).ext c;have f:=xQ BA;have X1:Ext w w1:=by exact .trans (.alloc (.refl _) _) c
 clear c;obtain⟨a0,a1,a2,a3,a4,a5,a6,a7,a8,a9⟩:=BA.ten;clear BA;go_wp2_with fail;clear a0 a1 a2 a3 a4 a5 a6 a7 a8 a9;refine(HC _ X1).mono ?_;rintro e w2 ⟨pc,cc,rfl,g,d⟩;have h:=xQ (f.out.ext d);have X2:Ext w w2:=X1.trans d;have HO:=xQ g;clear g d f;have b2:=h.out.cl 2;go_wp2;go_ret;exact dC rfl (bI HO X1.sz) X2
theorem aE7 (aA aB g j aD aF aC aG:Int)(p:OA)(n cap:Nat)(q:OA)(m c2:Nat)(C:List Int)(x0:Int)(b0 d:Nat)(w:World)(hn:n≤12)(hp:p=some ⟨b0,d,none⟩)(hl:C.length=n)(al:0<n)(aa:b0<w.heap.size)(o:w.cell? ⟨b0,d,none⟩=some (I x0))(HV:xB 31 #[.agg #[aA,aB,.slice p n cap,g,j,aD,aF,aC,aG,.slice q m c2]] w true)
  (HC:Hid (∀w',Ext w w'→U 74 #[aH aA aB p n cap] w' (aY C w'))):
  U 125 #[.agg #[aA,aB,.slice p n cap,g,j,aD,aF,aC,aG,.slice q m c2]] w (aY (cO [x0] C) w):=by
 subst hp;have aj: ¬C.length<n:=by omega
 have ai:C.length≤12:=by omega
 clear hl;go_enter func125,ntmps125;go_wp2_with fail;refine Z (HV _ (by exact .alloc (.refl _) _)) fun w1 r=>?_
 have BA:Blk w1 w 35 #[aA,aB,.slice (some ⟨b0,d,none⟩) n cap,g,j,aD,aF,aC,aG,.slice q m c2]:=(Blk.new w _ _).ext r;have u:=xQ BA;have X1:Ext w w1:=by exact .trans (.alloc (.refl _) _) r
 clear r;obtain⟨a0,a1,a2,a3,a4,a5,a6,a7,a8,a9⟩:=BA.ten;clear BA;go_wp2_with fail;clear a0 a1 a2 a3 a4 a5 a6 a7 a8 a9;refine(HC _ X1).mono ?_;rintro e w2 ⟨pc,cc,rfl,ad,s⟩;have t:=xQ (u.out.ext s);have X2:Ext w w2:=X1.trans s;have HO:=xQ ad;have z2:(w:Nat)<w2:=t.out.lt;clear ad s u;have b2:=t.out.cl 2;have h0:w2.cell? ⟨b0,d,none⟩=some (I x0):=by rw[X2.cells.1 _ _ aa];exact o
 have ae:=xQ o;clear o;go_wp2;go_loopw [4,29] (fun v i wr=> ∃(k:Nat) (q:OA) (m c:Nat),k≤C.length∧i=I k∧v= .slice q m c∧m≤k+1∧wr.ownsRow w2 TI 1 (.slice q m c) m (ivs (cO [x0] (C.take k)))∧Ext w2 wr) (fun _ i _=>C.length-(intOf i).toNat)
 case atStart=>exact⟨0,_,1,_,aQt _,rfl,rfl,by omega,by simpa[cO]using aJe w2 x0,by exact .alloc (.refl _) _⟩
 case round=>
  obtain⟨k,q,m1,c,hk,rfl,rfl,ak,l,hE⟩:=hrel;have f:=xQ l;have z:=X2.trans hE;have am:=hE.sz;have ec:wr.cell? ⟨w,2,none⟩=some (.slice (some ⟨b0,d,none⟩) n cap):=(hE.cells.1 _ _ z2).trans b2;have hg:wr.cell? ⟨b0,d,none⟩=some (I x0):=by rw[z.cells.1 _ _ aa];exact ae.out
  clear l;by_cases hlt:k<C.length
  ·obtain⟨b,an,x,rfl,hx,hb,ah⟩:=((Sl.own HO.out).ext hE).int_at hlt;have HX:=xQ hx;clear hx;by_cases hx0:x=x0
   ·have t0:(x !=x0)=false:=by simp[hx0]
    have a:Hid (cO [x0] (C.take (k+1))=cO [x0] (C.take k)):=tI HX (by simp[hx0]);clear hx0;go_wp2;go_roundw
    case rel=>exact⟨k+1,q,m1,c,by omega,by go_num,rfl,by omega,by rw[a.out];exact f.out,hE⟩
    case measure=>simp[intOf];omega
   have t0:(x !=x0)=true:=by simp[hx0]
   have a:Hid (cO [x0] (C.take (k+1))=cO [x0] (C.take k)++ [x]):=qQ HX (by simp[hx0]);clear hx0;go_wp2_with (at_builtin;refine cL fM rfl _ _ rfl w2 _ _ _ rfl (f.out.alloc _) _ _ x _ rfl (by simp) (by omega) (by simp;omega) ?_;intro p' y w3 h ab;have af:=xQ h;have ag:Ext w2 w3:=Ext.own (hE.alloc _) (f.out.alloc _) ab (aQn _);clear h ab);go_roundw
   case rel=>exact⟨k+1,p',m1+1,y,by omega,by go_num,rfl,by omega,by rw[a.out];exact af.out,ag⟩
   case measure=>simp[intOf];omega
  have a:Hid (cO [x0] (C.take k)=cO [x0] C):=by show _=_;rw[aQu (by omega)]
  go_wp2;go_ret;exact dC (by rw[←a.out];have:=f.out.1;simpa using this) (by rw[←a.out];exact bI f X2.sz) z
theorem aCy (aA aB d f aD aF aC aG:Int)(p:OA)(n cap:Nat)(q:OA)(m c2:Nat)(w:World)(vs:List aP)(F:List Int)(HN:Hid (vs.map (·.1)).Nodup)(hm:m≤12)(HS:Hid (Sl w q m c2 4 (vs.flatMap aE)))(hl:Hid (vs.length=m))(hF:F.length≠0)(HV:xB 21 #[.agg #[aA,aB,.slice p n cap,d,f,aD,aF,aC,aG,.slice q m c2]] w true)
  (HF:Hid (∀w',Ext w w'→U 144 #[aH aA aB p n cap] w' (aY F w'))):
  U 110 #[.agg #[aA,aB,.slice p n cap,d,f,aD,aF,aC,aG,.slice q m c2]] w (aY (cO [] (vs.map (·.1))) w):=by
 go_enter func110,ntmps110;go_wp2_with fail;refine Z (HV _ (by exact .alloc (.alloc (.refl _) _) _)) fun w1 l=>?_
 have ho:((w.alloc (.cells #[aA,aB,.slice p n cap,d,f,aD,aF,aC,aG,.slice q m c2] 35)).alloc (.cells #[] TI)).ownsRow (w.heap.size+1) TI 1 (.slice (some ⟨w.heap.size+1,0,none⟩) 0 0) 0 []:=by simpa using aRu (w.alloc (.cells #[aA,aB,.slice p n cap,d,f,aD,aF,aC,aG,.slice q m c2] 35)) (e:=TI) (base:=w.heap.size+1) #[] 0 (by simp) (by simp[maxLen]) rfl
 have x:=xQ (bB ho l);clear ho;have BA:Blk w1 w 35 #[aA,aB,.slice p n cap,d,f,aD,aF,aC,aG,.slice q m c2]:=((Blk.new w _ _).alloc _).ext l;have u:=xQ BA;have X1:Ext w w1:=by exact .trans (.alloc (.alloc (.refl _) _) _) l
 clear l;obtain⟨a0,a1,a2,a3,a4,a5,a6,a7,a8,a9⟩:=BA.ten;clear BA;go_wp2_with fail;clear a0 a1 a2 a3 a4 a5 a6 a7 a8 a9;refine(HF _ X1).mono ?_;rintro e w2 ⟨pf,cf,rfl,_,o⟩;have t:=xQ (u.out.ext o);have ae:=xQ (bB x o);have X2:Ext w w2:=X1.trans o;have z2:(w:Nat)<w2:=t.out.lt;clear o u x;have tF:((F.length:Int)==0)=false:=by simp[hF]
 have z:=t.out.cl 9;have ah:=z2;clear hF;go_wp2;go_loopw [3,4] (fun v i wr=> ∃(k:Nat) (qq:OA) (m1 c:Nat),k≤m∧i=I k∧v= .slice qq m1 c∧m1≤k+1∧wr.ownsRow (w.heap.size+1) TI 1 (.slice qq m1 c) m1 (ivs (cO [] ((vs.map (·.1)).take k)))∧Ext w wr∧wr.cell? ⟨w,9,none⟩=some (.slice q m c2)∧w.heap.size<wr.heap.size) (fun _ i _=>m-(intOf i).toNat)
 case atStart=>exact⟨0,_,_,_,aQt _,rfl,rfl,by omega,by simpa[cO]using ae.out,X2,z,ah⟩
 case round=>
  obtain⟨k,qq,m1,c,hk,rfl,rfl,ai,r,hE,aa,s⟩:=hrel;have g:=xQ r;clear r z;by_cases hlt:k<m
  ·obtain⟨b,aj,a0,a1,a2,a3,rfl,hv,hb,g0,g1,g2,g3⟩:=eC (HS.out.ext hE) hlt;have hx:Hid ((vs.map (·.1))[k]? =some a0):=by show _=_;rw[aR6,hv];rfl
   have i1:(0:Int)≤(k:Int):=by omega
   have i2:(k:Int)<(m:Int):=by omega
   clear hv;have HH:xC 99 #[.slice qq m1 c,a0] wr fun w' e w''=>e= .returned (.bool (([]:List Int).contains a0))∧w'=w'':=fun w' hx'=>by have:=pX qq m1 c _ a0 w' ((Sl.own g.out).ext hx');rwa[wH HN hx.out]at this
   cases hs:([]:List Int).contains a0 with
   |true=>
    rw[hs]at HH;have a:Hid (cO [] ((vs.map (·.1)).take (k+1))=cO [] ((vs.map (·.1)).take k)):=tI hx.out hs;clear hs;go_wp2_with fail;refine(HH _ (by exact .refl _)).mono ?_;rintro e w4 ⟨rfl,rfl⟩;go_wp2;go_roundw
    case rel=>exact⟨k+1,qq,m1,c,by omega,by go_num,rfl,by omega,by rw[a.out];exact g.out,hE,aa,s⟩
    case measure=>simp[intOf];omega
   |false=>
    rw[hs]at HH;have a:Hid (cO [] ((vs.map (·.1)).take (k+1))=cO [] ((vs.map (·.1)).take k)++ [a0]):=qQ hx.out hs;clear hs;go_wp2_with fail;refine(HH _ (by exact .refl _)).mono ?_;rintro e w4 ⟨rfl,rfl⟩;go_wp2_with (at_builtin;refine cL fM rfl _ _ rfl (w.heap.size+1) _ _ _ rfl (g.out.alloc _) _ _ a0 _ rfl (by simp) (by omega) (by simp;omega) ?_;intro p' y w5 h j;have ad:=xQ h;have ag:Ext w w5:=Ext.own (hE.alloc _) (g.out.alloc _) j (by omega);have af:=rT g j s aa;have ab:(w:Nat)<w5:=aQm s (by have:=j.size;simp at this;omega);clear h j);go_roundw
    case rel=>exact⟨k+1,p',m1+1,y,by omega,by go_num,rfl,by omega,by rw[a.out];exact ad.out,ag,af,ab⟩
    case measure=>simp[intOf];omega
  have a:Hid (cO [] ((vs.map (·.1)).take k)=cO [] (vs.map (·.1))):=by show _=_;rw[aQu (by rw[aRb,hl.out];omega)]
  go_wp2;go_ret;exact dC (by rw[←a.out];have:=g.out.1;simpa using this) (by rw[←a.out];exact bI g (Nat.le_succ _)) hE
theorem aCx (aA aB h j aD aF aC aG:Int)(p:OA)(n cap:Nat)(q:OA)(m c2:Nat)(w:World)(vs:List aP)(F:List Int)(HN:Hid (vs.map (·.1)).Nodup)(hm:m≤12)(HS:Hid (Sl w q m c2 4 (vs.flatMap aE)))(hl:Hid (vs.length=m))(hF:F.length=0)(x0:Int)(b0 f:Nat)(hp:p=some ⟨b0,f,none⟩)(ap:0<n)(al:b0<w.heap.size)(ae:w.cell? ⟨b0,f,none⟩=some (I x0))(HV:xB 21 #[.agg #[aA,aB,.slice p n cap,h,j,aD,aF,aC,aG,.slice q m c2]] w true)
  (HF:Hid (∀w',Ext w w'→U 144 #[aH aA aB p n cap] w' (aY F w'))):
  U 110 #[.agg #[aA,aB,.slice p n cap,h,j,aD,aF,aC,aG,.slice q m c2]] w (aY (cO [x0] (vs.map (·.1))) w):=by
 subst hp;go_enter func110,ntmps110;go_wp2_with fail;refine Z (HV _ (by exact .alloc (.alloc (.refl _) _) _)) fun w1 o=>?_
 have ho:((w.alloc (.cells #[aA,aB,.slice (some ⟨b0,f,none⟩) n cap,h,j,aD,aF,aC,aG,.slice q m c2] 35)).alloc (.cells #[] TI)).ownsRow (w.heap.size+1) TI 1 (.slice (some ⟨w.heap.size+1,0,none⟩) 0 0) 0 []:=by simpa using aRu (w.alloc (.cells #[aA,aB,.slice (some ⟨b0,f,none⟩) n cap,h,j,aD,aF,aC,aG,.slice q m c2] 35)) (e:=TI) (base:=w.heap.size+1) #[] 0 (by simp) (by simp[maxLen]) rfl
 have z:=xQ (bB ho o);clear ho;have BA:Blk w1 w 35 #[aA,aB,.slice (some ⟨b0,f,none⟩) n cap,h,j,aD,aF,aC,aG,.slice q m c2]:=((Blk.new w _ _).alloc _).ext o;have y:=xQ BA;have X1:Ext w w1:=by exact .trans (.alloc (.alloc (.refl _) _) _) o
 clear o;obtain⟨a0,a1,a2,a3,a4,a5,a6,a7,a8,a9⟩:=BA.ten;clear BA;go_wp2_with fail;clear a0 a1 a2 a3 a4 a5 a6 a7 a8 a9;refine(HF _ X1).mono ?_;rintro e w2 ⟨pf,cf,rfl,_,r⟩;have t:=xQ (y.out.ext r);have u:=xQ (bB z r);have X2:Ext w w2:=X1.trans r;have z2:(w:Nat)<w2:=t.out.lt;clear r y z;have h0:w2.cell? ⟨b0,f,none⟩=some (I x0):=by rw[X2.cells.1 _ _ al];exact ae
 have tF:((F.length:Int)==0)=true:=by simp[hF]
 have c9:Hid (w2.cell? ⟨w,9,none⟩=some (.slice q m c2)):=t.out.cell 9;clear ae hF;have b2:=t.out.cl 2;go_wp2_with (at_builtin;refine cL fM rfl _ _ rfl (w.heap.size+1) _ 0 [] rfl (u.out.alloc _) _ _ x0 _ rfl (by simp) (by omega) (by simp;omega) ?_;intro p3 an w3 a g;have ah:=xQ a;have aj:Ext w w3:=Ext.own (X2.alloc _) (u.out.alloc _) g (by omega);have ab:=rT u g z2 c9.out;have am:(w:Nat)<w3:=aQm z2 (by have:=g.size;simp at this;omega);clear a g);go_loopw [3,4] (fun v i wr=> ∃(k:Nat) (qq:OA) (m1 c:Nat),k≤m∧i=I k∧v= .slice qq m1 c∧m1≤k+1∧wr.ownsRow (w.heap.size+1) TI 1 (.slice qq m1 c) m1 (ivs (cO [x0] ((vs.map (·.1)).take k)))∧Ext w wr∧wr.cell? ⟨w,9,none⟩=some (.slice q m c2)∧w.heap.size<wr.heap.size) (fun _ i _=>m-(intOf i).toNat)
 case atStart=>exact⟨0,_,_,_,aQt _,rfl,rfl,by omega,by simpa[cO]using ah.out,aj,ab,am⟩
 case round=>
  obtain⟨k,qq,m1,c,hk,rfl,rfl,ao,s,hE,ad,x⟩:=hrel;have l:=xQ s;clear s ab;by_cases hlt:k<m
  ·obtain⟨b,aq,a0,a1,a2,a3,rfl,hv,hb,g0,g1,g2,g3⟩:=eC (HS.out.ext hE) hlt;have hx:Hid ((vs.map (·.1))[k]? =some a0):=by show _=_;rw[aR6,hv];rfl
   have i1:(0:Int)≤(k:Int):=by omega
   have i2:(k:Int)<(m:Int):=by omega
   clear hv;have HH:xC 99 #[.slice qq m1 c,a0] wr fun w' e w''=>e= .returned (.bool (([x0]:List Int).contains a0))∧w'=w'':=fun w' hx'=>by have:=pX qq m1 c _ a0 w' ((Sl.own l.out).ext hx');rwa[wH HN hx.out]at this
   cases hs:([x0]:List Int).contains a0 with
   |true=>
    rw[hs]at HH;have d:Hid (cO [x0] ((vs.map (·.1)).take (k+1))=cO [x0] ((vs.map (·.1)).take k)):=tI hx.out hs;clear hs;go_wp2_with fail;refine(HH _ (by exact .refl _)).mono ?_;rintro e w4 ⟨rfl,rfl⟩;go_wp2;go_roundw
    case rel=>exact⟨k+1,qq,m1,c,by omega,by go_num,rfl,by omega,by rw[d.out];exact l.out,hE,ad,x⟩
    case measure=>simp[intOf];omega
   |false=>
    rw[hs]at HH;have d:Hid (cO [x0] ((vs.map (·.1)).take (k+1))=cO [x0] ((vs.map (·.1)).take k)++ [a0]):=qQ hx.out hs;clear hs;go_wp2_with fail;refine(HH _ (by exact .refl _)).mono ?_;rintro e w4 ⟨rfl,rfl⟩;go_wp2_with (at_builtin;refine cL fM rfl _ _ rfl (w.heap.size+1) _ _ _ rfl (l.out.alloc _) _ _ a0 _ rfl (by simp) (by omega) (by simp;omega) ?_;intro p' aa w5 a g;have ag:=xQ a;have ak:Ext w w5:=Ext.own (hE.alloc _) (l.out.alloc _) g (by omega);have ai:=rT l g x ad;have af:(w:Nat)<w5:=aQm x (by have:=g.size;simp at this;omega);clear a g);go_roundw
    case rel=>exact⟨k+1,p',m1+1,aa,by omega,by go_num,rfl,by omega,by rw[d.out];exact ag.out,ak,ai,af⟩
    case measure=>simp[intOf];omega
  have d:Hid (cO [x0] ((vs.map (·.1)).take k)=cO [x0] (vs.map (·.1))):=by show _=_;rw[aQu (by rw[aRb,hl.out];omega)]
  go_wp2;go_ret;exact dC (by rw[←d.out];have:=l.out.1;simpa using this) (by rw[←d.out];exact bI l (Nat.le_succ _)) hE
theorem aBt (h:aM)(p:OA)(n cap:Nat)(q:OA)(m c2:Nat)(w:World)(hi:IsHouse w h p n cap q m c2):
  U 125 #[bO h p n cap q m c2] w (aY (dG h) w):=by
 have HV:=fun(w':World) (hx:Ext w w')=>iY h p n cap q m c2 w' (hi.ext hx)
 have l:=hi.clen;cases hok:aT h with
 |false=>
  rw[hok]at HV;have e:dG h= []:=by unfold dG;rw[hok];rfl
  rw[e];exact aGt h.aA h.aB h.free h.step h.aD h.aF h.aC h.aG p n cap q m c2 w HV
 |true=>
  rw[hok]at HV;have hh:=lS hok;have c:n≤12∧4≤n:=by have h1:=hh;unfold aO at h1;rw[aQv]at h1;have:=cC h1.1;omega
  obtain⟨c,r⟩:=c;have HC:=fun(w':World) (hx:Ext w w')=>by have:=aMq h.aA h.aB p n cap h.cells w' (hi.cells.ext hx);rw[hh,if_pos rfl]at this;exact this
  rw[mQ hok];by_cases h0:(0:Int)∈h.cells
  ·rw[if_pos h0];have f:=(aEg (lS hok)).2 h0;have e:cO [] (dQ h.cells)=dQ h.cells:=by simp[cO]
   rw[e];rw[l]at f;exact aE8 h.aA h.aB h.free h.step h.aD h.aF h.aC h.aG p n cap q m c2 (dQ h.cells) w c f HV HC
  rw[if_neg h0];obtain⟨b0,g,x0,hp,d,i,j⟩:=hi.cells.int_at (k:=0) (by omega)
  have o:h.cells.headD 0=x0:=by cases hc:h.cells with
   |nil=>rw[hc]at d;simp at d
   |cons a b=>rw[hc]at d;simpa using d
  rw[o];exact aE7 h.aA h.aB h.free h.step h.aD h.aF h.aC h.aG p n cap q m c2 (dQ h.cells) x0 b0 g w c hp (by have:=mt (aEg (lS hok)).1 h0;have h2:=jX h.cells;rw[iQ]at this⊢;omega) (by omega) i j HV HC
theorem aAw (h:aM)(p:OA)(n cap:Nat)(q:OA)(m c2:Nat)(w:World)(hi:IsHouse w h p n cap q m c2):
  U 110 #[bO h p n cap q m c2] w (aY (dG h) w):=by
 have HV:=fun(w':World) (hx:Ext w w')=>iT h p n cap q m c2 w' (hi.ext hx)
 have c:=hi.vlen;have o:=hi.clen;cases hok:aT h with
 |false=>
  rw[hok]at HV;have e:dG h= []:=by unfold dG;rw[hok];rfl
  rw[e];exact aFm h.aA h.aB h.free h.step h.aD h.aF h.aC h.aG p n cap q m c2 w HV
 |true=>
  rw[hok]at HV;have hh:=lS hok;have f:n≤12∧4≤n:=by have h1:=hh;unfold aO at h1;rw[aQv]at h1;have:=cC h1.1;omega
  obtain⟨f,r⟩:=f;have HF:=fun(w':World) (hx:Ext w w')=>by have:=aFi h.aA h.aB p n cap h.cells w' (hi.cells.ext hx);rw[hh,if_pos rfl]at this;exact this
  rw[mQ hok];by_cases h0:(0:Int)∈h.cells
  ·rw[if_pos h0];have hf:(mH h.cells).length≠0:=fun e=>(aA4 _).1 (aR8 e) h0
   rw[←(uX hok).1];exact aCy h.aA h.aB h.free h.step h.aD h.aF h.aC h.aG p n cap q m c2 w h.vs (mH h.cells) (dR hok).1 (by rw[←c];exact(dR hok).2.1) hi.vs c hf HV HF
  rw[if_neg h0];obtain⟨b0,g,x0,hp,d,i,j⟩:=hi.cells.int_at (k:=0) (by omega)
  have l:h.cells.headD 0=x0:=by cases hc:h.cells with
   |nil=>rw[hc]at d;simp at d
   |cons a b=>rw[hc]at d;simpa using d
  rw[l];rw[←(uX hok).1];exact aCx h.aA h.aB h.free h.step h.aD h.aF h.aC h.aG p n cap q m c2 w h.vs (mH h.cells) (dR hok).1 (by rw[←c];exact(dR hok).2.1) hi.vs c (by rw[(aA4 _).2 h0];rfl) x0 b0 g hp (by omega) i j HV HF
end
abbrev TDd:TypeId:=53
abbrev Dd3:=Int×Int×Int
def cE (d:Dd3):List Value:= [.int .i64 d.1,.int .i64 d.2.1,.int .i64 d.2.2]
def dV (a:Int):Nat:=((a+299)/300).toNat
def pS (id a:Int)(i:Nat):Dd3:=(1,id,min (a-300*(i:Int)) 300)
def jR (id a:Int)(k:Nat):List Dd3:=(List.range k).map (pS id a)
def bY (due:Int→Int)(ids:List Int):List Dd3:=ids.flatMap (fun id=>jR id (due id) (dV (due id))++ [(2,id,0)])
theorem lM (a:Int)(k:Nat):k<dV a↔0<a-300*(k:Int):=by unfold dV;omega
theorem wM (id a:Int)(k:Nat):jR id a (k+1)=jR id a k++ [pS id a k]:=by unfold jR;rw[aS7,aRp];rfl
theorem aG1 (id a:Int):jR id a 0= []:=rfl
theorem lD (id a:Int)(k:Nat):(jR id a k).length=k:=by unfold jR;simp
theorem qM (a:Int→Int){b:List Int}{k:Nat}{x:Int}(hx:b[k]? =some x):bY a (b.take (k+1))=bY a (b.take k)++jR x (a x) (dV (a x))++ [(2,x,0)]:=by unfold bY;rw[bC hx,aRh];simp
theorem aC6 (a:Int→Int)(ids:List Int)(M:Nat)(h: ∀x∈ids,dV (a x)≤M):(bY a ids).length≤ids.length*(M+1):=by
 unfold bY;induction ids with
 |nil=>simp
 |cons x xs ih=>have h1:=h x (by simp);have h2:=ih (fun y hy=>h y (by simp[hy]));rw[aRl,aQw,aQw,lD];simp only[aRm,List.length_nil];rw[Nat.add_mul xs.length 1,Nat.one_mul];omega
theorem aI1 {w:World}{q:OA}{m c2:Nat}{ds:List Dd3}(h:Sl w q m c2 3 (ds.flatMap cE)){k:Nat}(hk:k<m):
  ∃b off a0 a1 a2,q=some ⟨b,off,none⟩∧ds[k]? =some (a0,a1,a2)∧b<w.heap.size∧w.cell? ⟨b,off+k*3,none⟩=some (I a0)∧w.cell? ⟨b,off+k*3+1,none⟩=some (I a1)∧w.cell? ⟨b,off+k*3+2,none⟩=some (I a2):=by
 obtain⟨b,off,x,hp,hx,hb,hc⟩:=Sl.at_ (sz:=3) (f:=cE) (fun _=>rfl) h hk (by omega);obtain⟨a0,a1,a2⟩:=x;exact⟨b,off,a0,a1,a2,hp,hx,hb,hc 0 (by omega),hc 1 (by omega),hc 2 (by omega)⟩
def lX (ds:List Dd3)(w:World)(e:Ending)(w':World):Prop:=
 ∃p cap,e= .returned (.slice p ds.length cap)∧w'.ownsRow w.heap.size TDd 3 (.slice p ds.length cap) ds.length (ds.flatMap cE)∧Ext w w'
end Go.Proofs.YtbgkcehffiogcacGreatDoor
