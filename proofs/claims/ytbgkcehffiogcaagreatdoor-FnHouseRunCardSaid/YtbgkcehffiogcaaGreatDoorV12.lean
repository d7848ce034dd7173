/-
  Texts of this proof, packed (@packed).
-/
import Derived.Test.YtbgkcehffiogcaaGreatDoorV11
namespace Go.Proofs.YtbgkcehffiogcaaGreatDoor
open Go.RowKit
set_option linter.unusedSimpArgs false
set_option linter.unusedVariables false
set_option maxHeartbeats 8000000
set_option maxRecDepth 100000
section
open Go.Proofs.Tryz
def nJ (r:Option (List Int×List Sl2))(w:World)(e:Ending)(w':World):Prop:=
 match r with
 |none=> ∃v,e= .returned (.tuple #[v,.bool false])∧Ext w w'
 |some r=> ∃q c,e= .returned (.tuple #[.slice q r.2.length c,.bool true])∧w'.ownsRow w.heap.size TSL 2 (.slice q r.2.length c) r.2.length (r.2.flatMap aK)∧Ext w w'
theorem aDq (aA aB:Int)(p:OA)(n a:Nat)(w:World)
  (HV:xB 29 #[aH aA aB p n a] w true)
  (HN:xC 126 #[aH aA aB p n a,(),(-1:Int)] w fun w' e w''=> ∃q c,e= .returned (.slice q 0 c)∧w''.ownsRow w' TI 1 (.slice q 0 c) 0 []∧Ext w' w''):
  U 91 #[aH aA aB p n a] w (nJ none w):=by
 go_enter func91,ntmps91;have ME:=(((Mem.start w).c0 TH3 #[aA,aB,.slice p n a]).made0 TI 1 (w.heap.size+1) (by simp))
 go_wp2_with fail;refine Z (HV _ ME.ext) fun w1 d=>?_
 have M1:=(ME.adv d)
 clear ME d;obtain⟨g,h,i⟩:=(M1.bk 1).tri;go_wp2_with fail;clear g h i;refine(HN _ M1.ext).mono ?_;rintro e w2 ⟨qw,cw,rfl,b,f⟩;have M2:=(M1.call f b)
 clear M1 f b;have HX:=xQ (M2.ext);go_wp2;exact bodyPost_ret (v:= .tuple #[.slice (some ⟨w2,0,none⟩) 0 0,.bool false]) (by simp[results,results91,go_sem, *]) rfl ⟨_,rfl,by have:=HX.out;exact .alloc this _⟩
theorem aAs (aA aB:Int)(p:OA)(n a:Nat)(j:List Nat)(W:Nat)(r:List Int×List Sl2)(w:World)(h0:0<W)
  (HV:xB 29 #[aH aA aB p n a] w true)
  (HN:xC 126 #[aH aA aB p n a,(),(-1:Int)] w fun w' e w''=> ∃q c,e= .returned (.slice q W c)∧w''.ownsRow w' TI 1 (.slice q W c) W (ivs (bA j))∧Ext w' w'')
  (HS:Hid (∀w' q c,Ext w w'→Sl w' q W c 1 (ivs (bA j))→U 127 #[aH aA aB p n a,.slice q W c] w' (eL r.2 w'))):
  U 91 #[aH aA aB p n a] w (nJ (some r) w):=by
 have t0:((W:Int)==0)=false:=by simp;omega
 go_enter func91,ntmps91;have ME:=(((Mem.start w).c0 TH3 #[aA,aB,.slice p n a]).made0 TI 1 (w.heap.size+1) (by simp))
 go_wp2_with fail;refine Z (HV _ ME.ext) fun w1 h=>?_
 have M1:=(ME.adv h)
 clear ME h;obtain⟨b,d,f⟩:=(M1.bk 1).tri;go_wp2_with fail;clear b d f;refine(HN _ M1.ext).mono ?_;rintro e w2 ⟨qw,cw,rfl,g,i⟩;have M2:=(M1.call i g)
 clear M1 i g;obtain⟨b,d,f⟩:=(M2.bk 2).tri;go_wp2_with fail;clear b d f;have HH:=xQ (HS _ qw cw M2.ext (M2.sq 0));refine HH.out.mono ?_;rintro e w9 ⟨q9,c9,rfl,o9,k⟩;have HX:=xQ (M2.ext);go_wp2;exact bodyPost_ret (v:= .tuple #[.slice q9 r.2.length c9,.bool true]) (by simp[results,results91,go_sem, *]) rfl ⟨q9,c9,rfl,bF o9 HX.out.sz,HX.out.trans k⟩
theorem uM (aA aB:Int)(p:OA)(n a:Nat)(xs:List Int)(w:World)(hS:Sl w p n a 1 (ivs xs))(b:aN aA aB xs=true):
  U 91 #[aH aA aB p n a] w (nJ (fY aA xs) w):=by
 have hl:=hS.ilen;subst hl;have hg:=iS b;have HV: ∀w',Ext w w'→U 29 #[aH aA aB p xs.length a] w' (O (.bool true) w'):=fun w' hy=>by have:=fM aA aB p xs.length a xs w' (hS.ext hy);rwa[b]at this
 unfold fY;cases hn:cO aA (bG xs)with
 |none=>refine aDq aA aB p xs.length a w HV (fun w' hy=> ?_);have:=oF aA aB p xs.length a xs w' (hS.ext hy) b;rw[hn]at this;exact this
 |some u=>
  obtain⟨hu,d⟩:=iT ((jC aA _).2 u hn);obtain⟨k1,k2,k3⟩:=iX hg hu;refine aAs aA aB p xs.length a (cM aA xs.length 12 u) _ (bW xs u (cM aA xs.length 12 u).tail) w k1 HV (fun w' hy=> ?_) (fun w' q c hy hL=>tH aA aB p xs.length a xs q _ c u w' (hS.ext hy) b hu d hL);have:=oF aA aB p xs.length a xs w' (hS.ext hy) b;rw[hn]at this;refine this.mono fun e w'' h=> ?_
  obtain⟨q,c,h1,h2,h3⟩:=h;simp only[jU,aLh]at h1 h2;exact⟨q,c,h1,h2,h3⟩
def bV (aA aB:Int)(xs:List Int)(id:Int):List Int×Int:=
 match kK aA aB xs id with
 |none=>(xs,-1)
 |some r=>(r.1,(r.2:Int))
theorem vZ (aA aB id:Int)(p:OA)(n a:Nat)(xs:List Int)(w:World)(g:Hid (xs.length=n))
  (HV:xB 29 #[aH aA aB p n a] w true)
  (HC:xC 91 #[aH aA aB p n a] w fun w' e w''=> ∃v,e= .returned (.tuple #[v,.bool false])∧Ext w' w'')
  (HL:xC 54 #[aH aA aB p n a] w fun w' e w''=> ∃q c,e= .returned (aH aA aB q n c)∧w''.ownsRow w' TI 1 (.slice q n c) n (ivs xs)∧Ext w' w''):
  U 55 #[aH aA aB p n a,id] w (cF aA aB xs (-1) w):=by
 go_enter func55,ntmps55;go_wp2_with fail;refine Z (HV _ (((Mem.start w).c0 TH3 #[aA,aB,.slice p n a]).c1 TH3 #[(),(),((),())]).ext) fun w1 j=>?_
 have M1:=((((Mem.start w).c0 TH3 #[aA,aB,.slice p n a]).c1 TH3 #[(),(),((),())]).adv j)
 clear j;obtain⟨b,d,f⟩:=(M1.bk 1).tri;go_wp2_with fail;clear b d f;refine(HC _ M1.ext).mono ?_;rintro e w2 ⟨v,rfl,k⟩;have M2:=(M1.adv k)
 clear M1 k;obtain⟨b,d,f⟩:=(M2.bk 1).tri;go_wp2_with fail;clear b d f;refine(HL _ M2.ext).mono ?_;rintro e w3 ⟨q0,c0,rfl,h,l⟩;have M3:=(M2.call l h)
 clear M2 l h;obtain⟨z0,m,z1,o,z2,r⟩:=(M3.bk 1).trif;go_wp2;clear z0 m z1 o z2 r;have M4:=(((M3.st 1 0 (I aA)).st 1 1 (I aB)).st 1 2 (.slice q0 n c0))
 generalize i:World.setCell _ _ _=wz;rw[i]at M4;clear i M3;obtain⟨s,t,u⟩:=(M4.bk 1).tri;exact bodyPost_ret (v:= .tuple #[.agg #[aA,aB,.slice q0 n c0],(-1:Int)]) (by simp[results,results55,go_sem, *]) rfl (dX g.out (M4.ow 0) M4.ext)
theorem aA8 (aA aB id:Int)(p:OA)(n a K:Nat)(xs ys zs:List Int)(sl:List Sl2)(w:World)(h:Hid (xs.length=n))
  (HV:xB 29 #[aH aA aB p n a] w true)
  (HC:xC 91 #[aH aA aB p n a] w fun w' e w''=> ∃q c,e= .returned (.tuple #[.slice q K c,.bool true])∧w''.ownsRow w' TSL 2 (.slice q K c) K (sl.flatMap aK)∧Ext w' w'')
  (HR:Hid (∀w' q c,Ext w w'→Sl w' q K c 2 (sl.flatMap aK)→U 92 #[aH aA aB p n a,.slice q K c] w' fun e w''=> ∃q c,e= .returned (.tuple #[aH aA aB q n c,K])∧w''.ownsRow w' TI 1 (.slice q n c) n (ivs ys)∧Ext w' w''))
  (HP:Hid (∀w' q c,Ext w w'→Sl w' q n c 1 (ivs ys)→U 93 #[aH aA aB q n c,(),id] w' fun e w''=> ∃q c,e= .returned (.tuple #[aH aA aB q n c,.bool false])∧w''.ownsRow w' TI 1 (.slice q n c) n (ivs zs)∧Ext w' w''))
  (HL:xC 54 #[aH aA aB p n a] w fun w' e w''=> ∃q c,e= .returned (aH aA aB q n c)∧w''.ownsRow w' TI 1 (.slice q n c) n (ivs xs)∧Ext w' w''):
  U 55 #[aH aA aB p n a,id] w (cF aA aB xs (-1) w):=by
 go_enter func55,ntmps55;go_wp2_with fail;refine Z (HV _ (((Mem.start w).c0 TH3 #[aA,aB,.slice p n a]).c1 TH3 #[(),(),((),())]).ext) fun w1 o=>?_
 have M1:=((((Mem.start w).c0 TH3 #[aA,aB,.slice p n a]).c1 TH3 #[(),(),((),())]).adv o)
 clear o;obtain⟨b,d,f⟩:=(M1.bk 1).tri;go_wp2_with fail;clear b d f;refine(HC _ M1.ext).mono ?_;rintro e w2 ⟨qs,cs,rfl,i,r⟩;have M2:=(M1.call r i)
 clear M1 r i;obtain⟨b,d,f⟩:=(M2.bk 2).tri;go_wp2_with fail;clear b d f;refine(HR _ qs cs M2.ext (M2.sq 0)).mono ?_;rintro e w3 ⟨q1,c1,rfl,j,s⟩;have M3:=(M2.call s j)
 clear M2 s j;go_wp2_with fail;refine(HP _ q1 c1 (M3.c0 TH3 #[aA,aB,.slice q1 n c1]).ext ((M3.c0 TH3 #[aA,aB,.slice q1 n c1]).sq 1)).mono ?_;rintro e w4 ⟨q2,c2,rfl,k,t⟩;have M4:=((M3.c0 TH3 #[aA,aB,.slice q1 n c1]).call t k)
 clear M3 t k;have g:=M4.hi 5;obtain⟨b,d,f⟩:=(M4.bk 5).tri;go_wp2_with fail;clear b d f;refine(HL _ (M4.c0 TH3 #[aA,aB,.slice q2 n c2]).ext).mono ?_;rintro e w5 ⟨q0,c0,rfl,l,u⟩;have M5:=((M4.c0 TH3 #[aA,aB,.slice q2 n c2]).call u l)
 clear M4 g u l;obtain⟨z0,x,z1,y,z2,z⟩:=(M5.bk 6).trif;go_wp2;clear z0 x z1 y z2 z;have M6:=(((M5.st 6 0 (I aA)).st 6 1 (I aB)).st 6 2 (.slice q0 n c0))
 generalize m:World.setCell _ _ _=wz;rw[m]at M6;clear m M5;obtain⟨aa,ab,ad⟩:=(M6.bk 6).tri;exact bodyPost_ret (v:= .tuple #[.agg #[aA,aB,.slice q0 n c0],(-1:Int)]) (by simp[results,results55,go_sem, *]) rfl (dX h.out (M6.ow 0) M6.ext)
theorem yB (aA aB id:Int)(p:OA)(n a K:Nat)(ys zs:List Int)(sl:List Sl2)(w:World)(g:Hid (zs.length=n))
  (HV:xB 29 #[aH aA aB p n a] w true)
  (HC:xC 91 #[aH aA aB p n a] w fun w' e w''=> ∃q c,e= .returned (.tuple #[.slice q K c,.bool true])∧w''.ownsRow w' TSL 2 (.slice q K c) K (sl.flatMap aK)∧Ext w' w'')
  (HR:Hid (∀w' q c,Ext w w'→Sl w' q K c 2 (sl.flatMap aK)→U 92 #[aH aA aB p n a,.slice q K c] w' fun e w''=> ∃q c,e= .returned (.tuple #[aH aA aB q n c,K])∧w''.ownsRow w' TI 1 (.slice q n c) n (ivs ys)∧Ext w' w''))
  (HP:Hid (∀w' q c,Ext w w'→Sl w' q n c 1 (ivs ys)→U 93 #[aH aA aB q n c,(),id] w' fun e w''=> ∃q c,e= .returned (.tuple #[aH aA aB q n c,.bool true])∧w''.ownsRow w' TI 1 (.slice q n c) n (ivs zs)∧Ext w' w'')):
  U 55 #[aH aA aB p n a,id] w (cF aA aB zs (K:Int) w):=by
 go_enter func55,ntmps55;go_wp2_with fail;refine Z (HV _ (((Mem.start w).c0 TH3 #[aA,aB,.slice p n a]).c1 TH3 #[(),(),((),())]).ext) fun w1 l=>?_
 have M1:=((((Mem.start w).c0 TH3 #[aA,aB,.slice p n a]).c1 TH3 #[(),(),((),())]).adv l)
 clear l;obtain⟨b,d,f⟩:=(M1.bk 1).tri;go_wp2_with fail;clear b d f;refine(HC _ M1.ext).mono ?_;rintro e w2 ⟨qs,cs,rfl,h,m⟩;have M2:=(M1.call m h)
 clear M1 m h;obtain⟨b,d,f⟩:=(M2.bk 2).tri;go_wp2_with fail;clear b d f;refine(HR _ qs cs M2.ext (M2.sq 0)).mono ?_;rintro e w3 ⟨q1,c1,rfl,i,o⟩;have M3:=(M2.call o i)
 clear M2 o i;go_wp2_with fail;refine(HP _ q1 c1 (M3.c0 TH3 #[aA,aB,.slice q1 n c1]).ext ((M3.c0 TH3 #[aA,aB,.slice q1 n c1]).sq 1)).mono ?_;rintro e w4 ⟨q2,c2,rfl,j,r⟩;have M4:=((M3.c0 TH3 #[aA,aB,.slice q1 n c1]).call r j)
 clear M3 r j;have s:=M4.hi 4;obtain⟨z0,t,z1,u,z2,x⟩:=(M4.bk 4).trif;go_wp2;clear z0 t z1 u z2 x;have M5:=((((M4.st 4 0 (I aA)).st 4 1 (I aB)).st 4 2 (.slice q2 n c2)).bn TH3 #[aA,aB,.slice q2 n c2] w4)
 generalize k:World.alloc _ _=wz;rw[k]at M5;clear k M4;obtain⟨y,z,aa⟩:=(M5.bk 5).tri;exact bodyPost_ret (v:= .tuple #[.agg #[aA,aB,.slice q2 n c2],K]) (by simp[results,results55,go_sem, *]) rfl (dX g.out (M5.ow 1) M5.ext)
theorem kO (aA aB:Int)(xs:List Int)(id:Int):(cH aA aB xs id).1.length=xs.length:=by unfold cH;split<;>simp
theorem xY (aA aB id:Int)(p:OA)(n a:Nat)(xs:List Int)(w:World)(hS:Sl w p n a 1 (ivs xs))(b:aN aA aB xs=true):
  U 55 #[aH aA aB p n a,id] w (cF aA aB (bV aA aB xs id).1 (bV aA aB xs id).2 w):=by
 have hl:=hS.ilen;subst hl;obtain⟨g1,g2,g3,g4,g5,g6,g7⟩:=bZ (cC b);have HV: ∀w',Ext w w'→U 29 #[aH aA aB p xs.length a] w' (O (.bool true) w'):=fun w' hy=>by have:=fM aA aB p xs.length a xs w' (hS.ext hy);rwa[b]at this
 have HL:=fun(w':World) (hy:Ext w w')=>eT aA aB p xs.length a xs w' (by omega) (hS.ext hy)
 have HC:=fun(w':World) (hy:Ext w w')=>uM aA aB p xs.length a xs w' (hS.ext hy) b
 cases hr:fY aA xs with
 |none=>
  have e:bV aA aB xs id=(xs,-1):=by unfold bV kK;rw[hr]
  rw[e];rw[hr]at HC;exact vZ aA aB id p xs.length a xs w rfl HV HC HL
 |some r=>
  rw[hr]at HC;obtain⟨f1,f2,f3,f4,f5⟩:=nD b hr;have HR: ∀w' q c,Ext w w'→Sl w' q r.2.length c 2 (r.2.flatMap aK)→U 92 #[aH aA aB p xs.length a,.slice q r.2.length c] w' fun e w''=> ∃q c,e= .returned (.tuple #[aH aA aB q xs.length c,(r.2.length:Int)])∧w''.ownsRow w' TI 1 (.slice q xs c) xs.length (ivs r.1)∧Ext w' w'':=fun w' q c hy hL=>by have:=oY aA aB p xs.length a xs q r.2.length c r.2 w' (by omega) (hS.ext hy) hL b;rw[f1]at this;unfold cF at this;dsimp only at this;rw[f3]at this;exact this
  have HP: ∀w' q c,Ext w w'→Sl w' q xs.length c 1 (ivs r.1)→U 93 #[aH aA aB q xs.length c,(),id] w' fun e w''=> ∃q c,e= .returned (.tuple #[aH aA aB q xs.length c,.bool (cH aA aB r.1 id).2])∧w''.ownsRow w' TI 1 (.slice q xs c) xs.length (ivs (cH aA aB r.1 id).1)∧Ext w' w'':=fun w' q c hy hL=>by have:=zP aA aB id q xs.length c r.1 w' hL f2;unfold cG at this;rw[kO,f3]at this;exact this
  cases hb:(cH aA aB r.1 id).2 with
  |false=>
   have e:bV aA aB xs id=(xs,-1):=by simp[bV,kK,hr,hb]
   rw[e];rw[hb]at HP;exact aA8 aA aB id p xs.length a r.2.length xs r.1 (cH aA aB r.1 id).1 r.2 w rfl HV HC HR HP HL
  |true=>
   have e:bV aA aB xs id=((cH aA aB r.1 id).1,(r.2.length:Int)):=by simp[bV,kK,hr,hb]
   rw[e];rw[hb]at HP;exact yB aA aB id p xs.length a r.2.length r.1 (cH aA aB r.1 id).1 r.2 w (show _=_ by rw[kO,f3]) HV HC HR HP
end
def fO:Nat→Nat
 |0=>0
 |n+1=>(n+1)%2+fO ((n+1)/2)
decreasing_by omega
theorem pC (n:Nat):fO n=n%2+fO (n/2):=by
 cases n with
 |zero=>rw[fO]
 |succ n=>rw[fO]
theorem sD: ∀(f S:Nat),S.testBit f=false→ ∀k,(S+2 ^ f).testBit k=(S.testBit k || decide (k=f)):=by
 intro f;induction f with
 |zero=>
  intro S h k;rw[aLl]at h;have h0:S%2=0:=by simp at h;omega
  cases k with
  |zero=>rw[aLl,aLl];simp;omega
  |succ k=>rw[aLt,aLt,show(S+2 ^ 0)/2=S/2 by simp;omega];simp
 |succ f ih=>
  intro S h k;rw[aLt]at h;have e:(S+2 ^ (f+1))/2=S/2+2 ^ f:=by rw[Nat.pow_succ];omega
  cases k with
  |zero=>rw[aLl,aLl];simp[Nat.pow_succ]<;>omega
  |succ k=>rw[aLt,aLt,e,ih _ h];simp
theorem sX: ∀(f S:Nat),S.testBit f=false→fO (S+2 ^ f)=fO S+1:=by
 intro f;induction f with
 |zero=>
  intro S h;rw[aLl]at h;have h0:S%2=0:=by simp at h;omega
  rw[pC (S+2 ^ 0),pC S,show(S+2 ^ 0)/2=S/2 by simp;omega];simp;omega
 |succ f ih=>
  intro S h;rw[aLt]at h;have e:(S+2 ^ (f+1))/2=S/2+2 ^ f:=by rw[Nat.pow_succ];omega
  rw[pC (S+2 ^ (f+1)),pC S,e,ih _ h];have:(S+2 ^ (f+1))%2=S%2:=by rw[Nat.pow_succ];omega
  omega
theorem aEv: ∀(t S:Nat),S.testBit t=true→ ∃R,S=R+2 ^ t∧R.testBit t=false:=by
 intro t;induction t with
 |zero=>
  intro S h;rw[aLl]at h;have h0:S%2=1:=by simpa using h
  exact⟨S-1,by simp;omega,by rw[aLl];simp;omega⟩
 |succ t ih=>intro S h;rw[aLt]at h;obtain⟨R,h1,h2⟩:=ih _ h;refine⟨2*R+S%2,by rw[Nat.pow_succ];omega,?_⟩;rw[aLt,show(2*R+S%2)/2=R by omega];exact h2
theorem rZ {t S:Nat}(h:S.testBit t=true):2 ^ t≤S∧(∀k,(S-2 ^ t).testBit k=(S.testBit k&& !decide (k=t)))∧fO S=fO (S-2 ^ t)+1:=by
 obtain⟨R,rfl,h2⟩:=aEv t S h;rw[aM0];refine⟨Nat.le_add_left _ _,fun k=> ?_,sX _ _ h2⟩;rw[sD _ _ h2];by_cases hk:k=t
 ·subst hk;simp[h2]
 simp[hk]
def cK (S f t:Nat):Nat:=S-2 ^ t+2 ^ f
theorem dY {S f t:Nat}(ht:S.testBit t=true)(hf:S.testBit f=false)(k:Nat):(cK S f t).testBit k=(decide (k=f) || (S.testBit k&& !decide (k=t))):=by obtain⟨a,b,c⟩:=rZ ht;unfold cK;rw[sD _ _ (by rw[b,hf];rfl),b];cases S.testBit k<;>cases decide (k=f)<;>cases decide (k=t)<;>rfl
theorem aBa {S f t:Nat}(ht:S.testBit t=true)(hf:S.testBit f=false):fO (cK S f t)=fO S:=by obtain⟨a,b,c⟩:=rZ ht;unfold cK;rw[sX _ _ (by rw[b,hf];rfl),c]
theorem aD4 {a b:Nat}(h: ∀k,a.testBit k=b.testBit k):a=b:=aM3 h
theorem aId {n a:Nat}(h: ∀k,n≤k→a.testBit k=false):a<2 ^ n:=Nat.lt_pow_two_of_testBit a h
theorem qV {n a:Nat}(h:a<2 ^ n){k:Nat}(hk:n≤k):a.testBit k=false:=Nat.testBit_lt_two_pow (aK0 h (aKd (by omega) hk))
theorem pD {n S f t:Nat}(hS:S<2 ^ n)(a:f<n)(ht:S.testBit t=true)(hf:S.testBit f=false):cK S f t<2 ^ n:=by
 refine aId fun k hk=> ?_
 rw[dY ht hf,qV hS hk];have:k≠f:=by omega
 simp[this]
theorem aBb {S f t:Nat}(ht:S.testBit t=true)(hf:S.testBit f=false):cK (cK S f t) t f=S:=by
 have a:f≠t:=fun e=>by subst e;rw[ht]at hf;cases hf
 refine aD4 fun k=> ?_
 rw[dY (by rw[dY ht hf];simp) (by rw[dY ht hf];simp[Ne.symm a]),dY ht hf];by_cases h1:k=t
 ·subst h1;simp[ht]
 by_cases h2:k=f
 ·subst h2;simp[h1,hf]
 simp[h1,h2]
def iB (p:Nat→Bool):Nat→Nat
 |0=>0
 |k+1=>iB p k+(if p k then 2 ^ k else 0)
theorem nM (p:Nat→Bool)(k:Nat):iB p k<2 ^ k:=by
 induction k with
 |zero=>simp[iB]
 |succ k ih=>unfold iB;rw[Nat.pow_succ];split<;>omega
theorem aG2 (p:Nat→Bool)(k j:Nat):(iB p k).testBit j=(decide (j<k)&&p j):=by
 induction k with
 |zero=>simp[iB]
 |succ k ih=>
  have hk:(iB p k).testBit k=false:=qV (nM p k) (aK1 _);unfold iB;cases hp:p k with
  |false=>
   simp only[Bool.false_eq_true,if_false,Nat.add_zero];rw[ih];by_cases h:j=k
   ·subst h;simp[hp]
   have:(j<k+1)↔j<k:=by omega
   simp[this]
  |true=>
   simp only[if_true];rw[sD _ _ hk,ih];by_cases h:j=k
   ·subst h;simp[hp]
   have:(j<k+1)↔j<k:=by omega
   simp[this,h]
theorem aDt (p:Nat→Bool)(k:Nat):fO (iB p k)=((List.range k).filter p).length:=by
 induction k with
 |zero=>simp[iB,fO]
 |succ k ih=>
  have hk:(iB p k).testBit k=false:=qV (nM p k) (aK1 _);rw[aLg,aKy,aKa,←ih,show iB p (k+1)=iB p k+(if p k then 2 ^ k else 0)from rfl];cases hp:p k with
  |false=>simp[hp]
  |true=>simp only[if_true];rw[sX _ _ hk];simp[hp]
def aM (xs:List Int):Nat:=iB (cL xs) xs.length
theorem dW (xs:List Int)(k:Nat):(aM xs).testBit k=cL xs k:=by
 unfold aM;rw[aG2];by_cases h:k<xs.length
 ·simp[h]
 have:cL xs k=false:=by unfold cL;rw[aLb (by omega)];rfl
 rw[this];simp
theorem mC (xs:List Int):aM xs<2 ^ xs.length:=nM _ _
theorem xG (xs:List Int):fO (aM xs)=(bG xs).length:=aDt _ _
section
def dQ (aA:Int)(n S:Nat):List (Nat×Nat):=(List.range n).flatMap fun f=>if S.testBit f then []else((aR aA n f).filter (fun t=>S.testBit t)).map (fun t=>(f,t))
theorem eK {aA:Int}{n S:Nat}{e:Nat×Nat}:e∈dQ aA n S↔e.1<n∧e.2<n∧e.2∈aR aA n e.1∧S.testBit e.1=false∧S.testBit e.2=true:=by
 obtain⟨f,t⟩:=e;simp only[dQ,List.mem_flatMap,aKj];constructor
 ·rintro⟨a,ha,hm⟩;cases hb:S.testBit a with
  |true=>rw[hb]at hm;simp at hm
  |false=>rw[hb]at hm;simp only[Bool.false_eq_true,if_false,List.mem_map,aKq]at hm;obtain⟨x,⟨h1,h2⟩,h3⟩:=hm;injection h3 with h3 h4;subst h3 h4;exact⟨ha,(bM.1 h1).1,h1,hb,h2⟩
 rintro⟨h1,h2,h3,h4,h5⟩;refine⟨f,h1,?_⟩;rw[h4];simp only[Bool.false_eq_true,if_false,List.mem_map,aKq];exact⟨t,⟨h3,h5⟩,rfl⟩
def cY (c f t:Nat):Nat:=if f=c then t else c
def fG (M c S f t:Nat):Nat:=cY c f t*M+cK S f t
def mE (aA:Int)(n M s:Nat):List Nat:=(dQ aA n (s%M)).map (fun e=>fG M (s/M) (s%M) e.1 e.2)
def tX (aA:Int)(n M s:Nat):List Nat:=(List.range n).flatMap fun h=>if(s%M).testBit h then((aR aA n h).filter (fun f=> !(s%M).testBit f)).map (fun f=>fG M (s/M) (s%M) f h)else []
def oU (aA:Int)(n M s v:Nat):Prop:= ∃f t,f<n∧t<n∧t∈aR aA n f∧(s%M).testBit f=false∧(s%M).testBit t=true∧v=fG M (s/M) (s%M) f t
theorem nH {aA:Int}{n M s v:Nat}:v∈mE aA n M s↔oU aA n M s v:=by
 unfold mE oU;rw[List.mem_map];constructor
 ·rintro⟨⟨f,t⟩,h,rfl⟩;obtain⟨h1,h2,h3,h4,h5⟩:=eK.1 h;exact⟨f,t,h1,h2,h3,h4,h5,rfl⟩
 rintro⟨f,t,h1,h2,h3,h4,h5,rfl⟩;exact⟨(f,t),eK.2 ⟨h1,h2,h3,h4,h5⟩,rfl⟩
theorem lM {aA:Int}{n M s v:Nat}:v∈tX aA n M s↔oU aA n M s v:=by
 unfold tX oU;rw[List.mem_flatMap];constructor
 ·rintro⟨h,hh,hm⟩;rw[aKj]at hh;cases hb:(s%M).testBit h with
  |false=>rw[hb]at hm;simp at hm
  |true=>rw[hb]at hm;simp only[if_true,List.mem_map,aKq,Bool.not_eq_true']at hm;obtain⟨f,⟨h1,h2⟩,rfl⟩:=hm;exact⟨f,h,(bM.1 h1).1,hh,eX hh h1,h2,hb,rfl⟩
 rintro⟨f,t,h1,h2,h3,h4,h5,rfl⟩;refine⟨t,aKj.2 h2,?_⟩;rw[h5];simp only[if_true,List.mem_map,aKq,Bool.not_eq_true'];exact⟨f,⟨eX h1 h3,h4⟩,rfl⟩
structure uO (n M s:Nat):Prop where
 car:s/M<n
 set:s%M<2 ^ n
 occ:(s%M).testBit (s/M)=false
theorem kH {M c S:Nat}(h:S<M):(c*M+S)/M=c:=by rw[Nat.mul_comm,Nat.mul_add_div (by omega),Nat.div_eq_of_lt h,Nat.add_zero]
theorem fQ {M c S:Nat}(h:S<M):(c*M+S)%M=S:=by rw[Nat.mul_comm,Nat.mul_add_mod,Nat.mod_eq_of_lt h]
theorem zZ {n c f t:Nat}(hc:c<n)(ht:t<n):cY c f t<n:=by unfold cY;split<;>omega
theorem jS {aA:Int}{n M s v:Nat}(hM:2 ^ n≤M)(hS:s%M<2 ^ n)(h:oU aA n M s v): ∃f t,f<n∧t<n∧t∈aR aA n f∧(s%M).testBit f=false∧(s%M).testBit t=true∧v/M=cY (s/M) f t∧v%M=cK (s%M) f t∧cK (s%M) f t<2 ^ n:=by obtain⟨f,t,h1,h2,h3,h4,h5,rfl⟩:=h;have hl:=pD hS h1 h5 h4;exact⟨f,t,h1,h2,h3,h4,h5,kH (by omega),fQ (by omega),hl⟩
theorem aD1 {aA:Int}{n M s v:Nat}(hM:2 ^ n≤M)(hc:s/M<n)(hS:s%M<2 ^ n)(h:oU aA n M s v):v/M<n∧v%M<2 ^ n:=by obtain⟨f,t,h1,h2,h3,h4,h5,h6,h7,h8⟩:=jS hM hS h;exact⟨by rw[h6];exact zZ hc h2,by rw[h7];exact h8⟩
theorem pQ {aA:Int}{n M s v:Nat}(hM:2 ^ n≤M)(hs:uO n M s)(h:oU aA n M s v):uO n M v:=by
 obtain⟨a,b⟩:=aD1 hM hs.car hs.set h;obtain⟨f,t,h1,h2,h3,h4,h5,h6,h7,h8⟩:=jS hM hs.set h;refine⟨a,b,?_⟩;rw[h6,h7,dY h5 h4];unfold cY;have c:f≠t:=fun e=>by subst e;rw[h5]at h4;cases h4
 split
 ·simp[Ne.symm c]
 have:=hs.occ;have h9:s/M≠f:=fun e=>by omega
 simp[this,h9]
theorem nV {aA:Int}{n M s v:Nat}(hM:2 ^ n≤M)(hS:s%M<2 ^ n)(h:oU aA n M s v):fO (v%M)=fO (s%M):=by obtain⟨f,t,h1,h2,h3,h4,h5,h6,h7,h8⟩:=jS hM hS h;rw[h7,aBa h5 h4]
theorem vP {aA:Int}{n M s v:Nat}(hM:2 ^ n≤M)(hs:uO n M s)(h:oU aA n M s v):oU aA n M v s:=by
 obtain⟨f,t,h1,h2,h3,h4,h5,h6,h7,h8⟩:=jS hM hs.set h;have b:f≠t:=fun e=>by subst e;rw[h5]at h4;cases h4
 refine⟨t,f,h2,h1,eX h1 h3,by rw[h7,dY h5 h4];simp[Ne.symm b],by rw[h7,dY h5 h4];simp,?_⟩;have a:cY (v/M) t f=s/M:=by
  rw[h6];unfold cY;by_cases hf:f=s/M
  ·simp[hf]
  have ht: ¬t=s/M:=fun e=>by have:=hs.occ;rw[←e,h5]at this;cases this
  simp[hf,ht]
 unfold fG;rw[a,h7,aBb h5 h4];rw[Nat.mul_comm];exact(aLw s M).symm
def aJ5:List ((Int×Nat)×List Nat):= [
 ((2,4),[0,0,0,0,1,0,2,3,1,2,0,3,5,4,4,0]),
 ((2,6),[0,0,0,0,0,0,1,0,2,3,3,4,1,2,0,3,5,4,5,4,4,0,5,6,7,8,6,7,0,8,9,8,8,7,9,0]),
 ((3,6),[0,0,0,0,0,0,1,0,5,2,3,4,7,6,0,8,7,8,1,2,3,0,3,4,5,4,5,4,0,6,9,8,9,8,7,0]),
 ((3,9),[0,0,0,0,0,0,0,0,0,1,0,5,2,3,4,3,4,5,7,6,0,8,7,8,9,8,9,1,2,3,0,3,4,5,4,5,5,4,5,4,0,6,5,6,7,9,8,9,8,7,0,9,8,9,7,8,9,6,7,8,0,8,9,9,8,9,8,7,8,9,0,9,13,12,11,12,11,10,11,10,0]),
 ((4,8),[0,0,0,0,0,0,0,0,1,0,5,6,2,3,4,5,7,6,0,10,8,7,8,9,13,12,11,0,14,13,12,13,1,2,3,4,0,3,4,5,5,4,5,6,4,0,6,7,9,8,9,10,8,7,0,11,15,14,13,14,14,13,12,0]),
 ((4,12),[0,0,0,0,0,0,0,0,0,0,0,0,1,0,5,6,2,3,4,5,3,4,5,6,7,6,0,10,8,7,8,9,9,8,9,10,13,12,11,0,14,13,12,13,15,14,13,14,1,2,3,4,0,3,4,5,5,4,5,6,5,4,5,6,4,0,6,7,5,6,7,8,9,8,9,10,8,7,0,11,9,8,9,10,15,14,13,14,14,13,12,0,15,14,13,14,7,8,9,10,6,7,8,9,0,8,9,10,9,8,9,10,8,7,8,9,9,0,9,10,13,12,11,12,12,11,10,11,11,10,0,12,17,16,15,16,16,15,14,15,15,14,13,0])]
def pot (aA:Int)(n c h:Nat):Nat:=((aJ5.find? (fun g=>g.1==(aA,n))).map (fun g=>g.2.getD (c*n+h) 0)).getD 0
def aJr (aA:Int)(n:Nat):Bool:=(List.range n).all fun c=>(List.range n).all fun h=>decide (pot aA n c h≤60)&&(c==0 || c==h || (aR aA n h).any fun t=>decide (pot aA n (if t=c then h else c) t<pot aA n c h))
theorem aI7:(gZ.all fun g=>aJr g.1 g.2)=true:=by decide+kernel
theorem sW {aA:Int}{n c h:Nat}(hg:(aA,n)∈gZ)(hc:c<n)(hh:h<n):pot aA n c h≤60∧(c≠0→c≠h→ ∃t,t∈aR aA n h∧pot aA n (if t=c then h else c) t<pot aA n c h):=by
 have h1:=aL5.1 aI7 _ hg;have h2:=aL5.1 (aL5.1 h1 c (aKj.2 hc)) h (aKj.2 hh);simp only[aKg,Bool.or_eq_true,decide_eq_true_eq,beq_iff_eq,List.any_eq_true]at h2;refine⟨h2.1,fun a b=> ?_⟩;rcases h2.2 with(h3|h3)|⟨t,h3,h4⟩
 ·exact absurd h3 a
 ·exact absurd h3 b
 exact⟨t,h3,h4⟩
def sL (n many:Nat):List Nat:=(List.range (2 ^ n)).filter (fun s=> !s.testBit 0&&decide (fO s=many))
theorem iF {n many s:Nat}:s∈sL n many↔s<2 ^ n∧s.testBit 0=false∧fO s=many:=by simp[sL]
section
variable {aA:Int} {n many:Nat} {D:List Int}
abbrev MM:Nat:=4096
abbrev NN:Nat:=49152
abbrev eD (aA:Int)(n many:Nat)(D:List Int):Prop:=pV (tX aA n MM) (sL n many) NN D
theorem gG (hn:n≤12):2 ^ n≤MM:=aKd (n:=2) (by omega) hn
theorem mS (hn:n≤12){s:Nat}(h:uO n MM s):s<NN:=by have h1:=h.car;have h2:=aLw s MM;have h3:s%MM<MM:=Nat.mod_lt _ (by decide);show s<49152;have:s/4096<n:=h1;omega
theorem aJ8 {s:Nat}(h:s<NN):s/MM<12:=by have:s<49152:=h;show s/4096<12;omega
theorem aD2 (c:4≤n)(hn:n≤12)(hD:eD aA n many D): ∀(k s:Nat),s<NN→D.getD s 0=k→uO n MM s∧fO (s%MM)=many:=by
 intro k;induction k with
 |zero=>intro s hs h0;have hm:=(hD.zero s hs).1 (by omega);obtain⟨h1,h2,h3⟩:=iF.1 hm;have h4:=gG hn;have h5:s%MM=s:=Nat.mod_eq_of_lt (by omega);have h6:s/MM=0:=Nat.div_eq_of_lt (by omega);exact⟨⟨by rw[h6];omega,by rw[h5];exact h1,by rw[h5,h6];exact h2⟩,by rw[h5];exact h3⟩
 |succ k ih=>intro s hs h0;obtain⟨u,hu,hv,hd⟩:=hD.back s hs (by omega);obtain⟨a,b⟩:=ih u hu (by omega);have he:=lM.1 hv;exact⟨pQ (gG hn) a he,by rw[nV (gG hn) a.set he];exact b⟩
theorem vT (b:4≤n)(hn:n≤12)(hD:eD aA n many D){s v:Nat}(hs:uO n MM s)(he:oU aA n MM s v):(0≤D.getD s 0↔0≤D.getD v 0)∧(0≤D.getD s 0→D.getD s 0≤D.getD v 0+1∧D.getD v 0≤D.getD s 0+1):=by
 have hv:=pQ (gG hn) hs he;have a:=vP (gG hn) hs he;have l1:=mS hn hs;have l2:=mS hn hv;have e1:=fun h=>hD.edge s v l1 h (lM.2 he)
 have e2:=fun h=>hD.edge v s l2 h (lM.2 a)
 exact⟨⟨fun h=>(e1 h).1,fun h=>(e2 h).1⟩,fun h=>⟨(e2 (e1 h).1).2,(e1 h).2⟩⟩
theorem aHl (hg:(aA,n)∈gZ)(i:4≤n)(hn:n≤12)(hD:eD aA n many D): ∀(P s h:Nat),pot aA n (s/MM) h≤P→uO n MM s→fO (s%MM)=many→(s%MM).testBit h=true→0≤D.getD s 0∧D.getD s 0≤pot aA n (s/MM) h:=by
 intro P;induction P with
 |zero=>
  intro s h hP hs hm hh;by_cases h0:s/MM=0
  ·have h1:s=s%MM:=by have:=aLw s MM;rw[h0]at this;omega
   have:D.getD s 0=0:=(hD.zero s (mS hn hs)).2 (iF.2 ⟨by rw[h1];exact hs.set,by rw[h1,←h0];exact hs.occ,by rw[h1];exact hm⟩);rw[this];exact⟨Int.le_refl _,by omega⟩
  have c:h<n:=by
   rcases Nat.lt_or_ge h n with h1|h1
   ·exact h1
   rw[qV hs.set h1]at hh;cases hh
  obtain⟨t,ht,d⟩:=(sW hg hs.car c).2 h0 (fun e=>by rw[←e,hs.occ]at hh;cases hh);omega
 |succ P ih=>
  intro s h hP hs hm hh;by_cases h0:s/MM=0
  ·have h1:s=s%MM:=by have:=aLw s MM;rw[h0]at this;omega
   have:D.getD s 0=0:=(hD.zero s (mS hn hs)).2 (iF.2 ⟨by rw[h1];exact hs.set,by rw[h1,←h0];exact hs.occ,by rw[h1];exact hm⟩);rw[this];exact⟨Int.le_refl _,by omega⟩
  have c:h<n:=by
   rcases Nat.lt_or_ge h n with h1|h1
   ·exact h1
   rw[qV hs.set h1]at hh;cases hh
  obtain⟨t,ht,d⟩:=(sW hg hs.car c).2 h0 (fun e=>by rw[←e,hs.occ]at hh;cases hh);have g:=(bM.1 ht).1;cases hb:(s%MM).testBit t with
  |true=>
   have f:t≠s/MM:=fun e=>by rw[e,hs.occ]at hb;cases hb
   rw[if_neg f]at d;obtain⟨a,b⟩:=ih s t (by omega) hs hm hb;exact⟨a,by omega⟩
  |false=>
   have he:oU aA n MM s (fG MM (s/MM) (s%MM) t h):=⟨t,h,g,c,eX c ht,hb,hh,rfl⟩
   obtain⟨f',t',k1,k2,k3,k4,k5,k6,k7,k8⟩:=jS (gG hn) hs.set he;have hl:=pD hs.set g hh hb;have e1:fG MM (s/MM) (s%MM) t h/MM=cY (s/MM) t h:=kH (aK0 hl (gG hn));have e2:fG MM (s/MM) (s%MM) t h%MM=cK (s%MM) t h:=fQ (aK0 hl (gG hn));have j:=pQ (gG hn) hs he;have k:=nV (gG hn) hs.set he;have f:t≠h:=fun e=>by subst e;rw[hh]at hb;cases hb
   have hp:pot aA n (fG MM (s/MM) (s%MM) t h/MM) t=pot aA n (if t=s/MM then h else s/MM) t:=by rw[e1];rfl
   obtain⟨a,b⟩:=ih _ t (by rw[hp];omega) j (by rw[k];exact hm) (by rw[e2,dY hh hb];simp);rw[hp]at b;obtain⟨c1,c2⟩:=vT i hn hD hs he;have c3:=c1.2 a;have:=c2 c3;exact⟨c3,by omega⟩
theorem aIs {adj:Nat→List Nat}{src:List Nat}{N:Nat}{D E:List Int}(hD:pV adj src N D)(hE:pV adj src N E): ∀(k v:Nat),v<N→D.getD v 0=k→0≤E.getD v 0∧E.getD v 0≤k:=by
 intro k;induction k with
 |zero=>intro v hv h;have:E.getD v 0=0:=(hE.zero v hv).2 ((hD.zero v hv).1 (by omega));rw[this];simp
 |succ k ih=>intro v hv h;obtain⟨u,hu,hm,hd⟩:=hD.back v hv (by omega);obtain⟨a,b⟩:=ih u hu (by omega);obtain⟨c,d⟩:=hE.edge u v hu a hm;exact⟨c,by omega⟩
theorem vR {adj:Nat→List Nat}{src:List Nat}{N:Nat}{D E:List Int}(hD:pV adj src N D)(hE:pV adj src N E){v:Nat}(hv:v<N):(0≤D.getD v 0↔0≤E.getD v 0)∧(0≤D.getD v 0→D.getD v 0=E.getD v 0):=by
 have h1: ∀(A B:List Int),pV adj src N A→pV adj src N B→0≤A.getD v 0→0≤B.getD v 0∧B.getD v 0≤A.getD v 0:=by intro A B hA hB h;obtain⟨k,hk⟩:=aKo h;have:=aIs hA hB k v hv hk;rw[hk];exact this
 refine⟨⟨fun h=>(h1 D E hD hE h).1,fun h=>(h1 E D hE hD h).1⟩,fun h=> ?_⟩;obtain⟨a,b⟩:=h1 D E hD hE h;obtain⟨c,d⟩:=h1 E D hE hD a;omega
def gO (N:Nat)(src:List Nat):List Int:=src.foldl (fun A v=>A.set v 0) (List.replicate N (-1))
theorem aAy (N:Nat)(src:List Nat)(v:Nat):gO N (src++ [v])=(gO N src).set v 0:=by simp[gO]
theorem uW (N:Nat)(src:List Nat):(gO N src).length=N:=by
 unfold gO
 suffices h: ∀(l:List Nat) (A:List Int),(l.foldl (fun A v=>A.set v 0) A).length=A.length by rw[h];simp
 intro l;induction l with
 |nil=>intro A;rfl
 |cons x l ih=>intro A;simp only[List.foldl_cons];rw[ih];simp
theorem uX (N:Nat)(src:List Nat)(v:Nat)(hv:v<N):(v∈src→(gO N src).getD v 0=0)∧(v∉src→(gO N src).getD v 0= -1):=by
 unfold gO
 suffices h: ∀(l:List Nat) (A:List Int),A.length=N→(v∈l→(l.foldl (fun A v=>A.set v 0) A).getD v 0=0)∧(v∉l→(l.foldl (fun A v=>A.set v 0) A).getD v 0=A.getD v 0) by obtain⟨a,b⟩:=h src (List.replicate N (-1)) (by simp);exact⟨a,fun h=>by rw[b h];simp[List.getD,hv]⟩
 intro l;induction l with
 |nil=>intro A _;simp
 |cons x l ih=>
  intro A hA;simp only[List.foldl_cons];obtain⟨a,b⟩:=ih (A.set x 0) (by simpa using hA);constructor
  ·intro hm;by_cases hl:v∈l
   ·exact a hl
   have:v=x:=by simpa[hl]using hm
   subst this;rw[b hl,bX (by omega)]
  intro hm;have h1:v≠x:=fun e=>hm (by simp[e])
  have h2:v∉l:=fun e=>hm (by simp[e])
  rw[b h2,bK (Ne.symm h1)]
theorem Inv.begin {adj:Nat→List Nat}{src:List Nat}{N:Nat}(hb: ∀v∈src,v<N)(a:src.Nodup):Inv adj src N 0 (gO N src,src):=by
 have h0: ∀v∈src,(gO N src).getD v 0=0:=fun v hv=>(uX N src v (hb v hv)).1 hv
 refine⟨uW _ _,hb,fun v hv=> ?_,a,?_,?_,?_,fun v hv=>⟨hv,h0 v hv⟩,fun i u hi=>absurd hi (by omega)⟩
 ·by_cases hm:v∈src
  ·rw[h0 v hm];simp[hm]
  rw[(uX N src v hv).2 hm];simp[hm]
 ·refine List.pairwise_iff_getElem.2 fun i j hi hj _=> ?_
  dsimp only;rw[h0 _ (List.getElem_mem hi),h0 _ (List.getElem_mem hj)];exact Int.le_refl _
 ·intro u hu v hv;dsimp only;rw[h0 v hv,h0 u (aK5 hu)];omega
 intro v hv;dsimp only;rw[h0 v hv];exact hv
theorem pU (hn:n≤12): ∀u v,u<NN→v∈tX aA n MM u→v<NN:=by intro u v hu hv;obtain⟨f,t,h1,h2,h3,h4,h5,rfl⟩:=lM.1 hv;have hc:cY (u/MM) f t<12:=zZ (aJ8 hu) (by omega);have hS:u%MM<2 ^ 12:=Nat.mod_lt _ (by decide);have:=pD hS (by omega:f<12) h5 h4;show cY (u/MM) f t*4096+cK (u%MM) f t<49152;omega
theorem aCk (hn:n≤12): ∀v∈sL n many,v<NN:=fun v hv=>by
 have:=(iF.1 hv).1;have h:=gG hn;have h2:(MM:Nat)<NN:=by decide
 omega
theorem sK:(sL n many).Nodup:=List.Pairwise.filter _ List.nodup_range
end
end
section
theorem aI6 (m:Nat→Bool)(f k:Nat):jA m f k=((List.range k).filter m).map (fun(t:Nat)=>((f:Int),(t:Int))):=by
 induction k with
 |zero=>rfl
 |succ k ih=>rw[aLg,aKy,aLd,show jA m f (k+1)=jA m f k++(if m k then [((f:Int),(k:Int))]else [])from rfl,ih];cases h:m k<;>simp[h]
theorem aG6 (m:Nat→Nat→Bool)(n k:Nat):dE m n k=(List.range k).flatMap (fun f=>((List.range n).filter (m f)).map (fun(t:Nat)=>((f:Int),(t:Int)))):=by
 induction k with
 |zero=>rfl
 |succ k ih=>rw[aLg,aL1,show dE m n (k+1)=dE m n k++jA (m k) k n from rfl,ih,aI6];simp
theorem eU {xs:List Int}{k:Nat}(hk:k<xs.length):cL xs k=decide (xs.getD k 0=0):=by unfold cL;rw[aK6,aK2 hk];simp;rfl
theorem yW {aA aB:Int}{xs:List Int}(h:aN aA aB xs=true){f t:Nat}(hf:f<xs.length)(ht:t<xs.length):
  aX aA aB xs (f:Int) (t:Int)=(!(aM xs).testBit f&&(decide (t∈aR aA xs.length f)&&(aM xs).testBit t)):=by
 have h1:cS aA aB xs (f:Int) (t:Int)=aU aA f t:=by unfold cS;rw[if_pos ⟨h,⟨by omega,by omega⟩,by omega,by omega⟩]
 have h2:=mZ h f;unfold aX;rw[h1,dW,dW,eU hf,eU ht];simp only[aLm];have h3:decide (t∈aR aA xs.length f)=decide (aU aA f t=1):=by
  have:t∈aR aA xs.length f↔aU aA f t=1:=by rw[bM];exact⟨fun h=>h.2,fun h=>⟨ht,h⟩⟩
  simp[this]
 have h4:decide (0<xs.getD f 0)= !decide (xs.getD f 0=0):=by
  by_cases h0:xs.getD f 0=0
  ·rw[h0];rfl
  have:0<xs.getD f 0:=by omega
  simp only[h0,this];rfl
 rw[h3,h4];cases decide (aU aA f t=1)<;>cases decide (xs.getD f 0=0)<;>rfl
theorem wH {aA aB:Int}{xs:List Int}(h:aN aA aB xs=true):fT aA aB xs=(dQ aA xs.length (aM xs)).map (fun e=>((e.1:Int),(e.2:Int))):=by
 unfold fT dQ;rw[aG6,List.map_flatMap];have b: ∀l:List Nat,(∀f∈l,f<xs.length)→l.flatMap (fun(f:Nat)=>((List.range xs.length).filter (fun(t:Nat)=>aX aA aB xs f t)).map (fun(t:Nat)=>((f:Int),(t:Int))))=l.flatMap (fun a=>(if(aM xs).testBit a then []else((aR aA xs.length a).filter (fun t=>(aM xs).testBit t)).map (fun t=>(a,t))).map (fun e=>((e.1:Int),(e.2:Int)))):=by
  intro l;induction l with
  |nil=>intro _;rfl
  |cons f l ih=>
   intro hl;have hf:=hl f (by simp);rw[aL8,aL8,ih (fun x hx=>hl x (by simp[hx]))];congr 1
   have e1:(List.range xs.length).filter (fun(t:Nat)=>aX aA aB xs f t)=(List.range xs.length).filter (fun(t:Nat)=>(!(aM xs).testBit f&&(decide (t∈aR aA xs.length f)&&(aM xs).testBit t))):=
    List.filter_congr (fun t ht=>yW h hf (aKj.1 ht))
   rw[e1];cases hb:(aM xs).testBit f with
   |true=>simp
   |false=>
    simp only[Bool.not_false,Bool.true_and,Bool.false_eq_true,if_false,List.map_map];have e2:(List.range xs.length).filter (fun(t:Nat)=>decide (t∈aR aA xs.length f)&&(aM xs).testBit t)=(aR aA xs.length f).filter (fun t=>(aM xs).testBit t):=by
     have:aR aA xs.length f=(List.range xs.length).filter (fun t=>decide (t∈aR aA xs.length f)):=by
      conv=>lhs;unfold aR
      refine List.filter_congr (fun t ht=> ?_);have:t∈aR aA xs.length f↔aU aA f t=1:=by rw[bM];exact⟨fun h=>h.2,fun h=>⟨aKj.1 ht,h⟩⟩
      simp[this]
     conv=>rhs;rw[this]
     rw[List.filter_filter];refine List.filter_congr (fun t _=> ?_);rw[Bool.and_comm]
    rw[e2];rfl
 exact b _ (fun f hf=>aKj.1 hf)
theorem qS {aA aB:Int}{xs:List Int}(h:aN aA aB xs=true){f t:Nat}(he:(f,t)∈dQ aA xs.length (aM xs)):
  aX aA aB xs (f:Int) (t:Int)=true∧bD aA aB xs (f:Int) (t:Int)=(xs.set t (xs.getD f 0)).set f 0∧aM (bD aA aB xs (f:Int) (t:Int))=cK (aM xs) f t∧ ∀c id,xs[c]? =some id→id≠0→(bD aA aB xs (f:Int) (t:Int))[cY c f t]? =some id:=by
 obtain⟨h1,h2,h3,h4,h5⟩:=eK.1 he;dsimp only at h1 h2 h3 h4 h5;have hm:aX aA aB xs (f:Int) (t:Int)=true:=by rw[yW h h1 h2,h4,h5];simp[h3]
 have hd:bD aA aB xs (f:Int) (t:Int)=(xs.set t (xs.getD f 0)).set f 0:=by unfold bD;rw[if_pos hm];simp only[aLm]
 have j:f≠t:=fun e=>by subst e;rw[h5]at h4;cases h4
 have b:xs.getD f 0≠0:=by intro e;rw[dW,eU h1,e]at h4;simp at h4
 refine⟨hm,hd,?_,?_⟩
 ·refine aD4 fun k=> ?_
  rw[dY h5 h4,dW,dW,hd];by_cases hk:k<xs.length
  ·rw[eU (by simpa using hk),eU hk];by_cases k1:k=f
   ·subst k1;rw[aK6,aK7 (by simpa using hk)];simp
   by_cases k2:k=t
   ·subst k2;rw[aK6,aLk (Ne.symm k1),aK7 hk];have e:(some (xs.getD f 0)).getD 0=xs.getD f 0:=rfl;rw[e];have d: ¬xs[f]?.getD 0=0:=by rw[←aK6];exact b
    simp[d,k1]
   rw[aK6,aLk (Ne.symm k1),aLk (Ne.symm k2),←aK6];simp[k1,k2]
  have e1:cL ((xs.set t (xs.getD f 0)).set f 0) k=false:=by unfold cL;rw[aLb (by simp;omega)];rfl
  have e2:cL xs k=false:=by unfold cL;rw[aLb (by omega)];rfl
  rw[e1,e2];have:k≠f:=by omega
  simp[this]
 intro c id hc h0;rw[hd];obtain⟨i,g⟩:=aK4.1 hc;unfold cY;by_cases hcf:f=c
 ·rw[if_pos hcf,aLk (by omega),aK7 h2,hcf,aK6,hc];rfl
 rw[if_neg hcf];have a:t≠c:=by rintro rfl;rw[dW,eU h2,aK6,hc]at h5;simp at h5;exact h0 h5
 rw[aLk hcf,aLk a,hc]
def kN (aA:Int)(n:Nat)(dd:Nat→Nat→Int)(s:Nat×Nat):Option (Nat×Nat):=(dQ aA n s.2).find? (fun e=>decide (dd (cY s.1 e.1 e.2) (cK s.2 e.1 e.2)=dd s.1 s.2-1))
def iN (s e:Nat×Nat):Nat×Nat:=(cY s.1 e.1 e.2,cK s.2 e.1 e.2)
def gP (aA:Int)(n:Nat)(dd:Nat→Nat→Int)(s:Nat×Nat):Nat→Nat×Nat
 |0=>s
 |j+1=>match kN aA n dd (gP aA n dd s j)with
  |none=>gP aA n dd s j
  |some e=>iN (gP aA n dd s j) e
def fI (aA:Int)(n:Nat)(dd:Nat→Nat→Int)(s:Nat×Nat)(j:Nat):Nat×Nat:=(kN aA n dd (gP aA n dd s j)).getD (0,0)
def aT (D:List Int)(c S:Nat):Int:=D.getD (c*MM+S) 0
structure mM (n many:Nat) (s:Nat×Nat):Prop where
 car:s.1<n
 set:s.2<2 ^ n
 occ:s.2.testBit s.1=false
 many:fO s.2=many
section
variable {aA:Int} {n many:Nat} {D:List Int}
theorem lW (hn:n≤12){s:Nat×Nat}(h:mM n many s):uO n MM (s.1*MM+s.2)∧(s.1*MM+s.2)/MM=s.1∧(s.1*MM+s.2)%MM=s.2:=by have hl:s.2<MM:=aK0 h.set (gG hn);have e1:(s.1*MM+s.2)/MM=s.1:=kH hl;have e2:(s.1*MM+s.2)%MM=s.2:=fQ hl;exact⟨⟨by rw[e1];exact h.car,by rw[e2];exact h.set,by rw[e1,e2];exact h.occ⟩,e1,e2⟩
theorem wN (hn:n≤12){s e:Nat×Nat}(h:mM n many s)(he:e∈dQ aA n s.2):oU aA n MM (s.1*MM+s.2) ((iN s e).1*MM+(iN s e).2)∧mM n many (iN s e):=by
 obtain⟨h1,h2,h3,h4,h5⟩:=eK.1 he;obtain⟨a,b,c⟩:=lW hn h;have hE:oU aA n MM (s.1*MM+s.2) ((iN s e).1*MM+(iN s e).2):=⟨e.1,e.2,h1,h2,h3,by rw[c];exact h4,by rw[c];exact h5,by rw[b,c];rfl⟩
 have hl:=pD h.set h1 h5 h4;have k:=pQ (gG hn) a hE;have k2:=nV (gG hn) a.set hE;have d:(iN s e).2<MM:=aK0 hl (gG hn);have e1:=k.car;have e2:=k.set;have e3:=k.occ;rw[kH d]at e1;rw[fQ d]at e2;rw[kH d,fQ d]at e3;rw[fQ d,c,h.many]at k2;exact⟨hE,e1,e2,e3,k2⟩
theorem qI (g:4≤n)(hn:n≤12)(hD:eD aA n many D){s:Nat×Nat}(h:mM n many s)(h0:0<aT D s.1 s.2): ∃e,kN aA n (aT D) s=some e∧e∈dQ aA n s.2∧aT D (iN s e).1 (iN s e).2=aT D s.1 s.2-1∧mM n many (iN s e):=by
 obtain⟨a,b,c⟩:=lW hn h;obtain⟨u,hu,hm,hd⟩:=hD.back _ (mS hn a) h0;have d:D.getD (s.1*MM+s.2) 0=aT D s.1 s.2:=rfl;obtain⟨k,hk⟩:=aKo (show 0≤D.getD u 0 by rw[hd,d];omega);obtain⟨u1,u2⟩:=aD2 g hn hD k u hu hk;obtain⟨f,t,h1,h2,h3,h4,h5,h6⟩:=vP (gG hn) u1 (lM.1 hm);rw[b,c]at h6;rw[c]at h4 h5;have he:(f,t)∈dQ aA n s.2:=eK.2 ⟨h1,h2,h3,h4,h5⟩;have hp:(fun e:Nat×Nat=>decide (aT D (cY s.1 e.1 e.2) (cK s.2 e.1 e.2)=aT D s.1 s.2-1)) (f,t)=true:=by simp only[decide_eq_true_eq];show D.getD (fG MM s.1 s.2 f t) 0=_;rw[←h6,hd,d]
 cases hf:kN aA n (aT D) s with
 |none=>unfold kN at hf;have:=List.find?_eq_none.1 hf _ he;exact absurd hp this
 |some e=>unfold kN at hf;have h7:=List.find?_some hf;have h8:=aLe hf;simp only[decide_eq_true_eq]at h7;exact⟨e,rfl,h8,h7,(wN hn h h8).2⟩
theorem aCv {dd:Nat→Nat→Int}{s:Nat×Nat}{j:Nat}{e:Nat×Nat}(h:kN aA n dd (gP aA n dd s j)=some e):gP aA n dd s (j+1)=iN (gP aA n dd s j) e:=by rw[gP,h]
theorem iG (c:4≤n)(hn:n≤12)(hD:eD aA n many D){s:Nat×Nat}(h:mM n many s){d:Nat}(hd:aT D s.1 s.2=d): ∀j,j≤d→mM n many (gP aA n (aT D) s j)∧aT D (gP aA n (aT D) s j).1 (gP aA n (aT D) s j).2=(d:Int)-j:=by
 intro j;induction j with
 |zero=>intro _;exact⟨h,by show aT D s.1 s.2=_;rw[hd];simp⟩
 |succ j ih=>intro hj;obtain⟨a,b⟩:=ih (by omega);obtain⟨e,h1,h2,h3,h4⟩:=qI c hn hD a (by rw[b];omega);rw[aCv h1];exact⟨h4,by rw[h3,b];omega⟩
theorem jF (c:4≤n)(hn:n≤12)(hD:eD aA n many D){s:Nat×Nat}(h:mM n many s){d:Nat}(hd:aT D s.1 s.2=d){j:Nat}(hj:j<d):kN aA n (aT D) (gP aA n (aT D) s j)=some (fI aA n (aT D) s j)∧fI aA n (aT D) s j∈dQ aA n (gP aA n (aT D) s j).2∧gP aA n (aT D) s (j+1)=iN (gP aA n (aT D) s j) (fI aA n (aT D) s j):=by
 obtain⟨a,b⟩:=iG c hn hD h hd j (by omega);obtain⟨e,h1,h2,h3,h4⟩:=qI c hn hD a (by rw[b];omega);have he:fI aA n (aT D) s j=e:=by unfold fI;rw[h1];rfl
 rw[he];exact⟨h1,h2,aCv h1⟩
theorem aH7 (c:4≤n)(hn:n≤12)(hD:eD aA n many D){s:Nat×Nat}(h:mM n many s){d:Nat}(hd:aT D s.1 s.2=d){j:Nat}(hj:j≤d):(gP aA n (aT D) s j).1=0↔j=d:=by
 obtain⟨a,b⟩:=iG c hn hD h hd j hj;obtain⟨k1,k2,k3⟩:=lW hn a;have hz:=hD.zero _ (mS hn k1);have hb:D.getD ((gP aA n (aT D) s j).1*MM+(gP aA n (aT D) s j).2) 0=(d:Int)-j:=b;rw[hb,iF]at hz;constructor
 ·intro h0
  have:=hz.2 (by
   rw[h0,Nat.zero_mul,aL4]
   exact⟨a.set,by have:=a.occ;rw[h0]at this;exact this,a.many⟩)
  omega
 intro e;have h1:=(hz.1 (by omega)).1;have hp:=gG hn;have h2:=Nat.div_eq_of_lt (aK0 h1 hp);rw[k2]at h2;exact h2
theorem uZ (g:4≤n)(hn:n≤12){E:List Int}(hD:eD aA n many D)(hE:eD aA n many E){s:Nat×Nat}(h:mM n many s)(h0:0<aT D s.1 s.2):kN aA n (aT D) s=kN aA n (aT E) s:=by
 unfold kN;have c: ∀s:Nat×Nat,mM n many s→(0≤aT D s.1 s.2↔0≤aT E s.1 s.2)∧(0≤aT D s.1 s.2→aT D s.1 s.2=aT E s.1 s.2):=fun s hs=>vR hD hE (mS hn (lW hn hs).1)
 have h1:=(c s h).2 (by omega);have d: ∀l:List (Nat×Nat),(∀e∈l,e∈dQ aA n s.2)→l.find? (fun e=>decide (aT D (cY s.1 e.1 e.2) (cK s.2 e.1 e.2)=aT D s.1 s.2-1))=l.find? (fun e=>decide (aT E (cY s.1 e.1 e.2) (cK s.2 e.1 e.2)=aT E s.1 s.2-1)):=by
  intro l;induction l with
  |nil=>intro _;rfl
  |cons e l ih=>
   intro hl;have hp:=(wN hn h (hl e (by simp))).2;obtain⟨a,b⟩:=c _ hp;have hh:decide (aT D (cY s.1 e.1 e.2) (cK s.2 e.1 e.2)=aT D s.1 s.2-1)=decide (aT E (cY s.1 e.1 e.2) (cK s.2 e.1 e.2)=aT E s.1 s.2-1):=by
    have a':0≤aT D (cY s.1 e.1 e.2) (cK s.2 e.1 e.2)↔0≤aT E (cY s.1 e.1 e.2) (cK s.2 e.1 e.2):=a;have b':0≤aT D (cY s.1 e.1 e.2) (cK s.2 e.1 e.2)→aT D (cY s.1 e.1 e.2) (cK s.2 e.1 e.2)=aT E (cY s.1 e.1 e.2) (cK s.2 e.1 e.2):=b;rw[←h1];by_cases hc:0≤aT D (cY s.1 e.1 e.2) (cK s.2 e.1 e.2)
    ·rw[b' hc]
    have f: ¬0≤aT E (cY s.1 e.1 e.2) (cK s.2 e.1 e.2):=fun x=>hc (a'.2 x)
    have d1: ¬(aT D (cY s.1 e.1 e.2) (cK s.2 e.1 e.2)=aT D s.1 s.2-1):=by omega
    have d2: ¬(aT E (cY s.1 e.1 e.2) (cK s.2 e.1 e.2)=aT D s.1 s.2-1):=by omega
    simp only[d1,d2]
   rw[List.find?_cons,List.find?_cons,hh,ih (fun x hx=>hl x (by simp[hx]))]
 exact d _ (fun e he=>he)
theorem aIn (c:4≤n)(hn:n≤12){E:List Int}(hD:eD aA n many D)(hE:eD aA n many E){s:Nat×Nat}(h:mM n many s){d:Nat}(hd:aT D s.1 s.2=d): ∀j,j≤d→gP aA n (aT D) s j=gP aA n (aT E) s j:=by
 intro j;induction j with
 |zero=>intro _;rfl
 |succ j ih=>intro hj;have e:=ih (by omega);obtain⟨a,b⟩:=iG c hn hD h hd j (by omega);have p:=uZ c hn hD hE a (by rw[b];omega);rw[gP,gP,←e,p]
theorem aC8 (c:4≤n)(hn:n≤12){E:List Int}(hD:eD aA n many D)(hE:eD aA n many E){s:Nat×Nat}(h:mM n many s){d:Nat}(hd:aT D s.1 s.2=d){j:Nat}(hj:j<d):fI aA n (aT D) s j=fI aA n (aT E) s j:=by obtain⟨a,b⟩:=iG c hn hD h hd j (by omega);unfold fI;rw[←aIn c hn hD hE h hd j (by omega),uZ c hn hD hE a (by rw[b];omega)]
end
end
end Go.Proofs.YtbgkcehffiogcaaGreatDoor
