/-
  Texts of this proof, packed (@packed).
-/
import Derived.Test.YtbgkcehffiogcacGreatDoorQ13
namespace Go.Proofs.YtbgkcehffiogcacGreatDoor
open Go.RowKit
set_option linter.unusedSimpArgs false
set_option linter.unusedVariables false
set_option maxHeartbeats 8000000
set_option maxRecDepth 100000
section
open Go.Proofs.Tryz
def pX (r:Option (List Int×List Sl2))(w:World)(e:Ending)(w':World):Prop:=
 match r with
 |none=> ∃v,e= .returned (.tuple #[v,.bool false])∧Ext w w'
 |some r=> ∃q c,e= .returned (.tuple #[.slice q r.2.length c,.bool true])∧w'.ownsRow w.heap.size TSL 2 (.slice q r.2.length c) r.2.length (r.2.flatMap aM)∧Ext w w'
theorem aJp (aA aB:Int)(p:OA)(n cap:Nat)(w:World)
  (HV:xB 48 #[aH aA aB p n cap] w true)
  (HN:xC 137 #[aH aA aB p n cap,(),(-1:Int)] w fun w' e w''=> ∃q c,e= .returned (.slice q 0 c)∧w''.ownsRow w' TI 1 (.slice q 0 c) 0 []∧Ext w' w''):
  U 101 #[aH aA aB p n cap] w (pX none w):=by
 go_enter func101,ntmps101;have ME:=(((Mem.start w).c0 TH3 #[aA,aB,.slice p n cap]).made0 TI 1 (w.heap.size+1) (by simp))
 go_wp2_with fail;refine Z (HV _ ME.ext) fun w1 b=>?_
 have M1:=(ME.adv b)
 clear ME b;obtain⟨f,g,h⟩:=(M1.bk 1).tri;go_wp2_with fail;clear f g h;refine(HN _ M1.ext).mono ?_;rintro e w2 ⟨qw,cw,rfl,a,d⟩;have M2:=(M1.call d a)
 clear M1 d a;have HX:=xQ (M2.ext);go_wp2;exact bodyPost_ret (v:= .tuple #[.slice (some ⟨w2,0,none⟩) 0 0,.bool false]) (by simp[results,results101,go_sem, *]) rfl ⟨_,rfl,by have:=HX.out;exact .alloc this _⟩
theorem aG7 (aA aB:Int)(p:OA)(n cap:Nat)(i:List Nat)(W:Nat)(r:List Int×List Sl2)(w:World)(h0:0<W)
  (HV:xB 48 #[aH aA aB p n cap] w true)
  (HN:xC 137 #[aH aA aB p n cap,(),(-1:Int)] w fun w' e w''=> ∃q c,e= .returned (.slice q W c)∧w''.ownsRow w' TI 1 (.slice q W c) W (ivs (bG i))∧Ext w' w'')
  (HS:Hid (∀w' q c,Ext w w'→Sl w' q W c 1 (ivs (bG i))→U 138 #[aH aA aB p n cap,.slice q W c] w' (iK r.2 w'))):
  U 101 #[aH aA aB p n cap] w (pX (some r) w):=by
 have t0:((W:Int)==0)=false:=by simp;omega
 go_enter func101,ntmps101;have ME:=(((Mem.start w).c0 TH3 #[aA,aB,.slice p n cap]).made0 TI 1 (w.heap.size+1) (by simp))
 go_wp2_with fail;refine Z (HV _ ME.ext) fun w1 g=>?_
 have M1:=(ME.adv g)
 clear ME g;obtain⟨a,b,d⟩:=(M1.bk 1).tri;go_wp2_with fail;clear a b d;refine(HN _ M1.ext).mono ?_;rintro e w2 ⟨qw,cw,rfl,f,h⟩;have M2:=(M1.call h f)
 clear M1 h f;obtain⟨a,b,d⟩:=(M2.bk 2).tri;go_wp2_with fail;clear a b d;have HH:=xQ (HS _ qw cw M2.ext (M2.sq 0));refine HH.out.mono ?_;rintro e w9 ⟨q9,c9,rfl,o9,j⟩;have HX:=xQ (M2.ext);go_wp2;exact bodyPost_ret (v:= .tuple #[.slice q9 r.2.length c9,.bool true]) (by simp[results,results101,go_sem, *]) rfl ⟨q9,c9,rfl,bJ o9 HX.out.sz,HX.out.trans j⟩
theorem zO (aA aB:Int)(p:OA)(n cap:Nat)(xs:List Int)(w:World)(hS:Sl w p n cap 1 (ivs xs))(a:aO aA aB xs=true):
  U 101 #[aH aA aB p n cap] w (pX (iJ aA xs) w):=by
 have hl:=hS.ilen;subst hl;have hg:=kI a;have HV: ∀w',Ext w w'→U 48 #[aH aA aB p xs.length cap] w' (O (.bool true) w'):=fun w' hy=>by have:=gJ aA aB p xs.length cap xs w' (hS.ext hy);rwa[a]at this
 unfold iJ;cases hn:dI aA (bP xs)with
 |none=>refine aJp aA aB p xs.length cap w HV (fun w' hy=> ?_);have:=qX aA aB p xs.length cap xs w' (hS.ext hy) a;rw[hn]at this;exact this
 |some u=>
  obtain⟨hu,b⟩:=kK ((kT aA _).2 u hn);obtain⟨k1,k2,k3⟩:=kQ hg hu;refine aG7 aA aB p xs.length cap (dH aA xs.length 12 u) _ (cI xs u (dH aA xs.length 12 u).tail) w k1 HV (fun w' hy=> ?_) (fun w' q c hy hL=>xZ aA aB p xs.length cap xs q _ c u w' (hS.ext hy) a hu b hL);have:=qX aA aB p xs.length cap xs w' (hS.ext hy) a;rw[hn]at this;refine this.mono fun e w'' h=> ?_
  obtain⟨q,c,h1,h2,h3⟩:=h;simp only[lR,aSg]at h1 h2;exact⟨q,c,h1,h2,h3⟩
def cK (aA aB:Int)(xs:List Int)(id:Int):List Int×Int:=
 match mJ aA aB xs id with
 |none=>(xs,-1)
 |some r=>(r.1,(r.2:Int))
theorem aB6 (aA aB id:Int)(p:OA)(n cap:Nat)(xs:List Int)(w:World)(f:Hid (xs.length=n))
  (HV:xB 48 #[aH aA aB p n cap] w true)
  (HC:xC 101 #[aH aA aB p n cap] w fun w' e w''=> ∃v,e= .returned (.tuple #[v,.bool false])∧Ext w' w'')
  (HL:xC 65 #[aH aA aB p n cap] w fun w' e w''=> ∃q c,e= .returned (aH aA aB q n c)∧w''.ownsRow w' TI 1 (.slice q n c) n (ivs xs)∧Ext w' w''):
  U 56 #[aH aA aB p n cap,id] w (cT aA aB xs (-1) w):=by
 go_enter func56,ntmps56;go_wp2_with fail;refine Z (HV _ (((Mem.start w).c0 TH3 #[aA,aB,.slice p n cap]).c1 TH3 #[(),(),((),())]).ext) fun w1 i=>?_
 have M1:=((((Mem.start w).c0 TH3 #[aA,aB,.slice p n cap]).c1 TH3 #[(),(),((),())]).adv i)
 clear i;obtain⟨a,b,d⟩:=(M1.bk 1).tri;go_wp2_with fail;clear a b d;refine(HC _ M1.ext).mono ?_;rintro e w2 ⟨v,rfl,j⟩;have M2:=(M1.adv j)
 clear M1 j;obtain⟨a,b,d⟩:=(M2.bk 1).tri;go_wp2_with fail;clear a b d;refine(HL _ M2.ext).mono ?_;rintro e w3 ⟨q0,c0,rfl,g,k⟩;have M3:=(M2.call k g)
 clear M2 k g;obtain⟨z0,l,z1,m,z2,o⟩:=(M3.bk 1).trif;go_wp2;clear z0 l z1 m z2 o;have M4:=(((M3.st 1 0 (I aA)).st 1 1 (I aB)).st 1 2 (.slice q0 n c0))
 generalize h:World.setCell _ _ _=wz;rw[h]at M4;clear h M3;obtain⟨r,s,t⟩:=(M4.bk 1).tri;exact bodyPost_ret (v:= .tuple #[.agg #[aA,aB,.slice q0 n c0],(-1:Int)]) (by simp[results,results56,go_sem, *]) rfl (eU f.out (M4.ow 0) M4.ext)
theorem aFo (aA aB id:Int)(p:OA)(n cap K:Nat)(xs ys zs:List Int)(sl:List Sl2)(w:World)(g:Hid (xs.length=n))
  (HV:xB 48 #[aH aA aB p n cap] w true)
  (HC:xC 101 #[aH aA aB p n cap] w fun w' e w''=> ∃q c,e= .returned (.tuple #[.slice q K c,.bool true])∧w''.ownsRow w' TSL 2 (.slice q K c) K (sl.flatMap aM)∧Ext w' w'')
  (HR:Hid (∀w' q c,Ext w w'→Sl w' q K c 2 (sl.flatMap aM)→U 102 #[aH aA aB p n cap,.slice q K c] w' fun e w''=> ∃q c,e= .returned (.tuple #[aH aA aB q n c,K])∧w''.ownsRow w' TI 1 (.slice q n c) n (ivs ys)∧Ext w' w''))
  (HP:Hid (∀w' q c,Ext w w'→Sl w' q n c 1 (ivs ys)→U 103 #[aH aA aB q n c,(),id] w' fun e w''=> ∃q c,e= .returned (.tuple #[aH aA aB q n c,.bool false])∧w''.ownsRow w' TI 1 (.slice q n c) n (ivs zs)∧Ext w' w''))
  (HL:xC 65 #[aH aA aB p n cap] w fun w' e w''=> ∃q c,e= .returned (aH aA aB q n c)∧w''.ownsRow w' TI 1 (.slice q n c) n (ivs xs)∧Ext w' w''):
  U 56 #[aH aA aB p n cap,id] w (cT aA aB xs (-1) w):=by
 go_enter func56,ntmps56;go_wp2_with fail;refine Z (HV _ (((Mem.start w).c0 TH3 #[aA,aB,.slice p n cap]).c1 TH3 #[(),(),((),())]).ext) fun w1 m=>?_
 have M1:=((((Mem.start w).c0 TH3 #[aA,aB,.slice p n cap]).c1 TH3 #[(),(),((),())]).adv m)
 clear m;obtain⟨a,b,d⟩:=(M1.bk 1).tri;go_wp2_with fail;clear a b d;refine(HC _ M1.ext).mono ?_;rintro e w2 ⟨qs,cs,rfl,h,o⟩;have M2:=(M1.call o h)
 clear M1 o h;obtain⟨a,b,d⟩:=(M2.bk 2).tri;go_wp2_with fail;clear a b d;refine(HR _ qs cs M2.ext (M2.sq 0)).mono ?_;rintro e w3 ⟨q1,c1,rfl,i,r⟩;have M3:=(M2.call r i)
 clear M2 r i;go_wp2_with fail;refine(HP _ q1 c1 (M3.c0 TH3 #[aA,aB,.slice q1 n c1]).ext ((M3.c0 TH3 #[aA,aB,.slice q1 n c1]).sq 1)).mono ?_;rintro e w4 ⟨q2,c2,rfl,j,s⟩;have M4:=((M3.c0 TH3 #[aA,aB,.slice q1 n c1]).call s j)
 clear M3 s j;have f:=M4.hi 5;obtain⟨a,b,d⟩:=(M4.bk 5).tri;go_wp2_with fail;clear a b d;refine(HL _ (M4.c0 TH3 #[aA,aB,.slice q2 n c2]).ext).mono ?_;rintro e w5 ⟨q0,c0,rfl,k,t⟩;have M5:=((M4.c0 TH3 #[aA,aB,.slice q2 n c2]).call t k)
 clear M4 f t k;obtain⟨z0,u,z1,x,z2,y⟩:=(M5.bk 6).trif;go_wp2;clear z0 u z1 x z2 y;have M6:=(((M5.st 6 0 (I aA)).st 6 1 (I aB)).st 6 2 (.slice q0 n c0))
 generalize l:World.setCell _ _ _=wz;rw[l]at M6;clear l M5;obtain⟨z,aa,ab⟩:=(M6.bk 6).tri;exact bodyPost_ret (v:= .tuple #[.agg #[aA,aB,.slice q0 n c0],(-1:Int)]) (by simp[results,results56,go_sem, *]) rfl (eU g.out (M6.ow 0) M6.ext)
theorem aD7 (aA aB id:Int)(p:OA)(n cap K:Nat)(ys zs:List Int)(sl:List Sl2)(w:World)(f:Hid (zs.length=n))
  (HV:xB 48 #[aH aA aB p n cap] w true)
  (HC:xC 101 #[aH aA aB p n cap] w fun w' e w''=> ∃q c,e= .returned (.tuple #[.slice q K c,.bool true])∧w''.ownsRow w' TSL 2 (.slice q K c) K (sl.flatMap aM)∧Ext w' w'')
  (HR:Hid (∀w' q c,Ext w w'→Sl w' q K c 2 (sl.flatMap aM)→U 102 #[aH aA aB p n cap,.slice q K c] w' fun e w''=> ∃q c,e= .returned (.tuple #[aH aA aB q n c,K])∧w''.ownsRow w' TI 1 (.slice q n c) n (ivs ys)∧Ext w' w''))
  (HP:Hid (∀w' q c,Ext w w'→Sl w' q n c 1 (ivs ys)→U 103 #[aH aA aB q n c,(),id] w' fun e w''=> ∃q c,e= .returned (.tuple #[aH aA aB q n c,.bool true])∧w''.ownsRow w' TI 1 (.slice q n c) n (ivs zs)∧Ext w' w'')):
  U 56 #[aH aA aB p n cap,id] w (cT aA aB zs (K:Int) w):=by
 go_enter func56,ntmps56;go_wp2_with fail;refine Z (HV _ (((Mem.start w).c0 TH3 #[aA,aB,.slice p n cap]).c1 TH3 #[(),(),((),())]).ext) fun w1 k=>?_
 have M1:=((((Mem.start w).c0 TH3 #[aA,aB,.slice p n cap]).c1 TH3 #[(),(),((),())]).adv k)
 clear k;obtain⟨a,b,d⟩:=(M1.bk 1).tri;go_wp2_with fail;clear a b d;refine(HC _ M1.ext).mono ?_;rintro e w2 ⟨qs,cs,rfl,g,l⟩;have M2:=(M1.call l g)
 clear M1 l g;obtain⟨a,b,d⟩:=(M2.bk 2).tri;go_wp2_with fail;clear a b d;refine(HR _ qs cs M2.ext (M2.sq 0)).mono ?_;rintro e w3 ⟨q1,c1,rfl,h,m⟩;have M3:=(M2.call m h)
 clear M2 m h;go_wp2_with fail;refine(HP _ q1 c1 (M3.c0 TH3 #[aA,aB,.slice q1 n c1]).ext ((M3.c0 TH3 #[aA,aB,.slice q1 n c1]).sq 1)).mono ?_;rintro e w4 ⟨q2,c2,rfl,i,o⟩;have M4:=((M3.c0 TH3 #[aA,aB,.slice q1 n c1]).call o i)
 clear M3 o i;have r:=M4.hi 4;obtain⟨z0,s,z1,t,z2,u⟩:=(M4.bk 4).trif;go_wp2;clear z0 s z1 t z2 u;have M5:=((((M4.st 4 0 (I aA)).st 4 1 (I aB)).st 4 2 (.slice q2 n c2)).bn TH3 #[aA,aB,.slice q2 n c2] w4)
 generalize j:World.alloc _ _=wz;rw[j]at M5;clear j M4;obtain⟨x,y,z⟩:=(M5.bk 5).tri;exact bodyPost_ret (v:= .tuple #[.agg #[aA,aB,.slice q2 n c2],K]) (by simp[results,results56,go_sem, *]) rfl (eU f.out (M5.ow 1) M5.ext)
theorem mR (aA aB:Int)(xs:List Int)(id:Int):(cZ aA aB xs id).1.length=xs.length:=by unfold cZ;split<;>simp
theorem aD4 (aA aB id:Int)(p:OA)(n cap:Nat)(xs:List Int)(w:World)(hS:Sl w p n cap 1 (ivs xs))(a:aO aA aB xs=true):
  U 56 #[aH aA aB p n cap,id] w (cT aA aB (cK aA aB xs id).1 (cK aA aB xs id).2 w):=by
 have hl:=hS.ilen;subst hl;obtain⟨g1,g2,g3,g4,g5,g6,g7⟩:=cE (cQ a);have HV: ∀w',Ext w w'→U 48 #[aH aA aB p xs.length cap] w' (O (.bool true) w'):=fun w' hy=>by have:=gJ aA aB p xs.length cap xs w' (hS.ext hy);rwa[a]at this
 have HL:=fun(w':World) (hy:Ext w w')=>fW aA aB p xs.length cap xs w' (by omega) (hS.ext hy)
 have HC:=fun(w':World) (hy:Ext w w')=>zO aA aB p xs.length cap xs w' (hS.ext hy) a
 cases hr:iJ aA xs with
 |none=>
  have e:cK aA aB xs id=(xs,-1):=by unfold cK mJ;rw[hr]
  rw[e];rw[hr]at HC;exact aB6 aA aB id p xs.length cap xs w rfl HV HC HL
 |some r=>
  rw[hr]at HC;obtain⟨f1,f2,f3,f4,f5⟩:=pQ a hr;have HR: ∀w' q c,Ext w w'→Sl w' q r.2.length c 2 (r.2.flatMap aM)→U 102 #[aH aA aB p xs.length cap,.slice q r.2.length c] w' fun e w''=> ∃q c,e= .returned (.tuple #[aH aA aB q xs.length c,(r.2.length:Int)])∧w''.ownsRow w' TI 1 (.slice q xs c) xs.length (ivs r.1)∧Ext w' w'':=fun w' q c hy hL=>by have:=rY aA aB p xs.length cap xs q r.2.length c r.2 w' (by omega) (hS.ext hy) hL a;rw[f1]at this;unfold cT at this;dsimp only at this;rw[f3]at this;exact this
  have HP: ∀w' q c,Ext w w'→Sl w' q xs.length c 1 (ivs r.1)→U 103 #[aH aA aB q xs.length c,(),id] w' fun e w''=> ∃q c,e= .returned (.tuple #[aH aA aB q xs.length c,.bool (cZ aA aB r.1 id).2])∧w''.ownsRow w' TI 1 (.slice q xs c) xs.length (ivs (cZ aA aB r.1 id).1)∧Ext w' w'':=fun w' q c hy hL=>by have:=aEw aA aB id q xs.length c r.1 w' hL f2;unfold cW at this;rw[mR,f3]at this;exact this
  cases hb:(cZ aA aB r.1 id).2 with
  |false=>
   have e:cK aA aB xs id=(xs,-1):=by simp[cK,mJ,hr,hb]
   rw[e];rw[hb]at HP;exact aFo aA aB id p xs.length cap r.2.length xs r.1 (cZ aA aB r.1 id).1 r.2 w rfl HV HC HR HP HL
  |true=>
   have e:cK aA aB xs id=((cZ aA aB r.1 id).1,(r.2.length:Int)):=by simp[cK,mJ,hr,hb]
   rw[e];rw[hb]at HP;exact aD7 aA aB id p xs.length cap r.2.length r.1 (cZ aA aB r.1 id).1 r.2 w (show _=_ by rw[mR,f3]) HV HC HR HP
end
def gZ:Nat→Nat
 |0=>0
 |n+1=>(n+1)%2+gZ ((n+1)/2)
decreasing_by omega
theorem sF (n:Nat):gZ n=n%2+gZ (n/2):=by
 cases n with
 |zero=>rw[gZ]
 |succ n=>rw[gZ]
theorem wF: ∀(f S:Nat),S.testBit f=false→ ∀k,(S+2 ^ f).testBit k=(S.testBit k || decide (k=f)):=by
 intro f;induction f with
 |zero=>
  intro S h k;rw[aTq]at h;have h0:S%2=0:=by simp at h;omega
  cases k with
  |zero=>rw[aTq,aTq];simp;omega
  |succ k=>rw[aTz,aTz,show(S+2 ^ 0)/2=S/2 by simp;omega];simp
 |succ f ih=>
  intro S h k;rw[aTz]at h;have e:(S+2 ^ (f+1))/2=S/2+2 ^ f:=by rw[Nat.pow_succ];omega
  cases k with
  |zero=>rw[aTq,aTq];simp[Nat.pow_succ]<;>omega
  |succ k=>rw[aTz,aTz,e,ih _ h];simp
theorem wY: ∀(f S:Nat),S.testBit f=false→gZ (S+2 ^ f)=gZ S+1:=by
 intro f;induction f with
 |zero=>
  intro S h;rw[aTq]at h;have h0:S%2=0:=by simp at h;omega
  rw[sF (S+2 ^ 0),sF S,show(S+2 ^ 0)/2=S/2 by simp;omega];simp;omega
 |succ f ih=>
  intro S h;rw[aTz]at h;have e:(S+2 ^ (f+1))/2=S/2+2 ^ f:=by rw[Nat.pow_succ];omega
  rw[sF (S+2 ^ (f+1)),sF S,e,ih _ h];have:(S+2 ^ (f+1))%2=S%2:=by rw[Nat.pow_succ];omega
  omega
theorem aL9: ∀(t S:Nat),S.testBit t=true→ ∃R,S=R+2 ^ t∧R.testBit t=false:=by
 intro t;induction t with
 |zero=>
  intro S h;rw[aTq]at h;have h0:S%2=1:=by simpa using h
  exact⟨S-1,by simp;omega,by rw[aTq];simp;omega⟩
 |succ t ih=>intro S h;rw[aTz]at h;obtain⟨R,h1,h2⟩:=ih _ h;refine⟨2*R+S%2,by rw[Nat.pow_succ];omega,?_⟩;rw[aTz,show(2*R+S%2)/2=R by omega];exact h2
theorem wE {t S:Nat}(h:S.testBit t=true):2 ^ t≤S∧(∀k,(S-2 ^ t).testBit k=(S.testBit k&& !decide (k=t)))∧gZ S=gZ (S-2 ^ t)+1:=by
 obtain⟨R,rfl,h2⟩:=aL9 t S h;rw[aU4];refine⟨Nat.le_add_left _ _,fun k=> ?_,wY _ _ h2⟩;rw[wF _ _ h2];by_cases hk:k=t
 ·subst hk;simp[h2]
 simp[hk]
def dC (S f t:Nat):Nat:=S-2 ^ t+2 ^ f
theorem eV {S f t:Nat}(ht:S.testBit t=true)(hf:S.testBit f=false)(k:Nat):(dC S f t).testBit k=(decide (k=f) || (S.testBit k&& !decide (k=t))):=by obtain⟨a,b,c⟩:=wE ht;unfold dC;rw[wF _ _ (by rw[b,hf];rfl),b];cases S.testBit k<;>cases decide (k=f)<;>cases decide (k=t)<;>rfl
theorem aGr {S f t:Nat}(ht:S.testBit t=true)(hf:S.testBit f=false):gZ (dC S f t)=gZ S:=by obtain⟨a,b,c⟩:=wE ht;unfold dC;rw[wY _ _ (by rw[b,hf];rfl),c]
theorem aIr {a b:Nat}(h: ∀k,a.testBit k=b.testBit k):a=b:=aU6 h
theorem aPg {n a:Nat}(h: ∀k,n≤k→a.testBit k=false):a<2 ^ n:=Nat.lt_pow_two_of_testBit a h
theorem uK {n a:Nat}(h:a<2 ^ n){k:Nat}(hk:n≤k):a.testBit k=false:=Nat.testBit_lt_two_pow (aRo h (aS0 (by omega) hk))
theorem sI {n S f t:Nat}(hS:S<2 ^ n)(a:f<n)(ht:S.testBit t=true)(hf:S.testBit f=false):dC S f t<2 ^ n:=by
 refine aPg fun k hk=> ?_
 rw[eV ht hf,uK hS hk];have:k≠f:=by omega
 simp[this]
theorem aGs {S f t:Nat}(ht:S.testBit t=true)(hf:S.testBit f=false):dC (dC S f t) t f=S:=by
 have a:f≠t:=fun e=>by subst e;rw[ht]at hf;cases hf
 refine aIr fun k=> ?_
 rw[eV (by rw[eV ht hf];simp) (by rw[eV ht hf];simp[Ne.symm a]),eV ht hf];by_cases h1:k=t
 ·subst h1;simp[ht]
 by_cases h2:k=f
 ·subst h2;simp[h1,hf]
 simp[h1,h2]
def jM (p:Nat→Bool):Nat→Nat
 |0=>0
 |k+1=>jM p k+(if p k then 2 ^ k else 0)
theorem qE (p:Nat→Bool)(k:Nat):jM p k<2 ^ k:=by
 induction k with
 |zero=>simp[jM]
 |succ k ih=>unfold jM;rw[Nat.pow_succ];split<;>omega
theorem aMj (p:Nat→Bool)(k j:Nat):(jM p k).testBit j=(decide (j<k)&&p j):=by
 induction k with
 |zero=>simp[jM]
 |succ k ih=>
  have hk:(jM p k).testBit k=false:=uK (qE p k) (aRp _);unfold jM;cases hp:p k with
  |false=>
   simp only[Bool.false_eq_true,if_false,Nat.add_zero];rw[ih];by_cases h:j=k
   ·subst h;simp[hp]
   have:(j<k+1)↔j<k:=by omega
   simp[this]
  |true=>
   simp only[if_true];rw[wF _ _ hk,ih];by_cases h:j=k
   ·subst h;simp[hp]
   have:(j<k+1)↔j<k:=by omega
   simp[this,h]
theorem aJs (p:Nat→Bool)(k:Nat):gZ (jM p k)=((List.range k).filter p).length:=by
 induction k with
 |zero=>simp[jM,gZ]
 |succ k ih=>
  have hk:(jM p k).testBit k=false:=uK (qE p k) (aRp _);rw[aTc,aSl,aRx,←ih,show jM p (k+1)=jM p k+(if p k then 2 ^ k else 0)from rfl];cases hp:p k with
  |false=>simp[hp]
  |true=>simp only[if_true];rw[wY _ _ hk];simp[hp]
def aN (xs:List Int):Nat:=jM (cX xs) xs.length
theorem eT (xs:List Int)(k:Nat):(aN xs).testBit k=cX xs k:=by
 unfold aN;rw[aMj];by_cases h:k<xs.length
 ·simp[h]
 have:cX xs k=false:=by unfold cX;rw[aSu (by omega)];rfl
 rw[this];simp
theorem oH (xs:List Int):aN xs<2 ^ xs.length:=qE _ _
theorem aCk (xs:List Int):gZ (aN xs)=(bP xs).length:=aJs _ _
section
def eO (aA:Int)(n S:Nat):List (Nat×Nat):=(List.range n).flatMap fun f=>if S.testBit f then []else((aS aA n f).filter (fun t=>S.testBit t)).map (fun t=>(f,t))
theorem fN {aA:Int}{n S:Nat}{e:Nat×Nat}:e∈eO aA n S↔e.1<n∧e.2<n∧e.2∈aS aA n e.1∧S.testBit e.1=false∧S.testBit e.2=true:=by
 obtain⟨f,t⟩:=e;simp only[eO,List.mem_flatMap,aS7];constructor
 ·rintro⟨a,ha,hm⟩;cases hb:S.testBit a with
  |true=>rw[hb]at hm;simp at hm
  |false=>rw[hb]at hm;simp only[Bool.false_eq_true,if_false,List.mem_map,aSi]at hm;obtain⟨x,⟨h1,h2⟩,h3⟩:=hm;injection h3 with h3 h4;subst h3 h4;exact⟨ha,(bU.1 h1).1,h1,hb,h2⟩
 rintro⟨h1,h2,h3,h4,h5⟩;refine⟨f,h1,?_⟩;rw[h4];simp only[Bool.false_eq_true,if_false,List.mem_map,aSi];exact⟨t,⟨h3,h5⟩,rfl⟩
def dS (c f t:Nat):Nat:=if f=c then t else c
def gM (M c S f t:Nat):Nat:=dS c f t*M+dC S f t
def oK (aA:Int)(n M s:Nat):List Nat:=(eO aA n (s%M)).map (fun e=>gM M (s/M) (s%M) e.1 e.2)
def yQ (aA:Int)(n M s:Nat):List Nat:=(List.range n).flatMap fun h=>if(s%M).testBit h then((aS aA n h).filter (fun f=> !(s%M).testBit f)).map (fun f=>gM M (s/M) (s%M) f h)else []
def rP (aA:Int)(n M s v:Nat):Prop:= ∃f t,f<n∧t<n∧t∈aS aA n f∧(s%M).testBit f=false∧(s%M).testBit t=true∧v=gM M (s/M) (s%M) f t
theorem pV {aA:Int}{n M s v:Nat}:v∈oK aA n M s↔rP aA n M s v:=by
 unfold oK rP;rw[List.mem_map];constructor
 ·rintro⟨⟨f,t⟩,h,rfl⟩;obtain⟨h1,h2,h3,h4,h5⟩:=fN.1 h;exact⟨f,t,h1,h2,h3,h4,h5,rfl⟩
 rintro⟨f,t,h1,h2,h3,h4,h5,rfl⟩;exact⟨(f,t),fN.2 ⟨h1,h2,h3,h4,h5⟩,rfl⟩
theorem nM {aA:Int}{n M s v:Nat}:v∈yQ aA n M s↔rP aA n M s v:=by
 unfold yQ rP;rw[List.mem_flatMap];constructor
 ·rintro⟨h,hh,hm⟩;rw[aS7]at hh;cases hb:(s%M).testBit h with
  |false=>rw[hb]at hm;simp at hm
  |true=>rw[hb]at hm;simp only[if_true,List.mem_map,aSi,Bool.not_eq_true']at hm;obtain⟨f,⟨h1,h2⟩,rfl⟩:=hm;exact⟨f,h,(bU.1 h1).1,hh,gE hh h1,h2,hb,rfl⟩
 rintro⟨f,t,h1,h2,h3,h4,h5,rfl⟩;refine⟨t,aS7.2 h2,?_⟩;rw[h5];simp only[if_true,List.mem_map,aSi,Bool.not_eq_true'];exact⟨f,⟨gE h1 h3,h4⟩,rfl⟩
structure zQ (n M s:Nat):Prop where
 car:s/M<n
 set:s%M<2 ^ n
 occ:(s%M).testBit (s/M)=false
theorem mG {M c S:Nat}(h:S<M):(c*M+S)/M=c:=by rw[Nat.mul_comm,Nat.mul_add_div (by omega),Nat.div_eq_of_lt h,Nat.add_zero]
theorem iC {M c S:Nat}(h:S<M):(c*M+S)%M=S:=by rw[Nat.mul_comm,Nat.mul_add_mod,Nat.mod_eq_of_lt h]
theorem aFb {n c f t:Nat}(hc:c<n)(ht:t<n):dS c f t<n:=by unfold dS;split<;>omega
theorem lN {aA:Int}{n M s v:Nat}(hM:2 ^ n≤M)(hS:s%M<2 ^ n)(h:rP aA n M s v): ∃f t,f<n∧t<n∧t∈aS aA n f∧(s%M).testBit f=false∧(s%M).testBit t=true∧v/M=dS (s/M) f t∧v%M=dC (s%M) f t∧dC (s%M) f t<2 ^ n:=by obtain⟨f,t,h1,h2,h3,h4,h5,rfl⟩:=h;have hl:=sI hS h1 h5 h4;exact⟨f,t,h1,h2,h3,h4,h5,mG (by omega),iC (by omega),hl⟩
theorem aIm {aA:Int}{n M s v:Nat}(hM:2 ^ n≤M)(hc:s/M<n)(hS:s%M<2 ^ n)(h:rP aA n M s v):v/M<n∧v%M<2 ^ n:=by obtain⟨f,t,h1,h2,h3,h4,h5,h6,h7,h8⟩:=lN hM hS h;exact⟨by rw[h6];exact aFb hc h2,by rw[h7];exact h8⟩
theorem sY {aA:Int}{n M s v:Nat}(hM:2 ^ n≤M)(hs:zQ n M s)(h:rP aA n M s v):zQ n M v:=by
 obtain⟨a,b⟩:=aIm hM hs.car hs.set h;obtain⟨f,t,h1,h2,h3,h4,h5,h6,h7,h8⟩:=lN hM hs.set h;refine⟨a,b,?_⟩;rw[h6,h7,eV h5 h4];unfold dS;have c:f≠t:=fun e=>by subst e;rw[h5]at h4;cases h4
 split
 ·simp[Ne.symm c]
 have:=hs.occ;have h9:s/M≠f:=fun e=>by omega
 simp[this,h9]
theorem qO {aA:Int}{n M s v:Nat}(hM:2 ^ n≤M)(hS:s%M<2 ^ n)(h:rP aA n M s v):gZ (v%M)=gZ (s%M):=by obtain⟨f,t,h1,h2,h3,h4,h5,h6,h7,h8⟩:=lN hM hS h;rw[h7,aGr h5 h4]
theorem aAn {aA:Int}{n M s v:Nat}(hM:2 ^ n≤M)(hs:zQ n M s)(h:rP aA n M s v):rP aA n M v s:=by
 obtain⟨f,t,h1,h2,h3,h4,h5,h6,h7,h8⟩:=lN hM hs.set h;have b:f≠t:=fun e=>by subst e;rw[h5]at h4;cases h4
 refine⟨t,f,h2,h1,gE h1 h3,by rw[h7,eV h5 h4];simp[Ne.symm b],by rw[h7,eV h5 h4];simp,?_⟩;have a:dS (v/M) t f=s/M:=by
  rw[h6];unfold dS;by_cases hf:f=s/M
  ·simp[hf]
  have ht: ¬t=s/M:=fun e=>by have:=hs.occ;rw[←e,h5]at this;cases this
  simp[hf,ht]
 unfold gM;rw[a,h7,aGs h5 h4];rw[Nat.mul_comm];exact(aU1 s M).symm
def aQg:List ((Int×Nat)×List Nat):= [
 ((2,4),[0,0,0,0,1,0,2,3,1,2,0,3,5,4,4,0]),
 ((2,6),[0,0,0,0,0,0,1,0,2,3,3,4,1,2,0,3,5,4,5,4,4,0,5,6,7,8,6,7,0,8,9,8,8,7,9,0]),
 ((3,6),[0,0,0,0,0,0,1,0,5,2,3,4,7,6,0,8,7,8,1,2,3,0,3,4,5,4,5,4,0,6,9,8,9,8,7,0]),
 ((3,9),[0,0,0,0,0,0,0,0,0,1,0,5,2,3,4,3,4,5,7,6,0,8,7,8,9,8,9,1,2,3,0,3,4,5,4,5,5,4,5,4,0,6,5,6,7,9,8,9,8,7,0,9,8,9,7,8,9,6,7,8,0,8,9,9,8,9,8,7,8,9,0,9,13,12,11,12,11,10,11,10,0]),
 ((4,8),[0,0,0,0,0,0,0,0,1,0,5,6,2,3,4,5,7,6,0,10,8,7,8,9,13,12,11,0,14,13,12,13,1,2,3,4,0,3,4,5,5,4,5,6,4,0,6,7,9,8,9,10,8,7,0,11,15,14,13,14,14,13,12,0]),
 ((4,12),[0,0,0,0,0,0,0,0,0,0,0,0,1,0,5,6,2,3,4,5,3,4,5,6,7,6,0,10,8,7,8,9,9,8,9,10,13,12,11,0,14,13,12,13,15,14,13,14,1,2,3,4,0,3,4,5,5,4,5,6,5,4,5,6,4,0,6,7,5,6,7,8,9,8,9,10,8,7,0,11,9,8,9,10,15,14,13,14,14,13,12,0,15,14,13,14,7,8,9,10,6,7,8,9,0,8,9,10,9,8,9,10,8,7,8,9,9,0,9,10,13,12,11,12,12,11,10,11,11,10,0,12,17,16,15,16,16,15,14,15,15,14,13,0])]
def pot (aA:Int)(n c h:Nat):Nat:=((aQg.find? (fun g=>g.1==(aA,n))).map (fun g=>g.2.getD (c*n+h) 0)).getD 0
def aRb (aA:Int)(n:Nat):Bool:=(List.range n).all fun c=>(List.range n).all fun h=>decide (pot aA n c h≤60)&&(c==0 || c==h || (aS aA n h).any fun t=>decide (pot aA n (if t=c then h else c) t<pot aA n c h))
theorem aP7:(jI.all fun g=>aRb g.1 g.2)=true:=by decide+kernel
theorem wX {aA:Int}{n c h:Nat}(hg:(aA,n)∈jI)(hc:c<n)(hh:h<n):pot aA n c h≤60∧(c≠0→c≠h→ ∃t,t∈aS aA n h∧pot aA n (if t=c then h else c) t<pot aA n c h):=by
 have h1:=aSp.1 aP7 _ hg;have h2:=aSp.1 (aSp.1 h1 c (aS7.2 hc)) h (aS7.2 hh);simp only[aRy,Bool.or_eq_true,decide_eq_true_eq,beq_iff_eq,List.any_eq_true]at h2;refine⟨h2.1,fun a b=> ?_⟩;rcases h2.2 with(h3|h3)|⟨t,h3,h4⟩
 ·exact absurd h3 a
 ·exact absurd h3 b
 exact⟨t,h3,h4⟩
def wM (n many:Nat):List Nat:=(List.range (2 ^ n)).filter (fun s=> !s.testBit 0&&decide (gZ s=many))
theorem jQ {n many s:Nat}:s∈wM n many↔s<2 ^ n∧s.testBit 0=false∧gZ s=many:=by simp[wM]
section
variable {aA:Int} {n many:Nat} {D:List Int}
abbrev MM:Nat:=4096
abbrev NN:Nat:=49152
abbrev fA (aA:Int)(n many:Nat)(D:List Int):Prop:=tG (yQ aA n MM) (wM n many) NN D
theorem iQ (hn:n≤12):2 ^ n≤MM:=aS0 (n:=2) (by omega) hn
theorem pA (hn:n≤12){s:Nat}(h:zQ n MM s):s<NN:=by have h1:=h.car;have h2:=aU1 s MM;have h3:s%MM<MM:=Nat.mod_lt _ (by decide);show s<49152;have:s/4096<n:=h1;omega
theorem aQk {s:Nat}(h:s<NN):s/MM<12:=by have:s<49152:=h;show s/4096<12;omega
theorem aIo (c:4≤n)(hn:n≤12)(hD:fA aA n many D): ∀(k s:Nat),s<NN→D.getD s 0=k→zQ n MM s∧gZ (s%MM)=many:=by
 intro k;induction k with
 |zero=>intro s hs h0;have hm:=(hD.zero s hs).1 (by omega);obtain⟨h1,h2,h3⟩:=jQ.1 hm;have h4:=iQ hn;have h5:s%MM=s:=Nat.mod_eq_of_lt (by omega);have h6:s/MM=0:=Nat.div_eq_of_lt (by omega);exact⟨⟨by rw[h6];omega,by rw[h5];exact h1,by rw[h5,h6];exact h2⟩,by rw[h5];exact h3⟩
 |succ k ih=>intro s hs h0;obtain⟨u,hu,hv,hd⟩:=hD.back s hs (by omega);obtain⟨a,b⟩:=ih u hu (by omega);have he:=nM.1 hv;exact⟨sY (iQ hn) a he,by rw[qO (iQ hn) a.set he];exact b⟩
theorem aAt (b:4≤n)(hn:n≤12)(hD:fA aA n many D){s v:Nat}(hs:zQ n MM s)(he:rP aA n MM s v):(0≤D.getD s 0↔0≤D.getD v 0)∧(0≤D.getD s 0→D.getD s 0≤D.getD v 0+1∧D.getD v 0≤D.getD s 0+1):=by
 have hv:=sY (iQ hn) hs he;have a:=aAn (iQ hn) hs he;have l1:=pA hn hs;have l2:=pA hn hv;have e1:=fun h=>hD.edge s v l1 h (nM.2 he)
 have e2:=fun h=>hD.edge v s l2 h (nM.2 a)
 exact⟨⟨fun h=>(e1 h).1,fun h=>(e2 h).1⟩,fun h=>⟨(e2 (e1 h).1).2,(e1 h).2⟩⟩
theorem aOb (hg:(aA,n)∈jI)(i:4≤n)(hn:n≤12)(hD:fA aA n many D): ∀(P s h:Nat),pot aA n (s/MM) h≤P→zQ n MM s→gZ (s%MM)=many→(s%MM).testBit h=true→0≤D.getD s 0∧D.getD s 0≤pot aA n (s/MM) h:=by
 intro P;induction P with
 |zero=>
  intro s h hP hs hm hh;by_cases h0:s/MM=0
  ·have h1:s=s%MM:=by have:=aU1 s MM;rw[h0]at this;omega
   have:D.getD s 0=0:=(hD.zero s (pA hn hs)).2 (jQ.2 ⟨by rw[h1];exact hs.set,by rw[h1,←h0];exact hs.occ,by rw[h1];exact hm⟩);rw[this];exact⟨Int.le_refl _,by omega⟩
  have c:h<n:=by
   rcases Nat.lt_or_ge h n with h1|h1
   ·exact h1
   rw[uK hs.set h1]at hh;cases hh
  obtain⟨t,ht,d⟩:=(wX hg hs.car c).2 h0 (fun e=>by rw[←e,hs.occ]at hh;cases hh);omega
 |succ P ih=>
  intro s h hP hs hm hh;by_cases h0:s/MM=0
  ·have h1:s=s%MM:=by have:=aU1 s MM;rw[h0]at this;omega
   have:D.getD s 0=0:=(hD.zero s (pA hn hs)).2 (jQ.2 ⟨by rw[h1];exact hs.set,by rw[h1,←h0];exact hs.occ,by rw[h1];exact hm⟩);rw[this];exact⟨Int.le_refl _,by omega⟩
  have c:h<n:=by
   rcases Nat.lt_or_ge h n with h1|h1
   ·exact h1
   rw[uK hs.set h1]at hh;cases hh
  obtain⟨t,ht,d⟩:=(wX hg hs.car c).2 h0 (fun e=>by rw[←e,hs.occ]at hh;cases hh);have g:=(bU.1 ht).1;cases hb:(s%MM).testBit t with
  |true=>
   have f:t≠s/MM:=fun e=>by rw[e,hs.occ]at hb;cases hb
   rw[if_neg f]at d;obtain⟨a,b⟩:=ih s t (by omega) hs hm hb;exact⟨a,by omega⟩
  |false=>
   have he:rP aA n MM s (gM MM (s/MM) (s%MM) t h):=⟨t,h,g,c,gE c ht,hb,hh,rfl⟩
   obtain⟨f',t',k1,k2,k3,k4,k5,k6,k7,k8⟩:=lN (iQ hn) hs.set he;have hl:=sI hs.set g hh hb;have e1:gM MM (s/MM) (s%MM) t h/MM=dS (s/MM) t h:=mG (aRo hl (iQ hn));have e2:gM MM (s/MM) (s%MM) t h%MM=dC (s%MM) t h:=iC (aRo hl (iQ hn));have j:=sY (iQ hn) hs he;have k:=qO (iQ hn) hs.set he;have f:t≠h:=fun e=>by subst e;rw[hh]at hb;cases hb
   have hp:pot aA n (gM MM (s/MM) (s%MM) t h/MM) t=pot aA n (if t=s/MM then h else s/MM) t:=by rw[e1];rfl
   obtain⟨a,b⟩:=ih _ t (by rw[hp];omega) j (by rw[k];exact hm) (by rw[e2,eV hh hb];simp);rw[hp]at b;obtain⟨c1,c2⟩:=aAt i hn hD hs he;have c3:=c1.2 a;have:=c2 c3;exact⟨c3,by omega⟩
theorem aQ3 {adj:Nat→List Nat}{src:List Nat}{N:Nat}{D E:List Int}(hD:tG adj src N D)(hE:tG adj src N E): ∀(k v:Nat),v<N→D.getD v 0=k→0≤E.getD v 0∧E.getD v 0≤k:=by
 intro k;induction k with
 |zero=>intro v hv h;have:E.getD v 0=0:=(hE.zero v hv).2 ((hD.zero v hv).1 (by omega));rw[this];simp
 |succ k ih=>intro v hv h;obtain⟨u,hu,hm,hd⟩:=hD.back v hv (by omega);obtain⟨a,b⟩:=ih u hu (by omega);obtain⟨c,d⟩:=hE.edge u v hu a hm;exact⟨c,by omega⟩
theorem aAr {adj:Nat→List Nat}{src:List Nat}{N:Nat}{D E:List Int}(hD:tG adj src N D)(hE:tG adj src N E){v:Nat}(hv:v<N):(0≤D.getD v 0↔0≤E.getD v 0)∧(0≤D.getD v 0→D.getD v 0=E.getD v 0):=by
 have h1: ∀(A B:List Int),tG adj src N A→tG adj src N B→0≤A.getD v 0→0≤B.getD v 0∧B.getD v 0≤A.getD v 0:=by intro A B hA hB h;obtain⟨k,hk⟩:=aTk h;have:=aQ3 hA hB k v hv hk;rw[hk];exact this
 refine⟨⟨fun h=>(h1 D E hD hE h).1,fun h=>(h1 E D hE hD h).1⟩,fun h=> ?_⟩;obtain⟨a,b⟩:=h1 D E hD hE h;obtain⟨c,d⟩:=h1 E D hE hD a;omega
def jB (N:Nat)(src:List Nat):List Int:=src.foldl (fun A v=>A.set v 0) (List.replicate N (-1))
theorem aGb (N:Nat)(src:List Nat)(v:Nat):jB N (src++ [v])=(jB N src).set v 0:=by simp[jB]
theorem zZ (N:Nat)(src:List Nat):(jB N src).length=N:=by
 unfold jB
 suffices h: ∀(l:List Nat) (A:List Int),(l.foldl (fun A v=>A.set v 0) A).length=A.length by rw[h];simp
 intro l;induction l with
 |nil=>intro A;rfl
 |cons x l ih=>intro A;simp only[List.foldl_cons];rw[ih];simp
theorem aA0 (N:Nat)(src:List Nat)(v:Nat)(hv:v<N):(v∈src→(jB N src).getD v 0=0)∧(v∉src→(jB N src).getD v 0= -1):=by
 unfold jB
 suffices h: ∀(l:List Nat) (A:List Int),A.length=N→(v∈l→(l.foldl (fun A v=>A.set v 0) A).getD v 0=0)∧(v∉l→(l.foldl (fun A v=>A.set v 0) A).getD v 0=A.getD v 0) by obtain⟨a,b⟩:=h src (List.replicate N (-1)) (by simp);exact⟨a,fun h=>by rw[b h];simp[List.getD,hv]⟩
 intro l;induction l with
 |nil=>intro A _;simp
 |cons x l ih=>
  intro A hA;simp only[List.foldl_cons];obtain⟨a,b⟩:=ih (A.set x 0) (by simpa using hA);constructor
  ·intro hm;by_cases hl:v∈l
   ·exact a hl
   have:v=x:=by simpa[hl]using hm
   subst this;rw[b hl,cJ (by omega)]
  intro hm;have h1:v≠x:=fun e=>hm (by simp[e])
  have h2:v∉l:=fun e=>hm (by simp[e])
  rw[b h2,bR (Ne.symm h1)]
theorem Inv.begin {adj:Nat→List Nat}{src:List Nat}{N:Nat}(hb: ∀v∈src,v<N)(a:src.Nodup):Inv adj src N 0 (jB N src,src):=by
 have h0: ∀v∈src,(jB N src).getD v 0=0:=fun v hv=>(aA0 N src v (hb v hv)).1 hv
 refine⟨zZ _ _,hb,fun v hv=> ?_,a,?_,?_,?_,fun v hv=>⟨hv,h0 v hv⟩,fun i u hi=>absurd hi (by omega)⟩
 ·by_cases hm:v∈src
  ·rw[h0 v hm];simp[hm]
  rw[(aA0 N src v hv).2 hm];simp[hm]
 ·refine List.pairwise_iff_getElem.2 fun i j hi hj _=> ?_
  dsimp only;rw[h0 _ (List.getElem_mem hi),h0 _ (List.getElem_mem hj)];exact Int.le_refl _
 ·intro u hu v hv;dsimp only;rw[h0 v hv,h0 u (aRs hu)];omega
 intro v hv;dsimp only;rw[h0 v hv];exact hv
theorem tE (hn:n≤12): ∀u v,u<NN→v∈yQ aA n MM u→v<NN:=by intro u v hu hv;obtain⟨f,t,h1,h2,h3,h4,h5,rfl⟩:=nM.1 hv;have hc:dS (u/MM) f t<12:=aFb (aQk hu) (by omega);have hS:u%MM<2 ^ 12:=Nat.mod_lt _ (by decide);have:=sI hS (by omega:f<12) h5 h4;show dS (u/MM) f t*4096+dC (u%MM) f t<49152;omega
theorem aI6 (hn:n≤12): ∀v∈wM n many,v<NN:=fun v hv=>by
 have:=(jQ.1 hv).1;have h:=iQ hn;have h2:(MM:Nat)<NN:=by decide
 omega
theorem wL:(wM n many).Nodup:=List.Pairwise.filter _ List.nodup_range
end
end
section
theorem aP6 (m:Nat→Bool)(f k:Nat):oW m f k=((List.range k).filter m).map (fun(t:Nat)=>((f:Int),(t:Int))):=by
 induction k with
 |zero=>rfl
 |succ k ih=>rw[aTc,aSl,aSq,show oW m f (k+1)=oW m f k++(if m k then [((f:Int),(k:Int))]else [])from rfl,ih];cases h:m k<;>simp[h]
theorem aMm (m:Nat→Nat→Bool)(n k:Nat):gY m n k=(List.range k).flatMap (fun f=>((List.range n).filter (m f)).map (fun(t:Nat)=>((f:Int),(t:Int)))):=by
 induction k with
 |zero=>rfl
 |succ k ih=>rw[aTc,aSk,show gY m n (k+1)=gY m n k++oW (m k) k n from rfl,ih,aP6];simp
theorem fX {xs:List Int}{k:Nat}(hk:k<xs.length):cX xs k=decide (xs.getD k 0=0):=by unfold cX;rw[aRw,aRq hk];simp;rfl
theorem aE0 {aA aB:Int}{xs:List Int}(h:aO aA aB xs=true){f t:Nat}(hf:f<xs.length)(ht:t<xs.length):
  bF aA aB xs (f:Int) (t:Int)=(!(aN xs).testBit f&&(decide (t∈aS aA xs.length f)&&(aN xs).testBit t)):=by
 have h1:dM aA aB xs (f:Int) (t:Int)=aX aA f t:=by unfold dM;rw[if_pos ⟨h,⟨by omega,by omega⟩,by omega,by omega⟩]
 have h2:=pI h f;unfold bF;rw[h1,eT,eT,fX hf,fX ht];simp only[aTr];have h3:decide (t∈aS aA xs.length f)=decide (aX aA f t=1):=by
  have:t∈aS aA xs.length f↔aX aA f t=1:=by rw[bU];exact⟨fun h=>h.2,fun h=>⟨ht,h⟩⟩
  simp[this]
 have h4:decide (0<xs.getD f 0)= !decide (xs.getD f 0=0):=by
  by_cases h0:xs.getD f 0=0
  ·rw[h0];rfl
  have:0<xs.getD f 0:=by omega
  simp only[h0,this];rfl
 rw[h3,h4];cases decide (aX aA f t=1)<;>cases decide (xs.getD f 0=0)<;>rfl
theorem aBl {aA aB:Int}{xs:List Int}(h:aO aA aB xs=true):lJ aA aB xs=(eO aA xs.length (aN xs)).map (fun e=>((e.1:Int),(e.2:Int))):=by
 unfold lJ eO;rw[aMm,List.map_flatMap];have b: ∀l:List Nat,(∀f∈l,f<xs.length)→l.flatMap (fun(f:Nat)=>((List.range xs.length).filter (fun(t:Nat)=>bF aA aB xs f t)).map (fun(t:Nat)=>((f:Int),(t:Int))))=l.flatMap (fun a=>(if(aN xs).testBit a then []else((aS aA xs.length a).filter (fun t=>(aN xs).testBit t)).map (fun t=>(a,t))).map (fun e=>((e.1:Int),(e.2:Int)))):=by
  intro l;induction l with
  |nil=>intro _;rfl
  |cons f l ih=>
   intro hl;have hf:=hl f (by simp);rw[aSn,aSn,ih (fun x hx=>hl x (by simp[hx]))];congr 1
   have e1:(List.range xs.length).filter (fun(t:Nat)=>bF aA aB xs f t)=(List.range xs.length).filter (fun(t:Nat)=>(!(aN xs).testBit f&&(decide (t∈aS aA xs.length f)&&(aN xs).testBit t))):=
    List.filter_congr (fun t ht=>aE0 h hf (aS7.1 ht))
   rw[e1];cases hb:(aN xs).testBit f with
   |true=>simp
   |false=>
    simp only[Bool.not_false,Bool.true_and,Bool.false_eq_true,if_false,List.map_map];have e2:(List.range xs.length).filter (fun(t:Nat)=>decide (t∈aS aA xs.length f)&&(aN xs).testBit t)=(aS aA xs.length f).filter (fun t=>(aN xs).testBit t):=by
     have:aS aA xs.length f=(List.range xs.length).filter (fun t=>decide (t∈aS aA xs.length f)):=by
      conv=>lhs;unfold aS
      refine List.filter_congr (fun t ht=> ?_);have:t∈aS aA xs.length f↔aX aA f t=1:=by rw[bU];exact⟨fun h=>h.2,fun h=>⟨aS7.1 ht,h⟩⟩
      simp[this]
     conv=>rhs;rw[this]
     rw[List.filter_filter];refine List.filter_congr (fun t _=> ?_);rw[Bool.and_comm]
    rw[e2];rfl
 exact b _ (fun f hf=>aS7.1 hf)
theorem uG {aA aB:Int}{xs:List Int}(h:aO aA aB xs=true){f t:Nat}(he:(f,t)∈eO aA xs.length (aN xs)):
  bF aA aB xs (f:Int) (t:Int)=true∧bI aA aB xs (f:Int) (t:Int)=(xs.set t (xs.getD f 0)).set f 0∧aN (bI aA aB xs (f:Int) (t:Int))=dC (aN xs) f t∧ ∀c id,xs[c]? =some id→id≠0→(bI aA aB xs (f:Int) (t:Int))[dS c f t]? =some id:=by
 obtain⟨h1,h2,h3,h4,h5⟩:=fN.1 he;dsimp only at h1 h2 h3 h4 h5;have hm:bF aA aB xs (f:Int) (t:Int)=true:=by rw[aE0 h h1 h2,h4,h5];simp[h3]
 have hd:bI aA aB xs (f:Int) (t:Int)=(xs.set t (xs.getD f 0)).set f 0:=by unfold bI;rw[if_pos hm];simp only[aTr]
 have j:f≠t:=fun e=>by subst e;rw[h5]at h4;cases h4
 have b:xs.getD f 0≠0:=by intro e;rw[eT,fX h1,e]at h4;simp at h4
 refine⟨hm,hd,?_,?_⟩
 ·refine aIr fun k=> ?_
  rw[eV h5 h4,eT,eT,hd];by_cases hk:k<xs.length
  ·rw[fX (by simpa using hk),fX hk];by_cases k1:k=f
   ·subst k1;rw[aRw,aSf (by simpa using hk)];simp
   by_cases k2:k=t
   ·subst k2;rw[aRw,aTm (Ne.symm k1),aSf hk];have e:(some (xs.getD f 0)).getD 0=xs.getD f 0:=rfl;rw[e];have d: ¬xs[f]?.getD 0=0:=by rw[←aRw];exact b
    simp[d,k1]
   rw[aRw,aTm (Ne.symm k1),aTm (Ne.symm k2),←aRw];simp[k1,k2]
  have e1:cX ((xs.set t (xs.getD f 0)).set f 0) k=false:=by unfold cX;rw[aSu (by simp;omega)];rfl
  have e2:cX xs k=false:=by unfold cX;rw[aSu (by omega)];rfl
  rw[e1,e2];have:k≠f:=by omega
  simp[this]
 intro c id hc h0;rw[hd];obtain⟨i,g⟩:=aRt.1 hc;unfold dS;by_cases hcf:f=c
 ·rw[if_pos hcf,aTm (by omega),aSf h2,hcf,aRw,hc];rfl
 rw[if_neg hcf];have a:t≠c:=by rintro rfl;rw[eT,fX h2,aRw,hc]at h5;simp at h5;exact h0 h5
 rw[aTm hcf,aTm a,hc]
def mM (aA:Int)(n:Nat)(dd:Nat→Nat→Int)(s:Nat×Nat):Option (Nat×Nat):=(eO aA n s.2).find? (fun e=>decide (dd (dS s.1 e.1 e.2) (dC s.2 e.1 e.2)=dd s.1 s.2-1))
def kC (s e:Nat×Nat):Nat×Nat:=(dS s.1 e.1 e.2,dC s.2 e.1 e.2)
def gP (aA:Int)(n:Nat)(dd:Nat→Nat→Int)(s:Nat×Nat):Nat→Nat×Nat
 |0=>s
 |j+1=>match mM aA n dd (gP aA n dd s j)with
  |none=>gP aA n dd s j
  |some e=>kC (gP aA n dd s j) e
def gO (aA:Int)(n:Nat)(dd:Nat→Nat→Int)(s:Nat×Nat)(j:Nat):Nat×Nat:=(mM aA n dd (gP aA n dd s j)).getD (0,0)
def aV (D:List Int)(c S:Nat):Int:=D.getD (c*MM+S) 0
structure oS (n many:Nat) (s:Nat×Nat):Prop where
 car:s.1<n
 set:s.2<2 ^ n
 occ:s.2.testBit s.1=false
 many:gZ s.2=many
section
variable {aA:Int} {n many:Nat} {D:List Int}
theorem nY (hn:n≤12){s:Nat×Nat}(h:oS n many s):zQ n MM (s.1*MM+s.2)∧(s.1*MM+s.2)/MM=s.1∧(s.1*MM+s.2)%MM=s.2:=by have hl:s.2<MM:=aRo h.set (iQ hn);have e1:(s.1*MM+s.2)/MM=s.1:=mG hl;have e2:(s.1*MM+s.2)%MM=s.2:=iC hl;exact⟨⟨by rw[e1];exact h.car,by rw[e2];exact h.set,by rw[e1,e2];exact h.occ⟩,e1,e2⟩
theorem aBq (hn:n≤12){s e:Nat×Nat}(h:oS n many s)(he:e∈eO aA n s.2):rP aA n MM (s.1*MM+s.2) ((kC s e).1*MM+(kC s e).2)∧oS n many (kC s e):=by
 obtain⟨h1,h2,h3,h4,h5⟩:=fN.1 he;obtain⟨a,b,c⟩:=nY hn h;have hE:rP aA n MM (s.1*MM+s.2) ((kC s e).1*MM+(kC s e).2):=⟨e.1,e.2,h1,h2,h3,by rw[c];exact h4,by rw[c];exact h5,by rw[b,c];rfl⟩
 have hl:=sI h.set h1 h5 h4;have k:=sY (iQ hn) a hE;have k2:=qO (iQ hn) a.set hE;have d:(kC s e).2<MM:=aRo hl (iQ hn);have e1:=k.car;have e2:=k.set;have e3:=k.occ;rw[mG d]at e1;rw[iC d]at e2;rw[mG d,iC d]at e3;rw[iC d,c,h.many]at k2;exact⟨hE,e1,e2,e3,k2⟩
theorem tV (g:4≤n)(hn:n≤12)(hD:fA aA n many D){s:Nat×Nat}(h:oS n many s)(h0:0<aV D s.1 s.2): ∃e,mM aA n (aV D) s=some e∧e∈eO aA n s.2∧aV D (kC s e).1 (kC s e).2=aV D s.1 s.2-1∧oS n many (kC s e):=by
 obtain⟨a,b,c⟩:=nY hn h;obtain⟨u,hu,hm,hd⟩:=hD.back _ (pA hn a) h0;have d:D.getD (s.1*MM+s.2) 0=aV D s.1 s.2:=rfl;obtain⟨k,hk⟩:=aTk (show 0≤D.getD u 0 by rw[hd,d];omega);obtain⟨u1,u2⟩:=aIo g hn hD k u hu hk;obtain⟨f,t,h1,h2,h3,h4,h5,h6⟩:=aAn (iQ hn) u1 (nM.1 hm);rw[b,c]at h6;rw[c]at h4 h5;have he:(f,t)∈eO aA n s.2:=fN.2 ⟨h1,h2,h3,h4,h5⟩;have hp:(fun e:Nat×Nat=>decide (aV D (dS s.1 e.1 e.2) (dC s.2 e.1 e.2)=aV D s.1 s.2-1)) (f,t)=true:=by simp only[decide_eq_true_eq];show D.getD (gM MM s.1 s.2 f t) 0=_;rw[←h6,hd,d]
 cases hf:mM aA n (aV D) s with
 |none=>unfold mM at hf;have:=List.find?_eq_none.1 hf _ he;exact absurd hp this
 |some e=>unfold mM at hf;have h7:=List.find?_some hf;have h8:=aT6 hf;simp only[decide_eq_true_eq]at h7;exact⟨e,rfl,h8,h7,(aBq hn h h8).2⟩
theorem aIg {dd:Nat→Nat→Int}{s:Nat×Nat}{j:Nat}{e:Nat×Nat}(h:mM aA n dd (gP aA n dd s j)=some e):gP aA n dd s (j+1)=kC (gP aA n dd s j) e:=by rw[gP,h]
theorem jU (c:4≤n)(hn:n≤12)(hD:fA aA n many D){s:Nat×Nat}(h:oS n many s){d:Nat}(hd:aV D s.1 s.2=d): ∀j,j≤d→oS n many (gP aA n (aV D) s j)∧aV D (gP aA n (aV D) s j).1 (gP aA n (aV D) s j).2=(d:Int)-j:=by
 intro j;induction j with
 |zero=>intro _;exact⟨h,by show aV D s.1 s.2=_;rw[hd];simp⟩
 |succ j ih=>intro hj;obtain⟨a,b⟩:=ih (by omega);obtain⟨e,h1,h2,h3,h4⟩:=tV c hn hD a (by rw[b];omega);rw[aIg h1];exact⟨h4,by rw[h3,b];omega⟩
theorem kW (c:4≤n)(hn:n≤12)(hD:fA aA n many D){s:Nat×Nat}(h:oS n many s){d:Nat}(hd:aV D s.1 s.2=d){j:Nat}(hj:j<d):mM aA n (aV D) (gP aA n (aV D) s j)=some (gO aA n (aV D) s j)∧gO aA n (aV D) s j∈eO aA n (gP aA n (aV D) s j).2∧gP aA n (aV D) s (j+1)=kC (gP aA n (aV D) s j) (gO aA n (aV D) s j):=by
 obtain⟨a,b⟩:=jU c hn hD h hd j (by omega);obtain⟨e,h1,h2,h3,h4⟩:=tV c hn hD a (by rw[b];omega);have he:gO aA n (aV D) s j=e:=by unfold gO;rw[h1];rfl
 rw[he];exact⟨h1,h2,aIg h1⟩
theorem aNw (c:4≤n)(hn:n≤12)(hD:fA aA n many D){s:Nat×Nat}(h:oS n many s){d:Nat}(hd:aV D s.1 s.2=d){j:Nat}(hj:j≤d):(gP aA n (aV D) s j).1=0↔j=d:=by
 obtain⟨a,b⟩:=jU c hn hD h hd j hj;obtain⟨k1,k2,k3⟩:=nY hn a;have hz:=hD.zero _ (pA hn k1);have hb:D.getD ((gP aA n (aV D) s j).1*MM+(gP aA n (aV D) s j).2) 0=(d:Int)-j:=b;rw[hb,jQ]at hz;constructor
 ·intro h0
  have:=hz.2 (by
   rw[h0,Nat.zero_mul,aSs]
   exact⟨a.set,by have:=a.occ;rw[h0]at this;exact this,a.many⟩)
  omega
 intro e;have h1:=(hz.1 (by omega)).1;have hp:=iQ hn;have h2:=Nat.div_eq_of_lt (aRo h1 hp);rw[k2]at h2;exact h2
theorem aA3 (g:4≤n)(hn:n≤12){E:List Int}(hD:fA aA n many D)(hE:fA aA n many E){s:Nat×Nat}(h:oS n many s)(h0:0<aV D s.1 s.2):mM aA n (aV D) s=mM aA n (aV E) s:=by
 unfold mM;have c: ∀s:Nat×Nat,oS n many s→(0≤aV D s.1 s.2↔0≤aV E s.1 s.2)∧(0≤aV D s.1 s.2→aV D s.1 s.2=aV E s.1 s.2):=fun s hs=>aAr hD hE (pA hn (nY hn hs).1)
 have h1:=(c s h).2 (by omega);have d: ∀l:List (Nat×Nat),(∀e∈l,e∈eO aA n s.2)→l.find? (fun e=>decide (aV D (dS s.1 e.1 e.2) (dC s.2 e.1 e.2)=aV D s.1 s.2-1))=l.find? (fun e=>decide (aV E (dS s.1 e.1 e.2) (dC s.2 e.1 e.2)=aV E s.1 s.2-1)):=by
  intro l;induction l with
  |nil=>intro _;rfl
  |cons e l ih=>
   intro hl;have hp:=(aBq hn h (hl e (by simp))).2;obtain⟨a,b⟩:=c _ hp;have hh:decide (aV D (dS s.1 e.1 e.2) (dC s.2 e.1 e.2)=aV D s.1 s.2-1)=decide (aV E (dS s.1 e.1 e.2) (dC s.2 e.1 e.2)=aV E s.1 s.2-1):=by
    have a':0≤aV D (dS s.1 e.1 e.2) (dC s.2 e.1 e.2)↔0≤aV E (dS s.1 e.1 e.2) (dC s.2 e.1 e.2):=a;have b':0≤aV D (dS s.1 e.1 e.2) (dC s.2 e.1 e.2)→aV D (dS s.1 e.1 e.2) (dC s.2 e.1 e.2)=aV E (dS s.1 e.1 e.2) (dC s.2 e.1 e.2):=b;rw[←h1];by_cases hc:0≤aV D (dS s.1 e.1 e.2) (dC s.2 e.1 e.2)
    ·rw[b' hc]
    have f: ¬0≤aV E (dS s.1 e.1 e.2) (dC s.2 e.1 e.2):=fun x=>hc (a'.2 x)
    have d1: ¬(aV D (dS s.1 e.1 e.2) (dC s.2 e.1 e.2)=aV D s.1 s.2-1):=by omega
    have d2: ¬(aV E (dS s.1 e.1 e.2) (dC s.2 e.1 e.2)=aV D s.1 s.2-1):=by omega
    simp only[d1,d2]
   rw[List.find?_cons,List.find?_cons,hh,ih (fun x hx=>hl x (by simp[hx]))]
 exact d _ (fun e he=>he)
theorem aPx (c:4≤n)(hn:n≤12){E:List Int}(hD:fA aA n many D)(hE:fA aA n many E){s:Nat×Nat}(h:oS n many s){d:Nat}(hd:aV D s.1 s.2=d): ∀j,j≤d→gP aA n (aV D) s j=gP aA n (aV E) s j:=by
 intro j;induction j with
 |zero=>intro _;rfl
 |succ j ih=>intro hj;have e:=ih (by omega);obtain⟨a,b⟩:=jU c hn hD h hd j (by omega);have p:=aA3 c hn hD hE a (by rw[b];omega);rw[gP,gP,←e,p]
theorem aHv (c:4≤n)(hn:n≤12){E:List Int}(hD:fA aA n many D)(hE:fA aA n many E){s:Nat×Nat}(h:oS n many s){d:Nat}(hd:aV D s.1 s.2=d){j:Nat}(hj:j<d):gO aA n (aV D) s j=gO aA n (aV E) s j:=by obtain⟨a,b⟩:=jU c hn hD h hd j (by omega);unfold gO;rw[←aPx c hn hD hE h hd j (by omega),aA3 c hn hD hE a (by rw[b];omega)]
end
end
end Go.Proofs.YtbgkcehffiogcacGreatDoor
