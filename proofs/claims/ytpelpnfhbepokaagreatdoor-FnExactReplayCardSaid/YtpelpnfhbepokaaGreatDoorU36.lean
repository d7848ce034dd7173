/-
  Texts of this proof, packed (@packed).
-/
import Derived.Test.YtpelpnfhbepokaaGreatDoorU12
import Derived.Test.YtpelpnfhbepokaaGreatDoorU19
import Derived.Test.YtpelpnfhbepokaaGreatDoorU23
namespace Go.Proofs.YtpelpnfhbepokaaGreatDoor
open Go.RowKit
set_option linter.unusedVariables false
set_option linter.unusedSimpArgs false
theorem aL6 (h:aW)(p:OA)(n cap:Nat)(q:OA)(m c2:Nat)(w:World)(hn:n≤9223372036854775807)(hm:m≤9223372036854775807)(hb:1048576<n+m):
  Calls Tryz.prog 24 #[cA h p n cap q m c2,.int .i64 1048576] w fun e w'=>e= .returned (.int .i64 (-1))∧Ext w w':=by
 have:=sU h p n cap q m c2 w hn hm;rwa[if_pos (by omega)]at this
theorem aGh (h:aW)(p:OA)(n cap:Nat)(q:OA)(m c2:Nat)(w:World)(hb:n+m≤1048576):
  Calls Tryz.prog 24 #[cA h p n cap q m c2,.int .i64 1048576] w fun e w'=>e= .returned (.int .i64 (1048576-n-m))∧Ext w w':=by
 have:=sU h p n cap q m c2 w (by omega) (by omega);rwa[if_neg (by omega)]at this
set_option maxHeartbeats 8000000
set_option maxRecDepth 100000
theorem aH9 {B n cap:Nat}{p:OA}{xs:List Value}(K:Int)(w:World)(h:w.ownsRow B TI 1 (.slice p n cap) n xs)(hn:n≤1099511627776)(h0:0≤K)(h1:K≤4611686018427387904):
  Calls Tryz.prog 118 #[.slice p n cap,K] w fun e w'=>e= .returned (.int .i64 (K+(n*1:Nat)))∧w'.ownsRow B TI 1 (.slice p n cap) n (bB K (n*1))∧w.grownBy w' (Value.slice p n cap).ownBlock:=by
 by_cases hz:0<n
 ·have h2:=h;rcases h2.2 with⟨_,h3⟩|⟨g,cap',cur,e1,hb,hg,r⟩
  ·omega
  injection e1 with e1 e2 e3;subst e1;refine(aA3 g n cap B xs K w hn h0 h1 h).mono ?_;rintro e w' ⟨rfl,h4,h5⟩;exact⟨rfl,h4,h5⟩
 obtain rfl:n=0:=by omega
 refine(aA2 p cap K w).mono ?_;rintro e w' ⟨rfl,rfl⟩;obtain rfl:xs= []:=List.eq_nil_of_length_eq_zero (by have:=h.1;simpa using this);exact⟨by simp,by simpa[bB]using h,World.grownBy.refl _ _⟩
theorem aHz {B n cap:Nat}{p:OA}(K:Int)(w:World)(h:w.ownsRow B TI 1 (.slice p n cap) n (bB K (n*1)))(hn:n≤1099511627776)(h0:0≤K)(h1:K≤4611686018427387904):
  Calls Tryz.prog 119 #[.slice p n cap,K] w fun e w'=>e= .returned (.int .i64 (K+(n*1:Nat)))∧w=w':=by
 by_cases hz:0<n
 ·have h2:=h;rcases h2.2 with⟨_,h3⟩|⟨g,cap',cur,e1,hb,hg,r⟩
  ·omega
  injection e1 with e1 e2 e3;subst e1;refine aAq g 0 n cap K w hn h0 h1 (xQ fun j hj=> ?_);rw[Nat.zero_add,h.cellAt j hj];exact pB _ _ _ hj
 obtain rfl:n=0:=by omega
 refine(aAp p cap K w).mono ?_;rintro e w' ⟨rfl,rfl⟩;exact⟨by simp,rfl⟩
theorem aC2 {B n cap:Nat}{p:OA}{xs:List Value}(K:Int)(w:World)(h:w.ownsRow B TV 4 (.slice p n cap) n xs)(hn:n≤1099511627776)(h0:0≤K)(h1:K≤4611686018427387904):
  Calls Tryz.prog 69 #[.slice p n cap,K] w fun e w'=>e= .returned (.int .i64 (K+(n*4:Nat)))∧w'.ownsRow B TV 4 (.slice p n cap) n (bB K (n*4))∧w.grownBy w' (Value.slice p n cap).ownBlock:=by
 by_cases hz:0<n
 ·have h2:=h;rcases h2.2 with⟨_,h3⟩|⟨g,cap',cur,e1,hb,hg,r⟩
  ·omega
  injection e1 with e1 e2 e3;subst e1;refine(uY g n cap B xs K w hn h0 h1 h).mono ?_;rintro e w' ⟨rfl,h4,h5⟩;exact⟨rfl,h4,h5⟩
 obtain rfl:n=0:=by omega
 refine(uX p cap K w).mono ?_;rintro e w' ⟨rfl,rfl⟩;obtain rfl:xs= []:=List.eq_nil_of_length_eq_zero (by have:=h.1;simpa using this);exact⟨by simp,by simpa[bB]using h,World.grownBy.refl _ _⟩
theorem aCt {B n cap:Nat}{p:OA}(K:Int)(w:World)(h:w.ownsRow B TV 4 (.slice p n cap) n (bB K (n*4)))(hn:n≤1099511627776)(h0:0≤K)(h1:K≤4611686018427387904):
  Calls Tryz.prog 71 #[.slice p n cap,K] w fun e w'=>e= .returned (.int .i64 (K+(n*4:Nat)))∧w=w':=by
 by_cases hz:0<n
 ·have h2:=h;rcases h2.2 with⟨_,h3⟩|⟨g,cap',cur,e1,hb,hg,r⟩
  ·omega
  injection e1 with e1 e2 e3;subst e1;refine vM g 0 n cap K w hn h0 h1 (xQ fun j hj=> ?_);rw[Nat.zero_add,h.cellAt j hj];exact pB _ _ _ hj
 obtain rfl:n=0:=by omega
 refine(vL p cap K w).mono ?_;rintro e w' ⟨rfl,rfl⟩;exact⟨by simp,rfl⟩
theorem aEh {B n cap:Nat}{p:OA}{xs:List Value}(aA aB K:Int)(w:World)(a:Hid (∀g,(Value.slice p n cap).ownBlock=some g→g<w.heap.size))(h:Hid (w.ownsRow B TI 1 (.slice p n cap) n xs))(hn:n≤1099511627776)(h0:0≤K)(h1:K≤1099511627776):
  Calls Tryz.prog 68 #[aH aA aB p n cap,K] w fun e w'=>e= .returned (.int .i64 (K+(n:Nat)))∧w'.ownsRow B TI 1 (.slice p n cap) n (bB K n)∧w.grownBy w' (Value.slice p n cap).ownBlock:=by
 have HM:xC 118 #[.slice p n cap,K] w fun w' e w''=>e= .returned (.int .i64 (K+(n:Nat)))∧w''.ownsRow B TI 1 (.slice p n cap) n (bB K n)∧w'.grownBy w'' (Value.slice p n cap).ownBlock:=fun w' hx=>by have:=aH9 K w' (bD h.out hx) hn h0 (by omega);simpa using this
 go_enter Tryz.func68,Tryz.ntmps68;go_wp2_with fail;refine(HM _ ((Ext.refl _).alloc _)).mono ?_;rintro e w1 ⟨rfl,h2,h3⟩;have h4:w.grownBy w1 (Value.slice p n cap).ownBlock:=by have ha:Ext w (w.alloc (.cells #[aA,aB,.slice p n cap] 25)):=(Ext.refl w).alloc _;exact⟨h3.os.trans ha.os,h3.tape.trans ha.tape,h3.output.trans ha.output,Nat.le_trans ha.size h3.size,fun i hi hne=>(h3.block i (Nat.lt_of_lt_of_le hi ha.size) hne).trans (ha.block i hi)⟩
 clear h3;go_wp2;go_ret;exact⟨rfl,h2,h4⟩
theorem aF9 {B n cap:Nat}{p:OA}(aA aB K:Int)(w:World)(h:Hid (w.ownsRow B TI 1 (.slice p n cap) n (bB K n)))(hn:n≤1099511627776)(h0:0≤K)(h1:K≤1099511627776):
  Calls Tryz.prog 70 #[aH aA aB p n cap,K] w fun e w'=>e= .returned (.int .i64 (K+(n:Nat)))∧Ext w w':=by
 have k1:0≤K+(n:Nat):=by omega
 have HM:xC 119 #[.slice p n cap,K] w fun w' e w''=>e= .returned (.int .i64 (K+(n:Nat)))∧w'=w'':=fun w' hx=>by have:=aHz (B:=B) (p:=p) (cap:=cap) (n:=n) K w' (by simpa using bD h.out hx) hn h0 (by omega);simpa using this
 go_enter Tryz.func70,Tryz.ntmps70;go_wp2_with fail;refine(HM _ ((Ext.refl _).alloc _)).mono ?_;rintro e w1 ⟨rfl,rfl⟩;go_wp2;go_ret;exact⟨rfl,xE⟩
theorem sW (aA aB a b aE aG aD aF:Int)(p:OA)(n cap:Nat)(q:OA)(m c2:Nat)(K:Int)(xs ys:List Value)(w0 w:World)(L:List Item)(h:Mem w0 w (aI w0.heap.size TI 1 p n cap xs::aI w0.heap.size TV 4 q m c2 ys::L))(hn:n≤1099511627776)(hm:m≤1099511627776)(h0:0≤K)(h1:K≤1000000):
  Calls Tryz.prog 29 #[.agg #[aA,aB,.slice p n cap,a,b,aE,aG,aD,aF,.slice q m c2],K] w fun e w'=>e= .returned (.int .i64 (K+(n:Nat)+(m*4:Nat)))∧Mem w0 w' (aI w0.heap.size TI 1 p n cap (bB K n)::aI w0.heap.size TV 4 q m c2 (bB (K+(n:Nat)) (m*4))::L):=by
 have M1:=(h.c0 aL #[aA,aB,.slice p n cap,a,b,aE,aG,aD,aF,.slice q m c2])
 clear h;go_enter Tryz.func29,Tryz.ntmps29;go_wp2_with fail;refine(aEh aA aB K _ (xQ fun g hg=>(M1.lt (i:=1) (g:=g) rfl hg).2) (xQ (M1.ow 1)) hn h0 (by omega)).mono ?_;rintro e w1 ⟨rfl,ho,hg⟩;have M2:=(show Mem w0 w1 (aJ w0.heap.size w.heap.size aL #[aA,aB,.slice p n cap,a,b,aE,aG,aD,aF,.slice q m c2]::aI w0.heap.size TI 1 p n cap (bB K n)::aI w0.heap.size TV 4 q m c2 ys::L)from M1.app (i:=1) rfl ho hg (.inl rfl))
 clear ho hg M1;obtain⟨c,d,f,j,k,l,o,r,s,t⟩:=(M2.bk 0).ten;go_wp2_with fail;clear c d f j k l o r s t;refine(aC2 (K+(n:Nat)) _ (M2.ow 2) hm (by omega) (by omega)).mono ?_;rintro e w2 ⟨rfl,ho,hg⟩;have M3:=(show Mem w0 w2 (aJ w0.heap.size w.heap.size aL #[aA,aB,.slice p n cap,a,b,aE,aG,aD,aF,.slice q m c2]::aI w0.heap.size TI 1 p n cap (bB K n)::aI w0.heap.size TV 4 q m c2 (bB (K+(n:Nat)) (m*4))::L)from M2.app (i:=2) rfl ho hg (.inl rfl))
 clear ho hg M2;go_wp2;go_ret;exact⟨rfl,M3.sub (List.sublist_cons_self _ _)⟩
theorem sZ (aA aB a b aE aG aD aF:Int)(p:OA)(n cap:Nat)(q:OA)(m c2:Nat)(K:Int)(B:Nat)(w:World)(h:w.ownsRow B TI 1 (.slice p n cap) n (bB K n))(h2:w.ownsRow B TV 4 (.slice q m c2) m (bB (K+(n:Nat)) (m*4)))(hn:n≤1099511627776)(hm:m≤1099511627776)(h0:0≤K)(h1:K≤1000000):
  Calls Tryz.prog 30 #[.agg #[aA,aB,.slice p n cap,a,b,aE,aG,aD,aF,.slice q m c2],K] w fun e w'=>e= .returned (.int .i64 (K+(n:Nat)+(m*4:Nat)))∧Ext w w':=by
 have H2:=xQ h2;have M0:=((Mem.start w).c0 aL #[aA,aB,.slice p n cap,a,b,aE,aG,aD,aF,.slice q m c2])
 have H1:=xQ (bD h M0.ext);clear h h2;have k1:0≤K+(n:Nat):=by omega
 have k2:0≤K+(n:Nat)+(m*4:Nat):=by omega
 go_enter Tryz.func30,Tryz.ntmps30;go_wp2_with fail;refine(aF9 aA aB K _ H1 hn h0 (by omega)).mono ?_;rintro e w1 ⟨rfl,hx⟩;have M1:=(M0.adv hx)
 clear hx M0;obtain⟨c,d,f,g,i,j,k,l,o,r⟩:=(M1.bk 0).ten;go_wp2_with fail;clear c d f g i j k l o r;refine(aCt (K+(n:Nat)) _ (bD H2 M1.ext) hm (by omega) (by omega)).mono ?_;rintro e w2 ⟨rfl,rfl⟩;go_wp2;go_ret;exact⟨rfl,M1.ext⟩
open Go.ChangeShapes Go.WideShapes Go.ChangeAt Go.Deep
section
variable {H:Type} {enc:TypeId×Value→H} {w:World} {base:Nat} {spare:Nat→Bool} {held:Bool} {b0:Nat} {r:Reach} {v:Value} {d:DataW H} {p:List MemPlace}
def sH (v:aQ):Prop:=B64 v.1∧B64 v.2.1∧B64 v.2.2.1∧B64 v.2.2.2
theorem aKz:Tryz.prog.cellsOf 3=1:=by kernel_rfl
theorem aDe {n:Nat}{cs:List Value}{y:DataW H×List MemPlace}(hy:DataW.trod enc Tryz.prog w base spare held n 151 cs=some y): ∃a,cs=aC a∧sH a:=by
 obtain⟨y0,y1,m,_,hl,h0,h1⟩:=trod_struct2 Tryz.underlying151 hy;have f:cs.length=4:=hl.trans (by kernel_rfl)
 match cs,f with
 | [c0,c1,c2,c3],_=>
   have d:Tryz.prog.cellsOf 149=3:=by kernel_rfl
   simp only[aKz,d,List.drop_zero,List.drop_succ_cons,List.take_succ_cons,List.take_zero]at h0 h1;obtain⟨z0,z1,z2,m',_,_,g0,g1,g2⟩:=trod_struct3 Tryz.underlying149 h1;simp only[aKz,List.drop_zero,List.drop_succ_cons,List.take_succ_cons,List.take_zero]at g0 g1 g2;obtain⟨a,rfl,ga⟩:=fM h0;obtain⟨b,rfl,gb⟩:=fM g0;obtain⟨c,rfl,gc⟩:=fM g1;obtain⟨e,rfl,ge⟩:=fM g2;exact⟨(a,b,c,e),rfl,ga,gb,gc,ge⟩
def yK (h:aW):Prop:=B64 h.aA∧B64 h.aB∧B64 h.free∧B64 h.step∧B64 h.aE∧B64 h.aG∧B64 h.aD∧B64 h.aF∧(∀x∈h.cells,B64 x)∧ ∀v∈h.vs,sH v
theorem aMj {cs:List Value}(h:cs.length=10): ∃a b c d e f g i j k,cs= [a,b,c,d,e,f,g,i,j,k]:=by
 match cs,h with
 | [a,b,c,d,e,f,g,i,j,k],_=>exact⟨a,b,c,d,e,f,g,i,j,k,rfl⟩
theorem aEd (hv:Value.okWide Tryz.prog w r b0 59 v)(h:DataW.Trod enc Tryz.prog w base spare held 59 v d p):
  ∃y:aW×(OA×Nat)×(OA×Nat),v=cA y.1 y.2.1.1 y.1.cells.length y.2.1.2 y.2.2.1 y.1.vs.length y.2.2.2∧IsHouse w y.1 y.2.1.1 y.1.cells.length y.2.1.2 y.2.2.1 y.1.vs.length y.2.2.2∧yK y.1:=by
 obtain⟨cs,rfl,s⟩:=okWide_struct Tryz.underlying59 hv;obtain⟨l⟩:=cs;have hl:l.length=10:=by have:=s.trans (show Tryz.prog.cellsOf 59=10 by kernel_rfl);simpa using this
 obtain⟨x0,x1,x2,x3,x4,x5,x6,x7,x8,x9,rfl⟩:=aMj hl;obtain⟨t,hf⟩:=h;obtain⟨xs,n,_,hx,_,f,hg⟩:=DataW.trod_struct Tryz.underlying59 hf;have hh:Tryz.prog.cellsOf 55=3:=by kernel_rfl
 have ht:Tryz.prog.cellsOf 56=4:=by kernel_rfl
 have o:Tryz.prog.cellsOf 57=1:=by kernel_rfl
 have q:Tryz.prog.cellsOf 23=1:=by kernel_rfl
 have k: ∀l:List Value,(Value.agg l.toArray).cells.toList=l:=fun l=>by simp[Value.cells]
 match xs,f with
 | [y0,y1,y2,y3,y4],_=>
   have g0:=hg 0 _ rfl;have g1:=hg 1 _ rfl;have g2:=hg 2 _ rfl;have g3:=hg 3 _ rfl;have g4:=hg 4 _ rfl;simp only[k,aKz,hh,ht,o,List.drop_zero,List.drop_succ_cons,List.take_succ_cons,List.take_zero,List.getElem?_cons_zero,List.getElem?_cons_succ]at g0 g1 g2 g3 g4;obtain⟨z0,z1,z2,m,_,_,k0,k1,k2⟩:=trod_struct3 Tryz.underlying55 g0;simp only[aKz,q,List.drop_zero,List.drop_succ_cons,List.take_succ_cons,List.take_zero]at k0 k1 k2;obtain⟨aA,rfl,gw⟩:=fM k0;obtain⟨aB,rfl,gd⟩:=fM k1;obtain⟨b,cp,cc,rfl,hS,i⟩:=aBt k2;obtain⟨ys,m2,_,_,_,c,a⟩:=DataW.trod_struct Tryz.underlying56 g1
   match ys,c with
   | [t0,t1,t2,t3],_=>have j0:=a 0 _ rfl;have j1:=a 1 _ rfl;have j2:=a 2 _ rfl;have j3:=a 3 _ rfl;simp only[aKz,List.drop_zero,List.drop_succ_cons,List.take_succ_cons,List.take_zero,List.getElem?_cons_zero,List.getElem?_cons_succ]at j0 j1 j2 j3;obtain⟨e,rfl,gf⟩:=fM j0;obtain⟨g,rfl,gs⟩:=fM j1;obtain⟨aE,rfl,gp⟩:=fM j2;obtain⟨aG,rfl,gc⟩:=fM j3;obtain⟨aD,rfl,gk⟩:=fM g2;obtain⟨aF,rfl,gb⟩:=fM g3;obtain⟨vs,vp,vc,rfl,hV,j⟩:=aBs (α:=aQ) aC sH 4 Tryz.underlying57 (by kernel_rfl) (by omega) (fun _=>rfl) (fun n cs y hy=>aDe hy) g4;exact⟨(⟨aA,aB,b,e,g,aE,aG,aD,aF,vs⟩,(cp,cc),(vp,vc)),rfl,⟨hS,hV⟩,gw,gd,gf,gs,gp,gc,gk,gb,i,j⟩
end
end Go.Proofs.YtpelpnfhbepokaaGreatDoor
