/-
  Texts of this proof, packed (@packed).
-/
import Derived.Test.YtpelpnfhbepokaaGreatDoorV12
namespace Go.Proofs.YtpelpnfhbepokaaGreatDoor
open Go.RowKit
set_option linter.unusedVariables false
set_option linter.unusedSimpArgs false
set_option maxHeartbeats 8000000
set_option maxRecDepth 100000
theorem iM {aA:Int}{n:Nat}(hg:(aA,n)∈gU){u:Nat}(hu:u<n):0<(cX aA n 12 u).length∧(cX aA n 12 u).length≤6∧((cX aA n 12 u).length:Int)=aW aA u 0+1:=by have g:=bT hg hu;have h:=lP hg 12 u hu (by have:=g.2.1;omega);have:=g.1;have:=g.2.1;omega
theorem zA {aA aB:Int}{xs:List Int}(a:aM aA aB xs=true){x y:Nat}(hx:x<xs.length)(hy:y∈aS aA xs.length x):dE aA aB xs (x:Int) (y:Int)=1:=by obtain⟨h1,h2⟩:=bQ.1 hy;unfold dE;rw[if_pos ⟨a,⟨by omega,by omega⟩,by omega,by omega⟩];exact h2
theorem uM (aA aB:Int)(p:OA)(n a:Nat)(xs:List Int)(lq:OA)(m lc u:Nat)(w:World)(hS:Sl w p n a 1 (ivs xs))(f:aM aA aB xs=true)(hu:u<n)(i:xs.getD u 0=0)
  (hL:Sl w lq m lc 1 (ivs (bF (cX aA n 12 u)))):
  Calls Tryz.prog 179 #[aH aA aB p n a,.slice lq m lc] w (eY (cC xs u (cX aA n 12 u).tail).2 w):=by
 have hl:=hS.ilen;subst hl;have hg:=jE f;obtain⟨g1,g2,g3,g4,g5,g6,g7⟩:=bZ (cM f);obtain⟨k1,k2,k3⟩:=iM hg hu;have hm:=hL.ilen;rw[List.length_map]at hm;obtain⟨pb,po,rfl,o,q⟩:=hS.rd (by omega);obtain⟨b,g,rfl,hb,hc⟩:=hL.rd (by omega);have c: ∀(k x:Nat),(cX aA xs.length 12 u)[k]? =some x→w.cell? ⟨b,g+k,none⟩=some (.int .i64 (x:Int)):=by intro k x hx;have hk:=(List.getElem?_eq_some_iff.1 hx).1;rw[hc k (by omega)];simp[ivs,bF,hx]
 have d:=tM aA xs.length 12 u;have j:w.cell? ⟨b,g,none⟩=some (.int .i64 (u:Int)):=c 0 u (by rw[d];rfl);have l:w.cell? ⟨pb,po+u,none⟩=some (.int .i64 0):=by rw[q u (by omega)];rw[List.getD_eq_getElem?_getD,List.getElem?_eq_getElem hu]at i;simp only[Option.getD_some]at i;simp[ivs,hu,i]
 have HV: ∀w',Ext w w'→Calls Tryz.prog 41 #[aH aA aB (some ⟨pb,po,none⟩) xs.length a] w' fun e w''=>e= .returned (.bool true)∧Ext w' w'':=fun w' hy=>by have:=fV aA aB _ xs.length a xs w' (hS.ext hy);rwa[f]at this
 have HI: ∀w,Calls Tryz.prog 43 #[(u:Int),(),((xs.length:Int)-1:Int)] w fun e w'=>e= .returned (.bool true)∧w=w':=fun w=>by have:=pZ (u:Int) 0 ((xs.length:Int)-1) w;rwa[show decide ((0:Int)≤(u:Int)∧(u:Int)≤(xs.length:Int)-1)=true by simp;omega]at this
 have HW: ∀w',Ext w w'→Calls Tryz.prog 205 #[aH aA aB (some ⟨pb,po,none⟩) xs.length a,.slice (some ⟨b,g,none⟩) m lc] w' fun e w''=>e= .returned (.bool true)∧Ext w' w'':=fun w' hy=>
  aEy aA aB _ xs.length a b g m lc (cX aA xs.length 12 u) w' g5 g6 (by omega) (by omega) hm (Nat.lt_of_lt_of_le hb hy.sz) (fun k x hx=>(hy.cells.1 _ _ hb).trans (c k x hx)) u ((hy.cells.1 _ _ hb).trans j)
   (fun k x y hx hxy w2 hy2=>by
    have h2:=rX hg 12 u k x y hu hx hxy;have r:=aDz hg 12 u x hu (List.mem_of_getElem? hx);have:=xX aA aB (x:Int) (y:Int) _ xs.length a xs w2 (hS.ext (hy.trans hy2));rw[zA f r h2.2]at this
    exact this) (fun w2 hy2=>HV w2 (hy.trans hy2)) HI
 exact aHb aA aB pb po xs.length a xs b g m lc u (cX aA xs.length 12 u).tail (cX aA xs.length 12 u) w g5 g6 (by omega) (by omega) d hm hb o f rfl hu i (qS hg 12 u hu) c j l HW
  (fun w' hy=>(fG aA aB _ xs.length a xs w' (by omega) (hS.ext hy)).mono fun e w'' h=>h)
def jI (aA:Int)(n:Nat):Option Nat→List Nat
 |none=> []
 |some u=>cX aA n 12 u
theorem vU {aA:Int}{n:Nat}(hg:(aA,n)∈gU){l:List Nat}(hl: ∀x∈l,x<n):(jI aA n (cQ aA l)).length≤6:=by
 cases h:cQ aA l with
 |none=>simp[jI]
 |some u=>exact(iM hg (hl u ((iG aA l).2 u h))).2.1
theorem wK {aA:Int}{n:Nat}(hg:(aA,n)∈gU){l:List Nat}(hl: ∀x∈l,x<n){u:Nat}(hu:u<n):
  ((jI aA n (cQ aA l)).length=0∨(cX aA n 12 u).length<(jI aA n (cQ aA l)).length→cQ aA (l++ [u])=some u)∧
  (¬((jI aA n (cQ aA l)).length=0∨(cX aA n 12 u).length<(jI aA n (cQ aA l)).length)→cQ aA (l++ [u])=cQ aA l):=by
 obtain⟨k1,k2,k3⟩:=iM hg hu;rw[yD];cases h:cQ aA l with
 |none=>simp[jI,mK]
 |some v=>
  obtain⟨m1,m2,m3⟩:=iM hg (hl v ((iG aA l).2 v h));simp only[jI,mK];constructor
  ·intro hc;rw[if_pos (by omega)]
  intro hc;rw[if_neg (by omega)]
theorem aBr (aA aB:Int)(p:OA)(n a:Nat)(fr:List Nat)(F:Nat)(w:World)(hg:Hid ((aA,n)∈gU))(hn:n≤12)(hF:Hid (fr.length=F))(aj:F≤12)(j:Hid (∀x∈fr,x<n))
  (HF:xC 151 #[aH aA aB p n a] w fun w' e w''=> ∃q c,e= .returned (.slice q F c)∧w''.ownsRow w'.heap.size TI 1 (.slice q F c) F (ivs (bF fr))∧Ext w' w'')
  (o:Hid (∀(u:Nat),u<n→ ∀w',Ext w w'→Calls Tryz.prog 204 #[aH aA aB p n a,(u:Int),(),(-1:Int)] w' (aX (bF (cX aA n 12 u)) w'))):
  Calls Tryz.prog 178 #[aH aA aB p n a,(),(-1:Int)] w (aX (bF (jI aA n (cQ aA fr))) w):=by
 go_enter Tryz.func178,Tryz.ntmps178;have ME:=(((Mem.start w).c0 TH3 #[aA,aB,.slice p n a]).made0 TI 1 (w.heap.size+1) (by simp))
 go_wp2_with fail;refine(HF _ ME.ext).mono ?_;rintro e w1 ⟨q1,c1,rfl,y,aa⟩;have M1:=(ME.call aa y)
 clear ME aa y;have ah:=M1.hi 2;go_wp2;go_loopw [7,9] (fun v i wr=> ∃(k:Nat) (qb:OA) (l lb:Nat),k≤F∧i= .int .i64 k∧v= .slice qb l lb∧l=(jI aA n (cQ aA (fr.take k))).length∧Mem w wr [aJ w.heap.size TI 1 (qb) (l) (lb) (ivs (bF (jI aA n (cQ aA (fr.take k))))),aJ w.heap.size TI 1 (q1) (F) (c1) (ivs (bF fr)),aI w.heap.size (w.heap.size) TH3 #[aA,aB,.slice p n a]]) (fun _ i _=>F-(intOf i).toNat)
 case atStart=>exact⟨0,some ⟨w.heap.size+1,0,none⟩,0,0,Nat.zero_le _,rfl,rfl,rfl,(M1.pick [1,0,2] (by decide) rfl)⟩
 case round=>
  clear M1;obtain⟨k,qb,l,lb,hk,rfl,rfl,hl,hM⟩:=hrel;have HM:=hM;have b:=xQ hl;have an:l≤6:=by rw[hl];exact vU hg.out (fun x hx=>j.out x (List.mem_of_mem_take hx))
  have t:w.heap.size<wr.heap.size:=(HM.hi 2)
  clear hM hl;by_cases hlt:k<F
  ·obtain⟨u,hu⟩: ∃u,fr[k]? =some u:=⟨_,List.getElem?_eq_getElem (by rw[hF.out];exact hlt)⟩
   have m:u<n:=j.out u (List.mem_of_getElem? hu);obtain⟨gf,rfl,am,ae⟩:=HM.so 1;have cu:wr.cell? ⟨gf,k,none⟩=some (.int .i64 (u:Int)):=by have:=(HM.ow 1).cellAt k (by omega);rw[this];simp[ivs,bF,hu]
   obtain⟨d,f⟩:=wK hg.out (l:=fr.take k) (fun x hx=>j.out x (List.mem_of_mem_take hx)) m;rw[←bA hu,←b.out]at d f;obtain⟨k1,k2,k3⟩:=iM hg.out m;have K3:=xQ k3;obtain⟨W,hW⟩: ∃W,W=(cX aA n 12 u).length:=⟨_,rfl⟩
   rw[←hW]at k1 k2 d f;have r:=xQ d;have ab:=xQ f;have g:=xQ hW;have HC:=xQ (fun w' (hx:Ext w w')=>o u m w' hx);clear hu d f hW k3;have i1:(0:Int)≤(k:Int):=by omega
   have i2:(k:Int)<(F:Int):=by omega
   go_wp2;refine rL (gl [gEq (.agg #[aA,aB,.slice p n a]),gEq (.slice (some ⟨gf,0,none⟩) F c1),gEq (k:Int),gEq (.pointer (some ⟨gf,k,none⟩)),gEq (u:Int),gEq (.int .i64 0),gEq (-1:Int),(fun v w'=> ∃q c,v= .slice q (W) c∧w'.ownsRow wr.heap.size TI 1 (.slice q (W) c) (W) (ivs (bF (cX aA n 12 u))))]) 8 9 [(0,some 20),(1,some 21),(2,some 22),(3,some 23),(4,some 24),(5,some 25),(6,some 26),(7,some 27)] ?steps ?fin (hG:=(mN (bN (bS _) (bN (bS _) (bN (bS _) (bN (bS _) (bN (bS _) (bN (bS _) (bN (bS _) (bN (fun v w w' ⟨q,c,he,ho⟩ hx=>⟨q,c,he,bG ho hx⟩) (pD)))))))))))
   case steps=>
    refine sC [] rfl (fun wi hx=> ?_) ?_
    ·intro K hK;have hX:=hx.of_drew;obtain⟨ad,ak,al⟩:=((HM.bk 2).ext hX).tri;go_simp;exact hK _ _ ⟨.agg #[aA,aB,.slice p n a],rfl,rfl,Ext.refl _⟩
    refine sS0 [] (sS0 [] (sS2 [(1,some 21),(2,some 22)] ?_));refine sC [(3,some 23)] rfl (fun wi hx=> ?_) ?_
    ·intro v3 h3 K hK;obtain rfl:=h3;have hX:=hx.of_drew;have ad:wi.cell? ⟨gf,k,none⟩=some (.int .i64 (u:Int)):=(hX.cells.1 _ _ ae).trans cu;go_simp;exact hK _ _ ⟨.int .i64 (u:Int),rfl,rfl,Ext.refl _⟩
    refine sS0 [] (sS0 [] ?_);refine sC [(0,some 20),(4,some 24),(5,some 25),(6,some 26)] rfl (fun wi hx=> ?_) StepsL.nil
    ·intro v0 h0 v4 h4 v5 h5 v6 h6 K hK;obtain rfl:=h0;obtain rfl:=h4;obtain rfl:=h5;obtain rfl:=h6;have hX:=hx.of_drew;go_wp2_with fail;refine(HC _ (HM.ext.trans hX)).mono ?_;rintro e w5 ⟨q5,c5,rfl,o5,ag⟩;have af:(bF (cX aA n 12 u)).length=W:=by rw[g.out];simp[bF]
     rw[af]at o5⊢;go_simp;exact hK _ _ ⟨.slice q5 (W) c5,rfl,⟨q5,c5,rfl,bE o5 (by have:=hX.sz;simpa using this)⟩,ag⟩
   case fin=>
    intro wi hx v0 h0 v1 h1 v2 h2 v3 h3 v4 h4 v5 h5 v6 h6 v7 h7;obtain rfl:=h0;obtain rfl:=h1;obtain rfl:=h2;obtain rfl:=h3;obtain rfl:=h4;obtain rfl:=h5;obtain rfl:=h6;obtain⟨q7,c7,rfl,z⟩:=h7;have hX:Ext wr wi:=hx.of_drew;have M1:=(show Mem w wi [aJ w.heap.size TI 1 (q7) (W) (c7) (ivs (bF (cX aA n 12 u))),aJ w.heap.size TI 1 (qb) (l) (lb) (ivs (bF (jI aA n (cQ aA (fr.take k))))),aJ w.heap.size TI 1 (some ⟨gf,0,none⟩) (F) (c1) (ivs (bF fr)),aI w.heap.size (w.heap.size) TH3 #[aA,aB,.slice p n a]]from HM.ownNew hX z (Nat.le_refl _))
    clear HM;have ai:=M1.hi 3;try go_frame
    refine wpAny_ready (rs:= [8]) (by kernel_rfl) (by simp) ?_;refine AllReady.cons rfl (fun K hK=> ?_) AllReady.nil;go_simp;refine hK _ _ ?_;clear hK K;refine wpAny_done (by kernel_rfl) ?_ _;try go_frame
    clear hx hX cu z HC t;have p1:decide ((0:Int)<(W:Int))=true:=by simp;omega
    by_cases h0:l=0
    ·have hn:=xQ (r (.inl h0));have t1:((l:Int)==0)=true:=by simp[h0]
     clear h0;go_wp2;go_roundw
     case rel=>exact⟨k+1,q7,W,c7,by omega,by go_num,rfl,by rw[hn.out];exact g.out,by rw[hn.out];exact(M1.pick [0,2,3] (by decide) rfl)⟩
     case measure=>simp[intOf];omega
    have t1:((l:Int)==0)=false:=by simp[h0]
    by_cases h1:W<l
    ·have hn:=xQ (r (.inr h1));have t2:decide ((W:Int)<(l:Int))=true:=by simp[h1]
     have t3:decide (W<l)=true:=by simp[h1]
     go_wp2;go_roundw
     case rel=>exact⟨k+1,q7,W,c7,by omega,by go_num,rfl,by rw[hn.out];exact g.out,by rw[hn.out];exact(M1.pick [0,2,3] (by decide) rfl)⟩
     case measure=>simp[intOf];omega
    have hn:=xQ (ab (fun h=>h.elim h0 h1));have t2:decide ((W:Int)<(l:Int))=false:=by simp;omega
    have t3:decide (W<l)=false:=by simp;omega
    go_wp2;go_roundw
    case rel=>exact⟨k+1,qb,l,lb,by omega,by go_num,rfl,by rw[hn.out];exact b.out,by rw[hn.out];exact(M1.pick [1,2,3] (by decide) rfl)⟩
    case measure=>simp[intOf];omega
  obtain rfl:F=k:=by omega
  have s:Hid (fr.take F=fr):=by show _=_;rw[List.take_of_length_le (by rw[hF.out];omega)]
  go_wp2;go_ret;rw[s.out]at b HM;exact cZ (by rw[List.length_map];exact b.out.symm) (HM.ow 0) HM.ext
theorem oP (aA aB:Int)(p:OA)(n a:Nat)(xs:List Int)(w:World)(hS:Sl w p n a 1 (ivs xs))(b:aM aA aB xs=true):
  Calls Tryz.prog 178 #[aH aA aB p n a,(),(-1:Int)] w (aX (bF (jI aA n (cQ aA (bJ xs)))) w):=by
 have hl:=hS.ilen;subst hl;obtain⟨g1,g2,g3,g4,g5,g6,g7⟩:=bZ (cM b);have d:(bJ xs).length≤12:=by unfold bJ;exact Nat.le_trans (List.length_filter_le _ _) (by simp;omega)
 refine aBr aA aB p xs.length a (bJ xs) _ w (jE b) g6 rfl d (fun x hx=>(jF hx).1) (fun w' hy=> ?_) (fun u hu w' hy=>xH aA aB p xs.length a u xs w' (hS.ext hy) b hu);have:=aC2 aA aB p xs.length a xs w' (hS.ext hy);rw[b,if_pos rfl,qK]at this;refine this.mono fun e w'' h=> ?_
 obtain⟨q,c,h1,h2,h3⟩:=h;rw[List.length_map]at h1 h2;exact⟨q,c,h1,h2,h3⟩
def nR (r:Option (List Int×List Sl2))(w:World)(e:Ending)(w':World):Prop:=
 match r with
 |none=> ∃v,e= .returned (.tuple #[v,.bool false])∧Ext w w'
 |some r=> ∃q c,e= .returned (.tuple #[.slice q r.2.length c,.bool true])∧w'.ownsRow w.heap.size TSL 2 (.slice q r.2.length c) r.2.length (r.2.flatMap aK)∧Ext w w'
theorem aFa (aA aB:Int)(p:OA)(n a:Nat)(w:World)
  (HV:xB 41 #[aH aA aB p n a] w true)
  (HN:xC 178 #[aH aA aB p n a,(),(-1:Int)] w fun w' e w''=> ∃q c,e= .returned (.slice q 0 c)∧w''.ownsRow w'.heap.size TI 1 (.slice q 0 c) 0 []∧Ext w' w''):
  Calls Tryz.prog 131 #[aH aA aB p n a] w (nR none w):=by
 go_enter Tryz.func131,Tryz.ntmps131;have ME:=(((Mem.start w).c0 TH3 #[aA,aB,.slice p n a]).made0 TI 1 (w.heap.size+1) (by simp))
 go_wp2_with fail;refine(HV _ ME.ext).mono ?_;rintro e w1 ⟨rfl,f⟩;have M1:=(ME.adv f)
 clear ME f;have b:=M1.hi 1;obtain⟨h,i,j⟩:=(M1.bk 1).tri;go_wp2_with fail;clear h i j;refine(HN _ M1.ext).mono ?_;rintro e w2 ⟨qw,cw,rfl,d,g⟩;have M2:=(M1.call g d)
 clear M1 b g d;have k:=M2.hi 2;have HX:=xQ (M2.ext);go_wp2;exact bodyPost_ret (v:= .tuple #[.slice (some ⟨w2.heap.size,0,none⟩) 0 0,.bool false]) (by simp[results,Tryz.results131,go_sem, *]) rfl ⟨_,rfl,by have:=HX.out;exact .alloc this _⟩
theorem aC9 (aA aB:Int)(p:OA)(n a:Nat)(k:List Nat)(W:Nat)(r:List Int×List Sl2)(w:World)(h0:0<W)
  (HV:xB 41 #[aH aA aB p n a] w true)
  (HN:xC 178 #[aH aA aB p n a,(),(-1:Int)] w fun w' e w''=> ∃q c,e= .returned (.slice q W c)∧w''.ownsRow w'.heap.size TI 1 (.slice q W c) W (ivs (bF k))∧Ext w' w'')
  (HS:Hid (∀w' q c,Ext w w'→Sl w' q W c 1 (ivs (bF k))→Calls Tryz.prog 179 #[aH aA aB p n a,.slice q W c] w' (eY r.2 w'))):
  Calls Tryz.prog 131 #[aH aA aB p n a] w (nR (some r) w):=by
 have t0:((W:Int)==0)=false:=by simp;omega
 go_enter Tryz.func131,Tryz.ntmps131;have ME:=(((Mem.start w).c0 TH3 #[aA,aB,.slice p n a]).made0 TI 1 (w.heap.size+1) (by simp))
 go_wp2_with fail;refine(HV _ ME.ext).mono ?_;rintro e w1 ⟨rfl,i⟩;have M1:=(ME.adv i)
 clear ME i;have g:=M1.hi 1;obtain⟨b,d,f⟩:=(M1.bk 1).tri;go_wp2_with fail;clear b d f;refine(HN _ M1.ext).mono ?_;rintro e w2 ⟨qw,cw,rfl,h,j⟩;have M2:=(M1.call j h)
 clear M1 g j h;have m:=M2.hi 2;obtain⟨b,d,f⟩:=(M2.bk 2).tri;go_wp2_with fail;clear b d f;have HH:=xQ (HS _ qw cw M2.ext (M2.sq 0));refine HH.out.mono ?_;rintro e w9 ⟨q9,c9,rfl,o9,l⟩;have HX:=xQ (M2.ext);go_wp2;exact bodyPost_ret (v:= .tuple #[.slice q9 r.2.length c9,.bool true]) (by simp[results,Tryz.results131,go_sem, *]) rfl ⟨q9,c9,rfl,bE o9 HX.out.sz,HX.out.trans l⟩
theorem vR (aA aB:Int)(p:OA)(n a:Nat)(xs:List Int)(w:World)(hS:Sl w p n a 1 (ivs xs))(b:aM aA aB xs=true):
  Calls Tryz.prog 131 #[aH aA aB p n a] w (nR (gJ aA xs) w):=by
 have hl:=hS.ilen;subst hl;have hg:=jE b;have HV: ∀w',Ext w w'→Calls Tryz.prog 41 #[aH aA aB p xs.length a] w' fun e w''=>e= .returned (.bool true)∧Ext w' w'':=fun w' hy=>by have:=fV aA aB p xs.length a xs w' (hS.ext hy);rwa[b]at this
 unfold gJ;cases hn:cQ aA (bJ xs)with
 |none=>refine aFa aA aB p xs.length a w HV (fun w' hy=> ?_);have:=oP aA aB p xs.length a xs w' (hS.ext hy) b;rw[hn]at this;exact this
 |some u=>
  obtain⟨hu,d⟩:=jF ((iG aA _).2 u hn);obtain⟨k1,k2,k3⟩:=iM hg hu;refine aC9 aA aB p xs.length a (cX aA xs.length 12 u) _ (cC xs u (cX aA xs.length 12 u).tail) w k1 HV (fun w' hy=> ?_) (fun w' q c hy hL=>uM aA aB p xs.length a xs q _ c u w' (hS.ext hy) b hu d hL);have:=oP aA aB p xs.length a xs w' (hS.ext hy) b;rw[hn]at this;refine this.mono fun e w'' h=> ?_
  obtain⟨q,c,h1,h2,h3⟩:=h;simp only[jI,List.length_map]at h1 h2;exact⟨q,c,h1,h2,h3⟩
def cG (aA aB:Int)(xs:List Int)(id:Int):List Int×Int:=
 match kW aA aB xs id with
 |none=>(xs,-1)
 |some r=>(r.1,(r.2:Int))
theorem xJ (aA aB id:Int)(p:OA)(n a:Nat)(xs:List Int)(w:World)(k:Hid (xs.length=n))
  (HV:xB 41 #[aH aA aB p n a] w true)
  (HC:xC 131 #[aH aA aB p n a] w fun w' e w''=> ∃v,e= .returned (.tuple #[v,.bool false])∧Ext w' w'')
  (HL:xC 81 #[aH aA aB p n a] w fun w' e w''=> ∃q c,e= .returned (aH aA aB q n c)∧w''.ownsRow w'.heap.size TI 1 (.slice q n c) n (ivs xs)∧Ext w' w''):
  Calls Tryz.prog 82 #[aH aA aB p n a,id] w (cN aA aB xs (-1) w):=by
 go_enter Tryz.func82,Tryz.ntmps82;go_wp2_with fail;refine(HV _ (((Mem.start w).c0 TH3 #[aA,aB,.slice p n a]).c1 TH3 #[(),(),((),())]).ext).mono ?_;rintro e w1 ⟨rfl,o⟩;have M1:=((((Mem.start w).c0 TH3 #[aA,aB,.slice p n a]).c1 TH3 #[(),(),((),())]).adv o)
 have g:=M1.hi 0;have h:=M1.hi 1;clear o;obtain⟨b,d,f⟩:=(M1.bk 1).tri;go_wp2_with fail;clear b d f;refine(HC _ M1.ext).mono ?_;rintro e w2 ⟨v,rfl,r⟩;have M2:=(M1.adv r)
 clear M1 g h r;have i:=M2.hi 0;have j:=M2.hi 1;obtain⟨b,d,f⟩:=(M2.bk 1).tri;go_wp2_with fail;clear b d f;refine(HL _ M2.ext).mono ?_;rintro e w3 ⟨q0,c0,rfl,l,s⟩;have M3:=(M2.call s l)
 clear M2 i j s l;have t:=M3.hi 1;have u:=M3.hi 2;obtain⟨z0,x,z1,y,z2,z⟩:=(M3.bk 1).trif;go_wp2;clear z0 x z1 y z2 z;have M4:=(((M3.st 1 0 (.int .i64 aA)).st 1 1 (.int .i64 aB)).st 1 2 (.slice q0 n c0))
 generalize m:World.setCell _ _ _=wz;rw[m]at M4;clear m M3;obtain⟨aa,ab,ad⟩:=(M4.bk 1).tri;exact bodyPost_ret (v:= .tuple #[.agg #[aA,aB,.slice q0 n c0],(-1:Int)]) (by simp[results,Tryz.results82,go_sem, *]) rfl (eH k.out (M4.ow 0) M4.ext)
theorem aBm (aA aB id:Int)(p:OA)(n a K:Nat)(xs ys zs:List Int)(sl:List Sl2)(w:World)(s:Hid (xs.length=n))
  (HV:xB 41 #[aH aA aB p n a] w true)
  (HC:xC 131 #[aH aA aB p n a] w fun w' e w''=> ∃q c,e= .returned (.tuple #[.slice q K c,.bool true])∧w''.ownsRow w'.heap.size TSL 2 (.slice q K c) K (sl.flatMap aK)∧Ext w' w'')
  (HR:Hid (∀w' q c,Ext w w'→Sl w' q K c 2 (sl.flatMap aK)→Calls Tryz.prog 132 #[aH aA aB p n a,.slice q K c] w' fun e w''=> ∃q c,e= .returned (.tuple #[aH aA aB q n c,(K:Int)])∧w''.ownsRow w'.heap.size TI 1 (.slice q n c) n (ivs ys)∧Ext w' w''))
  (HP:Hid (∀w' q c,Ext w w'→Sl w' q n c 1 (ivs ys)→Calls Tryz.prog 133 #[aH aA aB q n c,(),id] w' fun e w''=> ∃q c,e= .returned (.tuple #[aH aA aB q n c,.bool false])∧w''.ownsRow w'.heap.size TI 1 (.slice q n c) n (ivs zs)∧Ext w' w''))
  (HL:xC 81 #[aH aA aB p n a] w fun w' e w''=> ∃q c,e= .returned (aH aA aB q n c)∧w''.ownsRow w'.heap.size TI 1 (.slice q n c) n (ivs xs)∧Ext w' w''):
  Calls Tryz.prog 82 #[aH aA aB p n a,id] w (cN aA aB xs (-1) w):=by
 go_enter Tryz.func82,Tryz.ntmps82;go_wp2_with fail;refine(HV _ (((Mem.start w).c0 TH3 #[aA,aB,.slice p n a]).c1 TH3 #[(),(),((),())]).ext).mono ?_;rintro e w1 ⟨rfl,aa⟩;have M1:=((((Mem.start w).c0 TH3 #[aA,aB,.slice p n a]).c1 TH3 #[(),(),((),())]).adv aa)
 have g:=M1.hi 0;have h:=M1.hi 1;clear aa;obtain⟨b,d,f⟩:=(M1.bk 1).tri;go_wp2_with fail;clear b d f;refine(HC _ M1.ext).mono ?_;rintro e w2 ⟨qs,cs,rfl,t,ab⟩;have M2:=(M1.call ab t)
 clear M1 g h ab t;have i:=M2.hi 1;have j:=M2.hi 2;obtain⟨b,d,f⟩:=(M2.bk 2).tri;go_wp2_with fail;clear b d f;refine(HR _ qs cs M2.ext (M2.sq 0)).mono ?_;rintro e w3 ⟨q1,c1,rfl,u,ad⟩;have M3:=(M2.call ad u)
 clear M2 i j ad u;have k:=M3.hi 2;have l:=M3.hi 3;go_wp2_with fail;refine(HP _ q1 c1 (M3.c0 TH3 #[aA,aB,.slice q1 n c1]).ext ((M3.c0 TH3 #[aA,aB,.slice q1 n c1]).sq 1)).mono ?_;rintro e w4 ⟨q2,c2,rfl,x,ae⟩;have M4:=((M3.c0 TH3 #[aA,aB,.slice q1 n c1]).call ae x)
 clear M3 k l ae x;have m:=M4.hi 1;have o:=M4.hi 4;have r:=M4.hi 5;obtain⟨b,d,f⟩:=(M4.bk 5).tri;go_wp2_with fail;clear b d f;refine(HL _ (M4.c0 TH3 #[aA,aB,.slice q2 n c2]).ext).mono ?_;rintro e w5 ⟨q0,c0,rfl,y,af⟩;have M5:=((M4.c0 TH3 #[aA,aB,.slice q2 n c2]).call af y)
 clear M4 m o r af y;have ag:=M5.hi 1;have ah:=M5.hi 3;have ai:=M5.hi 6;have aj:=M5.hi 7;obtain⟨z0,ak,z1,al,z2,am⟩:=(M5.bk 6).trif;go_wp2;clear z0 ak z1 al z2 am;have M6:=(((M5.st 6 0 (.int .i64 aA)).st 6 1 (.int .i64 aB)).st 6 2 (.slice q0 n c0))
 generalize z:World.setCell _ _ _=wz;rw[z]at M6;clear z M5;obtain⟨an,ao,ap⟩:=(M6.bk 6).tri;exact bodyPost_ret (v:= .tuple #[.agg #[aA,aB,.slice q0 n c0],(-1:Int)]) (by simp[results,Tryz.results82,go_sem, *]) rfl (eH s.out (M6.ow 0) M6.ext)
theorem zN (aA aB id:Int)(p:OA)(n a K:Nat)(ys zs:List Int)(sl:List Sl2)(w:World)(m:Hid (zs.length=n))
  (HV:xB 41 #[aH aA aB p n a] w true)
  (HC:xC 131 #[aH aA aB p n a] w fun w' e w''=> ∃q c,e= .returned (.tuple #[.slice q K c,.bool true])∧w''.ownsRow w'.heap.size TSL 2 (.slice q K c) K (sl.flatMap aK)∧Ext w' w'')
  (HR:Hid (∀w' q c,Ext w w'→Sl w' q K c 2 (sl.flatMap aK)→Calls Tryz.prog 132 #[aH aA aB p n a,.slice q K c] w' fun e w''=> ∃q c,e= .returned (.tuple #[aH aA aB q n c,(K:Int)])∧w''.ownsRow w'.heap.size TI 1 (.slice q n c) n (ivs ys)∧Ext w' w''))
  (HP:Hid (∀w' q c,Ext w w'→Sl w' q n c 1 (ivs ys)→Calls Tryz.prog 133 #[aH aA aB q n c,(),id] w' fun e w''=> ∃q c,e= .returned (.tuple #[aH aA aB q n c,.bool true])∧w''.ownsRow w'.heap.size TI 1 (.slice q n c) n (ivs zs)∧Ext w' w'')):
  Calls Tryz.prog 82 #[aH aA aB p n a,id] w (cN aA aB zs (K:Int) w):=by
 go_enter Tryz.func82,Tryz.ntmps82;go_wp2_with fail;refine(HV _ (((Mem.start w).c0 TH3 #[aA,aB,.slice p n a]).c1 TH3 #[(),(),((),())]).ext).mono ?_;rintro e w1 ⟨rfl,u⟩;have M1:=((((Mem.start w).c0 TH3 #[aA,aB,.slice p n a]).c1 TH3 #[(),(),((),())]).adv u)
 have g:=M1.hi 0;have h:=M1.hi 1;clear u;obtain⟨b,d,f⟩:=(M1.bk 1).tri;go_wp2_with fail;clear b d f;refine(HC _ M1.ext).mono ?_;rintro e w2 ⟨qs,cs,rfl,o,x⟩;have M2:=(M1.call x o)
 clear M1 g h x o;have i:=M2.hi 1;have j:=M2.hi 2;obtain⟨b,d,f⟩:=(M2.bk 2).tri;go_wp2_with fail;clear b d f;refine(HR _ qs cs M2.ext (M2.sq 0)).mono ?_;rintro e w3 ⟨q1,c1,rfl,r,y⟩;have M3:=(M2.call y r)
 clear M2 i j y r;have k:=M3.hi 2;have l:=M3.hi 3;go_wp2_with fail;refine(HP _ q1 c1 (M3.c0 TH3 #[aA,aB,.slice q1 n c1]).ext ((M3.c0 TH3 #[aA,aB,.slice q1 n c1]).sq 1)).mono ?_;rintro e w4 ⟨q2,c2,rfl,s,z⟩;have M4:=((M3.c0 TH3 #[aA,aB,.slice q1 n c1]).call z s)
 clear M3 k l z s;have aa:=M4.hi 1;have ab:=M4.hi 4;have ad:=M4.hi 5;obtain⟨z0,ae,z1,af,z2,ag⟩:=(M4.bk 4).trif;go_wp2;clear z0 ae z1 af z2 ag;have M5:=((((M4.st 4 0 (.int .i64 aA)).st 4 1 (.int .i64 aB)).st 4 2 (.slice q2 n c2)).bn TH3 #[aA,aB,.slice q2 n c2] (w4.heap.size))
 generalize t:World.alloc _ _=wz;rw[t]at M5;clear t M4;obtain⟨ah,ai,aj⟩:=(M5.bk 5).tri;exact bodyPost_ret (v:= .tuple #[.agg #[aA,aB,.slice q2 n c2],(K:Int)]) (by simp[results,Tryz.results82,go_sem, *]) rfl (eH m.out (M5.ow 1) M5.ext)
theorem lB (aA aB:Int)(xs:List Int)(id:Int):(cR aA aB xs id).1.length=xs.length:=by unfold cR;split<;>simp
theorem zK (aA aB id:Int)(p:OA)(n a:Nat)(xs:List Int)(w:World)(hS:Sl w p n a 1 (ivs xs))(b:aM aA aB xs=true):
  Calls Tryz.prog 82 #[aH aA aB p n a,id] w (cN aA aB (cG aA aB xs id).1 (cG aA aB xs id).2 w):=by
 have hl:=hS.ilen;subst hl;obtain⟨g1,g2,g3,g4,g5,g6,g7⟩:=bZ (cM b);have HV: ∀w',Ext w w'→Calls Tryz.prog 41 #[aH aA aB p xs.length a] w' fun e w''=>e= .returned (.bool true)∧Ext w' w'':=fun w' hy=>by have:=fV aA aB p xs.length a xs w' (hS.ext hy);rwa[b]at this
 have HL:=fun(w':World) (hy:Ext w w')=>fG aA aB p xs.length a xs w' (by omega) (hS.ext hy)
 have HC:=fun(w':World) (hy:Ext w w')=>vR aA aB p xs.length a xs w' (hS.ext hy) b
 cases hr:gJ aA xs with
 |none=>
  have e:cG aA aB xs id=(xs,-1):=by unfold cG kW;rw[hr]
  rw[e];rw[hr]at HC;exact xJ aA aB id p xs.length a xs w rfl HV HC HL
 |some r=>
  rw[hr]at HC;obtain⟨f1,f2,f3,f4,f5⟩:=nN b hr;have HR: ∀w' q c,Ext w w'→Sl w' q r.2.length c 2 (r.2.flatMap aK)→Calls Tryz.prog 132 #[aH aA aB p xs.length a,.slice q r.2.length c] w' fun e w''=> ∃q c,e= .returned (.tuple #[aH aA aB q xs.length c,(r.2.length:Int)])∧w''.ownsRow w'.heap.size TI 1 (.slice q xs.length c) xs.length (ivs r.1)∧Ext w' w'':=fun w' q c hy hL=>by have:=pN aA aB p xs.length a xs q r.2.length c r.2 w' (by omega) (hS.ext hy) hL b;rw[f1]at this;unfold cN at this;dsimp only at this;rw[f3]at this;exact this
  have HP: ∀w' q c,Ext w w'→Sl w' q xs.length c 1 (ivs r.1)→Calls Tryz.prog 133 #[aH aA aB q xs.length c,(),id] w' fun e w''=> ∃q c,e= .returned (.tuple #[aH aA aB q xs.length c,.bool (cR aA aB r.1 id).2])∧w''.ownsRow w'.heap.size TI 1 (.slice q xs.length c) xs.length (ivs (cR aA aB r.1 id).1)∧Ext w' w'':=fun w' q c hy hL=>by have:=aB0 aA aB id q xs.length c r.1 w' hL f2;unfold cO at this;rw[lB,f3]at this;exact this
  cases hb:(cR aA aB r.1 id).2 with
  |false=>
   have e:cG aA aB xs id=(xs,-1):=by simp[cG,kW,hr,hb]
   rw[e];rw[hb]at HP;exact aBm aA aB id p xs.length a r.2.length xs r.1 (cR aA aB r.1 id).1 r.2 w rfl HV HC HR HP HL
  |true=>
   have e:cG aA aB xs id=((cR aA aB r.1 id).1,(r.2.length:Int)):=by simp[cG,kW,hr,hb]
   rw[e];rw[hb]at HP;exact zN aA aB id p xs.length a r.2.length r.1 (cR aA aB r.1 id).1 r.2 w (show _=_ by rw[lB,f3]) HV HC HR HP
end Go.Proofs.YtpelpnfhbepokaaGreatDoor
namespace Go.Proofs.YtpelpnfhbepokaaGreatDoor
open Go.RowKit
set_option linter.unusedVariables false
set_option linter.unusedSimpArgs false
def fY:Nat→Nat
 |0=>0
 |n+1=>(n+1)%2+fY ((n+1)/2)
decreasing_by omega
theorem pS (n:Nat):fY n=n%2+fY (n/2):=by
 cases n with
 |zero=>rw[fY]
 |succ n=>rw[fY]
theorem tJ: ∀(f S:Nat),S.testBit f=false→ ∀k,(S+2 ^ f).testBit k=(S.testBit k || decide (k=f)):=by
 intro f;induction f with
 |zero=>
  intro S h k;rw[Nat.testBit_zero]at h;have h0:S%2=0:=by simp at h;omega
  cases k with
  |zero=>rw[Nat.testBit_zero,Nat.testBit_zero];simp;omega
  |succ k=>rw[Nat.testBit_succ,Nat.testBit_succ,show(S+2 ^ 0)/2=S/2 by simp;omega];simp
 |succ f ih=>
  intro S h k;rw[Nat.testBit_succ]at h;have e:(S+2 ^ (f+1))/2=S/2+2 ^ f:=by rw[Nat.pow_succ];omega
  cases k with
  |zero=>rw[Nat.testBit_zero,Nat.testBit_zero];simp[Nat.pow_succ]<;>omega
  |succ k=>rw[Nat.testBit_succ,Nat.testBit_succ,e,ih _ h];simp
theorem uD: ∀(f S:Nat),S.testBit f=false→fY (S+2 ^ f)=fY S+1:=by
 intro f;induction f with
 |zero=>
  intro S h;rw[Nat.testBit_zero]at h;have h0:S%2=0:=by simp at h;omega
  rw[pS (S+2 ^ 0),pS S,show(S+2 ^ 0)/2=S/2 by simp;omega];simp;omega
 |succ f ih=>
  intro S h;rw[Nat.testBit_succ]at h;have e:(S+2 ^ (f+1))/2=S/2+2 ^ f:=by rw[Nat.pow_succ];omega
  rw[pS (S+2 ^ (f+1)),pS S,e,ih _ h];have:(S+2 ^ (f+1))%2=S%2:=by rw[Nat.pow_succ];omega
  omega
theorem aGj: ∀(t S:Nat),S.testBit t=true→ ∃R,S=R+2 ^ t∧R.testBit t=false:=by
 intro t;induction t with
 |zero=>
  intro S h;rw[Nat.testBit_zero]at h;have h0:S%2=1:=by simpa using h
  exact⟨S-1,by simp;omega,by rw[Nat.testBit_zero];simp;omega⟩
 |succ t ih=>intro S h;rw[Nat.testBit_succ]at h;obtain⟨R,h1,h2⟩:=ih _ h;refine⟨2*R+S%2,by rw[Nat.pow_succ];omega,?_⟩;rw[Nat.testBit_succ,show(2*R+S%2)/2=R by omega];exact h2
theorem tI {t S:Nat}(h:S.testBit t=true):2 ^ t≤S∧(∀k,(S-2 ^ t).testBit k=(S.testBit k&& !decide (k=t)))∧fY S=fY (S-2 ^ t)+1:=by
 obtain⟨R,rfl,h2⟩:=aGj t S h;rw[Nat.add_sub_cancel];refine⟨Nat.le_add_left _ _,fun k=> ?_,uD _ _ h2⟩;rw[tJ _ _ h2];by_cases hk:k=t
 ·subst hk;simp[h2]
 simp[hk]
def cV (S f t:Nat):Nat:=S-2 ^ t+2 ^ f
theorem eJ {S f t:Nat}(ht:S.testBit t=true)(hf:S.testBit f=false)(k:Nat):(cV S f t).testBit k=(decide (k=f) || (S.testBit k&& !decide (k=t))):=by
 obtain⟨a,b,c⟩:=tI ht;unfold cV;have d:f≠t:=fun e=>by subst e;rw[ht]at hf;cases hf
 rw[tJ _ _ (by rw[b,hf];rfl),b];cases S.testBit k<;>cases decide (k=f)<;>cases decide (k=t)<;>rfl
theorem aCs {S f t:Nat}(ht:S.testBit t=true)(hf:S.testBit f=false):fY (cV S f t)=fY S:=by obtain⟨a,b,c⟩:=tI ht;unfold cV;rw[uD _ _ (by rw[b,hf];rfl),c]
theorem aEm {a b:Nat}(h: ∀k,a.testBit k=b.testBit k):a=b:=Nat.eq_of_testBit_eq h
theorem aK1 {n a:Nat}(h: ∀k,n≤k→a.testBit k=false):a<2 ^ n:=Nat.lt_pow_two_of_testBit a h
theorem rU {n a:Nat}(h:a<2 ^ n){k:Nat}(hk:n≤k):a.testBit k=false:=Nat.testBit_lt_two_pow (Nat.lt_of_lt_of_le h (Nat.pow_le_pow_right (by omega) hk))
theorem pW {n S f t:Nat}(hS:S<2 ^ n)(a:f<n)(ht:S.testBit t=true)(hf:S.testBit f=false):cV S f t<2 ^ n:=by
 refine aK1 fun k hk=> ?_
 rw[eJ ht hf,rU hS hk];have:k≠f:=by omega
 simp[this]
theorem aCt {S f t:Nat}(ht:S.testBit t=true)(hf:S.testBit f=false):cV (cV S f t) t f=S:=by
 have a:f≠t:=fun e=>by subst e;rw[ht]at hf;cases hf
 refine aEm fun k=> ?_
 rw[eJ (by rw[eJ ht hf];simp) (by rw[eJ ht hf];simp[Ne.symm a]),eJ ht hf];by_cases h1:k=t
 ·subst h1;simp[ht]
 by_cases h2:k=f
 ·subst h2;simp[h1,hf]
 simp[h1,h2]
def iL (p:Nat→Bool):Nat→Nat
 |0=>0
 |k+1=>iL p k+(if p k then 2 ^ k else 0)
theorem nV (p:Nat→Bool)(k:Nat):iL p k<2 ^ k:=by
 induction k with
 |zero=>simp[iL]
 |succ k ih=>unfold iL;rw[Nat.pow_succ];split<;>omega
theorem aHq (p:Nat→Bool)(k j:Nat):(iL p k).testBit j=(decide (j<k)&&p j):=by
 induction k with
 |zero=>simp[iL]
 |succ k ih=>
  have hk:(iL p k).testBit k=false:=rU (nV p k) (Nat.le_refl _);unfold iL;cases hp:p k with
  |false=>
   simp only[Bool.false_eq_true,if_false,Nat.add_zero];rw[ih];by_cases h:j=k
   ·subst h;simp[hp]
   have:(j<k+1)↔j<k:=by omega
   simp[this]
  |true=>
   simp only[if_true];rw[tJ _ _ hk,ih];by_cases h:j=k
   ·subst h;simp[hp]
   have:(j<k+1)↔j<k:=by omega
   simp[this,h]
theorem aFd (p:Nat→Bool)(k:Nat):fY (iL p k)=((List.range k).filter p).length:=by
 induction k with
 |zero=>simp[iL,fY]
 |succ k ih=>
  have hk:(iL p k).testBit k=false:=rU (nV p k) (Nat.le_refl _);rw[List.range_succ,List.filter_append,List.length_append,←ih,show iL p (k+1)=iL p k+(if p k then 2 ^ k else 0)from rfl];cases hp:p k with
  |false=>simp[hp]
  |true=>simp only[if_true];rw[uD _ _ hk];simp[hp]
def aN (xs:List Int):Nat:=iL (cP xs) xs.length
theorem eG (xs:List Int)(k:Nat):(aN xs).testBit k=cP xs k:=by
 unfold aN;rw[aHq];by_cases h:k<xs.length
 ·simp[h]
 have:cP xs k=false:=by unfold cP;rw[List.getElem?_eq_none (by omega)];rfl
 rw[this];simp
theorem mO (xs:List Int):aN xs<2 ^ xs.length:=nV _ _
theorem yS (xs:List Int):fY (aN xs)=(bJ xs).length:=aFd _ _
def eA (aA:Int)(n S:Nat):List (Nat×Nat):=(List.range n).flatMap fun f=>if S.testBit f then []else((aS aA n f).filter (fun t=>S.testBit t)).map (fun t=>(f,t))
theorem eU {aA:Int}{n S:Nat}{e:Nat×Nat}:e∈eA aA n S↔e.1<n∧e.2<n∧e.2∈aS aA n e.1∧S.testBit e.1=false∧S.testBit e.2=true:=by
 obtain⟨f,t⟩:=e;simp only[eA,List.mem_flatMap,List.mem_range];constructor
 ·rintro⟨a,ha,hm⟩;cases hb:S.testBit a with
  |true=>rw[hb]at hm;simp at hm
  |false=>rw[hb]at hm;simp only[Bool.false_eq_true,if_false,List.mem_map,List.mem_filter]at hm;obtain⟨x,⟨h1,h2⟩,h3⟩:=hm;injection h3 with h3 h4;subst h3 h4;exact⟨ha,(bQ.1 h1).1,h1,hb,h2⟩
 rintro⟨h1,h2,h3,h4,h5⟩;refine⟨f,h1,?_⟩;rw[h4];simp only[Bool.false_eq_true,if_false,List.mem_map,List.mem_filter];exact⟨t,⟨h3,h5⟩,rfl⟩
def dI (c f t:Nat):Nat:=if f=c then t else c
def fP (M c S f t:Nat):Nat:=dI c f t*M+cV S f t
def mR (aA:Int)(n M s:Nat):List Nat:=(eA aA n (s%M)).map (fun e=>fP M (s/M) (s%M) e.1 e.2)
def vB (aA:Int)(n M s:Nat):List Nat:=(List.range n).flatMap fun h=>if(s%M).testBit h then((aS aA n h).filter (fun f=> !(s%M).testBit f)).map (fun f=>fP M (s/M) (s%M) f h)else []
def pJ (aA:Int)(n M s v:Nat):Prop:= ∃f t,f<n∧t<n∧t∈aS aA n f∧(s%M).testBit f=false∧(s%M).testBit t=true∧v=fP M (s/M) (s%M) f t
theorem nP {aA:Int}{n M s v:Nat}:v∈mR aA n M s↔pJ aA n M s v:=by
 unfold mR pJ;rw[List.mem_map];constructor
 ·rintro⟨⟨f,t⟩,h,rfl⟩;obtain⟨h1,h2,h3,h4,h5⟩:=eU.1 h;exact⟨f,t,h1,h2,h3,h4,h5,rfl⟩
 rintro⟨f,t,h1,h2,h3,h4,h5,rfl⟩;exact⟨(f,t),eU.2 ⟨h1,h2,h3,h4,h5⟩,rfl⟩
theorem mB {aA:Int}{n M s v:Nat}:v∈vB aA n M s↔pJ aA n M s v:=by
 unfold vB pJ;rw[List.mem_flatMap];constructor
 ·rintro⟨h,hh,hm⟩;rw[List.mem_range]at hh;cases hb:(s%M).testBit h with
  |false=>rw[hb]at hm;simp at hm
  |true=>rw[hb]at hm;simp only[if_true,List.mem_map,List.mem_filter,Bool.not_eq_true']at hm;obtain⟨f,⟨h1,h2⟩,rfl⟩:=hm;exact⟨f,h,(bQ.1 h1).1,hh,fK hh h1,h2,hb,rfl⟩
 rintro⟨f,t,h1,h2,h3,h4,h5,rfl⟩;refine⟨t,List.mem_range.2 h2,?_⟩;rw[h5];simp only[if_true,List.mem_map,List.mem_filter,Bool.not_eq_true'];exact⟨f,⟨fK h1 h3,h4⟩,rfl⟩
structure vT (n M s:Nat):Prop where
 car:s/M<n
 set:s%M<2 ^ n
 occ:(s%M).testBit (s/M)=false
theorem kT {M c S:Nat}(h:S<M):(c*M+S)/M=c:=by rw[Nat.mul_comm,Nat.mul_add_div (by omega),Nat.div_eq_of_lt h,Nat.add_zero]
theorem fZ {M c S:Nat}(h:S<M):(c*M+S)%M=S:=by rw[Nat.mul_comm,Nat.mul_add_mod,Nat.mod_eq_of_lt h]
theorem aBd {n c f t:Nat}(hc:c<n)(ht:t<n):dI c f t<n:=by unfold dI;split<;>omega
theorem kG {aA:Int}{n M s v:Nat}(hM:2 ^ n≤M)(hS:s%M<2 ^ n)(h:pJ aA n M s v): ∃f t,f<n∧t<n∧t∈aS aA n f∧(s%M).testBit f=false∧(s%M).testBit t=true∧v/M=dI (s/M) f t∧v%M=cV (s%M) f t∧cV (s%M) f t<2 ^ n:=by obtain⟨f,t,h1,h2,h3,h4,h5,rfl⟩:=h;have hl:=pW hS h1 h5 h4;exact⟨f,t,h1,h2,h3,h4,h5,kT (by omega),fZ (by omega),hl⟩
theorem aEj {aA:Int}{n M s v:Nat}(hM:2 ^ n≤M)(hc:s/M<n)(hS:s%M<2 ^ n)(h:pJ aA n M s v):v/M<n∧v%M<2 ^ n:=by obtain⟨f,t,h1,h2,h3,h4,h5,h6,h7,h8⟩:=kG hM hS h;exact⟨by rw[h6];exact aBd hc h2,by rw[h7];exact h8⟩
theorem qM {aA:Int}{n M s v:Nat}(hM:2 ^ n≤M)(hs:vT n M s)(h:pJ aA n M s v):vT n M v:=by
 obtain⟨a,b⟩:=aEj hM hs.car hs.set h;obtain⟨f,t,h1,h2,h3,h4,h5,h6,h7,h8⟩:=kG hM hs.set h;refine⟨a,b,?_⟩;rw[h6,h7,eJ h5 h4];unfold dI;have c:f≠t:=fun e=>by subst e;rw[h5]at h4;cases h4
 split
 ·simp[Ne.symm c]
 have:=hs.occ;have h9:s/M≠f:=fun e=>by omega
 simp[this,h9]
theorem oE {aA:Int}{n M s v:Nat}(hM:2 ^ n≤M)(hS:s%M<2 ^ n)(h:pJ aA n M s v):fY (v%M)=fY (s%M):=by obtain⟨f,t,h1,h2,h3,h4,h5,h6,h7,h8⟩:=kG hM hS h;rw[h7,aCs h5 h4]
theorem wT {aA:Int}{n M s v:Nat}(hM:2 ^ n≤M)(hs:vT n M s)(h:pJ aA n M s v):pJ aA n M v s:=by
 obtain⟨f,t,h1,h2,h3,h4,h5,h6,h7,h8⟩:=kG hM hs.set h;have b:f≠t:=fun e=>by subst e;rw[h5]at h4;cases h4
 refine⟨t,f,h2,h1,fK h1 h3,by rw[h7,eJ h5 h4];simp[Ne.symm b],by rw[h7,eJ h5 h4];simp,?_⟩;have a:dI (v/M) t f=s/M:=by
  rw[h6];unfold dI;by_cases hf:f=s/M
  ·simp[hf]
  have ht: ¬t=s/M:=fun e=>by have:=hs.occ;rw[←e,h5]at this;cases this
  simp[hf,ht]
 unfold fP;rw[a,h7,aCt h5 h4];rw[Nat.mul_comm];exact(Nat.div_add_mod s M).symm
def aKw:List ((Int×Nat)×List Nat):= [
 ((2,4),[0,0,0,0,1,0,2,3,1,2,0,3,5,4,4,0]),
 ((2,6),[0,0,0,0,0,0,1,0,2,3,3,4,1,2,0,3,5,4,5,4,4,0,5,6,7,8,6,7,0,8,9,8,8,7,9,0]),
 ((3,6),[0,0,0,0,0,0,1,0,5,2,3,4,7,6,0,8,7,8,1,2,3,0,3,4,5,4,5,4,0,6,9,8,9,8,7,0]),
 ((3,9),[0,0,0,0,0,0,0,0,0,1,0,5,2,3,4,3,4,5,7,6,0,8,7,8,9,8,9,1,2,3,0,3,4,5,4,5,5,4,5,4,0,6,5,6,7,9,8,9,8,7,0,9,8,9,7,8,9,6,7,8,0,8,9,9,8,9,8,7,8,9,0,9,13,12,11,12,11,10,11,10,0]),
 ((4,8),[0,0,0,0,0,0,0,0,1,0,5,6,2,3,4,5,7,6,0,10,8,7,8,9,13,12,11,0,14,13,12,13,1,2,3,4,0,3,4,5,5,4,5,6,4,0,6,7,9,8,9,10,8,7,0,11,15,14,13,14,14,13,12,0]),
 ((4,12),[0,0,0,0,0,0,0,0,0,0,0,0,1,0,5,6,2,3,4,5,3,4,5,6,7,6,0,10,8,7,8,9,9,8,9,10,13,12,11,0,14,13,12,13,15,14,13,14,1,2,3,4,0,3,4,5,5,4,5,6,5,4,5,6,4,0,6,7,5,6,7,8,9,8,9,10,8,7,0,11,9,8,9,10,15,14,13,14,14,13,12,0,15,14,13,14,7,8,9,10,6,7,8,9,0,8,9,10,9,8,9,10,8,7,8,9,9,0,9,10,13,12,11,12,12,11,10,11,11,10,0,12,17,16,15,16,16,15,14,15,15,14,13,0])]
def pot (aA:Int)(n c h:Nat):Nat:=((aKw.find? (fun g=>g.1==(aA,n))).map (fun g=>g.2.getD (c*n+h) 0)).getD 0
def aLi (aA:Int)(n:Nat):Bool:=(List.range n).all fun c=>(List.range n).all fun h=>decide (pot aA n c h≤60)&&(c==0 || c==h || (aS aA n h).any fun t=>decide (pot aA n (if t=c then h else c) t<pot aA n c h))
theorem aJt:(gU.all fun g=>aLi g.1 g.2)=true:=by decide+kernel
theorem uC {aA:Int}{n c h:Nat}(hg:(aA,n)∈gU)(hc:c<n)(hh:h<n):pot aA n c h≤60∧(c≠0→c≠h→ ∃t,t∈aS aA n h∧pot aA n (if t=c then h else c) t<pot aA n c h):=by
 have h1:=List.all_eq_true.1 aJt _ hg;have h2:=List.all_eq_true.1 (List.all_eq_true.1 h1 c (List.mem_range.2 hc)) h (List.mem_range.2 hh);simp only[Bool.and_eq_true,Bool.or_eq_true,decide_eq_true_eq,beq_iff_eq,List.any_eq_true]at h2;refine⟨h2.1,fun a b=> ?_⟩;rcases h2.2 with(h3|h3)|⟨t,h3,h4⟩
 ·exact absurd h3 a
 ·exact absurd h3 b
 exact⟨t,h3,h4⟩
def tR (n many:Nat):List Nat:=(List.range (2 ^ n)).filter (fun s=> !s.testBit 0&&decide (fY s=many))
theorem iQ {n many s:Nat}:s∈tR n many↔s<2 ^ n∧s.testBit 0=false∧fY s=many:=by simp[tR]
section
variable {aA:Int} {n many:Nat} {D:List Int}
abbrev MM:Nat:=4096
abbrev NN:Nat:=49152
abbrev eO (aA:Int)(n many:Nat)(D:List Int):Prop:=qR (vB aA n MM) (tR n many) NN D
theorem gQ (hn:n≤12):2 ^ n≤MM:=Nat.pow_le_pow_right (n:=2) (by omega) hn
theorem nE (hn:n≤12){s:Nat}(h:vT n MM s):s<NN:=by have h1:=h.car;have h2:=Nat.div_add_mod s MM;have h3:s%MM<MM:=Nat.mod_lt _ (by decide);show s<49152;have:s/4096<n:=h1;omega
theorem aKz {s:Nat}(h:s<NN):s/MM<12:=by have:s<49152:=h;show s/4096<12;omega
theorem aEk (c:4≤n)(hn:n≤12)(hD:eO aA n many D): ∀(k s:Nat),s<NN→D.getD s 0=k→vT n MM s∧fY (s%MM)=many:=by
 intro k;induction k with
 |zero=>intro s hs h0;have hm:=(hD.zero s hs).1 (by omega);obtain⟨h1,h2,h3⟩:=iQ.1 hm;have h4:=gQ hn;have h5:s%MM=s:=Nat.mod_eq_of_lt (by omega);have h6:s/MM=0:=Nat.div_eq_of_lt (by omega);exact⟨⟨by rw[h6];omega,by rw[h5];exact h1,by rw[h5,h6];exact h2⟩,by rw[h5];exact h3⟩
 |succ k ih=>intro s hs h0;obtain⟨u,hu,hv,hd⟩:=hD.back s hs (by omega);obtain⟨a,b⟩:=ih u hu (by omega);have he:=mB.1 hv;exact⟨qM (gQ hn) a he,by rw[oE (gQ hn) a.set he];exact b⟩
theorem wY (b:4≤n)(hn:n≤12)(hD:eO aA n many D){s v:Nat}(hs:vT n MM s)(he:pJ aA n MM s v):(0≤D.getD s 0↔0≤D.getD v 0)∧(0≤D.getD s 0→D.getD s 0≤D.getD v 0+1∧D.getD v 0≤D.getD s 0+1):=by
 have hv:=qM (gQ hn) hs he;have a:=wT (gQ hn) hs he;have l1:=nE hn hs;have l2:=nE hn hv;have e1:=fun h=>hD.edge s v l1 h (mB.2 he)
 have e2:=fun h=>hD.edge v s l2 h (mB.2 a)
 exact⟨⟨fun h=>(e1 h).1,fun h=>(e2 h).1⟩,fun h=>⟨(e2 (e1 h).1).2,(e1 h).2⟩⟩
theorem aJa (hg:(aA,n)∈gU)(i:4≤n)(hn:n≤12)(hD:eO aA n many D): ∀(P s h:Nat),pot aA n (s/MM) h≤P→vT n MM s→fY (s%MM)=many→(s%MM).testBit h=true→0≤D.getD s 0∧D.getD s 0≤pot aA n (s/MM) h:=by
 intro P;induction P with
 |zero=>
  intro s h hP hs hm hh;by_cases h0:s/MM=0
  ·have h1:s=s%MM:=by have:=Nat.div_add_mod s MM;rw[h0]at this;omega
   have:D.getD s 0=0:=(hD.zero s (nE hn hs)).2 (iQ.2 ⟨by rw[h1];exact hs.set,by rw[h1,←h0];exact hs.occ,by rw[h1];exact hm⟩);rw[this];exact⟨Int.le_refl _,by omega⟩
  have c:h<n:=by
   rcases Nat.lt_or_ge h n with h1|h1
   ·exact h1
   rw[rU hs.set h1]at hh;cases hh
  obtain⟨t,ht,d⟩:=(uC hg hs.car c).2 h0 (fun e=>by rw[←e,hs.occ]at hh;cases hh);omega
 |succ P ih=>
  intro s h hP hs hm hh;by_cases h0:s/MM=0
  ·have h1:s=s%MM:=by have:=Nat.div_add_mod s MM;rw[h0]at this;omega
   have:D.getD s 0=0:=(hD.zero s (nE hn hs)).2 (iQ.2 ⟨by rw[h1];exact hs.set,by rw[h1,←h0];exact hs.occ,by rw[h1];exact hm⟩);rw[this];exact⟨Int.le_refl _,by omega⟩
  have c:h<n:=by
   rcases Nat.lt_or_ge h n with h1|h1
   ·exact h1
   rw[rU hs.set h1]at hh;cases hh
  obtain⟨t,ht,d⟩:=(uC hg hs.car c).2 h0 (fun e=>by rw[←e,hs.occ]at hh;cases hh);have g:=(bQ.1 ht).1;cases hb:(s%MM).testBit t with
  |true=>
   have f:t≠s/MM:=fun e=>by rw[e,hs.occ]at hb;cases hb
   rw[if_neg f]at d;obtain⟨a,b⟩:=ih s t (by omega) hs hm hb;exact⟨a,by omega⟩
  |false=>
   have he:pJ aA n MM s (fP MM (s/MM) (s%MM) t h):=⟨t,h,g,c,fK c ht,hb,hh,rfl⟩
   obtain⟨f',t',k1,k2,k3,k4,k5,k6,k7,k8⟩:=kG (gQ hn) hs.set he;have hl:=pW hs.set g hh hb;have e1:fP MM (s/MM) (s%MM) t h/MM=dI (s/MM) t h:=kT (Nat.lt_of_lt_of_le hl (gQ hn));have e2:fP MM (s/MM) (s%MM) t h%MM=cV (s%MM) t h:=fZ (Nat.lt_of_lt_of_le hl (gQ hn));have j:=qM (gQ hn) hs he;have k:=oE (gQ hn) hs.set he;have f:t≠h:=fun e=>by subst e;rw[hh]at hb;cases hb
   have hp:pot aA n (fP MM (s/MM) (s%MM) t h/MM) t=pot aA n (if t=s/MM then h else s/MM) t:=by rw[e1];rfl
   obtain⟨a,b⟩:=ih _ t (by rw[hp];omega) j (by rw[k];exact hm) (by rw[e2,eJ hh hb];simp);rw[hp]at b;obtain⟨c1,c2⟩:=wY i hn hD hs he;have c3:=c1.2 a;have:=c2 c3;exact⟨c3,by omega⟩
theorem aKi {adj:Nat→List Nat}{src:List Nat}{N:Nat}{D E:List Int}(hD:qR adj src N D)(hE:qR adj src N E): ∀(k v:Nat),v<N→D.getD v 0=k→0≤E.getD v 0∧E.getD v 0≤k:=by
 intro k;induction k with
 |zero=>intro v hv h;have:E.getD v 0=0:=(hE.zero v hv).2 ((hD.zero v hv).1 (by omega));rw[this];simp
 |succ k ih=>intro v hv h;obtain⟨u,hu,hm,hd⟩:=hD.back v hv (by omega);obtain⟨a,b⟩:=ih u hu (by omega);obtain⟨c,d⟩:=hE.edge u v hu a hm;exact⟨c,by omega⟩
theorem wW {adj:Nat→List Nat}{src:List Nat}{N:Nat}{D E:List Int}(hD:qR adj src N D)(hE:qR adj src N E){v:Nat}(hv:v<N):(0≤D.getD v 0↔0≤E.getD v 0)∧(0≤D.getD v 0→D.getD v 0=E.getD v 0):=by
 have h1: ∀(A B:List Int),qR adj src N A→qR adj src N B→0≤A.getD v 0→0≤B.getD v 0∧B.getD v 0≤A.getD v 0:=by intro A B hA hB h;obtain⟨k,hk⟩:=Int.eq_ofNat_of_zero_le h;have:=aKi hA hB k v hv hk;rw[hk];exact this
 refine⟨⟨fun h=>(h1 D E hD hE h).1,fun h=>(h1 E D hE hD h).1⟩,fun h=> ?_⟩;obtain⟨a,b⟩:=h1 D E hD hE h;obtain⟨c,d⟩:=h1 E D hE hD a;omega
def iD (N:Nat)(src:List Nat):List Int:=src.foldl (fun A v=>A.set v 0) (List.replicate N (-1))
theorem aCd (N:Nat)(src:List Nat)(v:Nat):iD N (src++ [v])=(iD N src).set v 0:=by simp[iD]
theorem wC (N:Nat)(src:List Nat):(iD N src).length=N:=by
 unfold iD
 suffices h: ∀(l:List Nat) (A:List Int),(l.foldl (fun A v=>A.set v 0) A).length=A.length by rw[h];simp
 intro l;induction l with
 |nil=>intro A;rfl
 |cons x l ih=>intro A;simp only[List.foldl_cons];rw[ih];simp
theorem wD (N:Nat)(src:List Nat)(v:Nat)(hv:v<N):(v∈src→(iD N src).getD v 0=0)∧(v∉src→(iD N src).getD v 0= -1):=by
 unfold iD
 suffices h: ∀(l:List Nat) (A:List Int),A.length=N→(v∈l→(l.foldl (fun A v=>A.set v 0) A).getD v 0=0)∧(v∉l→(l.foldl (fun A v=>A.set v 0) A).getD v 0=A.getD v 0) by obtain⟨a,b⟩:=h src (List.replicate N (-1)) (by simp);exact⟨a,fun h=>by rw[b h];simp[List.getD,hv]⟩
 intro l;induction l with
 |nil=>intro A _;simp
 |cons x l ih=>
  intro A hA;simp only[List.foldl_cons];obtain⟨a,b⟩:=ih (A.set x 0) (by simpa using hA);constructor
  ·intro hm;by_cases hl:v∈l
   ·exact a hl
   have:v=x:=by simpa[hl]using hm
   subst this;rw[b hl,cF (by omega)]
  intro hm;have h1:v≠x:=fun e=>hm (by simp[e])
  have h2:v∉l:=fun e=>hm (by simp[e])
  rw[b h2,bO (Ne.symm h1)]
theorem Inv.begin {adj:Nat→List Nat}{src:List Nat}{N:Nat}(hb: ∀v∈src,v<N)(a:src.Nodup):Inv adj src N 0 (iD N src,src):=by
 have h0: ∀v∈src,(iD N src).getD v 0=0:=fun v hv=>(wD N src v (hb v hv)).1 hv
 refine⟨wC _ _,hb,fun v hv=> ?_,a,?_,?_,?_,fun v hv=>⟨hv,h0 v hv⟩,fun i u hi=>absurd hi (by omega)⟩
 ·by_cases hm:v∈src
  ·rw[h0 v hm];simp[hm]
  rw[(wD N src v hv).2 hm];simp[hm]
 ·refine List.pairwise_iff_getElem.2 fun i j hi hj _=> ?_
  dsimp only;rw[h0 _ (List.getElem_mem hi),h0 _ (List.getElem_mem hj)];exact Int.le_refl _
 ·intro u hu v hv;dsimp only;rw[h0 v hv,h0 u (List.mem_of_getElem? hu)];omega
 intro v hv;dsimp only;rw[h0 v hv];exact hv
theorem qQ (hn:n≤12): ∀u v,u<NN→v∈vB aA n MM u→v<NN:=by
 intro u v hu hv;obtain⟨f,t,h1,h2,h3,h4,h5,rfl⟩:=mB.1 hv;have hc:dI (u/MM) f t<12:=aBd (aKz hu) (by omega);have hS:u%MM<2 ^ 12:=Nat.mod_lt _ (by decide);have:=pW hS (by omega:f<12) h5 h4;show dI (u/MM) f t*4096+cV (u%MM) f t<49152;have a:(2:Nat) ^ 12=4096:=by decide
 omega
theorem aE3 (hn:n≤12): ∀v∈tR n many,v<NN:=fun v hv=>by
 have:=(iQ.1 hv).1;have h:=gQ hn;have h2:(MM:Nat)<NN:=by decide
 omega
theorem tQ:(tR n many).Nodup:=List.Pairwise.filter _ List.nodup_range
end
end Go.Proofs.YtpelpnfhbepokaaGreatDoor
