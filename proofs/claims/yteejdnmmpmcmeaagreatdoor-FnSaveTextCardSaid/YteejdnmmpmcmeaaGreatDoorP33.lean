/-
  Texts of this proof, packed (@packed).
-/
import Derived.Test.YteejdnmmpmcmeaaGreatDoorP2
import Derived.Test.YteejdnmmpmcmeaaGreatDoorP8
import Derived.Test.YteejdnmmpmcmeaaGreatDoorP32
namespace Go.Proofs.YteejdnmmpmcmeaaGreatDoor
open Go.RowKit
set_option linter.unusedVariables false
set_option linter.unusedSimpArgs false
theorem aD9 (c:UInt8)(x:List UInt8)(r:List (List UInt8)):jX c (x::r)=c::(x++jX c r):=by simp[jX]
theorem pB (c:UInt8): ∀ps:List (List UInt8),ps≠ []→(∀p∈ps,c∉p)→aL c (dQ c ps)=ps:=by
 intro ps
 induction ps with
 |nil=>intro h;exact absurd rfl h
 |cons x r ih=>
  intro _ h
  cases r with
  |nil=>simp only[dQ,jX,List.flatMap_nil,List.append_nil];exact mI c x (h x (by simp))
  |cons y r=>
   have e:dQ c (x::y::r)=x++c::dQ c (y::r):=by simp[dQ,aD9]
   rw[e,lJ c x _ (h x (by simp)),ih (by simp) (fun p hp=>h p (by simp[hp]))]
theorem vV (c d:UInt8)(hcd:d≠c): ∀ps:List (List UInt8),(∀p∈ps,d∉p)→d∉dQ c ps:=by
 intro ps h
 cases ps with
 |nil=>simp[dQ]
 |cons x r=>
  simp only[dQ,jX,List.mem_append,List.mem_flatMap,List.mem_cons,not_or,not_exists,not_and]
  exact⟨h x (by simp),fun y hy=>⟨hcd,h y (by simp[hy])⟩⟩
def jY (aA aB:Nat)(xs:List Int):List (List Int):=(List.range aB).map (fun r=>(xs.drop (r*aA)).take aA)
def uB (row:List Int):List UInt8:=dQ 44 (row.map dG)
theorem sV {xs:List Int}{n:Nat}(h:xs.length=n):xs=(List.range n).map (fun i=>xs[i]?.getD 0):=by
 subst h
 apply List.ext_getElem
 ·simp
 ·intro i h1 h2;simp only[List.getElem_map,List.getElem_range];rw[List.getElem?_eq_getElem h1];rfl
theorem aG5 {aA aB:Nat}{xs:List Int}(h0:2≤aA)(h1:aA≤4)(h2:2≤aB)(h3:aB≤3)(hn:xs.length=aA*aB):
  aS aA xs xs.length=dQ 47 ((jY aA aB xs).map uB):=by
 obtain rfl|rfl|rfl:aA=2∨aA=3∨aA=4:=by omega
 all_goals
  obtain rfl|rfl:aB=2∨aB=3:=by omega
  all_goals
   simp only[Nat.reduceMul]at hn
   rw[sV hn]
   generalize (fun i:Nat=>xs[i]?.getD 0)=f
   simp[List.range_succ,aS,cK,jY,uB,dQ,jX,List.range_zero]
theorem aG6 {aA aB:Nat}{xs:List Int}(h0:2≤aA)(h1:aA≤4)(h2:2≤aB)(h3:aB≤3)(hn:xs.length=aA*aB):
  (jY aA aB xs).flatten=xs∧(jY aA aB xs).length=aB∧(∀row∈jY aA aB xs,row.length=aA):=by
 refine⟨?_,by simp[jY],?_⟩
 ·obtain rfl|rfl|rfl:aA=2∨aA=3∨aA=4:=by omega
  all_goals
   obtain rfl|rfl:aB=2∨aB=3:=by omega
   all_goals
    simp only[Nat.reduceMul]at hn
    rw[sV hn]
    generalize (fun i:Nat=>xs[i]?.getD 0)=f
    simp[List.range_succ,jY,List.range_zero]
 ·intro row hr
  simp only[jY,List.mem_map,List.mem_range]at hr
  obtain⟨r,hr,rfl⟩:=hr
  simp only[List.length_take,List.length_drop,hn]
  have:(r+1)*aA≤aB*aA:=Nat.mul_le_mul_right _ hr
  rw[Nat.add_mul,Nat.one_mul,Nat.mul_comm aB]at this
  omega
def nL (c:List UInt8):Option Int:=if c= [46]then some 0 else bQ 2 c
def fF (c:List UInt8):Int:=if c= [46]then 0 else(bQ 4 c).getD (-1)
def gR (l:List UInt8):List (List (List UInt8)):=(aL 47 l).map (aL 44)
def jC (ps:List (List (List UInt8))):Int:=((ps.getLast?.map List.length).getD 0:Nat)
abbrev zJ:=Int×Int×List Int
def cS (l:List UInt8):zJ:=(jC (gR l),((aL 47 l).length:Int),(gR l).flatten.map fF)
def kD (row:List (List UInt8)):Bool:=decide (row.length≤4)&&row.all (fun c=>(nL c).isSome)
def nW (l:List UInt8):Bool:=decide ((aL 47 l).length≤3)&&(gR l).all kD
def cF (l:List UInt8):Option zJ:=if aR (cS l).1 (cS l).2.1 (cS l).2.2=true∧bO (cS l).1 (cS l).2.1 (cS l).2.2=l then some (cS l)else none
theorem aI4 {c:List UInt8}{x:Int}(h:bQ 2 c=some x):bQ 4 c=some x:=by
 unfold bQ at h⊢
 split at h
 ·rename_i hc;rw[if_pos ⟨hc.1,by omega,hc.2.2⟩];exact h
 ·simp at h
theorem aFe {c:List UInt8}{x:Int}(h:nL c=some x):fF c=x:=by
 unfold nL at h;unfold fF
 split
 ·rename_i e;rw[if_pos e]at h;exact(Option.some.inj h)
 ·rename_i e;rw[if_neg e]at h;rw[aI4 h];rfl
theorem zG {x:Int}(h0:0≤x)(h1:x≤99):nL (dG x)=some x:=by
 unfold nL dG
 by_cases hx:x=0
 ·subst hx;simp
 ·rw[if_neg hx,if_neg]
  ·rw[kE 2 x.toNat (by omega) (by omega) (by omega)];simp;omega
  ·intro e
   exact gU x.toNat 46 (by decide) (by rw[e];simp)
theorem lK {x:Int}{c:UInt8}(hc:cQ c=false)(h46:c≠46):c∉dG x:=by
 unfold dG
 split
 ·simpa using h46
 ·exact gU _ _ hc
theorem yU {aA aB:Int}{xs:List Int}(hok:aR aA aB xs=true):nW (bO aA aB xs)=true∧cS (bO aA aB xs)=(aA,aB,xs):=by
 have hs:fK aA aB xs.length=true∧dL [] xs=true:=by simpa[aR]using hok
 obtain⟨a0,a1,a2,a3,a4,a5,a6⟩:=cG hs.1
 have hc:=((eI xs []).1 hs.2).1
 obtain⟨wd,rfl⟩: ∃k:Nat,aA=k:=⟨aA.toNat,by omega⟩
 obtain⟨dp,rfl⟩: ∃k:Nat,aB=k:=⟨aB.toNat,by omega⟩
 have hn:xs.length=wd*dp:=by exact_mod_cast a6
 have r1:=aG5 (aA:=wd) (aB:=dp) (xs:=xs) (by omega) (by omega) (by omega) (by omega) hn
 obtain⟨r2,r3,r4⟩:=aG6 (aA:=wd) (aB:=dp) (xs:=xs) (by omega) (by omega) (by omega) (by omega) hn
 have ht:bO wd dp xs=dQ 47 ((jY wd dp xs).map uB):=by rw[bO,if_pos hok,r1]
 have hne:jY wd dp xs≠ []:=by intro e;rw[e]at r3;simp at r3;omega
 have hin: ∀row∈jY wd dp xs,∀x∈row,0≤x∧x≤99:=fun row hr x hx=>hc x (by rw[←r2];exact List.mem_flatten.2 ⟨row,hr,hx⟩)
 have hcut:aL 47 (bO wd dp xs)=(jY wd dp xs).map uB:=by
  rw[ht]
  refine pB 47 _ (by simpa using hne) ?_
  intro p hp
  simp only[List.mem_map]at hp
  obtain⟨row,hr,rfl⟩:=hp
  refine vV 44 47 (by decide) _ ?_
  intro q hq
  simp only[List.mem_map]at hq
  obtain⟨x,hx,rfl⟩:=hq
  exact lK (by decide) (by decide)
 have hw:gR (bO wd dp xs)=(jY wd dp xs).map (fun row=>row.map dG):=by
  rw[gR,hcut,List.map_map]
  refine List.map_congr_left ?_
  intro row hr
  refine pB 44 _ ?_ ?_
  ·intro e
   have:=r4 row hr
   rw[List.map_eq_nil_iff.1 e]at this
   simp at this;omega
  ·intro q hq
   simp only[List.mem_map]at hq
   obtain⟨x,hx,rfl⟩:=hq
   exact lK (by decide) (by decide)
 constructor
 ·unfold nW
  rw[hcut,hw]
  simp only[List.length_map,r3,Bool.and_eq_true,decide_eq_true_eq,List.all_eq_true,List.mem_map]
  refine⟨by omega,?_⟩
  rintro _ ⟨row,hr,rfl⟩
  unfold kD
  simp only[List.length_map,r4 row hr,Bool.and_eq_true,decide_eq_true_eq,List.all_eq_true,List.mem_map]
  refine⟨by omega,?_⟩
  rintro _ ⟨x,hx,rfl⟩
  rw[zG (hin row hr x hx).1 (hin row hr x hx).2];rfl
 ·unfold cS
  rw[hcut,hw]
  have e1:jC ((jY wd dp xs).map (fun row=>row.map dG))=wd:=by
   unfold jC
   rw[List.getLast?_map]
   cases hl:(jY wd dp xs).getLast? with
   |none=>exact absurd (List.getLast?_eq_none_iff.1 hl) hne
   |some row=>simp[r4 row (List.mem_of_getLast? hl)]
  have e2:((jY wd dp xs).map (fun row=>row.map dG)).flatten.map fF=xs:=by
   rw[←List.map_flatten,r2,List.map_map]
   refine(List.map_congr_left (g:=id) ?_).trans (List.map_id _)
   intro x hx
   exact aFe (zG (hc x hx).1 (hc x hx).2)
  rw[e1,e2]
  simp[r3]
theorem pL {aA aB:Int}{xs:List Int}(hok:aR aA aB xs=true):cF (bO aA aB xs)=some (aA,aB,xs):=by
 unfold cF
 rw[(yU hok).2]
 simp[hok]
theorem pM {l:List UInt8}(h:nW l=false):cF l=none:=by
 unfold cF
 rw[if_neg]
 rintro⟨a,b⟩
 rw[←b,(yU a).1]at h
 simp at h
def bI (many:Nat)(l:List UInt8):Option (List Int):=
 if(aL 44 l).length=many∧(aL 44 l).all (fun c=>(bQ 5 c).isSome)=true then some ((aL 44 l).map (fun c=>(bQ 5 c).getD 0))else none
def eF (l:List UInt8):Int:=(bQ 5 l).getD (-1)
theorem aIa {xs:List Int}(hne:xs≠ []):aL 44 (aT xs)=xs.map dec:=by
 refine pB 44 _ (by simpa using hne) ?_
 intro p hp
 simp only[List.mem_map]at hp
 obtain⟨x,_,rfl⟩:=hp
 exact gU _ _ (by decide)
theorem vC {x:Int}(h0:0≤x)(h1:x≤99999):bQ 5 (dec x)=some x:=by
 rw[kE 5 x.toNat (by omega) (by omega) (by omega)];simp;omega
theorem rV {xs:List Int}{many:Nat}(hne:xs≠ [])(hl:xs.length=many)(h: ∀x∈xs,0≤x∧x≤99999):bI many (aT xs)=some xs:=by
 unfold bI
 rw[aIa hne,if_pos]
 ·rw[List.map_map]
  congr 1
  refine(List.map_congr_left (g:=id) ?_).trans (List.map_id _)
  intro x hx
  show(bQ 5 (dec x)).getD 0=x
  rw[vC (h x hx).1 (h x hx).2];rfl
 ·refine⟨by simpa using hl,?_⟩
  simp only[List.all_eq_true,List.mem_map]
  rintro _ ⟨x,hx,rfl⟩
  rw[vC (h x hx).1 (h x hx).2];rfl
def at4 (l:List Int)(k:Nat):Int:=l[k]?.getD 0
def oJ (l:List Int):bC:=(at4 l 0,at4 l 1,at4 l 2,at4 l 3)
def jB (l:List UInt8):List Int:=(aL 44 l).map eF
def eO (ps:List (List UInt8))(k:Nat):List UInt8:=ps[k]?.getD []
def eE (ps:List (List UInt8)):Bool:=decide (4≤ps.length)&&(cF (eO ps 0)).isSome&&decide ((aL 44 (eO ps 1)).length=4)&&(ps.drop 4).all (fun p=>decide ((aL 44 p).length=4))
def dD (ps:List (List UInt8)):Bool:=decide (4≤ps.length)&&(cF (eO ps 0)).isSome&&(bI 4 (eO ps 1)).isSome&&(bI 1 (eO ps 2)).isSome&&(bI 1 (eO ps 3)).isSome&&(ps.drop 4).all (fun p=>(bI 4 p).isSome)
def cI (ps:List (List UInt8)):aV:=
 let s:=(cF (eO ps 0)).getD (0,0,[])
 let t:=jB (eO ps 1)
 ⟨s.1,s.2.1,s.2.2,at4 t 0,at4 t 1,at4 t 2,at4 t 3,eF (eO ps 2),eF (eO ps 3),(ps.drop 4).map (fun p=>oJ (jB p))⟩
def aW (l:List UInt8):Option aV:=
 if dD (aL 59 l)=true∧bN (cI (aL 59 l))=true∧aU (cI (aL 59 l))=l then some (cI (aL 59 l))else none
theorem kP {m:Nat}{p:List UInt8}{xs:List Int}(h:bI m p=some xs):jB p=xs∧(aL 44 p).length=m:=by
 unfold bI at h
 split at h
 ·rename_i hc
  cases h
  refine⟨?_,hc.1⟩
  refine List.map_congr_left ?_
  intro c hcc
  have:=List.all_eq_true.1 hc.2 c hcc
  show(bQ 5 c).getD (-1)=(bQ 5 c).getD 0
  cases hr:bQ 5 c with
  |none=>rw[hr]at this;simp at this
  |some x=>rfl
 ·simp at h
theorem qO (c:UInt8)(hc:cQ c=false)(h44:c≠44)(xs:List Int):c∉aT xs:=by
 refine vV 44 c h44 _ ?_
 intro p hp
 simp only[List.mem_map]at hp
 obtain⟨x,_,rfl⟩:=hp
 exact gU _ _ hc
theorem aEo {aA aB:Int}{xs:List Int}:(59:UInt8)∉bO aA aB xs:=by
 unfold bO
 split
 ·suffices h: ∀k,(59:UInt8)∉aS aA xs k from h _
  intro k
  induction k with
  |zero=>simp[aS]
  |succ k ih=>
   simp only[aS,List.mem_append,not_or]
   refine⟨⟨ih,?_⟩,lK (by decide) (by decide)⟩
   unfold cK
   split
   ·simp
   ·split<;>simp
 ·simp
theorem sI {h:aV}(hok:bN h=true):aL 59 (aU h)=dC h:=by
 rw[aU,if_pos hok]
 refine pB 59 _ (by simp[dC]) ?_
 intro p hp
 simp only[dC,List.mem_cons,List.mem_map]at hp
 rcases hp with rfl|rfl|rfl|rfl|⟨v,_,rfl⟩
 ·exact aEo
 ·exact qO 59 (by decide) (by decide) _
 ·exact gU _ _ (by decide)
 ·exact gU _ _ (by decide)
 ·exact qO 59 (by decide) (by decide) _
theorem vX {h:aV}(hok:bN h=true):dD (aL 59 (aU h))=true∧cI (aL 59 (aU h))=h:=by
 obtain⟨hh,f0,f1,s0,s1,p0,p1,c0,c1,k0,k1,b0,b1,vl,hv⟩:=mY hok
 rw[sI hok]
 have n4:bI 4 (aT [h.free,h.step,h.aD,h.aH])=some [h.free,h.step,h.aD,h.aH]:=rV (by simp) rfl (by intro x hx;simp at hx;omega)
 have one: ∀x:Int,0≤x→x≤99999→bI 1 (dec x)=some [x]:=by
  intro x a b
  have:=rV (xs:= [x]) (many:=1) (by simp) rfl (by intro y hy;simp at hy;omega)
  simpa[aT,dQ,jX]using this
 have nv: ∀v∈h.vs,bI 4 (aT (bH v))=some (bH v):=by
  intro v hvv
  have:=hv v hvv
  exact rV (by simp[bH]) rfl (by intro x hx;simp[bH]at hx;omega)
 have p0:eO (dC h) 0=bO h.aA h.aB h.cells:=rfl
 have p1:eO (dC h) 1=aT [h.free,h.step,h.aD,h.aH]:=rfl
 have p2:eO (dC h) 2=dec h.aC:=rfl
 have p3:eO (dC h) 3=dec h.aI:=rfl
 have p4:(dC h).drop 4=h.vs.map (fun v=>aT (bH v)):=rfl
 have w: ∀x:Int,0≤x→x≤99999→eF (dec x)=x:=by
  intro x a b;unfold eF;rw[vC a b];rfl
 constructor
 ·unfold dD
  rw[p0,p1,p2,p3,p4,pL hh,n4,one _ k0 (by omega),one _ b0 b1]
  have hp:4≤(dC h).length:=by simp[dC]
  simp only[hp,decide_true,Option.isSome_some,Bool.and_true,Bool.true_and,List.all_eq_true,List.mem_map]
  rintro _ ⟨v,hvv,rfl⟩
  rw[nv v hvv];rfl
 ·unfold cI
  rw[p0,p1,p2,p3,p4,pL hh,(kP n4).1,w _ k0 (by omega),w _ b0 b1]
  have e:(h.vs.map (fun v=>aT (bH v))).map (fun p=>oJ (jB p))=h.vs:=by
   rw[List.map_map]
   refine(List.map_congr_left (g:=id) ?_).trans (List.map_id _)
   intro v hvv
   show oJ (jB (aT (bH v)))=v
   rw[(kP (nv v hvv)).1]
   rfl
  rw[e]
  rfl
theorem kT {h:aV}(hok:bN h=true):aW (aU h)=some h:=by
 obtain⟨a,b⟩:=vX hok
 unfold aW
 rw[b]
 exact if_pos ⟨a,hok,rfl⟩
theorem iT {l:List UInt8}{h:aV}(e:aW l=some h):bN h=true∧aU h=l:=by
 unfold aW at e
 split at e
 ·rename_i hc;cases e;exact hc.2
 ·simp at e
theorem aKx {ps:List (List UInt8)}(h:dD ps=true):eE ps=true:=by
 simp only[dD,Bool.and_eq_true,decide_eq_true_eq,List.all_eq_true]at h
 obtain⟨⟨⟨⟨⟨h0,h1⟩,h2⟩,h3⟩,h4⟩,h5⟩:=h
 simp only[eE,Bool.and_eq_true,decide_eq_true_eq,List.all_eq_true]
 have q: ∀p,(bI 4 p).isSome=true→(aL 44 p).length=4:=by
  intro p hp
  obtain⟨x,hx⟩:=Option.isSome_iff_exists.1 hp
  exact(kP hx).2
 exact⟨⟨⟨h0,h1⟩,q _ h2⟩,fun p hp=>q p (h5 p hp)⟩
theorem sU (l:List UInt8):aW l=if eE (aL 59 l)=true∧bN (cI (aL 59 l))=true∧aU (cI (aL 59 l))=l then some (cI (aL 59 l))else none:=by
 unfold aW
 by_cases hi:dD (aL 59 l)=true
 ·simp only[hi,aKx hi,true_and]
 ·rw[if_neg (fun hc=>hi hc.1),if_neg]
  rintro⟨_,b,c⟩
  have:=(vX b).1
  rw[c]at this
  exact hi this
theorem aGc (n:Nat):(madeCells (Value.string ⟨#[]⟩).cells (n*1)).toList=List.replicate n (Value.string ⟨#[]⟩):=by
 apply List.ext_getElem<;>simp[madeCells,Value.cells,Nat.mod_one]
theorem qE {xs:List Int}{k:Nat}(hl:(xs.take k).length=k):(mO ((xs.take k).map dec)).length=k:=by simp only[mO,List.length_map];exact hl
theorem aFl {xs:List Int}{k n:Nat}{x:Int}(h:k<n)(hx:xs[k]? =some x) (hl:(xs.take k).length=k):(mO ((xs.take k).map dec)++List.replicate (n-k) (Value.string ⟨#[]⟩)).set k (str (dec x))=mO ((xs.take (k+1)).map dec)++List.replicate (n-(k+1)) (Value.string ⟨#[]⟩):=by
 rw[bF hx,show n-k=(n-(k+1))+1 by omega,List.replicate_succ]
 rw[List.set_append_right _ _ (by rw[qE hl];exact Nat.le_refl _),qE hl,Nat.sub_self,List.set_cons_zero]
 simp[mO]
theorem aH2 {xs:List Int}{k n:Nat}(h:k<n)(hl:(xs.take k).length=k):(mO ((xs.take k).map dec)++List.replicate (n-k) (Value.string ⟨#[]⟩))[k]? =some (Value.string ⟨#[]⟩):=by
 rw[List.getElem?_append_right (by rw[qE hl];exact Nat.le_refl _),qE hl,Nat.sub_self,show n-k=(n-(k+1))+1 by omega,List.replicate_succ];rfl
set_option maxRecDepth 100000 in
set_option maxHeartbeats 1000000 in
theorem lI (p:Option Addr)(n cap:Nat)(xs:List Int)(w:World)(hn0:0<n)(hn:n≤10)(hx: ∀x∈xs,0≤x∧x≤9223372036854775807)(hE:Env w)(hS:Sl w p n cap 1 (ivs xs)):
  Calls Tryz.prog 98 #[.slice p n cap] w fun e w'=>e= .returned (str (aT xs))∧Ext w w':=by
 obtain⟨i0,hi,hz0,hz1,hz2⟩:=info_parts (show(Tryz.prog.info? 9).map (fun i=>(i.zero,i.size,i.bytes))=some (some (.string ⟨#[]⟩),1,16) by kernel_rfl)
 have hl:=xQ hS.ilen
 have HS:=xQ hS
 have HX:=xQ hx
 have HE:=xQ hE
 have HL:Hid ((aT xs).length≤140737488355328):=by
  show _≤_
  have h1:=aB9 44 21 ((xs.map dec).drop 1) (fun y hy=>by
   obtain⟨z,hz,rfl⟩:=List.mem_map.1 (List.mem_of_mem_drop hy)
   exact dK z (hx z hz).2)
  have h2:xs.length=n:=hS.ilen
  unfold aT
  cases hq:xs.map dec with
  |nil=>simp[dQ]
  |cons a r=>
   have ha:a.length≤21:=by
    have:a∈xs.map dec:=by rw[hq];simp
    obtain⟨z,hz,rfl⟩:=List.mem_map.1 this
    exact dK z (hx z hz).2
   have hr:r.length+1=n:=by have:=congrArg List.length hq;simp at this;omega
   rw[hq]at h1
   simp only[List.drop_succ_cons,List.drop_zero]at h1
   simp only[dQ,List.length_append]
   omega
 clear hS hx hE
 go_enter Tryz.func98,Tryz.ntmps98
 go_wp2_with (at_make;refine wpList_make_full _ rfl _ _ 77 rfl w.heap.size 9 i0 (.string ⟨#[]⟩) 1 Tryz.underlying77 hi hz0 hz1 .i64 .i64 _ _ n rfl rfl rfl rfl (by rw[hz2];omega) (by unfold maxLen;omega) (Nat.le_refl _) ?_;intro w0 hown0 hgrow0)
 have hE0:Ext w w0:=(Ext.refl w).grown hgrow0 (fun q hq=>by cases hq)
 have hg0:=(hown0.lt w.heap.size rfl).2
 rw[aGc]at hown0
 have HO0:=xQ hown0
 clear hown0 hgrow0 hi hz0 hz1 hz2
 go_loopw [11] (fun i wr=> ∃k:Nat,k≤n∧i= .int .i64 k∧wr.ownsRow w.heap.size 9 1 (.slice (some ⟨w.heap.size,0,none⟩) n n) n (mO ((xs.take k).map dec)++List.replicate (n-k) (Value.string ⟨#[]⟩))∧Ext w wr) (fun i _=>n-(intOf i).toNat)
 case atStart=>exact⟨0,Nat.zero_le _,rfl,by simpa[mO]using HO0.out,hE0⟩
 case round=>
  obtain⟨k,hk,rfl,hown,hEr⟩:=hrel
  have HO:=xQ hown
  clear hown
  by_cases hlt:k<n
  ·obtain⟨b,off,x,rfl,hx,hb,hcell⟩:=(HS.out.ext hEr).int_at hlt
   obtain⟨hx0,hx1⟩:=HX.out x (List.mem_of_getElem? hx)
   have HXk:=xQ hx
   clear hx
   have hlt':(xs.take k).length=k:=by rw[List.length_take,hl.out];omega
   go_wp2_with fail
   refine(yQ x _ hx0 hx1 (HE.out.ext xE)).mono ?_
   rintro e w1 ⟨rfl,h1⟩
   have hown1:=HO.out.kept h1.gb (by simp[Value.ownBlock])
   have hg1:w.heap.size<w1.heap.size:=(hown1.lt w.heap.size rfl).2
   have o0:w1.cell? ⟨w.heap.size,k,none⟩=some (.string ⟨#[]⟩):=by
    rw[hown1.cellAt k (by omega)]
    exact aH2 hlt hlt'
   have f0:w1.frozen? ⟨w.heap.size,k,none⟩=false:=hown1.frozenAt k
   have HN:Hid ((w1.setCell ⟨w.heap.size,k,none⟩ (str (dec x))).ownsRow w.heap.size 9 1 (.slice (some ⟨w.heap.size,0,none⟩) n n) n (mO ((xs.take (k+1)).map dec)++List.replicate (n-(k+1)) (Value.string ⟨#[]⟩))):=by
    have:=(hown1.stored k (str (dec x))).1
    rw[aFl hlt HXk.out hlt']at this
    exact this
   have hszr:=hEr.sz
   clear hown1
   go_wp2
   go_roundw
   case rel=>exact⟨k+1,by omega,by go_num,HN.out,xE⟩
   case measure=>simp[intOf];omega
  ·have hfin:Hid (wr.ownsRow w.heap.size 9 1 (.slice (some ⟨w.heap.size,0,none⟩) n n) n (mO (xs.map dec))):=by
    have:=HO.out
    rw[show n-k=0 by omega,List.replicate_zero,List.append_nil,List.take_of_length_le (by rw[hl.out];omega)]at this
    exact this
   go_wp2_with fail
   refine(aCf (xs.map dec) 44 _ n n _ (by rw[List.length_map];exact hl.out) hn0 (Sl.own hfin.out) HL.out (by omega)).mono ?_
   rintro e w1 ⟨rfl,h1⟩
   go_wp2
   go_ret
   exact⟨rfl,xE⟩
theorem aL2:ElT Tryz.prog 77 9 1:=
 ⟨Tryz.underlying77,by
  obtain⟨i,hi,h0,h1,h2⟩:=info_parts (show(Tryz.prog.info? 9).map (fun i=>(i.zero,i.size,i.bytes))=some (some (.string ⟨#[]⟩),1,16) by kernel_rfl)
  exact⟨i,_,hi,h0,h1,by omega,rfl⟩,Nat.one_pos⟩
theorem yE (xs:List (List UInt8)):xs.flatMap (fun s=> [str s])=mO xs:=by induction xs with|nil=>rfl|cons x xs ih=>simp_all [mO]
theorem pZ {w:World}{ops:Array Oper}{rest:List Oper}{o:Oper}{a:Act}{Q:Exit→Act→World→Prop}(hgd:o.guard=none)(s x:Operand)
  (ho:o.op= .call {callee:= .builtin .append,args:=#[s,x],argTypes:=#[77,77]})
  (base:Nat)(v:Value)(n:Nat)(xs:List (List UInt8))(hs:a.eval s=v)(hown:w.ownsRow base 9 1 v n (mO xs))
  (b off:Nat)(y:List UInt8)(c:Nat)(hx:a.eval x= .slice (some ⟨b,off,none⟩) 1 c)(hc:w.cell? ⟨b,off,none⟩=some (str y))
  (hn:n≤1099511627776)(hbase:base≤w.heap.size)
  (h: ∀p' cap' w',w'.ownsRow base 9 1 (.slice p' (n+1) cap') (n+1) (mO (xs++ [y]))→w.grownBy w' v.ownBlock→wpList Tryz.prog ops Q rest (a.put o.dst (.slice p' (n+1) cap')) w'):wpList Tryz.prog ops Q (o::rest) a w:=by
 refine gI aL2 (f:=fun x=> [str x]) (fun _=>rfl) (fun _ u hu=>by simp at hu;subst hu;rfl) hgd s x ho base v n xs hs (by rw[yE];exact hown) b off y c hx (fun j u hu=> ?_) hn hbase (fun p' cap' w' h2 h3=>h p' cap' w' (by rw[yE]at h2;exact h2) h3)
 match j,hu with
 |0,hu=>simp at hu;subst hu;exact hc
theorem Blk.sl {w:World}{g n:Nat}{t:TypeId}{cs:Array Value}(h:Blk w g t cs)(hn:cs.size=n)(hm:n≤maxLen):Sl w (some ⟨g,0,none⟩) n n 1 cs.toList:=
 ⟨by simpa using hn,Nat.le_refl _,hm,fun _=>⟨g,0,rfl,h.lt,fun k hk=>by rw[Nat.zero_add,h.cell k];simp⟩⟩
theorem Blk.own {w:World}{g n base:Nat}{t:TypeId}{cs:Array Value}(h:Blk w g t cs)(hn:cs.size=n)(hm:n≤maxLen)(hb:base≤g):w.ownsRow base t 1 (.slice (some ⟨g,0,none⟩) n n) n cs.toList:=
 ⟨by simpa using hn,.inr ⟨g,n,cs,rfl,hb,h,Nat.le_refl _,hm,by omega,by rw[Nat.mul_one,List.take_of_length_le (by simp;omega)]⟩⟩
set_option maxRecDepth 100000 in
set_option maxHeartbeats 1000000 in
theorem aAf (aA aB free step aD aH aC aI:Int)(p:Option Addr)(n cap:Nat)(q:Option Addr)(m c2:Nat)(w:World)(vs:List bC)(p1 p2 p3 p4:List UInt8)(hm12:m≤12)(hl:Hid (vs.length=m))(HS:Hid (Sl w q m c2 4 (vs.flatMap aE)))
  (HL:Hid ((dQ 59 ([p1,p2,p3,p4]++vs.map (fun v=>aT (bH v)))).length≤140737488355328))
  (HN:Hid (∀v∈vs,∀w' g,Ext w w'→Sl w' (some g) 4 4 1 (ivs (bH v))→Calls Tryz.prog 98 #[.slice (some g) 4 4] w' fun e w''=>e= .returned (str (aT (bH v)))∧Ext w' w''))
  (HV:Hid (∀w',Ext w w'→Calls Tryz.prog 16 #[.agg #[.int .i64 aA,.int .i64 aB,.slice p n cap,.int .i64 free,.int .i64 step,.int .i64 aD,.int .i64 aH,.int .i64 aC,.int .i64 aI,.slice q m c2]] w' fun e w''=>e= .returned (.bool true)∧Ext w' w''))
  (H1:Hid (∀w',Ext w w'→Calls Tryz.prog 68 #[aJ aA aB p n cap] w' fun e w''=>e= .returned (str p1)∧Ext w' w''))
  (H2:Hid (∀w' g,Ext w w'→Sl w' (some g) 4 4 1 (ivs [free,step,aD,aH])→Calls Tryz.prog 98 #[.slice (some g) 4 4] w' fun e w''=>e= .returned (str p2)∧Ext w' w''))
  (H3:Hid (∀w' g,Ext w w'→Sl w' (some g) 1 1 1 (ivs [aC])→Calls Tryz.prog 98 #[.slice (some g) 1 1] w' fun e w''=>e= .returned (str p3)∧Ext w' w''))
  (H4:Hid (∀w' g,Ext w w'→Sl w' (some g) 1 1 1 (ivs [aI])→Calls Tryz.prog 98 #[.slice (some g) 1 1] w' fun e w''=>e= .returned (str p4)∧Ext w' w'')):
  Calls Tryz.prog 46 #[.agg #[.int .i64 aA,.int .i64 aB,.slice p n cap,.int .i64 free,.int .i64 step,.int .i64 aD,.int .i64 aH,.int .i64 aC,.int .i64 aI,.slice q m c2]] w fun e w'=>e= .returned (str (dQ 59 ([p1,p2,p3,p4]++vs.map (fun v=>aT (bH v)))))∧Ext w w':=by
 go_enter Tryz.func46,Tryz.ntmps46
 go_wp2_with fail
 refine(HV.out _ xE).mono ?_
 rintro e w0 ⟨rfl,hh0⟩
 have B0:=xQ ((Blk.new w 30 #[.int .i64 aA,.int .i64 aB,.slice p n cap,.int .i64 free,.int .i64 step,.int .i64 aD,.int .i64 aH,.int .i64 aC,.int .i64 aI,.slice q m c2]).ext hh0)
 have X0:Hid (Ext w w0):=by show Ext w w0;exact xE
 have X0':=X0.out
 have hz0:w.heap.size<w0.heap.size:=B0.out.lt
 clear hh0
 go_wp2
 refine cM (gl [gEq (.pointer (some ⟨w.heap.size,0,none⟩)),gEq (aJ aA aB p n cap),gEq (str p1),gEq (.pointer (some ⟨w.heap.size,3,none⟩)),gEq (.pointer (some ⟨w.heap.size,3,none⟩)),gEq (.int .i64 free),gEq (.pointer (some ⟨w.heap.size,3,none⟩)),gEq (.pointer (some ⟨w.heap.size,4,none⟩)),gEq (.int .i64 step),gEq (.pointer (some ⟨w.heap.size,3,none⟩)),gEq (.pointer (some ⟨w.heap.size,5,none⟩)),gEq (.int .i64 aD),gEq (.pointer (some ⟨w.heap.size,3,none⟩)),gEq (.pointer (some ⟨w.heap.size,6,none⟩)),gEq (.int .i64 aH),xP (w.heap.size) TI #[.int .i64 free,.int .i64 step,.int .i64 aD,.int .i64 aH] 4,gEq (str p2),gEq (.pointer (some ⟨w.heap.size,7,none⟩)),gEq (.int .i64 aC),xP (w.heap.size) TI #[.int .i64 aC] 1,gEq (str p3),gEq (.pointer (some ⟨w.heap.size,8,none⟩)),gEq (.int .i64 aI),xP (w.heap.size) TI #[.int .i64 aI] 1,gEq (str p4),xP (w.heap.size+1) 9 #[str p1,str p2,str p3,str p4] 4]) 26 (by kernel_rfl) rfl (by kernel_rfl) (by kernel_rfl) (by kernel_rfl) (eG (aG (aF _) (aG (aF _) (aG (aF _) (aG (aF _) (aG (aF _) (aG (aF _) (aG (aF _) (aG (aF _) (aG (aF _) (aG (aF _) (aG (aF _) (aG (aF _) (aG (aF _) (aG (aF _) (aG (aF _) (aG (jH _ _ _ _) (aG (aF _) (aG (aF _) (aG (aF _) (aG (jH _ _ _ _) (aG (aF _) (aG (aF _) (aG (aF _) (aG (jH _ _ _ _) (aG (aF _) (aG (jH _ _ _ _) (fN)))))))))))))))))))))))))))) (k:=27) (by kernel_rfl) (by decide) (ls:= [(0,some 9),(1,some 10),(2,some 11),(3,some 12),(4,some 13),(5,some 14),(6,some 15),(7,some 16),(8,some 17),(9,some 18),(10,some 19),(11,some 20),(12,some 21),(13,some 22),(14,some 23),(15,some 24),(16,some 25),(17,some 26),(18,some 27),(19,some 28),(20,some 29),(21,some 30),(22,some 31),(23,some 32),(24,some 33),(25,some 34)]) (by kernel_rfl) (ir:= [0,1,2,3,4,5,6,7,8,9,10,11,12,13,14,15,16,17,18,19,20,21,22,23,24,25]) (by kernel_rfl) ?steps (tl:=#[true,true,true,true,true,true,true,true,true,true,true,true,true,true,true,true,true,true,true,true,true,true,true,true,true,true,false]) (by kernel_rfl) ?fin
 case steps=>
  refine sC [] rfl (fun wi hx=> ?_) ?_
  ·intro K hK
   go_simp
   exact hK _ _ ⟨.pointer (some ⟨w.heap.size,0,none⟩),rfl,rfl,Ext.refl _⟩
  refine sC [(0,some 9)] rfl (fun wi hx=> ?_) ?_
  ·intro v0 h0 K hK
   obtain rfl:=h0
   have B:=xQ (B0.out.ext hx.of_drew)
   have c0:wi.cell? ⟨w.heap.size,0,none⟩=some (.int .i64 aA):=B.out.cell 0
   have c1:wi.cell? ⟨w.heap.size,1,none⟩=some (.int .i64 aB):=B.out.cell 1
   have c2:wi.cell? ⟨w.heap.size,2,none⟩=some (.slice p n cap):=B.out.cell 2
   go_simp
   exact hK _ _ ⟨aJ aA aB p n cap,rfl,rfl,Ext.refl _⟩
  refine sC [(1,some 10)] rfl (fun wi hx=> ?_) ?_
  ·intro v1 h1 K hK
   obtain rfl:=h1
   go_wp2_with fail
   refine(H1.out _ xE).mono ?_
   rintro e w2 ⟨rfl,hx2⟩
   go_simp
   exact hK _ _ ⟨str p1,rfl,rfl,hx2⟩
  refine sC [] rfl (fun wi hx=> ?_) ?_
  ·intro K hK
   go_simp
   exact hK _ _ ⟨.pointer (some ⟨w.heap.size,3,none⟩),rfl,rfl,Ext.refl _⟩
  refine sC [(3,some 12)] rfl (fun wi hx=> ?_) ?_
  ·intro v3 h3 K hK
   obtain rfl:=h3
   go_simp
   exact hK _ _ ⟨.pointer (some ⟨w.heap.size,3,none⟩),rfl,rfl,Ext.refl _⟩
  refine sC [(4,some 13)] rfl (fun wi hx=> ?_) ?_
  ·intro v4 h4 K hK
   obtain rfl:=h4
   have B:=xQ (B0.out.ext hx.of_drew)
   have c3:wi.cell? ⟨w.heap.size,3,none⟩=some (.int .i64 free):=B.out.cell 3
   go_simp
   exact hK _ _ ⟨.int .i64 free,rfl,rfl,Ext.refl _⟩
  refine sC [] rfl (fun wi hx=> ?_) ?_
  ·intro K hK
   go_simp
   exact hK _ _ ⟨.pointer (some ⟨w.heap.size,3,none⟩),rfl,rfl,Ext.refl _⟩
  refine sC [(6,some 15)] rfl (fun wi hx=> ?_) ?_
  ·intro v6 h6 K hK
   obtain rfl:=h6
   go_simp
   exact hK _ _ ⟨.pointer (some ⟨w.heap.size,4,none⟩),rfl,rfl,Ext.refl _⟩
  refine sC [(7,some 16)] rfl (fun wi hx=> ?_) ?_
  ·intro v7 h7 K hK
   obtain rfl:=h7
   have B:=xQ (B0.out.ext hx.of_drew)
   have c4:wi.cell? ⟨w.heap.size,4,none⟩=some (.int .i64 step):=B.out.cell 4
   go_simp
   exact hK _ _ ⟨.int .i64 step,rfl,rfl,Ext.refl _⟩
  refine sC [] rfl (fun wi hx=> ?_) ?_
  ·intro K hK
   go_simp
   exact hK _ _ ⟨.pointer (some ⟨w.heap.size,3,none⟩),rfl,rfl,Ext.refl _⟩
  refine sC [(9,some 18)] rfl (fun wi hx=> ?_) ?_
  ·intro v9 h9 K hK
   obtain rfl:=h9
   go_simp
   exact hK _ _ ⟨.pointer (some ⟨w.heap.size,5,none⟩),rfl,rfl,Ext.refl _⟩
  refine sC [(10,some 19)] rfl (fun wi hx=> ?_) ?_
  ·intro v10 h10 K hK
   obtain rfl:=h10
   have B:=xQ (B0.out.ext hx.of_drew)
   have c5:wi.cell? ⟨w.heap.size,5,none⟩=some (.int .i64 aD):=B.out.cell 5
   go_simp
   exact hK _ _ ⟨.int .i64 aD,rfl,rfl,Ext.refl _⟩
  refine sC [] rfl (fun wi hx=> ?_) ?_
  ·intro K hK
   go_simp
   exact hK _ _ ⟨.pointer (some ⟨w.heap.size,3,none⟩),rfl,rfl,Ext.refl _⟩
  refine sC [(12,some 21)] rfl (fun wi hx=> ?_) ?_
  ·intro v12 h12 K hK
   obtain rfl:=h12
   go_simp
   exact hK _ _ ⟨.pointer (some ⟨w.heap.size,6,none⟩),rfl,rfl,Ext.refl _⟩
  refine sC [(13,some 22)] rfl (fun wi hx=> ?_) ?_
  ·intro v13 h13 K hK
   obtain rfl:=h13
   have B:=xQ (B0.out.ext hx.of_drew)
   have c6:wi.cell? ⟨w.heap.size,6,none⟩=some (.int .i64 aH):=B.out.cell 6
   go_simp
   exact hK _ _ ⟨.int .i64 aH,rfl,rfl,Ext.refl _⟩
  refine sC [(5,some 14),(8,some 17),(11,some 20),(14,some 23)] rfl (fun wi hx=> ?_) ?_
  ·intro v5 h5 v8 h8 v11 h11 v14 h14 K hK
   obtain rfl:=h5
   obtain rfl:=h8
   obtain rfl:=h11
   obtain rfl:=h14
   go_simp
   exact hK _ _ ⟨.slice (some ⟨wi.heap.size,0,none⟩) 4 4,rfl,⟨wi.heap.size,rfl,by have:=hx.sz;simp at this;omega,Blk.new _ _ _⟩,(Ext.refl _).alloc _⟩
  refine sC [(15,some 24)] rfl (fun wi hx=> ?_) ?_
  ·intro v15 h15 K hK
   obtain⟨g15,rfl,hg15,B15⟩:=h15
   go_wp2_with fail
   refine(H2.out _ _ xE (by have:=B15.sl (n:=4) rfl (by simp[maxLen]);simpa using this)).mono ?_
   rintro e w2 ⟨rfl,hx2⟩
   go_simp
   exact hK _ _ ⟨str p2,rfl,rfl,hx2⟩
  refine sC [] rfl (fun wi hx=> ?_) ?_
  ·intro K hK
   go_simp
   exact hK _ _ ⟨.pointer (some ⟨w.heap.size,7,none⟩),rfl,rfl,Ext.refl _⟩
  refine sC [(17,some 26)] rfl (fun wi hx=> ?_) ?_
  ·intro v17 h17 K hK
   obtain rfl:=h17
   have B:=xQ (B0.out.ext hx.of_drew)
   have c7:wi.cell? ⟨w.heap.size,7,none⟩=some (.int .i64 aC):=B.out.cell 7
   go_simp
   exact hK _ _ ⟨.int .i64 aC,rfl,rfl,Ext.refl _⟩
  refine sC [(18,some 27)] rfl (fun wi hx=> ?_) ?_
  ·intro v18 h18 K hK
   obtain rfl:=h18
   go_simp
   exact hK _ _ ⟨.slice (some ⟨wi.heap.size,0,none⟩) 1 1,rfl,⟨wi.heap.size,rfl,by have:=hx.sz;simp at this;omega,Blk.new _ _ _⟩,(Ext.refl _).alloc _⟩
  refine sC [(19,some 28)] rfl (fun wi hx=> ?_) ?_
  ·intro v19 h19 K hK
   obtain⟨g19,rfl,hg19,B19⟩:=h19
   go_wp2_with fail
   refine(H3.out _ _ xE (by have:=B19.sl (n:=1) rfl (by simp[maxLen]);simpa using this)).mono ?_
   rintro e w2 ⟨rfl,hx2⟩
   go_simp
   exact hK _ _ ⟨str p3,rfl,rfl,hx2⟩
  refine sC [] rfl (fun wi hx=> ?_) ?_
  ·intro K hK
   go_simp
   exact hK _ _ ⟨.pointer (some ⟨w.heap.size,8,none⟩),rfl,rfl,Ext.refl _⟩
  refine sC [(21,some 30)] rfl (fun wi hx=> ?_) ?_
  ·intro v21 h21 K hK
   obtain rfl:=h21
   have B:=xQ (B0.out.ext hx.of_drew)
   have c8:wi.cell? ⟨w.heap.size,8,none⟩=some (.int .i64 aI):=B.out.cell 8
   go_simp
   exact hK _ _ ⟨.int .i64 aI,rfl,rfl,Ext.refl _⟩
  refine sC [(22,some 31)] rfl (fun wi hx=> ?_) ?_
  ·intro v22 h22 K hK
   obtain rfl:=h22
   go_simp
   exact hK _ _ ⟨.slice (some ⟨wi.heap.size,0,none⟩) 1 1,rfl,⟨wi.heap.size,rfl,by have:=hx.sz;simp at this;omega,Blk.new _ _ _⟩,(Ext.refl _).alloc _⟩
  refine sC [(23,some 32)] rfl (fun wi hx=> ?_) ?_
  ·intro v23 h23 K hK
   obtain⟨g23,rfl,hg23,B23⟩:=h23
   go_wp2_with fail
   refine(H4.out _ _ xE (by have:=B23.sl (n:=1) rfl (by simp[maxLen]);simpa using this)).mono ?_
   rintro e w2 ⟨rfl,hx2⟩
   go_simp
   exact hK _ _ ⟨str p4,rfl,rfl,hx2⟩
  refine sC [(2,some 11),(16,some 25),(20,some 29),(24,some 33)] rfl (fun wi hx=> ?_) StepsL.nil
  ·intro v2 h2 v16 h16 v20 h20 v24 h24 K hK
   obtain rfl:=h2
   obtain rfl:=h16
   obtain rfl:=h20
   obtain rfl:=h24
   go_simp
   exact hK _ _ ⟨.slice (some ⟨wi.heap.size,0,none⟩) 4 4,rfl,⟨wi.heap.size,rfl,by have:=hx.sz;simp at this;omega,Blk.new _ _ _⟩,(Ext.refl _).alloc _⟩
 case fin=>
  intro wi hx v0 h0 v1 h1 v2 h2 v3 h3 v4 h4 v5 h5 v6 h6 v7 h7 v8 h8 v9 h9 v10 h10 v11 h11 v12 h12 v13 h13 v14 h14 v15 h15 v16 h16 v17 h17 v18 h18 v19 h19 v20 h20 v21 h21 v22 h22 v23 h23 v24 h24 v25 h25
  obtain rfl:=h0
  obtain rfl:=h1
  obtain rfl:=h2
  obtain rfl:=h3
  obtain rfl:=h4
  obtain rfl:=h5
  obtain rfl:=h6
  obtain rfl:=h7
  obtain rfl:=h8
  obtain rfl:=h9
  obtain rfl:=h10
  obtain rfl:=h11
  obtain rfl:=h12
  obtain rfl:=h13
  obtain rfl:=h14
  obtain⟨g15,rfl,hg15,B15⟩:=h15
  obtain rfl:=h16
  obtain rfl:=h17
  obtain rfl:=h18
  obtain⟨g19,rfl,hg19,B19⟩:=h19
  obtain rfl:=h20
  obtain rfl:=h21
  obtain rfl:=h22
  obtain⟨g23,rfl,hg23,B23⟩:=h23
  obtain rfl:=h24
  obtain⟨g25,rfl,hg25,B25⟩:=h25
  refine wpAny_ready (rs:= [26]) (by kernel_rfl) (by simp) ?_
  refine AllReady.cons rfl (fun K hK=> ?_) AllReady.nil
  go_simp
  refine hK _ _ ?_
  clear hK K
  refine wpAny_done (by kernel_rfl) ?_ _
  have B1:=xQ (B0.out.ext hx.of_drew)
  have X1:=xQ (X0.out.trans hx.of_drew)
  have O1:=xQ (B25.own (n:=4) rfl (by simp[maxLen]) hg25)
  have z1:w.heap.size<wi.heap.size:=B1.out.lt
  clear B25 hx B0 X0 X0'
  have b9:wi.cell? ⟨w.heap.size,9,none⟩=some (.slice q m c2):=B1.out.cell 9
  go_wp2
  clear b9
  go_loopw [3,38] (fun v i wr=> ∃(k:Nat) (p':Option Addr) (cp:Nat),k≤m∧i= .int .i64 k∧v= .slice p' (4+k) cp∧wr.ownsRow (w.heap.size+1) 9 1 (.slice p' (4+k) cp) (4+k) (mO ([p1,p2,p3,p4]++(vs.take k).map (fun v=>aT (bH v))))∧Ext w wr∧w.heap.size+1≤wr.heap.size) (fun _ i _=>m-(intOf i).toNat)
  case atStart=>exact⟨0,some ⟨g25,0,none⟩,4,Nat.zero_le _,rfl,rfl,by simpa[mO]using O1.out,X1.out,by omega⟩
  case round=>
   clear O1 X1 B1 z1
   obtain⟨k,p',cp,hk,rfl,rfl,hown,hE,hsz⟩:=hrel
   have HO:=xQ hown
   clear hown
   by_cases hlt:k<m
   ·obtain⟨b,off,a0,a1,a2,a3,rfl,hv,hb,d0,d1,d2,d3⟩:=fR (HS.out.ext hE) hlt
    have HNk:=xQ (HN.out (a0,a1,a2,a3) (List.mem_of_getElem? hv))
    have HT:Hid ((vs.take (k+1)).map (fun v=>aT (bH v))=(vs.take k).map (fun v=>aT (bH v))++ [aT (bH (a0,a1,a2,a3))]):=by
     show _=_
     rw[bF hv];simp
    clear hv
    go_wp2_with fail
    refine(HNk.out _ _ (hE.trans xE) (by
     have:=(Blk.new (wr.alloc (.cells #[.int .i64 a0,.int .i64 a1,.int .i64 a2,.int .i64 a3] 38)) TI #[.int .i64 a0,.int .i64 a1,.int .i64 a2,.int .i64 a3]).sl (n:=4) rfl (by simp[maxLen])
     simpa[ivs,bH]using this)).mono ?_
    rintro e w2 ⟨rfl,hx2⟩
    have hE2:Ext wr w2:=xE
    have HO2:=xQ (aO HO.out hE2)
    have hsz2:wr.heap.size≤w2.heap.size:=hE2.sz
    have hEw:=xQ (hE.trans hE2)
    clear hx2 hE2 HO d0 d1 d2 d3
    go_wp2_with (at_builtin;refine pZ rfl _ _ rfl (w.heap.size+1) _ _ _ rfl (HO2.out.alloc _) _ _ (aT (bH (a0,a1,a2,a3))) _ rfl (by simp) (by omega) (by first|(simp;done)|(simp;omega)|omega) ?_;intro p2' cap' w3 hown1 hg1;have HO3:=xQ hown1;have hE3:Ext w w3:=Ext.own (hEw.out.alloc _) (HO2.out.alloc _) hg1 (by omega);have hsz3:w2.heap.size≤w3.heap.size:=Nat.le_trans (by simp) hg1.size;clear hown1 hg1)
    go_roundw
    case rel=>exact⟨k+1,p2',cap',by omega,by go_num,rfl,by rw[HT.out,←List.append_assoc];exact HO3.out,hE3,by omega⟩
    case measure=>simp[intOf];omega
   ·have hfin:Hid (wr.ownsRow (w.heap.size+1) 9 1 (.slice p' (4+k) cp) (4+k) (mO ([p1,p2,p3,p4]++vs.map (fun v=>aT (bH v))))):=by
     have:=HO.out
     rw[List.take_of_length_le (by rw[hl.out];omega)]at this
     exact this
    have hkm:k≤12:=by omega
    have hlen:Hid (([p1,p2,p3,p4]++vs.map (fun v=>aT (bH v))).length=4+k):=by show _=_;simp[hl.out];omega
    clear HO
    go_wp2_with fail
    refine(aCf ([p1,p2,p3,p4]++vs.map (fun v=>aT (bH v))) 59 _ (4+k) cp _ hlen.out (by omega) (Sl.own hfin.out) HL.out (by omega)).mono ?_
    rintro e w1 ⟨rfl,h1⟩
    go_wp2
    go_ret
    exact⟨rfl,xE⟩
set_option maxRecDepth 100000 in
set_option maxHeartbeats 1000000 in
theorem xK (aA aB free step aD aH aC aI:Int)(p:Option Addr)(n cap:Nat)(q:Option Addr)(m c2:Nat)(w:World)
  (HV:Hid (∀w',Ext w w'→Calls Tryz.prog 16 #[.agg #[.int .i64 aA,.int .i64 aB,.slice p n cap,.int .i64 free,.int .i64 step,.int .i64 aD,.int .i64 aH,.int .i64 aC,.int .i64 aI,.slice q m c2]] w' fun e w''=>e= .returned (.bool false)∧Ext w' w'')):
  Calls Tryz.prog 46 #[.agg #[.int .i64 aA,.int .i64 aB,.slice p n cap,.int .i64 free,.int .i64 step,.int .i64 aD,.int .i64 aH,.int .i64 aC,.int .i64 aI,.slice q m c2]] w fun e w'=>e= .returned (str [])∧Ext w w':=by
 go_enter Tryz.func46,Tryz.ntmps46
 go_wp2_with fail
 refine(HV.out _ xE).mono ?_
 rintro e w0 ⟨rfl,hh0⟩
 go_wp2
 go_ret
 exact⟨rfl,xE⟩
theorem aCe (c:UInt8)(M:Nat)(x:List UInt8)(r:List (List UInt8))(hx:x.length≤M)(h: ∀y∈r,y.length≤M):(dQ c (x::r)).length≤(M+1)*(r.length+1):=by
 have:=aB9 c M r h
 simp only[dQ,List.length_append]
 rw[Nat.mul_succ]
 unfold jX at*
 omega
theorem jN (h:aV)(p:Option Addr)(n cap:Nat)(q:Option Addr)(m c2:Nat)(w:World)(hE:Env w)(hi:IsHouse w h p n cap q m c2):
  Calls Tryz.prog 46 #[cH h p n cap q m c2] w fun e w'=>e= .returned (str (aU h))∧Ext w w':=by
 have HV:=fun(w':World) (hx:Ext w w')=>kO h p n cap q m c2 w' (hi.ext hx)
 have hvl:=hi.vlen
 unfold aU
 cases hok:bN h with
 |false=>
  rw[hok]at HV
  simpa using xK h.aA h.aB h.free h.step h.aD h.aH h.aC h.aI p n cap q m c2 w HV
 |true=>
  rw[hok]at HV
  obtain⟨g0,g1,g2,g3,g4,g5,g6,g7,g8,g9,g10,g11,g12,g13,g14⟩:=mY hok
  rw[if_pos rfl]
  have e:dC h= [bO h.aA h.aB h.cells,aT [h.free,h.step,h.aD,h.aH],aT [h.aC],aT [h.aI]]++h.vs.map (fun v=>aT (bH v)):=by
   rw[mU,mU];rfl
  rw[e]
  have l1:(bO h.aA h.aB h.cells).length≤400:=mZ
  have l2:=lW h.free h.step h.aD h.aH (by omega) (by omega) (by omega) (by omega)
  have l3:=dK h.aC (by omega)
  have l4:=dK h.aI (by omega)
  rw[←mU]at l3 l4
  have lv: ∀v∈h.vs,(aT (bH v)).length≤90:=fun v hv=>by
   have:=g14 v hv
   exact lW _ _ _ _ (by omega) (by omega) (by omega) (by omega)
  have HL:=aCe 59 400 (bO h.aA h.aB h.cells) ([aT [h.free,h.step,h.aD,h.aH],aT [h.aC],aT [h.aI]]++h.vs.map (fun v=>aT (bH v))) l1 (fun y hy=>by
   rcases List.mem_append.1 hy with hy|hy
   ·simp only[List.mem_cons,List.not_mem_nil,or_false]at hy
    rcases hy with rfl|rfl|rfl<;>omega
   ·obtain⟨v,hv,rfl⟩:=List.mem_map.1 hy
    have:=lv v hv;omega)
  have HL2:(dQ 59 ([bO h.aA h.aB h.cells,aT [h.free,h.step,h.aD,h.aH],aT [h.aC],aT [h.aI]]++h.vs.map (fun v=>aT (bH v)))).length≤140737488355328:=by
   refine Nat.le_trans HL ?_
   simp only[List.length_append,List.length_map,List.length_cons,List.length_nil]
   omega
  exact aAf h.aA h.aB h.free h.step h.aD h.aH h.aC h.aI p n cap q m c2 w h.vs _ _ _ _ (by omega) hvl hi.vs HL2
   (fun v hv w' g hx hs=>lI (some g) 4 4 (bH v) w' (by omega) (by omega) (fun x hx'=>by
    have:=g14 v hv
    simp only[bH,List.mem_cons,List.not_mem_nil,or_false]at hx'
    rcases hx' with rfl|rfl|rfl|rfl<;>omega) (hE.ext hx) hs)
   HV (fun w' hx=>kH h.aA h.aB p n cap h.cells w' (hE.ext hx) (hi.cells.ext hx))
   (fun w' g hx hs=>lI (some g) 4 4 _ w' (by omega) (by omega) (fun x hx'=>by
    simp only[List.mem_cons,List.not_mem_nil,or_false]at hx'
    rcases hx' with rfl|rfl|rfl|rfl<;>omega) (hE.ext hx) hs)
   (fun w' g hx hs=>lI (some g) 1 1 _ w' (by omega) (by omega) (fun x hx'=>by
    simp only[List.mem_cons,List.not_mem_nil,or_false]at hx'
    subst hx';omega) (hE.ext hx) hs)
   (fun w' g hx hs=>lI (some g) 1 1 _ w' (by omega) (by omega) (fun x hx'=>by
    simp only[List.mem_cons,List.not_mem_nil,or_false]at hx'
    subst hx';omega) (hE.ext hx) hs)
end Go.Proofs.YteejdnmmpmcmeaaGreatDoor
