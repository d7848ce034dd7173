/-
  Texts of this proof, packed (@packed).
-/
import Derived.Test.YtbgkcehffiogcabGreatDoorX30
namespace Go.Proofs.YtbgkcehffiogcabGreatDoor
open Go.RowKit
set_option linter.unusedSimpArgs false
set_option linter.unusedVariables false
set_option maxHeartbeats 8000000
set_option maxRecDepth 100000
theorem aI2 (c:UInt8)(x:List UInt8)(r:List (List UInt8)):mK c (x::r)=c::(x++mK c r):=by simp[mK]
theorem sU (c:UInt8): ∀ps:List (List UInt8),ps≠ []→(∀p∈ps,c∉p)→aK c (eT c ps)=ps:=by
 intro ps;induction ps with
 |nil=>intro h;exact absurd rfl h
 |cons x r ih=>
  intro _ h;cases r with
  |nil=>simp only[eT,mK,List.flatMap_nil,aTy];exact kP c x (h x (by simp))
  |cons y r=>
   have e:eT c (x::y::r)=x++c::eT c (y::r):=by simp[eT,aI2]
   rw[e,hU c x _ (h x (by simp)),ih (by simp) (fun p hp=>h p (by simp[hp]))]
theorem aAd (c d:UInt8)(a:d≠c): ∀ps:List (List UInt8),(∀p∈ps,d∉p)→d∉eT c ps:=by
 intro ps h;cases ps with
 |nil=>simp[eT]
 |cons x r=>simp only[eT,mK,aTi,List.mem_flatMap,aTj,not_or,not_exists,not_and];exact⟨h x (by simp),fun y hy=>⟨a,h y (by simp[hy])⟩⟩
def mL (aA aB:Nat)(xs:List Int):List (List Int):=(List.range aB).map (fun r=>(xs.drop (r*aA)).take aA)
def yR (row:List Int):List UInt8:=eT 44 (row.map eB)
theorem xP {xs:List Int}{n:Nat}(h:xs.length=n):xs=(List.range n).map (fun i=>xs[i]?.getD 0):=by
 subst h;apply List.ext_getElem
 ·simp
 intro i h1 h2;simp only[List.getElem_map,List.getElem_range];rw[aT3 h1];rfl
theorem aLp {aA aB:Nat}{xs:List Int}(h0:2≤aA)(h1:aA≤4)(h2:2≤aB)(h3:aB≤3)(hn:xs.length=aA*aB):
  aR aA xs xs.length=eT 47 ((mL aA aB xs).map yR):=by
 obtain rfl|rfl|rfl:aA=2∨aA=3∨aA=4:=by omega
 all_goals
  obtain rfl|rfl:aB=2∨aB=3:=by omega
  all_goals
   simp only[Nat.reduceMul]at hn;rw[xP hn];generalize (fun i:Nat=>xs[i]?.getD 0)=f;simp[aUl,aR,dG,mL,yR,eT,mK,List.range_zero]
theorem aLq {aA aB:Nat}{xs:List Int}(h0:2≤aA)(h1:aA≤4)(h2:2≤aB)(h3:aB≤3)(hn:xs.length=aA*aB):
  (mL aA aB xs).flatten=xs∧(mL aA aB xs).length=aB∧(∀row∈mL aA aB xs,row.length=aA):=by
 refine⟨?_,by simp[mL],?_⟩
 ·obtain rfl|rfl|rfl:aA=2∨aA=3∨aA=4:=by omega
  all_goals
   obtain rfl|rfl:aB=2∨aB=3:=by omega
   all_goals
    simp only[Nat.reduceMul]at hn;rw[xP hn];generalize (fun i:Nat=>xs[i]?.getD 0)=f;simp[aUl,mL,List.range_zero]
 intro row hr;simp only[mL,List.mem_map,aTo]at hr;obtain⟨r,hr,rfl⟩:=hr;simp only[aTq,aTw,hn];have:(r+1)*aA≤aB*aA:=aTz _ hr;rw[Nat.add_mul,Nat.one_mul,Nat.mul_comm aB]at this;omega
def qH (c:List UInt8):Option Int:=if c= [46]then some 0 else bH 2 c
def gY (c:List UInt8):Int:=if c= [46]then 0 else(bH 4 c).getD (-1)
def jJ (l:List UInt8):List (List (List UInt8)):=(aK 47 l).map (aK 44)
def lL (ps:List (List (List UInt8))):Int:=((ps.getLast?.map List.length).getD 0:Nat)
abbrev aDa:=Int×Int×List Int
def dQ (l:List UInt8):aDa:=(lL (jJ l),((aK 47 l).length:Int),(jJ l).flatten.map gY)
def mQ (row:List (List UInt8)):Bool:=decide (row.length≤4)&&row.all (fun c=>(qH c).isSome)
def rI (l:List UInt8):Bool:=decide ((aK 47 l).length≤3)&&(jJ l).all mQ
def dA (l:List UInt8):Option aDa:=if aO (dQ l).1 (dQ l).2.1 (dQ l).2.2=true∧cL (dQ l).1 (dQ l).2.1 (dQ l).2.2=l then some (dQ l)else none
theorem aOl {c:List UInt8}{x:Int}(h:bH 2 c=some x):bH 4 c=some x:=by
 unfold bH at h⊢;split at h
 ·rename_i hc;rw[if_pos ⟨hc.1,by omega,hc.2.2⟩];exact h
 simp at h
theorem aKr {c:List UInt8}{x:Int}(h:qH c=some x):gY c=x:=by
 unfold qH at h;unfold gY;split
 ·rename_i e;rw[if_pos e]at h;exact(Option.some.inj h)
 rename_i e;rw[if_neg e]at h;rw[aOl h];rfl
theorem aD7 {x:Int}(h0:0≤x)(h1:x≤99):qH (eB x)=some x:=by
 unfold qH eB;by_cases hx:x=0
 ·subst hx;simp
 rw[if_neg hx,if_neg]
 ·rw[jE 2 x.toNat (by omega) (by omega) (by omega)];simp;omega
 intro e;exact eW x.toNat 46 (by decide) (by rw[e];simp)
theorem oD {x:Int}{c:UInt8}(hc:dN c=false)(a:c≠46):c∉eB x:=by
 unfold eB;split
 ·simpa using a
 exact eW _ _ hc
theorem aCu {aA aB:Int}{xs:List Int}(d:aO aA aB xs=true):rI (cL aA aB xs)=true∧dQ (cL aA aB xs)=(aA,aB,xs):=by
 have hs:kU aA aB xs.length=true∧eJ [] xs=true:=by simpa[aO]using d
 obtain⟨a0,a1,a2,a3,a4,a5,a6⟩:=cO hs.1;have hc:=((gC xs []).1 hs.2).1;obtain⟨wd,rfl⟩: ∃k:Nat,aA=k:=⟨aA.toNat,by omega⟩
 obtain⟨dp,rfl⟩: ∃k:Nat,aB=k:=⟨aB.toNat,by omega⟩
 have hn:xs.length=wd*dp:=by exact_mod_cast a6
 have r1:=aLp (aA:=wd) (aB:=dp) (xs:=xs) (by omega) (by omega) (by omega) (by omega) hn;obtain⟨r2,r3,r4⟩:=aLq (aA:=wd) (aB:=dp) (xs:=xs) (by omega) (by omega) (by omega) (by omega) hn;have ht:cL wd dp xs=eT 47 ((mL wd dp xs).map yR):=by rw[cL,if_pos d,r1]
 have c:mL wd dp xs≠ []:=by intro e;rw[e]at r3;simp at r3;omega
 have b: ∀row∈mL wd dp xs,∀x∈row,0≤x∧x≤99:=fun row hr x hx=>hc x (by rw[←r2];exact List.mem_flatten.2 ⟨row,hr,hx⟩)
 have a:aK 47 (cL wd dp xs)=(mL wd dp xs).map yR:=by rw[ht];refine sU 47 _ (by simpa using c) ?_;intro p hp;simp only[List.mem_map]at hp;obtain⟨row,hr,rfl⟩:=hp;refine aAd 44 47 (by decide) _ ?_;intro q hq;simp only[List.mem_map]at hq;obtain⟨x,hx,rfl⟩:=hq;exact oD (by decide) (by decide)
 have hw:jJ (cL wd dp xs)=(mL wd dp xs).map (fun row=>row.map eB):=by
  rw[jJ,a,List.map_map];refine List.map_congr_left ?_;intro row hr;refine sU 44 _ ?_ ?_
  ·intro e;have:=r4 row hr;rw[List.map_eq_nil_iff.1 e]at this;simp at this;omega
  intro q hq;simp only[List.mem_map]at hq;obtain⟨x,hx,rfl⟩:=hq;exact oD (by decide) (by decide)
 constructor
 ·unfold rI;rw[a,hw];simp only[aTk,r3,aTd,decide_eq_true_eq,aTp,List.mem_map];refine⟨by omega,?_⟩;rintro _ ⟨row,hr,rfl⟩;unfold mQ;simp only[aTk,r4 row hr,aTd,decide_eq_true_eq,aTp,List.mem_map];refine⟨by omega,?_⟩;rintro _ ⟨x,hx,rfl⟩;rw[aD7 (b row hr x hx).1 (b row hr x hx).2];rfl
 unfold dQ;rw[a,hw];have e1:lL ((mL wd dp xs).map (fun row=>row.map eB))=wd:=by
  unfold lL;rw[List.getLast?_map];cases hl:(mL wd dp xs).getLast? with
  |none=>exact absurd (List.getLast?_eq_none_iff.1 hl) c
  |some row=>simp[r4 row (List.mem_of_getLast? hl)]
 have e2:((mL wd dp xs).map (fun row=>row.map eB)).flatten.map gY=xs:=by rw[←List.map_flatten,r2,List.map_map];refine(List.map_congr_left (g:=id) ?_).trans (List.map_id _);intro x hx;exact aKr (aD7 (hc x hx).1 (hc x hx).2)
 rw[e1,e2];simp[r3]
theorem tH {aA aB:Int}{xs:List Int}(a:aO aA aB xs=true):dA (cL aA aB xs)=some (aA,aB,xs):=by unfold dA;rw[(aCu a).2];simp[a]
theorem tI {l:List UInt8}(h:rI l=false):dA l=none:=by unfold dA;rw[if_neg];rintro⟨a,b⟩;rw[←b,(aCu a).1]at h;simp at h
def bP (many:Nat)(l:List UInt8):Option (List Int):=
 if(aK 44 l).length=many∧(aK 44 l).all (fun c=>(bH 5 c).isSome)=true then some ((aK 44 l).map (fun c=>(bH 5 c).getD 0))else none
def fC (l:List UInt8):Int:=(bH 5 l).getD (-1)
theorem aOr {xs:List Int}(a:xs≠ []):aK 44 (bC xs)=xs.map dec:=by refine sU 44 _ (by simpa using a) ?_;intro p hp;simp only[List.mem_map]at hp;obtain⟨x,_,rfl⟩:=hp;exact eW _ _ (by decide)
theorem zU {x:Int}(h0:0≤x)(h1:x≤99999):bH 5 (dec x)=some x:=by rw[jE 5 x.toNat (by omega) (by omega) (by omega)];simp;omega
theorem wP {xs:List Int}{many:Nat}(a:xs≠ [])(hl:xs.length=many)(h: ∀x∈xs,0≤x∧x≤99999):bP many (bC xs)=some xs:=by
 unfold bP;rw[aOr a,if_pos]
 ·rw[List.map_map];congr 1;refine(List.map_congr_left (g:=id) ?_).trans (List.map_id _);intro x hx;show(bH 5 (dec x)).getD 0=x;rw[zU (h x hx).1 (h x hx).2];rfl
 refine⟨by simpa using hl,?_⟩;simp only[aTp,List.mem_map];rintro _ ⟨x,hx,rfl⟩;rw[zU (h x hx).1 (h x hx).2];rfl
def at4 (l:List Int)(k:Nat):Int:=l[k]?.getD 0
def rW (l:List Int):aU:=(at4 l 0,at4 l 1,at4 l 2,at4 l 3)
def lJ (l:List UInt8):List Int:=(aK 44 l).map fC
def fS (ps:List (List UInt8))(k:Nat):List UInt8:=ps[k]?.getD []
def eZ (ps:List (List UInt8)):Bool:=decide (4≤ps.length)&&(dA (fS ps 0)).isSome&&decide ((aK 44 (fS ps 1)).length=4)&&(ps.drop 4).all (fun p=>decide ((aK 44 p).length=4))
def dX (ps:List (List UInt8)):Bool:=decide (4≤ps.length)&&(dA (fS ps 0)).isSome&&(bP 4 (fS ps 1)).isSome&&(bP 1 (fS ps 2)).isSome&&(bP 1 (fS ps 3)).isSome&&(ps.drop 4).all (fun p=>(bP 4 p).isSome)
def dB (ps:List (List UInt8)):aS:=
 let s:=(dA (fS ps 0)).getD (0,0,[])
 let t:=lJ (fS ps 1)
 ⟨s.1,s.2.1,s.2.2,at4 t 0,at4 t 1,at4 t 2,at4 t 3,fC (fS ps 2),fC (fS ps 3),(ps.drop 4).map (fun p=>rW (lJ p))⟩
def bF (l:List UInt8):Option aS:=
 if dX (aK 59 l)=true∧bJ (dB (aK 59 l))=true∧bI (dB (aK 59 l))=l then some (dB (aK 59 l))else none
theorem nA {m:Nat}{p:List UInt8}{xs:List Int}(h:bP m p=some xs):lJ p=xs∧(aK 44 p).length=m:=by
 unfold bP at h;split at h
 ·rename_i hc;cases h
  refine⟨?_,hc.1⟩;refine List.map_congr_left ?_;intro c a;have:=aTp.1 hc.2 c a;show(bH 5 c).getD (-1)=(bH 5 c).getD 0;cases hr:bH 5 c with
  |none=>rw[hr]at this;simp at this
  |some x=>rfl
 simp at h
theorem uZ (c:UInt8)(hc:dN c=false)(a:c≠44)(xs:List Int):c∉bC xs:=by refine aAd 44 c a _ ?_;intro p hp;simp only[List.mem_map]at hp;obtain⟨x,_,rfl⟩:=hp;exact eW _ _ hc
theorem aJr {aA aB:Int}{xs:List Int}:(59:UInt8)∉cL aA aB xs:=by
 unfold cL;split
 ·suffices h: ∀k,(59:UInt8)∉aR aA xs k from h _
  intro k;induction k with
  |zero=>simp[aR]
  |succ k ih=>
   simp only[aR,aTi,not_or];refine⟨⟨ih,?_⟩,oD (by decide) (by decide)⟩;unfold dG;split
   ·simp
   split<;>simp
 simp
theorem aMz {h:aS}(a:bJ h=true):aK 59 (bI h)=eS h:=by
 rw[bI,if_pos a];refine sU 59 _ (by simp[eS]) ?_;intro p hp;simp only[eS,aTj,List.mem_map]at hp;rcases hp with rfl|rfl|rfl|rfl|⟨v,_,rfl⟩
 ·exact aJr
 ·exact uZ 59 (by decide) (by decide) _
 ·exact eW _ _ (by decide)
 ·exact eW _ _ (by decide)
 exact uZ 59 (by decide) (by decide) _
theorem aAm {h:aS}(d:bJ h=true):dX (aK 59 (bI h))=true∧dB (aK 59 (bI h))=h:=by
 obtain⟨hh,f0,f1,s0,s1,p0,p1,c0,c1,k0,k1,b0,b1,vl,hv⟩:=pR d;rw[aMz d];have n4:bP 4 (bC [h.free,h.step,h.aE,h.aF])=some [h.free,h.step,h.aE,h.aF]:=wP (by simp) rfl (by intro x hx;simp at hx;omega);have f: ∀x:Int,0≤x→x≤99999→bP 1 (dec x)=some [x]:=by intro x a b;have:=wP (xs:= [x]) (many:=1) (by simp) rfl (by intro y hy;simp at hy;omega);simpa[bC,eT,mK]using this
 have nv: ∀v∈h.vs,bP 4 (bC (bR v))=some (bR v):=by intro v c;have:=hv v c;exact wP (by simp[bR]) rfl (by intro x hx;simp[bR]at hx;omega)
 have p0:fS (eS h) 0=cL h.aA h.aB h.cells:=rfl;have p1:fS (eS h) 1=bC [h.free,h.step,h.aE,h.aF]:=rfl;have p2:fS (eS h) 2=dec h.aC:=rfl;have p3:fS (eS h) 3=dec h.aG:=rfl;have p4:(eS h).drop 4=h.vs.map (fun v=>bC (bR v)):=rfl;have w: ∀x:Int,0≤x→x≤99999→fC (dec x)=x:=by intro x a b;unfold fC;rw[zU a b];rfl
 constructor
 ·unfold dX;rw[p0,p1,p2,p3,p4,tH hh,n4,f _ k0 (by omega),f _ b0 b1];have hp:4≤(eS h).length:=by simp[eS]
  simp only[hp,decide_true,Option.isSome_some,Bool.and_true,Bool.true_and,aTp,List.mem_map];rintro _ ⟨v,c,rfl⟩;rw[nv v c];rfl
 unfold dB;rw[p0,p1,p2,p3,p4,tH hh,(nA n4).1,w _ k0 (by omega),w _ b0 b1];have e:(h.vs.map (fun v=>bC (bR v))).map (fun p=>rW (lJ p))=h.vs:=by rw[List.map_map];refine(List.map_congr_left (g:=id) ?_).trans (List.map_id _);intro v c;show rW (lJ (bC (bR v)))=v;rw[(nA (nv v c)).1];rfl
 rw[e];rfl
theorem qS {h:aS}(c:bJ h=true):bF (bI h)=some h:=by obtain⟨a,b⟩:=aAm c;unfold bF;rw[b];exact if_pos ⟨a,c,rfl⟩
theorem qT {l:List UInt8}{h:aS}(e:bF l=some h):bJ h=true∧bI h=l:=by
 unfold bF at e;split at e
 ·rename_i hc;cases e;exact hc.2
 simp at e
theorem aSi {ps:List (List UInt8)}(h:dX ps=true):eZ ps=true:=by
 simp only[dX,aTd,decide_eq_true_eq,aTp]at h;obtain⟨⟨⟨⟨⟨h0,h1⟩,h2⟩,h3⟩,h4⟩,h5⟩:=h;simp only[eZ,aTd,decide_eq_true_eq,aTp];have q: ∀p,(bP 4 p).isSome=true→(aK 44 p).length=4:=by intro p hp;obtain⟨x,hx⟩:=Option.isSome_iff_exists.1 hp;exact(nA hx).2
 exact⟨⟨⟨h0,h1⟩,q _ h2⟩,fun p hp=>q p (h5 p hp)⟩
theorem xO (l:List UInt8):bF l=if eZ (aK 59 l)=true∧bJ (dB (aK 59 l))=true∧bI (dB (aK 59 l))=l then some (dB (aK 59 l))else none:=by
 unfold bF;by_cases hi:dX (aK 59 l)=true
 ·simp only[hi,aSi hi,true_and]
 rw[if_neg (fun hc=>hi hc.1),if_neg];rintro⟨_,b,c⟩;have:=(aAm b).1;rw[c]at this;exact hi this
section
open Go.Proofs.Tryz
theorem aM2 (n:Nat):(madeCells (Value.string ⟨#[]⟩).cells (n*1)).toList=List.replicate n (Value.string ⟨#[]⟩):=by apply List.ext_getElem<;>simp[madeCells,Value.cells,Nat.mod_one]
theorem uM {xs:List Int}{k:Nat}(hl:(xs.take k).length=k):(pC ((xs.take k).map dec)).length=k:=by simp only[pC,aTk];exact hl
theorem aL3 {xs:List Int}{k n:Nat}{x:Int}(h:k<n)(hx:xs[k]? =some x) (hl:(xs.take k).length=k):(pC ((xs.take k).map dec)++List.replicate (n-k) (Value.string ⟨#[]⟩)).set k (str (dec x))=pC ((xs.take (k+1)).map dec)++List.replicate (n-(k+1)) (Value.string ⟨#[]⟩):=by rw[aZ hx,show n-k=(n-(k+1))+1 by omega,aUy];rw[aVa _ _ (by rw[uM hl];exact aT2 _),uM hl,aUr,aTe];simp[pC]
theorem aNh {xs:List Int}{k n:Nat}(h:k<n)(hl:(xs.take k).length=k):(pC ((xs.take k).map dec)++List.replicate (n-k) (Value.string ⟨#[]⟩))[k]? =some (Value.string ⟨#[]⟩):=by rw[aTn (by rw[uM hl];exact aT2 _),uM hl,aUr,show n-k=(n-(k+1))+1 by omega,aUy];rfl
theorem nY (p:OA)(n l:Nat)(xs:List Int)(w:World)(ad:0<n)(hn:n≤10)(hx: ∀x∈xs,0≤x∧x≤9223372036854775807)(hE:Env w)(hS:Sl w p n l 1 (ivs xs)):
  U 93 #[.slice p n l] w (Z (str (bC xs)) w):=by
 obtain⟨i0,hi,o,s,t⟩:=info_parts (show(prog.info? 9).map (fun i=>(i.zero,i.size,i.bytes))=some (some (.string ⟨#[]⟩),1,16) by kernel_rfl);have hl:=xQ hS.ilen;have HS:=xQ hS;have HX:=xQ hx;have HE:=xQ hE;have HL:Hid ((bC xs).length≤140737488355328):=by
  show _≤_
  have h1:=aFm 44 21 ((xs.map dec).drop 1) (fun y hy=>by
   obtain⟨z,hz,rfl⟩:=List.mem_map.1 (List.mem_of_mem_drop hy)
   exact eI z (hx z hz).2)
  have h2:xs.length=n:=hS.ilen;unfold bC;cases hq:xs.map dec with
  |nil=>simp[eT]
  |cons a r=>
   have ha:a.length≤21:=by
    have:a∈xs.map dec:=by rw[hq];simp
    obtain⟨z,hz,rfl⟩:=List.mem_map.1 this;exact eI z (hx z hz).2
   have hr:r.length+1=n:=by have:=congrArg List.length hq;simp at this;omega
   rw[hq]at h1;simp only[aVm,List.drop_zero]at h1;simp only[eT,aTa];omega
 clear hS hx hE;go_enter func93,ntmps93;go_wp2_with (at_make;refine wpList_make_full _ rfl _ _ 84 rfl w 9 i0 (.string ⟨#[]⟩) 1 underlying84 hi o s .i64 .i64 _ _ n rfl rfl rfl rfl (by rw[t];omega) (by unfold maxLen;omega) (aT2 _) ?_;intro w0 d f);have aa:Ext w w0:=(Ext.refl w).grown f (fun q hq=>by cases hq);have ah:=(d.lt w rfl).2;rw[aM2]at d;have u:=xQ d;clear d f hi o s t;go_loopw [11] (fun i wr=> ∃k:Nat,k≤n∧i=I k∧wr.ownsRow w 9 1 (.slice (some ⟨w,0,none⟩) n n) n (pC ((xs.take k).map dec)++List.replicate (n-k) (Value.string ⟨#[]⟩))∧Ext w wr) (fun i _=>n-(intOf i).toNat)
 case atStart=>exact⟨0,aT8 _,rfl,by simpa[pC]using u.out,aa⟩
 case round=>
  obtain⟨k,hk,rfl,j,g⟩:=hrel;have HO:=xQ j;clear j;by_cases hlt:k<n
  ·obtain⟨b,aj,x,rfl,hx,hb,ab⟩:=(HS.out.ext g).int_at hlt;obtain⟨ae,af⟩:=HX x (aT4 hx);have v:=xQ hx;clear hx;have h:(xs.take k).length=k:=by rw[aTq,hl.out];omega
   go_wp2_with fail;refine Ω (tL x _ ae af (HE.out.ext (by exact g))) fun w1 h1=>?_
   have c:=HO.out.kept h1.gb (by simp[Value.ownBlock]);have ai:(w:Nat)<w1:=(c.lt w rfl).2;have o0:w1.cell? ⟨w,k,none⟩=some (.string ⟨#[]⟩):=by rw[c.cellAt k (by omega)];exact aNh hlt h
   have f0:w1.frozen? ⟨w,k,none⟩=false:=c.frozenAt k;have HN:Hid ((w1.setCell ⟨w,k,none⟩ (str (dec x))).ownsRow w 9 1 (.slice (some ⟨w,0,none⟩) n n) n (pC ((xs.take (k+1)).map dec)++List.replicate (n-(k+1)) (Value.string ⟨#[]⟩))):=by have:=(c.stored k (str (dec x))).1;rw[aL3 hlt v h]at this;exact this
   have ag:=g.sz;clear c;go_wp2;go_roundw
   case rel=>exact⟨k+1,by omega,by go_num,HN.out,xE⟩
   case measure=>simp[intOf];omega
  have m:Hid (wr.ownsRow w 9 1 (.slice (some ⟨w,0,none⟩) n n) n (pC (xs.map dec))):=by have:=HO.out;rw[show n-k=0 by omega,List.replicate_zero,aTy,aT7 (by rw[hl.out];omega)]at this;exact this
  go_wp2_with fail;refine Ω (aGq (xs.map dec) 44 _ n n _ (by rw[aTk];exact hl.out) ad (Sl.own m.out) HL (by omega)) fun w1 h1=>?_
  go_wp2;go_ret;exact⟨rfl,by exact .trans g h1⟩
theorem aSv:ElT prog 84 9 1:=
 ⟨underlying84,by
  obtain⟨i,hi,h0,h1,h2⟩:=info_parts (show(prog.info? 9).map (fun i=>(i.zero,i.size,i.bytes))=some (some (.string ⟨#[]⟩),1,16) by kernel_rfl)
  exact⟨i,_,hi,h0,h1,by omega,rfl⟩,Nat.one_pos⟩
theorem aC3 (xs:List (List UInt8)):xs.flatMap (fun s=> [str s])=pC xs:=by induction xs with|nil=>rfl|cons x xs ih=>simp_all [pC]
theorem uI {w:World}{i:Array Oper}{rest:List Oper}{o:Oper}{a:Act}{Q:Exit→Act→World→Prop}(k:o.guard=none)(s x:Operand)
  (ho:o.op= .call {callee:= .builtin .append,args:=#[s,x],argTypes:=#[84,84]})
  (base:Nat)(v:Value)(n:Nat)(xs:List (List UInt8))(hs:a.eval s=v)(g:w.ownsRow base 9 1 v n (pC xs))
  (b e:Nat)(y:List UInt8)(c:Nat)(hx:a.eval x= .slice (some ⟨b,e,none⟩) 1 c)(hc:w.cell? ⟨b,e,none⟩=some (str y))
  (hn:n≤1099511627776)(d:base≤w.heap.size)
  (h: ∀p' cap' w',w'.ownsRow base 9 1 (.slice p' (n+1) cap') (n+1) (pC (xs++ [y]))→w.grownBy w' v.ownBlock→wpList prog i Q rest (a.put o.dst (.slice p' (n+1) cap')) w'):wpList prog i Q (o::rest) a w:=by
 refine lK aSv (f:=fun x=> [str x]) (fun _=>rfl) (fun _ u hu=>by simp at hu;subst hu;rfl) k s x ho base v n xs hs (by rw[aC3];exact g) b e y c hx (fun j u hu=> ?_) hn d (fun p' cap' w' h2 h3=>h p' cap' w' (by rw[aC3]at h2;exact h2) h3)
 match j,hu with
 |0,hu=>simp at hu;subst hu;exact hc
theorem Blk.sl {w:World}{g n:Nat}{t:TypeId}{cs:Array Value}(h:Blk w g t cs)(hn:cs.size=n)(hm:n≤maxLen):Sl w (some ⟨g,0,none⟩) n n 1 cs.toList:=
 ⟨by simpa using hn,aT2 _,hm,fun _=>⟨g,0,rfl,h.lt,fun k hk=>by rw[aU2,h.cell k];simp⟩⟩
theorem Blk.own {w:World}{g n base:Nat}{t:TypeId}{cs:Array Value}(h:Blk w g t cs)(hn:cs.size=n)(hm:n≤maxLen)(hb:base≤g):w.ownsRow base t 1 (.slice (some ⟨g,0,none⟩) n n) n cs.toList:=
 ⟨by simpa using hn,.inr ⟨g,n,cs,rfl,hb,h,aT2 _,hm,by omega,by rw[Nat.mul_one,aT7 (by simp;omega)]⟩⟩
theorem aEs (aA aB a c aE aF aC aG:Int)(p:OA)(n f:Nat)(q:OA)(m c2:Nat)(w:World)(vs:List aU)(p1 p2 p3 p4:List UInt8)(br:m≤12)(hl:Hid (vs.length=m))(HS:Hid (Sl w q m c2 4 (vs.flatMap aD)))
  (HL:Hid ((eT 59 ([p1,p2,p3,p4]++vs.map (fun v=>bC (bR v)))).length≤140737488355328))
  (HN:Hid (∀v∈vs,∀w' g,Ext w w'→Sl w' (some g) 4 4 1 (ivs (bR v))→U 93 #[.slice (some g) 4 4] w' (Z (str (bC (bR v))) w')))
  (HV:xB 16 #[.agg #[aA,aB,.slice p n f,a,c,aE,aF,aC,aG,.slice q m c2]] w true)
  (H1:xC 39 #[aH aA aB p n f] w fun w' e w''=>e= .returned (str p1)∧Ext w' w'')
  (H2:Hid (∀w' g,Ext w w'→Sl w' (some g) 4 4 1 (ivs [a,c,aE,aF])→U 93 #[.slice (some g) 4 4] w' (Z (str p2) w')))
  (H3:Hid (∀w' g,Ext w w'→Sl w' (some g) 1 1 1 (ivs [aC])→U 93 #[.slice (some g) 1 1] w' (Z (str p3) w')))
  (H4:Hid (∀w' g,Ext w w'→Sl w' (some g) 1 1 1 (ivs [aG])→U 93 #[.slice (some g) 1 1] w' (Z (str p4) w'))):
  U 54 #[.agg #[aA,aB,.slice p n f,a,c,aE,aF,aC,aG,.slice q m c2]] w (Z (str (eT 59 ([p1,p2,p3,p4]++vs.map (fun v=>bC (bR v))))) w):=by
 go_enter func54,ntmps54;go_wp2_with fail;refine Ω (HV _ (by exact .alloc (.refl _) _)) fun w0 aj=>?_
 have B0:=xQ ((Blk.new w 29 #[aA,aB,.slice p n f,a,c,aE,aF,aC,aG,.slice q m c2]).ext aj);have X0:Hid (Ext w w0):=by show Ext w w0;exact .trans (.alloc (.refl _) _) aj
 have h:=X0.out;have bw:(w:Nat)<w0:=B0.out.lt;clear aj;go_wp2;refine rL (gl [gEq (.pointer (some ⟨w,0,none⟩)),gEq (aH aA aB p n f),gEq (str p1),gEq (.pointer (some ⟨w,3,none⟩)),gEq (.pointer (some ⟨w,3,none⟩)),gEq a,gEq (.pointer (some ⟨w,3,none⟩)),gEq (.pointer (some ⟨w,4,none⟩)),gEq c,gEq (.pointer (some ⟨w,3,none⟩)),gEq (.pointer (some ⟨w,5,none⟩)),gEq aE,gEq (.pointer (some ⟨w,3,none⟩)),gEq (.pointer (some ⟨w,6,none⟩)),gEq aF,aHg w TI #[a,c,aE,aF] 4,gEq (str p2),gEq (.pointer (some ⟨w,7,none⟩)),gEq aC,aHg w TI #[aC] 1,gEq (str p3),gEq (.pointer (some ⟨w,8,none⟩)),gEq aG,aHg w TI #[aG] 1,gEq (str p4),aHg (w.heap.size+1) 9 #[str p1,str p2,str p3,str p4] 4]) 26 27 [(0,some 9),(1,some 10),(2,some 11),(3,some 12),(4,some 13),(5,some 14),(6,some 15),(7,some 16),(8,some 17),(9,some 18),(10,some 19),(11,some 20),(12,some 21),(13,some 22),(14,some 23),(15,some 24),(16,some 25),(17,some 26),(18,some 27),(19,some 28),(20,some 29),(21,some 30),(22,some 31),(23,some 32),(24,some 33),(25,some 34)] ?steps ?fin
 case steps=>
  refine sS0 [] ?_;refine sC [(0,some 9)] rfl (fun wi hx=> ?_) ?_
  ·intro v0 h0 K hK;obtain rfl:=h0;have B:=xQ (B0.out.ext hx.of_drew);have c0:=B.out.cl 0;have c1:=B.out.cl 1;have c2:=B.out.cl 2;go_simp;exact hK _ _ ⟨aH aA aB p n f,rfl,rfl,Ext.refl _⟩
  refine sC [(1,some 10)] rfl (fun wi hx=> ?_) ?_
  ·intro v1 h1 K hK;obtain rfl:=h1;go_wp2_with fail;refine Ω (H1 _ (by exact .trans (.drew h) hx)) fun w2 d=>?_
   go_simp;exact hK _ _ ⟨str p1,rfl,rfl,d⟩
  refine sS0 [] (sS1 [(3,some 12)] ?_);refine sC [(4,some 13)] rfl (fun wi hx=> ?_) ?_
  ·intro v4 h4 K hK;obtain rfl:=h4;have B:=xQ (B0.out.ext hx.of_drew);have c3:=B.out.cl 3;go_simp;exact hK _ _ ⟨I a,rfl,rfl,Ext.refl _⟩
  refine sS0 [] (sS1 [(6,some 15)] ?_);refine sC [(7,some 16)] rfl (fun wi hx=> ?_) ?_
  ·intro v7 h7 K hK;obtain rfl:=h7;have B:=xQ (B0.out.ext hx.of_drew);have c4:=B.out.cl 4;go_simp;exact hK _ _ ⟨I c,rfl,rfl,Ext.refl _⟩
  refine sS0 [] (sS1 [(9,some 18)] ?_);refine sC [(10,some 19)] rfl (fun wi hx=> ?_) ?_
  ·intro bd r K hK;obtain rfl:=r;have B:=xQ (B0.out.ext hx.of_drew);have c5:=B.out.cl 5;go_simp;exact hK _ _ ⟨I aE,rfl,rfl,Ext.refl _⟩
  refine sS0 [] (sS1 [(12,some 21)] ?_);refine sC [(13,some 22)] rfl (fun wi hx=> ?_) ?_
  ·intro bf t K hK;obtain rfl:=t;have B:=xQ (B0.out.ext hx.of_drew);have c6:=B.out.cl 6;go_simp;exact hK _ _ ⟨I aF,rfl,rfl,Ext.refl _⟩
  refine sC [(5,some 14),(8,some 17),(11,some 20),(14,some 23)] rfl (fun wi hx=> ?_) ?_
  ·intro v5 h5 v8 h8 be s bg u K hK;subst h5 h8;obtain rfl:=s;obtain rfl:=u;go_simp;exact hK _ _ ⟨.slice (some ⟨wi,0,none⟩) 4 4,rfl,⟨wi.heap.size,rfl,by have:=hx.sz;simp at this;omega,Blk.new _ _ _⟩,(Ext.refl _).alloc _⟩
  refine sC [(15,some 24)] rfl (fun wi hx=> ?_) ?_
  ·intro bh x K hK;obtain⟨a4,rfl,ar,ak⟩:=x;go_wp2_with fail;refine Ω (H2 _ _ (by exact .trans (.drew h) hx) (by have:=ak.sl (n:=4) rfl (by simp[maxLen]);simpa using this)) fun w2 d=>?_
   go_simp;exact hK _ _ ⟨str p2,rfl,rfl,d⟩
  refine sS0 [] ?_;refine sC [(17,some 26)] rfl (fun wi hx=> ?_) ?_
  ·intro bj z K hK;obtain rfl:=z;have B:=xQ (B0.out.ext hx.of_drew);have c7:=B.out.cl 7;go_simp;exact hK _ _ ⟨I aC,rfl,rfl,Ext.refl _⟩
  refine sC [(18,some 27)] rfl (fun wi hx=> ?_) ?_
  ·intro bk aa K hK;obtain rfl:=aa;go_simp;exact hK _ _ ⟨.slice (some ⟨wi,0,none⟩) 1 1,rfl,⟨wi.heap.size,rfl,by have:=hx.sz;simp at this;omega,Blk.new _ _ _⟩,(Ext.refl _).alloc _⟩
  refine sC [(19,some 28)] rfl (fun wi hx=> ?_) ?_
  ·intro bl ab K hK;obtain⟨a5,rfl,au,al⟩:=ab;go_wp2_with fail;refine Ω (H3 _ _ (by exact .trans (.drew h) hx) (by have:=al.sl (n:=1) rfl (by simp[maxLen]);simpa using this)) fun w2 d=>?_
   go_simp;exact hK _ _ ⟨str p3,rfl,rfl,d⟩
  refine sS0 [] ?_;refine sC [(21,some 30)] rfl (fun wi hx=> ?_) ?_
  ·intro bn ae K hK;obtain rfl:=ae;have B:=xQ (B0.out.ext hx.of_drew);have c8:=B.out.cl 8;go_simp;exact hK _ _ ⟨I aG,rfl,rfl,Ext.refl _⟩
  refine sC [(22,some 31)] rfl (fun wi hx=> ?_) ?_
  ·intro bo af K hK;obtain rfl:=af;go_simp;exact hK _ _ ⟨.slice (some ⟨wi,0,none⟩) 1 1,rfl,⟨wi.heap.size,rfl,by have:=hx.sz;simp at this;omega,Blk.new _ _ _⟩,(Ext.refl _).alloc _⟩
  refine sC [(23,some 32)] rfl (fun wi hx=> ?_) ?_
  ·intro bp ag K hK;obtain⟨a6,rfl,av,am⟩:=ag;go_wp2_with fail;refine Ω (H4 _ _ (by exact .trans (.drew h) hx) (by have:=am.sl (n:=1) rfl (by simp[maxLen]);simpa using this)) fun w2 d=>?_
   go_simp;exact hK _ _ ⟨str p4,rfl,rfl,d⟩
  refine sC [(2,some 11),(16,some 25),(20,some 29),(24,some 33)] rfl (fun wi hx=> ?_) StepsL.nil
  ·intro v2 h2 bi y bm ad bq ah K hK;obtain rfl:=h2;obtain rfl:=y;obtain rfl:=ad;obtain rfl:=ah;go_simp;exact hK _ _ ⟨.slice (some ⟨wi,0,none⟩) 4 4,rfl,⟨wi.heap.size,rfl,by have:=hx.sz;simp at this;omega,Blk.new _ _ _⟩,(Ext.refl _).alloc _⟩
 case fin=>
  intro wi hx v0 h0 v1 h1 v2 h2 v3 h3 v4 h4 v5 h5 v6 h6 v7 h7 v8 h8 v9 h9 bd r be s bz a8 bf t bg u bh x bi y bj z bk aa bl ab bm ad bn ae bo af bp ag bq ah b0 a9;subst h0 h1 h2 h3 h4 h5 h6 h7 h8 h9;obtain rfl:=r;obtain rfl:=s;obtain rfl:=a8;obtain rfl:=t;obtain rfl:=u;obtain⟨a4,rfl,ar,ak⟩:=x;obtain rfl:=y;obtain rfl:=z;obtain rfl:=aa;obtain⟨a5,rfl,au,al⟩:=ab;obtain rfl:=ad;obtain rfl:=ae;obtain rfl:=af;obtain⟨a6,rfl,av,am⟩:=ag;obtain rfl:=ah;obtain⟨a7,rfl,aw,an⟩:=a9;refine wpAny_ready (rs:= [26]) (by kernel_rfl) (by simp) ?_;refine AllReady.cons rfl (fun K hK=> ?_) AllReady.nil;go_simp;refine hK _ _ ?_;clear hK K;refine wpAny_done (by kernel_rfl) ?_ _;have B1:=xQ (B0.out.ext hx.of_drew);have X1:=xQ (X0.out.trans hx.of_drew);have O1:=xQ (an.own (n:=4) rfl (by simp[maxLen]) aw);have z1:(w:Nat)<wi:=B1.out.lt;clear an hx B0 X0 h;have b9:=B1.out.cl 9;go_wp2;clear b9;go_loopw [3,38] (fun v i wr=> ∃(k:Nat) (p':OA) (cp:Nat),k≤m∧i=I k∧v= .slice p' (4+k) cp∧wr.ownsRow (w.heap.size+1) 9 1 (.slice p' (4+k) cp) (4+k) (pC ([p1,p2,p3,p4]++(vs.take k).map (fun v=>bC (bR v))))∧Ext w wr∧w.heap.size+1≤wr.heap.size) (fun _ i _=>m-(intOf i).toNat)
  case atStart=>exact⟨0,some ⟨a7,0,none⟩,4,aT8 _,rfl,rfl,by simpa[pC]using O1.out,X1.out,by omega⟩
  case round=>
   clear O1 X1 B1 z1;obtain⟨k,p',cp,hk,rfl,rfl,o,hE,bv⟩:=hrel;have HO:=xQ o;clear o;by_cases hlt:k<m
   ·obtain⟨b,bx,a0,a1,a2,a3,rfl,hv,hb,d0,d1,d2,d3⟩:=gQ (HS.out.ext hE) hlt;have ay:=xQ (HN (a0,a1,a2,a3) (aT4 hv));have HT:Hid ((vs.take (k+1)).map (fun v=>bC (bR v))=(vs.take k).map (fun v=>bC (bR v))++ [bC (bR (a0,a1,a2,a3))]):=by
     show _=_;rw[aZ hv];simp
    clear hv;go_wp2_with fail
    refine(ay _ _ (hE.trans (by exact .alloc (.alloc (.refl _) _) _)) (by
     have:=(Blk.new (wr.alloc (.cells #[a0,a1,a2,a3] 68)) TI #[a0,a1,a2,a3]).sl (n:=4) rfl (by simp[maxLen])
     simpa[ivs,bR]using this)).mono ?_
    rintro e w2 ⟨rfl,d⟩;have l:Ext wr w2:=by exact .trans (.alloc (.alloc (.refl _) _) _) d
    have ao:=xQ (aP HO l);have bs:(wr:Nat)≤w2:=l.sz;have bb:=xQ (hE.trans l);clear d l HO d0 d1 d2 d3;go_wp2_with (at_builtin;refine uI rfl _ _ rfl (w.heap.size+1) _ _ _ rfl (ao.out.alloc _) _ _ (bC (bR (a0,a1,a2,a3))) _ rfl (by simp) (by omega) (by first|(simp;done)|(simp;omega)|omega) ?_;intro bc ap w3 j ai;have az:=xQ j;have ba:Ext w w3:=Ext.own (bb.out.alloc _) (ao.out.alloc _) ai (by omega);have bt:(w2:Nat)≤w3:=aTb (by simp) ai.size;clear j ai);go_roundw
    case rel=>exact⟨k+1,bc,ap,by omega,by go_num,rfl,by rw[HT.out,←aTx];exact az.out,ba,by omega⟩
    case measure=>simp[intOf];omega
   have aq:Hid (wr.ownsRow (w.heap.size+1) 9 1 (.slice p' (4+k) cp) (4+k) (pC ([p1,p2,p3,p4]++vs.map (fun v=>bC (bR v))))):=by have:=HO.out;rw[aT7 (by rw[hl.out];omega)]at this;exact this
   have bu:k≤12:=by omega
   have ax:Hid (([p1,p2,p3,p4]++vs.map (fun v=>bC (bR v))).length=4+k):=by show _=_;simp[hl.out];omega
   clear HO;go_wp2_with fail;refine Ω (aGq ([p1,p2,p3,p4]++vs.map (fun v=>bC (bR v))) 59 _ (4+k) cp _ ax.out (by omega) (Sl.own aq.out) HL (by omega)) fun w1 h1=>?_
   go_wp2;go_ret;exact⟨rfl,by exact .trans hE h1⟩
theorem aBt (aA aB a b aE aF aC aG:Int)(p:OA)(n c:Nat)(q:OA)(m c2:Nat)(w:World)
  (HV:xB 16 #[.agg #[aA,aB,.slice p n c,a,b,aE,aF,aC,aG,.slice q m c2]] w false):
  U 54 #[.agg #[aA,aB,.slice p n c,a,b,aE,aF,aC,aG,.slice q m c2]] w (Z (str []) w):=by
 go_enter func54,ntmps54;go_wp2_with fail;refine Ω (HV _ (by exact .alloc (.refl _) _)) fun w0 d=>?_
 go_wp2;go_ret;exact⟨rfl,by exact .trans (.alloc (.refl _) _) d⟩
theorem aGp (c:UInt8)(M:Nat)(x:List UInt8)(r:List (List UInt8))(hx:x.length≤M)(h: ∀y∈r,y.length≤M):(eT c (x::r)).length≤(M+1)*(r.length+1):=by have:=aFm c M r h;simp only[eT,aTa];rw[Nat.mul_succ];unfold mK at*;omega
theorem tM (h:aS)(p:OA)(n a:Nat)(q:OA)(m c2:Nat)(w:World)(hE:Env w)(hi:IsHouse w h p n a q m c2):
  U 54 #[cY h p n a q m c2] w (Z (str (bI h)) w):=by
 have HV:=fun(w':World) (hx:Ext w w')=>mZ h p n a q m c2 w' (hi.ext hx)
 have d:=hi.vlen;unfold bI;cases hok:bJ h with
 |false=>rw[hok]at HV;simpa using aBt h.aA h.aB h.free h.step h.aE h.aF h.aC h.aG p n a q m c2 w HV
 |true=>
  rw[hok]at HV;obtain⟨g0,g1,g2,g3,g4,g5,g6,g7,g8,g9,f,i,j,k,b⟩:=pR hok;rw[if_pos rfl];have e:eS h= [cL h.aA h.aB h.cells,bC [h.free,h.step,h.aE,h.aF],bC [h.aC],bC [h.aG]]++h.vs.map (fun v=>bC (bR v)):=by rw[pK,pK];rfl
  rw[e];have l1:(cL h.aA h.aB h.cells).length≤400:=pS;have l2:=oR h.free h.step h.aE h.aF (by omega) (by omega) (by omega) (by omega);have l3:=eI h.aC (by omega);have l4:=eI h.aG (by omega);rw[←pK]at l3 l4;have lv: ∀v∈h.vs,(bC (bR v)).length≤90:=fun v hv=>by have:=b v hv;exact oR _ _ _ _ (by omega) (by omega) (by omega) (by omega)
  have HL:=aGp 59 400 (cL h.aA h.aB h.cells) ([bC [h.free,h.step,h.aE,h.aF],bC [h.aC],bC [h.aG]]++h.vs.map (fun v=>bC (bR v))) l1 (fun y hy=>by
   rcases aTi.1 hy with hy|hy
   ·simp only[aTj,List.not_mem_nil,or_false]at hy;rcases hy with rfl|rfl|rfl<;>omega
   ·obtain⟨v,hv,rfl⟩:=List.mem_map.1 hy
    have:=lv v hv;omega)
  have c:(eT 59 ([cL h.aA h.aB h.cells,bC [h.free,h.step,h.aE,h.aF],bC [h.aC],bC [h.aG]]++h.vs.map (fun v=>bC (bR v)))).length≤140737488355328:=by refine aTb HL ?_;simp only[aTa,aTk,aU1,List.length_nil];omega
  exact aEs h.aA h.aB h.free h.step h.aE h.aF h.aC h.aG p n a q m c2 w h.vs _ _ _ _ (by omega) d hi.vs c
   (fun v hv w' g hx hs=>nY (some g) 4 4 (bR v) w' (by omega) (by omega) (fun x hx'=>by
    have:=b v hv;simp only[bR,aTj,List.not_mem_nil,or_false]at hx'
    rcases hx' with rfl|rfl|rfl|rfl<;>omega) (hE.ext hx) hs)
   HV (fun w' hx=>vE h.aA h.aB p n a h.cells w' (hE.ext hx) (hi.cells.ext hx))
   (fun w' g hx hs=>nY (some g) 4 4 _ w' (by omega) (by omega) (fun x hx'=>by
    simp only[aTj,List.not_mem_nil,or_false]at hx'
    rcases hx' with rfl|rfl|rfl|rfl<;>omega) (hE.ext hx) hs)
   (fun w' g hx hs=>nY (some g) 1 1 _ w' (by omega) (by omega) (fun x hx'=>by
    simp only[aTj,List.not_mem_nil,or_false]at hx'
    subst hx';omega) (hE.ext hx) hs)
   (fun w' g hx hs=>nY (some g) 1 1 _ w' (by omega) (by omega) (fun x hx'=>by
    simp only[aTj,List.not_mem_nil,or_false]at hx'
    subst hx';omega) (hE.ext hx) hs)
theorem nV (q:List UInt8)(hq:q.length≤maxLen)(w:World):U 57 #[str q] w fun e w'=>e= .returned (I ((bH 4 q).getD (-1)))∧w=w':=
 aAa ⟨q.toArray⟩ w (by simpa[ByteArray.size]using hq)
theorem aOs (l:List UInt8)(h:l.all dN=true)(hl:l.length≤4):iQ l≤9999:=by
 match l,hl with
 | [],_=>simp[iQ]
 | [a],_=>simp[iQ,dN]at h⊢;omega
 | [a,b],_=>simp[iQ,dN]at h⊢;omega
 | [a,b,c],_=>simp[iQ,dN]at h⊢;omega
 | [a,b,c,d],_=>simp[iQ,dN]at h⊢;omega
theorem aFj {l:List UInt8}(h: ¬l.length=5):fC l=(bH 4 l).getD (-1):=by
 unfold fC bH;by_cases hc:1≤l.length∧l.length≤4∧(l.length≤1∨l.head? ≠some 48)∧l.all dN=true
 ·rw[if_pos hc,if_pos ⟨hc.1,by omega,hc.2.2⟩]
 rw[if_neg hc,if_neg (fun q=>hc ⟨q.1,by omega,q.2.2⟩)]
theorem aI0 {l:List UInt8}(h:l.length=5):fC l=if l.head? =some 48∨(bH 4 (l.take 4)).getD (-1)<0∨(bH 4 (l.drop 4)).getD (-1)<0 then -1 else 10*(bH 4 (l.take 4)).getD (-1)+(bH 4 (l.drop 4)).getD (-1):=by
 match l,h with
 | [a,b,c,d,e],_=>
   have h1:bH 4 [e]=if dN e=true then some ((e.toNat:Int)-48)else none:=by simp[bH,iQ]
   have h2:bH 4 [a,b,c,d]=if a≠48∧ [a,b,c,d].all dN=true then some (iQ [a,b,c,d])else none:=by simp[bH]
   have h3:bH 5 [a,b,c,d,e]=if a≠48∧ [a,b,c,d].all dN=true∧dN e=true then some (10*iQ [a,b,c,d]+((e.toNat:Int)-48))else none:=by have:iQ [a,b,c,d,e]=10*iQ [a,b,c,d]+((e.toNat:Int)-48):=sH [a,b,c,d] e;simp[bH,this,and_assoc]
   simp only[aVl,List.take_zero,aVm,List.drop_zero,List.head?_cons,aU6];unfold fC;rw[h1,h2,h3];by_cases q1:a=48
   ·simp[q1]
   by_cases q2: [a,b,c,d].all dN=true
   ·have hb:=aA3 [a,b,c,d] q2 (by simp);by_cases q3:dN e=true
    ·have q4:0≤(e.toNat:Int)-48:=by simp[dN]at q3;omega
     simp only[q1,q2,q3,not_false_eq_true,ne_eq,and_self,if_true,Option.getD_some];rw[if_neg (by simp only[false_or,not_or];constructor<;>omega)]
    simp[q1,q3]
   simp only[q1,q2,not_false_eq_true,ne_eq,and_false,and_true,false_and,if_false,Option.getD_none];simp
theorem aBn (s:ByteArray)(w:World)(h5: ¬s.size=5)(hs:s.size≤maxLen)(v:Int)(HR:Hid (∀w,U 57 #[.string s] w fun e w'=>e= .returned (I v)∧w=w')):
  U 97 #[.string s] w (Z (I (v)) w):=by
 have h6: ¬(s.size:Int)=5:=by omega
 go_enter func97,ntmps97;go_wp2_with fail;refine(HR _).mono ?_;rintro e w1 ⟨rfl,rfl⟩;go_wp2;exact bodyPost_ret (v:=I (v)) (by simp[results,results97,go_sem, *]) rfl ⟨rfl,by exact .refl _⟩
theorem aE9 (s:ByteArray)(w:World)(h5:s.size=5)(a b:Int)(hz:((s[0].toNat:Int)==48)=true):
  U 97 #[.string s] w (Z (I (-1)) w):=by
 go_enter func97,ntmps97;go_wp2;exact bodyPost_ret (v:=I (-1)) (by simp[results,results97,go_sem, *]) rfl ⟨rfl,by exact .refl _⟩
theorem aM5 (s:ByteArray)(w:World)(h5:s.size=5)(a b:Int)(hz:((s[0].toNat:Int)==48)=false)(ha:a<0)(HA:Hid (∀w,U 57 #[.string (s.extract 0 4)] w fun e w'=>e= .returned (I a)∧w=w')):
  U 97 #[.string s] w (Z (I (-1)) w):=by
 go_enter func97,ntmps97;go_wp2_with fail;refine(HA _).mono ?_;rintro e w1 ⟨rfl,rfl⟩;go_wp2;exact bodyPost_ret (v:=I (-1)) (by simp[results,results97,go_sem, *]) rfl ⟨rfl,by exact .refl _⟩
theorem aM4 (s:ByteArray)(w:World)(h5:s.size=5)(a b:Int)(hz:((s[0].toNat:Int)==48)=false)(ha:0≤a)(hb:b<0)(HA:Hid (∀w,U 57 #[.string (s.extract 0 4)] w fun e w'=>e= .returned (I a)∧w=w'))(HB:Hid (∀w,U 57 #[.string (s.extract 4 5)] w fun e w'=>e= .returned (I b)∧w=w')):
  U 97 #[.string s] w (Z (I (-1)) w):=by
 go_enter func97,ntmps97;go_wp2_with fail;refine(HA _).mono ?_;rintro e w1 ⟨rfl,rfl⟩;go_wp2_with fail;refine(HB _).mono ?_;rintro e w1 ⟨rfl,rfl⟩;go_wp2;exact bodyPost_ret (v:=I (-1)) (by simp[results,results97,go_sem, *]) rfl ⟨rfl,by exact .refl _⟩
theorem aJ4 (s:ByteArray)(w:World)(h5:s.size=5)(a b:Int)(hz:((s[0].toNat:Int)==48)=false)(ha:0≤a)(c:a≤9999)(hb:0≤b)(d:b≤9999)(HA:Hid (∀w,U 57 #[.string (s.extract 0 4)] w fun e w'=>e= .returned (I a)∧w=w'))(HB:Hid (∀w,U 57 #[.string (s.extract 4 5)] w fun e w'=>e= .returned (I b)∧w=w')):
  U 97 #[.string s] w (Z (I (10*a+b)) w):=by
 have q1:IntKind.i64.wrap (10*a)=10*a:=aT5 _ (by omega);have q2:IntKind.i64.wrap (10*a+b)=10*a+b:=aT5 _ (by omega);go_enter func97,ntmps97;go_wp2_with fail;refine(HA _).mono ?_;rintro e w1 ⟨rfl,rfl⟩;go_wp2_with fail;refine(HB _).mono ?_;rintro e w1 ⟨rfl,rfl⟩;go_wp2_with fail;refine rL (gl [gEq (.string s),gEq (.string (s.extract 0 4)),gEq a,gEq (10*a:Int),gEq (.string s),gEq (.string (s.extract 4 5)),gEq b,gEq (10*a+b:Int)]) 8 9 [(0,some 23),(1,some 24),(2,some 25),(3,some 26),(4,some 27),(5,some 28),(6,some 29),(7,some 30)] ?steps ?fin
 case steps=>
  refine sS0 [] (sS1 [(0,some 23)] ?_);refine sC [(1,some 24)] rfl (fun wi hx=> ?_) ?_
  ·intro v1 h1 K hK;obtain rfl:=h1;go_wp2_with fail;refine(HA _).mono ?_;rintro e w2 ⟨rfl,rfl⟩;go_simp;exact hK _ _ ⟨I a,rfl,rfl,Ext.refl _⟩
  refine sS1 [(2,some 25)] (sS0 [] (sS1 [(4,some 27)] ?_));refine sC [(5,some 28)] rfl (fun wi hx=> ?_) ?_
  ·intro v5 h5 K hK;obtain rfl:=h5;go_wp2_with fail;refine(HB _).mono ?_;rintro e w2 ⟨rfl,rfl⟩;go_simp;exact hK _ _ ⟨I b,rfl,rfl,Ext.refl _⟩
  exact sS2 [(3,some 26),(6,some 29)] StepsL.nil
 case fin=>intro wi hx v0 h0 v1 h1 v2 h2 v3 h3 v4 h4 v5 h5 v6 h6 v7 h7;subst h0 h1 h2 h3 h4 h5 h6 h7;refine wpAny_ready (rs:= [8]) (by kernel_rfl) (by simp) ?_;refine AllReady.cons rfl (fun K hK=> ?_) AllReady.nil;go_simp;refine hK _ _ ?_;clear hK K;refine wpAny_done (by kernel_rfl) ?_ _;go_wp2;exact bodyPost_ret (v:=I (10*a+b)) (by simp[results,results97,go_sem, *]) rfl ⟨rfl,by exact .trans (.drew (.refl _)) hx⟩
theorem xU (l:List UInt8)(w:World)(hs:l.length≤maxLen):U 97 #[str l] w (Z (I (fC l)) w):=by
 by_cases h:l.length=5
 ·rw[aI0 h];have a:(⟨l.toArray⟩:ByteArray).size=5:=by simpa[ByteArray.size]using h
  have b:((⟨l.toArray⟩:ByteArray)[0]'(by rw[a];omega))=l[0]'(by omega):=by simp[ByteArray.getElem_eq_getElem_data]
  have hh:l.head? =some (l[0]'(by omega)):=by rw[List.head?_eq_getElem?,aT3]
  have rd: ∀(i j:Nat) (q:List UInt8),(l.take j).drop i=q→q.length≤maxLen→ ∀w,U 57 #[.string ((⟨l.toArray⟩:ByteArray).extract i j)] w fun e w'=>e= .returned (I ((bH 4 q).getD (-1)))∧w=w':=by intro i j q hq hl w;rw[oC ⟨l.toArray⟩ i j q (by simpa using hq)];exact nV q hl w
  have rA:=rd 0 4 (l.take 4) (by simp) (by simp;unfold maxLen;omega);have rB:=rd 4 5 (l.drop 4) (by rw[aT7 (by omega)]) (by simp;unfold maxLen;omega);have bd: ∀(m:Nat) (q:List UInt8),m≤4→(bH m q).getD (-1)≤9999:=by
   intro m q hm;cases hr:bH m q with
   |none=>simp
   |some x=>
    unfold bH at hr;split at hr
    ·rename_i hc;cases hr
     exact aOs q hc.2.2.2 (by omega)
    simp at hr
  have bA:=bd 4 (l.take 4) (by omega);have bB:=bd 4 (l.drop 4) (by omega);by_cases c0:l.head? =some 48
  ·rw[if_pos (.inl c0)];rw[hh]at c0;injection c0 with c0;exact aE9 ⟨l.toArray⟩ w a 0 0 (by rw[b,c0];rfl)
  have c1:((((⟨l.toArray⟩:ByteArray)[0]'(by rw[a];omega)).toNat:Int)==48)=false:=by rw[b,beq_eq_false_iff_ne];intro e;apply c0;rw[hh];congr 1;exact UInt8.toNat_inj.1 (by have:(48:UInt8).toNat=48:=rfl;omega)
  by_cases cA:(bH 4 (l.take 4)).getD (-1)<0
  ·rw[if_pos (.inr (.inl cA))];exact aM5 ⟨l.toArray⟩ w a _ 0 c1 cA rA
  by_cases cB:(bH 4 (l.drop 4)).getD (-1)<0
  ·rw[if_pos (.inr (.inr cB))];exact aM4 ⟨l.toArray⟩ w a _ _ c1 (by omega) cB rA rB
  rw[if_neg (by rintro(h|h|h);exact c0 h;exact cA h;exact cB h)];exact aJ4 ⟨l.toArray⟩ w a _ _ c1 (by omega) bA (by omega) bB rA rB
 rw[aFj h];exact aBn ⟨l.toArray⟩ w (by simpa[ByteArray.size]using h) (by simpa[ByteArray.size]using hs) _ (fun w=>nV l hs w)
end
end Go.Proofs.YtbgkcehffiogcabGreatDoor
