/-
  Texts of this proof, packed (@packed).
-/
import Derived.Lib.AppendZerosOnto
import Derived.Lib.LaidTab
import Derived.Lib.TrailingZeros
import Derived.Shelf.Spec.SlicesInsert
import Derived.Test.YtomgkjinhnkpnaaGreatDoorX27
namespace Go.Proofs.YtomgkjinhnkpnaaGreatDoor
open Go.RowKit
set_option linter.unusedSimpArgs false
set_option linter.unusedVariables false
set_option maxHeartbeats 8000000
set_option maxRecDepth 100000
section
open Go.Proofs.Tryz
theorem qP {P:Program}(w:World)(dT sT ty c:TypeId)(k n:Nat)(b o d f:Nat)(a:Addr)(e h:Nat)(cs:List Value)
  (hu:P.underlying dT=some (.slice c))(hs:(P.info? c).map (·.size)=some k)(hm:Nat.min e d=n)(hn:cs.length=n*k)
  (g: ∀j v,cs[j]? =some v→w.cell? (a.add j)=some v) (hc: ∀j,j<cs.length→(w.cell? ⟨b,o+j,none⟩).isSome=true) (hf: ∀j,j<cs.length→w.frozen? ⟨b,o+j,none⟩=false) (h1: ∀v∈cs,v.oneCell'=true):
  (Builtin.copy_ #[dT,sT] ty #[.slice (some ⟨b,o,none⟩) d f,.slice (some a) e h]).run P w= .ok (goInt n) (w.setCells b o cs):=by
 have hl:=run_loadCells_list (P:=P) w a cs g;have l:=run_storeCells_cells (P:=P) b o cs 0 w (by simpa using hc) (by simpa using hf) h1;cases hq:P.info? c with
 |none=>simp[hq]at hs
 |some i=>
  have hi:i.size=k:=by simpa[hq]using hs
  simp[Builtin.copy_,run_underlying hu,Builtin.lenOf,Builtin.firstCells,sizeOf,typeInfo,hq,hi,hm,←hn,hl,l]
theorem yF:(prog.info? TV).map (fun i=>(i.zero,i.size,i.bytes))=some (some (.agg #[(),(),(),()]),4,32):=by kernel_rfl
theorem aQ2 (v:aQ):(aE v).length=4:=rfl
theorem aFu (v:aQ): ∀u∈aE v,u.oneCell'=true:=by intro u hu;simp only[aE,aRv,List.not_mem_nil,or_false]at hu;rcases hu with rfl|rfl|rfl|rfl<;>rfl
theorem aKb {X C V:List Value}{i n:Nat}(hX:X.length=(n+1)*4)(hC:C.length=n*4)(hV:V.length=4)(hi:i≤n)(hp:X.take (i*4)=C.take (i*4)):
  ((X.take (i*4)++V++X.drop (i*4+V.length)).take ((i+1)*4)++C.drop (i*4)++(X.take (i*4)++V++X.drop (i*4+V.length)).drop ((i+1)*4+(C.drop (i*4)).length))=C.take (i*4)++V++C.drop (i*4):=by
 have h1:(X.take (i*4)++V).length=(i+1)*4:=by rw[aRm,aS7,hX,hV,Nat.min_eq_left (by omega)];omega
 have h2:(X.take (i*4)++V++X.drop (i*4+V.length)).length=(n+1)*4:=by rw[aRm,h1,aT4,hX,hV];omega
 have h3:(X.take (i*4)++V++X.drop (i*4+V.length)).drop ((i+1)*4+(C.drop (i*4)).length)= []:=List.drop_of_length_le (by rw[h2,aT4,hC];omega);have h4:(X.take (i*4)++V++X.drop (i*4+V.length)).take ((i+1)*4)=X.take (i*4)++V:=by rw[aTe (by rw[h1];exact aRg _)];exact aRn (by rw[h1];exact aRg _)
 rw[h3,h4,aS6,hp]
theorem aGv {X C V:List Value}{i n:Nat}(hX:X.length=(n+1)*4)(hC:C.length=n*4)(hV:V.length=4)(hi:i≤n)(hp:X.take (n*4)=C):
  ((X.take ((i+1)*4)++C.drop (i*4)++X.drop ((i+1)*4+(C.drop (i*4)).length)).take (i*4)++V++(X.take ((i+1)*4)++C.drop (i*4)++X.drop ((i+1)*4+(C.drop (i*4)).length)).drop (i*4+V.length))=C.take (i*4)++V++C.drop (i*4):=by
 have h0:(X.take ((i+1)*4)).length=(i+1)*4:=by rw[aS7,hX];omega
 have h1:X.drop ((i+1)*4+(C.drop (i*4)).length)= []:=List.drop_of_length_le (by rw[hX,aT4,hC];omega);have h2:(X.take ((i+1)*4)++C.drop (i*4)).take (i*4)=X.take (i*4):=by rw[aTe (by rw[h0];omega),List.take_take,Nat.min_eq_left (by omega)]
 have h3:(X.take ((i+1)*4)++C.drop (i*4)).drop ((i+1)*4)=C.drop (i*4):=by rw[List.drop_append_of_le_length (by rw[h0];exact aRg _),List.drop_of_length_le (by rw[h0];exact aRg _),aT9]
 rw[h1,aS6,h2,hV,show i*4+4=(i+1)*4 by omega,h3];rw[←hp,List.take_take,Nat.min_eq_left (by omega)]
theorem aLd (vs:List aQ)(v:aQ)(i:Nat):(vs.flatMap aE).take (i*4)++aE v++(vs.flatMap aE).drop (i*4)=(vs.take i++v::vs.drop i).flatMap aE:=by rw[pI,lA,aS8,aSm,aS5]
section
variable {w0 w:World} {L:List Item}
theorem aPe (q:OA)(vb c n:Nat)(vs:List aQ)(v:aQ)(ix:Nat)(hn:n≤1000)(hl:Hid (vs.length=n))(hM:Hid (Mem w0 w L))(f:Hid (Blk w vb TV (aE v).toArray))(b:Hid (L[ix]? =some (aJ w0 TV 4 q n c (vs.flatMap aE)))):
  U 90 #[.slice q n c,n,.slice (some ⟨vb,0,none⟩) 1 1] w fun e w'=> ∃q' c',e= .returned (.slice q' (n+1) c')∧Mem w0 w' (L.set ix (aJ w0 TV 4 q' (n+1) c' (vs.flatMap aE++aE v))):=by
 have hS:Sl w (some ⟨vb,0,none⟩) 1 1 4 (aE v):=⟨by rw[aQ2],aRg _,by simp[maxLen],fun _=>⟨vb,0,rfl,f.out.lt,fun k hk=>by rw[aSq,f.out.cell k];simp⟩⟩
 obtain⟨q',c',w',d,h⟩:=aE0 (P:=prog) (ty:=28) w uS hM.out b.out (some ⟨vb,0,none⟩) 1 1 (aE v) hS (aFu v) (by omega);have HM:=h;have HQ:=xQ ((hM.out.own b.out).2);have j:c≤9223372036854775807:=by have:=(Sl.own (hM.out.own b.out)).mx;unfold maxLen at this;omega
 have m:n≤c:=(Sl.own (hM.out.own b.out)).le;clear h hS f hM b;cases q with
 |none=>
  have i:n=0∧c=0:=by
   rcases HQ.out with⟨h2,_⟩|⟨g,_,_,h2,_⟩
   ·injection h2 with h3 h4 h5;exact⟨h4,h5⟩
   cases h2
  obtain⟨rfl,rfl⟩:=i;go_enter func90,ntmps90;go_wp2_with (at_builtin;refine Lib.wpList_append_run _ rfl _ _ _ _ rfl _ _ rfl rfl _ _ d ?_);go_ret;exact⟨q',c',rfl,HM⟩
 |some a=>obtain⟨ab,ao,l⟩:=a;go_enter func90,ntmps90;go_wp2_with (at_builtin;refine Lib.wpList_append_run _ rfl _ _ _ _ rfl _ _ rfl rfl _ _ d ?_);all_goals (go_ret;exact⟨q',c',rfl,HM⟩)
theorem aKo (g i:Nat)(vb c n:Nat)(vs:List aQ)(v:aQ)(ix:Nat)(hn:n≤1000)(hl:Hid (vs.length=n))(hM:Hid (Mem w0 w L))(o:Hid (Blk w vb TV (aE v).toArray))(hi:i<n)(l:n+1≤c)(an:vb≠g)(t:Hid (L[ix]? =some (aJ w0 TV 4 (some ⟨g,0,none⟩) n c (vs.flatMap aE)))):
  U 90 #[.slice (some ⟨g,0,none⟩) n c,i,.slice (some ⟨vb,0,none⟩) 1 1] w fun e w'=> ∃q' c',e= .returned (.slice q' (n+1) c')∧Mem w0 w' (L.set ix (aJ w0 TV 4 q' (n+1) c' ((vs.flatMap aE).take (i*4)++aE v++(vs.flatMap aE).drop (i*4)))):=by
 obtain⟨i0,af,au,ah,av⟩:=info_parts yF;have ag:(prog.info? TV).map (·.size)=some 4:=by rw[af];simp[ah]
 have aq: ∀w,(Go.sizeOf TV).run prog w= .ok 4 w:=fun w=>by simp[sizeOf,typeInfo,af,ah]
 have u1:=underlying28;obtain⟨cs,r⟩: ∃cs,cs=vs.flatMap aE:=⟨_,rfl⟩
 rw[←r]at t⊢;have q:cs.length=n*4:=by rw[r,cX aE 4 (fun _=>rfl),hl.out]
 have ak: ∀u∈cs,u.oneCell'=true:=by rw[r];exact eZ vs
 obtain⟨V,hV⟩: ∃V,V=aE v:=⟨_,rfl⟩
 rw[←hV]at o⊢;have b:V.length=4:=by rw[hV];rfl
 have ai: ∀u∈V,u.oneCell'=true:=by rw[hV];exact aFu v
 have hO:=hM.out.own t.out
 -- the slice with one place more
 obtain⟨X,hX,aj,p⟩: ∃X:List Value,X.length=(n+1)*4∧X.take (n*4)=cs∧w.drew.ownsRow w0 TV 4 (.slice (some ⟨g,0,none⟩) (n+1) c) (n+1) X:=by
  rcases hO.2 with⟨h2,_⟩|⟨g',c',cur,h1,h3,h4,h5,h6,h7,h8⟩
  ·cases h2
  injection h1 with e1 e2 e3;injection e1 with e1;injection e1 with e1;subst e1 e3;have ax:(n+1)*4≤cur.size:=by rw[h7];exact aT5 4 l
  refine⟨cur.toList.take ((n+1)*4),by rw[aS7];simp;omega,?_,by rw[aS7];simp;omega,.inr ⟨g,c,cur,rfl,h3,h4,l,h6,h7,rfl⟩⟩;rw[List.take_take,Nat.min_eq_left (by omega)];exact h8
 have ap: ∃kB,w.shape? g=some (TV,kB)∧kB≠0:=by
  rcases hO.2 with⟨h2,_⟩|⟨g',c',cur,h1,h3,h4,h5,h6,h7,h8⟩
  ·cases h2
  injection h1 with e1 e2 e3;injection e1 with e1;injection e1 with e1;subst e1 e3;exact⟨cur.size,by simp[World.shape?,h4],by rw[h7];omega⟩
 obtain⟨kB,ab,ao⟩:=ap;have aa:w.shape? vb=some (TV,4):=by have:=o.out;unfold Blk at this;simp[World.shape?,this,b]
 have f: ∀k,w.frozen? ⟨vb,k,none⟩=false:=fun k=>o.out.frozen k
 have ar: ∀lb cb,(callFunc 127 #[.slice (some ⟨vb,0,none⟩) 1 1,.slice (some ⟨g,(i+1)*4,none⟩) lb cb]).run prog w= .ok (.value (.bool false)) w:=fun lb cb=>by
  rw[run_callFunc_extern func127 (by kernel_rfl) (by kernel_rfl) (by kernel_rfl) (e:=Extern.SlicesOverlaps.overlaps #[28,28] #[4]) (by kernel_rfl),
   Lib.run_overlaps_apart w 28 4 TV u1 4 aq ⟨vb,0,none⟩ ⟨g,(i+1)*4,none⟩ 1 1 lb cb an TV TV 4 kB aa ab ao (f 0) (f 4)]
  rfl
 have s:(cs.drop (i*4)).length=(n-i)*4:=by rw[aT4,q,Nat.sub_mul]
 have d: ∀j u,cs[j]? =some u→w.cell? ⟨g,j,none⟩=some u:=fun j u hu=>by
  have hj:j<n*4:=by rw[←q];exact(aRk.1 hu).1
  rw[hO.cellAt j hj];exact hu
 have m: ∀j,j<(n+1)*4→(w.drew.cell? ⟨g,j,none⟩).isSome=true:=fun j hj=>by rw[p.cellAt j hj,aRh (by omega)];rfl
 have z: ∀ty dc sc,(Builtin.copy_ #[28,28] ty #[.slice (some ⟨g,(i+1)*4,none⟩) (n-i) dc,.slice (some ⟨g,i*4,none⟩) (n+1-i) sc]).run prog w.drew= .ok (goInt (n-i:Nat)) (w.drew.setCells g ((i+1)*4) (cs.drop (i*4))):=fun ty dc sc=>
  qP w.drew _ _ ty TV 4 (n-i) g ((i+1)*4) (n-i) dc ⟨g,i*4,none⟩ (n+1-i) sc (cs.drop (i*4)) u1 ag (by simp only[Nat.min_def];split<;>omega) s
   (fun j u hj=>by rw[Addr.add_lit];exact d (i*4+j) u (by rwa[List.getElem?_drop]at hj))
   (fun j hj=>m _ (by rw[s]at hj;omega)) (fun j hj=>p.frozenAt _) (fun u hu=>ak u (List.mem_of_mem_drop hu))
 obtain⟨W1,ad⟩: ∃W1,W1=w.drew.setCells g ((i+1)*4) (cs.drop (i*4)):=⟨_,rfl⟩
 obtain⟨h1,g1⟩:=gI (cs.drop (i*4)) ((i+1)*4) _ _ p (by rw[s,hX];omega);rw[←ad]at h1 g1 z;obtain⟨X1,ae⟩: ∃X1,X1=X.take ((i+1)*4)++cs.drop (i*4)++X.drop ((i+1)*4+(cs.drop (i*4)).length):=⟨_,rfl⟩
 rw[←ae]at h1;have y:X1.length=(n+1)*4:=h1.1;have a: ∀j u,V[j]? =some u→W1.cell? ⟨vb,j,none⟩=some u:=fun j u hu=>by rw[ad,World.cell?_setCells_out g _ _ _ _ (fun h _=>absurd h an)];have:=o.out.cell j;show w.cell? ⟨vb,j,none⟩=some u;rw[this];simpa using hu
 have al: ∀(W:World),(∀x,W.cell? x=W1.cell? x)→(∀x,W.frozen? x=W1.frozen? x)→ ∀ty dc,(Builtin.copy_ #[28,28] ty #[.slice (some ⟨g,i*4,none⟩) (n+1-i) dc,.slice (some ⟨vb,0,none⟩) 1 1]).run prog W= .ok (goInt (1:Nat)) (W.setCells g (i*4) V):=fun W hWc hWf ty dc=>
  qP W _ _ ty TV 4 1 g (i*4) (n+1-i) dc ⟨vb,0,none⟩ 1 1 V u1 ag (by simp only[Nat.min_def];split<;>omega) (by rw[b])
   (fun j u hj=>by rw[Addr.add_lit,hWc,aSq];exact a j u hj)
   (fun j hj=>by rw[hWc,h1.cellAt _ (by omega),aRh (by omega)];rfl) (fun j hj=>by rw[hWf];exact h1.frozenAt _) ai
 obtain⟨h2,g2⟩:=gI V (i*4) _ _ h1 (by rw[b,y];omega);have am:Hid (Mem w0 (W1.setCells g (i*4) V) (L.set ix (aJ w0 TV 4 (some ⟨g,0,none⟩) (n+1) c (cs.take (i*4)++V++cs.drop (i*4))))):=by rw[ae,aGv hX q b (by omega) aj]at h2;exact hM.out.app t.out h2 ((show w.grownBy w.drew (some g)from⟨rfl,rfl,rfl,aRg _,fun _ _ _=>rfl⟩).trans (g1.trans g2)) (.inl rfl)
 have aw:c≤9223372036854775807:=by have:=(Sl.own hO).mx;unfold maxLen at this;omega
 have q2:IntKind.i64.wrap ((i:Int)+1)=(i:Int)+1:=aRj _ (by omega);have q3:((i:Int)+1).toNat=i+1:=by omega
 have q4:i≤n:=by omega
 have q5: ¬c=i:=by omega
 have q6: ¬c=i+1:=by omega
 have q7:IntKind.i64.wrap ((n:Int)+1)=(n:Int)+1:=aRj _ (by omega);have q8:((n:Int)+1).toNat=n+1:=by omega
 have b1:(0:Int)≤(i:Int)+1:=by omega
 have b3:(i:Int)≤(n:Int)+1:=by omega
 have b5:(i:Int)+1≤(n:Int)+1:=by omega
 clear h1 h2 g1 g2 ae y hX aj p hO ak ai d m a f aa ab ao b hV r s q ad hM t o aq ag af au ah av u1;go_enter func90,ntmps90;go_wp2_with (simp only[ar]);go_region_law (refine step_copy_runI rfl _ _ 28 28 rfl _ _ (by simp[Act.eval,Act.put]) (by simp[Act.eval,Act.put]) (z _ _ _) ?_)
 go_wp2_with (at_builtin;refine wpList_copy_runI _ rfl _ _ 28 28 rfl _ _ rfl rfl (al _ (fun _=>rfl) (fun _=>rfl) _ _) ?_);go_ret;exact⟨_,_,rfl,am.out⟩
theorem aNc (g i:Nat)(vb c n:Nat)(vs:List aQ)(v:aQ)(ix:Nat)(hn:n≤1000)(hl:Hid (vs.length=n))(hM:Hid (Mem w0 w L))(aa:Hid (Blk w vb TV (aE v).toArray))(hi:i<n)(a9:n≤c)(ak:c<n+1)(a8:vb≠g)(z:Hid (L[ix]? =some (aJ w0 TV 4 (some ⟨g,0,none⟩) n c (vs.flatMap aE)))):
  U 90 #[.slice (some ⟨g,0,none⟩) n c,i,.slice (some ⟨vb,0,none⟩) 1 1] w fun e w'=> ∃q' c',e= .returned (.slice q' (n+1) c')∧Mem w0 w' (L.set ix (aJ w0 TV 4 q' (n+1) c' ((vs.flatMap aE).take (i*4)++aE v++(vs.flatMap aE).drop (i*4)))):=by
 obtain⟨i0,ai,ax,an,ao⟩:=info_parts yF;have am:(prog.info? TV).map (·.size)=some 4:=by rw[ai];simp[an]
 have u1:=underlying28;have u2:=underlying3;obtain⟨cs,y⟩: ∃cs,cs=vs.flatMap aE:=⟨_,rfl⟩
 rw[←y]at z⊢;have o:cs.length=n*4:=by rw[y,cX aE 4 (fun _=>rfl),hl.out]
 have ar: ∀u∈cs,u.oneCell'=true:=by rw[y];exact eZ vs
 obtain⟨V,hV⟩: ∃V,V=aE v:=⟨_,rfl⟩
 rw[←hV]at aa⊢;have s:V.length=4:=by rw[hV];rfl
 have aq: ∀u∈V,u.oneCell'=true:=by rw[hV];exact aFu v
 have hO:=hM.out.own z.out;have a1:g<w:=(aSa hO g rfl).2;have a2:vb<w:=aa.out.lt;have hB:(w0:Nat)≤w:=hM.out.ext.sz;have p:(cs.drop (i*4)).length=(n-i)*4:=by rw[aT4,o,Nat.sub_mul]
 have d: ∀j u,cs[j]? =some u→w.cell? ⟨g,j,none⟩=some u:=fun j u hu=>by
  have hj:j<n*4:=by rw[←o];exact(aRk.1 hu).1
  rw[hO.cellAt j hj];exact hu
 have m: ∀j u,V[j]? =some u→w.cell? ⟨vb,j,none⟩=some u:=fun j u hu=>by rw[aa.out.cell j];simpa using hu
 have aw:(n:Int)+1-(i:Int)=((n+1-i:Nat):Int):=by omega
 have aj:i+(n+1-i)=n+1:=by omega
 have ae:(Builtin.firstCells i0.size i (.slice (some ⟨g,0,none⟩) i c)).run prog w.drew= .ok (cs.take (i*4)).toArray w.drew:=by
  rw[an]
  exact run_firstCells_some w.drew 4 i ⟨g,0,none⟩ i c (cs.take (i*4)) (by rw[aS7];omega) (fun j u hj=>by
   rw[Addr.add_lit,aSq];rw[List.getElem?_take]at hj;split at hj
   ·exact d j u hj
   ·cases hj)
 have al: ∀ty,(Builtin.append_ #[28,3] ty #[.slice (some ⟨g,0,none⟩) i c,((n:Int)+1-(i:Int):Int)]).run prog w=
   .ok (.slice (some ⟨w,0,none⟩) (n+1) (grownCap w (n+1) c TV)) (w.drew.alloc (.cells ((cs.take (i*4)).toArray++Builtin.zeroCells (Value.agg #[(),(),(),()]).cells (n+1-i)++Builtin.zeroCells (Value.agg #[(),(),(),()]).cells (grownCap w (n+1) c TV-(n+1))) TV)):=fun ty=>by
  have h:=Lib.run_append_grow_zeros w 28 3 ty TV i0 _ .i64 .i64 u1 u2 ai ax (some ⟨g,0,none⟩) i c (cs.take (i*4)) ae (n+1-i) (by omega) (by omega) (by omega) (by omega) (by rw[ao];omega) (by rw[ao,aj];exact growslice_fits ak (by omega));rw[aj]at h;rw[aw];exact h
 obtain⟨G,hG⟩: ∃G,G=grownCap w (n+1) c TV:=⟨_,rfl⟩
 have a0:n+1≤G:=by rw[hG];exact grownCap_ge w _ _ _
 have ap:G≤maxLen:=by rw[hG];exact grownCap_le_maxLen w (n+1) c TV (by unfold maxLen;omega)
 obtain⟨ROW,l⟩: ∃ROW:Array Value,ROW=(cs.take (i*4)).toArray++Builtin.zeroCells (Value.agg #[(),(),(),()]).cells (n+1-i)++Builtin.zeroCells (Value.agg #[(),(),(),()]).cells (G-(n+1)):=⟨_,rfl⟩
 rw[←hG]at al;rw[←l]at al;have af:ROW.size=G*4:=by rw[l];simp only[Array.size_append,List.size_toArray,aS7,o,Builtin.zeroCells,Value.cells];simp;omega
 have ag:(ROW.toList.take ((n+1)*4)).take (i*4)=cs.take (i*4):=by rw[List.take_take,Nat.min_eq_left (by omega),l,Array.toList_append,Array.toList_append,aS5,aTe (by simp[aS7];omega)];simp[List.take_take]
 obtain⟨X,hX⟩: ∃X,X=ROW.toList.take ((n+1)*4):=⟨_,rfl⟩
 rw[←hX]at ag;have t:X.length=(n+1)*4:=by rw[hX,aS7,Array.length_toList,af];omega
 obtain⟨W1,a⟩: ∃W1,W1=w.drew.alloc (.cells ROW TV):=⟨_,rfl⟩
 obtain⟨N,hN⟩: ∃N,N=w.heap.size:=⟨_,rfl⟩
 have q:W1.ownsRow w0 TV 4 (.slice (some ⟨N,0,none⟩) (n+1) G) (n+1) X:=
  ⟨t,.inr ⟨N,G,ROW,rfl,by omega,by have:=Blk.new w.drew TV ROW;rw[a,hN];exact this,a0,ap,af,hX.symm⟩⟩
 obtain⟨h2,g2⟩:=gI V (i*4) _ _ q (by rw[s,t];omega);obtain⟨X1,ah⟩: ∃X1,X1=X.take (i*4)++V++X.drop (i*4+V.length):=⟨_,rfl⟩
 rw[←ah]at h2;have ab:X1.length=(n+1)*4:=h2.1;obtain⟨h3,g3⟩:=gI (cs.drop (i*4)) ((i+1)*4) _ _ (bI h2 (Ext.drew (Ext.refl _))) (by rw[p,ab];omega);rw[ah,aKb t o s (by omega) ag]at h3;have f: ∀(b k:Nat),b<w.heap.size→W1.cell? ⟨b,k,none⟩=w.cell? ⟨b,k,none⟩:=fun b k hb=>by rw[a];exact aSu (w:=w.drew) _ b k hb
 have au: ∀(W:World),(∀x,W.cell? x=W1.cell? x)→(∀x,W.frozen? x=W1.frozen? x)→ ∀ty dc,(Builtin.copy_ #[28,28] ty #[.slice (some ⟨N,i*4,none⟩) (n+1-i) dc,.slice (some ⟨vb,0,none⟩) 1 1]).run prog W= .ok (goInt (1:Nat)) (W.setCells N (i*4) V):=fun W hWc hWf ty dc=>
  qP W _ _ ty TV 4 1 N (i*4) (n+1-i) dc ⟨vb,0,none⟩ 1 1 V u1 am (by simp only[Nat.min_def];split<;>omega) (by rw[s])
   (fun j u hj=>by rw[Addr.add_lit,hWc,aSq,f _ _ a2];exact m j u hj)
   (fun j hj=>by rw[hWc,q.cellAt _ (by omega),aRh (by omega)];rfl) (fun j hj=>by rw[hWf];exact q.frozenAt _) aq
 have ad: ∀(W:World),(∀x,W.cell? x=(W1.setCells N (i*4) V).cell? x)→(∀x,W.frozen? x=(W1.setCells N (i*4) V).frozen? x)→ ∀ty dc sc,(Builtin.copy_ #[28,28] ty #[.slice (some ⟨N,(i+1)*4,none⟩) (n-i) dc,.slice (some ⟨g,i*4,none⟩) (n-i) sc]).run prog W= .ok (goInt (n-i:Nat)) (W.setCells N ((i+1)*4) (cs.drop (i*4))):=fun W hWc hWf ty dc sc=>
  qP W _ _ ty TV 4 (n-i) N ((i+1)*4) (n-i) dc ⟨g,i*4,none⟩ (n-i) sc (cs.drop (i*4)) u1 am (by simp only[Nat.min_def];split<;>omega) p
   (fun j u hj=>by
    rw[Addr.add_lit,hWc,World.cell?_setCells_out _ _ _ _ _ (fun h _=>absurd h (by show g≠N;omega)),f _ _ a1]
    exact d (i*4+j) u (by rwa[List.getElem?_drop]at hj))
   (fun j hj=>by rw[hWc,h2.cellAt _ (by rw[p]at hj;omega),aRh (by rw[p]at hj;omega)];rfl) (fun j hj=>by rw[hWf];exact h2.frozenAt _) (fun u hu=>ar u (List.mem_of_mem_drop hu))
 have av:Hid (Mem w0 ((W1.setCells N (i*4) V).drew.setCells N ((i+1)*4) (cs.drop (i*4))) (L.set ix (aJ w0 TV 4 (some ⟨N,0,none⟩) (n+1) G (cs.take (i*4)++V++cs.drop (i*4))))):=by
  refine hM.out.app z.out h3 ?_ (.inr (by rw[hN];rfl));have e2:Ext w ((W1.setCells N (i*4) V).drew.setCells N ((i+1)*4) (cs.drop (i*4))):=by
   have e1:Ext w W1:=by rw[a];exact(Ext.drew (Ext.refl w)).alloc _
   exact ExtR.new e1 (show ExtR N W1 _ from(show ExtR N W1 _ from g2).drew.trans g3) (by omega)
  exact e2.r g
 have a6: ¬(G=i):=by omega
 have a3: ¬(G=i+1):=by omega
 have a7: ¬(c=i):=by omega
 have a4: ∀x,((w.alloc (.cells ROW TV)).drew).cell? x=W1.cell? x:=fun x=>by rw[a];rfl
 have a5: ∀x,((w.alloc (.cells ROW TV)).drew).frozen? x=W1.frozen? x:=fun x=>by rw[a];rfl
 have ay: ∀x,(((w.alloc (.cells ROW TV)).drew.setCells w (i*4) V).drew).cell? x=(W1.setCells N (i*4) V).cell? x:=fun x=>by rw[a,hN];rfl
 have az: ∀x,(((w.alloc (.cells ROW TV)).drew.setCells w (i*4) V).drew).frozen? x=(W1.setCells N (i*4) V).frozen? x:=fun x=>by rw[a,hN];rfl
 have q2:IntKind.i64.wrap ((i:Int)+1)=(i:Int)+1:=aRj _ (by omega);have q3:((i:Int)+1).toNat=i+1:=by omega
 have q4:i≤n:=by omega
 have q7:IntKind.i64.wrap ((n:Int)+1)=(n:Int)+1:=aRj _ (by omega);have q9:IntKind.i64.wrap ((n:Int)+1-(i:Int))=(n:Int)+1-(i:Int):=aRj _ (by omega);have ba:(c:Int)<(n:Int)+1:=by omega
 have b1:(0:Int)≤(i:Int)+1:=by omega
 have b3:(i:Int)≤(n:Int)+1:=by omega
 have b5:(i:Int)+1≤(n:Int)+1:=by omega
 subst hN;clear aw aj ae l af ag hX t q h2 g2 ah ab h3 g3 f ar aq s hV y o hO m d p hB hM z aa am u1 u2 ai ax an ao hG ap hl;subst a;go_enter func90,ntmps90
 go_wp2_with (first
  |(at_builtin;refine Lib.wpList_append_run _ rfl _ _ _ _ rfl _ _ rfl rfl _ _ (al _) ?_)
  |(at_builtin;refine wpList_copy_runI _ rfl _ _ 28 28 rfl _ _ rfl rfl (au _ (fun _=>rfl) (fun _=>rfl) _ _) ?_)
  |(at_builtin;refine wpList_copy_runI _ rfl _ _ 28 28 rfl _ _ rfl rfl (ad _ (fun _=>rfl) (fun _=>rfl) _ _ _) ?_))
 go_region_law (refine step_copy_runI rfl _ _ 28 28 rfl (.slice (some ⟨w,(i+1)*4,none⟩) (n-i) (G-(i+1))) (.slice (some ⟨g,i*4,none⟩) (n-i) (c-i)) (by simp[Act.eval,Act.put]) (by simp[Act.eval,Act.put]) (ad _ ay az 3 (G-(i+1)) (c-i)) ?_)
 go_wp2;go_ret;exact⟨_,_,rfl,av.out⟩
theorem aEi (q:OA)(i:Nat)(vb c n:Nat)(vs:List aQ)(v:aQ)(ix:Nat)(hn:n≤1000)(hl:Hid (vs.length=n))(hM:Hid (Mem w0 w L))(b:Hid (Blk w vb TV (aE v).toArray))(hi:i≤n)(d: ∀g,(Value.slice q n c).ownBlock=some g→vb≠g)(a:Hid (L[ix]? =some (aJ w0 TV 4 q n c (vs.flatMap aE)))):
  U 90 #[.slice q n c,i,.slice (some ⟨vb,0,none⟩) 1 1] w fun e w'=> ∃q' c',e= .returned (.slice q' (n+1) c')∧Mem w0 w' (L.set ix (aJ w0 TV 4 q' (n+1) c' ((vs.take i++v::vs.drop i).flatMap aE))):=by
 have f:=hl.out;by_cases he:i=n
 ·subst he;have:=aPe q vb c i vs v ix hn hl hM b a;rw[show(vs.take i++v::vs.drop i).flatMap aE=vs.flatMap aE++aE v by rw[←f,aT3,List.drop_length,aS8];simp];exact this
 rw[←aLd];rcases(hM.out.own a.out).2 with⟨h2,_⟩|⟨g,c',cur,h1,h3,h4,h5,h6,h7,h8⟩
 ·injection h2 with e1 e2 e3;omega
 injection h1 with e1 e2 e3;subst e1 e3;by_cases hr:n+1≤c
 ·exact aKo g i vb c n vs v ix hn hl hM b (by omega) hr (d g rfl) a
 exact aNc g i vb c n vs v ix hn hl hM b (by omega) h5 (by omega) (d g rfl) a
end
end
section
open Go
def zC (L:List Item):Item:=⟨fun g=> ∃it∈L,it.adr g,fun w=> ∀it∈L,it.ok w⟩
theorem aLi {L:List Item}{B:Nat}(h: ∀it∈L,it.Good B):(zC L).Good B:=
 ⟨fun w ho g ⟨it,hi,hg⟩=>(h it hi).lt w (ho it hi) g hg,fun w w' ho hs hst it hi=>(h it hi).stay w w' (ho it hi) hs (fun g hg=>hst g ⟨it,hi,hg⟩)⟩
theorem Mem.fold {w0 w:World}(K:List Item){L:List Item}(h:Mem w0 w (K++L)):Mem w0 w (K++ [zC L]):=by
 have hp:=List.pairwise_append.1 h.apart;refine⟨h.ext,fun it hi=> ?_,fun it hi=> ?_,List.pairwise_append.2 ⟨hp.1,List.pairwise_singleton _ _,fun a ha b hb g hg hb'=> ?_⟩⟩
 ·rcases aS0.1 hi with hi|hi
  ·exact h.good it (aSj _ hi)
  obtain rfl:=aS2.1 hi;exact aLi (fun x hx=>h.good x (List.mem_append_right _ hx))
 ·rcases aS0.1 hi with hi|hi
  ·exact h.ok it (aSj _ hi)
  obtain rfl:=aS2.1 hi;exact fun x hx=>h.ok x (List.mem_append_right _ hx)
 obtain rfl:=aS2.1 hb;obtain⟨it,d,c⟩:=hb';exact hp.2.2 a ha it d g hg c
theorem Mem.frame {w0 w w':World}(K K':List Item){L:List Item}(h:Mem w0 w (K++L))(h':Mem w0 w' (K'++ [zC L])):Mem w0 w' (K'++L):=by
 have hp:=List.pairwise_append.1 h.apart;have c:=List.pairwise_append.1 h'.apart;refine⟨h'.ext,fun it hi=> ?_,fun it hi=> ?_,List.pairwise_append.2 ⟨c.1,hp.2.1,fun a ha b hb g hg hb'=> ?_⟩⟩
 ·rcases aS0.1 hi with hi|hi
  ·exact h'.good it (aSj _ hi)
  exact h.good it (List.mem_append_right _ hi)
 ·rcases aS0.1 hi with hi|hi
  ·exact h'.ok it (aSj _ hi)
  exact h'.ok (zC L) (by simp) it hi
 exact c.2.2 a ha (zC L) (by simp) g hg ⟨b,hb,hb'⟩
end
section
def fF (aA:Int)(n M s f:Nat):List Nat:=if(s%M).testBit f then []else((aT aA n f).filter (fun t=>(s%M).testBit t)).map (fun t=>gY M (s/M) (s%M) f t)
def iT (aA:Int)(n M s f:Nat):List Nat:=(List.range f).flatMap (fF aA n M s)
def jI (aA:Int)(n M s f j:Nat):List Nat:=(((aT aA n f).take j).filter (fun t=>(s%M).testBit t)).map (fun t=>gY M (s/M) (s%M) f t)
theorem aAp (aA:Int)(n M s:Nat):iT aA n M s n=oT aA n M s:=by
 unfold iT oT eR;rw[List.map_flatMap];congr 1;funext f;unfold fF;split
 ·rfl
 rw[List.map_map];rfl
theorem rT (aA:Int)(n M s f:Nat):iT aA n M s (f+1)=iT aA n M s f++fF aA n M s f:=by unfold iT;rw[aT2,aS8];simp
theorem aR6 {aA:Int}{n M s f:Nat}(hb:(s%M).testBit f=true):fF aA n M s f= []:=by unfold fF;rw[if_pos hb]
theorem aOa {aA:Int}{n M s f:Nat}(hb:(s%M).testBit f=false):fF aA n M s f=jI aA n M s f (aT aA n f).length:=by unfold fF jI;rw[if_neg (by rw[hb];decide),aT3]
theorem aGx (aA:Int)(n M s f:Nat):jI aA n M s f 0= []:=rfl
theorem aN0 {aA:Int}{n M s f j t:Nat}(hj:(aT aA n f)[j]? =some t) (hb:(s%M).testBit t=false):jI aA n M s f (j+1)=jI aA n M s f j:=by unfold jI;rw[aX hj,aSd,aSt];simp[hb]
theorem aKc {aA:Int}{n M s f j t:Nat}(hj:(aT aA n f)[j]? =some t) (hb:(s%M).testBit t=true):jI aA n M s f (j+1)=jI aA n M s f j++ [gY M (s/M) (s%M) f t]:=by unfold jI;rw[aX hj,aSd,aSt];simp[hb]
structure SOk (N:Nat) (B:List Int) (Q:List Nat):Prop where
 len:B.length=N
 bd: ∀v∈Q,v<N
 mem: ∀v,v<N→(0≤B.getD v 0↔v∈Q)
 nodup:Q.Nodup
theorem SOk.qlen {N:Nat}{B:List Int}{Q:List Nat}(h:SOk N B Q):Q.length≤N:=pO h.nodup h.bd
theorem SOk.relax {N:Nat}{B:List Int}{Q:List Nat}(h:SOk N B Q){u:Int}(hu:0≤u){v:Nat}(hv:v<N):SOk N (eU u (B,Q) v).1 (eU u (B,Q) v).2:=by
 unfold Go.Proofs.YtomgkjinhnkpnaaGreatDoor.eU;by_cases hc:B.getD v 0<0
 ·rw[if_pos hc];have c:v∉Q:=fun hm=>by have:=(h.mem v hv).2 hm;omega
  refine⟨by simp[h.len],?_,?_,?_⟩
  ·intro x hx;rcases aS0.1 hx with hx|hx
   ·exact h.bd x hx
   obtain rfl:=aS2.1 hx;exact hv
  ·intro x hx;dsimp only;rw[aS0,aS2];by_cases e:v=x
   ·subst e;rw[cL (by rw[h.len];exact hv)];exact⟨fun _=> .inr rfl,fun _=>hu⟩
   rw[bS e,h.mem x hx];exact⟨.inl,fun h=>h.resolve_right (fun e2=>e e2.symm)⟩
  show(Q++ [v]).Nodup;rw[List.nodup_append];exact⟨h.nodup,by simp,fun a ha b hb e=>by obtain rfl:=aS2.1 hb;exact c (e▸ha)⟩
 rw[if_neg hc];exact h
theorem SOk.expand {N:Nat}{u:Int}(hu:0≤u): ∀(vs:List Nat) {B:List Int} {Q:List Nat},SOk N B Q→(∀v∈vs,v<N)→SOk N (bQ u (B,Q) vs).1 (bQ u (B,Q) vs).2
 | [],B,Q,h,_=>h
 |v::vs,B,Q,h,hv=>by have h1:=h.relax hu (hv v (by simp));have:Go.Proofs.YtomgkjinhnkpnaaGreatDoor.bQ u (B,Q) (v::vs)=Go.Proofs.YtomgkjinhnkpnaaGreatDoor.bQ u ((Go.Proofs.YtomgkjinhnkpnaaGreatDoor.eU u (B,Q) v).1,(Go.Proofs.YtomgkjinhnkpnaaGreatDoor.eU u (B,Q) v).2) vs:=rfl;rw[this];exact SOk.expand hu vs h1 (fun x hx=>hv x (by simp[hx]))
theorem pZ (u:Int): ∀(vs:List Nat) (B:List Int) (Q:List Nat),∃r,(bQ u (B,Q) vs).2=Q++r∧ ∀x∈r,x∈vs
 | [],B,Q=>⟨[],by simp[bQ],by simp⟩
 |v::vs,B,Q=>by
  have e:bQ u (B,Q) (v::vs)=bQ u ((eU u (B,Q) v).1,(eU u (B,Q) v).2) vs:=rfl;obtain⟨r,h1,h2⟩:=pZ u vs (eU u (B,Q) v).1 (eU u (B,Q) v).2;rw[e,h1];unfold eU;split
  ·exact⟨v::r,by simp,fun x hx=>by
    rcases aRv.1 hx with rfl|hx
    ·simp
    ·simp[h2 x hx]⟩
  exact⟨r,rfl,fun x hx=>by simp[h2 x hx]⟩
inductive SRun (adj:Nat→List Nat) (goal:Nat→Prop) (N start:Nat):Nat→List Int→List Nat→Prop
 |init:SRun adj goal N start 0 ((List.replicate N (-1)).set start (start:Int)) [start]
 |step {k u:Nat} {B:List Int} {Q:List Nat}:SRun adj goal N start k B Q→Q[k]? =some u→ ¬goal u→SRun adj goal N start (k+1) (bQ (u:Int) (B,Q) (adj u)).1 (bQ (u:Int) (B,Q) (adj u)).2
theorem SRun.ok {adj:Nat→List Nat}{b:Nat→Prop}{N a k:Nat}{B:List Int}{Q:List Nat}(hs:a<N)(d: ∀u v,u<N→v∈adj u→v<N)(h:SRun adj b N a k B Q):SOk N B Q∧ ∀v∈Q,∃m,pC adj [a] m v:=by
 induction h with
 |init=>
  refine⟨⟨by simp,by simpa using hs,fun v hv=> ?_,by simp⟩,fun v hv=>⟨0,by simpa[pC]using hv⟩⟩;by_cases e:a=v
  ·subst e;rw[cL (by simpa using hs)];simp
  rw[bS e];simp[List.getD,hv];exact fun h=>e h.symm
 |step h1 hu hg ih=>
  obtain⟨i1,i2⟩:=ih;have c:=aRi hu;refine⟨SOk.expand (by omega) _ i1 (fun v hv=>d _ v (i1.bd _ c) hv),fun v hv=> ?_⟩;obtain⟨r,e,hr⟩:=pZ (_:Nat) (adj _) _ _;rw[e]at hv;rcases aS0.1 hv with hv|hv
  ·exact i2 v hv
  obtain⟨m,hm⟩:=i2 _ c;exact⟨m+1,_,hm,hr v hv⟩
theorem SRun.fwd {adj:Nat→List Nat}{b:Nat→Prop}{D:Nat→Int}{g:Nat→Nat}{d N a k:Nat}{B:List Int}{Q:List Nat}(hs:a<N)(hG:oV adj D g d a)(hD:aFq adj D N)(c: ∀m v,pC adj [a] m v→(b v↔D v=0))
  (h:SRun adj b N a k B Q): ∃A,Fwd adj D g d N a k B A Q:=by
 induction h with
 |init=>exact⟨_,Fwd.start hG hs⟩
 |step h1 hu hg ih=>obtain⟨A,hA⟩:=ih;obtain⟨m,hm⟩:=(h1.ok hs hD.bd).2 _ (aRi hu);exact hA.step hG hD hu (fun e=>hg ((c m _ hm).2 e))
theorem SRun.stuck {adj:Nat→List Nat}{b:Nat→Prop}{N a k:Nat}{B:List Int}{Q:List Nat}(ha:adj a= [])(h:SRun adj b N a k B Q):Q= [a]:=by
 induction h with
 |init=>rfl
 | @step k u B Q h1 hu hg ih=>
   rw[ih]at hu⊢;have:u=a:=by
    match k,hu with
    |0,hu=>simpa using hu.symm
    |k+1,hu=>simp at hu
   subst this;rw[ha];rfl
section
variable {aA aB:Int} {xs:List Int} {c:Nat} {id:Int}
theorem aE4 (hf:bP xs= []):aO xs=0:=by
 apply aTr;intro k;rw[eV,Nat.zero_testBit];cases h:cW xs k with
 |false=>rfl
 |true=>
  have:k∈bP xs:=by
   unfold bP;rw[aS4];refine⟨?_,h⟩;rw[aRz];unfold cW at h;by_cases hk:k<xs.length
   ·exact hk
   simp[aSv (Nat.le_of_not_lt hk)]at h
  rw[hf]at this;simp at this
theorem aLk {aA:Int}{n:Nat}{u:Nat}(h:u%2 ^ n=0):oT aA n (2 ^ n) u= []:=by rw[List.eq_nil_iff_forall_not_mem];intro v hv;obtain⟨f,t,h1,h2,h3,h4,h5,h6⟩:=qI.1 hv;rw[h]at h5;simp at h5
abbrev st0 (xs:List Int)(c:Nat):Nat×Nat:=(c,aO xs)
theorem tX (h:aN aA aB xs=true)(hc:xs[c]? =some id) (h0:id≠0):fC xs.length (st0 xs c)<xs.length*2 ^ xs.length∧fC xs.length (st0 xs c)/2 ^ xs.length=c∧fC xs.length (st0 xs c)%2 ^ xs.length=aO xs:=by have hl:=(aRk.1 hc).1;exact⟨tQ hl (oQ xs),lB (oQ xs)⟩
theorem wY (e:4≤xs.length)(hn:xs.length≤12)(hc:xs[c]? =some id) (h0:id≠0): ∀m v,pC (oT aA xs.length (2 ^ xs.length)) [fC xs.length (st0 xs c)] m v→(v/2 ^ xs.length=0↔ddM xs.length (aV (hU aA xs.length (bP xs).length)) v=0):=by
 intro m v hv;have hp:=lL hc h0;obtain⟨a,b⟩:=walk_ok hn hp m v hv;have d:v<xs.length*2 ^ xs.length:=by have:=tQ (s:=(v/2 ^ xs.length,v%2 ^ xs.length)) a.car a.set;unfold fC at this;rw[Nat.mul_comm (v/2 ^ xs.length),aTl]at this;exact this
 exact(aOl e hn (mH hn) d a b).symm
theorem aAe (h:aN aA aB xs=true)(a:4≤xs.length)(hn:xs.length≤12)(hc:xs[c]? =some id) (h0:id≠0):
  (∃d:Nat,d≤60∧aV (hU aA xs.length (bP xs).length) c (aO xs)=d∧dV aA xs c=some (pD aA xs.length (aV (hU aA xs.length (bP xs).length)) (st0 xs c) d))∨(dV aA xs c=none∧c≠0∧aO xs=0):=by
 have hD:=mH (aA:=aA) (many:=(bP xs).length) hn;obtain⟨n1,n2,n3⟩:=uW h hc h0 hD;have he:=zA h hc h0 hD;by_cases hneg:aV (hU aA xs.length (bP xs).length) c (aO xs)<0
 ·rw[if_pos hneg]at he;have hf:bP xs= []:=by
   by_cases hh:bP xs= []
   ·exact hh
   have:=n1 hh;omega
  exact .inr ⟨he,fun e=>by have:=n2 e;omega,aE4 hf⟩
 rw[if_neg hneg]at he;left;refine⟨_,?_,(Int.toNat_of_nonneg (by omega)).symm,he⟩;by_cases hh:bP xs= []
 ·by_cases hc0:c=0
  ·have:=n2 hc0;omega
  have:=n3 hh hc0;omega
 have:=n1 hh;omega
structure SGoal (aA:Int) (xs:List Int) (c d:Nat) (u:Nat) (B:List Int):Prop where
 d60:d≤60
 way:dV aA xs c=some (pD aA xs.length (aV (hU aA xs.length (bP xs).length)) (st0 xs c) d)
 last:u=fC xs.length (gP aA xs.length (aV (hU aA xs.length (bP xs).length)) (st0 xs c) d)
 back: ∀j,j<d→B.getD (fC xs.length (gP aA xs.length (aV (hU aA xs.length (bP xs).length)) (st0 xs c) (j+1))) 0=fC xs.length (gP aA xs.length (aV (hU aA xs.length (bP xs).length)) (st0 xs c) j)
 far: ∀j,j≤d→fC xs.length (gP aA xs.length (aV (hU aA xs.length (bP xs).length)) (st0 xs c) j)=fC xs.length (st0 xs c)→j=0
 pt: ∀j,j≤d→pG xs.length (bP xs).length (gP aA xs.length (aV (hU aA xs.length (bP xs).length)) (st0 xs c) j)
 edge: ∀j,j<d→gZ aA xs.length (aV (hU aA xs.length (bP xs).length)) (st0 xs c) j∈eR aA xs.length (gP aA xs.length (aV (hU aA xs.length (bP xs).length)) (st0 xs c) j).2∧gP aA xs.length (aV (hU aA xs.length (bP xs).length)) (st0 xs c) (j+1)=kG (gP aA xs.length (aV (hU aA xs.length (bP xs).length)) (st0 xs c) j) (gZ aA xs.length (aV (hU aA xs.length (bP xs).length)) (st0 xs c) j)
abbrev aOr (aA:Int)(xs:List Int)(c k:Nat)(B:List Int)(Q:List Nat):Prop:=SRun (oT aA xs.length (2 ^ xs.length)) (fun v=>v/2 ^ xs.length=0) (xs.length*2 ^ xs.length) (fC xs.length (st0 xs c)) k B Q
theorem aDx (h:aN aA aB xs=true)(a:4≤xs.length)(hn:xs.length≤12)(hc:xs[c]? =some id) (h0:id≠0) {k u:Nat} {B:List Int} {Q:List Nat} (hr:aOr aA xs c k B Q) (hu:Q[k]? =some u) (hz:u/2 ^ xs.length=0): ∃d,SGoal aA xs c d u B:=by
 obtain⟨p1,p2,p3⟩:=tX h hc h0;have hp:=lL hc h0;have hD:=mH (aA:=aA) (many:=(bP xs).length) hn;rcases aAe h a hn hc h0 with⟨d,d60,hd,hb⟩|⟨hb,hc0,hf⟩
 ·have hG:=yQ a hn hD hp hd;obtain⟨A,hA⟩:=hr.fwd p1 hG (tK a hn hD) (wY a hn hc h0);obtain⟨m,hm⟩:=(hr.ok p1 (tK a hn hD).bd).2 u (aRi hu);obtain⟨g1,g2⟩:=hA.goal hG hu ((wY a hn hc h0 m u hm).1 hz);refine⟨d,d60,hb,g1,g2,fun j hj e=> ?_,fun j hj=>(jZ a hn hD hp hd j hj).1,fun j hj=>(kZ a hn hD hp hd hj).2⟩;have e1:=hG.dist j hj;have e2:=hG.dist 0 (aRo _);rw[hG.zero]at e2;try dsimp only at e1
  rw[e,e2]at e1;omega
 have:=hr.stuck (aLk (by rw[p3,hf]));subst this;have:u=fC xs.length (st0 xs c):=by
  match k,hu with
  |0,hu=>simpa using hu.symm
  |k+1,hu=>simp at hu
 rw[this,p2]at hz;exact absurd hz hc0
theorem aGo (h:aN aA aB xs=true)(a:4≤xs.length)(hn:xs.length≤12)(hc:xs[c]? =some id) (h0:id≠0) {k:Nat} {B:List Int} {Q:List Nat} (hr:aOr aA xs c k B Q) (hk:Q.length≤k):dV aA xs c=none:=by
 obtain⟨p1,p2,p3⟩:=tX h hc h0;have hp:=lL hc h0;have hD:=mH (aA:=aA) (many:=(bP xs).length) hn;rcases aAe h a hn hc h0 with⟨d,d60,hd,hb⟩|⟨hb,hc0,hf⟩
 ·have hG:=yQ a hn hD hp hd;obtain⟨A,hA⟩:=hr.fwd p1 hG (tK a hn hD) (wY a hn hc h0);have:=hA.more hG;omega
 exact hb
end
end
section
open Go
theorem nU (x:Nat)(h:x<9223372036854775808):IntKind.i64.wrap (x:Int)=(x:Int):=IntWalk.i64_in _ (by omega)
theorem pR (a b:Nat)(ha:a<9223372036854775808)(hb:b<9223372036854775808):bits .and .i64 (a:Int) (b:Int)=((a&&& b:Nat):Int):=by have hx:a&&& b<2 ^ 63:=Nat.and_lt_two_pow _ (by omega);show IntKind.i64.wrap ((BitVec.ofInt 64 (a:Int)&&& BitVec.ofInt 64 (b:Int)).toNat:Int)=_;rw[BitVec.toNat_and,ofInt_u64 a (by omega),ofInt_u64 b (by omega)];exact nU _ (by omega)
theorem vO (a b:Nat)(ha:a<9223372036854775808)(hb:b<9223372036854775808):bits .xor .i64 (a:Int) (b:Int)=((a ^^^ b:Nat):Int):=by have hx:a ^^^ b<2 ^ 63:=Nat.xor_lt_two_pow (by omega) (by omega);show IntKind.i64.wrap ((BitVec.ofInt 64 (a:Int) ^^^ BitVec.ofInt 64 (b:Int)).toNat:Int)=_;rw[BitVec.toNat_xor,ofInt_u64 a (by omega),ofInt_u64 b (by omega)];exact nU _ (by omega)
theorem aHz (a b:Nat)(ha:a<9223372036854775808)(hb:b<9223372036854775808):bits .or .i64 (a:Int) (b:Int)=((a |||b:Nat):Int):=by have hx:a |||b<2 ^ 63:=Nat.or_lt_two_pow (by omega) (by omega);show IntKind.i64.wrap ((BitVec.ofInt 64 (a:Int) |||BitVec.ofInt 64 (b:Int)).toNat:Int)=_;rw[BitVec.toNat_or,ofInt_u64 a (by omega),ofInt_u64 b (by omega)];exact nU _ (by omega)
theorem aJ7 (s k:Nat):s&&& 2 ^ k=if s.testBit k then 2 ^ k else 0:=by
 apply Nat.eq_of_testBit_eq;intro j;rw[Nat.testBit_and,Nat.testBit_two_pow];by_cases h:k=j
 ·subst h;cases hb:s.testBit k<;>simp[Nat.testBit_two_pow]
 cases hb:s.testBit k<;>simp[Nat.testBit_two_pow,h]
theorem aQc (x k:Nat)(h:x.testBit k=false):x |||2 ^ k=x+2 ^ k:=by
 apply aTr;intro j;rw[Nat.testBit_or,aTs,wT k x h];by_cases e:k=j
 ·subst e;simp
 have e2: ¬j=k:=fun h=>e h.symm
 simp[e,e2]
theorem aLp {s f t:Nat}(hf:s.testBit f=false)(ht:s.testBit t=true):(s ^^^ 2 ^ f) ^^^ 2 ^ t=dB s f t:=by
 apply aTr;intro j;have b:f≠t:=fun e=>by subst e;rw[ht]at hf;cases hf
 rw[Nat.testBit_xor,Nat.testBit_xor,aTs,aTs,eY ht hf];by_cases e1:j=f
 ·subst e1;have e2: ¬t=j:=fun h=>b h.symm
  simp[hf,b,e2]
 have a: ¬f=j:=fun h=>e1 h.symm
 by_cases e2:j=t
 ·subst e2;simp[ht,e1,a]
 have c: ¬t=j:=fun h=>e2 h.symm
 simp[e1,a,e2,c]
theorem qU {n k:Nat}(s:Nat)(hk:k<n):(s%2 ^ n).testBit k=s.testBit k:=by rw[Nat.testBit_mod_two_pow];simp[hk]
theorem aE5 {n s f t:Nat}(b:f<n)(a:t<n)(hf:s.testBit f=false)(ht:s.testBit t=true):dB s f t=s/2 ^ n*2 ^ n+dB (s%2 ^ n) f t:=by have h1:=(wS (show(s%2 ^ n).testBit t=true by rw[qU s a];exact ht)).1;unfold dB;have h2:=aTl s (2 ^ n);rw[Nat.mul_comm]at h2;omega
theorem aPa {n s f t:Nat}(a:f<n)(b:t<n)(hf:s.testBit f=false)(ht:s.testBit t=true)(hc:f≠s/2 ^ n):gY (2 ^ n) (s/2 ^ n) (s%2 ^ n) f t=dB s f t:=by unfold gY dS;rw[if_neg hc,aE5 a b hf ht]
theorem aN3 {n s f t:Nat}(a:f<n)(b:t<n)(hf:s.testBit f=false)(ht:s.testBit t=true)(hc:f=s/2 ^ n):((gY (2 ^ n) (s/2 ^ n) (s%2 ^ n) f t:Nat):Int)=(dB s f t:Nat)+((t:Int)-f)*2 ^ n:=by
 unfold gY dS;rw[if_pos hc,aE5 a b hf ht,←hc]
 push_cast
 have h1:((t:Int)-f)*2 ^ n=(t:Int)*2 ^ n-f*2 ^ n:=Int.sub_mul _ _ _;rw[h1];omega
theorem aMl {n c k:Nat}{p:Nat→Bool}(hk:k<n)(h:p k=true):(c*2 ^ n+jR p k) |||2 ^ k=c*2 ^ n+jR p (k+1):=by
 have hb:(c*2 ^ n+jR p k).testBit k=false:=by have h1:jR p k<2 ^ n:=aRf (qO p k) (aRs (by omega) (by omega));rw[←qU _ hk,iI h1,uX (qO p k) (aRg k)]
 rw[aQc _ _ hb];have:jR p (k+1)=jR p k+2 ^ k:=by show jR p k+(if p k then 2 ^ k else 0)=_;rw[h];rfl
 omega
theorem aMm {k:Nat}{p:Nat→Bool}(h:p k=false):jR p (k+1)=jR p k:=by show jR p k+(if p k then 2 ^ k else 0)=_;rw[h];simp
theorem pQ (a b r:Nat)(ha:a<9223372036854775808)(hb:b<9223372036854775808)(hr:r<9223372036854775808)(h: ∀j,r.testBit j=(a.testBit j&& !b.testBit j)):bits .andNot .i64 (a:Int) (b:Int)=(r:Int):=by
 have e:(BitVec.ofInt 64 (a:Int)&&& ~~~ BitVec.ofInt 64 (b:Int)).toNat=r:=by
  apply aTr;intro j;rw[BitVec.testBit_toNat,BitVec.getLsbD_and,BitVec.getLsbD_not,←BitVec.testBit_toNat,←BitVec.testBit_toNat,ofInt_u64 a (by omega),ofInt_u64 b (by omega),h];by_cases hj:j<64
  ·simp[hj]
  have:a.testBit j=false:=Nat.testBit_lt_two_pow (aRf (show a<2 ^ 63 by omega) (aRs (by omega) (by omega)));simp[this]
 show IntKind.i64.wrap ((BitVec.ofInt 64 (a:Int)&&& ~~~ BitVec.ofInt 64 (b:Int)).toNat:Int)=_;rw[e];exact nU _ (by omega)
theorem aO6 {S f t:Nat}(hf:S.testBit f=false)(ht:S.testBit t=true)(h1:S<4096)(h2:dB S f t<4096)(h3:2 ^ f<4096):bits .andNot .i64 ((dB S f t:Nat):Int) (S:Int)=((2 ^ f:Nat):Int):=by
 refine pQ _ _ _ (by omega) (by omega) (by omega) (fun j=> ?_);rw[eY ht hf,aTs];by_cases e:j=f
 ·subst e;simp[hf]
 have e': ¬f=j:=fun h=>e h.symm
 simp only[e,e',decide_false,Bool.false_or];cases S.testBit j<;>simp
theorem aO5 {S f t:Nat}(hf:S.testBit f=false)(ht:S.testBit t=true)(h1:S<4096)(h2:dB S f t<4096)(h3:2 ^ t<4096):bits .andNot .i64 (S:Int) ((dB S f t:Nat):Int)=((2 ^ t:Nat):Int):=by
 refine pQ _ _ _ (by omega) (by omega) (by omega) (fun j=> ?_);have a:f≠t:=fun e=>by subst e;rw[ht]at hf;cases hf
 rw[eY ht hf,aTs];by_cases e:j=t
 ·subst e;have e2: ¬j=f:=fun h=>a h.symm
  simp[ht,e2]
 have e': ¬t=j:=fun h=>e h.symm
 simp only[e,e',decide_false,Bool.not_false,Bool.and_true];by_cases e3:j=f
 ·subst e3;simp[hf]
 simp only[e3,decide_false,Bool.false_or];cases S.testBit j<;>simp
theorem aJ8 (s n:Nat)(hs:s<9223372036854775808)(hn:n≤12):bits .and .i64 (s:Int) ((2 ^ n-1:Nat):Int)=((s%2 ^ n:Nat):Int):=by have hp:2 ^ n≤2 ^ 12:=aRs (n:=2) (by omega) hn;rw[pR s _ hs (by omega),Nat.and_two_pow_sub_one_eq_mod]
end
section
open Go.Proofs.Tryz
theorem aQq:prog.globalNamed "math/bits.deBruijn64tab" =some 5:=by kernel_rfl
def BitTab (w:World):Prop:=Lib.TabIs prog w "math/bits.deBruijn64tab" .u8 (Lib.deBruijn64tab.map (fun(n:Nat)=>(n:Int)))
theorem BitTab.ext {w w':World}(h:BitTab w)(hx:Ext w w'):BitTab w':=Joins.var_stays aQq h hx (aRg _)
theorem aOv: ∀k:Fin 12,∃idx:Fin 64,IntKind.u64.wrap (bits BinOp.and IntKind.u64 ((2 ^ k.val:Nat):Int) (IntKind.u64.wrap (-((2 ^ k.val:Nat):Int)))*285870213051353865)/288230376151711744=(idx.val:Int)∧(Lib.deBruijn64tab.map (fun(n:Nat)=>(n:Int)))[idx.val]? =some (k.val:Int):=by decide+kernel
theorem aJg (x a:Nat)(k:Int)(w:World)(d:((x:Int)==0)=false)(f:IntKind.u64.wrap (x:Int)=(x:Int))
  (c:IntKind.u64.wrap (bits BinOp.and IntKind.u64 (x:Int) (IntKind.u64.wrap (-(x:Int)))*285870213051353865)/288230376151711744=(a:Int))
  (hi:a<64)(b:w.cell? ⟨5,a,none⟩=some (.int .u8 k))(hk:IntKind.i64.wrap k=k):
  U 200 #[.int .u64 (x:Int)] w fun e w'=>e= .returned (I k)∧w=w':=by
 go_enter func200,ntmps200;go_wp2_with (simp only[c]);go_ret;exact⟨rfl,rfl⟩
theorem aOw (x:Nat)(k:Int)(w:World)(a:IntKind.u64.wrap (x:Int)=(x:Int))
  (H:Hid (U 200 #[.int .u64 (x:Int)] w fun e w'=>e= .returned (I k)∧w=w')):
  U 173 #[.int .u64 (x:Int)] w fun e w'=>e= .returned (I k)∧w=w':=by
 go_enter func173,ntmps173;go_wp2_with fail;refine H.out.mono ?_;rintro e w' ⟨rfl,rfl⟩;go_wp2;go_ret;exact⟨rfl,rfl⟩
theorem aAb (k:Nat)(w:World)(hk:k<12)(hE:BitTab w):U 173 #[.int .u64 ((2 ^ k:Nat):Int)] w fun e w'=>e= .returned (I k)∧w=w':=by
 obtain⟨⟨b,hi⟩,c,ht⟩:=aOv ⟨k,hk⟩;dsimp only at c ht;have hp:2 ^ k≤2 ^ 11:=aRs (n:=2) (by omega) (by omega);have h0:0<2 ^ k:=aTq k;have a:IntKind.u64.wrap ((2 ^ k:Nat):Int)=((2 ^ k:Nat):Int):=by rw[IntKind.wrap_u64];omega
 have hc:=hE.cell aQq b (by simpa[Lib.deBruijn64tab]using hi);refine aOw (2 ^ k) k w a (aJg (2 ^ k) b k w (beq_eq_false_iff_ne.2 (by omega)) a c hi (by rw[hc,aRl,ht];rfl) (aRj _ (by omega)))
end
end Go.Proofs.YtomgkjinhnkpnaaGreatDoor
