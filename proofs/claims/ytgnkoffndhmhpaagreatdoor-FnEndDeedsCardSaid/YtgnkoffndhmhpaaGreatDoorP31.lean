/-
  Texts of this proof, packed (@packed).
-/
import Derived.IntWalk
import Derived.Laws.BitsAllLaws
import Derived.Lib.AppendZerosOnto
import Derived.Lib.LaidTab
import Derived.Lib.SmallJoins
import Derived.Lib.TrailingZeros
import Derived.Shelf.Spec.SlicesInsert
import Derived.Test.YtgnkoffndhmhpaaGreatDoorP4
import Derived.Test.YtgnkoffndhmhpaaGreatDoorP9
import Derived.Test.YtgnkoffndhmhpaaGreatDoorP15
import Derived.Test.YtgnkoffndhmhpaaGreatDoorP30
namespace Go.Proofs.YtgnkoffndhmhpaaGreatDoor
open Go.RowKit
set_option linter.unusedVariables false
set_option linter.unusedSimpArgs false
set_option maxHeartbeats 8000000
set_option maxRecDepth 100000
theorem oE {P:Program}(w:World)(dT sT ty elem:TypeId)(k n:Nat)(b o dLen dCap:Nat)(a:Addr)(sLen sCap:Nat)(cs:List Value)
  (hu:P.underlying dT=some (.slice elem))(hs:(P.info? elem).map (·.size)=some k)(hm:Nat.min sLen dLen=n)(hn:cs.length=n*k)
  (hsrc: ∀j v,cs[j]? =some v→w.cell? (a.add j)=some v) (hc: ∀j,j<cs.length→(w.cell? ⟨b,o+j,none⟩).isSome=true) (hf: ∀j,j<cs.length→w.frozen? ⟨b,o+j,none⟩=false) (h1: ∀v∈cs,v.oneCell'=true):
  (Builtin.copy_ #[dT,sT] ty #[.slice (some ⟨b,o,none⟩) dLen dCap,.slice (some a) sLen sCap]).run P w= .ok (goInt n) (w.setCells b o cs):=by
 have hl:=run_loadCells_list (P:=P) w a cs hsrc
 have c:=run_storeCells_cells (P:=P) b o cs 0 w (by simpa using hc) (by simpa using hf) h1
 cases hq:P.info? elem with
 |none=>simp[hq]at hs
 |some i=>
  have hi:i.size=k:=by simpa[hq]using hs
  simp[Builtin.copy_,run_underlying hu,Builtin.lenOf,Builtin.firstCells,sizeOf,typeInfo,hq,hi,hm,←hn,hl,c]
theorem uH:(Tryz.prog.info? TV).map (fun i=>(i.zero,i.size,i.bytes))=some (some (.agg #[(),(),(),()]),4,32):=by kernel_rfl
theorem aLd (v:aP):(aE v).length=4:=rfl
theorem aC0 (v:aP): ∀u∈aE v,u.oneCell'=true:=by
 intro u hu
 simp only[aE,List.mem_cons,List.not_mem_nil,or_false]at hu
 rcases hu with rfl|rfl|rfl|rfl<;>rfl
theorem aFt {X C V:List Value}{i n:Nat}(hX:X.length=(n+1)*4)(hC:C.length=n*4)(hV:V.length=4)(hi:i≤n)(hp:X.take (i*4)=C.take (i*4)):
  ((X.take (i*4)++V++X.drop (i*4+V.length)).take ((i+1)*4)++C.drop (i*4)++(X.take (i*4)++V++X.drop (i*4+V.length)).drop ((i+1)*4+(C.drop (i*4)).length))=C.take (i*4)++V++C.drop (i*4):=by
 have h1:(X.take (i*4)++V).length=(i+1)*4:=by rw[List.length_append,List.length_take,hX,hV,Nat.min_eq_left (by omega)];omega
 have h2:(X.take (i*4)++V++X.drop (i*4+V.length)).length=(n+1)*4:=by rw[List.length_append,h1,List.length_drop,hX,hV];omega
 have h3:(X.take (i*4)++V++X.drop (i*4+V.length)).drop ((i+1)*4+(C.drop (i*4)).length)= []:=List.drop_of_length_le (by rw[h2,List.length_drop,hC];omega)
 have h4:(X.take (i*4)++V++X.drop (i*4+V.length)).take ((i+1)*4)=X.take (i*4)++V:=by
  rw[List.take_append_of_le_length (by rw[h1];exact Nat.le_refl _)]
  exact List.take_of_length_le (by rw[h1];exact Nat.le_refl _)
 rw[h3,h4,List.append_nil,hp]
theorem aCy {X C V:List Value}{i n:Nat}(hX:X.length=(n+1)*4)(hC:C.length=n*4)(hV:V.length=4)(hi:i≤n)(hp:X.take (n*4)=C):
  ((X.take ((i+1)*4)++C.drop (i*4)++X.drop ((i+1)*4+(C.drop (i*4)).length)).take (i*4)++V++(X.take ((i+1)*4)++C.drop (i*4)++X.drop ((i+1)*4+(C.drop (i*4)).length)).drop (i*4+V.length))=C.take (i*4)++V++C.drop (i*4):=by
 have h0:(X.take ((i+1)*4)).length=(i+1)*4:=by rw[List.length_take,hX];omega
 have h1:X.drop ((i+1)*4+(C.drop (i*4)).length)= []:=List.drop_of_length_le (by rw[hX,List.length_drop,hC];omega)
 have h2:(X.take ((i+1)*4)++C.drop (i*4)).take (i*4)=X.take (i*4):=by
  rw[List.take_append_of_le_length (by rw[h0];omega),List.take_take,Nat.min_eq_left (by omega)]
 have h3:(X.take ((i+1)*4)++C.drop (i*4)).drop ((i+1)*4)=C.drop (i*4):=by
  rw[List.drop_append_of_le_length (by rw[h0];exact Nat.le_refl _),List.drop_of_length_le (by rw[h0];exact Nat.le_refl _),List.nil_append]
 rw[h1,List.append_nil,h2,hV,show i*4+4=(i+1)*4 by omega,h3]
 rw[←hp,List.take_take,Nat.min_eq_left (by omega)]
theorem aGt (vs:List aP)(v:aP)(i:Nat):(vs.flatMap aE).take (i*4)++aE v++(vs.flatMap aE).drop (i*4)=(vs.take i++v::vs.drop i).flatMap aE:=by
 rw[nF,jT,List.flatMap_append,List.flatMap_cons,List.append_assoc]
section
variable {w0 w:World} {L:List Item}
theorem aKp (q:OA)(vb c n:Nat)(vs:List aP)(v:aP)(ix:Nat)(hn:n≤1000)(hl:Hid (vs.length=n))(hM:Hid (Mem w0 w L))(hvb:Hid (Blk w vb TV (aE v).toArray))(hix:Hid (L[ix]? =some (aJ w0.heap.size TV 4 q n c (vs.flatMap aE)))):
  Calls Tryz.prog 113 #[.slice q n c,(n:Int),.slice (some ⟨vb,0,none⟩) 1 1] w fun e w'=> ∃q' c',e= .returned (.slice q' (n+1) c')∧Mem w0 w' (L.set ix (aJ w0.heap.size TV 4 q' (n+1) c' (vs.flatMap aE++aE v))):=by
 have hS:Sl w (some ⟨vb,0,none⟩) 1 1 4 (aE v):=⟨by rw[aLd],Nat.le_refl _,by simp[maxLen],fun _=>⟨vb,0,rfl,hvb.out.lt,fun k hk=>by rw[Nat.zero_add,hvb.out.cell k];simp⟩⟩
 obtain⟨q',c',w',b,d⟩:=aAg (P:=Tryz.prog) (ty:=33) w rR hM.out hix.out (some ⟨vb,0,none⟩) 1 1 (aE v) hS (aC0 v) (by omega)
 have HM:=d
 have HQ:=xQ ((hM.out.own hix.out).2)
 have h:c≤9223372036854775807:=by have:=(Sl.own (hM.out.own hix.out)).mx;unfold maxLen at this;omega
 have j:n≤c:=(Sl.own (hM.out.own hix.out)).le
 clear d hS hvb hM hix
 cases q with
 |none=>
  have f:n=0∧c=0:=by
   rcases HQ.out with⟨h2,_⟩|⟨g,_,_,h2,_⟩
   ·injection h2 with h3 h4 h5;exact⟨h4,h5⟩
   ·cases h2
  obtain⟨rfl,rfl⟩:=f
  go_enter Tryz.func113,Tryz.ntmps113
  go_wp2_with (at_builtin;refine Lib.wpList_append_run _ rfl _ _ _ _ rfl _ _ rfl rfl _ _ b ?_)
  go_ret
  exact⟨q',c',rfl,HM⟩
 |some a=>
  obtain⟨ab,ao,i⟩:=a
  go_enter Tryz.func113,Tryz.ntmps113
  go_wp2_with (at_builtin;refine Lib.wpList_append_run _ rfl _ _ _ _ rfl _ _ rfl rfl _ _ b ?_)
  all_goals (go_ret;exact⟨q',c',rfl,HM⟩)
theorem aG3 (g i:Nat)(vb c n:Nat)(vs:List aP)(v:aP)(ix:Nat)(hn:n≤1000)(hl:Hid (vs.length=n))(hM:Hid (Mem w0 w L))(hvb:Hid (Blk w vb TV (aE v).toArray))(hi:i<n)(hroom:n+1≤c)(hgv:vb≠g)(hix:Hid (L[ix]? =some (aJ w0.heap.size TV 4 (some ⟨g,0,none⟩) n c (vs.flatMap aE)))):
  Calls Tryz.prog 113 #[.slice (some ⟨g,0,none⟩) n c,(i:Int),.slice (some ⟨vb,0,none⟩) 1 1] w fun e w'=> ∃q' c',e= .returned (.slice q' (n+1) c')∧Mem w0 w' (L.set ix (aJ w0.heap.size TV 4 q' (n+1) c' ((vs.flatMap aE).take (i*4)++aE v++(vs.flatMap aE).drop (i*4)))):=by
 obtain⟨i0,ab,an,ae,ao⟩:=info_parts uH
 have ad:(Tryz.prog.info? TV).map (·.size)=some 4:=by rw[ab];simp[ae]
 have am: ∀w,(Go.sizeOf TV).run Tryz.prog w= .ok 4 w:=fun w=>by simp[sizeOf,typeInfo,ab,ae]
 have u1:=Tryz.underlying33
 obtain⟨cs,p⟩: ∃cs,cs=vs.flatMap aE:=⟨_,rfl⟩
 rw[←p]at hix⊢
 have q:cs.length=n*4:=by rw[p,dD aE 4 (fun _=>rfl),hl.out]
 have al: ∀u∈cs,u.oneCell'=true:=by rw[p];exact eJ vs
 obtain⟨V,hV⟩: ∃V,V=aE v:=⟨_,rfl⟩
 rw[←hV]at hvb⊢
 have f:V.length=4:=by rw[hV];rfl
 have ak: ∀u∈V,u.oneCell'=true:=by rw[hV];exact aC0 v
 have hO:=hM.out.own hix.out
 -- the slice with one place more
 obtain⟨X,hX,ai,l⟩: ∃X:List Value,X.length=(n+1)*4∧X.take (n*4)=cs∧w.drew.ownsRow w0.heap.size TV 4 (.slice (some ⟨g,0,none⟩) (n+1) c) (n+1) X:=by
  rcases hO.2 with⟨h2,_⟩|⟨g',c',cur,h1,h3,h4,h5,h6,h7,h8⟩
  ·cases h2
  ·injection h1 with e1 e2 e3
   injection e1 with e1;injection e1 with e1
   subst e1 e3
   have av:(n+1)*4≤cur.size:=by rw[h7];exact Nat.mul_le_mul_right 4 hroom
   refine⟨cur.toList.take ((n+1)*4),by rw[List.length_take];simp;omega,?_,by rw[List.length_take];simp;omega,.inr ⟨g,c,cur,rfl,h3,h4,hroom,h6,h7,rfl⟩⟩
   rw[List.take_take,Nat.min_eq_left (by omega)];exact h8
 have ap:g<w.heap.size:=by have:=World.ownsRow.lt l g rfl;simpa using this.2
 have aj: ∃kB,w.shape? g=some (TV,kB)∧kB≠0:=by
  rcases hO.2 with⟨h2,_⟩|⟨g',c',cur,h1,h3,h4,h5,h6,h7,h8⟩
  ·cases h2
  ·injection h1 with e1 e2 e3
   injection e1 with e1;injection e1 with e1
   subst e1 e3
   exact⟨cur.size,by simp[World.shape?,h4],by rw[h7];omega⟩
 obtain⟨kB,s,ah⟩:=aj
 have y:w.shape? vb=some (TV,4):=by
  have:=hvb.out
  unfold Blk at this
  simp[World.shape?,this,f]
 have b: ∀k,w.frozen? ⟨vb,k,none⟩=false:=fun k=>hvb.out.frozen k
 have aq: ∀lb cb,(callFunc 148 #[.slice (some ⟨vb,0,none⟩) 1 1,.slice (some ⟨g,(i+1)*4,none⟩) lb cb]).run Tryz.prog w= .ok (.value (.bool false)) w:=fun lb cb=>by
  rw[run_callFunc_extern Tryz.func148 (by kernel_rfl) (by kernel_rfl) (by kernel_rfl) (e:=Extern.SlicesOverlaps.overlaps #[33,33] #[4]) (by kernel_rfl),
   Lib.run_overlaps_apart w 33 4 TV u1 4 am ⟨vb,0,none⟩ ⟨g,(i+1)*4,none⟩ 1 1 lb cb hgv TV TV 4 kB y s ah (b 0) (b 4)]
  rfl
 have o:(cs.drop (i*4)).length=(n-i)*4:=by rw[List.length_drop,q,Nat.sub_mul]
 have m: ∀j u,cs[j]? =some u→w.cell? ⟨g,j,none⟩=some u:=fun j u hu=>by
  have hj:j<n*4:=by rw[←q];exact(List.getElem?_eq_some_iff.1 hu).1
  rw[hO.cellAt j hj];exact hu
 have d: ∀j,j<(n+1)*4→(w.drew.cell? ⟨g,j,none⟩).isSome=true:=fun j hj=>by
  rw[l.cellAt j hj,List.getElem?_eq_getElem (by omega)];rfl
 have t: ∀ty dc sc,(Builtin.copy_ #[33,33] ty #[.slice (some ⟨g,(i+1)*4,none⟩) (n-i) dc,.slice (some ⟨g,i*4,none⟩) (n+1-i) sc]).run Tryz.prog w.drew= .ok (goInt (n-i:Nat)) (w.drew.setCells g ((i+1)*4) (cs.drop (i*4))):=fun ty dc sc=>
  oE w.drew _ _ ty TV 4 (n-i) g ((i+1)*4) (n-i) dc ⟨g,i*4,none⟩ (n+1-i) sc (cs.drop (i*4)) u1 ad (by simp only[Nat.min_def];split<;>omega) o
   (fun j u hj=>by rw[Addr.add_lit];exact m (i*4+j) u (by rwa[List.getElem?_drop]at hj))
   (fun j hj=>d _ (by rw[o]at hj;omega)) (fun j hj=>l.frozenAt _) (fun u hu=>al u (List.mem_of_mem_drop hu))
 obtain⟨W1,r⟩: ∃W1,W1=w.drew.setCells g ((i+1)*4) (cs.drop (i*4)):=⟨_,rfl⟩
 obtain⟨h1,g1⟩:=fE (cs.drop (i*4)) ((i+1)*4) _ _ l (by rw[o,hX];omega)
 rw[←r]at h1 g1 t
 obtain⟨X1,aa⟩: ∃X1,X1=X.take ((i+1)*4)++cs.drop (i*4)++X.drop ((i+1)*4+(cs.drop (i*4)).length):=⟨_,rfl⟩
 rw[←aa]at h1
 have z:X1.length=(n+1)*4:=h1.1
 have a: ∀j u,V[j]? =some u→W1.cell? ⟨vb,j,none⟩=some u:=fun j u hu=>by
  rw[r,World.cell?_setCells_out g _ _ _ _ (fun h _=>absurd h hgv)]
  have:=hvb.out.cell j
  show w.cell? ⟨vb,j,none⟩=some u
  rw[this];simpa using hu
 have ag: ∀(W:World),(∀x,W.cell? x=W1.cell? x)→(∀x,W.frozen? x=W1.frozen? x)→ ∀ty dc,(Builtin.copy_ #[33,33] ty #[.slice (some ⟨g,i*4,none⟩) (n+1-i) dc,.slice (some ⟨vb,0,none⟩) 1 1]).run Tryz.prog W= .ok (goInt (1:Nat)) (W.setCells g (i*4) V):=fun W hWc hWf ty dc=>
  oE W _ _ ty TV 4 1 g (i*4) (n+1-i) dc ⟨vb,0,none⟩ 1 1 V u1 ad (by simp only[Nat.min_def];split<;>omega) (by rw[f])
   (fun j u hj=>by rw[Addr.add_lit,hWc,Nat.zero_add];exact a j u hj)
   (fun j hj=>by rw[hWc,h1.cellAt _ (by omega),List.getElem?_eq_getElem (by omega)];rfl) (fun j hj=>by rw[hWf];exact h1.frozenAt _) ak
 obtain⟨h2,g2⟩:=fE V (i*4) _ _ h1 (by rw[f,z];omega)
 have af:Hid (Mem w0 (W1.setCells g (i*4) V) (L.set ix (aJ w0.heap.size TV 4 (some ⟨g,0,none⟩) (n+1) c (cs.take (i*4)++V++cs.drop (i*4))))):=by
  rw[aa,aCy hX q f (by omega) ai]at h2
  exact hM.out.app hix.out h2 ((show w.grownBy w.drew (some g)from⟨rfl,rfl,rfl,Nat.le_refl _,fun _ _ _=>rfl⟩).trans (g1.trans g2)) (.inl rfl)
 have au:=xQ r
 have ar:c≤9223372036854775807:=by have:=(Sl.own hO).mx;unfold maxLen at this;omega
 have q1: ¬(i:Int)=(n:Int):=by omega
 have q2:IntKind.i64.wrap ((i:Int)+1)=(i:Int)+1:=IntWalk.i64_in _ (by omega)
 have q3:((i:Int)+1).toNat=i+1:=by omega
 have q4:i≤n:=by omega
 have q5: ¬c=i:=by omega
 have q6: ¬c=i+1:=by omega
 have q7:IntKind.i64.wrap ((n:Int)+1)=(n:Int)+1:=IntWalk.i64_in _ (by omega)
 have q8:((n:Int)+1).toNat=n+1:=by omega
 have b1:(0:Int)≤(i:Int)+1:=by omega
 have b3:(i:Int)≤(n:Int)+1:=by omega
 have b5:(i:Int)+1≤(n:Int)+1:=by omega
 have b6:i+1≤n+1:=by omega
 have b7:i≤n+1:=by omega
 clear h1 h2 g1 g2 aa z hX ai l hO al ak m d a b y s ah ap f hV p o q r hM hix hvb am ad ab an ae ao u1
 go_enter Tryz.func113,Tryz.ntmps113
 go_wp2_with (simp only[aq])
 go_region_law (refine step_copy_runI rfl _ _ 33 33 rfl _ _ (by simp[Act.eval,Act.put]) (by simp[Act.eval,Act.put]) (t _ _ _) ?_)
 go_wp2_with (at_builtin;refine wpList_copy_runI _ rfl _ _ 33 33 rfl _ _ rfl rfl (ag _ (fun _=>rfl) (fun _=>rfl) _ _) ?_)
 go_ret
 exact⟨_,_,rfl,af.out⟩
theorem aIf (g i:Nat)(vb c n:Nat)(vs:List aP)(v:aP)(ix:Nat)(hn:n≤1000)(hl:Hid (vs.length=n))(hM:Hid (Mem w0 w L))(hvb:Hid (Blk w vb TV (aE v).toArray))(hi:i<n)(hnc:n≤c)(hroom:c<n+1)(hgv:vb≠g)(hix:Hid (L[ix]? =some (aJ w0.heap.size TV 4 (some ⟨g,0,none⟩) n c (vs.flatMap aE)))):
  Calls Tryz.prog 113 #[.slice (some ⟨g,0,none⟩) n c,(i:Int),.slice (some ⟨vb,0,none⟩) 1 1] w fun e w'=> ∃q' c',e= .returned (.slice q' (n+1) c')∧Mem w0 w' (L.set ix (aJ w0.heap.size TV 4 q' (n+1) c' ((vs.flatMap aE).take (i*4)++aE v++(vs.flatMap aE).drop (i*4)))):=by
 obtain⟨i0,ak,aq,ag,ad⟩:=info_parts uH
 have af:(Tryz.prog.info? TV).map (·.size)=some 4:=by rw[ak];simp[ag]
 have u1:=Tryz.underlying33
 have u2:=Tryz.underlying3
 obtain⟨cs,q⟩: ∃cs,cs=vs.flatMap aE:=⟨_,rfl⟩
 rw[←q]at hix⊢
 have o:cs.length=n*4:=by rw[q,dD aE 4 (fun _=>rfl),hl.out]
 have ap: ∀u∈cs,u.oneCell'=true:=by rw[q];exact eJ vs
 obtain⟨V,hV⟩: ∃V,V=aE v:=⟨_,rfl⟩
 rw[←hV]at hvb⊢
 have t:V.length=4:=by rw[hV];rfl
 have ar: ∀u∈V,u.oneCell'=true:=by rw[hV];exact aC0 v
 have hO:=hM.out.own hix.out
 have aw:g<w.heap.size:=(World.ownsRow.lt hO g rfl).2
 have ay:vb<w.heap.size:=hvb.out.lt
 have hB:w0.heap.size≤w.heap.size:=hM.out.ext.sz
 have p:(cs.drop (i*4)).length=(n-i)*4:=by rw[List.length_drop,o,Nat.sub_mul]
 have d: ∀j u,cs[j]? =some u→w.cell? ⟨g,j,none⟩=some u:=fun j u hu=>by
  have hj:j<n*4:=by rw[←o];exact(List.getElem?_eq_some_iff.1 hu).1
  rw[hO.cellAt j hj];exact hu
 have m: ∀j u,V[j]? =some u→w.cell? ⟨vb,j,none⟩=some u:=fun j u hu=>by
  rw[hvb.out.cell j];simpa using hu
 have an:(n:Int)+1-(i:Int)=((n+1-i:Nat):Int):=by omega
 have ae:i+(n+1-i)=n+1:=by omega
 have ab:(Builtin.firstCells i0.size i (.slice (some ⟨g,0,none⟩) i c)).run Tryz.prog w.drew= .ok (cs.take (i*4)).toArray w.drew:=by
  rw[ag]
  exact run_firstCells_some w.drew 4 i ⟨g,0,none⟩ i c (cs.take (i*4)) (by rw[List.length_take];omega) (fun j u hj=>by
   rw[Addr.add_lit,Nat.zero_add]
   rw[List.getElem?_take]at hj
   split at hj
   ·exact d j u hj
   ·cases hj)
 have ai: ∀ty,(Builtin.append_ #[33,3] ty #[.slice (some ⟨g,0,none⟩) i c,((n:Int)+1-(i:Int):Int)]).run Tryz.prog w=
   .ok (.slice (some ⟨w.heap.size,0,none⟩) (n+1) (grownCap w (n+1) c TV)) (w.drew.alloc (.cells ((cs.take (i*4)).toArray++Builtin.zeroCells (Value.agg #[(),(),(),()]).cells (n+1-i)++Builtin.zeroCells (Value.agg #[(),(),(),()]).cells (grownCap w (n+1) c TV-(n+1))) TV)):=fun ty=>by
  have h:=Lib.run_append_grow_zeros w 33 3 ty TV i0 _ .i64 .i64 u1 u2 ak aq (some ⟨g,0,none⟩) i c (cs.take (i*4)) ab (n+1-i) (by omega) (by omega) (by omega) (by omega) (by rw[ad];omega) (by rw[ad,ae];exact growslice_fits hroom (by omega))
  rw[ae]at h
  rw[an]
  exact h
 obtain⟨G,hG⟩: ∃G,G=grownCap w (n+1) c TV:=⟨_,rfl⟩
 have ax:n+1≤G:=by rw[hG];exact grownCap_ge w _ _ _
 have al:G≤maxLen:=by rw[hG];exact grownCap_le_maxLen w (n+1) c TV (by unfold maxLen;omega)
 have a2:G≤9223372036854775807:=by unfold maxLen at al;omega
 obtain⟨ROW,l⟩: ∃ROW:Array Value,ROW=(cs.take (i*4)).toArray++Builtin.zeroCells (Value.agg #[(),(),(),()]).cells (n+1-i)++Builtin.zeroCells (Value.agg #[(),(),(),()]).cells (G-(n+1)):=⟨_,rfl⟩
 rw[←hG]at ai
 rw[←l]at ai
 have am:ROW.size=G*4:=by
  rw[l]
  simp only[Array.size_append,List.size_toArray,List.length_take,o,Builtin.zeroCells,Value.cells]
  simp
  omega
 have ah:(ROW.toList.take ((n+1)*4)).take (i*4)=cs.take (i*4):=by
  rw[List.take_take,Nat.min_eq_left (by omega),l,Array.toList_append,Array.toList_append,List.append_assoc,List.take_append_of_le_length (by simp[List.length_take];omega)]
  simp[List.take_take]
 obtain⟨X,hX⟩: ∃X,X=ROW.toList.take ((n+1)*4):=⟨_,rfl⟩
 rw[←hX]at ah
 have s:X.length=(n+1)*4:=by rw[hX,List.length_take,Array.length_toList,am];omega
 obtain⟨W1,a⟩: ∃W1,W1=w.drew.alloc (.cells ROW TV):=⟨_,rfl⟩
 obtain⟨N,hN⟩: ∃N,N=w.heap.size:=⟨_,rfl⟩
 have y:W1.ownsRow w0.heap.size TV 4 (.slice (some ⟨N,0,none⟩) (n+1) G) (n+1) X:=
  ⟨s,.inr ⟨N,G,ROW,rfl,by omega,by have:=Blk.new w.drew TV ROW;rw[a,hN];exact this,ax,al,am,hX.symm⟩⟩
 have a0:w.grownBy W1 (some g):=by rw[a];exact(Ext.drew (Ext.refl w)).alloc _ |>.r g
 obtain⟨h2,g2⟩:=fE V (i*4) _ _ y (by rw[t,s];omega)
 obtain⟨X1,aj⟩: ∃X1,X1=X.take (i*4)++V++X.drop (i*4+V.length):=⟨_,rfl⟩
 rw[←aj]at h2
 have z:X1.length=(n+1)*4:=h2.1
 obtain⟨h3,g3⟩:=fE (cs.drop (i*4)) ((i+1)*4) _ _ (bC h2 (Ext.drew (Ext.refl _))) (by rw[p,z];omega)
 rw[aj,aFt s o t (by omega) ah]at h3
 have f: ∀(b k:Nat),b<w.heap.size→W1.cell? ⟨b,k,none⟩=w.cell? ⟨b,k,none⟩:=fun b k hb=>by rw[a];exact World.cell?_alloc_past (w:=w.drew) _ b k hb
 have ao: ∀(W:World),(∀x,W.cell? x=W1.cell? x)→(∀x,W.frozen? x=W1.frozen? x)→ ∀ty dc,(Builtin.copy_ #[33,33] ty #[.slice (some ⟨N,i*4,none⟩) (n+1-i) dc,.slice (some ⟨vb,0,none⟩) 1 1]).run Tryz.prog W= .ok (goInt (1:Nat)) (W.setCells N (i*4) V):=fun W hWc hWf ty dc=>
  oE W _ _ ty TV 4 1 N (i*4) (n+1-i) dc ⟨vb,0,none⟩ 1 1 V u1 af (by simp only[Nat.min_def];split<;>omega) (by rw[t])
   (fun j u hj=>by rw[Addr.add_lit,hWc,Nat.zero_add,f _ _ ay];exact m j u hj)
   (fun j hj=>by rw[hWc,y.cellAt _ (by omega),List.getElem?_eq_getElem (by omega)];rfl) (fun j hj=>by rw[hWf];exact y.frozenAt _) ar
 have aa: ∀(W:World),(∀x,W.cell? x=(W1.setCells N (i*4) V).cell? x)→(∀x,W.frozen? x=(W1.setCells N (i*4) V).frozen? x)→ ∀ty dc sc,(Builtin.copy_ #[33,33] ty #[.slice (some ⟨N,(i+1)*4,none⟩) (n-i) dc,.slice (some ⟨g,i*4,none⟩) (n-i) sc]).run Tryz.prog W= .ok (goInt (n-i:Nat)) (W.setCells N ((i+1)*4) (cs.drop (i*4))):=fun W hWc hWf ty dc sc=>
  oE W _ _ ty TV 4 (n-i) N ((i+1)*4) (n-i) dc ⟨g,i*4,none⟩ (n-i) sc (cs.drop (i*4)) u1 af (by simp only[Nat.min_def];split<;>omega) p
   (fun j u hj=>by
    rw[Addr.add_lit,hWc,World.cell?_setCells_out _ _ _ _ _ (fun h _=>absurd h (by show g≠N;omega)),f _ _ aw]
    exact d (i*4+j) u (by rwa[List.getElem?_drop]at hj))
   (fun j hj=>by rw[hWc,h2.cellAt _ (by rw[p]at hj;omega),List.getElem?_eq_getElem (by rw[p]at hj;omega)];rfl) (fun j hj=>by rw[hWf];exact h2.frozenAt _) (fun u hu=>ap u (List.mem_of_mem_drop hu))
 have au:Hid (Mem w0 ((W1.setCells N (i*4) V).drew.setCells N ((i+1)*4) (cs.drop (i*4))) (L.set ix (aJ w0.heap.size TV 4 (some ⟨N,0,none⟩) (n+1) G (cs.take (i*4)++V++cs.drop (i*4))))):=by
  refine hM.out.app hix.out h3 ?_ (.inr (by rw[hN];rfl))
  have e2:Ext w ((W1.setCells N (i*4) V).drew.setCells N ((i+1)*4) (cs.drop (i*4))):=by
   have e1:Ext w W1:=by rw[a];exact(Ext.drew (Ext.refl w)).alloc _
   exact ExtR.new e1 (show ExtR N W1 _ from(show ExtR N W1 _ from g2).drew.trans g3) (by omega)
  exact e2.r g
 have a4: ¬(G=i):=by omega
 have a1: ¬(G=i+1):=by omega
 have a6: ¬(c=i):=by omega
 have a8: ∀x,((w.alloc (.cells ROW TV)).drew).cell? x=W1.cell? x:=fun x=>by rw[a];rfl
 have a3: ∀x,((w.alloc (.cells ROW TV)).drew).frozen? x=W1.frozen? x:=fun x=>by rw[a];rfl
 have av: ∀x,(((w.alloc (.cells ROW TV)).drew.setCells w.heap.size (i*4) V).drew).cell? x=(W1.setCells N (i*4) V).cell? x:=fun x=>by rw[a,hN];rfl
 have az: ∀x,(((w.alloc (.cells ROW TV)).drew.setCells w.heap.size (i*4) V).drew).frozen? x=(W1.setCells N (i*4) V).frozen? x:=fun x=>by rw[a,hN];rfl
 have q1: ¬(i:Int)=(n:Int):=by omega
 have q2:IntKind.i64.wrap ((i:Int)+1)=(i:Int)+1:=IntWalk.i64_in _ (by omega)
 have q3:((i:Int)+1).toNat=i+1:=by omega
 have q4:i≤n:=by omega
 have q7:IntKind.i64.wrap ((n:Int)+1)=(n:Int)+1:=IntWalk.i64_in _ (by omega)
 have q9:IntKind.i64.wrap ((n:Int)+1-(i:Int))=(n:Int)+1-(i:Int):=IntWalk.i64_in _ (by omega)
 have a7:(c:Int)<(n:Int)+1:=by omega
 have b1:(0:Int)≤(i:Int)+1:=by omega
 have b3:(i:Int)≤(n:Int)+1:=by omega
 have b5:(i:Int)+1≤(n:Int)+1:=by omega
 have b6:i+1≤n+1:=by omega
 have b7:i≤n+1:=by omega
 have a5:c≤9223372036854775807:=by omega
 subst hN
 clear an ae ab l am ah hX s y a0 h2 g2 aj z h3 g3 f ap ar t hV q o hO m d p hB hM hix hvb af u1 u2 ak aq ag ad hG al hl
 subst a
 go_enter Tryz.func113,Tryz.ntmps113
 go_wp2_with (first
  |(at_builtin;refine Lib.wpList_append_run _ rfl _ _ _ _ rfl _ _ rfl rfl _ _ (ai _) ?_)
  |(at_builtin;refine wpList_copy_runI _ rfl _ _ 33 33 rfl _ _ rfl rfl (ao _ (fun _=>rfl) (fun _=>rfl) _ _) ?_)
  |(at_builtin;refine wpList_copy_runI _ rfl _ _ 33 33 rfl _ _ rfl rfl (aa _ (fun _=>rfl) (fun _=>rfl) _ _ _) ?_))
 go_region_law (refine step_copy_runI rfl _ _ 33 33 rfl (.slice (some ⟨w.heap.size,(i+1)*4,none⟩) (n-i) (G-(i+1))) (.slice (some ⟨g,i*4,none⟩) (n-i) (c-i)) (by simp[Act.eval,Act.put]) (by simp[Act.eval,Act.put]) (aa _ av az 3 (G-(i+1)) (c-i)) ?_)
 go_wp2
 go_ret
 exact⟨_,_,rfl,au.out⟩
theorem aAt (q:OA)(i:Nat)(vb c n:Nat)(vs:List aP)(v:aP)(ix:Nat)(hn:n≤1000)(hl:Hid (vs.length=n))(hM:Hid (Mem w0 w L))(hvb:Hid (Blk w vb TV (aE v).toArray))(hi:i≤n)(hgv: ∀g,(Value.slice q n c).ownBlock=some g→vb≠g)(hix:Hid (L[ix]? =some (aJ w0.heap.size TV 4 q n c (vs.flatMap aE)))):
  Calls Tryz.prog 113 #[.slice q n c,(i:Int),.slice (some ⟨vb,0,none⟩) 1 1] w fun e w'=> ∃q' c',e= .returned (.slice q' (n+1) c')∧Mem w0 w' (L.set ix (aJ w0.heap.size TV 4 q' (n+1) c' ((vs.take i++v::vs.drop i).flatMap aE))):=by
 have a:=hl.out
 by_cases he:i=n
 ·subst he
  have:=aKp q vb c i vs v ix hn hl hM hvb hix
  rw[show(vs.take i++v::vs.drop i).flatMap aE=vs.flatMap aE++aE v by rw[←a,List.take_length,List.drop_length,List.flatMap_append];simp]
  exact this
 ·rw[←aGt]
  rcases(hM.out.own hix.out).2 with⟨h2,_⟩|⟨g,c',cur,h1,h3,h4,h5,h6,h7,h8⟩
  ·injection h2 with e1 e2 e3;omega
  ·injection h1 with e1 e2 e3
   subst e1 e3
   by_cases hr:n+1≤c
   ·exact aG3 g i vb c n vs v ix hn hl hM hvb (by omega) hr (hgv g rfl) hix
   ·exact aIf g i vb c n vs v ix hn hl hM hvb (by omega) h5 (by omega) (hgv g rfl) hix
end
end Go.Proofs.YtgnkoffndhmhpaaGreatDoor
namespace Go.Proofs.YtgnkoffndhmhpaaGreatDoor
open Go Go.RowKit
set_option linter.unusedVariables false
def vA (L:List Item):Item:=⟨fun g=> ∃it∈L,it.adr g,fun w=> ∀it∈L,it.ok w⟩
theorem aGx {L:List Item}{B:Nat}(h: ∀it∈L,it.Good B):(vA L).Good B:=
 ⟨fun w ho g ⟨it,hi,hg⟩=>(h it hi).lt w (ho it hi) g hg,fun w w' ho hs hst it hi=>(h it hi).stay w w' (ho it hi) hs (fun g hg=>hst g ⟨it,hi,hg⟩)⟩
theorem Mem.fold {w0 w:World}(K:List Item){L:List Item}(h:Mem w0 w (K++L)):Mem w0 w (K++ [vA L]):=by
 have hp:=List.pairwise_append.1 h.apart
 refine⟨h.ext,fun it hi=> ?_,fun it hi=> ?_,List.pairwise_append.2 ⟨hp.1,List.pairwise_singleton _ _,fun a ha b hb g hg hb'=> ?_⟩⟩
 ·rcases List.mem_append.1 hi with hi|hi
  ·exact h.good it (List.mem_append_left _ hi)
  ·obtain rfl:=List.mem_singleton.1 hi
   exact aGx (fun x hx=>h.good x (List.mem_append_right _ hx))
 ·rcases List.mem_append.1 hi with hi|hi
  ·exact h.ok it (List.mem_append_left _ hi)
  ·obtain rfl:=List.mem_singleton.1 hi
   exact fun x hx=>h.ok x (List.mem_append_right _ hx)
 ·obtain rfl:=List.mem_singleton.1 hb
  obtain⟨it,c,d⟩:=hb'
  exact hp.2.2 a ha it c g hg d
theorem Mem.frame {w0 w w':World}(K K':List Item){L:List Item}(h:Mem w0 w (K++L))(h':Mem w0 w' (K'++ [vA L])):Mem w0 w' (K'++L):=by
 have hp:=List.pairwise_append.1 h.apart
 have c:=List.pairwise_append.1 h'.apart
 refine⟨h'.ext,fun it hi=> ?_,fun it hi=> ?_,List.pairwise_append.2 ⟨c.1,hp.2.1,fun a ha b hb g hg hb'=> ?_⟩⟩
 ·rcases List.mem_append.1 hi with hi|hi
  ·exact h'.good it (List.mem_append_left _ hi)
  ·exact h.good it (List.mem_append_right _ hi)
 ·rcases List.mem_append.1 hi with hi|hi
  ·exact h'.ok it (List.mem_append_left _ hi)
  ·exact h'.ok (vA L) (by simp) it hi
 ·exact c.2.2 a ha (vA L) (by simp) g hg ⟨b,hb,hb'⟩
end Go.Proofs.YtgnkoffndhmhpaaGreatDoor
namespace Go.Proofs.YtgnkoffndhmhpaaGreatDoor
open Go.RowKit
set_option linter.unusedVariables false
set_option linter.unusedSimpArgs false
def fF (aA:Int)(n M s f:Nat):List Nat:=if(s%M).testBit f then []else((aT aA n f).filter (fun t=>(s%M).testBit t)).map (fun t=>fS M (s/M) (s%M) f t)
def gS (aA:Int)(n M s f:Nat):List Nat:=(List.range f).flatMap (fF aA n M s)
def iF (aA:Int)(n M s f j:Nat):List Nat:=(((aT aA n f).take j).filter (fun t=>(s%M).testBit t)).map (fun t=>fS M (s/M) (s%M) f t)
theorem wM (aA:Int)(n M s:Nat):gS aA n M s n=mV aA n M s:=by
 unfold gS mV eC
 rw[List.map_flatMap]
 congr 1
 funext f
 unfold fF
 split
 ·rfl
 ·rw[List.map_map];rfl
theorem pI (aA:Int)(n M s f:Nat):gS aA n M s (f+1)=gS aA n M s f++fF aA n M s f:=by
 unfold gS;rw[List.range_succ,List.flatMap_append];simp
theorem aM6 {aA:Int}{n M s f:Nat}(hb:(s%M).testBit f=true):fF aA n M s f= []:=by unfold fF;rw[if_pos hb]
theorem aJd {aA:Int}{n M s f:Nat}(hb:(s%M).testBit f=false):fF aA n M s f=iF aA n M s f (aT aA n f).length:=by unfold fF iF;rw[if_neg (by rw[hb];decide),List.take_length]
theorem aD0 (aA:Int)(n M s f:Nat):iF aA n M s f 0= []:=rfl
theorem aI6 {aA:Int}{n M s f j t:Nat}(hj:(aT aA n f)[j]? =some t) (hb:(s%M).testBit t=false):iF aA n M s f (j+1)=iF aA n M s f j:=by
 unfold iF;rw[bD hj,List.filter_append,List.map_append];simp[hb]
theorem aFu {aA:Int}{n M s f j t:Nat}(hj:(aT aA n f)[j]? =some t) (hb:(s%M).testBit t=true):iF aA n M s f (j+1)=iF aA n M s f j++ [fS M (s/M) (s%M) f t]:=by
 unfold iF;rw[bD hj,List.filter_append,List.map_append];simp[hb]
structure SOk (N:Nat) (B:List Int) (Q:List Nat):Prop where
 len:B.length=N
 bd: ∀v∈Q,v<N
 mem: ∀v,v<N→(0≤B.getD v 0↔v∈Q)
 nodup:Q.Nodup
theorem SOk.qlen {N:Nat}{B:List Int}{Q:List Nat}(h:SOk N B Q):Q.length≤N:=nL h.nodup h.bd
theorem SOk.relax {N:Nat}{B:List Int}{Q:List Nat}(h:SOk N B Q){u:Int}(hu:0≤u){v:Nat}(hv:v<N):SOk N (eF u (B,Q) v).1 (eF u (B,Q) v).2:=by
 unfold Go.Proofs.YtgnkoffndhmhpaaGreatDoor.eF
 by_cases hc:B.getD v 0<0
 ·rw[if_pos hc]
  have c:v∉Q:=fun hm=>by have:=(h.mem v hv).2 hm;omega
  refine⟨by simp[h.len],?_,?_,?_⟩
  ·intro x hx
   rcases List.mem_append.1 hx with hx|hx
   ·exact h.bd x hx
   ·obtain rfl:=List.mem_singleton.1 hx;exact hv
  ·intro x hx
   dsimp only
   rw[List.mem_append,List.mem_singleton]
   by_cases e:v=x
   ·subst e
    rw[cG (by rw[h.len];exact hv)]
    exact⟨fun _=> .inr rfl,fun _=>hu⟩
   ·rw[bN e,h.mem x hx]
    exact⟨.inl,fun h=>h.resolve_right (fun e2=>e e2.symm)⟩
  ·show(Q++ [v]).Nodup
   rw[List.nodup_append]
   exact⟨h.nodup,by simp,fun a ha b hb e=>by obtain rfl:=List.mem_singleton.1 hb;exact c (e▸ha)⟩
 ·rw[if_neg hc];exact h
theorem SOk.expand {N:Nat}{u:Int}(hu:0≤u): ∀(vs:List Nat) {B:List Int} {Q:List Nat},SOk N B Q→(∀v∈vs,v<N)→SOk N (bJ u (B,Q) vs).1 (bJ u (B,Q) vs).2
 | [],B,Q,h,_=>h
 |v::vs,B,Q,h,hv=>by
  have h1:=h.relax hu (hv v (by simp))
  have:Go.Proofs.YtgnkoffndhmhpaaGreatDoor.bJ u (B,Q) (v::vs)=Go.Proofs.YtgnkoffndhmhpaaGreatDoor.bJ u ((Go.Proofs.YtgnkoffndhmhpaaGreatDoor.eF u (B,Q) v).1,(Go.Proofs.YtgnkoffndhmhpaaGreatDoor.eF u (B,Q) v).2) vs:=rfl
  rw[this]
  exact SOk.expand hu vs h1 (fun x hx=>hv x (by simp[hx]))
theorem nT (u:Int): ∀(vs:List Nat) (B:List Int) (Q:List Nat),∃r,(bJ u (B,Q) vs).2=Q++r∧ ∀x∈r,x∈vs
 | [],B,Q=>⟨[],by simp[bJ],by simp⟩
 |v::vs,B,Q=>by
  have e:bJ u (B,Q) (v::vs)=bJ u ((eF u (B,Q) v).1,(eF u (B,Q) v).2) vs:=rfl
  obtain⟨r,h1,h2⟩:=nT u vs (eF u (B,Q) v).1 (eF u (B,Q) v).2
  rw[e,h1]
  unfold eF
  split
  ·exact⟨v::r,by simp,fun x hx=>by
    rcases List.mem_cons.1 hx with rfl|hx
    ·simp
    ·simp[h2 x hx]⟩
  ·exact⟨r,rfl,fun x hx=>by simp[h2 x hx]⟩
inductive SRun (adj:Nat→List Nat) (goal:Nat→Prop) (N start:Nat):Nat→List Int→List Nat→Prop
 |init:SRun adj goal N start 0 ((List.replicate N (-1)).set start (start:Int)) [start]
 |step {k u:Nat} {B:List Int} {Q:List Nat}:SRun adj goal N start k B Q→Q[k]? =some u→ ¬goal u→SRun adj goal N start (k+1) (bJ (u:Int) (B,Q) (adj u)).1 (bJ (u:Int) (B,Q) (adj u)).2
theorem SRun.ok {adj:Nat→List Nat}{goal:Nat→Prop}{N start k:Nat}{B:List Int}{Q:List Nat}(hs:start<N)(hbd: ∀u v,u<N→v∈adj u→v<N)(h:SRun adj goal N start k B Q):SOk N B Q∧ ∀v∈Q,∃m,nA adj [start] m v:=by
 induction h with
 |init=>
  refine⟨⟨by simp,by simpa using hs,fun v hv=> ?_,by simp⟩,fun v hv=>⟨0,by simpa[nA]using hv⟩⟩
  by_cases e:start=v
  ·subst e;rw[cG (by simpa using hs)];simp
  ·rw[bN e]
   simp[List.getD,hv]
   exact fun h=>e h.symm
 |step h1 hu hg ih=>
  obtain⟨i1,i2⟩:=ih
  have a:=List.mem_of_getElem? hu
  refine⟨SOk.expand (by omega) _ i1 (fun v hv=>hbd _ v (i1.bd _ a) hv),fun v hv=> ?_⟩
  obtain⟨r,e,hr⟩:=nT (_:Nat) (adj _) _ _
  rw[e]at hv
  rcases List.mem_append.1 hv with hv|hv
  ·exact i2 v hv
  ·obtain⟨m,hm⟩:=i2 _ a
   exact⟨m+1,_,hm,hr v hv⟩
theorem SRun.fwd {adj:Nat→List Nat}{goal:Nat→Prop}{D:Nat→Int}{g:Nat→Nat}{d N start k:Nat}{B:List Int}{Q:List Nat}(hs:start<N)(hG:mX adj D g d start)(hD:aBx adj D N)(hgoal: ∀m v,nA adj [start] m v→(goal v↔D v=0))
  (h:SRun adj goal N start k B Q): ∃A,Fwd adj D g d N start k B A Q:=by
 induction h with
 |init=>exact⟨_,Fwd.start hG hs⟩
 |step h1 hu hg ih=>
  obtain⟨A,hA⟩:=ih
  obtain⟨m,hm⟩:=(h1.ok hs hD.bd).2 _ (List.mem_of_getElem? hu)
  exact hA.step hG hD hu (fun e=>hg ((hgoal m _ hm).2 e))
theorem SRun.stuck {adj:Nat→List Nat}{goal:Nat→Prop}{N start k:Nat}{B:List Int}{Q:List Nat}(ha:adj start= [])(h:SRun adj goal N start k B Q):Q= [start]:=by
 induction h with
 |init=>rfl
 | @step k u B Q h1 hu hg ih=>
   rw[ih]at hu⊢
   have:u=start:=by
    match k,hu with
    |0,hu=>simpa using hu.symm
    |k+1,hu=>simp at hu
   subst this
   rw[ha];rfl
section
variable {aA aB:Int} {xs:List Int} {c:Nat} {id:Int}
theorem aAl (hf:bI xs= []):aM xs=0:=by
 apply Nat.eq_of_testBit_eq
 intro k
 rw[eG,Nat.zero_testBit]
 cases h:cR xs k with
 |false=>rfl
 |true=>
  have:k∈bI xs:=by
   unfold bI
   rw[List.mem_filter]
   refine⟨?_,h⟩
   rw[List.mem_range]
   unfold cR at h
   by_cases hk:k<xs.length
   ·exact hk
   ·simp[List.getElem?_eq_none (Nat.le_of_not_lt hk)]at h
  rw[hf]at this;simp at this
theorem aGy {aA:Int}{n:Nat}{u:Nat}(h:u%2 ^ n=0):mV aA n (2 ^ n) u= []:=by
 rw[List.eq_nil_iff_forall_not_mem]
 intro v hv
 obtain⟨f,t,h1,h2,h3,h4,h5,h6⟩:=nY.1 hv
 rw[h]at h5
 simp at h5
abbrev st0 (xs:List Int)(c:Nat):Nat×Nat:=(c,aM xs)
theorem qW (h:aN aA aB xs=true)(hc:xs[c]? =some id) (h0:id≠0):eM xs.length (st0 xs c)<xs.length*2 ^ xs.length∧eM xs.length (st0 xs c)/2 ^ xs.length=c∧eM xs.length (st0 xs c)%2 ^ xs.length=aM xs:=by
 have hl:=(List.getElem?_eq_some_iff.1 hc).1
 exact⟨qN hl (mT xs),jU (mT xs)⟩
theorem tN (hn0:4≤xs.length)(hn:xs.length≤12)(hc:xs[c]? =some id) (h0:id≠0): ∀m v,nA (mV aA xs.length (2 ^ xs.length)) [eM xs.length (st0 xs c)] m v→(v/2 ^ xs.length=0↔ddM xs.length (aV (fV aA xs.length (bI xs).length)) v=0):=by
 intro m v hv
 have hp:=kF hc h0
 obtain⟨a,b⟩:=walk_ok hn hp m v hv
 have d:v<xs.length*2 ^ xs.length:=by
  have:=qN (s:=(v/2 ^ xs.length,v%2 ^ xs.length)) a.car a.set
  unfold eM at this
  rw[Nat.mul_comm (v/2 ^ xs.length),Nat.div_add_mod]at this
  exact this
 exact(aJp hn0 hn (kV hn) d a b).symm
theorem wC (h:aN aA aB xs=true)(hn0:4≤xs.length)(hn:xs.length≤12)(hc:xs[c]? =some id) (h0:id≠0):
  (∃d:Nat,d≤60∧aV (fV aA xs.length (bI xs).length) c (aM xs)=d∧dI aA xs c=some (nB aA xs.length (aV (fV aA xs.length (bI xs).length)) (st0 xs c) d))∨(dI aA xs c=none∧c≠0∧aM xs=0):=by
 have hD:=kV (aA:=aA) (many:=(bI xs).length) hn
 obtain⟨n1,n2,n3⟩:=rU h hc h0 hD
 have he:=uY h hc h0 hD
 by_cases hneg:aV (fV aA xs.length (bI xs).length) c (aM xs)<0
 ·rw[if_pos hneg]at he
  have hf:bI xs= []:=by
   by_cases hh:bI xs= []
   ·exact hh
   ·have:=n1 hh;omega
  exact .inr ⟨he,fun e=>by have:=n2 e;omega,aAl hf⟩
 ·rw[if_neg hneg]at he
  left
  refine⟨_,?_,(Int.toNat_of_nonneg (by omega)).symm,he⟩
  by_cases hh:bI xs= []
  ·by_cases hc0:c=0
   ·have:=n2 hc0;omega
   ·have:=n3 hh hc0;omega
  ·have:=n1 hh;omega
structure SGoal (aA:Int) (xs:List Int) (c d:Nat) (u:Nat) (B:List Int):Prop where
 d60:d≤60
 way:dI aA xs c=some (nB aA xs.length (aV (fV aA xs.length (bI xs).length)) (st0 xs c) d)
 last:u=eM xs.length (gP aA xs.length (aV (fV aA xs.length (bI xs).length)) (st0 xs c) d)
 back: ∀j,j<d→B.getD (eM xs.length (gP aA xs.length (aV (fV aA xs.length (bI xs).length)) (st0 xs c) (j+1))) 0=eM xs.length (gP aA xs.length (aV (fV aA xs.length (bI xs).length)) (st0 xs c) j)
 far: ∀j,j≤d→eM xs.length (gP aA xs.length (aV (fV aA xs.length (bI xs).length)) (st0 xs c) j)=eM xs.length (st0 xs c)→j=0
 pt: ∀j,j≤d→nD xs.length (bI xs).length (gP aA xs.length (aV (fV aA xs.length (bI xs).length)) (st0 xs c) j)
 edge: ∀j,j<d→fU aA xs.length (aV (fV aA xs.length (bI xs).length)) (st0 xs c) j∈eC aA xs.length (gP aA xs.length (aV (fV aA xs.length (bI xs).length)) (st0 xs c) j).2∧gP aA xs.length (aV (fV aA xs.length (bI xs).length)) (st0 xs c) (j+1)=jB (gP aA xs.length (aV (fV aA xs.length (bI xs).length)) (st0 xs c) j) (fU aA xs.length (aV (fV aA xs.length (bI xs).length)) (st0 xs c) j)
abbrev aJu (aA:Int)(xs:List Int)(c k:Nat)(B:List Int)(Q:List Nat):Prop:=SRun (mV aA xs.length (2 ^ xs.length)) (fun v=>v/2 ^ xs.length=0) (xs.length*2 ^ xs.length) (eM xs.length (st0 xs c)) k B Q
theorem aAf (h:aN aA aB xs=true)(hn0:4≤xs.length)(hn:xs.length≤12)(hc:xs[c]? =some id) (h0:id≠0) {k u:Nat} {B:List Int} {Q:List Nat} (hr:aJu aA xs c k B Q) (hu:Q[k]? =some u) (hz:u/2 ^ xs.length=0): ∃d,SGoal aA xs c d u B:=by
 obtain⟨p1,p2,p3⟩:=qW h hc h0
 have hp:=kF hc h0
 have hD:=kV (aA:=aA) (many:=(bI xs).length) hn
 rcases wC h hn0 hn hc h0 with⟨d,d60,hd,hb⟩|⟨hb,hc0,hf⟩
 ·have hG:=uP hn0 hn hD hp hd
  obtain⟨A,hA⟩:=hr.fwd p1 hG (qJ hn0 hn hD) (tN hn0 hn hc h0)
  obtain⟨m,hm⟩:=(hr.ok p1 (qJ hn0 hn hD).bd).2 u (List.mem_of_getElem? hu)
  obtain⟨g1,g2⟩:=hA.goal hG hu ((tN hn0 hn hc h0 m u hm).1 hz)
  refine⟨d,d60,hb,g1,g2,fun j hj e=> ?_,fun j hj=>(iV hn0 hn hD hp hd j hj).1,fun j hj=>(jS hn0 hn hD hp hd hj).2⟩
  have e1:=hG.dist j hj
  have e2:=hG.dist 0 (Nat.zero_le _)
  rw[hG.zero]at e2
  try dsimp only at e1
  rw[e,e2]at e1
  omega
 ·have:=hr.stuck (aGy (by rw[p3,hf]))
  subst this
  have:u=eM xs.length (st0 xs c):=by
   match k,hu with
   |0,hu=>simpa using hu.symm
   |k+1,hu=>simp at hu
  rw[this,p2]at hz
  exact absurd hz hc0
theorem aCu (h:aN aA aB xs=true)(hn0:4≤xs.length)(hn:xs.length≤12)(hc:xs[c]? =some id) (h0:id≠0) {k:Nat} {B:List Int} {Q:List Nat} (hr:aJu aA xs c k B Q) (hk:Q.length≤k):dI aA xs c=none:=by
 obtain⟨p1,p2,p3⟩:=qW h hc h0
 have hp:=kF hc h0
 have hD:=kV (aA:=aA) (many:=(bI xs).length) hn
 rcases wC h hn0 hn hc h0 with⟨d,d60,hd,hb⟩|⟨hb,hc0,hf⟩
 ·have hG:=uP hn0 hn hD hp hd
  obtain⟨A,hA⟩:=hr.fwd p1 hG (qJ hn0 hn hD) (tN hn0 hn hc h0)
  have:=hA.more hG
  omega
 ·exact hb
end
end Go.Proofs.YtgnkoffndhmhpaaGreatDoor
namespace Go.Proofs.YtgnkoffndhmhpaaGreatDoor
open Go.RowKit Go
set_option linter.unusedVariables false
set_option linter.unusedSimpArgs false
theorem mG (x:Nat)(h:x<9223372036854775808):IntKind.i64.wrap (x:Int)=(x:Int):=IntWalk.i64_in _ (by omega)
theorem nO (a b:Nat)(ha:a<9223372036854775808)(hb:b<9223372036854775808):bits .and .i64 (a:Int) (b:Int)=((a&&& b:Nat):Int):=by
 have hx:a&&& b<2 ^ 63:=Nat.and_lt_two_pow _ (by omega)
 show IntKind.i64.wrap ((BitVec.ofInt 64 (a:Int)&&& BitVec.ofInt 64 (b:Int)).toNat:Int)=_
 rw[BitVec.toNat_and,ofInt_u64 a (by omega),ofInt_u64 b (by omega)]
 exact mG _ (by omega)
theorem sO (a b:Nat)(ha:a<9223372036854775808)(hb:b<9223372036854775808):bits .xor .i64 (a:Int) (b:Int)=((a ^^^ b:Nat):Int):=by
 have hx:a ^^^ b<2 ^ 63:=Nat.xor_lt_two_pow (by omega) (by omega)
 show IntKind.i64.wrap ((BitVec.ofInt 64 (a:Int) ^^^ BitVec.ofInt 64 (b:Int)).toNat:Int)=_
 rw[BitVec.toNat_xor,ofInt_u64 a (by omega),ofInt_u64 b (by omega)]
 exact mG _ (by omega)
theorem aDz (a b:Nat)(ha:a<9223372036854775808)(hb:b<9223372036854775808):bits .or .i64 (a:Int) (b:Int)=((a |||b:Nat):Int):=by
 have hx:a |||b<2 ^ 63:=Nat.or_lt_two_pow (by omega) (by omega)
 show IntKind.i64.wrap ((BitVec.ofInt 64 (a:Int) |||BitVec.ofInt 64 (b:Int)).toNat:Int)=_
 rw[BitVec.toNat_or,ofInt_u64 a (by omega),ofInt_u64 b (by omega)]
 exact mG _ (by omega)
theorem aF2 (s k:Nat):s&&& 2 ^ k=if s.testBit k then 2 ^ k else 0:=by
 apply Nat.eq_of_testBit_eq
 intro j
 rw[Nat.testBit_and,Nat.testBit_two_pow]
 by_cases h:k=j
 ·subst h
  cases hb:s.testBit k<;>simp[Nat.testBit_two_pow]
 ·cases hb:s.testBit k<;>simp[Nat.testBit_two_pow,h]
theorem aLl (x k:Nat)(h:x.testBit k=false):x |||2 ^ k=x+2 ^ k:=by
 apply Nat.eq_of_testBit_eq
 intro j
 rw[Nat.testBit_or,Nat.testBit_two_pow,tI k x h]
 by_cases e:k=j
 ·subst e;simp
 ·have e2: ¬j=k:=fun h=>e h.symm
  simp[e,e2]
theorem aH2 {s f t:Nat}(hf:s.testBit f=false)(ht:s.testBit t=true):(s ^^^ 2 ^ f) ^^^ 2 ^ t=cX s f t:=by
 apply Nat.eq_of_testBit_eq
 intro j
 have b:f≠t:=fun e=>by subst e;rw[ht]at hf;cases hf
 rw[Nat.testBit_xor,Nat.testBit_xor,Nat.testBit_two_pow,Nat.testBit_two_pow,eI ht hf]
 by_cases e1:j=f
 ·subst e1
  have e2: ¬t=j:=fun h=>b h.symm
  simp[hf,b,e2]
 ·have a: ¬f=j:=fun h=>e1 h.symm
  by_cases e2:j=t
  ·subst e2;simp[ht,e1,a]
  ·have c: ¬t=j:=fun h=>e2 h.symm
   simp[e1,a,e2,c]
theorem oJ {n k:Nat}(s:Nat)(hk:k<n):(s%2 ^ n).testBit k=s.testBit k:=by rw[Nat.testBit_mod_two_pow];simp[hk]
theorem aAn {n s f t:Nat}(hfn:f<n)(htn:t<n)(hf:s.testBit f=false)(ht:s.testBit t=true):cX s f t=s/2 ^ n*2 ^ n+cX (s%2 ^ n) f t:=by
 have h1:=(tH (show(s%2 ^ n).testBit t=true by rw[oJ s htn];exact ht)).1
 unfold cX
 have h2:=Nat.div_add_mod s (2 ^ n)
 rw[Nat.mul_comm]at h2
 omega
theorem aKk {n s f t:Nat}(hfn:f<n)(htn:t<n)(hf:s.testBit f=false)(ht:s.testBit t=true)(hc:f≠s/2 ^ n):fS (2 ^ n) (s/2 ^ n) (s%2 ^ n) f t=cX s f t:=by
 unfold fS dK
 rw[if_neg hc,aAn hfn htn hf ht]
theorem aIa {n s f t:Nat}(hfn:f<n)(htn:t<n)(hf:s.testBit f=false)(ht:s.testBit t=true)(hc:f=s/2 ^ n):((fS (2 ^ n) (s/2 ^ n) (s%2 ^ n) f t:Nat):Int)=(cX s f t:Nat)+((t:Int)-f)*2 ^ n:=by
 unfold fS dK
 rw[if_pos hc,aAn hfn htn hf ht,←hc]
 push_cast
 have h1:((t:Int)-f)*2 ^ n=(t:Int)*2 ^ n-f*2 ^ n:=Int.sub_mul _ _ _
 rw[h1]
 omega
theorem aHu {n c k:Nat}{p:Nat→Bool}(hk:k<n)(h:p k=true):(c*2 ^ n+iO p k) |||2 ^ k=c*2 ^ n+iO p (k+1):=by
 have hb:(c*2 ^ n+iO p k).testBit k=false:=by
  have h1:iO p k<2 ^ n:=Nat.lt_of_lt_of_le (oD p k) (Nat.pow_le_pow_right (by omega) (by omega))
  rw[←oJ _ hk,gG h1,rV (oD p k) (Nat.le_refl k)]
 rw[aLl _ _ hb]
 have:iO p (k+1)=iO p k+2 ^ k:=by show iO p k+(if p k then 2 ^ k else 0)=_;rw[h];rfl
 omega
theorem aHv {k:Nat}{p:Nat→Bool}(h:p k=false):iO p (k+1)=iO p k:=by
 show iO p k+(if p k then 2 ^ k else 0)=_
 rw[h];simp
theorem nN (a b r:Nat)(ha:a<9223372036854775808)(hb:b<9223372036854775808)(hr:r<9223372036854775808)(h: ∀j,r.testBit j=(a.testBit j&& !b.testBit j)):bits .andNot .i64 (a:Int) (b:Int)=(r:Int):=by
 have e:(BitVec.ofInt 64 (a:Int)&&& ~~~ BitVec.ofInt 64 (b:Int)).toNat=r:=by
  apply Nat.eq_of_testBit_eq
  intro j
  rw[BitVec.testBit_toNat,BitVec.getLsbD_and,BitVec.getLsbD_not,←BitVec.testBit_toNat,←BitVec.testBit_toNat,ofInt_u64 a (by omega),ofInt_u64 b (by omega),h]
  by_cases hj:j<64
  ·simp[hj]
  ·have:a.testBit j=false:=Nat.testBit_lt_two_pow (Nat.lt_of_lt_of_le (show a<2 ^ 63 by omega) (Nat.pow_le_pow_right (by omega) (by omega)))
   simp[this]
 show IntKind.i64.wrap ((BitVec.ofInt 64 (a:Int)&&& ~~~ BitVec.ofInt 64 (b:Int)).toNat:Int)=_
 rw[e]
 exact mG _ (by omega)
theorem aJ8 {S f t:Nat}(hf:S.testBit f=false)(ht:S.testBit t=true)(h1:S<4096)(h2:cX S f t<4096)(h3:2 ^ f<4096):bits .andNot .i64 ((cX S f t:Nat):Int) (S:Int)=((2 ^ f:Nat):Int):=by
 refine nN _ _ _ (by omega) (by omega) (by omega) (fun j=> ?_)
 rw[eI ht hf,Nat.testBit_two_pow]
 by_cases e:j=f
 ·subst e;simp[hf]
 ·have e': ¬f=j:=fun h=>e h.symm
  simp only[e,e',decide_false,Bool.false_or]
  cases S.testBit j<;>simp
theorem aJ7 {S f t:Nat}(hf:S.testBit f=false)(ht:S.testBit t=true)(h1:S<4096)(h2:cX S f t<4096)(h3:2 ^ t<4096):bits .andNot .i64 (S:Int) ((cX S f t:Nat):Int)=((2 ^ t:Nat):Int):=by
 refine nN _ _ _ (by omega) (by omega) (by omega) (fun j=> ?_)
 have a:f≠t:=fun e=>by subst e;rw[ht]at hf;cases hf
 rw[eI ht hf,Nat.testBit_two_pow]
 by_cases e:j=t
 ·subst e
  have e2: ¬j=f:=fun h=>a h.symm
  simp[ht,e2]
 ·have e': ¬t=j:=fun h=>e h.symm
  simp only[e,e',decide_false,Bool.not_false,Bool.and_true]
  by_cases e3:j=f
  ·subst e3;simp[hf]
  ·simp only[e3,decide_false,Bool.false_or]
   cases S.testBit j<;>simp
theorem aF3 (s n:Nat)(hs:s<9223372036854775808)(hn:n≤12):bits .and .i64 (s:Int) ((2 ^ n-1:Nat):Int)=((s%2 ^ n:Nat):Int):=by
 have hp:2 ^ n≤2 ^ 12:=Nat.pow_le_pow_right (n:=2) (by omega) hn
 rw[nO s _ hs (by omega),Nat.and_two_pow_sub_one_eq_mod]
end Go.Proofs.YtgnkoffndhmhpaaGreatDoor
namespace Go.Proofs.YtgnkoffndhmhpaaGreatDoor
open Go.RowKit
set_option linter.unusedVariables false
theorem aJ6:Tryz.prog.globalNamed "math/bits.deBruijn64tab" =some 2:=by kernel_rfl
def BitTab (w:World):Prop:=Lib.TabIs Tryz.prog w "math/bits.deBruijn64tab" .u8 (Lib.deBruijn64tab.map (fun(n:Nat)=>(n:Int)))
theorem BitTab.ext {w w':World}(h:BitTab w)(hx:Ext w w'):BitTab w':=Joins.var_stays aJ6 h hx (Nat.le_refl _)
theorem aJy: ∀k:Fin 12,∃idx:Fin 64,IntKind.u64.wrap (bits BinOp.and IntKind.u64 ((2 ^ k.val:Nat):Int) (IntKind.u64.wrap (-((2 ^ k.val:Nat):Int)))*285870213051353865)/288230376151711744=(idx.val:Int)∧(Lib.deBruijn64tab.map (fun(n:Nat)=>(n:Int)))[idx.val]? =some (k.val:Int):=by decide+kernel
theorem aF8 (x idx:Nat)(k:Int)(w:World)(hx0:((x:Int)==0)=false)(hxb:IntKind.u64.wrap (x:Int)=(x:Int))
  (key:IntKind.u64.wrap (bits BinOp.and IntKind.u64 (x:Int) (IntKind.u64.wrap (-(x:Int)))*285870213051353865)/288230376151711744=(idx:Int))
  (hi:idx<64)(hcell:w.cell? ⟨2,idx,none⟩=some (.int .u8 k))(hk:IntKind.i64.wrap k=k):
  Calls Tryz.prog 214 #[.int .u64 (x:Int)] w fun e w'=>e= .returned (.int .i64 k)∧w=w':=by
 go_enter Tryz.func214,Tryz.ntmps214
 go_wp2_with (simp only[key])
 go_ret
 exact⟨rfl,rfl⟩
theorem aJz (x:Nat)(k:Int)(w:World)(hxb:IntKind.u64.wrap (x:Int)=(x:Int))
  (H:Hid (Calls Tryz.prog 214 #[.int .u64 (x:Int)] w fun e w'=>e= .returned (.int .i64 k)∧w=w')):
  Calls Tryz.prog 208 #[.int .u64 (x:Int)] w fun e w'=>e= .returned (.int .i64 k)∧w=w':=by
 go_enter Tryz.func208,Tryz.ntmps208
 go_wp2_with fail
 refine H.out.mono ?_
 rintro e w' ⟨rfl,rfl⟩
 go_wp2
 go_ret
 exact⟨rfl,rfl⟩
theorem wB (k:Nat)(w:World)(hk:k<12)(hE:BitTab w):Calls Tryz.prog 208 #[.int .u64 ((2 ^ k:Nat):Int)] w fun e w'=>e= .returned (.int .i64 (k:Int))∧w=w':=by
 obtain⟨⟨c,hi⟩,b,ht⟩:=aJy ⟨k,hk⟩
 dsimp only at b ht
 have hp:2 ^ k≤2 ^ 11:=Nat.pow_le_pow_right (n:=2) (by omega) (by omega)
 have h0:0<2 ^ k:=Nat.two_pow_pos k
 have a:IntKind.u64.wrap ((2 ^ k:Nat):Int)=((2 ^ k:Nat):Int):=by rw[IntKind.wrap_u64];omega
 have hc:=hE.cell aJ6 c (by simpa[Lib.deBruijn64tab]using hi)
 refine aJz (2 ^ k) k w a (aF8 (2 ^ k) c k w (beq_eq_false_iff_ne.2 (by omega)) a b hi (by rw[hc,List.getD_eq_getElem?_getD,ht];rfl) (IntWalk.i64_in _ (by omega)))
end Go.Proofs.YtgnkoffndhmhpaaGreatDoor
