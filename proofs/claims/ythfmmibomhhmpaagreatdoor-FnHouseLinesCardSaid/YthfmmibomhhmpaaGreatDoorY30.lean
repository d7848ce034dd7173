/-
  Texts of this proof, packed (@packed).
-/
import Derived.Lib.AppendZerosOnto
import Derived.Shelf.Spec.SlicesInsert
import Derived.Test.YthfmmibomhhmpaaGreatDoorY29
namespace Go.Proofs.YthfmmibomhhmpaaGreatDoor
open Go.RowKit
set_option linter.unusedSimpArgs false
set_option linter.unusedVariables false
set_option maxHeartbeats 8000000
set_option maxRecDepth 100000
section
open Go.Proofs.Tryz
theorem aJ9 (q:OA)(m c2:Nat)(xs:List Value)(w:World)(hm:m≤1000)(hS:Sl w q m c2 4 xs)(h1: ∀u∈xs,u.oneCell'=true):
  U 47 #[.slice q m c2] w fun e w'=> ∃q' c',e= .returned (.slice q' m c')∧w'.ownsRow w TV 4 (.slice q' m c') m xs∧Ext w w':=by
 cases q with
 |none=>
  have h0:m=0:=by
   by_cases h:0<m
   ·obtain⟨b,f,e,_⟩:=hS.rd h;cases e
   omega
  subst h0;obtain rfl:xs= []:=aU7 (by have:=hS.len;simpa using this);have d: ∀(w:World) (a:OA) (n c n' c':Nat),(binOp .eql 28 (.slice a n c) (.slice none n' c')).run prog w= .ok (.bool a.isNone) w:=fun w a n c n' c'=>Lib.run_eql_slice_nil w _ _ a n c n' c' underlying28
  clear hS;go_enter func47,ntmps47;go_wp2;go_ret;exact⟨none,0,rfl,aTe _ _ _ _,Ext.refl _⟩
 |some a=>
  have HS:=xQ hS;have HO:=xQ h1;have MS:=((Mem.start w).made0 TV 4 w (by simp))
  have d: ∀(w:World) (a:OA) (n c n' c':Nat),(binOp .eql 28 (.slice a n c) (.slice none n' c')).run prog w= .ok (.bool a.isNone) w:=fun w a n c n' c'=>Lib.run_eql_slice_nil w _ _ a n c n' c' underlying28
  clear hS h1;go_enter func47,ntmps47;go_wp2_with (at_builtin;go_loud (refine cJ vU rfl _ _ rfl MS 0 rfl rfl xs rfl (HS.out.ext ((Ext.refl _).alloc _)) HO (by omega) ?_;intro q7 c7 w6 M6));have M7:=(show Mem w w6 [aJ w TV 4 q7 m c7 xs]from by simpa using M6)
  clear M6;go_wp2;go_ret;exact⟨q7,c7,rfl,M7.ow 0,M7.ext⟩
theorem aMa (aA aB a b aD aF aC aG:Int)(p:OA)(n d:Nat)(q:OA)(m c2:Nat)(xs:List Int)(vs:List aR)(w:World)
  (HL:xC 46 #[aH aA aB p n d] w fun w' e w''=> ∃q c,e= .returned (aH aA aB q n c)∧w''.ownsRow w' TI 1 (.slice q n c) n (ivs xs)∧Ext w' w'')
  (o:xC 47 #[.slice q m c2] w fun w' e w''=> ∃q' c',e= .returned (.slice q' m c')∧w''.ownsRow w' TV 4 (.slice q' m c') m (vs.flatMap aE)∧Ext w' w''):
  U 20 #[.agg #[aA,aB,.slice p n d,a,b,aD,aF,aC,aG,.slice q m c2]] w fun e w'=> ∃p' cap' q' c2',e= .returned (.agg #[aA,aB,.slice p' n cap',a,b,aD,aF,aC,aG,.slice q' m c2'])∧w'.ownsRow w TI 1 (.slice p' n cap') n (ivs xs)∧w'.ownsRow w TV 4 (.slice q' m c2') m (vs.flatMap aE)∧Ext w w':=by
 go_enter func20,ntmps20;go_wp2_with fail;refine(HL _ ((((Mem.start w).c0 aK #[aA,aB,.slice p n d,a,b,aD,aF,aC,aG,.slice q m c2]).c1 aK zT).c2 aK #[aA,aB,.slice p n d,a,b,aD,aF,aC,aG,.slice q m c2]).ext).mono ?_;rintro e w1 ⟨q0,c0,rfl,f,j⟩;have M1:=(((((Mem.start w).c0 aK #[aA,aB,.slice p n d,a,b,aD,aF,aC,aG,.slice q m c2]).c1 aK zT).c2 aK #[aA,aB,.slice p n d,a,b,aD,aF,aC,aG,.slice q m c2]).call j f)
 clear j f;have c9:=(M1.bk 3).cl 9;have d0:=(M1.bk 1).cl 0;have r:=(M1.bk 1).frozen 0;have d1:=(M1.bk 1).cl 1;have s:=(M1.bk 1).frozen 1;have d2:=(M1.bk 1).cl 2;have t:=(M1.bk 1).frozen 2;go_wp2_with fail;clear c9 d0 r d1 s d2 t;refine(o _ (((M1.store (i:=1) rfl 0 (I aA)).store (i:=1) rfl 1 (I aB)).store (i:=1) rfl 2 (.slice q0 n c0)).ext).mono ?_;rintro e w2 ⟨q7,c7,rfl,g,k⟩;have M2:=((((M1.st 1 0 (I aA)).st 1 1 (I aB)).st 1 2 (.slice q0 n c0)).call k g)
 clear M1 k g;have x_:=(M2.bk 2).ten;have u:=(M2.bk 2).cl 9;have l:=(M2.bk 2).frozen 9;obtain⟨y0,x,y1,y,y2,z,y3,aa,y4,ab,y5,ad,y6,ae,y7,af,y8,ag,y9,ah⟩:=(M2.bk 3).tenf;go_wp2;clear x_ u l y0 x y1 y y2 z y3 aa y4 ab y5 ad y6 ae y7 af y8 ag y9 ah;have M3:=(show Mem w (((((((((((w2.setCell ⟨w.heap.size+1+1,9,none⟩ (.slice q7 m c7)).setCell ⟨w.heap.size+1,0,none⟩ (I aA)).setCell ⟨w.heap.size+1,1,none⟩ (I aB)).setCell ⟨w.heap.size+1,2,none⟩ (.slice q0 n c0)).setCell ⟨w.heap.size+1,3,none⟩ (I a)).setCell ⟨w.heap.size+1,4,none⟩ (I b)).setCell ⟨w.heap.size+1,5,none⟩ (I aD)).setCell ⟨w.heap.size+1,6,none⟩ (I aF)).setCell ⟨w.heap.size+1,7,none⟩ (I aC)).setCell ⟨w.heap.size+1,8,none⟩ (I aG)).setCell ⟨w.heap.size+1,9,none⟩ (.slice q7 m c7)) [aJ w TV 4 (q7) (m) (c7) (vs.flatMap aE),aJ w TI 1 (q0) (n) (c0) (ivs xs),aI w (w.heap.size+1+1) aK #[aA,aB,.slice q0 n c0,a,b,aD,aF,aC,aG,.slice q7 m c7],aI w (w.heap.size+1) aK #[aA,aB,.slice q0 n c0,a,b,aD,aF,aC,aG,.slice q7 m c7],aI w w aK #[aA,aB,.slice p n d,a,b,aD,aF,aC,aG,.slice q m c2]]from((M2.store (i:=2) rfl 9 (.slice q7 m c7)).put10 (i:=3) rfl (I aA) (I aB) (.slice q0 n c0) (I a) (I b) (I aD) (I aF) (I aC) (I aG) (.slice q7 m c7)))
 generalize h:World.setCell _ _ _=wz;rw[h]at M3;clear h M2;obtain⟨y0,y1,y2,y3,y4,y5,y6,y7,y8,y9⟩:=(M3.bk 3).ten;exact bodyPost_ret (v:= .agg #[aA,aB,.slice q0 n c0,a,b,aD,aF,aC,aG,.slice q7 m c7]) (by simp[results,results20,go_sem, *]) rfl ⟨q0,c0,q7,c7,rfl,(M3.ow 1),(M3.ow 0),M3.ext⟩
theorem lG (h:aL)(p:OA)(n a:Nat)(q:OA)(m c2:Nat)(w:World)(hn:n≤1000)(hm:m≤1000)(hi:IsHouse w h p n a q m c2):
  U 20 #[bG h p n a q m c2] w (RetHouse h w):=by
 have hl:=hi.clen;have f:=hi.vlen;refine(aMa h.aA h.aB h.free h.step h.aD h.aF h.aC h.aG p n a q m c2 h.cells h.vs w (xQ fun w' hx=> ?_) (xQ fun w' hx=>aJ9 q m c2 _ w' hm (hi.vs.ext hx) (fI _))).mono ?_
 ·refine(mT h.aA h.aB p n a h.cells w' hn (hi.cells.ext hx)).mono ?_;rintro e i ⟨q,c,rfl,ho,g⟩;rw[hl]at ho⊢;exact⟨q,c,rfl,ho,g⟩
 rintro e w' ⟨p',b,q',d,rfl,h1,h2,h3⟩;subst hl f;exact⟨p',b,q',d,rfl,h1,h2,h3⟩
theorem pZ: ∀(k:Nat) (vs:List aR),(vs.flatMap aE).take (k*4)=(vs.take k).flatMap aE
 |0,vs=>by simp
 |k+1,[]=>by simp
 |k+1,v::vs=>by rw[aUc,show(k+1)*4=(aE v).length+k*4 by simp[aE];omega,List.take_length_add_append,pZ k vs];rfl
theorem aR8 {W0 wr:World}{B:Nat}(hg:W0.grownBy wr (some B))(o:Nat)(v:Value):W0.grownBy (wr.setCell ⟨B,o,none⟩ v) (some B):=
 ⟨hg.os,hg.tape,hg.output,by simpa using hg.size,fun k hk hne=>by rw[aVl _ _ _ _ (fun e=>hne (by simp[e]))];exact hg.block k hk hne⟩
theorem wG {α:Type}: ∀(xs:List α) (k:Nat) (v:α),k<xs.length→(xs.set k v).take (k+1)=xs.take k++ [v]
 | [],_,_,h=>by simp at h
 |x::xs,0,v,_=>by simp
 |x::xs,k+1,v,h=>by simp only[aTj,List.take_succ_cons,wG xs k v (by simpa using h)];rfl
theorem wU {α:Type}: ∀(xs:List α) (k j:Nat) (v:α),k<j→(xs.set k v).drop j=xs.drop j
 | [],_,_,_,_=>by simp
 |x::xs,0,j+1,v,_=>by simp
 |x::xs,k+1,j+1,v,h=>by simp only[aTj,List.drop_succ_cons];exact wU xs k j v (by omega)
theorem gO {B n c sz g:Nat}{e:TypeId}: ∀(vs:List Value) (k:Nat) (xs:List Value) (w:World),w.ownsRow B e sz (.slice (some ⟨g,0,none⟩) n c) n xs→k+vs.length≤xs.length→
  (w.setCells g k vs).ownsRow B e sz (.slice (some ⟨g,0,none⟩) n c) n (xs.take k++vs++xs.drop (k+vs.length))∧w.grownBy (w.setCells g k vs) (some g)
 | [],k,xs,w,h,_=>by refine⟨?_,aUs _ _⟩;simpa[World.setCells]using h
 |v::vs,k,xs,w,h,hl=>by simp only[aUh]at hl;obtain⟨h1,h2⟩:=gO vs (k+1) (xs.set k v) _ (h.stored k v).1 (by simp;omega);rw[wG xs k v (by omega),wU xs k _ v (by omega)]at h1;refine⟨?_,(aR8 (aUs _ _) k v).trans h2⟩;rw[aUh,show k+(vs.length+1)=k+1+vs.length by omega];simpa[World.setCells]using h1
theorem aQq {w:World}{B n c sz k:Nat}{e:TypeId}{q:OA}{xs:List Value}(h:w.ownsRow B e sz (.slice q n c) n xs)(hk:k≤n)(h0:0<n):w.ownsRow B e sz (.slice q k c) k (xs.take (k*sz)):=by
 have hm:=aUw sz hk;refine⟨by rw[aTt,h.1];omega,?_⟩;rcases h.2 with⟨_,h3⟩|⟨g,cap',cur,e1,hb,hg,hn,hmx,hs,ht⟩
 ·omega
 injection e1 with e1 e2 e3;subst e1 e3;refine .inr ⟨g,c,cur,rfl,hb,hg,by omega,hmx,hs,?_⟩;rw[←ht,List.take_take,Nat.min_eq_left hm]
theorem aGs (w:World):(zeroValue TV).run prog w= .ok (.agg #[(),(),(),()]) w:=by simp[Tryz.zeroValue54]
theorem aGk (w:World)(ty:TypeId)(b o c:Nat)(hc: ∀j,j<4→(w.cell? ⟨b,o+j,none⟩).isSome=true)(hf: ∀j,j<4→w.frozen? ⟨b,o+j,none⟩=false):
  (Builtin.clear_ #[28] ty #[.slice (some ⟨b,o,none⟩) 1 c]).run prog w= .ok (.tuple #[]) (w.setCells b o [I 0,I 0,I 0,I 0]):=by
 have d:(Builtin.zeroCells (Value.agg #[(),(),(),()]).cells 1).toList= [I 0,I 0,I 0,I 0]:=by kernel_rfl
 have a:=run_storeCells_cells (P:=prog) b o [I 0,I 0,I 0,I 0] 0 w (by simpa using hc) (by simpa using hf) (by intro v hv;simp at hv;subst hv;rfl);simp only[Nat.add_zero]at a;simp[Builtin.clear_,run_underlying underlying28,aGs,d,a]
theorem aGc (bs:List aR)(i n:Nat)(hn:bs.length=n)(hi:i<n):
  ((bs.flatMap aE).take (i*4)++(bs.drop (i+1)).flatMap aE++(bs.flatMap aE).drop (i*4+((bs.drop (i+1)).flatMap aE).length)).take ((n-1)*4)=(bs.eraseIdx i).flatMap aE:=by
 have h1:((bs.take i).flatMap aE).length=i*4:=by rw[dD aE 4 (fun _=>rfl),aTt];congr 1;omega
 have h2:((bs.drop (i+1)).flatMap aE).length=(n-1-i)*4:=by rw[dD aE 4 (fun _=>rfl),aUm];congr 1;omega
 rw[pZ,aV5 (by rw[aTc,h1,h2,←Nat.add_mul];exact aUw 4 (by omega)),aTa (by rw[aTc,h1,h2,←Nat.add_mul];exact aUw 4 (by omega)),←aTz,List.eraseIdx_eq_take_drop_succ]
theorem aPx (g n c B i j:Nat)(bs:List aR)(w:World)(hn:n≤1000)(hi:i<n)(hj:Hid (j=i+1))(hO:w.ownsRow B TV 4 (.slice (some ⟨g,0,none⟩) n c) n (bs.flatMap aE)):
  U 101 #[.slice (some ⟨g,0,none⟩) n c,i,j] w fun e w'=>e= .returned (.slice (some ⟨g,0,none⟩) (n-1) c)∧w'.ownsRow B TV 4 (.slice (some ⟨g,0,none⟩) (n-1) c) (n-1) ((bs.eraseIdx i).flatMap aE)∧w.grownBy w' (some g):=by
 obtain⟨i0,y,al,z,am⟩:=info_parts (show(prog.info? TV).map (fun i=>(i.zero,i.size,i.bytes))=some (some (.agg #[(),(),(),()]),4,32) by kernel_rfl);have d:w.drew.ownsRow B TV 4 (.slice (some ⟨g,0,none⟩) n c) n (bs.flatMap aE):=aW hO (Ext.drew (Ext.refl _));have l:bs.length=n:=by have:=hO.1;rw[dD aE 4 (fun _=>rfl)]at this;omega
 have aa:n≤c:=by
  rcases hO.2 with⟨_,h3⟩|⟨g',cap',cur,e1,hb,hg,hn',_⟩
  ·omega
  injection e1 with e1 e2 e3;omega
 have m:j=i+1:=hj.out;obtain⟨news,a⟩: ∃news,news=(bs.drop (i+1)).flatMap aE:=⟨_,rfl⟩
 have b:news.length=(n-j)*4:=by rw[a,dD aE 4 (fun _=>rfl),aUm,l,m]
 obtain⟨A,hA,s⟩: ∃A:Addr,(if c=j then some (⟨g,0,none⟩:Addr)else some ⟨g,j*4,none⟩)=some A∧Hid (∀t u,news[t]? =some u→w.drew.cell? (A.add t)=some u):=by
  by_cases h:c=j
  ·refine⟨⟨g,0,none⟩,by simp[h],fun t u hu=> ?_⟩;rw[aU7 (by rw[b];omega:news.length=0)]at hu;simp at hu
  refine⟨⟨g,j*4,none⟩,by simp[h],fun t u hu=> ?_⟩;have ht:t<(n-j)*4:=by have:=(aT9.1 hu).1;rwa[b]at this
  rw[Addr.add_lit,d.cellAt _ (by omega)];rw[a,←lR,List.getElem?_drop]at hu;rw[m];exact hu
 have s1:Hid (news.length=(n-j)*4):=b;have s2:Hid (∀u∈news,u.oneCell'=true):=by show∀u∈news,_;rw[a];exact fI _
 have o:(bs.flatMap aE).length=n*4:=by rw[dD aE 4 (fun _=>rfl),l]
 have s3:Hid (∀t,t<news.length→(w.drew.cell? ⟨g,0+i*4+t,none⟩).isSome=true∧w.drew.frozen? ⟨g,0+i*4+t,none⟩=false):=by intro t ht;rw[b]at ht;refine⟨?_,d.frozenAt _⟩;rw[d.cellAt _ (by omega),aT6 (by rw[o];omega)];rfl
 obtain⟨W1,f⟩: ∃W1,W1=w.drew.setCells g (0+i*4) news:=⟨_,rfl⟩
 obtain⟨h1,g1⟩:=gO news (i*4) _ _ d (by rw[b,o];omega);have hW:Hid (W1=w.drew.setCells g (0+i*4) news):=f;rw[aUf]at f;rw[←f]at h1 g1;obtain⟨ys,p⟩: ∃ys,ys=(bs.flatMap aE).take (i*4)++news++(bs.flatMap aE).drop (i*4+news.length):=⟨_,rfl⟩
 rw[←p]at h1;have ad:=fun ty=>aGk W1 ty g ((n-1)*4) (c-(n-1)) (fun t ht=>by rw[h1.cellAt _ (by omega),aT6 (by rw[h1.1];omega)];rfl) (fun t _=>h1.frozenAt _)
 obtain⟨h2,g2⟩:=gO [I 0,I 0,I 0,I 0] ((n-1)*4) _ _ h1 (by rw[h1.1];simp;omega);have q:Hid ((W1.setCells g ((n-1)*4) [I 0,I 0,I 0,I 0]).ownsRow B TV 4 (.slice (some ⟨g,0,none⟩) (n-1) c) (n-1) ((bs.eraseIdx i).flatMap aE)):=by have h3:=aQq h2 (k:=n-1) (by omega) (by omega);rw[aTx,aV5 (by rw[aTt,h1.1];omega),List.take_take,Nat.min_self,p,a,aGc bs i n l hi]at h3;exact h3
 have x:Hid (w.grownBy (W1.setCells g ((n-1)*4) [I 0,I 0,I 0,I 0]) (some g)):=by exact(show w.grownBy w.drew (some g)from⟨rfl,rfl,rfl,aT5 _,fun _ _ _=>rfl⟩).trans (g1.trans g2)
 have ag:i≤j:=by omega
 have ah:j≤n:=by omega
 have af:i≤c:=by omega
 have ak: ¬i=j:=by omega
 have r:i+(n-j)=n-1:=by omega
 have ab:n-(n-1)=1:=by omega
 have ai:n-1≤n:=by omega
 have aj:n-1≤c:=by omega
 have ae: ¬c=n-1:=by omega
 have v:=xQ r;clear f h1 g1 h2 g2 p a b hO d l o m hj r;go_enter func101,ntmps101;go_wp2_with fail;go_region_law (refine step_append_room rfl (.tmp 22) (.tmp 25) 28 rfl TV i0 4 underlying28 y z g 0 i c (by simp[Act.eval,Act.put]) A (n-j) (c-j) news (by simp[Act.eval,Act.put]) s1.out s.out s2.out (by omega) s3.out ?_;rw[←hW.out,v.out])
 go_wp2;go_ret;exact⟨rfl,q.out,x.out⟩
end
section
open Go.Proofs.Tryz
theorem rG {P:Program}(w:World)(dT sT ty c:TypeId)(k n:Nat)(b o d f:Nat)(a:Addr)(e h:Nat)(cs:List Value)
  (hu:P.underlying dT=some (.slice c))(hs:(P.info? c).map (·.size)=some k)(hm:Nat.min e d=n)(hn:cs.length=n*k)
  (g: ∀j v,cs[j]? =some v→w.cell? (a.add j)=some v) (hc: ∀j,j<cs.length→(w.cell? ⟨b,o+j,none⟩).isSome=true) (hf: ∀j,j<cs.length→w.frozen? ⟨b,o+j,none⟩=false) (h1: ∀v∈cs,v.oneCell'=true):
  (Builtin.copy_ #[dT,sT] ty #[.slice (some ⟨b,o,none⟩) d f,.slice (some a) e h]).run P w= .ok (goInt n) (w.setCells b o cs):=by
 have hl:=run_loadCells_list (P:=P) w a cs g;have l:=run_storeCells_cells (P:=P) b o cs 0 w (by simpa using hc) (by simpa using hf) h1;cases hq:P.info? c with
 |none=>simp[hq]at hs
 |some i=>
  have hi:i.size=k:=by simpa[hq]using hs
  simp[Builtin.copy_,run_underlying hu,Builtin.lenOf,Builtin.firstCells,sizeOf,typeInfo,hq,hi,hm,←hn,hl,l]
theorem zC:(prog.info? TV).map (fun i=>(i.zero,i.size,i.bytes))=some (some (.agg #[(),(),(),()]),4,32):=by kernel_rfl
theorem aRq (v:aR):(aE v).length=4:=rfl
theorem aGu (v:aR): ∀u∈aE v,u.oneCell'=true:=by intro u hu;simp only[aE,aTi,List.not_mem_nil,or_false]at hu;rcases hu with rfl|rfl|rfl|rfl<;>rfl
theorem aLg {X C V:List Value}{i n:Nat}(hX:X.length=(n+1)*4)(hC:C.length=n*4)(hV:V.length=4)(hi:i≤n)(hp:X.take (i*4)=C.take (i*4)):
  ((X.take (i*4)++V++X.drop (i*4+V.length)).take ((i+1)*4)++C.drop (i*4)++(X.take (i*4)++V++X.drop (i*4+V.length)).drop ((i+1)*4+(C.drop (i*4)).length))=C.take (i*4)++V++C.drop (i*4):=by
 have h1:(X.take (i*4)++V).length=(i+1)*4:=by rw[aTc,aTt,hX,hV,Nat.min_eq_left (by omega)];omega
 have h2:(X.take (i*4)++V++X.drop (i*4+V.length)).length=(n+1)*4:=by rw[aTc,h1,aUm,hX,hV];omega
 have h3:(X.take (i*4)++V++X.drop (i*4+V.length)).drop ((i+1)*4+(C.drop (i*4)).length)= []:=List.drop_of_length_le (by rw[h2,aUm,hC];omega);have h4:(X.take (i*4)++V++X.drop (i*4+V.length)).take ((i+1)*4)=X.take (i*4)++V:=by rw[aV5 (by rw[h1];exact aT5 _)];exact aTa (by rw[h1];exact aT5 _)
 rw[h3,h4,aTv,hp]
theorem aHy {X C V:List Value}{i n:Nat}(hX:X.length=(n+1)*4)(hC:C.length=n*4)(hV:V.length=4)(hi:i≤n)(hp:X.take (n*4)=C):
  ((X.take ((i+1)*4)++C.drop (i*4)++X.drop ((i+1)*4+(C.drop (i*4)).length)).take (i*4)++V++(X.take ((i+1)*4)++C.drop (i*4)++X.drop ((i+1)*4+(C.drop (i*4)).length)).drop (i*4+V.length))=C.take (i*4)++V++C.drop (i*4):=by
 have h0:(X.take ((i+1)*4)).length=(i+1)*4:=by rw[aTt,hX];omega
 have h1:X.drop ((i+1)*4+(C.drop (i*4)).length)= []:=List.drop_of_length_le (by rw[hX,aUm,hC];omega);have h2:(X.take ((i+1)*4)++C.drop (i*4)).take (i*4)=X.take (i*4):=by rw[aV5 (by rw[h0];omega),List.take_take,Nat.min_eq_left (by omega)]
 have h3:(X.take ((i+1)*4)++C.drop (i*4)).drop ((i+1)*4)=C.drop (i*4):=by rw[List.drop_append_of_le_length (by rw[h0];exact aT5 _),List.drop_of_length_le (by rw[h0];exact aT5 _),aUx]
 rw[h1,aTv,h2,hV,show i*4+4=(i+1)*4 by omega,h3];rw[←hp,List.take_take,Nat.min_eq_left (by omega)]
theorem aMm (vs:List aR)(v:aR)(i:Nat):(vs.flatMap aE).take (i*4)++aE v++(vs.flatMap aE).drop (i*4)=(vs.take i++v::vs.drop i).flatMap aE:=by rw[pZ,lR,aTz,aUc,aTx]
section
variable {w0 w:World} {L:List Item}
theorem aQz (q:OA)(vb c n:Nat)(vs:List aR)(v:aR)(ix:Nat)(hn:n≤1000)(hl:Hid (vs.length=n))(hM:Hid (Mem w0 w L))(f:Hid (Blk w vb TV (aE v).toArray))(b:Hid (L[ix]? =some (aJ w0 TV 4 q n c (vs.flatMap aE)))):
  U 97 #[.slice q n c,n,.slice (some ⟨vb,0,none⟩) 1 1] w fun e w'=> ∃q' c',e= .returned (.slice q' (n+1) c')∧Mem w0 w' (L.set ix (aJ w0 TV 4 q' (n+1) c' (vs.flatMap aE++aE v))):=by
 have hS:Sl w (some ⟨vb,0,none⟩) 1 1 4 (aE v):=⟨by rw[aRq],aT5 _,by simp[maxLen],fun _=>⟨vb,0,rfl,f.out.lt,fun k hk=>by rw[aUf,f.out.cell k];simp⟩⟩
 obtain⟨q',c',w',d,h⟩:=aEy (P:=prog) (ty:=28) w vU hM.out b.out (some ⟨vb,0,none⟩) 1 1 (aE v) hS (aGu v) (by omega);have HM:=h;have HQ:=xQ ((hM.out.own b.out).2);have j:c≤9223372036854775807:=by have:=(Sl.own (hM.out.own b.out)).mx;unfold maxLen at this;omega
 have m:n≤c:=(Sl.own (hM.out.own b.out)).le;clear h hS f hM b;cases q with
 |none=>
  have i:n=0∧c=0:=by
   rcases HQ.out with⟨h2,_⟩|⟨g,_,_,h2,_⟩
   ·injection h2 with h3 h4 h5;exact⟨h4,h5⟩
   cases h2
  obtain⟨rfl,rfl⟩:=i;go_enter func97,ntmps97;go_wp2_with (at_builtin;refine Lib.wpList_append_run _ rfl _ _ _ _ rfl _ _ rfl rfl _ _ d ?_);go_ret;exact⟨q',c',rfl,HM⟩
 |some a=>obtain⟨ab,ao,l⟩:=a;go_enter func97,ntmps97;go_wp2_with (at_builtin;refine Lib.wpList_append_run _ rfl _ _ _ _ rfl _ _ rfl rfl _ _ d ?_);all_goals (go_ret;exact⟨q',c',rfl,HM⟩)
theorem aLv (g i:Nat)(vb c n:Nat)(vs:List aR)(v:aR)(ix:Nat)(hn:n≤1000)(hl:Hid (vs.length=n))(hM:Hid (Mem w0 w L))(o:Hid (Blk w vb TV (aE v).toArray))(hi:i<n)(l:n+1≤c)(an:vb≠g)(t:Hid (L[ix]? =some (aJ w0 TV 4 (some ⟨g,0,none⟩) n c (vs.flatMap aE)))):
  U 97 #[.slice (some ⟨g,0,none⟩) n c,i,.slice (some ⟨vb,0,none⟩) 1 1] w fun e w'=> ∃q' c',e= .returned (.slice q' (n+1) c')∧Mem w0 w' (L.set ix (aJ w0 TV 4 q' (n+1) c' ((vs.flatMap aE).take (i*4)++aE v++(vs.flatMap aE).drop (i*4)))):=by
 obtain⟨i0,af,au,ah,av⟩:=info_parts zC;have ag:(prog.info? TV).map (·.size)=some 4:=by rw[af];simp[ah]
 have aq: ∀w,(Go.sizeOf TV).run prog w= .ok 4 w:=fun w=>by simp[sizeOf,typeInfo,af,ah]
 have u1:=underlying28;obtain⟨cs,r⟩: ∃cs,cs=vs.flatMap aE:=⟨_,rfl⟩
 rw[←r]at t⊢;have q:cs.length=n*4:=by rw[r,dD aE 4 (fun _=>rfl),hl.out]
 have ak: ∀u∈cs,u.oneCell'=true:=by rw[r];exact fI vs
 obtain⟨V,hV⟩: ∃V,V=aE v:=⟨_,rfl⟩
 rw[←hV]at o⊢;have b:V.length=4:=by rw[hV];rfl
 have ai: ∀u∈V,u.oneCell'=true:=by rw[hV];exact aGu v
 have hO:=hM.out.own t.out
 -- the slice with one place more
 obtain⟨X,hX,aj,p⟩: ∃X:List Value,X.length=(n+1)*4∧X.take (n*4)=cs∧w.drew.ownsRow w0 TV 4 (.slice (some ⟨g,0,none⟩) (n+1) c) (n+1) X:=by
  rcases hO.2 with⟨h2,_⟩|⟨g',c',cur,h1,h3,h4,h5,h6,h7,h8⟩
  ·cases h2
  injection h1 with e1 e2 e3;injection e1 with e1;injection e1 with e1;subst e1 e3;have ax:(n+1)*4≤cur.size:=by rw[h7];exact aUw 4 l
  refine⟨cur.toList.take ((n+1)*4),by rw[aTt];simp;omega,?_,by rw[aTt];simp;omega,.inr ⟨g,c,cur,rfl,h3,h4,l,h6,h7,rfl⟩⟩;rw[List.take_take,Nat.min_eq_left (by omega)];exact h8
 have ap: ∃kB,w.shape? g=some (TV,kB)∧kB≠0:=by
  rcases hO.2 with⟨h2,_⟩|⟨g',c',cur,h1,h3,h4,h5,h6,h7,h8⟩
  ·cases h2
  injection h1 with e1 e2 e3;injection e1 with e1;injection e1 with e1;subst e1 e3;exact⟨cur.size,by simp[World.shape?,h4],by rw[h7];omega⟩
 obtain⟨kB,ab,ao⟩:=ap;have aa:w.shape? vb=some (TV,4):=by have:=o.out;unfold Blk at this;simp[World.shape?,this,b]
 have f: ∀k,w.frozen? ⟨vb,k,none⟩=false:=fun k=>o.out.frozen k
 have ar: ∀lb cb,(callFunc 133 #[.slice (some ⟨vb,0,none⟩) 1 1,.slice (some ⟨g,(i+1)*4,none⟩) lb cb]).run prog w= .ok (.value (.bool false)) w:=fun lb cb=>by
  rw[run_callFunc_extern func133 (by kernel_rfl) (by kernel_rfl) (by kernel_rfl) (e:=Extern.SlicesOverlaps.overlaps #[28,28] #[4]) (by kernel_rfl),
   Lib.run_overlaps_apart w 28 4 TV u1 4 aq ⟨vb,0,none⟩ ⟨g,(i+1)*4,none⟩ 1 1 lb cb an TV TV 4 kB aa ab ao (f 0) (f 4)]
  rfl
 have s:(cs.drop (i*4)).length=(n-i)*4:=by rw[aUm,q,Nat.sub_mul]
 have d: ∀j u,cs[j]? =some u→w.cell? ⟨g,j,none⟩=some u:=fun j u hu=>by
  have hj:j<n*4:=by rw[←q];exact(aT9.1 hu).1
  rw[hO.cellAt j hj];exact hu
 have m: ∀j,j<(n+1)*4→(w.drew.cell? ⟨g,j,none⟩).isSome=true:=fun j hj=>by rw[p.cellAt j hj,aT6 (by omega)];rfl
 have z: ∀ty dc sc,(Builtin.copy_ #[28,28] ty #[.slice (some ⟨g,(i+1)*4,none⟩) (n-i) dc,.slice (some ⟨g,i*4,none⟩) (n+1-i) sc]).run prog w.drew= .ok (goInt (n-i:Nat)) (w.drew.setCells g ((i+1)*4) (cs.drop (i*4))):=fun ty dc sc=>
  rG w.drew _ _ ty TV 4 (n-i) g ((i+1)*4) (n-i) dc ⟨g,i*4,none⟩ (n+1-i) sc (cs.drop (i*4)) u1 ag (by simp only[Nat.min_def];split<;>omega) s
   (fun j u hj=>by rw[Addr.add_lit];exact d (i*4+j) u (by rwa[List.getElem?_drop]at hj))
   (fun j hj=>m _ (by rw[s]at hj;omega)) (fun j hj=>p.frozenAt _) (fun u hu=>ak u (List.mem_of_mem_drop hu))
 obtain⟨W1,ad⟩: ∃W1,W1=w.drew.setCells g ((i+1)*4) (cs.drop (i*4)):=⟨_,rfl⟩
 obtain⟨h1,g1⟩:=gO (cs.drop (i*4)) ((i+1)*4) _ _ p (by rw[s,hX];omega);rw[←ad]at h1 g1 z;obtain⟨X1,ae⟩: ∃X1,X1=X.take ((i+1)*4)++cs.drop (i*4)++X.drop ((i+1)*4+(cs.drop (i*4)).length):=⟨_,rfl⟩
 rw[←ae]at h1;have y:X1.length=(n+1)*4:=h1.1;have a: ∀j u,V[j]? =some u→W1.cell? ⟨vb,j,none⟩=some u:=fun j u hu=>by rw[ad,World.cell?_setCells_out g _ _ _ _ (fun h _=>absurd h an)];have:=o.out.cell j;show w.cell? ⟨vb,j,none⟩=some u;rw[this];simpa using hu
 have al: ∀(W:World),(∀x,W.cell? x=W1.cell? x)→(∀x,W.frozen? x=W1.frozen? x)→ ∀ty dc,(Builtin.copy_ #[28,28] ty #[.slice (some ⟨g,i*4,none⟩) (n+1-i) dc,.slice (some ⟨vb,0,none⟩) 1 1]).run prog W= .ok (goInt (1:Nat)) (W.setCells g (i*4) V):=fun W hWc hWf ty dc=>
  rG W _ _ ty TV 4 1 g (i*4) (n+1-i) dc ⟨vb,0,none⟩ 1 1 V u1 ag (by simp only[Nat.min_def];split<;>omega) (by rw[b])
   (fun j u hj=>by rw[Addr.add_lit,hWc,aUf];exact a j u hj)
   (fun j hj=>by rw[hWc,h1.cellAt _ (by omega),aT6 (by omega)];rfl) (fun j hj=>by rw[hWf];exact h1.frozenAt _) ai
 obtain⟨h2,g2⟩:=gO V (i*4) _ _ h1 (by rw[b,y];omega);have am:Hid (Mem w0 (W1.setCells g (i*4) V) (L.set ix (aJ w0 TV 4 (some ⟨g,0,none⟩) (n+1) c (cs.take (i*4)++V++cs.drop (i*4))))):=by rw[ae,aHy hX q b (by omega) aj]at h2;exact hM.out.app t.out h2 ((show w.grownBy w.drew (some g)from⟨rfl,rfl,rfl,aT5 _,fun _ _ _=>rfl⟩).trans (g1.trans g2)) (.inl rfl)
 have aw:c≤9223372036854775807:=by have:=(Sl.own hO).mx;unfold maxLen at this;omega
 have q2:=aVw ((i:Int)+1);have q3:((i:Int)+1).toNat=i+1:=by omega
 have q4:i≤n:=by omega
 have q5: ¬c=i:=by omega
 have q6: ¬c=i+1:=by omega
 have q7:=aVw ((n:Int)+1);have q8:((n:Int)+1).toNat=n+1:=by omega
 have b1:(0:Int)≤(i:Int)+1:=by omega
 have b3:(i:Int)≤(n:Int)+1:=by omega
 have b5:(i:Int)+1≤(n:Int)+1:=by omega
 clear h1 h2 g1 g2 ae y hX aj p hO ak ai d m a f aa ab ao b hV r s q ad hM t o aq ag af au ah av u1;go_enter func97,ntmps97;go_wp2_with (simp only[ar]);go_region_law (refine step_copy_runI rfl _ _ 28 28 rfl _ _ (by simp[Act.eval,Act.put]) (by simp[Act.eval,Act.put]) (z _ _ _) ?_)
 go_wp2_with (at_builtin;refine wpList_copy_runI _ rfl _ _ 28 28 rfl _ _ rfl rfl (al _ (fun _=>rfl) (fun _=>rfl) _ _) ?_);go_ret;exact⟨_,_,rfl,am.out⟩
theorem aOl (g i:Nat)(vb c n:Nat)(vs:List aR)(v:aR)(ix:Nat)(hn:n≤1000)(hl:Hid (vs.length=n))(hM:Hid (Mem w0 w L))(aa:Hid (Blk w vb TV (aE v).toArray))(hi:i<n)(a9:n≤c)(ak:c<n+1)(a8:vb≠g)(z:Hid (L[ix]? =some (aJ w0 TV 4 (some ⟨g,0,none⟩) n c (vs.flatMap aE)))):
  U 97 #[.slice (some ⟨g,0,none⟩) n c,i,.slice (some ⟨vb,0,none⟩) 1 1] w fun e w'=> ∃q' c',e= .returned (.slice q' (n+1) c')∧Mem w0 w' (L.set ix (aJ w0 TV 4 q' (n+1) c' ((vs.flatMap aE).take (i*4)++aE v++(vs.flatMap aE).drop (i*4)))):=by
 obtain⟨i0,ai,ax,an,ao⟩:=info_parts zC;have am:(prog.info? TV).map (·.size)=some 4:=by rw[ai];simp[an]
 have u1:=underlying28;have u2:=underlying3;obtain⟨cs,y⟩: ∃cs,cs=vs.flatMap aE:=⟨_,rfl⟩
 rw[←y]at z⊢;have o:cs.length=n*4:=by rw[y,dD aE 4 (fun _=>rfl),hl.out]
 have ar: ∀u∈cs,u.oneCell'=true:=by rw[y];exact fI vs
 obtain⟨V,hV⟩: ∃V,V=aE v:=⟨_,rfl⟩
 rw[←hV]at aa⊢;have s:V.length=4:=by rw[hV];rfl
 have aq: ∀u∈V,u.oneCell'=true:=by rw[hV];exact aGu v
 have hO:=hM.out.own z.out;have a1:g<w:=(aU0 hO g rfl).2;have a2:vb<w:=aa.out.lt;have hB:(w0:Nat)≤w:=hM.out.ext.sz;have p:(cs.drop (i*4)).length=(n-i)*4:=by rw[aUm,o,Nat.sub_mul]
 have d: ∀j u,cs[j]? =some u→w.cell? ⟨g,j,none⟩=some u:=fun j u hu=>by
  have hj:j<n*4:=by rw[←o];exact(aT9.1 hu).1
  rw[hO.cellAt j hj];exact hu
 have m: ∀j u,V[j]? =some u→w.cell? ⟨vb,j,none⟩=some u:=fun j u hu=>by rw[aa.out.cell j];simpa using hu
 have aw:(n:Int)+1-(i:Int)=((n+1-i:Nat):Int):=by omega
 have aj:i+(n+1-i)=n+1:=by omega
 have ae:(Builtin.firstCells i0.size i (.slice (some ⟨g,0,none⟩) i c)).run prog w.drew= .ok (cs.take (i*4)).toArray w.drew:=by
  rw[an]
  exact run_firstCells_some w.drew 4 i ⟨g,0,none⟩ i c (cs.take (i*4)) (by rw[aTt];omega) (fun j u hj=>by
   rw[Addr.add_lit,aUf];rw[List.getElem?_take]at hj;split at hj
   ·exact d j u hj
   ·cases hj)
 have al: ∀ty,(Builtin.append_ #[28,3] ty #[.slice (some ⟨g,0,none⟩) i c,((n:Int)+1-(i:Int):Int)]).run prog w=
   .ok (.slice (some ⟨w,0,none⟩) (n+1) (grownCap w (n+1) c TV)) (w.drew.alloc (.cells ((cs.take (i*4)).toArray++Builtin.zeroCells (Value.agg #[(),(),(),()]).cells (n+1-i)++Builtin.zeroCells (Value.agg #[(),(),(),()]).cells (grownCap w (n+1) c TV-(n+1))) TV)):=fun ty=>by
  have h:=Lib.run_append_grow_zeros w 28 3 ty TV i0 _ .i64 .i64 u1 u2 ai ax (some ⟨g,0,none⟩) i c (cs.take (i*4)) ae (n+1-i) (by omega) (by omega) (by omega) (by omega) (by rw[ao];omega) (by rw[ao,aj];exact growslice_fits ak (by omega));rw[aj]at h;rw[aw];exact h
 obtain⟨G,hG⟩: ∃G,G=grownCap w (n+1) c TV:=⟨_,rfl⟩
 have a0:n+1≤G:=by rw[hG];exact grownCap_ge w _ _ _
 have ap:G≤maxLen:=by rw[hG];exact grownCap_le_maxLen w (n+1) c TV (by unfold maxLen;omega)
 obtain⟨ROW,l⟩: ∃ROW:Array Value,ROW=(cs.take (i*4)).toArray++Builtin.zeroCells (Value.agg #[(),(),(),()]).cells (n+1-i)++Builtin.zeroCells (Value.agg #[(),(),(),()]).cells (G-(n+1)):=⟨_,rfl⟩
 rw[←hG]at al;rw[←l]at al;have af:ROW.size=G*4:=by rw[l];simp only[Array.size_append,List.size_toArray,aTt,o,Builtin.zeroCells,Value.cells];simp;omega
 have ag:(ROW.toList.take ((n+1)*4)).take (i*4)=cs.take (i*4):=by rw[List.take_take,Nat.min_eq_left (by omega),l,Array.toList_append,Array.toList_append,aTx,aV5 (by simp[aTt];omega)];simp[List.take_take]
 obtain⟨X,hX⟩: ∃X,X=ROW.toList.take ((n+1)*4):=⟨_,rfl⟩
 rw[←hX]at ag;have t:X.length=(n+1)*4:=by rw[hX,aTt,Array.length_toList,af];omega
 obtain⟨W1,a⟩: ∃W1,W1=w.drew.alloc (.cells ROW TV):=⟨_,rfl⟩
 obtain⟨N,hN⟩: ∃N,N=w.heap.size:=⟨_,rfl⟩
 have q:W1.ownsRow w0 TV 4 (.slice (some ⟨N,0,none⟩) (n+1) G) (n+1) X:=
  ⟨t,.inr ⟨N,G,ROW,rfl,by omega,by have:=Blk.new w.drew TV ROW;rw[a,hN];exact this,a0,ap,af,hX.symm⟩⟩
 obtain⟨h2,g2⟩:=gO V (i*4) _ _ q (by rw[s,t];omega);obtain⟨X1,ah⟩: ∃X1,X1=X.take (i*4)++V++X.drop (i*4+V.length):=⟨_,rfl⟩
 rw[←ah]at h2;have ab:X1.length=(n+1)*4:=h2.1;obtain⟨h3,g3⟩:=gO (cs.drop (i*4)) ((i+1)*4) _ _ (aW h2 (Ext.drew (Ext.refl _))) (by rw[p,ab];omega);rw[ah,aLg t o s (by omega) ag]at h3;have f: ∀(b k:Nat),b<w.heap.size→W1.cell? ⟨b,k,none⟩=w.cell? ⟨b,k,none⟩:=fun b k hb=>by rw[a];exact aUk (w:=w.drew) _ b k hb
 have au: ∀(W:World),(∀x,W.cell? x=W1.cell? x)→(∀x,W.frozen? x=W1.frozen? x)→ ∀ty dc,(Builtin.copy_ #[28,28] ty #[.slice (some ⟨N,i*4,none⟩) (n+1-i) dc,.slice (some ⟨vb,0,none⟩) 1 1]).run prog W= .ok (goInt (1:Nat)) (W.setCells N (i*4) V):=fun W hWc hWf ty dc=>
  rG W _ _ ty TV 4 1 N (i*4) (n+1-i) dc ⟨vb,0,none⟩ 1 1 V u1 am (by simp only[Nat.min_def];split<;>omega) (by rw[s])
   (fun j u hj=>by rw[Addr.add_lit,hWc,aUf,f _ _ a2];exact m j u hj)
   (fun j hj=>by rw[hWc,q.cellAt _ (by omega),aT6 (by omega)];rfl) (fun j hj=>by rw[hWf];exact q.frozenAt _) aq
 have ad: ∀(W:World),(∀x,W.cell? x=(W1.setCells N (i*4) V).cell? x)→(∀x,W.frozen? x=(W1.setCells N (i*4) V).frozen? x)→ ∀ty dc sc,(Builtin.copy_ #[28,28] ty #[.slice (some ⟨N,(i+1)*4,none⟩) (n-i) dc,.slice (some ⟨g,i*4,none⟩) (n-i) sc]).run prog W= .ok (goInt (n-i:Nat)) (W.setCells N ((i+1)*4) (cs.drop (i*4))):=fun W hWc hWf ty dc sc=>
  rG W _ _ ty TV 4 (n-i) N ((i+1)*4) (n-i) dc ⟨g,i*4,none⟩ (n-i) sc (cs.drop (i*4)) u1 am (by simp only[Nat.min_def];split<;>omega) p
   (fun j u hj=>by
    rw[Addr.add_lit,hWc,World.cell?_setCells_out _ _ _ _ _ (fun h _=>absurd h (by show g≠N;omega)),f _ _ a1]
    exact d (i*4+j) u (by rwa[List.getElem?_drop]at hj))
   (fun j hj=>by rw[hWc,h2.cellAt _ (by rw[p]at hj;omega),aT6 (by rw[p]at hj;omega)];rfl) (fun j hj=>by rw[hWf];exact h2.frozenAt _) (fun u hu=>ar u (List.mem_of_mem_drop hu))
 have av:Hid (Mem w0 ((W1.setCells N (i*4) V).drew.setCells N ((i+1)*4) (cs.drop (i*4))) (L.set ix (aJ w0 TV 4 (some ⟨N,0,none⟩) (n+1) G (cs.take (i*4)++V++cs.drop (i*4))))):=by
  refine hM.out.app z.out h3 ?_ (.inr (by rw[hN];rfl));have e2:Ext w ((W1.setCells N (i*4) V).drew.setCells N ((i+1)*4) (cs.drop (i*4))):=by
   have e1:Ext w W1:=by rw[a];exact(Ext.drew (Ext.refl w)).alloc _
   exact ExtR.new e1 (show ExtR N W1 _ from(show ExtR N W1 _ from g2).drew.trans g3) (by omega)
  exact e2.r g
 have a6: ¬(G=i):=by omega
 have a3: ¬(G=i+1):=by omega
 have a7: ¬(c=i):=by omega
 have a4: ∀x,((w.alloc (.cells ROW TV)).drew).cell? x=W1.cell? x:=fun x=>by rw[a];rfl
 have a5: ∀x,((w.alloc (.cells ROW TV)).drew).frozen? x=W1.frozen? x:=fun x=>by rw[a];rfl
 have ay: ∀x,(((w.alloc (.cells ROW TV)).drew.setCells w (i*4) V).drew).cell? x=(W1.setCells N (i*4) V).cell? x:=fun x=>by rw[a,hN];rfl
 have az: ∀x,(((w.alloc (.cells ROW TV)).drew.setCells w (i*4) V).drew).frozen? x=(W1.setCells N (i*4) V).frozen? x:=fun x=>by rw[a,hN];rfl
 have q2:=aVw ((i:Int)+1);have q3:((i:Int)+1).toNat=i+1:=by omega
 have q4:i≤n:=by omega
 have q7:=aVw ((n:Int)+1);have q9:=aVw ((n:Int)+1-(i:Int));have ba:(c:Int)<(n:Int)+1:=by omega
 have b1:(0:Int)≤(i:Int)+1:=by omega
 have b3:(i:Int)≤(n:Int)+1:=by omega
 have b5:(i:Int)+1≤(n:Int)+1:=by omega
 subst hN;clear aw aj ae l af ag hX t q h2 g2 ah ab h3 g3 f ar aq s hV y o hO m d p hB hM z aa am u1 u2 ai ax an ao hG ap hl;subst a;go_enter func97,ntmps97
 go_wp2_with (first
  |(at_builtin;refine Lib.wpList_append_run _ rfl _ _ _ _ rfl _ _ rfl rfl _ _ (al _) ?_)
  |(at_builtin;refine wpList_copy_runI _ rfl _ _ 28 28 rfl _ _ rfl rfl (au _ (fun _=>rfl) (fun _=>rfl) _ _) ?_)
  |(at_builtin;refine wpList_copy_runI _ rfl _ _ 28 28 rfl _ _ rfl rfl (ad _ (fun _=>rfl) (fun _=>rfl) _ _ _) ?_))
 go_region_law (refine step_copy_runI rfl _ _ 28 28 rfl (.slice (some ⟨w,(i+1)*4,none⟩) (n-i) (G-(i+1))) (.slice (some ⟨g,i*4,none⟩) (n-i) (c-i)) (by simp[Act.eval,Act.put]) (by simp[Act.eval,Act.put]) (ad _ ay az 3 (G-(i+1)) (c-i)) ?_)
 go_wp2;go_ret;exact⟨_,_,rfl,av.out⟩
theorem aFh (q:OA)(i:Nat)(vb c n:Nat)(vs:List aR)(v:aR)(ix:Nat)(hn:n≤1000)(hl:Hid (vs.length=n))(hM:Hid (Mem w0 w L))(b:Hid (Blk w vb TV (aE v).toArray))(hi:i≤n)(d: ∀g,(Value.slice q n c).ownBlock=some g→vb≠g)(a:Hid (L[ix]? =some (aJ w0 TV 4 q n c (vs.flatMap aE)))):
  U 97 #[.slice q n c,i,.slice (some ⟨vb,0,none⟩) 1 1] w fun e w'=> ∃q' c',e= .returned (.slice q' (n+1) c')∧Mem w0 w' (L.set ix (aJ w0 TV 4 q' (n+1) c' ((vs.take i++v::vs.drop i).flatMap aE))):=by
 have f:=hl.out;by_cases he:i=n
 ·subst he;have:=aQz q vb c i vs v ix hn hl hM b a;rw[show(vs.take i++v::vs.drop i).flatMap aE=vs.flatMap aE++aE v by rw[←f,aUv,List.drop_length,aTz];simp];exact this
 rw[←aMm];rcases(hM.out.own a.out).2 with⟨h2,_⟩|⟨g,c',cur,h1,h3,h4,h5,h6,h7,h8⟩
 ·injection h2 with e1 e2 e3;omega
 injection h1 with e1 e2 e3;subst e1 e3;by_cases hr:n+1≤c
 ·exact aLv g i vb c n vs v ix hn hl hM b (by omega) hr (d g rfl) a
 exact aOl g i vb c n vs v ix hn hl hM b (by omega) h5 (by omega) (d g rfl) a
end
end
section
open Go
def aA2 (L:List Item):Item:=⟨fun g=> ∃it∈L,it.adr g,fun w=> ∀it∈L,it.ok w⟩
theorem aMq {L:List Item}{B:Nat}(h: ∀it∈L,it.Good B):(aA2 L).Good B:=
 ⟨fun w ho g ⟨it,hi,hg⟩=>(h it hi).lt w (ho it hi) g hg,fun w w' ho hs hst it hi=>(h it hi).stay w w' (ho it hi) hs (fun g hg=>hst g ⟨it,hi,hg⟩)⟩
theorem Mem.fold {w0 w:World}(K:List Item){L:List Item}(h:Mem w0 w (K++L)):Mem w0 w (K++ [aA2 L]):=by
 have hp:=List.pairwise_append.1 h.apart;refine⟨h.ext,fun it hi=> ?_,fun it hi=> ?_,List.pairwise_append.2 ⟨hp.1,List.pairwise_singleton _ _,fun a ha b hb g hg hb'=> ?_⟩⟩
 ·rcases aTn.1 hi with hi|hi
  ·exact h.good it (aU8 _ hi)
  obtain rfl:=aTp.1 hi;exact aMq (fun x hx=>h.good x (List.mem_append_right _ hx))
 ·rcases aTn.1 hi with hi|hi
  ·exact h.ok it (aU8 _ hi)
  obtain rfl:=aTp.1 hi;exact fun x hx=>h.ok x (List.mem_append_right _ hx)
 obtain rfl:=aTp.1 hb;obtain⟨it,d,c⟩:=hb';exact hp.2.2 a ha it d g hg c
theorem Mem.frame {w0 w w':World}(K K':List Item){L:List Item}(h:Mem w0 w (K++L))(h':Mem w0 w' (K'++ [aA2 L])):Mem w0 w' (K'++L):=by
 have hp:=List.pairwise_append.1 h.apart;have c:=List.pairwise_append.1 h'.apart;refine⟨h'.ext,fun it hi=> ?_,fun it hi=> ?_,List.pairwise_append.2 ⟨c.1,hp.2.1,fun a ha b hb g hg hb'=> ?_⟩⟩
 ·rcases aTn.1 hi with hi|hi
  ·exact h'.good it (aU8 _ hi)
  exact h.good it (List.mem_append_right _ hi)
 ·rcases aTn.1 hi with hi|hi
  ·exact h'.ok it (aU8 _ hi)
  exact h'.ok (aA2 L) (by simp) it hi
 exact c.2.2 a ha (aA2 L) (by simp) g hg ⟨b,hb,hb'⟩
end
end Go.Proofs.YthfmmibomhhmpaaGreatDoor
