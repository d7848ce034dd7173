/-
  Texts of this proof, packed (@packed).
-/
import Derived.Test.YtbgkcehffiogcaaGreatDoorV7
namespace Go.Proofs.YtbgkcehffiogcaaGreatDoor
open Go.RowKit
set_option linter.unusedSimpArgs false
set_option linter.unusedVariables false
set_option maxHeartbeats 8000000
set_option maxRecDepth 100000
section
theorem oR {w:World}{g:Nat}{a:Array Value}{e:TypeId}(hg:w.heap[g]? =some (.cells a e (0,0))):Ext w (w.setRow g a):=
 ⟨rfl,rfl,rfl,by simp[World.setRow],fun k hk=>by
  by_cases h:k=g
  ·subst h;rw[setRow_heap w k a a e _ hg,hg]
  ·exact setRow_other w g k _ h⟩
section
variable {P:Program} (w:World)
theorem rV {t e ty:TypeId}{sz:Nat}(E:ElT P t e sz)(base g n:Nat)(cs:Array Value)(hB:Blk w g e cs)(hb:base≤g)(a:cs.size=n*sz)(p:OA)(m c:Nat)(news:List Value)(hs:Sl w p m c sz news)
  (h1: ∀u∈news,u.oneCell'=true)(hn:n+m≤1099511627776):
  ∃p' cap' w',(Builtin.append_ #[t,t] ty #[.slice (some ⟨g,0,none⟩) n n,.slice p m c]).run P w= .ok (.slice p' (n+m) cap') w'∧w'.ownsRow base e sz (.slice p' (n+m) cap') (n+m) (cs.toList++news)∧Ext w w':=by
 obtain⟨i,z,hi,hz,q,v,aa⟩:=E.info;have d:w.ownsRow base e sz (.slice (some ⟨g,0,none⟩) n n) n cs.toList:=⟨by simpa using a,.inr ⟨g,n,cs,rfl,hb,hB,aK1 _,by unfold maxLen;omega,a,by rw[aKb (by simp;omega)]⟩⟩
 by_cases hm:m=0
 ·subst hm;have l:news= []:=aL3 (by simpa using hs.len);subst l;cases p with
  |none=>refine⟨some ⟨g,0,none⟩,n,w,?_,by simpa using d,Ext.refl w⟩;simp[Builtin.append_,run_underlying E.ht,sizeOf,typeInfo,hi,Builtin.lenOf,Builtin.firstCells,storeCells]
  |some ad=>
   have hr:=run_append_room (P:=P) w t ty e i E.ht hi g n n cs hB ad 0 c [] (by simp) (by simp) (by simp) (by omega) (by rw[a,q];simp);have e1:(List.take (n*i.size) cs.toList++ []++List.drop (n*i.size+([]:List Value).length) cs.toList).toArray=cs:=by simp
   rw[e1]at hr;refine⟨some ⟨g,0,none⟩,n,w.setRow g cs,hr,?_,oR hB⟩;have h2:=d.kept (w':=w.setRow g cs) (row:=none) ⟨rfl,rfl,rfl,(oR hB).sz,fun k hk _=>(oR hB).block k hk⟩ (by simp[Value.ownBlock]);simpa using h2
 obtain⟨b,r,rfl,_,hc⟩:=hs.rd (by omega);have f: ∀j u,news[j]? =some u→w.cell? ((⟨b,r,none⟩:Addr).add j)=some u:=by intro j u hu;rw[jI,hc j (by rw[←hs.len];exact(aK4.1 hu).1)];exact hu
 have s:(n+m)*i.bytes≤140737488355328:=by have:(n+m)*i.bytes≤(n+m)*64:=Nat.mul_le_mul_left _ v;omega
 have o: ∀j u,cs.toList[j]? =some u→w.cell? ((⟨g,0,none⟩:Addr).add j)=some u:=d.cells (g:=g) rfl;have hr:=run_append_grow (P:=P) w t ty e i z E.ht hi hz ⟨g,0,none⟩ n n cs.toList (by simpa[q]using a) o ⟨b,r,none⟩ m c news (by rw[q];exact hs.len) f (by omega) (by omega) (growslice_fits (by omega) s);have y:=grownCap_ge w (n+m) n e;have x:grownCap w (n+m) n e≤maxLen:=grownCap_le_maxLen w (n+m) n e (by unfold maxLen;omega);have h:(cs.toList++news).length=(n+m)*sz:=by rw[aKa,hs.len,Nat.add_mul];simp[a]
 refine⟨_,_,_,hr,⟨h,.inr ⟨w.heap.size,_,_,rfl,?_,heap_alloc_new w.drew _,y,x,?_,?_⟩⟩,(Ext.refl w).drew.alloc _⟩
 ·have:=hB.lt;omega
 ·simp only[Array.size_append,List.size_toArray,size_zeroCells,aa,hs.len,a,←Nat.add_mul];congr 1;omega
 simp only[Array.toList_append,aKw];rw[←aKw,←h];exact List.take_left
theorem sF {o:Oper}{a:Act}{K:Act→World→Prop}{Q:Exit→Act→World→Prop}{t e:TypeId}{sz:Nat}(E:ElT P t e sz)(s x:Operand)
  (ho:o.op= .call {callee:= .builtin .append,args:=#[s,x],argTypes:=#[t,t]})
  (base g n:Nat)(cs:Array Value)(hs:a.eval s= .slice (some ⟨g,0,none⟩) n n)(hB:Blk w g e cs)(hb:base≤g)(d:cs.size=n*sz)
  (p:OA)(m c:Nat)(news:List Value)(hx:a.eval x= .slice p m c)(hr:Sl w p m c sz news)(h1: ∀u∈news,u.oneCell'=true)
  (hn:n+m≤1099511627776)
  (h: ∀p' cap' w',w'.ownsRow base e sz (.slice p' (n+m) cap') (n+m) (cs.toList++news)→Ext w w'→K (a.put o.dst (.slice p' (n+m) cap')) w'):o.wp P a w K Q:=by
 obtain⟨p',cap',w',b,h2,h3⟩:=rV (ty:=o.type) w E base g n cs hB hb d p m c news hr h1 hn;unfold Oper.wp execOp;simp only[ho,resolve,invoke,builtin,Sem.run_bind,Sem.run_pure,Result.andThen_ok,List.map_toArray,aLr,List.map_nil,hs,hx,b];exact h p' cap' w' h2 h3
theorem pY {b:Array Oper}{i:Nat}{o:Oper}{a:Act}{G:Nat→Value→World→Prop}{t e:TypeId}{sz:Nat}(E:ElT P t e sz)(f:o.guard=none)(s x:Operand)
  (ho:o.op= .call {callee:= .builtin .append,args:=#[s,x],argTypes:=#[t,t]})
  (base g n:Nat)(cs:Array Value)(hs:a.eval s= .slice (some ⟨g,0,none⟩) n n)(hB:Blk w g e cs)(hb:base≤g)(d:cs.size=n*sz)
  (p:OA)(m c:Nat)(news:List Value)(hx:a.eval x= .slice p m c)(hr:Sl w p m c sz news)(h1: ∀u∈news,u.oneCell'=true)
  (hn:n+m≤1099511627776)(h: ∀p' cap' w',w'.ownsRow base e sz (.slice p' (n+m) cap') (n+m) (cs.toList++news)→G i (.slice p' (n+m) cap') w'):
  nI P b G Ext i o w a:=by
 intro K hK;have hw:Region.wanted o (yielded b a.tmps)=true:=by simp[Region.wanted,f]
 rw[if_pos hw];exact sF w E s x ho base g n cs hs hB hb d p m c news hx hr h1 hn (fun p' cap' w' h2 h3=>hK _ _ ⟨_,rfl,h p' cap' w' h2,h3⟩)
end
end
section
open Go.Proofs.Tryz
theorem cV {w:World}{B n:Nat}{q:OA}{a:Nat}{xs:List Value}{g:Nat}{t:TypeId}{cs:Array Value}(ho:w.ownsRow B TI 1 (.slice q n a) n xs)(hb:Blk w g t cs)(ht:t≠TI):(Value.slice q n a).ownBlock≠some g:=by
 intro he;rcases ho.2 with⟨h1,h2⟩|⟨g',cap',cur,h1,hb',hg,hn,hm,hs,ht'⟩
 ·injection h1 with e1;subst e1;simp[Value.ownBlock]at he
 injection h1 with e1 e2 e3;subst e1;simp[Value.ownBlock]at he;subst he;unfold Blk at hb;rw[hb]at hg;injection hg with e;injection e with e1 e2;exact ht e2
theorem eT (aA aB:Int)(p:OA)(n a:Nat)(xs:List Int)(w:World)(hn:n≤1099511627776)(hS:Sl w p n a 1 (ivs xs)):
  U 54 #[aH aA aB p n a] w (cP aA aB xs w):=by
 have hl:=xQ hS.ilen;have HS:=xQ hS;clear hS;go_enter func54,ntmps54;go_wp2;refine rL (gl [gEq (.pointer (some ⟨w,0,none⟩)),gEq aA,gEq (.pointer (some ⟨w,1,none⟩)),gEq aB,aIo (w.heap.size+2) TI #[] 0,gEq (.pointer (some ⟨w,2,none⟩)),gEq (.slice p n a),(fun v w'=> ∃q c,v= .slice q n c∧w'.ownsRow (w.heap.size+2) TI 1 (.slice q n c) n (ivs xs)),(fun v w'=> ∃q c,v=aH aA aB q n c∧w'.ownsRow (w.heap.size+2) TI 1 (.slice q n c) n (ivs xs))]) 9 10 [(0,some 3),(1,some 4),(2,some 5),(3,some 6),(4,some 7),(5,some 8),(6,some 9),(7,some 10),(8,some 11)] ?steps ?fin (hG:=(kP (aW (bJ _) (aW (bJ _) (aW (bJ _) (aW (bJ _) (aW (vM _ _ _ _) (aW (bJ _) (aW (bJ _) (aW (fun v w w' ⟨q,c,he,ho⟩ hx=>⟨q,c,he,aY ho hx⟩) (aW (fun v w w' ⟨q,c,he,ho⟩ hx=>⟨q,c,he,aY ho hx⟩) (nA))))))))))))
 case steps=>
  refine sS0 [] ?_;refine sC [(0,some 3)] rfl (fun wi hx=> ?_) ?_
  ·intro v0 h0 K hK;obtain rfl:=h0;have B:=(Blk.new w TH3 #[aA,aB,.slice p n a]).ext (by exact .trans (.drew (.alloc (.refl _) _)) hx:Ext (w.alloc (.cells #[aA,aB,.slice p n a] TH3)) wi);have c0:=B.cl 0;go_simp;exact hK _ _ ⟨I aA,rfl,rfl,Ext.refl _⟩
  refine sS0 [] ?_;refine sC [(2,some 5)] rfl (fun wi hx=> ?_) ?_
  ·intro v2 h2 K hK;obtain rfl:=h2;have B:=(Blk.new w TH3 #[aA,aB,.slice p n a]).ext (by exact .trans (.drew (.alloc (.refl _) _)) hx:Ext (w.alloc (.cells #[aA,aB,.slice p n a] TH3)) wi);have c1:=B.cl 1;go_simp;exact hK _ _ ⟨I aB,rfl,rfl,Ext.refl _⟩
  refine sC [] rfl (fun wi hx=> ?_) ?_
  ·intro K hK;go_simp;exact hK _ _ ⟨.slice (some ⟨wi,0,none⟩) 0 0,rfl,⟨wi.heap.size,rfl,by have:=hx.sz;simp at this;omega,Blk.new _ _ _⟩,(Ext.refl _).alloc _⟩
  refine sS0 [] ?_;refine sC [(5,some 8)] rfl (fun wi hx=> ?_) ?_
  ·intro v5 h5 K hK;obtain rfl:=h5;have B:=(Blk.new w TH3 #[aA,aB,.slice p n a]).ext (by exact .trans (.drew (.alloc (.refl _) _)) hx:Ext (w.alloc (.cells #[aA,aB,.slice p n a] TH3)) wi);have c2:=B.cl 2;go_simp;exact hK _ _ ⟨.slice p n a,rfl,rfl,Ext.refl _⟩
  refine sC [(4,some 7),(6,some 9)] rfl (fun wi hx=> ?_) ?_
  ·intro v4 h4 v6 h6;obtain⟨g4,rfl,e,B4⟩:=h4;obtain rfl:=h6;refine pY _ fH rfl (.tmp 7) (.tmp 9) rfl (w.heap.size+2) g4 0 #[] rfl B4 e (by simp) p n a (ivs xs) rfl (HS.out.ext (Ext.trans (by exact .drew (.alloc (.alloc (.refl _) _) _)) hx)) (nR _) (by omega) (fun p' cap' w' h2=>⟨p',cap',by rw[aL4],by simpa using h2⟩)
  refine sC [(1,some 4),(3,some 6),(7,some 10)] rfl (fun wi hx=> ?_) StepsL.nil
  ·intro v1 h1 v3 h3 v7 h7 K hK;subst h1 h3;obtain⟨q7,c7,rfl,b⟩:=h7;go_simp;exact hK _ _ ⟨aH aA aB q7 n c7,rfl,⟨q7,c7,rfl,b⟩,Ext.refl _⟩
 case fin=>
  intro wi hx v0 h0 v1 h1 v2 h2 v3 h3 v4 h4 v5 h5 v6 h6 v7 h7 v8 h8;subst h0 h1 h2 h3;obtain⟨g4,rfl,e,B4⟩:=h4;subst h5 h6;obtain⟨q7,c7,rfl,b⟩:=h7;obtain⟨q8,c8,rfl,f⟩:=h8;have BZ:Blk wi (w.heap.size+1) TH3 #[(),(),((),())]:=by have:=(Blk.new (w.alloc (.cells #[aA,aB,.slice p n a] TH3)) TH3 #[(),(),((),())]).ext hx.of_drew;simpa using this
  obtain⟨z0,h,z1,i,z2,j⟩:=BZ.trif;have z1:w.heap.size+1<wi.heap.size:=BZ.lt;have g:Ext w wi:=Ext.trans (by exact .drew (.alloc (.alloc (.refl _) _) _)) hx;clear b hx;refine wpAny_ready (rs:= [9]) (by kernel_rfl) (by simp) ?_;refine AllReady.cons rfl (fun K hK=> ?_) AllReady.nil;go_simp;refine hK _ _ ?_;clear hK K;refine wpAny_done (by kernel_rfl) ?_ _;go_wp2;have hY:=((BZ.set 0 (I aA)).set 1 (I aB)).set 2 (.slice q8 n c8);generalize d:World.setCell _ _ _=w3;rw[d]at hY;have hR:ExtR (w.heap.size+1) wi w3:=by rw[←d];exact(((ExtR.refl (w.heap.size+1) wi).setCell (p:=⟨w.heap.size+1,0,none⟩) (.inl rfl) _).setCell (p:=⟨w.heap.size+1,1,none⟩) (.inl rfl) _).setCell (p:=⟨w.heap.size+1,2,none⟩) (.inl rfl) _
  clear d z0 z1 z2 h i j;simp only[aKe,aKf,aKc]at hY;obtain⟨y0,y1,y2⟩:=hY.tri;exact bodyPost_ret (v:=aH aA aB q8 n c8) (by simp[results,results54,go_sem, *]) rfl (oZ hl.out (bF (f.kept hR (.inr (cV f BZ (by decide)))) (by omega)) (ExtR.new g hR (by omega)))
abbrev TSL:TypeId:=78
abbrev dH (f t:Int):Value:= .agg #[f,t]
def aX (aA aB:Int)(xs:List Int)(f t:Int):Bool:=decide (cS aA aB xs f t=1)&&decide (0<xs.getD f.toNat 0)&&decide (xs.getD t.toNat 0=0)
theorem iI {aA aB:Int}{xs:List Int}{a b:Int}(h:cS aA aB xs a b=1):aN aA aB xs=true∧0≤a∧a<xs.length∧0≤b∧b<xs.length∧aU aA a b=1:=by
 unfold cS at h;split at h
 ·rename_i hh;exact⟨hh.1,hh.2.1.1,hh.2.1.2,hh.2.2.1,hh.2.2.2,h⟩
 omega
theorem Blk.cells2 {w:World}{g:Nat}{t:TypeId}{a b:Value}(h:Blk w g t #[a,b]):w.cell? ⟨g,0,none⟩=some a∧w.cell? ⟨g,1,none⟩=some b:=⟨h.cell 0,h.cell 1⟩
theorem aDg (aA aB f t:Int)(p:OA)(n a:Nat)(A:Int)(w:World)(hA:(A==1)=false)
  (HC:xC 132 #[aH aA aB p n a,f,t] w fun w' e w''=>e= .returned (I A)∧Ext w' w''):
  U 99 #[aH aA aB p n a,dH f t] w (O (.bool false) w):=by
 go_enter func99,ntmps99;go_wp2_with fail;refine Z (HC _ (by exact .alloc (.alloc (.refl _) _) _)) fun w1 b=>?_
 have B1:=xQ (show Blk w1 w TH3 #[aA,aB,.slice p n a]from((Blk.new w TH3 #[aA,aB,.slice p n a]).alloc _).ext b);have S1:=xQ (show Blk w1 (w.heap.size+1) TSL #[f,t] by have:=(Blk.new (w.alloc (.cells #[aA,aB,.slice p n a] TH3)) TSL #[f,t]).ext b;simpa using this);have X1:Ext w w1:=by exact .trans (.alloc (.alloc (.refl _) _) _) b
 clear b;go_wp2;go_ret;exact⟨rfl,by exact X1⟩
theorem aFf (aA aB:Int)(p:OA)(n c:Nat)(i j:Nat)(x y:Int)(xs:List Int)(w:World)(hn:n≤12)(hi:i<n)(hj:j<n)(HX:Hid (xs[i]? =some x)) (HY:Hid (xs[j]? =some y)) (HS:Hid (Sl w p n c 1 (ivs xs)))
  (HC:xC 132 #[aH aA aB p n c,i,j] w fun w' e w''=>e= .returned (I 1)∧Ext w' w''):
  U 99 #[aH aA aB p n c,dH (i:Int) (j:Int)] w fun e w'=>e= .returned (.bool (decide (0<x)&&decide (y=0)))∧Ext w w':=by
 obtain⟨b,f,x',l,hx,hb,o⟩:=HS.out.int_at hi;obtain⟨b2,r,y',g,hy,_,q⟩:=HS.out.int_at hj;rw[l]at g;injection g with g;injection g with e1 e2;subst e1 e2;have k:=xQ l;clear l;obtain rfl:x=x':=by have:=HX.out.symm.trans hx;injection this
 obtain rfl:y=y':=by have:=HY.out.symm.trans hy;injection this
 clear hx hy;have a1:(0:Int)≤(i:Int):=by omega
 have a2:(0:Int)≤(j:Int):=by omega
 have a3:(i:Int)<(n:Int):=by omega
 have a4:(j:Int)<(n:Int):=by omega
 have h:=xQ o;have m:=xQ q;clear o q;by_cases h0:0<x
 ·have d0:decide (0<x)=true:=by simp[h0]
  by_cases h1:y=0
  ·have d1:(y==0)=true:=by simp[h1]
   have d:Hid ((decide (0<x)&&decide (y=0))=true):=by show _=_;simp[h0,h1]
   clear h1;go_enter func99,ntmps99;go_wp2_with fail;refine Z (HC _ (by exact .alloc (.alloc (.refl _) _) _)) fun w1 a=>?_
   have B1:=xQ (show Blk w1 w TH3 #[aA,aB,.slice p n c]from((Blk.new w TH3 #[aA,aB,.slice p n c]).alloc _).ext a);have S1:=xQ (show Blk w1 (w.heap.size+1) TSL #[i,j] by have:=(Blk.new (w.alloc (.cells #[aA,aB,.slice p n c] TH3)) TSL #[i,j]).ext a;simpa using this);have X1:Ext w w1:=by exact .trans (.alloc (.alloc (.refl _) _) _) a
   clear a;obtain⟨c0,c1,c2⟩:=B1.out.cells3;rw[k.out]at c2;obtain⟨s0,s1⟩:=S1.out.cells2;have g1:w1.cell? ⟨b,f+i,none⟩=some (iv x):=(X1.cells.1 _ _ hb).trans h.out;have g2:w1.cell? ⟨b,f+j,none⟩=some (iv y):=(X1.cells.1 _ _ hb).trans m.out;go_wp2;go_ret;exact⟨aQ d.out.symm,by exact X1⟩
  have d1:(y==0)=false:=by simp[h1]
  have d:Hid ((decide (0<x)&&decide (y=0))=false):=by show _=_;simp[h1]
  clear h1;go_enter func99,ntmps99;go_wp2_with fail;refine Z (HC _ (by exact .alloc (.alloc (.refl _) _) _)) fun w1 a=>?_
  have B1:=xQ (show Blk w1 w TH3 #[aA,aB,.slice p n c]from((Blk.new w TH3 #[aA,aB,.slice p n c]).alloc _).ext a);have S1:=xQ (show Blk w1 (w.heap.size+1) TSL #[i,j] by have:=(Blk.new (w.alloc (.cells #[aA,aB,.slice p n c] TH3)) TSL #[i,j]).ext a;simpa using this);have X1:Ext w w1:=by exact .trans (.alloc (.alloc (.refl _) _) _) a
  clear a;obtain⟨c0,c1,c2⟩:=B1.out.cells3;rw[k.out]at c2;obtain⟨s0,s1⟩:=S1.out.cells2;have g1:w1.cell? ⟨b,f+i,none⟩=some (iv x):=(X1.cells.1 _ _ hb).trans h.out;have g2:w1.cell? ⟨b,f+j,none⟩=some (iv y):=(X1.cells.1 _ _ hb).trans m.out;go_wp2;go_ret;exact⟨aQ d.out.symm,by exact X1⟩
 have d0:decide (0<x)=false:=by simp[h0]
 have d:Hid ((decide (0<x)&&decide (y=0))=false):=by show _=_;simp[h0]
 go_enter func99,ntmps99;go_wp2_with fail;refine Z (HC _ (by exact .alloc (.alloc (.refl _) _) _)) fun w1 a=>?_
 have B1:=xQ (show Blk w1 w TH3 #[aA,aB,.slice p n c]from((Blk.new w TH3 #[aA,aB,.slice p n c]).alloc _).ext a);have S1:=xQ (show Blk w1 (w.heap.size+1) TSL #[i,j] by have:=(Blk.new (w.alloc (.cells #[aA,aB,.slice p n c] TH3)) TSL #[i,j]).ext a;simpa using this);have X1:Ext w w1:=by exact .trans (.alloc (.alloc (.refl _) _) _) a
 clear a;obtain⟨c0,c1,c2⟩:=B1.out.cells3;rw[k.out]at c2;obtain⟨s0,s1⟩:=S1.out.cells2;have g1:w1.cell? ⟨b,f+i,none⟩=some (iv x):=(X1.cells.1 _ _ hb).trans h.out;go_wp2;go_ret;exact⟨aQ d.out.symm,by exact X1⟩
theorem aA9 (aA aB f t:Int)(p:OA)(n a:Nat)(xs:List Int)(w:World)(hS:Sl w p n a 1 (ivs xs)):
  U 99 #[aH aA aB p n a,dH f t] w (O (.bool (aX aA aB xs f t)) w):=by
 have hl:=hS.ilen;have HC:=fun(w':World) (hx:Ext w w')=>wG aA aB f t p n a xs w' (hS.ext hx)
 unfold aX;by_cases h:cS aA aB xs f t=1
 ·obtain⟨k1,k2,k3,k4,k5,k6⟩:=iI h;obtain⟨g1,g2,g3,g4,g5,g6,g7,g8,g9⟩:=bL k1;rw[h]at HC;have hx:xs[f.toNat]? =some (xs.getD f.toNat 0):=by rw[aK6,aK2 (by omega)];rfl
  have hy:xs[t.toNat]? =some (xs.getD t.toNat 0):=by rw[aK6,aK2 (by omega)];rfl
  have ef:((f.toNat:Nat):Int)=f:=by omega
  have et:((t.toNat:Nat):Int)=t:=by omega
  have:=aFf aA aB p n a f.toNat t.toNat _ _ xs w (by omega) (by omega) (by omega) hx hy hS (by rw[ef,et];exact HC);rw[ef,et]at this;rw[decide_eq_true h,Bool.true_and];exact this
 have:=aDg aA aB f t p n a _ w (by simpa using h) HC;rw[decide_eq_false h,Bool.false_and,Bool.false_and];exact this
def cG (aA aB:Int)(xs:List Int)(b:Bool)(w:World)(e:Ending)(w':World):Prop:=
 ∃p cap,e= .returned (.tuple #[aH aA aB p xs.length cap,.bool b])∧w'.ownsRow w.heap.size TI 1 (.slice p xs.length cap) xs.length (ivs xs)∧Ext w w'
theorem dP {aA aB:Int}{p:OA}{n a:Nat}{xs:List Int}{b:Bool}{w w':World}(hn:xs.length=n)(ho:w'.ownsRow w TI 1 (.slice p n a) n (ivs xs))(hx:Ext w w'):cG aA aB xs b w (.returned (.tuple #[aH aA aB p n a,.bool b])) w':=by subst hn;exact⟨p,a,rfl,ho,hx⟩
theorem eA {w:World}{B n sz:Nat}{e:TypeId}{q:OA}{a:Nat}{xs:List Value}(ho:w.ownsRow B e sz (.slice q n a) n xs)(h:0<n): ∃g,q=some ⟨g,0,none⟩∧B≤g∧g<w.heap.size:=by
 rcases ho.2 with⟨h1,h2⟩|⟨g',cap',cur,h1,hb',hg,r⟩
 ·omega
 injection h1 with e1;exact⟨g',e1,hb',(aL2.1 hg).1⟩
theorem dJ (xs:List Int)(k:Nat)(x:Int):(ivs xs).set k (iv x)=ivs (xs.set k x):=by simp[ivs,List.map_set]
theorem aDh (aA aB:Int)(p:OA)(a:Nat)(i j:Int)(xs:List Int)(w:World)(aq:4≤xs.length)(hn:xs.length≤12)
  (HV:xB 29 #[aH aA aB p xs.length a] w true)
  (HC:Hid (∀w',Ext w w'→U 54 #[aH aA aB p xs.length a] w' (cP aA aB xs w')))
  (HM:xB 99 #[aH aA aB p xs.length a,dH i j] w false):
  U 61 #[aH aA aB p xs.length a,dH i j] w (cG aA aB xs false w):=by
 go_enter func61,ntmps61;have ad:=xQ (Ext.refl w);go_wp2_with fail;refine Z (HV _ (by exact .alloc (.alloc (.alloc (.refl _) _) _) _)) fun w1 b=>?_
 have ah:Ext w w1:=((((Ext.refl _).alloc _).alloc _).alloc _).trans b;have z1:w.heap.size+3≤w1.heap.size:=by have:=b.sz;(try simp at this);omega
 have n:=xQ (ad.out.trans ah);clear ad;have k:=xQ (show Blk w1 w TH3 #[aA,aB,.slice p xs a] by have:=(((Blk.new w TH3 #[aA,aB,.slice p xs a]).alloc _).alloc _).ext b;simpa using this);have aa:=xQ (show Blk w1 (w.heap.size+1) TSL #[i,j] by have:=((Blk.new (w.alloc (.cells #[aA,aB,.slice p xs a] TH3)) TSL #[i,j]).alloc _).ext b;simpa using this);have af:=xQ (show Blk w1 (w.heap.size+1+1) TH3 #[(),(),((),())] by have:=(Blk.new ((w.alloc (.cells #[aA,aB,.slice p xs a] TH3)).alloc (.cells #[i,j] TSL)) TH3 #[(),(),((),())]).ext b;simpa using this);clear ah b;obtain⟨c0,c1,c2⟩:=k.out.tri;go_wp2_with fail;clear c0 c1 c2;refine(HC _ n.out).mono ?_;rintro e w2 ⟨q,c2,rfl,ho,t⟩;have c:Ext w1 w2:=by exact t
 have z2:w1.heap.size+0≤w2.heap.size:=by have:=t.sz;(try simp at this);omega
 have o:=xQ (n.out.trans c);have l:=xQ (k.out.ext c);have d:=xQ (aa.out.ext c);have ag:=xQ (af.out.ext c);clear n k aa af c;have x:(w:Nat)<w2:=l.out.lt;have y:w.heap.size+1<w2.heap.size:=d.out.lt;obtain⟨g,rfl,ao,ap⟩:=eA ho (by omega);have z:=xQ (ho);clear t ho;obtain⟨c0,c1,c2⟩:=l.out.tri;have s0:=d.out.cl 0;have s1:=d.out.cl 1;go_wp2_with fail;clear c0 c1 c2 s0 s1;refine Z (HM _ (o.out.alloc _)) fun w3 u=>?_
 have h:Ext w2 w3:=((Ext.refl _).alloc _).trans u;have ae:=xQ (o.out.trans h);have f:=xQ (ag.out.ext h);have m:=xQ (aY z h);clear o l d ag z;have ab:=xQ (show Blk w3 w2 TH3 #[aA,aB,.slice (some ⟨g,0,none⟩) xs c2] by have:=(Blk.new w2 TH3 #[aA,aB,.slice (some ⟨g,0,none⟩) xs c2]).ext u;simpa using this);clear h x y u;obtain⟨v0,v1,v2⟩:=ab.out.tri;obtain⟨z0,al,z1,am,z2,an⟩:=f.out.trif;go_wp2;have y4:=((f.out.set 0 (I aA)).set 1 (I aB)).set 2 (.slice (some ⟨g,0,none⟩) xs c2);simp only[aKe,aKf,aKc]at y4;generalize s:World.setCell _ _ _=w4;rw[s]at y4;have r:ExtR (w.heap.size+1+1) w3 w4:=by rw[←s];exact(((ExtR.refl (w.heap.size+1+1) w3).setCell (p:=⟨w.heap.size+1+1,0,none⟩) (.inl rfl) (I aA)).setCell (p:=⟨w.heap.size+1+1,1,none⟩) (.inl rfl) (I aB)).setCell (p:=⟨w.heap.size+1+1,2,none⟩) (.inl rfl) (.slice (some ⟨g,0,none⟩) xs c2)
 clear s;have aj:=xQ (ExtR.new ae r (by omega));have ak:=xQ (y4);have ai:=xQ (m.out.kept r (.inr (cV m f.out (by decide))));clear ae f m ab r y4 v0 v1 v2 z0 al z1 am z2 an;obtain⟨y0,y1,y2⟩:=ak.out.tri;exact bodyPost_ret (v:= .tuple #[.agg #[aA,aB,.slice (some ⟨g,0,none⟩) xs c2],.bool false]) (by simp[results,results61,go_sem, *]) rfl (dP (by simp) (bF (by exact ai.out) (by omega)) aj.out)
theorem aAa (aA aB:Int)(c i j b a:Nat)(x yj:Int)(xs:List Int)(w:World)(bq:4≤xs.length)(hn:xs.length≤12)(hi:i<xs.length)(hj:j<xs.length)(bp:i≠j)(HX:Hid (xs[i]? =some x)) (HY:Hid (xs[j]? =some yj))
  (hb:b<w.heap.size) (bd:Hid (w.cell? ⟨b,a+i,none⟩=some (I x)))
  (HV:xB 29 #[aH aA aB (some ⟨b,a,none⟩) xs.length c] w true)
  (HC:Hid (∀w',Ext w w'→U 54 #[aH aA aB (some ⟨b,a,none⟩) xs.length c] w' (cP aA aB xs w')))
  (HM:xB 99 #[aH aA aB (some ⟨b,a,none⟩) xs.length c,dH (i:Int) (j:Int)] w true):
  U 61 #[aH aA aB (some ⟨b,a,none⟩) xs.length c,dH (i:Int) (j:Int)] w (cG aA aB ((xs.set j x).set i 0) true w):=by
 have a1:(0:Int)≤(i:Int):=by omega
 have a2:(0:Int)≤(j:Int):=by omega
 have a3:(i:Int)<(xs.length:Int):=by omega
 have a4:(j:Int)<(xs.length:Int):=by omega
 go_enter func61,ntmps61;have a5:=xQ (Ext.refl w);go_wp2_with fail;refine Z (HV _ (by exact .alloc (.alloc (.alloc (.refl _) _) _) _)) fun w1 d=>?_
 have bc:Ext w w1:=((((Ext.refl _).alloc _).alloc _).alloc _).trans d;have z1:w.heap.size+3≤w1.heap.size:=by have:=d.sz;(try simp at this);omega
 have ah:=xQ (a5.out.trans bc);clear a5;have aa:=xQ (show Blk w1 w TH3 #[aA,aB,.slice (some ⟨b,a,none⟩) xs c] by have:=(((Blk.new w TH3 #[aA,aB,.slice (some ⟨b,a,none⟩) xs c]).alloc _).alloc _).ext d;simpa using this);have az:=xQ (show Blk w1 (w.heap.size+1) TSL #[i,j] by have:=((Blk.new (w.alloc (.cells #[aA,aB,.slice (some ⟨b,a,none⟩) xs c] TH3)) TSL #[i,j]).alloc _).ext d;simpa using this);have a9:=xQ (show Blk w1 (w.heap.size+1+1) TH3 #[(),(),((),())] by have:=(Blk.new ((w.alloc (.cells #[aA,aB,.slice (some ⟨b,a,none⟩) xs c] TH3)).alloc (.cells #[i,j] TSL)) TH3 #[(),(),((),())]).ext d;simpa using this);clear bc d;obtain⟨c0,c1,c2⟩:=aa.out.tri;go_wp2_with fail;clear c0 c1 c2;refine(HC _ ah.out).mono ?_;rintro e w2 ⟨q,c2,rfl,ho,an⟩;have o:Ext w1 w2:=by exact an
 have z2:w1.heap.size+0≤w2.heap.size:=by have:=an.sz;(try simp at this);omega
 have ai:=xQ (ah.out.trans o);have r:=xQ (aa.out.ext o);have m:=xQ (az.out.ext o);have ba:=xQ (a9.out.ext o);clear ah aa az a9 o;have ap:(w:Nat)<w2:=r.out.lt;have aq:w.heap.size+1<w2.heap.size:=m.out.lt;obtain⟨g,rfl,bn,bo⟩:=eA ho (by omega);have ax:=xQ (ho);clear an ho;obtain⟨c0,c1,c2⟩:=r.out.tri;have s0:=m.out.cl 0;have s1:=m.out.cl 1;go_wp2_with fail;clear c0 c1 c2 s0 s1;refine Z (HM _ (ai.out.alloc _)) fun w3 ao=>?_
 have f:Ext w2 w3:=((Ext.refl _).alloc _).trans ao;have aj:=xQ (ai.out.trans f);have aw:=xQ (r.out.ext f);have s:=xQ (m.out.ext f);have bb:=xQ (ba.out.ext f);have ay:=xQ (aY ax f);clear ai r m ba ax;have af:=xQ (show Blk w3 w2 TH3 #[aA,aB,.slice (some ⟨g,0,none⟩) xs c2] by have:=(Blk.new w2 TH3 #[aA,aB,.slice (some ⟨g,0,none⟩) xs c2]).ext ao;simpa using this);clear f ap aq ao;go_wp2;refine rL (gl [gEq (.pointer (some ⟨w2,2,none⟩)),gEq (.slice (some ⟨g,0,none⟩) xs c2),gEq (.pointer (some ⟨w.heap.size+1,1,none⟩)),gEq (j:Int),gEq (.pointer (some ⟨w,2,none⟩)),gEq (.slice (some ⟨b,a,none⟩) xs c),gEq (.pointer (some ⟨w.heap.size+1,0,none⟩)),gEq (i:Int),gEq (.pointer (some ⟨b,a+i,none⟩)),gEq x,gEq (.pointer (some ⟨g,j,none⟩))]) 11 12 [(0,some 18),(1,some 19),(2,some 20),(3,some 21),(4,some 22),(5,some 23),(6,some 24),(7,some 25),(8,some 26),(9,some 27),(10,some 28)] ?steps ?fin
 case steps=>
  refine sS0 [] ?_;refine sC [(0,some 18)] rfl (fun wi hx=> ?_) ?_
  ·intro v0 h0 K hK;obtain rfl:=h0;have B:=af.out.ext hx.of_drew;have bh:=B.cl 2;go_simp;exact hK _ _ ⟨.slice (some ⟨g,0,none⟩) xs c2,rfl,rfl,Ext.refl _⟩
  refine sS0 [] ?_;refine sC [(2,some 20)] rfl (fun wi hx=> ?_) ?_
  ·intro v2 h2 K hK;obtain rfl:=h2;have B:=s.out.ext hx.of_drew;have bm:=B.cl 1;go_simp;exact hK _ _ ⟨I j,rfl,rfl,Ext.refl _⟩
  refine sS0 [] ?_;refine sC [(4,some 22)] rfl (fun wi hx=> ?_) ?_
  ·intro v4 h4 K hK;obtain rfl:=h4;have B:=aw.out.ext hx.of_drew;have bh:=B.cl 2;go_simp;exact hK _ _ ⟨.slice (some ⟨b,a,none⟩) xs c,rfl,rfl,Ext.refl _⟩
  refine sS0 [] ?_;refine sC [(6,some 24)] rfl (fun wi hx=> ?_) ?_
  ·intro v6 h6 K hK;obtain rfl:=h6;have B:=s.out.ext hx.of_drew;have bl:=B.cl 0;go_simp;exact hK _ _ ⟨I i,rfl,rfl,Ext.refl _⟩
  refine sS2 [(5,some 23),(7,some 25)] ?_;refine sC [(8,some 26)] rfl (fun wi hx=> ?_) ?_
  ·intro v8 h8 K hK;obtain rfl:=h8;have cx:wi.cell? ⟨b,a+i,none⟩=some (I x):=(Ext.cells (aj.out.trans hx.of_drew)).1 _ _ hb |>.trans bd.out;go_simp;exact hK _ _ ⟨I x,rfl,rfl,Ext.refl _⟩
  exact sS2 [(1,some 19),(3,some 21)] StepsL.nil
 case fin=>
  intro wi hx v0 h0 v1 h1 v2 h2 v3 h3 v4 h4 v5 h5 v6 h6 v7 h7 v8 h8 v9 h9 br bi;subst h0 h1 h2 h3 h4 h5 h6 h7 h8 h9;obtain rfl:=bi;have h:=hx.of_drew;have a6:=xQ (aj.out.trans h);have ad:=xQ (s.out.ext h);have ak:=xQ (bb.out.ext h);have k:=xQ (aY ay h);have ag:=xQ (af.out.ext h);clear aj aw s bb ay af h hx;have gj:wi.cell? ⟨g,j,none⟩=some (I yj):=by have:=k.out.cellAt j (by omega);rw[this];simpa[ivs]using HY.out
  have gf:wi.frozen? ⟨g,j,none⟩=false:=k.out.frozenAt j;refine wpAny_ready (rs:= [11]) (by kernel_rfl) (by simp) ?_;refine AllReady.cons rfl (fun K hK=> ?_) AllReady.nil;go_simp;refine hK _ _ ?_;clear hK K gj gf;have y5:=(k.out.stored (j) (I x)).1;have n:ExtR (g) wi _:=(k.out.stored (j) (I x)).2;generalize bj:World.setCell _ _ _=w5 at*;clear bj;have a7:=xQ (ExtR.new a6 n (by omega));have ae:=xQ (show Blk w5 (w.heap.size+1) _ _ from(n.block _ ad.out.lt (by first|(simp;done)|(simp;omega))).trans ad.out);have u:=xQ (show Blk w5 (w.heap.size+1+1) _ _ from(n.block _ ak.out.lt (by first|(simp;done)|(simp;omega))).trans ak.out);have l:=xQ (y5);have t:=xQ (show Blk w5 w2 _ _ from(n.block _ ag.out.lt (by first|(simp;done)|(simp;omega))).trans ag.out);clear a6 ad ak k ag n y5;refine wpAny_done (by kernel_rfl) ?_ _;obtain⟨v0,v1,v2⟩:=t.out.tri;have s0:=ae.out.cl 0;have s1:=ae.out.cl 1;obtain⟨z0,ar,z1,au,z2,av⟩:=u.out.trif;have gi:w5.cell? ⟨g,i,none⟩=some (I x):=by have:=l.out.cellAt i (by omega);rw[this,aLk (by omega)];simpa[ivs]using HX.out
  have gf:w5.frozen? ⟨g,i,none⟩=false:=l.out.frozenAt i;go_upto_region 8 with fail;clear gi gf v0 v1 v2 s0 s1 z0 ar z1 au z2 av;have y6:=(l.out.stored (i) (I 0)).1;have z:ExtR (g) w5 _:=(l.out.stored (i) (I 0)).2;generalize bk:World.setCell _ _ _=w6 at*;clear bk;have a8:=xQ (ExtR.new a7 z (by omega));have y:=xQ (show Blk w6 (w.heap.size+1+1) _ _ from(z.block _ u.out.lt (by first|(simp;done)|(simp;omega))).trans u.out);have ab:=xQ (y6);have a0:=xQ (show Blk w6 w2 _ _ from(z.block _ t.out.lt (by first|(simp;done)|(simp;omega))).trans t.out);clear a7 ae u l t z y6;obtain⟨v0,v1,v2⟩:=a0.out.tri;obtain⟨z0,ar,z1,au,z2,av⟩:=y.out.trif;go_wp2;have y7:=((y.out.set 0 (I aA)).set 1 (I aB)).set 2 (.slice (some ⟨g,0,none⟩) xs c2);simp only[aKe,aKf,aKc]at y7;generalize am:World.setCell _ _ _=w7;rw[am]at y7;have al:ExtR (w.heap.size+1+1) w6 w7:=by rw[←am];exact(((ExtR.refl (w.heap.size+1+1) w6).setCell (p:=⟨w.heap.size+1+1,0,none⟩) (.inl rfl) (I aA)).setCell (p:=⟨w.heap.size+1+1,1,none⟩) (.inl rfl) (I aB)).setCell (p:=⟨w.heap.size+1+1,2,none⟩) (.inl rfl) (.slice (some ⟨g,0,none⟩) xs c2)
  clear am;have bf:=xQ (ExtR.new a8 al (by omega));have bg:=xQ (y7);have be:=xQ (ab.out.kept al (.inr (cV ab y.out (by decide))));clear a8 y ab a0 al y7 v0 v1 v2 z0 ar z1 au z2 av;obtain⟨y0,y1,y2⟩:=bg.out.tri;exact bodyPost_ret (v:= .tuple #[.agg #[aA,aB,.slice (some ⟨g,0,none⟩) xs c2],.bool true]) (by simp[results,results61,go_sem, *]) rfl (dP (by simp) (bF (by rw[←dJ,←dJ];exact be.out) (by omega)) bf.out)
def bD (aA aB:Int)(xs:List Int)(f t:Int):List Int:=if aX aA aB xs f t then(xs.set t.toNat (xs.getD f.toNat 0)).set f.toNat 0 else xs
theorem cJ (aA aB:Int)(xs:List Int)(f t:Int):(bD aA aB xs f t).length=xs.length:=by unfold bD;split<;>simp
theorem jX {aA aB:Int}{xs:List Int}{f t:Int}(h:aX aA aB xs f t=true):aN aA aB xs=true∧0≤f∧f<xs.length∧0≤t∧t<xs.length∧aU aA f t=1∧0<xs.getD f.toNat 0∧xs.getD t.toNat 0=0∧f≠t:=by unfold aX at h;simp only[aKg,decide_eq_true_eq]at h;obtain⟨⟨h1,h2⟩,h3⟩:=h;obtain⟨k1,k2,k3,k4,k5,k6⟩:=iI h1;exact⟨k1,k2,k3,k4,k5,k6,h2,h3,fun e=>by subst e;omega⟩
theorem kL (aA aB f t:Int)(p:OA)(n a:Nat)(xs:List Int)(w:World)(hS:Sl w p n a 1 (ivs xs))(c:aN aA aB xs=true):
  U 61 #[aH aA aB p n a,dH f t] w (cG aA aB (bD aA aB xs f t) (aX aA aB xs f t) w):=by
 have hl:=hS.ilen;subst hl;obtain⟨g1,g2,g3,g4,g5,g6,g7,g8,g9⟩:=bL c;have HV:=fun(w':World) (hx:Ext w w')=>fM aA aB p xs.length a xs w' (hS.ext hx)
 rw[c]at HV;have HC:=fun(w':World) (hx:Ext w w')=>eT aA aB p xs.length a xs w' (by omega) (hS.ext hx)
 have HM:=fun(w':World) (hx:Ext w w')=>aA9 aA aB f t p xs.length a xs w' (hS.ext hx)
 unfold bD;cases h:aX aA aB xs f t with
 |false=>rw[h]at HM;exact aDh aA aB p a f t xs w g5 g6 HV HC HM
 |true=>
  rw[h]at HM;obtain⟨k1,k2,k3,k4,k5,k6,k7,k8,k9⟩:=jX h;have ef:((f.toNat:Nat):Int)=f:=by omega
  have et:((t.toNat:Nat):Int)=t:=by omega
  have hx:xs[f.toNat]? =some (xs.getD f.toNat 0):=by rw[aK6,aK2 (by omega)];rfl
  have hy:xs[t.toNat]? =some (xs.getD t.toNat 0):=by rw[aK6,aK2 (by omega)];rfl
  obtain⟨b,g,x,rfl,d,hb,hc⟩:=hS.int_at (k:=f.toNat) (by omega);obtain rfl:x=xs.getD f.toNat 0:=by rw[hx]at d;injection d with e;exact e.symm
  have:=aAa aA aB a f.toNat t.toNat b g _ _ xs w g5 g6 (by omega) (by omega) (by omega) hx hy hb hc HV HC (by rw[ef,et];exact HM);rw[ef,et]at this;rw[if_pos rfl];exact this
end
end Go.Proofs.YtbgkcehffiogcaaGreatDoor
