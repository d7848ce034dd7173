/-
  Texts of this proof, packed (@packed).
-/
import Derived.Test.YtbgkcehffiogcacGreatDoorQ9
namespace Go.Proofs.YtbgkcehffiogcacGreatDoor
open Go.RowKit
set_option linter.unusedSimpArgs false
set_option linter.unusedVariables false
set_option maxHeartbeats 8000000
set_option maxRecDepth 100000
section
open Go.Proofs.Tryz
abbrev TH3:TypeId:=31
theorem Blk.cells3 {w:World}{g:Nat}{t:TypeId}{a b c:Value}(h:Blk w g t #[a,b,c]):w.cell? ⟨g,0,none⟩=some a∧w.cell? ⟨g,1,none⟩=some b∧w.cell? ⟨g,2,none⟩=some c:=⟨h.cell 0,h.cell 1,h.cell 2⟩
theorem tD {wr w2:World}{B n:Nat}{v:Value}{xs:List Value}{ob:Obj}{t e:TypeId}{sz:Nat}{cs:Array Value}(ho:wr.ownsRow (B+1) e sz v n xs)(hg:(wr.alloc ob).grownBy w2 v.ownBlock)(h:Blk wr B t cs):Blk w2 B t cs:=
 (h.alloc ob).grown hg (fun hh=>by have:=ho.lt B hh.symm;omega)
def jX (aA:Int)(n:Nat)(a:Int):List Int:=fP (fun b=>decide (aX aA a b=1)) n
theorem aM9 (aA aB a:Int)(p:OA)(n cap:Nat)(w:World)(hn:n≤12)
  (HC:Hid (∀(k:Nat),k<n→ ∀w',Ext w w'→U 143 #[aH aA aB p n cap,a,k] w' (O (I (aX aA a k)) w'))):
  U 207 #[aH aA aB p n cap,a] w (bA (jX aA n a) w):=by
 go_enter func207,ntmps207;go_wp2;go_loopw [5,6] (fun v i wr=> ∃(k:Nat) (q:OA) (m c:Nat),k≤n∧i=I k∧v= .slice q m c∧m≤k∧wr.ownsRow (w.heap.size+1) TI 1 (.slice q m c) m (ivs (fP (fun b=>decide (aX aA a b=1)) k))∧Ext w wr∧Blk wr w TH3 #[aA,aB,.slice p n cap]) (fun _ i _=>n-(intOf i).toNat)
 case atStart=>refine⟨0,_,0,0,aRv _,rfl,rfl,aRp _,?_,by exact .alloc (.alloc (.refl _) _) _,(Blk.new w _ _).alloc _⟩;have ho:((w.alloc (.cells #[aA,aB,.slice p n cap] TH3)).alloc (.cells #[] TI)).ownsRow (w.heap.size+1) TI 1 (.slice (some ⟨(w.alloc (.cells #[aA,aB,.slice p n cap] TH3)).heap.size,0,none⟩) 0 0) 0 []:=aSw _ #[] 0 (by simp) (by simp[maxLen]) rfl;simpa[fP]using ho
 case round=>
  obtain⟨k,q,m,c,hk,rfl,rfl,z,l,h,hB⟩:=hrel;have HO:=xQ l;have HB:=xQ hB;clear l hB;obtain⟨b0,b1,b2⟩:=HB.out.cells3;by_cases hlt:k<n
  ·go_wp2_with fail;refine Z (HC k hlt _ h) fun w1 h1=>?_
   have g:=xQ (aZ HO h1);have o:=xQ (HB.out.ext h1);have j:=xQ (h.trans h1);have y:(w:Nat)<w1:=o.out.lt;clear h1 b0 b1 b2 HO HB h;by_cases hx0:aX aA a k=1
   ·have t0:(aX aA a k==1)=true:=by simp[hx0]
    have d:Hid (fP (fun b=>decide (aX aA a b=1)) (k+1)=fP (fun b=>decide (aX aA a b=1)) k++ [(k:Int)]):=by show _=_;rw[fP,if_pos (by simpa using hx0)]
    clear hx0;go_wp2_with (at_builtin;refine cM fQ rfl _ _ rfl (w.heap.size+1) _ _ _ rfl (g.out.alloc _) _ _ (k:Int) _ rfl (by simp) (by omega) (by first|(simp;done)|(simp;omega)) ?_;intro p' s w2 f r;have u:=xQ f;have x:Ext w w2:=Ext.own (j.out.alloc _) (g.out.alloc _) r (by omega);have t:=xQ (tD g r o.out);clear f r);go_roundw
    case rel=>exact⟨k+1,p',m+1,s,by omega,by go_num,rfl,by omega,by rw[d.out];exact u.out,x,t.out⟩
    case measure=>simp[intOf];omega
   have t0:(aX aA a k==1)=false:=by simp[hx0]
   have d:Hid (fP (fun b=>decide (aX aA a b=1)) (k+1)=fP (fun b=>decide (aX aA a b=1)) k):=by show _=_;rw[fP,if_neg (by simpa using hx0),aSe]
   clear hx0;go_wp2;go_roundw
   case rel=>exact⟨k+1,q,m,c,by omega,by go_num,rfl,by omega,by rw[d.out];exact g.out,j.out,o.out⟩
   case measure=>simp[intOf];omega
  have d:Hid (fP (fun b=>decide (aX aA a b=1)) k=jX aA n a):=by show _=_;unfold jX;rw[show k=n by omega]
  go_wp2;go_ret;exact dG (by rw[←d.out];have:=HO.out.1;simpa using this) (by rw[←d.out];exact bJ HO (Nat.le_succ _)) h
theorem aG8 (aA aB a:Int)(p:OA)(n cap:Nat)(xs:List Int)(w:World)(hS:Sl w p n cap 1 (ivs xs))(b:aO aA aB xs=true)(h0:0≤a)(h1:a<n):
  U 207 #[aH aA aB p n cap,a] w (bA (jX aA n a) w):=by
 have hl:=hS.ilen;obtain⟨g1,g2,g3,g4,g5,g6,g7,g8,g9⟩:=bN b;refine aM9 aA aB a p n cap w (by omega) (fun k hk w' hx=> ?_);have:=aBk aA aB a k p n cap xs w' (hS.ext hx);unfold dM at this;rwa[if_pos ⟨b,by omega,by omega⟩]at this
def aAf (x:Int):Nat→List Int→Int
 |_,[]=> -1
 |b,y::ys=>if y=x then(b:Int)else aAf x (b+1) ys
def qS (xs:List Int)(x:Int):Int:=aAf x 0 xs
theorem aNn {x:Int}: ∀(xs:List Int) (k b:Nat),xs[k]? =some x→x∉xs.take k→aAf x b xs=((b+k:Nat):Int):=by
 intro xs;induction xs with
 |nil=>intro k b h;simp at h
 |cons y ys ih=>
  intro k b h hn;unfold aAf;cases k with
  |zero=>simp at h;rw[if_pos h];rfl
  |succ k=>simp only[aTl]at h;simp only[aTx,aS6,not_or]at hn;rw[if_neg (fun e=>hn.1 e.symm),ih k (b+1) h hn.2];congr 1;omega
theorem aHm {x:Int}: ∀(xs:List Int) (b:Nat),x∉xs→aAf x b xs= -1:=by
 intro xs;induction xs with
 |nil=>intro b _;rfl
 |cons y ys ih=>intro b hn;simp only[aS6,not_or]at hn;unfold aAf;rw[if_neg (fun e=>hn.1 e.symm),ih _ hn.2]
theorem sR {xs:List Int}{x:Int}{k:Nat}(h:xs[k]? =some x) (hn:x∉xs.take k):qS xs x=k:=by unfold qS;rw[aNn xs k 0 h hn];simp
theorem uC {xs:List Int}{x:Int}(h:x∉xs):qS xs x= -1:=aHm xs 0 h
def iT (aA aB:Int)(xs:List Int)(id:Int):Int:=if aO aA aB xs=true∧1≤id then qS xs id else -1
theorem yV (aA aB id:Int)(p:OA)(n cap:Nat)(b:Bool)(w:World)(hb:b=false∨b=true∧id<1)(HV:xB 48 #[aH aA aB p n cap] w b):
  U 139 #[aH aA aB p n cap,id] w (O (I (-1)) w):=by
 rcases hb with rfl|⟨rfl,hi⟩
 all_goals
  go_enter func139,ntmps139;go_wp2_with fail;refine Z (HV _ (by exact .alloc (.refl _) _)) fun w1 a=>?_
  go_wp2;go_ret;exact⟨rfl,by exact .trans (.alloc (.refl _) _) a⟩
theorem aBd (aA aB id:Int)(p:OA)(n cap:Nat)(xs:List Int)(w:World)(hn:n≤12)(hi:1≤id)(HS:Hid (Sl w p n cap 1 (ivs xs)))(HV:xB 48 #[aH aA aB p n cap] w true):
  U 139 #[aH aA aB p n cap,id] w (O (I (qS xs id)) w):=by
 have hl:=xQ HS.out.ilen;go_enter func139,ntmps139;go_wp2_with fail;refine Z (HV _ (by exact .alloc (.refl _) _)) fun w1 c=>?_
 have hB:=(Blk.new w TH3 #[aA,aB,.slice p n cap]).ext c;have X1:=xQ (show Ext w w1 by exact .trans (.alloc (.refl _) _) c);have d:=xQ (HS.out.ext X1.out);obtain⟨b0,b1,b2⟩:=hB.cells3;clear c hB HS;go_wp2;go_loop [5] (fun i=> ∃k:Nat,k≤n∧i=I k∧id∉xs.take k) (fun i=>n-(intOf i).toNat)
 case atStart=>exact⟨0,aRv _,rfl,by simp⟩
 case round=>
  obtain⟨k,hk,rfl,hc⟩:=hrel;have HC:=xQ hc;clear hc;by_cases hlt:k<n
  ·obtain⟨b,g,y,rfl,hx,hb,f⟩:=d.out.int_at hlt;have HX:=xQ hx;clear hx;by_cases hy:y=id
   ·have t1:(y==id)=true:=by simp[hy]
    have a:Hid (qS xs id=k):=sR (by rw[HX.out,hy]) HC.out;clear hy;go_wp2;go_ret;exact⟨dV a.out.symm,X1.out⟩
   have t1:(y==id)=false:=by simp[hy]
   have a:Hid (id∉xs.take (k+1)):=by show _∉_;rw[aY HX.out,aSa,aSc];exact fun h=>h.elim HC (fun e=>hy e.symm)
   clear hy;go_wp2;go_round
   case rel=>exact⟨k+1,by omega,by go_num,a.out⟩
   case measure=>simp[intOf];omega
  have a:Hid (qS xs id= -1):=uC (by have:=HC.out;rwa[aRu (by rw[hl.out];omega)]at this);go_wp2;go_ret;exact⟨dV a.out.symm,X1.out⟩
theorem tM (aA aB id:Int)(p:OA)(n cap:Nat)(xs:List Int)(w:World)(hS:Sl w p n cap 1 (ivs xs)):
  U 139 #[aH aA aB p n cap,id] w (O (I (iT aA aB xs id)) w):=by
 have hl:=hS.ilen;have HV:=fun(w':World) (hx:Ext w w')=>gJ aA aB p n cap xs w' (hS.ext hx)
 unfold iT;by_cases h:aO aA aB xs=true∧1≤id
 ·rw[if_pos h];rw[h.1]at HV;obtain⟨g1,g2,g3,g4,g5,g6,g7,g8,g9⟩:=bN h.1;exact aBd aA aB id p n cap xs w (by omega) h.2 hS HV
 rw[if_neg h]
 exact yV aA aB id p n cap _ w (by cases hh:aO aA aB xs with
  |false=>exact .inl rfl
  |true=>exact .inr ⟨rfl,by have: ¬1≤id:=fun k=>h ⟨hh,k⟩;omega⟩) HV
end
section
theorem rM {w:World}{g:Nat}{a:Array Value}{e:TypeId}(hg:w.heap[g]? =some (.cells a e (0,0))):Ext w (w.setRow g a):=
 ⟨rfl,rfl,rfl,by simp[World.setRow],fun k hk=>by
  by_cases h:k=g
  ·subst h;rw[setRow_heap w k a a e _ hg,hg]
  ·exact setRow_other w g k _ h⟩
section
variable {P:Program} (w:World)
theorem vS {t e ty:TypeId}{sz:Nat}(E:ElT P t e sz)(base g n:Nat)(cs:Array Value)(hB:Blk w g e cs)(hb:base≤g)(a:cs.size=n*sz)(p:OA)(m c:Nat)(news:List Value)(hs:Sl w p m c sz news)
  (h1: ∀u∈news,u.oneCell'=true)(hn:n+m≤1099511627776):
  ∃p' cap' w',(Builtin.append_ #[t,t] ty #[.slice (some ⟨g,0,none⟩) n n,.slice p m c]).run P w= .ok (.slice p' (n+m) cap') w'∧w'.ownsRow base e sz (.slice p' (n+m) cap') (n+m) (cs.toList++news)∧Ext w w':=by
 obtain⟨i,z,hi,hz,q,v,aa⟩:=E.info;have d:w.ownsRow base e sz (.slice (some ⟨g,0,none⟩) n n) n cs.toList:=⟨by simpa using a,.inr ⟨g,n,cs,rfl,hb,hB,aRp _,by unfold maxLen;omega,a,by rw[aRu (by simp;omega)]⟩⟩
 by_cases hm:m=0
 ·subst hm;have l:news= []:=aSb (by simpa using hs.len);subst l;cases p with
  |none=>refine⟨some ⟨g,0,none⟩,n,w,?_,by simpa using d,Ext.refl w⟩;simp[Builtin.append_,run_underlying E.ht,sizeOf,typeInfo,hi,Builtin.lenOf,Builtin.firstCells,storeCells]
  |some ad=>
   have hr:=run_append_room (P:=P) w t ty e i E.ht hi g n n cs hB ad 0 c [] (by simp) (by simp) (by simp) (by omega) (by rw[a,q];simp);have e1:(List.take (n*i.size) cs.toList++ []++List.drop (n*i.size+([]:List Value).length) cs.toList).toArray=cs:=by simp
   rw[e1]at hr;refine⟨some ⟨g,0,none⟩,n,w.setRow g cs,hr,?_,rM hB⟩;have h2:=d.kept (w':=w.setRow g cs) (row:=none) ⟨rfl,rfl,rfl,(rM hB).sz,fun k hk _=>(rM hB).block k hk⟩ (by simp[Value.ownBlock]);simpa using h2
 obtain⟨b,r,rfl,_,hc⟩:=hs.rd (by omega);have f: ∀j u,news[j]? =some u→w.cell? ((⟨b,r,none⟩:Addr).add j)=some u:=by intro j u hu;rw[mH,hc j (by rw[←hs.len];exact(aRt.1 hu).1)];exact hu
 have s:(n+m)*i.bytes≤140737488355328:=by have:(n+m)*i.bytes≤(n+m)*64:=Nat.mul_le_mul_left _ v;omega
 have o: ∀j u,cs.toList[j]? =some u→w.cell? ((⟨g,0,none⟩:Addr).add j)=some u:=d.cells (g:=g) rfl;have hr:=run_append_grow (P:=P) w t ty e i z E.ht hi hz ⟨g,0,none⟩ n n cs.toList (by simpa[q]using a) o ⟨b,r,none⟩ m c news (by rw[q];exact hs.len) f (by omega) (by omega) (growslice_fits (by omega) s);have y:=grownCap_ge w (n+m) n e;have x:grownCap w (n+m) n e≤maxLen:=grownCap_le_maxLen w (n+m) n e (by unfold maxLen;omega);have h:(cs.toList++news).length=(n+m)*sz:=by rw[aRx,hs.len,Nat.add_mul];simp[a]
 refine⟨_,_,_,hr,⟨h,.inr ⟨w.heap.size,_,_,rfl,?_,heap_alloc_new w.drew _,y,x,?_,?_⟩⟩,(Ext.refl w).drew.alloc _⟩
 ·have:=hB.lt;omega
 ·simp only[Array.size_append,List.size_toArray,size_zeroCells,aa,hs.len,a,←Nat.add_mul];congr 1;omega
 simp only[Array.toList_append,aSh];rw[←aSh,←h];exact List.take_left
theorem wG {o:Oper}{a:Act}{K:Act→World→Prop}{Q:Exit→Act→World→Prop}{t e:TypeId}{sz:Nat}(E:ElT P t e sz)(s x:Operand)
  (ho:o.op= .call {callee:= .builtin .append,args:=#[s,x],argTypes:=#[t,t]})
  (base g n:Nat)(cs:Array Value)(hs:a.eval s= .slice (some ⟨g,0,none⟩) n n)(hB:Blk w g e cs)(hb:base≤g)(d:cs.size=n*sz)
  (p:OA)(m c:Nat)(news:List Value)(hx:a.eval x= .slice p m c)(hr:Sl w p m c sz news)(h1: ∀u∈news,u.oneCell'=true)
  (hn:n+m≤1099511627776)
  (h: ∀p' cap' w',w'.ownsRow base e sz (.slice p' (n+m) cap') (n+m) (cs.toList++news)→Ext w w'→K (a.put o.dst (.slice p' (n+m) cap')) w'):o.wp P a w K Q:=by
 obtain⟨p',cap',w',b,h2,h3⟩:=vS (ty:=o.type) w E base g n cs hB hb d p m c news hr h1 hn;unfold Oper.wp execOp;simp only[ho,resolve,invoke,builtin,Sem.run_bind,Sem.run_pure,Result.andThen_ok,List.map_toArray,aTn,List.map_nil,hs,hx,b];exact h p' cap' w' h2 h3
theorem tK {b:Array Oper}{i:Nat}{o:Oper}{a:Act}{G:Nat→Value→World→Prop}{t e:TypeId}{sz:Nat}(E:ElT P t e sz)(f:o.guard=none)(s x:Operand)
  (ho:o.op= .call {callee:= .builtin .append,args:=#[s,x],argTypes:=#[t,t]})
  (base g n:Nat)(cs:Array Value)(hs:a.eval s= .slice (some ⟨g,0,none⟩) n n)(hB:Blk w g e cs)(hb:base≤g)(d:cs.size=n*sz)
  (p:OA)(m c:Nat)(news:List Value)(hx:a.eval x= .slice p m c)(hr:Sl w p m c sz news)(h1: ∀u∈news,u.oneCell'=true)
  (hn:n+m≤1099511627776)(h: ∀p' cap' w',w'.ownsRow base e sz (.slice p' (n+m) cap') (n+m) (cs.toList++news)→G i (.slice p' (n+m) cap') w'):
  pW P b G Ext i o w a:=by
 intro K hK;have hw:Region.wanted o (yielded b a.tmps)=true:=by simp[Region.wanted,f]
 rw[if_pos hw];exact wG w E s x ho base g n cs hs hB hb d p m c news hx hr h1 hn (fun p' cap' w' h2 h3=>hK _ _ ⟨_,rfl,h p' cap' w' h2,h3⟩)
end
end
section
open Go.Proofs.Tryz
theorem dN {w:World}{B n:Nat}{q:OA}{cap:Nat}{xs:List Value}{g:Nat}{t:TypeId}{cs:Array Value}(ho:w.ownsRow B TI 1 (.slice q n cap) n xs)(hb:Blk w g t cs)(ht:t≠TI):(Value.slice q n cap).ownBlock≠some g:=by
 intro he;rcases ho.2 with⟨h1,h2⟩|⟨g',cap',cur,h1,hb',hg,hn,hm,hs,ht'⟩
 ·injection h1 with e1;subst e1;simp[Value.ownBlock]at he
 injection h1 with e1 e2 e3;subst e1;simp[Value.ownBlock]at he;subst he;unfold Blk at hb;rw[hb]at hg;injection hg with e;injection e with e1 e2;exact ht e2
theorem fW (aA aB:Int)(p:OA)(n cap:Nat)(xs:List Int)(w:World)(hn:n≤1099511627776)(hS:Sl w p n cap 1 (ivs xs)):
  U 65 #[aH aA aB p n cap] w (eC aA aB xs w):=by
 have hl:=xQ hS.ilen;have HS:=xQ hS;clear hS;go_enter func65,ntmps65;go_wp2;refine rL (gl [gEq (.pointer (some ⟨w,0,none⟩)),gEq aA,gEq (.pointer (some ⟨w,1,none⟩)),gEq aB,aL5 (w.heap.size+2) TI #[] 0,gEq (.pointer (some ⟨w,2,none⟩)),gEq (.slice p n cap),(fun v w'=> ∃q c,v= .slice q n c∧w'.ownsRow (w.heap.size+2) TI 1 (.slice q n c) n (ivs xs)),(fun v w'=> ∃q c,v=aH aA aB q n c∧w'.ownsRow (w.heap.size+2) TI 1 (.slice q n c) n (ivs xs))]) 9 10 [(0,some 3),(1,some 4),(2,some 5),(3,some 6),(4,some 7),(5,some 8),(6,some 9),(7,some 10),(8,some 11)] ?steps ?fin (hG:=(lH (bC (bH _) (bC (bH _) (bC (bH _) (bC (bH _) (bC (aAi _ _ _ _) (bC (bH _) (bC (bH _) (bC (fun v w w' ⟨q,c,he,ho⟩ hx=>⟨q,c,he,aZ ho hx⟩) (bC (fun v w w' ⟨q,c,he,ho⟩ hx=>⟨q,c,he,aZ ho hx⟩) (oG))))))))))))
 case steps=>
  refine sS0 [] ?_;refine sC [(0,some 3)] rfl (fun wi hx=> ?_) ?_
  ·intro v0 h0 K hK;obtain rfl:=h0;have B:=(Blk.new w TH3 #[aA,aB,.slice p n cap]).ext (by exact .trans (.drew (.alloc (.refl _) _)) hx:Ext (w.alloc (.cells #[aA,aB,.slice p n cap] TH3)) wi);have c0:=B.cl 0;go_simp;exact hK _ _ ⟨I aA,rfl,rfl,Ext.refl _⟩
  refine sS0 [] ?_;refine sC [(2,some 5)] rfl (fun wi hx=> ?_) ?_
  ·intro v2 h2 K hK;obtain rfl:=h2;have B:=(Blk.new w TH3 #[aA,aB,.slice p n cap]).ext (by exact .trans (.drew (.alloc (.refl _) _)) hx:Ext (w.alloc (.cells #[aA,aB,.slice p n cap] TH3)) wi);have c1:=B.cl 1;go_simp;exact hK _ _ ⟨I aB,rfl,rfl,Ext.refl _⟩
  refine sC [] rfl (fun wi hx=> ?_) ?_
  ·intro K hK;go_simp;exact hK _ _ ⟨.slice (some ⟨wi,0,none⟩) 0 0,rfl,⟨wi.heap.size,rfl,by have:=hx.sz;simp at this;omega,Blk.new _ _ _⟩,(Ext.refl _).alloc _⟩
  refine sS0 [] ?_;refine sC [(5,some 8)] rfl (fun wi hx=> ?_) ?_
  ·intro v5 h5 K hK;obtain rfl:=h5;have B:=(Blk.new w TH3 #[aA,aB,.slice p n cap]).ext (by exact .trans (.drew (.alloc (.refl _) _)) hx:Ext (w.alloc (.cells #[aA,aB,.slice p n cap] TH3)) wi);have c2:=B.cl 2;go_simp;exact hK _ _ ⟨.slice p n cap,rfl,rfl,Ext.refl _⟩
  refine sC [(4,some 7),(6,some 9)] rfl (fun wi hx=> ?_) ?_
  ·intro v4 h4 v6 h6;obtain⟨g4,rfl,d,B4⟩:=h4;obtain rfl:=h6;refine tK _ fQ rfl (.tmp 7) (.tmp 9) rfl (w.heap.size+2) g4 0 #[] rfl B4 d (by simp) p n cap (ivs xs) rfl (HS.out.ext (Ext.trans (by exact .drew (.alloc (.alloc (.refl _) _) _)) hx)) (qM _) (by omega) (fun p' cap' w' h2=>⟨p',cap',by rw[aSs],by simpa using h2⟩)
  refine sC [(1,some 4),(3,some 6),(7,some 10)] rfl (fun wi hx=> ?_) StepsL.nil
  ·intro v1 h1 v3 h3 v7 h7 K hK;subst h1 h3;obtain⟨q7,c7,rfl,a⟩:=h7;go_simp;exact hK _ _ ⟨aH aA aB q7 n c7,rfl,⟨q7,c7,rfl,a⟩,Ext.refl _⟩
 case fin=>
  intro wi hx v0 h0 v1 h1 v2 h2 v3 h3 v4 h4 v5 h5 v6 h6 v7 h7 v8 h8;subst h0 h1 h2 h3;obtain⟨g4,rfl,d,B4⟩:=h4;subst h5 h6;obtain⟨q7,c7,rfl,a⟩:=h7;obtain⟨q8,c8,rfl,e⟩:=h8;have BZ:Blk wi (w.heap.size+1) TH3 #[(),(),((),())]:=by have:=(Blk.new (w.alloc (.cells #[aA,aB,.slice p n cap] TH3)) TH3 #[(),(),((),())]).ext hx.of_drew;simpa using this
  obtain⟨z0,g,z1,h,z2,i⟩:=BZ.trif;have z1:w.heap.size+1<wi.heap.size:=BZ.lt;have f:Ext w wi:=Ext.trans (by exact .drew (.alloc (.alloc (.refl _) _) _)) hx;clear a hx;refine wpAny_ready (rs:= [9]) (by kernel_rfl) (by simp) ?_;refine AllReady.cons rfl (fun K hK=> ?_) AllReady.nil;go_simp;refine hK _ _ ?_;clear hK K;refine wpAny_done (by kernel_rfl) ?_ _;go_wp2;have hY:=((BZ.set 0 (I aA)).set 1 (I aB)).set 2 (.slice q8 n c8);generalize b:World.setCell _ _ _=w3;rw[b]at hY;have hR:ExtR (w.heap.size+1) wi w3:=by rw[←b];exact(((ExtR.refl (w.heap.size+1) wi).setCell (p:=⟨w.heap.size+1,0,none⟩) (.inl rfl) _).setCell (p:=⟨w.heap.size+1,1,none⟩) (.inl rfl) _).setCell (p:=⟨w.heap.size+1,2,none⟩) (.inl rfl) _
  clear b z0 z1 z2 g h i;simp only[aS5,aS1,aS2]at hY;obtain⟨y0,y1,y2⟩:=hY.tri;exact bodyPost_ret (v:=aH aA aB q8 n c8) (by simp[results,results65,go_sem, *]) rfl (wT hl.out (bJ (e.kept hR (.inr (dN e BZ (by decide)))) (by omega)) (ExtR.new f hR (by omega)))
abbrev TSL:TypeId:=90
abbrev eI (f t:Int):Value:= .agg #[f,t]
def bF (aA aB:Int)(xs:List Int)(f t:Int):Bool:=decide (dM aA aB xs f t=1)&&decide (0<xs.getD f.toNat 0)&&decide (xs.getD t.toNat 0=0)
theorem jW {aA aB:Int}{xs:List Int}{a b:Int}(h:dM aA aB xs a b=1):aO aA aB xs=true∧0≤a∧a<xs.length∧0≤b∧b<xs.length∧aX aA a b=1:=by
 unfold dM at h;split at h
 ·rename_i hh;exact⟨hh.1,hh.2.1.1,hh.2.1.2,hh.2.2.1,hh.2.2.2,h⟩
 omega
theorem Blk.cells2 {w:World}{g:Nat}{t:TypeId}{a b:Value}(h:Blk w g t #[a,b]):w.cell? ⟨g,0,none⟩=some a∧w.cell? ⟨g,1,none⟩=some b:=⟨h.cell 0,h.cell 1⟩
theorem aJb (aA aB f t:Int)(p:OA)(n cap:Nat)(A:Int)(w:World)(hA:(A==1)=false)
  (HC:xC 143 #[aH aA aB p n cap,f,t] w fun w' e w''=>e= .returned (I A)∧Ext w' w''):
  U 109 #[aH aA aB p n cap,eI f t] w (O (.bool false) w):=by
 go_enter func109,ntmps109;go_wp2_with fail;refine Z (HC _ (by exact .alloc (.alloc (.refl _) _) _)) fun w1 a=>?_
 have B1:=xQ (show Blk w1 w TH3 #[aA,aB,.slice p n cap]from((Blk.new w TH3 #[aA,aB,.slice p n cap]).alloc _).ext a);have S1:=xQ (show Blk w1 (w.heap.size+1) TSL #[f,t] by have:=(Blk.new (w.alloc (.cells #[aA,aB,.slice p n cap] TH3)) TSL #[f,t]).ext a;simpa using this);have X1:Ext w w1:=by exact .trans (.alloc (.alloc (.refl _) _) _) a
 clear a;go_wp2;go_ret;exact⟨rfl,by exact X1⟩
theorem aLt (aA aB:Int)(p:OA)(n cap:Nat)(i j:Nat)(x y:Int)(xs:List Int)(w:World)(hn:n≤12)(hi:i<n)(hj:j<n)(HX:Hid (xs[i]? =some x)) (HY:Hid (xs[j]? =some y)) (HS:Hid (Sl w p n cap 1 (ivs xs)))
  (HC:xC 143 #[aH aA aB p n cap,i,j] w fun w' e w''=>e= .returned (I 1)∧Ext w' w''):
  U 109 #[aH aA aB p n cap,eI (i:Int) (j:Int)] w fun e w'=>e= .returned (.bool (decide (0<x)&&decide (y=0)))∧Ext w w':=by
 obtain⟨b,d,x',k,hx,hb,m⟩:=HS.out.int_at hi;obtain⟨b2,q,y',f,hy,_,o⟩:=HS.out.int_at hj;rw[k]at f;injection f with f;injection f with e1 e2;subst e1 e2;have h:=xQ k;clear k;obtain rfl:x=x':=by have:=HX.out.symm.trans hx;injection this
 obtain rfl:y=y':=by have:=HY.out.symm.trans hy;injection this
 clear hx hy;have a1:(0:Int)≤(i:Int):=by omega
 have a2:(0:Int)≤(j:Int):=by omega
 have a3:(i:Int)<(n:Int):=by omega
 have a4:(j:Int)<(n:Int):=by omega
 have g:=xQ m;have l:=xQ o;clear m o;by_cases h0:0<x
 ·have d0:decide (0<x)=true:=by simp[h0]
  by_cases h1:y=0
  ·have d1:(y==0)=true:=by simp[h1]
   have c:Hid ((decide (0<x)&&decide (y=0))=true):=by show _=_;simp[h0,h1]
   clear h1;go_enter func109,ntmps109;go_wp2_with fail;refine Z (HC _ (by exact .alloc (.alloc (.refl _) _) _)) fun w1 a=>?_
   have B1:=xQ (show Blk w1 w TH3 #[aA,aB,.slice p n cap]from((Blk.new w TH3 #[aA,aB,.slice p n cap]).alloc _).ext a);have S1:=xQ (show Blk w1 (w.heap.size+1) TSL #[i,j] by have:=(Blk.new (w.alloc (.cells #[aA,aB,.slice p n cap] TH3)) TSL #[i,j]).ext a;simpa using this);have X1:Ext w w1:=by exact .trans (.alloc (.alloc (.refl _) _) _) a
   clear a;obtain⟨c0,c1,c2⟩:=B1.out.cells3;rw[h.out]at c2;obtain⟨s0,s1⟩:=S1.out.cells2;have g1:w1.cell? ⟨b,d+i,none⟩=some (iv x):=(X1.cells.1 _ _ hb).trans g.out;have g2:w1.cell? ⟨b,d+j,none⟩=some (iv y):=(X1.cells.1 _ _ hb).trans l.out;go_wp2;go_ret;exact⟨aQ c.out.symm,by exact X1⟩
  have d1:(y==0)=false:=by simp[h1]
  have c:Hid ((decide (0<x)&&decide (y=0))=false):=by show _=_;simp[h1]
  clear h1;go_enter func109,ntmps109;go_wp2_with fail;refine Z (HC _ (by exact .alloc (.alloc (.refl _) _) _)) fun w1 a=>?_
  have B1:=xQ (show Blk w1 w TH3 #[aA,aB,.slice p n cap]from((Blk.new w TH3 #[aA,aB,.slice p n cap]).alloc _).ext a);have S1:=xQ (show Blk w1 (w.heap.size+1) TSL #[i,j] by have:=(Blk.new (w.alloc (.cells #[aA,aB,.slice p n cap] TH3)) TSL #[i,j]).ext a;simpa using this);have X1:Ext w w1:=by exact .trans (.alloc (.alloc (.refl _) _) _) a
  clear a;obtain⟨c0,c1,c2⟩:=B1.out.cells3;rw[h.out]at c2;obtain⟨s0,s1⟩:=S1.out.cells2;have g1:w1.cell? ⟨b,d+i,none⟩=some (iv x):=(X1.cells.1 _ _ hb).trans g.out;have g2:w1.cell? ⟨b,d+j,none⟩=some (iv y):=(X1.cells.1 _ _ hb).trans l.out;go_wp2;go_ret;exact⟨aQ c.out.symm,by exact X1⟩
 have d0:decide (0<x)=false:=by simp[h0]
 have c:Hid ((decide (0<x)&&decide (y=0))=false):=by show _=_;simp[h0]
 go_enter func109,ntmps109;go_wp2_with fail;refine Z (HC _ (by exact .alloc (.alloc (.refl _) _) _)) fun w1 a=>?_
 have B1:=xQ (show Blk w1 w TH3 #[aA,aB,.slice p n cap]from((Blk.new w TH3 #[aA,aB,.slice p n cap]).alloc _).ext a);have S1:=xQ (show Blk w1 (w.heap.size+1) TSL #[i,j] by have:=(Blk.new (w.alloc (.cells #[aA,aB,.slice p n cap] TH3)) TSL #[i,j]).ext a;simpa using this);have X1:Ext w w1:=by exact .trans (.alloc (.alloc (.refl _) _) _) a
 clear a;obtain⟨c0,c1,c2⟩:=B1.out.cells3;rw[h.out]at c2;obtain⟨s0,s1⟩:=S1.out.cells2;have g1:w1.cell? ⟨b,d+i,none⟩=some (iv x):=(X1.cells.1 _ _ hb).trans g.out;go_wp2;go_ret;exact⟨aQ c.out.symm,by exact X1⟩
theorem aLu (aA aB f t:Int)(p:OA)(n cap:Nat)(xs:List Int)(w:World)(hS:Sl w p n cap 1 (ivs xs)):
  U 109 #[aH aA aB p n cap,eI f t] w (O (.bool (bF aA aB xs f t)) w):=by
 have hl:=hS.ilen;have HC:=fun(w':World) (hx:Ext w w')=>aBk aA aB f t p n cap xs w' (hS.ext hx)
 unfold bF;by_cases h:dM aA aB xs f t=1
 ·obtain⟨k1,k2,k3,k4,k5,k6⟩:=jW h;obtain⟨g1,g2,g3,g4,g5,g6,g7,g8,g9⟩:=bN k1;rw[h]at HC;have hx:xs[f.toNat]? =some (xs.getD f.toNat 0):=by rw[aRw,aRq (by omega)];rfl
  have hy:xs[t.toNat]? =some (xs.getD t.toNat 0):=by rw[aRw,aRq (by omega)];rfl
  have ef:((f.toNat:Nat):Int)=f:=by omega
  have et:((t.toNat:Nat):Int)=t:=by omega
  have:=aLt aA aB p n cap f.toNat t.toNat _ _ xs w (by omega) (by omega) (by omega) hx hy hS (by rw[ef,et];exact HC);rw[ef,et]at this;rw[decide_eq_true h,Bool.true_and];exact this
 have:=aJb aA aB f t p n cap _ w (by simpa using h) HC;rw[decide_eq_false h,Bool.false_and,Bool.false_and];exact this
def cW (aA aB:Int)(xs:List Int)(b:Bool)(w:World)(e:Ending)(w':World):Prop:=
 ∃p cap,e= .returned (.tuple #[aH aA aB p xs.length cap,.bool b])∧w'.ownsRow w.heap.size TI 1 (.slice p xs.length cap) xs.length (ivs xs)∧Ext w w'
theorem eN {aA aB:Int}{p:OA}{n cap:Nat}{xs:List Int}{b:Bool}{w w':World}(hn:xs.length=n)(ho:w'.ownsRow w TI 1 (.slice p n cap) n (ivs xs))(hx:Ext w w'):cW aA aB xs b w (.returned (.tuple #[aH aA aB p n cap,.bool b])) w':=by subst hn;exact⟨p,cap,rfl,ho,hx⟩
theorem eX {w:World}{B n sz:Nat}{e:TypeId}{q:OA}{cap:Nat}{xs:List Value}(ho:w.ownsRow B e sz (.slice q n cap) n xs)(h:0<n): ∃g,q=some ⟨g,0,none⟩∧B≤g∧g<w.heap.size:=by
 rcases ho.2 with⟨h1,h2⟩|⟨g',cap',cur,h1,hb',hg,r⟩
 ·omega
 injection h1 with e1;exact⟨g',e1,hb',(aSz.1 hg).1⟩
theorem eF (xs:List Int)(k:Nat)(x:Int):(ivs xs).set k (iv x)=ivs (xs.set k x):=by simp[ivs,List.map_set]
theorem aJc (aA aB:Int)(p:OA)(cap:Nat)(i j:Int)(xs:List Int)(w:World)(ap:4≤xs.length)(hn:xs.length≤12)
  (HV:xB 48 #[aH aA aB p xs.length cap] w true)
  (HC:Hid (∀w',Ext w w'→U 65 #[aH aA aB p xs.length cap] w' (eC aA aB xs w')))
  (HM:xB 109 #[aH aA aB p xs.length cap,eI i j] w false):
  U 62 #[aH aA aB p xs.length cap,eI i j] w (cW aA aB xs false w):=by
 go_enter func62,ntmps62;have ab:=xQ (Ext.refl w);go_wp2_with fail;refine Z (HV _ (by exact .alloc (.alloc (.alloc (.refl _) _) _) _)) fun w1 a=>?_
 have ag:Ext w w1:=((((Ext.refl _).alloc _).alloc _).alloc _).trans a;have z1:w.heap.size+3≤w1.heap.size:=by have:=a.sz;(try simp at this);omega
 have m:=xQ (ab.out.trans ag);clear ab;have h:=xQ (show Blk w1 w TH3 #[aA,aB,.slice p xs cap] by have:=(((Blk.new w TH3 #[aA,aB,.slice p xs cap]).alloc _).alloc _).ext a;simpa using this);have z:=xQ (show Blk w1 (w.heap.size+1) TSL #[i,j] by have:=((Blk.new (w.alloc (.cells #[aA,aB,.slice p xs cap] TH3)) TSL #[i,j]).alloc _).ext a;simpa using this);have ae:=xQ (show Blk w1 (w.heap.size+1+1) TH3 #[(),(),((),())] by have:=(Blk.new ((w.alloc (.cells #[aA,aB,.slice p xs cap] TH3)).alloc (.cells #[i,j] TSL)) TH3 #[(),(),((),())]).ext a;simpa using this);clear ag a;obtain⟨c0,c1,c2⟩:=h.out.tri;go_wp2_with fail;clear c0 c1 c2;refine(HC _ m.out).mono ?_;rintro e w2 ⟨q,c2,rfl,ho,s⟩;have b:Ext w1 w2:=by exact s
 have z2:w1.heap.size+0≤w2.heap.size:=by have:=s.sz;(try simp at this);omega
 have n:=xQ (m.out.trans b);have k:=xQ (h.out.ext b);have c:=xQ (z.out.ext b);have af:=xQ (ae.out.ext b);clear m h z ae b;have u:(w:Nat)<w2:=k.out.lt;have x:w.heap.size+1<w2.heap.size:=c.out.lt;obtain⟨g,rfl,an,ao⟩:=eX ho (by omega);have y:=xQ (ho);clear s ho;obtain⟨c0,c1,c2⟩:=k.out.tri;have s0:=c.out.cl 0;have s1:=c.out.cl 1;go_wp2_with fail;clear c0 c1 c2 s0 s1;refine Z (HM _ (n.out.alloc _)) fun w3 t=>?_
 have f:Ext w2 w3:=((Ext.refl _).alloc _).trans t;have ad:=xQ (n.out.trans f);have d:=xQ (af.out.ext f);have l:=xQ (aZ y f);clear n k c af y;have aa:=xQ (show Blk w3 w2 TH3 #[aA,aB,.slice (some ⟨g,0,none⟩) xs c2] by have:=(Blk.new w2 TH3 #[aA,aB,.slice (some ⟨g,0,none⟩) xs c2]).ext t;simpa using this);clear f u x t;obtain⟨v0,v1,v2⟩:=aa.out.tri;obtain⟨z0,ak,z1,al,z2,am⟩:=d.out.trif;go_wp2;have y4:=((d.out.set 0 (I aA)).set 1 (I aB)).set 2 (.slice (some ⟨g,0,none⟩) xs c2);simp only[aS5,aS1,aS2]at y4;generalize r:World.setCell _ _ _=w4;rw[r]at y4;have o:ExtR (w.heap.size+1+1) w3 w4:=by rw[←r];exact(((ExtR.refl (w.heap.size+1+1) w3).setCell (p:=⟨w.heap.size+1+1,0,none⟩) (.inl rfl) (I aA)).setCell (p:=⟨w.heap.size+1+1,1,none⟩) (.inl rfl) (I aB)).setCell (p:=⟨w.heap.size+1+1,2,none⟩) (.inl rfl) (.slice (some ⟨g,0,none⟩) xs c2)
 clear r;have ai:=xQ (ExtR.new ad o (by omega));have aj:=xQ (y4);have ah:=xQ (l.out.kept o (.inr (dN l d.out (by decide))));clear ad d l aa o y4 v0 v1 v2 z0 ak z1 al z2 am;obtain⟨y0,y1,y2⟩:=aj.out.tri;exact bodyPost_ret (v:= .tuple #[.agg #[aA,aB,.slice (some ⟨g,0,none⟩) xs c2],.bool false]) (by simp[results,results62,go_sem, *]) rfl (eN (by simp) (bJ (by exact ah.out) (by omega)) ai.out)
theorem aFp (aA aB:Int)(cap i j b a:Nat)(x yj:Int)(xs:List Int)(w:World)(bp:4≤xs.length)(hn:xs.length≤12)(hi:i<xs.length)(hj:j<xs.length)(bo:i≠j)(HX:Hid (xs[i]? =some x)) (HY:Hid (xs[j]? =some yj))
  (hb:b<w.heap.size) (bc:Hid (w.cell? ⟨b,a+i,none⟩=some (I x)))
  (HV:xB 48 #[aH aA aB (some ⟨b,a,none⟩) xs.length cap] w true)
  (HC:Hid (∀w',Ext w w'→U 65 #[aH aA aB (some ⟨b,a,none⟩) xs.length cap] w' (eC aA aB xs w')))
  (HM:xB 109 #[aH aA aB (some ⟨b,a,none⟩) xs.length cap,eI (i:Int) (j:Int)] w true):
  U 62 #[aH aA aB (some ⟨b,a,none⟩) xs.length cap,eI (i:Int) (j:Int)] w (cW aA aB ((xs.set j x).set i 0) true w):=by
 have a1:(0:Int)≤(i:Int):=by omega
 have a2:(0:Int)≤(j:Int):=by omega
 have a3:(i:Int)<(xs.length:Int):=by omega
 have a4:(j:Int)<(xs.length:Int):=by omega
 go_enter func62,ntmps62;have a0:=xQ (Ext.refl w);go_wp2_with fail;refine Z (HV _ (by exact .alloc (.alloc (.alloc (.refl _) _) _) _)) fun w1 c=>?_
 have bb:Ext w w1:=((((Ext.refl _).alloc _).alloc _).alloc _).trans c;have z1:w.heap.size+3≤w1.heap.size:=by have:=c.sz;(try simp at this);omega
 have ag:=xQ (a0.out.trans bb);clear a0;have z:=xQ (show Blk w1 w TH3 #[aA,aB,.slice (some ⟨b,a,none⟩) xs cap] by have:=(((Blk.new w TH3 #[aA,aB,.slice (some ⟨b,a,none⟩) xs cap]).alloc _).alloc _).ext c;simpa using this);have ay:=xQ (show Blk w1 (w.heap.size+1) TSL #[i,j] by have:=((Blk.new (w.alloc (.cells #[aA,aB,.slice (some ⟨b,a,none⟩) xs cap] TH3)) TSL #[i,j]).alloc _).ext c;simpa using this);have a8:=xQ (show Blk w1 (w.heap.size+1+1) TH3 #[(),(),((),())] by have:=(Blk.new ((w.alloc (.cells #[aA,aB,.slice (some ⟨b,a,none⟩) xs cap] TH3)).alloc (.cells #[i,j] TSL)) TH3 #[(),(),((),())]).ext c;simpa using this);clear bb c;obtain⟨c0,c1,c2⟩:=z.out.tri;go_wp2_with fail;clear c0 c1 c2;refine(HC _ ag.out).mono ?_;rintro e w2 ⟨q,c2,rfl,ho,am⟩;have n:Ext w1 w2:=by exact am
 have z2:w1.heap.size+0≤w2.heap.size:=by have:=am.sz;(try simp at this);omega
 have ah:=xQ (ag.out.trans n);have o:=xQ (z.out.ext n);have l:=xQ (ay.out.ext n);have a9:=xQ (a8.out.ext n);clear ag z ay a8 n;have ao:(w:Nat)<w2:=o.out.lt;have ap:w.heap.size+1<w2.heap.size:=l.out.lt;obtain⟨g,rfl,bm,bn⟩:=eX ho (by omega);have aw:=xQ (ho);clear am ho;obtain⟨c0,c1,c2⟩:=o.out.tri;have s0:=l.out.cl 0;have s1:=l.out.cl 1;go_wp2_with fail;clear c0 c1 c2 s0 s1;refine Z (HM _ (ah.out.alloc _)) fun w3 an=>?_
 have d:Ext w2 w3:=((Ext.refl _).alloc _).trans an;have ai:=xQ (ah.out.trans d);have av:=xQ (o.out.ext d);have r:=xQ (l.out.ext d);have ba:=xQ (a9.out.ext d);have ax:=xQ (aZ aw d);clear ah o l a9 aw;have ae:=xQ (show Blk w3 w2 TH3 #[aA,aB,.slice (some ⟨g,0,none⟩) xs c2] by have:=(Blk.new w2 TH3 #[aA,aB,.slice (some ⟨g,0,none⟩) xs c2]).ext an;simpa using this);clear d ao ap an;go_wp2;refine rL (gl [gEq (.pointer (some ⟨w2,2,none⟩)),gEq (.slice (some ⟨g,0,none⟩) xs c2),gEq (.pointer (some ⟨w.heap.size+1,1,none⟩)),gEq (j:Int),gEq (.pointer (some ⟨w,2,none⟩)),gEq (.slice (some ⟨b,a,none⟩) xs cap),gEq (.pointer (some ⟨w.heap.size+1,0,none⟩)),gEq (i:Int),gEq (.pointer (some ⟨b,a+i,none⟩)),gEq x,gEq (.pointer (some ⟨g,j,none⟩))]) 11 12 [(0,some 18),(1,some 19),(2,some 20),(3,some 21),(4,some 22),(5,some 23),(6,some 24),(7,some 25),(8,some 26),(9,some 27),(10,some 28)] ?steps ?fin
 case steps=>
  refine sS0 [] ?_;refine sC [(0,some 18)] rfl (fun wi hx=> ?_) ?_
  ·intro v0 h0 K hK;obtain rfl:=h0;have B:=ae.out.ext hx.of_drew;have bg:=B.cl 2;go_simp;exact hK _ _ ⟨.slice (some ⟨g,0,none⟩) xs c2,rfl,rfl,Ext.refl _⟩
  refine sS0 [] ?_;refine sC [(2,some 20)] rfl (fun wi hx=> ?_) ?_
  ·intro v2 h2 K hK;obtain rfl:=h2;have B:=r.out.ext hx.of_drew;have bl:=B.cl 1;go_simp;exact hK _ _ ⟨I j,rfl,rfl,Ext.refl _⟩
  refine sS0 [] ?_;refine sC [(4,some 22)] rfl (fun wi hx=> ?_) ?_
  ·intro v4 h4 K hK;obtain rfl:=h4;have B:=av.out.ext hx.of_drew;have bg:=B.cl 2;go_simp;exact hK _ _ ⟨.slice (some ⟨b,a,none⟩) xs cap,rfl,rfl,Ext.refl _⟩
  refine sS0 [] ?_;refine sC [(6,some 24)] rfl (fun wi hx=> ?_) ?_
  ·intro v6 h6 K hK;obtain rfl:=h6;have B:=r.out.ext hx.of_drew;have bk:=B.cl 0;go_simp;exact hK _ _ ⟨I i,rfl,rfl,Ext.refl _⟩
  refine sS2 [(5,some 23),(7,some 25)] ?_;refine sC [(8,some 26)] rfl (fun wi hx=> ?_) ?_
  ·intro v8 h8 K hK;obtain rfl:=h8;have cx:wi.cell? ⟨b,a+i,none⟩=some (I x):=(Ext.cells (ai.out.trans hx.of_drew)).1 _ _ hb |>.trans bc.out;go_simp;exact hK _ _ ⟨I x,rfl,rfl,Ext.refl _⟩
  exact sS2 [(1,some 19),(3,some 21)] StepsL.nil
 case fin=>
  intro wi hx v0 h0 v1 h1 v2 h2 v3 h3 v4 h4 v5 h5 v6 h6 v7 h7 v8 h8 v9 h9 bq bh;subst h0 h1 h2 h3 h4 h5 h6 h7 h8 h9;obtain rfl:=bh;have f:=hx.of_drew;have a5:=xQ (ai.out.trans f);have ab:=xQ (r.out.ext f);have aj:=xQ (ba.out.ext f);have h:=xQ (aZ ax f);have af:=xQ (ae.out.ext f);clear ai av r ba ax ae f hx;have gj:wi.cell? ⟨g,j,none⟩=some (I yj):=by have:=h.out.cellAt j (by omega);rw[this];simpa[ivs]using HY.out
  have gf:wi.frozen? ⟨g,j,none⟩=false:=h.out.frozenAt j;refine wpAny_ready (rs:= [11]) (by kernel_rfl) (by simp) ?_;refine AllReady.cons rfl (fun K hK=> ?_) AllReady.nil;go_simp;refine hK _ _ ?_;clear hK K gj gf;have y5:=(h.out.stored (j) (I x)).1;have m:ExtR (g) wi _:=(h.out.stored (j) (I x)).2;generalize bi:World.setCell _ _ _=w5 at*;clear bi;have a6:=xQ (ExtR.new a5 m (by omega));have ad:=xQ (show Blk w5 (w.heap.size+1) _ _ from(m.block _ ab.out.lt (by first|(simp;done)|(simp;omega))).trans ab.out);have t:=xQ (show Blk w5 (w.heap.size+1+1) _ _ from(m.block _ aj.out.lt (by first|(simp;done)|(simp;omega))).trans aj.out);have k:=xQ (y5);have s:=xQ (show Blk w5 w2 _ _ from(m.block _ af.out.lt (by first|(simp;done)|(simp;omega))).trans af.out);clear a5 ab aj h af m y5;refine wpAny_done (by kernel_rfl) ?_ _;obtain⟨v0,v1,v2⟩:=s.out.tri;have s0:=ad.out.cl 0;have s1:=ad.out.cl 1;obtain⟨z0,aq,z1,ar,z2,au⟩:=t.out.trif;have gi:w5.cell? ⟨g,i,none⟩=some (I x):=by have:=k.out.cellAt i (by omega);rw[this,aTm (by omega)];simpa[ivs]using HX.out
  have gf:w5.frozen? ⟨g,i,none⟩=false:=k.out.frozenAt i;go_upto_region 8 with fail;clear gi gf v0 v1 v2 s0 s1 z0 aq z1 ar z2 au;have y6:=(k.out.stored (i) (I 0)).1;have y:ExtR (g) w5 _:=(k.out.stored (i) (I 0)).2;generalize bj:World.setCell _ _ _=w6 at*;clear bj;have a7:=xQ (ExtR.new a6 y (by omega));have u:=xQ (show Blk w6 (w.heap.size+1+1) _ _ from(y.block _ t.out.lt (by first|(simp;done)|(simp;omega))).trans t.out);have aa:=xQ (y6);have az:=xQ (show Blk w6 w2 _ _ from(y.block _ s.out.lt (by first|(simp;done)|(simp;omega))).trans s.out);clear a6 ad t k s y y6;obtain⟨v0,v1,v2⟩:=az.out.tri;obtain⟨z0,aq,z1,ar,z2,au⟩:=u.out.trif;go_wp2;have y7:=((u.out.set 0 (I aA)).set 1 (I aB)).set 2 (.slice (some ⟨g,0,none⟩) xs c2);simp only[aS5,aS1,aS2]at y7;generalize al:World.setCell _ _ _=w7;rw[al]at y7;have ak:ExtR (w.heap.size+1+1) w6 w7:=by rw[←al];exact(((ExtR.refl (w.heap.size+1+1) w6).setCell (p:=⟨w.heap.size+1+1,0,none⟩) (.inl rfl) (I aA)).setCell (p:=⟨w.heap.size+1+1,1,none⟩) (.inl rfl) (I aB)).setCell (p:=⟨w.heap.size+1+1,2,none⟩) (.inl rfl) (.slice (some ⟨g,0,none⟩) xs c2)
  clear al;have be:=xQ (ExtR.new a7 ak (by omega));have bf:=xQ (y7);have bd:=xQ (aa.out.kept ak (.inr (dN aa u.out (by decide))));clear a7 u aa az ak y7 v0 v1 v2 z0 aq z1 ar z2 au;obtain⟨y0,y1,y2⟩:=bf.out.tri;exact bodyPost_ret (v:= .tuple #[.agg #[aA,aB,.slice (some ⟨g,0,none⟩) xs c2],.bool true]) (by simp[results,results62,go_sem, *]) rfl (eN (by simp) (bJ (by rw[←eF,←eF];exact bd.out) (by omega)) be.out)
def bI (aA aB:Int)(xs:List Int)(f t:Int):List Int:=if bF aA aB xs f t then(xs.set t.toNat (xs.getD f.toNat 0)).set f.toNat 0 else xs
theorem dB (aA aB:Int)(xs:List Int)(f t:Int):(bI aA aB xs f t).length=xs.length:=by unfold bI;split<;>simp
theorem lV {aA aB:Int}{xs:List Int}{f t:Int}(h:bF aA aB xs f t=true):aO aA aB xs=true∧0≤f∧f<xs.length∧0≤t∧t<xs.length∧aX aA f t=1∧0<xs.getD f.toNat 0∧xs.getD t.toNat 0=0∧f≠t:=by unfold bF at h;simp only[aRy,decide_eq_true_eq]at h;obtain⟨⟨h1,h2⟩,h3⟩:=h;obtain⟨k1,k2,k3,k4,k5,k6⟩:=jW h1;exact⟨k1,k2,k3,k4,k5,k6,h2,h3,fun e=>by subst e;omega⟩
theorem mK (aA aB f t:Int)(p:OA)(n cap:Nat)(xs:List Int)(w:World)(hS:Sl w p n cap 1 (ivs xs))(a:aO aA aB xs=true):
  U 62 #[aH aA aB p n cap,eI f t] w (cW aA aB (bI aA aB xs f t) (bF aA aB xs f t) w):=by
 have hl:=hS.ilen;subst hl;obtain⟨g1,g2,g3,g4,g5,g6,g7,g8,g9⟩:=bN a;have HV:=fun(w':World) (hx:Ext w w')=>gJ aA aB p xs.length cap xs w' (hS.ext hx)
 rw[a]at HV;have HC:=fun(w':World) (hx:Ext w w')=>fW aA aB p xs.length cap xs w' (by omega) (hS.ext hx)
 have HM:=fun(w':World) (hx:Ext w w')=>aLu aA aB f t p xs.length cap xs w' (hS.ext hx)
 unfold bI;cases h:bF aA aB xs f t with
 |false=>rw[h]at HM;exact aJc aA aB p cap f t xs w g5 g6 HV HC HM
 |true=>
  rw[h]at HM;obtain⟨k1,k2,k3,k4,k5,k6,k7,k8,k9⟩:=lV h;have ef:((f.toNat:Nat):Int)=f:=by omega
  have et:((t.toNat:Nat):Int)=t:=by omega
  have hx:xs[f.toNat]? =some (xs.getD f.toNat 0):=by rw[aRw,aRq (by omega)];rfl
  have hy:xs[t.toNat]? =some (xs.getD t.toNat 0):=by rw[aRw,aRq (by omega)];rfl
  obtain⟨b,d,x,rfl,c,hb,hc⟩:=hS.int_at (k:=f.toNat) (by omega);obtain rfl:x=xs.getD f.toNat 0:=by rw[hx]at c;injection c with e;exact e.symm
  have:=aFp aA aB cap f.toNat t.toNat b d _ _ xs w g5 g6 (by omega) (by omega) (by omega) hx hy hb hc HV HC (by rw[ef,et];exact HM);rw[ef,et]at this;rw[if_pos rfl];exact this
end
end Go.Proofs.YtbgkcehffiogcacGreatDoor
