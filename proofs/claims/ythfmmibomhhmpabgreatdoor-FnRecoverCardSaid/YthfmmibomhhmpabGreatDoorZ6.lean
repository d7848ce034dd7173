/- Lemmas (@packed). -/
import Derived.Test.YthfmmibomhhmpabGreatDoorZ5
namespace Go.Proofs.YthfmmibomhhmpabGreatDoor
open Go.RowKit Go.Proofs.Tryz
set_option linter.all false
set_option maxHeartbeats 8000000
set_option maxRecDepth 100000
variable{g B sz:Nat}{q:OA}{e:TypeId}{w':World}(aA aB id:Int)(b:Nat)(f t:Int)(p:OA)(n a d c i j:Nat)(x:Int)(xs:List Int)(w:World)
abbrev TH3:TypeId:=27
theorem Blk.cells3 {w:World}{t:TypeId}{a b c:Value}(h:Blk w g t #[a,b,c]):w.cell? ⟨g,0,none⟩=some a∧w.cell? ⟨g,1,none⟩=some b∧w.cell? ⟨g,2,none⟩=some c:=⟨h.cell 0,h.cell 1,h.cell 2⟩
theorem uL {wr w2:World}{n:Nat}{v:Value}{xs:List Value}{ob:Obj}{t:TypeId}{cs:Array Value}(ho:wr.ownsRow (B+1) e sz v n xs)(hg:(wr.alloc ob).grownBy w2 v.ownBlock)(h:Blk wr B t cs):Blk w2 B t cs:=
 (h.alloc ob).grown hg (fun hh=>by have:=ho.lt B hh.symm;omega)
def lT (aA:Int)(n:Nat)(a:Int):List Int:=iV (fun b=>decide (bE aA a b=1)) n
theorem aQl (a:Int)(p:OA)(n f:Nat)(w:World)(hn:n≤12)(HC:Hid (∀(k:Nat),k<n→ ∀w',Ext w w'→U 170 #[aH aA aB p n f,a,k] w' (Z (I (bE aA a k)) w'))):
  U 217 #[aH aA aB p n f,a] w (cC (lT aA n a) w):=by
 go_enter func217,ntmps217;go_wp2;go_loopw [5,6] (fun v i wr=> ∃(k:Nat) (q:OA) (m c:Nat),k≤n∧i=I k∧v= .slice q m c∧m≤k∧wr.ownsRow (w.heap.size+1) TI 1 (.slice q m c) m (ivs (iV (fun b=>decide (bE aA a b=1)) k))∧Ext w wr∧Blk wr w TH3 #[aA,aB,.slice p n f]) (fun _ i _=>n-(intOf i).toNat)
 case atStart=>refine⟨0,_,0,0,aW6 _,rfl,rfl,aVz _,?_,by exact .alloc (.alloc (.refl _) _) _,(Blk.new w _ _).alloc _⟩;have ho:((w.alloc (.cells #[aA,aB,.slice p n f] TH3)).alloc (.cells #[] TI)).ownsRow (w.heap.size+1) TI 1 (.slice (some ⟨(w.alloc (.cells #[aA,aB,.slice p n f] TH3)).heap.size,0,none⟩) 0 0) 0 []:=aX7 _ #[] 0 (by simp) (by simp[maxLen]) rfl;simpa[iV]using ho
 case round=>
  obtain⟨k,q,m,c,hk,rfl,rfl,aa,t,o,hB⟩:=hrel;have HO:=xQ t;have HB:=xQ hB;obtain⟨b0,b1,b2⟩:=HB.out.cells3;by_cases hlt:k<n
  ·go_wp2_with fail;refine Ω (HC k hlt _ o) fun w1 h1=>?_
   have h:=xQ (aM HO h1);have l:=xQ (HB.out.ext h1);have j:=xQ (o.trans h1);have z:(w:Nat)<w1:=l.out.lt;by_cases hx0:bE aA a k=1
   ·have t0:(bE aA a k==1)=true:=by simp[hx0]
    have d:Hid (iV (fun b=>decide (bE aA a b=1)) (k+1)=iV (fun b=>decide (bE aA a b=1)) k++ [(k:Int)]):=by show _=_;rw[iV,if_pos (by simpa using hx0)]
    go_wp2_with (at_builtin;refine dB iA rfl _ _ rfl (w.heap.size+1) _ _ _ rfl (h.out.alloc _) _ _ (k:Int) _ rfl (by simp) (by omega) (by first|(simp;done)|(simp;omega)) ?_;intro p' s w2 g r;have x:=xQ g;have y:Ext w w2:=Ext.own (j.out.alloc _) (h.out.alloc _) r (by omega);have u:=xQ (uL h r l.out);clear g r);go_roundw
    case rel=>exact⟨k+1,p',m+1,s,by omega,by go_num,rfl,by omega,by rw[d.out];exact x.out,y,u.out⟩
    case measure=>simp[intOf];omega
   have t0:(bE aA a k==1)=false:=by simp[hx0]
   have d:Hid (iV (fun b=>decide (bE aA a b=1)) (k+1)=iV (fun b=>decide (bE aA a b=1)) k):=by show _=_;rw[iV,if_neg (by simpa using hx0),aWr]
   go_wp2;go_roundw
   case rel=>exact⟨k+1,q,m,c,by omega,by go_num,rfl,by omega,by rw[d.out];exact h.out,j.out,l.out⟩
   case measure=>simp[intOf];omega
  have d:Hid (iV (fun b=>decide (bE aA a b=1)) k=lT aA n a):=by show _=_;unfold lT;rw[show k=n by omega]
  go_wp2;go_ret;exact fE (by rw[←d.out];have:=HO.out.1;simpa using this) (by rw[←d.out];exact bF HO (Nat.le_succ _)) o
theorem aKm (a:Int)(p:OA)(n b:Nat)(xs:List Int)(w:World)(hS:Sl w p n b 1 (ivs xs))(c:aO aA aB xs=true)(h0:0≤a)(h1:a<n):
  U 217 #[aH aA aB p n b,a] w (cC (lT aA n a) w):=by
 have hl:=hS.ilen;obtain⟨g1,g2,g3,g4,g5,g6,g7,g8,g9⟩:=bS c;refine aQl aA aB a p n b w (by omega) (fun k hk w' hx=> ?_);have:=aFq aA aB a k p n b xs w' (hS.ext hx);unfold eG at this;rwa[if_pos ⟨c,by omega,by omega⟩]at this
def aEq (x:Int):Nat→List Int→Int
 |_,[]=> -1
 |b,y::ys=>if y=x then(b:Int)else aEq x (b+1) ys
def uS (xs:List Int)(x:Int):Int:=aEq x 0 xs
theorem aS6 {x:Int}: ∀(xs:List Int) (k b:Nat),xs[k]? =some x→x∉xs.take k→aEq x b xs=((b+k:Nat):Int):=by
 intro xs;induction xs with
 |nil=>intro k b h;simp at h
 |cons y ys ih=>
  intro k b h hn;unfold aEq;cases k with
  |zero=>simp at h;rw[if_pos h];rfl
  |succ k=>simp only[aYd]at h;simp only[aYh,aWd,not_or]at hn;rw[if_neg (fun e=>hn.1 e.symm),ih k (b+1) h hn.2];congr 1;omega
theorem aLy {x:Int}: ∀(xs:List Int) (b:Nat),x∉xs→aEq x b xs= -1:=by
 intro xs;induction xs with
 |nil=>intro b _;rfl
 |cons y ys ih=>intro b hn;simp only[aWd,not_or]at hn;unfold aEq;rw[if_neg (fun e=>hn.1 e.symm),ih _ hn.2]
theorem xL {xs:List Int}{x:Int}{k:Nat}(h:xs[k]? =some x)(hn:x∉xs.take k):uS xs x=k:=by unfold uS;rw[aS6 xs k 0 h hn];simp
theorem zA {xs:List Int}{x:Int}(h:x∉xs):uS xs x= -1:=aLy xs 0 h
def kP (aA aB:Int)(xs:List Int)(id:Int):Int:=if aO aA aB xs=true∧1≤id then uS xs id else -1
theorem aD1 (b:Bool)(w:World)(hb:b=false∨b=true∧id<1)(HV:xB 30 #[aH aA aB p n a] w b):
  U 167 #[aH aA aB p n a,id] w (Z (I (-1)) w):=by
 rcases hb with rfl|⟨rfl,hi⟩
 all_goals
  go_enter func167,ntmps167;go_wp2_with fail;refine Ω (HV _ (by exact .alloc (.refl _) _)) fun w1 c=>?_
  go_wp2;go_ret;exact⟨rfl,by exact .trans (.alloc (.refl _) _) c⟩
theorem aFj (hn:n≤12)(hi:1≤id)(HS:Hid (Sl w p n c 1 (ivs xs)))(HV:xB 30 #[aH aA aB p n c] w true):
  U 167 #[aH aA aB p n c,id] w (Z (I (uS xs id)) w):=by
 have hl:=xQ HS.out.ilen;go_enter func167,ntmps167;go_wp2_with fail;refine Ω (HV _ (by exact .alloc (.refl _) _)) fun w1 d=>?_
 have hB:=(Blk.new w TH3 #[aA,aB,.slice p n c]).ext d;have X1:=xQ (show Ext w w1 by exact .trans (.alloc (.refl _) _) d);have f:=xQ (HS.out.ext X1.out);obtain⟨b0,b1,b2⟩:=hB.cells3;go_wp2;go_loop [5] (fun i=> ∃k:Nat,k≤n∧i=I k∧id∉xs.take k) (fun i=>n-(intOf i).toNat)
 case atStart=>exact⟨0,aW6 _,rfl,by simp⟩
 case round=>
  obtain⟨k,hk,rfl,hc⟩:=hrel;have HC:=xQ hc;by_cases hlt:k<n
  ·obtain⟨b,j,y,rfl,hx,hb,g⟩:=f.out.int_at hlt;have HX:=xQ hx;by_cases hy:y=id
   ·have t1:(y==id)=true:=by simp[hy]
    have a:Hid (uS xs id=k):=xL (by rw[HX.out,hy]) HC.out;go_wp2;go_ret;exact⟨fI a.out.symm,X1.out⟩
   have t1:(y==id)=false:=by simp[hy]
   have a:Hid (id∉xs.take (k+1)):=by show _∉_;rw[aX HX.out,aWh,aWq];exact fun h=>h.elim HC (fun e=>hy e.symm)
   go_wp2;go_round
   case rel=>exact⟨k+1,by omega,by go_num,a.out⟩
   case measure=>simp[intOf];omega
  have a:Hid (uS xs id= -1):=zA (by have:=HC.out;rwa[aW4 (by rw[hl.out];omega)]at this);go_wp2;go_ret;exact⟨fI a.out.symm,X1.out⟩
theorem yK (hS:Sl w p n a 1 (ivs xs)):
  U 167 #[aH aA aB p n a,id] w (Z (I (kP aA aB xs id)) w):=by
 have hl:=hS.ilen;have HV:=fun(w':World) (hx:Ext w w')=>iJ aA aB p n a xs w' (hS.ext hx)
 unfold kP;by_cases h:aO aA aB xs=true∧1≤id
 ·rw[if_pos h];rw[h.1]at HV;obtain⟨g1,g2,g3,g4,g5,g6,g7,g8,g9⟩:=bS h.1;exact aFj aA aB id p n a xs w (by omega) h.2 hS HV
 rw[if_neg h]
 exact aD1 aA aB id p n a _ w (by cases hh:aO aA aB xs with
  |false=>exact .inl rfl
  |true=>exact .inr ⟨rfl,by have: ¬1≤id:=fun k=>h ⟨hh,k⟩;omega⟩) HV
section
theorem wB {w:World}{a:Array Value}(hg:w.heap[g]? =some (.cells a e (0,0))):Ext w (w.setRow g a):=
 ⟨rfl,rfl,rfl,by simp[World.setRow],fun k hk=>by
  by_cases h:k=g
  ·subst h;rw[setRow_heap w k a a e _ hg,hg]
  ·exact setRow_other w g k _ h⟩
section
variable {P:Program} (w:World)
theorem aAj {t e ty:TypeId}{sz:Nat}(E:ElT P t e sz)(base g n:Nat)(cs:Array Value)(hB:Blk w g e cs)(hb:base≤g)(a:cs.size=n*sz)(p:OA)(m c:Nat)(news:List Value)(hs:Sl w p m c sz news)
  (h1: ∀u∈news,u.oneCell'=true)(hn:n+m≤1099511627776):
  ∃p' cap' w',(Builtin.append_ #[t,t] ty #[.slice (some ⟨g,0,none⟩) n n,.slice p m c]).run P w= .ok (.slice p' (n+m) cap') w'∧w'.ownsRow base e sz (.slice p' (n+m) cap') (n+m) (cs.toList++news)∧Ext w w':=by
 obtain⟨i,z,hi,hz,q,v,aa⟩:=E.info;have d:w.ownsRow base e sz (.slice (some ⟨g,0,none⟩) n n) n cs.toList:=⟨by simpa using a,.inr ⟨g,n,cs,rfl,hb,hB,aVz _,by unfold maxLen;omega,a,by rw[aW4 (by simp;omega)]⟩⟩
 by_cases hm:m=0
 ·subst hm;have l:news= []:=aWv (by simpa using hs.len);subst l;cases p with
  |none=>refine⟨some ⟨g,0,none⟩,n,w,?_,by simpa using d,Ext.refl w⟩;simp[Builtin.append_,run_underlying E.ht,sizeOf,typeInfo,hi,Builtin.lenOf,Builtin.firstCells,storeCells]
  |some ad=>
   have hr:=run_append_room (P:=P) w t ty e i E.ht hi g n n cs hB ad 0 c [] (by simp) (by simp) (by simp) (by omega) (by rw[a,q];simp);have e1:(List.take (n*i.size) cs.toList++ []++List.drop (n*i.size+([]:List Value).length) cs.toList).toArray=cs:=by simp
   rw[e1]at hr;refine⟨some ⟨g,0,none⟩,n,w.setRow g cs,hr,?_,wB hB⟩;have h2:=d.kept (w':=w.setRow g cs) (row:=none) ⟨rfl,rfl,rfl,(wB hB).sz,fun k hk _=>(wB hB).block k hk⟩ (by simp[Value.ownBlock]);simpa using h2
 obtain⟨b,r,rfl,_,hc⟩:=hs.rd (by omega);have f: ∀j u,news[j]? =some u→w.cell? ((⟨b,r,none⟩:Addr).add j)=some u:=by intro j u hu;rw[lU,hc j (by rw[←hs.len];exact(aW3.1 hu).1)];exact hu
 have s:(n+m)*i.bytes≤140737488355328:=by have:(n+m)*i.bytes≤(n+m)*64:=Nat.mul_le_mul_left _ v;omega
 have o: ∀j u,cs.toList[j]? =some u→w.cell? ((⟨g,0,none⟩:Addr).add j)=some u:=d.cells (g:=g) rfl;have hr:=run_append_grow (P:=P) w t ty e i z E.ht hi hz ⟨g,0,none⟩ n n cs.toList (by simpa[q]using a) o ⟨b,r,none⟩ m c news (by rw[q];exact hs.len) f (by omega) (by omega) (growslice_fits (by omega) s);have y:=grownCap_ge w (n+m) n e;have x:grownCap w (n+m) n e≤maxLen:=grownCap_le_maxLen w (n+m) n e (by unfold maxLen;omega);have h:(cs.toList++news).length=(n+m)*sz:=by rw[aW5,hs.len,Nat.add_mul];simp[a]
 refine⟨_,_,_,hr,⟨h,.inr ⟨w.heap.size,_,_,rfl,?_,heap_alloc_new w.drew _,y,x,?_,?_⟩⟩,(Ext.refl w).drew.alloc _⟩
 ·have:=hB.lt;omega
 ·simp only[Array.size_append,List.size_toArray,size_zeroCells,aa,hs.len,a,←Nat.add_mul];congr 1;omega
 simp only[Array.toList_append,aWu];rw[←aWu,←h];exact List.take_left
theorem aAv {o:Oper}{a:Act}{K:Act→World→Prop}{Q:Exit→Act→World→Prop}{t e:TypeId}{sz:Nat}(E:ElT P t e sz)(s x:Operand)
  (ho:o.op= .call {callee:= .builtin .append,args:=#[s,x],argTypes:=#[t,t]})
  (base g n:Nat)(cs:Array Value)(hs:a.eval s= .slice (some ⟨g,0,none⟩) n n)(hB:Blk w g e cs)(hb:base≤g)(d:cs.size=n*sz)
  (p:OA)(m c:Nat)(news:List Value)(hx:a.eval x= .slice p m c)(hr:Sl w p m c sz news)(h1: ∀u∈news,u.oneCell'=true)
  (hn:n+m≤1099511627776)
  (h: ∀p' cap' w',w'.ownsRow base e sz (.slice p' (n+m) cap') (n+m) (cs.toList++news)→Ext w w'→K (a.put o.dst (.slice p' (n+m) cap')) w'):o.wp P a w K Q:=by
 obtain⟨p',cap',w',b,h2,h3⟩:=aAj (ty:=o.type) w E base g n cs hB hb d p m c news hr h1 hn;unfold Oper.wp execOp;simp only[ho,resolve,invoke,builtin,Sem.run_bind,Sem.run_pure,Result.andThen_ok,List.map_toArray,aXl,List.map_nil,hs,hx,b];exact h p' cap' w' h2 h3
theorem yG {b:Array Oper}{i:Nat}{o:Oper}{a:Act}{G:Nat→Value→World→Prop}{t e:TypeId}{sz:Nat}(E:ElT P t e sz)(f:o.guard=none)(s x:Operand)
  (ho:o.op= .call {callee:= .builtin .append,args:=#[s,x],argTypes:=#[t,t]})
  (base g n:Nat)(cs:Array Value)(hs:a.eval s= .slice (some ⟨g,0,none⟩) n n)(hB:Blk w g e cs)(hb:base≤g)(d:cs.size=n*sz)
  (p:OA)(m c:Nat)(news:List Value)(hx:a.eval x= .slice p m c)(hr:Sl w p m c sz news)(h1: ∀u∈news,u.oneCell'=true)
  (hn:n+m≤1099511627776)(h: ∀p' cap' w',w'.ownsRow base e sz (.slice p' (n+m) cap') (n+m) (cs.toList++news)→G i (.slice p' (n+m) cap') w'):
  tL P b G Ext i o w a:=by
 intro K hK;have hw:Region.wanted o (yielded b a.tmps)=true:=by simp[Region.wanted,f]
 rw[if_pos hw];exact aAv w E s x ho base g n cs hs hB hb d p m c news hx hr h1 hn (fun p' cap' w' h2 h3=>hK _ _ ⟨_,rfl,h p' cap' w' h2,h3⟩)
end
end
theorem eH {w:World}{n:Nat}{a:Nat}{xs:List Value}{t:TypeId}{cs:Array Value}(ho:w.ownsRow B TI 1 (.slice q n a) n xs)(hb:Blk w g t cs)(ht:t≠TI):(Value.slice q n a).ownBlock≠some g:=by
 intro he;rcases ho.2 with⟨h1,h2⟩|⟨g',cap',cur,h1,hb',hg,hn,hm,hs,ht'⟩
 ·injection h1 with e1;subst e1;simp[Value.ownBlock]at he
 injection h1 with e1 e2 e3;subst e1;simp[Value.ownBlock]at he;subst he;unfold Blk at hb;rw[hb]at hg;injection hg with e;injection e with e1 e2;exact ht e2
theorem iY (hn:n≤1099511627776)(hS:Sl w p n a 1 (ivs xs)):
  U 87 #[aH aA aB p n a] w (eA aA aB xs w):=by
 have hl:=xQ hS.ilen;have HS:=xQ hS;go_enter func87,ntmps87;go_wp2;refine rL (gl [gEq (.pointer (some ⟨w,0,none⟩)),gEq aA,gEq (.pointer (some ⟨w,1,none⟩)),gEq aB,aDn (w.heap.size+2) TI #[] 0,gEq (.pointer (some ⟨w,2,none⟩)),gEq (.slice p n a),(fun v w'=> ∃q c,v= .slice q n c∧w'.ownsRow (w.heap.size+2) TI 1 (.slice q n c) n (ivs xs)),(fun v w'=> ∃q c,v=aH aA aB q n c∧w'.ownsRow (w.heap.size+2) TI 1 (.slice q n c) n (ivs xs))]) 9 10 [(0,some 3),(1,some 4),(2,some 5),(3,some 6),(4,some 7),(5,some 8),(6,some 9),(7,some 10),(8,some 11)] ?steps ?fin (hG:=(mQ (aW (bL _) (aW (bL _) (aW (bL _) (aW (bL _) (aW (aEs _ _ _ _) (aW (bL _) (aW (bL _) (aW (fun v w w' ⟨q,c,he,ho⟩ hx=>⟨q,c,he,aM ho hx⟩) (aW (fun v w w' ⟨q,c,he,ho⟩ hx=>⟨q,c,he,aM ho hx⟩) (pM))))))))))))
 case steps=>
  refine sS0 [] ?_;refine sC [(0,some 3)] rfl (fun wi hx=> ?_) ?_
  ·intro v0 h0 K hK;obtain rfl:=h0;have B:=(Blk.new w TH3 #[aA,aB,.slice p n a]).ext (by exact .trans (.drew (.alloc (.refl _) _)) hx:Ext (w.alloc (.cells #[aA,aB,.slice p n a] TH3)) wi);have c0:=B.cl 0;go_simp;exact hK _ _ ⟨I aA,rfl,rfl,Ext.refl _⟩
  refine sS0 [] ?_;refine sC [(2,some 5)] rfl (fun wi hx=> ?_) ?_
  ·intro v2 h2 K hK;obtain rfl:=h2;have B:=(Blk.new w TH3 #[aA,aB,.slice p n a]).ext (by exact .trans (.drew (.alloc (.refl _) _)) hx:Ext (w.alloc (.cells #[aA,aB,.slice p n a] TH3)) wi);have c1:=B.cl 1;go_simp;exact hK _ _ ⟨I aB,rfl,rfl,Ext.refl _⟩
  refine sC [] rfl (fun wi hx=> ?_) ?_
  ·intro K hK;go_simp;exact hK _ _ ⟨.slice (some ⟨wi,0,none⟩) 0 0,rfl,⟨wi.heap.size,rfl,by have:=hx.sz;simp at this;omega,Blk.new _ _ _⟩,(Ext.refl _).alloc _⟩
  refine sS0 [] ?_;refine sC [(5,some 8)] rfl (fun wi hx=> ?_) ?_
  ·intro v5 h5 K hK;obtain rfl:=h5;have B:=(Blk.new w TH3 #[aA,aB,.slice p n a]).ext (by exact .trans (.drew (.alloc (.refl _) _)) hx:Ext (w.alloc (.cells #[aA,aB,.slice p n a] TH3)) wi);have c2:=B.cl 2;go_simp;exact hK _ _ ⟨.slice p n a,rfl,rfl,Ext.refl _⟩
  refine sC [(4,some 7),(6,some 9)] rfl (fun wi hx=> ?_) ?_
  ·intro v4 h4 v6 h6;obtain⟨g4,rfl,b,B4⟩:=h4;obtain rfl:=h6;refine yG _ iA rfl (.tmp 7) (.tmp 9) rfl (w.heap.size+2) g4 0 #[] rfl B4 b (by simp) p n a (ivs xs) rfl (HS.out.ext (Ext.trans (by exact .drew (.alloc (.alloc (.refl _) _) _)) hx)) (rD _) (by omega) (fun p' cap' w' h2=>⟨p',cap',by rw[aWz],by simpa using h2⟩)
  refine sC [(1,some 4),(3,some 6),(7,some 10)] rfl (fun wi hx=> ?_) StepsL.nil
  ·intro v1 h1 v3 h3 v7 h7 K hK;subst h1 h3;obtain⟨q7,c7,rfl,d⟩:=h7;go_simp;exact hK _ _ ⟨aH aA aB q7 n c7,rfl,⟨q7,c7,rfl,d⟩,Ext.refl _⟩
 case fin=>
  intro wi hx v0 h0 v1 h1 v2 h2 v3 h3 v4 h4 v5 h5 v6 h6 v7 h7 v8 h8;subst h0 h1 h2 h3;obtain⟨g4,rfl,b,B4⟩:=h4;subst h5 h6;obtain⟨q7,c7,rfl,d⟩:=h7;obtain⟨q8,c8,rfl,e⟩:=h8;have BZ:Blk wi (w.heap.size+1) TH3 #[(),(),((),())]:=by have:=(Blk.new (w.alloc (.cells #[aA,aB,.slice p n a] TH3)) TH3 #[(),(),((),())]).ext hx.of_drew;simpa using this
  obtain⟨z0,h,z1,i,z2,j⟩:=BZ.trif;have z1:w.heap.size+1<wi.heap.size:=BZ.lt;have g:Ext w wi:=Ext.trans (by exact .drew (.alloc (.alloc (.refl _) _) _)) hx;refine wpAny_ready (rs:= [9]) (by kernel_rfl) (by simp) ?_;refine AllReady.cons rfl (fun K hK=> ?_) AllReady.nil;go_simp;refine hK _ _ ?_;refine wpAny_done (by kernel_rfl) ?_ _;go_wp2;have hY:=((BZ.set 0 (I aA)).set 1 (I aB)).set 2 (.slice q8 n c8);generalize f:World.setCell _ _ _=w3;rw[f]at hY;have hR:ExtR (w.heap.size+1) wi w3:=by rw[←f];exact(((ExtR.refl (w.heap.size+1) wi).setCell (p:=⟨w.heap.size+1,0,none⟩) (.inl rfl) _).setCell (p:=⟨w.heap.size+1,1,none⟩) (.inl rfl) _).setCell (p:=⟨w.heap.size+1,2,none⟩) (.inl rfl) _
  simp only[aWg,aWe,aWf]at hY;have y_:=hY.tri;exact aYw (v:=aH aA aB q8 n c8) (wV hl.out (bF (e.kept hR (.inr (eH e BZ (by decide)))) (by omega)) (ExtR.new g hR (by omega)))
abbrev TSL:TypeId:=119
abbrev eV (f t:Int):Value:= .agg #[f,t]
def bM (aA aB:Int)(xs:List Int)(f t:Int):Bool:=decide (eG aA aB xs f t=1)&&decide (0<xs.getD f.toNat 0)&&decide (xs.getD t.toNat 0=0)
theorem lS {aA aB:Int}{xs:List Int}{a b:Int}(h:eG aA aB xs a b=1):aO aA aB xs=true∧0≤a∧a<xs.length∧0≤b∧b<xs.length∧bE aA a b=1:=by
 unfold eG at h;split at h
 ·rename_i hh;exact⟨hh.1,hh.2.1.1,hh.2.1.2,hh.2.2.1,hh.2.2.2,h⟩
 omega
theorem Blk.cells2 {w:World}{t:TypeId}{a b:Value}(h:Blk w g t #[a,b]):w.cell? ⟨g,0,none⟩=some a∧w.cell? ⟨g,1,none⟩=some b:=⟨h.cell 0,h.cell 1⟩
theorem aNm (A:Int)(w:World)(hA:(A==1)=false)(HC:xC 170 #[aH aA aB p n a,f,t] w fun w' e w''=>e= .returned (I A)∧Ext w' w''):
  U 130 #[aH aA aB p n a,eV f t] w (Z (.bool false) w):=by
 go_enter func130,ntmps130;go_wp2_with fail;refine Ω (HC _ (by exact .alloc (.alloc (.refl _) _) _)) fun w1 b=>?_
 have B1:=xQ (show Blk w1 w TH3 #[aA,aB,.slice p n a]from((Blk.new w TH3 #[aA,aB,.slice p n a]).alloc _).ext b);have S1:=xQ (show Blk w1 (w.heap.size+1) TSL #[f,t] by have:=(Blk.new (w.alloc (.cells #[aA,aB,.slice p n a] TH3)) TSL #[f,t]).ext b;simpa using this);have X1:Ext w w1:=by exact .trans (.alloc (.alloc (.refl _) _) _) b
 clear b;go_wp2;go_ret;exact⟨rfl,by exact X1⟩
theorem aQ3 (y:Int)(xs:List Int)(w:World)(hn:n≤12)(hi:i<n)(hj:j<n)(HX:Hid (xs[i]? =some x))(HY:Hid (xs[j]? =some y))(HS:Hid (Sl w p n c 1 (ivs xs)))(HC:xC 170 #[aH aA aB p n c,i,j] w fun w' e w''=>e= .returned (I 1)∧Ext w' w''):
  U 130 #[aH aA aB p n c,eV (i:Int) (j:Int)] w fun e w'=>e= .returned (.bool (decide (0<x)&&decide (y=0)))∧Ext w w':=by
 obtain⟨b,f,x',l,hx,hb,o⟩:=HS.out.int_at hi;obtain⟨b2,r,y',g,hy,_,q⟩:=HS.out.int_at hj;rw[l]at g;injection g with g;injection g with e1 e2;subst e1 e2;have k:=xQ l;clear l;obtain rfl:x=x':=by have:=HX.out.symm.trans hx;injection this
 obtain rfl:y=y':=by have:=HY.out.symm.trans hy;injection this
 clear hx hy;have a1:=aYp i;have a2:=aYp j;have a3:=aYq i n;have a4:=aYq j n;have h:=xQ o;have m:=xQ q;clear o q;by_cases h0:0<x
 ·have d0:decide (0<x)=true:=by simp[h0]
  by_cases h1:y=0
  ·have d1:(y==0)=true:=by simp[h1]
   have d:Hid ((decide (0<x)&&decide (y=0))=true):=by show _=_;simp[h0,h1]
   clear h1;go_enter func130,ntmps130;go_wp2_with fail;refine Ω (HC _ (by exact .alloc (.alloc (.refl _) _) _)) fun w1 a=>?_
   have B1:=xQ (show Blk w1 w TH3 #[aA,aB,.slice p n c]from((Blk.new w TH3 #[aA,aB,.slice p n c]).alloc _).ext a);have S1:=xQ (show Blk w1 (w.heap.size+1) TSL #[i,j] by have:=(Blk.new (w.alloc (.cells #[aA,aB,.slice p n c] TH3)) TSL #[i,j]).ext a;simpa using this);have X1:Ext w w1:=by exact .trans (.alloc (.alloc (.refl _) _) _) a
   clear a;obtain⟨c0,c1,c2⟩:=B1.out.cells3;rw[k.out]at c2;obtain⟨s0,s1⟩:=S1.out.cells2;have g1:w1.cell? ⟨b,f+i,none⟩=some (iv x):=(X1.cells.1 _ _ hb).trans h.out;have g2:w1.cell? ⟨b,f+j,none⟩=some (iv y):=(X1.cells.1 _ _ hb).trans m.out;go_wp2;go_ret;exact⟨aT d.out.symm,by exact X1⟩
  have d1:(y==0)=false:=by simp[h1]
  have d:Hid ((decide (0<x)&&decide (y=0))=false):=by show _=_;simp[h1]
  clear h1;go_enter func130,ntmps130;go_wp2_with fail;refine Ω (HC _ (by exact .alloc (.alloc (.refl _) _) _)) fun w1 a=>?_
  have B1:=xQ (show Blk w1 w TH3 #[aA,aB,.slice p n c]from((Blk.new w TH3 #[aA,aB,.slice p n c]).alloc _).ext a);have S1:=xQ (show Blk w1 (w.heap.size+1) TSL #[i,j] by have:=(Blk.new (w.alloc (.cells #[aA,aB,.slice p n c] TH3)) TSL #[i,j]).ext a;simpa using this);have X1:Ext w w1:=by exact .trans (.alloc (.alloc (.refl _) _) _) a
  clear a;obtain⟨c0,c1,c2⟩:=B1.out.cells3;rw[k.out]at c2;obtain⟨s0,s1⟩:=S1.out.cells2;have g1:w1.cell? ⟨b,f+i,none⟩=some (iv x):=(X1.cells.1 _ _ hb).trans h.out;have g2:w1.cell? ⟨b,f+j,none⟩=some (iv y):=(X1.cells.1 _ _ hb).trans m.out;go_wp2;go_ret;exact⟨aT d.out.symm,by exact X1⟩
 have d0:decide (0<x)=false:=by simp[h0]
 have d:Hid ((decide (0<x)&&decide (y=0))=false):=by show _=_;simp[h0]
 go_enter func130,ntmps130;go_wp2_with fail;refine Ω (HC _ (by exact .alloc (.alloc (.refl _) _) _)) fun w1 a=>?_
 have B1:=xQ (show Blk w1 w TH3 #[aA,aB,.slice p n c]from((Blk.new w TH3 #[aA,aB,.slice p n c]).alloc _).ext a);have S1:=xQ (show Blk w1 (w.heap.size+1) TSL #[i,j] by have:=(Blk.new (w.alloc (.cells #[aA,aB,.slice p n c] TH3)) TSL #[i,j]).ext a;simpa using this);have X1:Ext w w1:=by exact .trans (.alloc (.alloc (.refl _) _) _) a
 clear a;obtain⟨c0,c1,c2⟩:=B1.out.cells3;rw[k.out]at c2;obtain⟨s0,s1⟩:=S1.out.cells2;have g1:w1.cell? ⟨b,f+i,none⟩=some (iv x):=(X1.cells.1 _ _ hb).trans h.out;go_wp2;go_ret;exact⟨aT d.out.symm,by exact X1⟩
theorem aK0 (hS:Sl w p n a 1 (ivs xs)):
  U 130 #[aH aA aB p n a,eV f t] w (Z (.bool (bM aA aB xs f t)) w):=by
 have hl:=hS.ilen;have HC:=fun(w':World) (hx:Ext w w')=>aFq aA aB f t p n a xs w' (hS.ext hx)
 unfold bM;by_cases h:eG aA aB xs f t=1
 ·obtain⟨k1,k2,k3,k4,k5,k6⟩:=lS h;obtain⟨g1,g2,g3,g4,g5,g6,g7,g8,g9⟩:=bS k1;rw[h]at HC;have hx:xs[f.toNat]? =some (xs.getD f.toNat 0):=by rw[aW7,aW0 (by omega)];rfl
  have hy:xs[t.toNat]? =some (xs.getD t.toNat 0):=by rw[aW7,aW0 (by omega)];rfl
  have ef:((f.toNat:Nat):Int)=f:=by omega
  have et:((t.toNat:Nat):Int)=t:=by omega
  have:=aQ3 aA aB p n a f.toNat t.toNat _ _ xs w (by omega) (by omega) (by omega) hx hy hS (by rw[ef,et];exact HC);rw[ef,et]at this;rw[decide_eq_true h,Bool.true_and];exact this
 have:=aNm aA aB f t p n a _ w (by simpa using h) HC;rw[decide_eq_false h,Bool.false_and,Bool.false_and];exact this
def dL (aA aB:Int)(xs:List Int)(b:Bool)(w:World)(e:Ending)(w':World):Prop:=
 ∃p cap,e= .returned (.tuple #[aH aA aB p xs.length cap,.bool b])∧w'.ownsRow w.heap.size TI 1 (.slice p xs.length cap) xs.length (ivs xs)∧Ext w w'
theorem fL {aA aB:Int}{p:OA}{n a:Nat}{xs:List Int}{b:Bool}{w:World}(hn:xs.length=n)(ho:w'.ownsRow w TI 1 (.slice p n a) n (ivs xs))(hx:Ext w w'):dL aA aB xs b w (.returned (.tuple #[aH aA aB p n a,.bool b])) w':=by subst hn;exact⟨p,a,rfl,ho,hx⟩
theorem gH {w:World}{n:Nat}{a:Nat}{xs:List Value}(ho:w.ownsRow B e sz (.slice q n a) n xs)(h:0<n): ∃g,q=some ⟨g,0,none⟩∧B≤g∧g<w.heap.size:=by
 rcases ho.2 with⟨h1,h2⟩|⟨g',cap',cur,h1,hb',hg,r⟩
 ·omega
 injection h1 with e1;exact⟨g',e1,hb',(aX6.1 hg).1⟩
theorem eW (k:Nat)(x:Int):(ivs xs).set k (iv x)=ivs (xs.set k x):=by simp[ivs,List.map_set]
theorem aNn (i j:Int)(xs:List Int)(w:World)(aq:4≤xs.length)(hn:xs.length≤12)(HV:xB 30 #[aH aA aB p xs.length a] w true)(HC:Hid (∀w',Ext w w'→U 87 #[aH aA aB p xs.length a] w' (eA aA aB xs w')))(HM:xB 130 #[aH aA aB p xs.length a,eV i j] w false):
  U 94 #[aH aA aB p xs.length a,eV i j] w (dL aA aB xs false w):=by
 go_enter func94,ntmps94;have ad:=xQ (Ext.refl w);go_wp2_with fail;refine Ω (HV _ (by exact .alloc (.alloc (.alloc (.refl _) _) _) _)) fun w1 b=>?_
 have ah:Ext w w1:=((((Ext.refl _).alloc _).alloc _).alloc _).trans b;have z1:w.heap.size+3≤w1.heap.size:=by have:=b.sz;(try simp at this);omega
 have n:=xQ (ad.out.trans ah);clear ad;have k:=xQ (show Blk w1 w TH3 #[aA,aB,.slice p xs a] by have:=(((Blk.new w TH3 #[aA,aB,.slice p xs a]).alloc _).alloc _).ext b;simpa using this);have aa:=xQ (show Blk w1 (w.heap.size+1) TSL #[i,j] by have:=((Blk.new (w.alloc (.cells #[aA,aB,.slice p xs a] TH3)) TSL #[i,j]).alloc _).ext b;simpa using this);have af:=xQ (show Blk w1 (w.heap.size+1+1) TH3 #[(),(),((),())] by have:=(Blk.new ((w.alloc (.cells #[aA,aB,.slice p xs a] TH3)).alloc (.cells #[i,j] TSL)) TH3 #[(),(),((),())]).ext b;simpa using this);clear ah b;obtain⟨c0,c1,c2⟩:=k.out.tri;go_wp2_with fail;clear c0 c1 c2;refine(HC _ n.out).mono ?_;rintro e w2 ⟨q,c2,rfl,ho,t⟩;have c:Ext w1 w2:=by exact t
 have z2:w1.heap.size+0≤w2.heap.size:=by have:=t.sz;(try simp at this);omega
 have o:=xQ (n.out.trans c);have l:=xQ (k.out.ext c);have d:=xQ (aa.out.ext c);have ag:=xQ (af.out.ext c);clear n k aa af c;have x:(w:Nat)<w2:=l.out.lt;have y:w.heap.size+1<w2.heap.size:=d.out.lt;obtain⟨g,rfl,ao,ap⟩:=gH ho (by omega);have z:=xQ (ho);clear t ho;obtain⟨c0,c1,c2⟩:=l.out.tri;have s0:=d.out.cl 0;have s1:=d.out.cl 1;go_wp2_with fail;clear c0 c1 c2 s0 s1;refine Ω (HM _ (o.out.alloc _)) fun w3 u=>?_
 have h:Ext w2 w3:=((Ext.refl _).alloc _).trans u;have ae:=xQ (o.out.trans h);have f:=xQ (ag.out.ext h);have m:=xQ (aM z h);clear o l d ag z;have ab:=xQ (show Blk w3 w2 TH3 #[aA,aB,.slice (some ⟨g,0,none⟩) xs c2] by have:=(Blk.new w2 TH3 #[aA,aB,.slice (some ⟨g,0,none⟩) xs c2]).ext u;simpa using this);clear h x y u;have v_:=ab.out.tri;obtain⟨z0,al,z1,am,z2,an⟩:=f.out.trif;go_wp2;have y4:=((f.out.set 0 (I aA)).set 1 (I aB)).set 2 (.slice (some ⟨g,0,none⟩) xs c2);simp only[aWg,aWe,aWf]at y4;generalize s:World.setCell _ _ _=w4;rw[s]at y4;have r:ExtR (w.heap.size+1+1) w3 w4:=by rw[←s];exact(((ExtR.refl (w.heap.size+1+1) w3).setCell (p:=⟨w.heap.size+1+1,0,none⟩) (.inl rfl) (I aA)).setCell (p:=⟨w.heap.size+1+1,1,none⟩) (.inl rfl) (I aB)).setCell (p:=⟨w.heap.size+1+1,2,none⟩) (.inl rfl) (.slice (some ⟨g,0,none⟩) xs c2)
 clear s;have aj:=xQ (ExtR.new ae r (by omega));have ak:=xQ (y4);have ai:=xQ (m.out.kept r (.inr (eH m f.out (by decide))));clear ae f m ab r y4 v_ z0 al z1 am z2 an;have y_:=ak.out.tri;exact aYw (v:= .tuple #[.agg #[aA,aB,.slice (some ⟨g,0,none⟩) xs c2],.bool false]) (fL (by simp) (bF (by exact ai.out) (by omega)) aj.out)
theorem aK1 (b a:Nat)(x yj:Int)(xs:List Int)(w:World)(bq:4≤xs.length)(hn:xs.length≤12)(hi:i<xs.length)(hj:j<xs.length)(bp:i≠j)(HX:Hid (xs[i]? =some x))(HY:Hid (xs[j]? =some yj))(hb:b<w.heap.size)(bd:Hid (w.cell? ⟨b,a+i,none⟩=some (I x)))(HV:xB 30 #[aH aA aB (some ⟨b,a,none⟩) xs.length c] w true)(HC:Hid (∀w',Ext w w'→U 87 #[aH aA aB (some ⟨b,a,none⟩) xs.length c] w' (eA aA aB xs w')))(HM:xB 130 #[aH aA aB (some ⟨b,a,none⟩) xs.length c,eV (i:Int) (j:Int)] w true):
  U 94 #[aH aA aB (some ⟨b,a,none⟩) xs.length c,eV (i:Int) (j:Int)] w (dL aA aB ((xs.set j x).set i 0) true w):=by
 have a1:=aYp i;have a2:=aYp j;have a3:(i:Int)<(xs.length:Int):=by omega
 have a4:(j:Int)<(xs.length:Int):=by omega
 go_enter func94,ntmps94;have a5:=xQ (Ext.refl w);go_wp2_with fail;refine Ω (HV _ (by exact .alloc (.alloc (.alloc (.refl _) _) _) _)) fun w1 d=>?_
 have bc:Ext w w1:=((((Ext.refl _).alloc _).alloc _).alloc _).trans d;have z1:w.heap.size+3≤w1.heap.size:=by have:=d.sz;(try simp at this);omega
 have ah:=xQ (a5.out.trans bc);clear a5;have aa:=xQ (show Blk w1 w TH3 #[aA,aB,.slice (some ⟨b,a,none⟩) xs c] by have:=(((Blk.new w TH3 #[aA,aB,.slice (some ⟨b,a,none⟩) xs c]).alloc _).alloc _).ext d;simpa using this);have az:=xQ (show Blk w1 (w.heap.size+1) TSL #[i,j] by have:=((Blk.new (w.alloc (.cells #[aA,aB,.slice (some ⟨b,a,none⟩) xs c] TH3)) TSL #[i,j]).alloc _).ext d;simpa using this);have a9:=xQ (show Blk w1 (w.heap.size+1+1) TH3 #[(),(),((),())] by have:=(Blk.new ((w.alloc (.cells #[aA,aB,.slice (some ⟨b,a,none⟩) xs c] TH3)).alloc (.cells #[i,j] TSL)) TH3 #[(),(),((),())]).ext d;simpa using this);clear bc d;obtain⟨c0,c1,c2⟩:=aa.out.tri;go_wp2_with fail;clear c0 c1 c2;refine(HC _ ah.out).mono ?_;rintro e w2 ⟨q,c2,rfl,ho,an⟩;have o:Ext w1 w2:=by exact an
 have z2:w1.heap.size+0≤w2.heap.size:=by have:=an.sz;(try simp at this);omega
 have ai:=xQ (ah.out.trans o);have r:=xQ (aa.out.ext o);have m:=xQ (az.out.ext o);have ba:=xQ (a9.out.ext o);clear ah aa az a9 o;have ap:(w:Nat)<w2:=r.out.lt;have aq:w.heap.size+1<w2.heap.size:=m.out.lt;obtain⟨g,rfl,bn,bo⟩:=gH ho (by omega);have ax:=xQ (ho);clear an ho;obtain⟨c0,c1,c2⟩:=r.out.tri;have s0:=m.out.cl 0;have s1:=m.out.cl 1;go_wp2_with fail;clear c0 c1 c2 s0 s1;refine Ω (HM _ (ai.out.alloc _)) fun w3 ao=>?_
 have f:Ext w2 w3:=((Ext.refl _).alloc _).trans ao;have aj:=xQ (ai.out.trans f);have aw:=xQ (r.out.ext f);have s:=xQ (m.out.ext f);have bb:=xQ (ba.out.ext f);have ay:=xQ (aM ax f);clear ai r m ba ax;have af:=xQ (show Blk w3 w2 TH3 #[aA,aB,.slice (some ⟨g,0,none⟩) xs c2] by have:=(Blk.new w2 TH3 #[aA,aB,.slice (some ⟨g,0,none⟩) xs c2]).ext ao;simpa using this);clear f ap aq ao;go_wp2;refine rL (gl [gEq (.pointer (some ⟨w2,2,none⟩)),gEq (.slice (some ⟨g,0,none⟩) xs c2),gEq (.pointer (some ⟨w.heap.size+1,1,none⟩)),gEq (j:Int),gEq (.pointer (some ⟨w,2,none⟩)),gEq (.slice (some ⟨b,a,none⟩) xs c),gEq (.pointer (some ⟨w.heap.size+1,0,none⟩)),gEq (i:Int),gEq (.pointer (some ⟨b,a+i,none⟩)),gEq x,gEq (.pointer (some ⟨g,j,none⟩))]) 11 12 [(0,some 18),(1,some 19),(2,some 20),(3,some 21),(4,some 22),(5,some 23),(6,some 24),(7,some 25),(8,some 26),(9,some 27),(10,some 28)] ?steps ?fin
 case steps=>
  refine sS0 [] ?_;refine sC [(0,some 18)] rfl (fun wi hx=> ?_) ?_
  ·intro v0 h0 K hK;obtain rfl:=h0;have B:=af.out.ext hx.of_drew;have bh:=B.cl 2;go_simp;exact hK _ _ ⟨.slice (some ⟨g,0,none⟩) xs c2,rfl,rfl,Ext.refl _⟩
  refine sS0 [] ?_;refine sC [(2,some 20)] rfl (fun wi hx=> ?_) ?_
  ·intro v2 h2 K hK;obtain rfl:=h2;have B:=s.out.ext hx.of_drew;have bm:=B.cl 1;go_simp;exact hK _ _ ⟨I j,rfl,rfl,Ext.refl _⟩
  refine sS0 [] ?_;refine sC [(4,some 22)] rfl (fun wi hx=> ?_) ?_
  ·intro v4 h4 K hK;obtain rfl:=h4;have B:=aw.out.ext hx.of_drew;have bh:=B.cl 2;go_simp;exact hK _ _ ⟨.slice (some ⟨b,a,none⟩) xs c,rfl,rfl,Ext.refl _⟩
  refine sS0 [] ?_;refine sC [(6,some 24)] rfl (fun wi hx=> ?_) ?_
  ·intro v6 h6 K hK;obtain rfl:=h6;have B:=s.out.ext hx.of_drew;have bl:=B.cl 0;go_simp;exact hK _ _ ⟨I i,rfl,rfl,Ext.refl _⟩
  refine sS2 [(5,some 23),(7,some 25)] ?_;refine sC [(8,some 26)] rfl (fun wi hx=> ?_) ?_
  ·intro v8 h8 K hK;obtain rfl:=h8;have cx:wi.cell? ⟨b,a+i,none⟩=some (I x):=(Ext.cells (aj.out.trans hx.of_drew)).1 _ _ hb |>.trans bd.out;go_simp;exact hK _ _ ⟨I x,rfl,rfl,Ext.refl _⟩
  exact sS2 [(1,some 19),(3,some 21)] StepsL.nil
 case fin=>
  intro wi hx v0 h0 v1 h1 v2 h2 v3 h3 v4 h4 v5 h5 v6 h6 v7 h7 v8 h8 v9 h9 br bi;subst h0 h1 h2 h3 h4 h5 h6 h7 h8 h9;obtain rfl:=bi;have h:=hx.of_drew;have a6:=xQ (aj.out.trans h);have ad:=xQ (s.out.ext h);have ak:=xQ (bb.out.ext h);have k:=xQ (aM ay h);have ag:=xQ (af.out.ext h);clear aj aw s bb ay af h hx;have gj:wi.cell? ⟨g,j,none⟩=some (I yj):=by have:=k.out.cellAt j (by omega);rw[this];simpa[ivs]using HY.out
  have gf:wi.frozen? ⟨g,j,none⟩=false:=k.out.frozenAt j;refine wpAny_ready (rs:= [11]) (by kernel_rfl) (by simp) ?_;refine AllReady.cons rfl (fun K hK=> ?_) AllReady.nil;go_simp;refine hK _ _ ?_;clear hK K gj gf;have y5:=(k.out.stored (j) (I x)).1;have n:ExtR (g) wi _:=(k.out.stored (j) (I x)).2;generalize bj:World.setCell _ _ _=w5 at*;clear bj;have a7:=xQ (ExtR.new a6 n (by omega));have ae:=xQ (show Blk w5 (w.heap.size+1) _ _ from(n.block _ ad.out.lt (by first|(simp;done)|(simp;omega))).trans ad.out);have u:=xQ (show Blk w5 (w.heap.size+1+1) _ _ from(n.block _ ak.out.lt (by first|(simp;done)|(simp;omega))).trans ak.out);have l:=xQ (y5);have t:=xQ (show Blk w5 w2 _ _ from(n.block _ ag.out.lt (by first|(simp;done)|(simp;omega))).trans ag.out);clear a6 ad ak k ag n y5;refine wpAny_done (by kernel_rfl) ?_ _;obtain⟨v0,v1,v2⟩:=t.out.tri;have s0:=ae.out.cl 0;have s1:=ae.out.cl 1;obtain⟨z0,ar,z1,au,z2,av⟩:=u.out.trif;have gi:w5.cell? ⟨g,i,none⟩=some (I x):=by have:=l.out.cellAt i (by omega);rw[this,aXr (by omega)];simpa[ivs]using HX.out
  have gf:w5.frozen? ⟨g,i,none⟩=false:=l.out.frozenAt i;go_upto_region 8 with fail;clear gi gf v0 v1 v2 s0 s1 z0 ar z1 au z2 av;have y6:=(l.out.stored (i) (I 0)).1;have z:ExtR (g) w5 _:=(l.out.stored (i) (I 0)).2;generalize bk:World.setCell _ _ _=w6 at*;clear bk;have a8:=xQ (ExtR.new a7 z (by omega));have y:=xQ (show Blk w6 (w.heap.size+1+1) _ _ from(z.block _ u.out.lt (by first|(simp;done)|(simp;omega))).trans u.out);have ab:=xQ (y6);have a0:=xQ (show Blk w6 w2 _ _ from(z.block _ t.out.lt (by first|(simp;done)|(simp;omega))).trans t.out);clear a7 ae u l t z y6;obtain⟨v0,v1,v2⟩:=a0.out.tri;obtain⟨z0,ar,z1,au,z2,av⟩:=y.out.trif;go_wp2;have y7:=((y.out.set 0 (I aA)).set 1 (I aB)).set 2 (.slice (some ⟨g,0,none⟩) xs c2);simp only[aWg,aWe,aWf]at y7;generalize am:World.setCell _ _ _=w7;rw[am]at y7;have al:ExtR (w.heap.size+1+1) w6 w7:=by rw[←am];exact(((ExtR.refl (w.heap.size+1+1) w6).setCell (p:=⟨w.heap.size+1+1,0,none⟩) (.inl rfl) (I aA)).setCell (p:=⟨w.heap.size+1+1,1,none⟩) (.inl rfl) (I aB)).setCell (p:=⟨w.heap.size+1+1,2,none⟩) (.inl rfl) (.slice (some ⟨g,0,none⟩) xs c2)
  clear am;have bf:=xQ (ExtR.new a8 al (by omega));have bg:=xQ (y7);have be:=xQ (ab.out.kept al (.inr (eH ab y.out (by decide))));clear a8 y ab a0 al y7 v0 v1 v2 z0 ar z1 au z2 av;have y_:=bg.out.tri;exact aYw (v:= .tuple #[.agg #[aA,aB,.slice (some ⟨g,0,none⟩) xs c2],.bool true]) (fL (by simp) (bF (by rw[←eW,←eW];exact be.out) (by omega)) bf.out)
def bQ (aA aB:Int)(xs:List Int)(f t:Int):List Int:=if bM aA aB xs f t then(xs.set t.toNat (xs.getD f.toNat 0)).set f.toNat 0 else xs
theorem dO (f t:Int):(bQ aA aB xs f t).length=xs.length:=by unfold bQ;split<;>simp
theorem oD {aA aB:Int}{xs:List Int}{f t:Int}(h:bM aA aB xs f t=true):aO aA aB xs=true∧0≤f∧f<xs.length∧0≤t∧t<xs.length∧bE aA f t=1∧0<xs.getD f.toNat 0∧xs.getD t.toNat 0=0∧f≠t:=by unfold bM at h;simp only[aWc,decide_eq_true_eq]at h;obtain⟨⟨h1,h2⟩,h3⟩:=h;obtain⟨k1,k2,k3,k4,k5,k6⟩:=lS h1;exact⟨k1,k2,k3,k4,k5,k6,h2,h3,fun e=>by subst e;omega⟩
theorem oR (hS:Sl w p n a 1 (ivs xs))(c:aO aA aB xs=true):
  U 94 #[aH aA aB p n a,eV f t] w (dL aA aB (bQ aA aB xs f t) (bM aA aB xs f t) w):=by
 have hl:=hS.ilen;subst hl;obtain⟨g1,g2,g3,g4,g5,g6,g7,g8,g9⟩:=bS c;have HV:=fun(w':World) (hx:Ext w w')=>iJ aA aB p xs.length a xs w' (hS.ext hx)
 rw[c]at HV;have HC:=fun(w':World) (hx:Ext w w')=>iY aA aB p xs.length a xs w' (by omega) (hS.ext hx)
 have HM:=fun(w':World) (hx:Ext w w')=>aK0 aA aB f t p xs.length a xs w' (hS.ext hx)
 unfold bQ;cases h:bM aA aB xs f t with
 |false=>rw[h]at HM;exact aNn aA aB p a f t xs w g5 g6 HV HC HM
 |true=>
  rw[h]at HM;obtain⟨k1,k2,k3,k4,k5,k6,k7,k8,k9⟩:=oD h;have ef:((f.toNat:Nat):Int)=f:=by omega
  have et:((t.toNat:Nat):Int)=t:=by omega
  have hx:xs[f.toNat]? =some (xs.getD f.toNat 0):=by rw[aW7,aW0 (by omega)];rfl
  have hy:xs[t.toNat]? =some (xs.getD t.toNat 0):=by rw[aW7,aW0 (by omega)];rfl
  obtain⟨b,g,x,rfl,d,hb,hc⟩:=hS.int_at (k:=f.toNat) (by omega);obtain rfl:x=xs.getD f.toNat 0:=by rw[hx]at d;injection d with e;exact e.symm
  have:=aK1 aA aB a f.toNat t.toNat b g _ _ xs w g5 g6 (by omega) (by omega) (by omega) hx hy hb hc HV HC (by rw[ef,et];exact HM);rw[ef,et]at this;rw[if_pos rfl];exact this
def dM (aA aB:Int)(xs:List Int)(id:Int):List Int×Bool:=if xs.getD 0 0=0∧1≤id∧aO aA aB (xs.set 0 id)=true then(xs.set 0 id,true)else(xs,false)
def dK (aA aB:Int)(xs:List Int)(i:Int)(w:World)(e:Ending)(w':World):Prop:=
 ∃p cap,e= .returned (.tuple #[aH aA aB p xs.length cap,i])∧w'.ownsRow w.heap.size TI 1 (.slice p xs.length cap) xs.length (ivs xs)∧Ext w w'
theorem fY {aA aB:Int}{p:OA}{n a:Nat}{xs:List Int}{i:Int}{w:World}(hn:xs.length=n)(ho:w'.ownsRow w TI 1 (.slice p n a) n (ivs xs))(hx:Ext w w'):dK aA aB xs i w (.returned (.tuple #[aH aA aB p n a,i])) w':=by subst hn;exact⟨p,a,rfl,ho,hx⟩
theorem aHt (w:World)(aj:4≤xs.length)(hn:xs.length≤12)(ag:Hid (xs[0]? =some x))(hb:b<w.heap.size)(t:Hid (w.cell? ⟨b,a,none⟩=some (I x)))(ak:(x !=0)=true)(HI:Hid (∀w,U 32 #[(),(),((xs.length:Int)-1:Int)] w fun e w'=>e= .returned (.bool true)∧w=w'))(HV:xB 30 #[aH aA aB (some ⟨b,a,none⟩) xs.length c] w true)(HC:Hid (∀w',Ext w w'→U 87 #[aH aA aB (some ⟨b,a,none⟩) xs.length c] w' (eA aA aB xs w'))):
  U 124 #[aH aA aB (some ⟨b,a,none⟩) xs.length c,(),id] w (dL aA aB xs false w):=by
 go_enter func124,ntmps124;have y:=xQ (Ext.refl w);go_wp2_with fail;refine Ω (HV _ (by exact .alloc (.alloc (.refl _) _) _)) fun w1 f=>?_
 have ab:Ext w w1:=(((Ext.refl _).alloc _).alloc _).trans f;have z1:w.heap.size+2≤w1.heap.size:=by have:=f.sz;(try simp at this);omega
 have m:=xQ (y.out.trans ab);have j:=xQ (show Blk w1 w TH3 #[aA,aB,.slice (some ⟨b,a,none⟩) xs c] by have:=((Blk.new w TH3 #[aA,aB,.slice (some ⟨b,a,none⟩) xs c]).alloc _).ext f;simpa using this);have aa:=xQ (show Blk w1 (w.heap.size+1) TH3 #[(),(),((),())] by have:=(Blk.new (w.alloc (.cells #[aA,aB,.slice (some ⟨b,a,none⟩) xs c] TH3)) TH3 #[(),(),((),())]).ext f;simpa using this);have c_:=j.out.tri;go_wp2_with fail;refine(HC _ m.out).mono ?_;rintro e w2 ⟨q,cq,rfl,ho,s⟩;have i:Ext w1 w2:=by exact s
 have z2:w1.heap.size+0≤w2.heap.size:=by have:=s.sz;(try simp at this);omega
 have h:=xQ (m.out.trans i);have k:=xQ (j.out.ext i);have d:=xQ (aa.out.ext i);have ad:(w:Nat)<w2:=k.out.lt;have ae:w.heap.size+1<w2.heap.size:=d.out.lt;obtain⟨g,rfl,ah,ai⟩:=gH ho (by omega);have l:=xQ (ho);have cx:w2.cell? ⟨b,a,none⟩=some (I x):=(Ext.cells h.out).1 _ _ hb |>.trans t.out;have lb:b<w2:=aVy hb h.out.sz;have c_:=k.out.tri;obtain⟨z0,al,z1,am,z2,an⟩:=d.out.trif;go_wp2_with ((go_at_call 32;(with_reducible refine(HI _).mono ?_);rintro e w9 ⟨rfl,rfl⟩));have y3:=((d.out.set 0 (I aA)).set 1 (I aB)).set 2 (.slice (some ⟨g,0,none⟩) xs cq);simp only[aWg,aWe,aWf]at y3;generalize r:World.setCell _ _ _=w3;rw[r]at y3;have o:ExtR (w.heap.size+1) w2 w3:=by rw[←r];exact(((ExtR.refl (w.heap.size+1) w2).setCell (p:=⟨w.heap.size+1,0,none⟩) (.inl rfl) (I aA)).setCell (p:=⟨w.heap.size+1,1,none⟩) (.inl rfl) (I aB)).setCell (p:=⟨w.heap.size+1,2,none⟩) (.inl rfl) (.slice (some ⟨g,0,none⟩) xs cq)
 have z:=xQ (ExtR.new h o (by omega));have n:=xQ (y3);have u:=xQ (l.out.kept o (.inr (eH l d.out (by decide))));have af:w.heap.size+1<w3.heap.size:=n.out.lt;have y_:=n.out.tri;exact aYw (v:= .tuple #[.agg #[aA,aB,.slice (some ⟨g,0,none⟩) xs cq],.bool false]) (fL (by simp) (bF (u.out.alloc _) (by omega)) (z.out.alloc _))
theorem aNt (w:World)(ak:4≤xs.length)(hn:xs.length≤12)(ag:Hid (xs[0]? =some x))(hb:b<w.heap.size)(t:Hid (w.cell? ⟨b,a,none⟩=some (I x)))(al:(x !=0)=false)(aj:id<1)(HI:Hid (∀w,U 32 #[(),(),((xs.length:Int)-1:Int)] w fun e w'=>e= .returned (.bool true)∧w=w'))(HV:xB 30 #[aH aA aB (some ⟨b,a,none⟩) xs.length c] w true)(HC:Hid (∀w',Ext w w'→U 87 #[aH aA aB (some ⟨b,a,none⟩) xs.length c] w' (eA aA aB xs w'))):
  U 124 #[aH aA aB (some ⟨b,a,none⟩) xs.length c,(),id] w (dL aA aB xs false w):=by
 go_enter func124,ntmps124;have y:=xQ (Ext.refl w);go_wp2_with fail;refine Ω (HV _ (by exact .alloc (.alloc (.refl _) _) _)) fun w1 f=>?_
 have ab:Ext w w1:=(((Ext.refl _).alloc _).alloc _).trans f;have z1:w.heap.size+2≤w1.heap.size:=by have:=f.sz;(try simp at this);omega
 have m:=xQ (y.out.trans ab);have j:=xQ (show Blk w1 w TH3 #[aA,aB,.slice (some ⟨b,a,none⟩) xs c] by have:=((Blk.new w TH3 #[aA,aB,.slice (some ⟨b,a,none⟩) xs c]).alloc _).ext f;simpa using this);have aa:=xQ (show Blk w1 (w.heap.size+1) TH3 #[(),(),((),())] by have:=(Blk.new (w.alloc (.cells #[aA,aB,.slice (some ⟨b,a,none⟩) xs c] TH3)) TH3 #[(),(),((),())]).ext f;simpa using this);have c_:=j.out.tri;go_wp2_with fail;refine(HC _ m.out).mono ?_;rintro e w2 ⟨q,cq,rfl,ho,s⟩;have i:Ext w1 w2:=by exact s
 have z2:w1.heap.size+0≤w2.heap.size:=by have:=s.sz;(try simp at this);omega
 have h:=xQ (m.out.trans i);have k:=xQ (j.out.ext i);have d:=xQ (aa.out.ext i);have ad:(w:Nat)<w2:=k.out.lt;have ae:w.heap.size+1<w2.heap.size:=d.out.lt;obtain⟨g,rfl,ah,ai⟩:=gH ho (by omega);have l:=xQ (ho);have cx:w2.cell? ⟨b,a,none⟩=some (I x):=(Ext.cells h.out).1 _ _ hb |>.trans t.out;have lb:b<w2:=aVy hb h.out.sz;have c_:=k.out.tri;obtain⟨z0,am,z1,an,z2,ao⟩:=d.out.trif;go_wp2_with ((go_at_call 32;(with_reducible refine(HI _).mono ?_);rintro e w9 ⟨rfl,rfl⟩));have y3:=((d.out.set 0 (I aA)).set 1 (I aB)).set 2 (.slice (some ⟨g,0,none⟩) xs cq);simp only[aWg,aWe,aWf]at y3;generalize r:World.setCell _ _ _=w3;rw[r]at y3;have o:ExtR (w.heap.size+1) w2 w3:=by rw[←r];exact(((ExtR.refl (w.heap.size+1) w2).setCell (p:=⟨w.heap.size+1,0,none⟩) (.inl rfl) (I aA)).setCell (p:=⟨w.heap.size+1,1,none⟩) (.inl rfl) (I aB)).setCell (p:=⟨w.heap.size+1,2,none⟩) (.inl rfl) (.slice (some ⟨g,0,none⟩) xs cq)
 have z:=xQ (ExtR.new h o (by omega));have n:=xQ (y3);have u:=xQ (l.out.kept o (.inr (eH l d.out (by decide))));have af:w.heap.size+1<w3.heap.size:=n.out.lt;have y_:=n.out.tri;exact aYw (v:= .tuple #[.agg #[aA,aB,.slice (some ⟨g,0,none⟩) xs cq],.bool false]) (fL (by simp) (bF (u.out.alloc _) (by omega)) (z.out.alloc _))
theorem aK8 (w:World)(a4:4≤xs.length)(hn:xs.length≤12)(ao:Hid (xs[0]? =some x))(hb:b<w.heap.size)(am:Hid (w.cell? ⟨b,a,none⟩=some (I x)))(a5:(x !=0)=false)(a3:1≤id)(HI:Hid (∀w,U 32 #[(),(),((xs.length:Int)-1:Int)] w fun e w'=>e= .returned (.bool true)∧w=w'))(an:Hid (∀w' q c,Sl w' q xs.length c 1 (ivs (xs.set 0 id))→U 30 #[aH aA aB q xs.length c] w' (Z (.bool true) w')))(HV:xB 30 #[aH aA aB (some ⟨b,a,none⟩) xs.length d] w true)(HC:Hid (∀w',Ext w w'→U 87 #[aH aA aB (some ⟨b,a,none⟩) xs.length d] w' (eA aA aB xs w'))):
  U 124 #[aH aA aB (some ⟨b,a,none⟩) xs.length d,(),id] w (dL aA aB (xs.set 0 id) true w):=by
 have a0:=aYu (id<1);go_enter func124,ntmps124;have ag:=xQ (Ext.refl w);go_wp2_with fail;refine Ω (HV _ (by exact .alloc (.alloc (.refl _) _) _)) fun w1 h=>?_
 have al:Ext w w1:=(((Ext.refl _).alloc _).alloc _).trans h;have z1:w.heap.size+2≤w1.heap.size:=by have:=h.sz;(try simp at this);omega
 have t:=xQ (ag.out.trans al);clear ag;have n:=xQ (show Blk w1 w TH3 #[aA,aB,.slice (some ⟨b,a,none⟩) xs d] by have:=((Blk.new w TH3 #[aA,aB,.slice (some ⟨b,a,none⟩) xs d]).alloc _).ext h;simpa using this);have aj:=xQ (show Blk w1 (w.heap.size+1) TH3 #[(),(),((),())] by have:=(Blk.new (w.alloc (.cells #[aA,aB,.slice (some ⟨b,a,none⟩) xs d] TH3)) TH3 #[(),(),((),())]).ext h;simpa using this);clear al h;have c_:=n.out.tri;go_wp2_with fail;clear c_;refine(HC _ t.out).mono ?_;rintro e w2 ⟨q,cq,rfl,ho,ab⟩;have k:Ext w1 w2:=by exact ab
 have z2:w1.heap.size+0≤w2.heap.size:=by have:=ab.sz;(try simp at this);omega
 have i:=xQ (t.out.trans k);have o:=xQ (n.out.ext k);have u:=xQ (aj.out.ext k);clear t n aj k;have ae:(w:Nat)<w2:=o.out.lt;obtain⟨g,rfl,a1,a2⟩:=gH ho (by omega);have f:=xQ (ho);clear ab ho;have cx:w2.cell? ⟨b,a,none⟩=some (I x):=(Ext.cells i.out).1 _ _ hb |>.trans am.out;have lb:b<w2:=aVy hb i.out.sz;have c_:=o.out.tri;have av:w2.cell? ⟨g,0,none⟩=some (I x):=by have:=f.out.cellAt 0 (by omega);rw[this];simpa[ivs]using ao.out
 have aw:w2.frozen? ⟨g,0,none⟩=false:=f.out.frozenAt 0;go_upto_region 7 with((go_at_call 32;(with_reducible refine(HI _).mono ?_);rintro e w9 ⟨rfl,rfl⟩));clear cx av aw c_;have y3:=(f.out.stored (0) (I id)).1;have y:ExtR (g) w2 _:=(f.out.stored (0) (I id)).2;have m:(World.setCell w2 ⟨g,0,none⟩ (I id)).heap.size=w2.heap.size:=by simp
 generalize au:World.setCell _ _ _=w3 at*;rw[←m];clear au;have z3:(w2:Nat)≤w3:=aYe m.symm;have a6:(w3:Nat)≤w2:=aYe m;clear m;have ah:=xQ (ExtR.new i y (by omega));have ak:=xQ (show Blk w3 (w.heap.size+1) _ _ from(y.block _ u.out.lt (by first|(simp;done)|(simp;omega))).trans u.out);have r:=xQ (y3);clear i o u f y y3 ae;go_wp2_with fail;refine Ω (an (w3.alloc (.cells #[aA,aB,.slice (some ⟨g,0,none⟩) xs cq] TH3)) _ _ (by rw[←eW];exact Sl.own (r.out.alloc _))) fun w4 ad=>?_
 have l:Ext w3 w4:=((Ext.refl _).alloc _).trans ad;have ai:=xQ (ah.out.trans l);have j:=xQ (ak.out.ext l);have s:=xQ (aM r l);clear ah ak r;have af:=xQ (show Blk w4 w3 TH3 #[aA,aB,.slice (some ⟨g,0,none⟩) xs cq] by have:=(Blk.new w3 TH3 #[aA,aB,.slice (some ⟨g,0,none⟩) xs cq]).ext ad;simpa using this);clear l ad;have v_:=af.out.tri;obtain⟨z0,ax,z1,ay,z2,az⟩:=j.out.trif;go_wp2;have y5:=((j.out.set 0 (I aA)).set 1 (I aB)).set 2 (.slice (some ⟨g,0,none⟩) xs cq);simp only[aWg,aWe,aWf]at y5;generalize aa:World.setCell _ _ _=w5;rw[aa]at y5;have z:ExtR (w.heap.size+1) w4 w5:=by rw[←aa];exact(((ExtR.refl (w.heap.size+1) w4).setCell (p:=⟨w.heap.size+1,0,none⟩) (.inl rfl) (I aA)).setCell (p:=⟨w.heap.size+1,1,none⟩) (.inl rfl) (I aB)).setCell (p:=⟨w.heap.size+1,2,none⟩) (.inl rfl) (.slice (some ⟨g,0,none⟩) xs cq)
 clear aa;have aq:=xQ (ExtR.new ai z (by omega));have ar:=xQ (y5);have ap:=xQ (s.out.kept z (.inr (eH s j.out (by decide))));clear ai j s af z y5 v_ z0 ax z1 ay z2 az;have y_:=ar.out.tri;exact aYw (v:= .tuple #[.agg #[aA,aB,.slice (some ⟨g,0,none⟩) xs cq],.bool true]) (fL (by simp) (bF (by rw[←eW];exact ap.out) (by omega)) aq.out)
theorem aK9 (w:World)(a3:4≤xs.length)(hn:xs.length≤12)(ai:Hid (xs[0]? =some x))(hb:b<w.heap.size)(ag:Hid (w.cell? ⟨b,a,none⟩=some (I x)))(a5:(x !=0)=false)(a2:1≤id)(HI:Hid (∀w,U 32 #[(),(),((xs.length:Int)-1:Int)] w fun e w'=>e= .returned (.bool true)∧w=w'))(ah:Hid (∀w' q c,Sl w' q xs.length c 1 (ivs (xs.set 0 id))→U 30 #[aH aA aB q xs.length c] w' (Z (.bool false) w')))(HV:xB 30 #[aH aA aB (some ⟨b,a,none⟩) xs.length d] w true)(HC:Hid (∀w',Ext w w'→U 87 #[aH aA aB (some ⟨b,a,none⟩) xs.length d] w' (eA aA aB xs w'))):
  U 124 #[aH aA aB (some ⟨b,a,none⟩) xs.length d,(),id] w (dL aA aB xs false w):=by
 have az:=aYu (id<1);go_enter func124,ntmps124;have am:=xQ (Ext.refl w);go_wp2_with fail;refine Ω (HV _ (by exact .alloc (.alloc (.refl _) _) _)) fun w1 i=>?_
 have ax:Ext w w1:=(((Ext.refl _).alloc _).alloc _).trans i;have z1:w.heap.size+2≤w1.heap.size:=by have:=i.sz;(try simp at this);omega
 have u:=xQ (am.out.trans ax);have s:=xQ (show Blk w1 w TH3 #[aA,aB,.slice (some ⟨b,a,none⟩) xs d] by have:=((Blk.new w TH3 #[aA,aB,.slice (some ⟨b,a,none⟩) xs d]).alloc _).ext i;simpa using this);have aq:=xQ (show Blk w1 (w.heap.size+1) TH3 #[(),(),((),())] by have:=(Blk.new (w.alloc (.cells #[aA,aB,.slice (some ⟨b,a,none⟩) xs d] TH3)) TH3 #[(),(),((),())]).ext i;simpa using this);have c_:=s.out.tri;go_wp2_with fail;refine(HC _ u.out).mono ?_;rintro e w2 ⟨q,cq,rfl,ho,ad⟩;have n:Ext w1 w2:=by exact ad
 have z2:w1.heap.size+0≤w2.heap.size:=by have:=ad.sz;(try simp at this);omega
 have k:=xQ (u.out.trans n);have f:=xQ (s.out.ext n);have z:=xQ (aq.out.ext n);have ay:(w:Nat)<w2:=f.out.lt;obtain⟨g,rfl,a0,a1⟩:=gH ho (by omega);have h:=xQ (ho);have cx:w2.cell? ⟨b,a,none⟩=some (I x):=(Ext.cells k.out).1 _ _ hb |>.trans ag.out;have lb:b<w2:=aVy hb k.out.sz;have c_:=f.out.tri;have a6:w2.cell? ⟨g,0,none⟩=some (I x):=by have:=h.out.cellAt 0 (by omega);rw[this];simpa[ivs]using ai.out
 have a7:w2.frozen? ⟨g,0,none⟩=false:=h.out.frozenAt 0;go_upto_region 7 with((go_at_call 32;(with_reducible refine(HI _).mono ?_);rintro e w9 ⟨rfl,rfl⟩));have y3:=(h.out.stored (0) (I id)).1;have m:ExtR (g) w2 _:=(h.out.stored (0) (I id)).2;have r:(World.setCell w2 ⟨g,0,none⟩ (I id)).heap.size=w2.heap.size:=by simp
 generalize a4:World.setCell _ _ _=w3 at*;rw[←r];have z3:(w2:Nat)≤w3:=aYe r.symm;have bb:(w3:Nat)≤w2:=aYe r;have an:=xQ (ExtR.new k m (by omega));have aj:=xQ (show Blk w3 w _ _ from(m.block _ f.out.lt (by first|(simp;done)|(simp;omega))).trans f.out);have ar:=xQ (show Blk w3 (w.heap.size+1) _ _ from(m.block _ z.out.lt (by first|(simp;done)|(simp;omega))).trans z.out);have al:=xQ (y3);go_wp2_with fail;refine Ω (ah (w3.alloc (.cells #[aA,aB,.slice (some ⟨g,0,none⟩) xs cq] TH3)) _ _ (by rw[←eW];exact Sl.own (al.out.alloc _))) fun w4 ae=>?_
 have o:Ext w3 w4:=((Ext.refl _).alloc _).trans ae;have z4:w3.heap.size+1≤w4.heap.size:=by have:=ae.sz;(try simp at this);omega
 have y:=xQ (an.out.trans o);have ak:=xQ (aj.out.ext o);have au:=xQ (ar.out.ext o);have h_:=ak.out.tri;go_wp2_with fail;refine(HC _ y.out).mono ?_;rintro e w5 ⟨q5,c5,rfl,o5,aw⟩;have af:Ext w4 w5:=by exact aw
 have ao:=xQ (y.out.trans af);have l:=xQ (au.out.ext af);have j:=xQ (o5);obtain⟨z0,a8,z1,a9,z2,ba⟩:=l.out.trif;go_wp2;have y6:=((l.out.set 0 (I aA)).set 1 (I aB)).set 2 (.slice q5 xs c5);simp only[aWg,aWe,aWf]at y6;generalize ab:World.setCell _ _ _=w6;rw[ab]at y6;have aa:ExtR (w.heap.size+1) w5 w6:=by rw[←ab];exact(((ExtR.refl (w.heap.size+1) w5).setCell (p:=⟨w.heap.size+1,0,none⟩) (.inl rfl) (I aA)).setCell (p:=⟨w.heap.size+1,1,none⟩) (.inl rfl) (I aB)).setCell (p:=⟨w.heap.size+1,2,none⟩) (.inl rfl) (.slice q5 xs c5)
 have ap:=xQ (ExtR.new ao aa (by omega));have av:=xQ (y6);have t:=xQ (j.out.kept aa (.inr (eH j l.out (by decide))));have y_:=av.out.tri;exact aYw (v:= .tuple #[.agg #[aA,aB,.slice q5 xs c5],.bool false]) (fL (by simp) (bF (by exact t.out) (by omega)) ap.out)
theorem aQc (w:World)(a2:4≤xs.length)(hn:xs.length≤12)(an:Hid (xs[0]? =some x))(hb:b<w.heap.size)(ab:Hid (w.cell? ⟨b,a,none⟩=some (I x)))(HI:Hid (∀w,U 32 #[(),(),((xs.length:Int)-1:Int)] w fun e w'=>e= .returned (.bool true)∧w=w'))(HV:xB 30 #[aH aA aB (some ⟨b,a,none⟩) xs.length c] w true)(HC:Hid (∀w',Ext w w'→U 87 #[aH aA aB (some ⟨b,a,none⟩) xs.length c] w' (eA aA aB xs w'))):
  U 127 #[aH aA aB (some ⟨b,a,none⟩) xs.length c,()] w (dK aA aB (xs.set 0 0) x w):=by
 go_enter func127,ntmps127;have ah:=xQ (Ext.refl w);go_wp2_with fail;refine Ω (HV _ (by exact .alloc (.alloc (.refl _) _) _)) fun w1 h=>?_
 have am:Ext w w1:=(((Ext.refl _).alloc _).alloc _).trans h;have z1:w.heap.size+2≤w1.heap.size:=by have:=h.sz;(try simp at this);omega
 have o:=xQ (ah.out.trans am);clear ah;have m:=xQ (show Blk w1 w TH3 #[aA,aB,.slice (some ⟨b,a,none⟩) xs c] by have:=((Blk.new w TH3 #[aA,aB,.slice (some ⟨b,a,none⟩) xs c]).alloc _).ext h;simpa using this);have aj:=xQ (show Blk w1 (w.heap.size+1) TH3 #[(),(),((),())] by have:=(Blk.new (w.alloc (.cells #[aA,aB,.slice (some ⟨b,a,none⟩) xs c] TH3)) TH3 #[(),(),((),())]).ext h;simpa using this);clear am h;obtain⟨c0,c1,c2⟩:=m.out.tri;go_wp2_with fail;clear c0 c1 c2;refine(HC _ o.out).mono ?_;rintro e w2 ⟨q,cq,rfl,ho,z⟩;have k:Ext w1 w2:=by exact z
 have z2:w1.heap.size+0≤w2.heap.size:=by have:=z.sz;(try simp at this);omega
 have r:=xQ (o.out.trans k);have d:=xQ (m.out.ext k);have t:=xQ (aj.out.ext k);clear o m aj k;have aa:(w:Nat)<w2:=d.out.lt;obtain⟨g,rfl,a0,a1⟩:=gH ho (by omega);have f:=xQ (ho);clear z ho;have cx:w2.cell? ⟨b,a,none⟩=some (I x):=(Ext.cells r.out).1 _ _ hb |>.trans ab.out;obtain⟨c0,c1,c2⟩:=d.out.tri;have au:w2.cell? ⟨g,0,none⟩=some (I x):=by have:=f.out.cellAt 0 (by omega);rw[this];simpa[ivs]using an.out
 have av:w2.frozen? ⟨g,0,none⟩=false:=f.out.frozenAt 0;go_upto_region 7 with((go_at_call 32;(with_reducible refine(HI _).mono ?_);rintro e w9 ⟨rfl,rfl⟩));clear cx au av c0 c1 c2;have y3:=(f.out.stored (0) (I 0)).1;have j:ExtR (g) w2 _:=(f.out.stored (0) (I 0)).2;have l:(World.setCell w2 ⟨g,0,none⟩ (I 0)).heap.size=w2.heap.size:=by simp
 generalize ar:World.setCell _ _ _=w3 at*;rw[←l];clear ar;have z3:(w2:Nat)≤w3:=aYe l.symm;have a3:(w3:Nat)≤w2:=aYe l;clear l;have ai:=xQ (ExtR.new r j (by omega));have ad:=xQ (show Blk w3 w _ _ from(j.block _ d.out.lt (by first|(simp;done)|(simp;omega))).trans d.out);have ak:=xQ (show Blk w3 (w.heap.size+1) _ _ from(j.block _ t.out.lt (by first|(simp;done)|(simp;omega))).trans t.out);have af:=xQ (y3);clear r d t f j y3 aa;have hV:Blk (w3.alloc (.cells #[aA,aB,.slice (some ⟨g,0,none⟩) xs cq] TH3)) w3 TH3 #[aA,aB,.slice (some ⟨g,0,none⟩) xs cq]:=Blk.new _ _ _;generalize al:w3.alloc (.cells #[aA,aB,.slice (some ⟨g,0,none⟩) xs cq] TH3)=w4 at*;have e4:Ext w3 w4:=by rw[←al];exact(Ext.refl _).alloc _
 clear al;have s:=xQ (ai.out.trans e4);clear ai;have ae:=xQ (ad.out.ext e4);clear ad;have i:=xQ (ak.out.ext e4);clear ak;have n:=xQ (aM af e4);clear af;have ag:=xQ hV;clear hV e4;have cx:w4.cell? ⟨b,a,none⟩=some (I x):=(Ext.cells s.out).1 _ _ hb |>.trans ab.out;have az:0<xs.length:=by omega
 have n2: ¬(w.heap.size+1=w3.heap.size):=by omega
 have n4: ¬(w.heap.size+1=b):=by omega
 have v_:=ag.out.tri;have c2:=ae.out.cl 2;obtain⟨z0,aw,z1,ax,z2,ay⟩:=i.out.trif;go_region_held3 (fun w'=>w'.cell? ⟨w3,0,none⟩=some (I aA)∧w'.cell? ⟨w3,1,none⟩=some (I aB)∧w'.cell? ⟨w3,2,none⟩=some (.slice (some ⟨g,0,none⟩) xs cq)∧w'.cell? ⟨w,2,none⟩=some (.slice (some ⟨b,a,none⟩) xs c)∧w'.cell? ⟨b,a,none⟩=some (I x)) (first|(refine⟨?_,?_,?_,?_,?_⟩<;>assumption)|go_keep) (fail);go_wp2;have y5:=((i.out.set 0 (I aA)).set 1 (I aB)).set 2 (.slice (some ⟨g,0,none⟩) xs cq);simp only[aWg,aWe,aWf]at y5;generalize y:World.setCell _ _ _=w5;rw[y]at y5;have u:ExtR (w.heap.size+1) w4 w5:=by rw[←y];exact(((ExtR.refl (w.heap.size+1) w4).setCell (p:=⟨w.heap.size+1,0,none⟩) (.inl rfl) (I aA)).setCell (p:=⟨w.heap.size+1,1,none⟩) (.inl rfl) (I aB)).setCell (p:=⟨w.heap.size+1,2,none⟩) (.inl rfl) (.slice (some ⟨g,0,none⟩) xs cq)
 clear y;have ap:=xQ (ExtR.new s u (by omega));have aq:=xQ (y5);have ao:=xQ (n.out.kept u (.inr (eH n i.out (by decide))));clear s ae i n ag u y5 cx v_ c2 z0 aw z1 ax z2 ay;have y_:=aq.out.tri;exact aYw (v:= .tuple #[.agg #[aA,aB,.slice (some ⟨g,0,none⟩) xs cq],x]) (fY (by simp) (bF (by rw[←eW];exact aM ao (Ext.refl _).drew) (by omega)) ap.out.drew)
theorem aJ7 (hS:Sl w p n a 1 (ivs xs))(g:aO aA aB xs=true):
  U 124 #[aH aA aB p n a,(),id] w (dL aA aB (dM aA aB xs id).1 (dM aA aB xs id).2 w):=by
 have hl:=hS.ilen;subst hl;obtain⟨g1,g2,g3,g4,g5,g6,g7,g8,g9⟩:=bS g;obtain⟨b,d,x,rfl,hx,hb,hc⟩:=hS.int_at (k:=0) (by omega);have f:w.cell? ⟨b,d,none⟩=some (I x):=by simpa using hc
 have i:xs.getD 0 0=x:=by rw[aW7,hx];rfl
 have HV:=fun(w':World) (hy:Ext w w')=>iJ aA aB _ xs.length a xs w' (hS.ext hy)
 rw[g]at HV;have HC:=fun(w':World) (hy:Ext w w')=>iY aA aB _ xs.length a xs w' (by omega) (hS.ext hy)
 have HI:=fun(w:World)=>qD 0 0 ((xs.length:Int)-1) w (by omega) (by omega)
 unfold dM;rw[i];by_cases e0:x=0
 ·have e1:(x !=0)=false:=by simp[e0]
  by_cases hi:1≤id
  ·have e:=fun(w':World) q c (h:Sl w' q xs.length c 1 (ivs (xs.set 0 id)))=>iJ aA aB q xs.length c (xs.set 0 id) w' h
   cases h2:aO aA aB (xs.set 0 id)with
   |true=>rw[h2]at e;rw[if_pos ⟨e0,hi,rfl⟩];exact aK8 aA aB id b d a x xs w g5 g6 hx hb f e1 hi HI e HV HC
   |false=>rw[h2]at e;rw[if_neg (by simp)];exact aK9 aA aB id b d a x xs w g5 g6 hx hb f e1 hi HI e HV HC
  rw[if_neg (fun h=>hi h.2.1)];exact aNt aA aB id b d a x xs w g5 g6 hx hb f e1 (by omega) HI HV HC
 rw[if_neg (fun h=>e0 h.1)];exact aHt aA aB id b d a x xs w g5 g6 hx hb f (by simpa using e0) HI HV HC
theorem aGu (hS:Sl w p n a 1 (ivs xs))(c:aO aA aB xs=true):
  U 127 #[aH aA aB p n a,()] w (dK aA aB (xs.set 0 0) (xs.getD 0 0) w):=by
 have hl:=hS.ilen;subst hl;obtain⟨g1,g2,g3,g4,g5,g6,g7,g8,g9⟩:=bS c;obtain⟨b,d,x,rfl,hx,hb,hc⟩:=hS.int_at (k:=0) (by omega);have e:w.cell? ⟨b,d,none⟩=some (I x):=by simpa using hc
 have f:xs.getD 0 0=x:=by rw[aW7,hx];rfl
 have HV:=fun(w':World) (hy:Ext w w')=>iJ aA aB _ xs.length a xs w' (hS.ext hy)
 rw[c]at HV;rw[f];exact aQc aA aB b d a x xs w g5 g6 hx hb e (fun w=>qD 0 0 ((xs.length:Int)-1) w (by omega) (by omega)) HV (fun(w':World) (hy:Ext w w')=>iY aA aB _ xs.length a xs w' (by omega) (hS.ext hy))
abbrev Sl2:=Int×Int
def aK (s:Sl2):List Value:= [.int .i64 s.1,.int .i64 s.2]
def iO (l:List Sl2)(w:World)(e:Ending)(w':World):Prop:=
 ∃p cap,e= .returned (.slice p l.length cap)∧w'.ownsRow w.heap.size TSL 2 (.slice p l.length cap) l.length (l.flatMap aK)∧Ext w w'
theorem uG:ElT prog 150 TSL 2:=
 ⟨underlying150,by
  obtain⟨i,hi,h0,h1,h2⟩:=info_parts (show(prog.info? TSL).map (fun i=>(i.zero,i.size,i.bytes))=some (some (.agg #[(),()]),2,16) by kernel_rfl)
  exact⟨i,_,hi,h0,h1,by omega,rfl⟩,by omega⟩
theorem aCo (a b:Value)(t:TypeId): ∀j u,([a,b]:List Value)[j]? =some u→(w.alloc (.cells #[a,b] t)).cell? ⟨w,0+j,none⟩=some u:=by
 intro j u hu;rw[aWz]
 match j,hu with
 |0,hu=>simp at hu;subst hu;exact(Blk.new w t #[a,b]).cell 0
 |1,hu=>simp at hu;subst hu;exact(Blk.new w t #[a,b]).cell 1
def mU (m:Nat→Bool)(f:Nat):Nat→List Sl2
 |0=> []
 |k+1=>mU m f k++(if m k then [((f:Int),(k:Int))]else [])
def eS (m:Nat→Nat→Bool)(n:Nat):Nat→List Sl2
 |0=> []
 |k+1=>eS m n k++mU (m k) k n
theorem aR1 (m:Nat→Bool)(f k:Nat):(mU m f k).length≤k:=by
 induction k with
 |zero=>exact aVz _
 |succ k ih=>unfold mU;rw[aW5];split<;>simp<;>omega
theorem aE6 (m:Nat→Nat→Bool)(n k:Nat):(eS m n k).length≤k*n:=by
 induction k with
 |zero=>simp[eS]
 |succ k ih=>unfold eS;rw[aW5,aY6];have:=aR1 (m k) k n;omega
def jY (aA aB:Int)(xs:List Int):List Sl2:=eS (fun f t=>bM aA aB xs f t) xs.length xs.length
theorem aQ5 (m:Nat→Nat→Bool)(w:World)(hn:n≤12)(HM:Hid (∀(f t:Nat),f<n→t<n→ ∀w',Ext w w'→U 130 #[aH aA aB p n d,eV (f:Int) (t:Int)] w' (Z (.bool (m f t)) w'))):
  U 121 #[aH aA aB p n d] w (iO (eS m n n) w):=by
 go_enter func121,ntmps121;go_wp2;go_loopw [3,4] (fun v i wr=> ∃(k:Nat) (q:OA) (l c:Nat),k≤n∧i=I k∧v= .slice q l c∧l≤k*n∧wr.ownsRow (w.heap.size+1) TSL 2 (.slice q l c) l ((eS m n k).flatMap aK)∧Ext w wr∧Blk wr w TH3 #[aA,aB,.slice p n d]) (fun _ i _=>n-(intOf i).toNat)
 case atStart=>have ho:((w.alloc (.cells #[aA,aB,.slice p n d] TH3)).alloc (.cells #[] TSL)).ownsRow (w.heap.size+1) TSL 2 (.slice (some ⟨(w.alloc (.cells #[aA,aB,.slice p n d] TH3)).heap.size,0,none⟩) 0 0) 0 []:=aX7 _ #[] 0 (by simp) (by simp[maxLen]) rfl;exact⟨0,_,0,0,aW6 _,rfl,rfl,by simp,by simpa[eS]using ho,by exact .alloc (.alloc (.refl _) _) _,(Blk.new w _ _).alloc _⟩
 case round=>
  obtain⟨k,q,l,c,hk,rfl,rfl,ab,b,g,hB⟩:=hrel;have HO:=xQ b;have HB:=xQ hB;have ae:(w:Nat)<wr:=hB.lt;have ad:Hid (l=(eS m n k).length):=by have:=b.1;rw[eC aK 2 (fun _=>rfl)]at this;show _=_;omega
  obtain⟨b0,b1,b2⟩:=HB.out.cells3;by_cases hlt:k<n
  ·have ag:k*n≤132:=by have:=Nat.mul_le_mul (show k≤11 by omega) hn;omega
   go_wp2;obtain⟨wo,rfl⟩: ∃wo:World,wo=wr:=⟨_,rfl⟩
   go_loopw [3,5] (fun v i wr=> ∃(j:Nat) (q:OA) (l c:Nat),j≤n∧i=I j∧v= .slice q l c∧l≤k*n+j∧wr.ownsRow (w.heap.size+1) TSL 2 (.slice q l c) l ((eS m n k++mU (m k) k j).flatMap aK)∧Ext w wr∧Blk wr w TH3 #[aA,aB,.slice p n d]) (fun _ i _=>n-(intOf i).toNat)
   case atStart=>exact⟨0,q,l,c,aW6 _,rfl,rfl,by omega,by simpa[mU]using HO.out,g,HB.out⟩
   case round=>
    obtain⟨j,q,l,c,hj,rfl,rfl,ab,b,g,hB⟩:=hrel;have HO:=xQ b;have HB:=xQ hB;have ae:(w:Nat)<wr:=hB.lt;obtain⟨b0,b1,b2⟩:=HB.out.cells3;by_cases hlt2:j<n
    ·go_wp2_with fail;refine Ω (HM k j hlt hlt2 _ g) fun w1 h1=>?_
     have h:=xQ (aM HO h1);have r:=xQ (HB.out.ext h1);have o:=xQ (g.trans h1);have af:(w:Nat)<w1:=r.out.lt;cases hm:m k j with
     |true=>
      have a:Hid (eS m n k++mU (m k) k (j+1)=(eS m n k++mU (m k) k j)++ [((k:Int),(j:Int))]):=by show _=_;rw[mU,if_pos hm,aWu]
      go_wp2_with (at_builtin;refine jV uG (f:=aK) (fun _=>rfl) (fun _ u hu=>by simp[aK]at hu;rcases hu with rfl|rfl<;>rfl) rfl _ _ rfl (w.heap.size+1) _ _ _ rfl (h.out.alloc _) _ _ ((k:Int),(j:Int)) _ rfl (aCo _ _ _ _) (by omega) (by first|(simp;done)|(simp;omega)) ?_;intro p' cap' w2 hown1 hg1;have x:=xQ hown1;have y:Ext w w2:=Ext.own (o.out.alloc _) (h.out.alloc _) hg1 (by omega);have s:=xQ (uL h hg1 r.out);clear hown1 hg1);go_roundw
      case rel=>exact⟨j+1,p',l+1,cap',by omega,by go_num,rfl,by omega,by rw[a.out];exact x.out,y,s.out⟩
      case measure=>simp[intOf];omega
     |false=>
      have a:Hid (eS m n k++mU (m k) k (j+1)=eS m n k++mU (m k) k j):=by show _=_;rw[mU,if_neg (by rw[hm];simp),aWr]
      go_wp2;go_roundw
      case rel=>exact⟨j+1,q,l,c,by omega,by go_num,rfl,by omega,by rw[a.out];exact h.out,o.out,r.out⟩
      case measure=>simp[intOf];omega
    have a:Hid (eS m n k++mU (m k) k j=eS m n (k+1)):=by show _=_;rw[eS,show j=n by omega]
    have z:k*n+n=(k+1)*n:=(aY6 k n).symm;go_wp2;go_roundw
    case rel=>exact⟨k+1,q,l,c,by omega,by go_num,rfl,by rw[←z];omega,by rw[←a.out];exact HO.out,g,HB.out⟩
    case measure=>simp[intOf];omega
  have a:Hid (eS m n k=eS m n n):=by show _=_;rw[show k=n by omega]
  go_wp2;go_ret;have aa:(eS m n n).length=l:=by rw[←a.out];exact ad.out.symm
  subst aa;exact⟨q,c,rfl,by rw[a.out]at HO;exact bF HO (Nat.le_succ _),g⟩
theorem aD6 (hS:Sl w p n a 1 (ivs xs))(b:aO aA aB xs=true):
  U 121 #[aH aA aB p n a] w (iO (jY aA aB xs) w):=by
 have hl:=hS.ilen;subst hl;obtain⟨g1,g2,g3,g4,g5,g6,g7,g8,g9⟩:=bS b;exact aQ5 aA aB p xs.length a _ w g6 (fun f t _ _ w' hx=>aK0 aA aB f t p xs.length a xs w' (hS.ext hx))
theorem aQt {xs:List Int}{i j:Nat}{a b:Int}(hi:xs[i]? =some a)(hj:xs[j]? =some b)(d:i≠j):List.Perm ((xs.set j a).set i b) xs:=by
 induction xs generalizing i j with
 |nil=>simp at hi
 |cons x xs ih=>
  cases i with
  |zero=>
   cases j with
   |zero=>exact absurd rfl d
   |succ j=>
    simp only[aYg,aX3,aYd]at hi hj;subst hi;simp only[aWf,aWe];obtain⟨c,rfl⟩:=aW3.1 hj;clear ih d hj;induction xs generalizing j with
    |nil=>simp at c
    |cons y ys ih2=>
     cases j with
     |zero=>simpa using List.Perm.swap x y ys
     |succ j=>simp only[aX0,Nat.add_lt_add_iff_right]at c;simp only[aWf,List.getElem_cons_succ];exact(List.Perm.swap y _ _).trans ((List.Perm.cons y (ih2 j c)).trans (List.Perm.swap x y ys))
  |succ i=>
   cases j with
   |zero=>
    simp only[aYg,aX3,aYd]at hi hj;subst hj;simp only[aWf,aWe];obtain⟨c,rfl⟩:=aW3.1 hi;clear ih d hi;induction xs generalizing i with
    |nil=>simp at c
    |cons y ys ih2=>
     cases i with
     |zero=>simpa using List.Perm.swap x y ys
     |succ i=>simp only[aX0,Nat.add_lt_add_iff_right]at c;simp only[aWf,List.getElem_cons_succ];exact(List.Perm.swap y _ _).trans ((List.Perm.cons y (ih2 i c)).trans (List.Perm.swap x y ys))
   |succ j=>simp only[aYd]at hi hj;simp only[aWf];exact List.Perm.cons x (ih hi hj (by omega))
theorem aA6 {aA aB:Int}{xs ys:List Int}(h:aO aA aB xs=true)(hp:List.Perm ys xs):aO aA aB ys=true:=by unfold aO at*;rw[aWc]at*;refine⟨by rw[hp.length_eq];exact h.1,?_⟩;obtain⟨h1,h2,h3⟩:=(fW _ _).1 h.2;exact(fW _ _).2 ⟨fun x hx=>h1 x (hp.mem_iff.1 hx),fun x hx=>h2 x (hp.mem_iff.1 hx),(hp.filter _).nodup_iff.2 h3⟩
theorem qS {aA aB:Int}{xs:List Int}:List.Perm (bQ aA aB xs f t) xs:=by
 unfold bQ;cases h:bM aA aB xs f t with
 |false=>exact List.Perm.refl _
 |true=>
  rw[if_pos rfl];obtain⟨k1,k2,k3,k4,k5,k6,k7,k8,k9⟩:=oD h;refine aQt ?_ ?_ (by omega)
  ·rw[aW7,aW0 (by omega)];rfl
  rw[aW0 (by omega)];rw[aW7,aW0 (by omega)]at k8;simpa using k8
theorem kS {aA aB:Int}{xs:List Int}(h:aO aA aB xs=true):aO aA aB (bQ aA aB xs f t)=true:=aA6 h (qS f t)
def bJ (aA aB:Int):List Int→List Sl2→List Int×Nat
 |xs,[]=>(xs,0)
 |xs,s::l=>if bM aA aB xs s.1 s.2 then((bJ aA aB (bQ aA aB xs s.1 s.2) l).1,(bJ aA aB (bQ aA aB xs s.1 s.2) l).2+1)else(xs,0)
theorem fQ {aA aB:Int}{xs:List Int}{s:Sl2}{l:List Sl2}(h:bM aA aB xs s.1 s.2=true):bJ aA aB xs (s::l)=((bJ aA aB (bQ aA aB xs s.1 s.2) l).1,(bJ aA aB (bQ aA aB xs s.1 s.2) l).2+1):=by rw[bJ,if_pos h]
theorem mT {aA aB:Int}{xs:List Int}{s:Sl2}{l:List Sl2}(h:bM aA aB xs s.1 s.2=false):bJ aA aB xs (s::l)=(xs,0):=by rw[bJ,if_neg (by rw[h];simp)]
theorem uY {aA aB:Int}: ∀(l:List Sl2) (xs:List Int) (s:Sl2),(bJ aA aB xs l).2=l.length→bJ aA aB xs (l++ [s])=(if bM aA aB (bJ aA aB xs l).1 s.1 s.2 then(bQ aA aB (bJ aA aB xs l).1 s.1 s.2,l.length+1)else((bJ aA aB xs l).1,l.length)):=by
 intro l;induction l with
 |nil=>
  intro xs s _;cases h:bM aA aB xs s.1 s.2 with
  |true=>rw[aXz,fQ h];simp[bJ,h]
  |false=>rw[aXz,mT h];simp[bJ,h]
 |cons a l ih=>
  intro xs s h;cases ha:bM aA aB xs a.1 a.2 with
  |false=>rw[mT ha]at h;simp at h
  |true=>
   rw[fQ ha]at h;have h':(bJ aA aB (bQ aA aB xs a.1 a.2) l).2=l.length:=by simpa using h
   rw[aXs,fQ ha,fQ ha,ih _ s h'];dsimp only;split<;>simp
theorem aD7 {aA aB:Int}: ∀(l r:List Sl2) (xs:List Int),(bJ aA aB xs l).2<l.length→bJ aA aB xs (l++r)=bJ aA aB xs l:=by
 intro l;induction l with
 |nil=>intro r xs h;simp at h
 |cons a l ih=>
  intro r xs h;cases ha:bM aA aB xs a.1 a.2 with
  |false=>rw[aXs,mT ha,mT ha]
  |true=>
   rw[fQ ha]at h;have h':(bJ aA aB (bQ aA aB xs a.1 a.2) l).2<l.length:=by simpa using h
   rw[aXs,fQ ha,fQ ha,ih r _ h']
theorem sH {aA aB:Int}: ∀(l:List Sl2) (xs:List Int),aO aA aB xs=true→aO aA aB (bJ aA aB xs l).1=true∧(bJ aA aB xs l).1.length=xs.length∧List.Perm (bJ aA aB xs l).1 xs:=by
 intro l;induction l with
 |nil=>intro xs h;exact⟨h,rfl,List.Perm.refl _⟩
 |cons a l ih=>
  intro xs h;unfold bJ;split
  ·obtain⟨a1,a2,a3⟩:=ih _ (kS a.1 a.2 h);exact⟨a1,a2.trans (dO _ _ _ _ _),a3.trans (qS _ _)⟩
  exact⟨h,rfl,List.Perm.refl _⟩
end Go.Proofs.YthfmmibomhhmpabGreatDoor
