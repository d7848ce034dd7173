/-
  Texts of this proof, packed (@packed).
-/
import Derived.Test.YtbgkcehffiogcacGreatDoorQ32
namespace Go.Proofs.YtbgkcehffiogcacGreatDoor
open Go.RowKit
set_option linter.unusedSimpArgs false
set_option linter.unusedVariables false
set_option maxHeartbeats 8000000
set_option maxRecDepth 100000
section
open Go.Proofs.Tryz
theorem aQ9:ElT prog 42 9 1:=
 ⟨underlying42,by
  obtain⟨i,hi,h0,h1,h2⟩:=info_parts (show(prog.info? 9).map (fun i=>(i.zero,i.size,i.bytes))=some (some (.string ⟨#[]⟩),1,16) by kernel_rfl)
  exact⟨i,_,hi,h0,h1,by omega,rfl⟩,Nat.one_pos⟩
theorem qC (xs:List (List UInt8)):xs.flatMap (fun s=> [str s])=bX xs:=by induction xs with|nil=>rfl|cons x xs ih=>simp_all [bX]
theorem rQ {w:World}{i:Array Oper}{rest:List Oper}{o:Oper}{a:Act}{Q:Exit→Act→World→Prop}(k:o.guard=none)(s x:Operand)
  (ho:o.op= .call {callee:= .builtin .append,args:=#[s,x],argTypes:=#[42,42]})
  (base:Nat)(v:Value)(n:Nat)(xs:List (List UInt8))(hs:a.eval s=v)(g:w.ownsRow base 9 1 v n (bX xs))
  (b e:Nat)(y:List UInt8)(c:Nat)(hx:a.eval x= .slice (some ⟨b,e,none⟩) 1 c)(hc:w.cell? ⟨b,e,none⟩=some (str y))
  (hn:n≤1099511627776)(d:base≤w.heap.size)
  (h: ∀p' cap' w',w'.ownsRow base 9 1 (.slice p' (n+1) cap') (n+1) (bX (xs++ [y]))→w.grownBy w' v.ownBlock→wpList prog i Q rest (a.put o.dst (.slice p' (n+1) cap')) w'):wpList prog i Q (o::rest) a w:=by
 refine kD aQ9 (f:=fun x=> [str x]) (fun _=>rfl) (fun _ u hu=>by simp at hu;subst hu;rfl) k s x ho base v n xs hs (by rw[qC];exact g) b e y c hx (fun j u hu=> ?_) hn d (fun p' cap' w' h2 h3=>h p' cap' w' (by rw[qC]at h2;exact h2) h3)
 match j,hu with
 |0,hu=>simp at hu;subst hu;exact hc
theorem Blk.sl {w:World}{g n:Nat}{t:TypeId}{cs:Array Value}(h:Blk w g t cs)(hn:cs.size=n)(hm:n≤maxLen):Sl w (some ⟨g,0,none⟩) n n 1 cs.toList:=
 ⟨by simpa using hn,aRp _,hm,fun _=>⟨g,0,rfl,h.lt,fun k hk=>by rw[aSs,h.cell k];simp⟩⟩
theorem Blk.own {w:World}{g n base:Nat}{t:TypeId}{cs:Array Value}(h:Blk w g t cs)(hn:cs.size=n)(hm:n≤maxLen)(hb:base≤g):w.ownsRow base t 1 (.slice (some ⟨g,0,none⟩) n n) n cs.toList:=
 ⟨by simpa using hn,.inr ⟨g,n,cs,rfl,hb,h,aRp _,hm,by omega,by rw[Nat.mul_one,aRu (by simp;omega)]⟩⟩
theorem aC7 (aA aB a c aD aF aC aG:Int)(p:OA)(n cap:Nat)(q:OA)(m c2:Nat)(w:World)(vs:List aP)(p1 p2 p3 p4:List UInt8)(bq:m≤12)(hl:Hid (vs.length=m))(HS:Hid (Sl w q m c2 4 (vs.flatMap aE)))
  (HL:Hid ((iA 59 ([p1,p2,p3,p4]++vs.map (fun v=>bK (cH v)))).length≤140737488355328))
  (HN:Hid (∀v∈vs,∀w' g,Ext w w'→Sl w' (some g) 4 4 1 (ivs (cH v))→U 131 #[.slice (some g) 4 4] w' (O (str (bK (cH v))) w')))
  (HV:xB 31 #[.agg #[aA,aB,.slice p n cap,a,c,aD,aF,aC,aG,.slice q m c2]] w true)
  (H1:xC 88 #[aH aA aB p n cap] w fun w' e w''=>e= .returned (str p1)∧Ext w' w'')
  (H2:Hid (∀w' g,Ext w w'→Sl w' (some g) 4 4 1 (ivs [a,c,aD,aF])→U 131 #[.slice (some g) 4 4] w' (O (str p2) w')))
  (H3:Hid (∀w' g,Ext w w'→Sl w' (some g) 1 1 1 (ivs [aC])→U 131 #[.slice (some g) 1 1] w' (O (str p3) w')))
  (H4:Hid (∀w' g,Ext w w'→Sl w' (some g) 1 1 1 (ivs [aG])→U 131 #[.slice (some g) 1 1] w' (O (str p4) w'))):
  U 90 #[.agg #[aA,aB,.slice p n cap,a,c,aD,aF,aC,aG,.slice q m c2]] w (O (str (iA 59 ([p1,p2,p3,p4]++vs.map (fun v=>bK (cH v))))) w):=by
 go_enter func90,ntmps90;go_wp2_with fail;refine Z (HV _ (by exact .alloc (.refl _) _)) fun w0 ai=>?_
 have B0:=xQ ((Blk.new w 35 #[aA,aB,.slice p n cap,a,c,aD,aF,aC,aG,.slice q m c2]).ext ai);have X0:Hid (Ext w w0):=by show Ext w w0;exact .trans (.alloc (.refl _) _) ai
 have f:=X0.out;have bv:(w:Nat)<w0:=B0.out.lt;clear ai;go_wp2;refine rL (gl [gEq (.pointer (some ⟨w,0,none⟩)),gEq (aH aA aB p n cap),gEq (str p1),gEq (.pointer (some ⟨w,3,none⟩)),gEq (.pointer (some ⟨w,3,none⟩)),gEq a,gEq (.pointer (some ⟨w,3,none⟩)),gEq (.pointer (some ⟨w,4,none⟩)),gEq c,gEq (.pointer (some ⟨w,3,none⟩)),gEq (.pointer (some ⟨w,5,none⟩)),gEq aD,gEq (.pointer (some ⟨w,3,none⟩)),gEq (.pointer (some ⟨w,6,none⟩)),gEq aF,aL5 w TI #[a,c,aD,aF] 4,gEq (str p2),gEq (.pointer (some ⟨w,7,none⟩)),gEq aC,aL5 w TI #[aC] 1,gEq (str p3),gEq (.pointer (some ⟨w,8,none⟩)),gEq aG,aL5 w TI #[aG] 1,gEq (str p4),aL5 (w.heap.size+1) 9 #[str p1,str p2,str p3,str p4] 4]) 26 27 [(0,some 9),(1,some 10),(2,some 11),(3,some 12),(4,some 13),(5,some 14),(6,some 15),(7,some 16),(8,some 17),(9,some 18),(10,some 19),(11,some 20),(12,some 21),(13,some 22),(14,some 23),(15,some 24),(16,some 25),(17,some 26),(18,some 27),(19,some 28),(20,some 29),(21,some 30),(22,some 31),(23,some 32),(24,some 33),(25,some 34)] ?steps ?fin
 case steps=>
  refine sS0 [] ?_;refine sC [(0,some 9)] rfl (fun wi hx=> ?_) ?_
  ·intro v0 h0 K hK;obtain rfl:=h0;have B:=xQ (B0.out.ext hx.of_drew);have c0:=B.out.cl 0;have c1:=B.out.cl 1;have c2:=B.out.cl 2;go_simp;exact hK _ _ ⟨aH aA aB p n cap,rfl,rfl,Ext.refl _⟩
  refine sC [(1,some 10)] rfl (fun wi hx=> ?_) ?_
  ·intro v1 h1 K hK;obtain rfl:=h1;go_wp2_with fail;refine Z (H1 _ (by exact .trans (.drew f) hx)) fun w2 d=>?_
   go_simp;exact hK _ _ ⟨str p1,rfl,rfl,d⟩
  refine sS0 [] (sS1 [(3,some 12)] ?_);refine sC [(4,some 13)] rfl (fun wi hx=> ?_) ?_
  ·intro v4 h4 K hK;obtain rfl:=h4;have B:=xQ (B0.out.ext hx.of_drew);have c3:=B.out.cl 3;go_simp;exact hK _ _ ⟨I a,rfl,rfl,Ext.refl _⟩
  refine sS0 [] (sS1 [(6,some 15)] ?_);refine sC [(7,some 16)] rfl (fun wi hx=> ?_) ?_
  ·intro v7 h7 K hK;obtain rfl:=h7;have B:=xQ (B0.out.ext hx.of_drew);have c4:=B.out.cl 4;go_simp;exact hK _ _ ⟨I c,rfl,rfl,Ext.refl _⟩
  refine sS0 [] (sS1 [(9,some 18)] ?_);refine sC [(10,some 19)] rfl (fun wi hx=> ?_) ?_
  ·intro bc o K hK;obtain rfl:=o;have B:=xQ (B0.out.ext hx.of_drew);have c5:=B.out.cl 5;go_simp;exact hK _ _ ⟨I aD,rfl,rfl,Ext.refl _⟩
  refine sS0 [] (sS1 [(12,some 21)] ?_);refine sC [(13,some 22)] rfl (fun wi hx=> ?_) ?_
  ·intro be s K hK;obtain rfl:=s;have B:=xQ (B0.out.ext hx.of_drew);have c6:=B.out.cl 6;go_simp;exact hK _ _ ⟨I aF,rfl,rfl,Ext.refl _⟩
  refine sC [(5,some 14),(8,some 17),(11,some 20),(14,some 23)] rfl (fun wi hx=> ?_) ?_
  ·intro v5 h5 v8 h8 bd r bf t K hK;subst h5 h8;obtain rfl:=r;obtain rfl:=t;go_simp;exact hK _ _ ⟨.slice (some ⟨wi,0,none⟩) 4 4,rfl,⟨wi.heap.size,rfl,by have:=hx.sz;simp at this;omega,Blk.new _ _ _⟩,(Ext.refl _).alloc _⟩
  refine sC [(15,some 24)] rfl (fun wi hx=> ?_) ?_
  ·intro bg u K hK;obtain⟨az,rfl,aq,aj⟩:=u;go_wp2_with fail;refine Z (H2 _ _ (by exact .trans (.drew f) hx) (by have:=aj.sl (n:=4) rfl (by simp[maxLen]);simpa using this)) fun w2 d=>?_
   go_simp;exact hK _ _ ⟨str p2,rfl,rfl,d⟩
  refine sS0 [] ?_;refine sC [(17,some 26)] rfl (fun wi hx=> ?_) ?_
  ·intro bi y K hK;obtain rfl:=y;have B:=xQ (B0.out.ext hx.of_drew);have c7:=B.out.cl 7;go_simp;exact hK _ _ ⟨I aC,rfl,rfl,Ext.refl _⟩
  refine sC [(18,some 27)] rfl (fun wi hx=> ?_) ?_
  ·intro bj z K hK;obtain rfl:=z;go_simp;exact hK _ _ ⟨.slice (some ⟨wi,0,none⟩) 1 1,rfl,⟨wi.heap.size,rfl,by have:=hx.sz;simp at this;omega,Blk.new _ _ _⟩,(Ext.refl _).alloc _⟩
  refine sC [(19,some 28)] rfl (fun wi hx=> ?_) ?_
  ·intro bk aa K hK;obtain⟨a4,rfl,ar,ak⟩:=aa;go_wp2_with fail;refine Z (H3 _ _ (by exact .trans (.drew f) hx) (by have:=ak.sl (n:=1) rfl (by simp[maxLen]);simpa using this)) fun w2 d=>?_
   go_simp;exact hK _ _ ⟨str p3,rfl,rfl,d⟩
  refine sS0 [] ?_;refine sC [(21,some 30)] rfl (fun wi hx=> ?_) ?_
  ·intro bm ad K hK;obtain rfl:=ad;have B:=xQ (B0.out.ext hx.of_drew);have c8:=B.out.cl 8;go_simp;exact hK _ _ ⟨I aG,rfl,rfl,Ext.refl _⟩
  refine sC [(22,some 31)] rfl (fun wi hx=> ?_) ?_
  ·intro bn ae K hK;obtain rfl:=ae;go_simp;exact hK _ _ ⟨.slice (some ⟨wi,0,none⟩) 1 1,rfl,⟨wi.heap.size,rfl,by have:=hx.sz;simp at this;omega,Blk.new _ _ _⟩,(Ext.refl _).alloc _⟩
  refine sC [(23,some 32)] rfl (fun wi hx=> ?_) ?_
  ·intro bo af K hK;obtain⟨a5,rfl,au,al⟩:=af;go_wp2_with fail;refine Z (H4 _ _ (by exact .trans (.drew f) hx) (by have:=al.sl (n:=1) rfl (by simp[maxLen]);simpa using this)) fun w2 d=>?_
   go_simp;exact hK _ _ ⟨str p4,rfl,rfl,d⟩
  refine sC [(2,some 11),(16,some 25),(20,some 29),(24,some 33)] rfl (fun wi hx=> ?_) StepsL.nil
  ·intro v2 h2 bh x bl ab bp ag K hK;obtain rfl:=h2;obtain rfl:=x;obtain rfl:=ab;obtain rfl:=ag;go_simp;exact hK _ _ ⟨.slice (some ⟨wi,0,none⟩) 4 4,rfl,⟨wi.heap.size,rfl,by have:=hx.sz;simp at this;omega,Blk.new _ _ _⟩,(Ext.refl _).alloc _⟩
 case fin=>
  intro wi hx v0 h0 v1 h1 v2 h2 v3 h3 v4 h4 v5 h5 v6 h6 v7 h7 v8 h8 v9 h9 bc o bd r bx a7 be s bf t bg u bh x bi y bj z bk aa bl ab bm ad bn ae bo af bp ag bz a8;subst h0 h1 h2 h3 h4 h5 h6 h7 h8 h9;obtain rfl:=o;obtain rfl:=r;obtain rfl:=a7;obtain rfl:=s;obtain rfl:=t;obtain⟨az,rfl,aq,aj⟩:=u;obtain rfl:=x;obtain rfl:=y;obtain rfl:=z;obtain⟨a4,rfl,ar,ak⟩:=aa;obtain rfl:=ab;obtain rfl:=ad;obtain rfl:=ae;obtain⟨a5,rfl,au,al⟩:=af;obtain rfl:=ag;obtain⟨a6,rfl,av,am⟩:=a8;refine wpAny_ready (rs:= [26]) (by kernel_rfl) (by simp) ?_;refine AllReady.cons rfl (fun K hK=> ?_) AllReady.nil;go_simp;refine hK _ _ ?_;clear hK K;refine wpAny_done (by kernel_rfl) ?_ _;have B1:=xQ (B0.out.ext hx.of_drew);have X1:=xQ (X0.out.trans hx.of_drew);have O1:=xQ (am.own (n:=4) rfl (by simp[maxLen]) av);have z1:(w:Nat)<wi:=B1.out.lt;clear am hx B0 X0 f;have b9:=B1.out.cl 9;go_wp2;clear b9;go_loopw [3,38] (fun v i wr=> ∃(k:Nat) (p':OA) (cp:Nat),k≤m∧i=I k∧v= .slice p' (4+k) cp∧wr.ownsRow (w.heap.size+1) 9 1 (.slice p' (4+k) cp) (4+k) (bX ([p1,p2,p3,p4]++(vs.take k).map (fun v=>bK (cH v))))∧Ext w wr∧w.heap.size+1≤wr.heap.size) (fun _ i _=>m-(intOf i).toNat)
  case atStart=>exact⟨0,some ⟨a6,0,none⟩,4,aRv _,rfl,rfl,by simpa[bX]using O1.out,X1.out,by omega⟩
  case round=>
   clear O1 X1 B1 z1;obtain⟨k,p',cp,hk,rfl,rfl,l,hE,bu⟩:=hrel;have HO:=xQ l;clear l;by_cases hlt:k<m
   ·obtain⟨b,bw,a0,a1,a2,a3,rfl,hv,hb,d0,d1,d2,d3⟩:=eH (HS.out.ext hE) hlt;have ax:=xQ (HN (a0,a1,a2,a3) (aRs hv));have HT:Hid ((vs.take (k+1)).map (fun v=>bK (cH v))=(vs.take k).map (fun v=>bK (cH v))++ [bK (cH (a0,a1,a2,a3))]):=by
     show _=_;rw[aY hv];simp
    clear hv;go_wp2_with fail
    refine(ax _ _ (hE.trans (by exact .alloc (.alloc (.refl _) _) _)) (by
     have:=(Blk.new (wr.alloc (.cells #[a0,a1,a2,a3] 77)) TI #[a0,a1,a2,a3]).sl (n:=4) rfl (by simp[maxLen])
     simpa[ivs,cH]using this)).mono ?_
    rintro e w2 ⟨rfl,d⟩;have j:Ext wr w2:=by exact .trans (.alloc (.alloc (.refl _) _) _) d
    have an:=xQ (aZ HO j);have br:(wr:Nat)≤w2:=j.sz;have ba:=xQ (hE.trans j);clear d j HO d0 d1 d2 d3;go_wp2_with (at_builtin;refine rQ rfl _ _ rfl (w.heap.size+1) _ _ _ rfl (an.out.alloc _) _ _ (bK (cH (a0,a1,a2,a3))) _ rfl (by simp) (by omega) (by first|(simp;done)|(simp;omega)|omega) ?_;intro bb ao w3 h ah;have ay:=xQ h;have a9:Ext w w3:=Ext.own (ba.out.alloc _) (an.out.alloc _) ah (by omega);have bs:(w2:Nat)≤w3:=aRz (by simp) ah.size;clear h ah);go_roundw
    case rel=>exact⟨k+1,bb,ao,by omega,by go_num,rfl,by rw[HT.out,←aSh];exact ay.out,a9,by omega⟩
    case measure=>simp[intOf];omega
   have ap:Hid (wr.ownsRow (w.heap.size+1) 9 1 (.slice p' (4+k) cp) (4+k) (bX ([p1,p2,p3,p4]++vs.map (fun v=>bK (cH v))))):=by have:=HO.out;rw[aRu (by rw[hl.out];omega)]at this;exact this
   have bt:k≤12:=by omega
   have aw:Hid (([p1,p2,p3,p4]++vs.map (fun v=>bK (cH v))).length=4+k):=by show _=_;simp[hl.out];omega
   clear HO;go_wp2_with fail;refine Z (aE8 ([p1,p2,p3,p4]++vs.map (fun v=>bK (cH v))) 59 _ (4+k) cp _ aw.out (by omega) (Sl.own ap.out) HL (by omega)) fun w1 h1=>?_
   go_wp2;go_ret;exact⟨rfl,by exact .trans hE h1⟩
theorem zF (aA aB a b aD aF aC aG:Int)(p:OA)(n cap:Nat)(q:OA)(m c2:Nat)(w:World)
  (HV:xB 31 #[.agg #[aA,aB,.slice p n cap,a,b,aD,aF,aC,aG,.slice q m c2]] w false):
  U 90 #[.agg #[aA,aB,.slice p n cap,a,b,aD,aF,aC,aG,.slice q m c2]] w (O (str []) w):=by
 go_enter func90,ntmps90;go_wp2_with fail;refine Z (HV _ (by exact .alloc (.refl _) _)) fun w0 c=>?_
 go_wp2;go_ret;exact⟨rfl,by exact .trans (.alloc (.refl _) _) c⟩
theorem aMz (c:UInt8)(M:Nat)(x:List UInt8)(r:List (List UInt8))(hx:x.length≤M)(h: ∀y∈r,y.length≤M):(iA c (x::r)).length≤(M+1)*(r.length+1):=by have:=aD2 c M r h;simp only[iA,aRx];rw[Nat.mul_succ];unfold rS at*;omega
theorem zG (h:aL)(p:OA)(n cap:Nat)(q:OA)(m c2:Nat)(w:World)(hE:Env w)(hi:IsHouse w h p n cap q m c2):
  U 90 #[bM h p n cap q m c2] w (O (str (nJ h)) w):=by
 have HV:=fun(w':World) (hx:Ext w w')=>iF h p n cap q m c2 w' (hi.ext hx)
 have c:=hi.vlen;unfold nJ;cases hok:aR h with
 |false=>rw[hok]at HV;simpa using zF h.aA h.aB h.free h.step h.aD h.aF h.aC h.aG p n cap q m c2 w HV
 |true=>
  rw[hok]at HV;obtain⟨g0,g1,g2,g3,g4,g5,g6,g7,g8,g9,d,f,i,j,a⟩:=xX hok;rw[if_pos rfl];have e:xY h= [fH h.aA h.aB h.cells,bK [h.free,h.step,h.aD,h.aF],bK [h.aC],bK [h.aG]]++h.vs.map (fun v=>bK (cH v)):=by rw[nZ,nZ];rfl
  rw[e];have l1:(fH h.aA h.aB h.cells).length≤400:=sU;have l2:=tY h.free h.step h.aD h.aF (by omega) (by omega) (by omega) (by omega);have l3:=eZ h.aC (by omega);have l4:=eZ h.aG (by omega);rw[←nZ]at l3 l4;have lv: ∀v∈h.vs,(bK (cH v)).length≤90:=fun v hv=>by have:=a v hv;exact tY _ _ _ _ (by omega) (by omega) (by omega) (by omega)
  have HL:=aMz 59 400 (fH h.aA h.aB h.cells) ([bK [h.free,h.step,h.aD,h.aF],bK [h.aC],bK [h.aG]]++h.vs.map (fun v=>bK (cH v))) l1 (fun y hy=>by
   rcases aSa.1 hy with hy|hy
   ·simp only[aS6,List.not_mem_nil,or_false]at hy;rcases hy with rfl|rfl|rfl<;>omega
   ·obtain⟨v,hv,rfl⟩:=List.mem_map.1 hy
    have:=lv v hv;omega)
  have b:(iA 59 ([fH h.aA h.aB h.cells,bK [h.free,h.step,h.aD,h.aF],bK [h.aC],bK [h.aG]]++h.vs.map (fun v=>bK (cH v)))).length≤140737488355328:=by refine aRz HL ?_;simp only[aRx,aSg,aSo,List.length_nil];omega
  exact aC7 h.aA h.aB h.free h.step h.aD h.aF h.aC h.aG p n cap q m c2 w h.vs _ _ _ _ (by omega) c hi.vs b
   (fun v hv w' g hx hs=>mP (some g) 4 4 (cH v) w' (by omega) (by omega) (fun x hx'=>by
    have:=a v hv;simp only[cH,aS6,List.not_mem_nil,or_false]at hx'
    rcases hx' with rfl|rfl|rfl|rfl<;>omega) (hE.ext hx) hs)
   HV (fun w' hx=>sP h.aA h.aB p n cap h.cells w' (hE.ext hx) (hi.cells.ext hx))
   (fun w' g hx hs=>mP (some g) 4 4 _ w' (by omega) (by omega) (fun x hx'=>by
    simp only[aS6,List.not_mem_nil,or_false]at hx'
    rcases hx' with rfl|rfl|rfl|rfl<;>omega) (hE.ext hx) hs)
   (fun w' g hx hs=>mP (some g) 1 1 _ w' (by omega) (by omega) (fun x hx'=>by
    simp only[aS6,List.not_mem_nil,or_false]at hx'
    subst hx';omega) (hE.ext hx) hs)
   (fun w' g hx hs=>mP (some g) 1 1 _ w' (by omega) (by omega) (fun x hx'=>by
    simp only[aS6,List.not_mem_nil,or_false]at hx'
    subst hx';omega) (hE.ext hx) hs)
end
def aRn (ps:List (List UInt8))(k:Nat):List UInt8:=ps[k]?.getD []
theorem aE5 (q:List UInt8)(hq:q.length≤maxLen)(w:World):U 54 #[str q] w fun e w'=>e= .returned (I ((dR 4 q).getD (-1)))∧w=w':=
 xL ⟨q.toArray⟩ w (by simpa[ByteArray.size]using hq)
abbrev cY:TypeId:=9
abbrev Z3:Array Value:=#[(),(),((),())]
theorem aF8 (c:UInt8): ∀l:List UInt8,(gC c l).length≤l.length∧(gK c l).length≤l.length:=by
 intro l;induction l with
 |nil=>simp[gC,gK]
 |cons x xs ih=>simp only[gC,gK];split<;>simp<;>omega
section
open Go.Proofs.Tryz
theorem aKz (h:aL)(p:OA)(cap:Nat)(q:OA)(c2:Nat)(l:List UInt8)(w:World)(t:List UInt8)(x:Int)(b0:(l== [104,97,108,108])=true)
  (K0:xC 88 #[.agg #[h.aA,h.aB,.slice p h.cells cap]] w fun w' e w''=>e= .returned (str t)∧Ext w' w''):
  U 37 #[.agg #[h.aA,h.aB,.slice p h.cells cap,h.free,h.step,h.aD,h.aF,h.aC,h.aG,.slice q h.vs c2],str l] w ((O (str t) w)):=by
 go_enter func37,ntmps37;go_wp2_with fail;refine Z (K0 _ ((Mem.start w).c0 aK #[h.aA,h.aB,.slice p h.cells cap,h.free,h.step,h.aD,h.aF,h.aC,h.aG,.slice q h.vs c2]).ext) fun w1 a=>?_
 have M1:=(((Mem.start w).c0 aK #[h.aA,h.aB,.slice p h.cells cap,h.free,h.step,h.aD,h.aF,h.aC,h.aG,.slice q h.vs c2]).adv a)
 have b:=M1.hi 0;clear a;go_wp2;go_ret;exact⟨rfl,M1.ext⟩
theorem aHo (h:aL)(p:OA)(cap:Nat)(q:OA)(c2:Nat)(l:List UInt8)(w:World)(t:List UInt8)(x:Int)(n0:(l== [104,97,108,108])=false)(b1:(l== [99,108,111,99,107])=true)
  (K0:xC 34 #[h.aC] w fun w' e w''=>e= .returned (str t)∧Ext w' w''):
  U 37 #[.agg #[h.aA,h.aB,.slice p h.cells cap,h.free,h.step,h.aD,h.aF,h.aC,h.aG,.slice q h.vs c2],str l] w ((O (str t) w)):=by
 go_enter func37,ntmps37;go_wp2_with fail;refine Z (K0 _ ((Mem.start w).c0 aK #[h.aA,h.aB,.slice p h.cells cap,h.free,h.step,h.aD,h.aF,h.aC,h.aG,.slice q h.vs c2]).ext) fun w1 a=>?_
 have M1:=(((Mem.start w).c0 aK #[h.aA,h.aB,.slice p h.cells cap,h.free,h.step,h.aD,h.aF,h.aC,h.aG,.slice q h.vs c2]).adv a)
 have b:=M1.hi 0;clear a;go_wp2;go_ret;exact⟨rfl,M1.ext⟩
theorem aL0 (h:aL)(p:OA)(cap:Nat)(q:OA)(c2:Nat)(l:List UInt8)(w:World)(t:List UInt8)(x:Int)(n0:(l== [104,97,108,108])=false)(n1:(l== [99,108,111,99,107])=false)(b2:(l== [98,97,110,107])=true)
  (K0:xC 34 #[h.aG] w fun w' e w''=>e= .returned (str t)∧Ext w' w''):
  U 37 #[.agg #[h.aA,h.aB,.slice p h.cells cap,h.free,h.step,h.aD,h.aF,h.aC,h.aG,.slice q h.vs c2],str l] w ((O (str t) w)):=by
 go_enter func37,ntmps37;go_wp2_with fail;refine Z (K0 _ ((Mem.start w).c0 aK #[h.aA,h.aB,.slice p h.cells cap,h.free,h.step,h.aD,h.aF,h.aC,h.aG,.slice q h.vs c2]).ext) fun w1 a=>?_
 have M1:=(((Mem.start w).c0 aK #[h.aA,h.aB,.slice p h.cells cap,h.free,h.step,h.aD,h.aF,h.aC,h.aG,.slice q h.vs c2]).adv a)
 have b:=M1.hi 0;clear a;go_wp2;go_ret;exact⟨rfl,M1.ext⟩
theorem aKy (h:aL)(p:OA)(cap:Nat)(q:OA)(c2:Nat)(l:List UInt8)(w:World)(t:List UInt8)(x:Int)(n0:(l== [104,97,108,108])=false)(n1:(l== [99,108,111,99,107])=false)(n2:(l== [98,97,110,107])=false)(b3:(l== [111,119,101,100])=true)
  (K0:xC 89 #[.agg #[h.aA,h.aB,.slice p h.cells cap,h.free,h.step,h.aD,h.aF,h.aC,h.aG,.slice q h.vs c2]] w fun w' e w''=>e= .returned (I x)∧Ext w' w'')
  (K1:xC 34 #[x] w fun w' e w''=>e= .returned (str t)∧Ext w' w''):
  U 37 #[.agg #[h.aA,h.aB,.slice p h.cells cap,h.free,h.step,h.aD,h.aF,h.aC,h.aG,.slice q h.vs c2],str l] w ((O (str t) w)):=by
 go_enter func37,ntmps37;go_wp2_with fail;refine Z (K0 _ ((Mem.start w).c0 aK #[h.aA,h.aB,.slice p h.cells cap,h.free,h.step,h.aD,h.aF,h.aC,h.aG,.slice q h.vs c2]).ext) fun w1 b=>?_
 have M1:=(((Mem.start w).c0 aK #[h.aA,h.aB,.slice p h.cells cap,h.free,h.step,h.aD,h.aF,h.aC,h.aG,.slice q h.vs c2]).adv b)
 have a:=M1.hi 0;clear b;obtain⟨d,f,g,i,j,k,m,n,o,r⟩:=(M1.bk 0).ten;go_wp2_with fail;clear d f g i j k m n o r;refine Z (K1 _ M1.ext) fun w2 c=>?_
 have M2:=(M1.adv c)
 clear M1 a c;have s:=M2.hi 0;go_wp2;go_ret;exact⟨rfl,M2.ext⟩
theorem aHn (h:aL)(p:OA)(cap:Nat)(q:OA)(c2:Nat)(l:List UInt8)(w:World)(t:List UInt8)(x:Int)(n0:(l== [104,97,108,108])=false)(n1:(l== [99,108,111,99,107])=false)(n2:(l== [98,97,110,107])=false)(n3:(l== [111,119,101,100])=false)(b4:(l== [104,111,117,115,101])=true)
  (K0:xC 90 #[.agg #[h.aA,h.aB,.slice p h.cells cap,h.free,h.step,h.aD,h.aF,h.aC,h.aG,.slice q h.vs c2]] w fun w' e w''=>e= .returned (str t)∧Ext w' w''):
  U 37 #[.agg #[h.aA,h.aB,.slice p h.cells cap,h.free,h.step,h.aD,h.aF,h.aC,h.aG,.slice q h.vs c2],str l] w ((O (str t) w)):=by
 go_enter func37,ntmps37;go_wp2_with fail;refine Z (K0 _ ((Mem.start w).c0 aK #[h.aA,h.aB,.slice p h.cells cap,h.free,h.step,h.aD,h.aF,h.aC,h.aG,.slice q h.vs c2]).ext) fun w1 a=>?_
 have M1:=(((Mem.start w).c0 aK #[h.aA,h.aB,.slice p h.cells cap,h.free,h.step,h.aD,h.aF,h.aC,h.aG,.slice q h.vs c2]).adv a)
 have b:=M1.hi 0;clear a;go_wp2;go_ret;exact⟨rfl,M1.ext⟩
theorem aKx (h:aL)(p:OA)(cap:Nat)(q:OA)(c2:Nat)(l:List UInt8)(w:World)(a b t:List UInt8)(id D:Int)(y:Bool)(n0:(l== [104,97,108,108])=false)(n1:(l== [99,108,111,99,107])=false)(n2:(l== [98,97,110,107])=false)(n3:(l== [111,119,101,100])=false)(n4:(l== [104,111,117,115,101])=false)
  (K0:xC 91 #[str l,.string ⟨#[32]⟩] w fun w' e w''=>e= .returned (.tuple #[str a,str b,.bool y])∧Ext w' w'')
  (K1:Hid (∀w',U 77 #[str b,I 4] w' fun e w''=>e= .returned (.tuple #[id,.bool false])∧w'=w'')):
  U 37 #[.agg #[h.aA,h.aB,.slice p h.cells cap,h.free,h.step,h.aD,h.aF,h.aC,h.aG,.slice q h.vs c2],str l] w ((O (str [119,104,97,116]) w)):=by
 go_enter func37,ntmps37;go_wp2_with fail;refine Z (K0 _ ((Mem.start w).c0 aK #[h.aA,h.aB,.slice p h.cells cap,h.free,h.step,h.aD,h.aF,h.aC,h.aG,.slice q h.vs c2]).ext) fun w1 c=>?_
 have M1:=(((Mem.start w).c0 aK #[h.aA,h.aB,.slice p h.cells cap,h.free,h.step,h.aD,h.aF,h.aC,h.aG,.slice q h.vs c2]).adv c)
 have d:=M1.hi 0;clear c;go_wp2_with fail;refine(K1 _).mono ?_;rintro e u ⟨rfl,rfl⟩;obtain⟨f,g,i,j,k,m,n,o,r,s⟩:=(M1.bk 0).ten;go_wp2;go_ret;exact⟨rfl,M1.ext⟩
theorem aKw (h:aL)(p:OA)(cap:Nat)(q:OA)(c2:Nat)(l:List UInt8)(w:World)(a b t:List UInt8)(id D:Int)(y:Bool)(n0:(l== [104,97,108,108])=false)(n1:(l== [99,108,111,99,107])=false)(n2:(l== [98,97,110,107])=false)(n3:(l== [111,119,101,100])=false)(n4:(l== [104,111,117,115,101])=false)(d1:(a== [100,117,101])=false)(d2:(a== [109,97,121])=false)
  (K0:xC 91 #[str l,.string ⟨#[32]⟩] w fun w' e w''=>e= .returned (.tuple #[str a,str b,.bool y])∧Ext w' w'')
  (K1:Hid (∀w',U 77 #[str b,I 4] w' fun e w''=>e= .returned (.tuple #[id,.bool true])∧w'=w'')):
  U 37 #[.agg #[h.aA,h.aB,.slice p h.cells cap,h.free,h.step,h.aD,h.aF,h.aC,h.aG,.slice q h.vs c2],str l] w ((O (str [119,104,97,116]) w)):=by
 go_enter func37,ntmps37;go_wp2_with fail;refine Z (K0 _ ((Mem.start w).c0 aK #[h.aA,h.aB,.slice p h.cells cap,h.free,h.step,h.aD,h.aF,h.aC,h.aG,.slice q h.vs c2]).ext) fun w1 c=>?_
 have M1:=(((Mem.start w).c0 aK #[h.aA,h.aB,.slice p h.cells cap,h.free,h.step,h.aD,h.aF,h.aC,h.aG,.slice q h.vs c2]).adv c)
 have d:=M1.hi 0;clear c;go_wp2_with fail;refine(K1 _).mono ?_;rintro e u ⟨rfl,rfl⟩;obtain⟨f,g,i,j,k,m,n,o,r,s⟩:=(M1.bk 0).ten;go_wp2;go_ret;exact⟨rfl,M1.ext⟩
theorem zL (h:aL)(p:OA)(cap:Nat)(q:OA)(c2:Nat)(l:List UInt8)(w:World)(a b t:List UInt8)(id D:Int)(y:Bool)(n0:(l== [104,97,108,108])=false)(n1:(l== [99,108,111,99,107])=false)(n2:(l== [98,97,110,107])=false)(n3:(l== [111,119,101,100])=false)(n4:(l== [104,111,117,115,101])=false)(d1:(a== [100,117,101])=true)(t0:decide (D<0)=true)
  (K0:xC 91 #[str l,.string ⟨#[32]⟩] w fun w' e w''=>e= .returned (.tuple #[str a,str b,.bool y])∧Ext w' w'')
  (K1:Hid (∀w',U 77 #[str b,I 4] w' fun e w''=>e= .returned (.tuple #[id,.bool true])∧w'=w''))
  (K2:xC 92 #[.agg #[h.aA,h.aB,.slice p h.cells cap,h.free,h.step,h.aD,h.aF,h.aC,h.aG,.slice q h.vs c2],id] w fun w' e w''=>e= .returned (I D)∧Ext w' w''):
  U 37 #[.agg #[h.aA,h.aB,.slice p h.cells cap,h.free,h.step,h.aD,h.aF,h.aC,h.aG,.slice q h.vs c2],str l] w ((O (str [110,111,110,101]) w)):=by
 go_enter func37,ntmps37;go_wp2_with fail;refine Z (K0 _ ((Mem.start w).c0 aK #[h.aA,h.aB,.slice p h.cells cap,h.free,h.step,h.aD,h.aF,h.aC,h.aG,.slice q h.vs c2]).ext) fun w1 d=>?_
 have M1:=(((Mem.start w).c0 aK #[h.aA,h.aB,.slice p h.cells cap,h.free,h.step,h.aD,h.aF,h.aC,h.aG,.slice q h.vs c2]).adv d)
 have c:=M1.hi 0;clear d;go_wp2_with fail;refine(K1 _).mono ?_;rintro e aj ⟨rfl,rfl⟩;obtain⟨g,i,j,k,m,n,o,r,s,u⟩:=(M1.bk 0).ten;go_wp2_with fail;clear g i j k m n o r s u;refine Z (K2 _ M1.ext) fun w2 f=>?_
 have M2:=(M1.adv f)
 clear M1 c f;have v:=M2.hi 0;obtain⟨x,z,aa,ab,ad,ae,af,ag,ah,ai⟩:=(M2.bk 0).ten;go_wp2;go_ret;exact⟨rfl,M2.ext⟩
theorem zK (h:aL)(p:OA)(cap:Nat)(q:OA)(c2:Nat)(l:List UInt8)(w:World)(a b t:List UInt8)(id D:Int)(y:Bool)(n0:(l== [104,97,108,108])=false)(n1:(l== [99,108,111,99,107])=false)(n2:(l== [98,97,110,107])=false)(n3:(l== [111,119,101,100])=false)(n4:(l== [104,111,117,115,101])=false)(d1:(a== [100,117,101])=false)(d2:(a== [109,97,121])=true)(t0:decide (D<0)=true)
  (K0:xC 91 #[str l,.string ⟨#[32]⟩] w fun w' e w''=>e= .returned (.tuple #[str a,str b,.bool y])∧Ext w' w'')
  (K1:Hid (∀w',U 77 #[str b,I 4] w' fun e w''=>e= .returned (.tuple #[id,.bool true])∧w'=w''))
  (K2:xC 92 #[.agg #[h.aA,h.aB,.slice p h.cells cap,h.free,h.step,h.aD,h.aF,h.aC,h.aG,.slice q h.vs c2],id] w fun w' e w''=>e= .returned (I D)∧Ext w' w''):
  U 37 #[.agg #[h.aA,h.aB,.slice p h.cells cap,h.free,h.step,h.aD,h.aF,h.aC,h.aG,.slice q h.vs c2],str l] w ((O (str [110,111,110,101]) w)):=by
 go_enter func37,ntmps37;go_wp2_with fail;refine Z (K0 _ ((Mem.start w).c0 aK #[h.aA,h.aB,.slice p h.cells cap,h.free,h.step,h.aD,h.aF,h.aC,h.aG,.slice q h.vs c2]).ext) fun w1 d=>?_
 have M1:=(((Mem.start w).c0 aK #[h.aA,h.aB,.slice p h.cells cap,h.free,h.step,h.aD,h.aF,h.aC,h.aG,.slice q h.vs c2]).adv d)
 have c:=M1.hi 0;clear d;go_wp2_with fail;refine(K1 _).mono ?_;rintro e aj ⟨rfl,rfl⟩;obtain⟨g,i,j,k,m,n,o,r,s,u⟩:=(M1.bk 0).ten;go_wp2_with fail;clear g i j k m n o r s u;refine Z (K2 _ M1.ext) fun w2 f=>?_
 have M2:=(M1.adv f)
 clear M1 c f;have v:=M2.hi 0;obtain⟨x,z,aa,ab,ad,ae,af,ag,ah,ai⟩:=(M2.bk 0).ten;go_wp2;go_ret;exact⟨rfl,M2.ext⟩
theorem aNp (h:aL)(p:OA)(cap:Nat)(q:OA)(c2:Nat)(l:List UInt8)(w:World)(a b t:List UInt8)(id D:Int)(y:Bool)(n0:(l== [104,97,108,108])=false)(n1:(l== [99,108,111,99,107])=false)(n2:(l== [98,97,110,107])=false)(n3:(l== [111,119,101,100])=false)(n4:(l== [104,111,117,115,101])=false)(d1:(a== [100,117,101])=true)(t0:decide (D<0)=false)
  (K0:xC 91 #[str l,.string ⟨#[32]⟩] w fun w' e w''=>e= .returned (.tuple #[str a,str b,.bool y])∧Ext w' w'')
  (K1:Hid (∀w',U 77 #[str b,I 4] w' fun e w''=>e= .returned (.tuple #[id,.bool true])∧w'=w''))
  (K2:xC 92 #[.agg #[h.aA,h.aB,.slice p h.cells cap,h.free,h.step,h.aD,h.aF,h.aC,h.aG,.slice q h.vs c2],id] w fun w' e w''=>e= .returned (I D)∧Ext w' w'')
  (K3:xC 34 #[D] w fun w' e w''=>e= .returned (str t)∧Ext w' w''):
  U 37 #[.agg #[h.aA,h.aB,.slice p h.cells cap,h.free,h.step,h.aD,h.aF,h.aC,h.aG,.slice q h.vs c2],str l] w ((O (str t) w)):=by
 go_enter func37,ntmps37;go_wp2_with fail;refine Z (K0 _ ((Mem.start w).c0 aK #[h.aA,h.aB,.slice p h.cells cap,h.free,h.step,h.aD,h.aF,h.aC,h.aG,.slice q h.vs c2]).ext) fun w1 u=>?_
 have M1:=(((Mem.start w).c0 aK #[h.aA,h.aB,.slice p h.cells cap,h.free,h.step,h.aD,h.aF,h.aC,h.aG,.slice q h.vs c2]).adv u)
 have r:=M1.hi 0;clear u;go_wp2_with fail;refine(K1 _).mono ?_;rintro e aa ⟨rfl,rfl⟩;obtain⟨c,d,f,g,i,j,k,m,n,o⟩:=(M1.bk 0).ten;go_wp2_with fail;clear c d f g i j k m n o;refine Z (K2 _ M1.ext) fun w2 v=>?_
 have M2:=(M1.adv v)
 clear M1 r v;have s:=M2.hi 0;obtain⟨c,d,f,g,i,j,k,m,n,o⟩:=(M2.bk 0).ten;go_wp2_with fail;clear c d f g i j k m n o;refine Z (K3 _ M2.ext) fun w3 x=>?_
 have M3:=(M2.adv x)
 clear M2 s x;have z:=M3.hi 0;go_wp2;go_ret;exact⟨rfl,M3.ext⟩
theorem zJ (h:aL)(p:OA)(cap:Nat)(q:OA)(c2:Nat)(l:List UInt8)(w:World)(a b t:List UInt8)(id D:Int)(y:Bool)(n0:(l== [104,97,108,108])=false)(n1:(l== [99,108,111,99,107])=false)(n2:(l== [98,97,110,107])=false)(n3:(l== [111,119,101,100])=false)(n4:(l== [104,111,117,115,101])=false)(d1:(a== [100,117,101])=false)(d2:(a== [109,97,121])=true)(t0:decide (D<0)=false)
  (K0:xC 91 #[str l,.string ⟨#[32]⟩] w fun w' e w''=>e= .returned (.tuple #[str a,str b,.bool y])∧Ext w' w'')
  (K1:Hid (∀w',U 77 #[str b,I 4] w' fun e w''=>e= .returned (.tuple #[id,.bool true])∧w'=w''))
  (K2:xC 92 #[.agg #[h.aA,h.aB,.slice p h.cells cap,h.free,h.step,h.aD,h.aF,h.aC,h.aG,.slice q h.vs c2],id] w fun w' e w''=>e= .returned (I D)∧Ext w' w'')
  (K3:xB 93 #[.agg #[h.aA,h.aB,.slice p h.cells cap,h.free,h.step,h.aD,h.aF,h.aC,h.aG,.slice q h.vs c2],id] w true):
  U 37 #[.agg #[h.aA,h.aB,.slice p h.cells cap,h.free,h.step,h.aD,h.aF,h.aC,h.aG,.slice q h.vs c2],str l] w ((O (str [121,101,115]) w)):=by
 go_enter func37,ntmps37;go_wp2_with fail;refine Z (K0 _ ((Mem.start w).c0 aK #[h.aA,h.aB,.slice p h.cells cap,h.free,h.step,h.aD,h.aF,h.aC,h.aG,.slice q h.vs c2]).ext) fun w1 u=>?_
 have M1:=(((Mem.start w).c0 aK #[h.aA,h.aB,.slice p h.cells cap,h.free,h.step,h.aD,h.aF,h.aC,h.aG,.slice q h.vs c2]).adv u)
 have r:=M1.hi 0;clear u;go_wp2_with fail;refine(K1 _).mono ?_;rintro e aa ⟨rfl,rfl⟩;obtain⟨c,d,f,g,i,j,k,m,n,o⟩:=(M1.bk 0).ten;go_wp2_with fail;clear c d f g i j k m n o;refine Z (K2 _ M1.ext) fun w2 v=>?_
 have M2:=(M1.adv v)
 clear M1 r v;have s:=M2.hi 0;obtain⟨c,d,f,g,i,j,k,m,n,o⟩:=(M2.bk 0).ten;go_wp2_with fail;clear c d f g i j k m n o;refine Z (K3 _ M2.ext) fun w3 x=>?_
 have M3:=(M2.adv x)
 clear M2 s x;have z:=M3.hi 0;go_wp2;go_ret;exact⟨rfl,M3.ext⟩
theorem xW (h:aL)(p:OA)(cap:Nat)(q:OA)(c2:Nat)(l:List UInt8)(w:World)(a b t:List UInt8)(id D:Int)(y:Bool)(n0:(l== [104,97,108,108])=false)(n1:(l== [99,108,111,99,107])=false)(n2:(l== [98,97,110,107])=false)(n3:(l== [111,119,101,100])=false)(n4:(l== [104,111,117,115,101])=false)(d1:(a== [100,117,101])=false)(d2:(a== [109,97,121])=true)(t0:decide (D<0)=false)
  (K0:xC 91 #[str l,.string ⟨#[32]⟩] w fun w' e w''=>e= .returned (.tuple #[str a,str b,.bool y])∧Ext w' w'')
  (K1:Hid (∀w',U 77 #[str b,I 4] w' fun e w''=>e= .returned (.tuple #[id,.bool true])∧w'=w''))
  (K2:xC 92 #[.agg #[h.aA,h.aB,.slice p h.cells cap,h.free,h.step,h.aD,h.aF,h.aC,h.aG,.slice q h.vs c2],id] w fun w' e w''=>e= .returned (I D)∧Ext w' w'')
  (K3:xB 93 #[.agg #[h.aA,h.aB,.slice p h.cells cap,h.free,h.step,h.aD,h.aF,h.aC,h.aG,.slice q h.vs c2],id] w false):
  U 37 #[.agg #[h.aA,h.aB,.slice p h.cells cap,h.free,h.step,h.aD,h.aF,h.aC,h.aG,.slice q h.vs c2],str l] w ((O (str [110,111]) w)):=by
 go_enter func37,ntmps37;go_wp2_with fail;refine Z (K0 _ ((Mem.start w).c0 aK #[h.aA,h.aB,.slice p h.cells cap,h.free,h.step,h.aD,h.aF,h.aC,h.aG,.slice q h.vs c2]).ext) fun w1 u=>?_
 have M1:=(((Mem.start w).c0 aK #[h.aA,h.aB,.slice p h.cells cap,h.free,h.step,h.aD,h.aF,h.aC,h.aG,.slice q h.vs c2]).adv u)
 have r:=M1.hi 0;clear u;go_wp2_with fail;refine(K1 _).mono ?_;rintro e aa ⟨rfl,rfl⟩;obtain⟨c,d,f,g,i,j,k,m,n,o⟩:=(M1.bk 0).ten;go_wp2_with fail;clear c d f g i j k m n o;refine Z (K2 _ M1.ext) fun w2 v=>?_
 have M2:=(M1.adv v)
 clear M1 r v;have s:=M2.hi 0;obtain⟨c,d,f,g,i,j,k,m,n,o⟩:=(M2.bk 0).ten;go_wp2_with fail;clear c d f g i j k m n o;refine Z (K3 _ M2.ext) fun w3 x=>?_
 have M3:=(M2.adv x)
 clear M2 s x;have z:=M3.hi 0;go_wp2;go_ret;exact⟨rfl,M3.ext⟩
theorem aPm (h:aL)(c:aR h=true)(p:OA)(n cap:Nat)(q:OA)(m c2:Nat)(l:List UInt8)(w:World)(hi:IsHouse w h p n cap q m c2)(hE:Env w)(hl:l.length≤1048576):
  U 37 #[bM h p n cap q m c2,str l] w (O (str (aFe h l)) w):=by
 have d:=hi.clen;have f:=hi.vlen;subst d f;obtain⟨_,_,⟨k0,k1,k2,k3⟩,_,_⟩:=(eL h).1 c;have ow:=aIa c;unfold aFe;by_cases e0:l= [104,97,108,108]
 ·rw[if_pos e0];exact aKz h p cap q c2 l w _ 0 (by simp[e0]) (fun w' hx=>sP _ _ _ _ _ _ w' (hE.ext hx) (hi.cells.ext hx))
 rw[if_neg e0];by_cases e1:l= [99,108,111,99,107]
 ·rw[if_pos e1];exact aHo h p cap q c2 l w _ 0 (by simp[e0]) (by simp[e1]) (fun w' hx=>oO _ w' k0 (by omega) (hE.ext hx))
 rw[if_neg e1];by_cases e2:l= [98,97,110,107]
 ·rw[if_pos e2];exact aL0 h p cap q c2 l w _ 0 (by simp[e0]) (by simp[e1]) (by simp[e2]) (fun w' hx=>oO _ w' k2 (by omega) (hE.ext hx))
 rw[if_neg e2];by_cases e3:l= [111,119,101,100]
 ·rw[if_pos e3];exact aKy h p cap q c2 l w _ _ (by simp[e0]) (by simp[e1]) (by simp[e2]) (by simp[e3]) (fun w' hx=>zH h p _ cap q _ c2 w' (hi.ext hx)) (fun w' hx=>oO _ w' ow.1 (by omega) (hE.ext hx))
 rw[if_neg e3];by_cases e4:l= [104,111,117,115,101]
 ·rw[if_pos e4];exact aHn h p cap q c2 l w _ 0 (by simp[e0]) (by simp[e1]) (by simp[e2]) (by simp[e3]) (by simp[e4]) (fun w' hx=>zG h p _ cap q _ c2 w' (hE.ext hx) (hi.ext hx))
 rw[if_neg e4];have n0:(l== [104,97,108,108])=false:=by simp[e0]
 have n1:(l== [99,108,111,99,107])=false:=by simp[e1]
 have n2:(l== [98,97,110,107])=false:=by simp[e2]
 have n3:(l== [111,119,101,100])=false:=by simp[e3]
 have n4:(l== [104,111,117,115,101])=false:=by simp[e4]
 have hc:=xQ fun(w':World) (hx:Ext w w')=>aOf l 32 w' (by omega) (hE.ext hx)
 have d:=aF8 32 l;have hn:=xQ fun(w':World)=>uU (gK 32 l) 4 (by omega) (by unfold maxLen;omega) w'
 generalize gC 32 l=a at*;generalize gK 32 l=b at*;cases hr:dR 4 b with
 |none=>rw[hr]at hn;exact aKx h p cap q c2 l w a b [] 0 0 _ n0 n1 n2 n3 n4 hc hn
 |some id=>
  rw[hr]at hn;dsimp only;have hd:=xQ fun(w':World) (hx:Ext w w')=>sO h id p _ cap q _ c2 w' (hi.ext hx)
  have hm:=xQ fun(w':World) (hx:Ext w w')=>sN h id p _ cap q _ c2 w' (hi.ext hx)
  have dc:=aAo c id;by_cases a1:a= [100,117,101]
  ·rw[if_pos a1];by_cases h0:bB h id<0
   ·rw[if_pos h0];exact zL h p cap q c2 l w a b [] id _ _ n0 n1 n2 n3 n4 (by simp[a1]) (by simp[h0]) hc hn hd
   rw[if_neg h0];exact aNp h p cap q c2 l w a b _ id _ _ n0 n1 n2 n3 n4 (by simp[a1]) (by simp;omega) hc hn hd (fun w' hx=>oO _ w' (by omega) (by omega) (hE.ext hx))
  rw[if_neg a1];by_cases a2:a= [109,97,121]
  ·rw[if_pos a2];by_cases h0:bB h id<0
   ·rw[if_pos h0];exact zK h p cap q c2 l w a b [] id _ _ n0 n1 n2 n3 n4 (by simp[a1]) (by simp[a2]) (by simp[h0]) hc hn hd
   rw[if_neg h0];cases hb:dQ h id with
   |true=>rw[hb]at hm;exact zJ h p cap q c2 l w a b [] id _ _ n0 n1 n2 n3 n4 (by simp[a1]) (by simp[a2]) (by simp;omega) hc hn hd hm
   |false=>rw[hb]at hm;exact xW h p cap q c2 l w a b [] id _ _ n0 n1 n2 n3 n4 (by simp[a1]) (by simp[a2]) (by simp;omega) hc hn hd hm
  rw[if_neg a2];exact aKw h p cap q c2 l w a b [] id 0 _ n0 n1 n2 n3 n4 (by simp[a1]) (by simp[a2]) hc hn
end
end Go.Proofs.YtbgkcehffiogcacGreatDoor
