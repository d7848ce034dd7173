/-
  A law's walk or frame (@packed).
-/
import Derived.Test.YtbgkcehffiogcabGreatDoorX36
namespace Go.Proofs.YtbgkcehffiogcabGreatDoor
open Go.RowKit Go.Proofs.Tryz
set_option linter.unusedVariables false
set_option linter.unusedSimpArgs false
open Go.ChangeShapes Go.WideShapes Go.ChangeAt Go.RowKit Go.Deep
set_option maxHeartbeats 8000000
set_option maxRecDepth 100000
theorem aHk (s jb:ByteArray)(r:aS)(b:Bool)(en:Int)(w:World)(hs:s.size≤1048576)(cb:jb.size≤1048576)(hR:r.cells.length≤1000)(hV:r.vs.length≤1000)
  (be:Hid (∀w,U 5 #[.string s,.string jb] w (jB r en b w)))
  (a6:Hid (∀w',Ext w w'→U 6 #[.string s,.string jb] w' (jB r en b w'))):
  U 3 #[.string s,.string jb] w (Z (.bool true) w):=by
 go_enter func3,ntmps3;have cc:decide ((1048576:Int)<(s.size:Int))=false:=by simp;omega
 have cd:decide (1048576<s.size)=false:=by simp;omega
 have ce:decide ((1048576:Int)<(jb.size:Int))=false:=by simp;omega
 have cf:decide (1048576<jb.size)=false:=by simp;omega
 have bt:Ext w w:=Ext.refl w;go_wp2_with fail;refine(be _).mono ?_;rintro e w1 ⟨p1,c1,q1,d1,rfl,o1,v1,a9⟩;have ci:(w:Nat)≤w1:=by have:=a9.sz;(try simp at this);omega
 have bh:Ext w w1:=xE;clear bh;have av:=xQ (OwnT.of o1);have a0:=xQ (OwnT.of v1);have bu:Ext w w1:=xE;clear a9 o1 v1;go_wp2_with fail;refine(a6 _ xE).mono ?_;rintro e w2 ⟨p2,c2,q2,d2,rfl,o2,v2,ad⟩;have bi:(w1:Nat)≤w2:=by have:=ad.sz;(try simp at this);omega
 have a5:Ext w1 w2:=xE;have y:=xQ (av.out.ext a5);have aa:=xQ (a0.out.ext a5);clear av a0 a5;have l:=xQ ((Blk.new w1 29 #[r.aA,r.aB,.slice p1 r.cells c1,r.free,r.step,r.aE,r.aF,r.aC,r.aG,.slice q1 r.vs d1]).ext ad);replace bi:w1.heap.size+1≤w2.heap.size:=by have:=ad.sz;simp at this;omega
 have n:=xQ (OwnT.of (bD o2 (show w1.heap.size+1≤_ by simp)));have q:=xQ (OwnT.of (bD v2 (show w1.heap.size+1≤_ by simp)));have bv:Ext w w2:=xE;clear ad o2 v2;have cg:(w1:Nat)<w2:=by omega
 obtain⟨b0,b1,b2,b3,b4,b5,b6,b7,b8,b9⟩:=l.out.ten;go_wp2_with fail;clear b0 b1 b2 b3 b4 b5 b6 b7 b8 b9;refine Ω (xZ r p2 r.cells.length c2 q2 r.vs.length d2 p1 c1 q1 d1 _ (IsHouse.ext ⟨n.out.sl,q.out.sl⟩ xE) (IsHouse.ext ⟨y.out.sl,aa.out.sl⟩ xE)) fun w3 ae=>?_
 have bj:(w2:Nat)≤w3:=by have:=ae.sz;(try simp at this);omega
 have h:Ext w2 w3:=xE;have aw:=xQ (y.out.ext h);have a1:=xQ (aa.out.ext h);have ah:=xQ (l.out.ext h);have al:=xQ (n.out.ext h);have ao:=xQ (q.out.ext h);clear y aa l n q h;have i:=xQ ((Blk.new w2 29 #[r.aA,r.aB,.slice p2 r.cells c2,r.free,r.step,r.aE,r.aF,r.aC,r.aG,.slice q2 r.vs d2]).ext ae);replace bj:w2.heap.size+1≤w3.heap.size:=by have:=ae.sz;simp at this;omega
 have bf:Ext w w3:=xE;clear ae;obtain⟨g0,g1,g2,g3,g4,g5,g6,g7,g8,g9⟩:=i.out.ten;go_wp2_with fail;clear g0 g1 g2 g3 g4 g5 g6 g7 g8 g9;refine(aM0 r (w1.heap.size+1) w2 r.cells.length c2 r.vs.length d2 p2 q2 1 _ _ _ al ao.out (by omega) (by omega) (by omega) (by omega)).mono ?_;rintro e w4 ⟨rfl,a7,a8,d⟩;have cj:(w3:Nat)≤w4:=d.size;have ax:=xQ (aw.out.chg d (by omega));have a2:=xQ (a1.out.chg d (by omega));have ai:=xQ (ah.out.chg d (by omega));have o:=xQ a7;have t:=xQ a8;have j:=xQ (i.out.chg d (by omega));clear aw a1 ah al ao i;have bw:Ext w w4:=Chg.ext bf d (by omega);clear d a7 a8;have kk:(0:Int)≤1+(r.cells.length:Nat)+(r.vs.length*4:Nat):=by omega
 obtain⟨g0,g1,g2,g3,g4,g5,g6,g7,g8,g9⟩:=j.out.ten;go_wp2_with fail;clear g0 g1 g2 g3 g4 g5 g6 g7 g8 g9;refine Ω (aCt r (w1.heap.size+1) w2 r.cells.length c2 r.vs.length d2 p2 q2 1 _ o t.out (by omega) (by omega) (by omega) (by omega)) fun w5 ba=>?_
 have ck:(w4:Nat)≤w5:=by have:=ba.sz;(try simp at this);omega
 have f:Ext w4 w5:=xE;have ay:=xQ (ax.out.ext f);have a3:=xQ (a2.out.ext f);have aj:=xQ (ai.out.ext f);have am:=xQ (o.out.ext f);have ap:=xQ (t.out.ext f);have af:=xQ (j.out.ext f);clear ax a2 ai o t j f;have bx:Ext w w5:=xE;clear ba;go_wp2_with fail;refine(a6 _ xE).mono ?_;rintro e w6 ⟨p9,c9,q9,d9,rfl,o9,v9,bb⟩;have cl:(w5:Nat)≤w6:=by have:=bb.sz;(try simp at this);omega
 have g:Ext w5 w6:=xE;have z:=xQ (ay.out.ext g);have ab:=xQ (a3.out.ext g);have m:=xQ (aj.out.ext g);have an:=xQ (am.out.ext g);have aq:=xQ (ap.out.ext g);have ag:=xQ (af.out.ext g);clear ay a3 aj am ap af g;have v:=xQ (OwnT.of o9);have x:=xQ (OwnT.of v9);have bz:Ext w w6:=xE;clear bb o9 v9;have ch:(w1:Nat)<w6:=by omega
 have bs:(w2:Nat)<w6:=by omega
 obtain⟨b0,b1,b2,b3,b4,b5,b6,b7,b8,b9⟩:=m.out.ten;go_wp2_with fail;clear b0 b1 b2 b3 b4 b5 b6 b7 b8 b9;refine Ω (xZ r p9 r.cells.length c9 q9 r.vs.length d9 p1 c1 q1 d1 _ (IsHouse.ext ⟨v.out.sl,x.out.sl⟩ xE) (IsHouse.ext ⟨z.out.sl,ab.out.sl⟩ xE)) fun w7 bc=>?_
 have cm:(w6:Nat)≤w7:=by have:=bc.sz;(try simp at this);omega
 have a:Ext w6 w7:=xE;have az:=xQ (z.out.ext a);have a4:=xQ (ab.out.ext a);have ak:=xQ (m.out.ext a);have p:=xQ (an.out.ext a);have u:=xQ (aq.out.ext a);have k:=xQ (ag.out.ext a);have ar:=xQ (v.out.ext a);have au:=xQ (x.out.ext a);clear z ab m an aq ag v x a;have ca:Ext w w7:=xE;clear bc;obtain⟨g0,g1,g2,g3,g4,g5,g6,g7,g8,g9⟩:=k.out.ten;go_wp2_with fail;clear g0 g1 g2 g3 g4 g5 g6 g7 g8 g9;refine Ω (aCt r (w1.heap.size+1) w2 r.cells.length c2 r.vs.length d2 p2 q2 1 _ p u.out (by omega) (by omega) (by omega) (by omega)) fun w8 bd=>?_
 have cn:(w7:Nat)≤w8:=by have:=bd.sz;(try simp at this);omega
 have c:Ext w7 w8:=xE;have bq:=xQ (az.out.ext c);have br:=xQ (a4.out.ext c);have bl:=xQ (ak.out.ext c);have bm:=xQ (p.out.ext c);have bn:=xQ (u.out.ext c);have bk:=xQ (k.out.ext c);have bo:=xQ (ar.out.ext c);have bp:=xQ (au.out.ext c);clear az a4 ak p u k ar au c;have bg:Ext w w8:=xE;clear bd;go_wp2;go_ret;exact⟨rfl,bg⟩
theorem aAu (s jb:ByteArray)(w:World)(hs:1048576<s.size):U 3 #[.string s,.string jb] w (Z (.bool true) w):=by
 have t0:decide ((1048576:Int)<(s.size:Int))=true:=by simp;omega
 have t1:decide (1048576<s.size)=true:=by simp;omega
 go_enter func3,ntmps3;go_wp2;go_ret;exact⟨rfl,xE⟩
theorem yO (s jb:ByteArray)(w:World)(hs:s.size≤1048576)(hj:1048576<jb.size):U 3 #[.string s,.string jb] w (Z (.bool true) w):=by
 have t0:decide ((1048576:Int)<(s.size:Int))=false:=by simp;omega
 have t1:decide (1048576<s.size)=false:=by simp;omega
 have t2:decide ((1048576:Int)<(jb.size:Int))=true:=by simp;omega
 have t3:decide (1048576<jb.size)=true:=by simp;omega
 go_enter func3,ntmps3;go_wp2;go_ret;exact⟨rfl,xE⟩
theorem walk_FnExactRecover (s:ByteArray)(hs:s.size≤maxLen)(jb:ByteArray)(hj:jb.size≤maxLen)(W:World)(hE:Env W)(hT:BitTab W):U 3 #[.string s,.string jb] W (Z (.bool true) W):=by
 by_cases h:s.size≤1048576
 ·by_cases hb:jb.size≤1048576
  ·obtain⟨s1,s2⟩:=zS s.data.toList jb.data.toList;exact aHk s jb _ _ _ W h hb s1 s2 (fun w=>aFt s jb w h (by omega)) (fun w' hx=>aGx s jb w' h (by omega) (hE.ext hx) (hT.ext hx))
  exact yO s jb W h (by omega)
 exact aAu s jb W (by omega)
end Go.Proofs.YtbgkcehffiogcabGreatDoor
