/-
  A law's walk or frame (@packed).
-/
import Derived.Test.YthfmmibomhhmpaaGreatDoorY39
namespace Go.Proofs.YthfmmibomhhmpaaGreatDoor
open Go.RowKit Go.Proofs.Tryz
set_option linter.unusedVariables false
set_option linter.unusedSimpArgs false
set_option maxHeartbeats 8000000
set_option maxRecDepth 100000
theorem aLq {h:aL}{ls:List (List UInt8)}(hh: ¬(aP h=true∧ls.length≤40)):jD h ls=(hZ,[]):=by unfold jD;rw[if_neg hh]
theorem aKl (ls:List (List UInt8))(m:Nat):(cM ls).take (m*1)=cM (ls.take m):=by simp[cM,List.map_take]
theorem aKm (ls:List (List UInt8))(m:Nat):(cM ls).drop (m*1)=cM (ls.drop m):=by simp[cM,List.map_drop]
theorem aB1 (ls:List (List UInt8)): ∀u∈cM ls,u.oneCell'=true:=fun u hu=>by obtain⟨l,_,rfl⟩:=List.mem_map.1 hu;rfl
theorem aLp (h:aL)(ls:List (List UInt8)):(jD h ls).1.cells.length≤1000∧(jD h ls).1.vs.length≤1000∧(jD h ls).2.length≤40:=by
 unfold jD;split
 ·rename_i hh;have:=fA (aJ2 hh.1 ls);rw[oK];dsimp only;omega
 simp[hZ]
theorem Mem.own3l {w0 w w':World}{L:List Item}{e1 e2 e3:TypeId}{s1 s2 s3 n1 n2 n3 c1 c2 c3 b:Nat}{q1 q2 q3:OA}{a c d:List Value}(h:Mem w0 w L)(hx:Ext w w')(h1:w'.ownsRow b e1 s1 (.slice q1 n1 c1) n1 a)(h2:w'.ownsRow b e2 s2 (.slice q2 n2 c2) n2 c)(h3:w'.ownsRow b e3 s3 (.slice q3 n3 c3) n3 d)(hb:w.heap.size≤b)(i:e1≠e2)(k:e1≠e3)(l:e2≠e3):
  Mem w0 w' (aJ w0 e1 s1 q1 n1 c1 a::aJ w0 e2 s2 q2 n2 c2 c::aJ w0 e3 s3 q3 n3 c3 d::L):=by
 have f:=List.pairwise_cons.1 (h.own2 hx h1 h2 hb i).apart;have g:=List.pairwise_cons.1 (h.own2 hx h1 h3 hb k).apart;refine(h.own2 hx h2 h3 hb l).cons (dZ _ _ _ _ _ _ _) (cH h1 (aTg h.ext.sz hb)) (fun g' hg' j hj e=> ?_);rcases aTi.1 hj with rfl|hj
 ·exact f.1 _ (by simp) g' hg' e
 exact g.1 j (by rcases aTi.1 hj with rfl|hj<;>simp_all) g' hg' e
theorem aHo {w:World}{b n a sz k:Nat}{xs:List Value}(h:Sl w (some ⟨b,0,none⟩) n a sz xs)(hk:k≤n):Sl w (if a=k then some ⟨b,0,none⟩else some ⟨b,k*sz,none⟩) (n-k) (a-k) sz (xs.drop (k*sz)):=by
 have hl:=h.len;have c:=h.le;have d:=h.mx;split
 ·have e1:n-k=0:=by omega
  rw[e1];have e2:n=k:=by omega
  exact⟨by rw[aUm,hl,e2];omega,aTd _,by omega,fun h=>absurd h (by omega)⟩
 have:=yL h hk;simpa using this
theorem tD {P:Program}{b:Array Oper}{rest:List Oper}{o:Oper}{a:Act}{Q:Exit→Act→World→Prop}{w0 w:World}{L:List Item}{t e:TypeId}{sz:Nat}(E:ElT P t e sz)(f:Region.wanted o (yielded b a.tmps)=true)(s x:Operand)
  (ho:o.op= .call {callee:= .builtin .append,args:=#[s,x],argTypes:=#[t,t]})
  (h:Mem w0 w L)(i:Nat){q:OA}{n c:Nat}{xs:List Value}(hi:L[i]? =some (aJ w0 e sz q n c xs)) (hs:a.eval s= .slice q n c)
  {p:OA} {m d:Nat} (news:List Value) (hx:a.eval x= .slice p m d) (hr:Sl w p m d sz news) (h1: ∀u∈news,u.oneCell'=true) (hn:n+m≤1099511627776)
  (hk: ∀q' c' w',Mem w0 w' (L.set i (aJ w0 e sz q' (n+m) c' (xs++news)))→wpList P b Q rest (a.put o.dst (.slice q' (n+m) c')) w'):wpList P b Q (o::rest) a w:=
 wpList_step fun K hK=>by rw[if_pos f];exact aC7 E s x ho h i hi hs news hx hr h1 hn fun q' c' w' h2=>hK _ _ (hk q' c' w' h2)
theorem Mem.own3blk {w0 w w':World}{L:List Item}{e1 e2 e3 t:TypeId}{s1 s2 s3 n1 n2 n3 c1 c2 c3 g:Nat}{q1 q2 q3:OA}{c d f:List Value}{cs:Array Value}(h:Mem w0 w L)(hx:Ext w w')(hb:Blk w' g t cs)(hg:w.heap.size≤g)(h1:w'.ownsRow w e1 s1 (.slice q1 n1 c1) n1 c)(h2:w'.ownsRow w e2 s2 (.slice q2 n2 c2) n2 d)(h3:w'.ownsRow w e3 s3 (.slice q3 n3 c3) n3 f)(a:e1≠e2)(i:e1≠e3)(b:e2≠e3)(t1:e1≠t)(t2:e2≠t)(t3:e3≠t):
  Mem w0 w' (aJ w0 e1 s1 q1 n1 c1 c::aJ w0 e2 s2 q2 n2 c2 d::aJ w0 e3 s3 q3 n3 c3 f::aI w0 g t cs::L):=by
 have H:=h.own3l hx h1 h2 h3 (aT5 _) a i b;have p1:=List.pairwise_cons.1 H.apart;have p2:=List.pairwise_cons.1 p1.2;have H3:=h.own2blk hx hb hg h2 h3 b t2 t3;have H1:=h.own2blk hx hb hg h1 h2 a t1 t2;have q1:=List.pairwise_cons.1 H1.apart;refine H3.cons (dZ _ _ _ _ _ _ _) (cH h1 h.ext.sz) (fun g' hg' j hj e=> ?_);rcases aTi.1 hj with rfl|hj
 ·exact p1.1 _ (by simp) g' hg' e
 rcases aTi.1 hj with rfl|hj
 ·exact p1.1 _ (by simp) g' hg' e
 exact q1.1 j (by simp only[aTi]at hj⊢;exact .inr hj) g' hg' e
theorem tL (p q:OA)(n0 n c1 c2:Nat)(xs:List Value)(ls:List (List UInt8))(w:World)(h:xs=cM ls)(h1:Sl w p n0 c1 1 xs)(h2:Sl w q n c2 1 (cM ls)):
  U 8 #[.slice p n0 c1,.slice q n c2] w (O (.bool true) w):=by
 subst h;obtain rfl:n=n0:=by have a:=h1.len;have b:=h2.len;omega
 have hn:=h1.bd;have d:=xQ h1;have f:=xQ h2;clear h1 h2;go_enter func8,ntmps8;go_wp2;go_loopw [5] (fun i wr=> ∃(k:Nat),k≤n∧i=I k∧Ext w wr) (fun i _=>n-(intOf i).toNat)
 case atStart=>exact⟨0,aTd _,rfl,Ext.refl _⟩
 case round=>
  obtain⟨k,hk,rfl,hw⟩:=hrel;have HW:=xQ hw;clear hw;by_cases hlt:k<n
  ·obtain⟨b,s,l,hp,hx,r,e0⟩:=tT (d.out.ext HW.out) hlt;obtain⟨b',m,l',g,c,j,o⟩:=tT (f.out.ext HW.out) hlt;obtain rfl:l=l':=by rw[hx]at c;injection c
   subst hp g;clear hx c;have i1:=aVt k;have i2:=aVu k n;go_wp2;go_quiet (fail);go_wp2;go_roundw
   case rel=>exact⟨k+1,by omega,by go_num,HW.out.trans xE⟩
   case measure=>simp[intOf];omega
  obtain rfl:k=n:=by omega
  go_wp2;go_ret;exact⟨rfl,HW.out⟩
theorem vR (p:OA)(n a:Nat)(w:World)(h:(1048576:Int)<n):
  U 3 #[.slice p n a] w (O (.bool true) w):=by
 go_enter func3,ntmps3;go_wp2;go_ret;exact⟨rfl,xE⟩
theorem zO (p0:OA)(n0 dv:Nat)(w:World)(hn:(n0:Int)≤1048576)(HE:Hid (Env w))(cb:Hid (BitTab w))
  (HD:U 4 #[.slice p0 n0 dv] w (wC w)):
  U 3 #[.slice p0 n0 dv] w (O (.bool true) w):=by
 unfold wC at HD;have HD:=xQ HD;have gj:decide ((1048576:Int)<(n0:Int))=false:=by simp;omega
 have gk:decide (1048576<n0)=false:=by simp;omega
 go_enter func3,ntmps3;go_wp2_with fail;refine HD.out.mono ?_;rintro e w1 ⟨h,p,an,q,c2,ls,lq,lc,rfl,hc,hd,gs,fu,hi,hl,f4,g3,rfl⟩;have HI:=xQ hi;have aj:=xQ f4;clear hi HD f4 gj gk;have HL:=xQ hl;have cc:Hid (∀l∈ls,l.length≤1048576):=fun l hl=>by have:=fu l hl;omega
 clear hl fu;obtain⟨n,hn⟩: ∃n,ls.length=n:=⟨_,rfl⟩
 obtain⟨r,hr⟩: ∃r,(jD h ls).1=r:=⟨_,rfl⟩
 obtain⟨bs,a4⟩: ∃bs,(jD h ls).2=bs:=⟨_,rfl⟩
 obtain⟨nb,bu⟩: ∃nb,bs.length=nb:=⟨_,rfl⟩
 have gr:=aLp h ls;have fl:xC 5 #[.agg (aVs h p an q c2),.slice (some ⟨g3,0,none⟩) n lc] w1 fun w' e w''=> ∃pa ca qa da ps cs,e= .returned (.tuple #[.agg #[r.aA,r.aB,.slice pa r.cells ca,r.free,r.step,r.aD,r.aF,r.aC,r.aG,.slice qa r.vs da],.slice ps (nb) cs])∧w''.ownsRow w' TI 1 (.slice pa r.cells ca) r.cells.length (ivs r.cells)∧w''.ownsRow w' TV 4 (.slice qa r.vs da) r.vs.length (r.vs.flatMap aE)∧w''.ownsRow w' 9 1 (.slice ps (nb) cs) (nb) (cM bs)∧Ext w' w'':=fun w' hx=>by have:=vL h p _ an q _ c2 _ _ lc ls w' (HI.out.ext hx) (HL.out.ext hx) cc (HE.out.ext (aj.out.trans hx)) (cb.out.ext (aj.out.trans hx));unfold eR at this;rw[hr,a4,bu,hn]at this;exact this
 have fm:xC 6 #[.agg (aVs h p an q c2),.slice (some ⟨g3,0,none⟩) n lc] w1 fun w' e w''=> ∃pa ca qa da ps cs,e= .returned (.tuple #[.agg #[r.aA,r.aB,.slice pa r.cells ca,r.free,r.step,r.aD,r.aF,r.aC,r.aG,.slice qa r.vs da],.slice ps (nb) cs])∧w''.ownsRow w' TI 1 (.slice pa r.cells ca) r.cells.length (ivs r.cells)∧w''.ownsRow w' TV 4 (.slice qa r.vs da) r.vs.length (r.vs.flatMap aE)∧w''.ownsRow w' 9 1 (.slice ps (nb) cs) (nb) (cM bs)∧Ext w' w'':=fun w' hx=>by have:=aKx h p _ an q _ c2 _ _ lc ls w' (HI.out.ext hx) (HL.out.ext hx) cc.out;unfold eR at this;rw[hr,a4,bu,hn]at this;exact this
 rw[hn]at gs;rw[hr,a4,bu]at gr;have HN:=xQ hn;have fg:=xQ bu;have fn:=xQ fun(w':World) (hx:Ext w1 w')=>iA h p _ an q _ c2 w' (HI.out.ext hx)
 rw[hn]at HL⊢;have eb:=xQ hr;have d9:=xQ a4;clear hn bu hr a4;go_wp2_with fail;refine(fl _ ((Mem.start w1).c0 aK (aVs h p an q c2)).ext).mono ?_;rintro e w2 ⟨p5,c5,q5,d5,b5,f5,rfl,fz,f3,fx,bi⟩;have M2:=(((Mem.start w1).c0 aK (aVs h p an q c2)).own3l bi fz f3 fx (aT5 _) (by decide) (by decide) (by decide))
 have ep:=M2.hi 3;clear bi fz f3 fx;obtain⟨aa,ab,ad,ae,j,f,g,af,ag,ah⟩:=(M2.bk 3).ten;go_upto_region 5 with fail;obtain⟨X5,ej⟩: ∃a,a=w2.heap.size:=⟨_,rfl⟩
 rw[←ej];clear aa ab ad ae j f g af ag ah;have M3:=(M2.blkNew aK (aVs r p5 c5 q5 d5) X5 ej.symm)
 generalize World.alloc _ _=v2 at M3⊢;clear M2 ep ej;have er:=M3.hi 0;have es:=M3.hi 4;obtain⟨aa,ab,ad,ae,j,f,g,af,ag,ah⟩:=(M3.bk 4).ten;go_wp2_with fail;clear aa ab ad ae j f g af ag ah;refine(fm _ M3.ext).mono ?_;rintro e w4 ⟨p6,c6,q6,d6,b6,f6,rfl,ar,au,fy,f7⟩;have M4:=(M3.own3l f7 ar au fy (aT5 _) (by decide) (by decide) (by decide))
 clear M3 er es f7 ar au fy fl fm;have et:=M4.hi 3;have eu:=M4.hi 7;obtain⟨aa,ab,ad,ae,j,f,g,af,ag,ah⟩:=(M4.bk 3).ten;go_wp2_with fail;clear aa ab ad ae j f g af ag ah;refine Z (oU r _ _ _ _ _ _ _ _ _ _ _ _ _ ⟨((M4.c0 aK (aVs r p6 c6 q6 d6)).sq 5),((M4.c0 aK (aVs r p6 c6 q6 d6)).sq 6)⟩ ⟨((M4.c0 aK (aVs r p6 c6 q6 d6)).sq 1),((M4.c0 aK (aVs r p6 c6 q6 d6)).sq 2)⟩) fun w5 ao=>?_
 have M5:=((M4.c0 aK (aVs r p6 c6 q6 d6)).adv ao)
 clear M4 et eu ao;have ev:=M5.hi 0;have ew:=M5.hi 4;have ey:=M5.hi 8;go_wp2_with fail;refine Z (tL _ _ _ _ _ _ _ bs _ rfl (M5.sq 7) (M5.sq 3)) fun w6 f8=>?_
 have M6:=(M5.adv f8)
 clear M5 ev ew ey f8;have ez:=M6.hi 0;have e3:=M6.hi 4;have e4:=M6.hi 8;have M7:=(show Mem w1 w6 [aI w1 (X5) aK (aVs r p5 c5 q5 d5),aVq w1 p5 r.cells c5,aVr w1 q5 r.vs d5,aJ w1 9 1 (b5) (nb) (f5) (cM bs),aI w1 w1 aK (aVs h p an q c2)]from M6.pick [4,5,6,7,8] (by decide) rfl)
 clear M6 ez e3 e4;have e5:=M7.hi 0;have e6:=M7.hi 4;obtain⟨aa,ab,ad,ae,j,f,g,af,ag,ah⟩:=(M7.bk 4).ten;go_wp2_with fail;clear aa ab ad ae j f g af ag ah;refine Z (fn _ M7.ext) fun w8 f9=>?_
 have M8:=xQ (M7.adv f9);clear M7 e5 e6 f9 fn;have bc:=M8.out.hi 0;have be:=M8.out.hi 4;by_cases hh:aP h=true∧n≤40
 ·skip;obtain⟨ax,dz⟩:=hh;rw[ax];have gb:decide ((40:Int)<(n:Int))=false:=by simp;omega
  have gc:decide (40<n)=false:=by simp;omega
  have el:jD h ls=(hAt h ls,iJ h ls):=by unfold jD;rw[if_pos ⟨ax,by rw[HN.out];exact dz⟩]
  have eo:r=hAt h ls:=by rw[←eb.out,el]
  have ct:bs=iJ h ls:=by rw[←d9.out,el]
  have f2:aP r=true:=by rw[eo];exact aJ2 ax ls
  have gm:nb=n:=by rw[←fg.out,ct,oK,HN.out]
  have fh:Hid (∀t∈bs,t≠ []):=by rw[ct];exact aRk ax ls
  subst gm;obtain⟨m,hm⟩: ∃x,x=nb/2:=⟨_,rfl⟩
  have en:m≤nb:=by omega
  have t8:(nb:Int)/2=(m:Int):=by omega
  have ha:=HL.out.le;have g9:=HL.out.bd;have fs:=xQ (show Sl w1 (some ⟨g3,0,none⟩) m lc 1 (cM (ls.take m))from by have:=aHp HL en;rwa[aKl]at this);have gh:=xQ (by have:=aHo HL en;rwa[aKm]at this);obtain⟨ra,bx⟩: ∃x,hAt h (ls.take m)=x:=⟨_,rfl⟩
  obtain⟨fa,cu⟩: ∃x,iJ h (ls.take m)=x:=⟨_,rfl⟩
  obtain⟨fb,cv⟩: ∃x,iJ ra (ls.drop m)=x:=⟨_,rfl⟩
  have d1:aP ra=true:=by rw[←bx];exact aJ2 ax _
  have cw:(ls.take m).length=m:=by rw[aTt,HN.out];omega
  have cx:(ls.drop m).length=nb-m:=by rw[aUm,HN.out]
  have f1:hAt ra (ls.drop m)=r:=by rw[←bx,←aR7,List.take_append_drop,eo]
  have dw:bs=fa++fb:=by rw[←cu,←cv,←bx,←aQ4,List.take_append_drop,ct]
  have dx:fa.length=m:=by rw[←cu,oK,cw]
  have dy:fb.length=nb-m:=by rw[←cv,oK,cx]
  have XR:=xQ M8.out.ext;have fi:Hid (∀B w',B≤w'.heap.size→Ext w1 w'→U 5 #[.agg (aVs h p an q c2),.slice (some ⟨g3,0,none⟩) m lc] w' fun e w''=> ∃pa ca qa da ps cs,e= .returned (.tuple #[.agg #[ra.aA,ra.aB,.slice pa ra.cells ca,ra.free,ra.step,ra.aD,ra.aF,ra.aC,ra.aG,.slice qa ra.vs da],.slice ps (m) cs])∧w''.ownsRow B TI 1 (.slice pa ra.cells ca) ra.cells.length (ivs ra.cells)∧w''.ownsRow B TV 4 (.slice qa ra.vs da) ra.vs.length (ra.vs.flatMap aE)∧w''.ownsRow B 9 1 (.slice ps (m) cs) (m) (cM fa)∧Ext w' w''):=fun B w' hB hx=>by have:=vL h p _ an q _ c2 (some ⟨g3,0,none⟩) (ls.take m).length lc (ls.take m) w' (HI.out.ext hx) (cw.symm▸fs.out.ext hx) (fun l hl=>cc l (aUl hl)) (HE.out.ext (aj.out.trans hx)) (cb.out.ext (aj.out.trans hx));unfold eR jD at this;rw[if_pos ⟨ax,by omega⟩]at this;rw[cw]at this;refine this.mono ?_;rintro e w'' ⟨pa,ca,qa,da,ps,cs,rfl,o1,o2,o3,bi⟩;dsimp only at o1 o2 o3⊢;rw[bx]at o1 o2⊢;rw[cu,dx]at o3⊢;exact⟨pa,ca,qa,da,ps,cs,rfl,cH o1 hB,cH o2 hB,cH o3 hB,bi⟩
  have fj:Hid (∀B w' p8 c8 q8 d8 pd dd,B≤w'.heap.size→Ext w1 w'→IsHouse w' ra p8 ra.cells.length c8 q8 ra.vs.length d8→Sl w' pd (nb-m) dd 1 (cM (ls.drop m))→U 5 #[.agg (aVs ra p8 c8 q8 d8),.slice pd (nb-m) dd] w' fun e w''=> ∃pa ca qa da ps cs,e= .returned (.tuple #[.agg #[r.aA,r.aB,.slice pa r.cells ca,r.free,r.step,r.aD,r.aF,r.aC,r.aG,.slice qa r.vs da],.slice ps (nb-m) cs])∧w''.ownsRow B TI 1 (.slice pa r.cells ca) r.cells.length (ivs r.cells)∧w''.ownsRow B TV 4 (.slice qa r.vs da) r.vs.length (r.vs.flatMap aE)∧w''.ownsRow B 9 1 (.slice ps (nb-m) cs) (nb-m) (cM fb)∧Ext w' w''):=fun B w' p8 c8 q8 d8 pd dd hB hx hi hs=>by have:=vL ra p8 _ c8 q8 _ d8 pd (ls.drop m).length dd (ls.drop m) w' hi (cx.symm▸hs) (fun l hl=>cc l (List.mem_of_mem_drop hl)) (HE.out.ext (aj.out.trans hx)) (cb.out.ext (aj.out.trans hx));unfold eR jD at this;rw[if_pos ⟨d1,by omega⟩]at this;rw[cx]at this;refine this.mono ?_;rintro e w'' ⟨pa,ca,qa,da,ps,cs,rfl,o1,o2,o3,bi⟩;dsimp only at o1 o2 o3⊢;rw[f1]at o1 o2⊢;rw[cv,dy]at o3⊢;exact⟨pa,ca,qa,da,ps,cs,rfl,cH o1 hB,cH o2 hB,cH o3 hB,bi⟩
  have fe:=xQ dw;have bj:=xQ f2;clear eb d9 ax el eo ct f2 bx cu cv d1 cw cx f1 dw dx dy fs hm;have j0:=aVt m;have j1:=aVv m nb;have j2:=aVv nb lc;have j3:=aVv m lc;have ht:(m:Int).toNat=m:=by omega
  go_upto_region 11 with fail;clear gb gc
  refine qF (gl [gEq (.agg #[(h.aA:Int),(h.aB:Int),.slice p h.cells an,(h.free:Int),(h.step:Int),(h.aD:Int),(h.aF:Int),(h.aC:Int),(h.aG:Int),.slice q h.vs c2]),gEq (.slice (some ⟨g3,0,none⟩) nb lc),gEq (m:Int),gEq (.slice (some ⟨g3,0,none⟩) m lc),(fun v w'=> ∃p c q d ps cs,v= .tuple #[.agg #[ra.aA,ra.aB,.slice p ra.cells c,ra.free,ra.step,ra.aD,ra.aF,ra.aC,ra.aG,.slice q ra.vs d],.slice ps (m) cs]∧w'.ownsRow w8 TI 1 (.slice p ra.cells c) ra.cells.length (ivs ra.cells)∧w'.ownsRow w8 TV 4 (.slice q ra.vs d) ra.vs.length (ra.vs.flatMap aE)∧w'.ownsRow w8 9 1 (.slice ps (m) cs) (m) (cM fa)),(fun v w'=> ∃p c q d ps cs,v= .tuple #[.agg #[ra.aA,ra.aB,.slice p ra.cells c,ra.free,ra.step,ra.aD,ra.aF,ra.aC,ra.aG,.slice q ra.vs d],.slice ps (m) cs]∧w'.ownsRow w8 TI 1 (.slice p ra.cells c) ra.cells.length (ivs ra.cells)∧w'.ownsRow w8 TV 4 (.slice q ra.vs d) ra.vs.length (ra.vs.flatMap aE)∧w'.ownsRow w8 9 1 (.slice ps (m) cs) (m) (cM fa)),(fun v w'=> ∃p c q d,v= .agg #[ra.aA,ra.aB,.slice p ra.cells c,ra.free,ra.step,ra.aD,ra.aF,ra.aC,ra.aG,.slice q ra.vs d]∧w'.ownsRow w8 TI 1 (.slice p ra.cells c) ra.cells.length (ivs ra.cells)∧w'.ownsRow w8 TV 4 (.slice q ra.vs d) ra.vs.length (ra.vs.flatMap aE)),(fun v w'=> ∃ps cs,v= .slice ps (m) cs∧w'.ownsRow w8 9 1 (.slice ps (m) cs) (m) (cM fa)),aJ4 w8 aK #[(),(),((),()),(),(),(),(),(),(),((),())]]) 9 7 (by kernel_rfl) rfl (by kernel_rfl) (by kernel_rfl) (by kernel_rfl) (by decide) (kK (aX (bB _) (aX (bB _) (aX (bB _) (aX (bB _) (aX (fun v w w' ⟨p,c,q,d,ps,cs,e,o1,o2,o3⟩ hx=>⟨p,c,q,d,ps,cs,e,aW o1 hx,aW o2 hx,aW o3 hx⟩) (aX (fun v w w' ⟨p,c,q,d,ps,cs,e,o1,o2,o3⟩ hx=>⟨p,c,q,d,ps,cs,e,aW o1 hx,aW o2 hx,aW o3 hx⟩) (aX (fun v w w' ⟨p,c,q,d,e,o1,o2⟩ hx=>⟨p,c,q,d,e,aW o1 hx,aW o2 hx⟩) (aX (fun v w w' ⟨ps,cs,e,o⟩ hx=>⟨ps,cs,e,aW o hx⟩) (aX (rR _ _ _) (mU))))))))))) (k:=11) (by kernel_rfl) (by decide) (by kernel_rfl) (ls:= [(0,some 70),(1,some 71),(2,some 72),(3,some 73),(4,some 74),(5,some 69),(6,some 75),(7,some 76),(8,some 10)]) (by kernel_rfl) (ir:= [0,1,2,3,4,5,6,7,8]) (by kernel_rfl) rfl (fun _ _ _ _ h=>h) (lf:= [(5,some 69)]) (by kernel_rfl) ?flo ?steps (tl:=#[true,true,true,true,true,true,true,true,true,false,false]) (by kernel_rfl) ?fin
  case flo=>intro wi hx v5 h5;obtain⟨al,f,am,ai,y,u,rfl,ap,aq,ak⟩:=h5;exact⟨_,.inl ⟨by rfl,fun w=>by go_simp⟩,⟨y,u,rfl,ak⟩⟩
  case steps=>
   refine sC [] rfl (fun wi hx=> ?_) ?_
   ·intro K hK;have hX:Ext w8 wi:=xE;obtain⟨a9,ci,cj,ck,cm,cn,co,cp,cq,cr⟩:=((M8.out.bk 4).ext hX).ten;go_simp;exact hK _ _ ⟨.agg #[(h.aA:Int),(h.aB:Int),.slice p h.cells an,(h.free:Int),(h.step:Int),(h.aD:Int),(h.aF:Int),(h.aC:Int),(h.aG:Int),.slice q h.vs c2],rfl,rfl,Ext.refl _⟩
   refine sS0 [] (sS0 [] (sS2 [(1,some 71),(2,some 72)] ?_));refine sC [(0,some 70),(3,some 73)] rfl (fun wi hx=> ?_) ?_
   ·intro v0 h0 v3 h3 K hK;subst h0 h3;go_simp;refine(fi w8 _ hx.sz (XR.out.trans hx.of_drew)).mono ?_;rintro e w5 ⟨al,f,am,ai,y,u,rfl,o5,v5,r5,ao⟩;go_simp;exact hK _ _ ⟨_,rfl,⟨al,f,am,ai,y,u,rfl,o5,v5,r5⟩,ao⟩
   refine sC [(4,some 74)] rfl (fun wi hx=> ?_) ?_
   ·intro v4 h4 K hK;obtain⟨b3,j,b9,bp,b4,bl,rfl,ar,au,bb⟩:=h4;go_simp;exact hK _ _ ⟨_,rfl,⟨b3,j,b9,bp,b4,bl,rfl,ar,au,bb⟩,Ext.refl _⟩
   refine sC [(5,some 69)] rfl (fun wi hx=> ?_) ?_
   ·intro v5 h5 K hK;obtain⟨al,f,am,ai,y,u,rfl,ap,aq,ak⟩:=h5;go_simp;exact hK _ _ ⟨_,rfl,⟨al,f,am,ai,rfl,ap,aq⟩,Ext.refl _⟩
   refine sC [(5,some 69)] rfl (fun wi hx=> ?_) ?_
   ·intro v5 h5 K hK;obtain⟨al,f,am,ai,y,u,rfl,ap,aq,ak⟩:=h5;go_simp;exact hK _ _ ⟨_,rfl,⟨y,u,rfl,ak⟩,Ext.refl _⟩
   refine sC [] rfl (fun wi hx=> ?_) StepsL.nil
   ·intro K hK;go_simp;exact hK _ _ ⟨.pointer (some ⟨wi,0,none⟩),rfl,⟨wi.heap.size,rfl,by have:=hx.sz;simp at this;omega,Blk.new _ _ _⟩,(Ext.refl _).alloc _⟩
  case fin=>
   intro wi hx v0 h0 v1 h1 v2 h2 v3 h3 v4 h4 v5 h5 v6 h6 v7 h7 v8 h8;subst h0 h1 h2 h3;obtain⟨b3,j,b9,bp,b4,bl,rfl,ar,au,bb⟩:=h4;obtain⟨al,f,am,ai,y,u,rfl,ap,aq,ak⟩:=h5;obtain⟨a0,g,a1,aw,rfl,bv,bz⟩:=h6;obtain⟨b7,bm,rfl,bw⟩:=h7;obtain⟨g8,rfl,bt,B8⟩:=h8;have ay:=hx.of_drew;obtain⟨v8,rfl⟩: ∃z,z=wi:=⟨_,rfl⟩
   obtain⟨g6,rfl⟩: ∃z,z=g8:=⟨_,rfl⟩
   obtain⟨a5,rfl⟩: ∃z,z=a0:=⟨_,rfl⟩
   obtain⟨a2,rfl⟩: ∃z,z=g:=⟨_,rfl⟩
   obtain⟨a6,rfl⟩: ∃z,z=a1:=⟨_,rfl⟩
   obtain⟨a3,rfl⟩: ∃z,z=aw:=⟨_,rfl⟩
   obtain⟨b8,rfl⟩: ∃z,z=b7:=⟨_,rfl⟩
   obtain⟨bo,rfl⟩: ∃z,z=bm:=⟨_,rfl⟩
   have bh:=(Mem.own3blk (M8.out) ay B8 bt bv bz bw (by decide) (by decide) (by decide) (by decide) (by decide) (by decide))
   clear hx ay B8 bt ar au ap aq bv bz bc be bb ak bw fi XR;have cy:=bh.hi 3;have cz:=bh.hi 4;have c0:=bh.hi 8;have fd:=(bh.bk 3).tenf;try go_frame
   refine wpAny_ready (rs:= [9]) (by kernel_rfl) (by simp) ?_;refine AllReady.cons rfl (fun K hK=> ?_) AllReady.nil;go_simp;refine hK _ _ ?_;clear hK K fd cy cz c0;have av:=(bh.put10 (i:=3) rfl (I ra.aA) (I ra.aB) (.slice a5 ra.cells a2) (I ra.free) (I ra.step) (I ra.aD) (I ra.aF) (I ra.aC) (I ra.aG) (.slice a6 ra.vs a3))
   generalize b0:World.setCell _ _ _=v8z;rw[b0]at av;clear b0 bh;refine wpAny_ready (rs:= [10]) (by kernel_rfl) (by simp) ?_;refine AllReady.cons rfl (fun K hK=> ?_) AllReady.nil;go_simp;refine hK _ _ ?_;clear hK K;refine wpAny_done (by kernel_rfl) ?_ _;try go_frame
   have c1:=av.hi 3;have c3:=av.hi 4;have c4:=av.hi 8;have XV:=xQ av.ext;have br:lc=m∨ ¬lc=m:=Classical.em _;have IA:=xQ (show IsHouse v8z ra a5 _ a2 a6 _ a3 from⟨(av.sq 0),(av.sq 1)⟩);have ec:=xQ (gh.out.ext XV.out);have fk:=xQ fun(B:Nat) (w':World) (pd:OA) (dd:Nat) (hs:Sl v8z pd (nb-m) dd 1 (cM (ls.drop m))) (hB:B≤w'.heap.size) (hx:Ext v8z w')=>fj B w' a5 a2 a6 a3 pd dd hB (XV.out.trans hx) (IA.out.ext hx) (hs.ext hx)
   go_upto_region 12 with fail
   refine qF (gl [gEq (.agg #[(ra.aA:Int),(ra.aB:Int),.slice a5 ra.cells a2,(ra.free:Int),(ra.step:Int),(ra.aD:Int),(ra.aF:Int),(ra.aC:Int),(ra.aG:Int),.slice a6 ra.vs a3]),gEq (.slice (some ⟨g3,0,none⟩) nb lc),gEq (m:Int),(fun v _=> ∃pd dd,v= .slice pd (nb-m) dd∧Sl v8z pd (nb-m) dd 1 (cM (ls.drop m))),(fun v w'=> ∃p c q d ps cs,v= .tuple #[.agg #[r.aA,r.aB,.slice p r.cells c,r.free,r.step,r.aD,r.aF,r.aC,r.aG,.slice q r.vs d],.slice ps (nb-m) cs]∧w'.ownsRow v8z TI 1 (.slice p r.cells c) r.cells.length (ivs r.cells)∧w'.ownsRow v8z TV 4 (.slice q r.vs d) r.vs.length (r.vs.flatMap aE)∧w'.ownsRow v8z 9 1 (.slice ps (nb-m) cs) (nb-m) (cM fb)),(fun v w'=> ∃p c q d ps cs,v= .tuple #[.agg #[r.aA,r.aB,.slice p r.cells c,r.free,r.step,r.aD,r.aF,r.aC,r.aG,.slice q r.vs d],.slice ps (nb-m) cs]∧w'.ownsRow v8z TI 1 (.slice p r.cells c) r.cells.length (ivs r.cells)∧w'.ownsRow v8z TV 4 (.slice q r.vs d) r.vs.length (r.vs.flatMap aE)∧w'.ownsRow v8z 9 1 (.slice ps (nb-m) cs) (nb-m) (cM fb)),(fun v w'=> ∃p c q d,v= .agg #[r.aA,r.aB,.slice p r.cells c,r.free,r.step,r.aD,r.aF,r.aC,r.aG,.slice q r.vs d]∧w'.ownsRow v8z TI 1 (.slice p r.cells c) r.cells.length (ivs r.cells)∧w'.ownsRow v8z TV 4 (.slice q r.vs d) r.vs.length (r.vs.flatMap aE)),(fun v w'=> ∃ps cs,v= .slice ps (nb-m) cs∧w'.ownsRow v8z 9 1 (.slice ps (nb-m) cs) (nb-m) (cM fb)),aJ4 v8z aK #[(),(),((),()),(),(),(),(),(),(),((),())]]) 9 7 (by kernel_rfl) rfl (by kernel_rfl) (by kernel_rfl) (by kernel_rfl) (by decide) (kK (aX (bB _) (aX (bB _) (aX (bB _) (aX (fun _ _ _ h _=>h) (aX (fun v w w' ⟨p,c,q,d,ps,cs,e,o1,o2,o3⟩ hx=>⟨p,c,q,d,ps,cs,e,aW o1 hx,aW o2 hx,aW o3 hx⟩) (aX (fun v w w' ⟨p,c,q,d,ps,cs,e,o1,o2,o3⟩ hx=>⟨p,c,q,d,ps,cs,e,aW o1 hx,aW o2 hx,aW o3 hx⟩) (aX (fun v w w' ⟨p,c,q,d,e,o1,o2⟩ hx=>⟨p,c,q,d,e,aW o1 hx,aW o2 hx⟩) (aX (fun v w w' ⟨ps,cs,e,o⟩ hx=>⟨ps,cs,e,aW o hx⟩) (aX (rR _ _ _) (mU))))))))))) (k:=11) (by kernel_rfl) (by decide) (by kernel_rfl) (ls:= [(0,some 78),(1,some 79),(2,some 80),(3,some 81),(4,some 82),(5,some 77),(6,some 83),(7,some 84),(8,some 12)]) (by kernel_rfl) (ir:= [0,1,2,3,4,5,6,7,8]) (by kernel_rfl) rfl (fun _ _ _ _ h=>h) (lf:= [(5,some 77)]) (by kernel_rfl) ?flo ?steps (tl:=#[true,true,true,true,true,true,true,true,true,false,false]) (by kernel_rfl) ?fin
   case flo=>intro wi hx v5 h5;obtain⟨al,f,am,ai,y,u,rfl,ap,aq,ak⟩:=h5;exact⟨_,.inl ⟨by rfl,fun w=>by go_simp⟩,⟨y,u,rfl,ak⟩⟩
   case steps=>
    refine sC [] rfl (fun wi hx=> ?_) ?_
    ·intro K hK;have hX:Ext v8z wi:=xE;obtain⟨a9,ci,cj,ck,cm,cn,co,cp,cq,cr⟩:=((av.bk 3).ext hX).ten;go_simp;exact hK _ _ ⟨.agg #[(ra.aA:Int),(ra.aB:Int),.slice a5 ra.cells a2,(ra.free:Int),(ra.step:Int),(ra.aD:Int),(ra.aF:Int),(ra.aC:Int),(ra.aG:Int),.slice a6 ra.vs a3],rfl,rfl,Ext.refl _⟩
    refine sS0 [] (sS0 [] ?_);refine sC [(1,some 79),(2,some 80)] rfl (fun wi hx=> ?_) ?_
    ·intro v1 h1 v2 h2 K hK;subst h1 h2;rcases br with br|br
     ·obtain⟨gp,gq,f0⟩:nb=0∧m=0∧lc=0:=by omega
      subst gp gq f0;go_simp;exact hK _ _ ⟨_,rfl,⟨_,_,rfl,by simpa using ec.out⟩,Ext.refl _⟩
     have fr:=ec.out;rw[if_neg br,Nat.mul_one]at fr;go_simp;exact hK _ _ ⟨_,rfl,⟨_,_,rfl,fr⟩,Ext.refl _⟩
    refine sC [(0,some 78),(3,some 81)] rfl (fun wi hx=> ?_) ?_
    ·intro v0 h0 v3 h3 K hK;obtain rfl:=h0;obtain⟨ga,ft,rfl,fw⟩:=h3;go_simp;refine(fk v8z _ ga ft fw hx.sz hx.of_drew).mono ?_;rintro e w5 ⟨al,f,am,ai,y,u,rfl,o5,v5,r5,ao⟩;go_simp;exact hK _ _ ⟨_,rfl,⟨al,f,am,ai,y,u,rfl,o5,v5,r5⟩,ao⟩
    refine sC [(4,some 82)] rfl (fun wi hx=> ?_) ?_
    ·intro v4 h4 K hK;obtain⟨b3,j,b9,bp,b4,bl,rfl,ar,au,bb⟩:=h4;go_simp;exact hK _ _ ⟨_,rfl,⟨b3,j,b9,bp,b4,bl,rfl,ar,au,bb⟩,Ext.refl _⟩
    refine sC [(5,some 77)] rfl (fun wi hx=> ?_) ?_
    ·intro v5 h5 K hK;obtain⟨al,f,am,ai,y,u,rfl,ap,aq,ak⟩:=h5;go_simp;exact hK _ _ ⟨_,rfl,⟨al,f,am,ai,rfl,ap,aq⟩,Ext.refl _⟩
    refine sC [(5,some 77)] rfl (fun wi hx=> ?_) ?_
    ·intro v5 h5 K hK;obtain⟨al,f,am,ai,y,u,rfl,ap,aq,ak⟩:=h5;go_simp;exact hK _ _ ⟨_,rfl,⟨y,u,rfl,ak⟩,Ext.refl _⟩
    refine sC [] rfl (fun wi hx=> ?_) StepsL.nil
    ·intro K hK;go_simp;exact hK _ _ ⟨.pointer (some ⟨wi,0,none⟩),rfl,⟨wi.heap.size,rfl,by have:=hx.sz;simp at this;omega,Blk.new _ _ _⟩,(Ext.refl _).alloc _⟩
   case fin=>
    intro wi hx v0 h0 v1 h1 v2 h2 v3 h3 v4 h4 v5 h5 v6 h6 v7 h7 v8 h8;subst h0 h1 h2;obtain⟨ga,ft,rfl,fw⟩:=h3;obtain⟨b3,j,b9,bp,b4,bl,rfl,ar,au,bb⟩:=h4;obtain⟨al,f,am,ai,y,u,rfl,ap,aq,ak⟩:=h5;obtain⟨a0,g,a1,aw,rfl,bv,bz⟩:=h6;obtain⟨b7,bm,rfl,bw⟩:=h7;obtain⟨g8,rfl,bt,B8⟩:=h8;have ay:=hx.of_drew;obtain⟨v9,rfl⟩: ∃z,z=wi:=⟨_,rfl⟩
    have a7:=(Mem.own3blk (av) ay B8 bt bv bz bw (by decide) (by decide) (by decide) (by decide) (by decide) (by decide))
    clear hx ay B8 bt ar au ap aq bv bz c1 c3 c4 bb ak bw fk fj IA ec br XV;have dj:=a7.hi 3;have dk:=a7.hi 7;have dl:=a7.hi 8;have b1:=a7.hi 12;have fd:=(a7.bk 3).tenf;try go_frame
    refine wpAny_ready (rs:= [9]) (by kernel_rfl) (by simp) ?_;refine AllReady.cons rfl (fun K hK=> ?_) AllReady.nil;go_simp;refine hK _ _ ?_;clear hK K fd dj dk dl b1;have a8:=(a7.put10 (i:=3) rfl (I r.aA) (I r.aB) (.slice a0 r.cells g) (I r.free) (I r.step) (I r.aD) (I r.aF) (I r.aC) (I r.aG) (.slice a1 r.vs aw))
    generalize b0:World.setCell _ _ _=g2;rw[b0]at a8;clear b0 a7;refine wpAny_ready (rs:= [10]) (by kernel_rfl) (by simp) ?_;refine AllReady.cons rfl (fun K hK=> ?_) AllReady.nil;go_simp;refine hK _ _ ?_;clear hK K;refine wpAny_done (by kernel_rfl) ?_ _;try go_frame
    have dm:=a8.hi 3;have dn:=a8.hi 7;have dp:=a8.hi 8;have b2:=a8.hi 12;have cg:=(show Mem w1 g2 [aI w1 (X5) aK (aVs r p5 c5 q5 d5),aVq w1 p5 r.cells c5,aVr w1 q5 r.vs d5,aJ w1 9 1 (b5) (nb) (f5) (cM bs),aI w1 (g8) aK (aVs r a0 g a1 aw),aVq w1 a0 r.cells g,aVr w1 a1 r.vs aw,aJ w1 9 1 (b7) (nb-m) (bm) (cM fb),aJ w1 9 1 (b8) (m) (bo) (cM fa)]from a8.pick [8,9,10,11,3,0,1,2,6] (by decide) rfl)
    clear a8 dm dn dp b2 t8;have dq:=cg.hi 0;have dr:=cg.hi 4;go_wp2;go_loopw [14] (fun i wr=> ∃(k:Nat),k≤nb∧i=I k∧Mem w1 wr [aI w1 (X5) aK (aVs r p5 c5 q5 d5),aVq w1 p5 r.cells c5,aVr w1 q5 r.vs d5,aJ w1 9 1 (b5) (nb) (f5) (cM bs),aI w1 (g8) aK (aVs r a0 g a1 aw),aVq w1 a0 r.cells g,aVr w1 a1 r.vs aw,aJ w1 9 1 (b7) (nb-m) (bm) (cM fb),aJ w1 9 1 (b8) (m) (bo) (cM fa)]) (fun i _=>nb-(intOf i).toNat)
    case atStart=>exact⟨0,aTd _,rfl,cg⟩
    case round=>
     clear cg dq dr;obtain⟨k,hk,rfl,hM⟩:=hrel;have HM:=hM;clear hM;have db:X5<wr:=(HM.hi 0)
     have dc:g8<wr:=(HM.hi 4)
     by_cases hlt:k<nb
     ·skip;obtain⟨b,he,li,gi,hx,g7,e0⟩:=tT (HM.sq 3) hlt;have hb:li.isEmpty=false:=by have:=fh li (aT7 hx);simp[this]
      subst gi;clear hx;have i1:=aVt k;have i2:=aVu k nb;go_wp2;go_roundw
      case rel=>exact⟨k+1,by omega,by go_num,HM⟩
      case measure=>first|(simp[intOf];done)|(simp[intOf];omega)
     skip;obtain rfl:nb=k:=by omega
     have IX:=xQ (show IsHouse wr r p5 _ c5 q5 _ d5 from⟨(HM.sq 1),(HM.sq 2)⟩);obtain⟨E,hE⟩: ∃x,uH r=x:=⟨_,rfl⟩
     have ff:xC 12 #[.agg (aVs r p5 c5 q5 d5),str [101,110,100]] wr fun w' e w''=> ∃pa ca qa da,e= .returned (.tuple #[.agg #[E.aA,E.aB,.slice pa E.cells ca,E.free,E.step,E.aD,E.aF,E.aC,E.aG,.slice qa E.vs da],str [111,107]])∧w''.ownsRow w' TI 1 (.slice pa E.cells ca) E.cells.length (ivs E.cells)∧w''.ownsRow w' TV 4 (.slice qa E.vs da) E.vs.length (E.vs.flatMap aE)∧Ext w' w'':=fun w' hx=>by have:=aFp r p5 _ c5 q5 _ d5 [101,110,100] w' (IX.out.ext hx) (by decide) (HE.out.ext (aj.out.trans (HM.ext.trans hx))) (cb.out.ext (aj.out.trans (HM.ext.trans hx)));rw[aOh bj.out,hE]at this;exact this
     have gn:=aCx bj.out;have bg:=aPr bj.out;rw[hE]at bg;obtain⟨_,_,f0,_,_⟩:=(dF r).1 bj.out;obtain⟨X,hX⟩: ∃x,dW r=x:=⟨_,rfl⟩
     rw[hX]at gn bg;have bf:=xQ bg;have fo:=xQ hX;clear hE bg hX bj fh;obtain⟨aa,ab,ad,ae,j,f,g,af,ag,ah⟩:=(HM.bk 0).ten;go_wp2_with fail;clear aa ab ad ae j f g af ag ah;refine(ff _ (Ext.refl _)).mono ?_;rintro e g4 ⟨p7,c7,q7,d7,rfl,d0,d2,d3⟩;have cf:=(HM.own2 d3 d0 d2 (aT5 _) (by decide))
     clear HM db dc d3 d0 d2 ff;have de:=cf.hi 2;have df:=cf.hi 6;go_upto_region 19 with fail;obtain⟨X7,ek⟩: ∃a,a=g4.heap.size:=⟨_,rfl⟩
     rw[←ek];have s:=(cf.blkNew aK (aVs E p7 c7 q7 d7) X7 ek.symm)
     generalize World.alloc _ _=v7 at s⊢;clear cf de df ek;have dg:=s.hi 0;have dh:=s.hi 3;have di:=s.hi 7;have fq:=xQ (show IsHouse v7 r p5 _ c5 q5 _ d5 from⟨(s.sq 4),(s.sq 5)⟩);have fp:=xQ (show IsHouse v7 E p7 _ c7 q7 _ d7 from⟨(s.sq 1),(s.sq 2)⟩);have ce:=xQ fun(w':World) (hx:Ext v7 w')=>nR r p5 _ c5 q5 _ d5 w' (fq.out.ext hx)
     have ea:=xQ fun(w':World) (hx:Ext v7 w')=>nR E p7 _ c7 q7 _ d7 w' (fp.out.ext hx)
     rw[fo.out]at ce;have i0:=aVw (r.aG+X);clear IX fq fp fo;go_cut [17] (fun s1 wx=>s1= .bool true∧Mem w1 wx [aI w1 (X7) aK (aVs E p7 c7 q7 d7),aVq w1 p7 E.cells c7,aVr w1 q7 E.vs d7,aI w1 (X5) aK (aVs r p5 c5 q5 d5),aVq w1 p5 r.cells c5,aVr w1 q5 r.vs d5,aJ w1 9 1 (b5) (nb) (f5) (cM bs),aI w1 (g8) aK (aVs r a0 g a1 aw),aVq w1 a0 r.cells g,aVr w1 a1 r.vs aw,aJ w1 9 1 (b7) (nb-m) (bm) (cM fb),aJ w1 9 1 (b8) (m) (bo) (cM fa)])
     case first=>
      by_cases hle:r.aG+X≤99999
      ·skip;obtain⟨e1,e2⟩:=bf hle;rw[e2]at ea;have t0:decide (99999<r.aG+X)=false:=by simp;omega
       have t1:((E.vs.length:Int)==0)=true:=by rw[e1];rfl
       clear e1 e2 bf;refine rL (gl [gEq (.pointer (some ⟨X5,8,none⟩)),gEq (r.aG:Int),gEq (.agg #[(r.aA:Int),(r.aB:Int),.slice p5 r.cells c5,(r.free:Int),(r.step:Int),(r.aD:Int),(r.aF:Int),(r.aC:Int),(r.aG:Int),.slice q5 r.vs d5]),gEq X,gEq (r.aG+X:Int),gEq (.bool false),gEq (.bool false),gEq (.pointer (some ⟨X7,9,none⟩)),gEq (.slice q7 E.vs d7),gEq (E.vs.length:Int),gEq (.bool true),gEq (.bool true),gEq (.agg #[(E.aA:Int),(E.aB:Int),.slice p7 E.cells c7,(E.free:Int),(E.step:Int),(E.aD:Int),(E.aF:Int),(E.aC:Int),(E.aG:Int),.slice q7 E.vs d7]),gEq (I 0),gEq (.bool true),gEq (.bool true),gEq (.bool true),gEq (.bool true)]) 18 18 [(0,some 101),(1,some 102),(2,some 103),(3,some 104),(4,some 105),(5,some 106),(6,some 107),(7,some 108),(8,some 109),(9,some 110),(10,some 111),(11,some 112),(12,some 113),(13,some 114),(14,some 115),(15,some 116),(16,some 117),(17,some 17)] ?steps ?fin
       case steps=>
        refine sS0 [] ?_;refine sC [(0,some 101)] rfl (fun wi hx=> ?_) ?_
        ·intro v0 h0 K hK;obtain rfl:=h0;have hX:Ext v7 wi:=xE;have a9:=((s.bk 3).ext hX).cl 8;go_simp;exact hK _ _ ⟨I (r.aG),rfl,rfl,Ext.refl _⟩
        refine sC [] rfl (fun wi hx=> ?_) ?_
        ·intro K hK;have hX:Ext v7 wi:=xE;obtain⟨a9,ci,cj,ck,cm,cn,co,cp,cq,cr⟩:=((s.bk 3).ext hX).ten;go_simp;exact hK _ _ ⟨.agg #[(r.aA:Int),(r.aB:Int),.slice p5 r.cells c5,(r.free:Int),(r.step:Int),(r.aD:Int),(r.aF:Int),(r.aC:Int),(r.aG:Int),.slice q5 r.vs d5],rfl,rfl,Ext.refl _⟩
        refine sC [(2,some 103)] rfl (fun wi hx=> ?_) ?_
        ·intro v2 h2 K hK;obtain rfl:=h2;go_simp;refine Z (ce _ hx.of_drew) fun w5 ao=>?_
         go_simp;exact hK _ _ ⟨I X,rfl,rfl,ao⟩
        refine sC [(1,some 102),(3,some 104)] rfl (fun wi hx=> ?_) ?_
        ·intro v1 h1 v3 h3 K hK;subst h1 h3;have gt:=aVw (r.aG+X);go_simp;exact hK _ _ ⟨I (r.aG+X),rfl,rfl,Ext.refl _⟩
        refine sS1 [(4,some 105)] (sS1 [(5,some 106)] (sS1 [(6,some 107)] ?_));refine sC [(6,some 107),(7,some 108)] rfl (fun wi hx=> ?_) ?_
        ·intro v6 h6 v7 h7 K hK;subst h6 h7;have hX:Ext v7 wi:=xE;have a9:=((s.bk 0).ext hX).cl 9;go_simp;exact hK _ _ ⟨.slice q7 E.vs d7,rfl,rfl,Ext.refl _⟩
        refine sS2 [(6,some 107),(8,some 109)] (sS2 [(6,some 107),(9,some 110)] (sS2 [(6,some 107),(10,some 111)] ?_));refine sC [(11,some 112)] rfl (fun wi hx=> ?_) ?_
        ·intro fc ba K hK;obtain rfl:=ba;have hX:Ext v7 wi:=xE;obtain⟨a9,ci,cj,ck,cm,cn,co,cp,cq,cr⟩:=((s.bk 0).ext hX).ten;go_simp;exact hK _ _ ⟨.agg #[(E.aA:Int),(E.aB:Int),.slice p7 E.cells c7,(E.free:Int),(E.step:Int),(E.aD:Int),(E.aF:Int),(E.aC:Int),(E.aG:Int),.slice q7 E.vs d7],rfl,rfl,Ext.refl _⟩
        refine sC [(11,some 112),(12,some 113)] rfl (fun wi hx=> ?_) ?_
        ·intro fc ba gd bq K hK;obtain rfl:=ba;obtain rfl:=bq;go_simp;refine Z (ea _ hx.of_drew) fun w5 ao=>?_
         go_simp;exact hK _ _ ⟨I 0,rfl,rfl,ao⟩
        exact sS2 [(11,some 112),(13,some 114)] (sS3 [(6,some 107),(11,some 112),(14,some 115)] (sS2 [(6,some 107),(15,some 116)] (sS1 [(16,some 117)] StepsL.nil)))
       case fin=>
        intro wi hx v0 h0 v1 h1 v2 h2 v3 h3 v4 h4 v5 h5 v6 h6 v7 h7 v8 h8 v9 h9 gw ed fc ba gd bq gx ee gy ef gz eg g0 eh g1 ei;subst h0 h1 h2 h3 h4 h5 h6 h7 h8 h9;obtain rfl:=ed;obtain rfl:=ba;obtain rfl:=bq;obtain rfl:=ee;obtain rfl:=ef;obtain rfl:=eg;obtain rfl:=eh;obtain rfl:=ei;have ay:=hx.of_drew;refine wpAny_done (by kernel_rfl) ?_ _;try go_frame
        go_wp2_with fail;go_meet;exact⟨rfl,s.adv ay⟩
      skip;have t0:decide (99999<r.aG+X)=true:=by simp;omega
      clear bf;refine rL (gl [gEq (.pointer (some ⟨X5,8,none⟩)),gEq (r.aG:Int),gEq (.agg #[(r.aA:Int),(r.aB:Int),.slice p5 r.cells c5,(r.free:Int),(r.step:Int),(r.aD:Int),(r.aF:Int),(r.aC:Int),(r.aG:Int),.slice q5 r.vs d5]),gEq X,gEq (r.aG+X:Int),gEq (.bool true),gEq (.bool true),gEq (undef),gEq (undef),gEq (undef),gEq (undef),gEq (undef),gEq (undef),gEq (undef),gEq (undef),gEq (undef),gEq (.bool true),gEq (.bool true)]) 18 18 [(0,some 101),(1,some 102),(2,some 103),(3,some 104),(4,some 105),(5,some 106),(6,some 107),(7,some 108),(8,some 109),(9,some 110),(10,some 111),(11,some 112),(12,some 113),(13,some 114),(14,some 115),(15,some 116),(16,some 117),(17,some 17)] ?steps ?fin
      case steps=>
       refine sS0 [] ?_;refine sC [(0,some 101)] rfl (fun wi hx=> ?_) ?_
       ·intro v0 h0 K hK;obtain rfl:=h0;have hX:Ext v7 wi:=xE;have a9:=((s.bk 3).ext hX).cl 8;go_simp;exact hK _ _ ⟨I (r.aG),rfl,rfl,Ext.refl _⟩
       refine sC [] rfl (fun wi hx=> ?_) ?_
       ·intro K hK;have hX:Ext v7 wi:=xE;obtain⟨a9,ci,cj,ck,cm,cn,co,cp,cq,cr⟩:=((s.bk 3).ext hX).ten;go_simp;exact hK _ _ ⟨.agg #[(r.aA:Int),(r.aB:Int),.slice p5 r.cells c5,(r.free:Int),(r.step:Int),(r.aD:Int),(r.aF:Int),(r.aC:Int),(r.aG:Int),.slice q5 r.vs d5],rfl,rfl,Ext.refl _⟩
       refine sC [(2,some 103)] rfl (fun wi hx=> ?_) ?_
       ·intro v2 h2 K hK;obtain rfl:=h2;go_simp;refine Z (ce _ hx.of_drew) fun w5 ao=>?_
        go_simp;exact hK _ _ ⟨I X,rfl,rfl,ao⟩
       refine sC [(1,some 102),(3,some 104)] rfl (fun wi hx=> ?_) ?_
       ·intro v1 h1 v3 h3 K hK;subst h1 h3;have gt:=aVw (r.aG+X);go_simp;exact hK _ _ ⟨I (r.aG+X),rfl,rfl,Ext.refl _⟩
       exact sS1 [(4,some 105)] (sS1 [(5,some 106)] (sS1 [(6,some 107)] (sS2 [(6,some 107),(7,some 108)] (sS2 [(6,some 107),(8,some 109)] (sS2 [(6,some 107),(9,some 110)] (sS2 [(6,some 107),(10,some 111)] (sS1 [(11,some 112)] (sS2 [(11,some 112),(12,some 113)] (sS2 [(11,some 112),(13,some 114)] (sS3 [(6,some 107),(11,some 112),(14,some 115)] (sS2 [(6,some 107),(15,some 116)] (sS1 [(16,some 117)] StepsL.nil))))))))))))
      case fin=>
       intro wi hx v0 h0 v1 h1 v2 h2 v3 h3 v4 h4 v5 h5 v6 h6 v7 h7 v8 h8 v9 h9 gw ed fc ba gd bq gx ee gy ef gz eg g0 eh g1 ei;subst h0 h1 h2 h3 h4 h5 h6 h7 h8 h9;obtain rfl:=ed;obtain rfl:=ba;obtain rfl:=bq;obtain rfl:=ee;obtain rfl:=ef;obtain rfl:=eg;obtain rfl:=eh;obtain rfl:=ei;have ay:=hx.of_drew;refine wpAny_done (by kernel_rfl) ?_ _;try go_frame
       go_wp2_with fail;go_meet;exact⟨rfl,s.adv ay⟩
     case rest=>
      obtain⟨rfl,fv⟩:=hcut;obtain⟨v8,rfl⟩: ∃z,z=wc:=⟨_,rfl⟩
      have MC:=fv;clear fv bf ce ea i0 s dg dh di;have ds:X7<v8:=(MC.hi 0)
      have dt:X5<v8:=(MC.hi 3)
      have du:g8<v8:=(MC.hi 7)
      have gu:=(MC.bk 7).ten;have gv:=(MC.bk 3).ten;go_wp2_with fail;clear gu gv;refine Z (oU r _ _ _ _ _ _ _ _ _ _ _ _ _ ⟨(MC.sq 8),(MC.sq 9)⟩ ⟨(MC.sq 4),(MC.sq 5)⟩) fun g5 d4=>?_
      have ch:=(MC.adv d4)
      clear MC ds dt du d4;have ge:=ch.hi 0;have gf:=ch.hi 3;have gg:=ch.hi 7;have t7:((nb:Int)==(nb:Int))=true:=by simp
      have e9:cM fa++cM fb=cM bs:=by rw[fe.out];simp[cM]
      have MZ:=(ch.made0 9 1 g5 (by simp))
      go_wp2_with (at_builtin;go_loud (first
       |(refine tD aGd rfl _ _ rfl MZ 0 rfl rfl (cM fa) rfl (MZ.sq 12) (aB1 fa) (by omega) ?_;intro q8 c8 w8 M8;simp only[aUf,aUx,aTk]at M8)
       |(refine tD aGd rfl _ _ rfl M8 0 rfl rfl (cM fb) rfl (M8.sq 11) (aB1 fb) (by omega) ?_;intro q9 c9 w9 M9;simp only[aTk,e9,Nat.add_sub_of_le en]at M9)))
      refine Z (tL q9 b5 _ nb c9 f5 (cM bs) bs _ rfl (M9.sq 0) (M9.sq 7)) fun wz hz=>?_
      have XZ:=M9.ext.trans hz;go_wp2;go_ret;exact⟨rfl,aj.out.trans XZ⟩
 skip;have hq:=aLq (h:=h) (ls:=ls) (by rw[HN.out];exact hh);have hr:=eb.out;have a4:=d9.out;rw[hq]at hr a4;subst hr a4;obtain rfl:nb=0:=fg.out.symm;have cd:=xQ fun w' (hx:Ext w8 w')=>aI6 p5 c5 q5 d5 w' (IsHouse.ext ⟨(M8.out.sq 1),(M8.out.sq 2)⟩ hx)
 unfold hZ at*;cases ax:aP h with
 |false=>
  obtain⟨aa,ab,ad,ae,j,f,g,af,ag,ah⟩:=(M8.out.bk 0).ten;go_wp2_with fail;clear aa ab ad ae j f g af ag ah;refine Z (cd _ xE) fun w9 az=>?_
  have M9:=xQ (M8.out.adv az);clear M8 bc be az cd;have e7:=M9.out.hi 0;have e8:=M9.out.hi 4;go_wp2_with fail;refine Z (aC4 _ (HE.out.ext (aj.out.trans M9.out.ext))) fun w9 az=>?_
  have X9:Ext w w9:=aj.out.trans (M9.out.ext.trans az);go_wp2;go_ret;exact⟨rfl,X9⟩
 |true=>
  have dz:40<n:=Nat.lt_of_not_le fun h=>hh ⟨ax,h⟩
  have gb:decide ((40:Int)<(n:Int))=true:=by simp;omega
  have gc:decide (40<n)=true:=by simp;omega
  obtain⟨aa,ab,ad,ae,j,f,g,af,ag,ah⟩:=(M8.out.bk 0).ten;go_wp2_with fail;clear aa ab ad ae j f g af ag ah;refine Z (cd _ xE) fun w9 az=>?_
  have M9:=xQ (M8.out.adv az);clear M8 bc be az cd;have e7:=M9.out.hi 0;have e8:=M9.out.hi 4;go_wp2_with fail;refine Z (aC4 _ (HE.out.ext (aj.out.trans M9.out.ext))) fun w9 az=>?_
  have X9:Ext w w9:=aj.out.trans (M9.out.ext.trans az);go_wp2;go_ret;exact⟨rfl,X9⟩
theorem walk_FnHouseLines (W:World)(v:Value)(u:Unit)(hc:Code W v)(hE:Env W)(hB:BitTab W):U 3 #[v] W (O (.bool true) W):=by
 have hD:=zR v W hc;obtain⟨p0,n,a,bs,rfl,h,hb⟩:=hc;by_cases hn:(n:Int)≤1048576
 ·exact zO p0 n a W hn (xQ hE) (xQ hB) hD
 exact vR p0 n a W (by omega)
end Go.Proofs.YthfmmibomhhmpaaGreatDoor
