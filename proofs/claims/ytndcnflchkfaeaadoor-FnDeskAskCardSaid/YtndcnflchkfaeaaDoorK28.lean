/-
  Texts of this proof, packed (@packed).
-/
import Derived.Test.YtndcnflchkfaeaaDoorK10
import Derived.Test.YtndcnflchkfaeaaDoorK25
import Derived.Test.YtndcnflchkfaeaaDoorK26
import Derived.Test.YtndcnflchkfaeaaDoorK27
namespace Go.Proofs.YtndcnflchkfaeaaDoor
open Go.RowKit
set_option linter.unusedVariables false
set_option linter.unusedSimpArgs false
theorem own_tyB {w:World}{b1 s1 n1:Nat}{e1:TypeId}{v1:Value}{xs1:List Value}{g:Nat}{t:TypeId}{cs:Array Value}(h1:w.ownsRow b1 e1 s1 v1 n1 xs1)(h2:Blk w g t cs)(ne:e1≠t):v1.ownBlock≠some g:=by
 intro hg
 rcases h1.2 with⟨b1,_⟩|⟨g1,cap1,cur1,b1,_,b3,_⟩
 ·rw[b1]at hg;cases hg
 ·rw[b1]at hg
  injection hg with hg
  have x1:g1=g:=hg
  subst x1
  unfold Blk at h2
  rw[h2]at b3
  injection b3 with b3;injection b3 with _ b3
  exact ne b3.symm
structure XS (R g:Nat) (t:TypeId) (cs:Array Value) (w w':World):Prop where
 os:w'.os=w.os
 tape:w'.tape=w.tape
 output:w'.output=w.output
 size:w.heap.size≤w'.heap.size
 block: ∀i,i<w.heap.size→i≠R→i≠g→w'.heap[i]? =w.heap[i]?
 put:g<w.heap.size→w'.heap[g]? =w.heap[g]? ∨Blk w' g t cs
theorem XS.refl (R g:Nat)(t:TypeId)(cs:Array Value)(w:World):XS R g t cs w w:=⟨rfl,rfl,rfl,Nat.le_refl _,fun i _ _ _=>rfl,fun _=> .inl rfl⟩
theorem XS.blk {R g:Nat}{t:TypeId}{cs:Array Value}{w w':World}(h:XS R g t cs w w')(hb:Blk w g t cs):Blk w' g t cs:=by
 rcases h.put hb.lt with h1|h1
 ·unfold Blk at*;rw[h1];exact hb
 ·exact h1
theorem XS.trans {R g:Nat}{t:TypeId}{cs:Array Value}{a b c:World}(h:XS R g t cs a b)(k:XS R g t cs b c):XS R g t cs a c:=
 ⟨k.os.trans h.os,k.tape.trans h.tape,k.output.trans h.output,Nat.le_trans h.size k.size,fun i hi h1 h2=>(k.block i (Nat.lt_of_lt_of_le hi h.size) h1 h2).trans (h.block i hi h1 h2),fun hg=>by
  rcases h.put hg with h1|h1
  ·rcases k.put (Nat.lt_of_lt_of_le hg h.size)with k1|k1
   ·exact .inl (k1.trans h1)
   ·exact .inr k1
  ·exact .inr (k.blk h1)⟩
theorem XS.ofR {R g:Nat}{t:TypeId}{cs:Array Value}{w w':World}(hne:g≠R)(h:ExtR R w w'):XS R g t cs w w':=
 ⟨h.os,h.tape,h.output,h.size,fun i hi h1 _=>h.block i hi (fun e=>h1 (by injection e)),fun hg=> .inl (h.block g hg (fun e=>hne (by injection e)))⟩
theorem XS.ofPut {R g:Nat}{t:TypeId}{cs:Array Value}{w w':World}(h:ExtR g w w')(hb:Blk w' g t cs):XS R g t cs w w':=
 ⟨h.os,h.tape,h.output,h.size,fun i hi _ h2=>h.block i hi (fun e=>h2 (by injection e)),fun _=> .inr hb⟩
theorem XS.other {R g a:Nat}{t t':TypeId}{cs cs':Array Value}{w w':World}(h:XS R g t cs w.drew w')(hb:Blk w a t' cs')(h1:a≠R)(h2:a≠g):Blk w' a t' cs':=by
 have:=h.block a hb.lt h1 h2
 unfold Blk at*
 rw[this];exact hb
theorem XS.either {R g:Nat}{t:TypeId}{cs cs0:Array Value}{w w':World}(h:XS R g t cs w.drew w')(hb:Blk w g t cs0):Blk w' g t cs0∨Blk w' g t cs:=by
 rcases h.put hb.lt with h1|h1
 ·left;unfold Blk at*;rw[h1];exact hb
 ·exact .inr h1
theorem tri_u8 (a:Int)(q:Option Addr)(n c:Nat)(q2:Option Addr)(n2 c2:Nat)(u:Unit): ∀(j:Nat) (x:Int),(#[.int .i64 a,.slice q n c,.slice q2 n2 c2]:Array Value)[j]? ≠some (.int .u8 x)
 |0,x=>by simp|1,x=>by simp|2,x=>by simp|j+3,x=>by simp
theorem Rand.far {w w':World}{R k g:Nat}{t:TypeId}{cs:Array Value}(h:Rand w R k)(hb:Blk w g t cs)(hne:g≠R)(hc: ∀(j:Nat) (x:Int),cs[j]? ≠some (.int .u8 x)) (hx:ExtR g w w'):Rand w' R k:=by
 have hl:=h.lt
 obtain⟨p,n,cap,q,bs,h1,h2,h3,h4,h5,h6,h7⟩:=h
 refine⟨p,n,cap,q,bs,hx.blk h1 (Ne.symm hne),h2,h3,hx.sl (b0:=0) h4 (fun h0 b off e hbg=> ?_),h5,h6,h7⟩
 subst hbg
 obtain⟨b',off',e',hb',hcell⟩:=h4.rd h0
 rw[e']at e
 injection e with e;injection e with e1 e2
 subst e1 e2
 have hcc:=hcell 0 (by omega)
 have hlb:bs.length=n:=by have:=h4.len;simpa using this
 have h8:(bs.map (Value.int .u8))[0]? =some (.int .u8 (bs[0]'(by omega))):=by rw[List.getElem?_map,List.getElem?_eq_getElem (by omega)];rfl
 rw[h8,hb.cell]at hcc
 exact hc _ _ hcc
theorem XS.new {R g:Nat}{t:TypeId}{cs:Array Value}{a b c:World}(h:Ext a b)(k:XS R g t cs b c)(h1:a.heap.size≤R)(h2:a.heap.size≤g):Ext a c:=
 ⟨k.os.trans h.os,k.tape.trans h.tape,k.output.trans h.output,Nat.le_trans h.size k.size,fun i hi=>(k.block i (Nat.lt_of_lt_of_le hi h.size) (by omega) (by omega)).trans (h.block i hi)⟩
theorem XS.of_drew {R g:Nat}{t:TypeId}{cs:Array Value}{a b:World}(h:XS R g t cs a.drew b):XS R g t cs a b:=⟨h.os,h.tape,h.output,h.size,h.block,h.put⟩
theorem XS.own {R g B n sz:Nat}{t e:TypeId}{cs:Array Value}{w w':World}{v:Value}{xs:List Value}(h:XS R g t cs w w')(ho:w.ownsRow B e sz v n xs)(h1:R<B)(h2:g<B):w'.ownsRow B e sz v n xs:=
 own_stay ho (fun k hk=>h.block k (World.ownsRow.lt ho k hk).2 (by have:=(World.ownsRow.lt ho k hk).1;omega) (by have:=(World.ownsRow.lt ho k hk).1;omega))
theorem book_cell0 {vs:List Visit4}{x:Nat}(h:x<vs.length): ∃y:Int,(vs.flatMap visitCells)[x*4]? =some (.int .i64 y):=by
 have h0:=flat_get visitCells 4 (fun _=>rfl) vs x _ (List.getElem?_eq_getElem h) 0 (by omega)
 exact⟨_,by simpa[visitCells]using h0⟩
def DrewDesk (w:World)(e:Ending)(w':World):Prop:= ∃(P:Int) (T W:List Visit4) (q:Option Addr) (c:Nat) (q2:Option Addr) (c2:Nat),e= .returned (deskV P q T.length c q2 W.length c2)∧T.length≤10∧W.length≤10∧w'.ownsRow w.heap.size TBk 4 (.slice q T.length c) T.length (T.flatMap visitCells)∧w'.ownsRow w.heap.size TBk 4 (.slice q2 W.length c2) W.length (W.flatMap visitCells)∧Ext w w'
def DrewDeskId (w:World)(e:Ending)(w':World):Prop:= ∃(P:Int) (T W:List Visit4) (q:Option Addr) (c:Nat) (q2:Option Addr) (c2:Nat) (id:Int),e= .returned (.tuple #[deskV P q T.length c q2 W.length c2,.int .i64 id])∧T.length≤10∧W.length≤10∧w'.ownsRow w.heap.size TBk 4 (.slice q T.length c) T.length (T.flatMap visitCells)∧w'.ownsRow w.heap.size TBk 4 (.slice q2 W.length c2) W.length (W.flatMap visitCells)∧Ext w w'
def DrewDeskBook (w:World)(e:Ending)(w':World):Prop:= ∃(P:Int) (T W:List Visit4) (q:Option Addr) (c:Nat) (q2:Option Addr) (c2:Nat) (b0 b1 b2 b3:Int),e= .returned (.tuple #[deskV P q T.length c q2 W.length c2,bookV b0 b1 b2 b3])∧T.length≤10∧W.length≤10∧w'.ownsRow w.heap.size TBk 4 (.slice q T.length c) T.length (T.flatMap visitCells)∧w'.ownsRow w.heap.size TBk 4 (.slice q2 W.length c2) W.length (W.flatMap visitCells)∧Ext w w'
def DrewDeskList (w:World)(e:Ending)(w':World):Prop:= ∃(P:Int) (T W:List Visit4) (q:Option Addr) (c:Nat) (q2:Option Addr) (c2:Nat) (bs:List Visit4) (q3 c3:Nat),e= .returned (.tuple #[deskV P q T.length c q2 W.length c2,.slice (some ⟨q3,0,none⟩) bs.length c3])∧T.length≤10∧W.length≤10∧bs.length≤10∧w'.ownsRow w.heap.size TBk 4 (.slice q T.length c) T.length (T.flatMap visitCells)∧w'.ownsRow w.heap.size TBk 4 (.slice q2 W.length c2) W.length (W.flatMap visitCells)∧w'.ownsRow w.heap.size TBk 4 (.slice (some ⟨q3,0,none⟩) bs.length c3) bs.length (bs.flatMap visitCells)∧Ext w w'
def DrewBooks (w:World)(e:Ending)(w':World):Prop:= ∃(bs:List Visit4) (q:Option Addr) (c:Nat) (p:Int),e= .returned (.tuple #[.slice q bs.length c,.int .i64 p])∧bs.length≤10∧w'.ownsRow w.heap.size TBk 4 (.slice q bs.length c) bs.length (bs.flatMap visitCells)∧Ext w w'
set_option maxRecDepth 100000 in
set_option maxHeartbeats 8000000 in
theorem drawDeskValid (v:Value)(w:World)(hc:Code w v):Calls Tryd.prog 9 #[v] w (DrewDesk w):=by
 go_enter Tryd.func9,Tryd.ntmps9
 go_wp2_with fail
 refine(l20Open_any v _ (hc.ext (by(repeat' (first|exact Ext.refl _|(with_reducible assumption)|(with_reducible refine Ext.alloc ?_ _)|(with_reducible refine Ext.setCell ?_ (by first|exact Nat.le_refl _|(dsimp only;omega)|(simp;done)|(simp;omega)) _)|(with_reducible refine Ext.drew ?_)|(with_reducible refine Ext.drewN ?_ _)|(refine Ext.trans ?_ (by with_reducible assumption))))))).mono ?_
 rintro e w1 ⟨R,rfl,hR,r1,x1⟩
 have hR1:=r1.lt
 have hR0:w.heap.size<R:=Nat.lt_of_lt_of_le (by simp only[World.size_alloc];omega) hR
 have B1:Blk w1 w.heap.size TDk #[.int .i64 0,.slice none 0 0,.slice none 0 0]:=(Blk.new _ _ _).ext x1
 have X1:Ext w w1:=by(repeat' (first|exact Ext.refl _|(with_reducible assumption)|(with_reducible refine Ext.alloc ?_ _)|(with_reducible refine Ext.setCell ?_ (by first|exact Nat.le_refl _|(dsimp only;omega)|(simp;done)|(simp;omega)) _)|(with_reducible refine Ext.drew ?_)|(with_reducible refine Ext.drewN ?_ _)|(refine Ext.trans ?_ (by with_reducible assumption))))
 have hW:=X1.sz
 clear x1
 go_wp2_with fail
 refine(l20Desk_any R 0 2 _ r1 (by omega) (by omega) (by omega)).mono ?_
 rintro e w2 ⟨P,T,W,q,n,c,q2,n2,c2,rfl,rfl,rfl,hn,hn2,ho,hv,r2,x2⟩
 have hs2:=x2.sz
 have B2:=x2.blk B1 (by omega)
 have hl2:=B2.lt
 obtain⟨b0,bf0,b1,bf1,b2,bf2⟩:=B2.trif
 have XX:Ext w w2:=ExtR.new X1 x2 (by omega)
 go_wp2
 generalize hw9:World.setCell _ _ _=w9
 have hR9:ExtR w.heap.size w2 w9:=by rw[←hw9];exact(((ExtR.refl w.heap.size w2).setCell (p:=⟨w.heap.size,0,none⟩) (.inl rfl) (.int .i64 P)).setCell (p:=⟨w.heap.size,1,none⟩) (.inl rfl) (.slice q T.length c)).setCell (p:=⟨w.heap.size,2,none⟩) (.inl rfl) (.slice q2 W.length c2)
 have Y9:=(((B2).set 0 (.int .i64 P)).set 1 (.slice q T.length c)).set 2 (.slice q2 W.length c2)
 simp only[List.setIfInBounds_toArray,List.set_cons_zero,List.set_cons_succ]at Y9
 rw[hw9]at Y9
 have X9:Ext w w9:=ExtR.new XX hR9 (by omega)
 have o9:=ho.kept hR9 (.inr (own_tyB ho B2 (by decide)))
 have v9:=hv.kept hR9 (.inr (own_tyB hv B2 (by decide)))
 clear hw9
 obtain⟨y0,y1,y2⟩:=Y9.tri
 exact bodyPost_ret (v:= .agg #[.int .i64 P,.slice q T.length c,.slice q2 W.length c2]) (by simp[results,Tryd.results9,go_sem, *]) rfl ⟨P,T,W,q,c,q2,c2,rfl,hn,hn2,own_low o9 hW,own_low v9 hW,X9⟩
set_option maxRecDepth 100000 in
set_option maxHeartbeats 8000000 in
theorem drawDeskAsk (v:Value)(w:World)(hc:Code w v):Calls Tryd.prog 14 #[v] w (DrewDeskBook w):=by
 go_enter Tryd.func14,Tryd.ntmps14
 go_wp2_with fail
 refine(l20Open_any v _ (hc.ext (by(repeat' (first|exact Ext.refl _|(with_reducible assumption)|(with_reducible refine Ext.alloc ?_ _)|(with_reducible refine Ext.setCell ?_ (by first|exact Nat.le_refl _|(dsimp only;omega)|(simp;done)|(simp;omega)) _)|(with_reducible refine Ext.drew ?_)|(with_reducible refine Ext.drewN ?_ _)|(refine Ext.trans ?_ (by with_reducible assumption))))))).mono ?_
 rintro e w1 ⟨R,rfl,hR,r1,x1⟩
 have hR1:=r1.lt
 have hR0:w.heap.size<R:=Nat.lt_of_lt_of_le (by simp only[World.size_alloc];omega) hR
 have B1:Blk w1 w.heap.size TDk #[.int .i64 0,.slice none 0 0,.slice none 0 0]:=((Blk.new w TDk #[.int .i64 0,.slice none 0 0,.slice none 0 0]).ext ((Ext.refl _).alloc _)).ext x1
 have X1:Ext w w1:=by(repeat' (first|exact Ext.refl _|(with_reducible assumption)|(with_reducible refine Ext.alloc ?_ _)|(with_reducible refine Ext.setCell ?_ (by first|exact Nat.le_refl _|(dsimp only;omega)|(simp;done)|(simp;omega)) _)|(with_reducible refine Ext.drew ?_)|(with_reducible refine Ext.drewN ?_ _)|(refine Ext.trans ?_ (by with_reducible assumption))))
 have hW:=X1.sz
 have C1:Blk w1 (w.heap.size+1) TBk #[.int .i64 0,.int .i64 0,.int .i64 0,.int .i64 0]:=by have:=(Blk.new (w.alloc (.cells #[.int .i64 0,.slice none 0 0,.slice none 0 0] TDk)) TBk #[.int .i64 0,.int .i64 0,.int .i64 0,.int .i64 0]).ext x1;simpa using this
 have hc1:=C1.lt
 have hR2:w.heap.size+1<R:=Nat.lt_of_lt_of_le (by simp) hR
 clear x1
 go_wp2_with fail
 refine(l20Desk_any R 0 9 _ r1 (by omega) (by omega) (by omega)).mono ?_
 rintro e w2 ⟨P,T,W,q,n,c,q2,n2,c2,rfl,rfl,rfl,hn,hn2,ho,hv,r2,x2⟩
 have hs2:=x2.sz
 obtain⟨w3,hw3⟩: ∃x,x=w2.alloc (.cells #[.int .i64 P,.slice q T.length c,.slice q2 W.length c2] TDk):=⟨_,rfl⟩
 have D3:Blk w3 w2.heap.size TDk #[.int .i64 P,.slice q T.length c,.slice q2 W.length c2]:=by rw[hw3];exact Blk.new _ _ _
 have r3:Rand w3 R 4000:=by rw[hw3];exact(r2.alloc _).mono (by omega)
 have xr3:ExtR R w1 w3:=by rw[hw3];exact x2.alloc _
 have hs3:w2.heap.size<w3.heap.size:=D3.lt
 go_wp2
 rw[←hw3]
 have o3:w3.ownsRow w1.heap.size TBk 4 (.slice q T.length c) T.length (T.flatMap visitCells):=by rw[hw3];exact own_ext ho ((Ext.refl _).alloc _)
 have v3:w3.ownsRow w1.heap.size TBk 4 (.slice q2 W.length c2) W.length (W.flatMap visitCells):=by rw[hw3];exact own_ext hv ((Ext.refl _).alloc _)
 clear hw3 ho hv
 refine region_linR (gl [gEq (.agg #[.int .i64 P,.slice q T.length c,.slice q2 W.length c2]),gEq (.pointer (some ⟨R,0,none⟩)),gEq (.pointer (some ⟨R,0,none⟩)),gNum (14),gInt,(fun v _=> ∃a b c d:Int,v=bookV a b c d)]) R (4000) 50 6 (by kernel_rfl) rfl (by kernel_rfl) (by kernel_rfl) (by kernel_rfl) r3 (glR_mono (glR_cons (gEqR_mono _) (glR_cons (gEqR_mono _) (glR_cons (gEqR_mono _) (glR_cons (gNumR_mono _) (glR_cons (gIntR_mono) (glR_cons (fun _ _ _ h _=>h) (glR_nil)))))))) rfl (k:=8) (by kernel_rfl) (by decide) (ls:= [(0,some 10),(1,some 11),(2,some 12),(3,some 13),(4,some 14),(5,some 15)]) (by kernel_rfl) (ir:= [0,1,2,3,4,5]) (by kernel_rfl) ?steps (tl:=#[true,true,true,true,true,true,false,false]) (by kernel_rfl) ?fin
 case steps=>
  refine StepsLR.cons (ps:= []) rfl (by kernel_rfl) (fun wi kk hx hr hkk=> ?_) ?_
  ·intro K hK
   obtain⟨ce0,ce1,ce2⟩:=((hx.of_drew.blk D3 (by omega))).tri
   go_simp
   exact hK _ _ ⟨.agg #[.int .i64 P,.slice q T.length c,.slice q2 W.length c2],rfl,rfl,(randE hr (Ext.refl _))⟩
  refine StepsLR.cons (ps:= []) rfl (by kernel_rfl) (fun wi kk hx hr hkk=> ?_) ?_
  ·intro K hK
   go_simp
   exact hK _ _ ⟨.pointer (some ⟨R,0,none⟩),rfl,rfl,(randE hr (Ext.refl _))⟩
  refine StepsLR.cons (ps:= []) rfl (by kernel_rfl) (fun wi kk hx hr hkk=> ?_) ?_
  ·intro K hK
   go_simp
   exact hK _ _ ⟨.pointer (some ⟨R,0,none⟩),rfl,rfl,(randE hr (Ext.refl _))⟩
  refine StepsLR.cons (ps:= [(2,some 12)]) rfl (by kernel_rfl) (fun wi kk hx hr hkk=> ?_) ?_
  ·intro v2 h2 K hK
   obtain rfl:=h2
   go_wp2_with fail
   refine(pick_any R kk (14) _ hr (by omega)).mono ?_
   rintro e w5 ⟨x,rfl,xa,xb,r5,x5⟩
   go_simp
   exact hK _ _ ⟨.int .i64 x,rfl,⟨x,rfl,xa,by have hp:(0:Int)<14:=(by omega);omega⟩,⟨x5,r5.mono (by omega)⟩⟩
  refine StepsLR.cons (ps:= [(3,some 13)]) rfl (by kernel_rfl) (fun wi kk hx hr hkk=> ?_) ?_
  ·intro v3 h3 K hK
   obtain⟨x3,rfl,xa3,xb3⟩:=h3
   go_simp
   exact hK _ _ ⟨_,rfl,⟨_,rfl⟩,(randE hr (Ext.refl _))⟩
  refine StepsLR.cons (ps:= [(1,some 11),(4,some 14)]) rfl (by kernel_rfl) (fun wi kk hx hr hkk=> ?_) StepsLR.nil
  ·intro v1 h1 v4 h4 K hK
   obtain rfl:=h1
   obtain⟨n4,rfl⟩:=h4
   go_wp2_with fail
   refine(l20Book_any R kk _ 9 _ hr (by omega) (by omega) (by omega)).mono ?_
   rintro e w5 ⟨ba,bb,bc,bd,rfl,r5,x5⟩
   go_simp
   exact hK _ _ ⟨_,rfl,⟨ba,bb,bc,bd,rfl⟩,⟨x5,r5.mono (by omega)⟩⟩
 case fin=>
  intro wi hx hr v0 h0 v1 h1 v2 h2 v3 h3 v4 h4 v5 h5
  obtain rfl:=h0
  obtain rfl:=h1
  obtain rfl:=h2
  obtain⟨x3,rfl,xa3,xb3⟩:=h3
  obtain⟨n4,rfl⟩:=h4
  obtain⟨ba5,bb5,bc5,bd5,rfl⟩:=h5
  have hx1:ExtR R w3 wi:=hx.of_drew
  have x4:=xr3.trans hx1
  have B4:=x4.blk B1 (by omega)
  have hl4:=B4.lt
  have o4:=hx1.own o3 (by omega)
  have v4:=hx1.own v3 (by omega)
  have C4:=x4.blk C1 (by omega)
  have hm4:=C4.lt
  obtain⟨b0,bf0,b1,bf1,b2,bf2⟩:=B4.trif
  obtain⟨d0,d1,d2,d3,df0,df1,df2,df3⟩:=C4.four
  have XX:Ext w wi:=ExtR.new X1 x4 (by omega)
  refine wpAny_ready (rs:= [6]) (by kernel_rfl) (by simp) ?_
  refine AllReady.cons rfl (fun K hK=> ?_) AllReady.nil
  go_simp
  refine hK _ _ ?_
  clear hK K
  generalize hw9:World.setCell _ _ _=w9
  have hR9:ExtR w.heap.size wi w9:=by rw[←hw9];exact(((ExtR.refl w.heap.size wi).setCell (p:=⟨w.heap.size,0,none⟩) (.inl rfl) (.int .i64 P)).setCell (p:=⟨w.heap.size,1,none⟩) (.inl rfl) (.slice q T.length c)).setCell (p:=⟨w.heap.size,2,none⟩) (.inl rfl) (.slice q2 W.length c2)
  have Y9:=(((B4).set 0 (.int .i64 P)).set 1 (.slice q T.length c)).set 2 (.slice q2 W.length c2)
  simp only[List.setIfInBounds_toArray,List.set_cons_zero,List.set_cons_succ]at Y9
  rw[hw9]at Y9
  have X9:Ext w w9:=ExtR.new XX hR9 (by omega)
  have o9:=o4.kept hR9 (.inr (own_tyB o4 B4 (by decide)))
  have v9:=v4.kept hR9 (.inr (own_tyB v4 B4 (by decide)))
  clear hw9
  have C9:=hR9.blk C4 (by omega)
  clear d0 d1 d2 d3 df0 df1 df2 df3 b0 b1 b2 bf0 bf1 bf2
  obtain⟨d0,d1,d2,d3,df0,df1,df2,df3⟩:=C9.four
  have hm9:=C9.lt
  refine wpAny_ready (rs:= [7]) (by kernel_rfl) (by simp) ?_
  refine AllReady.cons rfl (fun K hK=> ?_) AllReady.nil
  go_simp
  refine hK _ _ ?_
  clear hK K
  refine wpAny_done (by kernel_rfl) ?_ _
  try simp only[Act.put,List.setIfInBounds_toArray,List.set_cons_zero,List.set_cons_succ]
  generalize hw8:World.setCell _ _ _=w8
  have hR8:ExtR (w.heap.size+1) w9 w8:=by rw[←hw8];exact((((ExtR.refl (w.heap.size+1) w9).setCell (p:=⟨w.heap.size+1,0,none⟩) (.inl rfl) (.int .i64 ba5)).setCell (p:=⟨w.heap.size+1,1,none⟩) (.inl rfl) (.int .i64 bb5)).setCell (p:=⟨w.heap.size+1,2,none⟩) (.inl rfl) (.int .i64 bc5)).setCell (p:=⟨w.heap.size+1,3,none⟩) (.inl rfl) (.int .i64 bd5)
  have Y8:=((((C9).set 0 (.int .i64 ba5)).set 1 (.int .i64 bb5)).set 2 (.int .i64 bc5)).set 3 (.int .i64 bd5)
  simp only[List.setIfInBounds_toArray,List.set_cons_zero,List.set_cons_succ]at Y8
  rw[hw8]at Y8
  have X8:Ext w w8:=ExtR.new X9 hR8 (by omega)
  have o8:=o9.kept hR8 (.inr (fun e=>by have:=(World.ownsRow.lt o9 _ e).1;omega))
  have v8:=v9.kept hR8 (.inr (fun e=>by have:=(World.ownsRow.lt v9 _ e).1;omega))
  have Z8:=hR8.blk Y9 (by omega)
  clear hw8 d0 d1 d2 d3 df0 df1 df2 df3
  obtain⟨y0,y1,y2⟩:=Z8.tri
  obtain⟨z0,z1,z2,z3,_,_,_,_⟩:=Y8.four
  go_wp2
  exact bodyPost_ret (v:= .tuple #[.agg #[.int .i64 P,.slice q T.length c,.slice q2 W.length c2],bookV ba5 bb5 bc5 bd5]) (by simp[results,Tryd.results14,go_sem, *]) rfl ⟨P,T,W,q,c,q2,c2,ba5,bb5,bc5,bd5,rfl,hn,hn2,own_low o8 hW,own_low v8 hW,X8⟩
set_option maxRecDepth 100000 in
set_option maxHeartbeats 8000000 in
theorem drawDeskFree (v:Value)(w:World)(hc:Code w v):Calls Tryd.prog 19 #[v] w (DrewDeskId w):=by
 go_enter Tryd.func19,Tryd.ntmps19
 go_wp2_with fail
 refine(l20Open_any v _ (hc.ext (by(repeat' (first|exact Ext.refl _|(with_reducible assumption)|(with_reducible refine Ext.alloc ?_ _)|(with_reducible refine Ext.setCell ?_ (by first|exact Nat.le_refl _|(dsimp only;omega)|(simp;done)|(simp;omega)) _)|(with_reducible refine Ext.drew ?_)|(with_reducible refine Ext.drewN ?_ _)|(refine Ext.trans ?_ (by with_reducible assumption))))))).mono ?_
 rintro e w1 ⟨R,rfl,hR,r1,x1⟩
 have hR1:=r1.lt
 have hR0:w.heap.size<R:=Nat.lt_of_lt_of_le (by simp only[World.size_alloc];omega) hR
 have B1:Blk w1 w.heap.size TDk #[.int .i64 0,.slice none 0 0,.slice none 0 0]:=(Blk.new _ _ _).ext x1
 have X1:Ext w w1:=by(repeat' (first|exact Ext.refl _|(with_reducible assumption)|(with_reducible refine Ext.alloc ?_ _)|(with_reducible refine Ext.setCell ?_ (by first|exact Nat.le_refl _|(dsimp only;omega)|(simp;done)|(simp;omega)) _)|(with_reducible refine Ext.drew ?_)|(with_reducible refine Ext.drewN ?_ _)|(refine Ext.trans ?_ (by with_reducible assumption))))
 have hW:=X1.sz
 clear x1
 go_wp2_with fail
 refine(l20Desk_any R 0 9 _ r1 (by omega) (by omega) (by omega)).mono ?_
 rintro e w2 ⟨P,T,W,q,n,c,q2,n2,c2,rfl,rfl,rfl,hn,hn2,ho,hv,r2,x2⟩
 have hs2:=x2.sz
 obtain⟨w3,hw3⟩: ∃x,x=w2.alloc (.cells #[.int .i64 P,.slice q T.length c,.slice q2 W.length c2] TDk):=⟨_,rfl⟩
 have D3:Blk w3 w2.heap.size TDk #[.int .i64 P,.slice q T.length c,.slice q2 W.length c2]:=by rw[hw3];exact Blk.new _ _ _
 have r3:Rand w3 R 4000:=by rw[hw3];exact(r2.alloc _).mono (by omega)
 have xr3:ExtR R w1 w3:=by rw[hw3];exact x2.alloc _
 have hs3:w2.heap.size<w3.heap.size:=D3.lt
 go_upto_region 3 with fail
 rw[←hw3]
 have o3:w3.ownsRow w1.heap.size TBk 4 (.slice q T.length c) T.length (T.flatMap visitCells):=by rw[hw3];exact own_ext ho ((Ext.refl _).alloc _)
 have v3:w3.ownsRow w1.heap.size TBk 4 (.slice q2 W.length c2) W.length (W.flatMap visitCells):=by rw[hw3];exact own_ext hv ((Ext.refl _).alloc _)
 clear hw3 ho hv
 go_cut [18] (fun s18 wx=> ∃b:Bool,s18= .bool b∧(b=true→0<T.length)∧Rand wx R 4001∧ExtR R w3 wx)
 case first=>
  obtain⟨c0,c1,c2'⟩:=D3.tri
  by_cases hm0:T.length=0
  ·have dk0:decide ((0:Int)<(T.length:Int))=false:=by simp[hm0]
   have dk1:decide (0<T.length)=false:=by simp[hm0]
   go_wp2_with fail
   go_meet
   exact⟨false,rfl,fun h=>by simp at h,r3.mono (by omega),ExtR.refl _ _⟩
  ·have dk0:decide ((0:Int)<(T.length:Int))=true:=by simp;omega
   have dk1:decide (0<T.length)=true:=by simp;omega
   go_wp2_with fail
   refine(pick_any R 4000 3 _ r3 (by omega)).mono ?_
   rintro e w4 ⟨x,rfl,xa,xb,r4,x4⟩
   by_cases x0:0<x
   ·have dk2:decide (0<x)=true:=by simp[x0]
    go_wp2_with fail
    go_meet
    exact⟨true,rfl,fun _=>by omega,r4,x4⟩
   ·have dk2:decide (0<x)=false:=by simp;omega
    go_wp2_with fail
    go_meet
    exact⟨false,rfl,fun h=>by simp at h,r4,x4⟩
 case rest=>
  obtain⟨bb,rfl,hbb,r4,x34⟩:=hcut
  have o4:=x34.own o3 (by omega)
  have v4:=x34.own v3 (by omega)
  have D4:=x34.blk D3 (by omega)
  have x4:=xr3.trans x34
  have hR4:=r4.lt
  have hs4:w2.heap.size<wc.heap.size:=D4.lt
  clear o3 v3 D3 xr3 x34 r3
  go_upto_if 18 with fail
  cases bb with
  |false=>
   go_wp2
   refine region_linR (gl [gEq (.agg #[.int .i64 P,.slice q T.length c,.slice q2 W.length c2]),gEq (.pointer (some ⟨R,0,none⟩)),gNum (12)]) R (4001) 1 3 (by kernel_rfl) rfl (by kernel_rfl) (by kernel_rfl) (by kernel_rfl) r4 (glR_mono (glR_cons (gEqR_mono _) (glR_cons (gEqR_mono _) (glR_cons (gNumR_mono _) (glR_nil))))) rfl (k:=5) (by kernel_rfl) (by decide) (ls:= [(0,some 30),(1,some 31),(2,some 32)]) (by kernel_rfl) (ir:= [0,1,2]) (by kernel_rfl) ?steps (tl:=#[true,true,true,false,false]) (by kernel_rfl) ?fin
   case steps=>
    refine StepsLR.cons (ps:= []) rfl (by kernel_rfl) (fun wi kk hx hr hkk=> ?_) ?_
    ·intro K hK
     obtain⟨ce0,ce1,ce2⟩:=((hx.of_drew.blk D4 (by omega))).tri
     go_simp
     exact hK _ _ ⟨.agg #[.int .i64 P,.slice q T.length c,.slice q2 W.length c2],rfl,rfl,(randE hr (Ext.refl _))⟩
    refine StepsLR.cons (ps:= []) rfl (by kernel_rfl) (fun wi kk hx hr hkk=> ?_) ?_
    ·intro K hK
     go_simp
     exact hK _ _ ⟨.pointer (some ⟨R,0,none⟩),rfl,rfl,(randE hr (Ext.refl _))⟩
    refine StepsLR.cons (ps:= [(1,some 31)]) rfl (by kernel_rfl) (fun wi kk hx hr hkk=> ?_) StepsLR.nil
    ·intro v1 h1 K hK
     obtain rfl:=h1
     go_wp2_with fail
     refine(pick_any R kk (12) _ hr (by omega)).mono ?_
     rintro e w5 ⟨x,rfl,xa,xb,r5,x5⟩
     go_simp
     exact hK _ _ ⟨.int .i64 x,rfl,⟨x,rfl,xa,by have hp:(0:Int)<12:=(by omega);omega⟩,⟨x5,r5⟩⟩
   case fin=>
    intro wi hx hr v0 h0 v1 h1 v2 h2
    obtain rfl:=h0
    obtain rfl:=h1
    obtain⟨x2,rfl,xa2,xb2⟩:=h2
    have hx1:ExtR R wc wi:=hx.of_drew
    have x5:=x4.trans hx1
    have B5:=x5.blk B1 (by omega)
    have hl5:=B5.lt
    have o5:=hx1.own o4 (by omega)
    have v5:=hx1.own v4 (by omega)
    obtain⟨b0,bf0,b1,bf1,b2,bf2⟩:=B5.trif
    have XX:Ext w wi:=ExtR.new X1 x5 (by omega)
    refine wpAny_ready (rs:= [3]) (by kernel_rfl) (by simp) ?_
    refine AllReady.cons rfl (fun K hK=> ?_) AllReady.nil
    go_simp
    refine hK _ _ ?_
    clear hK K
    generalize hw9:World.setCell _ _ _=w9
    have hR9:ExtR w.heap.size wi w9:=by rw[←hw9];exact(((ExtR.refl w.heap.size wi).setCell (p:=⟨w.heap.size,0,none⟩) (.inl rfl) (.int .i64 P)).setCell (p:=⟨w.heap.size,1,none⟩) (.inl rfl) (.slice q T.length c)).setCell (p:=⟨w.heap.size,2,none⟩) (.inl rfl) (.slice q2 W.length c2)
    have Y9:=(((B5).set 0 (.int .i64 P)).set 1 (.slice q T.length c)).set 2 (.slice q2 W.length c2)
    simp only[List.setIfInBounds_toArray,List.set_cons_zero,List.set_cons_succ]at Y9
    rw[hw9]at Y9
    have X9:Ext w w9:=ExtR.new XX hR9 (by omega)
    have o9:=o5.kept hR9 (.inr (own_tyB o5 B5 (by decide)))
    have v9:=v5.kept hR9 (.inr (own_tyB v5 B5 (by decide)))
    clear hw9
    clear b0 b1 b2 bf0 bf1 bf2
    obtain⟨y0,y1,y2⟩:=Y9.tri
    refine wpAny_ready (rs:= [4]) (by kernel_rfl) (by simp) ?_
    refine AllReady.cons rfl (fun K hK=> ?_) AllReady.nil
    go_simp
    refine hK _ _ ?_
    clear hK K
    refine wpAny_done (by kernel_rfl) ?_ _
    try simp only[Act.put,List.setIfInBounds_toArray,List.set_cons_zero,List.set_cons_succ]
    go_wp2
    exact bodyPost_ret (v:= .tuple #[.agg #[.int .i64 P,.slice q T.length c,.slice q2 W.length c2],.int .i64 x2]) (by simp[results,Tryd.results19,go_sem, *]) rfl ⟨P,T,W,q,c,q2,c2,x2,rfl,hn,hn2,own_low o9 hW,own_low v9 hW,X9⟩
  |true=>
   have hm0:=hbb rfl
   obtain⟨gq,hgq⟩: ∃g,q=some ⟨g,0,none⟩:=by
    rcases o4.2 with⟨_,h2⟩|⟨g,_,_,h1,_⟩
    ·omega
    ·injection h1 with h1;exact⟨g,h1⟩
   subst hgq
   have B4:=x4.blk B1 (by omega)
   have X4:Ext w wc:=ExtR.new X1 x4 (by omega)
   have hl4:=B4.lt
   go_wp2
   refine region_linX (gl [gEq (.agg #[.int .i64 P,.slice (some ⟨gq,0,none⟩) T.length c,.slice q2 W.length c2]),gEq (.pointer (some ⟨w2.heap.size,1,none⟩)),gEq (.slice (some ⟨gq,0,none⟩) T.length c),gEq (.pointer (some ⟨R,0,none⟩)),gEq (.pointer (some ⟨w2.heap.size,1,none⟩)),gEq (.slice (some ⟨gq,0,none⟩) T.length c),gEq (.int .i64 (T.length:Int)),gNum (T.length:Int),(fun v _=> ∃x:Nat,v= .pointer (some ⟨gq,x*4,none⟩)∧x<T.length),(fun v _=> ∃x:Nat,v= .pointer (some ⟨gq,x*4,none⟩)∧x<T.length),gInt,(fun _ w'=>Blk w' w.heap.size TDk #[.int .i64 P,.slice (some ⟨gq,0,none⟩) T.length c,.slice q2 W.length c2])]) (XS R w.heap.size TDk #[.int .i64 P,.slice (some ⟨gq,0,none⟩) T.length c,.slice q2 W.length c2]) R (4001) 1 12 (by kernel_rfl) rfl (by kernel_rfl) (by kernel_rfl) (by kernel_rfl) r4 (fun w=>XS.refl _ _ _ _ w) (fun _ _ _=>XS.trans) (glX_mono (glX_cons (gEqX_mono _) (glX_cons (gEqX_mono _) (glX_cons (gEqX_mono _) (glX_cons (gEqX_mono _) (glX_cons (gEqX_mono _) (glX_cons (gEqX_mono _) (glX_cons (gEqX_mono _) (glX_cons (fun _ _ _ h _=>h) (glX_cons (fun _ _ _ h _=>h) (glX_cons (fun _ _ _ h _=>h) (glX_cons (gIntX_mono) (glX_cons (fun _ _ _ h hx=>hx.blk h) (glX_nil)))))))))))))) rfl (k:=13) (by kernel_rfl) (by decide) (ls:= [(0,some 19),(1,some 20),(2,some 21),(3,some 22),(4,some 23),(5,some 24),(6,some 25),(7,some 26),(8,some 27),(9,some 28),(10,some 29),(11,none)]) (by kernel_rfl) (ir:= [0,1,2,3,4,5,6,7,8,9,10,11]) (by kernel_rfl) ?steps (tl:=#[true,true,true,true,true,true,true,true,true,true,true,true,false]) (by kernel_rfl) ?fin
   case steps=>
    refine StepsLX.cons (ps:= []) rfl (by kernel_rfl) (fun wi kk hx hr hkk=> ?_) ?_
    ·intro K hK
     obtain⟨ce0,ce1,ce2⟩:=((hx.other D4 (by omega) (by omega))).tri
     go_simp
     exact hK _ _ ⟨.agg #[.int .i64 P,.slice (some ⟨gq,0,none⟩) T.length c,.slice q2 W.length c2],rfl,rfl,⟨XS.refl _ _ _ _ _,hr.mono (by omega)⟩⟩
    refine StepsLX.cons (ps:= []) rfl (by kernel_rfl) (fun wi kk hx hr hkk=> ?_) ?_
    ·intro K hK
     go_simp
     exact hK _ _ ⟨.pointer (some ⟨w2.heap.size,1,none⟩),rfl,rfl,⟨XS.refl _ _ _ _ _,hr.mono (by omega)⟩⟩
    refine StepsLX.cons (ps:= [(1,some 20)]) rfl (by kernel_rfl) (fun wi kk hx hr hkk=> ?_) ?_
    ·intro v1 h1 K hK
     obtain rfl:=h1
     have ce1:wi.cell? ⟨w2.heap.size,1,none⟩=some (.slice (some ⟨gq,0,none⟩) T.length c):=(hx.other D4 (by omega) (by omega)).cell 1
     go_simp
     exact hK _ _ ⟨.slice (some ⟨gq,0,none⟩) T.length c,rfl,rfl,⟨XS.refl _ _ _ _ _,hr.mono (by omega)⟩⟩
    refine StepsLX.cons (ps:= []) rfl (by kernel_rfl) (fun wi kk hx hr hkk=> ?_) ?_
    ·intro K hK
     go_simp
     exact hK _ _ ⟨.pointer (some ⟨R,0,none⟩),rfl,rfl,⟨XS.refl _ _ _ _ _,hr.mono (by omega)⟩⟩
    refine StepsLX.cons (ps:= []) rfl (by kernel_rfl) (fun wi kk hx hr hkk=> ?_) ?_
    ·intro K hK
     go_simp
     exact hK _ _ ⟨.pointer (some ⟨w2.heap.size,1,none⟩),rfl,rfl,⟨XS.refl _ _ _ _ _,hr.mono (by omega)⟩⟩
    refine StepsLX.cons (ps:= [(4,some 23)]) rfl (by kernel_rfl) (fun wi kk hx hr hkk=> ?_) ?_
    ·intro v4 h4 K hK
     obtain rfl:=h4
     have ce1:wi.cell? ⟨w2.heap.size,1,none⟩=some (.slice (some ⟨gq,0,none⟩) T.length c):=(hx.other D4 (by omega) (by omega)).cell 1
     go_simp
     exact hK _ _ ⟨.slice (some ⟨gq,0,none⟩) T.length c,rfl,rfl,⟨XS.refl _ _ _ _ _,hr.mono (by omega)⟩⟩
    refine StepsLX.cons (ps:= [(5,some 24)]) rfl (by kernel_rfl) (fun wi kk hx hr hkk=> ?_) ?_
    ·intro v5 h5 K hK
     obtain rfl:=h5
     go_simp
     exact hK _ _ ⟨.int .i64 (T.length:Int),rfl,rfl,⟨XS.refl _ _ _ _ _,hr.mono (by omega)⟩⟩
    refine StepsLX.cons (ps:= [(3,some 22),(6,some 25)]) rfl (by kernel_rfl) (fun wi kk hx hr hkk=> ?_) ?_
    ·intro v3 h3 v6 h6 K hK
     obtain rfl:=h3
     obtain rfl:=h6
     go_wp2_with fail
     refine(pick_any R kk (T.length:Int) _ hr (by omega)).mono ?_
     rintro e w5 ⟨x,rfl,xa,xb,r5,x5⟩
     go_simp
     exact hK _ _ ⟨.int .i64 x,rfl,⟨x,rfl,xa,by have hp:(0:Int)<(T.length:Int):=(by omega);omega⟩,⟨XS.ofR (by omega) x5,r5⟩⟩
    refine StepsLX.cons (ps:= [(2,some 21),(7,some 26)]) rfl (by kernel_rfl) (fun wi kk hx hr hkk=> ?_) ?_
    ·intro v2 h2 v7 h7 K hK
     obtain rfl:=h2
     obtain⟨x7,rfl,xa7,xb7⟩:=h7
     obtain⟨xn,rfl⟩:=Int.eq_ofNat_of_zero_le xa7
     have i1:(xn:Int)<(T.length:Int):=xb7
     have i0:(0:Int)≤(xn:Int):=by omega
     go_simp
     exact hK _ _ ⟨_,rfl,⟨xn,rfl,by omega⟩,⟨XS.refl _ _ _ _ _,hr.mono (by omega)⟩⟩
    refine StepsLX.cons (ps:= [(8,some 27)]) rfl (by kernel_rfl) (fun wi kk hx hr hkk=> ?_) ?_
    ·intro v8 h8 K hK
     obtain⟨x8,rfl,xb8⟩:=h8
     go_simp
     exact hK _ _ ⟨_,rfl,⟨x8,rfl,xb8⟩,⟨XS.refl _ _ _ _ _,hr.mono (by omega)⟩⟩
    refine StepsLX.cons (ps:= [(9,some 28)]) rfl (by kernel_rfl) (fun wi kk hx hr hkk=> ?_) ?_
    ·intro v9 h9 K hK
     obtain⟨x9,rfl,xb9⟩:=h9
     obtain⟨y,hy⟩:=book_cell0 (vs:=T) (x:=x9) xb9
     have oi:=hx.of_drew.own o4 (by omega) (by omega)
     have c1:wi.cell? ⟨gq,x9*4,none⟩=some (.int .i64 y):=(oi.cellAt (x9*4) (by omega)).trans hy
     go_simp
     exact hK _ _ ⟨_,rfl,⟨_,rfl⟩,⟨XS.refl _ _ _ _ _,hr.mono (by omega)⟩⟩
    refine StepsLX.cons (ps:= [(0,some 19)]) rfl (by kernel_rfl) (fun wi kk hx hr hkk=> ?_) StepsLX.nil
    ·intro v0 h0 K hK
     obtain rfl:=h0
     have hlz:=XS.size hx
     rcases hx.either B4 with BZ|BZ
     ·have hlz2:=BZ.lt
      obtain⟨z0,zf0,z1,zf1,z2,zf2⟩:=(BZ).trif
      go_simp
      generalize hw9:World.setCell _ _ _=w9
      have hR9:ExtR w.heap.size wi w9:=by rw[←hw9];exact(((ExtR.refl w.heap.size wi).setCell (p:=⟨w.heap.size,0,none⟩) (.inl rfl) (.int .i64 P)).setCell (p:=⟨w.heap.size,1,none⟩) (.inl rfl) (.slice (some ⟨gq,0,none⟩) T.length c)).setCell (p:=⟨w.heap.size,2,none⟩) (.inl rfl) (.slice q2 W.length c2)
      have Y9:=(((BZ).set 0 (.int .i64 P)).set 1 (.slice (some ⟨gq,0,none⟩) T.length c)).set 2 (.slice q2 W.length c2)
      simp only[List.setIfInBounds_toArray,List.set_cons_zero,List.set_cons_succ]at Y9
      rw[hw9]at Y9
      have r9:Rand w9 R kk:=hr.far BZ (by omega) (tri_u8 _ _ _ _ _ _ _ ()) hR9
      exact hK _ _ ⟨undef,rfl,Y9,⟨XS.ofPut hR9 Y9,r9.mono (by omega)⟩⟩
     ·have hlz2:=BZ.lt
      obtain⟨z0,zf0,z1,zf1,z2,zf2⟩:=(BZ).trif
      go_simp
      generalize hw9:World.setCell _ _ _=w9
      have hR9:ExtR w.heap.size wi w9:=by rw[←hw9];exact(((ExtR.refl w.heap.size wi).setCell (p:=⟨w.heap.size,0,none⟩) (.inl rfl) (.int .i64 P)).setCell (p:=⟨w.heap.size,1,none⟩) (.inl rfl) (.slice (some ⟨gq,0,none⟩) T.length c)).setCell (p:=⟨w.heap.size,2,none⟩) (.inl rfl) (.slice q2 W.length c2)
      have Y9:=(((BZ).set 0 (.int .i64 P)).set 1 (.slice (some ⟨gq,0,none⟩) T.length c)).set 2 (.slice q2 W.length c2)
      simp only[List.setIfInBounds_toArray,List.set_cons_zero,List.set_cons_succ]at Y9
      rw[hw9]at Y9
      have r9:Rand w9 R kk:=hr.far BZ (by omega) (tri_u8 _ _ _ _ _ _ _ ()) hR9
      exact hK _ _ ⟨undef,rfl,Y9,⟨XS.ofPut hR9 Y9,r9.mono (by omega)⟩⟩
   case fin=>
    intro wi hx hr v0 h0 v1 h1 v2 h2 v3 h3 v4 h4 v5 h5 v6 h6 v7 h7 v8 h8 v9 h9 v10 h10 v11 h11
    obtain rfl:=h0
    obtain rfl:=h1
    obtain rfl:=h2
    obtain rfl:=h3
    obtain rfl:=h4
    obtain rfl:=h5
    obtain rfl:=h6
    obtain⟨x7,rfl,xa7,xb7⟩:=h7
    obtain⟨x8,rfl,xb8⟩:=h8
    obtain⟨x9,rfl,xb9⟩:=h9
    obtain⟨n10,rfl⟩:=h10
    have BB11:=h11
    have hx1:=hx.of_drew
    have o5:=hx1.own o4 (by omega) (by omega)
    have v5:=hx1.own v4 (by omega) (by omega)
    have X9:Ext w wi:=XS.new X4 hx1 (by omega) (by omega)
    obtain⟨y0,y1,y2⟩:=BB11.tri
    refine wpAny_ready (rs:= [12]) (by kernel_rfl) (by simp) ?_
    refine AllReady.cons rfl (fun K hK=> ?_) AllReady.nil
    go_simp
    refine hK _ _ ?_
    clear hK K
    refine wpAny_done (by kernel_rfl) ?_ _
    try simp only[Act.put,List.setIfInBounds_toArray,List.set_cons_zero,List.set_cons_succ]
    go_wp2
    exact bodyPost_ret (v:= .tuple #[.agg #[.int .i64 P,.slice (some ⟨gq,0,none⟩) T.length c,.slice q2 W.length c2],.int .i64 n10]) (by simp[results,Tryd.results19,go_sem, *]) rfl ⟨P,T,W,_,c,q2,c2,n10,rfl,hn,hn2,own_low o5 hW,own_low v5 hW,X9⟩
set_option maxRecDepth 100000 in
set_option maxHeartbeats 8000000 in
theorem drawDeskPlace (v:Value)(w:World)(hc:Code w v):Calls Tryd.prog 31 #[v] w (DrewDeskId w):=by
 go_enter Tryd.func31,Tryd.ntmps31
 go_wp2_with fail
 refine(drawDeskFree v _ (hc.ext (by(repeat' (first|exact Ext.refl _|(with_reducible assumption)|(with_reducible refine Ext.alloc ?_ _)|(with_reducible refine Ext.setCell ?_ (by first|exact Nat.le_refl _|(dsimp only;omega)|(simp;done)|(simp;omega)) _)|(with_reducible refine Ext.drew ?_)|(with_reducible refine Ext.drewN ?_ _)|(refine Ext.trans ?_ (by with_reducible assumption))))))).mono ?_
 rintro e w1 ⟨P,T,W,q,c,q2,c2,id,rfl,hn,hn2,hs,hs2,x1⟩
 have B1:Blk w1 w.heap.size TDk #[.int .i64 0,.slice none 0 0,.slice none 0 0]:=(Blk.new _ _ _).ext x1
 have hl1:=B1.lt
 obtain⟨b0,bf0,b1,bf1,b2,bf2⟩:=B1.trif
 have XX:Ext w w1:=by(repeat' (first|exact Ext.refl _|(with_reducible assumption)|(with_reducible refine Ext.alloc ?_ _)|(with_reducible refine Ext.setCell ?_ (by first|exact Nat.le_refl _|(dsimp only;omega)|(simp;done)|(simp;omega)) _)|(with_reducible refine Ext.drew ?_)|(with_reducible refine Ext.drewN ?_ _)|(refine Ext.trans ?_ (by with_reducible assumption))))
 go_wp2
 generalize hw9:World.setCell _ _ _=w9
 have hR9:ExtR w.heap.size w1 w9:=by rw[←hw9];exact(((ExtR.refl w.heap.size w1).setCell (p:=⟨w.heap.size,0,none⟩) (.inl rfl) (.int .i64 P)).setCell (p:=⟨w.heap.size,1,none⟩) (.inl rfl) (.slice q T.length c)).setCell (p:=⟨w.heap.size,2,none⟩) (.inl rfl) (.slice q2 W.length c2)
 have Y9:=(((B1).set 0 (.int .i64 P)).set 1 (.slice q T.length c)).set 2 (.slice q2 W.length c2)
 simp only[List.setIfInBounds_toArray,List.set_cons_zero,List.set_cons_succ]at Y9
 rw[hw9]at Y9
 have X9:Ext w w9:=ExtR.new XX hR9 (by omega)
 have o9:=hs.kept hR9 (.inr (fun e=>by have h1:=(World.ownsRow.lt hs _ e).1;simp at h1;omega))
 have v9:=hs2.kept hR9 (.inr (fun e=>by have h1:=(World.ownsRow.lt hs2 _ e).1;simp at h1;omega))
 clear hw9 b0 b1 b2 bf0 bf1 bf2
 obtain⟨y0,y1,y2⟩:=Y9.tri
 exact bodyPost_ret (v:= .tuple #[.agg #[.int .i64 P,.slice q T.length c,.slice q2 W.length c2],.int .i64 id]) (by simp[results,Tryd.results31,go_sem, *]) rfl ⟨P,T,W,q,c,q2,c2,id,rfl,hn,hn2,own_low o9 (by simp only[World.size_alloc];omega),own_low v9 (by simp only[World.size_alloc];omega),X9⟩
end Go.Proofs.YtndcnflchkfaeaaDoor

namespace Go.Proofs.YtndcnflchkfaeaaDoor
open Go.RowKit
set_option linter.unusedVariables false
set_option linter.unusedSimpArgs false
set_option maxRecDepth 100000 in
set_option maxHeartbeats 8000000 in
theorem drawDeskRun (v:Value)(w:World)(hc:Code w v):Calls Tryd.prog 34 #[v] w (DrewDeskList w):=by
 go_enter Tryd.func34,Tryd.ntmps34
 go_wp2_with fail
 refine(l20Open_any v _ (hc.ext (by(repeat' (first|exact Ext.refl _|(with_reducible assumption)|(with_reducible refine Ext.alloc ?_ _)|(with_reducible refine Ext.setCell ?_ (by first|exact Nat.le_refl _|(dsimp only;omega)|(simp;done)|(simp;omega)) _)|(with_reducible refine Ext.drew ?_)|(with_reducible refine Ext.drewN ?_ _)|(refine Ext.trans ?_ (by with_reducible assumption))))))).mono ?_
 rintro e w1 ⟨R,rfl,hR,r1,x1⟩
 have hR1:=r1.lt
 have hR0:w.heap.size<R:=Nat.lt_of_lt_of_le (by simp only[World.size_alloc];omega) hR
 have B1:Blk w1 w.heap.size TDk #[.int .i64 0,.slice none 0 0,.slice none 0 0]:=(Blk.new _ _ _).ext x1
 have X1:Ext w w1:=by(repeat' (first|exact Ext.refl _|(with_reducible assumption)|(with_reducible refine Ext.alloc ?_ _)|(with_reducible refine Ext.setCell ?_ (by first|exact Nat.le_refl _|(dsimp only;omega)|(simp;done)|(simp;omega)) _)|(with_reducible refine Ext.drew ?_)|(with_reducible refine Ext.drewN ?_ _)|(refine Ext.trans ?_ (by with_reducible assumption))))
 have hW:=X1.sz
 clear x1
 go_wp2_with fail
 refine(l20Desk_any R 0 9 _ r1 (by omega) (by omega) (by omega)).mono ?_
 rintro e w2 ⟨P,T,W,q,n,c,q2,n2,c2,rfl,rfl,rfl,hn,hn2,ho,hv,r2,x2⟩
 have hs2:=x2.sz
 obtain⟨w3,hw3⟩: ∃x,x=w2.alloc (.cells #[.int .i64 P,.slice q T.length c,.slice q2 W.length c2] TDk):=⟨_,rfl⟩
 have D3:Blk w3 w2.heap.size TDk #[.int .i64 P,.slice q T.length c,.slice q2 W.length c2]:=by rw[hw3];exact Blk.new _ _ _
 have r3:Rand w3 R 4000:=by rw[hw3];exact(r2.alloc _).mono (by omega)
 have xr3:ExtR R w1 w3:=by rw[hw3];exact x2.alloc _
 have hs3:w2.heap.size<w3.heap.size:=D3.lt
 go_upto_region 3 with fail
 rw[←hw3]
 have o3:w3.ownsRow w1.heap.size TBk 4 (.slice q T.length c) T.length (T.flatMap visitCells):=by rw[hw3];exact own_ext ho ((Ext.refl _).alloc _)
 have v3:w3.ownsRow w1.heap.size TBk 4 (.slice q2 W.length c2) W.length (W.flatMap visitCells):=by rw[hw3];exact own_ext hv ((Ext.refl _).alloc _)
 clear hw3 ho hv
 have hR3:=r3.lt
 have hR:R<w3.heap.size:=hR3
 go_wp2_with fail
 refine(pick_any R 4000 10 _ (r3.ext (by(repeat' (first|exact Ext.refl _|(with_reducible assumption)|(with_reducible refine Ext.alloc ?_ _)|(with_reducible refine Ext.setCell ?_ (by first|exact Nat.le_refl _|(dsimp only;omega)|(simp;done)|(simp;omega)) _)|(with_reducible refine Ext.drew ?_)|(with_reducible refine Ext.drewN ?_ _)|(refine Ext.trans ?_ (by with_reducible assumption)))))) (by omega)).mono ?_
 rintro e w4 ⟨x,rfl,xa,xb,r4,x4⟩
 obtain⟨j0,rfl⟩:=Int.eq_ofNat_of_zero_le xa
 have hj0:j0≤9:=by omega
 clear xa xb
 have M1:=Lib.hid ((((MemR.start R w3 hR).made0 TBk 4 (w3.heap.size) (by simp))).pickd x4)
 clear x4
 have MS:=Lib.hid (show MemR R w3 w4 [ownI w3.heap.size TBk 4 (some ⟨w3.heap.size,0,none⟩) (0) (0) (([]:List Visit4).flatMap visitCells)]from M1.out)
 clear M1
 go_wp2
 go_loopw [6,7] (fun o i wr=> ∃(bs:List Visit4) (gq n1 c9 j:Nat),o= .slice (some ⟨gq,0,none⟩) n1 c9∧i= .int .i64 (j:Int)∧n1+j≤9∧bs.length=n1∧MemR R w3 wr [ownI w3.heap.size TBk 4 (some ⟨gq,0,none⟩) (n1) (c9) (bs.flatMap visitCells)]∧Rand wr R (4001+60*(9-j))) (fun _ i _=>(intOf i).toNat)
 case atStart=>exact⟨[],_,0,0,j0,rfl,rfl,by omega,rfl,MS.out,r4.mono (by omega)⟩
 case round=>
  clear MS r4 r3
  obtain⟨bs,gq,n1,c9,j,rfl,rfl,hj,hbl,hM,rr⟩:=hrel
  have M1:=Lib.hid hM
  have hl:=Lib.hid hbl
  clear hM hbl
  have hRw:R<wr.heap.size:=rr.lt
  by_cases hj0:j=0
  ·skip
   subst hj0
   have dj:decide ((0:Int)<((0:Nat):Int))=false:=by simp
   have hx3:=M1.out.ext
   have x5:=xr3.trans hx3
   have B5:=x5.blk B1 (by omega)
   have D5:=hx3.blk D3 (by omega)
   have hl5:=B5.lt
   have hd5:=D5.lt
   have o5:=hx3.own o3 (by omega)
   have v5:=hx3.own v3 (by omega)
   have u5:=M1.out.own (i:=0) rfl
   have hb1:=B1.lt
   obtain⟨c0,c1,c2'⟩:=D5.tri
   obtain⟨b0,bf0,b1,bf1,b2,bf2⟩:=B5.trif
   have XX:Ext w wr:=ExtR.new X1 x5 (by omega)
   go_wp2
   generalize hw9:World.setCell _ _ _=w9
   have hR9:ExtR w.heap.size wr w9:=by rw[←hw9];exact(((ExtR.refl w.heap.size wr).setCell (p:=⟨w.heap.size,0,none⟩) (.inl rfl) (.int .i64 P)).setCell (p:=⟨w.heap.size,1,none⟩) (.inl rfl) (.slice q T.length c)).setCell (p:=⟨w.heap.size,2,none⟩) (.inl rfl) (.slice q2 W.length c2)
   have Y9:=(((B5).set 0 (.int .i64 P)).set 1 (.slice q T.length c)).set 2 (.slice q2 W.length c2)
   simp only[List.setIfInBounds_toArray,List.set_cons_zero,List.set_cons_succ]at Y9
   rw[hw9]at Y9
   have X9:Ext w w9:=ExtR.new XX hR9 (by omega)
   have o9:=o5.kept hR9 (.inr (own_tyB o5 B5 (by decide)))
   have v9:=v5.kept hR9 (.inr (own_tyB v5 B5 (by decide)))
   clear hw9
   have u9:=u5.kept hR9 (.inr (fun e=>by have:=(World.ownsRow.lt u5 _ e).1;omega))
   clear b0 b1 b2 bf0 bf1 bf2
   obtain⟨y0,y1,y2⟩:=Y9.tri
   have hle:=hl.out
   subst hle
   exact bodyPost_ret (v:= .tuple #[.agg #[.int .i64 P,.slice q T.length c,.slice q2 W.length c2],.slice (some ⟨gq,0,none⟩) bs.length c9]) (by simp[results,Tryd.results34,go_sem, *]) rfl ⟨P,T,W,q,c,q2,c2,bs,_,c9,rfl,hn,hn2,by omega,own_low o9 hW,own_low v9 hW,own_low u9 (by omega),X9⟩
  ·obtain⟨j,rfl⟩: ∃i,j=i+1:=⟨j-1,by omega⟩
   have i1:decide ((0:Int)<((j+1:Nat):Int))=true:=by first|(simp;done)|(simp;omega)
   have i2:decide ((0:Int)<(j:Int)+1)=true:=by first|(simp;done)|(simp;omega)
   go_wp2_with fail
   refine(l20Asked_any R (4001+60*(9-(j+1))) _ rr (by omega)).mono ?_
   rintro e w5 ⟨a0,a1,a2,a3,rfl,r5,x5⟩
   clear rr
   have M2:=Lib.hid ((M1.out).pickd x5)
   clear x5 M1
   go_wp2_with (at_builtin;refine wpList_appR elBk rfl _ _ rfl (M2.out.adv ((Ext.refl _).alloc (.cells #[.int .i64 a0,.int .i64 a1,.int .i64 a2,.int .i64 a3] TBk))) 0 rfl rfl (visitCells (a0,a1,a2,a3)) rfl (sl_lit _ _ _ 1 4 _ (by first|rfl|simp) (by first|rfl|simp) (by simp[maxLen])) (book_one _) (by omega) ?_;intro q7 c7 w7 M7X hr7;obtain⟨g7,hg7,_,_⟩:=M7X.some (i:=0) rfl (by omega);subst hg7;have M7:=Lib.hid (show MemR R w3 w7 [ownI w3.heap.size TBk 4 (some ⟨g7,0,none⟩) (n1+1) c7 ((bs++ [(a0,a1,a2,a3)]).flatMap visitCells)]from by rw[List.flatMap_append];simpa using M7X);have r7:=hr7 _ (r5.ext (by(repeat' (first|exact Ext.refl _|(with_reducible assumption)|(with_reducible refine Ext.alloc ?_ _)|(with_reducible refine Ext.setCell ?_ (by first|exact Nat.le_refl _|(dsimp only;omega)|(simp;done)|(simp;omega)) _)|(with_reducible refine Ext.drew ?_)|(with_reducible refine Ext.drewN ?_ _)|(refine Ext.trans ?_ (by with_reducible assumption))))));clear M7X hr7)
   go_roundw
   case rel=>exact⟨bs++ [(a0,a1,a2,a3)],g7,n1+1,c7,j,rfl,by go_num,by omega,by simp[hl.out],M7.out,r7.mono (by omega)⟩
   case measure=>simp[intOf]
set_option maxRecDepth 100000 in
set_option maxHeartbeats 8000000 in
theorem drawBooksPick (v:Value)(w:World)(hc:Code w v):Calls Tryd.prog 58 #[v] w (DrewBooks w):=by
 go_enter Tryd.func58,Tryd.ntmps58
 go_wp2_with fail
 refine(l20Open_any v _ (hc.ext (by(repeat' (first|exact Ext.refl _|(with_reducible assumption)|(with_reducible refine Ext.alloc ?_ _)|(with_reducible refine Ext.setCell ?_ (by first|exact Nat.le_refl _|(dsimp only;omega)|(simp;done)|(simp;omega)) _)|(with_reducible refine Ext.drew ?_)|(with_reducible refine Ext.drewN ?_ _)|(refine Ext.trans ?_ (by with_reducible assumption))))))).mono ?_
 rintro e w1 ⟨R,rfl,hR,r1,x1⟩
 have hR1:=r1.lt
 have hW:=x1.sz
 go_wp2_with fail
 refine(l20Books_any R 0 9 _ r1 (by omega) (by omega) (by omega)).mono ?_
 rintro e w2 ⟨bs,q,n,c,rfl,hn,hl,ho,r2,x2⟩
 subst hl
 go_wp2_with fail
 refine(pick_any R (0+1000) 4 _ r2 (by omega)).mono ?_
 rintro e w3 ⟨x,rfl,xa,xb,r3,x3⟩
 go_wp2_with fail
 refine(pick_any R (0+1000+1) 20 _ r3 (by omega)).mono ?_
 rintro e w4 ⟨y,rfl,ya,yb,r4,x4⟩
 have o4:=(x3.trans x4).own ho (by omega)
 have X4:Ext w w4:=ExtR.new x1 ((x2.trans x3).trans x4) hR
 clear ho x1 x2 x3 x4 r1 r2 r3 r4
 go_wp2
 exact bodyPost_ret (v:= .tuple #[.slice q bs.length c,.int .i64 (x-y/19)]) (by simp[results,Tryd.results58,go_sem, *]) rfl ⟨bs,q,c,_,rfl,hn,own_low o4 hW,X4⟩
set_option maxRecDepth 100000 in
set_option maxHeartbeats 8000000 in
theorem drawBooksKeep (v:Value)(w:World)(hc:Code w v):Calls Tryd.prog 25 #[v] w (DrewBooks w):=by
 go_enter Tryd.func25,Tryd.ntmps25
 go_wp2_with fail
 refine(drawBooksPick v _ hc).mono ?_
 rintro e w1 ⟨bs,q,c,p,rfl,hn,ho,x1⟩
 go_wp2
 exact bodyPost_ret (v:= .tuple #[.slice q bs.length c,.int .i64 p]) (by simp[results,Tryd.results25,go_sem, *]) rfl ⟨bs,q,c,p,rfl,hn,ho,x1⟩
end Go.Proofs.YtndcnflchkfaeaaDoor

