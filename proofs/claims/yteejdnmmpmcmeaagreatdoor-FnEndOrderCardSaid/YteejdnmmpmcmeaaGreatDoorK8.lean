/-
  Texts of this proof, packed (@packed).
-/
import Derived.Test.YteejdnmmpmcmeaaGreatDoorK1
import Derived.Test.YteejdnmmpmcmeaaGreatDoorK2
import Derived.Test.YteejdnmmpmcmeaaGreatDoorK7
namespace Go.Proofs.YteejdnmmpmcmeaaGreatDoor
open Go.RowKit
set_option linter.unusedVariables false
theorem ext_setRow {w:World}{g:Nat}{cur:Array Value}{e:TypeId}(hg:w.heap[g]? =some (.cells cur e (0,0))):Ext w (w.setRow g cur):=
 ⟨rfl,rfl,rfl,by simp[World.setRow],fun k hk=>by
  by_cases h:k=g
  ·subst h;rw[setRow_heap w k cur cur e _ hg,hg]
  ·exact setRow_other w g k _ h⟩
section
variable {P:Program} (w:World)
theorem run_append_full {t e ty:TypeId}{sz:Nat}(E:ElT P t e sz)(base g n:Nat)(cs:Array Value)(hB:Blk w g e cs)(hb:base≤g)(hcs:cs.size=n*sz)(p:Option Addr)(m c:Nat)(news:List Value)(hs:Sl w p m c sz news)
  (h1: ∀u∈news,u.oneCell'=true)(hn:n+m≤1099511627776):
  ∃p' cap' w',(Builtin.append_ #[t,t] ty #[.slice (some ⟨g,0,none⟩) n n,.slice p m c]).run P w= .ok (.slice p' (n+m) cap') w'∧w'.ownsRow base e sz (.slice p' (n+m) cap') (n+m) (cs.toList++news)∧Ext w w':=by
 obtain⟨i,z,hi,hz,hsz,hby,hzs⟩:=E.info
 have hown:w.ownsRow base e sz (.slice (some ⟨g,0,none⟩) n n) n cs.toList:=⟨by simpa using hcs,.inr ⟨g,n,cs,rfl,hb,hB,Nat.le_refl _,by unfold maxLen;omega,hcs,by rw[List.take_of_length_le (by simp;omega)]⟩⟩
 by_cases hm:m=0
 ·subst hm
  have hnews:news= []:=List.eq_nil_of_length_eq_zero (by simpa using hs.len)
  subst hnews
  cases p with
  |none=>
   refine⟨some ⟨g,0,none⟩,n,w,?_,by simpa using hown,Ext.refl w⟩
   simp[Builtin.append_,run_underlying E.ht,sizeOf,typeInfo,hi,Builtin.lenOf,Builtin.firstCells,storeCells]
  |some ad=>
   have hr:=run_append_room (P:=P) w t ty e i E.ht hi g n n cs hB ad 0 c [] (by simp) (by simp) (by simp) (by omega) (by rw[hcs,hsz];simp)
   have e1:(List.take (n*i.size) cs.toList++ []++List.drop (n*i.size+([]:List Value).length) cs.toList).toArray=cs:=by simp
   rw[e1]at hr
   refine⟨some ⟨g,0,none⟩,n,w.setRow g cs,hr,?_,ext_setRow hB⟩
   have h2:=hown.kept (w':=w.setRow g cs) (row:=none) ⟨rfl,rfl,rfl,(ext_setRow hB).sz,fun k hk _=>(ext_setRow hB).block k hk⟩ (by simp[Value.ownBlock])
   simpa using h2
 ·obtain⟨b,off,rfl,_,hc⟩:=hs.rd (by omega)
  have hcells: ∀j u,news[j]? =some u→w.cell? ((⟨b,off,none⟩:Addr).add j)=some u:=by
   intro j u hu
   rw[addr_add,hc j (by rw[←hs.len];exact(List.getElem?_eq_some_iff.1 hu).1)]
   exact hu
  have hbb:(n+m)*i.bytes≤140737488355328:=by
   have:(n+m)*i.bytes≤(n+m)*64:=Nat.mul_le_mul_left _ hby
   omega
  have holds: ∀j u,cs.toList[j]? =some u→w.cell? ((⟨g,0,none⟩:Addr).add j)=some u:=hown.cells (g:=g) rfl
  have hr:=run_append_grow (P:=P) w t ty e i z E.ht hi hz ⟨g,0,none⟩ n n cs.toList (by simpa[hsz]using hcs) holds ⟨b,off,none⟩ m c news (by rw[hsz];exact hs.len) hcells (by omega) (by omega) (growslice_fits (by omega) hbb)
  have hge:=grownCap_ge w (n+m) n e
  have hcm:grownCap w (n+m) n e≤maxLen:=grownCap_le_maxLen w (n+m) n e (by unfold maxLen;omega)
  have hlen:(cs.toList++news).length=(n+m)*sz:=by rw[List.length_append,hs.len,Nat.add_mul];simp[hcs]
  refine⟨_,_,_,hr,⟨hlen,.inr ⟨w.heap.size,_,_,rfl,?_,heap_alloc_new w.drew _,hge,hcm,?_,?_⟩⟩,(Ext.refl w).drew.alloc _⟩
  ·have:=hB.lt;omega
  ·simp only[Array.size_append,List.size_toArray,size_zeroCells,hzs,hs.len,hcs,←Nat.add_mul]
   congr 1
   omega
  ·simp only[Array.toList_append,List.append_assoc]
   rw[←List.append_assoc,←hlen]
   exact List.take_left
theorem wp_append_full {o:Oper}{a:Act}{K:Act→World→Prop}{Q:Exit→Act→World→Prop}{t e:TypeId}{sz:Nat}(E:ElT P t e sz)(s x:Operand)
  (ho:o.op= .call {callee:= .builtin .append,args:=#[s,x],argTypes:=#[t,t]})
  (base g n:Nat)(cs:Array Value)(hs:a.eval s= .slice (some ⟨g,0,none⟩) n n)(hB:Blk w g e cs)(hb:base≤g)(hcs:cs.size=n*sz)
  (p:Option Addr)(m c:Nat)(news:List Value)(hx:a.eval x= .slice p m c)(hr:Sl w p m c sz news)(h1: ∀u∈news,u.oneCell'=true)
  (hn:n+m≤1099511627776)
  (h: ∀p' cap' w',w'.ownsRow base e sz (.slice p' (n+m) cap') (n+m) (cs.toList++news)→Ext w w'→K (a.put o.dst (.slice p' (n+m) cap')) w'):o.wp P a w K Q:=by
 obtain⟨p',cap',w',hrun,h2,h3⟩:=run_append_full (ty:=o.type) w E base g n cs hB hb hcs p m c news hr h1 hn
 unfold Oper.wp execOp
 simp only[ho,resolve,invoke,builtin,Sem.run_bind,Sem.run_pure,Result.andThen_ok,List.map_toArray,List.map_cons,List.map_nil,hs,hx,hrun]
 exact h p' cap' w' h2 h3
theorem step_append_full {ops:Array Oper}{i:Nat}{o:Oper}{a:Act}{G:Nat→Value→World→Prop}{t e:TypeId}{sz:Nat}(E:ElT P t e sz)(hgd:o.guard=none)(s x:Operand)
  (ho:o.op= .call {callee:= .builtin .append,args:=#[s,x],argTypes:=#[t,t]})
  (base g n:Nat)(cs:Array Value)(hs:a.eval s= .slice (some ⟨g,0,none⟩) n n)(hB:Blk w g e cs)(hb:base≤g)(hcs:cs.size=n*sz)
  (p:Option Addr)(m c:Nat)(news:List Value)(hx:a.eval x= .slice p m c)(hr:Sl w p m c sz news)(h1: ∀u∈news,u.oneCell'=true)
  (hn:n+m≤1099511627776)(h: ∀p' cap' w',w'.ownsRow base e sz (.slice p' (n+m) cap') (n+m) (cs.toList++news)→G i (.slice p' (n+m) cap') w'):
  StepAt P ops G Ext i o w a:=by
 intro K hK
 have hw:Region.wanted o (yielded ops a.tmps)=true:=by simp[Region.wanted,hgd]
 rw[if_pos hw]
 exact wp_append_full w E s x ho base g n cs hs hB hb hcs p m c news hx hr h1 hn (fun p' cap' w' h2 h3=>hK _ _ ⟨_,rfl,h p' cap' w' h2,h3⟩)
end
end Go.Proofs.YteejdnmmpmcmeaaGreatDoor

namespace Go.Proofs.YteejdnmmpmcmeaaGreatDoor
open Go.RowKit
set_option linter.unusedVariables false
set_option linter.unusedSimpArgs false
theorem own_blk_ne' {w:World}{B n:Nat}{q:Option Addr}{cap:Nat}{xs:List Value}{g:Nat}{t:TypeId}{cs:Array Value}(ho:w.ownsRow B TI 1 (.slice q n cap) n xs)(hb:Blk w g t cs)(ht:t≠TI):(Value.slice q n cap).ownBlock≠some g:=by
 intro he
 rcases ho.2 with⟨h1,h2⟩|⟨g',cap',cur,h1,hb',hg,hn,hm,hs,ht'⟩
 ·injection h1 with e1;subst e1;simp[Value.ownBlock]at he
 ·injection h1 with e1 e2 e3
  subst e1
  simp[Value.ownBlock]at he
  subst he
  unfold Blk at hb
  rw[hb]at hg
  injection hg with e;injection e with e1 e2
  exact ht e2
set_option maxRecDepth 100000 in
set_option maxHeartbeats 1000000 in
theorem l1Hall_any (wide deep:Int)(p:Option Addr)(n cap:Nat)(xs:List Int)(w:World)(hn:n≤1099511627776)(hS:Sl w p n cap 1 (ivs xs)):
  Calls Tryz.prog 182 #[hallV wide deep p n cap] w (RetHall wide deep xs w):=by
 have hl:=Lib.hid hS.ilen
 have HS:=Lib.hid hS
 clear hS
 go_enter Tryz.func182,Tryz.ntmps182
 go_wp2
 refine region_lin (gl [gEq (.pointer (some ⟨w.heap.size,0,none⟩)),gEq (.int .i64 wide),gEq (.pointer (some ⟨w.heap.size,1,none⟩)),gEq (.int .i64 deep),gLit (w.heap.size+2) TI #[] 0,gEq (.pointer (some ⟨w.heap.size,2,none⟩)),gEq (.slice p n cap),(fun v w'=> ∃q c,v= .slice q n c∧w'.ownsRow (w.heap.size+2) TI 1 (.slice q n c) n (ivs xs)),(fun v w'=> ∃q c,v=hallV wide deep q n c∧w'.ownsRow (w.heap.size+2) TI 1 (.slice q n c) n (ivs xs))]) 9 (by kernel_rfl) rfl (by kernel_rfl) (by kernel_rfl) (by kernel_rfl) (gl_mono (gl_cons (gEq_mono _) (gl_cons (gEq_mono _) (gl_cons (gEq_mono _) (gl_cons (gEq_mono _) (gl_cons (gLit_mono _ _ _ _) (gl_cons (gEq_mono _) (gl_cons (gEq_mono _) (gl_cons (fun v w w' ⟨q,c,he,ho⟩ hx=>⟨q,c,he,own_ext ho hx⟩) (gl_cons (fun v w w' ⟨q,c,he,ho⟩ hx=>⟨q,c,he,own_ext ho hx⟩) (gl_nil))))))))))) (k:=10) (by kernel_rfl) (by decide) (ls:= [(0,some 3),(1,some 4),(2,some 5),(3,some 6),(4,some 7),(5,some 8),(6,some 9),(7,some 10),(8,some 11)]) (by kernel_rfl) (ir:= [0,1,2,3,4,5,6,7,8]) (by kernel_rfl) ?steps (tl:=#[true,true,true,true,true,true,true,true,true,false]) (by kernel_rfl) ?fin
 case steps=>
  refine StepsL.cons (ps:= []) rfl (by kernel_rfl) (fun wi hx=> ?_) ?_
  ·intro K hK
   go_simp
   exact hK _ _ ⟨.pointer (some ⟨w.heap.size,0,none⟩),rfl,rfl,Ext.refl _⟩
  refine StepsL.cons (ps:= [(0,some 3)]) rfl (by kernel_rfl) (fun wi hx=> ?_) ?_
  ·intro v0 h0 K hK
   obtain rfl:=h0
   have B:=(Blk.new w TH3 #[.int .i64 wide,.int .i64 deep,.slice p n cap]).ext (by exact .trans (.drew (.alloc (.refl _) _)) hx:Ext (w.alloc (.cells #[.int .i64 wide,.int .i64 deep,.slice p n cap] TH3)) wi)
   have c0:wi.cell? ⟨w.heap.size,0,none⟩=some (.int .i64 wide):=B.cell 0
   go_simp
   exact hK _ _ ⟨.int .i64 wide,rfl,rfl,Ext.refl _⟩
  refine StepsL.cons (ps:= []) rfl (by kernel_rfl) (fun wi hx=> ?_) ?_
  ·intro K hK
   go_simp
   exact hK _ _ ⟨.pointer (some ⟨w.heap.size,1,none⟩),rfl,rfl,Ext.refl _⟩
  refine StepsL.cons (ps:= [(2,some 5)]) rfl (by kernel_rfl) (fun wi hx=> ?_) ?_
  ·intro v2 h2 K hK
   obtain rfl:=h2
   have B:=(Blk.new w TH3 #[.int .i64 wide,.int .i64 deep,.slice p n cap]).ext (by exact .trans (.drew (.alloc (.refl _) _)) hx:Ext (w.alloc (.cells #[.int .i64 wide,.int .i64 deep,.slice p n cap] TH3)) wi)
   have c1:wi.cell? ⟨w.heap.size,1,none⟩=some (.int .i64 deep):=B.cell 1
   go_simp
   exact hK _ _ ⟨.int .i64 deep,rfl,rfl,Ext.refl _⟩
  refine StepsL.cons (ps:= []) rfl (by kernel_rfl) (fun wi hx=> ?_) ?_
  ·intro K hK
   go_simp
   exact hK _ _ ⟨.slice (some ⟨wi.heap.size,0,none⟩) 0 0,rfl,⟨wi.heap.size,rfl,by have:=hx.sz;simp at this;omega,Blk.new _ _ _⟩,(Ext.refl _).alloc _⟩
  refine StepsL.cons (ps:= []) rfl (by kernel_rfl) (fun wi hx=> ?_) ?_
  ·intro K hK
   go_simp
   exact hK _ _ ⟨.pointer (some ⟨w.heap.size,2,none⟩),rfl,rfl,Ext.refl _⟩
  refine StepsL.cons (ps:= [(5,some 8)]) rfl (by kernel_rfl) (fun wi hx=> ?_) ?_
  ·intro v5 h5 K hK
   obtain rfl:=h5
   have B:=(Blk.new w TH3 #[.int .i64 wide,.int .i64 deep,.slice p n cap]).ext (by exact .trans (.drew (.alloc (.refl _) _)) hx:Ext (w.alloc (.cells #[.int .i64 wide,.int .i64 deep,.slice p n cap] TH3)) wi)
   have c2:wi.cell? ⟨w.heap.size,2,none⟩=some (.slice p n cap):=B.cell 2
   go_simp
   exact hK _ _ ⟨.slice p n cap,rfl,rfl,Ext.refl _⟩
  refine StepsL.cons (ps:= [(4,some 7),(6,some 9)]) rfl (by kernel_rfl) (fun wi hx=> ?_) ?_
  ·intro v4 h4 v6 h6
   obtain⟨g4,rfl,hg4,B4⟩:=h4
   obtain rfl:=h6
   refine step_append_full _ elInt rfl (.tmp 7) (.tmp 9) rfl (w.heap.size+2) g4 0 #[] rfl B4 hg4 (by simp) p n cap (ivs xs) rfl (HS.out.ext (Ext.trans (by exact .drew (.alloc (.alloc (.refl _) _) _)) hx)) (ivs_one _) (by omega) (fun p' cap' w' h2=>⟨p',cap',by rw[Nat.zero_add],by simpa using h2⟩)
  refine StepsL.cons (ps:= [(1,some 4),(3,some 6),(7,some 10)]) rfl (by kernel_rfl) (fun wi hx=> ?_) StepsL.nil
  ·intro v1 h1 v3 h3 v7 h7 K hK
   obtain rfl:=h1
   obtain rfl:=h3
   obtain⟨q7,c7,rfl,ho7⟩:=h7
   go_simp
   exact hK _ _ ⟨hallV wide deep q7 n c7,rfl,⟨q7,c7,rfl,ho7⟩,Ext.refl _⟩
 case fin=>
  intro wi hx v0 h0 v1 h1 v2 h2 v3 h3 v4 h4 v5 h5 v6 h6 v7 h7 v8 h8
  obtain rfl:=h0
  obtain rfl:=h1
  obtain rfl:=h2
  obtain rfl:=h3
  obtain⟨g4,rfl,hg4,B4⟩:=h4
  obtain rfl:=h5
  obtain rfl:=h6
  obtain⟨q7,c7,rfl,ho7⟩:=h7
  obtain⟨q8,c8,rfl,ho8⟩:=h8
  have BZ:Blk wi (w.heap.size+1) TH3 #[.int .i64 0,.int .i64 0,.slice none 0 0]:=by have:=(Blk.new (w.alloc (.cells #[.int .i64 wide,.int .i64 deep,.slice p n cap] TH3)) TH3 #[.int .i64 0,.int .i64 0,.slice none 0 0]).ext hx.of_drew;simpa using this
  obtain⟨z0,zf0,z1,zf1,z2,zf2⟩:=(BZ).trif
  have z1:w.heap.size+1<wi.heap.size:=BZ.lt
  have hxw:Ext w wi:=Ext.trans (by exact .drew (.alloc (.alloc (.refl _) _) _)) hx
  clear ho7 hx
  refine wpAny_ready (rs:= [9]) (by kernel_rfl) (by simp) ?_
  refine AllReady.cons rfl (fun K hK=> ?_) AllReady.nil
  go_simp
  refine hK _ _ ?_
  clear hK K
  refine wpAny_done (by kernel_rfl) ?_ _
  go_wp2
  have hY:=((BZ.set 0 (.int .i64 wide)).set 1 (.int .i64 deep)).set 2 (.slice q8 n c8)
  generalize hw3:World.setCell _ _ _=w3
  rw[hw3]at hY
  have hR:ExtR (w.heap.size+1) wi w3:=by rw[←hw3];exact(((ExtR.refl (w.heap.size+1) wi).setCell (p:=⟨w.heap.size+1,0,none⟩) (.inl rfl) _).setCell (p:=⟨w.heap.size+1,1,none⟩) (.inl rfl) _).setCell (p:=⟨w.heap.size+1,2,none⟩) (.inl rfl) _
  clear hw3 z0 z1 z2 zf0 zf1 zf2
  simp only[List.setIfInBounds_toArray,List.set_cons_zero,List.set_cons_succ]at hY
  obtain⟨y0,y1,y2⟩:=(hY).tri
  exact bodyPost_ret (v:=hallV wide deep q8 n c8) (by simp[results,Tryz.results182,go_sem, *]) rfl (ret_hall hl.out (own_base (ho8.kept hR (.inr (own_blk_ne' ho8 BZ (by decide)))) (by omega)) (ExtR.new hxw hR (by omega)))
end Go.Proofs.YteejdnmmpmcmeaaGreatDoor

namespace Go.Proofs.YteejdnmmpmcmeaaGreatDoor
open Go.RowKit
set_option linter.unusedVariables false
set_option linter.unusedSimpArgs false
abbrev TSL:TypeId:=107
abbrev slideV (f t:Int):Value:= .agg #[.int .i64 f,.int .i64 t]
def slideMay (wide deep:Int)(xs:List Int)(f t:Int):Bool:=decide (cellsApart wide deep xs f t=1)&&decide (0<xs.getD f.toNat 0)&&decide (xs.getD t.toNat 0=0)
theorem cellsApart_one {wide deep:Int}{xs:List Int}{a b:Int}(h:cellsApart wide deep xs a b=1):hallOk wide deep xs=true∧0≤a∧a<xs.length∧0≤b∧b<xs.length∧apart wide a b=1:=by
 unfold cellsApart at h
 split at h
 ·rename_i hh;exact⟨hh.1,hh.2.1.1,hh.2.1.2,hh.2.2.1,hh.2.2.2,h⟩
 ·omega
theorem Blk.cells2 {w:World}{g:Nat}{t:TypeId}{a b:Value}(h:Blk w g t #[a,b]):w.cell? ⟨g,0,none⟩=some a∧w.cell? ⟨g,1,none⟩=some b:=⟨h.cell 0,h.cell 1⟩
set_option maxRecDepth 100000 in
set_option maxHeartbeats 1000000 in
theorem specSm_no (wide deep f t:Int)(p:Option Addr)(n cap:Nat)(A:Int)(w:World)(hA:(A==1)=false)
  (HC:Hid (∀w',Ext w w'→Calls Tryz.prog 218 #[hallV wide deep p n cap,.int .i64 f,.int .i64 t] w' fun e w''=>e= .returned (.int .i64 A)∧Ext w' w'')):
  Calls Tryz.prog 189 #[hallV wide deep p n cap,slideV f t] w fun e w'=>e= .returned (.bool false)∧Ext w w':=by
 go_enter Tryz.func189,Tryz.ntmps189
 go_wp2_with fail
 refine(HC.out _ (by exact .alloc (.alloc (.refl _) _) _)).mono ?_
 rintro e w1 ⟨rfl,hh1⟩
 have B1:=Lib.hid (show Blk w1 w.heap.size TH3 #[.int .i64 wide,.int .i64 deep,.slice p n cap]from((Blk.new w TH3 #[.int .i64 wide,.int .i64 deep,.slice p n cap]).alloc _).ext hh1)
 have S1:=Lib.hid (show Blk w1 (w.heap.size+1) TSL #[.int .i64 f,.int .i64 t] by have:=(Blk.new (w.alloc (.cells #[.int .i64 wide,.int .i64 deep,.slice p n cap] TH3)) TSL #[.int .i64 f,.int .i64 t]).ext hh1;simpa using this)
 have X1:Ext w w1:=by exact .trans (.alloc (.alloc (.refl _) _) _) hh1
 have z1:w.heap.size+1<w1.heap.size:=S1.out.lt
 clear hh1
 obtain⟨c0,c1,c2⟩:=B1.out.cells3
 obtain⟨s0,s1⟩:=S1.out.cells2
 go_wp2
 go_ret
 exact⟨rfl,by exact X1⟩
set_option maxRecDepth 100000 in
set_option maxHeartbeats 1000000 in
theorem specSm_o (wide deep:Int)(p:Option Addr)(n cap:Nat)(i j:Nat)(x y:Int)(xs:List Int)(w:World)(hn:n≤12)(hi:i<n)(hj:j<n)(HX:Hid (xs[i]? =some x)) (HY:Hid (xs[j]? =some y)) (HS:Hid (Sl w p n cap 1 (ivs xs)))
  (HC:Hid (∀w',Ext w w'→Calls Tryz.prog 218 #[hallV wide deep p n cap,.int .i64 (i:Int),.int .i64 (j:Int)] w' fun e w''=>e= .returned (.int .i64 1)∧Ext w' w'')):
  Calls Tryz.prog 189 #[hallV wide deep p n cap,slideV (i:Int) (j:Int)] w fun e w'=>e= .returned (.bool (decide (0<x)&&decide (y=0)))∧Ext w w':=by
 obtain⟨b,off,x',hp1,hx,hb,hcx⟩:=HS.out.int_at hi
 obtain⟨b2,off2,y',hp2,hy,_,hcy⟩:=HS.out.int_at hj
 rw[hp1]at hp2
 injection hp2 with hp2
 injection hp2 with e1 e2
 subst e1 e2
 have HP1:=Lib.hid hp1
 clear hp1
 obtain rfl:x=x':=by have:=HX.out.symm.trans hx;injection this
 obtain rfl:y=y':=by have:=HY.out.symm.trans hy;injection this
 clear hx hy
 have a1:(0:Int)≤(i:Int):=by omega
 have a2:(0:Int)≤(j:Int):=by omega
 have a3:(i:Int)<(n:Int):=by omega
 have a4:(j:Int)<(n:Int):=by omega
 have HCX:=Lib.hid hcx
 have HCY:=Lib.hid hcy
 clear hcx hcy
 by_cases h0:0<x
 ·have d0:decide (0<x)=true:=by simp[h0]
  by_cases h1:y=0
  ·have d1:(y==0)=true:=by simp[h1]
   have hfin:Hid ((decide (0<x)&&decide (y=0))=true):=by show _=_;simp[h0,h1]
   clear h1
   go_enter Tryz.func189,Tryz.ntmps189
   go_wp2_with fail
   refine(HC.out _ (by exact .alloc (.alloc (.refl _) _) _)).mono ?_
   rintro e w1 ⟨rfl,hh1⟩
   have B1:=Lib.hid (show Blk w1 w.heap.size TH3 #[.int .i64 wide,.int .i64 deep,.slice p n cap]from((Blk.new w TH3 #[.int .i64 wide,.int .i64 deep,.slice p n cap]).alloc _).ext hh1)
   have S1:=Lib.hid (show Blk w1 (w.heap.size+1) TSL #[.int .i64 (i:Int),.int .i64 (j:Int)] by have:=(Blk.new (w.alloc (.cells #[.int .i64 wide,.int .i64 deep,.slice p n cap] TH3)) TSL #[.int .i64 (i:Int),.int .i64 (j:Int)]).ext hh1;simpa using this)
   have X1:Ext w w1:=by exact .trans (.alloc (.alloc (.refl _) _) _) hh1
   have z1:w.heap.size+1<w1.heap.size:=S1.out.lt
   clear hh1
   obtain⟨c0,c1,c2⟩:=B1.out.cells3
   rw[HP1.out]at c2
   obtain⟨s0,s1⟩:=S1.out.cells2
   have g1:w1.cell? ⟨b,off+i,none⟩=some (iv x):=(X1.cells.1 _ _ hb).trans HCX.out
   have g2:w1.cell? ⟨b,off+j,none⟩=some (iv y):=(X1.cells.1 _ _ hb).trans HCY.out
   go_wp2
   go_ret
   exact⟨ret_bool hfin.out.symm,by exact X1⟩
  ·have d1:(y==0)=false:=by simp[h1]
   have hfin:Hid ((decide (0<x)&&decide (y=0))=false):=by show _=_;simp[h1]
   clear h1
   go_enter Tryz.func189,Tryz.ntmps189
   go_wp2_with fail
   refine(HC.out _ (by exact .alloc (.alloc (.refl _) _) _)).mono ?_
   rintro e w1 ⟨rfl,hh1⟩
   have B1:=Lib.hid (show Blk w1 w.heap.size TH3 #[.int .i64 wide,.int .i64 deep,.slice p n cap]from((Blk.new w TH3 #[.int .i64 wide,.int .i64 deep,.slice p n cap]).alloc _).ext hh1)
   have S1:=Lib.hid (show Blk w1 (w.heap.size+1) TSL #[.int .i64 (i:Int),.int .i64 (j:Int)] by have:=(Blk.new (w.alloc (.cells #[.int .i64 wide,.int .i64 deep,.slice p n cap] TH3)) TSL #[.int .i64 (i:Int),.int .i64 (j:Int)]).ext hh1;simpa using this)
   have X1:Ext w w1:=by exact .trans (.alloc (.alloc (.refl _) _) _) hh1
   have z1:w.heap.size+1<w1.heap.size:=S1.out.lt
   clear hh1
   obtain⟨c0,c1,c2⟩:=B1.out.cells3
   rw[HP1.out]at c2
   obtain⟨s0,s1⟩:=S1.out.cells2
   have g1:w1.cell? ⟨b,off+i,none⟩=some (iv x):=(X1.cells.1 _ _ hb).trans HCX.out
   have g2:w1.cell? ⟨b,off+j,none⟩=some (iv y):=(X1.cells.1 _ _ hb).trans HCY.out
   go_wp2
   go_ret
   exact⟨ret_bool hfin.out.symm,by exact X1⟩
 ·have d0:decide (0<x)=false:=by simp[h0]
  have hfin:Hid ((decide (0<x)&&decide (y=0))=false):=by show _=_;simp[h0]
  go_enter Tryz.func189,Tryz.ntmps189
  go_wp2_with fail
  refine(HC.out _ (by exact .alloc (.alloc (.refl _) _) _)).mono ?_
  rintro e w1 ⟨rfl,hh1⟩
  have B1:=Lib.hid (show Blk w1 w.heap.size TH3 #[.int .i64 wide,.int .i64 deep,.slice p n cap]from((Blk.new w TH3 #[.int .i64 wide,.int .i64 deep,.slice p n cap]).alloc _).ext hh1)
  have S1:=Lib.hid (show Blk w1 (w.heap.size+1) TSL #[.int .i64 (i:Int),.int .i64 (j:Int)] by have:=(Blk.new (w.alloc (.cells #[.int .i64 wide,.int .i64 deep,.slice p n cap] TH3)) TSL #[.int .i64 (i:Int),.int .i64 (j:Int)]).ext hh1;simpa using this)
  have X1:Ext w w1:=by exact .trans (.alloc (.alloc (.refl _) _) _) hh1
  have z1:w.heap.size+1<w1.heap.size:=S1.out.lt
  clear hh1
  obtain⟨c0,c1,c2⟩:=B1.out.cells3
  rw[HP1.out]at c2
  obtain⟨s0,s1⟩:=S1.out.cells2
  have g1:w1.cell? ⟨b,off+i,none⟩=some (iv x):=(X1.cells.1 _ _ hb).trans HCX.out
  go_wp2
  go_ret
  exact⟨ret_bool hfin.out.symm,by exact X1⟩
theorem specSm (wide deep f t:Int)(p:Option Addr)(n cap:Nat)(xs:List Int)(w:World)(hS:Sl w p n cap 1 (ivs xs)):
  Calls Tryz.prog 189 #[hallV wide deep p n cap,slideV f t] w fun e w'=>e= .returned (.bool (slideMay wide deep xs f t))∧Ext w w':=by
 have hl:=hS.ilen
 have HC:=fun(w':World) (hx:Ext w w')=>specCa wide deep f t p n cap xs w' (hS.ext hx)
 unfold slideMay
 by_cases h:cellsApart wide deep xs f t=1
 ·obtain⟨k1,k2,k3,k4,k5,k6⟩:=cellsApart_one h
  obtain⟨g1,g2,g3,g4,g5,g6,g7,g8,g9⟩:=hallOk_parts k1
  rw[h]at HC
  have hx:xs[f.toNat]? =some (xs.getD f.toNat 0):=by rw[List.getD_eq_getElem?_getD,List.getElem?_eq_getElem (by omega)];rfl
  have hy:xs[t.toNat]? =some (xs.getD t.toNat 0):=by rw[List.getD_eq_getElem?_getD,List.getElem?_eq_getElem (by omega)];rfl
  have ef:((f.toNat:Nat):Int)=f:=by omega
  have et:((t.toNat:Nat):Int)=t:=by omega
  have:=specSm_o wide deep p n cap f.toNat t.toNat _ _ xs w (by omega) (by omega) (by omega) hx hy hS (by rw[ef,et];exact HC)
  rw[ef,et]at this
  rw[decide_eq_true h,Bool.true_and]
  exact this
 ·have:=specSm_no wide deep f t p n cap _ w (by simpa using h) HC
  rw[decide_eq_false h,Bool.false_and,Bool.false_and]
  exact this
end Go.Proofs.YteejdnmmpmcmeaaGreatDoor

