/-
  Texts of this proof, packed (@packed).
-/
import Derived.Test.YtndcnflchkfaeaaDoorK1
import Derived.Test.YtndcnflchkfaeaaDoorK3
import Derived.Test.YtndcnflchkfaeaaDoorK5
namespace Go.Proofs.YtndcnflchkfaeaaDoor
open Go.RowKit
set_option linter.unusedVariables false
theorem ext_setRow {w:World}{g:Nat}{cur:Array Value}{e:TypeId}(hg:w.heap[g]? =some (.cells cur e (0,0))):Ext w (w.setRow g cur):=
 ⟨rfl,rfl,rfl,by simp[World.setRow],fun k hk=>by
  by_cases h:k=g
  ·subst h;rw[setRow_heap w k cur cur e _ hg,hg]
  ·exact setRow_other w g k _ h⟩
section
variable {P:Program} (w:World)
theorem run_append_full {t e ty:TypeId}{sz:Nat}(E:ElT P t e sz)(base g n:Nat)(cs:Array Value)(hB:Blk w g e cs)(hb:base≤g)(hcs:cs.size=n*sz)(p:Option Addr)(m c:Nat)(news:List Value)(hs:Sl w p m c sz news)
  (h1: ∀u∈news,u.oneCell'=true)(hn:n+m≤1099511627776):
  ∃p' cap' w',(Builtin.append_ #[t,t] ty #[.slice (some ⟨g,0,none⟩) n n,.slice p m c]).run P w= .ok (.slice p' (n+m) cap') w'∧w'.ownsRow base e sz (.slice p' (n+m) cap') (n+m) (cs.toList++news)∧Ext w w':=by
 obtain⟨i,z,hi,hz,hsz,hby,hzs⟩:=E.info
 have hown:w.ownsRow base e sz (.slice (some ⟨g,0,none⟩) n n) n cs.toList:=⟨by simpa using hcs,.inr ⟨g,n,cs,rfl,hb,hB,Nat.le_refl _,by unfold maxLen;omega,hcs,by rw[List.take_of_length_le (by simp;omega)]⟩⟩
 by_cases hm:m=0
 ·subst hm
  have hnews:news= []:=List.eq_nil_of_length_eq_zero (by simpa using hs.len)
  subst hnews
  cases p with
  |none=>
   refine⟨some ⟨g,0,none⟩,n,w,?_,by simpa using hown,Ext.refl w⟩
   simp[Builtin.append_,run_underlying E.ht,sizeOf,typeInfo,hi,Builtin.lenOf,Builtin.firstCells,storeCells]
  |some ad=>
   have hr:=run_append_room (P:=P) w t ty e i E.ht hi g n n cs hB ad 0 c [] (by simp) (by simp) (by simp) (by omega) (by rw[hcs,hsz];simp)
   have e1:(List.take (n*i.size) cs.toList++ []++List.drop (n*i.size+([]:List Value).length) cs.toList).toArray=cs:=by simp
   rw[e1]at hr
   refine⟨some ⟨g,0,none⟩,n,w.setRow g cs,hr,?_,ext_setRow hB⟩
   have h2:=hown.kept (w':=w.setRow g cs) (row:=none) ⟨rfl,rfl,rfl,(ext_setRow hB).sz,fun k hk _=>(ext_setRow hB).block k hk⟩ (by simp[Value.ownBlock])
   simpa using h2
 ·obtain⟨b,off,rfl,_,hc⟩:=hs.rd (by omega)
  have hcells: ∀j u,news[j]? =some u→w.cell? ((⟨b,off,none⟩:Addr).add j)=some u:=by
   intro j u hu
   rw[addr_add,hc j (by rw[←hs.len];exact(List.getElem?_eq_some_iff.1 hu).1)]
   exact hu
  have hbb:(n+m)*i.bytes≤140737488355328:=by
   have:(n+m)*i.bytes≤(n+m)*64:=Nat.mul_le_mul_left _ hby
   omega
  have holds: ∀j u,cs.toList[j]? =some u→w.cell? ((⟨g,0,none⟩:Addr).add j)=some u:=hown.cells (g:=g) rfl
  have hr:=run_append_grow (P:=P) w t ty e i z E.ht hi hz ⟨g,0,none⟩ n n cs.toList (by simpa[hsz]using hcs) holds ⟨b,off,none⟩ m c news (by rw[hsz];exact hs.len) hcells (by omega) (by omega) (growslice_fits (by omega) hbb)
  have hge:=grownCap_ge w (n+m) n e
  have hcm:grownCap w (n+m) n e≤maxLen:=grownCap_le_maxLen w (n+m) n e (by unfold maxLen;omega)
  have hlen:(cs.toList++news).length=(n+m)*sz:=by rw[List.length_append,hs.len,Nat.add_mul];simp[hcs]
  refine⟨_,_,_,hr,⟨hlen,.inr ⟨w.heap.size,_,_,rfl,?_,heap_alloc_new w.drew _,hge,hcm,?_,?_⟩⟩,(Ext.refl w).drew.alloc _⟩
  ·have:=hB.lt;omega
  ·simp only[Array.size_append,List.size_toArray,size_zeroCells,hzs,hs.len,hcs,←Nat.add_mul]
   congr 1
   omega
  ·simp only[Array.toList_append,List.append_assoc]
   rw[←List.append_assoc,←hlen]
   exact List.take_left
theorem wp_append_full {o:Oper}{a:Act}{K:Act→World→Prop}{Q:Exit→Act→World→Prop}{t e:TypeId}{sz:Nat}(E:ElT P t e sz)(s x:Operand)
  (ho:o.op= .call {callee:= .builtin .append,args:=#[s,x],argTypes:=#[t,t]})
  (base g n:Nat)(cs:Array Value)(hs:a.eval s= .slice (some ⟨g,0,none⟩) n n)(hB:Blk w g e cs)(hb:base≤g)(hcs:cs.size=n*sz)
  (p:Option Addr)(m c:Nat)(news:List Value)(hx:a.eval x= .slice p m c)(hr:Sl w p m c sz news)(h1: ∀u∈news,u.oneCell'=true)
  (hn:n+m≤1099511627776)
  (h: ∀p' cap' w',w'.ownsRow base e sz (.slice p' (n+m) cap') (n+m) (cs.toList++news)→Ext w w'→K (a.put o.dst (.slice p' (n+m) cap')) w'):o.wp P a w K Q:=by
 obtain⟨p',cap',w',hrun,h2,h3⟩:=run_append_full (ty:=o.type) w E base g n cs hB hb hcs p m c news hr h1 hn
 unfold Oper.wp execOp
 simp only[ho,resolve,invoke,builtin,Sem.run_bind,Sem.run_pure,Result.andThen_ok,List.map_toArray,List.map_cons,List.map_nil,hs,hx,hrun]
 exact h p' cap' w' h2 h3
theorem step_append_full {ops:Array Oper}{i:Nat}{o:Oper}{a:Act}{G:Nat→Value→World→Prop}{t e:TypeId}{sz:Nat}(E:ElT P t e sz)(hgd:o.guard=none)(s x:Operand)
  (ho:o.op= .call {callee:= .builtin .append,args:=#[s,x],argTypes:=#[t,t]})
  (base g n:Nat)(cs:Array Value)(hs:a.eval s= .slice (some ⟨g,0,none⟩) n n)(hB:Blk w g e cs)(hb:base≤g)(hcs:cs.size=n*sz)
  (p:Option Addr)(m c:Nat)(news:List Value)(hx:a.eval x= .slice p m c)(hr:Sl w p m c sz news)(h1: ∀u∈news,u.oneCell'=true)
  (hn:n+m≤1099511627776)(h: ∀p' cap' w',w'.ownsRow base e sz (.slice p' (n+m) cap') (n+m) (cs.toList++news)→G i (.slice p' (n+m) cap') w'):
  StepAt P ops G Ext i o w a:=by
 intro K hK
 have hw:Region.wanted o (yielded ops a.tmps)=true:=by simp[Region.wanted,hgd]
 rw[if_pos hw]
 exact wp_append_full w E s x ho base g n cs hs hB hb hcs p m c news hx hr h1 hn (fun p' cap' w' h2 h3=>hK _ _ ⟨_,rfl,h p' cap' w' h2,h3⟩)
end
end Go.Proofs.YtndcnflchkfaeaaDoor

namespace Go.Proofs.YtndcnflchkfaeaaDoor
open Go Go.RowKit
set_option linter.unusedVariables false
theorem Mem.put3 {w0 w:World}{L:List Item}{i g B:Nat}{t:TypeId}{a0 a1 a2:Value}(h:Mem w0 w L)(hi:L[i]? =Option.some (blkI B g t #[a0,a1,a2])) (b0 b1 b2:Value):Mem w0 (((w.setCell ⟨g,0,none⟩ b0).setCell ⟨g,1,none⟩ b1).setCell ⟨g,2,none⟩ b2) (L.set i (blkI w0.heap.size g t #[b0,b1,b2])):=by
 have hl:i<L.length:=(List.getElem?_eq_some_iff.1 hi).1
 have h0:Mem w0 (w.setCell ⟨g,0,none⟩ b0) (L.set i (blkI w0.heap.size g t #[b0,a1,a2])):=by have:=h.store (i:=i) hi 0 b0;simpa[List.set_set]using this
 have i0:(L.set i (blkI w0.heap.size g t #[b0,a1,a2]))[i]? =Option.some (blkI w0.heap.size g t #[b0,a1,a2]):=by rw[List.getElem?_set_self hl]
 have h1:Mem w0 ((w.setCell ⟨g,0,none⟩ b0).setCell ⟨g,1,none⟩ b1) (L.set i (blkI w0.heap.size g t #[b0,b1,a2])):=by have:=h0.store (i:=i) i0 1 b1;simpa[List.set_set]using this
 have i1:(L.set i (blkI w0.heap.size g t #[b0,b1,a2]))[i]? =Option.some (blkI w0.heap.size g t #[b0,b1,a2]):=by rw[List.getElem?_set_self hl]
 have h2:Mem w0 (((w.setCell ⟨g,0,none⟩ b0).setCell ⟨g,1,none⟩ b1).setCell ⟨g,2,none⟩ b2) (L.set i (blkI w0.heap.size g t #[b0,b1,b2])):=by have:=h1.store (i:=i) i1 2 b2;simpa[List.set_set]using this
 have i2:(L.set i (blkI w0.heap.size g t #[b0,b1,b2]))[i]? =Option.some (blkI w0.heap.size g t #[b0,b1,b2]):=by rw[List.getElem?_set_self hl]
 exact h2
end Go.Proofs.YtndcnflchkfaeaaDoor

