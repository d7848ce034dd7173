/-
  Texts of this proof, packed (@packed).
-/
import Derived.Test.YtndcnflchkfaeaaDoorK2
import Derived.Test.YtndcnflchkfaeaaDoorK3
namespace Go.Proofs.YtndcnflchkfaeaaDoor
open Go.RowKit
set_option linter.unusedVariables false
set_option linter.unusedSimpArgs false
abbrev TBk:TypeId:=30
abbrev bookV (i f t v:Int):Value:= .agg #[.int .i64 i,.int .i64 f,.int .i64 t,.int .i64 v]
set_option maxRecDepth 100000 in
set_option maxHeartbeats 1000000 in
theorem implBv (i f t v:Int)(w:World):Calls Tryd.prog 41 #[bookV i f t v] w fun e w'=>e= .returned (.bool (bookOk (i,f,t,v)))∧Ext w w':=by
 by_cases c1:1≤i
 ·by_cases c2:i≤99
  ·by_cases c3:0≤f
   ·by_cases c4:f≤29
    ·by_cases c5:f+1≤t
     ·by_cases c6:t≤30
      ·by_cases c7:0≤v
       ·by_cases c8:v≤99
        ·go_enter Tryd.func41,Tryd.ntmps41
         go_wp2
         go_ret
         exact⟨ret_bool (by simp[bookOk];omega),by(repeat' (first|exact Ext.refl _|(with_reducible assumption)|(with_reducible refine Ext.alloc ?_ _)|(with_reducible refine Ext.setCell ?_ (by first|exact Nat.le_refl _|(dsimp only;omega)|(simp;done)|(simp;omega)) _)|(with_reducible refine Ext.drew ?_)|(with_reducible refine Ext.drewN ?_ _)|(refine Ext.trans ?_ (by with_reducible assumption))))⟩
        ·go_enter Tryd.func41,Tryd.ntmps41
         go_wp2
         go_ret
         exact⟨ret_bool (by simp[bookOk];omega),by(repeat' (first|exact Ext.refl _|(with_reducible assumption)|(with_reducible refine Ext.alloc ?_ _)|(with_reducible refine Ext.setCell ?_ (by first|exact Nat.le_refl _|(dsimp only;omega)|(simp;done)|(simp;omega)) _)|(with_reducible refine Ext.drew ?_)|(with_reducible refine Ext.drewN ?_ _)|(refine Ext.trans ?_ (by with_reducible assumption))))⟩
       ·go_enter Tryd.func41,Tryd.ntmps41
        go_wp2
        go_ret
        exact⟨ret_bool (by simp[bookOk];omega),by(repeat' (first|exact Ext.refl _|(with_reducible assumption)|(with_reducible refine Ext.alloc ?_ _)|(with_reducible refine Ext.setCell ?_ (by first|exact Nat.le_refl _|(dsimp only;omega)|(simp;done)|(simp;omega)) _)|(with_reducible refine Ext.drew ?_)|(with_reducible refine Ext.drewN ?_ _)|(refine Ext.trans ?_ (by with_reducible assumption))))⟩
      ·go_enter Tryd.func41,Tryd.ntmps41
       go_wp2
       go_ret
       exact⟨ret_bool (by simp[bookOk];omega),by(repeat' (first|exact Ext.refl _|(with_reducible assumption)|(with_reducible refine Ext.alloc ?_ _)|(with_reducible refine Ext.setCell ?_ (by first|exact Nat.le_refl _|(dsimp only;omega)|(simp;done)|(simp;omega)) _)|(with_reducible refine Ext.drew ?_)|(with_reducible refine Ext.drewN ?_ _)|(refine Ext.trans ?_ (by with_reducible assumption))))⟩
     ·go_enter Tryd.func41,Tryd.ntmps41
      go_wp2
      go_ret
      exact⟨ret_bool (by simp[bookOk];omega),by(repeat' (first|exact Ext.refl _|(with_reducible assumption)|(with_reducible refine Ext.alloc ?_ _)|(with_reducible refine Ext.setCell ?_ (by first|exact Nat.le_refl _|(dsimp only;omega)|(simp;done)|(simp;omega)) _)|(with_reducible refine Ext.drew ?_)|(with_reducible refine Ext.drewN ?_ _)|(refine Ext.trans ?_ (by with_reducible assumption))))⟩
    ·go_enter Tryd.func41,Tryd.ntmps41
     go_wp2
     go_ret
     exact⟨ret_bool (by simp[bookOk];omega),by(repeat' (first|exact Ext.refl _|(with_reducible assumption)|(with_reducible refine Ext.alloc ?_ _)|(with_reducible refine Ext.setCell ?_ (by first|exact Nat.le_refl _|(dsimp only;omega)|(simp;done)|(simp;omega)) _)|(with_reducible refine Ext.drew ?_)|(with_reducible refine Ext.drewN ?_ _)|(refine Ext.trans ?_ (by with_reducible assumption))))⟩
   ·go_enter Tryd.func41,Tryd.ntmps41
    go_wp2
    go_ret
    exact⟨ret_bool (by simp[bookOk];omega),by(repeat' (first|exact Ext.refl _|(with_reducible assumption)|(with_reducible refine Ext.alloc ?_ _)|(with_reducible refine Ext.setCell ?_ (by first|exact Nat.le_refl _|(dsimp only;omega)|(simp;done)|(simp;omega)) _)|(with_reducible refine Ext.drew ?_)|(with_reducible refine Ext.drewN ?_ _)|(refine Ext.trans ?_ (by with_reducible assumption))))⟩
  ·go_enter Tryd.func41,Tryd.ntmps41
   go_wp2
   go_ret
   exact⟨ret_bool (by simp[bookOk];omega),by(repeat' (first|exact Ext.refl _|(with_reducible assumption)|(with_reducible refine Ext.alloc ?_ _)|(with_reducible refine Ext.setCell ?_ (by first|exact Nat.le_refl _|(dsimp only;omega)|(simp;done)|(simp;omega)) _)|(with_reducible refine Ext.drew ?_)|(with_reducible refine Ext.drewN ?_ _)|(refine Ext.trans ?_ (by with_reducible assumption))))⟩
 ·go_enter Tryd.func41,Tryd.ntmps41
  go_wp2
  go_ret
  exact⟨ret_bool (by simp[bookOk];omega),by(repeat' (first|exact Ext.refl _|(with_reducible assumption)|(with_reducible refine Ext.alloc ?_ _)|(with_reducible refine Ext.setCell ?_ (by first|exact Nat.le_refl _|(dsimp only;omega)|(simp;done)|(simp;omega)) _)|(with_reducible refine Ext.drew ?_)|(with_reducible refine Ext.drewN ?_ _)|(refine Ext.trans ?_ (by with_reducible assumption))))⟩
set_option maxRecDepth 100000 in
set_option maxHeartbeats 1000000 in
theorem specBv (i f t v:Int)(w:World):Calls Tryd.prog 46 #[bookV i f t v] w fun e w'=>e= .returned (.bool (bookOk (i,f,t,v)))∧Ext w w':=by
 by_cases c1:1≤i
 ·by_cases c2:i≤99
  ·by_cases c3:0≤f
   ·by_cases c4:f≤29
    ·by_cases c5:f+1≤t
     ·by_cases c6:t≤30
      ·by_cases c7:0≤v
       ·by_cases c8:v≤99
        ·(try have hwr:IntKind.i64.wrap (f+1)=f+1:=IntWalk.i64_in _ (by omega))
         go_enter Tryd.func46,Tryd.ntmps46
         go_wp2_with go_in
         go_ret
         exact⟨ret_bool (by simp[bookOk];omega),by(repeat' (first|exact Ext.refl _|(with_reducible assumption)|(with_reducible refine Ext.alloc ?_ _)|(with_reducible refine Ext.setCell ?_ (by first|exact Nat.le_refl _|(dsimp only;omega)|(simp;done)|(simp;omega)) _)|(with_reducible refine Ext.drew ?_)|(with_reducible refine Ext.drewN ?_ _)|(refine Ext.trans ?_ (by with_reducible assumption))))⟩
        ·(try have hwr:IntKind.i64.wrap (f+1)=f+1:=IntWalk.i64_in _ (by omega))
         go_enter Tryd.func46,Tryd.ntmps46
         go_wp2_with go_in
         go_ret
         exact⟨ret_bool (by simp[bookOk];omega),by(repeat' (first|exact Ext.refl _|(with_reducible assumption)|(with_reducible refine Ext.alloc ?_ _)|(with_reducible refine Ext.setCell ?_ (by first|exact Nat.le_refl _|(dsimp only;omega)|(simp;done)|(simp;omega)) _)|(with_reducible refine Ext.drew ?_)|(with_reducible refine Ext.drewN ?_ _)|(refine Ext.trans ?_ (by with_reducible assumption))))⟩
       ·(try have hwr:IntKind.i64.wrap (f+1)=f+1:=IntWalk.i64_in _ (by omega))
        go_enter Tryd.func46,Tryd.ntmps46
        go_wp2_with go_in
        go_ret
        exact⟨ret_bool (by simp[bookOk];omega),by(repeat' (first|exact Ext.refl _|(with_reducible assumption)|(with_reducible refine Ext.alloc ?_ _)|(with_reducible refine Ext.setCell ?_ (by first|exact Nat.le_refl _|(dsimp only;omega)|(simp;done)|(simp;omega)) _)|(with_reducible refine Ext.drew ?_)|(with_reducible refine Ext.drewN ?_ _)|(refine Ext.trans ?_ (by with_reducible assumption))))⟩
      ·(try have hwr:IntKind.i64.wrap (f+1)=f+1:=IntWalk.i64_in _ (by omega))
       go_enter Tryd.func46,Tryd.ntmps46
       go_wp2_with go_in
       go_ret
       exact⟨ret_bool (by simp[bookOk];omega),by(repeat' (first|exact Ext.refl _|(with_reducible assumption)|(with_reducible refine Ext.alloc ?_ _)|(with_reducible refine Ext.setCell ?_ (by first|exact Nat.le_refl _|(dsimp only;omega)|(simp;done)|(simp;omega)) _)|(with_reducible refine Ext.drew ?_)|(with_reducible refine Ext.drewN ?_ _)|(refine Ext.trans ?_ (by with_reducible assumption))))⟩
     ·(try have hwr:IntKind.i64.wrap (f+1)=f+1:=IntWalk.i64_in _ (by omega))
      go_enter Tryd.func46,Tryd.ntmps46
      go_wp2_with go_in
      go_ret
      exact⟨ret_bool (by simp[bookOk];omega),by(repeat' (first|exact Ext.refl _|(with_reducible assumption)|(with_reducible refine Ext.alloc ?_ _)|(with_reducible refine Ext.setCell ?_ (by first|exact Nat.le_refl _|(dsimp only;omega)|(simp;done)|(simp;omega)) _)|(with_reducible refine Ext.drew ?_)|(with_reducible refine Ext.drewN ?_ _)|(refine Ext.trans ?_ (by with_reducible assumption))))⟩
    ·(try have hwr:IntKind.i64.wrap (f+1)=f+1:=IntWalk.i64_in _ (by omega))
     go_enter Tryd.func46,Tryd.ntmps46
     go_wp2_with go_in
     go_ret
     exact⟨ret_bool (by simp[bookOk];omega),by(repeat' (first|exact Ext.refl _|(with_reducible assumption)|(with_reducible refine Ext.alloc ?_ _)|(with_reducible refine Ext.setCell ?_ (by first|exact Nat.le_refl _|(dsimp only;omega)|(simp;done)|(simp;omega)) _)|(with_reducible refine Ext.drew ?_)|(with_reducible refine Ext.drewN ?_ _)|(refine Ext.trans ?_ (by with_reducible assumption))))⟩
   ·(try have hwr:IntKind.i64.wrap (f+1)=f+1:=IntWalk.i64_in _ (by omega))
    go_enter Tryd.func46,Tryd.ntmps46
    go_wp2_with go_in
    go_ret
    exact⟨ret_bool (by simp[bookOk];omega),by(repeat' (first|exact Ext.refl _|(with_reducible assumption)|(with_reducible refine Ext.alloc ?_ _)|(with_reducible refine Ext.setCell ?_ (by first|exact Nat.le_refl _|(dsimp only;omega)|(simp;done)|(simp;omega)) _)|(with_reducible refine Ext.drew ?_)|(with_reducible refine Ext.drewN ?_ _)|(refine Ext.trans ?_ (by with_reducible assumption))))⟩
  ·(try have hwr:IntKind.i64.wrap (f+1)=f+1:=IntWalk.i64_in _ (by omega))
   go_enter Tryd.func46,Tryd.ntmps46
   go_wp2_with go_in
   go_ret
   exact⟨ret_bool (by simp[bookOk];omega),by(repeat' (first|exact Ext.refl _|(with_reducible assumption)|(with_reducible refine Ext.alloc ?_ _)|(with_reducible refine Ext.setCell ?_ (by first|exact Nat.le_refl _|(dsimp only;omega)|(simp;done)|(simp;omega)) _)|(with_reducible refine Ext.drew ?_)|(with_reducible refine Ext.drewN ?_ _)|(refine Ext.trans ?_ (by with_reducible assumption))))⟩
 ·(try have hwr:IntKind.i64.wrap (f+1)=f+1:=IntWalk.i64_in _ (by omega))
  go_enter Tryd.func46,Tryd.ntmps46
  go_wp2_with go_in
  go_ret
  exact⟨ret_bool (by simp[bookOk];omega),by(repeat' (first|exact Ext.refl _|(with_reducible assumption)|(with_reducible refine Ext.alloc ?_ _)|(with_reducible refine Ext.setCell ?_ (by first|exact Nat.le_refl _|(dsimp only;omega)|(simp;done)|(simp;omega)) _)|(with_reducible refine Ext.drew ?_)|(with_reducible refine Ext.drewN ?_ _)|(refine Ext.trans ?_ (by with_reducible assumption))))⟩
set_option maxRecDepth 100000 in
set_option maxHeartbeats 1000000 in
theorem implOv (i f t v i2 f2 t2 v2:Int)(w:World):Calls Tryd.prog 37 #[bookV i f t v,bookV i2 f2 t2 v2] w fun e w'=>e= .returned (.bool (overlap (i,f,t,v) (i2,f2,t2,v2)))∧Ext w w':=by
 by_cases c1:f<t2
 ·by_cases c2:f2<t
  ·go_enter Tryd.func37,Tryd.ntmps37
   go_wp2
   go_ret
   exact⟨ret_bool (by simp[overlap];omega),by(repeat' (first|exact Ext.refl _|(with_reducible assumption)|(with_reducible refine Ext.alloc ?_ _)|(with_reducible refine Ext.setCell ?_ (by first|exact Nat.le_refl _|(dsimp only;omega)|(simp;done)|(simp;omega)) _)|(with_reducible refine Ext.drew ?_)|(with_reducible refine Ext.drewN ?_ _)|(refine Ext.trans ?_ (by with_reducible assumption))))⟩
  ·go_enter Tryd.func37,Tryd.ntmps37
   go_wp2
   go_ret
   exact⟨ret_bool (by simp[overlap];omega),by(repeat' (first|exact Ext.refl _|(with_reducible assumption)|(with_reducible refine Ext.alloc ?_ _)|(with_reducible refine Ext.setCell ?_ (by first|exact Nat.le_refl _|(dsimp only;omega)|(simp;done)|(simp;omega)) _)|(with_reducible refine Ext.drew ?_)|(with_reducible refine Ext.drewN ?_ _)|(refine Ext.trans ?_ (by with_reducible assumption))))⟩
 ·go_enter Tryd.func37,Tryd.ntmps37
  go_wp2
  go_ret
  exact⟨ret_bool (by simp[overlap];omega),by(repeat' (first|exact Ext.refl _|(with_reducible assumption)|(with_reducible refine Ext.alloc ?_ _)|(with_reducible refine Ext.setCell ?_ (by first|exact Nat.le_refl _|(dsimp only;omega)|(simp;done)|(simp;omega)) _)|(with_reducible refine Ext.drew ?_)|(with_reducible refine Ext.drewN ?_ _)|(refine Ext.trans ?_ (by with_reducible assumption))))⟩
set_option maxRecDepth 100000 in
set_option maxHeartbeats 1000000 in
theorem specOv (i f t v i2 f2 t2 v2:Int)(w:World):Calls Tryd.prog 88 #[bookV i f t v,bookV i2 f2 t2 v2] w fun e w'=>e= .returned (.bool (overlap (i,f,t,v) (i2,f2,t2,v2)))∧Ext w w':=by
 by_cases c1:f<t2
 ·by_cases c2:f2<t
  ·go_enter Tryd.func88,Tryd.ntmps88
   go_wp2
   go_ret
   exact⟨ret_bool (by simp[overlap];omega),by(repeat' (first|exact Ext.refl _|(with_reducible assumption)|(with_reducible refine Ext.alloc ?_ _)|(with_reducible refine Ext.setCell ?_ (by first|exact Nat.le_refl _|(dsimp only;omega)|(simp;done)|(simp;omega)) _)|(with_reducible refine Ext.drew ?_)|(with_reducible refine Ext.drewN ?_ _)|(refine Ext.trans ?_ (by with_reducible assumption))))⟩
  ·go_enter Tryd.func88,Tryd.ntmps88
   go_wp2
   go_ret
   exact⟨ret_bool (by simp[overlap];omega),by(repeat' (first|exact Ext.refl _|(with_reducible assumption)|(with_reducible refine Ext.alloc ?_ _)|(with_reducible refine Ext.setCell ?_ (by first|exact Nat.le_refl _|(dsimp only;omega)|(simp;done)|(simp;omega)) _)|(with_reducible refine Ext.drew ?_)|(with_reducible refine Ext.drewN ?_ _)|(refine Ext.trans ?_ (by with_reducible assumption))))⟩
 ·go_enter Tryd.func88,Tryd.ntmps88
  go_wp2
  go_ret
  exact⟨ret_bool (by simp[overlap];omega),by(repeat' (first|exact Ext.refl _|(with_reducible assumption)|(with_reducible refine Ext.alloc ?_ _)|(with_reducible refine Ext.setCell ?_ (by first|exact Nat.le_refl _|(dsimp only;omega)|(simp;done)|(simp;omega)) _)|(with_reducible refine Ext.drew ?_)|(with_reducible refine Ext.drewN ?_ _)|(refine Ext.trans ?_ (by with_reducible assumption))))⟩
set_option maxRecDepth 100000 in
set_option maxHeartbeats 1000000 in
theorem idxBook_any (B:Nat)(q:Option Addr)(m c2:Nat)(vs:List Visit4)(id:Int)(w:World)(hS:Sl w q m c2 4 (vs.flatMap visitCells))(hB:B<w.heap.size)(hc:w.cell? ⟨B,0,none⟩=some (.int .i64 id)):
  Calls Tryd.prog 69 #[.slice q m c2,.func (.func 70) #[] #[.pointer (some ⟨B,0,none⟩)]] w fun e w'=>e= .returned (.int .i64 (vix id vs))∧Ext w w':=by
 have hn:=hS.bd
 have HS:=Lib.hid hS
 have hl:Hid (vs.length=m):=by
  have:=hS.len;rw[flat_len visitCells 4 (fun _=>rfl)]at this;exact(by omega:vs.length=m)
 clear hS
 go_enter Tryd.func69,Tryd.ntmps69
 go_wp2
 go_loopw [8] (fun i wr=> ∃k:Nat,k≤m∧i= .int .i64 k∧(vs.take k).any (fun v=>v.1==id)=false∧Ext w wr∧w.heap.size≤wr.heap.size∧wr.cell? ⟨B,0,none⟩=some (.int .i64 id)) (fun i _=>m-(intOf i).toNat)
 case atStart=>exact⟨0,Nat.zero_le _,rfl,by simp,by(repeat' (first|exact Ext.refl _|(with_reducible assumption)|(with_reducible refine Ext.alloc ?_ _)|(with_reducible refine Ext.setCell ?_ (by first|exact Nat.le_refl _|(dsimp only;omega)|(simp;done)|(simp;omega)) _)|(with_reducible refine Ext.drew ?_)|(with_reducible refine Ext.drewN ?_ _)|(refine Ext.trans ?_ (by with_reducible assumption)))),by simp,by simpa using hc⟩
 case round=>
  obtain⟨k,hk,rfl,hp,hE,hsz,hcB⟩:=hrel
  have HP:=Lib.hid hp
  clear hp
  by_cases hlt:k<m
  ·obtain⟨b,off,a0,a1,a2,a3,rfl,hv,hb,g0,g1,g2,g3⟩:=visit_at (HS.out.ext hE) hlt
   have HV:=Lib.hid hv
   clear hv
   have hcB2:(wr.alloc (.cells #[.int .i64 a0,.int .i64 a1,.int .i64 a2,.int .i64 a3] 30)).cell? ⟨B,0,none⟩=some (.int .i64 id):=by rw[((Ext.refl wr).alloc _).cells.1 _ _ (by omega)];exact hcB
   by_cases t:a0=id
   ·have q0:(a0==id)=true:=by simp[t]
    have hfin:Hid (vix id vs=k):=vix_hit HV.out t HP.out
    clear t
    go_wp2_with go_in
    go_ret
    exact⟨by rw[hfin.out];rfl,by(repeat' (first|exact Ext.refl _|(with_reducible assumption)|(with_reducible refine Ext.alloc ?_ _)|(with_reducible refine Ext.setCell ?_ (by first|exact Nat.le_refl _|(dsimp only;omega)|(simp;done)|(simp;omega)) _)|(with_reducible refine Ext.drew ?_)|(with_reducible refine Ext.drewN ?_ _)|(refine Ext.trans ?_ (by with_reducible assumption))))⟩
   ·have q0:(a0==id)=false:=by simp[t]
    have hfin:Hid ((vs.take (k+1)).any (fun v=>v.1==id)=false):=any_snoc HV.out t HP.out
    clear t
    go_wp2_with go_in
    go_roundw
    case rel=>exact⟨k+1,by omega,by go_num,hfin.out,by(repeat' (first|exact Ext.refl _|(with_reducible assumption)|(with_reducible refine Ext.alloc ?_ _)|(with_reducible refine Ext.setCell ?_ (by first|exact Nat.le_refl _|(dsimp only;omega)|(simp;done)|(simp;omega)) _)|(with_reducible refine Ext.drew ?_)|(with_reducible refine Ext.drewN ?_ _)|(refine Ext.trans ?_ (by with_reducible assumption)))),by simp;omega,hcB2⟩
    case measure=>simp[intOf];omega
  ·have hfin:Hid (vix id vs= -1):=vix_miss (by have:=HP.out;rwa[List.take_of_length_le (by rw[hl.out];omega)]at this)
   go_wp2
   go_ret
   exact⟨by rw[hfin.out];rfl,by(repeat' (first|exact Ext.refl _|(with_reducible assumption)|(with_reducible refine Ext.alloc ?_ _)|(with_reducible refine Ext.setCell ?_ (by first|exact Nat.le_refl _|(dsimp only;omega)|(simp;done)|(simp;omega)) _)|(with_reducible refine Ext.drew ?_)|(with_reducible refine Ext.drewN ?_ _)|(refine Ext.trans ?_ (by with_reducible assumption))))⟩
set_option maxRecDepth 100000 in
set_option maxHeartbeats 1000000 in
theorem bookIndex_any (id:Int)(q:Option Addr)(m c2:Nat)(vs:List Visit4)(w:World)(hS:Sl w q m c2 4 (vs.flatMap visitCells)):
  Calls Tryd.prog 42 #[.slice q m c2,.int .i64 id] w fun e w'=>e= .returned (.int .i64 (vix id vs))∧Ext w w':=by
 have HI:Hid (∀w1 B,Ext w w1→B<w1.heap.size→w1.cell? ⟨B,0,none⟩=some (.int .i64 id)→Calls Tryd.prog 69 #[.slice q m c2,.func (.func 70) #[] #[.pointer (some ⟨B,0,none⟩)]] w1 fun e w'=>e= .returned (.int .i64 (vix id vs))∧Ext w1 w'):=
  fun w1 B hx hB hc=>idxBook_any B q m c2 vs id w1 (hS.ext hx) hB hc
 clear hS
 go_enter Tryd.func42,Tryd.ntmps42
 go_wp2_with fail
 refine(HI.out _ _ (by(repeat' (first|exact Ext.refl _|(with_reducible assumption)|(with_reducible refine Ext.alloc ?_ _)|(with_reducible refine Ext.setCell ?_ (by first|exact Nat.le_refl _|(dsimp only;omega)|(simp;done)|(simp;omega)) _)|(with_reducible refine Ext.drew ?_)|(with_reducible refine Ext.drewN ?_ _)|(refine Ext.trans ?_ (by with_reducible assumption))))) (by simp) (by simp)).mono ?_
 rintro e w1 ⟨rfl,h1⟩
 go_wp2
 go_ret
 exact⟨rfl,by(repeat' (first|exact Ext.refl _|(with_reducible assumption)|(with_reducible refine Ext.alloc ?_ _)|(with_reducible refine Ext.setCell ?_ (by first|exact Nat.le_refl _|(dsimp only;omega)|(simp;done)|(simp;omega)) _)|(with_reducible refine Ext.drew ?_)|(with_reducible refine Ext.drewN ?_ _)|(refine Ext.trans ?_ (by with_reducible assumption))))⟩
set_option maxRecDepth 100000 in
set_option maxHeartbeats 1000000 in
theorem l6Find_any (id:Int)(q:Option Addr)(m c2:Nat)(vs:List Visit4)(w:World)(hS:Sl w q m c2 4 (vs.flatMap visitCells)):
  Calls Tryd.prog 47 #[.slice q m c2,.int .i64 id] w fun e w'=>e= .returned (.int .i64 (vix id vs))∧Ext w w':=by
 have hn:=hS.bd
 have HS:=Lib.hid hS
 have hl:Hid (vs.length=m):=by
  have:=hS.len;rw[flat_len visitCells 4 (fun _=>rfl)]at this;exact(by omega:vs.length=m)
 clear hS
 go_enter Tryd.func47,Tryd.ntmps47
 go_wp2
 go_loop [5] (fun i=> ∃k:Nat,k≤m∧i= .int .i64 k∧(vs.take k).any (fun v=>v.1==id)=false) (fun i=>m-(intOf i).toNat)
 case atStart=>exact⟨0,Nat.zero_le _,rfl,by simp⟩
 case round=>
  obtain⟨k,hk,rfl,hp⟩:=hrel
  have HP:=Lib.hid hp
  clear hp
  by_cases hlt:k<m
  ·obtain⟨b,off,a0,a1,a2,a3,rfl,hv,hb,g0,g1,g2,g3⟩:=visit_at HS.out hlt
   have HV:=Lib.hid hv
   clear hv
   by_cases t:a0=id
   ·have q0:(a0==id)=true:=by simp[t]
    have hfin:Hid (vix id vs=k):=vix_hit HV.out t HP.out
    clear t
    go_wp2
    go_ret
    exact⟨by rw[hfin.out];rfl,by(repeat' (first|exact Ext.refl _|(with_reducible assumption)|(with_reducible refine Ext.alloc ?_ _)|(with_reducible refine Ext.setCell ?_ (by first|exact Nat.le_refl _|(dsimp only;omega)|(simp;done)|(simp;omega)) _)|(with_reducible refine Ext.drew ?_)|(with_reducible refine Ext.drewN ?_ _)|(refine Ext.trans ?_ (by with_reducible assumption))))⟩
   ·have q0:(a0==id)=false:=by simp[t]
    have hfin:Hid ((vs.take (k+1)).any (fun v=>v.1==id)=false):=any_snoc HV.out t HP.out
    clear t
    go_wp2
    go_round
    case rel=>exact⟨k+1,by omega,by go_num,hfin.out⟩
    case measure=>simp[intOf];omega
  ·have hfin:Hid (vix id vs= -1):=vix_miss (by have:=HP.out;rwa[List.take_of_length_le (by rw[hl.out];omega)]at this)
   go_wp2
   go_ret
   exact⟨by rw[hfin.out];rfl,by(repeat' (first|exact Ext.refl _|(with_reducible assumption)|(with_reducible refine Ext.alloc ?_ _)|(with_reducible refine Ext.setCell ?_ (by first|exact Nat.le_refl _|(dsimp only;omega)|(simp;done)|(simp;omega)) _)|(with_reducible refine Ext.drew ?_)|(with_reducible refine Ext.drewN ?_ _)|(refine Ext.trans ?_ (by with_reducible assumption))))⟩
end Go.Proofs.YtndcnflchkfaeaaDoor

namespace Go.Proofs.YtndcnflchkfaeaaDoor
open Go.RowKit
set_option linter.unusedVariables false
set_option linter.unusedSimpArgs false
theorem booksAt_snoc {bs:List Visit4}{k:Nat}{b:Visit4}(h:bs[k]? =some b) (t:Int):booksAt (bs.take (k+1)) t=booksAt (bs.take k) t+(if inHour t b then 1 else 0):=by
 rw[take_snocL h,booksAt_append,booksAt_cons]
 have:booksAt [] t=0:=rfl
 omega
theorem noBook_any {id:Int}{bs:List Visit4}:noBook id bs=true↔bs.any (fun v=>v.1==id)=false:=by simp[noBook]
theorem vix_neg {id:Int}{bs:List Visit4}(h:noBook id bs=true):vix id bs= -1:=vix_miss (noBook_any.1 h)
theorem vix_pos {id:Int}{bs:List Visit4}(h:noBook id bs=false): ∃k:Nat,k<bs.length∧vix id bs=k∧idxOf id bs=some k:=by
 have ha:bs.any (fun v=>v.1==id)=true:=by simpa[noBook]using h
 have hlt:bs.findIdx (fun v=>v.1==id)<bs.length:=List.findIdx_lt_length.2 (by simpa using ha)
 exact⟨bs.findIdx (fun v=>v.1==id),hlt,by unfold vix;rw[if_pos ha],by unfold idxOf;rw[List.findIdx?_eq_some_iff_findIdx_eq];exact⟨hlt,rfl⟩⟩
theorem idx_none {id:Int}{bs:List Visit4}(h:noBook id bs=true):idxOf id bs=none:=by
 unfold idxOf
 rw[List.findIdx?_eq_none_iff]
 intro x hx
 have:=List.any_eq_false.1 (noBook_any.1 h) x hx
 simpa using this
theorem vix_self {bs:List Visit4}{k:Nat}{b:Visit4}(h:bs[k]? =some b) (hn:noBook b.1 (bs.take k)=true):vix b.1 bs=k:=vix_hit h rfl (noBook_any.1 hn)
theorem vix_early {bs:List Visit4}{k:Nat}{id:Int}(hn:noBook id (bs.take k)=false):vix id bs<k∧0≤vix id bs:=by
 have ha:(bs.take k).any (fun v=>v.1==id)=true:=by simpa[noBook]using hn
 obtain⟨x,hx,hq⟩:=List.any_eq_true.1 ha
 have ha2:bs.any (fun v=>v.1==id)=true:=List.any_eq_true.2 ⟨x,List.mem_of_mem_take hx,hq⟩
 obtain⟨j,hj,e⟩:=List.mem_take_iff_getElem.1 hx
 have hlt:bs.findIdx (fun v=>v.1==id)<k:=by
  apply Decidable.byContradiction
  intro hc
  have:=List.not_of_lt_findIdx (p:=fun v:Visit4=>v.1==id) (xs:=bs) (i:=j) (by omega)
  rw[e]at this
  simp[this]at hq
 unfold vix
 rw[if_pos ha2]
 omega
theorem ins_exit {f:Nat→Int}{i:Nat}{A B:List Nat}(hp:(A++B).Perm (List.range i))(hs:(A++B).Pairwise (lexLt f))(hb: ∀b∈B,f i<f b)(ha:A= []∨ ∃A2 x,A=A2++ [x]∧f x≤f i):
  (A++i::B).Perm (List.range (i+1))∧(A++i::B).Pairwise (lexLt f):=by
 constructor
 ·rw[List.range_succ]
  exact List.perm_middle.trans ((hp.cons i).trans (List.perm_append_singleton i _).symm)
 ·have hs2:=List.pairwise_append.1 hs
  rw[List.pairwise_append,List.pairwise_cons]
  refine⟨hs2.1,⟨fun b hb'=> .inl (hb b hb'),hs2.2.1⟩,?_⟩
  intro a haA y hy
  rcases List.mem_cons.1 hy with rfl|hy
  ·have hai:a<y:=List.mem_range.1 (hp.mem_iff.1 (List.mem_append_left _ haA))
   rcases ha with rfl|⟨A2,x,rfl,hx⟩
   ·simp at haA
   ·rcases List.mem_append.1 haA with h|h
    ·have:=(List.pairwise_append.1 hs2.1).2.2 a h x (by simp)
     rcases this with h1|⟨h1,h2⟩
     ·exact .inl (by omega)
     ·by_cases h3:f x=f y
      ·exact .inr ⟨by omega,hai⟩
      ·exact .inl (by omega)
    ·obtain rfl:=List.mem_singleton.1 h
     by_cases h3:f a=f y
     ·exact .inr ⟨h3,hai⟩
     ·exact .inl (by omega)
  ·exact hs2.2.2 a haA y hy
theorem ins_done {f:Nat→Int}{n H:Nat}{A:List Nat}(hf: ∀k,k<n→0≤f k∧f k<H)(hp:A.Perm (List.range n))(hs:A.Pairwise (lexLt f)):A=byKey f n H:=byKey_uniq f n H hf hp hs
theorem insb_exit {A B:List Visit4}{x:Visit4}{L:List Visit4}(hp:(A++B).Perm L)(hs:(A++B).Pairwise (fun a b=>a.1<b.1))(hne: ∀y∈L,y.1≠x.1)(hb: ∀b∈B,x.1<b.1)(ha:A= []∨ ∃A2 y,A=A2++ [y]∧y.1≤x.1):
  (A++x::B).Perm (L++ [x])∧(A++x::B).Pairwise (fun a b=>a.1<b.1):=by
 constructor
 ·exact List.perm_middle.trans ((hp.cons x).trans (List.perm_append_singleton x _).symm)
 ·have hs2:=List.pairwise_append.1 hs
  rw[List.pairwise_append,List.pairwise_cons]
  refine⟨hs2.1,⟨hb,hs2.2.1⟩,?_⟩
  intro a haA y hy
  rcases List.mem_cons.1 hy with rfl|hy
  ·have hna:=hne a (hp.mem_iff.1 (List.mem_append_left _ haA))
   rcases ha with rfl|⟨A2,z,rfl,hz⟩
   ·simp at haA
   ·rcases List.mem_append.1 haA with h|h
    ·have:=(List.pairwise_append.1 hs2.1).2.2 a h z (by simp)
     omega
    ·obtain rfl:=List.mem_singleton.1 h
     omega
  ·exact hs2.2.2 a haA y hy
theorem insb_done {A T:List Visit4}{b:Visit4}(hp:A.Perm (T++ [b]))(hs:A.Pairwise (fun a b=>a.1<b.1))(hup:(T.map (·.1)).Pairwise (·< ·))(hne: ∀c∈T,b.1≠c.1):A=putBook T b:=by
 have h2:=List.pairwise_map.1 (put_up hup hne)
 exact List.Perm.eq_of_pairwise (fun a b _ _ h1 h2=>by omega) hs h2 (hp.trans (put_perm T b).symm)
theorem range'_step {i n:Nat}(h:i<n):List.range' i (n-i)=i::List.range' (i+1) (n-(i+1)):=by
 obtain⟨d,rfl⟩: ∃d,n=i+(d+1):=⟨n-i-1,by omega⟩
 rw[show i+(d+1)-i=d+1 by omega,show i+(d+1)-(i+1)=d by omega,List.range'_succ]
theorem swap_at {α:Type}(A B:List α)(x y:α):((A++x::y::B).set (A.length+1) x).set A.length y=A++y::x::B:=by
 induction A with
 |nil=>rfl
 |cons a A ih=>simp
theorem list_end {α:Type}(A:List α):A= []∨ ∃A2 x,A=A2++ [x]:=by
 rcases List.eq_nil_or_concat A with h|⟨A2,x,h⟩
 ·exact .inl h
 ·exact .inr ⟨A2,x,by simpa using h⟩
end Go.Proofs.YtndcnflchkfaeaaDoor

