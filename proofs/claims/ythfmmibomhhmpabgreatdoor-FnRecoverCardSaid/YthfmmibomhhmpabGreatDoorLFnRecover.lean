/-
  A law's walk or frame (@packed).
-/
import Derived.Deep.DeepHandedRow
import Derived.Lib.LaidTab
import Derived.Lib.SmallJoins
import Derived.OpenShut
import Derived.ProofKit
import Derived.ShutString
import Derived.Stop.LaidErr
import Derived.Test.YthfmmibomhhmpabGreatDoorCards
import Derived.Test.YthfmmibomhhmpabGreatDoorTie
import Derived.WalkKit
import Derived.Test.YthfmmibomhhmpabGreatDoorZ1
import Derived.Test.YthfmmibomhhmpabGreatDoorZ2
import Derived.Test.YthfmmibomhhmpabGreatDoorZ4
import Derived.Test.YthfmmibomhhmpabGreatDoorZ5
import Derived.Test.YthfmmibomhhmpabGreatDoorZ19
import Derived.Test.YthfmmibomhhmpabGreatDoorZ20
import Derived.Test.YthfmmibomhhmpabGreatDoorZ23
import Derived.Test.YthfmmibomhhmpabGreatDoorW62
namespace Go.Proofs.YthfmmibomhhmpabGreatDoor.fnRecover
open Go.ChangeShapes Go.WideShapes Go.ChangeAt Go.RowKit
open Go.ChangeMaps (open_string shut_string)
set_option linter.unusedVariables false
theorem own:ownKnob Tryz.prog.godebug=none:=by kernel_rfl
theorem laidOut:laidOutB Tryz.prog=true:=by kernel_rfl
theorem bitOf {W:World}(h:laidMetH Tryz.prog Rows.fnRecoverRow.laid W):BitTab W:=
 Lib.tabIs_of_head (rest:=_) aVc (t:=224) (by kernel_rfl) Tryz.underlying224 Tryz.underlying5 (by kernel_rfl) (by kernel_rfl) ((show laidMet Tryz.prog Rows.fnRecoverRow.laid W from h)).tail
theorem tabOf {W:World}(h:laidMetH Tryz.prog Rows.fnRecoverRow.laid W):Lib.TabIs Tryz.prog W "internal/strconv.uint64pow10" .u64 Lib.pow10Tab:=
 Lib.tabIs_of_head (rest:=_) aVo (t:=203) (by kernel_rfl) Tryz.underlying203 Tryz.underlying175 (by kernel_rfl) (by kernel_rfl) (((show laidMet Tryz.prog Rows.fnRecoverRow.laid W from h)).tail).tail
set_option maxRecDepth 100000 in
theorem contract (H:Type)(enc:TypeId×Value→H)(W:World)(base:Nat)(args:Array Value)(ds gs:List (DataW H))(before:List MemPlace)
  (hval: ∀(j:Nat) t v,Tryz.f3.params[j]? =some t→args[j]? =some v→Value.okWide Tryz.prog W .any base t v)
  (hW:DataW.Whole enc Tryz.prog Tryz.f3.params.toList Rows.fnRecoverSpec.vars false W args.toList ds gs before) (hL:laidMetH Tryz.prog Rows.fnRecoverRow.laid W) (hS:W.ShapedOpen Tryz.prog):
  Calls Tryz.prog 3 args W fun e W'=> ∃v,e= .returned v∧Rows.fnRecoverSpec.post enc Tryz.prog Tryz.f3 false true false false W args v W':=by
 have hW':=hW;obtain⟨p,q,hA0,hV,rfl,hfz,hnd⟩:=hW;have hA:DataW.TrodAll enc Tryz.prog W 0 (fun _=>true) true Tryz.f3.params.toList args.toList ds p:=hA0;rw[Tryz.params3]at hA hval;obtain⟨v0,vs0,d0,ds0,p0,q0,hargs,rfl,rfl,h0,r0⟩:=trodAll_cons hA;obtain⟨v1,vs1,d1,ds1,p1,q1,rfl,rfl,rfl,h1,r1⟩:=trodAll_cons r0;obtain⟨rfl,rfl,rfl⟩:=trodAll_nil r1;obtain rfl:args=#[v0,v1]:=by cases args;simp_all
 obtain⟨rfl,rfl⟩:=trodVars_none hV;have k0:=h0;have lt0: ∀x∈p0,x.block<W.heap.size:=by obtain⟨m,hm⟩:=k0;exact DataW.trod_lt m _ _ _ hm
 obtain⟨y0,f0⟩:=aOe (hval 0 22 v0 rfl rfl) h0;have k1:=h1;have lt1: ∀x∈p1,x.block<W.heap.size:=by obtain⟨m,hm⟩:=k1;exact DataW.trod_lt m _ _ _ hm
 obtain⟨y1,f1⟩:=aOe (hval 1 22 v1 rfl rfl) h1;refine(walk_FnRecover (W:=W) v0 y0 f0 v1 y1 f1 (Env.start (tabOf hL) hS) (bitOf hL)).mono fun e W' ⟨he,bel⟩=> ?_
 subst he;exact⟨_,rfl,_,_,_,[],_,[],hW',trodAll_mk1 (shut_bool Tryz.underlying4 _),(trodAll_cons_mk (Below.trod laidOut (by kernel_rfl) (of_decide_eq_true (by kernel_rfl)) k0 bel lt0) (trodAll_cons_mk (Below.trod laidOut (by kernel_rfl) (of_decide_eq_true (by kernel_rfl)) k1 bel lt1) trodAll_mk0)),rfl,bel.frame _,fun h=>by cases h⟩
noncomputable def laidWorld (os:Os):World:=
 {World.holding Tryz.prog os ⟨#[],#[],[]⟩with heap:=((((((World.holding Tryz.prog os ⟨#[],#[],[]⟩).heap.modify 2 fun
   | .cells _ t frozen=> .cells #[.int .u8 0,.int .u8 1,.int .u8 28,.int .u8 2,.int .u8 29,.int .u8 14,.int .u8 24,.int .u8 3,.int .u8 30,.int .u8 22,.int .u8 20,.int .u8 15,.int .u8 25,.int .u8 17,.int .u8 4,.int .u8 8,.int .u8 31,.int .u8 27,.int .u8 13,.int .u8 23,.int .u8 21,.int .u8 19,.int .u8 16,.int .u8 7,.int .u8 26,.int .u8 12,.int .u8 18,.int .u8 6,.int .u8 11,.int .u8 5,.int .u8 10,.int .u8 9] t frozen
   |o=>o).modify 3 fun
   | .cells _ t frozen=> .cells #[.int .u8 0,.int .u8 1,.int .u8 56,.int .u8 2,.int .u8 57,.int .u8 49,.int .u8 28,.int .u8 3,.int .u8 61,.int .u8 58,.int .u8 42,.int .u8 50,.int .u8 38,.int .u8 29,.int .u8 17,.int .u8 4,.int .u8 62,.int .u8 47,.int .u8 59,.int .u8 36,.int .u8 45,.int .u8 43,.int .u8 51,.int .u8 22,.int .u8 53,.int .u8 39,.int .u8 33,.int .u8 30,.int .u8 24,.int .u8 18,.int .u8 12,.int .u8 5,.int .u8 63,.int .u8 55,.int .u8 48,.int .u8 27,.int .u8 60,.int .u8 41,.int .u8 37,.int .u8 16,.int .u8 46,.int .u8 35,.int .u8 44,.int .u8 21,.int .u8 52,.int .u8 32,.int .u8 23,.int .u8 11,.int .u8 54,.int .u8 26,.int .u8 40,.int .u8 15,.int .u8 34,.int .u8 20,.int .u8 31,.int .u8 10,.int .u8 25,.int .u8 14,.int .u8 19,.int .u8 9,.int .u8 13,.int .u8 8,.int .u8 7,.int .u8 6] t frozen
   |o=>o).modify 1 fun
   | .cells _ t frozen=> .cells #[.int .u64 1,.int .u64 10,.int .u64 100,.int .u64 1000,.int .u64 10000,.int .u64 100000,.int .u64 1000000,.int .u64 10000000,.int .u64 100000000,.int .u64 1000000000,.int .u64 10000000000,.int .u64 100000000000,.int .u64 1000000000000,.int .u64 10000000000000,.int .u64 100000000000000,.int .u64 1000000000000000,.int .u64 10000000000000000,.int .u64 100000000000000000,.int .u64 1000000000000000000,.int .u64 10000000000000000000] t frozen
   |o=>o).modify 5 fun
   | .cells _ t frozen=> .cells #[.int .u8 128,.int .u8 191,.int .u8 160,.int .u8 191,.int .u8 128,.int .u8 159,.int .u8 144,.int .u8 191,.int .u8 128,.int .u8 143,.int .u8 0,.int .u8 0,.int .u8 0,.int .u8 0,.int .u8 0,.int .u8 0,.int .u8 0,.int .u8 0,.int .u8 0,.int .u8 0,.int .u8 0,.int .u8 0,.int .u8 0,.int .u8 0,.int .u8 0,.int .u8 0,.int .u8 0,.int .u8 0,.int .u8 0,.int .u8 0,.int .u8 0,.int .u8 0] t frozen
   |o=>o).modify 4 fun
   | .cells _ t frozen=> .cells #[.int .u8 240,.int .u8 240,.int .u8 240,.int .u8 240,.int .u8 240,.int .u8 240,.int .u8 240,.int .u8 240,.int .u8 240,.int .u8 240,.int .u8 240,.int .u8 240,.int .u8 240,.int .u8 240,.int .u8 240,.int .u8 240,.int .u8 240,.int .u8 240,.int .u8 240,.int .u8 240,.int .u8 240,.int .u8 240,.int .u8 240,.int .u8 240,.int .u8 240,.int .u8 240,.int .u8 240,.int .u8 240,.int .u8 240,.int .u8 240,.int .u8 240,.int .u8 240,.int .u8 240,.int .u8 240,.int .u8 240,.int .u8 240,.int .u8 240,.int .u8 240,.int .u8 240,.int .u8 240,.int .u8 240,.int .u8 240,.int .u8 240,.int .u8 240,.int .u8 240,.int .u8 240,.int .u8 240,.int .u8 240,.int .u8 240,.int .u8 240,.int .u8 240,.int .u8 240,.int .u8 240,.int .u8 240,.int .u8 240,.int .u8 240,.int .u8 240,.int .u8 240,.int .u8 240,.int .u8 240,.int .u8 240,.int .u8 240,.int .u8 240,.int .u8 240,.int .u8 240,.int .u8 240,.int .u8 240,.int .u8 240,.int .u8 240,.int .u8 240,.int .u8 240,.int .u8 240,.int .u8 240,.int .u8 240,.int .u8 240,.int .u8 240,.int .u8 240,.int .u8 240,.int .u8 240,.int .u8 240,.int .u8 240,.int .u8 240,.int .u8 240,.int .u8 240,.int .u8 240,.int .u8 240,.int .u8 240,.int .u8 240,.int .u8 240,.int .u8 240,.int .u8 240,.int .u8 240,.int .u8 240,.int .u8 240,.int .u8 240,.int .u8 240,.int .u8 240,.int .u8 240,.int .u8 240,.int .u8 240,.int .u8 240,.int .u8 240,.int .u8 240,.int .u8 240,.int .u8 240,.int .u8 240,.int .u8 240,.int .u8 240,.int .u8 240,.int .u8 240,.int .u8 240,.int .u8 240,.int .u8 240,.int .u8 240,.int .u8 240,.int .u8 240,.int .u8 240,.int .u8 240,.int .u8 240,.int .u8 240,.int .u8 240,.int .u8 240,.int .u8 240,.int .u8 240,.int .u8 240,.int .u8 240,.int .u8 240,.int .u8 240,.int .u8 241,.int .u8 241,.int .u8 241,.int .u8 241,.int .u8 241,.int .u8 241,.int .u8 241,.int .u8 241,.int .u8 241,.int .u8 241,.int .u8 241,.int .u8 241,.int .u8 241,.int .u8 241,.int .u8 241,.int .u8 241,.int .u8 241,.int .u8 241,.int .u8 241,.int .u8 241,.int .u8 241,.int .u8 241,.int .u8 241,.int .u8 241,.int .u8 241,.int .u8 241,.int .u8 241,.int .u8 241,.int .u8 241,.int .u8 241,.int .u8 241,.int .u8 241,.int .u8 241,.int .u8 241,.int .u8 241,.int .u8 241,.int .u8 241,.int .u8 241,.int .u8 241,.int .u8 241,.int .u8 241,.int .u8 241,.int .u8 241,.int .u8 241,.int .u8 241,.int .u8 241,.int .u8 241,.int .u8 241,.int .u8 241,.int .u8 241,.int .u8 241,.int .u8 241,.int .u8 241,.int .u8 241,.int .u8 241,.int .u8 241,.int .u8 241,.int .u8 241,.int .u8 241,.int .u8 241,.int .u8 241,.int .u8 241,.int .u8 241,.int .u8 241,.int .u8 241,.int .u8 241,.int .u8 2,.int .u8 2,.int .u8 2,.int .u8 2,.int .u8 2,.int .u8 2,.int .u8 2,.int .u8 2,.int .u8 2,.int .u8 2,.int .u8 2,.int .u8 2,.int .u8 2,.int .u8 2,.int .u8 2,.int .u8 2,.int .u8 2,.int .u8 2,.int .u8 2,.int .u8 2,.int .u8 2,.int .u8 2,.int .u8 2,.int .u8 2,.int .u8 2,.int .u8 2,.int .u8 2,.int .u8 2,.int .u8 2,.int .u8 2,.int .u8 19,.int .u8 3,.int .u8 3,.int .u8 3,.int .u8 3,.int .u8 3,.int .u8 3,.int .u8 3,.int .u8 3,.int .u8 3,.int .u8 3,.int .u8 3,.int .u8 3,.int .u8 35,.int .u8 3,.int .u8 3,.int .u8 52,.int .u8 4,.int .u8 4,.int .u8 4,.int .u8 68,.int .u8 241,.int .u8 241,.int .u8 241,.int .u8 241,.int .u8 241,.int .u8 241,.int .u8 241,.int .u8 241,.int .u8 241,.int .u8 241,.int .u8 241] t frozen
   |o=>o)}
set_option maxRecDepth 100000 in
theorem laid_met (os:Os):laidMet Tryz.prog Rows.fnRecoverRow.laid ((laidWorld os).forCall (fun _ _=>0) ⟨#[],#[.slice none 0 0,.slice none 0 0],[]⟩).memory:=
 laidMet_of_run' 8 (by kernel_rfl) (by kernel_rfl)
set_option maxRecDepth 100000 in
theorem reads (os:Os){H:Type}(enc:TypeId×Value→H):DataW.whole enc Tryz.prog ((laidWorld os).forCall (fun _ _=>0) ⟨#[],#[.slice none 0 0,.slice none 0 0],[]⟩).memory Tryz.f3.params.toList Rows.fnRecoverSpec.vars false (#[.slice none 0 0,.slice none 0 0]:Array Value).toList 8=some ([.nil,.nil],[],[]):=by kernel_rfl
set_option maxRecDepth 100000 in
theorem lifted (os:Os)(started:os.Started)(H:Type)(enc:TypeId×Value→H)(F:Stop.Interp):
  ReturnsInHanded {} Tryz.checked os 3 .any ((OpenSpec.ofChange Rows.fnRecoverSpec).preRow enc Tryz.prog Tryz.f3 Rows.fnRecoverRow.domain false Rows.fnRecoverRow.laid) (((OpenSpec.ofChange Rows.fnRecoverSpec).at F).post enc Tryz.prog Tryz.f3 false true false false):=by
 have hx:=reads os enc
 refine returnsInHanded_of_row (C:=Tryz.checked) (s:=OpenSpec.ofChange Rows.fnRecoverSpec) own started (by kernel_rfl) Tryz.func3
  (witness_row_at (enc:=enc) (C:=Tryz.checked) false (laidWorld os) #[.slice none 0 0,.slice none 0 0] rfl (by kernel_rfl) (by kernel_rfl) (by kernel_rfl)
   (OpenSpec.preRow_of_cond 8 hx rfl (fun k hk=>by cases hk) (by kernel_rfl) (laid_met os))) ?_
 intro W base args ds gs before hval hW _ _ _ hL hS _;exact contract H enc W base args ds gs before hval hW hL hS
theorem andT {a b:Bool}(ha:a=true)(hb:b=true):(a&&b)=true:=by rw[ha,hb];rfl
set_option maxRecDepth 100000 in
set_option maxHeartbeats 100000000 in
theorem closed:joinedFacts Tryz.pinned.checked.prog 3 Tryz.f3 (OpenSpec.ofChange Rows.fnRecoverSpec).bare Rows.fnRecoverRow=true:=by
 unfold joinedFacts
 repeat' (with_reducible refine andT ?_ ?_)
 all_goals (as_aux_lemma=>kernel_rfl)
set_option maxRecDepth 100000 in
theorem said:Rows.FnRecoverSaid:=
 OpenClaim.holds_of_cond 3 Tryz.f3 rfl rfl rfl rfl rfl rfl rfl ⟨rfl,rfl,rfl,rfl,rfl⟩ rfl rfl rfl rfl rfl (by kernel_rfl) Tryz.func3 closed
  (of_decide_eq_true (by kernel_rfl)) (by unfold Func.isWrapper;first|(rw[if_pos (by decide+kernel)];kernel_rfl)|(rw[if_neg (by decide+kernel)];exact⟨rfl,rfl⟩))
  (fun os started H enc _ F=>by rw[OpenClaim.pre_eq_preRow];exact lifted os started H enc F)
theorem plain (f:FuncId)(fn:Func)(hf:Tryz.pinned.checked.prog.funcNamed "loop.example/parkinghouse/laws.FnRecover" =some f)(hfn:Tryz.pinned.checked.prog.funcs[f]? =some fn):
  false=Tryz.pinned.checked.prog.looks []∧ ∀(j:Nat) t,fn.params[j]? =some t→Tryz.pinned.checked.prog.wantsStandIn t=false:=by
 obtain rfl:f=3:=Option.some.inj ((show Tryz.prog.funcNamed "loop.example/parkinghouse/laws.FnRecover" =some 3 by kernel_rfl).symm.trans hf) |>.symm;obtain rfl:fn=Tryz.f3:=(Option.some.inj (Tryz.func3.symm.trans hfn)).symm;refine⟨by kernel_rfl,fun j t ht=> ?_⟩;rw[Tryz.params3]at ht;have ht':t∈ [22,22]:=by simpa using Array.mem_of_getElem? ht
 have hall: ∀t∈ [22,22],Tryz.prog.wantsStandIn t=false:=by intro t ht;simp only[List.mem_cons,List.not_mem_nil,or_false]at ht;rcases ht with rfl|rfl<;>kernel_rfl
 exact hall t ht'
theorem card:Rows.FnRecoverCardSaid:=
 Claim7.holds_tied_plain_at .later [] _ _ _ _ said (fun _ h=>by cases h) (by as_aux_lemma=>kernel_rfl) (fun _ h=>by cases h) fnRecover_row_tie rfl ⟨rfl,rfl⟩ (by as_aux_lemma=>kernel_rfl) rfl plain (by as_aux_lemma=>kernel_rfl)
#print axioms card
end Go.Proofs.YthfmmibomhhmpabGreatDoor.fnRecover
