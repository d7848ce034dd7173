/-
  Texts of this proof, packed (@packed).
-/
import Derived.Test.YtpelpnfhbepokaaGreatDoorU3
import Derived.Test.YtpelpnfhbepokaaGreatDoorU7
import Derived.Test.YtpelpnfhbepokaaGreatDoorU12
import Derived.Test.YtpelpnfhbepokaaGreatDoorU18
import Derived.Test.YtpelpnfhbepokaaGreatDoorU19
namespace Go.Proofs.YtpelpnfhbepokaaGreatDoor
open Go.RowKit
set_option linter.unusedVariables false
set_option maxHeartbeats 8000000
set_option maxRecDepth 100000
def vix (id:Int)(vs:List aQ):Int:=if vs.any (fun v=>v.1==id)then(vs.findIdx (fun v=>v.1==id):Int)else -1
theorem aFo {id:Int}{vs:List aQ}{k:Nat}{v:aQ}(hv:vs[k]? =some v) (h:v.1=id) (hp:(vs.take k).any (fun v=>v.1==id)=false):vix id vs=k:=by
 have a:k<vs.length:=(List.getElem?_eq_some_iff.1 hv).1;have e:vs[k]=v:=by have:=(List.getElem?_eq_some_iff.1 hv).2;exact this
 have ha:vs.any (fun v=>v.1==id)=true:=List.any_eq_true.2 ⟨v,List.mem_of_getElem? hv,by simp[h]⟩;have hi:vs.findIdx (fun v=>v.1==id)=k:=by rw[List.findIdx_eq a];refine⟨by simp[e,h],fun j hj=> ?_⟩;have:=List.any_eq_false.1 hp vs[j] (by rw[List.mem_take_iff_getElem];exact⟨j,by omega,rfl⟩);simpa using this
 unfold vix;rw[if_pos ha,hi]
theorem tZ {id:Int}{vs:List aQ}(hp:vs.any (fun v=>v.1==id)=false):vix id vs= -1:=by unfold vix;simp[hp]
theorem aD9 {id:Int}{vs:List aQ}{k:Nat}{v:aQ}(hv:vs[k]? =some v) (h: ¬v.1=id) (hp:(vs.take k).any (fun v=>v.1==id)=false):(vs.take (k+1)).any (fun v=>v.1==id)=false:=by rw[bI hv,List.any_append,hp];simp[h]
theorem lY (id:Int)(vs:List aQ):(vix id vs= -1∧fA id vs=none)∨ ∃(k:Nat) (a1 a2 a3:Int),k<vs.length∧vix id vs=k∧vs[k]? =some (id,a1,a2,a3)∧fA id vs=some (id,a1,a2,a3):=by
 cases h:vs.any (fun v=>v.1==id)with
 |false=>exact .inl ⟨tZ h,by unfold fA;rw[List.find?_eq_none];simpa using h⟩
 |true=>
  right;have a:vs.findIdx (fun v=>v.1==id)<vs.length:=List.findIdx_lt_length.2 (by simpa using h);have hg:=List.findIdx_getElem (w:=a);have hf:fA id vs=some (vs[vs.findIdx (fun v=>v.1==id)]):=by unfold fA;rw[List.find?_eq_some_iff_getElem];exact⟨hg,_,a,rfl,fun j hj=>by simpa using List.not_of_lt_findIdx hj⟩
  have h0:vs[vs.findIdx (fun v=>v.1==id)].1=id:=by simpa using hg
  generalize hb:vs[vs.findIdx (fun v=>v.1==id)]=v at*;obtain⟨b0,b1,b2,b3⟩:=v;dsimp only at h0;subst h0;exact⟨_,b1,b2,b3,a,by unfold vix;rw[if_pos h],by rw[List.getElem?_eq_getElem a,hb],hf⟩
theorem wR (B:Nat)(q:OA)(m c2:Nat)(vs:List aQ)(id:Int)(w:World)(hS:Sl w q m c2 4 (vs.flatMap aC))(hB:B<w.heap.size)(hc:w.cell? ⟨B,0,none⟩=some (.int .i64 id)):
  Calls Tryz.prog 103 #[.slice q m c2,.func (.func 104) #[] #[.pointer (some ⟨B,0,none⟩)]] w fun e w'=>e= .returned (.int .i64 (vix id vs))∧Ext w w':=by
 have hn:=hS.bd;have HS:=xQ hS;have hl:Hid (vs.length=m):=by have:=hS.len;rw[cX aC 4 (fun _=>rfl)]at this;exact(by omega:vs.length=m)
 clear hS;go_enter Tryz.func103,Tryz.ntmps103;go_wp2;go_loopw [8] (fun i wr=> ∃k:Nat,k≤m∧i= .int .i64 k∧(vs.take k).any (fun v=>v.1==id)=false∧Ext w wr∧w.heap.size≤wr.heap.size∧wr.cell? ⟨B,0,none⟩=some (.int .i64 id)) (fun i _=>m-(intOf i).toNat)
 case atStart=>exact⟨0,Nat.zero_le _,rfl,by simp,by exact .refl _,by simp,by simpa using hc⟩
 case round=>
  obtain⟨k,hk,rfl,hp,hE,f,d⟩:=hrel;have HP:=xQ hp;clear hp;by_cases hlt:k<m
  ·obtain⟨b,g,a0,a1,a2,a3,rfl,hv,hb,g0,g1,g2,g3⟩:=eN (HS.out.ext hE) hlt;have HV:=xQ hv;clear hv;have c:(wr.alloc (.cells #[a0,a1,a2,a3] 76)).cell? ⟨B,0,none⟩=some (.int .i64 id):=by rw[((Ext.refl wr).alloc _).cells.1 _ _ (by omega)];exact d
   by_cases t:a0=id
   ·have q0:(a0==id)=true:=by simp[t]
    have a:Hid (vix id vs=k):=aFo HV t HP.out;clear t;go_wp2_with go_in;go_ret;exact⟨by rw[a.out];rfl,by exact .alloc hE _⟩
   have q0:(a0==id)=false:=by simp[t]
   have a:Hid ((vs.take (k+1)).any (fun v=>v.1==id)=false):=aD9 HV t HP.out;clear t;go_wp2_with go_in;go_roundw
   case rel=>exact⟨k+1,by omega,by go_num,a.out,by exact .alloc hE _,by simp;omega,c⟩
   case measure=>simp[intOf];omega
  have a:Hid (vix id vs= -1):=tZ (by have:=HP.out;rwa[List.take_of_length_le (by rw[hl.out];omega)]at this);go_wp2;go_ret;exact⟨by rw[a.out];rfl,by exact hE⟩
theorem iU (aA aB a b aE aG aD aF id:Int)(p:OA)(n cap:Nat)(q:OA)(m c2:Nat)(vs:List aQ)(w:World)(hS:Sl w q m c2 4 (vs.flatMap aC)):
  Calls Tryz.prog 50 #[.agg #[aA,aB,.slice p n cap,a,b,aE,aG,aD,aF,.slice q m c2],id] w fun e w'=>e= .returned (.int .i64 (vix id vs))∧Ext w w':=by
 have HI:Hid (∀w1 B,Ext w w1→B<w1.heap.size→w1.cell? ⟨B,0,none⟩=some (.int .i64 id)→Calls Tryz.prog 103 #[.slice q m c2,.func (.func 104) #[] #[.pointer (some ⟨B,0,none⟩)]] w1 fun e w'=>e= .returned (.int .i64 (vix id vs))∧Ext w1 w'):=
  fun w1 B hx hB hc=>wR B q m c2 vs id w1 (hS.ext hx) hB hc
 clear hS;go_enter Tryz.func50,Tryz.ntmps50;go_wp2_with fail;refine(HI _ _ (by exact .alloc (.alloc (.refl _) _) _) (by simp) (by simp)).mono ?_;rintro e w1 ⟨rfl,h1⟩;go_wp2;go_ret;exact⟨rfl,by exact .trans (.alloc (.alloc (.refl _) _) _) h1⟩
theorem pO (aA aB c d aE aG aD aF id:Int)(p:OA)(n cap:Nat)(q:OA)(m c2:Nat)(vs:List aQ)(w:World)(hS:Sl w q m c2 4 (vs.flatMap aC)):
  Calls Tryz.prog 86 #[.agg #[aA,aB,.slice p n cap,c,d,aE,aG,aD,aF,.slice q m c2],id] w fun e w'=>e= .returned (.int .i64 (vix id vs))∧Ext w w':=by
 have hn:=hS.bd;have HS:=xQ hS;have hl:Hid (vs.length=m):=by have:=hS.len;rw[cX aC 4 (fun _=>rfl)]at this;exact(by omega:vs.length=m)
 clear hS;go_enter Tryz.func86,Tryz.ntmps86;go_wp2;go_loop [5] (fun i=> ∃k:Nat,k≤m∧i= .int .i64 k∧(vs.take k).any (fun v=>v.1==id)=false) (fun i=>m-(intOf i).toNat)
 case atStart=>exact⟨0,Nat.zero_le _,rfl,by simp⟩
 case round=>
  obtain⟨k,hk,rfl,hp⟩:=hrel;have HP:=xQ hp;clear hp;by_cases hlt:k<m
  ·obtain⟨b,f,a0,a1,a2,a3,rfl,hv,hb,g0,g1,g2,g3⟩:=eN HS hlt;have HV:=xQ hv;clear hv;by_cases t:a0=id
   ·have q0:(a0==id)=true:=by simp[t]
    have a:Hid (vix id vs=k):=aFo HV t HP.out;clear t;go_wp2;go_ret;exact⟨by rw[a.out];rfl,by exact .alloc (.refl _) _⟩
   have q0:(a0==id)=false:=by simp[t]
   have a:Hid ((vs.take (k+1)).any (fun v=>v.1==id)=false):=aD9 HV t HP.out;clear t;go_wp2;go_round
   case rel=>exact⟨k+1,by omega,by go_num,a.out⟩
   case measure=>simp[intOf];omega
  have a:Hid (vix id vs= -1):=tZ (by have:=HP.out;rwa[List.take_of_length_le (by rw[hl.out];omega)]at this);go_wp2;go_ret;exact⟨by rw[a.out];rfl,by exact .alloc (.refl _) _⟩
set_option linter.unusedSimpArgs false
abbrev TT4:TypeId:=27
abbrev TS3:TypeId:=46
def gH (f s p c i pd a now amt:Int):(Int×Int×Int)×Int×Bool:=
 if 1≤amt∧amt≤300 then
  (if bX f s p c i pd a now=0 then((i,pd,a),amt,false)else((i,pd+min (bX f s p c i pd a now) amt,now),amt-min (bX f s p c i pd a now) amt,true))
 else((0,0,0),amt,false)
theorem kT {f s p c i pd a now:Int}(h:bJ f s p c=true)(h2:cZ i pd a=true)(h3:a≤now)(h4:now≤9999):0≤bX f s p c i pd a now∧bX f s p c i pd a now≤693:=by obtain⟨b1,b2,b3,b4,b5,b6⟩:=fT h2;have hb:=qW (m:=now-i) h (by omega) (by omega);unfold bX;rw[if_pos (by simp[h,h2,h3,h4])];omega
theorem aGo (i pd a now f s p c amt D:Int)(w:World)(hD:0≤D)(q:D≤693)(r:0≤pd)(hp:pd≤9999)
  (HD:Hid (∀w,Calls Tryz.prog 152 #[aR f s p c,bN i pd a,now] w fun e w'=>e= .returned (.int .i64 D)∧Ext w w'))
  (HI:Hid (∀w,Calls Tryz.prog 43 #[amt,.int .i64 1,.int .i64 300] w fun e w'=>e= .returned (.bool false)∧w=w'))(ha:amt<1∨300<amt):
  Calls Tryz.prog 134 #[aR f s p c,bN i pd a,now,amt] w fun e w'=>e= .returned (.tuple #[bN 0 0 0,amt,.bool false])∧Ext w w':=by
 go_enter Tryz.func134,Tryz.ntmps134;go_wp2_with fail;refine(HD _).mono ?_;rintro e w1 ⟨rfl,h⟩;have M1:=(((((Mem.start w).c0 TT4 #[f,s,p,c]).c1 TS3 #[i,pd,a]).c2 TS3 #[(),(),()]).adv h)
 have b:=M1.hi 0;have d:=M1.hi 1;have g:=M1.hi 2;clear h;go_wp2_with fail;refine(HI _).mono ?_;rintro e _ ⟨rfl,rfl⟩;obtain⟨c0,c1,c2⟩:=(M1.bk 1).tri;obtain⟨d0,d1,d2⟩:=(M1.bk 0).tri;have j:=(M1.bk 0).frozen 0;have k:=(M1.bk 0).frozen 1;have l:=(M1.bk 0).frozen 2;clear HD HI;go_wp2;clear c0 c1 c2 d0 d1 d2 j k l;have M2:=(((M1.st 0 0 (.int .i64 0)).st 0 1 (.int .i64 0)).st 0 2 (.int .i64 0))
 generalize World.setCell _ _ _=wz at M2⊢;clear M1 b d g;have m:=M2.hi 0;have n:=M2.hi 1;have o:=M2.hi 2;obtain⟨y0,y1,y2⟩:=(M2.bk 0).tri;exact bodyPost_ret (v:= .tuple #[.agg #[(),(),()],amt,.bool false]) (by simp[results,Tryz.results134,go_sem, *]) rfl ⟨rfl,M2.ext⟩
theorem aBc (i pd a now f s p c amt:Int)(w:World)(q:0≤pd)(hp:pd≤9999)
  (HD:Hid (∀w,Calls Tryz.prog 152 #[aR f s p c,bN i pd a,now] w fun e w'=>e= .returned (.int .i64 0)∧Ext w w'))
  (HI:Hid (∀w,Calls Tryz.prog 43 #[amt,.int .i64 1,.int .i64 300] w fun e w'=>e= .returned (.bool true)∧w=w'))(ha:1≤amt)(hb:amt≤300):
  Calls Tryz.prog 134 #[aR f s p c,bN i pd a,now,amt] w fun e w'=>e= .returned (.tuple #[bN i pd a,amt,.bool false])∧Ext w w':=by
 go_enter Tryz.func134,Tryz.ntmps134;go_wp2_with fail;refine(HD _).mono ?_;rintro e w1 ⟨rfl,h⟩;have M1:=(((((Mem.start w).c0 TT4 #[f,s,p,c]).c1 TS3 #[i,pd,a]).c2 TS3 #[(),(),()]).adv h)
 have b:=M1.hi 0;have d:=M1.hi 1;have g:=M1.hi 2;clear h;go_wp2_with fail;refine(HI _).mono ?_;rintro e _ ⟨rfl,rfl⟩;obtain⟨c0,c1,c2⟩:=(M1.bk 1).tri;obtain⟨d0,d1,d2⟩:=(M1.bk 0).tri;have j:=(M1.bk 0).frozen 0;have k:=(M1.bk 0).frozen 1;have l:=(M1.bk 0).frozen 2;clear HD HI;go_wp2;clear c0 c1 c2 d0 d1 d2 j k l;have M2:=(((M1.st 0 0 (.int .i64 i)).st 0 1 (.int .i64 pd)).st 0 2 (.int .i64 a))
 generalize World.setCell _ _ _=wz at M2⊢;clear M1 b d g;have m:=M2.hi 0;have n:=M2.hi 1;have o:=M2.hi 2;obtain⟨y0,y1,y2⟩:=(M2.bk 0).tri;exact bodyPost_ret (v:= .tuple #[.agg #[i,pd,a],amt,.bool false]) (by simp[results,Tryz.results134,go_sem, *]) rfl ⟨rfl,M2.ext⟩
theorem aDm (i pd a now f s p c amt D:Int)(w:World)(hD:0≤D)(r:D≤693)(u:0≤pd)(hp:pd≤9999)
  (HD:Hid (∀w,Calls Tryz.prog 152 #[aR f s p c,bN i pd a,now] w fun e w'=>e= .returned (.int .i64 D)∧Ext w w'))
  (HI:Hid (∀w,Calls Tryz.prog 43 #[amt,.int .i64 1,.int .i64 300] w fun e w'=>e= .returned (.bool true)∧w=w'))(ha:1≤amt)(hb:amt≤300)(q:1≤D):
  Calls Tryz.prog 134 #[aR f s p c,bN i pd a,now,amt] w fun e w'=>e= .returned (.tuple #[bN i (pd+min D amt) now,(amt-min D amt:Int),.bool true])∧Ext w w':=by
 go_enter Tryz.func134,Tryz.ntmps134;go_wp2_with fail;refine(HD _).mono ?_;rintro e w1 ⟨rfl,h⟩;have M1:=(((((Mem.start w).c0 TT4 #[f,s,p,c]).c1 TS3 #[i,pd,a]).c2 TS3 #[(),(),()]).adv h)
 have b:=M1.hi 0;have d:=M1.hi 1;have g:=M1.hi 2;clear h;go_wp2_with fail;refine(HI _).mono ?_;rintro e _ ⟨rfl,rfl⟩;obtain⟨c0,c1,c2⟩:=(M1.bk 1).tri;obtain⟨d0,d1,d2⟩:=(M1.bk 0).tri;have j:=(M1.bk 0).frozen 0;have k:=(M1.bk 0).frozen 1;have l:=(M1.bk 0).frozen 2;clear HD HI;have k1:IntKind.i64.wrap (pd+min D amt)=pd+min D amt:=IntWalk.i64_in _ (by omega);have k2:IntKind.i64.wrap (amt-min D amt)=amt-min D amt:=IntWalk.i64_in _ (by omega);have t:(D==0)=false:=by simp;omega
 go_wp2;clear c0 c1 c2 d0 d1 d2 j k l;have M2:=(((M1.st 0 0 (.int .i64 i)).st 0 1 (.int .i64 (pd+min D amt))).st 0 2 (.int .i64 now))
 generalize World.setCell _ _ _=wz at M2⊢;clear M1 b d g;have m:=M2.hi 0;have n:=M2.hi 1;have o:=M2.hi 2;obtain⟨y0,y1,y2⟩:=(M2.bk 0).tri;exact bodyPost_ret (v:= .tuple #[.agg #[i,(pd+min D amt:Int),now],(amt-min D amt:Int),.bool true]) (by simp[results,Tryz.results134,go_sem, *]) rfl ⟨rfl,M2.ext⟩
theorem aBr (f s p c i pd a now amt:Int)(w:World)(h:bJ f s p c=true)(h2:cZ i pd a=true)(h3:a≤now)(h4:now≤9999):
  Calls Tryz.prog 134 #[aR f s p c,bN i pd a,now,amt] w fun e w'=>e= .returned (.tuple #[bN (gH f s p c i pd a now amt).1.1 (gH f s p c i pd a now amt).1.2.1 (gH f s p c i pd a now amt).1.2.2,.int .i64 (gH f s p c i pd a now amt).2.1,.bool (gH f s p c i pd a now amt).2.2])∧Ext w w':=by
 obtain⟨b1,b2,b3,b4,b5,b6⟩:=fT h2;obtain⟨e1,e2⟩:=kT h h2 h3 h4;have HD:=xQ (fun w=>aDk f s p c i pd a now w h h2 h3 h4);unfold gH;generalize bX f s p c i pd a now=D at*;by_cases ha:1≤amt∧amt≤300
 ·have HI:Hid (∀w,Calls Tryz.prog 43 #[amt,.int .i64 1,.int .i64 300] w fun e w'=>e= .returned (.bool true)∧w=w'):=fun w=>mB amt 1 300 w ha.1 ha.2
  rw[if_pos ha];by_cases hd:D=0
  ·subst hd;rw[if_pos rfl];exact aBc i pd a now f s p c amt w b3 b4 HD HI ha.1 ha.2
  rw[if_neg hd];exact aDm i pd a now f s p c amt D w e1 e2 b3 b4 HD HI ha.1 ha.2 (by omega)
 have HI:Hid (∀w,Calls Tryz.prog 43 #[amt,.int .i64 1,.int .i64 300] w fun e w'=>e= .returned (.bool false)∧w=w'):=fun w=>tS amt 1 300 w (by omega)
 rw[if_neg ha];exact aGo i pd a now f s p c amt D w e1 e2 b3 b4 HD HI (by omega)
section
variable {w0 w w':World} {L:List Item}
theorem Mem.own2 {b n c sz n2 c2 sz2:Nat}{e e2:TypeId}{q q2:OA}{xs i:List Value}(h:Mem w0 w L)(hx:Ext w w')(a:w'.ownsRow b e sz (.slice q n c) n xs)(g:w'.ownsRow b e2 sz2 (.slice q2 n2 c2) n2 i)(hb:w.heap.size≤b)(ht:e≠e2):
  Mem w0 w' (aI w0.heap.size e sz q n c xs::aI w0.heap.size e2 sz2 q2 n2 c2 i::L):=by
 refine(h.ownNew hx g hb).cons (jL _ _ _ _ _ _ _) (iZ a (Nat.le_trans h.ext.sz hb)) (fun g' hg' j hj e'=> ?_);replace hg':(Value.slice q n c).ownBlock=Option.some g':=hg';have h1:=(World.ownsRow.lt a g' hg').1;rcases List.mem_cons.1 hj with rfl|hj
 ·replace e':(Value.slice q2 n2 c2).ownBlock=Option.some g':=e';rcases a.2 with⟨h2,_⟩|⟨g2,cap',cur,h2,_,h3,_⟩
  ·rw[h2]at hg';cases hg'
  rcases g.2 with⟨k2,_⟩|⟨g3,cap3,cur3,k2,_,k3,_⟩
  ·rw[k2]at e';cases e'
  rw[h2]at hg';rw[k2]at e';injection hg' with hg';injection e' with e';have f:g2=g':=hg';have d:g3=g':=e';subst f;subst d;rw[h3]at k3;injection k3 with k3;injection k3 with _ k3;exact ht k3
 have h2:=((h.good j hj).lt w (h.ok j hj) g' e').2;omega
end
theorem zL (aA aB a c aE aG aD aF id amt:Int)(p:OA)(n cap:Nat)(q:OA)(m c2:Nat)(xs:List Int)(vs:List aQ)(w:World)
  (HL:xC 37 #[.agg #[aA,aB,.slice p n cap,a,c,aE,aG,aD,aF,.slice q m c2]] w fun w' e w''=> ∃p' cap' q' c2',e= .returned (.agg #[aA,aB,.slice p' n cap',a,c,aE,aG,aD,aF,.slice q' m c2'])∧w''.ownsRow w'.heap.size TI 1 (.slice p' n cap') n (ivs xs)∧w''.ownsRow w'.heap.size TV 4 (.slice q' m c2') m (vs.flatMap aC)∧Ext w' w'')
  (HF:xC 86 #[.agg #[aA,aB,.slice p n cap,a,c,aE,aG,aD,aF,.slice q m c2],id] w fun w' e w''=>e= .returned (.int .i64 (-1))∧Ext w' w''):
  Calls Tryz.prog 84 #[.agg #[aA,aB,.slice p n cap,a,c,aE,aG,aD,aF,.slice q m c2],id,amt] w fun e w'=> ∃p' cap' q' c2' b,e= .returned (.tuple #[.agg #[aA,aB,.slice p' n cap',a,c,aE,aG,aD,aF,.slice q' m c2'],b,.bool false])∧Ext w w':=by
 go_enter Tryz.func84,Tryz.ntmps84;go_wp2_with fail;refine(HL _ (((Mem.start w).c0 aL #[aA,aB,.slice p n cap,a,c,aE,aG,aD,aF,.slice q m c2]).c1 aL zT).ext).mono ?_;rintro e w1 ⟨p1,d,q1,f,rfl,s,t,x⟩;have M1:=((((Mem.start w).c0 aL #[aA,aB,.slice p n cap,a,c,aE,aG,aD,aF,.slice q m c2]).c1 aL zT).own2 x s t (Nat.le_refl _) (by decide))
 have j:=M1.hi 2;have k:=M1.hi 3;clear x s t HL;obtain⟨z,aa,ab,ad,ae,af,ag,ah,ai,aj⟩:=(M1.bk 3).ten;go_wp2_with fail;clear z aa ab ad ae af ag ah ai aj;refine(HF _ (M1.c0 aL #[aA,aB,.slice p1 n d,a,c,aE,aG,aD,aF,.slice q1 m f]).ext).mono ?_;rintro e w2 ⟨rfl,y⟩;have M2:=((M1.c0 aL #[aA,aB,.slice p1 n d,a,c,aE,aG,aD,aF,.slice q1 m f]).adv y)
 clear M1 j k y HF;have l:=M2.hi 0;have o:=M2.hi 3;have r:=M2.hi 4;obtain⟨d0,d1,d2,d3,d4,d5,d6,d7,d8,d9⟩:=(M2.bk 0).ten;obtain⟨f0,ak,f1,al,f2,am,f3,an,f4,ao,f5,ap,f6,aq,f7,ar,f8,au,f9,av⟩:=(M2.bk 3).tenf;obtain⟨g,h⟩:=M2.nq 0 3;go_wp2;clear d0 d1 d2 d3 d4 d5 d6 d7 d8 d9 f0 ak f1 al f2 am f3 an f4 ao f5 ap f6 aq f7 ar f8 au f9 av g h l o r;have M3:=(M2.put10 (i:=3) rfl (.int .i64 aA) (.int .i64 aB) (.slice p1 n d) (.int .i64 a) (.int .i64 c) (.int .i64 aE) (.int .i64 aG) (.int .i64 aD) (.int .i64 aF) (.slice q1 m f))
 generalize u:World.setCell _ _ _=wz;rw[u]at M3;clear u M2;obtain⟨y0,y1,y2,y3,y4,y5,y6,y7,y8,y9⟩:=(M3.bk 3).ten;exact bodyPost_ret (v:= .tuple #[.agg #[aA,aB,.slice p1 n d,a,c,aE,aG,aD,aF,.slice q1 m f],amt,.bool false]) (by simp[results,Tryz.results84,go_sem, *]) rfl ⟨p1,d,q1,f,amt,rfl,M3.ext⟩
theorem xN {vs:List aQ}{k:Nat}{a0 a1 a2 a3:Int}(h:vs[k]? =some (a0,a1,a2,a3)) (S1 S2 S3:Int):
  (((vs.flatMap aC).set (k*4+1) (.int .i64 S1)).set (k*4+2) (.int .i64 S2)).set (k*4+3) (.int .i64 S3)=(vs.set k (a0,S1,S2,S3)).flatMap aC:=by
 induction vs generalizing k with
 |nil=>simp at h
 |cons v vs ih=>
  cases k with
  |zero=>simp at h;subst h;simp[aC]
  |succ k=>
   have h':vs[k]? =some (a0,a1,a2,a3):=by simpa using h
   rw[List.set_cons_succ,List.flatMap_cons,List.flatMap_cons,←ih h'];simp only[aC,List.cons_append,List.nil_append];rw[show(k+1)*4+1=(k*4+1)+1+1+1+1 by omega,show(k+1)*4+2=(k*4+2)+1+1+1+1 by omega,show(k+1)*4+3=(k*4+3)+1+1+1+1 by omega];simp only[List.set_cons_succ]
theorem aGp (aA aB c d aE aG aD aF id amt:Int)(p:OA)(n cap b h m c2 k:Nat)(xs:List Int)(vs:List aQ)(a0 a1 a2 a3 S1 S2 S3 bk:Int)(y:Bool)(w:World)(hk:k<m)(hm:m≤1000)(hb:b<w.heap.size)(c8:0≤aF)(cw:aF≤99999)(cm:y=true→0≤bk∧bk≤amt∧amt≤300)(ca:Hid (vs[k]? =some (a0,a1,a2,a3)))
  (g1:w.cell? ⟨b,h+k*4+1,none⟩=some (.int .i64 a1)) (g2:w.cell? ⟨b,h+k*4+2,none⟩=some (.int .i64 a2)) (g3:w.cell? ⟨b,h+k*4+3,none⟩=some (.int .i64 a3))
  (HL:xC 37 #[.agg #[aA,aB,.slice p n cap,c,d,aE,aG,aD,aF,.slice (some ⟨b,h,none⟩) m c2]] w fun w' e w''=> ∃p' cap' q' c2',e= .returned (.agg #[aA,aB,.slice p' n cap',c,d,aE,aG,aD,aF,.slice q' m c2'])∧w''.ownsRow w'.heap.size TI 1 (.slice p' n cap') n (ivs xs)∧w''.ownsRow w'.heap.size TV 4 (.slice q' m c2') m (vs.flatMap aC)∧Ext w' w'')
  (HF:xC 86 #[.agg #[aA,aB,.slice p n cap,c,d,aE,aG,aD,aF,.slice (some ⟨b,h,none⟩) m c2],id] w fun w' e w''=>e= .returned (.int .i64 (k:Int))∧Ext w' w'')
  (HP:Hid (∀w',Calls Tryz.prog 134 #[aR c d aE aG,bN a1 a2 a3,aD,amt] w' fun e w''=>e= .returned (.tuple #[bN S1 S2 S3,bk,.bool y])∧Ext w' w'')):
  Calls Tryz.prog 84 #[.agg #[aA,aB,.slice p n cap,c,d,aE,aG,aD,aF,.slice (some ⟨b,h,none⟩) m c2],id,amt] w fun e w'=>(∃p' cap' q' c2' b,e= .returned (.tuple #[.agg #[aA,aB,.slice p' n cap',c,d,aE,aG,aD,aF,.slice q' m c2'],b,.bool false])∧ ¬(y=true∧aF+amt-bk≤99999)∧Ext w w')∨
   (y=true∧aF+amt-bk≤99999∧ ∃p' cap' q' c2',e= .returned (.tuple #[.agg #[aA,aB,.slice p' n cap',c,d,aE,aG,aD,(aF+amt-bk:Int),.slice q' m c2'],bk,.bool true])∧w'.ownsRow w.heap.size TI 1 (.slice p' n cap') n (ivs xs)∧w'.ownsRow w.heap.size TV 4 (.slice q' m c2') m ((vs.set k (a0,S1,S2,S3)).flatMap aC)∧Ext w w'):=by
 go_enter Tryz.func84,Tryz.ntmps84;go_wp2_with fail;refine(HL _ (((Mem.start w).c0 aL #[aA,aB,.slice p n cap,c,d,aE,aG,aD,aF,.slice (some ⟨b,h,none⟩) m c2]).c1 aL zT).ext).mono ?_;rintro e w1 ⟨p1,f,q1,g,rfl,b2,b3,b5⟩;have M1:=((((Mem.start w).c0 aL #[aA,aB,.slice p n cap,c,d,aE,aG,aD,aF,.slice (some ⟨b,h,none⟩) m c2]).c1 aL zT).own2 b5 b2 b3 (Nat.le_refl _) (by decide))
 have bo:=M1.hi 2;have bp:=M1.hi 3;clear b5 b2 b3 HL;obtain⟨bb,bc,bd,be,bf,bg,bh,bi,bj,bl⟩:=(M1.bk 3).ten;go_wp2_with fail;clear bb bc bd be bf bg bh bi bj bl;refine(HF _ (M1.c0 aL #[aA,aB,.slice p1 n f,c,d,aE,aG,aD,aF,.slice q1 m g]).ext).mono ?_;rintro e w2 ⟨rfl,b6⟩;have M2:=((M1.c0 aL #[aA,aB,.slice p1 n f,c,d,aE,aG,aD,aF,.slice q1 m g]).adv b6)
 clear M1 bo bp b6 HF;have bq:=M2.hi 0;have br:=M2.hi 3;have bs:=M2.hi 4;obtain⟨bb,bc,bd,be,bf,bg,bh,bi,bj,bl⟩:=(M2.bk 4).ten;have ak:=M2.ext;have bt:w2.cell? ⟨b,h+k*4+1,none⟩=some (.int .i64 a1):=(ak.cells.1 _ _ hb).trans g1;have bu:w2.cell? ⟨b,h+k*4+2,none⟩=some (.int .i64 a2):=(ak.cells.1 _ _ hb).trans g2;have bv:w2.cell? ⟨b,h+k*4+3,none⟩=some (.int .i64 a3):=(ak.cells.1 _ _ hb).trans g3;have am:b<w2.heap.size:=Nat.lt_of_lt_of_le hb ak.sz;clear ak;have i1:(0:Int)≤(k:Int):=by omega
 have i2:(k:Int)<(m:Int):=by omega
 have n1: ¬(w.heap.size=w2.heap.size):=by omega
 have n2: ¬(w2.heap.size=w.heap.size):=by omega
 have n3: ¬(b=w2.heap.size):=by omega
 have n4: ¬(w2.heap.size=b):=by omega
 go_upto_region 5 with fail;go_cut [11,12,13] (fun s11 s12 s13 wx=> ∃a:Nat,s11= .pointer (some ⟨a,0,none⟩)∧s12= .int .i64 bk∧s13= .bool y∧Ext w2 wx∧w2.heap.size≤a∧Blk wx a TS3 #[S1,S2,S3])
 case first=>
  go_region_held3 (fun w'=>w'.cell? ⟨w.heap.size,3,none⟩=some (.int .i64 c)∧w'.cell? ⟨w.heap.size,4,none⟩=some (.int .i64 d)∧w'.cell? ⟨w.heap.size,5,none⟩=some (.int .i64 aE)∧w'.cell? ⟨w.heap.size,6,none⟩=some (.int .i64 aG)∧w'.cell? ⟨w.heap.size,7,none⟩=some (.int .i64 aD)∧w'.cell? ⟨w.heap.size,9,none⟩=some (.slice (some ⟨b,h,none⟩) m c2)∧w'.cell? ⟨b,h+k*4+1,none⟩=some (.int .i64 a1)∧w'.cell? ⟨b,h+k*4+2,none⟩=some (.int .i64 a2)∧w'.cell? ⟨b,h+k*4+3,none⟩=some (.int .i64 a3))
   (first|(refine⟨?_,?_,?_,?_,?_,?_,?_,?_,?_⟩<;>assumption)|go_keep)
   ((go_at_call 134
     refine(HP _).mono ?_;rintro e w5 ⟨rfl,b7⟩;have o:Ext w2 w5:=xE;have cy:=((M2.bk 4).ext o).cl 3;have cz:=((M2.bk 4).ext o).cl 4;have c0:=((M2.bk 4).ext o).cl 5;have c1:=((M2.bk 4).ext o).cl 6;have c3:=((M2.bk 4).ext o).cl 7;have c4:=((M2.bk 4).ext o).cl 9;have c5:w5.cell? ⟨b,h+k*4+1,none⟩=some (.int .i64 a1):=(o.cells.1 _ _ am).trans bt;have c6:w5.cell? ⟨b,h+k*4+2,none⟩=some (.int .i64 a2):=(o.cells.1 _ _ am).trans bu;have c7:w5.cell? ⟨b,h+k*4+3,none⟩=some (.int .i64 a3):=(o.cells.1 _ _ am).trans bv
     first
      |(have bm:Ext (w2.alloc (.cells #[(),(),()] TS3)) w5:=b7
        have BB:=(Blk.new w2 TS3 #[(),(),()]).ext bm;have cq:=BB.cl 0;have ct:=BB.frozen 0;have cr:=BB.cl 1;have cu:=BB.frozen 1;have cs:=BB.cl 2
        have cv:w5.frozen? ⟨w2.heap.size,2,none⟩=false:=BB.frozen 2)
      |(have bm:Ext (w2.alloc (.cells #[(),(),()] TS3)) w5:=b7.of_drew
        have BB:=(Blk.new w2 TS3 #[(),(),()]).ext bm;have cq:=BB.cl 0;have ct:=BB.frozen 0;have cr:=BB.cl 1;have cu:=BB.frozen 1;have cs:=BB.cl 2
        have cv:w5.frozen? ⟨w2.heap.size,2,none⟩=false:=BB.frozen 2)
      |skip))
  ·go_wp2_with fail;go_meet;exact⟨w5.heap.size,rfl,rfl,rfl,by exact .alloc o _,by have:=o.sz;omega,Blk.new _ _ _⟩
  have hR:ExtR w2.heap.size w5 _:=(((ExtR.refl w2.heap.size w5).setCell (p:=⟨w2.heap.size,0,none⟩) (.inl rfl) (.int .i64 S1)).setCell (p:=⟨w2.heap.size,1,none⟩) (.inl rfl) (.int .i64 S2)).setCell (p:=⟨w2.heap.size,2,none⟩) (.inl rfl) (.int .i64 S3);have hY:=((BB.set 0 (.int .i64 S1)).set 1 (.int .i64 S2)).set 2 (.int .i64 S3);simp only[List.setIfInBounds_toArray,List.set_cons_zero,List.set_cons_succ]at hY;go_wp2_with fail;go_meet;exact⟨w2.heap.size,rfl,rfl,rfl,ExtR.new o hR (Nat.le_refl _),Nat.le_refl _,hY⟩
 case rest=>
  clear bb bc bd be bf bg bh bi bj bl bt bu bv am HP n1 n2 n3 n4;obtain⟨a,rfl,rfl,rfl,bx,ha,bw⟩:=hcut;have M3:=(M2.blkOf bx bw ha)
  clear M2 bq br bs bx ha bw;have s:=M3.hi 0;have t:=M3.hi 1;have u:=M3.hi 4;have x:=M3.hi 5;cases y with
  |false=>
   have al:Hid (¬(false=true∧aF+amt-bk≤99999)):=by show¬_;simp
   obtain⟨d0,d1,d2,d3,d4,d5,d6,d7,d8,d9⟩:=(M3.bk 1).ten;obtain⟨f0,z,f1,aa,f2,ab,f3,ad,f4,ae,f5,af,f6,ag,f7,ah,f8,ai,f9,aj⟩:=(M3.bk 4).tenf;obtain⟨j,l⟩:=M3.nq 1 4;go_wp2;clear d0 d1 d2 d3 d4 d5 d6 d7 d8 d9 f0 z f1 aa f2 ab f3 ad f4 ae f5 af f6 ag f7 ah f8 ai f9 aj j l s t u x;have M4:=(M3.put10 (i:=4) rfl (.int .i64 aA) (.int .i64 aB) (.slice p1 n f) (.int .i64 c) (.int .i64 d) (.int .i64 aE) (.int .i64 aG) (.int .i64 aD) (.int .i64 aF) (.slice q1 m g))
   generalize r:World.setCell _ _ _=wz;rw[r]at M4;clear r M3;obtain⟨y0,y1,y2,y3,y4,y5,y6,y7,y8,y9⟩:=(M4.bk 4).ten;exact bodyPost_ret (v:= .tuple #[.agg #[aA,aB,.slice p1 n f,c,d,aE,aG,aD,aF,.slice q1 m g],amt,.bool false]) (by simp[results,Tryz.results84,go_sem, *]) rfl (by first|exact .inl ⟨p1,f,q1,g,amt,rfl,al.out,M4.ext⟩|(have q:=al.out;simp at q;first|exact .inl ⟨p1,f,q1,g,amt,rfl,q,M4.ext⟩|exact .inl ⟨p1,f,q1,g,amt,rfl,by omega,M4.ext⟩|exact .inl ⟨⟨p1,f,q1,g,amt,rfl⟩,q,M4.ext⟩|exact .inl ⟨⟨p1,f,q1,g,amt,rfl⟩,by omega,M4.ext⟩|exact .inl ⟨⟨p1,f,q1,g,amt,rfl⟩,M4.ext⟩|exact⟨⟨p1,f,q1,g,amt,rfl⟩,M4.ext⟩))
  |true=>
   obtain⟨o1,o2,o3⟩:=cm rfl;have k1:IntKind.i64.wrap (aF+amt)=aF+amt:=IntWalk.i64_in _ (by omega);have k2:IntKind.i64.wrap (aF+amt-bk)=aF+amt-bk:=IntWalk.i64_in _ (by omega);have h8:=(M3.bk 5).cl 8;by_cases hq:aF+amt-bk≤99999
   ·have hd:decide (99999<aF+amt-bk)=false:=by simp;omega
    have b4:=xQ hq;clear hq;obtain⟨gq,rfl,b0,b1⟩:=M3.so 3;obtain⟨b9,o9,x0,x1,x2,x3,e9,b8,_,y0,y1,y2,y3⟩:=eN (M3.sq 3) hk;injection e9 with e9;injection e9 with e9 e8;subst e9 e8;simp only[Nat.zero_add]at y1 y2 y3;have cx:=xQ b8;clear b8 y0 b0;obtain⟨d0,cb,d1,cc,d2,cd,d3,ce,d4,cf,d5,cg,d6,ch,d7,ci,d8,cj,d9,ck⟩:=(M3.bk 1).tenf;obtain⟨f0,z,f1,aa,f2,ab,f3,ad,f4,ae,f5,af,f6,ag,f7,ah,f8,ai,f9,aj⟩:=(M3.bk 4).tenf;obtain⟨cn,co,cp⟩:=(M3.bk 0).tri;have z1:wc.frozen? ⟨gq,k*4+1,none⟩=false:=(M3.ow 3).frozenAt (k*4+1);have z2:wc.frozen? ⟨gq,k*4+2,none⟩=false:=(M3.ow 3).frozenAt (k*4+2);have z3:wc.frozen? ⟨gq,k*4+3,none⟩=false:=(M3.ow 3).frozenAt (k*4+3);obtain⟨j,l⟩:=M3.nq 4 5;obtain⟨an,ao⟩:=M3.nq 1 5;obtain⟨ap,aq⟩:=M3.nq 0 5;obtain⟨ar,au⟩:=M3.nq 3 5;obtain⟨av,aw⟩:=M3.nq 1 4;obtain⟨ax,ay⟩:=M3.nq 0 4;obtain⟨az,a4⟩:=M3.nq 3 4;obtain⟨a5,a6⟩:=M3.nq 0 1;obtain⟨a7,a8⟩:=M3.nq 1 3;obtain⟨a9,ba⟩:=M3.nq 0 3;have M4:=(show Mem w (((wc.setCell ⟨gq,k*4+1,none⟩ (.int .i64 S1)).setCell ⟨gq,k*4+2,none⟩ (.int .i64 S2)).setCell ⟨gq,k*4+3,none⟩ (.int .i64 S3)) [aJ w.heap.size (a) TS3 #[S1,S2,S3],aJ w.heap.size (w1.heap.size) aL #[aA,aB,.slice p1 n f,c,d,aE,aG,aD,aF,.slice (some ⟨gq,0,none⟩) m g],aI w.heap.size TI 1 (p1) (n) (f) (ivs xs),aI w.heap.size TV 4 (some ⟨gq,0,none⟩) (m) (g) ((((vs.flatMap aC).set (k*4+1) (.int .i64 S1)).set (k*4+2) (.int .i64 S2)).set (k*4+3) (.int .i64 S3)),aJ w.heap.size (w.heap.size+1) aL #[(),(),((),()),(),(),(),(),(),(),((),())],aJ w.heap.size (w.heap.size) aL #[aA,aB,.slice p n cap,c,d,aE,aG,aD,aF,.slice (some ⟨b,h,none⟩) m c2]]from(((M3.ostore (i:=3) rfl (k*4+1) (.int .i64 S1)).ostore (i:=3) rfl (k*4+2) (.int .i64 S2)).ostore (i:=3) rfl (k*4+3) (.int .i64 S3)))
    have M5:=(M4.st 1 8 (.int .i64 (aF+amt-bk)))
    have bz:Hid ((((vs.flatMap aC).set (k*4+1) (.int .i64 S1)).set (k*4+2) (.int .i64 S2)).set (k*4+3) (.int .i64 S3)=(vs.set k (a0,S1,S2,S3)).flatMap aC):=xN ca S1 S2 S3;go_wp2;clear d0 cb d1 cc d2 cd d3 ce d4 cf d5 cg d6 ch d7 ci d8 cj d9 ck f0 z f1 aa f2 ab f3 ad f4 ae f5 af f6 ag f7 ah f8 ai f9 aj cn co cp z1 z2 z3 j l an ao ap aq ar au av aw ax ay az a4 a5 a6 a7 a8 a9 ba y1 y2 y3 b1 h8 s t u x;have M6:=(M5.put10 (i:=4) rfl (.int .i64 aA) (.int .i64 aB) (.slice p1 n f) (.int .i64 c) (.int .i64 d) (.int .i64 aE) (.int .i64 aG) (.int .i64 aD) (.int .i64 (aF+amt-bk)) (.slice (some ⟨gq,0,none⟩) m g))
    generalize r:World.setCell _ _ _=wz;rw[r]at M6;clear r M3 M4 M5;obtain⟨y0,y1,y2,y3,y4,y5,y6,y7,y8,y9⟩:=(M6.bk 4).ten;exact bodyPost_ret (v:= .tuple #[.agg #[aA,aB,.slice p1 n f,c,d,aE,aG,aD,(aF+amt-bk:Int),.slice (some ⟨gq,0,none⟩) m g],bk,.bool true]) (by simp[results,Tryz.results84,go_sem, *]) rfl (by first|exact .inr ⟨rfl,b4.out,p1,f,some ⟨gq,0,none⟩,g,rfl,(M6.ow 2),by rw[←bz.out];exact(M6.ow 3),M6.ext⟩|exact .inr ⟨b4.out,p1,f,some ⟨gq,0,none⟩,g,rfl,(M6.ow 2),by rw[←bz.out];exact(M6.ow 3),M6.ext⟩)
   have al:Hid (¬(true=true∧aF+amt-bk≤99999)):=by show¬_;simp[hq]
   have hd:decide (99999<aF+amt-bk)=true:=by simp;omega
   obtain⟨d0,d1,d2,d3,d4,d5,d6,d7,d8,d9⟩:=(M3.bk 1).ten;obtain⟨f0,z,f1,aa,f2,ab,f3,ad,f4,ae,f5,af,f6,ag,f7,ah,f8,ai,f9,aj⟩:=(M3.bk 4).tenf;obtain⟨j,l⟩:=M3.nq 1 4;go_wp2;clear d0 d1 d2 d3 d4 d5 d6 d7 d8 d9 f0 z f1 aa f2 ab f3 ad f4 ae f5 af f6 ag f7 ah f8 ai f9 aj j l s t u x;have M4:=(M3.put10 (i:=4) rfl (.int .i64 aA) (.int .i64 aB) (.slice p1 n f) (.int .i64 c) (.int .i64 d) (.int .i64 aE) (.int .i64 aG) (.int .i64 aD) (.int .i64 aF) (.slice q1 m g))
   generalize r:World.setCell _ _ _=wz;rw[r]at M4;clear r M3;obtain⟨y0,y1,y2,y3,y4,y5,y6,y7,y8,y9⟩:=(M4.bk 4).ten;exact bodyPost_ret (v:= .tuple #[.agg #[aA,aB,.slice p1 n f,c,d,aE,aG,aD,aF,.slice q1 m g],amt,.bool false]) (by simp[results,Tryz.results84,go_sem, *]) rfl (by first|exact .inl ⟨p1,f,q1,g,amt,rfl,al.out,M4.ext⟩|(have q:=al.out;simp at q;first|exact .inl ⟨p1,f,q1,g,amt,rfl,q,M4.ext⟩|exact .inl ⟨p1,f,q1,g,amt,rfl,by omega,M4.ext⟩|exact .inl ⟨⟨p1,f,q1,g,amt,rfl⟩,q,M4.ext⟩|exact .inl ⟨⟨p1,f,q1,g,amt,rfl⟩,by omega,M4.ext⟩|exact .inl ⟨⟨p1,f,q1,g,amt,rfl⟩,M4.ext⟩|exact⟨⟨p1,f,q1,g,amt,rfl⟩,M4.ext⟩))
theorem Mem.st4 {P:Program}{f:FuncId}{s:Array Value}{w0 w:World}{L:List Item}{F:OA→Nat→OA→Nat→Value}{t1 t2:TypeId}{n1 s1 n2 s2:Nat}{xs ys:List Value}{K:Ending→World→Prop}(M:Mem w0 w L)(H:Mem w0 w L→Calls P f s w fun e w'=> ∃p c q d,e= .returned (F p c q d)∧w'.ownsRow w.heap.size t1 s1 (.slice p n1 c) n1 xs∧w'.ownsRow w.heap.size t2 s2 (.slice q n2 d) n2 ys∧Ext w w')(k: ∀w' p c q d,Mem w0 w' (aI w0.heap.size t1 s1 p n1 c xs::aI w0.heap.size t2 s2 q n2 d ys::L)→K (.returned (F p c q d)) w')(a:t1≠t2:=by decide):Calls P f s w K:=(H M).mono (by rintro e w' ⟨p,c,q,d,rfl,ho,hv,hx⟩;exact k w' p c q d (M.own2 hx ho hv (Nat.le_refl _) a))
end Go.Proofs.YtpelpnfhbepokaaGreatDoor
namespace Go.Proofs.YtpelpnfhbepokaaGreatDoor
open Go.RowKit
set_option linter.unusedVariables false
set_option linter.unusedSimpArgs false
theorem aA0 {f s p c i pd a now amt:Int}(hD:0≤bX f s p c i pd a now)(h:(gH f s p c i pd a now amt).2.2=true):0≤(gH f s p c i pd a now amt).2.1∧(gH f s p c i pd a now amt).2.1≤amt∧amt≤300:=by
 unfold gH at h⊢;split at h
 ·rename_i h1;rw[if_pos h1];split at h
  ·cases h
  rename_i h2;rw[if_neg h2];dsimp only;omega
 cases h
def pL (h:aW)(id amt:Int):Option (aW×Int):=
 match fA id h.vs with
 |none=>none
 |some v=>if(gH h.free h.step h.aE h.aG v.2.1 v.2.2.1 v.2.2.2 h.aD amt).2.2=true∧h.aF+amt-(gH h.free h.step h.aE h.aG v.2.1 v.2.2.1 v.2.2.2 h.aD amt).2.1≤99999 then
   some ({h with aF:=h.aF+amt-(gH h.free h.step h.aE h.aG v.2.1 v.2.2.1 v.2.2.2 h.aD amt).2.1,vs:=h.vs.set (vix id h.vs).toNat (id,(gH h.free h.step h.aE h.aG v.2.1 v.2.2.1 v.2.2.2 h.aD amt).1)},(gH h.free h.step h.aE h.aG v.2.1 v.2.2.1 v.2.2.2 h.aD amt).2.1)
  else none
def aL3 (h:aW)(r:Option (aW×Int))(w:World)(e:Ending)(w':World):Prop:=
 match r with
 |none=> ∃p cap q c2 b,e= .returned (.tuple #[cA h p h.cells.length cap q h.vs.length c2,b,.bool false])∧Ext w w'
 |some (h',b)=> ∃p cap q c2,e= .returned (.tuple #[cA h' p h'.cells.length cap q h'.vs.length c2,b,.bool true])∧w'.ownsRow w.heap.size TI 1 (.slice p h'.cells.length cap) h'.cells.length (ivs h'.cells)∧w'.ownsRow w.heap.size TV 4 (.slice q h'.vs.length c2) h'.vs.length (h'.vs.flatMap aC)∧Ext w w'
theorem aHd (h:aW)(id amt:Int)(p:OA)(n cap:Nat)(q:OA)(m c2:Nat)(w:World)(hn:n≤1000)(hm:m≤1000)(hi:IsHouse w h p n cap q m c2)
  (ht:bJ h.free h.step h.aE h.aG=true)(l: ∀v∈h.vs,cZ v.2.1 v.2.2.1 v.2.2.2=true∧v.2.2.2≤h.aD)(hc:h.aD≤9999)(g:0≤h.aF)(hb:h.aF≤99999):
  Calls Tryz.prog 84 #[cA h p n cap q m c2,id,amt] w (aL3 h (pL h id amt) w):=by
 have hl:=hi.clen;have j:=hi.vlen;have HL:=fun(w':World) (hx:Ext w w')=>pP h p n cap q m c2 w' hn hm (hi.ext hx)
 have HF:=fun(w':World) (hx:Ext w w')=>pO h.aA h.aB h.free h.step h.aE h.aG h.aD h.aF id p n cap q m c2 h.vs w' (hi.vs.ext hx)
 unfold RetHouse at HL;subst hl j;rcases lY id h.vs with⟨h1,h2⟩|⟨k,a1,a2,a3,hk,h1,hx,h2⟩
 ·rw[h1]at HF;have hr:pL h id amt=none:=by unfold pL;rw[h2]
  rw[hr];refine(zL h.aA h.aB h.free h.step h.aE h.aG h.aD h.aF id amt p _ cap q _ c2 h.cells h.vs w HL HF).mono ?_;rintro e w' ⟨p',a,q',c,b,rfl,hE⟩;exact⟨p',a,q',c,b,rfl,hE⟩
 rw[h1]at HF;obtain⟨b,o,x0,x1,x2,x3,rfl,d,i,_,g1,g2,g3⟩:=eN hi.vs hk;rw[hx]at d;injection d with d;simp only[Prod.mk.injEq]at d;obtain⟨_,rfl,rfl,rfl⟩:=d;obtain⟨s1,s2⟩:=l _ (List.mem_of_getElem? hx);dsimp only at s1 s2;have hD:=(kT ht s1 s2 hc).1;have HP:=fun(w':World)=>aBr h.free h.step h.aE h.aG a1 a2 a3 h.aD amt w' ht s1 s2 hc
 have f:=aA0 (amt:=amt) hD;have hr:pL h id amt=if(gH h.free h.step h.aE h.aG a1 a2 a3 h.aD amt).2.2=true∧h.aF+amt-(gH h.free h.step h.aE h.aG a1 a2 a3 h.aD amt).2.1≤99999 then some ({h with aF:=h.aF+amt-(gH h.free h.step h.aE h.aG a1 a2 a3 h.aD amt).2.1,vs:=h.vs.set k (id,(gH h.free h.step h.aE h.aG a1 a2 a3 h.aD amt).1)},(gH h.free h.step h.aE h.aG a1 a2 a3 h.aD amt).2.1)else none:=by unfold pL;rw[h2,h1];rfl
 rw[hr];generalize gH h.free h.step h.aE h.aG a1 a2 a3 h.aD amt=r at*;obtain⟨⟨S1,S2,S3⟩,bk,s⟩:=r;dsimp only at HP f⊢;refine(aGp h.aA h.aB h.free h.step h.aE h.aG h.aD h.aF id amt p _ cap b o _ c2 k h.cells h.vs id a1 a2 a3 S1 S2 S3 bk s w hk hm i g hb f hx g1 g2 g3 HL HF HP).mono ?_;rintro e w' (⟨p',a,q',c,b',rfl,hno,hE⟩|⟨rfl,hle,p',a,q',c,rfl,ho1,ho2,hE⟩)
 ·rw[if_neg hno];exact⟨p',a,q',c,b',rfl,hE⟩
 rw[if_pos ⟨rfl,hle⟩];refine⟨p',a,q',c,?_,ho1,?_,hE⟩
 ·simp[cA]
 simpa using ho2
end Go.Proofs.YtpelpnfhbepokaaGreatDoor
