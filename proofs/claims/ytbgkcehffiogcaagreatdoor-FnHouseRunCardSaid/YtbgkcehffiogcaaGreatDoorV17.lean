/-
  Texts of this proof, packed (@packed).
-/
import Derived.Test.YtbgkcehffiogcaaGreatDoorV16
namespace Go.Proofs.YtbgkcehffiogcaaGreatDoor
open Go.RowKit
set_option linter.unusedSimpArgs false
set_option linter.unusedVariables false
set_option maxHeartbeats 8000000
set_option maxRecDepth 100000
section
open Go.Proofs.Tryz
def vix (id:Int)(vs:List aS):Int:=if vs.any (fun v=>v.1==id)then(vs.findIdx (fun v=>v.1==id):Int)else -1
theorem aCi {id:Int}{vs:List aS}{k:Nat}{v:aS}(hv:vs[k]? =some v) (h:v.1=id) (hp:(vs.take k).any (fun v=>v.1==id)=false):vix id vs=k:=by
 have a:k<vs.length:=(aK4.1 hv).1;have e:vs[k]=v:=by have:=(aK4.1 hv).2;exact this
 have ha:vs.any (fun v=>v.1==id)=true:=List.any_eq_true.2 ⟨v,aK5 hv,by simp[h]⟩;have hi:vs.findIdx (fun v=>v.1==id)=k:=by rw[List.findIdx_eq a];refine⟨by simp[e,h],fun j hj=> ?_⟩;have:=List.any_eq_false.1 hp vs[j] (by rw[List.mem_take_iff_getElem];exact⟨j,by omega,rfl⟩);simpa using this
 unfold vix;rw[if_pos ha,hi]
theorem sH {id:Int}{vs:List aS}(hp:vs.any (fun v=>v.1==id)=false):vix id vs= -1:=by unfold vix;simp[hp]
theorem aA2 {id:Int}{vs:List aS}{k:Nat}{v:aS}(hv:vs[k]? =some v) (h: ¬v.1=id) (hp:(vs.take k).any (fun v=>v.1==id)=false):(vs.take (k+1)).any (fun v=>v.1==id)=false:=by rw[bE hv,List.any_append,hp];simp[h]
theorem kX (id:Int)(vs:List aS):(vix id vs= -1∧dI id vs=none)∨ ∃(k:Nat) (a1 a2 a3:Int),k<vs.length∧vix id vs=k∧vs[k]? =some (id,a1,a2,a3)∧dI id vs=some (id,a1,a2,a3):=by
 cases h:vs.any (fun v=>v.1==id)with
 |false=>exact .inl ⟨sH h,by unfold dI;rw[List.find?_eq_none];simpa using h⟩
 |true=>
  right;have a:vs.findIdx (fun v=>v.1==id)<vs.length:=List.findIdx_lt_length.2 (by simpa using h);have hg:=List.findIdx_getElem (w:=a);have hf:dI id vs=some (vs[vs.findIdx (fun v=>v.1==id)]):=by unfold dI;rw[List.find?_eq_some_iff_getElem];exact⟨hg,_,a,rfl,fun j hj=>by simpa using List.not_of_lt_findIdx hj⟩
  have h0:vs[vs.findIdx (fun v=>v.1==id)].1=id:=by simpa using hg
  generalize hb:vs[vs.findIdx (fun v=>v.1==id)]=v at*;obtain⟨b0,b1,b2,b3⟩:=v;dsimp only at h0;subst h0;exact⟨_,b1,b2,b3,a,by unfold vix;rw[if_pos h],by rw[aK2 a,hb],hf⟩
theorem uH (B:Nat)(q:OA)(m c2:Nat)(vs:List aS)(id:Int)(w:World)(hS:Sl w q m c2 4 (vs.flatMap aD))(hB:B<w.heap.size)(hc:w.cell? ⟨B,0,none⟩=some (I id)):
  U 76 #[.slice q m c2,.func (.func 77) #[] #[.pointer (some ⟨B,0,none⟩)]] w (O (I (vix id vs)) w):=by
 have hn:=hS.bd;have HS:=xQ hS;have hl:Hid (vs.length=m):=by have:=hS.len;rw[cR aD 4 (fun _=>rfl)]at this;exact(by omega:vs.length=m)
 clear hS;go_enter func76,ntmps76;go_wp2;go_loopw [8] (fun i wr=> ∃k:Nat,k≤m∧i=I k∧(vs.take k).any (fun v=>v.1==id)=false∧Ext w wr∧w.heap.size≤wr.heap.size∧wr.cell? ⟨B,0,none⟩=some (I id)) (fun i _=>m-(intOf i).toNat)
 case atStart=>exact⟨0,aK8 _,rfl,by simp,by exact .refl _,by simp,by simpa using hc⟩
 case round=>
  obtain⟨k,hk,rfl,hp,hE,f,d⟩:=hrel;have HP:=xQ hp;clear hp;by_cases hlt:k<m
  ·obtain⟨b,g,a0,a1,a2,a3,rfl,hv,hb,g0,g1,g2,g3⟩:=fL (HS.out.ext hE) hlt;have HV:=xQ hv;clear hv;have c:(wr.alloc (.cells #[a0,a1,a2,a3] 64)).cell? ⟨B,0,none⟩=some (I id):=by rw[((Ext.refl wr).alloc _).cells.1 _ _ (by omega)];exact d
   by_cases t:a0=id
   ·have q0:(a0==id)=true:=by simp[t]
    have a:Hid (vix id vs=k):=aCi HV t HP.out;clear t;go_wp2_with go_in;go_ret;exact⟨by rw[a.out];rfl,by exact .alloc hE _⟩
   have q0:(a0==id)=false:=by simp[t]
   have a:Hid ((vs.take (k+1)).any (fun v=>v.1==id)=false):=aA2 HV t HP.out;clear t;go_wp2_with go_in;go_roundw
   case rel=>exact⟨k+1,by omega,by go_num,a.out,by exact .alloc hE _,by simp;omega,c⟩
   case measure=>simp[intOf];omega
  have a:Hid (vix id vs= -1):=sH (by have:=HP.out;rwa[aKb (by rw[hl.out];omega)]at this);go_wp2;go_ret;exact⟨by rw[a.out];rfl,by exact hE⟩
theorem iC (aA aB a b aE aF aC aG id:Int)(p:OA)(n c:Nat)(q:OA)(m c2:Nat)(vs:List aS)(w:World)(hS:Sl w q m c2 4 (vs.flatMap aD)):
  U 38 #[.agg #[aA,aB,.slice p n c,a,b,aE,aF,aC,aG,.slice q m c2],id] w (O (I (vix id vs)) w):=by
 have HI:Hid (∀w1 B,Ext w w1→B<w1.heap.size→w1.cell? ⟨B,0,none⟩=some (I id)→U 76 #[.slice q m c2,.func (.func 77) #[] #[.pointer (some ⟨B,0,none⟩)]] w1 (O (I (vix id vs)) w1)):=
  fun w1 B hx hB hc=>uH B q m c2 vs id w1 (hS.ext hx) hB hc
 clear hS;go_enter func38,ntmps38;go_wp2_with fail;refine Z (HI _ _ (by exact .alloc (.alloc (.refl _) _) _) (by simp) (by simp)) fun w1 h1=>?_
 go_wp2;go_ret;exact⟨rfl,by exact .trans (.alloc (.alloc (.refl _) _) _) h1⟩
theorem oL (aA aB c d aE aF aC aG id:Int)(p:OA)(n f:Nat)(q:OA)(m c2:Nat)(vs:List aS)(w:World)(hS:Sl w q m c2 4 (vs.flatMap aD)):
  U 59 #[.agg #[aA,aB,.slice p n f,c,d,aE,aF,aC,aG,.slice q m c2],id] w (O (I (vix id vs)) w):=by
 have hn:=hS.bd;have HS:=xQ hS;have hl:Hid (vs.length=m):=by have:=hS.len;rw[cR aD 4 (fun _=>rfl)]at this;exact(by omega:vs.length=m)
 clear hS;go_enter func59,ntmps59;go_wp2;go_loop [5] (fun i=> ∃k:Nat,k≤m∧i=I k∧(vs.take k).any (fun v=>v.1==id)=false) (fun i=>m-(intOf i).toNat)
 case atStart=>exact⟨0,aK8 _,rfl,by simp⟩
 case round=>
  obtain⟨k,hk,rfl,hp⟩:=hrel;have HP:=xQ hp;clear hp;by_cases hlt:k<m
  ·obtain⟨b,g,a0,a1,a2,a3,rfl,hv,hb,g0,g1,g2,g3⟩:=fL HS hlt;have HV:=xQ hv;clear hv;by_cases t:a0=id
   ·have q0:(a0==id)=true:=by simp[t]
    have a:Hid (vix id vs=k):=aCi HV t HP.out;clear t;go_wp2;go_ret;exact⟨by rw[a.out];rfl,by exact .alloc (.refl _) _⟩
   have q0:(a0==id)=false:=by simp[t]
   have a:Hid ((vs.take (k+1)).any (fun v=>v.1==id)=false):=aA2 HV t HP.out;clear t;go_wp2;go_round
   case rel=>exact⟨k+1,by omega,by go_num,a.out⟩
   case measure=>simp[intOf];omega
  have a:Hid (vix id vs= -1):=sH (by have:=HP.out;rwa[aKb (by rw[hl.out];omega)]at this);go_wp2;go_ret;exact⟨by rw[a.out];rfl,by exact .alloc (.refl _) _⟩
abbrev TT4:TypeId:=27
abbrev TS3:TypeId:=46
def eM (f s p c i pd a now amt:Int):(Int×Int×Int)×Int×Bool:=
 if 1≤amt∧amt≤300 then
  (if bS f s p c i pd a now=0 then((i,pd,a),amt,false)else((i,pd+min (bS f s p c i pd a now) amt,now),amt-min (bS f s p c i pd a now) amt,true))
 else((0,0,0),amt,false)
theorem iP {f s p c i pd a now:Int}(h:bC f s p c=true)(h2:cN i pd a=true)(h3:a≤now)(h4:now≤9999):0≤bS f s p c i pd a now∧bS f s p c i pd a now≤693:=by obtain⟨b1,b2,b3,b4,b5,b6⟩:=eQ h2;have hb:=pP (m:=now-i) h (by omega) (by omega);unfold bS;rw[if_pos (by simp[h,h2,h3,h4])];omega
theorem aDi (i pd a now f s p c amt D:Int)(w:World)(hD:0≤D)(j:D≤693)(k:0≤pd)(hp:pd≤9999)
  (HD:Hid (∀w,U 128 #[aP f s p c,bO i pd a,now] w (O (I D) w)))
  (HI:Hid (∀w,U 31 #[amt,I 1,I 300] w fun e w'=>e= .returned (.bool false)∧w=w'))(ha:amt<1∨300<amt):
  U 94 #[aP f s p c,bO i pd a,now,amt] w (O (.tuple #[bO 0 0 0,amt,.bool false]) w):=by
 go_enter func94,ntmps94;go_wp2_with fail;refine Z (HD _) fun w1 b=>?_
 have M1:=(((((Mem.start w).c0 TT4 #[f,s,p,c]).c1 TS3 #[i,pd,a]).c2 TS3 #[(),(),()]).adv b)
 clear b;go_wp2_with fail;refine(HI _).mono ?_;rintro e _ ⟨rfl,rfl⟩;obtain⟨d0,d1,d2⟩:=(M1.bk 0).tri;have d:=(M1.bk 0).frozen 0;have g:=(M1.bk 0).frozen 1;have h:=(M1.bk 0).frozen 2;clear HD HI;go_wp2;clear d0 d1 d2 d g h;have M2:=(((M1.st 0 0 (I 0)).st 0 1 (I 0)).st 0 2 (I 0))
 generalize World.setCell _ _ _=wz at M2⊢;clear M1;obtain⟨y0,y1,y2⟩:=(M2.bk 0).tri;exact bodyPost_ret (v:= .tuple #[.agg #[(),(),()],amt,.bool false]) (by simp[results,results94,go_sem, *]) rfl ⟨rfl,M2.ext⟩
theorem yC (i pd a now f s p c amt:Int)(w:World)(j:0≤pd)(hp:pd≤9999)
  (HD:Hid (∀w,U 128 #[aP f s p c,bO i pd a,now] w (O (I 0) w)))
  (HI:Hid (∀w,U 31 #[amt,I 1,I 300] w fun e w'=>e= .returned (.bool true)∧w=w'))(ha:1≤amt)(hb:amt≤300):
  U 94 #[aP f s p c,bO i pd a,now,amt] w (O (.tuple #[bO i pd a,amt,.bool false]) w):=by
 go_enter func94,ntmps94;go_wp2_with fail;refine Z (HD _) fun w1 b=>?_
 have M1:=(((((Mem.start w).c0 TT4 #[f,s,p,c]).c1 TS3 #[i,pd,a]).c2 TS3 #[(),(),()]).adv b)
 clear b;go_wp2_with fail;refine(HI _).mono ?_;rintro e _ ⟨rfl,rfl⟩;obtain⟨c0,c1,c2⟩:=(M1.bk 1).tri;obtain⟨d0,d1,d2⟩:=(M1.bk 0).tri;have d:=(M1.bk 0).frozen 0;have g:=(M1.bk 0).frozen 1;have h:=(M1.bk 0).frozen 2;clear HD HI;go_wp2;clear c0 c1 c2 d0 d1 d2 d g h;have M2:=(((M1.st 0 0 (I i)).st 0 1 (I pd)).st 0 2 (I a))
 generalize World.setCell _ _ _=wz at M2⊢;clear M1;obtain⟨y0,y1,y2⟩:=(M2.bk 0).tri;exact bodyPost_ret (v:= .tuple #[.agg #[i,pd,a],amt,.bool false]) (by simp[results,results94,go_sem, *]) rfl ⟨rfl,M2.ext⟩
theorem aAc (i pd a now f s p c amt D:Int)(w:World)(hD:0≤D)(k:D≤693)(m:0≤pd)(hp:pd≤9999)
  (HD:Hid (∀w,U 128 #[aP f s p c,bO i pd a,now] w (O (I D) w)))
  (HI:Hid (∀w,U 31 #[amt,I 1,I 300] w fun e w'=>e= .returned (.bool true)∧w=w'))(ha:1≤amt)(hb:amt≤300)(j:1≤D):
  U 94 #[aP f s p c,bO i pd a,now,amt] w (O (.tuple #[bO i (pd+min D amt) now,(amt-min D amt:Int),.bool true]) w):=by
 go_enter func94,ntmps94;go_wp2_with fail;refine Z (HD _) fun w1 b=>?_
 have M1:=(((((Mem.start w).c0 TT4 #[f,s,p,c]).c1 TS3 #[i,pd,a]).c2 TS3 #[(),(),()]).adv b)
 clear b;go_wp2_with fail;refine(HI _).mono ?_;rintro e _ ⟨rfl,rfl⟩;obtain⟨c0,c1,c2⟩:=(M1.bk 1).tri;obtain⟨d0,d1,d2⟩:=(M1.bk 0).tri;have d:=(M1.bk 0).frozen 0;have g:=(M1.bk 0).frozen 1;have h:=(M1.bk 0).frozen 2;clear HD HI;have k1:IntKind.i64.wrap (pd+min D amt)=pd+min D amt:=aK3 _ (by omega);have k2:IntKind.i64.wrap (amt-min D amt)=amt-min D amt:=aK3 _ (by omega);have l:(D==0)=false:=by simp;omega
 go_wp2;clear c0 c1 c2 d0 d1 d2 d g h;have M2:=(((M1.st 0 0 (I i)).st 0 1 (I (pd+min D amt))).st 0 2 (I now))
 generalize World.setCell _ _ _=wz at M2⊢;clear M1;obtain⟨y0,y1,y2⟩:=(M2.bk 0).tri;exact bodyPost_ret (v:= .tuple #[.agg #[i,(pd+min D amt:Int),now],(amt-min D amt:Int),.bool true]) (by simp[results,results94,go_sem, *]) rfl ⟨rfl,M2.ext⟩
theorem yQ (f s p c i pd a now amt:Int)(w:World)(h:bC f s p c=true)(h2:cN i pd a=true)(h3:a≤now)(h4:now≤9999):
  U 94 #[aP f s p c,bO i pd a,now,amt] w (O (.tuple #[bO (eM f s p c i pd a now amt).1.1 (eM f s p c i pd a now amt).1.2.1 (eM f s p c i pd a now amt).1.2.2,I (eM f s p c i pd a now amt).2.1,.bool (eM f s p c i pd a now amt).2.2]) w):=by
 obtain⟨b1,b2,b3,b4,b5,b6⟩:=eQ h2;obtain⟨e1,e2⟩:=iP h h2 h3 h4;have HD:=xQ (fun w=>aAb f s p c i pd a now w h h2 h3 h4);unfold eM;generalize bS f s p c i pd a now=D at*;by_cases ha:1≤amt∧amt≤300
 ·have HI:Hid (∀w,U 31 #[amt,I 1,I 300] w fun e w'=>e= .returned (.bool true)∧w=w'):=fun w=>lG amt 1 300 w ha.1 ha.2
  rw[if_pos ha];by_cases hd:D=0
  ·subst hd;rw[if_pos rfl];exact yC i pd a now f s p c amt w b3 b4 HD HI ha.1 ha.2
  rw[if_neg hd];exact aAc i pd a now f s p c amt D w e1 e2 b3 b4 HD HI ha.1 ha.2 (by omega)
 have HI:Hid (∀w,U 31 #[amt,I 1,I 300] w fun e w'=>e= .returned (.bool false)∧w=w'):=fun w=>rY amt 1 300 w (by omega)
 rw[if_neg ha];exact aDi i pd a now f s p c amt D w e1 e2 b3 b4 HD HI (by omega)
end
section
open Go.Proofs.Tryz
section
variable {w0 w w':World} {L:List Item}
theorem Mem.own2 {b n c sz n2 c2 sz2:Nat}{e e2:TypeId}{q q2:OA}{xs i:List Value}(h:Mem w0 w L)(hx:Ext w w')(a:w'.ownsRow b e sz (.slice q n c) n xs)(g:w'.ownsRow b e2 sz2 (.slice q2 n2 c2) n2 i)(hb:w.heap.size≤b)(ht:e≠e2):
  Mem w0 w' (aJ w0 e sz q n c xs::aJ w0 e2 sz2 q2 n2 c2 i::L):=by
 refine(h.ownNew hx g hb).cons (dD _ _ _ _ _ _ _) (cT a (aK9 h.ext.sz hb)) (fun g' hg' j hj e'=> ?_);replace hg':(Value.slice q n c).ownBlock=Option.some g':=hg';have h1:=(aKp a g' hg').1;rcases aKh.1 hj with rfl|hj
 ·replace e':(Value.slice q2 n2 c2).ownBlock=Option.some g':=e';rcases a.2 with⟨h2,_⟩|⟨g2,cap',cur,h2,_,h3,_⟩
  ·rw[h2]at hg';cases hg'
  rcases g.2 with⟨k2,_⟩|⟨g3,cap3,cur3,k2,_,k3,_⟩
  ·rw[k2]at e';cases e'
  rw[h2]at hg';rw[k2]at e';injection hg' with hg';injection e' with e';have f:g2=g':=hg';have d:g3=g':=e';subst f;subst d;rw[h3]at k3;injection k3 with k3;injection k3 with _ k3;exact ht k3
 have h2:=((h.good j hj).lt w (h.ok j hj) g' e').2;omega
end
theorem wB (aA aB a c aE aF aC aG id amt:Int)(p:OA)(n d:Nat)(q:OA)(m c2:Nat)(xs:List Int)(vs:List aS)(w:World)
  (HL:xC 25 #[.agg #[aA,aB,.slice p n d,a,c,aE,aF,aC,aG,.slice q m c2]] w fun w' e w''=> ∃p' cap' q' c2',e= .returned (.agg #[aA,aB,.slice p' n cap',a,c,aE,aF,aC,aG,.slice q' m c2'])∧w''.ownsRow w' TI 1 (.slice p' n cap') n (ivs xs)∧w''.ownsRow w' TV 4 (.slice q' m c2') m (vs.flatMap aD)∧Ext w' w'')
  (HF:xC 59 #[.agg #[aA,aB,.slice p n d,a,c,aE,aF,aC,aG,.slice q m c2],id] w fun w' e w''=>e= .returned (I (-1))∧Ext w' w''):
  U 57 #[.agg #[aA,aB,.slice p n d,a,c,aE,aF,aC,aG,.slice q m c2],id,amt] w fun e w'=> ∃p' cap' q' c2' b,e= .returned (.tuple #[.agg #[aA,aB,.slice p' n cap',a,c,aE,aF,aC,aG,.slice q' m c2'],b,.bool false])∧Ext w w':=by
 go_enter func57,ntmps57;go_wp2_with fail;refine(HL _ (((Mem.start w).c0 aL #[aA,aB,.slice p n d,a,c,aE,aF,aC,aG,.slice q m c2]).c1 aL zT).ext).mono ?_;rintro e w1 ⟨p1,f,q1,g,rfl,j,k,o⟩;have M1:=((((Mem.start w).c0 aL #[aA,aB,.slice p n d,a,c,aE,aF,aC,aG,.slice q m c2]).c1 aL zT).own2 o j k (aK1 _) (by decide))
 have h:=M1.hi 3;clear o j k HL;obtain⟨s,t,u,x,y,z,aa,ab,ad,ae⟩:=(M1.bk 3).ten;go_wp2_with fail;clear s t u x y z aa ab ad ae;refine Z (HF _ (M1.c0 aL #[aA,aB,.slice p1 n f,a,c,aE,aF,aC,aG,.slice q1 m g]).ext) fun w2 r=>?_
 have M2:=((M1.c0 aL #[aA,aB,.slice p1 n f,a,c,aE,aF,aC,aG,.slice q1 m g]).adv r)
 clear M1 h r HF;obtain⟨d0,d1,d2,d3,d4,d5,d6,d7,d8,d9⟩:=(M2.bk 0).ten;obtain⟨f0,af,f1,ag,f2,ah,f3,ai,f4,aj,f5,ak,f6,al,f7,am,f8,an,f9,ao⟩:=(M2.bk 3).tenf;go_wp2;clear d0 d1 d2 d3 d4 d5 d6 d7 d8 d9 f0 af f1 ag f2 ah f3 ai f4 aj f5 ak f6 al f7 am f8 an f9 ao;have M3:=(M2.put10 (i:=3) rfl (I aA) (I aB) (.slice p1 n f) (I a) (I c) (I aE) (I aF) (I aC) (I aG) (.slice q1 m g))
 generalize l:World.setCell _ _ _=wz;rw[l]at M3;clear l M2;obtain⟨y0,y1,y2,y3,y4,y5,y6,y7,y8,y9⟩:=(M3.bk 3).ten;exact bodyPost_ret (v:= .tuple #[.agg #[aA,aB,.slice p1 n f,a,c,aE,aF,aC,aG,.slice q1 m g],amt,.bool false]) (by simp[results,results57,go_sem, *]) rfl ⟨p1,f,q1,g,amt,rfl,M3.ext⟩
theorem uV {vs:List aS}{k:Nat}{a0 a1 a2 a3:Int}(h:vs[k]? =some (a0,a1,a2,a3)) (S1 S2 S3:Int):
  (((vs.flatMap aD).set (k*4+1) (I S1)).set (k*4+2) (I S2)).set (k*4+3) (I S3)=(vs.set k (a0,S1,S2,S3)).flatMap aD:=by
 induction vs generalizing k with
 |nil=>simp at h
 |cons v vs ih=>
  cases k with
  |zero=>simp at h;subst h;simp[aD]
  |succ k=>
   have h':vs[k]? =some (a0,a1,a2,a3):=by simpa using h
   rw[aKc,aL8,aL8,←ih h'];simp only[aD,aMb,aLx];rw[show(k+1)*4+1=(k*4+1)+1+1+1+1 by omega,show(k+1)*4+2=(k*4+2)+1+1+1+1 by omega,show(k+1)*4+3=(k*4+3)+1+1+1+1 by omega];simp only[aKc]
theorem aDj (aA aB c d aE aF aC aG id amt:Int)(p:OA)(n q b h m c2 k:Nat)(xs:List Int)(vs:List aS)(a0 a1 a2 a3 S1 S2 S3 bk:Int)(r:Bool)(w:World)(hk:k<m)(hm:m≤1000)(hb:b<w.heap.size)(cs:0≤aG)(ch:aG≤99999)(b5:r=true→0≤bk∧bk≤amt∧amt≤300)(bt:Hid (vs[k]? =some (a0,a1,a2,a3)))
  (g1:w.cell? ⟨b,h+k*4+1,none⟩=some (I a1)) (g2:w.cell? ⟨b,h+k*4+2,none⟩=some (I a2)) (g3:w.cell? ⟨b,h+k*4+3,none⟩=some (I a3))
  (HL:xC 25 #[.agg #[aA,aB,.slice p n q,c,d,aE,aF,aC,aG,.slice (some ⟨b,h,none⟩) m c2]] w fun w' e w''=> ∃p' cap' q' c2',e= .returned (.agg #[aA,aB,.slice p' n cap',c,d,aE,aF,aC,aG,.slice q' m c2'])∧w''.ownsRow w' TI 1 (.slice p' n cap') n (ivs xs)∧w''.ownsRow w' TV 4 (.slice q' m c2') m (vs.flatMap aD)∧Ext w' w'')
  (HF:xC 59 #[.agg #[aA,aB,.slice p n q,c,d,aE,aF,aC,aG,.slice (some ⟨b,h,none⟩) m c2],id] w fun w' e w''=>e= .returned (I k)∧Ext w' w'')
  (HP:Hid (∀w',U 94 #[aP c d aE aF,bO a1 a2 a3,aC,amt] w' (O (.tuple #[bO S1 S2 S3,bk,.bool r]) w'))):
  U 57 #[.agg #[aA,aB,.slice p n q,c,d,aE,aF,aC,aG,.slice (some ⟨b,h,none⟩) m c2],id,amt] w fun e w'=>(∃p' cap' q' c2' b,e= .returned (.tuple #[.agg #[aA,aB,.slice p' n cap',c,d,aE,aF,aC,aG,.slice q' m c2'],b,.bool false])∧ ¬(r=true∧aG+amt-bk≤99999)∧Ext w w')∨
   (r=true∧aG+amt-bk≤99999∧ ∃p' cap' q' c2',e= .returned (.tuple #[.agg #[aA,aB,.slice p' n cap',c,d,aE,aF,aC,(aG+amt-bk:Int),.slice q' m c2'],bk,.bool true])∧w'.ownsRow w TI 1 (.slice p' n cap') n (ivs xs)∧w'.ownsRow w TV 4 (.slice q' m c2') m ((vs.set k (a0,S1,S2,S3)).flatMap aD)∧Ext w w'):=by
 go_enter func57,ntmps57;go_wp2_with fail;refine(HL _ (((Mem.start w).c0 aL #[aA,aB,.slice p n q,c,d,aE,aF,aC,aG,.slice (some ⟨b,h,none⟩) m c2]).c1 aL zT).ext).mono ?_;rintro e w1 ⟨p1,f,q1,g,rfl,bm,bo,bq⟩;have M1:=((((Mem.start w).c0 aL #[aA,aB,.slice p n q,c,d,aE,aF,aC,aG,.slice (some ⟨b,h,none⟩) m c2]).c1 aL zT).own2 bq bm bo (aK1 _) (by decide))
 have bb:=M1.hi 3;clear bq bm bo HL;obtain⟨aw,ax,ay,az,a4,a5,a6,a7,a8,a9⟩:=(M1.bk 3).ten;go_wp2_with fail;clear aw ax ay az a4 a5 a6 a7 a8 a9;refine Z (HF _ (M1.c0 aL #[aA,aB,.slice p1 n f,c,d,aE,aF,aC,aG,.slice q1 m g]).ext) fun w2 br=>?_
 have M2:=((M1.c0 aL #[aA,aB,.slice p1 n f,c,d,aE,aF,aC,aG,.slice q1 m g]).adv br)
 clear M1 bb br HF;have bc:=M2.hi 3;obtain⟨aw,ax,ay,az,a4,a5,a6,a7,a8,a9⟩:=(M2.bk 4).ten;have af:=M2.ext;have bd:w2.cell? ⟨b,h+k*4+1,none⟩=some (I a1):=(af.cells.1 _ _ hb).trans g1;have be:w2.cell? ⟨b,h+k*4+2,none⟩=some (I a2):=(af.cells.1 _ _ hb).trans g2;have bf:w2.cell? ⟨b,h+k*4+3,none⟩=some (I a3):=(af.cells.1 _ _ hb).trans g3;have ah:b<w2:=aK0 hb af.sz;clear af;have i1:(0:Int)≤(k:Int):=by omega
 have i2:(k:Int)<(m:Int):=by omega
 have n2: ¬(w2.heap.size=w.heap.size):=by omega
 have n4: ¬(w2.heap.size=b):=by omega
 go_upto_region 5 with fail;go_cut [11,12,13] (fun s11 s12 s13 wx=> ∃a:Nat,s11= .pointer (some ⟨a,0,none⟩)∧s12=I bk∧s13= .bool r∧Ext w2 wx∧w2.heap.size≤a∧Blk wx a TS3 #[S1,S2,S3])
 case first=>
  go_region_held3 (fun w'=>w'.cell? ⟨w,3,none⟩=some (I c)∧w'.cell? ⟨w,4,none⟩=some (I d)∧w'.cell? ⟨w,5,none⟩=some (I aE)∧w'.cell? ⟨w,6,none⟩=some (I aF)∧w'.cell? ⟨w,7,none⟩=some (I aC)∧w'.cell? ⟨w,9,none⟩=some (.slice (some ⟨b,h,none⟩) m c2)∧w'.cell? ⟨b,h+k*4+1,none⟩=some (I a1)∧w'.cell? ⟨b,h+k*4+2,none⟩=some (I a2)∧w'.cell? ⟨b,h+k*4+3,none⟩=some (I a3))
   (first|(refine⟨?_,?_,?_,?_,?_,?_,?_,?_,?_⟩<;>assumption)|go_keep)
   ((go_at_call 94
     refine Z (HP _) fun w5 bs=>?_
     have j:Ext w2 w5:=xE;have ci:=((M2.bk 4).ext j).cl 3;have cj:=((M2.bk 4).ext j).cl 4;have ck:=((M2.bk 4).ext j).cl 5;have cm:=((M2.bk 4).ext j).cl 6;have cn:=((M2.bk 4).ext j).cl 7;have co:=((M2.bk 4).ext j).cl 9;have cp:w5.cell? ⟨b,h+k*4+1,none⟩=some (I a1):=(j.cells.1 _ _ ah).trans bd;have cq:w5.cell? ⟨b,h+k*4+2,none⟩=some (I a2):=(j.cells.1 _ _ ah).trans be;have cr:w5.cell? ⟨b,h+k*4+3,none⟩=some (I a3):=(j.cells.1 _ _ ah).trans bf
     first
      |(have ba:Ext (w2.alloc (.cells #[(),(),()] TS3)) w5:=bs
        have BB:=(Blk.new w2 TS3 #[(),(),()]).ext ba;have cb:=BB.cl 0;have ce:=BB.frozen 0;have cc:=BB.cl 1;have cf:=BB.frozen 1;have cd:=BB.cl 2
        have cg:w5.frozen? ⟨w2,2,none⟩=false:=BB.frozen 2)
      |(have ba:Ext (w2.alloc (.cells #[(),(),()] TS3)) w5:=bs.of_drew
        have BB:=(Blk.new w2 TS3 #[(),(),()]).ext ba;have cb:=BB.cl 0;have ce:=BB.frozen 0;have cc:=BB.cl 1;have cf:=BB.frozen 1;have cd:=BB.cl 2
        have cg:w5.frozen? ⟨w2,2,none⟩=false:=BB.frozen 2)
      |skip))
  ·go_wp2_with fail;go_meet;exact⟨w5.heap.size,rfl,rfl,rfl,by exact .alloc j _,by have:=j.sz;omega,Blk.new _ _ _⟩
  have hR:ExtR w2 w5 _:=(((ExtR.refl w2 w5).setCell (p:=⟨w2,0,none⟩) (.inl rfl) (I S1)).setCell (p:=⟨w2,1,none⟩) (.inl rfl) (I S2)).setCell (p:=⟨w2,2,none⟩) (.inl rfl) (I S3);have hY:=((BB.set 0 (I S1)).set 1 (I S2)).set 2 (I S3);simp only[aKe,aKf,aKc]at hY;go_wp2_with fail;go_meet;exact⟨w2.heap.size,rfl,rfl,rfl,ExtR.new j hR (aK1 _),aK1 _,hY⟩
 case rest=>
  clear aw ax ay az a4 a5 a6 a7 a8 a9 bd be bf ah HP n2 n4;obtain⟨a,rfl,rfl,rfl,bh,ha,bg⟩:=hcut;have M3:=(M2.blkOf bh bg ha)
  clear M2 bc bh ha bg;cases r with
  |false=>
   have ag:Hid (¬(false=true∧aG+amt-bk≤99999)):=by show¬_;simp
   obtain⟨d0,d1,d2,d3,d4,d5,d6,d7,d8,d9⟩:=(M3.bk 1).ten;obtain⟨f0,s,f1,t,f2,u,f3,x,f4,y,f5,z,f6,aa,f7,ab,f8,ad,f9,ae⟩:=(M3.bk 4).tenf;go_wp2;clear d0 d1 d2 d3 d4 d5 d6 d7 d8 d9 f0 s f1 t f2 u f3 x f4 y f5 z f6 aa f7 ab f8 ad f9 ae;have M4:=(M3.put10 (i:=4) rfl (I aA) (I aB) (.slice p1 n f) (I c) (I d) (I aE) (I aF) (I aC) (I aG) (.slice q1 m g))
   generalize o:World.setCell _ _ _=wz;rw[o]at M4;clear o M3;obtain⟨y0,y1,y2,y3,y4,y5,y6,y7,y8,y9⟩:=(M4.bk 4).ten;exact bodyPost_ret (v:= .tuple #[.agg #[aA,aB,.slice p1 n f,c,d,aE,aF,aC,aG,.slice q1 m g],amt,.bool false]) (by simp[results,results57,go_sem, *]) rfl (by first|exact .inl ⟨p1,f,q1,g,amt,rfl,ag.out,M4.ext⟩|(have l:=ag.out;simp at l;first|exact .inl ⟨p1,f,q1,g,amt,rfl,l,M4.ext⟩|exact .inl ⟨p1,f,q1,g,amt,rfl,by omega,M4.ext⟩|exact .inl ⟨⟨p1,f,q1,g,amt,rfl⟩,l,M4.ext⟩|exact .inl ⟨⟨p1,f,q1,g,amt,rfl⟩,by omega,M4.ext⟩|exact .inl ⟨⟨p1,f,q1,g,amt,rfl⟩,M4.ext⟩|exact⟨⟨p1,f,q1,g,amt,rfl⟩,M4.ext⟩))
  |true=>
   obtain⟨o1,o2,o3⟩:=b5 rfl;have k1:IntKind.i64.wrap (aG+amt)=aG+amt:=aK3 _ (by omega);have k2:IntKind.i64.wrap (aG+amt-bk)=aG+amt-bk:=aK3 _ (by omega);have h8:=(M3.bk 5).cl 8;by_cases hq:aG+amt-bk≤99999
   ·have hd:decide (99999<aG+amt-bk)=false:=by simp;omega
    have bp:=xQ hq;clear hq;obtain⟨gq,rfl,bj,bl⟩:=M3.so 3;obtain⟨b9,o9,x0,x1,x2,x3,e9,b6,_,y0,y1,y2,y3⟩:=fL (M3.sq 3) hk;injection e9 with e9;injection e9 with e9 e8;subst e9 e8;simp only[aL4]at y1 y2 y3;clear b6 y0 bj;obtain⟨d0,bu,d1,bv,d2,bw,d3,bx,d4,bz,d5,b0,d6,b1,d7,b2,d8,b3,d9,b4⟩:=(M3.bk 1).tenf;obtain⟨f0,s,f1,t,f2,u,f3,x,f4,y,f5,z,f6,aa,f7,ab,f8,ad,f9,ae⟩:=(M3.bk 4).tenf;obtain⟨b7,b8,ca⟩:=(M3.bk 0).tri;have z1:wc.frozen? ⟨gq,k*4+1,none⟩=false:=(M3.ow 3).frozenAt (k*4+1);have z2:wc.frozen? ⟨gq,k*4+2,none⟩=false:=(M3.ow 3).frozenAt (k*4+2);have z3:wc.frozen? ⟨gq,k*4+3,none⟩=false:=(M3.ow 3).frozenAt (k*4+3);obtain⟨ai,aj⟩:=M3.nq 1 4;obtain⟨ak,al⟩:=M3.nq 0 4;obtain⟨am,an⟩:=M3.nq 3 4;obtain⟨ao,ap⟩:=M3.nq 0 1;obtain⟨aq,ar⟩:=M3.nq 1 3;obtain⟨au,av⟩:=M3.nq 0 3;have M4:=(show Mem w (((wc.setCell ⟨gq,k*4+1,none⟩ (I S1)).setCell ⟨gq,k*4+2,none⟩ (I S2)).setCell ⟨gq,k*4+3,none⟩ (I S3)) [aI w (a) TS3 #[S1,S2,S3],aI w w1 aL #[aA,aB,.slice p1 n f,c,d,aE,aF,aC,aG,.slice (some ⟨gq,0,none⟩) m g],aJ w TI 1 (p1) (n) (f) (ivs xs),aJ w TV 4 (some ⟨gq,0,none⟩) (m) (g) ((((vs.flatMap aD).set (k*4+1) (I S1)).set (k*4+2) (I S2)).set (k*4+3) (I S3)),aI w (w.heap.size+1) aL #[(),(),((),()),(),(),(),(),(),(),((),())],aI w w aL #[aA,aB,.slice p n q,c,d,aE,aF,aC,aG,.slice (some ⟨b,h,none⟩) m c2]]from(((M3.ostore (i:=3) rfl (k*4+1) (I S1)).ostore (i:=3) rfl (k*4+2) (I S2)).ostore (i:=3) rfl (k*4+3) (I S3)))
    have M5:=(M4.st 1 8 (I (aG+amt-bk)))
    have bi:Hid ((((vs.flatMap aD).set (k*4+1) (I S1)).set (k*4+2) (I S2)).set (k*4+3) (I S3)=(vs.set k (a0,S1,S2,S3)).flatMap aD):=uV bt S1 S2 S3;go_wp2;clear d0 bu d1 bv d2 bw d3 bx d4 bz d5 b0 d6 b1 d7 b2 d8 b3 d9 b4 f0 s f1 t f2 u f3 x f4 y f5 z f6 aa f7 ab f8 ad f9 ae b7 b8 ca z1 z2 z3 ai aj ak al am an ao ap aq ar au av y1 y2 y3 bl h8;have M6:=(M5.put10 (i:=4) rfl (I aA) (I aB) (.slice p1 n f) (I c) (I d) (I aE) (I aF) (I aC) (I (aG+amt-bk)) (.slice (some ⟨gq,0,none⟩) m g))
    generalize o:World.setCell _ _ _=wz;rw[o]at M6;clear o M3 M4 M5;obtain⟨y0,y1,y2,y3,y4,y5,y6,y7,y8,y9⟩:=(M6.bk 4).ten;exact bodyPost_ret (v:= .tuple #[.agg #[aA,aB,.slice p1 n f,c,d,aE,aF,aC,(aG+amt-bk:Int),.slice (some ⟨gq,0,none⟩) m g],bk,.bool true]) (by simp[results,results57,go_sem, *]) rfl (by first|exact .inr ⟨rfl,bp.out,p1,f,some ⟨gq,0,none⟩,g,rfl,(M6.ow 2),by rw[←bi.out];exact(M6.ow 3),M6.ext⟩|exact .inr ⟨bp.out,p1,f,some ⟨gq,0,none⟩,g,rfl,(M6.ow 2),by rw[←bi.out];exact(M6.ow 3),M6.ext⟩)
   have ag:Hid (¬(true=true∧aG+amt-bk≤99999)):=by show¬_;simp[hq]
   have hd:decide (99999<aG+amt-bk)=true:=by simp;omega
   obtain⟨d0,d1,d2,d3,d4,d5,d6,d7,d8,d9⟩:=(M3.bk 1).ten;obtain⟨f0,s,f1,t,f2,u,f3,x,f4,y,f5,z,f6,aa,f7,ab,f8,ad,f9,ae⟩:=(M3.bk 4).tenf;go_wp2;clear d0 d1 d2 d3 d4 d5 d6 d7 d8 d9 f0 s f1 t f2 u f3 x f4 y f5 z f6 aa f7 ab f8 ad f9 ae;have M4:=(M3.put10 (i:=4) rfl (I aA) (I aB) (.slice p1 n f) (I c) (I d) (I aE) (I aF) (I aC) (I aG) (.slice q1 m g))
   generalize o:World.setCell _ _ _=wz;rw[o]at M4;clear o M3;obtain⟨y0,y1,y2,y3,y4,y5,y6,y7,y8,y9⟩:=(M4.bk 4).ten;exact bodyPost_ret (v:= .tuple #[.agg #[aA,aB,.slice p1 n f,c,d,aE,aF,aC,aG,.slice q1 m g],amt,.bool false]) (by simp[results,results57,go_sem, *]) rfl (by first|exact .inl ⟨p1,f,q1,g,amt,rfl,ag.out,M4.ext⟩|(have l:=ag.out;simp at l;first|exact .inl ⟨p1,f,q1,g,amt,rfl,l,M4.ext⟩|exact .inl ⟨p1,f,q1,g,amt,rfl,by omega,M4.ext⟩|exact .inl ⟨⟨p1,f,q1,g,amt,rfl⟩,l,M4.ext⟩|exact .inl ⟨⟨p1,f,q1,g,amt,rfl⟩,by omega,M4.ext⟩|exact .inl ⟨⟨p1,f,q1,g,amt,rfl⟩,M4.ext⟩|exact⟨⟨p1,f,q1,g,amt,rfl⟩,M4.ext⟩))
theorem Mem.st4 {P:Program}{f:FuncId}{s:Array Value}{w0 w:World}{L:List Item}{F:OA→Nat→OA→Nat→Value}{t1 t2:TypeId}{n1 s1 n2 s2:Nat}{xs ys:List Value}{K:Ending→World→Prop}(M:Mem w0 w L)(H:Mem w0 w L→Calls P f s w fun e w'=> ∃p c q d,e= .returned (F p c q d)∧w'.ownsRow w t1 s1 (.slice p n1 c) n1 xs∧w'.ownsRow w t2 s2 (.slice q n2 d) n2 ys∧Ext w w')(k: ∀w' p c q d,Mem w0 w' (aJ w0 t1 s1 p n1 c xs::aJ w0 t2 s2 q n2 d ys::L)→K (.returned (F p c q d)) w')(a:t1≠t2:=by decide):Calls P f s w K:=(H M).mono (by rintro e w' ⟨p,c,q,d,rfl,ho,hv,hx⟩;exact k w' p c q d (M.own2 hx ho hv (aK1 _) a))
end
theorem wO {f s p c i pd a now amt:Int}(hD:0≤bS f s p c i pd a now)(h:(eM f s p c i pd a now amt).2.2=true):0≤(eM f s p c i pd a now amt).2.1∧(eM f s p c i pd a now amt).2.1≤amt∧amt≤300:=by
 unfold eM at h⊢;split at h
 ·rename_i h1;rw[if_pos h1];split at h
  ·cases h
  rename_i h2;rw[if_neg h2];dsimp only;omega
 cases h
def mL (h:aO)(id amt:Int):Option (aO×Int):=
 match dI id h.vs with
 |none=>none
 |some v=>if(eM h.free h.step h.aE h.aF v.2.1 v.2.2.1 v.2.2.2 h.aC amt).2.2=true∧h.aG+amt-(eM h.free h.step h.aE h.aF v.2.1 v.2.2.1 v.2.2.2 h.aC amt).2.1≤99999 then
   some ({h with aG:=h.aG+amt-(eM h.free h.step h.aE h.aF v.2.1 v.2.2.1 v.2.2.2 h.aC amt).2.1,vs:=h.vs.set (vix id h.vs).toNat (id,(eM h.free h.step h.aE h.aF v.2.1 v.2.2.1 v.2.2.2 h.aC amt).1)},(eM h.free h.step h.aE h.aF v.2.1 v.2.2.1 v.2.2.2 h.aC amt).2.1)
  else none
def aHu (h:aO)(r:Option (aO×Int))(w:World)(e:Ending)(w':World):Prop:=
 match r with
 |none=> ∃p cap q c2 b,e= .returned (.tuple #[bN h p h.cells.length cap q h.vs.length c2,b,.bool false])∧Ext w w'
 |some (h',b)=> ∃p cap q c2,e= .returned (.tuple #[bN h' p h'.cells.length cap q h'.vs.length c2,b,.bool true])∧w'.ownsRow w.heap.size TI 1 (.slice p h'.cells.length cap) h'.cells.length (ivs h'.cells)∧w'.ownsRow w.heap.size TV 4 (.slice q h'.vs.length c2) h'.vs.length (h'.vs.flatMap aD)∧Ext w w'
theorem aE5 (h:aO)(id amt:Int)(p:OA)(n c:Nat)(q:OA)(m c2:Nat)(w:World)(hn:n≤1000)(hm:m≤1000)(hi:IsHouse w h p n c q m c2)
  (ht:bC h.free h.step h.aE h.aF=true)(o: ∀v∈h.vs,cN v.2.1 v.2.2.1 v.2.2.2=true∧v.2.2.2≤h.aC)(hc:h.aC≤9999)(i:0≤h.aG)(hb:h.aG≤99999):
  U 57 #[bN h p n c q m c2,id,amt] w (aHu h (mL h id amt) w):=by
 have hl:=hi.clen;have l:=hi.vlen;have HL:=fun(w':World) (hx:Ext w w')=>oM h p n c q m c2 w' hn hm (hi.ext hx)
 have HF:=fun(w':World) (hx:Ext w w')=>oL h.aA h.aB h.free h.step h.aE h.aF h.aC h.aG id p n c q m c2 h.vs w' (hi.vs.ext hx)
 unfold RetHouse at HL;subst hl l;rcases kX id h.vs with⟨h1,h2⟩|⟨k,a1,a2,a3,hk,h1,hx,h2⟩
 ·rw[h1]at HF;have hr:mL h id amt=none:=by unfold mL;rw[h2]
  rw[hr];refine(wB h.aA h.aB h.free h.step h.aE h.aF h.aC h.aG id amt p _ c q _ c2 h.cells h.vs w HL HF).mono ?_;rintro e w' ⟨p',a,q',d,b,rfl,hE⟩;exact⟨p',a,q',d,b,rfl,hE⟩
 rw[h1]at HF;obtain⟨b,s,x0,x1,x2,x3,rfl,f,j,_,g1,g2,g3⟩:=fL hi.vs hk;rw[hx]at f;injection f with f;simp only[aKx]at f;obtain⟨_,rfl,rfl,rfl⟩:=f;obtain⟨s1,s2⟩:=o _ (aK5 hx);dsimp only at s1 s2;have hD:=(iP ht s1 s2 hc).1;have HP:=fun(w':World)=>yQ h.free h.step h.aE h.aF a1 a2 a3 h.aC amt w' ht s1 s2 hc
 have g:=wO (amt:=amt) hD;have hr:mL h id amt=if(eM h.free h.step h.aE h.aF a1 a2 a3 h.aC amt).2.2=true∧h.aG+amt-(eM h.free h.step h.aE h.aF a1 a2 a3 h.aC amt).2.1≤99999 then some ({h with aG:=h.aG+amt-(eM h.free h.step h.aE h.aF a1 a2 a3 h.aC amt).2.1,vs:=h.vs.set k (id,(eM h.free h.step h.aE h.aF a1 a2 a3 h.aC amt).1)},(eM h.free h.step h.aE h.aF a1 a2 a3 h.aC amt).2.1)else none:=by unfold mL;rw[h2,h1];rfl
 rw[hr];generalize eM h.free h.step h.aE h.aF a1 a2 a3 h.aC amt=r at*;obtain⟨⟨S1,S2,S3⟩,bk,t⟩:=r;dsimp only at HP g⊢;refine(aDj h.aA h.aB h.free h.step h.aE h.aF h.aC h.aG id amt p _ c b s _ c2 k h.cells h.vs id a1 a2 a3 S1 S2 S3 bk t w hk hm j i hb g hx g1 g2 g3 HL HF HP).mono ?_;rintro e w' (⟨p',a,q',d,b',rfl,hno,hE⟩|⟨rfl,hle,p',a,q',d,rfl,ho1,ho2,hE⟩)
 ·rw[if_neg hno];exact⟨p',a,q',d,b',rfl,hE⟩
 rw[if_pos ⟨rfl,hle⟩];refine⟨p',a,q',d,?_,ho1,?_,hE⟩
 ·simp[bN]
 simpa using ho2
theorem nE {xs ys:List Int}(h:List.Perm xs ys):eZ xs=eZ ys:=
 lR ((jW _).trans (h.filter _)) (jN _)
theorem vY (aC:Int): ∀(cs:List Int) (vs:List aS),bT aC cs vs=true↔vs.map (·.1)=cs∧ ∀v∈vs,fA aC v=true:=by
 intro cs;induction cs with
 |nil=>intro vs;cases vs<;>simp[bT]
 |cons c cs ih=>
  intro vs;cases vs with
  |nil=>simp[bT]
  |cons v vs=>
   simp only[bT,aKg,decide_eq_true_eq,ih,aLr,List.cons.injEq,List.forall_mem_cons];constructor
   ·rintro⟨⟨a,b⟩,c,d⟩;exact⟨⟨a,c⟩,b,d⟩
   rintro⟨⟨a,c⟩,b,d⟩;exact⟨⟨a,b⟩,c,d⟩
theorem dK (h:aO):bB h=true↔aN h.aA h.aB h.cells=true∧bC h.free h.step h.aE h.aF=true∧(0≤h.aC∧h.aC≤9999∧0≤h.aG∧h.aG≤99999)∧h.vs.map (·.1)=eZ h.cells∧ ∀v∈h.vs,fA h.aC v=true:=by
 unfold bB sZ;simp only[aKg,decide_eq_true_eq,vY];constructor
 ·rintro⟨⟨⟨a,b⟩,c⟩,d,e⟩;exact⟨a,b,c,d,e⟩
 rintro⟨a,b,c,d,e⟩;exact⟨⟨⟨a,b⟩,c⟩,d,e⟩
theorem fR (aC:Int)(v:aS):fA aC v=true↔cN v.2.1 v.2.2.1 v.2.2.2=true∧v.2.2.2≤aC:=by unfold fA;simp
theorem sV (v:aS): ∀vs:List aS,(jL v vs).map (·.1)=jZ v.1 (vs.map (·.1))
 | []=>rfl
 |u::vs=>by
  by_cases hc:u.1<v.1
  ·have e:jL v (u::vs)=u::jL v vs:=by simp[jL,hc]
   rw[e,aLr,sV v vs,aLr];simp[jZ,hc]
  have e:jL v (u::vs)=v::u::vs:=by simp[jL,hc]
  rw[e];simp[jZ,hc]
theorem aGa (v:aS)(vs:List aS): ∀u∈jL v vs,u=v∨u∈vs:=by
 intro u hu;unfold jL at hu;rcases aKn.1 hu with h|h
 ·exact .inr ((List.takeWhile_sublist _).subset h)
 rcases aKh.1 h with h|h
 ·exact .inl h
 exact .inr ((List.dropWhile_sublist _).subset h)
theorem pA (v:aS)(vs:List aS):(jL v vs).length=vs.length+1:=by have:=congrArg List.length (sV v vs);rw[(lI _ _).length_eq]at this;simpa using this
theorem aHp {zs:List Int}{id:Int}(h0:zs.getD 0 0=0)(hl:0<zs.length)(hi:1≤id):eZ (zs.set 0 id)=jZ id (eZ zs):=by
 cases zs with
 |nil=>simp at hl
 |cons z t=>
  obtain rfl:z=0:=by simpa using h0
  symm;refine lR ?_ (rH _ _ (jN _));have e:cW ((0::t).set 0 id)=id::cW (0::t):=by unfold cW;rw[aKf,aLu (by simp;omega),aLv (by simp)]
  rw[e];exact(lI _ _).trans (List.Perm.cons _ (jW _))
theorem aEu {zs:List Int}{id:Int}(h0:zs[0]? =some id) (hi:1≤id):eZ (zs.set 0 0)=(eZ zs).erase id:=by
 cases zs with
 |nil=>simp at h0
 |cons z t=>
  obtain rfl:z=id:=by simpa using h0
  symm;refine lR ?_ ((jN _).sublist List.erase_sublist);have e:cW (z::t)=z::cW ((z::t).set 0 0):=by unfold cW;rw[aKf,aLu (by simp;omega),aLv (by simp)]
  have hp:=(jW (cW (z::t))).erase z;rw[e,List.erase_cons_head,←e]at hp;exact hp
theorem tO (id:Int): ∀vs:List aS,vs.any (fun v=>v.1==id)=true→(vs.eraseIdx (vs.findIdx (fun v=>v.1==id))).map (·.1)=(vs.map (·.1)).erase id
 | [],h=>by simp at h
 |v::vs,h=>by
  by_cases hv:v.1=id
  ·have e:(v::vs).findIdx (fun v=>v.1==id)=0:=by simp[List.findIdx_cons,hv]
   rw[e,aLr,hv,List.erase_cons_head];rfl
  have hb:(v.1==id)=false:=by simpa using hv
  have e:(v::vs).findIdx (fun v=>v.1==id)=vs.findIdx (fun v=>v.1==id)+1:=by simp[List.findIdx_cons,hb]
  have h':vs.any (fun v=>v.1==id)=true:=by simpa[hv]using h
  rw[e,List.eraseIdx_cons_succ,aLr,tO id vs h',aLr,List.erase_cons_tail (by simpa using hv)]
theorem iY {id:Int}{vs:List aS}{v:aS}(h:dI id vs=some v):vs.any (fun v=>v.1==id)=true∧v.1=id∧vs[(vix id vs).toNat]? =some v∧(vix id vs).toNat<vs.length∧vix id vs=((vix id vs).toNat:Int)∧(vix id vs).toNat=vs.findIdx (fun v=>v.1==id):=by
 have ha:vs.any (fun v=>v.1==id)=true:=by unfold dI at h;exact List.any_eq_true.2 ⟨v,aLe h,by simpa using List.find?_some h⟩
 rcases kX id vs with⟨h1,h2⟩|⟨k,a1,a2,a3,hk,h1,hx,h2⟩
 ·rw[h2]at h;cases h
 rw[h2]at h;injection h with h;subst h;have e:vix id vs=(vs.findIdx (fun v=>v.1==id):Int):=by unfold vix;rw[if_pos ha]
 refine⟨ha,rfl,by rw[h1];simpa using hx,by rw[h1];simpa using hk,by rw[h1];simp,by rw[e];simp⟩
theorem aFz {α:Type}{l:List α}{k:Nat}{a:α}(h:l[k]? =some a):l.set k a=l:=by
 refine List.ext_getElem? (fun i=> ?_);rw[List.getElem?_set];split
 ·rename_i e;subst e;split
  ·exact h.symm
  rename_i hl;rw[aLb (by omega)]at h;cases h
 rfl
theorem aG1 {vs:List aS}{k:Nat}{u:aS}(s:Int×Int×Int)(hk:vs[k]? =some u):(vs.set k (u.1,s)).map (·.1)=vs.map (·.1):=by rw[List.map_set];exact aFz (by rw[aKl,hk];rfl)
def bU (h:aO)(k a b:Int):Option (aO×Int):=
 if k=0 then
  (if 0≤(bV h.aA h.aB h.cells a).2 then some ({h with cells:=(bV h.aA h.aB h.cells a).1,vs:=jL (a,h.aC,0,h.aC) h.vs},(bV h.aA h.aB h.cells a).2)else none)
 else if k=1 then mL h a b
 else if k=2 then
  (if dB h a=true∧0≤(bR h.aA h.aB h.cells a).2 then some ({h with cells:=(bR h.aA h.aB h.cells a).1,vs:=h.vs.eraseIdx (vix a h.vs).toNat},(bR h.aA h.aB h.cells a).2)else none)
 else if k=3 then(if 1≤a∧a≤9999-h.aC then some ({h with aC:=h.aC+a},h.aC+a)else none)
 else if k=4 then(if aX h.aA h.aB h.cells a b=true then some ({h with cells:=bD h.aA h.aB h.cells a b},0)else none)
 else none
theorem oJ {aA aB:Int}{xs:List Int}{id:Int}(a:aN aA aB xs=true)(h:0≤(bV aA aB xs id).2):
  ∃zs,List.Perm zs xs∧zs.getD 0 0=0∧1≤id∧(bV aA aB xs id).1=zs.set 0 id∧aN aA aB (zs.set 0 id)=true∧(bV aA aB xs id).2≤5:=by
 unfold bV kK at h⊢;cases hr:fY aA xs with
 |none=>rw[hr]at h;simp at h
 |some r=>
  rw[hr]at h;obtain⟨f1,f2,f3,f4,f5⟩:=nD a hr;have hp:=(mP r.2 xs a).2.2;rw[f1]at hp;unfold cH at h⊢;by_cases hc:r.1.getD 0 0=0∧1≤id∧aN aA aB (r.1.set 0 id)=true
  ·simp only[hc,and_self,if_true]at h⊢;exact⟨r.1,hp,hc.1,trivial,rfl,hc.2.2,by omega⟩
  simp only[if_neg hc]at h;simp at h
theorem mD {aA aB:Int}{xs:List Int}{id:Int}(a:aN aA aB xs=true)(h:0≤(bR aA aB xs id).2):
  ∃ys,List.Perm ys xs∧ys[0]? =some id∧1≤id∧(bR aA aB xs id).1=ys.set 0 0∧(bR aA aB xs id).2≤60:=by
 unfold bR kQ at h⊢;by_cases hc:id<1∨id∉xs
 ·rw[if_pos hc]at h;simp at h
 rw[if_neg hc]at h⊢;have hm:id∈xs:=by
  by_cases hm:id∈xs
  ·exact hm
  exact absurd (.inr hm) hc
 obtain⟨c,hx,hi⟩:=tG hm;rw[hi]at h⊢;rw[aLm]at h⊢;cases hb:cZ aA xs c with
 |none=>rw[hb]at h;simp at h
 |some l=>
  rw[hb]at h;obtain⟨g1,ys,g2,g3,g4,g5⟩:=(nG a hx (by omega)).2 l hb;have hp:=(mP l xs a).2.2;rw[g2]at hp;refine⟨ys,hp,g5,by omega,?_,?_⟩
  ·simp[g2]
  simp;omega
theorem zQ {aA aB:Int}{xs:List Int}(h:aN aA aB xs=true):aN aA aB (xs.set 0 0)=true:=by
 unfold aN at*;rw[aKg]at*;refine⟨by rw[aL9];exact h.1,?_⟩;obtain⟨h1,h2,h3⟩:=(eP _ _).1 h.2;refine(eP _ _).2 ⟨fun x hx=> ?_,fun x hx=>by simp,?_⟩
 ·rcases aL0 hx with hx|rfl
  ·exact h1 x hx
  omega
 cases xs with
 |nil=>simp
 |cons x t=>
  rw[aKf,aLv (by simp)];refine h3.sublist ?_;rw[List.filter_cons];split
  ·exact List.sublist_cons_self _ _
  exact List.Sublist.refl _
theorem aHd {f s p c i pd a now:Int}(h:bC f s p c=true)(hi:0≤i)(h3:i≤now)(h4:now≤9999):0≤iH f s p c (now-i)∧iH f s p c (now-i)≤693:=by have hb:=pP (m:=now-i) h (by omega) (by omega);omega
theorem oN {h:aO}(e:bB h=true){k a b:Int}{h':aO}{n:Int}(hd:bU h k a b=some (h',n)):
  bB h'=true∧(0≤n∧n≤9999)∧h'.cells.length=h.cells.length∧h'.aA=h.aA∧h'.aB=h.aB∧h'.free=h.free∧h'.step=h.step∧h'.aE=h.aE∧h'.aF=h.aF:=by
 obtain⟨q1,q2,q3,q4,q5⟩:=(dK h).1 e;have d:0<h.cells.length:=by have:=bZ (cC q1);omega
 unfold bU at hd;split at hd
 ·split at hd
  ·rename_i h0;obtain⟨zs,s1,s2,s3,s4,s5,s6⟩:=oJ q1 h0;injection hd with hd;simp only[aKx]at hd;obtain⟨rfl,rfl⟩:=hd;rw[s4];refine⟨(dK _).2 ⟨s5,q2,q3,?_,?_⟩,⟨h0,by omega⟩,by rw[aL9,s1.length_eq],rfl,rfl,rfl,rfl,rfl,rfl⟩
   ·dsimp only;rw[sV,aHp s2 (by rw[s1.length_eq];exact d) s3,q4,nE s1]
   intro v hv;rcases aGa _ _ v hv with rfl|hv
   ·exact(fR _ _).2 ⟨by simp[cN];omega,Int.le_refl _⟩
   exact q5 v hv
  cases hd
 split at hd
 ·unfold mL at hd;split at hd
  ·cases hd
  rename_i v hv;obtain⟨v1,v2,v3,v4,v5,v6⟩:=iY hv;obtain⟨s1,s2⟩:=(fR _ _).1 (q5 v (aK5 v3));obtain⟨b1,b2⟩:=iP q2 s1 s2 q3.2.1;obtain⟨t1,t2,t3,t4,t5,t6⟩:=eQ s1;split at hd
  ·rename_i hp;have f:=wO b1 hp.1;injection hd with hd;simp only[aKx]at hd;obtain⟨rfl,rfl⟩:=hd;refine⟨(dK _).2 ⟨q1,q2,⟨q3.1,q3.2.1,?_,hp.2⟩,?_,?_⟩,⟨f.1,by omega⟩,rfl,rfl,rfl,rfl,rfl,rfl,rfl⟩
   ·dsimp only;omega
   ·dsimp only;rw[←q4,←v2];rw[←v2]at v3;exact aG1 _ v3
   intro u hu;rcases aL0 hu with hu|rfl
   ·exact q5 u hu
   refine(fR _ _).2 ?_;have hf:=aHd (pd:=v.2.2.1) (a:=v.2.2.2) (now:=h.aC) q2 t1 (by omega) q3.2.1;have g:bS h.free h.step h.aE h.aF v.2.1 v.2.2.1 v.2.2.2 h.aC=max (iH h.free h.step h.aE h.aF (h.aC-v.2.1)-v.2.2.1) 0:=by unfold bS;rw[if_pos (by simp[q2,s1,s2,q3.2.1])]
   have c:=hp.1;unfold eM at c⊢;split at c
   ·rename_i ha;rw[if_pos ha];split at c
    ·cases c
    rename_i hn;rw[if_neg hn];dsimp only;refine⟨?_,by omega⟩;unfold cN;simp only[decide_eq_true_eq];omega
   cases c
  cases hd
 split at hd
 ·split at hd
  ·rename_i hm;obtain⟨ys,s1,s2,s3,s4,s5⟩:=mD q1 hm.2;injection hd with hd;simp only[aKx]at hd;obtain⟨rfl,rfl⟩:=hd;rw[s4];refine⟨(dK _).2 ⟨zQ (rK q1 s1),q2,q3,?_,?_⟩,⟨hm.2,by omega⟩,by rw[aL9,s1.length_eq],rfl,rfl,rfl,rfl,rfl,rfl⟩
   ·dsimp only;have hv: ∃v,dI a h.vs=some v:=by
     have:=hm.1;unfold dB cX at this;rw[if_pos e]at this;cases hv:dI a h.vs with
     |none=>rw[hv]at this;simp at this
     |some v=>exact⟨v,rfl⟩
    obtain⟨v,hv⟩:=hv;obtain⟨v1,v2,v3,v4,v5,v6⟩:=iY hv;rw[v6,tO a h.vs v1,aEu s2 s3,q4,nE s1]
   intro v hv;exact q5 v (List.mem_of_mem_eraseIdx hv)
  cases hd
 split at hd
 ·split at hd
  ·rename_i hw;injection hd with hd;simp only[aKx]at hd;obtain⟨rfl,rfl⟩:=hd;refine⟨(dK _).2 ⟨q1,q2,⟨by dsimp only;omega,by dsimp only;omega,q3.2.2⟩,q4,fun v hv=> ?_⟩,⟨by omega,by omega⟩,rfl,rfl,rfl,rfl,rfl,rfl,rfl⟩;obtain⟨s1,s2⟩:=(fR _ _).1 (q5 v hv);exact(fR _ _).2 ⟨s1,by dsimp only;omega⟩
  cases hd
 split at hd
 ·split at hd
  ·injection hd with hd;simp only[aKx]at hd;obtain⟨rfl,rfl⟩:=hd;refine⟨(dK _).2 ⟨gK a b q1,q2,q3,?_,q5⟩,⟨by omega,by omega⟩,cJ _ _ _ _ _,rfl,rfl,rfl,rfl,rfl,rfl⟩;dsimp only;rw[q4,nE (lT a b)]
  cases hd
 cases hd
end Go.Proofs.YtbgkcehffiogcaaGreatDoor
