/-
  Texts of this proof, packed (@packed).
-/
import Derived.Deep.OwnRows
import Derived.Test.YtgnkoffndhmhpaaGreatDoorP11
import Derived.Test.YtgnkoffndhmhpaaGreatDoorP15
namespace Go.Proofs.YtgnkoffndhmhpaaGreatDoor
open Go.RowKit
set_option linter.unusedVariables false
set_option linter.unusedSimpArgs false
set_option maxHeartbeats 16000000
set_option maxRecDepth 100000
theorem mP (n:Nat):(madeCells #[Value.int .i64 0] n).toList=ivs (List.replicate n 0)∧(madeCells #[Value.int .i64 0] n).size=n:=by
 constructor
 ·apply List.ext_getElem<;>simp[madeCells,Nat.mod_one]
 ·simp[madeCells]
theorem aK7 (N:Nat)(src:List Nat): ∀x∈iE N src,-1≤x∧x≤((0:Nat):Int):=by
 unfold iE
 suffices h: ∀(l:List Nat) (A:List Int),(∀x∈A,-1≤x∧x≤((0:Nat):Int))→ ∀x∈l.foldl (fun A v=>A.set v 0) A,-1≤x∧x≤((0:Nat):Int)from h src _ (fun x hx=>by rw[List.mem_replicate]at hx;omega)
 intro l
 induction l with
 |nil=>intro A h;exact h
 |cons v l ih=>
  intro A h
  exact ih (A.set v 0) (fun x hx=>by
   rcases List.mem_or_eq_of_mem_set hx with h1|h1
   ·exact h x h1
   ·omega)
theorem aC7 (aA aB:Int)(p:OA)(n cap F P:Nat)(w:World)(hn0:4≤n)(hn:n≤12)(hP:Hid (P=2 ^ n))(hP12:P≤4096)(hPe:P%2=0)
  (HF:xC 134 #[aH aA aB p n cap] w fun w' e w''=> ∃q c,e= .returned (.slice q F c)∧Ext w' w'')
  (HBI:Hid (∀(m:Nat) w',m≤4096→Calls Tryz.prog 182 #[(m:Int)] w' fun e w''=>e= .returned (.int .i64 (gC m:Int))∧w'=w''))
  (HN:Hid (∀w',Ext w w'→Calls Tryz.prog 183 #[aH aA aB p n cap] w' (zI aA n w'))):
  Calls Tryz.prog 157 #[aH aA aB p n cap] w fun e w'=> ∃D,eO aA n F D∧aX D w e w':=by
 obtain⟨AR,av⟩: ∃AR:Array Value,AR=madeCells #[()] 49152:=⟨_,rfl⟩
 have cm: ∀w:World,(Instr.makeSlice 22 (.int .i64 49152) (.int .i64 49152)).run Tryz.prog w= .ok (.slice (some ⟨w.heap.size,0,none⟩) 49152 49152) (w.alloc (.cells AR TI)):=fun w=>by
  rw[av]
  exact run_make_row' _ _ (.int .i64 0) 8 Tryz.underlying22 (by kernel_rfl) rfl .i64 .i64 49152 (by omega) (by omega) w
 have bv:Hid (AR.toList=ivs (kA 0)):=by
  show _=_
  rw[av,(mP 49152).1];rfl
 have bl:Hid (AR.size=49152):=by show _=_;rw[av];exact(mP 49152).2
 clear av
 go_enter Tryz.func157,Tryz.ntmps157
 go_wp2
 have ME:=(show Mem w ((w.alloc (.cells #[aA,aB,.slice p n cap] TH3)).alloc (.cells AR TI)) [aJ w.heap.size TI 1 (some ⟨w.heap.size+1,0,none⟩) (49152) (49152) (ivs (kA 0)),aI w.heap.size (w.heap.size) TH3 #[aA,aB,.slice p n cap]]from by rw[←bv.out];exact((Mem.start w).bn TH3 #[aA,aB,.slice p n cap] w.heap.size).lit TI 1 49152 _ AR (by simp) (by rw[bl.out]) (by simp[maxLen]))
 clear bv bl cm
 go_loopw [4] (fun i wr=> ∃(k:Nat),k≤49152∧i= .int .i64 (k:Int)∧Mem w wr [aJ w.heap.size TI 1 (some ⟨w.heap.size+1,0,none⟩) (49152) (49152) (ivs (kA k)),aI w.heap.size (w.heap.size) TH3 #[aA,aB,.slice p n cap]]) (fun i _=>49152-(intOf i).toNat)
 case atStart=>exact⟨0,Nat.zero_le _,rfl,ME⟩
 case round=>
  clear ME
  obtain⟨k,hk,rfl,hM⟩:=hrel
  have HM:=hM
  clear hM
  have ag:=(HM.hi 1)
  by_cases hlt:k<49152
  ·have i1:(0:Int)≤(k:Int):=by omega
   have i2:(k:Int)<49152:=by omega
   have cl:wr.cell? ⟨w.heap.size+1,k,none⟩=some (.int .i64 0):=by have:=(HM.ow 0).cellAt k (by omega);rw[this];simp[ivs,aDb hlt]
   have cf:wr.frozen? ⟨w.heap.size+1,k,none⟩=false:=(HM.ow 0).frozenAt k
   have M2:=(show Mem w (wr.setCell ⟨w.heap.size+1,k,none⟩ (.int .i64 (-1))) [aJ w.heap.size TI 1 (some ⟨w.heap.size+1,0,none⟩) (49152) (49152) (ivs (kA (k+1))),aI w.heap.size (w.heap.size) TH3 #[aA,aB,.slice p n cap]]from by rw[←aDa hlt,←dV];exact HM.ostore (i:=0) rfl k (.int .i64 (-1)))
   clear HM
   go_wp2
   go_roundw
   case rel=>exact⟨k+1,by omega,by go_num,M2⟩
   case measure=>simp[intOf];omega
  ·obtain rfl:k=49152:=by omega
   have M1:=(show Mem w wr [aJ w.heap.size TI 1 (some ⟨w.heap.size+1,0,none⟩) (49152) (49152) (ivs (iE NN (eP F 0))),aI w.heap.size (w.heap.size) TH3 #[aA,aB,.slice p n cap]]from by have:=HM;rwa[show kA 49152=iE NN (eP F 0)from aDc F]at this)
   clear HM hlt hk
   have M2:=(M1.made0 TI 1 wr.heap.size rfl)
   clear M1
   have c0:(wr.alloc (.cells #[] TI)).cell? ⟨w.heap.size,0,none⟩=some (.int .i64 aA):=(M2.bk 2).cell 0
   have c1:(wr.alloc (.cells #[] TI)).cell? ⟨w.heap.size,1,none⟩=some (.int .i64 aB):=(M2.bk 2).cell 1
   have c2:(wr.alloc (.cells #[] TI)).cell? ⟨w.heap.size,2,none⟩=some (.slice p n cap):=(M2.bk 2).cell 2
   go_wp2_with fail
   clear c0 c1 c2
   refine(HF _ M2.ext).mono ?_
   rintro e w3 ⟨q3,c3,rfl,bo⟩
   have M3:=(M2.adv bo)
   clear M2 bo ag
   have dl:(2:Int) ^ n=(P:Int):=by rw[hP.out];simp
   have dg:IntKind.i64.wrap (P:Int)=(P:Int):=IntWalk.i64_in _ (by omega)
   have cp:=(M3.hi 2)
   go_wp2
   go_loopw [5,7] (fun v i wx=> ∃(m:Nat) (q:OA) (l lc:Nat),m≤P∧m%2=0∧i= .int .i64 (m:Int)∧v= .slice q l lc∧l=(eP F m).length∧Mem w wx [aJ w.heap.size TI 1 (q) (l) (lc) (ivs (bE (eP F m))),aJ w.heap.size TI 1 (some ⟨w.heap.size+1,0,none⟩) (49152) (49152) (ivs (iE NN (eP F m))),aI w.heap.size (w.heap.size) TH3 #[aA,aB,.slice p n cap]]) (fun _ i _=>P-(intOf i).toNat)
   case atStart=>exact⟨0,some ⟨wr.heap.size,0,none⟩,0,0,Nat.zero_le _,rfl,rfl,rfl,rfl,M3⟩
   case round=>
    clear M3 cp
    obtain⟨m,q,l,lc,hm,ap,rfl,rfl,hl,hM⟩:=hrel
    have HM:=hM
    have HL:=xQ hl
    have de:l≤4096:=by have:=zS F m;omega
    clear hM hl
    obtain⟨c0,c1,c2⟩:=(HM.bk 2).tri
    have ag:=(HM.hi 2)
    by_cases hlt:m<P
    ·have t0:decide ((m:Int)<(P:Int))=true:=by simp[hlt]
     go_wp2_with fail
     refine(HBI m _ (by omega)).mono ?_
     rintro e wx ⟨rfl,rfl⟩
     have h2:=zR (many:=F) ap
     by_cases hp:gC m=F
     ·have t1:((gC m:Int)==(F:Int))=true:=by simp[hp]
      rw[if_pos hp]at h2
      have H2:=xQ h2
      have g:=xQ (show l+1=(eP F (m+2)).length by rw[h2,List.length_append,←HL.out];rfl)
      clear h2 hp
      have co:m<49152:=by omega
      have i1:(0:Int)≤(m:Int):=by omega
      have i2:(m:Int)<49152:=by omega
      obtain⟨x0,b6⟩: ∃x0,(iE NN (eP F m))[m]? =some x0:=⟨_,List.getElem?_eq_getElem (by rw[wG];exact co)⟩
      have cl:wr.cell? ⟨w.heap.size+1,m,none⟩=some (.int .i64 x0):=by have:=(HM.ow 1).cellAt m (by omega);rw[this];simp[ivs,b6]
      have cf:wr.frozen? ⟨w.heap.size+1,m,none⟩=false:=(HM.ow 1).frozenAt m
      clear b6
      go_wp2_with (at_builtin;refine cJ eS rfl _ _ rfl ((HM.ostore (i:=1) rfl m (.int .i64 0)).adv ((Ext.refl _).alloc (.cells #[(m:Int)] TI))) 0 rfl rfl [.int .i64 (m:Int)] rfl (dY _ _ _ 1 1 _ (by first|rfl|simp) (by first|rfl|simp) (by simp[maxLen])) (fun u hu=>by obtain rfl:=List.mem_singleton.1 hu;rfl) (by omega) ?_;intro q7 c7 w6 M6)
      have M7:=(show Mem w w6 [aJ w.heap.size TI 1 (q7) (l+1) (c7) (ivs (bE (eP F (m+2)))),aJ w.heap.size TI 1 (some ⟨w.heap.size+1,0,none⟩) (49152) (49152) (ivs (iE NN (eP F (m+2)))),aI w.heap.size (w.heap.size) TH3 #[aA,aB,.slice p n cap]]from by rw[H2.out,aCt,←dV,bE,List.map_append,ivs,List.map_append];exact M6)
      clear M6 HM cl cf c0 c1 c2
      go_wp2
      go_roundw
      case rel=>exact⟨m+2,q7,l+1,c7,by omega,by omega,by go_num,rfl,g.out,M7⟩
      case measure=>simp[intOf];omega
     ·have t1:((gC m:Int)==(F:Int))=false:=by simp;omega
      rw[if_neg hp,List.append_nil]at h2
      have H2:=xQ h2
      clear h2
      go_wp2
      go_roundw
      case rel=>exact⟨m+2,q,l,lc,by omega,by omega,by go_num,rfl,by rw[H2.out];exact HL.out,by rw[H2.out];exact HM⟩
      case measure=>simp[intOf];omega
    ·obtain rfl:m=P:=by omega
     have ay:eP F m=tP n F:=by rw[hP.out];rfl
     rw[ay]at HL HM
     have b8:n≤12:=hn
     have hI:=Inv.begin (adj:=vB aA n MM) (src:=tP n F) (N:=NN) (aEf b8) tO
     have bw:=xQ hI
     clear hI ay hlt
     go_wp2_with fail
     clear c0 c1 c2
     refine(HN _ HM.ext).mono ?_
     rintro e w4 ⟨qB,cB,o,rfl,ab,ad,bp⟩
     obtain⟨gB,rfl,cx,c5⟩:=eL ad.1 (by rw[ab.1];omega)
     have M4:=(HM.nestNew bp ad (Nat.le_refl _))
     have HR:=xQ ab
     clear ad bp ab HM
     go_wp2
     go_loopw [5,9] (fun v i wx=> ∃(k:Nat) (q:OA) (l lc:Nat) (D:List Int) (Q:List Nat),k≤l∧i= .int .i64 (k:Int)∧v= .slice q l lc∧l=Q.length∧(∀x∈D,-1≤x∧x≤(k:Int))∧Inv (vB aA n MM) (tP n F) NN k (D,Q)∧Mem w wx [aJ w.heap.size TI 1 (q) (l) (lc) (ivs (bE Q)),aJ w.heap.size TI 1 (some ⟨w.heap.size+1,0,none⟩) (49152) (49152) (ivs D),oY w.heap.size TSS TI 1 (some ⟨gB,0,none⟩) cB o,aI w.heap.size (w.heap.size) TH3 #[aA,aB,.slice p n cap]]) (fun _ i _=>49152-(intOf i).toNat)
     case atStart=>exact⟨0,q,l,lc,_,tP n F,Nat.zero_le _,rfl,rfl,HL.out,aK7 _ _,bw.out,M4.pick [1,2,0,3] (by decide) rfl⟩
     case round=>
      clear M4 bw HL
      obtain⟨k,q,l,lc,D,Q,hk,rfl,rfl,hl,bc,ah,hM⟩:=hrel
      have HM:=hM
      have HL:=xQ hl
      have bh:=xQ bc
      have HI:=xQ ah
      have dq:l≤49152:=by have:=ah.qlen;rw[hl];exact this
      clear hM hl bc ah
      by_cases hlt:k<l
      ·obtain⟨gL,rfl,dp,dj⟩:=HM.so 0
       obtain⟨u,hu⟩: ∃u,Q[k]? =some u:=⟨_,List.getElem?_eq_getElem (by rw[←HL.out];exact hlt)⟩
       have am:u<49152:=HI.out.bd u (List.mem_of_getElem? hu)
       obtain⟨C,hC⟩: ∃C,C=u/4096:=⟨_,rfl⟩
       obtain⟨S,hS⟩: ∃S,S=u%4096:=⟨_,rfl⟩
       have c6:C<12:=by omega
       have dd:S<4096:=by omega
       have HU:=xQ hu
       have HC:=xQ hC
       have HS:=xQ hS
       have i1:(0:Int)≤(k:Int):=by omega
       have i2:(k:Int)<(l:Int):=by omega
       have d1:(u:Int)/4096=(C:Int):=by omega
       have d2:(u:Int)%4096=(S:Int):=by omega
       have cu:wr.cell? ⟨gL,k,none⟩=some (.int .i64 (u:Int)):=by have:=(HM.ow 0).cellAt k (by omega);rw[this];simp[ivs,bE,hu]
       have ag:=(HM.hi 3)
       clear hu hC hS
       go_wp2
       rw[d2]
       clear cu d1 d2
       go_loopw [5,12] (fun v i wx=> ∃(h:Nat) (q:OA) (l2 lc:Nat) (D2:List Int) (Q2:List Nat),h≤n∧i= .int .i64 (h:Int)∧v= .slice q l2 lc∧l2=Q2.length∧(D2,Q2)=bJ (D.getD u 0+1) (D,Q) (iG aA n MM u h)∧(∀x∈D2,-1≤x∧x≤(k:Int)+1)∧Mem w wx [aJ w.heap.size TI 1 (q) (l2) (lc) (ivs (bE Q2)),aJ w.heap.size TI 1 (some ⟨w.heap.size+1,0,none⟩) (49152) (49152) (ivs D2),oY w.heap.size TSS TI 1 (some ⟨gB,0,none⟩) cB o,aI w.heap.size (w.heap.size) TH3 #[aA,aB,.slice p n cap]]) (fun _ i _=>n-(intOf i).toNat)
       case atStart=>exact⟨0,_,l,lc,D,Q,Nat.zero_le _,rfl,rfl,HL.out,rfl,fun x hx=>by have:=bh x hx;omega,HM⟩
       case round=>
        clear HM ag
        obtain⟨h,q,l2,lc,D2,Q2,hh,rfl,rfl,aj,af,t,hM⟩:=hrel
        have HM:=hM
        have g:=xQ aj
        have s:=xQ af
        have a:=xQ t
        clear hM aj af t
        obtain⟨c0,c1,c2⟩:=(HM.bk 3).tri
        have ag:=(HM.hi 3)
        by_cases hlth:h<n
        ·have t0:decide ((h:Int)<(n:Int))=true:=by simp[hlth]
         obtain⟨Ph,ao⟩: ∃Ph:Nat,Ph=2 ^ h:=⟨_,rfl⟩
         have cv:Ph≤2048:=by rw[ao];exact Nat.le_trans (Nat.pow_le_pow_right (by omega) (show h≤11 by omega)) (by decide)
         have dn:(2:Int) ^ h=(Ph:Int):=by rw[ao];simp
         have dk:IntKind.i64.wrap (Ph:Int)=(Ph:Int):=IntWalk.i64_in _ (by omega)
         obtain⟨A,hA⟩: ∃A:Nat,A=S/Ph:=⟨_,rfl⟩
         have dc:(S:Int)/(Ph:Int)=(A:Int):=by rw[hA];simp
         have a1:S.testBit h=decide (A%2=1):=by rw[hA,ao];exact aEz S h
         have bt:=xQ ao
         have a0:=xQ a1
         obtain⟨cg,a7⟩: ∃r,o[h]? =some r:=⟨_,List.getElem?_eq_getElem (by rw[HR.out.1];exact hlth)⟩
         obtain⟨qi,ni,ci,xi⟩:=cg
         obtain⟨bi,b1⟩:=HR.out.2 h _ a7
         dsimp only at bi b1
         subst bi b1
         have a9:=xQ a7
         have rl:=HR.out.1
         have RL:=xQ rl
         clear ao a1 hA a7
         obtain⟨nb,au⟩: ∃nb,nb=aT aA n h:=⟨_,rfl⟩
         rw[←au]at a9
         have a8:=xQ au
         have ch:nb.length≤12:=by rw[au];exact Nat.le_trans (List.length_filter_le _ _) (by simp;omega)
         clear au rl
         have k1:(0:Int)≤(h:Int):=by omega
         have k2:(h:Int)<(n:Int):=by omega
         go_wp2
         clear c0 c1 c2
         cases hb:S.testBit h with
         |false=>
          have t1:(A:Int)%2=0:=by have:=a0.out;rw[hb]at this;simp at this;omega
          have b:=xQ (show iG aA n MM u (h+1)=iG aA n MM u h by rw[uC,aM7 (by rw[←show S=u%MM from HS.out];exact hb),List.append_nil])
          clear hb
          go_loopw [5,13] (fun v i wx=>i= .int .i64 0∧v= .slice q l2 lc∧wr=wx) (fun _ _ _=>0)
          case atStart=>exact⟨rfl,rfl,rfl⟩
          case round=>
           obtain⟨rfl,rfl,rfl⟩:=hrel
           go_wp2
           go_roundw
           case rel=>exact⟨h+1,q,l2,lc,D2,Q2,by omega,by go_num,rfl,g.out,by rw[b.out];exact s.out,a.out,HM⟩
           case measure=>simp[intOf];omega
         |true=>
          have t1:(A:Int)%2=1:=by have:=a0.out;rw[hb]at this;simp at this;omega
          have ar:=xQ (show(u%MM).testBit h=true by rw[←show S=u%MM from HS.out];exact hb)
          clear hb
          go_loopw [5,13] (fun v i wx=> ∃(j:Nat) (q:OA) (l2 lc:Nat) (D2:List Int) (Q2:List Nat),j≤nb.length∧i= .int .i64 (j:Int)∧v= .slice q l2 lc∧l2=Q2.length∧(D2,Q2)=bJ (D.getD u 0+1) (D,Q) (iG aA n MM u h++jA aA n MM u h j)∧(∀x∈D2,-1≤x∧x≤(k:Int)+1)∧Mem w wx [aJ w.heap.size TI 1 (q) (l2) (lc) (ivs (bE Q2)),aJ w.heap.size TI 1 (some ⟨w.heap.size+1,0,none⟩) (49152) (49152) (ivs D2),oY w.heap.size TSS TI 1 (some ⟨gB,0,none⟩) cB o,aI w.heap.size (w.heap.size) TH3 #[aA,aB,.slice p n cap]]) (fun _ i _=>nb.length-(intOf i).toNat)
          case atStart=>exact⟨0,q,l2,lc,D2,Q2,Nat.zero_le _,rfl,rfl,g.out,by rw[aD1,List.append_nil];exact s.out,a.out,HM⟩
          case round=>
           clear HM g s a ag
           obtain⟨j,q,l2,lc,D2,Q2,hj,rfl,rfl,aj,af,t,hM⟩:=hrel
           have HM:=hM
           have br: ∀v∈iG aA n MM u h++jA aA n MM u h j,v∈vB aA n MM u:=aD2 hlth ar.out
           have y:=aAo HI HU.out (fun v hv=>qP hn u v am hv) br af
           have b2:D2.length=49152:=y.len
           have df:Q2.length≤49152:=nL y.nodup y.bd
           have cr:u∈Q:=List.mem_of_getElem? HU.out
           have ba:D2.getD u 0=D.getD u 0:=y.same u cr
           obtain⟨r,hr⟩:=y.pre
           dsimp only at hr
           have cq:k<Q2.length:=by rw[hr,List.length_append];have:=HL.out;omega
           have bj:Q2[k]? =some u:=by
            have:=HL.out
            rw[hr,List.getElem?_append_left (by omega)];exact HU.out
           have z:=dE (D:=D2) (v:=u) (by omega)
           have cw: -1≤D2.getD u 0:=(t _ z.2).1
           have cy:D2.getD u 0≤(k:Int):=by
            rw[ba];exact(bh _ (dE (D:=D) (v:=u) (by have:=HI.out.len;dsimp only at this;rw[this];exact am)).2).2
           have s:=xQ af
           have a:=xQ t
           have g:=xQ aj
           have bg:=xQ bj
           have b4:=xQ z.1
           have b0:=xQ ba
           have cs:=xQ b2
           have c9:l2≤49152:=by omega
           have db:k<l2:=by omega
           have cb:wr.cell? ⟨gB,h,none⟩=some (.slice qi nb.length ci):=by
            have:=(HM.nest (i:=2) rfl).1.cellAt h (by rw[RL.out];omega)
            rw[this,List.getElem?_map,a9.out];rfl
           have aw:=(HM.nest (i:=2) rfl).2 _ (List.mem_of_getElem? a9.out)
           have a2:=xQ (show wr.ownsRow w.heap.size TI 1 (.slice qi nb.length ci) nb.length (ivs (bE nb))from aw)
           clear hM br y hr af t aj bj z ba aw b2 cq
           by_cases hltj:j<nb.length
           ·obtain⟨gi,rfl,da,c4⟩:=eL a2 (by omega)
            obtain⟨f,hf⟩: ∃f,nb[j]? =some f:=⟨_,List.getElem?_eq_getElem hltj⟩
            have cc:f<n:=(bR.1 (by rw[←a8.out];exact List.mem_of_getElem? hf:f∈aT aA n h)).1
            have bm:(aT aA n h)[j]? =some f:=by rw[←a8.out];exact hf
            have a5:=xQ bm
            have cj:wr.cell? ⟨gi,j,none⟩=some (.int .i64 (f:Int)):=by have:=a2.out.cellAt j (by omega);rw[this];simp[ivs,bE,hf]
            clear hf bm
            have m1:(0:Int)≤(j:Int):=by omega
            have m2:(j:Int)<(nb.length:Int):=by omega
            obtain⟨Pf,aq⟩: ∃Pf:Nat,Pf=2 ^ f:=⟨_,rfl⟩
            have cz:Pf≤2048:=by rw[aq];exact Nat.le_trans (Nat.pow_le_pow_right (by omega) (show f≤11 by omega)) (by decide)
            have dh:(2:Int) ^ f=(Pf:Int):=by rw[aq];simp
            have dm:IntKind.i64.wrap (Pf:Int)=(Pf:Int):=IntWalk.i64_in _ (by omega)
            obtain⟨B,hB⟩: ∃B:Nat,B=S/Pf:=⟨_,rfl⟩
            have c8:(S:Int)/(Pf:Int)=(B:Int):=by rw[hB];simp
            have b5:S.testBit f=decide (B%2=1):=by rw[hB,aq];exact aEz S f
            have be:=xQ b5
            have cn:=xQ aq
            clear aq hB b5
            cases hb:S.testBit f with
            |true=>
             have t2:(B:Int)%2=1:=by have:=be.out;rw[hb]at this;simp at this;omega
             have b:=xQ (aI7 a5 (show(u%MM).testBit f=true by rw[←show S=u%MM from HS.out];exact hb))
             clear hb
             go_wp2
             go_roundw
             case rel=>exact⟨j+1,q,l2,lc,D2,Q2,by omega,by go_num,rfl,g.out,by rw[b.out];exact s.out,a.out,HM⟩
             case measure=>simp[intOf];omega
            |false=>
             have t2:(B:Int)%2=0:=by have:=be.out;rw[hb]at this;simp at this;omega
             have an:(u%MM).testBit f=false:=by rw[←show S=u%MM from HS.out];exact hb
             have b:=xQ (aFv a5 an)
             have ax:=(tH ar.out).1
             have di:Ph≤S:=by rw[bt.out,show S=u%MM from HS.out];exact ax
             obtain⟨v,hv⟩: ∃v,v=fS MM (u/MM) (u%MM) f h:=⟨_,rfl⟩
             have b9:v<49152:=qP hn u v am (mE.2 ⟨f,h,cc,hlth,fK hlth (by exact List.mem_of_getElem? a5.out),an,ar.out,hv⟩)
             have bf:v=dK C f h*4096+(S-Ph+Pf):=by
              rw[hv,bt.out,cn.out,show C=u/MM from HC.out,show S=u%MM from HS.out];rfl
             rw[←hv]at b
             have bq:=xQ bf
             clear hb an ax hv bf
             have s1:(0:Int)≤(v:Int):=by omega
             have s2:(v:Int)<49152:=by omega
             obtain⟨dv,bx,az⟩: ∃dv,D2[v]? =some dv∧D2.getD v 0=dv:=⟨_,(dE (D:=D2) (v:=v) (by rw[cs.out];exact b9)).1,rfl⟩
             have b3:=xQ bx
             have ae:=xQ az
             clear bx az
             by_cases hcar:f=C
             ·have t3:((f:Int)==(C:Int))=true:=by simp[hcar]
              have ak:(h:Int)*4096+(S:Int)-(Ph:Int)+(Pf:Int)=(v:Int):=by
               have:=bq.out;unfold dK at this;rw[if_pos hcar]at this;omega
              have a4:=xQ ak
              clear ak hcar
              go_wp2
              have a6:IntKind.i64.wrap ((h:Int)*4096)=(h:Int)*4096:=IntWalk.i64_in _ (by omega)
              have ap:IntKind.i64.wrap ((h:Int)*4096+(S:Int))=(h:Int)*4096+(S:Int):=IntWalk.i64_in _ (by omega)
              have a3:IntKind.i64.wrap ((h:Int)*4096+(S:Int)-(Ph:Int))=(h:Int)*4096+(S:Int)-(Ph:Int):=IntWalk.i64_in _ (by omega)
              have bb:IntKind.i64.wrap ((h:Int)*4096+(S:Int)-(Ph:Int)+(Pf:Int))=(v:Int):=(IntWalk.i64_in _ (by omega)).trans a4.out
              go_quiet (fail)
              generalize ai:World.drewN wr _=wi
              have hX:Ext wr wi:=by rw[←ai];exact Ext.drewN (Ext.refl _) _
              clear ai a6 ap a3 bb
              have MI:=(HM.adv hX)
              have HE:=xQ (show Mem w wi [aJ w.heap.size TI 1 (q) (l2) (lc) (ivs (bE Q2)),aJ w.heap.size TI 1 (some ⟨w.heap.size+1,0,none⟩) (49152) (49152) (ivs D2),oY w.heap.size TSS TI 1 (some ⟨gB,0,none⟩) cB o,aI w.heap.size (w.heap.size) TH3 #[aA,aB,.slice p n cap]]from MI)
              clear hX HM MI cb cj
              have cl:wi.cell? ⟨w.heap.size+1,v,none⟩=some (.int .i64 dv):=by have:=(HE.out.ow 1).cellAt v (by omega);rw[this];simp[ivs,b3.out]
              by_cases hd0:dv<0
              ·have t4:decide (dv<0)=true:=by simp[hd0]
               have d:Hid ((D2.set v (D.getD u 0+1),Q2++ [v])=bJ (D.getD u 0+1) (D,Q) (iG aA n MM u h++jA aA n MM u h (j+1))):=by
                show _=_
                rw[b.out,←List.append_assoc,dP,←s.out,kI (by rw[ae.out];exact hd0)]
               obtain⟨du,z⟩: ∃du,du=D2.getD u 0:=⟨_,rfl⟩
               have aa:=xQ z
               have ca: -1≤du:=by omega
               have ce:du≤(k:Int):=by omega
               have bs:IntKind.i64.wrap (du+1)=du+1:=IntWalk.i64_in _ (by omega)
               obtain⟨gl,rfl,b7,bu⟩:=HE.out.so 0
               have n0:(0:Int)≤(u:Int):=by omega
               have n1:(u:Int)<49152:=by omega
               have n2:(k:Int)<(l2:Int):=by omega
               have ck:wi.cell? ⟨gl,k,none⟩=some (.int .i64 (u:Int)):=by have:=(HE.out.ow 0).cellAt k (by omega);rw[this];simp[ivs,bE,bg.out]
               have cd:wi.cell? ⟨w.heap.size+1,u,none⟩=some (.int .i64 du):=by have:=(HE.out.ow 1).cellAt u (by omega);rw[this,aa.out];simp only[ivs,List.getElem?_map,b4.out,Option.map_some]
               have cf:wi.frozen? ⟨w.heap.size+1,v,none⟩=false:=(HE.out.ow 1).frozenAt v
               clear z hd0
               go_wp2_with (at_builtin;refine cJ eS rfl _ _ rfl ((HE.out.ostore (i:=1) rfl v (.int .i64 (du+1))).adv ((Ext.refl _).alloc (.cells #[(v:Int)] TI))) 0 rfl rfl [.int .i64 (v:Int)] rfl (dY _ _ _ 1 1 _ (by first|rfl|simp) (by first|rfl|simp) (by simp[maxLen])) (fun u hu=>by obtain rfl:=List.mem_singleton.1 hu;rfl) (by omega) ?_;intro q7 c7 w6 M6)
               have M7:=(show Mem w w6 [aJ w.heap.size TI 1 (q7) (l2+1) (c7) (ivs (bE (Q2++ [v]))),aJ w.heap.size TI 1 (some ⟨w.heap.size+1,0,none⟩) (49152) (49152) (ivs (D2.set v (du+1))),oY w.heap.size TSS TI 1 (some ⟨gB,0,none⟩) cB o,aI w.heap.size (w.heap.size) TH3 #[aA,aB,.slice p n cap]]from by rw[←dV,bE,List.map_append,ivs,List.map_append];exact M6)
               clear M6 HE cl ck cd cf
               go_wp2
               go_roundw
               case rel=>exact⟨j+1,q7,l2+1,c7,D2.set v (du+1),Q2++ [v],by omega,by go_num,rfl,by rw[List.length_append,←g.out];rfl,by rw[←d.out,←b0.out,←aa.out],fun x hx=>by
                rcases List.mem_or_eq_of_mem_set hx with h|h
                ·exact a x h
                ·omega,M7⟩
               case measure=>simp[intOf];omega
              ·have t4:decide (dv<0)=false:=by simp[hd0]
               have d:Hid ((D2,Q2)=bJ (D.getD u 0+1) (D,Q) (iG aA n MM u h++jA aA n MM u h (j+1))):=by
                show _=_
                rw[b.out,←List.append_assoc,dP,←s.out,lU (by rw[ae.out];exact hd0)]
               clear hd0
               go_wp2
               go_roundw
               case rel=>exact⟨j+1,q,l2,lc,D2,Q2,by omega,by go_num,rfl,g.out,d.out,a.out,HE.out⟩
               case measure=>simp[intOf];omega
             ·have t3:((f:Int)==(C:Int))=false:=by simp;omega
              have ak:(C:Int)*4096+(S:Int)-(Ph:Int)+(Pf:Int)=(v:Int):=by
               have:=bq.out;unfold dK at this;rw[if_neg hcar]at this;omega
              have a4:=xQ ak
              clear ak hcar
              go_wp2
              have a6:IntKind.i64.wrap ((C:Int)*4096)=(C:Int)*4096:=IntWalk.i64_in _ (by omega)
              have ap:IntKind.i64.wrap ((C:Int)*4096+(S:Int))=(C:Int)*4096+(S:Int):=IntWalk.i64_in _ (by omega)
              have a3:IntKind.i64.wrap ((C:Int)*4096+(S:Int)-(Ph:Int))=(C:Int)*4096+(S:Int)-(Ph:Int):=IntWalk.i64_in _ (by omega)
              have bb:IntKind.i64.wrap ((C:Int)*4096+(S:Int)-(Ph:Int)+(Pf:Int))=(v:Int):=(IntWalk.i64_in _ (by omega)).trans a4.out
              go_quiet (fail)
              generalize ai:World.drewN wr _=wi
              have hX:Ext wr wi:=by rw[←ai];exact Ext.drewN (Ext.refl _) _
              clear ai a6 ap a3 bb
              have MI:=(HM.adv hX)
              have HE:=xQ (show Mem w wi [aJ w.heap.size TI 1 (q) (l2) (lc) (ivs (bE Q2)),aJ w.heap.size TI 1 (some ⟨w.heap.size+1,0,none⟩) (49152) (49152) (ivs D2),oY w.heap.size TSS TI 1 (some ⟨gB,0,none⟩) cB o,aI w.heap.size (w.heap.size) TH3 #[aA,aB,.slice p n cap]]from MI)
              clear hX HM MI cb cj
              have cl:wi.cell? ⟨w.heap.size+1,v,none⟩=some (.int .i64 dv):=by have:=(HE.out.ow 1).cellAt v (by omega);rw[this];simp[ivs,b3.out]
              by_cases hd0:dv<0
              ·have t4:decide (dv<0)=true:=by simp[hd0]
               have d:Hid ((D2.set v (D.getD u 0+1),Q2++ [v])=bJ (D.getD u 0+1) (D,Q) (iG aA n MM u h++jA aA n MM u h (j+1))):=by
                show _=_
                rw[b.out,←List.append_assoc,dP,←s.out,kI (by rw[ae.out];exact hd0)]
               obtain⟨du,z⟩: ∃du,du=D2.getD u 0:=⟨_,rfl⟩
               have aa:=xQ z
               have ca: -1≤du:=by omega
               have ce:du≤(k:Int):=by omega
               have bs:IntKind.i64.wrap (du+1)=du+1:=IntWalk.i64_in _ (by omega)
               obtain⟨gl,rfl,b7,bu⟩:=HE.out.so 0
               have n0:(0:Int)≤(u:Int):=by omega
               have n1:(u:Int)<49152:=by omega
               have n2:(k:Int)<(l2:Int):=by omega
               have ck:wi.cell? ⟨gl,k,none⟩=some (.int .i64 (u:Int)):=by have:=(HE.out.ow 0).cellAt k (by omega);rw[this];simp[ivs,bE,bg.out]
               have cd:wi.cell? ⟨w.heap.size+1,u,none⟩=some (.int .i64 du):=by have:=(HE.out.ow 1).cellAt u (by omega);rw[this,aa.out];simp only[ivs,List.getElem?_map,b4.out,Option.map_some]
               have cf:wi.frozen? ⟨w.heap.size+1,v,none⟩=false:=(HE.out.ow 1).frozenAt v
               clear z hd0
               go_wp2_with (at_builtin;refine cJ eS rfl _ _ rfl ((HE.out.ostore (i:=1) rfl v (.int .i64 (du+1))).adv ((Ext.refl _).alloc (.cells #[(v:Int)] TI))) 0 rfl rfl [.int .i64 (v:Int)] rfl (dY _ _ _ 1 1 _ (by first|rfl|simp) (by first|rfl|simp) (by simp[maxLen])) (fun u hu=>by obtain rfl:=List.mem_singleton.1 hu;rfl) (by omega) ?_;intro q7 c7 w6 M6)
               have M7:=(show Mem w w6 [aJ w.heap.size TI 1 (q7) (l2+1) (c7) (ivs (bE (Q2++ [v]))),aJ w.heap.size TI 1 (some ⟨w.heap.size+1,0,none⟩) (49152) (49152) (ivs (D2.set v (du+1))),oY w.heap.size TSS TI 1 (some ⟨gB,0,none⟩) cB o,aI w.heap.size (w.heap.size) TH3 #[aA,aB,.slice p n cap]]from by rw[←dV,bE,List.map_append,ivs,List.map_append];exact M6)
               clear M6 HE cl ck cd cf
               go_wp2
               go_roundw
               case rel=>exact⟨j+1,q7,l2+1,c7,D2.set v (du+1),Q2++ [v],by omega,by go_num,rfl,by rw[List.length_append,←g.out];rfl,by rw[←d.out,←b0.out,←aa.out],fun x hx=>by
                rcases List.mem_or_eq_of_mem_set hx with h|h
                ·exact a x h
                ·omega,M7⟩
               case measure=>simp[intOf];omega
              ·have t4:decide (dv<0)=false:=by simp[hd0]
               have d:Hid ((D2,Q2)=bJ (D.getD u 0+1) (D,Q) (iG aA n MM u h++jA aA n MM u h (j+1))):=by
                show _=_
                rw[b.out,←List.append_assoc,dP,←s.out,lU (by rw[ae.out];exact hd0)]
               clear hd0
               go_wp2
               go_roundw
               case rel=>exact⟨j+1,q,l2,lc,D2,Q2,by omega,by go_num,rfl,g.out,d.out,a.out,HE.out⟩
               case measure=>simp[intOf];omega
           ·have b:Hid (iG aA n MM u h++jA aA n MM u h j=iG aA n MM u (h+1)):=by
             show _=_
             rw[uC,aJe ar.out,←a8.out,show j=nb.length by omega]
            rw[b.out]at s
            obtain rfl:nb.length=j:=by omega
            go_wp2
            go_roundw
            case rel=>exact⟨h+1,q,l2,lc,D2,Q2,by omega,by go_num,rfl,g.out,s.out,a.out,HM⟩
            case measure=>simp[intOf];omega
        ·obtain rfl:n=h:=by omega
         have hI:=HI.out.step HU (fun v hv=>qP hn u v am hv)
         have he:=s.out
         obtain⟨r,hr⟩:=(aAo HI HU.out (fun v hv=>qP hn u v am hv) (aFw (Nat.le_refl _)) he).pre
         dsimp only at hr
         have bz:k+1≤l2:=by rw[g.out,hr,List.length_append];have:=HL.out;omega
         clear hr
         rw[rE]at he
         rw[←he]at hI
         have ct:=xQ hI
         clear hI he
         go_wp2
         go_roundw
         case rel=>exact⟨k+1,q,l2,lc,D2,Q2,bz,by go_num,rfl,g.out,fun x hx=>by have:=a x hx;omega,ct.out,HM⟩
         case measure=>simp[intOf];omega
      ·have al:=xQ (HI.out.dist (by have:=HL.out;dsimp only;omega))
       go_wp2
       go_ret
       refine⟨D,al.out,dA al.out.len (HM.ow 1) HM.ext⟩
end Go.Proofs.YtgnkoffndhmhpaaGreatDoor
namespace Go.Proofs.YtgnkoffndhmhpaaGreatDoor
open Go.RowKit
set_option linter.unusedVariables false
set_option linter.unusedSimpArgs false
theorem aDd (aA aB:Int)(p:OA)(n cap:Nat)(xs:List Int)(w:World)(hS:Sl w p n cap 1 (ivs xs))(hok:aN aA aB xs=true):
  Calls Tryz.prog 157 #[aH aA aB p n cap] w fun e w'=> ∃D,eO aA n (bI xs).length D∧aX D w e w':=by
 have hl:=hS.ilen
 obtain⟨g1,g2,g3,g4,g5,g6,g7⟩:=bX (cM hok)
 have hp:(2:Nat) ^ n≤2 ^ 12:=Nat.pow_le_pow_right (by omega) (by omega)
 have b:(2:Nat) ^ 12=4096:=by decide
 have a:(2:Nat) ^ n%2=0:=by obtain⟨m,hm⟩: ∃m,n=m+1:=⟨n-1,by omega⟩;rw[hm,Nat.pow_succ];omega
 refine aC7 aA aB p n cap (bI xs).length (2 ^ n) w (by omega) (by omega) rfl (by omega) a (fun w' hx=> ?_) (fun m w' hm=>aDe m w' (by omega)) (fun w' hx=>yI aA aB p n cap xs w' (hS.ext hx) hok)
 exact(qI aA aB p n cap xs w' (hS.ext hx) hok).mono fun e w'' ⟨q,c,h1,_,h3⟩=>⟨q,c,h1,h3⟩
structure xI (aA aB:Int) (xs:List Int) (D:List Int) (c:Nat) (id:Int) (j:Nat) (ys:List Int):Prop where
 ok:aN aA aB ys=true
 len:ys.length=xs.length
 free:aM ys=(gP aA xs.length (aV D) (c,aM xs) j).2
 at_:ys[(gP aA xs.length (aV D) (c,aM xs) j).1]? =some id
theorem wW {aA aB:Int}{ys:List Int}{c:Nat}{id:Int}(hok:aN aA aB ys=true)(hi:1≤id)(hc:ys[c]? =some id):gY aA aB ys id=(c:Int):=by
 unfold gY
 rw[if_pos ⟨hok,hi⟩]
 refine qG hc (fun hm=> ?_)
 unfold aN at hok
 rw[Bool.and_eq_true]at hok
 obtain⟨h1,h2,h3⟩:=(dQ _ _).1 hok.2
 obtain⟨a,b⟩:=List.getElem?_eq_some_iff.1 hc
 have e1:ys=ys.take c++ys.drop c:=(List.take_append_drop c ys).symm
 have hd:id∈ys.drop c:=by rw[oQ hc];simp
 rw[e1,List.filter_append,List.nodup_append]at h3
 exact h3.2.2 id (List.mem_filter.2 ⟨hm,by simp;omega⟩) id (List.mem_filter.2 ⟨hd,by simp;omega⟩) rfl
theorem aH4 {aA aB:Int}{xs:List Int}{D:List Int}{c:Nat}{id:Int}(h:aN aA aB xs=true)(hc:xs[c]? =some id) (h0:id≠0) (hD:eO aA xs.length (bI xs).length D) {d:Nat} (hd:aV D c (aM xs)=d) {j:Nat} (hj:j<d) {ys:List Int} (hw:xI aA aB xs D c id j ys):
  ∃(J:Nat) (es:List (Nat×Nat)),es=eC aA xs.length (aM ys)∧gJ aA aB ys=es.map iN∧J<es.length∧es[J]? =some (fU aA xs.length (aV D) (c,aM xs) j)∧
   (∀i e,i≤J→es[i]? =some e→e∈eC aA xs.length (aM ys)∧(aV D (dK (gP aA xs.length (aV D) (c,aM xs) j).1 e.1 e.2) (cX (aM ys) e.1 e.2)=(d:Int)-j-1↔i=J))∧
   ∀e,es[J]? =some e→xI aA aB xs D c id (j+1) (bG aA aB ys (e.1:Int) (e.2:Int)):=by
 obtain⟨b1,b2,b3,b4,b5,b6,b7⟩:=bX (cM h)
 have hp:=kF hc h0
 obtain⟨e1,e2,e3⟩:=jS b5 b6 hD hp hd hj
 obtain⟨g1,g2⟩:=iV b5 b6 hD hp hd j (by omega)
 have k:=xZ hw.ok
 rw[hw.len]at k
 have b:fU aA xs.length (aV D) (c,aM xs) j∈eC aA xs.length (aM ys):=by rw[hw.free];exact e2
 have l:(eC aA xs.length (aM ys)).find? (fun e=>decide (aV D (dK (gP aA xs.length (aV D) (c,aM xs) j).1 e.1 e.2) (cX (aM ys) e.1 e.2)=(d:Int)-j-1))=some (fU aA xs.length (aV D) (c,aM xs) j):=by
  have:=e1
  unfold lA at this
  rw[←hw.free,←g2]at*
  rw[hw.free]at*
  exact this
 have s:=List.find?_some l
 obtain⟨J,v,a,g,u⟩:=aEt (p:=fun e:Nat×Nat=>decide (aV D (dK (gP aA xs.length (aV D) (c,aM xs) j).1 e.1 e.2) (cX (aM ys) e.1 e.2)=(d:Int)-j-1)) (d:=(0,0)) b s
 rw[l]at a g
 simp only[Option.getD_some]at a g
 refine⟨J,_,rfl,k,v,a,fun i e hi he=>⟨List.mem_of_getElem? he,?_⟩,fun e he=> ?_⟩
 ·constructor
  ·intro hh
   rcases Nat.lt_or_ge i J with w|m
   ·have:=u i e w he
    simp only[decide_eq_false_iff_not]at this
    exact absurd hh this
   ·exact Nat.le_antisymm hi m
  ·intro q
   have n:some (fU aA xs.length (aV D) (c,aM xs) j)=some e:=by rw[←a,←q];exact he
   have r:=Option.some.inj n
   rw[←r]
   exact of_decide_eq_true g
 ·rw[a]at he
  injection he with he
  subst he
  have o:fU aA xs.length (aV D) (c,aM xs) j∈eC aA ys.length (aM ys):=by rw[hw.len];exact b
  obtain⟨m1,m2,m3,m4⟩:=rS hw.ok (f:=(fU aA xs.length (aV D) (c,aM xs) j).1) (t:=(fU aA xs.length (aV D) (c,aM xs) j).2) o
  refine⟨iB _ _ hw.ok,by rw[cW,hw.len],?_,?_⟩
  ·rw[m3,e3,hw.free];rfl
  ·rw[e3];exact m4 _ _ hw.at_ h0
end Go.Proofs.YtgnkoffndhmhpaaGreatDoor
