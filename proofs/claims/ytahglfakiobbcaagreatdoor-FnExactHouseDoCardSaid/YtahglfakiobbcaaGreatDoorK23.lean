/-
  Texts of this proof, packed (@packed).
-/
import Derived.Test.YtahglfakiobbcaaGreatDoorK11
import Derived.Test.YtahglfakiobbcaaGreatDoorK18
import Derived.Test.YtahglfakiobbcaaGreatDoorK20
import Derived.Test.YtahglfakiobbcaaGreatDoorK22
namespace Go.Proofs.YtahglfakiobbcaaGreatDoor
open Go.RowKit
set_option linter.unusedVariables false
set_option linter.unusedSimpArgs false
abbrev aO:TypeId:=37
theorem pG:ElT Tryz.prog 35 TV 4:=
 ⟨Tryz.underlying35,by
  obtain⟨i,hi,h0,h1,h2⟩:=info_parts (show(Tryz.prog.info? TV).map (fun i=>(i.zero,i.size,i.bytes))=some (some (.agg #[.int .i64 0,.int .i64 0,.int .i64 0,.int .i64 0]),4,32) by kernel_rfl)
  exact⟨i,_,hi,h0,h1,by omega,rfl⟩,by omega⟩
theorem dL (vs:List aQ): ∀u∈vs.flatMap aC,u.oneCell'=true:=by
 intro u hu
 obtain⟨v,_,hv⟩:=List.mem_flatMap.1 hu
 simp only[aC,List.mem_cons,List.not_mem_nil,or_false]at hv
 rcases hv with rfl|rfl|rfl|rfl<;>rfl
theorem nI (v:aQ): ∀u∈aC v,u.oneCell'=true:=by
 intro u hu
 simp only[aC,List.mem_cons,List.not_mem_nil,or_false]at hu
 rcases hu with rfl|rfl|rfl|rfl<;>rfl
set_option maxRecDepth 100000 in
set_option maxHeartbeats 8000000 in
theorem aDa (aA aB free step aE aG aD aH:Int)(p:Option Addr)(n cap:Nat)(q:Option Addr)(m c2:Nat)(xs:List Int)(vs:List aQ)(w:World)(hm:m≤1000)(hS:Hid (Sl w q m c2 4 (vs.flatMap aC)))
  (HL:Hid (∀w',Ext w w'→Calls Tryz.prog 61 #[aK aA aB p n cap] w' fun e w''=> ∃q c,e= .returned (aK aA aB q n c)∧w''.ownsRow w'.heap.size TI 1 (.slice q n c) n (ivs xs)∧Ext w' w'')):
  Calls Tryz.prog 28 #[.agg #[.int .i64 aA,.int .i64 aB,.slice p n cap,.int .i64 free,.int .i64 step,.int .i64 aE,.int .i64 aG,.int .i64 aD,.int .i64 aH,.slice q m c2]] w fun e w'=> ∃p' cap' q' c2',e= .returned (.agg #[.int .i64 aA,.int .i64 aB,.slice p' n cap',.int .i64 free,.int .i64 step,.int .i64 aE,.int .i64 aG,.int .i64 aD,.int .i64 aH,.slice q' m c2'])∧w'.ownsRow w.heap.size TI 1 (.slice p' n cap') n (ivs xs)∧w'.ownsRow w.heap.size TV 4 (.slice q' m c2') m (vs.flatMap aC)∧Ext w w':=by
 go_enter Tryz.func28,Tryz.ntmps28
 go_wp2_with fail
 refine(HL.out _ (Mem.b3 w).ext).mono ?_
 rintro e w1 ⟨q0,c0,rfl,ho1,hx1⟩
 have M1:=xQ ((Mem.b3 w).call hx1 ho1)
 have lt1_1:=M1.out.hi 1
 have lt1_2:=M1.out.hi 2
 have lt1_3:=M1.out.hi 3
 clear hx1 ho1
 have c9:w1.cell? ⟨w.heap.size,9,none⟩=some (.slice q m c2):=(M1.out.blk (i:=3) rfl).cell 9
 have d0:w1.cell? ⟨w.heap.size+1+1,0,none⟩=some (.int .i64 aA):=(M1.out.blk (i:=1) rfl).cell 0
 have df0:w1.frozen? ⟨w.heap.size+1+1,0,none⟩=false:=(M1.out.blk (i:=1) rfl).frozen 0
 have d1:w1.cell? ⟨w.heap.size+1+1,1,none⟩=some (.int .i64 aB):=(M1.out.blk (i:=1) rfl).cell 1
 have df1:w1.frozen? ⟨w.heap.size+1+1,1,none⟩=false:=(M1.out.blk (i:=1) rfl).frozen 1
 have d2:w1.cell? ⟨w.heap.size+1+1,2,none⟩=some (.slice p n cap):=(M1.out.blk (i:=1) rfl).cell 2
 have df2:w1.frozen? ⟨w.heap.size+1+1,2,none⟩=false:=(M1.out.blk (i:=1) rfl).frozen 2
 go_wp2_with (at_builtin;refine cJ pG rfl _ _ rfl ((((((((M1.out).store (i:=1) rfl 0 (.int .i64 aA))).store (i:=1) rfl 1 (.int .i64 aB))).store (i:=1) rfl 2 (.slice q0 n c0))).made0 TV 4 (w1.heap.size) (by simp)) 0 rfl rfl (vs.flatMap aC) rfl (hS.out.ext (((((((((M1.out).store (i:=1) rfl 0 (.int .i64 aA))).store (i:=1) rfl 1 (.int .i64 aB))).store (i:=1) rfl 2 (.slice q0 n c0))).made0 TV 4 (w1.heap.size) (by simp))).ext) (dL vs) (by omega) ?_;intro q7 c7 w6 M6X;have M6:=xQ (show Mem w w6 [aJ w.heap.size TV 4 (q7) (m) (c7) (vs.flatMap aC),aJ w.heap.size TI 1 (q0) (n) (c0) (ivs xs),aF w.heap.size (w.heap.size+1+1) aO #[.int .i64 aA,.int .i64 aB,.slice q0 n c0,.int .i64 free,.int .i64 step,.int .i64 aE,.int .i64 aG,.int .i64 aD,.int .i64 aH,.slice q m c2],aF w.heap.size (w.heap.size+1) aO #[.int .i64 0,.int .i64 0,.slice none 0 0,.int .i64 0,.int .i64 0,.int .i64 0,.int .i64 0,.int .i64 0,.int .i64 0,.slice none 0 0],aF w.heap.size (w.heap.size) aO #[.int .i64 aA,.int .i64 aB,.slice p n cap,.int .i64 free,.int .i64 step,.int .i64 aE,.int .i64 aG,.int .i64 aD,.int .i64 aH,.slice q m c2]]from by have:=(show Mem w w6 [aJ w.heap.size TV 4 (q7) (0+m) (c7) ([]++vs.flatMap aC),aJ w.heap.size TI 1 (q0) (n) (c0) (ivs xs),aF w.heap.size (w.heap.size+1+1) aO #[.int .i64 aA,.int .i64 aB,.slice q0 n c0,.int .i64 free,.int .i64 step,.int .i64 aE,.int .i64 aG,.int .i64 aD,.int .i64 aH,.slice q m c2],aF w.heap.size (w.heap.size+1) aO #[.int .i64 0,.int .i64 0,.slice none 0 0,.int .i64 0,.int .i64 0,.int .i64 0,.int .i64 0,.int .i64 0,.int .i64 0,.slice none 0 0],aF w.heap.size (w.heap.size) aO #[.int .i64 aA,.int .i64 aB,.slice p n cap,.int .i64 free,.int .i64 step,.int .i64 aE,.int .i64 aG,.int .i64 aD,.int .i64 aH,.slice q m c2]]from M6X);simpa only[Nat.zero_add,List.nil_append]using this);clear M6X c9 d0 df0 d1 df1 d2 df2 M1 lt1_1 lt1_2 lt1_3;(have lt30_2:w.heap.size+1+1<w6.heap.size:=(M6.out.lt (i:=2) rfl rfl).2);(have lt30_3:w.heap.size+1<w6.heap.size:=(M6.out.lt (i:=3) rfl rfl).2);(have lt30_4:w.heap.size<w6.heap.size:=(M6.out.lt (i:=4) rfl rfl).2);(obtain⟨x0,x1,x2,x3,x4,x5,x6,x7,x8,x9⟩:=(M6.out.blk (i:=2) rfl).ten);(have xx9:w6.cell? ⟨w.heap.size+1+1,9,none⟩=some (.slice q m c2):=(M6.out.blk (i:=2) rfl).cell 9);(have xxf9:w6.frozen? ⟨w.heap.size+1+1,9,none⟩=false:=(M6.out.blk (i:=2) rfl).frozen 9);(obtain⟨y0,yf0,y1,yf1,y2,yf2,y3,yf3,y4,yf4,y5,yf5,y6,yf6,y7,yf7,y8,yf8,y9,yf9⟩:=(M6.out.blk (i:=3) rfl).tenf))
 have M31:=xQ (show Mem w (((w6.setCell ⟨w.heap.size+1+1,9,none⟩ (.slice q7 m c7)).setCell ⟨w.heap.size+1,0,none⟩ (.int .i64 aA)).setCell ⟨w.heap.size+1,1,none⟩ (.int .i64 aB)) [aJ w.heap.size TV 4 (q7) (m) (c7) (vs.flatMap aC),aJ w.heap.size TI 1 (q0) (n) (c0) (ivs xs),aF w.heap.size (w.heap.size+1+1) aO #[.int .i64 aA,.int .i64 aB,.slice q0 n c0,.int .i64 free,.int .i64 step,.int .i64 aE,.int .i64 aG,.int .i64 aD,.int .i64 aH,.slice q7 m c7],aF w.heap.size (w.heap.size+1) aO #[.int .i64 aA,.int .i64 aB,.slice none 0 0,.int .i64 0,.int .i64 0,.int .i64 0,.int .i64 0,.int .i64 0,.int .i64 0,.slice none 0 0],aF w.heap.size (w.heap.size) aO #[.int .i64 aA,.int .i64 aB,.slice p n cap,.int .i64 free,.int .i64 step,.int .i64 aE,.int .i64 aG,.int .i64 aD,.int .i64 aH,.slice q m c2]]from((((((M6.out).store (i:=2) rfl 9 (.slice q7 m c7))).store (i:=3) rfl 0 (.int .i64 aA))).store (i:=3) rfl 1 (.int .i64 aB)))
 have M32:=xQ (show Mem w (((((w6.setCell ⟨w.heap.size+1+1,9,none⟩ (.slice q7 m c7)).setCell ⟨w.heap.size+1,0,none⟩ (.int .i64 aA)).setCell ⟨w.heap.size+1,1,none⟩ (.int .i64 aB)).setCell ⟨w.heap.size+1,2,none⟩ (.slice q0 n c0)).setCell ⟨w.heap.size+1,3,none⟩ (.int .i64 free)) [aJ w.heap.size TV 4 (q7) (m) (c7) (vs.flatMap aC),aJ w.heap.size TI 1 (q0) (n) (c0) (ivs xs),aF w.heap.size (w.heap.size+1+1) aO #[.int .i64 aA,.int .i64 aB,.slice q0 n c0,.int .i64 free,.int .i64 step,.int .i64 aE,.int .i64 aG,.int .i64 aD,.int .i64 aH,.slice q7 m c7],aF w.heap.size (w.heap.size+1) aO #[.int .i64 aA,.int .i64 aB,.slice q0 n c0,.int .i64 free,.int .i64 0,.int .i64 0,.int .i64 0,.int .i64 0,.int .i64 0,.slice none 0 0],aF w.heap.size (w.heap.size) aO #[.int .i64 aA,.int .i64 aB,.slice p n cap,.int .i64 free,.int .i64 step,.int .i64 aE,.int .i64 aG,.int .i64 aD,.int .i64 aH,.slice q m c2]]from((((M31.out).store (i:=3) rfl 2 (.slice q0 n c0))).store (i:=3) rfl 3 (.int .i64 free)))
 have M33:=xQ (show Mem w (((((((w6.setCell ⟨w.heap.size+1+1,9,none⟩ (.slice q7 m c7)).setCell ⟨w.heap.size+1,0,none⟩ (.int .i64 aA)).setCell ⟨w.heap.size+1,1,none⟩ (.int .i64 aB)).setCell ⟨w.heap.size+1,2,none⟩ (.slice q0 n c0)).setCell ⟨w.heap.size+1,3,none⟩ (.int .i64 free)).setCell ⟨w.heap.size+1,4,none⟩ (.int .i64 step)).setCell ⟨w.heap.size+1,5,none⟩ (.int .i64 aE)) [aJ w.heap.size TV 4 (q7) (m) (c7) (vs.flatMap aC),aJ w.heap.size TI 1 (q0) (n) (c0) (ivs xs),aF w.heap.size (w.heap.size+1+1) aO #[.int .i64 aA,.int .i64 aB,.slice q0 n c0,.int .i64 free,.int .i64 step,.int .i64 aE,.int .i64 aG,.int .i64 aD,.int .i64 aH,.slice q7 m c7],aF w.heap.size (w.heap.size+1) aO #[.int .i64 aA,.int .i64 aB,.slice q0 n c0,.int .i64 free,.int .i64 step,.int .i64 aE,.int .i64 0,.int .i64 0,.int .i64 0,.slice none 0 0],aF w.heap.size (w.heap.size) aO #[.int .i64 aA,.int .i64 aB,.slice p n cap,.int .i64 free,.int .i64 step,.int .i64 aE,.int .i64 aG,.int .i64 aD,.int .i64 aH,.slice q m c2]]from((((M32.out).store (i:=3) rfl 4 (.int .i64 step))).store (i:=3) rfl 5 (.int .i64 aE)))
 have M34:=xQ (show Mem w (((((((((w6.setCell ⟨w.heap.size+1+1,9,none⟩ (.slice q7 m c7)).setCell ⟨w.heap.size+1,0,none⟩ (.int .i64 aA)).setCell ⟨w.heap.size+1,1,none⟩ (.int .i64 aB)).setCell ⟨w.heap.size+1,2,none⟩ (.slice q0 n c0)).setCell ⟨w.heap.size+1,3,none⟩ (.int .i64 free)).setCell ⟨w.heap.size+1,4,none⟩ (.int .i64 step)).setCell ⟨w.heap.size+1,5,none⟩ (.int .i64 aE)).setCell ⟨w.heap.size+1,6,none⟩ (.int .i64 aG)).setCell ⟨w.heap.size+1,7,none⟩ (.int .i64 aD)) [aJ w.heap.size TV 4 (q7) (m) (c7) (vs.flatMap aC),aJ w.heap.size TI 1 (q0) (n) (c0) (ivs xs),aF w.heap.size (w.heap.size+1+1) aO #[.int .i64 aA,.int .i64 aB,.slice q0 n c0,.int .i64 free,.int .i64 step,.int .i64 aE,.int .i64 aG,.int .i64 aD,.int .i64 aH,.slice q7 m c7],aF w.heap.size (w.heap.size+1) aO #[.int .i64 aA,.int .i64 aB,.slice q0 n c0,.int .i64 free,.int .i64 step,.int .i64 aE,.int .i64 aG,.int .i64 aD,.int .i64 0,.slice none 0 0],aF w.heap.size (w.heap.size) aO #[.int .i64 aA,.int .i64 aB,.slice p n cap,.int .i64 free,.int .i64 step,.int .i64 aE,.int .i64 aG,.int .i64 aD,.int .i64 aH,.slice q m c2]]from((((M33.out).store (i:=3) rfl 6 (.int .i64 aG))).store (i:=3) rfl 7 (.int .i64 aD)))
 have M35:=xQ (show Mem w (((((((((((w6.setCell ⟨w.heap.size+1+1,9,none⟩ (.slice q7 m c7)).setCell ⟨w.heap.size+1,0,none⟩ (.int .i64 aA)).setCell ⟨w.heap.size+1,1,none⟩ (.int .i64 aB)).setCell ⟨w.heap.size+1,2,none⟩ (.slice q0 n c0)).setCell ⟨w.heap.size+1,3,none⟩ (.int .i64 free)).setCell ⟨w.heap.size+1,4,none⟩ (.int .i64 step)).setCell ⟨w.heap.size+1,5,none⟩ (.int .i64 aE)).setCell ⟨w.heap.size+1,6,none⟩ (.int .i64 aG)).setCell ⟨w.heap.size+1,7,none⟩ (.int .i64 aD)).setCell ⟨w.heap.size+1,8,none⟩ (.int .i64 aH)).setCell ⟨w.heap.size+1,9,none⟩ (.slice q7 m c7)) [aJ w.heap.size TV 4 (q7) (m) (c7) (vs.flatMap aC),aJ w.heap.size TI 1 (q0) (n) (c0) (ivs xs),aF w.heap.size (w.heap.size+1+1) aO #[.int .i64 aA,.int .i64 aB,.slice q0 n c0,.int .i64 free,.int .i64 step,.int .i64 aE,.int .i64 aG,.int .i64 aD,.int .i64 aH,.slice q7 m c7],aF w.heap.size (w.heap.size+1) aO #[.int .i64 aA,.int .i64 aB,.slice q0 n c0,.int .i64 free,.int .i64 step,.int .i64 aE,.int .i64 aG,.int .i64 aD,.int .i64 aH,.slice q7 m c7],aF w.heap.size (w.heap.size) aO #[.int .i64 aA,.int .i64 aB,.slice p n cap,.int .i64 free,.int .i64 step,.int .i64 aE,.int .i64 aG,.int .i64 aD,.int .i64 aH,.slice q m c2]]from((((M34.out).store (i:=3) rfl 8 (.int .i64 aH))).store (i:=3) rfl 9 (.slice q7 m c7)))
 clear x0 x1 x2 x3 x4 x5 x6 x7 x8 x9 xx9 xxf9 y0 yf0 y1 yf1 y2 yf2 y3 yf3 y4 yf4 y5 yf5 y6 yf6 y7 yf7 y8 yf8 y9 yf9 lt30_2 lt30_3 lt30_4
 have M36:=xQ (show Mem w (((((((((((w6.setCell ⟨w.heap.size+1+1,9,none⟩ (.slice q7 m c7)).setCell ⟨w.heap.size+1,0,none⟩ (.int .i64 aA)).setCell ⟨w.heap.size+1,1,none⟩ (.int .i64 aB)).setCell ⟨w.heap.size+1,2,none⟩ (.slice q0 n c0)).setCell ⟨w.heap.size+1,3,none⟩ (.int .i64 free)).setCell ⟨w.heap.size+1,4,none⟩ (.int .i64 step)).setCell ⟨w.heap.size+1,5,none⟩ (.int .i64 aE)).setCell ⟨w.heap.size+1,6,none⟩ (.int .i64 aG)).setCell ⟨w.heap.size+1,7,none⟩ (.int .i64 aD)).setCell ⟨w.heap.size+1,8,none⟩ (.int .i64 aH)).setCell ⟨w.heap.size+1,9,none⟩ (.slice q7 m c7)) [aJ w.heap.size TV 4 (q7) (m) (c7) (vs.flatMap aC),aJ w.heap.size TI 1 (q0) (n) (c0) (ivs xs),aF w.heap.size (w.heap.size+1+1) aO #[.int .i64 aA,.int .i64 aB,.slice q0 n c0,.int .i64 free,.int .i64 step,.int .i64 aE,.int .i64 aG,.int .i64 aD,.int .i64 aH,.slice q7 m c7],aF w.heap.size (w.heap.size+1) aO #[.int .i64 aA,.int .i64 aB,.slice q0 n c0,.int .i64 free,.int .i64 step,.int .i64 aE,.int .i64 aG,.int .i64 aD,.int .i64 aH,.slice q7 m c7],aF w.heap.size (w.heap.size) aO #[.int .i64 aA,.int .i64 aB,.slice p n cap,.int .i64 free,.int .i64 step,.int .i64 aE,.int .i64 aG,.int .i64 aD,.int .i64 aH,.slice q m c2]]from M35.out)
 generalize hwz:World.setCell _ _ _=wz
 rw[hwz]at M36
 clear hwz M6 M31 M32 M33 M34 M35
 obtain⟨y0,y1,y2,y3,y4,y5,y6,y7,y8,y9⟩:=(M36.out.blk (i:=3) rfl).ten
 exact bodyPost_ret (v:= .agg #[.int .i64 aA,.int .i64 aB,.slice q0 n c0,.int .i64 free,.int .i64 step,.int .i64 aE,.int .i64 aG,.int .i64 aD,.int .i64 aH,.slice q7 m c7]) (by simp[results,Tryz.results28,go_sem, *]) rfl ⟨q0,c0,q7,c7,rfl,(M36.out.own (i:=1) rfl),by have:=(M36.out.own (i:=0) rfl);simpa using this,M36.out.ext⟩
set_option maxRecDepth 100000 in
set_option maxHeartbeats 8000000 in
theorem qF (h:bJ)(p:Option Addr)(n cap:Nat)(q:Option Addr)(m c2:Nat)(w:World)(hn:n≤1000)(hm:m≤1000)(hi:IsHouse w h p n cap q m c2):
  Calls Tryz.prog 28 #[cC h p n cap q m c2] w (RetHouse h w):=by
 have hl:=hi.clen
 have hvl:=hi.vlen
 refine(aDa h.aA h.aB h.free h.step h.aE h.aG h.aD h.aH p n cap q m c2 h.cells h.vs w hm (xQ hi.vs) (xQ fun w' hx=> ?_)).mono ?_
 ·refine(eG h.aA h.aB p n cap h.cells w' (by omega) (hi.cells.ext hx)).mono ?_
  rintro e w'' ⟨q,c,rfl,ho,hx2⟩
  rw[hl]at ho⊢
  exact⟨q,c,rfl,ho,hx2⟩
 ·rintro e w' ⟨p',cap',q',c2',rfl,h1,h2,h3⟩
  subst hl hvl
  exact⟨p',cap',q',c2',rfl,h1,h2,h3⟩
def hU (v:aQ)(vs:List aQ):List aQ:=vs.takeWhile (fun u=>decide (u.1<v.1))++v::vs.dropWhile (fun u=>decide (u.1<v.1))
theorem mL (v:aQ): ∀(vs:List aQ) (k:Nat),(∀u∈vs.take k,u.1<v.1)→(∀u,vs[k]? =some u→ ¬u.1<v.1)→hU v vs=vs.take k++v::vs.drop k
 | [],k,_,_=>by simp[hU]
 |u::vs,0,_,h2=>by simp[hU,h2 u (by simp)]
 |u::vs,k+1,h1,h2=>by
  have h:=mL v vs k (fun z hz=>h1 z (by simp[hz])) (fun z hz=>h2 z (by simpa using hz))
  have hu:u.1<v.1:=h1 u (by simp)
  simp only[hU]at h⊢
  simp[hu,h]
theorem iB: ∀(k:Nat) (vs:List aQ),(vs.flatMap aC).drop (k*4)=(vs.drop k).flatMap aC
 |0,vs=>by simp
 |k+1,[]=>by simp
 |k+1,v::vs=>by
  rw[List.flatMap_cons,show(k+1)*4=(aC v).length+k*4 by simp[aC];omega,List.drop_length_add_append,iB k vs];rfl
theorem vL {w:World}{b off n cap sz k:Nat}{xs:List Value}(h:Sl w (some ⟨b,off,none⟩) n cap sz xs)(hk:k≤n):Sl w (some ⟨b,off+k*sz,none⟩) (n-k) (cap-k) sz (xs.drop (k*sz)):=by
 have hl:=h.len
 have hle:=h.le
 have hmx:=h.mx
 refine⟨by rw[List.length_drop,hl,Nat.sub_mul],by omega,by omega,fun h0=> ?_⟩
 obtain⟨b',off',e,hb,hc⟩:=h.rd (by omega)
 injection e with e;injection e with e1 e2
 subst e1 e2
 refine⟨_,_,rfl,hb,fun j hj=> ?_⟩
 rw[Nat.add_assoc,hc (k*sz+j) (by rw[Nat.sub_mul]at hj;omega)]
 simp
set_option maxRecDepth 100000 in
set_option maxHeartbeats 8000000 in
theorem aBp (id a1 a2 a3:Int)(q:Option Addr)(m c2:Nat)(vs:List aQ)(w:World)(hm:m≤1000)(hS:Sl w q m c2 4 (vs.flatMap aC)):
  Calls Tryz.prog 30 #[.slice q m c2,.agg #[.int .i64 id,.int .i64 a1,.int .i64 a2,.int .i64 a3]] w fun e w'=> ∃q' c',e= .returned (.slice q' (m+1) c')∧w'.ownsRow w.heap.size TV 4 (.slice q' (m+1) c') (m+1) ((hU (id,a1,a2,a3) vs).flatMap aC)∧Ext w w':=by
 have hl:Hid (vs.length=m):=by
  have:=hS.len;rw[cM aC 4 (fun _=>rfl)]at this;exact(by omega:vs.length=m)
 have hncap:=hS.le
 have HS:=xQ hS
 clear hS
 have hst:=xQ (((((Mem.start w).blkNew TV #[.int .i64 id,.int .i64 a1,.int .i64 a2,.int .i64 a3] (w.heap.size) (by simp))).made0 TV 4 (w.heap.size+1) (by simp)))
 go_enter Tryz.func30,Tryz.ntmps30
 go_wp2
 go_loopw [5,6] (fun v i wr=> ∃(k:Nat) (q5:Option Addr) (c5:Nat),k≤m∧i= .int .i64 k∧v= .slice q5 k c5∧(∀u∈vs.take k,u.1<id)∧Mem w wr [aJ w.heap.size TV 4 (q5) (k) (c5) ((vs.take k).flatMap aC),aF w.heap.size (w.heap.size) TV #[.int .i64 id,.int .i64 a1,.int .i64 a2,.int .i64 a3]]) (fun _ i _=>m-(intOf i).toNat)
 case atStart=>exact⟨0,some ⟨w.heap.size+1,0,none⟩,0,Nat.zero_le _,rfl,rfl,by simp,hst.out⟩
 case round=>
  clear hst
  obtain⟨k,q5,c5,hk,rfl,rfl,hlt',hM⟩:=hrel
  have HM:=xQ hM
  have HL:=xQ hlt'
  clear hM hlt'
  by_cases hlt:k<m
  ·obtain⟨b,off,c0,c1,c4,c3,rfl,hx,hb,g0,g1,g2,g3⟩:=dV (HS.out.ext HM.out.ext) hlt
   have lt0:w.heap.size<wr.heap.size:=(HM.out.lt (i:=1) rfl rfl).2
   have b0:wr.cell? ⟨w.heap.size,0,none⟩=some (.int .i64 id):=(HM.out.blk (i:=1) rfl).cell 0
   have b1:wr.cell? ⟨w.heap.size,1,none⟩=some (.int .i64 a1):=(HM.out.blk (i:=1) rfl).cell 1
   have b2:wr.cell? ⟨w.heap.size,2,none⟩=some (.int .i64 a2):=(HM.out.blk (i:=1) rfl).cell 2
   have b3:wr.cell? ⟨w.heap.size,3,none⟩=some (.int .i64 a3):=(HM.out.blk (i:=1) rfl).cell 3
   have HX:=xQ hx
   clear hx
   have i1:(0:Int)≤(k:Int):=by omega
   have i2:(k:Int)<(m:Int):=by omega
   have i3:(k:Int)≤(m:Int):=by omega
   by_cases hy:c0<id
   ·have hfin:Hid (∀z∈vs.take (k+1),z.1<id):=by
     show∀z∈vs.take (k+1),z.1<id
     rw[bH HX.out]
     intro z hz
     rcases List.mem_append.1 hz with h|h
     ·exact HL.out z h
     ·simp at h;subst h;exact hy
    have hd:decide (c0<id)=true:=by simp[hy]
    go_wp2
    go_quiet (fail)
    generalize hwi:World.drewN wr _=wi
    have hX:Ext wr wi:=by rw[←hwi];exact Ext.drewN (Ext.refl _) _
    clear hwi b0 b1 b2 b3 lt0 hd
    have M51:=xQ (HM.out.adv hX)
    clear HM
    have lt51_1:=M51.out.hi 1
    have d0:wi.cell? ⟨w.heap.size,0,none⟩=some (.int .i64 id):=(M51.out.blk (i:=1) rfl).cell 0
    have d1:wi.cell? ⟨w.heap.size,1,none⟩=some (.int .i64 a1):=(M51.out.blk (i:=1) rfl).cell 1
    have d2:wi.cell? ⟨w.heap.size,2,none⟩=some (.int .i64 a2):=(M51.out.blk (i:=1) rfl).cell 2
    have d3:wi.cell? ⟨w.heap.size,3,none⟩=some (.int .i64 a3):=(M51.out.blk (i:=1) rfl).cell 3
    have e0:=(hX.cells.1 _ _ hb).trans g0
    have e1:=(hX.cells.1 _ _ hb).trans g1
    have e2:=(hX.cells.1 _ _ hb).trans g2
    have e3:=(hX.cells.1 _ _ hb).trans g3
    have hb2:b<wi.heap.size:=Nat.lt_of_lt_of_le hb hX.sz
    clear hX g0 g1 g2 g3 hb
    go_wp2_with (at_builtin;go_loud (refine cJ pG rfl _ _ rfl ((M51.out).adv ((Ext.refl _).alloc (.cells #[.int .i64 c0,.int .i64 c1,.int .i64 c4,.int .i64 c3] TV))) 0 rfl rfl (aC (c0,c1,c4,c3)) rfl (eA _ _ _ 1 4 _ (by simp) (by simp) (by simp[maxLen])) (nI _) (by omega) ?_;intro q7 c7 w6 M6))
    have M7:=xQ (show Mem w w6 [aJ w.heap.size TV 4 (q7) (k+1) (c7) ((vs.take k).flatMap aC++aC (c0,c1,c4,c3)),aF w.heap.size (w.heap.size) TV #[.int .i64 id,.int .i64 a1,.int .i64 a2,.int .i64 a3]]from M6)
    have hfl:Hid ((vs.take k).flatMap aC++aC (c0,c1,c4,c3)=(vs.take (k+1)).flatMap aC):=by show _=_;rw[bH HX.out,List.flatMap_append];simp
    rw[hfl.out]at M7
    clear hfl M6
    go_roundw
    case rel=>exact⟨k+1,q7,c7,by omega,by go_num,rfl,hfin.out,M7.out⟩
    case measure=>simp[intOf];omega
   ·have hfin:Hid (hU (id,a1,a2,a3) vs=vs.take k++(id,a1,a2,a3)::vs.drop k):=mL _ vs k HL.out (fun z hz=>by rw[HX.out]at hz;injection hz with hz;subst hz;exact hy)
    have hck: ¬c2=k:=by omega
    have hd:decide (c0<id)=false:=by simp[hy]
    clear HX HL
    go_wp2
    go_quiet (fail)
    generalize hwi:World.drewN wr _=wi
    have hX:Ext wr wi:=by rw[←hwi];exact Ext.drewN (Ext.refl _) _
    clear hwi b0 b1 b2 b3 lt0 hd
    have M51:=xQ (HM.out.adv hX)
    clear HM
    have lt51_1:=M51.out.hi 1
    have d0:wi.cell? ⟨w.heap.size,0,none⟩=some (.int .i64 id):=(M51.out.blk (i:=1) rfl).cell 0
    have d1:wi.cell? ⟨w.heap.size,1,none⟩=some (.int .i64 a1):=(M51.out.blk (i:=1) rfl).cell 1
    have d2:wi.cell? ⟨w.heap.size,2,none⟩=some (.int .i64 a2):=(M51.out.blk (i:=1) rfl).cell 2
    have d3:wi.cell? ⟨w.heap.size,3,none⟩=some (.int .i64 a3):=(M51.out.blk (i:=1) rfl).cell 3
    clear hX g0 g1 g2 g3 hb hy
    go_wp2
    go_region_law ((first
     |(refine eX pG (by rfl) _ _ (by rfl) (M51.out.adv (by exact .drew (.alloc (.refl _) _))) 0 (by rfl) (by rfl) (aC (id,a1,a2,a3)) (by rfl) (by first|exact eA wi #[.int .i64 id,.int .i64 a1,.int .i64 a2,.int .i64 a3] _ 1 4 _ rfl (by simp) (by simp[maxLen])|exact(eA wi #[.int .i64 id,.int .i64 a1,.int .i64 a2,.int .i64 a3] _ 1 4 _ rfl (by simp) (by simp[maxLen])).ext (Ext.drew (Ext.refl _))|exact eA wi.drew #[.int .i64 id,.int .i64 a1,.int .i64 a2,.int .i64 a3] _ 1 4 _ rfl (by simp) (by simp[maxLen])) (nI _) (by omega) ?_
       intro q7 c7 w6 M6
       have M7:=xQ (show Mem w w6 [aJ w.heap.size TV 4 (q7) (k+1) (c7) ((vs.take k).flatMap aC++aC (id,a1,a2,a3)),aF w.heap.size (w.heap.size) TV #[.int .i64 id,.int .i64 a1,.int .i64 a2,.int .i64 a3]]from M6)
       clear M6)
     |(refine eX pG (by rfl) _ _ (by rfl) (M7.out.adv (by exact .refl _)) 0 (by rfl) (by rfl) ((vs.drop k).flatMap aC) (by rfl) (iB k vs▸vL (HS.out.ext (M7.out.ext.trans (by exact .refl _))) (by omega)) (dL _) (by omega) ?_
       intro q9 c9 w9 M9
       have M9:=xQ (show Mem w w9 [aJ w.heap.size TV 4 (q9) (k+1+(m-k)) (c9) (((vs.take k).flatMap aC++aC (id,a1,a2,a3))++(vs.drop k).flatMap aC),aF w.heap.size (w.heap.size) TV #[.int .i64 id,.int .i64 a1,.int .i64 a2,.int .i64 a3]]from M9))))
    all_goals (
     have e1:k+1+(m-k)=m+1:=by omega
     have e2:((vs.take k).flatMap aC++aC (id,a1,a2,a3))++(vs.drop k).flatMap aC=(vs.take k++(id,a1,a2,a3)::vs.drop k).flatMap aC:=by simp
     have MZ:=xQ (show Mem w w9 [aJ w.heap.size TV 4 (q9) (m+1) (c9) ((vs.take k++(id,a1,a2,a3)::vs.drop k).flatMap aC),aF w.heap.size (w.heap.size) TV #[.int .i64 id,.int .i64 a1,.int .i64 a2,.int .i64 a3]]from by have:=M9.out;rw[e2]at this;simpa only[e1]using this)
     clear e2 M9 M7)
    all_goals go_wp2
    all_goals exact bodyPost_ret (v:= .slice q9 (m+1) c9) (by simp[results,Tryz.results30,go_sem, *]) rfl ⟨q9,c9,rfl,by rw[hfin.out];exact MZ.out.own (i:=0) rfl,MZ.out.ext⟩
  ·obtain rfl:k=m:=by omega
   have lt0:w.heap.size<wr.heap.size:=(HM.out.lt (i:=1) rfl rfl).2
   have b0:wr.cell? ⟨w.heap.size,0,none⟩=some (.int .i64 id):=(HM.out.blk (i:=1) rfl).cell 0
   have b1:wr.cell? ⟨w.heap.size,1,none⟩=some (.int .i64 a1):=(HM.out.blk (i:=1) rfl).cell 1
   have b2:wr.cell? ⟨w.heap.size,2,none⟩=some (.int .i64 a2):=(HM.out.blk (i:=1) rfl).cell 2
   have b3:wr.cell? ⟨w.heap.size,3,none⟩=some (.int .i64 a3):=(HM.out.blk (i:=1) rfl).cell 3
   have hfin:Hid (hU (id,a1,a2,a3) vs=vs.take k++(id,a1,a2,a3)::vs.drop k):=mL _ vs k HL.out (fun z hz=>by rw[List.getElem?_eq_none (by rw[hl.out];exact Nat.le_refl _)]at hz;cases hz)
   have hdn:Hid (vs.drop k= []):=List.drop_eq_nil_of_le (by rw[hl.out];exact Nat.le_refl _)
   have i1:(0:Int)≤(k:Int):=by omega
   clear HL
   go_wp2
   go_quiet (fail)
   generalize hwi:World.drewN wr _=wi
   have hX:Ext wr wi:=by rw[←hwi];exact Ext.drewN (Ext.refl _) _
   clear hwi b0 b1 b2 b3 lt0
   have M51:=xQ (HM.out.adv hX)
   clear HM
   have lt51_1:=M51.out.hi 1
   have d0:wi.cell? ⟨w.heap.size,0,none⟩=some (.int .i64 id):=(M51.out.blk (i:=1) rfl).cell 0
   have d1:wi.cell? ⟨w.heap.size,1,none⟩=some (.int .i64 a1):=(M51.out.blk (i:=1) rfl).cell 1
   have d2:wi.cell? ⟨w.heap.size,2,none⟩=some (.int .i64 a2):=(M51.out.blk (i:=1) rfl).cell 2
   have d3:wi.cell? ⟨w.heap.size,3,none⟩=some (.int .i64 a3):=(M51.out.blk (i:=1) rfl).cell 3
   clear hX
   go_wp2
   go_region_law ((first
    |(refine eX pG (by rfl) _ _ (by rfl) (M51.out.adv (by exact .drew (.alloc (.refl _) _))) 0 (by rfl) (by rfl) (aC (id,a1,a2,a3)) (by rfl) (by first|exact eA wi #[.int .i64 id,.int .i64 a1,.int .i64 a2,.int .i64 a3] _ 1 4 _ rfl (by simp) (by simp[maxLen])|exact(eA wi #[.int .i64 id,.int .i64 a1,.int .i64 a2,.int .i64 a3] _ 1 4 _ rfl (by simp) (by simp[maxLen])).ext (Ext.drew (Ext.refl _))|exact eA wi.drew #[.int .i64 id,.int .i64 a1,.int .i64 a2,.int .i64 a3] _ 1 4 _ rfl (by simp) (by simp[maxLen])) (nI _) (by omega) ?_
      intro q7 c7 w6 M6
      have M7:=xQ (show Mem w w6 [aJ w.heap.size TV 4 (q7) (k+1) (c7) ((vs.take k).flatMap aC++aC (id,a1,a2,a3)),aF w.heap.size (w.heap.size) TV #[.int .i64 id,.int .i64 a1,.int .i64 a2,.int .i64 a3]]from M6)
      clear M6)
    |(refine eX pG (by rfl) _ _ (by rfl) (M7.out.adv (by exact .refl _)) 0 (by rfl) (by rfl) (([]:List aQ).flatMap aC) (by rfl) (⟨by simp,Nat.zero_le _,by have:=HS.out.mx;omega,fun h=>absurd h (by omega)⟩) (dL _) (by omega) ?_
      intro q9 c9 w9 M9
      have M9:=xQ (show Mem w w9 [aJ w.heap.size TV 4 (q9) (k+1+0) (c9) (((vs.take k).flatMap aC++aC (id,a1,a2,a3))++([]:List aQ).flatMap aC),aF w.heap.size (w.heap.size) TV #[.int .i64 id,.int .i64 a1,.int .i64 a2,.int .i64 a3]]from M9))))
   all_goals (
    have e1:k+1+0=k+1:=by omega
    have e2:((vs.take k).flatMap aC++aC (id,a1,a2,a3))++([]:List aQ).flatMap aC=(vs.take k++(id,a1,a2,a3)::vs.drop k).flatMap aC:=by simp[hdn.out]
    have MZ:=xQ (show Mem w w9 [aJ w.heap.size TV 4 (q9) (k+1) (c9) ((vs.take k++(id,a1,a2,a3)::vs.drop k).flatMap aC),aF w.heap.size (w.heap.size) TV #[.int .i64 id,.int .i64 a1,.int .i64 a2,.int .i64 a3]]from by have:=M9.out;rw[e2]at this;simpa only[e1]using this)
    clear e2 M9 M7)
   all_goals go_wp2
   all_goals exact bodyPost_ret (v:= .slice q9 (k+1) c9) (by simp[results,Tryz.results30,go_sem, *]) rfl ⟨q9,c9,rfl,by rw[hfin.out];exact MZ.out.own (i:=0) rfl,MZ.out.ext⟩
set_option maxRecDepth 100000 in
set_option maxHeartbeats 4000000 in
theorem aA3 (q:Option Addr)(m c2:Nat)(xs:List Value)(w:World)(hm:m≤1000)(hS:Sl w q m c2 4 xs)(h1: ∀u∈xs,u.oneCell'=true):
  Calls Tryz.prog 78 #[.slice q m c2] w fun e w'=> ∃q' c',e= .returned (.slice q' m c')∧w'.ownsRow w.heap.size TV 4 (.slice q' m c') m xs∧Ext w w':=by
 cases q with
 |none=>
  have h0:m=0:=by
   by_cases h:0<m
   ·obtain⟨b,off,e,_⟩:=hS.rd h;cases e
   ·omega
  subst h0
  obtain rfl:xs= []:=List.eq_nil_of_length_eq_zero (by have:=hS.len;simpa using this)
  have q22: ∀(w:World) (a:Option Addr) (n c n' c':Nat),(binOp .eql 35 (.slice a n c) (.slice none n' c')).run Tryz.prog w= .ok (.bool a.isNone) w:=fun w a n c n' c'=>Lib.run_eql_slice_nil w _ _ a n c n' c' Tryz.underlying35
  clear hS
  go_enter Tryz.func78,Tryz.ntmps78
  go_wp2
  go_ret
  exact⟨none,0,rfl,World.ownsRow_nil _ _ _ _,Ext.refl _⟩
 |some a=>
  have HS:=xQ hS
  have HO:=xQ h1
  have MS:=xQ ((Mem.start w).made0 TV 4 (w.heap.size) (by simp))
  have q22: ∀(w:World) (a:Option Addr) (n c n' c':Nat),(binOp .eql 35 (.slice a n c) (.slice none n' c')).run Tryz.prog w= .ok (.bool a.isNone) w:=fun w a n c n' c'=>Lib.run_eql_slice_nil w _ _ a n c n' c' Tryz.underlying35
  clear hS h1
  go_enter Tryz.func78,Tryz.ntmps78
  go_wp2_with (at_builtin;go_loud (refine cJ pG rfl _ _ rfl MS.out 0 rfl rfl xs rfl (HS.out.ext ((Ext.refl _).alloc _)) HO.out (by omega) ?_;intro q7 c7 w6 M6))
  have M7:=xQ (show Mem w w6 [aJ w.heap.size TV 4 q7 m c7 xs]from by simpa using M6)
  clear M6
  go_wp2
  go_ret
  exact⟨q7,c7,rfl,M7.out.own (i:=0) rfl,M7.out.ext⟩
set_option maxRecDepth 100000 in
set_option maxHeartbeats 8000000 in
theorem aC6 (aA aB free step aE aG aD aH:Int)(p:Option Addr)(n cap:Nat)(q:Option Addr)(m c2:Nat)(xs:List Int)(vs:List aQ)(w:World)
  (HL:Hid (∀w',Ext w w'→Calls Tryz.prog 77 #[aK aA aB p n cap] w' fun e w''=> ∃q c,e= .returned (aK aA aB q n c)∧w''.ownsRow w'.heap.size TI 1 (.slice q n c) n (ivs xs)∧Ext w' w''))
  (HCL:Hid (∀w',Ext w w'→Calls Tryz.prog 78 #[.slice q m c2] w' fun e w''=> ∃q' c',e= .returned (.slice q' m c')∧w''.ownsRow w'.heap.size TV 4 (.slice q' m c') m (vs.flatMap aC)∧Ext w' w'')):
  Calls Tryz.prog 41 #[.agg #[.int .i64 aA,.int .i64 aB,.slice p n cap,.int .i64 free,.int .i64 step,.int .i64 aE,.int .i64 aG,.int .i64 aD,.int .i64 aH,.slice q m c2]] w fun e w'=> ∃p' cap' q' c2',e= .returned (.agg #[.int .i64 aA,.int .i64 aB,.slice p' n cap',.int .i64 free,.int .i64 step,.int .i64 aE,.int .i64 aG,.int .i64 aD,.int .i64 aH,.slice q' m c2'])∧w'.ownsRow w.heap.size TI 1 (.slice p' n cap') n (ivs xs)∧w'.ownsRow w.heap.size TV 4 (.slice q' m c2') m (vs.flatMap aC)∧Ext w w':=by
 go_enter Tryz.func41,Tryz.ntmps41
 go_wp2_with fail
 refine(HL.out _ (Mem.b3 w).ext).mono ?_
 rintro e w1 ⟨q0,c0,rfl,ho1,hx1⟩
 have M1:=xQ ((Mem.b3 w).call hx1 ho1)
 have lt1_1:=M1.out.hi 1
 have lt1_2:=M1.out.hi 2
 have lt1_3:=M1.out.hi 3
 clear hx1 ho1
 have c9:w1.cell? ⟨w.heap.size,9,none⟩=some (.slice q m c2):=(M1.out.blk (i:=3) rfl).cell 9
 have d0:w1.cell? ⟨w.heap.size+1+1,0,none⟩=some (.int .i64 aA):=(M1.out.blk (i:=1) rfl).cell 0
 have df0:w1.frozen? ⟨w.heap.size+1+1,0,none⟩=false:=(M1.out.blk (i:=1) rfl).frozen 0
 have d1:w1.cell? ⟨w.heap.size+1+1,1,none⟩=some (.int .i64 aB):=(M1.out.blk (i:=1) rfl).cell 1
 have df1:w1.frozen? ⟨w.heap.size+1+1,1,none⟩=false:=(M1.out.blk (i:=1) rfl).frozen 1
 have d2:w1.cell? ⟨w.heap.size+1+1,2,none⟩=some (.slice p n cap):=(M1.out.blk (i:=1) rfl).cell 2
 have df2:w1.frozen? ⟨w.heap.size+1+1,2,none⟩=false:=(M1.out.blk (i:=1) rfl).frozen 2
 go_wp2_with fail
 clear c9 d0 df0 d1 df1 d2 df2
 refine(HCL.out _ (((((((M1.out).store (i:=1) rfl 0 (.int .i64 aA))).store (i:=1) rfl 1 (.int .i64 aB))).store (i:=1) rfl 2 (.slice q0 n c0))).ext).mono ?_
 rintro e w2 ⟨q7,c7,rfl,ho2,hx2⟩
 have M2:=xQ (show Mem w w2 [aJ w.heap.size TV 4 (q7) (m) (c7) (vs.flatMap aC),aJ w.heap.size TI 1 (q0) (n) (c0) (ivs xs),aF w.heap.size (w.heap.size+1+1) aO #[.int .i64 aA,.int .i64 aB,.slice q0 n c0,.int .i64 free,.int .i64 step,.int .i64 aE,.int .i64 aG,.int .i64 aD,.int .i64 aH,.slice q m c2],aF w.heap.size (w.heap.size+1) aO #[.int .i64 0,.int .i64 0,.slice none 0 0,.int .i64 0,.int .i64 0,.int .i64 0,.int .i64 0,.int .i64 0,.int .i64 0,.slice none 0 0],aF w.heap.size (w.heap.size) aO #[.int .i64 aA,.int .i64 aB,.slice p n cap,.int .i64 free,.int .i64 step,.int .i64 aE,.int .i64 aG,.int .i64 aD,.int .i64 aH,.slice q m c2]]from(((((((M1.out).store (i:=1) rfl 0 (.int .i64 aA))).store (i:=1) rfl 1 (.int .i64 aB))).store (i:=1) rfl 2 (.slice q0 n c0))).call hx2 ho2)
 clear M1
 clear lt1_1 lt1_2 lt1_3
 have lt2_2:=M2.out.hi 2
 have lt2_3:=M2.out.hi 3
 have lt2_4:=M2.out.hi 4
 clear hx2 ho2
 obtain⟨x0,x1,x2,x3,x4,x5,x6,x7,x8,x9⟩:=(M2.out.blk (i:=2) rfl).ten
 have xx9:w2.cell? ⟨w.heap.size+1+1,9,none⟩=some (.slice q m c2):=(M2.out.blk (i:=2) rfl).cell 9
 have xxf9:w2.frozen? ⟨w.heap.size+1+1,9,none⟩=false:=(M2.out.blk (i:=2) rfl).frozen 9
 obtain⟨y0,yf0,y1,yf1,y2,yf2,y3,yf3,y4,yf4,y5,yf5,y6,yf6,y7,yf7,y8,yf8,y9,yf9⟩:=(M2.out.blk (i:=3) rfl).tenf
 go_wp2
 clear x0 x1 x2 x3 x4 x5 x6 x7 x8 x9 xx9 xxf9 y0 yf0 y1 yf1 y2 yf2 y3 yf3 y4 yf4 y5 yf5 y6 yf6 y7 yf7 y8 yf8 y9 yf9
 have M3:=xQ (show Mem w (((((((((((w2.setCell ⟨w.heap.size+1+1,9,none⟩ (.slice q7 m c7)).setCell ⟨w.heap.size+1,0,none⟩ (.int .i64 aA)).setCell ⟨w.heap.size+1,1,none⟩ (.int .i64 aB)).setCell ⟨w.heap.size+1,2,none⟩ (.slice q0 n c0)).setCell ⟨w.heap.size+1,3,none⟩ (.int .i64 free)).setCell ⟨w.heap.size+1,4,none⟩ (.int .i64 step)).setCell ⟨w.heap.size+1,5,none⟩ (.int .i64 aE)).setCell ⟨w.heap.size+1,6,none⟩ (.int .i64 aG)).setCell ⟨w.heap.size+1,7,none⟩ (.int .i64 aD)).setCell ⟨w.heap.size+1,8,none⟩ (.int .i64 aH)).setCell ⟨w.heap.size+1,9,none⟩ (.slice q7 m c7)) [aJ w.heap.size TV 4 (q7) (m) (c7) (vs.flatMap aC),aJ w.heap.size TI 1 (q0) (n) (c0) (ivs xs),aF w.heap.size (w.heap.size+1+1) aO #[.int .i64 aA,.int .i64 aB,.slice q0 n c0,.int .i64 free,.int .i64 step,.int .i64 aE,.int .i64 aG,.int .i64 aD,.int .i64 aH,.slice q7 m c7],aF w.heap.size (w.heap.size+1) aO #[.int .i64 aA,.int .i64 aB,.slice q0 n c0,.int .i64 free,.int .i64 step,.int .i64 aE,.int .i64 aG,.int .i64 aD,.int .i64 aH,.slice q7 m c7],aF w.heap.size (w.heap.size) aO #[.int .i64 aA,.int .i64 aB,.slice p n cap,.int .i64 free,.int .i64 step,.int .i64 aE,.int .i64 aG,.int .i64 aD,.int .i64 aH,.slice q m c2]]from((((M2.out).store (i:=2) rfl 9 (.slice q7 m c7))).put10 (i:=3) rfl (.int .i64 aA) (.int .i64 aB) (.slice q0 n c0) (.int .i64 free) (.int .i64 step) (.int .i64 aE) (.int .i64 aG) (.int .i64 aD) (.int .i64 aH) (.slice q7 m c7)))
 generalize hwz:World.setCell _ _ _=wz
 rw[hwz]at M3
 clear hwz M2
 obtain⟨y0,y1,y2,y3,y4,y5,y6,y7,y8,y9⟩:=(M3.out.blk (i:=3) rfl).ten
 exact bodyPost_ret (v:= .agg #[.int .i64 aA,.int .i64 aB,.slice q0 n c0,.int .i64 free,.int .i64 step,.int .i64 aE,.int .i64 aG,.int .i64 aD,.int .i64 aH,.slice q7 m c7]) (by simp[results,Tryz.results41,go_sem, *]) rfl ⟨q0,c0,q7,c7,rfl,(M3.out.own (i:=1) rfl),(M3.out.own (i:=0) rfl),M3.out.ext⟩
theorem rK (h:bJ)(p:Option Addr)(n cap:Nat)(q:Option Addr)(m c2:Nat)(w:World)(hn:n≤1000)(hm:m≤1000)(hi:IsHouse w h p n cap q m c2):
  Calls Tryz.prog 41 #[cC h p n cap q m c2] w (RetHouse h w):=by
 have hl:=hi.clen
 have hvl:=hi.vlen
 refine(aC6 h.aA h.aB h.free h.step h.aE h.aG h.aD h.aH p n cap q m c2 h.cells h.vs w (xQ fun w' hx=> ?_) (xQ fun w' hx=>aA3 q m c2 _ w' hm (hi.vs.ext hx) (dL _))).mono ?_
 ·refine(iS h.aA h.aB p n cap h.cells w' hn (hi.cells.ext hx)).mono ?_
  rintro e w'' ⟨q,c,rfl,ho,hx2⟩
  rw[hl]at ho⊢
  exact⟨q,c,rfl,ho,hx2⟩
 ·rintro e w' ⟨p',cap',q',c2',rfl,h1,h2,h3⟩
  subst hl hvl
  exact⟨p',cap',q',c2',rfl,h1,h2,h3⟩
theorem kM: ∀(k:Nat) (vs:List aQ),(vs.flatMap aC).take (k*4)=(vs.take k).flatMap aC
 |0,vs=>by simp
 |k+1,[]=>by simp
 |k+1,v::vs=>by
  rw[List.flatMap_cons,show(k+1)*4=(aC v).length+k*4 by simp[aC];omega,List.take_length_add_append,kM k vs];rfl
theorem aFn {W0 wr:World}{B:Nat}(hg:W0.grownBy wr (some B))(o:Nat)(v:Value):W0.grownBy (wr.setCell ⟨B,o,none⟩ v) (some B):=
 ⟨hg.os,hg.tape,hg.output,by simpa using hg.size,fun k hk hne=>by
  rw[Below.heap_setCell _ _ _ _ (fun e=>hne (by simp[e]))];exact hg.block k hk hne⟩
theorem oJ {α:Type}: ∀(xs:List α) (k:Nat) (v:α),k<xs.length→(xs.set k v).take (k+1)=xs.take k++ [v]
 | [],_,_,h=>by simp at h
 |x::xs,0,v,_=>by simp
 |x::xs,k+1,v,h=>by simp only[List.set_cons_succ,List.take_succ_cons,oJ xs k v (by simpa using h)];rfl
theorem oR {α:Type}: ∀(xs:List α) (k j:Nat) (v:α),k<j→(xs.set k v).drop j=xs.drop j
 | [],_,_,_,_=>by simp
 |x::xs,0,j+1,v,_=>by simp
 |x::xs,k+1,j+1,v,h=>by simp only[List.set_cons_succ,List.drop_succ_cons];exact oR xs k j v (by omega)
theorem eF {B n c sz g:Nat}{e:TypeId}: ∀(vs:List Value) (k:Nat) (xs:List Value) (w:World),w.ownsRow B e sz (.slice (some ⟨g,0,none⟩) n c) n xs→k+vs.length≤xs.length→
  (w.setCells g k vs).ownsRow B e sz (.slice (some ⟨g,0,none⟩) n c) n (xs.take k++vs++xs.drop (k+vs.length))∧w.grownBy (w.setCells g k vs) (some g)
 | [],k,xs,w,h,_=>by
   refine⟨?_,World.grownBy.refl _ _⟩
   simpa[World.setCells]using h
 |v::vs,k,xs,w,h,hl=>by
  simp only[List.length_cons]at hl
  obtain⟨h1,h2⟩:=eF vs (k+1) (xs.set k v) _ (h.stored k v).1 (by simp;omega)
  rw[oJ xs k v (by omega),oR xs k _ v (by omega)]at h1
  refine⟨?_,(aFn (World.grownBy.refl _ _) k v).trans h2⟩
  rw[List.length_cons,show k+(vs.length+1)=k+1+vs.length by omega]
  simpa[World.setCells]using h1
theorem aFf {w:World}{B n c sz k:Nat}{e:TypeId}{q:Option Addr}{xs:List Value}(h:w.ownsRow B e sz (.slice q n c) n xs)(hk:k≤n)(h0:0<n):w.ownsRow B e sz (.slice q k c) k (xs.take (k*sz)):=by
 have hm:=Nat.mul_le_mul_right sz hk
 refine⟨by rw[List.length_take,h.1];omega,?_⟩
 rcases h.2 with⟨_,h3⟩|⟨g,cap',cur,e1,hb,hg,hn,hmx,hs,ht⟩
 ·omega
 ·injection e1 with e1 e2 e3
  subst e1 e3
  refine .inr ⟨g,c,cur,rfl,hb,hg,by omega,hmx,hs,?_⟩
  rw[←ht,List.take_take,Nat.min_eq_left hm]
theorem xM (w:World):(zeroValue TV).run Tryz.prog w= .ok (.agg #[.int .i64 0,.int .i64 0,.int .i64 0,.int .i64 0]) w:=by
 simp[Tryz.zeroValue69]
theorem xG (w:World)(ty:TypeId)(b o c:Nat)(hc: ∀j,j<4→(w.cell? ⟨b,o+j,none⟩).isSome=true)(hf: ∀j,j<4→w.frozen? ⟨b,o+j,none⟩=false):
  (Builtin.clear_ #[35] ty #[.slice (some ⟨b,o,none⟩) 1 c]).run Tryz.prog w= .ok (.tuple #[]) (w.setCells b o [.int .i64 0,.int .i64 0,.int .i64 0,.int .i64 0]):=by
 have hzc:(Builtin.zeroCells (Value.agg #[.int .i64 0,.int .i64 0,.int .i64 0,.int .i64 0]).cells 1).toList= [.int .i64 0,.int .i64 0,.int .i64 0,.int .i64 0]:=by kernel_rfl
 have hst:=run_storeCells_cells (P:=Tryz.prog) b o [.int .i64 0,.int .i64 0,.int .i64 0,.int .i64 0] 0 w (by simpa using hc) (by simpa using hf) (by intro v hv;simp at hv;subst hv;rfl)
 simp only[Nat.add_zero]at hst
 simp[Builtin.clear_,run_underlying Tryz.underlying35,xM,hzc,hst]
theorem xB (bs:List aQ)(i n:Nat)(hn:bs.length=n)(hi:i<n):
  ((bs.flatMap aC).take (i*4)++(bs.drop (i+1)).flatMap aC++(bs.flatMap aC).drop (i*4+((bs.drop (i+1)).flatMap aC).length)).take ((n-1)*4)=(bs.eraseIdx i).flatMap aC:=by
 have h1:((bs.take i).flatMap aC).length=i*4:=by rw[cM aC 4 (fun _=>rfl),List.length_take];congr 1;omega
 have h2:((bs.drop (i+1)).flatMap aC).length=(n-1-i)*4:=by rw[cM aC 4 (fun _=>rfl),List.length_drop];congr 1;omega
 rw[kM,List.take_append_of_le_length (by rw[List.length_append,h1,h2,←Nat.add_mul];exact Nat.mul_le_mul_right 4 (by omega)),List.take_of_length_le (by rw[List.length_append,h1,h2,←Nat.add_mul];exact Nat.mul_le_mul_right 4 (by omega)),←List.flatMap_append,List.eraseIdx_eq_take_drop_succ]
set_option maxRecDepth 100000 in
set_option maxHeartbeats 8000000 in
theorem aEu (g n c B i j:Nat)(bs:List aQ)(w:World)(hn:n≤1000)(hi:i<n)(hj:Hid (j=i+1))(hO:w.ownsRow B TV 4 (.slice (some ⟨g,0,none⟩) n c) n (bs.flatMap aC)):
  Calls Tryz.prog 85 #[.slice (some ⟨g,0,none⟩) n c,.int .i64 (i:Int),.int .i64 (j:Int)] w fun e w'=>e= .returned (.slice (some ⟨g,0,none⟩) (n-1) c)∧w'.ownsRow B TV 4 (.slice (some ⟨g,0,none⟩) (n-1) c) (n-1) ((bs.eraseIdx i).flatMap aC)∧w.grownBy w' (some g):=by
 obtain⟨i0,hi0,hz0,hz1,hz2⟩:=info_parts (show(Tryz.prog.info? TV).map (fun i=>(i.zero,i.size,i.bytes))=some (some (.agg #[.int .i64 0,.int .i64 0,.int .i64 0,.int .i64 0]),4,32) by kernel_rfl)
 have hO':w.drew.ownsRow B TV 4 (.slice (some ⟨g,0,none⟩) n c) n (bs.flatMap aC):=bC hO (Ext.drew (Ext.refl _))
 have hl0:bs.length=n:=by have:=hO.1;rw[cM aC 4 (fun _=>rfl)]at this;omega
 have hcap:n≤c:=by
  rcases hO.2 with⟨_,h3⟩|⟨g',cap',cur,e1,hb,hg,hn',_⟩
  ·omega
  ·injection e1 with e1 e2 e3;omega
 have hmx:c≤9223372036854775807:=by
  have:=(Sl.own hO).mx;unfold maxLen at this;omega
 have hj1:j=i+1:=hj.out
 obtain⟨news,hnews⟩: ∃news,news=(bs.drop (i+1)).flatMap aC:=⟨_,rfl⟩
 have hnl:news.length=(n-j)*4:=by rw[hnews,cM aC 4 (fun _=>rfl),List.length_drop,hl0,hj1]
 obtain⟨A,hA,hsrc⟩: ∃A:Addr,(if c=j then some (⟨g,0,none⟩:Addr)else some ⟨g,j*4,none⟩)=some A∧Hid (∀t u,news[t]? =some u→w.drew.cell? (A.add t)=some u):=by
  by_cases h:c=j
  ·refine⟨⟨g,0,none⟩,by simp[h],fun t u hu=> ?_⟩
   rw[List.eq_nil_of_length_eq_zero (by rw[hnl];omega:news.length=0)]at hu
   simp at hu
  ·refine⟨⟨g,j*4,none⟩,by simp[h],fun t u hu=> ?_⟩
   have ht:t<(n-j)*4:=by have:=(List.getElem?_eq_some_iff.1 hu).1;rwa[hnl]at this
   rw[Addr.add_lit,hO'.cellAt _ (by omega)]
   rw[hnews,←iB,List.getElem?_drop]at hu
   rw[hj1];exact hu
 have s1:Hid (news.length=(n-j)*4):=hnl
 have s2:Hid (∀u∈news,u.oneCell'=true):=by show∀u∈news,_;rw[hnews];exact dL _
 have hxl:(bs.flatMap aC).length=n*4:=by rw[cM aC 4 (fun _=>rfl),hl0]
 have s3:Hid (∀t,t<news.length→(w.drew.cell? ⟨g,0+i*4+t,none⟩).isSome=true∧w.drew.frozen? ⟨g,0+i*4+t,none⟩=false):=by
  intro t ht
  rw[hnl]at ht
  refine⟨?_,hO'.frozenAt _⟩
  rw[hO'.cellAt _ (by omega),List.getElem?_eq_getElem (by rw[hxl];omega)];rfl
 obtain⟨W1,hW1⟩: ∃W1,W1=w.drew.setCells g (0+i*4) news:=⟨_,rfl⟩
 obtain⟨h1,g1⟩:=eF news (i*4) _ _ hO' (by rw[hnl,hxl];omega)
 have hW:Hid (W1=w.drew.setCells g (0+i*4) news):=hW1
 rw[Nat.zero_add]at hW1
 rw[←hW1]at h1 g1
 obtain⟨ys,hys⟩: ∃ys,ys=(bs.flatMap aC).take (i*4)++news++(bs.flatMap aC).drop (i*4+news.length):=⟨_,rfl⟩
 rw[←hys]at h1
 have hcl:=fun ty=>xG W1 ty g ((n-1)*4) (c-(n-1)) (fun t ht=>by rw[h1.cellAt _ (by omega),List.getElem?_eq_getElem (by rw[h1.1];omega)];rfl) (fun t _=>h1.frozenAt _)
 obtain⟨h2,g2⟩:=eF [.int .i64 0,.int .i64 0,.int .i64 0,.int .i64 0] ((n-1)*4) _ _ h1 (by rw[h1.1];simp;omega)
 have hfin:Hid ((W1.setCells g ((n-1)*4) [.int .i64 0,.int .i64 0,.int .i64 0,.int .i64 0]).ownsRow B TV 4 (.slice (some ⟨g,0,none⟩) (n-1) c) (n-1) ((bs.eraseIdx i).flatMap aC)):=by
  have h3:=aFf h2 (k:=n-1) (by omega) (by omega)
  rw[List.append_assoc,List.take_append_of_le_length (by rw[List.length_take,h1.1];omega),List.take_take,Nat.min_self,hys,hnews,xB bs i n hl0 hi]at h3
  exact h3
 have hgr:Hid (w.grownBy (W1.setCells g ((n-1)*4) [.int .i64 0,.int .i64 0,.int .i64 0,.int .i64 0]) (some g)):=by
  exact(show w.grownBy w.drew (some g)from⟨rfl,rfl,rfl,Nat.le_refl _,fun _ _ _=>rfl⟩).trans (g1.trans g2)
 have hij:i≤j:=by omega
 have hjn:j≤n:=by omega
 have hic:i≤c:=by omega
 have hjc:j≤c:=by omega
 have hne: ¬i=j:=by omega
 have hnn:i+(n-j)=n-1:=by omega
 have hz23:n-(n-1)=1:=by omega
 have hn1:n-1≤n:=by omega
 have hn2:n-1≤c:=by omega
 have hcn: ¬c=n-1:=by omega
 have HNN:=xQ hnn
 clear hW1 h1 g1 h2 g2 hys hnews hnl hO hO' hl0 hxl hj1 hj hnn
 go_enter Tryz.func85,Tryz.ntmps85
 go_wp2_with fail
 go_region_law (refine step_append_room rfl (.tmp 22) (.tmp 25) 35 rfl TV i0 4 Tryz.underlying35 hi0 hz1 g 0 i c (by simp[Act.eval,Act.put]) A (n-j) (c-j) news (by simp[Act.eval,Act.put]) s1.out hsrc.out s2.out (by omega) s3.out ?_;rw[←hW.out,HNN.out])
 go_wp2
 go_ret
 exact⟨rfl,hfin.out,hgr.out⟩
end Go.Proofs.YtahglfakiobbcaaGreatDoor
