/-
  Texts of this proof, packed (@packed).
-/
import Derived.Test.YtbgkcehffiogcacGreatDoorQ37
namespace Go.Proofs.YtbgkcehffiogcacGreatDoor
open Go.RowKit
set_option linter.unusedSimpArgs false
set_option linter.unusedVariables false
set_option maxHeartbeats 8000000
set_option maxRecDepth 100000
section
open Go.ChangeShapes Go.WideShapes Go.ChangeAt Go.Deep Go.Proofs.Tryz
theorem aPe (p:OA)(n c:Nat)(K0:Nat)(xs:List Value)(w0 w:World)(L:List Item)(h:Mem w0 w (aI w0 cY 1 p n c xs::L))(hn:n≤1099511627776)(h0:1≤K0)(h1:K0≤4611686018427387904):
  U 17 #[.slice p n c,K0] w fun e w'=>e= .returned (I ((K0:Int)+(n:Int)))∧Mem w0 w' (aI w0 cY 1 p n c (bX (mTs K0 n))::L):=by
 have H:=xQ h;have q:xs.length=n:=by have:=(h.ow 0).1;simpa using this
 clear h;go_enter func17,ntmps17;go_wp2;go_loopw [1,5] (fun kk i wr=> ∃(k:Nat) (rest:List Value),k≤n∧i=I k∧kk=I ((K0+k:Nat))∧rest.length=n-k∧Mem w0 wr (aI w0 cY 1 p n c (bX (mTs K0 k)++rest)::L)) (fun _ i _=>n-(intOf i).toNat)
 case atStart=>exact⟨0,xs,aRv _,rfl,by simp,by omega,H.out⟩
 case round=>
  clear H;obtain⟨k,rest,hk,rfl,rfl,d,hM⟩:=hrel;have HM:=hM;clear hM;by_cases hlt:k<n
  ·obtain⟨r0,rest',rfl⟩: ∃r0 rest',rest=r0::rest':=by
    match rest,(show 1≤rest.length by omega)with
    |r0::rest',_=>exact⟨r0,rest',rfl⟩
   have l:=xQ d;clear d;obtain⟨g,rfl,ga,gb⟩:=HM.so 0;have i1:(0:Int)≤(k:Int):=by omega
   have i2:(k:Int)<(n:Int):=by omega
   have q1:IntKind.i64.wrap (((K0+k:Nat):Int)+1)=((K0+k:Nat):Int)+1:=aRr _ (by omega);have HT:=xQ fun(w':World)=>sJ (K0+k) w' (by omega) (by omega)
   generalize b:((K0+k:Nat):Int)=kk at*;have j:=xQ b;clear b;go_wp2_with fail;refine Z (HT _) fun w5 f=>?_
   have M5:=(HM.adv f)
   clear f HM;have a:(bX (mTs K0 k)).length=k:=by rw[lS,aPf]
   have o:g<w5:=(M5.hi 0)
   have fD:w5.frozen? ⟨g,k,none⟩=false:=(M5.ow 0).frozenAt k;have cD:w5.cell? ⟨g,k,none⟩=some r0:=by have:=(M5.ow 0).cellAt k (by omega);rw[this,aS3 (by omega),a,aT0];rfl
   go_wp2;clear o fD cD;have M9:=(M5.ostore (i:=0) rfl k (str (mT (K0+k))))
   go_roundw
   case rel=>
    have hd:(bX (mTs K0 k)++r0::rest').set k (str (mT (K0+k)))=bX (mTs K0 (k+1))++rest':=by rw[aMx,qA,List.set_append,if_neg (by omega),a,aT0];simp
    exact⟨k+1,rest',by omega,by go_num,by rw[←j.out];simp;omega,by have:=l.out;simp at this;omega,by rw[←hd];exact M9⟩
   case measure=>simp[intOf];omega
  obtain rfl:k=n:=by omega
  have m:rest= []:=aSb (by omega);subst m;go_wp2;go_ret;exact⟨by simp,by have:=HM;rwa[aSe]at this⟩
section
open Go.ChangeMaps
variable {H:Type} {enc:TypeId×Value→H} {w:World} {base:Nat} {spare:Nat→Bool} {held:Bool} {b0:Nat} {r:Reach} {v:Value} {d:DataW H} {p:List MemPlace}
theorem aGo (hv:Value.okWide prog w r b0 42 v)(h:DataW.Trod enc prog w base spare held 42 v d p):
  ∃y:List (List UInt8)×(OA×Nat),v= .slice y.2.1 y.1.length y.2.2∧Sl w y.2.1 y.1.length y.2.2 1 (bX y.1)∧ ∀a∈y.1,a.length≤maxLen:=by
 obtain⟨a0,c,b,rfl⟩:=okWide_slice underlying42 hv;obtain⟨i,hh⟩:=h;have g:(Value.slice a0 c b).cells.toList= [.slice a0 c b]:=rfl;rw[g]at hh
 obtain⟨ts,tp,tc,e,hT,f⟩:=xD (α:=List UInt8) (fun s=> [str s]) (fun s=>s.length≤maxLen) 1 underlying42 (by kernel_rfl) (by omega) (fun _=>rfl) (fun n cs y hy=>by
  obtain⟨s,h,_,hs⟩:=DataW.trod_string underlying9 hy
  exact⟨s.data.toList,by rw[h],by rw[dA];exact hs⟩) hh
 exact⟨(ts,(tp,tc)),e,by rw[←qC];exact hT,f⟩
end
end
theorem aOs (h:aL)(p:OA)(n cap:Nat)(q:OA)(m c2:Nat)(w:World)(hn:n≤9223372036854775807)(hm:m≤9223372036854775807)(hb:1048576<n+m):
  U 5 #[bM h p n cap q m c2,I 1048576] w (O (I (-1)) w):=by
 have:=uQ h p n cap q m c2 w hn hm;rwa[if_pos (by omega)]at this
theorem aJ6 (h:aL)(p:OA)(n cap:Nat)(q:OA)(m c2:Nat)(w:World)(hb:n+m≤1048576):
  U 5 #[bM h p n cap q m c2,I 1048576] w (O (I (1048576-n-m)) w):=by
 have:=uQ h p n cap q m c2 w (by omega) (by omega);rwa[if_neg (by omega)]at this
end Go.Proofs.YtbgkcehffiogcacGreatDoor
