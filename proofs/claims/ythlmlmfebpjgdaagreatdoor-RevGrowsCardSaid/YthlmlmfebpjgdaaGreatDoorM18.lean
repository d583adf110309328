/-
Lemmas for the statement: Step2T Step3T SgnT SgnL ClS AgrP AgrS AgrF AgrG GroP GroQ.
-/
import Derived.Test.YthlmlmfebpjgdaaGreatDoorM17
import Derived.Test.YthlmlmfebpjgdaaGreatDoorM06
import Derived.Test.YthlmlmfebpjgdaaGreatDoorM03
import Derived.Shelf.Abstract
import Derived.Test.YthlmlmfebpjgdaaGreatDoorM13
set_option linter.unusedSimpArgs false
set_option linter.unusedVariables false
set_option maxHeartbeats 12800000
namespace Go.Proofs.YthlmlmfebpjgdaaGreatDoor
section
open Go.RowKit
theorem order_is{a b:Nat}{i j:Int}(ha:Is a i)(hb:Is b j):FloatKind.f64.format.order a b=some (compare i j):=by
 have h:=order_real ha.real hb.real;rw [ha.idx,hb.idx] at h
 exact h
theorem is_pat{i:Int}(h:-(M:Int)<=i/\i<=M):Is (pat i) i:=⟨pat_lt h.1 h.2,by unfold real;rw [rung_pat h.1 h.2];omega,idx_pat h.1 h.2⟩
theorem gt_false{a b:Nat}{i j:Int}(ha:Is a i)(hb:Is b j)(h:¬ j<i):(FloatKind.f64.format.order a b == some Ordering.gt)=false:=by
 rw [order_is ha hb]
 rcases Int.lt_or_eq_of_le (show i<=j by omega) with k | k
 ·rw [Int.compare_eq_lt.2 k];rfl
 ·rw [Int.compare_eq_eq.2 k];rfl
theorem lt_false{a b:Nat}{i j:Int}(ha:Is a i)(hb:Is b j)(h:¬ i<j):(FloatKind.f64.format.order a b == some Ordering.lt)=false:=by
 rw [order_is ha hb]
 rcases Int.lt_or_eq_of_le (show j<=i by omega) with k | k
 ·rw [Int.compare_eq_gt.2 k];rfl
 ·rw [Int.compare_eq_eq.2 k.symm];rfl
theorem gt_true{a b:Nat}{i j:Int}(ha:Is a i)(hb:Is b j)(h:j<i):FloatKind.f64.format.order a b=some .gt:=by rw [order_is ha hb,Int.compare_eq_gt.2 h]
theorem lt_true{a b:Nat}{i j:Int}(ha:Is a i)(hb:Is b j)(h:i<j):FloatKind.f64.format.order a b=some .lt:=by rw [order_is ha hb,Int.compare_eq_lt.2 h]
structure StepFn (w:World) (kF kT:FuncId) (cF cT:Array Value) (F T:Int->Int):Prop where
 eF:∀ (args:Array Value) (W:World),(callFunc kF args).run Tryz.prog W=.ok (.enter kF args) W
 eT:∀ (args:Array Value) (W:World),(callFunc kT args).run Tryz.prog W=.ok (.enter kT args) W
 hF:∀ i,-(M:Int)<=i->i<M->(-(M:Int)<=F (wh 2 i)/\F (wh 2 i)<=M)/\∀ W,Below w.heap.size w W->Calls Tryz.prog kF (#[.float .f64 (pat (wh 2 i))] ++ cF) W fun e w'=>e=.returned (.float .f64 (pat (F (wh 2 i))))/\Below W.heap.size W w'
 hT:∀ i,-(M:Int)<i->i<=M->(-(M:Int)<=T (wh 1 i)/\T (wh 1 i)<=M)/\∀ W,Below w.heap.size w W->Calls Tryz.prog kT (#[.float .f64 (pat (wh 1 i))] ++ cT) W fun e w'=>e=.returned (.float .f64 (pat (T (wh 1 i))))/\Below W.heap.size W w'
def ValFn(w:World)(kV:FuncId)(vw:Nat->Nat):Prop:=
 ((∀ (args:Array Value) (W:World),(callFunc kV args).run Tryz.prog W=.ok (.enter kV args) W)/\∀ i,-(M:Int)<=i->i<=M->∀ W,Below w.heap.size w W->Calls Tryz.prog kV #[.float .f64 (pat i)] W fun e w'=>e=.returned (.float .f64 (vw (pat i)))/\Below W.heap.size W w') \/
 (∀ i,-(M:Int)<=i->i<=M->∀ W,(callFunc kV #[.float .f64 (pat i)]).run Tryz.prog W=.ok (.value (.float .f64 (vw (pat i)))) W)
theorem step_idx(kV kF kT:FuncId)(cF cT:Array Value)(vw:Nat->Nat)(V F T:Int->Int)(c1 c2 x y:Nat)(w:World)(hc1:c1<18446744073709551616)(hc2:c2<18446744073709551616)(hx:x<18446744073709551616)(hy:y<18446744073709551616)
  (hI:∀ i,-(M:Int)<=i->i<=M->Is (vw (pat i)) (V i))(hV:ValFn w kV vw)(hS:StepFn w kF kT cF cT F T):
  Rt 124 #[Zf c1 c2,Zf x y,.func (.func kV) #[] #[],.func (.func kF) #[] cF,.func (.func kT) #[] cT] (Zf (pat (stp V F T (rd c1 c2) (rd x y)).1) (pat (stp V F T (rd c1 c2) (rd x y)).2)) w:=by
 have hM:=M_val;have v2:=rd_iv c1 c2;have v3:=rd_iv x y;have t2:=fun W=>readf c1 c2 W hc1 hc2;have t3:=fun W=>readf x y W hx hy
 obtain⟨⟨i2,j2⟩,r2⟩:∃ z,rd c1 c2=z:=⟨_,rfl⟩
 obtain⟨⟨i3,j3⟩,r3⟩:∃ z,rd x y=z:=⟨_,rfl⟩
 rw [r2] at v2 t2;rw [r3] at v3 t3;rw [r2,r3]
 dsimp only at *
 have m2:=em_idx v2;have m3:=em_idx v3;unfold stp
 dsimp only
 by_cases hno:j2<i2\/j3<i3
 ·rw [if_pos hno,pat_max,pat_min]
  exact step_none kV kF kT cF cT _ _ _ _ _ _ _ _ _ _ w t2 m2 t3 m3 (by simp;omega)
 have hnn:(decide (j2<i2) || decide (j3<i3))=false:=by simp;omega
 have k2:=ne_or v2 (by omega);have k3:=ne_or v3 (by omega);unfold Ne at k2 k3;rw [if_neg hno];have up:=wW_is .up (b:=pat i2) (is_pat ⟨k2.1,by omega⟩).real;have dw:=wW_is .down (b:=pat j2) (is_pat ⟨by omega,k2.2.2.1⟩).real;rw [idx_pat k2.1 (by omega),show kW .up=2 from rfl] at up;rw [idx_pat (by omega) k2.2.2.1,show kW .down=1 from rfl] at dw
 have hc:∀ W,Rt 128 #[.float .f64 (pat i2)] (.float .f64 (wW .up (pat i2))) W:=fun W=>(ceil_any (pat i2) W (is_pat ⟨k2.1,by omega⟩).real).mono fun _ _ ⟨a,b⟩=>⟨a,b ▸ Below.refl _ _⟩
 have hf:∀ W,Rt 125 #[.float .f64 (pat j2)] (.float .f64 (wW .down (pat j2))) W:=fun W=>(floor_any (pat j2) W (is_pat ⟨by omega,k2.2.2.1⟩).real).mono fun _ _ ⟨a,b⟩=>⟨a,b ▸ Below.refl _ _⟩
 have hp1:∀ W,Rt 191 #[.float .f64 (wW .up (pat i2))] (.float .f64 (pat (wh 2 i2))) W:=fun W=>(fplainf _ W up.lt up.real).mono fun _ _ ⟨a,b⟩=>⟨by rw [a,up.idx],b ▸ Below.refl _ _⟩
 have hp2:∀ W,Rt 191 #[.float .f64 (wW .down (pat j2))] (.float .f64 (pat (wh 1 j2))) W:=fun W=>(fplainf _ W dw.lt dw.real).mono fun _ _ ⟨a,b⟩=>⟨by rw [a,dw.idx],b ▸ Below.refl _ _⟩
 have rA:=wh_rng (w:=2) (by omega) (i:=i2) (by omega);have rB:=wh_rng (w:=1) (by omega) (i:=j2) (by omega);obtain⟨rF,hF⟩:=hS.hF i2 k2.1 k2.2.2.2.1;obtain⟨rT,hT⟩:=hS.hT j2 k2.2.2.2.2 k2.2.2.1;have vi:=hI i3 k3.1 (by omega);have vj:=hI j3 (by omega) k3.2.2.1;have hmx:=fun W ts t=>run_maxf (show -(M:Int)<=i3/\i3<=M by omega) rF W ts t;have hmn:=fun W ts t=>run_minf (show -(M:Int)<=j3/\j3<=M by omega) rT W ts t;have pA:=is_pat (i:=wh 2 i2) ⟨rA.1,rA.2.1⟩;have pB:=is_pat (i:=wh 1 j2) ⟨rB.1,rB.2.1⟩
 by_cases h1:wh 1 j2<wh 2 i2
 ·rw [if_pos (.inl h1),pat_max,pat_min]
  exact step_far kV kF kT cF cT _ _ _ _ _ _ _ _ _ _ _ _ _ _ w t2 m2 t3 m3 hnn hc hp1 hf hp2 (gt_true pA pB h1)
 have o1:=gt_false pA pB h1
 by_cases h2:wh 1 j2<V i3
 ·rw [if_pos (.inr (.inl h2)),pat_max,pat_min]
  rcases hV with ⟨eV,hV⟩ | hV
  ·exact step_low kV kF kT cF cT eV _ _ _ _ _ _ _ _ _ _ _ _ _ _ w t2 m2 t3 m3 hnn hc hp1 hf hp2 _ o1 (hV i3 k3.1 (by omega)) (gt_true vi pB h2)
  ·exact step_lowx kV kF kT cF cT _ _ _ _ _ _ _ _ _ _ _ _ _ _ w t2 m2 t3 m3 hnn hc hp1 hf hp2 _ o1 (hV i3 k3.1 (by omega)) (gt_true vi pB h2)
 have o2:=gt_false vi pB h2
 by_cases h3:V j3<wh 2 i2
 ·rw [if_pos (.inr (.inr h3)),pat_max,pat_min]
  rcases hV with ⟨eV,hV⟩ | hV
  ·exact step_high kV kF kT cF cT eV _ _ _ _ _ _ _ _ _ _ _ _ _ _ w t2 m2 t3 m3 hnn hc hp1 hf hp2 _ _ o1 (hV i3 k3.1 (by omega)) o2 (hV j3 (by omega) k3.2.2.1) (lt_true vj pA h3)
  ·exact step_highx kV kF kT cF cT _ _ _ _ _ _ _ _ _ _ _ _ _ _ w t2 m2 t3 m3 hnn hc hp1 hf hp2 _ _ o1 (hV i3 k3.1 (by omega)) o2 (hV j3 (by omega) k3.2.2.1) (lt_true vj pA h3)
 have o3:=lt_false vj pA h3;rw [if_neg (by rintro (h | h | h);exact h1 h;exact h2 h;exact h3 h)]
 rcases hV with ⟨eV,hV⟩ | hV
 ·exact step_some kV kF kT cF cT eV hS.eF hS.eT _ _ _ _ _ _ _ _ _ _ _ _ _ _ w t2 m2 t3 m3 hnn hc hp1 hf hp2 _ _ _ _ _ _ o1 (hV i3 k3.1 (by omega)) o2 (hV j3 (by omega) k3.2.2.1) o3 hF hT hmx hmn
 ·exact step_somex kV kF kT cF cT hS.eF hS.eT _ _ _ _ _ _ _ _ _ _ _ _ _ _ w t2 m2 t3 m3 hnn hc hp1 hf hp2 _ _ _ _ _ _ o1 (hV i3 k3.1 (by omega)) o2 (hV j3 (by omega) k3.2.2.1) o3 hF hT hmx hmn
end
section
open Go.RowKit
theorem fl_one:fl 4607182418800017408=1:=by decide +kernel
theorem fl_half:fl 4602678819172646912=1/2:=by decide +kernel
theorem pat_one:pat 4607182418800017408=4607182418800017408:=rfl
theorem pat_mone:pat (-4607182418800017408)=13830554455654793216:=rfl
theorem ahead_eq(w:Nat){b i:Int}(hb:-(M:Int)<b/\b<M)(hL:∀ A:Int,bL w A=A - fl b)(h0:-(M:Int)<=i)(h1:i<M):ad (-1) (wh 2 i) (-b)=FL w (wh 2 i):=by
 have hM:=M_val
 rcases FLc w h0 h1 with ⟨k,h⟩ | ⟨k1,k2,k3,h⟩
 ·rw [h,k];unfold ad;rw [if_pos (.inr rfl)]
 ·rw [h];unfold ad;rw [if_neg (by omega),if_neg (by omega),k1,fl_neg,hL,Rat.sub_eq_add_neg]
theorem behind_eq(w:Nat){b i:Int}(hb:-(M:Int)<b/\b<M)(hU:∀ A:Int,bU w A=A+fl b)(h0:-(M:Int)<i)(h1:i<=M):ad 1 (wh 1 i) b=TU w (wh 1 i):=by
 have hM:=M_val
 rcases TUc w h0 h1 with ⟨k,h⟩ | ⟨k1,k2,k3,h⟩
 ·rw [h,k];unfold ad;rw [if_pos (.inl rfl)]
 ·rw [h];unfold ad;rw [if_neg (by omega),if_neg (by omega),k1,hU]
theorem rsub_k{b i:Int}(w:Nat)(hb:-(M:Int)<b/\b<M)(hL:∀ A:Int,bL w A=A - fl b)(h0:-(M:Int)<=i)(h1:i<M)(W:World):
  Rt 84 #[.int .i64 (-1),.float .f64 (pat (wh 2 i)),.float .f64 (pat b)] (.float .f64 (pat (FL w (wh 2 i)))) W:=by
 have hM:=M_val;have r:=wh_rng (w:=2) (by omega) (i:=i) (by omega);have h:=rsub_pat (-1) (wh 2 i) b W (.inl rfl) (by omega) (by omega) (by unfold NoCl;omega);rw [ahead_eq w hb hL h0 h1] at h
 exact h
theorem radd_k{b i:Int}(w:Nat)(hb:-(M:Int)<b/\b<M)(hU:∀ A:Int,bU w A=A+fl b)(h0:-(M:Int)<i)(h1:i<=M)(W:World):
  Rt 139 #[.int .i64 1,.float .f64 (pat (wh 1 i)),.float .f64 (pat b)] (.float .f64 (pat (TU w (wh 1 i)))) W:=by
 have hM:=M_val;have r:=wh_rng (w:=1) (by omega) (i:=i) (by omega);have h:=radd_pat 1 (wh 1 i) b W (.inr rfl) (by omega) (by omega) (by unfold NoCl;omega);rw [behind_eq w hb hU h0 h1] at h
 exact h
theorem ahead_fn(w:Nat){b:Int}(hb:-(M:Int)<b/\b<M)(hL:∀ A:Int,bL w A=A - fl b){W0:World}{B:Nat}(hc:Cap W0 B (pat b)):
  ∀ i,-(M:Int)<=i->i<M->(-(M:Int)<=FL w (wh 2 i)/\FL w (wh 2 i)<=M)/\∀ W,Below W0.heap.size W0 W->Calls Tryz.prog 197 (#[.float .f64 (pat (wh 2 i))] ++ #[.pointer (some ⟨B,0,none⟩)]) W fun e w'=>e=.returned (.float .f64 (pat (FL w (wh 2 i))))/\Below W.heap.size W w':=
 fun _ h0 h1=>⟨FL_rng w h0 h1,fun W hW=>ahead1 _ _ _ B W (hc.below hW).1 (rsub_k w hb hL h0 h1)⟩
theorem behind_fn(w:Nat){b:Int}(hb:-(M:Int)<b/\b<M)(hU:∀ A:Int,bU w A=A+fl b){W0:World}{B:Nat}(hc:Cap W0 B (pat b)):
  ∀ i,-(M:Int)<i->i<=M->(-(M:Int)<=TU w (wh 1 i)/\TU w (wh 1 i)<=M)/\∀ W,Below W0.heap.size W0 W->Calls Tryz.prog 194 (#[.float .f64 (pat (wh 1 i))] ++ #[.pointer (some ⟨B,0,none⟩)]) W fun e w'=>e=.returned (.float .f64 (pat (TU w (wh 1 i))))/\Below W.heap.size W w':=
 fun _ h0 h1=>⟨TU_rng w h0 h1,fun W hW=>behind1 _ _ _ B W (hc.below hW).1 (radd_k w hb hU h0 h1)⟩
theorem FL_one{i:Int}(h0:-(M:Int)<=i)(h1:i<M):FL 1 (wh 2 i)=wh 2 i:=by
 rcases FLc 1 h0 h1 with ⟨k,h⟩ | ⟨k1,k2,k3,h⟩
 ·rw [h,k]
 ·rw [h,show bL 1 (fl i).ceil=((fl i).ceil:Rat) from rfl,<- k1,rndI_fl (.inl rfl) k2 k3]
theorem TU_two{i:Int}(h0:-(M:Int)<i)(h1:i<=M):TU 2 (wh 1 i)=wh 1 i:=by
 rcases TUc 2 h0 h1 with ⟨k,h⟩ | ⟨k1,k2,k3,h⟩
 ·rw [h,k]
 ·rw [h,show bU 2 (fl i).floor=((fl i).floor:Rat) from rfl,<- k1,rndI_fl (.inr rfl) k2 k3]
theorem itself_low(W0:World):∀ i,-(M:Int)<=i->i<M->(-(M:Int)<=FL 1 (wh 2 i)/\FL 1 (wh 2 i)<=M)/\∀ W,Below W0.heap.size W0 W->Calls Tryz.prog 126 (#[.float .f64 (pat (wh 2 i))] ++ #[]) W fun e w'=>e=.returned (.float .f64 (pat (FL 1 (wh 2 i))))/\Below W.heap.size W w':=
 fun i h0 h1=>⟨FL_rng 1 h0 h1,fun W _=>by rw [FL_one h0 h1];exact itself_any _ W⟩
theorem itself_up(W0:World):∀ i,-(M:Int)<i->i<=M->(-(M:Int)<=TU 2 (wh 1 i)/\TU 2 (wh 1 i)<=M)/\∀ W,Below W0.heap.size W0 W->Calls Tryz.prog 126 (#[.float .f64 (pat (wh 1 i))] ++ #[]) W fun e w'=>e=.returned (.float .f64 (pat (TU 2 (wh 1 i))))/\Below W.heap.size W w':=
 fun i h0 h1=>⟨TU_rng 2 h0 h1,fun W _=>by rw [TU_two h0 h1];exact itself_any _ W⟩
theorem wh_sign{w:Nat}(hw:1<=w){i:Int}(h:-(M:Int)<i/\i<M){z:Int}(hz:fl (wh w i)=(z:Rat)):(0<wh w i↔0<z)/\(wh w i<0↔z<0):=by
 have e0:fl 0=((0:Int):Rat):=fl_zero
 constructor
 ·rw [<- fl_lt_iff,e0,hz,Rat.intCast_lt_intCast]
 ·rw [<- fl_lt_iff,e0,hz,Rat.intCast_lt_intCast]
theorem trunc_low(W0:World):∀ i,-(M:Int)<=i->i<M->(-(M:Int)<=FL 3 (wh 2 i)/\FL 3 (wh 2 i)<=M)/\∀ W,Below W0.heap.size W0 W->Calls Tryz.prog 130 (#[.float .f64 (pat (wh 2 i))] ++ #[]) W fun e w'=>e=.returned (.float .f64 (pat (FL 3 (wh 2 i))))/\Below W.heap.size W w':=by
 intro i h0 h1;have hM:=M_val;refine⟨FL_rng 3 h0 h1,fun W _=>?_⟩;have r:=wh_rng (w:=2) (by omega) (i:=i) (by omega);have i1:=is_pat (i:=wh 2 i) ⟨r.1,r.2.1⟩;have i0:=is_pat (i:=0) (by omega)
 by_cases c:0<wh 2 i
 ·have e:FL 3 (wh 2 i)=wh 2 i:=by
   rcases FLc 3 h0 h1 with ⟨k,h⟩ | ⟨k1,k2,k3,h⟩
   ·omega
   ·have hz:=(wh_sign (w:=2) (by omega) (i:=i) (by
     refine⟨?_,h1⟩
     rcases Int.lt_or_eq_of_le h0 with q | q
     ·exact q
     ·rw [<- q,wh_min] at k2;omega) k1).1.1 c
    rw [h,show bL 3 (fl i).ceil=if 0<(fl i).ceil then ((fl i).ceil:Rat) else (fl i).ceil - 1 from rfl,if_pos hz,<- k1,rndI_fl (.inl rfl) k2 k3]
  rw [e]
  exact truncfrom_pos _ W (gt_true i1 i0 c)
 ·have e:∀ W,Rt 84 #[.int .i64 (-1),.float .f64 (pat (wh 2 i)),.float .f64 4607182418800017408] (.float .f64 (pat (FL 3 (wh 2 i)))) W:=by
   intro W
   have e2:FL 3 (wh 2 i)=FL 2 (wh 2 i):=by
    rcases FLc 3 h0 h1 with ⟨k,h⟩ | ⟨k1,k2,k3,h⟩
    ·rcases FLc 2 h0 h1 with ⟨k',h'⟩ | ⟨k1',k2',k3',h'⟩
     ·rw [h,h']
     ·omega
    ·rcases FLc 2 h0 h1 with ⟨k',h'⟩ | ⟨k1',k2',k3',h'⟩
     ·omega
     ·have hz:=mt (wh_sign (w:=2) (by omega) (i:=i) (by
       refine⟨?_,h1⟩
       rcases Int.lt_or_eq_of_le h0 with q | q
       ·exact q
       ·rw [<- q,wh_min] at k2;omega) k1).1.2 c
      rw [h,h',show bL 3 (fl i).ceil=if 0<(fl i).ceil then ((fl i).ceil:Rat) else (fl i).ceil - 1 from rfl,if_neg hz]
      rfl
   rw [e2]
   exact rsub_k 2 (b:=4607182418800017408) (by omega) (fun A=>by rw [fl_one];rfl) h0 h1 W
  have o:=order_is i1 i0;refine truncfrom_neg _ _ _ W o ?_ e
  rcases Int.lt_or_eq_of_le (show wh 2 i<=0 by omega) with k | k
  ·exact .inl (Int.compare_eq_lt.2 k)
  ·exact .inr (Int.compare_eq_eq.2 k)
theorem trunc_up(W0:World):∀ i,-(M:Int)<i->i<=M->(-(M:Int)<=TU 3 (wh 1 i)/\TU 3 (wh 1 i)<=M)/\∀ W,Below W0.heap.size W0 W->Calls Tryz.prog 131 (#[.float .f64 (pat (wh 1 i))] ++ #[]) W fun e w'=>e=.returned (.float .f64 (pat (TU 3 (wh 1 i))))/\Below W.heap.size W w':=by
 intro i h0 h1;have hM:=M_val;refine⟨TU_rng 3 h0 h1,fun W _=>?_⟩;have r:=wh_rng (w:=1) (by omega) (i:=i) (by omega);have i1:=is_pat (i:=wh 1 i) ⟨r.1,r.2.1⟩;have i0:=is_pat (i:=0) (by omega)
 have fin:wh 1 i<M->i<M:=fun h=>by
  rcases Int.lt_or_eq_of_le h1 with q | q
  ·exact q
  ·rw [q,wh_max] at h;omega
 by_cases c:wh 1 i<0
 ·have e:TU 3 (wh 1 i)=wh 1 i:=by
   rcases TUc 3 h0 h1 with ⟨k,h⟩ | ⟨k1,k2,k3,h⟩
   ·omega
   ·have hz:=(wh_sign (w:=1) (by omega) (i:=i) ⟨h0,fin k3⟩ k1).2.1 c;rw [h,show bU 3 (fl i).floor=if (fl i).floor<0 then ((fl i).floor:Rat) else (fl i).floor+1 from rfl,if_pos hz,<- k1,rndI_fl (.inr rfl) k2 k3]
  rw [e]
  exact truncto_neg _ W (lt_true i1 i0 c)
 ·have e:∀ W,Rt 139 #[.int .i64 1,.float .f64 (pat (wh 1 i)),.float .f64 4607182418800017408] (.float .f64 (pat (TU 3 (wh 1 i)))) W:=by
   intro W
   have e2:TU 3 (wh 1 i)=TU 1 (wh 1 i):=by
    rcases TUc 3 h0 h1 with ⟨k,h⟩ | ⟨k1,k2,k3,h⟩
    ·rcases TUc 1 h0 h1 with ⟨k',h'⟩ | ⟨k1',k2',k3',h'⟩
     ·rw [h,h']
     ·omega
    ·rcases TUc 1 h0 h1 with ⟨k',h'⟩ | ⟨k1',k2',k3',h'⟩
     ·omega
     ·have hz:=mt (wh_sign (w:=1) (by omega) (i:=i) ⟨h0,fin k3⟩ k1).2.2 c;rw [h,h',show bU 3 (fl i).floor=if (fl i).floor<0 then ((fl i).floor:Rat) else (fl i).floor+1 from rfl,if_neg hz]
      rfl
   rw [e2]
   exact radd_k 1 (b:=4607182418800017408) (by omega) (fun A=>by rw [fl_one];rfl) h0 h1 W
  have o:=order_is i1 i0;refine truncto_pos _ _ _ W o ?_ e
  rcases Int.lt_or_eq_of_le (show 0<=wh 1 i by omega) with k | k
  ·exact .inl (Int.compare_eq_gt.2 k)
  ·exact .inr (Int.compare_eq_eq.2 k.symm)
theorem calls_below{W:World}{f:FuncId}{b r:Nat}(h:Calls Tryz.prog f #[.float .f64 b] W fun e w'=>e=.returned (.float .f64 r)/\W=w'):Calls Tryz.prog f #[.float .f64 b] W fun e w'=>e=.returned (.float .f64 r)/\Below W.heap.size W w':=h.mono fun _ _ ⟨a,b⟩=>⟨a,b ▸ Below.refl _ _⟩
theorem wW_idx(way:Ieee.Toward)(i:Int)(h0:-(M:Int)<=i)(h1:i<=M):Is (wW way (pat i)) (wh (kW way) i):=by
 have h:=wW_is way (is_pat ⟨h0,h1⟩).real
 rwa [idx_pat h0 h1] at h
theorem val_floor(w:World):ValFn w 125 (wW .down):=.inl ⟨enters_of Tryz.func125 (by kernel_rfl) rfl,fun i h0 h1 W _=>calls_below (floor_any (pat i) W (is_pat ⟨h0,h1⟩).real)⟩
theorem val_ceil(w:World):ValFn w 128 (wW .up):=.inl ⟨enters_of Tryz.func128 (by kernel_rfl) rfl,fun i h0 h1 W _=>calls_below (ceil_any (pat i) W (is_pat ⟨h0,h1⟩).real)⟩
theorem val_trunc(w:World):ValFn w 132 (wW .zero):=.inl ⟨enters_of Tryz.func132 (by kernel_rfl) rfl,fun i h0 h1 W _=>calls_below (trunc_any (pat i) W (is_pat ⟨h0,h1⟩).real)⟩
theorem val_even(w:World):ValFn w 135 (wW .even):=.inr fun i h0 h1 W=>(run_arch (pat i) (is_pat ⟨h0,h1⟩).real W).2.2.2
section
variable (c1 c2 x y:Nat) (w:World) (hc1:c1<18446744073709551616) (hc2:c2<18446744073709551616) (hx:x<18446744073709551616) (hy:y<18446744073709551616)
include hc1 hc2 hx hy
theorem floorrev_any:Rt 55 #[Zf c1 c2,Zf x y] (Zf (pat (stq 1 (rd c1 c2) (rd x y)).1) (pat (stq 1 (rd c1 c2) (rd x y)).2)) w:=
 floor_walk c1 c2 x y _ _ w fun W B hB=>step_idx _ _ _ _ _ _ _ _ _ c1 c2 x y W hc1 hc2 hx hy (wW_idx .down) (val_floor W)
  ⟨enters_of Tryz.func126 (by kernel_rfl) rfl,enters_of Tryz.func194 (by kernel_rfl) rfl,itself_low W,behind_fn 1 (b:=4607182418800017408) (by have:=M_val;omega) (fun A=>by rw [fl_one];rfl) hB⟩
theorem ceilrev_any:Rt 56 #[Zf c1 c2,Zf x y] (Zf (pat (stq 2 (rd c1 c2) (rd x y)).1) (pat (stq 2 (rd c1 c2) (rd x y)).2)) w:=
 ceil_walk c1 c2 x y _ _ w fun W B hB=>step_idx _ _ _ _ _ _ _ _ _ c1 c2 x y W hc1 hc2 hx hy (wW_idx .up) (val_ceil W)
  ⟨enters_of Tryz.func197 (by kernel_rfl) rfl,enters_of Tryz.func126 (by kernel_rfl) rfl,ahead_fn 2 (b:=4607182418800017408) (by have:=M_val;omega) (fun A=>by rw [fl_one];rfl) hB,itself_up W⟩
theorem truncrev_any:Rt 57 #[Zf c1 c2,Zf x y] (Zf (pat (stq 3 (rd c1 c2) (rd x y)).1) (pat (stq 3 (rd c1 c2) (rd x y)).2)) w:=
 trunc_walk c1 c2 x y _ _ w fun W=>step_idx _ _ _ _ _ _ _ _ _ c1 c2 x y W hc1 hc2 hx hy (wW_idx .zero) (val_trunc W)
  ⟨enters_of Tryz.func130 (by kernel_rfl) rfl,enters_of Tryz.func131 (by kernel_rfl) rfl,trunc_low W,trunc_up W⟩
theorem evenrev_any:Rt 59 #[Zf c1 c2,Zf x y] (Zf (pat (stq 4 (rd c1 c2) (rd x y)).1) (pat (stq 4 (rd c1 c2) (rd x y)).2)) w:=
 even_walk c1 c2 x y _ _ w fun W B0 B1 h0 h1=>step_idx _ _ _ _ _ _ _ _ _ c1 c2 x y W hc1 hc2 hx hy (wW_idx .even) (val_even W)
  ⟨enters_of Tryz.func197 (by kernel_rfl) rfl,enters_of Tryz.func194 (by kernel_rfl) rfl,ahead_fn 4 (b:=4602678819172646912) (by have:=M_val;omega) (fun A=>by rw [fl_half];rfl) h0,behind_fn 4 (b:=4602678819172646912) (by have:=M_val;omega) (fun A=>by rw [fl_half];rfl) h1⟩
end
end
section
open Go.RowKit
def sgI(i:Int):Int:=if 0<i then 4607182418800017408 else if i<0 then -4607182418800017408 else 0
def sgF(k:Int):Int:=if k=-4607182418800017408 then -(M:Int) else 0
def sgT(k:Int):Int:=if k=4607182418800017408 then (M:Int) else 0
def sgW(b:Nat):Nat:=if 0<idx b then 4607182418800017408 else if idx b<0 then 13830554455654793216 else 0
def sgq(c x:Int × Int):Int × Int:=stp sgI sgF sgT (it c.1 c.2 (-4607182418800017408) 4607182418800017408) x
theorem sgW_is(i:Int)(h0:-(M:Int)<=i)(h1:i<=M):Is (sgW (pat i)) (sgI i):=by
 have hM:=M_val;unfold sgW sgI;rw [idx_pat h0 h1]
 by_cases c:0<i
 ·rw [if_pos c,if_pos c];exact is_pat (i:=4607182418800017408) (by omega)
 ·rw [if_neg c,if_neg c]
  by_cases d:i<0
  ·rw [if_pos d,if_pos d];exact is_pat (i:=-4607182418800017408) (by omega)
  ·rw [if_neg d,if_neg d];exact is_pat (i:=0) (by omega)
theorem val_sign(w:World):ValFn w 121 sgW:=by
 refine .inl ⟨enters_of Tryz.func121 (by kernel_rfl) rfl,fun i h0 h1 W _=>?_⟩;have hM:=M_val;have o:=order_is (is_pat ⟨h0,h1⟩) (is_pat (i:=0) (by omega));rw [pat_zero] at o;unfold sgW;rw [idx_pat h0 h1]
 rcases Int.lt_trichotomy i 0 with c | c | c
 ·rw [Int.compare_eq_lt.2 c] at o;have h:=sign1 (pat i) _ W o;rw [if_neg (by omega),if_pos c];exact h
 ·rw [Int.compare_eq_eq.2 c] at o;have h:=sign1 (pat i) _ W o;rw [if_neg (by omega),if_neg (by omega)];exact h
 ·rw [Int.compare_eq_gt.2 c] at o;have h:=sign1 (pat i) _ W o;rw [if_pos c];exact h
theorem eq_false{a b:Nat}{i j:Int}(ha:Is a i)(hb:Is b j)(h:i≠j):(FloatKind.f64.format.order a b == some Ordering.eq)=false:=by
 rw [order_is ha hb]
 rcases Int.lt_or_gt_of_ne h with k | k
 ·rw [Int.compare_eq_lt.2 k];rfl
 ·rw [Int.compare_eq_gt.2 k];rfl
theorem side_low{W0:World}{B:Nat}(hc:Cap W0 B 13830554455654793216):
  ∀ i,-(M:Int)<=i->i<M->(-(M:Int)<=sgF (wh 2 i)/\sgF (wh 2 i)<=M)/\∀ W,Below W0.heap.size W0 W->Calls Tryz.prog 123 (#[.float .f64 (pat (wh 2 i))] ++ #[.pointer (some ⟨B,0,none⟩)]) W fun e w'=>e=.returned (.float .f64 (pat (sgF (wh 2 i))))/\Below W.heap.size W w':=by
 intro i h0 h1;have hM:=M_val;have r:=wh_rng (w:=2) (by omega) (i:=i) (by omega);refine⟨by unfold sgF;split<;>omega,fun W hW=>?_⟩
 by_cases c:wh 2 i=-4607182418800017408
 ·unfold sgF;rw [if_pos c,c,pat_min]
  exact side1_down B W (hc.below hW).1
 ·unfold sgF;rw [if_neg c,pat_zero]
  exact side1_no _ _ B W (hc.below hW).1 (eq_false (is_pat ⟨r.1,r.2.1⟩) (pat_mone ▸ is_pat (i:=-4607182418800017408) (by omega)) c)
theorem side_up{W0:World}{B:Nat}(hc:Cap W0 B 4607182418800017408):
  ∀ i,-(M:Int)<i->i<=M->(-(M:Int)<=sgT (wh 1 i)/\sgT (wh 1 i)<=M)/\∀ W,Below W0.heap.size W0 W->Calls Tryz.prog 123 (#[.float .f64 (pat (wh 1 i))] ++ #[.pointer (some ⟨B,0,none⟩)]) W fun e w'=>e=.returned (.float .f64 (pat (sgT (wh 1 i))))/\Below W.heap.size W w':=by
 intro i h0 h1;have hM:=M_val;have r:=wh_rng (w:=1) (by omega) (i:=i) (by omega);refine⟨by unfold sgT;split<;>omega,fun W hW=>?_⟩
 by_cases c:wh 1 i=4607182418800017408
 ·unfold sgT;rw [if_pos c,c,pat_max]
  exact side1_up B W (hc.below hW).1
 ·unfold sgT;rw [if_neg c,pat_zero]
  exact side1_no _ _ B W (hc.below hW).1 (eq_false (is_pat ⟨r.1,r.2.1⟩) (pat_one ▸ is_pat (i:=4607182418800017408) (by omega)) c)
theorem unit_iv:Iv (-4607182418800017408) 4607182418800017408:=by unfold Iv;have:=M_val;omega
theorem signrev_any(c1 c2 x y:Nat)(w:World)(hc1:c1<18446744073709551616)(hc2:c2<18446744073709551616)(hx:x<18446744073709551616)(hy:y<18446744073709551616):
  Rt 54 #[Zf c1 c2,Zf x y] (Zf (pat (sgq (rd c1 c2) (rd x y)).1) (pat (sgq (rd c1 c2) (rd x y)).2)) w:=by
 have v:=it_iv (rd_iv c1 c2) unit_iv;refine sign_walk c1 c2 x y _ _ _ _ w (fun W=>inter_gen _ _ _ _ c1 c2 13830554455654793216 4607182418800017408 W (rd_iv c1 c2) unit_iv (fun W=>readf c1 c2 W hc1 hc2) (fun W=>readf_idx _ _ W unit_iv)) fun W B0 B1 h0 h1=>?_
 have h:=step_idx 121 123 123 #[.pointer (some ⟨B0,0,none⟩)] #[.pointer (some ⟨B1,0,none⟩)] sgW sgI sgF sgT _ _ x y W (pat_lt v.lo.1 v.lo.2) (pat_lt v.hi.1 v.hi.2) hx hy sgW_is (val_sign W)
  ⟨enters_of Tryz.func123 (by kernel_rfl) rfl,enters_of Tryz.func123 (by kernel_rfl) rfl,side_low h0,side_up h1⟩
 rw [rd_pat v] at h
 exact h
end
section
open Go.RowKit
theorem es_at0:es 0=0:=by decide
theorem ex_at0:ex 0=0:=by unfold ex;rw [if_pos es_at0,fl_zero]
theorem pf_idx{b1 b2:Int}{o1 o2:Bool}{i j:Int}(h1:b1=0\/b1=-(M:Int))(h2:b2=0\/b2=M)(hx:-(M:Int)<=i/\i<=j/\j<=M/\i<M/\-(M:Int)<j):
  pf (es b1) 0 o1 (es b2) 0 o2 i j=if b2<i\/(i=b2/\o2=true)\/j<b1\/(j=b1/\o1=true) then ((M:Int),-(M:Int)) else (if i<b1 then 0 else i,if b2<j then 0 else j):=by
 have hM:=M_val
 have x1:ex b1=0:=by rcases h1 with rfl | rfl;exact ex_at0;exact ex_min
 have x2:ex b2=0:=by rcases h2 with rfl | rfl;exact ex_at0;exact ex_max
 have a1:=ec_idx (i:=i) (b:=b2) (by omega) (by omega) (by omega) (by omega);have a2:=ec_idx (i:=j) (b:=b1) (by omega) (by omega) (by omega) (by omega);have a3:=ec_idx (i:=i) (b:=b1) (by omega) (by omega) (by omega) (by omega);have a4:=ec_idx (i:=j) (b:=b2) (by omega) (by omega) (by omega) (by omega);rw [x1] at a2 a3;rw [x2] at a1 a4;unfold SameSign at a1 a2 a3 a4;unfold pf wg;rw [if_neg (by omega),rndI_zero (.inl rfl),rndI_zero (.inr rfl)]
 have c:(0<ec (es i) (ex i) (es b2) 0\/ec (es i) (ex i) (es b2) 0=0/\o2=true\/ec (es j) (ex j) (es b1) 0<0\/ec (es j) (ex j) (es b1) 0=0/\o1=true)↔(b2<i\/(i=b2/\o2=true)\/j<b1\/(j=b1/\o1=true)):=by
  have e1:ec (es i) (ex i) (es b2) 0=0↔i=b2:=by omega
  have e2:ec (es j) (ex j) (es b1) 0=0↔j=b1:=by omega
  have e3:0<ec (es i) (ex i) (es b2) 0↔b2<i:=by omega
  have e4:ec (es j) (ex j) (es b1) 0<0↔j<b1:=by omega
  rw [e1,e2,e3,e4]
 by_cases h:b2<i\/(i=b2/\o2=true)\/j<b1\/(j=b1/\o1=true)
 ·rw [if_pos (c.2 h),if_pos h]
 ·rw [if_neg (mt c.1 h),if_neg h]
  have e3:ec (es i) (ex i) (es b1) 0<0↔i<b1:=by omega
  have e4:0<ec (es j) (ex j) (es b2) 0↔b2<j:=by omega
  refine Prod.ext ?_ ?_
  ·show (if _ then (0:Int) else i)=if _ then 0 else i
   by_cases k:i<b1
   ·rw [if_pos (e3.2 k),if_pos k]
   ·rw [if_neg (mt e3.1 k),if_neg k]
  ·show (if _ then (0:Int) else j)=if _ then 0 else j
   by_cases k:b2<j
   ·rw [if_pos (e4.2 k),if_pos k]
   ·rw [if_neg (mt e4.1 k),if_neg k]
def unI(k:Int):Int:=if 0<k then 4607182418800017408 else if k<0 then -4607182418800017408 else 0
theorem fl_unI{k:Int}(h:-1<=k/\k<=1):fl (unI k)=(k:Rat):=by
 have hk:k=-1\/k=0\/k=1:=by omega
 rcases hk with rfl | rfl | rfl
 ·show fl (-4607182418800017408)=_
  rw [fl_neg,fl_one];rfl
 ·exact fl_zero
 ·exact fl_one
theorem sgn_pf{d1 d2 i j k1 k2:Int}(hw1:wh 2 d1=unI k1)(hw2:wh 1 d2=unI k2)(hk:-1<=k1/\k1<=k2/\k2<=1)(hd:¬ d2<d1)(hx:-(M:Int)<=i/\i<=j/\j<=M/\i<M/\-(M:Int)<j):
  stp sgI sgF sgT (d1,d2) (i,j)=pf (if k1<0 then -1 else 0) 0 (decide (k1≠0)) (if 0<k2 then 1 else 0) 0 (decide (k2≠0)) i j:=by
 have hM:=M_val
 have e1:(if k1<0 then (-1:Int) else 0)=es (if k1<0 then -(M:Int) else 0):=by split;rw [es_min];rw [es_at0]
 have e2:(if 0<k2 then (1:Int) else 0)=es (if 0<k2 then (M:Int) else 0):=by split;rw [es_max];rw [es_at0]
 rw [e1,e2,pf_idx (by split<;>simp) (by split<;>simp) hx];unfold stp
 dsimp only
 rw [if_neg (show ¬ (d2<d1\/j<i) by omega),hw1,hw2]
 have a1:k1=-1\/k1=0\/k1=1:=by omega
 have a2:k2=-1\/k2=0\/k2=1:=by omega
 have u1:unI 1=4607182418800017408:=rfl;have u2:unI (-1)=-4607182418800017408:=rfl;have u3:unI 0=0:=rfl
 rcases a1 with rfl | rfl | rfl<;>rcases a2 with rfl | rfl | rfl<;>first | (exfalso;omega) | skip
 all_goals
  simp only [u1,u2,u3,sgF,sgT,sgI]
  by_cases p1:0<i<;>by_cases p2:i<0<;>by_cases p3:0<j<;>by_cases p4:j<0<;>first | (exfalso;omega) | skip
 all_goals
  (try simp only [p1,p2,p3,p4,if_true,if_false,reduceIte,true_or,or_true,Int.reduceEq,Int.reduceNeg,Int.reduceLT,ne_eq,not_true,not_false_eq_true,decide_true,decide_false,Bool.false_eq_true,and_false,and_true,or_false,false_or])
 all_goals (repeat' split)
 all_goals refine Prod.ext ?_ ?_
 all_goals (first | rfl | (dsimp only;first | rfl | omega) | omega)
end
theorem bL_lt_bU{w:Nat}{A B:Int}(h:A<=B):bL w A<bU w B:=by
 have e:(A:Rat)<=B:=Rat.intCast_le_intCast.2 h
 match w with
 | 0=>show (A:Rat) - 1/2<(B:Rat)+1/2;grind
 | 1=>show (A:Rat)<(B:Rat)+1;grind
 | 2=>show (A:Rat) - 1<(B:Rat);grind
 | 3=>
  show (if 0<A then (A:Rat) else A - 1)<(if B<0 then (B:Rat) else B+1)
  by_cases a:0<A
  ·rw [if_pos a,if_neg (by omega)];grind
  ·rw [if_neg a]
   split<;>grind
 | 4=>show (A:Rat) - 1/2<(B:Rat)+1/2;grind
 | w+5=>show (A:Rat) - 1/2<(B:Rat)+1/2;grind
theorem stp_void(V F T:Int->Int)(c:Int × Int)(i j:Int)(h:c.2<c.1\/j<i):stp V F T c (i,j)=((M:Int),-(M:Int)):=by
 unfold stp;rw [if_pos h]
theorem stp_void2(V F T:Int->Int)(c:Int × Int)(i j:Int)(h:wh 1 c.2<wh 2 c.1):stp V F T c (i,j)=((M:Int),-(M:Int)):=by
 unfold stp
 split
 ·rfl
 ·rw [if_pos (.inl h)]
theorem Cl.stq{w:Nat}(hw:1<=w){ci cj:Int}(hc:Iv ci cj):Cl fun i j=>Go.Proofs.YthlmlmfebpjgdaaGreatDoor.stq w (ci,cj) (i,j):=by
 have hM:=M_val
 by_cases e:cj<ci
 ·exact Cl.none.congr fun i j _=>stp_void _ _ _ _ _ _ (.inl e)
 by_cases hne:wh 1 cj<wh 2 ci
 ·exact Cl.none.congr fun i j _=>stp_void2 _ _ _ _ _ _ hne
 have n:=ne_or hc e;unfold Ne at n
 obtain⟨s1,x1,o1,h1⟩:∃ (s1:Int) (x1:Rat) (o1:Bool),(s1=-1/\ci=-(M:Int)\/s1=0/\-(M:Int)<ci/\x1=bL w (fl ci).ceil/\o1=oL w (fl ci).ceil):=by
  by_cases k:ci=-(M:Int)
  ·exact⟨-1,0,false,.inl ⟨rfl,k⟩⟩
  ·exact⟨0,_,_,.inr ⟨rfl,by omega,rfl,rfl⟩⟩
 obtain⟨s2,x2,o2,h2⟩:∃ (s2:Int) (x2:Rat) (o2:Bool),(s2=1/\cj=M\/s2=0/\cj<M/\x2=bU w (fl cj).floor/\o2=oU w (fl cj).floor):=by
  by_cases k:cj=M
  ·exact⟨1,0,false,.inl ⟨rfl,k⟩⟩
  ·exact⟨0,_,_,.inr ⟨rfl,by omega,rfl,rfl⟩⟩
 refine (Cl.pf (s1:=s1) (s2:=s2) (o1:=o1) (o2:=o2) (show s1=0\/s1=-1 by rcases h1 with h | h<;>omega) (show s2=0\/s2=1 by rcases h2 with h | h<;>omega) (x1:=x1) (x2:=x2) ?_).cut (fun i j k=>stp_pf hw n k h1 h2 hne) (fun i j k=>stp_void _ _ _ _ _ _ (.inr k));intro z1 z2
 rcases h1 with h1 | ⟨-,g1,h1,-⟩
 ·omega
 rcases h2 with h2 | ⟨-,g2,h2,-⟩
 ·omega
 left
 rw [h1,h2];have b1:=(wh_fin (w:=2) (by omega) (i:=ci) g1 (by omega)).1;have b2:=(wh_fin (w:=1) (by omega) (i:=cj) (by omega) g2).1;have l:=fl_le_iff.2 (show wh 2 ci<=wh 1 cj by omega);rw [b1,b2] at l
 exact bL_lt_bU (Rat.intCast_le_intCast.1 l)
theorem wh_unit{w:Nat}(hw:w=1\/w=2){d:Int}(h:-4607182418800017408<=d/\d<=4607182418800017408):∃ k:Int,-1<=k/\k<=1/\wh w d=unI k/\(k:Rat)=fl (wh w d):=by
 have hM:=M_val;have b:=(wh_fin (w:=w) (by omega) (i:=d) (by omega) (by omega)).1;have l1:=fl_le_iff.2 h.1;have l2:=fl_le_iff.2 h.2;rw [fl_neg,fl_one] at l1;rw [fl_one] at l2
 have inj:∀ {i j:Int},fl i=fl j->i=j:=fun {i j} e=>by
  have a:=(fl_le_iff (i:=i) (j:=j)).1 (by rw [e];exact Rat.le_refl);have b:=(fl_le_iff (i:=j) (j:=i)).1 (by rw [e];exact Rat.le_refl)
  omega
 rcases hw with rfl | rfl
 ·have k1:-1<=(fl d).floor:=Rat.le_floor_iff.2 (by rw [Rat.intCast_neg];exact l1)
  have k2:(fl d).floor<=1:=by
   have:=Rat.floor_le (fl d);have q:(((fl d).floor:Int):Rat)<=((1:Int):Rat):=Rat.le_trans this l2
   exact Rat.intCast_le_intCast.1 q
  exact⟨(fl d).floor,k1,k2,inj (b.trans (fl_unI ⟨k1,k2⟩).symm),b.symm⟩
 ·have k2:(fl d).ceil<=1:=(ceil_le_iff _ _).2 l2
  have k1:-1<=(fl d).ceil:=by
   have q:=(ceil_le_iff (fl d) (fl d).ceil).1 (Int.le_refl _);have q2:((-1:Int):Rat)<=(((fl d).ceil:Int):Rat):=Rat.le_trans (by rw [Rat.intCast_neg];exact l1) q
   exact Rat.intCast_le_intCast.1 q2
  exact⟨(fl d).ceil,k1,k2,inj (b.trans (fl_unI ⟨k1,k2⟩).symm),b.symm⟩
theorem Cl.sgq{ci cj:Int}(hc:Iv ci cj):Cl fun i j=>Go.Proofs.YthlmlmfebpjgdaaGreatDoor.sgq (ci,cj) (i,j):=by
 have hM:=M_val
 obtain⟨⟨d1,d2⟩,hd⟩:∃ d,Go.Proofs.YthlmlmfebpjgdaaGreatDoor.it ci cj (-4607182418800017408) 4607182418800017408=d:=⟨_,rfl⟩
 have ev:∀ i j,Go.Proofs.YthlmlmfebpjgdaaGreatDoor.sgq (ci,cj) (i,j)=stp sgI sgF sgT (d1,d2) (i,j):=fun i j=>by unfold Go.Proofs.YthlmlmfebpjgdaaGreatDoor.sgq;dsimp only;rw [hd]
 by_cases e:d2<d1
 ·exact Cl.none.congr fun i j _=>by rw [ev];exact stp_void _ _ _ _ _ _ (.inl e)
 have hr:-4607182418800017408<=d1/\d2<=4607182418800017408:=by
  unfold Go.Proofs.YthlmlmfebpjgdaaGreatDoor.it at hd
  split at hd
  ·have:=congrArg Prod.fst hd;have:=congrArg Prod.snd hd;dsimp only at *;omega
  ·have:=congrArg Prod.fst hd;have:=congrArg Prod.snd hd;dsimp only at *;omega
 obtain⟨k1,a1,a2,a3,a4⟩:=wh_unit (w:=2) (.inr rfl) (d:=d1) (by omega);obtain⟨k2,b1,b2,b3,b4⟩:=wh_unit (w:=1) (.inl rfl) (d:=d2) (by omega)
 by_cases hne:wh 1 d2<wh 2 d1
 ·exact Cl.none.congr fun i j _=>by rw [ev];exact stp_void2 _ _ _ _ _ _ hne
 have hk:k1<=k2:=by
  have l:=fl_le_iff.2 (show wh 2 d1<=wh 1 d2 by omega);rw [<- a4,<- b4] at l
  exact Rat.intCast_le_intCast.1 l
 refine (Cl.pf (s1:=if k1<0 then -1 else 0) (x1:=0) (o1:=decide (k1≠0)) (s2:=if 0<k2 then 1 else 0) (x2:=0) (o2:=decide (k2≠0)) (by split<;>omega) (by split<;>omega) ?_).cut (fun i j n=>by rw [ev];exact sgn_pf a3 b3 ⟨a1,hk,b2⟩ e n) (fun i j k=>by rw [ev];exact stp_void _ _ _ _ _ _ (.inr k));intro z1 z2
 have q1:¬ k1<0:=fun k=>by rw [if_pos k] at z1;omega
 have q2:¬ 0<k2:=fun k=>by rw [if_pos k] at z2;omega
 exact .inr ⟨rfl,decide_eq_false (by omega),decide_eq_false (by omega)⟩
theorem ad_snd{d c a b:Int}(hd:d=-1\/d=1)(hc:-(M:Int)<=c/\c<=M)(ha:-(M:Int)<=a/\a<=M)(hb:-(M:Int)<=b/\b<=M)(h:a<=b):ad d c a<=ad d c b:=by
 have hM:=M_val;have r1:=ad_bounds hd hc ha;have r2:=ad_bounds hd hc hb
 by_cases h1:c=M\/c=-(M:Int)
 ·unfold ad;rw [if_pos h1,if_pos h1]
  exact Int.le_refl _
 ·have ea:∀ a,ad d c a=if a=M\/a=-(M:Int) then a else rndI d (fl c+fl a):=fun a=>by unfold ad;rw [if_neg h1]
  by_cases h2:a=-(M:Int)
  ·rw [ea a,if_pos (.inr h2),h2];exact r2.1
  ·by_cases h3:b=M
   ·rw [ea b,if_pos (.inl h3),h3];exact r1.2
   ·rw [ea a,ea b,if_neg (by omega),if_neg (by omega)];refine rndI_mono hd ?_;have:=fl_le_iff.2 h
    grind
def Gr(a b:Int × Int):Prop:=b.1<=a.1/\a.2<=b.2
theorem Gr.refl(a:Int × Int):Gr a a:=⟨Int.le_refl _,Int.le_refl _⟩
theorem Gr.trans{a b c:Int × Int}(h:Gr a b)(k:Gr b c):Gr a c:=by
 unfold Gr at *;omega
theorem Gr.none{b:Int × Int}(h:Iv b.1 b.2):Gr ((M:Int),-(M:Int)) b:=⟨h.lo.2,h.hi.1⟩
theorem Gr.hull{a b c d:Int × Int}(h:Gr a b)(k:Gr c d):Gr (min a.1 c.1,max a.2 c.2) (min b.1 d.1,max b.2 d.2):=by
 unfold Gr at *;dsimp only;omega
theorem Gr.ng{a b:Int × Int}(h:Gr a b):Gr (-a.2,-a.1) (-b.2,-b.1):=by
 unfold Gr at *;dsimp only;omega
theorem ctO_gr{o o':Bool}{i j pd pu qd qu pd' pu' qd' qu':Int}(hj:-(M:Int)<=j)(hi:i<=M)(ho:o'=true->o=true)(h1:pd'<=pd)(h2:pu'<=pu)(h3:qd<=qd')(h4:qu<=qu')(hp:pd<=pu)(hq:qd<=qu)(r1:pd'<=M)(r2:-(M:Int)<=qu'):Gr (ctO o i j pd pu qd qu) (ctO o' i j pd' pu' qd' qu'):=by
 have hM:=M_val;unfold Gr ctO
 by_cases c:qd<i\/j<pu
 ·rw [if_pos c]
  split
  ·dsimp only;omega
  ·split<;>dsimp only<;>omega
 ·rw [if_neg c,if_neg (show ¬ (qd'<i\/j<pu') by omega)]
  by_cases d:o=true/\((pd=0/\pu=0/\j<=0)\/(qd=0/\qu=0/\0<=i))
  ·rw [if_pos d]
   split<;>dsimp only<;>omega
  ·rw [if_neg d,if_neg (fun e=>d ⟨ho e.1,by have:=e.2;omega⟩)]
   dsimp only;omega
theorem ov_pair(s:Int)(x:Rat)(j:Int):(ov s x j).1<=(ov s x j).2:=by
 unfold ov
 split
 ·exact Int.le_refl _
 ·split
  ·exact Int.le_refl _
  ·exact rndI_le _
theorem ov_nonneg{x:Rat}{j:Int}(hx:0<=x)(hj:0<j):0<=(ov 0 x j).1/\0<=(ov 0 x j).2:=by
 unfold ov;rw [if_neg (by omega)]
 split
 ·exact⟨Int.le_refl _,Int.le_refl _⟩
 ·have c:0<=x / fl j:=by
   by_cases z:x=0
   ·rw [z];have:(0:Rat) / fl j=0:=by rw [Rat.div_def];grind
    grind
   ·have:=div_pos' (show 0<x by grind) (fl_pos hj)
    grind
  have a:=rndI_mono (d:=-1) (.inl rfl) c;have b:=rndI_mono (d:=1) (.inr rfl) c;rw [rndI_zero (.inl rfl)] at a;rw [rndI_zero (.inr rfl)] at b
  exact⟨a,b⟩
theorem ov_nonpos{x:Rat}{j:Int}(hx:x<0)(hj:0<j):(ov 0 x j).1<=0/\(ov 0 x j).2<=0:=by
 unfold ov;rw [if_neg (by omega)]
 split
 ·exact⟨Int.le_refl _,Int.le_refl _⟩
 ·have c:x / fl j<=0:=by
   have:=div_neg' hx (fl_pos hj)
   grind
  have a:=rndI_mono (d:=-1) (.inl rfl) c;have b:=rndI_mono (d:=1) (.inr rfl) c;rw [rndI_zero (.inl rfl)] at a;rw [rndI_zero (.inr rfl)] at b
  exact⟨a,b⟩
theorem ov_fin{x:Rat}{j:Int}(h:¬ (x=0\/j=M)):ov 0 x j=(rndI (-1) (x / fl j),rndI 1 (x / fl j)):=by
 unfold ov;rw [if_neg (by omega),if_neg h]
theorem ov_gr{x x':Rat}{j j':Int}(h0:0<j)(hj:j<=j')(hM':j'<=M)(h:0<=x')(hx:x'<=x):(ov 0 x' j').1<=(ov 0 x j).1/\(ov 0 x' j').2<=(ov 0 x j).2:=by
 by_cases c:x'=0\/j'=M
 ·have e:ov 0 x' j'=(0,0):=by unfold ov;rw [if_neg (by omega),if_pos c]
  rw [e]
  exact ov_nonneg (by grind) h0
 ·have c':¬ (x=0\/j=M):=by
   rintro (k | k)
   ·exact c (.inl (by grind))
   ·exact c (.inr (by omega))
  rw [ov_fin c,ov_fin c'];have f:=fl_le_iff.2 hj;have p:=fl_pos h0
  have q:x' / fl j'<=x / fl j:=by
   refine div_le_div (fl_pos (show 0<j' by omega)) p ?_;have m1:x'*fl j<=x*fl j:=(mul_le_pos p).2 hx;have m2:fl j*x<=fl j'*x:=mul_mono_r f (by grind)
   grind
  exact⟨rndI_mono (.inl rfl) q,rndI_mono (.inr rfl) q⟩
theorem ov_gr'{x x':Rat}{j j':Int}(h0:0<j')(hj:j'<=j)(hM':j<M)(h:x<0)(hx:x'<=x):(ov 0 x' j').1<=(ov 0 x j).1/\(ov 0 x' j').2<=(ov 0 x j).2:=by
 rw [ov_fin (show ¬ (x'=0\/j'=M) by rintro (k | k);grind;omega),ov_fin (show ¬ (x=0\/j=M) by rintro (k | k);grind;omega)];have f:=fl_le_iff.2 hj;have p:=fl_pos h0;have p':=fl_pos (show 0<j by omega)
 have q:x' / fl j'<=x / fl j:=by
  refine div_le_div p p' ?_;have m1:x'*fl j<=x*fl j:=(mul_le_pos p').2 hx;have m2:fl j'*(-x)<=fl j*(-x):=mul_mono_r f (by grind)
  grind
 exact⟨rndI_mono (.inl rfl) q,rndI_mono (.inr rfl) q⟩
theorem esx0(x:Rat):(0<=esx 0 x↔0<=x)/\(0<esx 0 x↔0<x)/\(esx 0 x<=0↔x<=0)/\(esx 0 x<0↔x<0):=by
 have r:=esx_rng (s:=0) (x:=x) (.inl rfl);have p:=@esx_pos 0 x (.inl rfl);have n:=@esx_lt 0 x (.inl rfl);have z:=@esx_zero 0 x (by simp)
 rcases r with r | r | r
 ·have:=(n (by omega)).2;rw [r];refine⟨⟨fun h=>by omega,fun h=>by grind⟩,⟨fun h=>by omega,fun h=>by grind⟩,⟨fun _=>by grind,fun _=>by omega⟩,⟨fun _=>this,fun _=>by omega⟩⟩
 ·have:=(z.1 r).2;rw [r];refine⟨⟨fun h=>by grind,fun h=>by omega⟩,⟨fun h=>by omega,fun h=>by grind⟩,⟨fun _=>by grind,fun _=>by omega⟩,⟨fun h=>by omega,fun h=>by grind⟩⟩
 ·have:=(p (by omega)).2;rw [r];refine⟨⟨fun h=>by grind,fun h=>by omega⟩,⟨fun h=>this,fun h=>by omega⟩,⟨fun _=>by omega,fun _=>by grind⟩,⟨fun h=>by omega,fun h=>by grind⟩⟩
def Lw(s':Int)(x':Rat)(s:Int)(x:Rat):Prop:=s'=-1\/(s=0/\s'=0/\x'<=x)
def Hw(s:Int)(x:Rat)(s':Int)(x':Rat):Prop:=s'=1\/(s=0/\s'=0/\x<=x')
theorem pA_pair(s:Int)(x:Rat)(b1 b2:Int):(pA s x b1 b2).1<=(pA s x b1 b2).2:=by
 unfold pA
 split
 ·exact ov_pair _ _ _
 ·split
  ·exact ov_pair _ _ _
  ·exact Int.le_refl _
theorem pA_gr{s s':Int}{x x':Rat}{b1 b2 b1' b2':Int}(hs:s=0\/s=-1)(o:Lw s' x' s x)(h1:b1'<=b1)(h2:b2<=b2')(p:0<b2)(q:b1<M)(r:b2'<=M):(pA s' x' b1' b2').1<=(pA s x b1 b2).1/\(pA s' x' b1' b2').2<=(pA s x b1 b2).2:=by
 have hM:=M_val
 rcases o with rfl | ⟨rfl,rfl,hx⟩
 ·have e:pA (-1) x' b1' b2'=(-(M:Int),-(M:Int)):=by
   unfold pA esx ov;rw [if_pos (show (-1:Int)≠0 by omega),if_neg (by omega),if_pos (show (-1:Int)≠0 by omega)]
   split
   ·exact Prod.ext (by dsimp only;omega) (by dsimp only;omega)
   ·rfl
  have g:=pA_rng (s:=s) (x:=x) (b1:=b1) (b2:=b2) (by omega);rw [e]
  exact⟨g.1.1,g.2.1⟩
 ·have k:=esx0 x;have k':=esx0 x';unfold pA
  by_cases c:0<=x
  ·rw [if_pos (k.1.2 c)]
   by_cases c':0<=x'
   ·rw [if_pos (k'.1.2 c')]
    exact ov_gr p h2 r c' hx
   ·rw [if_neg (fun z=>c' (k'.1.1 z))];have a:=ov_nonneg c p
    split
    ·have b:=ov_nonpos (show x'<0 by grind) (show 0<b1' by omega)
     omega
    ·dsimp only;omega
  ·have c':¬ 0<=x':=fun z=>c (by grind);rw [if_neg (fun z=>c (k.1.1 z)),if_neg (fun z=>c' (k'.1.1 z))]
   by_cases d:0<b1'
   ·rw [if_pos d,if_pos (by omega)]
    exact ov_gr' d h1 q (by grind) hx
   ·rw [if_neg d]
    split
    ·have g:=ov_rng (s:=0) (x:=x) (j:=b1) (.inl rfl)
     exact⟨g.1.1,g.2.1⟩
    ·exact⟨Int.le_refl _,Int.le_refl _⟩
theorem pB_gr{s s':Int}{x x':Rat}{b1 b2 b1' b2':Int}(hs:s=0\/s=1)(o:Hw s x s' x')(h1:b1'<=b1)(h2:b2<=b2')(p:0<b2)(q:b1<M)(r:b2'<=M):(pB s x b1 b2).1<=(pB s' x' b1' b2').1/\(pB s x b1 b2).2<=(pB s' x' b1' b2').2:=by
 rw [pB_neg,pB_neg];have g:=pA_gr (s:=-s) (s':=-s') (x:=-x) (x':=-x') (b1:=b1) (b2:=b2) (by omega) (by rcases o with o | ⟨a,b,c⟩;exact .inl (by omega);exact .inr ⟨by omega,by omega,by grind⟩) h1 h2 p q r
 dsimp only
 omega
theorem pB_pair(s:Int)(x:Rat)(b1 b2:Int):(pB s x b1 b2).1<=(pB s x b1 b2).2:=by
 rw [pB_neg];have:=pA_pair (-s) (-x) b1 b2
 dsimp only
 omega
theorem Lw.esx{s s':Int}{x x':Rat}(o:Lw s' x' s x)(h:0<Go.Proofs.YthlmlmfebpjgdaaGreatDoor.esx s' x'):0<Go.Proofs.YthlmlmfebpjgdaaGreatDoor.esx s x:=by
 rcases o with rfl | ⟨rfl,rfl,hx⟩
 ·unfold Go.Proofs.YthlmlmfebpjgdaaGreatDoor.esx at h;rw [if_pos (by omega)] at h;omega
 ·have a:=(esx0 x').2.1.1 h
  exact (esx0 x).2.1.2 (by grind)
theorem Lw.esx'{s s':Int}{x x':Rat}(o:Lw s' x' s x)(h:Go.Proofs.YthlmlmfebpjgdaaGreatDoor.esx s x<=0):Go.Proofs.YthlmlmfebpjgdaaGreatDoor.esx s' x'<=0:=by
 by_cases c:0<Go.Proofs.YthlmlmfebpjgdaaGreatDoor.esx s' x'
 ·have:=o.esx c;omega
 ·omega
theorem Hw.esx{s s':Int}{x x':Rat}(o:Hw s x s' x')(h:Go.Proofs.YthlmlmfebpjgdaaGreatDoor.esx s' x'<0):Go.Proofs.YthlmlmfebpjgdaaGreatDoor.esx s x<0:=by
 rcases o with rfl | ⟨rfl,rfl,hx⟩
 ·unfold Go.Proofs.YthlmlmfebpjgdaaGreatDoor.esx at h;rw [if_pos (by omega)] at h;omega
 ·have a:=(esx0 x').2.2.2.1 h
  exact (esx0 x).2.2.2.2 (by grind)
theorem PF_gr{b1 b2 b1' b2' s1 s2 s1' s2':Int}{x1 x2 x1' x2':Rat}{i j:Int}(k:NumOk s1 x1 s2 x2)(k':NumOk s1' x1' s2' x2')(hb:Ne b1 b2)(hb':Ne b1' b2')(hx:Ne i j)(h1:b1'<=b1)(h2:b2<=b2')(o1:Lw s1' x1' s1 x1)(o2:Hw s2 x2 s2' x2'):Gr (PF b1 b2 s1 x1 s2 x2 i j) (PF b1' b2' s1' x1' s2' x2' i j):=by
 have hM:=M_val;have v:=(Cl.PF k' hb').iv _ _ hx.iv;rw [<- po_PF k hb hx,<- po_PF k' hb' hx] at *;unfold Ne at hb hb' hx;have ka:=k.a1;have kb:=k.b1;have ka':=k'.a1;have kb':=k'.b1
 by_cases c:b2<=0
 ·have e:po b1 b2 s1 x1 s2 x2 i j=((M:Int),-(M:Int)):=by unfold po;rw [if_pos c]
  rw [e];exact Gr.none v
 ·have A:=pA_gr (b1:=b1) (b2:=b2) ka o1 h1 h2 (by omega) (by omega) (by omega);have B:=pB_gr (b1:=b1) (b2:=b2) kb o2 h1 h2 (by omega) (by omega) (by omega);have ra:=pA_rng (s:=s1') (x:=x1') (b1:=b1') (b2:=b2') (by omega);have rb:=pB_rng (s:=s2') (x:=x2') (b1:=b1') (b2:=b2') (by omega);unfold po;rw [if_neg c,if_neg (by omega)];refine ctO_gr (by omega) (by omega) (fun e=>?_) A.1 A.2 B.1 B.2 (pA_pair _ _ _ _) (pB_pair _ _ _ _) ra.1.2 rb.2.1
  simp only [Bool.or_eq_true,decide_eq_true_eq] at e ⊢
  rcases e with e | e
  ·exact .inl (o1.esx e)
  ·exact .inr (o2.esx e)
theorem fa_gr{b1 b2 b1' b2' s1 s2 s1' s2':Int}{x1 x2 x1' x2':Rat}{i j:Int}(k:NumOk s1 x1 s2 x2)(k':NumOk s1' x1' s2' x2')(hb:Ne b1 b2)(hb':Ne b1' b2')(hx:Ne i j)(h1:b1'<=b1)(h2:b2<=b2')(o1:Lw s1' x1' s1 x1)(o2:Hw s2 x2 s2' x2'):Gr (fa b1 b2 s1 x1 s2 x2 i j) (fa b1' b2' s1' x1' s2' x2' i j):=by
 have hM:=M_val;have sub:=(Cl.fa k hb).sub _ _ hx.iv
 by_cases c':(b1'<=0/\0<=b2')/\esx s1' x1'<=0/\0<=esx s2' x2'
 ·have e:fa b1' b2' s1' x1' s2' x2' i j=(i,j):=by unfold fa;rw [if_pos c']
  rw [e];exact sub
 ·have c:¬ ((b1<=0/\0<=b2)/\esx s1 x1<=0/\0<=esx s2 x2):=by
   rintro⟨⟨a,b⟩,d,e⟩;refine c' ⟨⟨by omega,by omega⟩,o1.esx' d,?_⟩
   by_cases z:esx s2' x2'<0
   ·have:=o2.esx z;omega
   ·omega
  unfold fa;rw [if_neg c,if_neg c']
  exact (PF_gr k k' hb hb' hx h1 h2 o1 o2).hull (PF_gr k k' hb.neg hb'.neg hx.neg (by omega) (by omega) o1 o2).ng
theorem lw_idx{i i':Int}(h0:-(M:Int)<=i')(h:i'<=i)(h1:i<M):Lw (es i') (ex i') (es i) (ex i):=by
 have hM:=M_val
 by_cases c:i'=-(M:Int)
 ·exact .inl (by rw [c];exact es_min)
 ·have e:=es_mid (i:=i) (by omega) h1;have e':=es_mid (i:=i') (by omega) (by omega)
  exact .inr ⟨e,e',by rw [ex_zero e,ex_zero e'];exact fl_le_iff.2 h⟩
theorem hw_idx{j j':Int}(h0:j'<=M)(h:j<=j')(h1:-(M:Int)<j):Hw (es j) (ex j) (es j') (ex j'):=by
 have hM:=M_val
 by_cases c:j'=M
 ·exact .inl (by rw [c];exact es_max)
 ·have e:=es_mid (i:=j) h1 (by omega);have e':=es_mid (i:=j') (by omega) (by omega)
  exact .inr ⟨e,e',by rw [ex_zero e,ex_zero e'];exact fl_le_iff.2 h⟩
theorem lw_sum{s s' t t':Int}{x x' y y':Rat}(ht:t'=0\/t'=-1)(hs:s'=0\/s'=-1)(h:Lw s' x' s x)(k:Lw t' y' t y):Lw (es2 s' t') (ex2 s' x' t' y') (es2 s t) (ex2 s x t y):=by
 unfold Lw at *;unfold es2 ex2
 by_cases c:s'=0
 ·by_cases d:t'=0
  ·right
   have hs2:s=0:=by omega
   have ht2:t=0:=by omega
   subst c d hs2 ht2;rw [if_neg (by omega),if_neg (by omega),if_neg (by omega)];refine⟨rfl,rfl,?_⟩
   have a:x'<=x:=by rcases h with h | h;omega;exact h.2.2
   have b:y'<=y:=by rcases k with k | k;omega;exact k.2.2
   simp only [ne_eq,not_true_eq_false,if_false]
   grind
  ·left
   rw [if_neg (by omega)];omega
 ·left
  rw [if_pos c];omega
theorem hw_sum{s s' t t':Int}{x x' y y':Rat}(ht:t'=0\/t'=1)(hs:s'=0\/s'=1)(h:Hw s x s' x')(k:Hw t y t' y'):Hw (es2 s t) (ex2 s x t y) (es2 s' t') (ex2 s' x' t' y'):=by
 unfold Hw at *;unfold es2 ex2
 by_cases c:s'=0
 ·by_cases d:t'=0
  ·right
   have hs2:s=0:=by omega
   have ht2:t=0:=by omega
   subst c d hs2 ht2;rw [if_neg (by omega),if_neg (by omega)];refine⟨rfl,rfl,?_⟩
   have a:x<=x':=by rcases h with h | h;omega;exact h.2.2
   have b:y<=y':=by rcases k with k | k;omega;exact k.2.2
   simp only [ne_eq,not_true_eq_false,if_false]
   grind
  ·left
   rw [if_neg (by omega)];omega
 ·left
  rw [if_pos c];omega
theorem ad_fst{d a b c:Int}(hd:d=-1\/d=1)(hc:-(M:Int)<=c/\c<=M)(ha:-(M:Int)<=a/\a<=M)(hb:-(M:Int)<=b/\b<=M)(h:a<=b):ad d a c<=ad d b c:=by
 have hM:=M_val;have r1:=ad_bounds hd ha hc;have r2:=ad_bounds hd hb hc
 by_cases h1:a=-(M:Int)
 ·have e:ad d a c=a:=by unfold ad;rw [if_pos (.inr h1)]
  omega
 ·by_cases h2:b=M
  ·have e:ad d b c=b:=by unfold ad;rw [if_pos (.inl h2)]
   omega
  ·have ea:∀ a:Int,¬ (a=M\/a=-(M:Int))->ad d a c=if c=M\/c=-(M:Int) then c else rndI d (fl a+fl c):=fun a k=>by unfold ad;rw [if_neg k]
   rw [ea a (by omega),ea b (by omega)]
   split
   ·exact Int.le_refl _
   ·refine rndI_mono hd ?_;have:=fl_le_iff.2 h
    grind
theorem ad_gr{d a b a' b':Int}(hd:d=-1\/d=1)(ha:-(M:Int)<=a/\a<=M)(hb:-(M:Int)<=b/\b<=M)(ha':-(M:Int)<=a'/\a'<=M)(hb':-(M:Int)<=b'/\b'<=M)(h:a'<=a)(k:b'<=b):ad d a' b'<=ad d a b:=
 Int.le_trans (ad_fst hd hb' ha' ha h) (ad_snd hd ha hb' hb k)
theorem ct_gr{i j pd pu qd qu pd' pu' qd' qu':Int}(hj:-(M:Int)<=j)(hi:i<=M)(h1:pd'<=pd)(h2:pu'<=pu)(h3:qd<=qd')(h4:qu<=qu')(r1:pd'<=M)(r2:-(M:Int)<=qu'):Gr (ct i j pd pu qd qu) (ct i j pd' pu' qd' qu'):=by
 unfold Gr ct
 by_cases c:qd<i\/j<pu
 ·rw [if_pos c]
  split<;>dsimp only<;>omega
 ·rw [if_neg c,if_neg (show ¬ (qd'<i\/j<pu') by omega)]
  dsimp only;omega
theorem rar_gr{i1 j1 i2 j2 i1' j1' i2' j2' i j:Int}(n1:Ne i1 j1)(n2:Ne i2 j2)(n1':Ne i1' j1')(n2':Ne i2' j2')(hx:Ne i j)(a:i1'<=i1/\j1<=j1')(b:i2'<=i2/\j2<=j2'):Gr (rar i1 j1 i2 j2 i j) (rar i1' j1' i2' j2' i j):=by
 have hM:=M_val;unfold Ne at *;unfold rar;rw [if_neg (by omega),if_neg (by omega)];have r1:=ad_bounds (d:=-1) (i:=i2') (j:=-j1') (.inl rfl) (by omega) (by omega);have r2:=ad_bounds (d:=1) (i:=j2') (j:=-i1') (.inr rfl) (by omega) (by omega)
 exact ct_gr (by omega) (by omega) (ad_gr (.inl rfl) (by omega) (by omega) (by omega) (by omega) b.1 (by omega)) (ad_gr (.inr rfl) (by omega) (by omega) (by omega) (by omega) b.1 (by omega)) (ad_gr (.inl rfl) (by omega) (by omega) (by omega) (by omega) b.2 (by omega)) (ad_gr (.inr rfl) (by omega) (by omega) (by omega) (by omega) b.2 (by omega)) r1.2 r2.1
theorem mlr_gr{i1 j1 i2 j2 i1' j1' i2' j2' i j:Int}(n1:Ne i1 j1)(n2:Ne i2 j2)(n1':Ne i1' j1')(n2':Ne i2' j2')(hx:Ne i j)(a:i1'<=i1/\j1<=j1')(b:i2'<=i2/\j2<=j2'):Gr (mlr i1 j1 i2 j2 i j) (mlr i1' j1' i2' j2' i j):=by
 have k:=fa_gr (numok_idx n2) (numok_idx n2') n1 n1' hx a.1 a.2 (lw_idx n2'.1 b.1 n2.2.2.2.1) (hw_idx n2'.2.2.1 b.2 n2.2.2.2.2);unfold Ne at *;unfold mlr;rw [if_neg (by omega),if_neg (by omega)]
 exact k
theorem fmr_gr{i1 j1 iz jz i2 j2 i1' j1' iz' jz' i2' j2' i j:Int}(n1:Ne i1 j1)(nz:Ne iz jz)(n2:Ne i2 j2)(n1':Ne i1' j1')(nz':Ne iz' jz')(n2':Ne i2' j2')(hx:Ne i j)(a:i1'<=i1/\j1<=j1')(z:iz'<=iz/\jz<=jz')(b:i2'<=i2/\j2<=j2'):Gr (fmr i1 j1 iz jz i2 j2 i j) (fmr i1' j1' iz' jz' i2' j2' i j):=by
 have hM:=M_val;have mz:=nz.neg;have mz':=nz'.neg;have e1:=numok_idx n2';have e2:=numok_idx mz'
 have k:=fa_gr (numok_sum n2 mz) (numok_sum n2' mz') n1 n1' hx a.1 a.2
  (lw_sum e2.a1 e1.a1 (lw_idx n2'.1 b.1 n2.2.2.2.1) (lw_idx mz'.1 (by omega) mz.2.2.2.1))
  (hw_sum e2.b1 e1.b1 (hw_idx n2'.2.2.1 b.2 n2.2.2.2.2) (hw_idx mz'.2.2.1 (by omega) mz.2.2.2.2))
 unfold Ne at *;unfold fmr;rw [if_neg (by omega),if_neg (by omega)]
 exact k
theorem mu_pair(a b:Int):mu (-1) a b<=mu 1 a b:=by
 unfold mu
 split
 ·exact Int.le_refl _
 ·exact rndI_le _
theorem xor_np{a b:Int}(ha:a<0)(hb:0<b):(decide (a<0) ^^ decide (b<0))=true:=by
 rw [decide_eq_true ha,decide_eq_false (by omega)];rfl
theorem xor_pp{a b:Int}(ha:0<a)(hb:0<b):(decide (a<0) ^^ decide (b<0))=false:=by
 rw [decide_eq_false (by omega),decide_eq_false (by omega)];rfl
theorem xor_pn{a b:Int}(ha:0<a)(hb:b<0):(decide (a<0) ^^ decide (b<0))=true:=by
 rw [decide_eq_false (by omega),decide_eq_true hb];rfl
theorem xor_nn{a b:Int}(ha:a<0)(hb:b<0):(decide (a<0) ^^ decide (b<0))=false:=by
 rw [decide_eq_true ha,decide_eq_true hb];rfl
theorem mu_np{d a b:Int}(hd:d=-1\/d=1)(ha:a<0)(hb:0<b):mu d a b<=0:=by
 have hM:=M_val;unfold mu
 split
 ·rw [if_pos (xor_np ha hb)];omega
 ·have c:fl a*fl b<=0:=by
   have:=mul_pos2 (show 0 < -fl a by have:=fl_neg_lt ha;grind) (fl_pos hb)
   grind
  have:=rndI_mono hd c
  rwa [rndI_zero hd] at this
theorem mu_pp{d a b:Int}(hd:d=-1\/d=1)(ha:0<a)(hb:0<b):0<=mu d a b:=by
 have hM:=M_val;unfold mu
 split
 ·rw [if_neg (by rw [xor_pp ha hb];simp)];omega
 ·have c:0<=fl a*fl b:=by
   have:=mul_pos2 (fl_pos ha) (fl_pos hb)
   grind
  have:=rndI_mono hd c
  rwa [rndI_zero hd] at this
theorem mu_gn{d a b a' b':Int}(hd:d=-1\/d=1)(h0:-(M:Int)<=a')(h:a'<=a)(ha:a<0)(hb:0<b)(k:b<=b')(hb':b'<=M):mu d a' b'<=mu d a b:=by
 have hM:=M_val;have r:=mu_rng (d:=d) (a:=a) (b:=b) hd
 by_cases c:a'=M\/a'=-(M:Int)\/b'=M\/b'=-(M:Int)
 ·have e:mu d a' b'=-(M:Int):=by unfold mu;rw [if_pos c,if_pos (xor_np (by omega) (by omega))]
  omega
 ·unfold mu;rw [if_neg c,if_neg (by omega)];refine rndI_mono hd ?_;have m1:=mul_mono_r (fl_le_iff.2 h) (show 0<=fl b' by have:=fl_pos (show 0<b' by omega);grind);have m2:=mul_mono_r (fl_le_iff.2 k) (show 0<=-fl a by have:=fl_neg_lt ha;grind)
  grind
theorem mu_gp{d a b a' b':Int}(hd:d=-1\/d=1)(h0:0<a')(h:a'<=a)(ha:a<=M)(hb:0<b')(k:b'<=b)(hb':b<=M):mu d a' b'<=mu d a b:=by
 have hM:=M_val;have r:=mu_rng (d:=d) (a:=a') (b:=b') hd
 by_cases c:a=M\/a=-(M:Int)\/b=M\/b=-(M:Int)
 ·have e:mu d a b=M:=by unfold mu;rw [if_pos c,if_neg (by rw [xor_pp (by omega) (by omega)];simp)]
  omega
 ·unfold mu;rw [if_neg (by omega),if_neg c];refine rndI_mono hd ?_;have m1:=mul_mono_r (fl_le_iff.2 h) (show 0<=fl b' by have:=fl_pos hb;grind);have m2:=mul_mono_r (fl_le_iff.2 k) (show 0<=fl a by have:=fl_pos (show 0<a by omega);grind)
  grind
theorem pdP_pair(i1 j1 i2:Int):(pdP i1 j1 i2).1<=(pdP i1 j1 i2).2:=by
 unfold pdP
 split
 ·exact mu_pair _ _
 ·split
  ·exact mu_pair _ _
  ·exact Int.le_refl _
theorem pdQ_pair(i1 j1 i2:Int):(pdQ i1 j1 i2).1<=(pdQ i1 j1 i2).2:=by
 unfold pdQ
 split
 ·exact mu_pair _ _
 ·split
  ·exact mu_pair _ _
  ·exact Int.le_refl _
theorem pdP_rng(i1 j1 i2:Int):(pdP i1 j1 i2).1<=M:=by
 have hM:=M_val;unfold pdP
 split
 ·exact (mu_rng (.inl rfl)).2
 ·split
  ·exact (mu_rng (.inl rfl)).2
  ·dsimp only;omega
theorem pdQ_rng(i1 j1 i2:Int):-(M:Int)<=(pdQ i1 j1 i2).2:=by
 have hM:=M_val;unfold pdQ
 split
 ·exact (mu_rng (.inr rfl)).1
 ·split
  ·exact (mu_rng (.inr rfl)).1
  ·dsimp only;omega
theorem pdP_gr{i1 j1 i2 i1' j1' i2':Int}(p:0<j1)(a:i1'<=i1/\j1<=j1')(hi:i1<=M)(hj:j1'<=M)(h0:-(M:Int)<=i2')(b:i2'<=i2)(h1:i2<=M):(pdP i1' j1' i2').1<=(pdP i1 j1 i2).1/\(pdP i1' j1' i2').2<=(pdP i1 j1 i2).2:=by
 unfold pdP
 by_cases c:i2<0
 ·rw [if_pos c,if_pos (by omega)]
  exact⟨mu_gn (.inl rfl) h0 b c p a.2 hj,mu_gn (.inr rfl) h0 b c p a.2 hj⟩
 ·rw [if_neg c]
  by_cases c':i2'<0
  ·rw [if_pos c'];have x1:=mu_np (d:=-1) (.inl rfl) c' (show 0<j1' by omega);have x2:=mu_np (d:=1) (.inr rfl) c' (show 0<j1' by omega)
   split
   ·rename_i e;have y1:=mu_pp (d:=-1) (.inl rfl) e.1 e.2;have y2:=mu_pp (d:=1) (.inr rfl) e.1 e.2
    dsimp only;omega
   ·dsimp only;omega
  ·rw [if_neg c']
   by_cases e':0<i2'/\0<i1'
   ·rw [if_pos e',if_pos (by omega)]
    exact⟨mu_gp (.inl rfl) e'.1 b h1 e'.2 a.1 hi,mu_gp (.inr rfl) e'.1 b h1 e'.2 a.1 hi⟩
   ·rw [if_neg e']
    split
    ·rename_i e
     exact⟨mu_pp (.inl rfl) e.1 e.2,mu_pp (.inr rfl) e.1 e.2⟩
    ·exact⟨Int.le_refl _,Int.le_refl _⟩
theorem pdQ_gr{i1 j1 j2 i1' j1' j2':Int}(p:0<j1)(a:i1'<=i1/\j1<=j1')(hi:i1<=M)(hj:j1'<=M)(h0:-(M:Int)<=j2)(b:j2<=j2')(h1:j2'<=M):(pdQ i1 j1 j2).1<=(pdQ i1' j1' j2').1/\(pdQ i1 j1 j2).2<=(pdQ i1' j1' j2').2:=by
 unfold pdQ
 by_cases c:0<j2
 ·rw [if_pos c,if_pos (by omega)]
  exact⟨mu_gp (.inl rfl) c b h1 p a.2 hj,mu_gp (.inr rfl) c b h1 p a.2 hj⟩
 ·rw [if_neg c]
  by_cases c':0<j2'
  ·rw [if_pos c'];have x1:=mu_pp (d:=-1) (.inl rfl) c' (show 0<j1' by omega);have x2:=mu_pp (d:=1) (.inr rfl) c' (show 0<j1' by omega)
   split
   ·rename_i e;have y1:=mu_np (d:=-1) (.inl rfl) e.1 e.2;have y2:=mu_np (d:=1) (.inr rfl) e.1 e.2
    dsimp only;omega
   ·dsimp only;omega
  ·rw [if_neg c']
   by_cases e':j2'<0/\0<i1'
   ·rw [if_pos e',if_pos (by omega)]
    exact⟨mu_gn (.inl rfl) h0 b e'.1 e'.2 a.1 hi,mu_gn (.inr rfl) h0 b e'.1 e'.2 a.1 hi⟩
   ·rw [if_neg e']
    split
    ·rename_i e
     exact⟨mu_np (.inl rfl) e.1 e.2,mu_np (.inr rfl) e.1 e.2⟩
    ·exact⟨Int.le_refl _,Int.le_refl _⟩
theorem FV_gr{i1 j1 i2 j2 i1' j1' i2' j2' i j:Int}(n1:Ne i1 j1)(n2:Ne i2 j2)(n1':Ne i1' j1')(n2':Ne i2' j2')(hx:Ne i j)(a:i1'<=i1/\j1<=j1')(b:i2'<=i2/\j2<=j2'):Gr (FV i1 j1 i2 j2 i j) (FV i1' j1' i2' j2' i j):=by
 have hM:=M_val;have v:=(Cl.FV n1' n2').iv _ _ hx.iv;rw [<- dvd_FV n1 n2 hx,<- dvd_FV n1' n2' hx] at *;unfold Ne at *
 by_cases c:j1<=0
 ·have e:dvd i1 j1 i2 j2 i j=((M:Int),-(M:Int)):=by unfold dvd;rw [if_pos c]
  rw [e];exact Gr.none v
 ·have A:=pdP_gr (i1:=i1) (j1:=j1) (i2:=i2) (by omega) a (by omega) (by omega) n2'.1 b.1 (by omega);have B:=pdQ_gr (i1:=i1) (j1:=j1) (j2:=j2) (by omega) a (by omega) (by omega) (by omega) b.2 n2'.2.2.1;unfold dvd;rw [if_neg c,if_neg (by omega)];refine ctO_gr (by omega) (by omega) (fun e=>?_) A.1 A.2 B.1 B.2 (pdP_pair _ _ _) (pdQ_pair _ _ _) (pdP_rng _ _ _) (pdQ_rng _ _ _)
  simp only [Bool.not_eq_true',decide_eq_false_iff_not] at e ⊢
  omega
theorem dr1_gr{i1 j1 i2 j2 i1' j1' i2' j2' i j:Int}(n1:Ne i1 j1)(n2:Ne i2 j2)(n1':Ne i1' j1')(n2':Ne i2' j2')(hx:Ne i j)(a:i1'<=i1/\j1<=j1')(b:i2'<=i2/\j2<=j2'):Gr (dr1 i1 j1 i2 j2 i j) (dr1 i1' j1' i2' j2' i j):=by
 have k:=(FV_gr n1 n2 n1' n2' hx a b).hull (FV_gr n1.neg n2 n1'.neg n2' hx.neg (by omega) b).ng;unfold Ne at *;unfold dr1;rw [if_neg (by omega),if_neg (by omega)]
 exact k
theorem dvs_bounds{i1 j1 i2 j2:Int}(n1:Ne i1 j1)(n2:Ne i2 j2)(p1:0<j1)(p2:0<j2):
  ((0<=(if 0<i1 then ov (es i1) (ex i1) j2 else (0,0)).1/\(if 0<i1 then ov (es i1) (ex i1) j2 else (0,0)).1<=M)/\(if 0<i1 then ov (es i1) (ex i1) j2 else (0,0)).1<=(if 0<i1 then ov (es i1) (ex i1) j2 else (0,0)).2) /\
  ((0<=(if 0<i2 then ov (es j1) (ex j1) i2 else ((M:Int),(M:Int))).1/\(if 0<i2 then ov (es j1) (ex j1) i2 else ((M:Int),(M:Int))).1<=(if 0<i2 then ov (es j1) (ex j1) i2 else ((M:Int),(M:Int))).2)/\(if 0<i2 then ov (es j1) (ex j1) i2 else ((M:Int),(M:Int))).2<=M):=by
 have hM:=M_val
 have s3:∀ k:Int,es k=0\/es k=1\/es k=-1:=fun k=>by unfold es;split;omega;split;omega;omega
 constructor
 ·by_cases c:0<i1
  ·rw [if_pos c];have g:=ov_rng (x:=ex i1) (j:=j2) (s3 i1);refine⟨⟨?_,g.1.2⟩,ov_pair _ _ _⟩;have e:=es_mid (i:=i1) (by omega) n1.2.2.2.1;rw [e,ex_zero e]
   exact (ov_nonneg (by have:=fl_pos c;grind) p2).1
  ·rw [if_neg c];dsimp only;omega
 ·by_cases c:0<i2
  ·rw [if_pos c];have g:=ov_rng (x:=ex j1) (j:=i2) (s3 j1);refine⟨⟨?_,ov_pair _ _ _⟩,g.2.2⟩
   by_cases m:j1=M
   ·rw [m,es_max];unfold ov;rw [if_pos (by omega)];dsimp only;omega
   ·have e:=es_mid (i:=j1) (by omega) (by have:=n1.2.2.1;omega);rw [e,ex_zero e]
    exact (ov_nonneg (by have:=fl_pos p1;grind) c).1
  ·rw [if_neg c];dsimp only;omega
theorem FD_gr{i1 j1 i2 j2 i1' j1' i2' j2' i j:Int}(n1:Ne i1 j1)(n2:Ne i2 j2)(n1':Ne i1' j1')(n2':Ne i2' j2')(hx:Ne i j)(a:i1'<=i1/\j1<=j1')(b:i2'<=i2/\j2<=j2'):Gr (FD i1 j1 i2 j2 i j) (FD i1' j1' i2' j2' i j):=by
 have hM:=M_val;have v:=(Cl.FD (show i1'<=j1' from n1'.2.1) (show i2'<=j2' from n2'.2.1)).iv _ _ hx.iv;rw [<- dvs_FD n1 n2 hx,<- dvs_FD n1' n2' hx] at *
 by_cases c:j1<=0\/j2<=0
 ·have e:dvs i1 j1 i2 j2 i j=((M:Int),-(M:Int)):=by unfold dvs;rw [if_pos c]
  rw [e];exact Gr.none v
 ·have k:=dvs_bounds n1 n2 (by omega) (by omega);have k':=dvs_bounds n1' n2' (by omega) (by omega);have hx2:=hx;unfold Ne at hx2 n1 n2 n1' n2';unfold dvs;rw [if_neg c,if_neg (show ¬ (j1'<=0\/j2'<=0) by omega)]
  have A:(if 0<i1' then ov (es i1') (ex i1') j2' else (0,0)).1<=(if 0<i1 then ov (es i1) (ex i1) j2 else (0,0)).1/\(if 0<i1' then ov (es i1') (ex i1') j2' else (0,0)).2<=(if 0<i1 then ov (es i1) (ex i1) j2 else (0,0)).2:=by
   by_cases c':0<i1'
   ·have e:=es_mid (i:=i1) (by omega) (by omega);have e':=es_mid (i:=i1') (by omega) (by omega);rw [if_pos c',if_pos (show 0<i1 by omega),e,e',ex_zero e,ex_zero e']
    exact ov_gr (by omega) b.2 (by omega) (by have:=fl_pos c';grind) (fl_le_iff.2 a.1)
   ·rw [if_neg c']
    dsimp only
    exact⟨k.1.1.1,by omega⟩
  have B:(if 0<i2 then ov (es j1) (ex j1) i2 else ((M:Int),(M:Int))).1<=(if 0<i2' then ov (es j1') (ex j1') i2' else ((M:Int),(M:Int))).1/\(if 0<i2 then ov (es j1) (ex j1) i2 else ((M:Int),(M:Int))).2<=(if 0<i2' then ov (es j1') (ex j1') i2' else ((M:Int),(M:Int))).2:=by
   by_cases c':0<i2'
   ·by_cases m:j1'=M
    ·have e:(if 0<i2' then ov (es j1') (ex j1') i2' else ((M:Int),(M:Int)))=((M:Int),(M:Int)):=by
      rw [if_pos c',m,es_max];unfold ov;rw [if_pos (by omega)];exact Prod.ext (by dsimp only;omega) (by dsimp only;omega)
     rw [e]
     dsimp only
     omega
    ·have e:=es_mid (i:=j1) (by omega) (by omega);have e':=es_mid (i:=j1') (by omega) (by omega);rw [if_pos c',if_pos (show 0<i2 by omega),e,e',ex_zero e,ex_zero e']
     exact ov_gr (by omega) b.1 (by omega) (by have:=fl_pos (show 0<j1 by omega);grind) (fl_le_iff.2 a.2)
   ·have e:(if 0<i2' then ov (es j1') (ex j1') i2' else ((M:Int),(M:Int)))=((M:Int),(M:Int)):=by rw [if_neg c']
    rw [e]
    dsimp only
    omega
  exact ctO_gr (by omega) (by omega) (fun e=>e) A.1 A.2 B.1 B.2 k.1.2 k.2.1.2 k'.1.1.2 (by omega)
theorem FD_pos{i1 j1 i2 j2 i j:Int}(n1:Ne i1 j1)(n2:Ne i2 j2)(hx:Ne i j):Gr (FD i1 j1 i2 j2 i j) (pf 0 0 true 1 0 true i j):=by
 have hM:=M_val;have v:=zc2_iv _ _ hx.iv;rw [<- dvs_FD n1 n2 hx,<- zc2 hx] at *
 by_cases c:j1<=0\/j2<=0
 ·have e:dvs i1 j1 i2 j2 i j=((M:Int),-(M:Int)):=by unfold dvs;rw [if_pos c]
  rw [e];exact Gr.none v
 ·have k:=dvs_bounds n1 n2 (by omega) (by omega);unfold Ne at hx;unfold dvs;rw [if_neg c]
  exact ctO_gr (by omega) (by omega) (fun e=>e) k.1.1.1 (by omega) (by omega) k.2.2 k.1.2 k.2.1.2 (by omega) (by omega)
theorem zc_neg{i j:Int}(hx:Ne i j):(-(pf 0 0 true 1 0 true (-j) (-i)).2,-(pf 0 0 true 1 0 true (-j) (-i)).1)=pf (-1) 0 true 0 0 true i j:=by
 have hM:=M_val;rw [<- zc1 hx,<- zc2 hx.neg];unfold Ne at hx;unfold ctO
 by_cases c:(0:Int)<i\/j < -(M:Int)
 ·rw [if_pos c,if_pos (by omega)]
  exact Prod.ext (by dsimp only;omega) rfl
 ·rw [if_neg c,if_neg (by omega)]
  by_cases d:0<=i
  ·rw [if_pos ⟨rfl,by omega⟩,if_pos ⟨rfl,by omega⟩]
   exact Prod.ext (by dsimp only;omega) rfl
  ·rw [if_neg (by omega),if_neg (by omega)]
   exact Prod.ext (by dsimp only;omega) (by dsimp only;omega)
theorem dr2_gr{i1 j1 i2 j2 i1' j1' i2' j2' i j:Int}(n1:Ne i1 j1)(n2:Ne i2 j2)(n1':Ne i1' j1')(n2':Ne i2' j2')(hx:Ne i j)(a:i1'<=i1/\j1<=j1')(b:i2'<=i2/\j2<=j2'):Gr (dr2 i1 j1 i2 j2 i j) (dr2 i1' j1' i2' j2' i j):=by
 have hM:=M_val
 have a':-j1'<=-j1/\-i1<=-i1':=by omega
 have b':-j2'<=-j2/\-i2<=-i2':=by omega
 have z:¬ (j1<i1\/j2<i2\/j<i)/\¬ (j1'<i1'\/j2'<i2'\/j<i):=by unfold Ne at *;omega
 unfold dr2;rw [if_neg z.1,if_neg z.2]
 by_cases c:(i1<=0/\0<=j1)/\(i2<=0/\0<=j2)
 ·rw [if_pos c,if_pos (by omega)]
  exact Gr.refl _
 ·rw [if_neg c]
  by_cases c':(i1'<=0/\0<=j1')/\(i2'<=0/\0<=j2')
  ·rw [if_pos c'];have p1:=FD_pos n1 n2 hx;have p2:=FD_pos n1.neg n2.neg hx;have p3:=(FD_pos n1.neg n2 hx.neg).ng;have p4:=(FD_pos n1 n2.neg hx.neg).ng;rw [zc_neg hx] at p3 p4;unfold Gr at *
   dsimp only at *
   omega
  ·rw [if_neg c'];have p1:=FD_gr n1 n2 n1' n2' hx a b;have p2:=FD_gr n1.neg n2.neg n1'.neg n2'.neg hx a' b';have p3:=FD_gr n1.neg n2 n1'.neg n2' hx.neg a' b;have p4:=FD_gr n1 n2.neg n1' n2'.neg hx.neg a b';unfold Gr at *
   dsimp only at *
   omega
theorem it_gr{a b a' b' i j:Int}(n':Iv a' b')(hx:Ne i j)(h:a'<=a/\b<=b'):Gr (it a b i j) (it a' b' i j):=by
 have hM:=M_val;have:=n'.lo;have:=n'.hi;unfold Ne at hx;unfold Gr it
 by_cases c:b<a\/j<i\/min b j<max a i
 ·rw [if_pos c]
  split<;>dsimp only<;>omega
 ·rw [if_neg c,if_neg (by omega)]
  dsimp only;omega
theorem rmr_gr{i1 j1 i2 j2 i1' j1' i2' j2' i j:Int}(n1:Ne i1 j1)(n2:Ne i2 j2)(n1':Ne i1' j1')(n2':Ne i2' j2')(hx:Ne i j)(a:i1'<=i1/\j1<=j1')(b:i2'<=i2/\j2<=j2'):Gr (rmr i1 j1 i2 j2 i j) (rmr i1' j1' i2' j2' i j):=by
 have hM:=M_val;have v:=(Cl.rmr n1'.iv n2'.iv).iv _ _ hx.iv
 have h0:¬ (j1'<i1'\/j2'<i2'\/j<i):=by unfold Ne at *;omega
 by_cases c:j1<i2
 ·have e:rmr i1 j1 i2 j2 i j=((M:Int),-(M:Int)):=by unfold rmr;rw [if_pos (by omega)]
  rw [e];exact Gr.none v
 ·have q:Iv i2' (if i1'<=j2' then (M:Int) else j2'):=by unfold Ne at *;unfold Iv;split<;>omega
  have k:=it_gr (a:=i2) (b:=if i1<=j2 then (M:Int) else j2) (a':=i2') (b':=if i1'<=j2' then (M:Int) else j2') q hx (by unfold Ne at *;split<;>split<;>omega)
  have z1:¬ (j1<i1\/j2<i2\/j<i\/j1<i2):=by unfold Ne at *;omega
  have z2:¬ (j1'<i1'\/j2'<i2'\/j<i\/j1'<i2'):=by unfold Ne at *;omega
  unfold rmr;rw [if_neg z1,if_neg z2]
  exact k
theorem fm_inf{d i j k:Int}(h:i=M\/i=-(M:Int)\/j=M\/j=-(M:Int)):fm d i j k=if (decide (i<0) ^^ decide (j<0))=true then -(M:Int) else M:=by unfold fm;rw [if_pos h]
theorem fm_num{d i j k:Int}(h:¬ (i=M\/i=-(M:Int)\/j=M\/j=-(M:Int))):fm d i j k=rndI d (fl i*fl j+fl k):=by unfold fm;rw [if_neg h]
theorem wt_comm(c u v:Int):wt c u v=wt c v u:=by
 have hM:=M_val;unfold wt
 by_cases z:c=M\/c=-(M:Int)\/u=0\/v=0
 ·rw [if_pos z,if_pos (by omega)]
 ·rw [if_neg z,if_neg (by omega)]
  have e:∀ d,fm d (-u) v c=fm d (-v) u c:=fun d=>by
   by_cases k:-u=M\/-u=-(M:Int)\/v=M\/v=-(M:Int)
   ·rw [fm_inf k,fm_inf (show -v=M\/-v=-(M:Int)\/u=M\/u=-(M:Int) by omega)]
    have s:(decide (-u<0) ^^ decide (v<0))=(decide (-v<0) ^^ decide (u<0)):=by
     rcases Int.lt_or_gt_of_ne (show u≠0 by omega) with h | h<;>rcases Int.lt_or_gt_of_ne (show v≠0 by omega) with h' | h'
     ·rw [xor_pn (by omega) h',xor_pn (by omega) h]
     ·rw [xor_pp (by omega) h',xor_nn (by omega) h]
     ·rw [xor_nn (by omega) h',xor_pp (by omega) h]
     ·rw [xor_np (by omega) h',xor_np (by omega) h]
    rw [s]
   ·rw [fm_num k,fm_num (show ¬ (-v=M\/-v=-(M:Int)\/u=M\/u=-(M:Int)) by omega),fl_neg,fl_neg]
    congr 1
    grind
  rw [e,e]
theorem wt_fin{c u v:Int}(hc:-(M:Int)<c/\c<M)(hu:-(M:Int)<u/\u<M)(hv:-(M:Int)<v/\v<M):wt c u v=(rndI (-1) (fl c - fl u*fl v),rndI 1 (fl c - fl u*fl v)):=by
 unfold wt
 by_cases z:u=0\/v=0
 ·rw [if_pos (by omega)]
  have e:fl c - fl u*fl v=fl c:=by rcases z with rfl | rfl<;>rw [fl_zero]<;>grind
  rw [e,rndI_fl (.inl rfl) hc.1 hc.2,rndI_fl (.inr rfl) hc.1 hc.2]
 ·rw [if_neg (by omega)];rw [fm_num (show ¬ (-u=M\/-u=-(M:Int)\/v=M\/v=-(M:Int)) by omega),fm_num (show ¬ (-u=M\/-u=-(M:Int)\/v=M\/v=-(M:Int)) by omega),fl_neg]
  have e:-fl u*fl v+fl c=fl c - fl u*fl v:=by grind
  rw [e]
theorem wt_inf{c u v:Int}(hc:-(M:Int)<c/\c<M)(h:u=M\/u=-(M:Int)\/v=M\/v=-(M:Int))(nu:u≠0)(nv:v≠0):wt c u v=if (0<u/\0<v)\/(u<0/\v<0) then (-(M:Int),-(M:Int)) else ((M:Int),(M:Int)):=by
 unfold wt;rw [if_neg (by omega)]
 have k:-u=M\/-u=-(M:Int)\/v=M\/v=-(M:Int):=by omega
 rw [fm_inf k,fm_inf k]
 rcases Int.lt_or_gt_of_ne nu with hu | hu<;>rcases Int.lt_or_gt_of_ne nv with hv | hv
 ·rw [xor_pn (show 0 < -u by omega) hv,if_pos rfl,if_pos (by omega)]
 ·rw [xor_pp (show 0 < -u by omega) hv,if_neg (by decide),if_neg (by omega)]
 ·rw [xor_nn (show -u<0 by omega) hv,if_neg (by decide),if_neg (by omega)]
 ·rw [xor_np (show -u<0 by omega) hv,if_pos rfl,if_pos (by omega)]
theorem wt_gu{c u u' v:Int}(hc:-(M:Int)<=c/\c<=M)(hu:-(M:Int)<=u)(hu':u'<=M)(hv:0<=v/\v<=M)(h:u<=u'):(wt c u' v).1<=(wt c u v).1/\(wt c u' v).2<=(wt c u v).2:=by
 have hM:=M_val
 by_cases z:c=M\/c=-(M:Int)\/v=0
 ·have e:∀ u,wt c u v=(c,c):=fun u=>by unfold wt;rw [if_pos (by omega)]
  rw [e,e];exact⟨Int.le_refl _,Int.le_refl _⟩
 ·have r:=wt_rng (c:=c) (u:=u) (v:=v) hc;have r':=wt_rng (c:=c) (u:=u') (v:=v) hc
  have ez:wt c 0 v=(c,c):=by unfold wt;rw [if_pos (by omega)]
  by_cases k:u=M\/u=-(M:Int)\/v=M\/v=-(M:Int)
  ·by_cases u0:u=0
   ·subst u0
    by_cases u1:u'=0
    ·subst u1;exact⟨Int.le_refl _,Int.le_refl _⟩
    ·have e:=wt_inf (c:=c) (u:=u') (v:=v) (by omega) (by omega) u1 (by omega);rw [if_pos (by omega)] at e;rw [e,ez]
     dsimp only;omega
   ·by_cases u1:0<u
    ·have e:=wt_inf (c:=c) (u:=u') (v:=v) (by omega) (by omega) (by omega) (by omega);rw [if_pos (by omega)] at e;rw [e]
     exact⟨r.1.1,r.2.1⟩
    ·have e:=wt_inf (c:=c) (u:=u) (v:=v) (by omega) (by omega) (by omega) (by omega);rw [if_neg (by omega)] at e;rw [e]
     exact⟨r'.1.2,r'.2.2⟩
  ·by_cases k':u'=M
   ·have e:=wt_inf (c:=c) (u:=u') (v:=v) (by omega) (.inl k') (by omega) (by omega);rw [if_pos (by omega)] at e;rw [e]
    exact⟨r.1.1,r.2.1⟩
   ·rw [wt_fin (by omega) (by omega) (by omega),wt_fin (by omega) (by omega) (by omega)];have m:=mul_mono_r (fl_le_iff.2 h) (show 0<=fl v by have:=fl_pos (show 0<v by omega);grind)
    have q:fl c - fl u'*fl v<=fl c - fl u*fl v:=by grind
    exact⟨rndI_mono (.inl rfl) q,rndI_mono (.inr rfl) q⟩
theorem wt_neg2(c u v:Int):wt c (-u) (-v)=wt c u v:=by
 have hM:=M_val;unfold wt
 by_cases z:c=M\/c=-(M:Int)\/u=0\/v=0
 ·rw [if_pos z,if_pos (by omega)]
 ·rw [if_neg z,if_neg (by omega)]
  have e:∀ d,fm d (- -u) (-v) c=fm d (-u) v c:=fun d=>by
   by_cases k:-u=M\/-u=-(M:Int)\/v=M\/v=-(M:Int)
   ·rw [fm_inf k,fm_inf (show - -u=M\/- -u=-(M:Int)\/-v=M\/-v=-(M:Int) by omega)]
    have s:(decide (- -u<0) ^^ decide (-v<0))=(decide (-u<0) ^^ decide (v<0)):=by
     rcases Int.lt_or_gt_of_ne (show u≠0 by omega) with h | h<;>rcases Int.lt_or_gt_of_ne (show v≠0 by omega) with h' | h'
     ·rw [xor_np (by omega) (by omega),xor_pn (by omega) h']
     ·rw [xor_nn (by omega) (by omega),xor_pp (by omega) h']
     ·rw [xor_pp (by omega) (by omega),xor_nn (by omega) h']
     ·rw [xor_pn (by omega) (by omega),xor_np (by omega) h']
    rw [s]
   ·rw [fm_num k,fm_num (show ¬ (- -u=M\/- -u=-(M:Int)\/-v=M\/-v=-(M:Int)) by omega),fl_neg,fl_neg,fl_neg]
    congr 1
    grind
  rw [e,e]
theorem wt_gu'{c u u' v:Int}(hc:-(M:Int)<=c/\c<=M)(hu:-(M:Int)<=u)(hu':u'<=M)(hv:-(M:Int)<=v/\v<=0)(h:u<=u'):(wt c u v).1<=(wt c u' v).1/\(wt c u v).2<=(wt c u' v).2:=by
 have k:=wt_gu (c:=c) (u:=-u') (u':=-u) (v:=-v) hc (by omega) (by omega) (by omega) (by omega)
 rwa [wt_neg2,wt_neg2] at k
theorem wt_gc{c c' u v:Int}(hc':-(M:Int)<=c')(hc:c<=M)(hu:-(M:Int)<=u/\u<=M)(hv:-(M:Int)<=v/\v<=M)(h:c'<=c):(wt c' u v).1<=(wt c u v).1/\(wt c' u v).2<=(wt c u v).2:=by
 have hM:=M_val;have r:=wt_rng (c:=c) (u:=u) (v:=v) (by omega);have r':=wt_rng (c:=c') (u:=u) (v:=v) (by omega)
 by_cases k:c'=-(M:Int)
 ·have e:wt c' u v=(c',c'):=by unfold wt;rw [if_pos (by omega)]
  rw [e,k];exact⟨r.1.1,r.2.1⟩
 ·by_cases k':c=M
  ·have e:wt c u v=(c,c):=by unfold wt;rw [if_pos (by omega)]
   rw [e,k'];exact⟨r'.1.2,r'.2.2⟩
  ·by_cases z:u=0\/v=0
   ·have e:∀ c,wt c u v=(c,c):=fun c=>by unfold wt;rw [if_pos (by omega)]
    rw [e,e];exact⟨h,h⟩
   ·by_cases f:u=M\/u=-(M:Int)\/v=M\/v=-(M:Int)
    ·rw [wt_inf (by omega) f (by omega) (by omega),wt_inf (by omega) f (by omega) (by omega)]
     exact⟨Int.le_refl _,Int.le_refl _⟩
    ·rw [wt_fin (by omega) (by omega) (by omega),wt_fin (by omega) (by omega) (by omega)]
     have q:fl c' - fl u*fl v<=fl c - fl u*fl v:=by have:=fl_le_iff.2 h;grind
     exact⟨rndI_mono (.inl rfl) q,rndI_mono (.inr rfl) q⟩
theorem wt_corner{c u v i1 j1 i2 j2:Int}(hc:-(M:Int)<=c/\c<=M)(n1:Ne i1 j1)(n2:Ne i2 j2)(hu:i1<=u/\u<=j1)(hv:i2<=v/\v<=j2):
  (∃ u' v',(u'=i1\/u'=j1)/\(v'=i2\/v'=j2)/\(wt c u' v').1<=(wt c u v).1/\(wt c u' v').2<=(wt c u v).2)/\(∃ u' v',(u'=i1\/u'=j1)/\(v'=i2\/v'=j2)/\(wt c u v).1<=(wt c u' v').1/\(wt c u v).2<=(wt c u' v').2):=by
 have hM:=M_val;unfold Ne at *
 have one:∀ {i j u v:Int},-(M:Int)<=i->j<=M->-(M:Int)<=v/\v<=M->i<=u/\u<=j->(∃ u',(u'=i\/u'=j)/\(wt c u' v).1<=(wt c u v).1/\(wt c u' v).2<=(wt c u v).2)/\(∃ u',(u'=i\/u'=j)/\(wt c u v).1<=(wt c u' v).1/\(wt c u v).2<=(wt c u' v).2):=fun {i j u v} a b hv hu=>by
  by_cases s:0<=v
  ·exact⟨⟨j,.inr rfl,wt_gu hc (by omega) b (by omega) hu.2⟩,⟨i,.inl rfl,wt_gu hc a (by omega) (by omega) hu.1⟩⟩
  ·exact⟨⟨i,.inl rfl,wt_gu' hc a (by omega) (by omega) hu.1⟩,⟨j,.inr rfl,wt_gu' hc (by omega) b (by omega) hu.2⟩⟩
 have k:=one (v:=v) n1.1 n1.2.2.1 (by omega) hu
 constructor
 ·obtain⟨u',h1,h2⟩:=k.1;obtain⟨v',h3,h4⟩:=(one (u:=v) (v:=u') n2.1 n2.2.2.1 (by omega) hv).1;rw [wt_comm c v' u',wt_comm c v u'] at h4
  exact⟨u',v',h1,h3,by omega,by omega⟩
 ·obtain⟨u',h1,h2⟩:=k.2;obtain⟨v',h3,h4⟩:=(one (u:=v) (v:=u') n2.1 n2.2.2.1 (by omega) hv).2;rw [wt_comm c v' u',wt_comm c v u'] at h4
  exact⟨u',v',h1,h3,by omega,by omega⟩
theorem min5_all{m a1 a2 a3 a4 z:Int}(h:min (min (min (min m a1) a2) a3) a4=z):z<=m/\z<=a1/\z<=a2/\z<=a3/\z<=a4:=by omega
theorem max5_all{m a1 a2 a3 a4 z:Int}(h:max (max (max (max m a1) a2) a3) a4=z):m<=z/\a1<=z/\a2<=z/\a3<=z/\a4<=z:=by omega
theorem fad_gr{i1 j1 i2 j2 c1 c2 i1' j1' i2' j2' c1' c2' i j:Int}(n1:Ne i1 j1)(n2:Ne i2 j2)(n3:Ne c1 c2)(n1':Ne i1' j1')(n2':Ne i2' j2')(n3':Ne c1' c2')(hx:Ne i j)(a:i1'<=i1/\j1<=j1')(b:i2'<=i2/\j2<=j2')(e:c1'<=c1/\c2<=c2'):Gr (fad i1 j1 i2 j2 c1 c2 i j) (fad i1' j1' i2' j2' c1' c2' i j):=by
 have hM:=M_val
 obtain⟨pd,epd⟩:∃ z,min (min (min (min (M:Int) (wt c1' i1' i2').1) (wt c1' i1' j2').1) (wt c1' j1' i2').1) (wt c1' j1' j2').1=z:=⟨_,rfl⟩
 obtain⟨pu,epu⟩:∃ z,min (min (min (min (M:Int) (wt c1' i1' i2').2) (wt c1' i1' j2').2) (wt c1' j1' i2').2) (wt c1' j1' j2').2=z:=⟨_,rfl⟩
 obtain⟨qd,eqd⟩:∃ z,max (max (max (max (-(M:Int)) (wt c2' i1' i2').1) (wt c2' i1' j2').1) (wt c2' j1' i2').1) (wt c2' j1' j2').1=z:=⟨_,rfl⟩
 obtain⟨qu,equ⟩:∃ z,max (max (max (max (-(M:Int)) (wt c2' i1' i2').2) (wt c2' i1' j2').2) (wt c2' j1' i2').2) (wt c2' j1' j2').2=z:=⟨_,rfl⟩
 have PD:=min5_all epd;have PU:=min5_all epu;have QD:=max5_all eqd;have QU:=max5_all equ
 have L:∀ u v,(u=i1\/u=j1)->(v=i2\/v=j2)->(pd<=(wt c1 u v).1/\pu<=(wt c1 u v).2)/\((wt c2 u v).1<=qd/\(wt c2 u v).2<=qu):=fun u v hu hv=>by
  have m1:=n1;have m2:=n2;have m1':=n1';have m2':=n2';unfold Ne at m1 m2 m1' m2' n3 n3';have k1:=(wt_corner (c:=c1') (u:=u) (v:=v) (by omega) n1' n2' (by omega) (by omega)).1;have k2:=(wt_corner (c:=c2') (u:=u) (v:=v) (by omega) n1' n2' (by omega) (by omega)).2;have g1:=wt_gc (c:=c1) (c':=c1') (u:=u) (v:=v) (by omega) (by omega) (by omega) (by omega) e.1;have g2:=wt_gc (c:=c2') (c':=c2) (u:=u) (v:=v) (by omega) (by omega) (by omega) (by omega) e.2;obtain⟨u1,v1,h1,h2,h3⟩:=k1;obtain⟨u2,v2,h4,h5,h6⟩:=k2
  have lo:pd<=(wt c1' u1 v1).1/\pu<=(wt c1' u1 v1).2:=by
   rcases h1 with h | h<;>rcases h2 with h' | h'<;>rw [h,h']
   ·exact⟨PD.2.1,PU.2.1⟩
   ·exact⟨PD.2.2.1,PU.2.2.1⟩
   ·exact⟨PD.2.2.2.1,PU.2.2.2.1⟩
   ·exact⟨PD.2.2.2.2,PU.2.2.2.2⟩
  have hi:(wt c2' u2 v2).1<=qd/\(wt c2' u2 v2).2<=qu:=by
   rcases h4 with h | h<;>rcases h5 with h' | h'<;>rw [h,h']
   ·exact⟨QD.2.1,QU.2.1⟩
   ·exact⟨QD.2.2.1,QU.2.2.1⟩
   ·exact⟨QD.2.2.2.1,QU.2.2.2.1⟩
   ·exact⟨QD.2.2.2.2,QU.2.2.2.2⟩
  exact⟨⟨Int.le_trans lo.1 (Int.le_trans h3.1 g1.1),Int.le_trans lo.2 (Int.le_trans h3.2 g1.2)⟩,⟨Int.le_trans g2.1 (Int.le_trans h6.1 hi.1),Int.le_trans g2.2 (Int.le_trans h6.2 hi.2)⟩⟩
 have q1:=L i1 i2 (.inl rfl) (.inl rfl);have q2:=L i1 j2 (.inl rfl) (.inr rfl);have q3:=L j1 i2 (.inr rfl) (.inl rfl);have q4:=L j1 j2 (.inr rfl) (.inr rfl);clear L
 have z1:¬ (j1<i1\/j2<i2\/c2<c1\/j<i):=by unfold Ne at *;omega
 have z2:¬ (j1'<i1'\/j2'<i2'\/c2'<c1'\/j<i):=by unfold Ne at *;omega
 have m:pd<=M/\pu<=M/\-(M:Int)<=qd/\-(M:Int)<=qu:=⟨PD.1,PU.1,QD.1,QU.1⟩
 unfold Ne at hx;unfold fad;rw [if_neg z1,if_neg z2,epd,epu,eqd,equ]
 exact ct_gr (by omega) (by omega) (le_min5 m.1 q1.1.1 q2.1.1 q3.1.1 q4.1.1) (le_min5 m.2.1 q1.1.2 q2.1.2 q3.1.2 q4.1.2) (max5_le' m.2.2.1 q1.2.1 q2.2.1 q3.2.1 q4.2.1) (max5_le' m.2.2.2 q1.2.2 q2.2.2 q3.2.2 q4.2.2) m.1 m.2.2.2
end Go.Proofs.YthlmlmfebpjgdaaGreatDoor
