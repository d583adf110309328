/-
Lemmas for the statement: FlooT Step2T Step3T SgnT RndwP RndwT PnP PrT Read2T.
-/
import Derived.Test.YthlmlmfebpjgdaaGreatDoorM35
import Derived.Laws.Externs
import Derived.Test.YthlmlmfebpjgdaaGreatDoorPIntsT
import Derived.Test.YthlmlmfebpjgdaaGreatDoorPPairT
import Derived.Shelf.Abstract
import Derived.Deep.DeepCutAuto
import Derived.Test.YthlmlmfebpjgdaaGreatDoorPMinusT
set_option linter.unusedSimpArgs false
set_option linter.unusedVariables false
set_option maxHeartbeats 12800000
namespace Go.Proofs.YthlmlmfebpjgdaaGreatDoor
section
open Go.RowKit Ieee
theorem run_integral(name:String)(way:Toward){b:Nat}(h:real b)(P:Program)(w:World):
  (Extern.MathFloor.toIntegral name way #[.float .f64 b]).run P w=.ok (.float .f64 (double.write ((double.read b).integral way))) w:=by
 have hn:∀ s t,FloatKind.f64.decode b≠.nan s t:=by
  intro s t he
  rcases Nat.lt_or_ge (rungOf b) M with hf | hf
  ·obtain⟨m,k,e,-⟩:=read_fin (b:=b) hf
   cases e.symm.trans he
  ·have e0:rungOf b=M:=by unfold real at h;omega
   cases (read_inf e0).symm.trans he
 delta Extern.MathFloor.toIntegral
 rw [show double.write ((double.read b).integral way)=FloatKind.f64.encode ((FloatKind.f64.decode b).integral way) from rfl]
 conv=>lhs;arg 2;whnf
 generalize FloatKind.f64.decode b=d at hn
 cases d with
 | nan s t=>exact absurd rfl (hn s t)
 | number s m i=>rfl
 | infinity s=>rfl
def nmFloor: String := "math.archFloor"
def nmCeil: String := "math.archCeil"
def nmTrunc: String := "math.archTrunc"
def nmEven: String := "math.RoundToEven"
theorem run_arch(b:Nat)(h:real b)(w:World):
  (callFunc 192 #[.float .f64 b]).run Tryz.prog w=.ok (.value (.float .f64 (double.write ((double.read b).integral .down)))) w /\
  (callFunc 195 #[.float .f64 b]).run Tryz.prog w=.ok (.value (.float .f64 (double.write ((double.read b).integral .up)))) w /\
  (callFunc 198 #[.float .f64 b]).run Tryz.prog w=.ok (.value (.float .f64 (double.write ((double.read b).integral .zero)))) w /\
  (callFunc 135 #[.float .f64 b]).run Tryz.prog w=.ok (.value (.float .f64 (double.write ((double.read b).integral .even)))) w:=by
 refine⟨?_,?_,?_,?_⟩
 ·rw [run_callFunc_extern (e:=Extern.MathFloor.toIntegral nmFloor .down) Tryz.func192 (by kernel_rfl) (by kernel_rfl) (by kernel_rfl) (by kernel_rfl),run_integral _ _ h]
  rfl
 ·rw [run_callFunc_extern (e:=Extern.MathFloor.toIntegral nmCeil .up) Tryz.func195 (by kernel_rfl) (by kernel_rfl) (by kernel_rfl) (by kernel_rfl),run_integral _ _ h]
  rfl
 ·rw [run_callFunc_extern (e:=Extern.MathFloor.toIntegral nmTrunc .zero) Tryz.func198 (by kernel_rfl) (by kernel_rfl) (by kernel_rfl) (by kernel_rfl),run_integral _ _ h]
  rfl
 ·rw [run_callFunc_extern (e:=Extern.MathFloor.toIntegral nmEven .even) Tryz.func135 (by kernel_rfl) (by kernel_rfl) (by kernel_rfl) (by kernel_rfl),run_integral _ _ h]
  rfl
def wW(way:Toward)(b:Nat):Nat:=double.write ((double.read b).integral way)
theorem wW_is(way:Toward){b:Nat}(h:real b):Is (wW way b) (wh (kW way) (idx b)):=whole_word way h
theorem floor_any(b:Nat)(w:World)(h:real b):Calls Tryz.prog 125 #[.float .f64 b] w fun e w'=>e=.returned (.float .f64 (wW .down b))/\w=w':=by
 have hf:=fun W=>(run_arch b h W).1;unfold wW;generalize double.write ((double.read b).integral .down)=r at hf ⊢;clear h
 go_enter Tryz.func125,Tryz.ntmps125
 go_wp2
 go_ret
 exact⟨rfl,rfl⟩
theorem ceil_any(b:Nat)(w:World)(h:real b):Calls Tryz.prog 128 #[.float .f64 b] w fun e w'=>e=.returned (.float .f64 (wW .up b))/\w=w':=by
 have hf:=fun W=>(run_arch b h W).2.1;unfold wW;generalize double.write ((double.read b).integral .up)=r at hf ⊢;clear h
 go_enter Tryz.func128,Tryz.ntmps128
 go_wp2
 go_ret
 exact⟨rfl,rfl⟩
theorem trunc_any(b:Nat)(w:World)(h:real b):Calls Tryz.prog 132 #[.float .f64 b] w fun e w'=>e=.returned (.float .f64 (wW .zero b))/\w=w':=by
 have hf:=fun W=>(run_arch b h W).2.2.1;unfold wW;generalize double.write ((double.read b).integral .zero)=r at hf ⊢;clear h
 go_enter Tryz.func132,Tryz.ntmps132
 go_wp2
 go_ret
 exact⟨rfl,rfl⟩
end
section
open Go.RowKit
theorem order_is{a b:Nat}{i j:Int}(ha:Is a i)(hb:Is b j):FloatKind.f64.format.order a b=some (compare i j):=by
 have h:=order_real ha.real hb.real;rw [ha.idx,hb.idx] at h
 exact h
theorem is_pat{i:Int}(h:-(M:Int)<=i/\i<=M):Is (pat i) i:=⟨pat_lt h.1 h.2,by unfold real;rw [rung_pat h.1 h.2];omega,idx_pat h.1 h.2⟩
theorem gt_false{a b:Nat}{i j:Int}(ha:Is a i)(hb:Is b j)(h:¬ j<i):(FloatKind.f64.format.order a b == some Ordering.gt)=false:=by
 rw [order_is ha hb]
 rcases Int.lt_or_eq_of_le (show i<=j by omega) with k | k
 ·rw [Int.compare_eq_lt.2 k];rfl
 ·rw [Int.compare_eq_eq.2 k];rfl
theorem lt_false{a b:Nat}{i j:Int}(ha:Is a i)(hb:Is b j)(h:¬ i<j):(FloatKind.f64.format.order a b == some Ordering.lt)=false:=by
 rw [order_is ha hb]
 rcases Int.lt_or_eq_of_le (show j<=i by omega) with k | k
 ·rw [Int.compare_eq_gt.2 k];rfl
 ·rw [Int.compare_eq_eq.2 k.symm];rfl
theorem gt_true{a b:Nat}{i j:Int}(ha:Is a i)(hb:Is b j)(h:j<i):FloatKind.f64.format.order a b=some .gt:=by rw [order_is ha hb,Int.compare_eq_gt.2 h]
theorem lt_true{a b:Nat}{i j:Int}(ha:Is a i)(hb:Is b j)(h:i<j):FloatKind.f64.format.order a b=some .lt:=by rw [order_is ha hb,Int.compare_eq_lt.2 h]
structure StepFn (w:World) (kF kT:FuncId) (cF cT:Array Value) (F T:Int->Int):Prop where
 eF:∀ (args:Array Value) (W:World),(callFunc kF args).run Tryz.prog W=.ok (.enter kF args) W
 eT:∀ (args:Array Value) (W:World),(callFunc kT args).run Tryz.prog W=.ok (.enter kT args) W
 hF:∀ i,-(M:Int)<=i->i<M->(-(M:Int)<=F (wh 2 i)/\F (wh 2 i)<=M)/\∀ W,Below w.heap.size w W->Calls Tryz.prog kF (#[.float .f64 (pat (wh 2 i))] ++ cF) W fun e w'=>e=.returned (.float .f64 (pat (F (wh 2 i))))/\Below W.heap.size W w'
 hT:∀ i,-(M:Int)<i->i<=M->(-(M:Int)<=T (wh 1 i)/\T (wh 1 i)<=M)/\∀ W,Below w.heap.size w W->Calls Tryz.prog kT (#[.float .f64 (pat (wh 1 i))] ++ cT) W fun e w'=>e=.returned (.float .f64 (pat (T (wh 1 i))))/\Below W.heap.size W w'
def ValFn(w:World)(kV:FuncId)(vw:Nat->Nat):Prop:=
 ((∀ (args:Array Value) (W:World),(callFunc kV args).run Tryz.prog W=.ok (.enter kV args) W)/\∀ i,-(M:Int)<=i->i<=M->∀ W,Below w.heap.size w W->Calls Tryz.prog kV #[.float .f64 (pat i)] W fun e w'=>e=.returned (.float .f64 (vw (pat i)))/\Below W.heap.size W w') \/
 (∀ i,-(M:Int)<=i->i<=M->∀ W,(callFunc kV #[.float .f64 (pat i)]).run Tryz.prog W=.ok (.value (.float .f64 (vw (pat i)))) W)
theorem step_idx(kV kF kT:FuncId)(cF cT:Array Value)(vw:Nat->Nat)(V F T:Int->Int)(c1 c2 x y:Nat)(w:World)(hc1:c1<18446744073709551616)(hc2:c2<18446744073709551616)(hx:x<18446744073709551616)(hy:y<18446744073709551616)
  (hI:∀ i,-(M:Int)<=i->i<=M->Is (vw (pat i)) (V i))(hV:ValFn w kV vw)(hS:StepFn w kF kT cF cT F T):
  Rt 124 #[.agg #[.float .f64 c1,.float .f64 c2],.agg #[.float .f64 x,.float .f64 y],.func (.func kV) #[] #[],.func (.func kF) #[] cF,.func (.func kT) #[] cT] (.agg #[.float .f64 (pat (stp V F T (rd c1 c2) (rd x y)).1),.float .f64 (pat (stp V F T (rd c1 c2) (rd x y)).2)]) w:=by
 have hM:=M_val;have v2:=rd_iv c1 c2;have v3:=rd_iv x y;have t2:=fun W=>readf c1 c2 W hc1 hc2;have t3:=fun W=>readf x y W hx hy
 obtain⟨⟨i2,j2⟩,r2⟩:∃ z,rd c1 c2=z:=⟨_,rfl⟩
 obtain⟨⟨i3,j3⟩,r3⟩:∃ z,rd x y=z:=⟨_,rfl⟩
 rw [r2] at v2 t2;rw [r3] at v3 t3;rw [r2,r3]
 dsimp only at *
 have m2:=em_idx v2;have m3:=em_idx v3;unfold stp
 dsimp only
 by_cases hno:j2<i2\/j3<i3
 ·rw [if_pos hno,pat_max,pat_min]
  exact step_none kV kF kT cF cT _ _ _ _ _ _ _ _ _ _ w t2 m2 t3 m3 (by simp;omega)
 have hnn:(decide (j2<i2) || decide (j3<i3))=false:=by simp;omega
 have k2:=ne_or v2 (by omega);have k3:=ne_or v3 (by omega);unfold Ne at k2 k3;rw [if_neg hno];have up:=wW_is .up (b:=pat i2) (is_pat ⟨k2.1,by omega⟩).real;have dw:=wW_is .down (b:=pat j2) (is_pat ⟨by omega,k2.2.2.1⟩).real;rw [idx_pat k2.1 (by omega),show kW .up=2 from rfl] at up;rw [idx_pat (by omega) k2.2.2.1,show kW .down=1 from rfl] at dw
 have hc:∀ W,Rt 128 #[.float .f64 (pat i2)] (.float .f64 (wW .up (pat i2))) W:=fun W=>(ceil_any (pat i2) W (is_pat ⟨k2.1,by omega⟩).real).mono fun _ _ ⟨a,b⟩=>⟨a,b ▸ Below.refl _ _⟩
 have hf:∀ W,Rt 125 #[.float .f64 (pat j2)] (.float .f64 (wW .down (pat j2))) W:=fun W=>(floor_any (pat j2) W (is_pat ⟨by omega,k2.2.2.1⟩).real).mono fun _ _ ⟨a,b⟩=>⟨a,b ▸ Below.refl _ _⟩
 have hp1:∀ W,Rt 191 #[.float .f64 (wW .up (pat i2))] (.float .f64 (pat (wh 2 i2))) W:=fun W=>(fplainf _ W up.lt up.real).mono fun _ _ ⟨a,b⟩=>⟨by rw [a,up.idx],b ▸ Below.refl _ _⟩
 have hp2:∀ W,Rt 191 #[.float .f64 (wW .down (pat j2))] (.float .f64 (pat (wh 1 j2))) W:=fun W=>(fplainf _ W dw.lt dw.real).mono fun _ _ ⟨a,b⟩=>⟨by rw [a,dw.idx],b ▸ Below.refl _ _⟩
 have rA:=wh_rng (w:=2) (by omega) (i:=i2) (by omega);have rB:=wh_rng (w:=1) (by omega) (i:=j2) (by omega);obtain⟨rF,hF⟩:=hS.hF i2 k2.1 k2.2.2.2.1;obtain⟨rT,hT⟩:=hS.hT j2 k2.2.2.2.2 k2.2.2.1;have vi:=hI i3 k3.1 (by omega);have vj:=hI j3 (by omega) k3.2.2.1;have hmx:=fun W ts t=>run_maxf (show -(M:Int)<=i3/\i3<=M by omega) rF W ts t;have hmn:=fun W ts t=>run_minf (show -(M:Int)<=j3/\j3<=M by omega) rT W ts t;have pA:=is_pat (i:=wh 2 i2) ⟨rA.1,rA.2.1⟩;have pB:=is_pat (i:=wh 1 j2) ⟨rB.1,rB.2.1⟩
 by_cases h1:wh 1 j2<wh 2 i2
 ·rw [if_pos (.inl h1),pat_max,pat_min]
  exact step_far kV kF kT cF cT _ _ _ _ _ _ _ _ _ _ _ _ _ _ w t2 m2 t3 m3 hnn hc hp1 hf hp2 (gt_true pA pB h1)
 have o1:=gt_false pA pB h1
 by_cases h2:wh 1 j2<V i3
 ·rw [if_pos (.inr (.inl h2)),pat_max,pat_min]
  rcases hV with ⟨eV,hV⟩ | hV
  ·exact step_low kV kF kT cF cT eV _ _ _ _ _ _ _ _ _ _ _ _ _ _ w t2 m2 t3 m3 hnn hc hp1 hf hp2 _ o1 (hV i3 k3.1 (by omega)) (gt_true vi pB h2)
  ·exact step_lowx kV kF kT cF cT _ _ _ _ _ _ _ _ _ _ _ _ _ _ w t2 m2 t3 m3 hnn hc hp1 hf hp2 _ o1 (hV i3 k3.1 (by omega)) (gt_true vi pB h2)
 have o2:=gt_false vi pB h2
 by_cases h3:V j3<wh 2 i2
 ·rw [if_pos (.inr (.inr h3)),pat_max,pat_min]
  rcases hV with ⟨eV,hV⟩ | hV
  ·exact step_high kV kF kT cF cT eV _ _ _ _ _ _ _ _ _ _ _ _ _ _ w t2 m2 t3 m3 hnn hc hp1 hf hp2 _ _ o1 (hV i3 k3.1 (by omega)) o2 (hV j3 (by omega) k3.2.2.1) (lt_true vj pA h3)
  ·exact step_highx kV kF kT cF cT _ _ _ _ _ _ _ _ _ _ _ _ _ _ w t2 m2 t3 m3 hnn hc hp1 hf hp2 _ _ o1 (hV i3 k3.1 (by omega)) o2 (hV j3 (by omega) k3.2.2.1) (lt_true vj pA h3)
 have o3:=lt_false vj pA h3;rw [if_neg (by rintro (h | h | h);exact h1 h;exact h2 h;exact h3 h)]
 rcases hV with ⟨eV,hV⟩ | hV
 ·exact step_some kV kF kT cF cT eV hS.eF hS.eT _ _ _ _ _ _ _ _ _ _ _ _ _ _ w t2 m2 t3 m3 hnn hc hp1 hf hp2 _ _ _ _ _ _ o1 (hV i3 k3.1 (by omega)) o2 (hV j3 (by omega) k3.2.2.1) o3 hF hT hmx hmn
 ·exact step_somex kV kF kT cF cT hS.eF hS.eT _ _ _ _ _ _ _ _ _ _ _ _ _ _ w t2 m2 t3 m3 hnn hc hp1 hf hp2 _ _ _ _ _ _ o1 (hV i3 k3.1 (by omega)) o2 (hV j3 (by omega) k3.2.2.1) o3 hF hT hmx hmn
end
section
open Go.RowKit
theorem fl_one:fl 4607182418800017408=1:=by decide +kernel
theorem fl_half:fl 4602678819172646912=1/2:=by decide +kernel
theorem pat_one:pat 4607182418800017408=4607182418800017408:=rfl
theorem pat_mone:pat (-4607182418800017408)=13830554455654793216:=rfl
theorem ahead_eq(w:Nat){b i:Int}(hb:-(M:Int)<b/\b<M)(hL:∀ A:Int,bL w A=A - fl b)(h0:-(M:Int)<=i)(h1:i<M):ad (-1) (wh 2 i) (-b)=FL w (wh 2 i):=by
 have hM:=M_val
 rcases FLc w h0 h1 with ⟨k,h⟩ | ⟨k1,k2,k3,h⟩
 ·rw [h,k];unfold ad;rw [if_pos (.inr rfl)]
 ·rw [h];unfold ad;rw [if_neg (by omega),if_neg (by omega),k1,fl_neg,hL,Rat.sub_eq_add_neg]
theorem behind_eq(w:Nat){b i:Int}(hb:-(M:Int)<b/\b<M)(hU:∀ A:Int,bU w A=A+fl b)(h0:-(M:Int)<i)(h1:i<=M):ad 1 (wh 1 i) b=TU w (wh 1 i):=by
 have hM:=M_val
 rcases TUc w h0 h1 with ⟨k,h⟩ | ⟨k1,k2,k3,h⟩
 ·rw [h,k];unfold ad;rw [if_pos (.inl rfl)]
 ·rw [h];unfold ad;rw [if_neg (by omega),if_neg (by omega),k1,hU]
theorem rsub_k{b i:Int}(w:Nat)(hb:-(M:Int)<b/\b<M)(hL:∀ A:Int,bL w A=A - fl b)(h0:-(M:Int)<=i)(h1:i<M)(W:World):
  Rt 84 #[.int .i64 (-1),.float .f64 (pat (wh 2 i)),.float .f64 (pat b)] (.float .f64 (pat (FL w (wh 2 i)))) W:=by
 have hM:=M_val;have r:=wh_rng (w:=2) (by omega) (i:=i) (by omega);have h:=rsub_pat (-1) (wh 2 i) b W (.inl rfl) (by omega) (by omega) (by unfold NoCl;omega);rw [ahead_eq w hb hL h0 h1] at h
 exact h
theorem radd_k{b i:Int}(w:Nat)(hb:-(M:Int)<b/\b<M)(hU:∀ A:Int,bU w A=A+fl b)(h0:-(M:Int)<i)(h1:i<=M)(W:World):
  Rt 139 #[.int .i64 1,.float .f64 (pat (wh 1 i)),.float .f64 (pat b)] (.float .f64 (pat (TU w (wh 1 i)))) W:=by
 have hM:=M_val;have r:=wh_rng (w:=1) (by omega) (i:=i) (by omega);have h:=radd_pat 1 (wh 1 i) b W (.inr rfl) (by omega) (by omega) (by unfold NoCl;omega);rw [behind_eq w hb hU h0 h1] at h
 exact h
theorem ahead_fn(w:Nat){b:Int}(hb:-(M:Int)<b/\b<M)(hL:∀ A:Int,bL w A=A - fl b){W0:World}{B:Nat}(hc:Cap W0 B (pat b)):
  ∀ i,-(M:Int)<=i->i<M->(-(M:Int)<=FL w (wh 2 i)/\FL w (wh 2 i)<=M)/\∀ W,Below W0.heap.size W0 W->Calls Tryz.prog 197 (#[.float .f64 (pat (wh 2 i))] ++ #[.pointer (some ⟨B,0,none⟩)]) W fun e w'=>e=.returned (.float .f64 (pat (FL w (wh 2 i))))/\Below W.heap.size W w':=
 fun _ h0 h1=>⟨FL_rng w h0 h1,fun W hW=>ahead1 _ _ _ B W (hc.below hW).1 (rsub_k w hb hL h0 h1)⟩
theorem behind_fn(w:Nat){b:Int}(hb:-(M:Int)<b/\b<M)(hU:∀ A:Int,bU w A=A+fl b){W0:World}{B:Nat}(hc:Cap W0 B (pat b)):
  ∀ i,-(M:Int)<i->i<=M->(-(M:Int)<=TU w (wh 1 i)/\TU w (wh 1 i)<=M)/\∀ W,Below W0.heap.size W0 W->Calls Tryz.prog 194 (#[.float .f64 (pat (wh 1 i))] ++ #[.pointer (some ⟨B,0,none⟩)]) W fun e w'=>e=.returned (.float .f64 (pat (TU w (wh 1 i))))/\Below W.heap.size W w':=
 fun _ h0 h1=>⟨TU_rng w h0 h1,fun W hW=>behind1 _ _ _ B W (hc.below hW).1 (radd_k w hb hU h0 h1)⟩
theorem FL_one{i:Int}(h0:-(M:Int)<=i)(h1:i<M):FL 1 (wh 2 i)=wh 2 i:=by
 rcases FLc 1 h0 h1 with ⟨k,h⟩ | ⟨k1,k2,k3,h⟩
 ·rw [h,k]
 ·rw [h,show bL 1 (fl i).ceil=((fl i).ceil:Rat) from rfl,<- k1,rndI_fl (.inl rfl) k2 k3]
theorem TU_two{i:Int}(h0:-(M:Int)<i)(h1:i<=M):TU 2 (wh 1 i)=wh 1 i:=by
 rcases TUc 2 h0 h1 with ⟨k,h⟩ | ⟨k1,k2,k3,h⟩
 ·rw [h,k]
 ·rw [h,show bU 2 (fl i).floor=((fl i).floor:Rat) from rfl,<- k1,rndI_fl (.inr rfl) k2 k3]
theorem itself_low(W0:World):∀ i,-(M:Int)<=i->i<M->(-(M:Int)<=FL 1 (wh 2 i)/\FL 1 (wh 2 i)<=M)/\∀ W,Below W0.heap.size W0 W->Calls Tryz.prog 126 (#[.float .f64 (pat (wh 2 i))] ++ #[]) W fun e w'=>e=.returned (.float .f64 (pat (FL 1 (wh 2 i))))/\Below W.heap.size W w':=
 fun i h0 h1=>⟨FL_rng 1 h0 h1,fun W _=>by rw [FL_one h0 h1];exact itself_any _ W⟩
theorem itself_up(W0:World):∀ i,-(M:Int)<i->i<=M->(-(M:Int)<=TU 2 (wh 1 i)/\TU 2 (wh 1 i)<=M)/\∀ W,Below W0.heap.size W0 W->Calls Tryz.prog 126 (#[.float .f64 (pat (wh 1 i))] ++ #[]) W fun e w'=>e=.returned (.float .f64 (pat (TU 2 (wh 1 i))))/\Below W.heap.size W w':=
 fun i h0 h1=>⟨TU_rng 2 h0 h1,fun W _=>by rw [TU_two h0 h1];exact itself_any _ W⟩
theorem wh_sign{w:Nat}(hw:1<=w){i:Int}(h:-(M:Int)<i/\i<M){z:Int}(hz:fl (wh w i)=(z:Rat)):(0<wh w i↔0<z)/\(wh w i<0↔z<0):=by
 have e0:fl 0=((0:Int):Rat):=fl_zero
 constructor
 ·rw [<- fl_lt_iff,e0,hz,Rat.intCast_lt_intCast]
 ·rw [<- fl_lt_iff,e0,hz,Rat.intCast_lt_intCast]
theorem trunc_low(W0:World):∀ i,-(M:Int)<=i->i<M->(-(M:Int)<=FL 3 (wh 2 i)/\FL 3 (wh 2 i)<=M)/\∀ W,Below W0.heap.size W0 W->Calls Tryz.prog 130 (#[.float .f64 (pat (wh 2 i))] ++ #[]) W fun e w'=>e=.returned (.float .f64 (pat (FL 3 (wh 2 i))))/\Below W.heap.size W w':=by
 intro i h0 h1;have hM:=M_val;refine⟨FL_rng 3 h0 h1,fun W _=>?_⟩;have r:=wh_rng (w:=2) (by omega) (i:=i) (by omega);have i1:=is_pat (i:=wh 2 i) ⟨r.1,r.2.1⟩;have i0:=is_pat (i:=0) (by omega)
 by_cases c:0<wh 2 i
 ·have e:FL 3 (wh 2 i)=wh 2 i:=by
   rcases FLc 3 h0 h1 with ⟨k,h⟩ | ⟨k1,k2,k3,h⟩
   ·omega
   ·have hz:=(wh_sign (w:=2) (by omega) (i:=i) (by
     refine⟨?_,h1⟩
     rcases Int.lt_or_eq_of_le h0 with q | q
     ·exact q
     ·rw [<- q,wh_min] at k2;omega) k1).1.1 c
    rw [h,show bL 3 (fl i).ceil=if 0<(fl i).ceil then ((fl i).ceil:Rat) else (fl i).ceil - 1 from rfl,if_pos hz,<- k1,rndI_fl (.inl rfl) k2 k3]
  rw [e]
  exact truncfrom_pos _ W (gt_true i1 i0 c)
 ·have e:∀ W,Rt 84 #[.int .i64 (-1),.float .f64 (pat (wh 2 i)),.float .f64 4607182418800017408] (.float .f64 (pat (FL 3 (wh 2 i)))) W:=by
   intro W
   have e2:FL 3 (wh 2 i)=FL 2 (wh 2 i):=by
    rcases FLc 3 h0 h1 with ⟨k,h⟩ | ⟨k1,k2,k3,h⟩
    ·rcases FLc 2 h0 h1 with ⟨k',h'⟩ | ⟨k1',k2',k3',h'⟩
     ·rw [h,h']
     ·omega
    ·rcases FLc 2 h0 h1 with ⟨k',h'⟩ | ⟨k1',k2',k3',h'⟩
     ·omega
     ·have hz:=mt (wh_sign (w:=2) (by omega) (i:=i) (by
       refine⟨?_,h1⟩
       rcases Int.lt_or_eq_of_le h0 with q | q
       ·exact q
       ·rw [<- q,wh_min] at k2;omega) k1).1.2 c
      rw [h,h',show bL 3 (fl i).ceil=if 0<(fl i).ceil then ((fl i).ceil:Rat) else (fl i).ceil - 1 from rfl,if_neg hz]
      rfl
   rw [e2]
   exact rsub_k 2 (b:=4607182418800017408) (by omega) (fun A=>by rw [fl_one];rfl) h0 h1 W
  have o:=order_is i1 i0;refine truncfrom_neg _ _ _ W o ?_ e
  rcases Int.lt_or_eq_of_le (show wh 2 i<=0 by omega) with k | k
  ·exact .inl (Int.compare_eq_lt.2 k)
  ·exact .inr (Int.compare_eq_eq.2 k)
theorem trunc_up(W0:World):∀ i,-(M:Int)<i->i<=M->(-(M:Int)<=TU 3 (wh 1 i)/\TU 3 (wh 1 i)<=M)/\∀ W,Below W0.heap.size W0 W->Calls Tryz.prog 131 (#[.float .f64 (pat (wh 1 i))] ++ #[]) W fun e w'=>e=.returned (.float .f64 (pat (TU 3 (wh 1 i))))/\Below W.heap.size W w':=by
 intro i h0 h1;have hM:=M_val;refine⟨TU_rng 3 h0 h1,fun W _=>?_⟩;have r:=wh_rng (w:=1) (by omega) (i:=i) (by omega);have i1:=is_pat (i:=wh 1 i) ⟨r.1,r.2.1⟩;have i0:=is_pat (i:=0) (by omega)
 have fin:wh 1 i<M->i<M:=fun h=>by
  rcases Int.lt_or_eq_of_le h1 with q | q
  ·exact q
  ·rw [q,wh_max] at h;omega
 by_cases c:wh 1 i<0
 ·have e:TU 3 (wh 1 i)=wh 1 i:=by
   rcases TUc 3 h0 h1 with ⟨k,h⟩ | ⟨k1,k2,k3,h⟩
   ·omega
   ·have hz:=(wh_sign (w:=1) (by omega) (i:=i) ⟨h0,fin k3⟩ k1).2.1 c;rw [h,show bU 3 (fl i).floor=if (fl i).floor<0 then ((fl i).floor:Rat) else (fl i).floor+1 from rfl,if_pos hz,<- k1,rndI_fl (.inr rfl) k2 k3]
  rw [e]
  exact truncto_neg _ W (lt_true i1 i0 c)
 ·have e:∀ W,Rt 139 #[.int .i64 1,.float .f64 (pat (wh 1 i)),.float .f64 4607182418800017408] (.float .f64 (pat (TU 3 (wh 1 i)))) W:=by
   intro W
   have e2:TU 3 (wh 1 i)=TU 1 (wh 1 i):=by
    rcases TUc 3 h0 h1 with ⟨k,h⟩ | ⟨k1,k2,k3,h⟩
    ·rcases TUc 1 h0 h1 with ⟨k',h'⟩ | ⟨k1',k2',k3',h'⟩
     ·rw [h,h']
     ·omega
    ·rcases TUc 1 h0 h1 with ⟨k',h'⟩ | ⟨k1',k2',k3',h'⟩
     ·omega
     ·have hz:=mt (wh_sign (w:=1) (by omega) (i:=i) ⟨h0,fin k3⟩ k1).2.2 c;rw [h,h',show bU 3 (fl i).floor=if (fl i).floor<0 then ((fl i).floor:Rat) else (fl i).floor+1 from rfl,if_neg hz]
      rfl
   rw [e2]
   exact radd_k 1 (b:=4607182418800017408) (by omega) (fun A=>by rw [fl_one];rfl) h0 h1 W
  have o:=order_is i1 i0;refine truncto_pos _ _ _ W o ?_ e
  rcases Int.lt_or_eq_of_le (show 0<=wh 1 i by omega) with k | k
  ·exact .inl (Int.compare_eq_gt.2 k)
  ·exact .inr (Int.compare_eq_eq.2 k.symm)
theorem calls_below{W:World}{f:FuncId}{b r:Nat}(h:Calls Tryz.prog f #[.float .f64 b] W fun e w'=>e=.returned (.float .f64 r)/\W=w'):Calls Tryz.prog f #[.float .f64 b] W fun e w'=>e=.returned (.float .f64 r)/\Below W.heap.size W w':=h.mono fun _ _ ⟨a,b⟩=>⟨a,b ▸ Below.refl _ _⟩
theorem wW_idx(way:Ieee.Toward)(i:Int)(h0:-(M:Int)<=i)(h1:i<=M):Is (wW way (pat i)) (wh (kW way) i):=by
 have h:=wW_is way (is_pat ⟨h0,h1⟩).real
 rwa [idx_pat h0 h1] at h
theorem val_floor(w:World):ValFn w 125 (wW .down):=.inl ⟨enters_of Tryz.func125 (by kernel_rfl) rfl,fun i h0 h1 W _=>calls_below (floor_any (pat i) W (is_pat ⟨h0,h1⟩).real)⟩
theorem val_ceil(w:World):ValFn w 128 (wW .up):=.inl ⟨enters_of Tryz.func128 (by kernel_rfl) rfl,fun i h0 h1 W _=>calls_below (ceil_any (pat i) W (is_pat ⟨h0,h1⟩).real)⟩
theorem val_trunc(w:World):ValFn w 132 (wW .zero):=.inl ⟨enters_of Tryz.func132 (by kernel_rfl) rfl,fun i h0 h1 W _=>calls_below (trunc_any (pat i) W (is_pat ⟨h0,h1⟩).real)⟩
theorem val_even(w:World):ValFn w 135 (wW .even):=.inr fun i h0 h1 W=>(run_arch (pat i) (is_pat ⟨h0,h1⟩).real W).2.2.2
section
variable (c1 c2 x y:Nat) (w:World) (hc1:c1<18446744073709551616) (hc2:c2<18446744073709551616) (hx:x<18446744073709551616) (hy:y<18446744073709551616)
include hc1 hc2 hx hy
theorem floorrev_any:Rt 55 #[.agg #[.float .f64 c1,.float .f64 c2],.agg #[.float .f64 x,.float .f64 y]] (.agg #[.float .f64 (pat (stq 1 (rd c1 c2) (rd x y)).1),.float .f64 (pat (stq 1 (rd c1 c2) (rd x y)).2)]) w:=
 floor_walk c1 c2 x y _ _ w fun W B hB=>step_idx _ _ _ _ _ _ _ _ _ c1 c2 x y W hc1 hc2 hx hy (wW_idx .down) (val_floor W)
  ⟨enters_of Tryz.func126 (by kernel_rfl) rfl,enters_of Tryz.func194 (by kernel_rfl) rfl,itself_low W,behind_fn 1 (b:=4607182418800017408) (by have:=M_val;omega) (fun A=>by rw [fl_one];rfl) hB⟩
theorem ceilrev_any:Rt 56 #[.agg #[.float .f64 c1,.float .f64 c2],.agg #[.float .f64 x,.float .f64 y]] (.agg #[.float .f64 (pat (stq 2 (rd c1 c2) (rd x y)).1),.float .f64 (pat (stq 2 (rd c1 c2) (rd x y)).2)]) w:=
 ceil_walk c1 c2 x y _ _ w fun W B hB=>step_idx _ _ _ _ _ _ _ _ _ c1 c2 x y W hc1 hc2 hx hy (wW_idx .up) (val_ceil W)
  ⟨enters_of Tryz.func197 (by kernel_rfl) rfl,enters_of Tryz.func126 (by kernel_rfl) rfl,ahead_fn 2 (b:=4607182418800017408) (by have:=M_val;omega) (fun A=>by rw [fl_one];rfl) hB,itself_up W⟩
theorem truncrev_any:Rt 57 #[.agg #[.float .f64 c1,.float .f64 c2],.agg #[.float .f64 x,.float .f64 y]] (.agg #[.float .f64 (pat (stq 3 (rd c1 c2) (rd x y)).1),.float .f64 (pat (stq 3 (rd c1 c2) (rd x y)).2)]) w:=
 trunc_walk c1 c2 x y _ _ w fun W=>step_idx _ _ _ _ _ _ _ _ _ c1 c2 x y W hc1 hc2 hx hy (wW_idx .zero) (val_trunc W)
  ⟨enters_of Tryz.func130 (by kernel_rfl) rfl,enters_of Tryz.func131 (by kernel_rfl) rfl,trunc_low W,trunc_up W⟩
theorem evenrev_any:Rt 59 #[.agg #[.float .f64 c1,.float .f64 c2],.agg #[.float .f64 x,.float .f64 y]] (.agg #[.float .f64 (pat (stq 4 (rd c1 c2) (rd x y)).1),.float .f64 (pat (stq 4 (rd c1 c2) (rd x y)).2)]) w:=
 even_walk c1 c2 x y _ _ w fun W B0 B1 h0 h1=>step_idx _ _ _ _ _ _ _ _ _ c1 c2 x y W hc1 hc2 hx hy (wW_idx .even) (val_even W)
  ⟨enters_of Tryz.func197 (by kernel_rfl) rfl,enters_of Tryz.func194 (by kernel_rfl) rfl,ahead_fn 4 (b:=4602678819172646912) (by have:=M_val;omega) (fun A=>by rw [fl_half];rfl) h0,behind_fn 4 (b:=4602678819172646912) (by have:=M_val;omega) (fun A=>by rw [fl_half];rfl) h1⟩
end
end
section
open Go.RowKit
def sgI(i:Int):Int:=if 0<i then 4607182418800017408 else if i<0 then -4607182418800017408 else 0
def sgF(k:Int):Int:=if k=-4607182418800017408 then -(M:Int) else 0
def sgT(k:Int):Int:=if k=4607182418800017408 then (M:Int) else 0
def sgW(b:Nat):Nat:=if 0<idx b then 4607182418800017408 else if idx b<0 then 13830554455654793216 else 0
def sgq(c x:Int × Int):Int × Int:=stp sgI sgF sgT (it c.1 c.2 (-4607182418800017408) 4607182418800017408) x
theorem sgW_is(i:Int)(h0:-(M:Int)<=i)(h1:i<=M):Is (sgW (pat i)) (sgI i):=by
 have hM:=M_val;unfold sgW sgI;rw [idx_pat h0 h1]
 by_cases c:0<i
 ·rw [if_pos c,if_pos c];exact is_pat (i:=4607182418800017408) (by omega)
 ·rw [if_neg c,if_neg c]
  by_cases d:i<0
  ·rw [if_pos d,if_pos d];exact is_pat (i:=-4607182418800017408) (by omega)
  ·rw [if_neg d,if_neg d];exact is_pat (i:=0) (by omega)
theorem val_sign(w:World):ValFn w 121 sgW:=by
 refine .inl ⟨enters_of Tryz.func121 (by kernel_rfl) rfl,fun i h0 h1 W _=>?_⟩;have hM:=M_val;have o:=order_is (is_pat ⟨h0,h1⟩) (is_pat (i:=0) (by omega));rw [pat_zero] at o;unfold sgW;rw [idx_pat h0 h1]
 rcases Int.lt_trichotomy i 0 with c | c | c
 ·rw [Int.compare_eq_lt.2 c] at o;have h:=sign1 (pat i) _ W o;rw [if_neg (by omega),if_pos c];exact h
 ·rw [Int.compare_eq_eq.2 c] at o;have h:=sign1 (pat i) _ W o;rw [if_neg (by omega),if_neg (by omega)];exact h
 ·rw [Int.compare_eq_gt.2 c] at o;have h:=sign1 (pat i) _ W o;rw [if_pos c];exact h
theorem eq_false{a b:Nat}{i j:Int}(ha:Is a i)(hb:Is b j)(h:i≠j):(FloatKind.f64.format.order a b == some Ordering.eq)=false:=by
 rw [order_is ha hb]
 rcases Int.lt_or_gt_of_ne h with k | k
 ·rw [Int.compare_eq_lt.2 k];rfl
 ·rw [Int.compare_eq_gt.2 k];rfl
theorem side_low{W0:World}{B:Nat}(hc:Cap W0 B 13830554455654793216):
  ∀ i,-(M:Int)<=i->i<M->(-(M:Int)<=sgF (wh 2 i)/\sgF (wh 2 i)<=M)/\∀ W,Below W0.heap.size W0 W->Calls Tryz.prog 123 (#[.float .f64 (pat (wh 2 i))] ++ #[.pointer (some ⟨B,0,none⟩)]) W fun e w'=>e=.returned (.float .f64 (pat (sgF (wh 2 i))))/\Below W.heap.size W w':=by
 intro i h0 h1;have hM:=M_val;have r:=wh_rng (w:=2) (by omega) (i:=i) (by omega);refine⟨by unfold sgF;split<;>omega,fun W hW=>?_⟩
 by_cases c:wh 2 i=-4607182418800017408
 ·unfold sgF;rw [if_pos c,c,pat_min]
  exact side1_down B W (hc.below hW).1
 ·unfold sgF;rw [if_neg c,pat_zero]
  exact side1_no _ _ B W (hc.below hW).1 (eq_false (is_pat ⟨r.1,r.2.1⟩) (pat_mone ▸ is_pat (i:=-4607182418800017408) (by omega)) c)
theorem side_up{W0:World}{B:Nat}(hc:Cap W0 B 4607182418800017408):
  ∀ i,-(M:Int)<i->i<=M->(-(M:Int)<=sgT (wh 1 i)/\sgT (wh 1 i)<=M)/\∀ W,Below W0.heap.size W0 W->Calls Tryz.prog 123 (#[.float .f64 (pat (wh 1 i))] ++ #[.pointer (some ⟨B,0,none⟩)]) W fun e w'=>e=.returned (.float .f64 (pat (sgT (wh 1 i))))/\Below W.heap.size W w':=by
 intro i h0 h1;have hM:=M_val;have r:=wh_rng (w:=1) (by omega) (i:=i) (by omega);refine⟨by unfold sgT;split<;>omega,fun W hW=>?_⟩
 by_cases c:wh 1 i=4607182418800017408
 ·unfold sgT;rw [if_pos c,c,pat_max]
  exact side1_up B W (hc.below hW).1
 ·unfold sgT;rw [if_neg c,pat_zero]
  exact side1_no _ _ B W (hc.below hW).1 (eq_false (is_pat ⟨r.1,r.2.1⟩) (pat_one ▸ is_pat (i:=4607182418800017408) (by omega)) c)
theorem unit_iv:Iv (-4607182418800017408) 4607182418800017408:=by unfold Iv;have:=M_val;omega
theorem signrev_any(c1 c2 x y:Nat)(w:World)(hc1:c1<18446744073709551616)(hc2:c2<18446744073709551616)(hx:x<18446744073709551616)(hy:y<18446744073709551616):
  Rt 54 #[.agg #[.float .f64 c1,.float .f64 c2],.agg #[.float .f64 x,.float .f64 y]] (.agg #[.float .f64 (pat (sgq (rd c1 c2) (rd x y)).1),.float .f64 (pat (sgq (rd c1 c2) (rd x y)).2)]) w:=by
 have v:=it_iv (rd_iv c1 c2) unit_iv;refine sign_walk c1 c2 x y _ _ _ _ w (fun W=>inter_gen _ _ _ _ c1 c2 13830554455654793216 4607182418800017408 W (rd_iv c1 c2) unit_iv (fun W=>readf c1 c2 W hc1 hc2) (fun W=>readf_idx _ _ W unit_iv)) fun W B0 B1 h0 h1=>?_
 have h:=step_idx 121 123 123 #[.pointer (some ⟨B0,0,none⟩)] #[.pointer (some ⟨B1,0,none⟩)] sgW sgI sgF sgT _ _ x y W (pat_lt v.lo.1 v.lo.2) (pat_lt v.hi.1 v.hi.2) hx hy sgW_is (val_sign W)
  ⟨enters_of Tryz.func123 (by kernel_rfl) rfl,enters_of Tryz.func123 (by kernel_rfl) rfl,side_low h0,side_up h1⟩
 rw [rd_pat v] at h
 exact h
end
section
open Go.RowKit Ieee
theorem and_high{a k:Nat}(ha:a<2^64)(hk:k<=64):a &&& (2^64 - 2^k)=a / 2^k*2^k:=by
 have e1:2^64 - 2^k=(2^(64 - k) - 1) <<< k:=by
  rw [Nat.shiftLeft_eq,Nat.sub_mul,<- Nat.pow_add,Nat.one_mul];congr 2;omega
 have e2:a / 2^k*2^k=(a >>> k) <<< k:=by rw [Nat.shiftLeft_eq,Nat.shiftRight_eq_div_pow]
 rw [e1,e2]
 apply Nat.eq_of_testBit_eq
 intro i;rw [Nat.testBit_and,Nat.testBit_shiftLeft,Nat.testBit_shiftLeft,Nat.testBit_shiftRight,Nat.testBit_two_pow_sub_one]
 by_cases c:k<=i
 ·rw [show k+(i - k)=i by omega]
  by_cases d:i<64
  ·simp [c,show i - k<64 - k by omega]
  ·have:a.testBit i=false:=Nat.testBit_lt_two_pow (Nat.lt_of_lt_of_le ha (Nat.pow_le_pow_right (by omega) (by omega)))
   simp [this]
 ·simp [c]
theorem wI_pos{q D H:Int}(hD:D=2*H)(hH:0<H)(hq:0<=q):wI q D=(q+H) / D:=by
 have h1:=Int.mul_ediv_add_emod q D;have h2:=Int.emod_nonneg q (show D≠0 by omega);have h3:=Int.emod_lt_of_pos q (show 0<D by omega);unfold wI;generalize q / D=Q at *;generalize q % D=r at *;rw [<- h1]
 by_cases c:H<=r
 ·rw [if_pos (by omega)]
  have:D*Q+r+H=(r+H - D)+D*(Q+1):=by rw [Int.mul_add];omega
  rw [this,Int.add_mul_ediv_left _ _ (by omega),Int.ediv_eq_zero_of_lt (by omega) (by omega)];omega
 ·rw [if_neg (by omega)]
  have:D*Q+r+H=(r+H)+D*Q:=by omega
  rw [this,Int.add_mul_ediv_left _ _ (by omega),Int.ediv_eq_zero_of_lt (by omega) (by omega)];omega
theorem wI_neg{q D H:Int}(hD:D=2*H)(hH:0<H)(hq:0<q):wI (-q) D=-((q+H) / D):=by
 rw [<- wI_pos hD hH (by omega)];obtain⟨a,b⟩:=neg_div (a:=q) (D:=D) (by omega);have h2:=Int.emod_nonneg q (show D≠0 by omega);have h3:=Int.emod_lt_of_pos q (show 0<D by omega);unfold wI;rw [a,b];generalize q / D=Q at *;generalize q % D=r at *
 by_cases c:r=0
 ·subst c
  simp only [if_true]
  rw [if_neg (by omega),if_neg (by omega)];omega
 ·rw [if_neg c,if_neg c]
  by_cases d:H<=r
  ·rw [if_neg (by omega),if_pos (by omega)];omega
  ·rw [if_pos (by omega),if_neg (by omega)];omega
theorem fl_inj{i j:Int}(h:fl i=fl j):i=j:=by
 have h1:=fl_le_iff (i:=i) (j:=j);have h2:=fl_le_iff (i:=j) (j:=i);have:=h1.1 (by rw [h];exact Rat.le_refl);have:=h2.1 (by rw [h];exact Rat.le_refl)
 omega
theorem wh_of{w:Nat}(hw:1<=w){i j:Int}(h0:-(M:Int)<i)(h1:i<M)(h:fl j=(rK w (fl i):Rat)):wh w i=j:=fl_inj ((wh_fin hw h0 h1).1.trans h.symm)
theorem fl_half':fl 4602678819172646912=1/2:=by decide +kernel
theorem fl_one':fl 4607182418800017408=1:=by decide +kernel
theorem away_small{x:Rat}(h0:-(1/2:Rat)<x)(h1:x<1/2):rK 5 x=0:=by
 have a:=(le_rK (w:=5) (by omega) 0 x).2 (.inl (by show (0:Rat) - 1/2<x;grind));have b:=(rK_le (w:=5) (by omega) 0 x).2 (.inl (by show x<(0:Rat)+1/2;grind))
 omega
theorem away_one{x:Rat}(h0:(1/2:Rat)<=x)(h1:x<1):rK 5 x=1:=by
 have a:=(le_rK (w:=5) (by omega) 1 x).2 (by
  show ((1:Rat) - 1/2<x\/x=(1:Rat) - 1/2/\decide ((1:Int)<=0)=false)
  by_cases c:x=1/2
  ·exact .inr ⟨by grind,rfl⟩
  ·exact .inl (by grind))
 have b:=(rK_le (w:=5) (by omega) 1 x).2 (.inl (by show x<(1:Rat)+1/2;grind))
 omega
theorem away_mone{x:Rat}(h0:x<=-(1/2:Rat))(h1:-1<x):rK 5 x=-1:=by
 have a:=(le_rK (w:=5) (by omega) (-1) x).2 (.inl (by show ((-1:Int):Rat) - 1/2<x;have:((-1:Int):Rat)=-1:=rfl;grind))
 have b:=(rK_le (w:=5) (by omega) (-1) x).2 (by
  show (x<((-1:Int):Rat)+1/2\/x=((-1:Int):Rat)+1/2/\decide ((0:Int)<=-1)=false)
  have e:((-1:Int):Rat)=-1:=rfl
  by_cases c:x=-(1/2)
  ·exact .inr ⟨by grind,rfl⟩
  ·exact .inl (by grind))
 omega
theorem away_mid{t k q D H:Nat}(hk:t=k*2^52+q)(hq:2^52<=q)(hq2:q<2^53)(hD:D=2*H)(hH:0<H)(hDk:D*2^k=2^1074)(hd:D ∣ 2^52):
  fl (((t+H) / D*D:Nat):Int)=(((q+H) / D:Nat):Rat)/\fl (t:Int)*(D:Int)=((q:Int):Rat):=by
 obtain⟨U,hU⟩:∃ U:Nat,U=1074:=⟨_,rfl⟩
 rw [<- hU] at hDk;obtain⟨c,hc⟩:=hd
 have hD0:0<D:=by omega
 have e1:(t+H) / D*D=k*2^52+(q+H) / D*D:=by
  have:t+H=q+H+D*(k*c):=by rw [hk,hc,show D*(k*c)=k*(D*c) by ac_rfl];omega
  rw [this,Nat.add_mul_div_left _ _ hD0,Nat.add_mul,hc]
  have:k*c*D=k*(D*c):=by ac_rfl
  omega
 have q1:2^52<=(q+H) / D*D:=by
  rw [hc,Nat.mul_comm D c];refine Nat.mul_le_mul_right _ ?_;rw [Nat.le_div_iff_mul_le hD0,Nat.mul_comm,<- hc];omega
 have q2:(q+H) / D*D<=2^53:=by
  have h53:2^53=(2*c)*D:=by
   have:(2:Nat)^53=2*2^52:=by rw [<- Nat.pow_succ']
   rw [this,hc];ac_rfl
  rw [h53];refine Nat.mul_le_mul_right _ ?_
  have h4:(q+H) / D<2*c+1:=by
   rw [Nat.div_lt_iff_lt_mul hD0,Nat.add_mul,<- h53];omega
  omega
 have m1:=mag_form k ((q+H) / D*D) (.inr q1) q2;have m2:=mag_form k q (.inr hq) (by omega);rw [<- e1] at m1;rw [<- hk] at m2
 constructor
 ·have f:=fl_mul hU (((t+H) / D*D:Nat):Int);rw [val_nat,m1,Nat.mul_assoc,hDk] at f
  have f2:fl (((t+H) / D*D:Nat):Int)*P2 U=(((q+H) / D:Nat):Rat)*P2 U:=by
   unfold P2;rw [f]
   push_cast
   rfl
  exact P2_cancel f2
 ·have f:=fl_mul hU (t:Int);rw [val_nat,m2,<- hDk] at f
  have f2:(fl (t:Int)*(D:Int))*P2 k=((q:Int):Rat)*P2 k:=by
   unfold P2
   have:(((D*2^k:Nat):Int):Rat)=((D:Int):Rat)*(((2^k:Nat):Int):Rat):=by push_cast;rfl
   rw [this] at f
   have g:(((q*2^k:Nat):Int):Rat)=((q:Int):Rat)*(((2^k:Nat):Int):Rat):=by push_cast;rfl
   rw [g] at f
   grind
  exact P2_cancel f2
end
section
open Go.RowKit Ieee
attribute [local go_sem] run_frombits run_bitsof
theorem wrap_id{b P:Nat}(h:b+P<18446744073709551616):((b:Int)+(P:Int)) % 18446744073709551616=((b+P:Nat):Int):=by omega
def rW(b:Nat):Nat:=
 if rungOf b / 4503599627370496<1022 then b / 9223372036854775808*9223372036854775808
 else if rungOf b / 4503599627370496=1022 then b / 9223372036854775808*9223372036854775808+4607182418800017408
 else if rungOf b / 4503599627370496<1075 then (b+2^(1074 - rungOf b / 4503599627370496)) / 2^(1075 - rungOf b / 4503599627370496)*2^(1075 - rungOf b / 4503599627370496)
 else b
set_option maxRecDepth 8000 in
theorem round_walk(b:Nat)(w:World)(hb:b<18446744073709551616):
  Calls Tryz.prog 136 #[.float .f64 b] w fun e w'=>e=.returned (.float .f64 (rW b))/\w=w':=by
 obtain⟨e,he⟩:∃ e,rungOf b / 4503599627370496=e:=⟨_,rfl⟩
 have he2:b / 4503599627370496 % 2048=e:=by rw [<- he];unfold rungOf;omega
 unfold rW;rw [he];clear he
 have m2:bits .and .u64 ((b:Int) / 4503599627370496) 2047=(e:Int):=by
  have h:=mask11_u64 (x:=b / 4503599627370496) (by omega);rw [he2,show ((b / 4503599627370496:Nat):Int)=(b:Int) / 4503599627370496 from by omega] at h
  exact h
 obtain⟨S,hS⟩:∃ S,b / 9223372036854775808*9223372036854775808=S:=⟨_,rfl⟩
 have m3:bits .and .u64 (b:Int) 9223372036854775808=(S:Int):=by
  have h:=u64_and_nat b 9223372036854775808 hb (by omega);rw [show (9223372036854775808:Nat)=2^64 - 2^63 by decide,and_high (k:=63) hb (by omega),show (2:Nat)^63=9223372036854775808 by decide,hS] at h
  exact h
 have m4:bits .or .u64 (S:Int) 4607182418800017408=((S+4607182418800017408:Nat):Int):=by
  have h:=or_join (i:=63) (x:=b / 9223372036854775808) (y:=4607182418800017408) (by omega) (by omega) (by omega);rw [show (2:Nat)^63=9223372036854775808 by decide,hS] at h
  exact h
 have ff:=fun W=>run_bitsof b W;rw [hS]
 by_cases c1:e<1022
 ·rw [if_pos c1]
  have g0:(e:Int)<1023:=by omega
  have g1:((e:Int) == 1022)=false:=by simp;omega
  clear m4 hS he2 c1 hb
  go_enter Tryz.func136,Tryz.ntmps136
  go_wp2
  go_ret
  exact⟨rfl,rfl⟩
 by_cases c2:e=1022
 ·rw [if_neg c1,if_pos c2];subst c2
  obtain⟨V,hV⟩:∃ V,S+4607182418800017408=V:=⟨_,rfl⟩
  rw [hV] at m4 ⊢;have fr:=fun W=>run_frombits V W;clear hS he2 c1 hb hV
  go_enter Tryz.func136,Tryz.ntmps136
  go_wp2
  go_ret
  exact⟨rfl,rfl⟩
 have g0:¬ (e:Int)<1023:=by omega
 by_cases c3:e<1075
 ·rw [if_neg c1,if_neg c2,if_pos c3]
  have g1:(e:Int)<1075:=by omega
  obtain⟨j,hj⟩:∃ j,e - 1023=j:=⟨_,rfl⟩
  have hj2:j<=51:=by omega
  have s1:(2251799813685248:Int) / 2 ^ j=((2^(51 - j):Nat):Int):=by
   have:(2251799813685248:Nat) / 2^j=2^(51 - j):=by
    rw [show (2251799813685248:Nat)=2^51 by decide,Nat.pow_div (by omega) (by omega)]
   rw [<- this];simp
  have s2:(4503599627370495:Int) / 2 ^ j=((2^(52 - j) - 1:Nat):Int):=by
   have h52:2^52=2^j*2^(52 - j):=by rw [<- Nat.pow_add];congr 1;omega
   have hp:=Nat.two_pow_pos j;have hp2:=Nat.two_pow_pos (52 - j)
   have:(4503599627370495:Nat) / 2^j=2^(52 - j) - 1:=by
    have hd:(4503599627370495:Nat)=2^j*(2^(52 - j) - 1)+(2^j - 1):=by
     rw [Nat.mul_sub,Nat.mul_one,<- h52];have:2^j<=2^52:=Nat.pow_le_pow_right (by omega) (by omega)
     omega
    rw [hd,Nat.mul_add_div hp,Nat.div_eq_of_lt (by omega)];omega
   rw [<- this];simp
  obtain⟨r,hr⟩:∃ r,(b+2^(1074 - e)) / 2^(1075 - e)*2^(1075 - e)=r:=⟨_,rfl⟩
  have e51:51 - j=1074 - e:=by omega
  have e52:52 - j=1075 - e:=by omega
  have hle:2^(51 - j)<=2^51:=Nat.pow_le_pow_right (by omega) (by omega)
  have hlt:b+2^(51 - j)<18446744073709551616:=by
   have:b % 9223372036854775808<1075*4503599627370496:=by omega
   omega
  have hX:bits .andNot .u64 (IntKind.u64.wrap ((b:Int)+2251799813685248 / 2 ^ (e - 1023))) (4503599627370495 / 2 ^ (e - 1023))=(r:Int):=by
   rw [hj,s1,s2,IntKind.wrap_u64,wrap_id hlt];have hp2:=Nat.two_pow_pos (52 - j);have hp3:2^(52 - j)<=2^64:=Nat.pow_le_pow_right (by omega) (by omega);have h:=u64_andNot_nat (b+2^(51 - j)) (2^(52 - j) - 1) hlt (by omega);rw [show (18446744073709551615 - (2^(52 - j) - 1):Nat)=2^64 - 2^(52 - j) by omega,and_high hlt (by omega)] at h;rw [h,e51,e52,hr]
  rw [hr];clear hr s1 s2 hle hlt hj hj2 e51 e52 c1 c2 c3 m3 m4 hS hb he2
  go_enter Tryz.func136,Tryz.ntmps136
  go_wp2
  go_ret
  exact⟨rfl,rfl⟩
 ·rw [if_neg c1,if_neg c2,if_neg c3]
  have g1:¬ (e:Int)<1075:=by omega
  have fr:=fun W=>run_frombits b W;clear c1 c2 c3 m3 m4 hS hb he2
  go_enter Tryz.func136,Tryz.ntmps136
  go_wp2
  go_ret
  exact⟨rfl,rfl⟩
theorem is_parts{S t:Nat}(hS:S=0\/S=9223372036854775808)(ht:t<=M):Is (S+t) (if S=0 then (t:Int) else -(t:Int)):=by
 have hM:=M_val;have c:=pat_cases (b:=S+t) (by omega);refine⟨by omega,by unfold real;omega,?_⟩
 rcases hS with rfl | rfl
 ·rw [if_pos rfl];omega
 ·rw [if_neg (by omega)];omega
theorem fl_parts2(S t:Nat):fl (if S=0 then (t:Int) else -(t:Int))=if S=0 then fl (t:Int) else - fl (t:Int):=by split<;>simp [fl_neg]
theorem rung_sum{t n q:Nat}(he:t / 4503599627370496=n+1)(hq:q=4503599627370496+t % 4503599627370496):n*2^52+q=t:=by
 rw [show (2:Nat)^52=4503599627370496 by decide]
 omega
theorem rW_is{b:Nat}(hb:b<18446744073709551616)(h:real b):Is (rW b) (wh 5 (idx b)):=by
 have hM:=M_val;have hpc:=pat_cases hb
 obtain⟨t,ht⟩:∃ t,rungOf b=t:=⟨_,rfl⟩
 obtain⟨S,hS⟩:∃ S,b / 9223372036854775808*9223372036854775808=S:=⟨_,rfl⟩
 have htM:t<=M:=by rw [<- ht];exact h
 have hS2:S=0\/S=9223372036854775808:=by omega
 have hbS:b=S+t:=by omega
 have hi:idx b=if S=0 then (t:Int) else -(t:Int):=by split<;>omega
 unfold rW;rw [ht,hS,hi];clear hpc ht hi hb h
 have rng:t<M->-(M:Int)<(if S=0 then (t:Int) else -(t:Int))/\(if S=0 then (t:Int) else -(t:Int))<M:=fun h=>by split<;>omega
 have fin:∀ t2:Nat,t2<=M->t<M->fl (t2:Int)=(rK 5 (fl (t:Int)):Rat)->- fl (t2:Int)=(rK 5 (- fl (t:Int)):Rat)->Is (S+t2) (wh 5 (if S=0 then (t:Int) else -(t:Int))):=fun t2 h2 h1 a b=>by
  have e:=wh_of (w:=5) (by omega) (rng h1).1 (rng h1).2 (j:=if S=0 then (t2:Int) else -(t2:Int)) (by
   rw [fl_parts2,fl_parts2]
   split
   ·exact a
   ·exact b)
  rw [e]
  exact is_parts hS2 h2
 have f0:(0:Rat)<=fl (t:Int):=by rw [<- fl_zero];exact fl_le_iff.2 (by omega)
 by_cases c1:t / 4503599627370496<1022
 ·rw [if_pos c1]
  have f1:fl (t:Int)<1/2:=by rw [<- fl_half'];exact fl_lt_iff.2 (by omega)
  refine fin 0 (by omega) (by omega) ?_ ?_
  ·rw [away_small (by grind) f1];exact fl_zero
  ·rw [away_small (by grind) (by grind)];rw [show ((0:Nat):Int)=0 from rfl,fl_zero];grind
 by_cases c2:t / 4503599627370496=1022
 ·rw [if_neg c1,if_pos c2]
  have f1:(1/2:Rat)<=fl (t:Int):=by rw [<- fl_half'];exact fl_le_iff.2 (by omega)
  have f2:fl (t:Int)<1:=by rw [<- fl_one'];exact fl_lt_iff.2 (by omega)
  refine fin 4607182418800017408 (by omega) (by omega) ?_ ?_
  ·rw [away_one f1 f2];exact fl_one'
  ·rw [away_mone (by grind) (by grind)];exact congrArg Neg.neg fl_one'
 by_cases c3:t / 4503599627370496<1075
 ·rw [if_neg c1,if_neg c2,if_pos c3]
  obtain⟨e,he⟩:∃ e,t / 4503599627370496=e:=⟨_,rfl⟩
  rw [he] at c1 c2 c3 ⊢
  obtain⟨k,rfl⟩:∃ k,e=k+1:=⟨e - 1,by omega⟩
  obtain⟨H,hH⟩:∃ H,2^(1074 - (k+1))=H:=⟨_,rfl⟩
  obtain⟨D,hD⟩:∃ D,2^(1075 - (k+1))=D:=⟨_,rfl⟩
  have hH0:0<H:=by rw [<- hH];exact Nat.two_pow_pos _
  have hHl:H<=4503599627370496:=by
   rw [<- hH,show (4503599627370496:Nat)=2^52 by decide];exact Nat.pow_le_pow_right (by omega) (by omega)
  have hDH:D=2*H:=by rw [<- hH,<- hD,<- Nat.pow_succ'];congr 1;omega
  have hDk:D*2^k=2^1074:=by rw [<- hD,<- Nat.pow_add];congr 1;omega
  have hd52:D ∣ 2^52:=by rw [<- hD];exact Nat.pow_dvd_pow 2 (by omega)
  have hd63:D ∣ S:=by
   have:D ∣ 9223372036854775808:=by rw [<- hD,show (9223372036854775808:Nat)=2^63 by decide];exact Nat.pow_dvd_pow 2 (by omega)
   rcases hS2 with rfl | rfl
   ·exact Nat.dvd_zero D
   ·exact this
  rw [hH,hD]
  obtain⟨q,hq⟩:∃ q,q=4503599627370496+t % 4503599627370496:=⟨_,rfl⟩
  obtain⟨a1,a2⟩:=away_mid (t:=t) (k:=k) (q:=q) (by rw [show (2:Nat)^52=4503599627370496 by decide];omega) (by rw [show (2:Nat)^52=4503599627370496 by decide];omega) (by rw [show (2:Nat)^53=9007199254740992 by decide];omega) hDH hH0 hDk hd52
  have hD0:0<D:=by omega
  have er:(b+H) / D*D=S+(t+H) / D*D:=by
   obtain⟨c,hc⟩:=hd63;rw [hbS,hc,show D*c+t+H=t+H+D*c by omega,Nat.add_mul_div_left _ _ hD0,Nat.add_mul,Nat.mul_comm c D,Nat.add_comm]
  have hle:(t+H) / D*D<=t+H:=Nat.div_mul_le_self _ _
  have ei:(((q+H) / D:Nat):Int)=((q:Int)+(H:Int)) / (D:Int):=by push_cast;rfl
  have w1:=wI_rK (x:=fl (t:Int)) (a:=(q:Int)) (D:=(D:Int)) (by omega) a2;have w2:=wI_rK (x:=- fl (t:Int)) (a:=-(q:Int)) (D:=(D:Int)) (by omega) (by rw [Rat.intCast_neg,<- a2];grind);rw [wI_pos (H:=(H:Int)) (by omega) (by omega) (by omega),<- ei] at w1;rw [wI_neg (H:=(H:Int)) (by omega) (by omega) (by omega),<- ei] at w2;rw [er];refine fin _ (by omega) (by omega) ?_ ?_
  ·rw [a1,<- w1];rfl
  ·rw [a1,<- w2,Rat.intCast_neg];rfl
 ·rw [if_neg c1,if_neg c2,if_neg c3,hbS]
  by_cases hm:t=M
  ·subst hm
   have e:wh 5 (if S=0 then ((M:Nat):Int) else -((M:Nat):Int))=if S=0 then ((M:Nat):Int) else -((M:Nat):Int):=by
    split
    ·exact wh_max 5
    ·exact wh_min 5
   rw [e]
   exact is_parts hS2 htM
  ·obtain⟨e,he⟩:∃ e,t / 4503599627370496=e:=⟨_,rfl⟩
   rw [he] at c1 c2 c3
   obtain⟨U,hU⟩:∃ U:Nat,U=1074:=⟨_,rfl⟩
   obtain⟨k,hk⟩:∃ k,e=k+U+1:=⟨e - 1 - U,by omega⟩
   obtain⟨q,hq⟩:∃ q,q=4503599627370496+t % 4503599627370496:=⟨_,rfl⟩
   have hmag:=mag_form (k+U) q (.inr (by rw [show (2:Nat)^52=4503599627370496 by decide];omega)) (by rw [show (2:Nat)^53=9007199254740992 by decide];omega);rw [rung_sum (he.trans hk) hq] at hmag
   have hz:fl (t:Int)=(((q*2^k:Nat):Int):Rat):=by
    have f:=fl_mul hU (t:Int);rw [val_nat,hmag] at f
    have f2:fl (t:Int)*P2 U=(((q*2^k:Nat):Int):Rat)*P2 U:=by
     unfold P2;rw [f,<- Rat.intCast_mul,<- Int.natCast_mul,Nat.mul_assoc,<- Nat.pow_add]
    exact P2_cancel f2
   refine fin t htM (by omega) ?_ ?_
   ·rw [hz,rK_int (by omega)]
   ·rw [hz,<- Rat.intCast_neg,rK_int (by omega)]
theorem val_away(w:World):ValFn w 136 rW:=.inl ⟨enters_of Tryz.func136 (by kernel_rfl) rfl,fun i h0 h1 W _=>calls_below (round_walk (pat i) W (is_pat ⟨h0,h1⟩).lt)⟩
theorem rW_idx(i:Int)(h0:-(M:Int)<=i)(h1:i<=M):Is (rW (pat i)) (wh 5 i):=by
 have h:=rW_is (is_pat ⟨h0,h1⟩).lt (is_pat ⟨h0,h1⟩).real
 rwa [idx_pat h0 h1] at h
theorem awayrev_any(c1 c2 x y:Nat)(w:World)(hc1:c1<18446744073709551616)(hc2:c2<18446744073709551616)(hx:x<18446744073709551616)(hy:y<18446744073709551616):
  Rt 60 #[.agg #[.float .f64 c1,.float .f64 c2],.agg #[.float .f64 x,.float .f64 y]] (.agg #[.float .f64 (pat (stq 5 (rd c1 c2) (rd x y)).1),.float .f64 (pat (stq 5 (rd c1 c2) (rd x y)).2)]) w:=
 away_walk c1 c2 x y _ _ w fun W B0 B1 h0 h1=>step_idx _ _ _ _ _ _ _ _ _ c1 c2 x y W hc1 hc2 hx hy rW_idx (val_away W)
  ⟨enters_of Tryz.func197 (by kernel_rfl) rfl,enters_of Tryz.func194 (by kernel_rfl) rfl,ahead_fn 5 (b:=4602678819172646912) (by have:=M_val;omega) (fun A=>by rw [fl_half];rfl) h0,behind_fn 5 (b:=4602678819172646912) (by have:=M_val;omega) (fun A=>by rw [fl_half];rfl) h1⟩
end
def PN(b1 b2:Int)(s1:Int)(x1:Rat)(s2:Int)(x2:Rat)(i j:Int):Int × Int:=
 (-(PF (-b2) (-b1) s1 x1 s2 x2 (-j) (-i)).2,-(PF (-b2) (-b1) s1 x1 s2 x2 (-j) (-i)).1)
section
open Go.RowKit
def prL(i1 j1 i2 j2:Int):Int × Int:=
 if j1<i1\/j2<i2 then ((M:Int),-(M:Int)) else
 if (i1<0/\0<j1)/\¬ (i2<=0/\0<=j2) then (if j2<0 then PF i1 j1 (es i2) (ex i2) (es j2) (ex j2) (-(M:Int)) M else PN i1 j1 (es i2) (ex i2) (es j2) (ex j2) (-(M:Int)) M) else mlr i1 j1 i2 j2 (-(M:Int)) M
def prU(i1 j1 i2 j2:Int):Int × Int:=
 if j1<i1\/j2<i2 then ((M:Int),-(M:Int)) else
 if (i1<0/\0<j1)/\¬ (i2<=0/\0<=j2) then (if j2<0 then PN i1 j1 (es i2) (ex i2) (es j2) (ex j2) (-(M:Int)) M else PF i1 j1 (es i2) (ex i2) (es j2) (ex j2) (-(M:Int)) M) else ((M:Int),-(M:Int))
theorem rd_entire:rd 18442240474082181120 9218868437227405312=(-(M:Int),(M:Int)):=by
 have hM:=M_val;have h:=rd_pat (i:=-(M:Int)) (j:=M) (.inl (by omega))
 rwa [pat_max,pat_min] at h
theorem ne_entire:Ne (-(M:Int)) M:=by
 have hM:=M_val;unfold Ne;omega
theorem mulpair_any(b1 b2 c1 c2:Nat)(w:World)(hb1:b1<18446744073709551616)(hb2:b2<18446744073709551616)(hc1:c1<18446744073709551616)(hc2:c2<18446744073709551616):
  Rt 38 #[.agg #[.float .f64 b1,.float .f64 b2],.agg #[.float .f64 c1,.float .f64 c2]] (.tuple #[.agg #[.float .f64 (pat (prL (rd b1 b2).1 (rd b1 b2).2 (rd c1 c2).1 (rd c1 c2).2).1),.float .f64 (pat (prL (rd b1 b2).1 (rd b1 b2).2 (rd c1 c2).1 (rd c1 c2).2).2)],.agg #[.float .f64 (pat (prU (rd b1 b2).1 (rd b1 b2).2 (rd c1 c2).1 (rd c1 c2).2).1),.float .f64 (pat (prU (rd b1 b2).1 (rd b1 b2).2 (rd c1 c2).1 (rd c1 c2).2).2)]]) w:=by
 have hM:=M_val;have v1:=rd_iv b1 b2;have v2:=rd_iv c1 c2;have t1:=fun W=>readf b1 b2 W hb1 hb2;have t2:=fun W=>readf c1 c2 W hc1 hc2
 obtain⟨⟨i1,j1⟩,r1⟩:∃ z,rd b1 b2=z:=⟨_,rfl⟩
 obtain⟨⟨i2,j2⟩,r2⟩:∃ z,rd c1 c2=z:=⟨_,rfl⟩
 rw [r1] at v1 t1;rw [r2] at v2 t2;rw [r1,r2]
 dsimp only at *
 have m1:=em_idx v1;have m2:=em_idx v2;unfold prL prU
 by_cases hno:j1<i1\/j2<i2
 ·rw [if_pos hno,if_pos hno,pat_max,pat_min]
  exact mulpair_none _ _ _ _ _ _ _ _ _ _ w t1 m1 t2 m2 (by simpa using hno)
 ·rw [if_neg hno,if_neg hno];have n1:=ne_or v1 (by omega);have n2:=ne_or v2 (by omega);have hh:=fun W=>has_any i2 j2 W v2.lo v2.hi
  have hnn:(decide (j1<i1) || decide (j2<i2))=false:=by
   rw [decide_eq_false (by omega),decide_eq_false (by omega)];rfl
  have o1:=ord0 v1.lo;have o2:=ord0 v1.hi
  have hsp:(compare i1 0 == Ordering.lt && compare j1 0 == Ordering.gt && !decide (i2<=0/\0<=j2))=decide ((i1<0/\0<j1)/\¬ (i2<=0/\0<=j2)):=by
   have e1:(compare i1 0 == Ordering.lt)=decide (i1<0):=by
    by_cases h:i1<0
    ·rw [Int.compare_eq_lt.2 h,decide_eq_true h];rfl
    ·rw [decide_eq_false h,beq_eq_false_iff_ne];intro h';exact h (Int.compare_eq_lt.1 h')
   have e2:(compare j1 0 == Ordering.gt)=decide (0<j1):=by
    by_cases h:0<j1
    ·rw [Int.compare_eq_gt.2 h,decide_eq_true h];rfl
    ·rw [decide_eq_false h,beq_eq_false_iff_ne];intro h';exact h (Int.compare_eq_gt.1 h')
   rw [e1,e2]
   simp only [Bool.decide_and,decide_not]
  by_cases hs:(i1<0/\0<j1)/\¬ (i2<=0/\0<=j2)
  ·rw [decide_eq_true hs] at hsp;rw [if_pos hs,if_pos hs];have k:=numok_idx n2;have hq1:=fun W g1 A1 n1' k1 E1 g2 A2 n2' k2 E2 (e1:ExI W (es i2) g1 A1 n1' k1 E1 (ex i2)) (e2:ExI W (es j2) g2 A2 n2' k2 E2 (ex j2))=>positive_any (-j1) (-i1) (es i2) g1 A1 n1' k1 E1 (ex i2) (es j2) g2 A2 n2' k2 E2 (ex j2) (-(M:Int)) M W n1.neg.iv.lo n1.neg.iv.hi ne_entire.iv.lo ne_entire.iv.hi e1 e2;have hq2:=fun W g1 A1 n1' k1 E1 g2 A2 n2' k2 E2 (e1:ExI W (es i2) g1 A1 n1' k1 E1 (ex i2)) (e2:ExI W (es j2) g2 A2 n2' k2 E2 (ex j2))=>positive_any i1 j1 (es i2) g1 A1 n1' k1 E1 (ex i2) (es j2) g2 A2 n2' k2 E2 (ex j2) (-(M:Int)) M W n1.iv.lo n1.iv.hi ne_entire.iv.lo ne_entire.iv.hi e1 e2;rw [po_PF k n1.neg ne_entire,pat_max,pat_min] at hq1;rw [po_PF k n1 ne_entire,pat_max,pat_min] at hq2
   have ePN:PN i1 j1 (es i2) (ex i2) (es j2) (ex j2) (-(M:Int)) M=(-(PF (-j1) (-i1) (es i2) (ex i2) (es j2) (ex j2) (-(M:Int)) M).2,-(PF (-j1) (-i1) (es i2) (ex i2) (es j2) (ex j2) (-(M:Int)) M).1):=by
    unfold PN;rw [Int.neg_neg]
   have hm2:=fun W=>mirror_idx _ _ W (PF_iv k n1.neg (-(M:Int)) M ne_entire.iv);refine mulpair_split _ _ _ _ (pat i1) (pat j1) (pat i2) (pat j2) (pat (-j1)) (pat (-i1)) _ _ _ _ _ _ _ _ _ _ _ _ _ _ _ _ _ _ _ _ true w t1 m1 t2 m2 hnn o1 o2 hh hsp (ord0 v2.hi) ?_ (fun W=>point_gen i2 W v2.lo) (fun W=>point_gen j2 W v2.hi) (fun W=>mirror_idx i1 j1 W v1) hq1 hm2 hq2;rw [ePN]
   by_cases h:j2<0
   ·rw [if_pos h,if_pos h]
    exact .inl ⟨Int.compare_eq_lt.2 h,rfl,rfl,rfl,rfl⟩
   ·rw [if_neg h,if_neg h];refine .inr ⟨?_,rfl,rfl,rfl,rfl⟩
    by_cases h':j2=0
    ·exact .inl (Int.compare_eq_eq.2 h')
    ·exact .inr (Int.compare_eq_gt.2 (by omega))
  ·rw [decide_eq_false hs] at hsp;rw [if_neg hs,if_neg hs,pat_max,pat_min];refine mulpair_one _ _ _ _ (pat i1) (pat j1) (pat i2) (pat j2) _ _ _ _ _ _ _ true w t1 m1 t2 m2 hnn o1 o2 hh hsp fun W=>?_;have h:=mulrev_any (pat i1) (pat j1) (pat i2) (pat j2) 18442240474082181120 9218868437227405312 W (pat_lt v1.lo.1 v1.lo.2) (pat_lt v1.hi.1 v1.hi.2) (pat_lt v2.lo.1 v2.lo.2) (pat_lt v2.hi.1 v2.hi.2) (by omega) (by omega);rw [rd_pat v1,rd_pat v2,rd_entire] at h
   exact h
end
section
open Go.RowKit
attribute [local go_sem] run_store_float run_eqf
theorem read_two(x0 y0 x1 y1 p0 q0 p1 q1 g0 g1 gl cap:Nat)(a0 a1:Bool)(w:World)(n01:g1=g0+1)(l0:g0+2<=gl)(l1:gl≠g1)
  (hc0:w.cell? ⟨gl,0,none⟩=some (.pointer (some ⟨g0,0,none⟩)))(hc1:w.cell? ⟨gl,1,none⟩=some (.pointer (some ⟨g1,0,none⟩)))
  (b0:Bx w g0 x0 y0)(b1:Bx w g1 x1 y1)
  (h0:∀ W,Rt 102 #[.agg #[.float .f64 x0,.float .f64 y0]] (.agg #[.float .f64 p0,.float .f64 q0]) W)
  (h1:∀ W,Rt 102 #[.agg #[.float .f64 x1,.float .f64 y1]] (.agg #[.float .f64 p1,.float .f64 q1]) W)
  (e0:Em a0 p0 q0)(e1:Em a1 p1 q1):
  Calls Tryz.prog 75 #[.slice (some ⟨gl,0,none⟩) 2 cap] w fun e w'=>e=.returned (.bool (a0 || a1))/\Bx w' g0 p0 q0/\Bx w' g1 p1 q1/\Kp g0 g1 g1 w w':=by
 subst n01
 have h:=read_n g0 2 gl cap (fun k:Nat=>if k=0 then (x0,y0) else (x1,y1)) (fun k:Nat=>if k=0 then (p0,q0) else (p1,q1)) (fun k:Nat=>if k=0 then a0 else a1) w (by omega) l0
  (fun k hk=>by match k,hk with | 0,_=>exact hc0 | 1,_=>exact hc1) (fun k hk=>by match k,hk with | 0,_=>exact b0 | 1,_=>exact b1) (fun k hk=>by match k,hk with | 0,_=>exact h0 | 1,_=>exact h1) (fun k hk=>by match k,hk with | 0,_=>exact e0 | 1,_=>exact e1)
 refine h.mono ?_;rintro e w' ⟨rfl,hd,kp⟩
 exact⟨by simp [anyB],hd 0 (by omega),hd 1 (by omega),kp.os,kp.tape,kp.output,kp.size,fun k hk u v x=>kp.block k hk (by omega)⟩
end
end Go.Proofs.YthlmlmfebpjgdaaGreatDoor
