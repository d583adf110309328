/-
Plain: the model's floats made whole, by indexes.
Walks: math.Floor, Ceil, Trunc, RoundToEven.
Plain: intervals of indexes that are not empty.
package rev, step, by indexes.
package rev, FloorRev, CeilRev, TruncRev, RoundEvenRev, SignRev, by indexes.
package rev, SignRev, by indexes.
Plain: the reverse of the sign by indexes is what Within makes of its piece.
package vergeref10, StepRev, by indexes.
-/
import Derived.Test.YtfcpabgampebaaaGreatM11
import Derived.Laws.Externs
import Derived.Test.YtfcpabgampebaaaGreatM04
import Derived.Test.YtfcpabgampebaaaGreatM27
import Derived.Test.YtfcpabgampebaaaGreatPIntsT
import Derived.Test.YtfcpabgampebaaaGreatM26
import Derived.Test.YtfcpabgampebaaaGreatM17
import Derived.Shelf.Abstract
import Derived.Test.YtfcpabgampebaaaGreatM16
set_option linter.unusedSimpArgs false
set_option linter.unusedVariables false
set_option maxHeartbeats 12800000
namespace Go.Proofs.YtfcpabgampebaaaGreat
open Ieee
def P2(d:Nat):Rat:=(((2^d:Nat):Int):Rat)
theorem P2_add(a b:Nat):P2 (a+b)=P2 a*P2 b:=by
 unfold P2;rw [Nat.pow_add,Int.natCast_mul,Rat.intCast_mul]
theorem P2_ne(a:Nat):P2 a≠0:=by
 intro h;have h':((2^a:Nat):Int)=0:=Rat.intCast_inj.1 (by unfold P2 at h;rw [h];rfl);have:=Nat.two_pow_pos a
 omega
theorem P2_cancel{x y:Rat}{a:Nat}(h:x*P2 a=y*P2 a):x=y:=by
 have k:(x - y)*P2 a=0:=by grind
 rcases Rat.mul_eq_zero.1 k with k | k
 ·grind
 ·exact absurd k (P2_ne a)
theorem signed_cast(s:Bool)(n:Nat)(d:Nat):(((if s=true then -((n*2^d:Nat):Int) else ((n*2^d:Nat):Int)):Int):Rat)=((if s=true then -(n:Int) else (n:Int):Int):Rat)*P2 d:=by
 unfold P2;rw [← Rat.intCast_mul]
 congr 1
 cases s
 ·simp
 ·simp [Int.neg_mul]
theorem whole_word(way:Toward){b:Nat}(h:real b):Is (double.write ((double.read b).integral way)) (wh (kW way) (idx b)):=by
 have hM:=M_val;have hi:=idx_natAbs b
 rcases Nat.lt_or_ge (rungOf b) M with hf | hf
 ·obtain⟨m,k,e,hm,-,-⟩:=read_fin (b:=b) hf
  obtain⟨U,hU⟩:∃ U:Nat,U=1074:=⟨_,rfl⟩
  have i0:-(M:Int)<idx b:=by omega
  have i1:idx b<M:=by omega
  obtain⟨j1,j2,j3⟩:=wh_fin (w:=kW way) (by cases way<;>decide) i0 i1;rw [e]
  have e2:(0:Int)=-1074+((U:Nat):Int):=by omega
  obtain⟨d,hd⟩:∃ d:Nat,d=(-(-1074+(k:Int))).toNat:=⟨_,rfl⟩
  obtain⟨A,hA⟩:∃ A:Nat,A=(-1074+(k:Int)).toNat:=⟨_,rfl⟩
  have hAd:A+U=k+d:=by omega
  obtain⟨c,hc⟩:∃ c:Nat,c=way.cut (sgn b) (m <<< A) d:=⟨_,rfl⟩
  have goal_eq:double.write ((Datum.number (sgn b) m (-1074+(k:Int))).integral way)=double.nearest (sgn b) c (-1074+((U:Nat):Int)):=by
   rw [hc,hA,hd,← e2];rfl
  rw [goal_eq,nearest_high]
  have hv:(val (idx b):Rat)=((if sgn b=true then -(m:Int) else (m:Int):Int):Rat)*P2 k:=by
   rw [← read_val hm,signed_eq,signed_cast]
  have key:(if sgn b=true then -(c:Int) else (c:Int))=rK (kW way) (fl (idx b)):=by
   rw [hc,cut_gI];refine gI_rK way (by have:=Nat.two_pow_pos d;omega) ?_;have f1:fl (idx b)*P2 U=(val (idx b):Rat):=fl_mul hU (idx b)
   have f2:fl (idx b)*P2 d*P2 U=((if sgn b=true then -(m:Int) else (m:Int):Int):Rat)*P2 A*P2 U:=by
    rw [Rat.mul_assoc _ (P2 A),← P2_add,hAd,P2_add];rw [hv] at f1
    grind
   have f3:=P2_cancel f2;rw [← signed_cast] at f3;rw [Nat.shiftLeft_eq]
   exact f3
  have hw:val (wh (kW way) (idx b))=(if sgn b=true then -((c*2^U:Nat):Int) else ((c*2^U:Nat):Int)):=by
   have f1:fl (wh (kW way) (idx b))*P2 U=(val (wh (kW way) (idx b)):Rat):=fl_mul hU _;rw [j1,← key,← signed_cast] at f1
   exact (Rat.intCast_inj.1 f1).symm
  have hn:=Is.near (s:=sgn b) (n:=val (wh (kW way) (idx b))) (d:=0) (by
   intro h0;rw [hw] at h0 ⊢;generalize c*2^U=t at h0 ⊢
   cases sgn b
   ·simp only [Bool.false_eq_true,if_false] at h0 ⊢
    rw [decide_eq_false (by omega)]
   ·simp only [if_true] at h0 ⊢
    rw [decide_eq_true (by omega)])
  rw [near_val_zero (by omega) (by omega)] at hn
  have e3:(val (wh (kW way) (idx b))).natAbs=c*2^U:=by
   rw [hw];generalize c*2^U=t
   cases sgn b<;>simp
  rw [e3] at hn
  exact hn
 ·have e:rungOf b=M:=by unfold real at h;omega
  rw [read_inf e]
  show Is (double.word (sgn b) double.infRung) _
  rw [infRung_eq];have k:=Is.word (sgn b) (r:=M) (Nat.le_refl _)
  have e4:wh (kW way) (idx b)=if sgn b=true then -(M:Int) else (M:Int):=by
   unfold idx;rw [e]
   cases sgn b
   ·exact wh_max _
   ·exact wh_min _
  rw [e4];exact k
end Go.Proofs.YtfcpabgampebaaaGreat
namespace Go.Proofs.YtfcpabgampebaaaGreat
open Go.RowKit Ieee
theorem run_integral(name:String)(way:Toward){b:Nat}(h:real b)(P:Program)(w:World):
  (Extern.MathFloor.toIntegral name way #[.float .f64 b]).run P w=.ok (.float .f64 (double.write ((double.read b).integral way))) w:=by
 have hn:∀ s t,FloatKind.f64.decode b≠.nan s t:=by
  intro s t he
  rcases Nat.lt_or_ge (rungOf b) M with hf | hf
  ·obtain⟨m,k,e,-⟩:=read_fin (b:=b) hf
   cases e.symm.trans he
  ·have e0:rungOf b=M:=by unfold real at h;omega
   cases (read_inf e0).symm.trans he
 delta Extern.MathFloor.toIntegral
 rw [show double.write ((double.read b).integral way)=FloatKind.f64.encode ((FloatKind.f64.decode b).integral way) from rfl]
 conv=>lhs;arg 2;whnf
 generalize FloatKind.f64.decode b=d at hn
 cases d with
 | nan s t=>exact absurd rfl (hn s t)
 | number s m i=>rfl
 | infinity s=>rfl
def nmFloor: String := "math.archFloor"
def nmCeil: String := "math.archCeil"
def nmTrunc: String := "math.archTrunc"
def nmEven: String := "math.RoundToEven"
theorem run_arch(b:Nat)(h:real b)(w:World):
  (callFunc 61 #[.float .f64 b]).run Tryz.prog w=.ok (.value (.float .f64 (double.write ((double.read b).integral .down)))) w ∧
  (callFunc 65 #[.float .f64 b]).run Tryz.prog w=.ok (.value (.float .f64 (double.write ((double.read b).integral .up)))) w ∧
  (callFunc 69 #[.float .f64 b]).run Tryz.prog w=.ok (.value (.float .f64 (double.write ((double.read b).integral .zero)))) w ∧
  (callFunc 40 #[.float .f64 b]).run Tryz.prog w=.ok (.value (.float .f64 (double.write ((double.read b).integral .even)))) w:=by
 refine⟨?_,?_,?_,?_⟩
 ·rw [run_callFunc_extern (e:=Extern.MathFloor.toIntegral nmFloor .down) Tryz.func61 (by kernel_rfl) (by kernel_rfl) (by kernel_rfl) (by kernel_rfl),run_integral _ _ h]
  rfl
 ·rw [run_callFunc_extern (e:=Extern.MathFloor.toIntegral nmCeil .up) Tryz.func65 (by kernel_rfl) (by kernel_rfl) (by kernel_rfl) (by kernel_rfl),run_integral _ _ h]
  rfl
 ·rw [run_callFunc_extern (e:=Extern.MathFloor.toIntegral nmTrunc .zero) Tryz.func69 (by kernel_rfl) (by kernel_rfl) (by kernel_rfl) (by kernel_rfl),run_integral _ _ h]
  rfl
 ·rw [run_callFunc_extern (e:=Extern.MathFloor.toIntegral nmEven .even) Tryz.func40 (by kernel_rfl) (by kernel_rfl) (by kernel_rfl) (by kernel_rfl),run_integral _ _ h]
  rfl
def wW(way:Toward)(b:Nat):Nat:=double.write ((double.read b).integral way)
theorem wW_is(way:Toward){b:Nat}(h:real b):Is (wW way b) (wh (kW way) (idx b)):=whole_word way h
theorem floor_any(b:Nat)(w:World)(h:real b):Calls Tryz.prog 32 #[.float .f64 b] w fun e w'=>e=.returned (.float .f64 (wW .down b))∧w=w':=by
 have hf:=fun W=>(run_arch b h W).1;unfold wW;generalize double.write ((double.read b).integral .down)=r at hf ⊢;clear h
 go_enter Tryz.func32,Tryz.ntmps32
 go_wp2
 go_ret
 exact⟨rfl,rfl⟩
theorem ceil_any(b:Nat)(w:World)(h:real b):Calls Tryz.prog 35 #[.float .f64 b] w fun e w'=>e=.returned (.float .f64 (wW .up b))∧w=w':=by
 have hf:=fun W=>(run_arch b h W).2.1;unfold wW;generalize double.write ((double.read b).integral .up)=r at hf ⊢;clear h
 go_enter Tryz.func35,Tryz.ntmps35
 go_wp2
 go_ret
 exact⟨rfl,rfl⟩
theorem trunc_any(b:Nat)(w:World)(h:real b):Calls Tryz.prog 39 #[.float .f64 b] w fun e w'=>e=.returned (.float .f64 (wW .zero b))∧w=w':=by
 have hf:=fun W=>(run_arch b h W).2.2.1;unfold wW;generalize double.write ((double.read b).integral .zero)=r at hf ⊢;clear h
 go_enter Tryz.func39,Tryz.ntmps39
 go_wp2
 go_ret
 exact⟨rfl,rfl⟩
end Go.Proofs.YtfcpabgampebaaaGreat
namespace Go.Proofs.YtfcpabgampebaaaGreat
def Ne(i j:Int):Prop:=-(M:Int)≤i∧i≤j∧j≤M∧i<M∧-(M:Int)<j
theorem Ne.iv{i j:Int}(h:Ne i j):Iv i j:=.inl h
theorem Ne.neg{i j:Int}(h:Ne i j):Ne (-j) (-i):=by unfold Ne at *;omega
theorem ne_or{i j:Int}(h:Iv i j)(h2:¬ j<i):Ne i j:=by
 rcases h with h | ⟨rfl,rfl⟩
 ·exact h
 ·have hM:(M:Int)=9218868437227405312:=rfl
  omega
end Go.Proofs.YtfcpabgampebaaaGreat
namespace Go.Proofs.YtfcpabgampebaaaGreat
open Go.RowKit
theorem order_is{a b:Nat}{i j:Int}(ha:Is a i)(hb:Is b j):FloatKind.f64.format.order a b=some (compare i j):=by
 have h:=order_real ha.real hb.real;rw [ha.idx,hb.idx] at h
 exact h
theorem is_pat{i:Int}(h:-(M:Int)≤i∧i≤M):Is (pat i) i:=⟨pat_lt h.1 h.2,by unfold real;rw [rung_pat h.1 h.2];omega,idx_pat h.1 h.2⟩
theorem gt_false{a b:Nat}{i j:Int}(ha:Is a i)(hb:Is b j)(h:¬ j<i):(FloatKind.f64.format.order a b == some Ordering.gt)=false:=by
 rw [order_is ha hb]
 rcases Int.lt_or_eq_of_le (show i≤j by omega) with k | k
 ·rw [Int.compare_eq_lt.2 k];rfl
 ·rw [Int.compare_eq_eq.2 k];rfl
theorem lt_false{a b:Nat}{i j:Int}(ha:Is a i)(hb:Is b j)(h:¬ i<j):(FloatKind.f64.format.order a b == some Ordering.lt)=false:=by
 rw [order_is ha hb]
 rcases Int.lt_or_eq_of_le (show j≤i by omega) with k | k
 ·rw [Int.compare_eq_gt.2 k];rfl
 ·rw [Int.compare_eq_eq.2 k.symm];rfl
theorem gt_true{a b:Nat}{i j:Int}(ha:Is a i)(hb:Is b j)(h:j<i):FloatKind.f64.format.order a b=some .gt:=by rw [order_is ha hb,Int.compare_eq_gt.2 h]
theorem lt_true{a b:Nat}{i j:Int}(ha:Is a i)(hb:Is b j)(h:i<j):FloatKind.f64.format.order a b=some .lt:=by rw [order_is ha hb,Int.compare_eq_lt.2 h]
structure StepFn (w:World) (kF kT:FuncId) (cF cT:Array Value) (F T:Int→Int):Prop where
 eF:∀ (args:Array Value) (W:World),(callFunc kF args).run Tryz.prog W=.ok (.enter kF args) W
 eT:∀ (args:Array Value) (W:World),(callFunc kT args).run Tryz.prog W=.ok (.enter kT args) W
 hF:∀ i,-(M:Int)≤i→i<M→(-(M:Int)≤F (wh 2 i)∧F (wh 2 i)≤M)∧∀ W,Below w.heap.size w W→Calls Tryz.prog kF (#[.float .f64 (pat (wh 2 i))] ++ cF) W fun e w'=>e=.returned (.float .f64 (pat (F (wh 2 i))))∧Below W.heap.size W w'
 hT:∀ i,-(M:Int)<i→i≤M→(-(M:Int)≤T (wh 1 i)∧T (wh 1 i)≤M)∧∀ W,Below w.heap.size w W→Calls Tryz.prog kT (#[.float .f64 (pat (wh 1 i))] ++ cT) W fun e w'=>e=.returned (.float .f64 (pat (T (wh 1 i))))∧Below W.heap.size W w'
def ValFn(w:World)(kV:FuncId)(vw:Nat→Nat):Prop:=
 ((∀ (args:Array Value) (W:World),(callFunc kV args).run Tryz.prog W=.ok (.enter kV args) W)∧∀ i,-(M:Int)≤i→i≤M→∀ W,Below w.heap.size w W→Calls Tryz.prog kV #[.float .f64 (pat i)] W fun e w'=>e=.returned (.float .f64 (vw (pat i)))∧Below W.heap.size W w') ∨
 (∀ i,-(M:Int)≤i→i≤M→∀ W,(callFunc kV #[.float .f64 (pat i)]).run Tryz.prog W=.ok (.value (.float .f64 (vw (pat i)))) W)
theorem step_idx(kV kF kT:FuncId)(cF cT:Array Value)(vw:Nat→Nat)(V F T:Int→Int)(c1 c2 x y:Nat)(w:World)(hc1:c1<18446744073709551616)(hc2:c2<18446744073709551616)(hx:x<18446744073709551616)(hy:y<18446744073709551616)
  (hI:∀ i,-(M:Int)≤i→i≤M→Is (vw (pat i)) (V i))(hV:ValFn w kV vw)(hS:StepFn w kF kT cF cT F T):
  Calls Tryz.prog 19 #[.agg #[.float .f64 c1,.float .f64 c2],.agg #[.float .f64 x,.float .f64 y],.func (.func kV) #[] #[],.func (.func kF) #[] cF,.func (.func kT) #[] cT] w fun e w'=>
   e=.returned (.agg #[.float .f64 (pat (stp V F T (rd c1 c2) (rd x y)).1),.float .f64 (pat (stp V F T (rd c1 c2) (rd x y)).2)])∧Below w.heap.size w w':=by
 have hM:(M:Int)=9218868437227405312:=rfl;have v2:=rd_iv c1 c2;have v3:=rd_iv x y;have t2:=fun W=>readf c1 c2 W hc1 hc2;have t3:=fun W=>readf x y W hx hy
 obtain⟨⟨i2,j2⟩,r2⟩:∃ z,rd c1 c2=z:=⟨_,rfl⟩
 obtain⟨⟨i3,j3⟩,r3⟩:∃ z,rd x y=z:=⟨_,rfl⟩
 rw [r2] at v2 t2;rw [r3] at v3 t3;rw [r2,r3]
 dsimp only at *
 have m2:=em_idx v2;have m3:=em_idx v3;unfold stp
 dsimp only
 by_cases hno:j2<i2∨j3<i3
 ·rw [if_pos hno,pat_max,pat_min]
  exact step_none kV kF kT cF cT _ _ _ _ _ _ _ _ _ _ w t2 m2 t3 m3 (by simp;omega)
 have hnn:(decide (j2<i2) || decide (j3<i3))=false:=by simp;omega
 have k2:=ne_or v2 (by omega);have k3:=ne_or v3 (by omega);unfold Ne at k2 k3;rw [if_neg hno];have up:=wW_is .up (b:=pat i2) (is_pat ⟨k2.1,by omega⟩).real;have dw:=wW_is .down (b:=pat j2) (is_pat ⟨by omega,k2.2.2.1⟩).real;rw [idx_pat k2.1 (by omega),show kW .up=2 from rfl] at up;rw [idx_pat (by omega) k2.2.2.1,show kW .down=1 from rfl] at dw
 have hc:∀ W,Calls Tryz.prog 35 #[.float .f64 (pat i2)] W fun e w'=>e=.returned (.float .f64 (wW .up (pat i2)))∧Below W.heap.size W w':=fun W=>(ceil_any (pat i2) W (is_pat ⟨k2.1,by omega⟩).real).mono fun _ _ ⟨a,b⟩=>⟨a,b ▸ Below.refl _ _⟩
 have hf:∀ W,Calls Tryz.prog 32 #[.float .f64 (pat j2)] W fun e w'=>e=.returned (.float .f64 (wW .down (pat j2)))∧Below W.heap.size W w':=fun W=>(floor_any (pat j2) W (is_pat ⟨by omega,k2.2.2.1⟩).real).mono fun _ _ ⟨a,b⟩=>⟨a,b ▸ Below.refl _ _⟩
 have hp1:∀ W,Calls Tryz.prog 44 #[.float .f64 (wW .up (pat i2))] W fun e w'=>e=.returned (.float .f64 (pat (wh 2 i2)))∧Below W.heap.size W w':=fun W=>(fplainf _ W up.lt up.real).mono fun _ _ ⟨a,b⟩=>⟨by rw [a,up.idx],b ▸ Below.refl _ _⟩
 have hp2:∀ W,Calls Tryz.prog 44 #[.float .f64 (wW .down (pat j2))] W fun e w'=>e=.returned (.float .f64 (pat (wh 1 j2)))∧Below W.heap.size W w':=fun W=>(fplainf _ W dw.lt dw.real).mono fun _ _ ⟨a,b⟩=>⟨by rw [a,dw.idx],b ▸ Below.refl _ _⟩
 have rA:=wh_rng (w:=2) (by omega) (i:=i2) (by omega);have rB:=wh_rng (w:=1) (by omega) (i:=j2) (by omega);obtain⟨rF,hF⟩:=hS.hF i2 k2.1 k2.2.2.2.1;obtain⟨rT,hT⟩:=hS.hT j2 k2.2.2.2.2 k2.2.2.1;have vi:=hI i3 k3.1 (by omega);have vj:=hI j3 (by omega) k3.2.2.1;have hmx:=fun W ts t=>run_maxf (show -(M:Int)≤i3∧i3≤M by omega) rF W ts t;have hmn:=fun W ts t=>run_minf (show -(M:Int)≤j3∧j3≤M by omega) rT W ts t;have pA:=is_pat (i:=wh 2 i2) ⟨rA.1,rA.2.1⟩;have pB:=is_pat (i:=wh 1 j2) ⟨rB.1,rB.2.1⟩
 by_cases h1:wh 1 j2<wh 2 i2
 ·rw [if_pos (.inl h1),pat_max,pat_min]
  exact step_far kV kF kT cF cT _ _ _ _ _ _ _ _ _ _ _ _ _ _ w t2 m2 t3 m3 hnn hc hp1 hf hp2 (gt_true pA pB h1)
 have o1:=gt_false pA pB h1
 by_cases h2:wh 1 j2<V i3
 ·rw [if_pos (.inr (.inl h2)),pat_max,pat_min]
  rcases hV with ⟨eV,hV⟩ | hV
  ·exact step_low kV kF kT cF cT eV _ _ _ _ _ _ _ _ _ _ _ _ _ _ w t2 m2 t3 m3 hnn hc hp1 hf hp2 _ o1 (hV i3 k3.1 (by omega)) (gt_true vi pB h2)
  ·exact step_lowx kV kF kT cF cT _ _ _ _ _ _ _ _ _ _ _ _ _ _ w t2 m2 t3 m3 hnn hc hp1 hf hp2 _ o1 (hV i3 k3.1 (by omega)) (gt_true vi pB h2)
 have o2:=gt_false vi pB h2
 by_cases h3:V j3<wh 2 i2
 ·rw [if_pos (.inr (.inr h3)),pat_max,pat_min]
  rcases hV with ⟨eV,hV⟩ | hV
  ·exact step_high kV kF kT cF cT eV _ _ _ _ _ _ _ _ _ _ _ _ _ _ w t2 m2 t3 m3 hnn hc hp1 hf hp2 _ _ o1 (hV i3 k3.1 (by omega)) o2 (hV j3 (by omega) k3.2.2.1) (lt_true vj pA h3)
  ·exact step_highx kV kF kT cF cT _ _ _ _ _ _ _ _ _ _ _ _ _ _ w t2 m2 t3 m3 hnn hc hp1 hf hp2 _ _ o1 (hV i3 k3.1 (by omega)) o2 (hV j3 (by omega) k3.2.2.1) (lt_true vj pA h3)
 have o3:=lt_false vj pA h3;rw [if_neg (by rintro (h | h | h);exact h1 h;exact h2 h;exact h3 h)]
 rcases hV with ⟨eV,hV⟩ | hV
 ·exact step_some kV kF kT cF cT eV hS.eF hS.eT _ _ _ _ _ _ _ _ _ _ _ _ _ _ w t2 m2 t3 m3 hnn hc hp1 hf hp2 _ _ _ _ _ _ o1 (hV i3 k3.1 (by omega)) o2 (hV j3 (by omega) k3.2.2.1) o3 hF hT hmx hmn
 ·exact step_somex kV kF kT cF cT hS.eF hS.eT _ _ _ _ _ _ _ _ _ _ _ _ _ _ w t2 m2 t3 m3 hnn hc hp1 hf hp2 _ _ _ _ _ _ o1 (hV i3 k3.1 (by omega)) o2 (hV j3 (by omega) k3.2.2.1) o3 hF hT hmx hmn
theorem fl_one:fl 4607182418800017408=1:=by decide +kernel
theorem fl_half:fl 4602678819172646912=1/2:=by decide +kernel
theorem pat_one:pat 4607182418800017408=4607182418800017408:=rfl
theorem pat_mone:pat (-4607182418800017408)=13830554455654793216:=rfl
theorem ahead_eq(w:Nat){b i:Int}(hb:-(M:Int)<b∧b<M)(hL:∀ A:Int,bL w A=A - fl b)(h0:-(M:Int)≤i)(h1:i<M):ad (-1) (wh 2 i) (-b)=FL w (wh 2 i):=by
 have hM:=M_val
 rcases FLc w h0 h1 with ⟨k,h⟩ | ⟨k1,k2,k3,h⟩
 ·rw [h,k];unfold ad;rw [if_pos (.inr rfl)]
 ·rw [h];unfold ad;rw [if_neg (by omega),if_neg (by omega),k1,fl_neg,hL,Rat.sub_eq_add_neg]
theorem behind_eq(w:Nat){b i:Int}(hb:-(M:Int)<b∧b<M)(hU:∀ A:Int,bU w A=A+fl b)(h0:-(M:Int)<i)(h1:i≤M):ad 1 (wh 1 i) b=TU w (wh 1 i):=by
 have hM:=M_val
 rcases TUc w h0 h1 with ⟨k,h⟩ | ⟨k1,k2,k3,h⟩
 ·rw [h,k];unfold ad;rw [if_pos (.inl rfl)]
 ·rw [h];unfold ad;rw [if_neg (by omega),if_neg (by omega),k1,hU]
theorem rsub_k{b i:Int}(w:Nat)(hb:-(M:Int)<b∧b<M)(hL:∀ A:Int,bL w A=A - fl b)(h0:-(M:Int)≤i)(h1:i<M)(W:World):
  Calls Tryz.prog 68 #[.int .i64 (-1),.float .f64 (pat (wh 2 i)),.float .f64 (pat b)] W fun e w'=>e=.returned (.float .f64 (pat (FL w (wh 2 i))))∧Below W.heap.size W w':=by
 have hM:=M_val;have r:=wh_rng (w:=2) (by omega) (i:=i) (by omega);have h:=rsub_pat (-1) (wh 2 i) b W (.inl rfl) (by omega) (by omega) (by unfold NoCl;omega);rw [ahead_eq w hb hL h0 h1] at h
 exact h
theorem radd_k{b i:Int}(w:Nat)(hb:-(M:Int)<b∧b<M)(hU:∀ A:Int,bU w A=A+fl b)(h0:-(M:Int)<i)(h1:i≤M)(W:World):
  Calls Tryz.prog 64 #[.int .i64 1,.float .f64 (pat (wh 1 i)),.float .f64 (pat b)] W fun e w'=>e=.returned (.float .f64 (pat (TU w (wh 1 i))))∧Below W.heap.size W w':=by
 have hM:=M_val;have r:=wh_rng (w:=1) (by omega) (i:=i) (by omega);have h:=radd_pat 1 (wh 1 i) b W (.inr rfl) (by omega) (by omega) (by unfold NoCl;omega);rw [behind_eq w hb hU h0 h1] at h
 exact h
theorem ahead_fn(w:Nat){b:Int}(hb:-(M:Int)<b∧b<M)(hL:∀ A:Int,bL w A=A - fl b){W0:World}{B:Nat}(hc:Cap W0 B (pat b)):
  ∀ i,-(M:Int)≤i→i<M→(-(M:Int)≤FL w (wh 2 i)∧FL w (wh 2 i)≤M)∧∀ W,Below W0.heap.size W0 W→Calls Tryz.prog 67 (#[.float .f64 (pat (wh 2 i))] ++ #[.pointer (some ⟨B,0,none⟩)]) W fun e w'=>e=.returned (.float .f64 (pat (FL w (wh 2 i))))∧Below W.heap.size W w':=
 fun _ h0 h1=>⟨FL_rng w h0 h1,fun W hW=>ahead1 _ _ _ B W (hc.below hW).1 (rsub_k w hb hL h0 h1)⟩
theorem behind_fn(w:Nat){b:Int}(hb:-(M:Int)<b∧b<M)(hU:∀ A:Int,bU w A=A+fl b){W0:World}{B:Nat}(hc:Cap W0 B (pat b)):
  ∀ i,-(M:Int)<i→i≤M→(-(M:Int)≤TU w (wh 1 i)∧TU w (wh 1 i)≤M)∧∀ W,Below W0.heap.size W0 W→Calls Tryz.prog 63 (#[.float .f64 (pat (wh 1 i))] ++ #[.pointer (some ⟨B,0,none⟩)]) W fun e w'=>e=.returned (.float .f64 (pat (TU w (wh 1 i))))∧Below W.heap.size W w':=
 fun _ h0 h1=>⟨TU_rng w h0 h1,fun W hW=>behind1 _ _ _ B W (hc.below hW).1 (radd_k w hb hU h0 h1)⟩
theorem FL_one{i:Int}(h0:-(M:Int)≤i)(h1:i<M):FL 1 (wh 2 i)=wh 2 i:=by
 rcases FLc 1 h0 h1 with ⟨k,h⟩ | ⟨k1,k2,k3,h⟩
 ·rw [h,k]
 ·rw [h,show bL 1 (fl i).ceil=((fl i).ceil:Rat) from rfl,← k1,rndI_fl (.inl rfl) k2 k3]
theorem TU_two{i:Int}(h0:-(M:Int)<i)(h1:i≤M):TU 2 (wh 1 i)=wh 1 i:=by
 rcases TUc 2 h0 h1 with ⟨k,h⟩ | ⟨k1,k2,k3,h⟩
 ·rw [h,k]
 ·rw [h,show bU 2 (fl i).floor=((fl i).floor:Rat) from rfl,← k1,rndI_fl (.inr rfl) k2 k3]
theorem itself_low(W0:World):∀ i,-(M:Int)≤i→i<M→(-(M:Int)≤FL 1 (wh 2 i)∧FL 1 (wh 2 i)≤M)∧∀ W,Below W0.heap.size W0 W→Calls Tryz.prog 33 (#[.float .f64 (pat (wh 2 i))] ++ #[]) W fun e w'=>e=.returned (.float .f64 (pat (FL 1 (wh 2 i))))∧Below W.heap.size W w':=
 fun i h0 h1=>⟨FL_rng 1 h0 h1,fun W _=>by rw [FL_one h0 h1];exact itself_any _ W⟩
theorem itself_up(W0:World):∀ i,-(M:Int)<i→i≤M→(-(M:Int)≤TU 2 (wh 1 i)∧TU 2 (wh 1 i)≤M)∧∀ W,Below W0.heap.size W0 W→Calls Tryz.prog 33 (#[.float .f64 (pat (wh 1 i))] ++ #[]) W fun e w'=>e=.returned (.float .f64 (pat (TU 2 (wh 1 i))))∧Below W.heap.size W w':=
 fun i h0 h1=>⟨TU_rng 2 h0 h1,fun W _=>by rw [TU_two h0 h1];exact itself_any _ W⟩
theorem wh_sign{w:Nat}(hw:1≤w){i:Int}(h:-(M:Int)<i∧i<M){z:Int}(hz:fl (wh w i)=(z:Rat)):(0<wh w i↔0<z)∧(wh w i<0↔z<0):=by
 have e0:fl 0=((0:Int):Rat):=fl_zero
 constructor
 ·rw [← fl_lt_iff,e0,hz,Rat.intCast_lt_intCast]
 ·rw [← fl_lt_iff,e0,hz,Rat.intCast_lt_intCast]
theorem trunc_low(W0:World):∀ i,-(M:Int)≤i→i<M→(-(M:Int)≤FL 3 (wh 2 i)∧FL 3 (wh 2 i)≤M)∧∀ W,Below W0.heap.size W0 W→Calls Tryz.prog 37 (#[.float .f64 (pat (wh 2 i))] ++ #[]) W fun e w'=>e=.returned (.float .f64 (pat (FL 3 (wh 2 i))))∧Below W.heap.size W w':=by
 intro i h0 h1;have hM:=M_val;refine⟨FL_rng 3 h0 h1,fun W _=>?_⟩;have r:=wh_rng (w:=2) (by omega) (i:=i) (by omega);have i1:=is_pat (i:=wh 2 i) ⟨r.1,r.2.1⟩;have i0:=is_pat (i:=0) (by omega)
 by_cases c:0<wh 2 i
 ·have e:FL 3 (wh 2 i)=wh 2 i:=by
   rcases FLc 3 h0 h1 with ⟨k,h⟩ | ⟨k1,k2,k3,h⟩
   ·omega
   ·have hz:=(wh_sign (w:=2) (by omega) (i:=i) (by
     refine⟨?_,h1⟩
     rcases Int.lt_or_eq_of_le h0 with q | q
     ·exact q
     ·rw [← q,wh_min] at k2;omega) k1).1.1 c
    rw [h,show bL 3 (fl i).ceil=if 0<(fl i).ceil then ((fl i).ceil:Rat) else (fl i).ceil - 1 from rfl,if_pos hz,← k1,rndI_fl (.inl rfl) k2 k3]
  rw [e]
  exact truncfrom_pos _ W (gt_true i1 i0 c)
 ·have e:∀ W,Calls Tryz.prog 68 #[.int .i64 (-1),.float .f64 (pat (wh 2 i)),.float .f64 4607182418800017408] W fun e w'=>e=.returned (.float .f64 (pat (FL 3 (wh 2 i))))∧Below W.heap.size W w':=by
   intro W
   have e2:FL 3 (wh 2 i)=FL 2 (wh 2 i):=by
    rcases FLc 3 h0 h1 with ⟨k,h⟩ | ⟨k1,k2,k3,h⟩
    ·rcases FLc 2 h0 h1 with ⟨k',h'⟩ | ⟨k1',k2',k3',h'⟩
     ·rw [h,h']
     ·omega
    ·rcases FLc 2 h0 h1 with ⟨k',h'⟩ | ⟨k1',k2',k3',h'⟩
     ·omega
     ·have hz:=mt (wh_sign (w:=2) (by omega) (i:=i) (by
       refine⟨?_,h1⟩
       rcases Int.lt_or_eq_of_le h0 with q | q
       ·exact q
       ·rw [← q,wh_min] at k2;omega) k1).1.2 c
      rw [h,h',show bL 3 (fl i).ceil=if 0<(fl i).ceil then ((fl i).ceil:Rat) else (fl i).ceil - 1 from rfl,if_neg hz]
      rfl
   rw [e2]
   exact rsub_k 2 (b:=4607182418800017408) (by omega) (fun A=>by rw [fl_one];rfl) h0 h1 W
  have o:=order_is i1 i0;refine truncfrom_neg _ _ _ W o ?_ e
  rcases Int.lt_or_eq_of_le (show wh 2 i≤0 by omega) with k | k
  ·exact .inl (Int.compare_eq_lt.2 k)
  ·exact .inr (Int.compare_eq_eq.2 k)
theorem trunc_up(W0:World):∀ i,-(M:Int)<i→i≤M→(-(M:Int)≤TU 3 (wh 1 i)∧TU 3 (wh 1 i)≤M)∧∀ W,Below W0.heap.size W0 W→Calls Tryz.prog 38 (#[.float .f64 (pat (wh 1 i))] ++ #[]) W fun e w'=>e=.returned (.float .f64 (pat (TU 3 (wh 1 i))))∧Below W.heap.size W w':=by
 intro i h0 h1;have hM:=M_val;refine⟨TU_rng 3 h0 h1,fun W _=>?_⟩;have r:=wh_rng (w:=1) (by omega) (i:=i) (by omega);have i1:=is_pat (i:=wh 1 i) ⟨r.1,r.2.1⟩;have i0:=is_pat (i:=0) (by omega)
 have fin:wh 1 i<M→i<M:=fun h=>by
  rcases Int.lt_or_eq_of_le h1 with q | q
  ·exact q
  ·rw [q,wh_max] at h;omega
 by_cases c:wh 1 i<0
 ·have e:TU 3 (wh 1 i)=wh 1 i:=by
   rcases TUc 3 h0 h1 with ⟨k,h⟩ | ⟨k1,k2,k3,h⟩
   ·omega
   ·have hz:=(wh_sign (w:=1) (by omega) (i:=i) ⟨h0,fin k3⟩ k1).2.1 c;rw [h,show bU 3 (fl i).floor=if (fl i).floor<0 then ((fl i).floor:Rat) else (fl i).floor+1 from rfl,if_pos hz,← k1,rndI_fl (.inr rfl) k2 k3]
  rw [e]
  exact truncto_neg _ W (lt_true i1 i0 c)
 ·have e:∀ W,Calls Tryz.prog 64 #[.int .i64 1,.float .f64 (pat (wh 1 i)),.float .f64 4607182418800017408] W fun e w'=>e=.returned (.float .f64 (pat (TU 3 (wh 1 i))))∧Below W.heap.size W w':=by
   intro W
   have e2:TU 3 (wh 1 i)=TU 1 (wh 1 i):=by
    rcases TUc 3 h0 h1 with ⟨k,h⟩ | ⟨k1,k2,k3,h⟩
    ·rcases TUc 1 h0 h1 with ⟨k',h'⟩ | ⟨k1',k2',k3',h'⟩
     ·rw [h,h']
     ·omega
    ·rcases TUc 1 h0 h1 with ⟨k',h'⟩ | ⟨k1',k2',k3',h'⟩
     ·omega
     ·have hz:=mt (wh_sign (w:=1) (by omega) (i:=i) ⟨h0,fin k3⟩ k1).2.2 c;rw [h,h',show bU 3 (fl i).floor=if (fl i).floor<0 then ((fl i).floor:Rat) else (fl i).floor+1 from rfl,if_neg hz]
      rfl
   rw [e2]
   exact radd_k 1 (b:=4607182418800017408) (by omega) (fun A=>by rw [fl_one];rfl) h0 h1 W
  have o:=order_is i1 i0;refine truncto_pos _ _ _ W o ?_ e
  rcases Int.lt_or_eq_of_le (show 0≤wh 1 i by omega) with k | k
  ·exact .inl (Int.compare_eq_gt.2 k)
  ·exact .inr (Int.compare_eq_eq.2 k.symm)
theorem calls_below{W:World}{f:FuncId}{b r:Nat}(h:Calls Tryz.prog f #[.float .f64 b] W fun e w'=>e=.returned (.float .f64 r)∧W=w'):Calls Tryz.prog f #[.float .f64 b] W fun e w'=>e=.returned (.float .f64 r)∧Below W.heap.size W w':=h.mono fun _ _ ⟨a,b⟩=>⟨a,b ▸ Below.refl _ _⟩
theorem wW_idx(way:Ieee.Toward)(i:Int)(h0:-(M:Int)≤i)(h1:i≤M):Is (wW way (pat i)) (wh (kW way) i):=by
 have h:=wW_is way (is_pat ⟨h0,h1⟩).real
 rwa [idx_pat h0 h1] at h
theorem val_floor(w:World):ValFn w 32 (wW .down):=.inl ⟨enters_of Tryz.func32 (by kernel_rfl) rfl,fun i h0 h1 W _=>calls_below (floor_any (pat i) W (is_pat ⟨h0,h1⟩).real)⟩
theorem val_ceil(w:World):ValFn w 35 (wW .up):=.inl ⟨enters_of Tryz.func35 (by kernel_rfl) rfl,fun i h0 h1 W _=>calls_below (ceil_any (pat i) W (is_pat ⟨h0,h1⟩).real)⟩
theorem val_trunc(w:World):ValFn w 39 (wW .zero):=.inl ⟨enters_of Tryz.func39 (by kernel_rfl) rfl,fun i h0 h1 W _=>calls_below (trunc_any (pat i) W (is_pat ⟨h0,h1⟩).real)⟩
theorem val_even(w:World):ValFn w 40 (wW .even):=.inr fun i h0 h1 W=>(run_arch (pat i) (is_pat ⟨h0,h1⟩).real W).2.2.2
section
variable (c1 c2 x y:Nat) (w:World) (hc1:c1<18446744073709551616) (hc2:c2<18446744073709551616) (hx:x<18446744073709551616) (hy:y<18446744073709551616)
include hc1 hc2 hx hy
theorem floorrev_any:Calls Tryz.prog 8 #[.agg #[.float .f64 c1,.float .f64 c2],.agg #[.float .f64 x,.float .f64 y]] w fun e w'=>
  e=.returned (.agg #[.float .f64 (pat (stq 1 (rd c1 c2) (rd x y)).1),.float .f64 (pat (stq 1 (rd c1 c2) (rd x y)).2)])∧Below w.heap.size w w':=
 floor_walk c1 c2 x y _ _ w fun W B hB=>step_idx _ _ _ _ _ _ _ _ _ c1 c2 x y W hc1 hc2 hx hy (wW_idx .down) (val_floor W)
  ⟨enters_of Tryz.func33 (by kernel_rfl) rfl,enters_of Tryz.func63 (by kernel_rfl) rfl,itself_low W,behind_fn 1 (b:=4607182418800017408) (by have:=M_val;omega) (fun A=>by rw [fl_one];rfl) hB⟩
theorem ceilrev_any:Calls Tryz.prog 9 #[.agg #[.float .f64 c1,.float .f64 c2],.agg #[.float .f64 x,.float .f64 y]] w fun e w'=>
  e=.returned (.agg #[.float .f64 (pat (stq 2 (rd c1 c2) (rd x y)).1),.float .f64 (pat (stq 2 (rd c1 c2) (rd x y)).2)])∧Below w.heap.size w w':=
 ceil_walk c1 c2 x y _ _ w fun W B hB=>step_idx _ _ _ _ _ _ _ _ _ c1 c2 x y W hc1 hc2 hx hy (wW_idx .up) (val_ceil W)
  ⟨enters_of Tryz.func67 (by kernel_rfl) rfl,enters_of Tryz.func33 (by kernel_rfl) rfl,ahead_fn 2 (b:=4607182418800017408) (by have:=M_val;omega) (fun A=>by rw [fl_one];rfl) hB,itself_up W⟩
theorem truncrev_any:Calls Tryz.prog 10 #[.agg #[.float .f64 c1,.float .f64 c2],.agg #[.float .f64 x,.float .f64 y]] w fun e w'=>
  e=.returned (.agg #[.float .f64 (pat (stq 3 (rd c1 c2) (rd x y)).1),.float .f64 (pat (stq 3 (rd c1 c2) (rd x y)).2)])∧Below w.heap.size w w':=
 trunc_walk c1 c2 x y _ _ w fun W=>step_idx _ _ _ _ _ _ _ _ _ c1 c2 x y W hc1 hc2 hx hy (wW_idx .zero) (val_trunc W)
  ⟨enters_of Tryz.func37 (by kernel_rfl) rfl,enters_of Tryz.func38 (by kernel_rfl) rfl,trunc_low W,trunc_up W⟩
theorem evenrev_any:Calls Tryz.prog 11 #[.agg #[.float .f64 c1,.float .f64 c2],.agg #[.float .f64 x,.float .f64 y]] w fun e w'=>
  e=.returned (.agg #[.float .f64 (pat (stq 4 (rd c1 c2) (rd x y)).1),.float .f64 (pat (stq 4 (rd c1 c2) (rd x y)).2)])∧Below w.heap.size w w':=
 even_walk c1 c2 x y _ _ w fun W B0 B1 h0 h1=>step_idx _ _ _ _ _ _ _ _ _ c1 c2 x y W hc1 hc2 hx hy (wW_idx .even) (val_even W)
  ⟨enters_of Tryz.func67 (by kernel_rfl) rfl,enters_of Tryz.func63 (by kernel_rfl) rfl,ahead_fn 4 (b:=4602678819172646912) (by have:=M_val;omega) (fun A=>by rw [fl_half];rfl) h0,behind_fn 4 (b:=4602678819172646912) (by have:=M_val;omega) (fun A=>by rw [fl_half];rfl) h1⟩
end
def sgI(i:Int):Int:=if 0<i then 4607182418800017408 else if i<0 then -4607182418800017408 else 0
def sgF(k:Int):Int:=if k=-4607182418800017408 then -(M:Int) else 0
def sgT(k:Int):Int:=if k=4607182418800017408 then (M:Int) else 0
def sgW(b:Nat):Nat:=if 0<idx b then 4607182418800017408 else if idx b<0 then 13830554455654793216 else 0
def sgq(c x:Int × Int):Int × Int:=stp sgI sgF sgT (it c.1 c.2 (-4607182418800017408) 4607182418800017408) x
theorem sgW_is(i:Int)(h0:-(M:Int)≤i)(h1:i≤M):Is (sgW (pat i)) (sgI i):=by
 have hM:=M_val;unfold sgW sgI;rw [idx_pat h0 h1]
 by_cases c:0<i
 ·rw [if_pos c,if_pos c];exact is_pat (i:=4607182418800017408) (by omega)
 ·rw [if_neg c,if_neg c]
  by_cases d:i<0
  ·rw [if_pos d,if_pos d];exact is_pat (i:=-4607182418800017408) (by omega)
  ·rw [if_neg d,if_neg d];exact is_pat (i:=0) (by omega)
theorem val_sign(w:World):ValFn w 15 sgW:=by
 refine .inl ⟨enters_of Tryz.func15 (by kernel_rfl) rfl,fun i h0 h1 W _=>?_⟩;have hM:=M_val;have o:=order_is (is_pat ⟨h0,h1⟩) (is_pat (i:=0) (by omega));rw [pat_zero] at o;unfold sgW;rw [idx_pat h0 h1]
 rcases Int.lt_trichotomy i 0 with c | c | c
 ·rw [Int.compare_eq_lt.2 c] at o;have h:=sign1 (pat i) _ W o;rw [if_neg (by omega),if_pos c];exact h
 ·rw [Int.compare_eq_eq.2 c] at o;have h:=sign1 (pat i) _ W o;rw [if_neg (by omega),if_neg (by omega)];exact h
 ·rw [Int.compare_eq_gt.2 c] at o;have h:=sign1 (pat i) _ W o;rw [if_pos c];exact h
theorem eq_false{a b:Nat}{i j:Int}(ha:Is a i)(hb:Is b j)(h:i≠j):(FloatKind.f64.format.order a b == some Ordering.eq)=false:=by
 rw [order_is ha hb]
 rcases Int.lt_or_gt_of_ne h with k | k
 ·rw [Int.compare_eq_lt.2 k];rfl
 ·rw [Int.compare_eq_gt.2 k];rfl
theorem side_low{W0:World}{B:Nat}(hc:Cap W0 B 13830554455654793216):
  ∀ i,-(M:Int)≤i→i<M→(-(M:Int)≤sgF (wh 2 i)∧sgF (wh 2 i)≤M)∧∀ W,Below W0.heap.size W0 W→Calls Tryz.prog 17 (#[.float .f64 (pat (wh 2 i))] ++ #[.pointer (some ⟨B,0,none⟩)]) W fun e w'=>e=.returned (.float .f64 (pat (sgF (wh 2 i))))∧Below W.heap.size W w':=by
 intro i h0 h1;have hM:=M_val;have r:=wh_rng (w:=2) (by omega) (i:=i) (by omega);refine⟨by unfold sgF;split<;>omega,fun W hW=>?_⟩
 by_cases c:wh 2 i=-4607182418800017408
 ·unfold sgF;rw [if_pos c,c,pat_min]
  exact side1_down B W (hc.below hW).1
 ·unfold sgF;rw [if_neg c,pat_zero]
  exact side1_no _ _ B W (hc.below hW).1 (eq_false (is_pat ⟨r.1,r.2.1⟩) (pat_mone ▸ is_pat (i:=-4607182418800017408) (by omega)) c)
theorem side_up{W0:World}{B:Nat}(hc:Cap W0 B 4607182418800017408):
  ∀ i,-(M:Int)<i→i≤M→(-(M:Int)≤sgT (wh 1 i)∧sgT (wh 1 i)≤M)∧∀ W,Below W0.heap.size W0 W→Calls Tryz.prog 17 (#[.float .f64 (pat (wh 1 i))] ++ #[.pointer (some ⟨B,0,none⟩)]) W fun e w'=>e=.returned (.float .f64 (pat (sgT (wh 1 i))))∧Below W.heap.size W w':=by
 intro i h0 h1;have hM:=M_val;have r:=wh_rng (w:=1) (by omega) (i:=i) (by omega);refine⟨by unfold sgT;split<;>omega,fun W hW=>?_⟩
 by_cases c:wh 1 i=4607182418800017408
 ·unfold sgT;rw [if_pos c,c,pat_max]
  exact side1_up B W (hc.below hW).1
 ·unfold sgT;rw [if_neg c,pat_zero]
  exact side1_no _ _ B W (hc.below hW).1 (eq_false (is_pat ⟨r.1,r.2.1⟩) (pat_one ▸ is_pat (i:=4607182418800017408) (by omega)) c)
theorem unit_iv:Iv (-4607182418800017408) 4607182418800017408:=by unfold Iv;have:=M_val;omega
theorem signrev_any(c1 c2 x y:Nat)(w:World)(hc1:c1<18446744073709551616)(hc2:c2<18446744073709551616)(hx:x<18446744073709551616)(hy:y<18446744073709551616):
  Calls Tryz.prog 6 #[.agg #[.float .f64 c1,.float .f64 c2],.agg #[.float .f64 x,.float .f64 y]] w fun e w'=>
   e=.returned (.agg #[.float .f64 (pat (sgq (rd c1 c2) (rd x y)).1),.float .f64 (pat (sgq (rd c1 c2) (rd x y)).2)])∧Below w.heap.size w w':=by
 have v:=it_iv (rd_iv c1 c2) unit_iv;refine sign_walk c1 c2 x y _ _ _ _ w (fun W=>inter_gen _ _ _ _ c1 c2 13830554455654793216 4607182418800017408 W (rd_iv c1 c2) unit_iv (fun W=>readf c1 c2 W hc1 hc2) (fun W=>readf_idx _ _ W unit_iv)) fun W B0 B1 h0 h1=>?_
 have h:=step_idx 15 17 17 #[.pointer (some ⟨B0,0,none⟩)] #[.pointer (some ⟨B1,0,none⟩)] sgW sgI sgF sgT _ _ x y W (pat_lt v.lo.1 v.lo.2) (pat_lt v.hi.1 v.hi.2) hx hy sgW_is (val_sign W)
  ⟨enters_of Tryz.func17 (by kernel_rfl) rfl,enters_of Tryz.func17 (by kernel_rfl) rfl,side_low h0,side_up h1⟩
 rw [rd_pat v] at h
 exact h
theorem es_at0:es 0=0:=by decide
theorem ex_at0:ex 0=0:=by unfold ex;rw [if_pos es_at0,fl_zero]
theorem zg_l1(i j:Int)(L:Nat→Int→Int→Int × Int):zg i j L 1=L 0 i j:=by
 have hM:=M_val
 show hl (M:Int) (-(M:Int)) (L 0 i j).1 (L 0 i j).2=_
 unfold hl;rw [if_pos (by omega)]
theorem pf_idx{b1 b2:Int}{o1 o2:Bool}{i j:Int}(h1:b1=0∨b1=-(M:Int))(h2:b2=0∨b2=M)(hx:-(M:Int)≤i∧i≤j∧j≤M∧i<M∧-(M:Int)<j):
  pf (es b1) 0 o1 (es b2) 0 o2 i j=if b2<i∨(i=b2∧o2=true)∨j<b1∨(j=b1∧o1=true) then ((M:Int),-(M:Int)) else (if i<b1 then 0 else i,if b2<j then 0 else j):=by
 have hM:=M_val
 have x1:ex b1=0:=by rcases h1 with rfl | rfl;exact ex_at0;exact ex_min
 have x2:ex b2=0:=by rcases h2 with rfl | rfl;exact ex_at0;exact ex_max
 have a1:=ec_idx (i:=i) (b:=b2) (by omega) (by omega) (by omega) (by omega);have a2:=ec_idx (i:=j) (b:=b1) (by omega) (by omega) (by omega) (by omega);have a3:=ec_idx (i:=i) (b:=b1) (by omega) (by omega) (by omega) (by omega);have a4:=ec_idx (i:=j) (b:=b2) (by omega) (by omega) (by omega) (by omega);rw [x1] at a2 a3;rw [x2] at a1 a4;unfold SameSign at a1 a2 a3 a4;unfold pf wg;rw [if_neg (by omega),rndI_zero (.inl rfl),rndI_zero (.inr rfl)]
 have c:(0<ec (es i) (ex i) (es b2) 0∨ec (es i) (ex i) (es b2) 0=0∧o2=true∨ec (es j) (ex j) (es b1) 0<0∨ec (es j) (ex j) (es b1) 0=0∧o1=true)↔(b2<i∨(i=b2∧o2=true)∨j<b1∨(j=b1∧o1=true)):=by
  have e1:ec (es i) (ex i) (es b2) 0=0↔i=b2:=by omega
  have e2:ec (es j) (ex j) (es b1) 0=0↔j=b1:=by omega
  have e3:0<ec (es i) (ex i) (es b2) 0↔b2<i:=by omega
  have e4:ec (es j) (ex j) (es b1) 0<0↔j<b1:=by omega
  rw [e1,e2,e3,e4]
 by_cases h:b2<i∨(i=b2∧o2=true)∨j<b1∨(j=b1∧o1=true)
 ·rw [if_pos (c.2 h),if_pos h]
 ·rw [if_neg (mt c.1 h),if_neg h]
  have e3:ec (es i) (ex i) (es b1) 0<0↔i<b1:=by omega
  have e4:0<ec (es j) (ex j) (es b2) 0↔b2<j:=by omega
  refine Prod.ext ?_ ?_
  ·show (if _ then (0:Int) else i)=if _ then 0 else i
   by_cases k:i<b1
   ·rw [if_pos (e3.2 k),if_pos k]
   ·rw [if_neg (mt e3.1 k),if_neg k]
  ·show (if _ then (0:Int) else j)=if _ then 0 else j
   by_cases k:b2<j
   ·rw [if_pos (e4.2 k),if_pos k]
   ·rw [if_neg (mt e4.1 k),if_neg k]
def unI(k:Int):Int:=if 0<k then 4607182418800017408 else if k<0 then -4607182418800017408 else 0
theorem fl_unI{k:Int}(h:-1≤k∧k≤1):fl (unI k)=(k:Rat):=by
 have hk:k=-1∨k=0∨k=1:=by omega
 rcases hk with rfl | rfl | rfl
 ·show fl (-4607182418800017408)=_
  rw [fl_neg,fl_one];rfl
 ·exact fl_zero
 ·exact fl_one
theorem sgn_pf{d1 d2 i j k1 k2:Int}(hw1:wh 2 d1=unI k1)(hw2:wh 1 d2=unI k2)(hk:-1≤k1∧k1≤k2∧k2≤1)(hd:¬ d2<d1)(hx:-(M:Int)≤i∧i≤j∧j≤M∧i<M∧-(M:Int)<j):
  stp sgI sgF sgT (d1,d2) (i,j)=pf (if k1<0 then -1 else 0) 0 (decide (k1≠0)) (if 0<k2 then 1 else 0) 0 (decide (k2≠0)) i j:=by
 have hM:=M_val
 have e1:(if k1<0 then (-1:Int) else 0)=es (if k1<0 then -(M:Int) else 0):=by split;rw [es_min];rw [es_at0]
 have e2:(if 0<k2 then (1:Int) else 0)=es (if 0<k2 then (M:Int) else 0):=by split;rw [es_max];rw [es_at0]
 rw [e1,e2,pf_idx (by split<;>simp) (by split<;>simp) hx];unfold stp
 dsimp only
 rw [if_neg (show ¬ (d2<d1∨j<i) by omega),hw1,hw2]
 have a1:k1=-1∨k1=0∨k1=1:=by omega
 have a2:k2=-1∨k2=0∨k2=1:=by omega
 have u1:unI 1=4607182418800017408:=rfl;have u2:unI (-1)=-4607182418800017408:=rfl;have u3:unI 0=0:=rfl
 rcases a1 with rfl | rfl | rfl<;>rcases a2 with rfl | rfl | rfl<;>first | (exfalso;omega) | skip
 all_goals
  simp only [u1,u2,u3,sgF,sgT,sgI]
  by_cases p1:0<i<;>by_cases p2:i<0<;>by_cases p3:0<j<;>by_cases p4:j<0<;>first | (exfalso;omega) | skip
 all_goals
  (try simp only [p1,p2,p3,p4,if_true,if_false,reduceIte,true_or,or_true,Int.reduceEq,Int.reduceNeg,Int.reduceLT,ne_eq,not_true,not_false_eq_true,decide_true,decide_false,Bool.false_eq_true,and_false,and_true,or_false,false_or])
 all_goals (repeat' split)
 all_goals refine Prod.ext ?_ ?_
 all_goals (first | rfl | (dsimp only;first | rfl | omega) | omega)
theorem fl_top{i:Int}{P R:Nat}(hP:P=1024)(hR:R=2098)(h:i≤M):fl i≤(((2 ^ P:Nat):Int):Rat):=by
 have hM:=M_val
 have e:(((2 ^ P:Nat):Int):Rat)=(((2 ^ R:Nat):Int):Rat)*2 ^ (-1074:Int):=by rw [hP,hR];decide +kernel
 rw [e];refine Rat.mul_le_mul_of_nonneg_right (Rat.intCast_le_intCast.2 ?_) (Rat.le_of_lt (zpow_pos _))
 have h1:mag M=2 ^ R:=by rw [hR];decide +kernel
 unfold val
 split
 ·omega
 ·have h2:mag i.natAbs≤mag M:=mag_le_iff.2 (by omega);rw [h1] at h2
  omega
theorem fl_size{i:Int}{Q:Nat}(hQ:Q=34)(h0:-(M:Int)≤i)(h:i≤M):(fl i).floor.natAbs<2 ^ (32*Q)∧(-(fl i)).floor.natAbs<2 ^ (32*Q):=by
 obtain⟨P,hP⟩:∃ P:Nat,P=1024:=⟨_,rfl⟩
 obtain⟨R,hR⟩:∃ P:Nat,P=2098:=⟨_,rfl⟩
 have a:=fl_top hP hR h;have b:=fl_top (i:=-i) hP hR (by omega);rw [fl_neg] at b;have e:2 ^ P<2 ^ (32*Q):=Nat.pow_lt_pow_right (by omega) (by omega)
 obtain⟨k,hk⟩:∃ k:Nat,2 ^ P=k:=⟨_,rfl⟩
 rw [hk] at a b e;have f1:=floor_two (fl i);have f2:=floor_two (-(fl i));have c1:(fl i).floor≤(k:Int):=Rat.intCast_le_intCast.1 (by grind);have c2:(-(fl i)).floor≤(k:Int):=Rat.intCast_le_intCast.1 (by grind);have c3:-(k:Int)≤(fl i).floor:=Rat.le_floor_iff.2 (by rw [Rat.intCast_neg];grind);have c4:-(k:Int)≤(-(fl i)).floor:=Rat.le_floor_iff.2 (by rw [Rat.intCast_neg];grind)
 omega
theorem es_size{i:Int}{Q:Nat}(hQ:Q=34)(h0:-(M:Int)≤i)(h1:i≤M):(ex i).floor.natAbs<2 ^ (32*Q)∧(-(ex i)).floor.natAbs<2 ^ (32*Q):=by
 by_cases h:es i=0
 ·rw [ex_zero h];exact fl_size hQ h0 h1
 ·rw [ex_inf h,show ((0:Rat)).floor.natAbs=0 from by decide +kernel,show (-(0:Rat)).floor.natAbs=0 from by decide +kernel]
  exact⟨Nat.two_pow_pos _,Nat.two_pow_pos _⟩
theorem ceil_neg(x:Rat):-(-x).floor=x.ceil:=(Rat.ceil_eq_neg_floor_neg x).symm
theorem wh_lt{ci cj:Int}(h0:-(M:Int)<ci∧ci<M)(h1:-(M:Int)<cj∧cj<M):wh 1 cj<wh 2 ci↔(fl cj).floor<(fl ci).ceil:=by
 obtain⟨a1,-⟩:=wh_fin (w:=2) (by omega) h0.1 h0.2;obtain⟨b1,-⟩:=wh_fin (w:=1) (by omega) h1.1 h1.2;rw [← fl_lt_iff,a1,b1,Rat.intCast_lt_intCast];rfl
theorem bd_le{k:Nat}(hk:1≤k){A B:Int}(h:A≤B):bL k (A:Int)≤bU k B:=by
 have e:(A:Rat)≤(B:Rat):=Rat.intCast_le_intCast.2 h
 match k,hk with
 | 1,_=>show (A:Rat)≤(B:Rat)+1;grind
 | 2,_=>show (A:Rat) - 1≤(B:Rat);grind
 | 3,_=>show (if 0<A then (A:Rat) else (A:Rat) - 1)≤if B<0 then (B:Rat) else (B:Rat)+1;split<;>split<;>grind
 | k+4,_=>show (A:Rat) - 1/2≤(B:Rat)+1/2;grind
theorem dn_up{a b:Int}{x y:Rat}(ha:a=0∨a=-1)(hb:b=0∨b=1)(h:a=0→b=0→x≤y):dn a x≤up b y:=by
 have hM:=M_val;unfold dn up
 by_cases ka:a=0
 ·rw [if_pos ka]
  by_cases kb:b=0
  ·rw [if_pos kb];exact Int.le_trans (rndI_mono (.inl rfl) (h ka kb)) (rndI_le y)
  ·rw [if_neg kb]
   have hb1:b=1:=by omega
   have:=rndI_down x;subst hb1;omega
 ·rw [if_neg ka]
  have ha1:a=-1:=by omega
  by_cases kb:b=0
  ·rw [if_pos kb];have:=rndI_up y;subst ha1;omega
  ·rw [if_neg kb]
   have hb1:b=1:=by omega
   subst ha1;subst hb1;omega
theorem steprev_any(k c1 c2 x y:Nat)(w:World)(h1:1≤k)(h5:k≤5)(hc1:c1<18446744073709551616)(hc2:c2<18446744073709551616)(hx:x<18446744073709551616)(hy:y<18446744073709551616):
  Calls Tryz.prog 7 #[.int .i64 (k:Int),.agg #[.int .u64 (c1:Int),.int .u64 (c2:Int)],.agg #[.int .u64 (x:Int),.int .u64 (y:Int)]] w fun e w'=>
   e=.returned (.agg #[.int .u64 (pat (stq k (rd c1 c2) (rd x y)).1:Int),.int .u64 (pat (stq k (rd c1 c2) (rd x y)).2:Int)])∧Below w.heap.size w w':=by
 have hM:=M_val
 have hk0:((k:Int) == 0)=false:=by rw [beq_eq_false_iff_ne];omega
 cases hs:snd c1 c2
 ·have e1:rd c1 c2=((M:Int),-(M:Int)):=by unfold rd;rw [hs];rfl
  have e2:stq k (rd c1 c2) (rd x y)=((M:Int),-(M:Int)):=by rw [e1];unfold stq stp;rw [if_pos (by left;show -(M:Int)<M;omega)]
  rw [e2,pat_max,pat_min]
  exact steprev_none k c1 c2 x y _ _ _ _ w (fun W=>(of_none c1 c2 W hc1 hc2 hs).mono fun _ _ ⟨g,A,n,c,B,m,d,g',A',n',c',B',m',d',e,h1,h2,hb⟩=>⟨g,A,n,c,B,m,d,g',A',n',c',B',m',d',e,h1.mono (by omega),h2.mono (by omega),hb⟩)
 ·have e1:rd c1 c2=(idx c1,idx c2):=by unfold rd;rw [hs];rfl
  have hd:=of_decide_eq_true hs;have hO:=fun W=>of_full c1 c2 W hc1 hc2 hs;have hiv:=rd_iv c1 c2;rw [e1] at hiv
  obtain⟨ci,hci⟩:∃ i,idx c1=i:=⟨_,rfl⟩
  obtain⟨cj,hcj⟩:∃ i,idx c2=i:=⟨_,rfl⟩
  rw [hci,hcj] at hO hiv e1
  have hc:-(M:Int)≤ci∧ci≤cj∧cj≤M∧ci<M∧-(M:Int)<cj:=by
   unfold Iv at hiv;have:=hd
   omega
  clear hd hs hci hcj hiv;have sz1:=(es_size (i:=ci) rfl (by omega) (by omega)).2;have sz2:=(es_size (i:=cj) rfl (by omega) (by omega)).1
  have er:((-(-ex ci).floor:Int):Rat)=((ex ci).ceil:Rat):=by rw [ceil_neg]
  by_cases gt:-(M:Int)<ci∧cj<M∧(fl cj).floor<(fl ci).ceil
  ·obtain⟨g1,g2,g3⟩:=gt;have k1:=es_fin g1 hc.2.2.2.1;have k2:=es_fin hc.2.2.2.2 g2
   have e2:stq k (rd c1 c2) (rd x y)=((M:Int),-(M:Int)):=by
    rw [e1];unfold stq stp
    by_cases hh:cj<ci∨(rd x y).2<(rd x y).1
    ·rw [if_pos hh]
    ·rw [if_neg hh,if_pos (.inl ((wh_lt ⟨g1,hc.2.2.2.1⟩ ⟨hc.2.2.2.2,g2⟩).2 g3))]
   rw [e2,pat_max,pat_min];refine steprev_ngt k c1 c2 x y _ _ _ _ w hk0 hO ⟨sz1,sz2⟩ _ rfl (by rw [k1.1];rfl) (by rw [k2.1];rfl) ?_;rw [er,k1.2,k2.2]
   exact decide_eq_true (rc_pos_iff.2 (Rat.intCast_lt_intCast.2 g3))
  ·have first:∃ u v p,(((es ci == 0)=true)→∀ W (g9:Bool) (A9:Option Addr) (n9 c9:Nat) (B9:Option Addr) (d9:Nat),RatI W g9 A9 n9 c9 B9 d9 (-(-ex ci).floor)→Calls Tryz.prog 29 #[.int .i64 (k:Int),.agg #[.bool g9,.slice A9 n9 c9,.slice B9 1 d9]] W (NewBd W 69 u v 1 p)) ∧
     (((es ci == 0)=false∧u=-1∧v=0∧p=true)∨(es ci == 0)=true)∧(u=-1∧ci=-(M:Int)∨u=0∧-(M:Int)<ci∧v=bL k (fl ci).ceil∧p=oL k (fl ci).ceil):=by
    by_cases c:ci=-(M:Int)
    ·have:(es ci == 0)=false:=by rw [c,es_min];rfl
     exact⟨-1,0,true,fun h=>absurd (this ▸ h) (by decide),.inl ⟨this,rfl,rfl,rfl⟩,.inl ⟨rfl,c⟩⟩
    ·have k1:=es_fin (i:=ci) (by omega) hc.2.2.2.1;refine⟨0,bL k (fl ci).ceil,oL k (fl ci).ceil,fun _ W g9 A9 n9 c9 B9 d9 h=>?_,.inr (by rw [k1.1];rfl),.inr ⟨rfl,by omega,rfl,rfl⟩⟩;rw [k1.2] at sz1 h;rw [← ceil_neg]
     exact first_any h rfl (by rw [Int.natAbs_neg];exact sz1) k h1 h5
   have last:∃ u v p,(((es cj == 0)=true)→∀ W (g9:Bool) (A9:Option Addr) (n9 c9:Nat) (B9:Option Addr) (d9:Nat),RatI W g9 A9 n9 c9 B9 d9 (ex cj).floor→Calls Tryz.prog 30 #[.int .i64 (k:Int),.agg #[.bool g9,.slice A9 n9 c9,.slice B9 1 d9]] W (NewBd W 69 u v 1 p)) ∧
     (((es cj == 0)=false∧u=1∧v=0∧p=true)∨(es cj == 0)=true)∧(u=1∧cj=M∨u=0∧cj<M∧v=bU k (fl cj).floor∧p=oU k (fl cj).floor):=by
    by_cases c:cj=M
    ·have:(es cj == 0)=false:=by rw [c,es_max];rfl
     exact⟨1,0,true,fun h=>absurd (this ▸ h) (by decide),.inl ⟨this,rfl,rfl,rfl⟩,.inl ⟨rfl,c⟩⟩
    ·have k2:=es_fin (i:=cj) hc.2.2.2.2 (by omega);refine⟨0,bU k (fl cj).floor,oU k (fl cj).floor,fun _ W g9 A9 n9 c9 B9 d9 h=>?_,.inr (by rw [k2.1];rfl),.inr ⟨rfl,by omega,rfl,rfl⟩⟩;rw [k2.2] at sz2 h
     exact last_any h rfl sz2 k h1 h5
   obtain⟨u1,v1,p1,hf1,ha1,hb1⟩:=first;obtain⟨u2,v2,p2,hf2,ha2,hb2⟩:=last
   have hle:-(M:Int)<ci→cj<M→(fl ci).ceil≤(fl cj).floor:=fun a b=>by
    apply Classical.byContradiction;intro h;exact gt ⟨a,b,by omega⟩
   have hp:dn u1 v1≤up u2 v2:=by
    refine dn_up (by rcases hb1 with h | h<;>omega) (by rcases hb2 with h | h<;>omega) fun a b=>?_
    rcases hb1 with ⟨h,-⟩ | ⟨-,h0,rfl,-⟩
    ·omega
    rcases hb2 with ⟨h,-⟩ | ⟨-,h0',rfl,-⟩
    ·omega
    exact bd_le h1 (hle h0 h0')
   have hcase:(es ci == 0)=false∨(es ci == 0)=true∧(es cj == 0)=false∨(es ci == 0)=true∧(es cj == 0)=true∧decide (0<rc (((-(-ex ci).floor:Int)):Rat) (((ex cj).floor:Int):Rat))=false:=by
    by_cases a:ci=-(M:Int)
    ·left;rw [a,es_min];rfl
    ·have k1:=es_fin (i:=ci) (by omega) hc.2.2.2.1
     by_cases b:cj=M
     ·right;left;rw [k1.1,b,es_max];exact⟨rfl,rfl⟩
     ·right;right
      have k2:=es_fin (i:=cj) hc.2.2.2.2 (by omega);refine⟨by rw [k1.1];rfl,by rw [k2.1];rfl,decide_eq_false ?_⟩;rw [er,k1.2,k2.2,rc_pos_iff,Rat.intCast_lt_intCast];have:=hle (by omega) (by omega)
      omega
   have e2:stq k (rd c1 c2) (rd x y)=zg (rd x y).1 (rd x y).2 (fun _=>pf u1 v1 p1 u2 v2 p2) 1:=by
    rw [zg_l1,e1]
    rcases rd_iv x y with h | ⟨h,h'⟩
    ·refine stp_pf h1 hc h hb1 hb2 ?_;intro hw
     by_cases a:ci=-(M:Int)
     ·rw [a,wh_min] at hw;have:=(wh_rng (w:=1) (by omega) (i:=cj) (by omega)).1
      omega
     by_cases b:cj=M
     ·rw [b,wh_max] at hw;have:=(wh_rng (w:=2) (by omega) (i:=ci) (by omega)).2.1
      omega
     have:=(wh_lt ⟨by omega,hc.2.2.2.1⟩ ⟨hc.2.2.2.2,by omega⟩).1 hw;have:=hle (by omega) (by omega)
     omega
    ·have hn:(rd x y).2<(rd x y).1:=by rw [h,h'];omega
     unfold stq stp pf;rw [if_pos (.inr hn),if_pos hn]
   rw [e2]
   exact steprev_nok k c1 c2 x y _ _ _ _ u1 u2 v1 v2 p1 p2 w hk0 hO ⟨sz1,sz2⟩ _ rfl hcase hf1 ha1 hf2 ha2 (by rcases hb1 with h | h<;>omega) (by rcases hb2 with h | h<;>omega) hp hx hy _ rfl
end Go.Proofs.YtfcpabgampebaaaGreat
