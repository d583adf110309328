/-
Lemmas for the statement: IntsT.
-/
import Derived.Test.YthlmlmfebpjgdaaGreatDoorM03
import Derived.Test.YthlmlmfebpjgdaaGreatDoorPBothT
set_option linter.unusedSimpArgs false
set_option linter.unusedVariables false
set_option maxHeartbeats 12800000
namespace Go.Proofs.YthlmlmfebpjgdaaGreatDoor
section
open Go.RowKit
attribute [local go_sem] run_store_float run_eqf
theorem run_maxf{i j:Int}(h1:-(M:Int)≤i∧i≤M)(h2:-(M:Int)≤j∧j≤M)(W:World)(ts:Array TypeId)(t:TypeId):(Builtin.max_ ts t #[.float .f64 (pat i),.float .f64 (pat j)]).run Tryz.prog W=.ok (.float .f64 (pat (max i j))) W:=by
 have ho:=order_pat h1.1 h1.2 h2.1 h2.2
 have e:(Builtin.max_ ts t #[.float .f64 (pat i),.float .f64 (pat j)])=Builtin.max2 (.float .f64 (pat i)) (.float .f64 (pat j)):=by simp [Builtin.max_]
 rw [e];unfold Builtin.max2
 dsimp only
 rw [ho]
 rcases Int.lt_trichotomy i j with h | h | h
 ·rw [show compare i j=.lt from Int.compare_eq_lt.2 h,show max i j=j from by omega];rfl
 ·subst h;rw [show compare i i=.eq from Int.compare_eq_eq.2 rfl,show max i i=i from by omega]
  simp
 ·rw [show compare i j=.gt from Int.compare_eq_gt.2 h,show max i j=i from by omega];rfl
theorem run_minf{i j:Int}(h1:-(M:Int)≤i∧i≤M)(h2:-(M:Int)≤j∧j≤M)(W:World)(ts:Array TypeId)(t:TypeId):(Builtin.min_ ts t #[.float .f64 (pat i),.float .f64 (pat j)]).run Tryz.prog W=.ok (.float .f64 (pat (min i j))) W:=by
 have ho:=order_pat h1.1 h1.2 h2.1 h2.2
 have e:(Builtin.min_ ts t #[.float .f64 (pat i),.float .f64 (pat j)])=Builtin.min2 (.float .f64 (pat i)) (.float .f64 (pat j)):=by simp [Builtin.min_]
 rw [e];unfold Builtin.min2
 dsimp only
 rw [ho]
 rcases Int.lt_trichotomy i j with h | h | h
 ·rw [show compare i j=.lt from Int.compare_eq_lt.2 h,show min i j=i from by omega];rfl
 ·subst h;rw [show compare i i=.eq from Int.compare_eq_eq.2 rfl,show min i i=i from by omega]
  simp
 ·rw [show compare i j=.gt from Int.compare_eq_gt.2 h,show min i j=j from by omega];rfl
theorem em_idx{i j:Int}(h:Iv i j):Em (decide (j<i)) (pat i) (pat j):=by
 have hM:M=9218868437227405312:=rfl;have o1:=order_pat h.lo.1 h.lo.2 (show -(M:Int)≤(M:Int) by omega) (Int.le_refl _);have o2:=order_pat h.hi.1 h.hi.2 (Int.le_refl _) (show -(M:Int)≤(M:Int) by omega);rw [pat_max] at o1;rw [pat_min] at o2;unfold Iv at h;refine⟨fun e=>?_,fun e=>?_⟩
 ·have e:=of_decide_eq_true e;rw [o1,o2]
  exact⟨by rw [show compare i (M:Int)=.eq from Int.compare_eq_eq.2 (by omega)],by rw [show compare j (-(M:Int))=.eq from Int.compare_eq_eq.2 (by omega)]⟩
 ·have e:=of_decide_eq_false e;rw [o1,show compare i (M:Int)=.lt from Int.compare_eq_lt.2 (by omega)]
def it(i j i' j':Int):Int × Int:=if j<i∨j'<i'∨min j j'<max i i' then ((M:Int),-(M:Int)) else (max i i',min j j')
end
end Go.Proofs.YthlmlmfebpjgdaaGreatDoor
