/-
What the program makes of CancelMinus and CancelPlus is what chapter 10 says: plain law.
-/
import Derived.Test.YtmjkmoahkanblaaGreatPCan7T
import Derived.Test.YtmjkmoahkanblaaGreatPCanT
set_option linter.unusedSimpArgs false
set_option linter.unusedVariables false

namespace Go.Proofs.YtmjkmoahkanblaaGreat
open Go.RowKit

theorem ad_fin {d i j : Int} (hi : -(M : Int) < i ∧ i < M) (hj : -(M : Int) < j ∧ j < M) : ad d i (-j) = rndI d (fl i - fl j) := by
  unfold ad
  rw [if_neg (by omega), if_neg (by omega), fl_neg, Rat.sub_eq_add_neg]
theorem cm_law (i1 j1 i2 j2 : Int) : cmf i1 j1 i2 j2 = cm6 i1 j1 i2 j2 := by
  unfold cmf cm6
  by_cases a : j1 < i1 ∧ (j2 < i2 ∨ com i2 j2 = true)
  · rw [if_pos a, if_pos a]
  · rw [if_neg a, if_neg a]
    by_cases b : com i1 j1 = false ∨ com i2 j2 = false
    · rw [if_pos b, if_pos b]
    · rw [if_neg b, if_neg b]
      have b1 : com i1 j1 = true := by cases h : com i1 j1; exact absurd (.inl h) b; rfl
      have b2 : com i2 j2 = true := by cases h : com i2 j2; exact absurd (.inr h) b; rfl
      have c1 := of_decide_eq_true b1
      have c2 := of_decide_eq_true b2
      have e : fl j1 - fl i1 < fl j2 - fl i2 ↔ fl j1 - fl j2 < fl i1 - fl i2 := by constructor <;> intro h <;> grind
      by_cases d : fl j1 - fl i1 < fl j2 - fl i2
      · rw [if_pos d, if_pos (e.1 d)]
      · rw [if_neg d, if_neg (fun h => d (e.2 h)), ad_fin (by omega) (by omega), ad_fin (by omega) (by omega)]

end Go.Proofs.YtmjkmoahkanblaaGreat
