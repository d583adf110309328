/-
What the program makes of MinRev is what chapter 10 says: plain law.
-/
import Derived.Test.YthaojemejpbbgaaPMxT
import Derived.Test.YthaojemejpbbgaaPRmT
set_option linter.unusedSimpArgs false
set_option linter.unusedVariables false

namespace Go.Proofs.Ythaojemejpbbgaa
open Go.RowKit

theorem wi_one {a b xi xj : Int} (hx : Iv xi xj) (ha : -(M : Int) ≤ a ∧ a < M) (hb : -(M : Int) < b ∧ b ≤ M) (hab : a ≤ b) : wi xi xj a b = it a b xi xj := by
  have hM : M = 9218868437227405312 := rfl
  unfold Iv at hx
  unfold wi it
  by_cases h : xi ≤ xj ∧ xi ≤ b ∧ a ≤ xj
  · rw [if_pos h, if_neg (by omega), Int.max_comm, Int.min_comm]
  · rw [if_neg h, if_pos (by omega)]
theorem hl_empty (i j : Int) : hl M (-(M : Int)) i j = (i, j) := by
  have hM : M = 9218868437227405312 := rfl
  unfold hl
  rw [if_pos (by omega)]
theorem hl_two {a u l xi xj : Int} (hx : Iv xi xj) (ha : -(M : Int) ≤ a ∧ a < M) (hu : -(M : Int) < u ∧ u ≤ M) (hl' : a ≤ l) (hlu : l ≤ u) (hlM : l < M) :
    hl (it a u xi xj).1 (it a u xi xj).2 (it l M xi xj).1 (it l M xi xj).2 = it a M xi xj := by
  have hM : M = 9218868437227405312 := rfl
  unfold Iv at hx
  by_cases h1 : xi ≤ xj ∧ xi ≤ u ∧ a ≤ xj
  · have e1 : it a u xi xj = (max a xi, min u xj) := by unfold it; rw [if_neg (by omega)]
    have e3 : it a M xi xj = (max a xi, min (M : Int) xj) := by unfold it; rw [if_neg (by omega)]
    by_cases h2 : l ≤ xj
    · have e2 : it l M xi xj = (max l xi, min (M : Int) xj) := by unfold it; rw [if_neg (by omega)]
      rw [e1, e2, e3]
      unfold hl
      dsimp only
      rw [if_neg (by omega), if_neg (by omega)]
      refine Prod.ext ?_ ?_ <;> dsimp only <;> omega
    · have e2 : it l M xi xj = ((M : Int), -(M : Int)) := by unfold it; rw [if_pos (by omega)]
      rw [e1, e2, e3]
      unfold hl
      dsimp only
      rw [if_neg (by omega), if_pos (by omega)]
      refine Prod.ext ?_ ?_ <;> dsimp only <;> omega
  · have e1 : it a u xi xj = ((M : Int), -(M : Int)) := by unfold it; rw [if_pos (by omega)]
    rw [e1, hl_empty]
    unfold it
    by_cases h2 : xi ≤ xj ∧ l ≤ xj
    · rw [if_neg (by omega), if_neg (by omega)]
      refine Prod.ext ?_ ?_ <;> dsimp only <;> omega
    · rw [if_pos (by omega), if_pos (by omega)]
theorem rmr_mr {bi bj ci cj xi xj : Int} (hb : Iv bi bj) (hc : Iv ci cj) (hx : Iv xi xj) : rmr bi bj ci cj xi xj = mr bi bj ci cj xi xj := by
  have hM : M = 9218868437227405312 := rfl
  by_cases h : bj < bi ∨ cj < ci ∨ bj < ci
  · unfold rmr mr
    rw [if_pos (by omega), if_pos h]
  · have h1 : zf xi xj (mrL bi bj ci cj) 1 = wi xi xj ci (min cj bj) := by
      show hl M (-(M : Int)) _ _ = _
      rw [hl_empty]
      rfl
    have hb' := hb
    have hc' := hc
    unfold Iv at hb' hc'
    have w1 := wi_one (a := ci) (b := min cj bj) hx (by omega) (by omega) (by omega)
    unfold mr
    rw [if_neg h]
    unfold rmr
    by_cases hxe : xj < xi
    · rw [if_pos (by omega)]
      have e : ∀ a b, wi xi xj a b = ((M : Int), -(M : Int)) := fun a b => by unfold wi; rw [if_neg (by omega)]
      have h2 : zf xi xj (mrL bi bj ci cj) 2 = ((M : Int), -(M : Int)) := by
        show hl (zf xi xj (mrL bi bj ci cj) 1).1 (zf xi xj (mrL bi bj ci cj) 1).2 _ _ = _
        rw [h1, e, e, hl_empty]
      rw [h1, h2, e]
      split <;> rfl
    · rw [if_neg (by omega)]
      by_cases h3 : cj < bi
      · rw [if_pos h3, if_neg (by omega), h1, w1, show min cj bj = cj from by omega]
      · rw [if_neg h3, if_pos (by omega)]
        have w2 := wi_one (a := max ci bi) (b := M) hx (by omega) (by omega) (by omega)
        have h2 : zf xi xj (mrL bi bj ci cj) 2 = hl (zf xi xj (mrL bi bj ci cj) 1).1 (zf xi xj (mrL bi bj ci cj) 1).2 (wi xi xj (max ci bi) M).1 (wi xi xj (max ci bi) M).2 := rfl
        rw [h2, h1, w1, w2]
        exact (hl_two hx (by omega) (by omega) (by omega) (by omega) (by omega)).symm
theorem rmx_mx {b1 b2 c1 c2 x y : Nat} : rmx (rd b1 b2) (rd c1 c2) (rd x y) = mx (rd b1 b2) (rd c1 c2) (rd x y) := by
  unfold rmx mx
  rw [rmr_mr (rd_iv b1 b2).neg (rd_iv c1 c2).neg (rd_iv x y).neg]

end Go.Proofs.Ythaojemejpbbgaa
