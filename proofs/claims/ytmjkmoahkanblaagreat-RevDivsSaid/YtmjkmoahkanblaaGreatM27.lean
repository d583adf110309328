/-
Plain: products, as the program cuts them and as the reference has them; DivRev1 by indexes.
Walks: package vergeref10, divisors.
-/
import Derived.Test.YtmjkmoahkanblaaGreatM19
import Derived.Test.YtmjkmoahkanblaaGreatM25
import Derived.Test.YtmjkmoahkanblaaGreatM26
import Derived.Deep.DeepCutAuto
set_option linter.unusedSimpArgs false
set_option linter.unusedVariables false
set_option maxHeartbeats 12800000

namespace Go.Proofs.YtmjkmoahkanblaaGreat
open Go.RowKit
def prb (a b : Int) : Int × Rat × Bool := if a = 0 then (0, 0, false) else if b = 0 then (0, 0, true) else if es a ≠ 0 ∨ es b ≠ 0 then ((if 0 < a then 1 else -1), 0, true) else (0, fl a * fl b, false)
def vdA (i1 j1 i2 : Int) : Int × Rat × Bool := if 0 < i2 then prb i2 (max i1 0) else prb i2 j1
def vdB (i1 j1 j2 : Int) : Int × Rat × Bool := if j2 < 0 then prb j2 (max i1 0) else prb j2 j1
def FV (i1 j1 i2 j2 : Int) (i j : Int) : Int × Int :=
  if j1 ≤ 0 ∨ j2 < i2 then ((M : Int), -(M : Int)) else pf (vdA i1 j1 i2).1 (vdA i1 j1 i2).2.1 (vdA i1 j1 i2).2.2 (vdB i1 j1 j2).1 (vdB i1 j1 j2).2.1 (vdB i1 j1 j2).2.2 i j
def pdP (i1 j1 i2 : Int) : Int × Int := if i2 < 0 then (mu (-1) i2 j1, mu 1 i2 j1) else if 0 < i2 ∧ 0 < i1 then (mu (-1) i2 i1, mu 1 i2 i1) else (0, 0)
def pdQ (i1 j1 j2 : Int) : Int × Int := if 0 < j2 then (mu (-1) j2 j1, mu 1 j2 j1) else if j2 < 0 ∧ 0 < i1 then (mu (-1) j2 i1, mu 1 j2 i1) else (0, 0)
def dvd (i1 j1 i2 j2 : Int) (i j : Int) : Int × Int :=
  if j1 ≤ 0 then ((M : Int), -(M : Int)) else ctO (!decide (i2 ≤ 0 ∧ 0 ≤ j2)) i j (pdP i1 j1 i2).1 (pdP i1 j1 i2).2 (pdQ i1 j1 j2).1 (pdQ i1 j1 j2).2
theorem fl_neg_lt {j : Int} (h : j < 0) : fl j < 0 := by have := fl_lt_iff.2 h; rwa [fl_zero] at this
theorem mu_prb {a b : Int} (ha : -(M : Int) ≤ a ∧ a ≤ M) (hb : 0 < b ∧ b ≤ M) (na : a ≠ 0) : mu (-1) a b = dn (prb a b).1 (prb a b).2.1 ∧ mu 1 a b = up (prb a b).1 (prb a b).2.1 := by
  have hM : (M : Int) = 9218868437227405312 := rfl
  unfold prb mu
  rw [if_neg na, if_neg (show ¬ b = 0 by omega)]
  by_cases h : a = M ∨ a = -(M : Int) ∨ b = M ∨ b = -(M : Int)
  · have h2 : es a ≠ 0 ∨ es b ≠ 0 := by
      rcases h with h | h | h | h
      · left; rw [h, es_max]; omega
      · left; rw [h, es_min]; omega
      · right; rw [h, es_max]; omega
      · omega
    rw [if_pos h, if_pos h, if_pos h2]
    rw [decide_eq_false (show ¬ b < 0 by omega)]
    by_cases h3 : 0 < a
    · rw [decide_eq_false (show ¬ a < 0 by omega), if_pos h3]
      have d1 : (M : Int) = dn 1 0 := by unfold dn; rw [if_neg (by omega)]; omega
      have u1 : (M : Int) = up 1 0 := by unfold up; rw [if_neg (by omega)]; omega
      exact ⟨d1, u1⟩
    · rw [decide_eq_true (show a < 0 by omega), if_neg h3]
      have d1 : -(M : Int) = dn (-1) 0 := by unfold dn; rw [if_neg (by omega)]; omega
      have u1 : -(M : Int) = up (-1) 0 := by unfold up; rw [if_neg (by omega)]; omega
      exact ⟨d1, u1⟩
  · have h2 : ¬ (es a ≠ 0 ∨ es b ≠ 0) := by
      rw [es_mid (by omega) (by omega), es_mid (by omega) (by omega)]; omega
    rw [if_neg h, if_neg h, if_neg h2]
    exact ⟨rfl, rfl⟩
theorem prb_kind {a b : Int} (hb : 0 ≤ b) : (a = 0 ∧ prb a b = (0, 0, false)) ∨ (a ≠ 0 ∧ b = 0 ∧ prb a b = (0, 0, true)) ∨ (a ≠ 0 ∧ 0 < b ∧ (es a ≠ 0 ∨ es b ≠ 0) ∧ prb a b = ((if 0 < a then 1 else -1), 0, true)) ∨ (a ≠ 0 ∧ 0 < b ∧ es a = 0 ∧ es b = 0 ∧ prb a b = (0, fl a * fl b, false)) := by
  unfold prb
  by_cases h : a = 0
  · exact .inl ⟨h, if_pos h⟩
  · rw [if_neg h]
    by_cases h2 : b = 0
    · exact .inr (.inl ⟨h, h2, if_pos h2⟩)
    · rw [if_neg h2]
      by_cases h3 : es a ≠ 0 ∨ es b ≠ 0
      · exact .inr (.inr (.inl ⟨h, by omega, h3, if_pos h3⟩))
      · exact .inr (.inr (.inr ⟨h, by omega, by omega, by omega, if_neg h3⟩))
theorem prb_val {a b : Int} (h : (prb a b).1 = 0) : (prb a b).2.1 = fl a * fl b := by
  revert h
  unfold prb
  by_cases h1 : a = 0
  · subst h1; rw [if_pos rfl, fl_zero]; intro _; grind
  · rw [if_neg h1]
    by_cases h2 : b = 0
    · subst h2; rw [if_pos rfl, fl_zero]; intro _; grind
    · rw [if_neg h2]
      by_cases h3 : es a ≠ 0 ∨ es b ≠ 0
      · rw [if_pos h3]
        intro h
        exfalso
        dsimp only at h
        split at h <;> omega
      · rw [if_neg h3]; intro _; rfl
theorem mul_mono_r {a b c : Rat} (h : a ≤ b) (hc : 0 ≤ c) : a * c ≤ b * c := by
  by_cases h0 : c = 0
  · subst h0; grind
  · exact (mul_le_pos (by grind)).2 h
theorem mul_pos2 {a b : Rat} (ha : 0 < a) (hb : 0 < b) : 0 < a * b := by
  have h := (mul_le_pos (a := a * b) (b := 0) hb)
  have h2 := (mul_le_pos (a := a) (b := 0) hb)
  by_cases c : a * b ≤ 0
  · exfalso
    have := h2.1 (by grind)
    grind
  · grind
theorem vdA_kind {i1 j1 i2 : Int} (h1 : Ne i1 j1) (p1 : 0 < j1) (h2 : i2 < M) :
    ((vdA i1 j1 i2).1 = 0 ∨ (vdA i1 j1 i2).1 = -1) ∧ ((vdA i1 j1 i2).2.2 = true → (vdA i1 j1 i2).1 = -1 ∨ (vdA i1 j1 i2).1 = 0 ∧ (vdA i1 j1 i2).2.1 = 0) := by
  have hM : (M : Int) = 9218868437227405312 := rfl
  unfold Ne at h1
  unfold vdA
  by_cases h : 0 < i2
  · rw [if_pos h]
    rcases prb_kind (a := i2) (b := max i1 0) (by omega) with ⟨k, e⟩ | ⟨-, k, e⟩ | ⟨-, k, k2, e⟩ | ⟨-, k, k2, k3, e⟩
    · omega
    · rw [e]; exact ⟨.inl rfl, fun _ => .inr ⟨rfl, rfl⟩⟩
    · exfalso
      rcases k2 with k2 | k2
      · exact k2 (es_mid (by omega) (by omega))
      · exact k2 (es_mid (by omega) (by omega))
    · rw [e]; exact ⟨.inl rfl, fun h => by cases h⟩
  · rw [if_neg h]
    rcases prb_kind (a := i2) (b := j1) (by omega) with ⟨k, e⟩ | ⟨-, k, e⟩ | ⟨-, k, k2, e⟩ | ⟨-, k, k2, k3, e⟩
    · rw [e]; exact ⟨.inl rfl, fun h => by cases h⟩
    · omega
    · rw [e, if_neg h]; exact ⟨.inr rfl, fun _ => .inl rfl⟩
    · rw [e]; exact ⟨.inl rfl, fun h => by cases h⟩
theorem vdB_kind {i1 j1 j2 : Int} (h1 : Ne i1 j1) (p1 : 0 < j1) (h2 : -(M : Int) < j2) :
    ((vdB i1 j1 j2).1 = 0 ∨ (vdB i1 j1 j2).1 = 1) ∧ ((vdB i1 j1 j2).2.2 = true → (vdB i1 j1 j2).1 = 1 ∨ (vdB i1 j1 j2).1 = 0 ∧ (vdB i1 j1 j2).2.1 = 0) := by
  have hM : (M : Int) = 9218868437227405312 := rfl
  unfold Ne at h1
  unfold vdB
  by_cases h : j2 < 0
  · rw [if_pos h]
    rcases prb_kind (a := j2) (b := max i1 0) (by omega) with ⟨k, e⟩ | ⟨-, k, e⟩ | ⟨-, k, k2, e⟩ | ⟨-, k, k2, k3, e⟩
    · omega
    · rw [e]; exact ⟨.inl rfl, fun _ => .inr ⟨rfl, rfl⟩⟩
    · exfalso
      rcases k2 with k2 | k2
      · exact k2 (es_mid (by omega) (by omega))
      · exact k2 (es_mid (by omega) (by omega))
    · rw [e]; exact ⟨.inl rfl, fun h => by cases h⟩
  · rw [if_neg h]
    rcases prb_kind (a := j2) (b := j1) (by omega) with ⟨k, e⟩ | ⟨-, k, e⟩ | ⟨k0, k, k2, e⟩ | ⟨-, k, k2, k3, e⟩
    · rw [e]; exact ⟨.inl rfl, fun h => by cases h⟩
    · omega
    · rw [e, if_pos (by omega)]; exact ⟨.inr rfl, fun _ => .inl rfl⟩
    · rw [e]; exact ⟨.inl rfl, fun h => by cases h⟩
theorem vd_le {i1 j1 i2 j2 : Int} (h1 : Ne i1 j1) (h2 : Ne i2 j2) (p1 : 0 < j1) : dn (vdA i1 j1 i2).1 (vdA i1 j1 i2).2.1 ≤ up (vdB i1 j1 j2).1 (vdB i1 j1 j2).2.1 := by
  have hM : (M : Int) = 9218868437227405312 := rfl
  have n1 := h1
  have n2 := h2
  unfold Ne at n1 n2
  obtain ⟨ka, -⟩ := vdA_kind h1 p1 n2.2.2.2.1
  obtain ⟨kb, -⟩ := vdB_kind h1 p1 n2.2.2.2.2
  rcases ka with ka | ka
  · rcases kb with kb | kb
    · rw [ka, kb, dn_zero, up_zero]
      refine Int.le_trans (rndI_le _) (rndI_mono (.inr rfl) ?_)
      have ga := fl_nonneg (j := max i1 0) (by omega)
      have gb := fl_pos p1
      have gc := fl_le_iff.2 (show max i1 0 ≤ j1 by omega)
      have gd := fl_le_iff.2 n2.2.1
      revert ka kb
      unfold vdA vdB
      by_cases hi : 0 < i2
      · rw [if_pos hi, if_neg (show ¬ j2 < 0 by omega)]
        intro ka kb
        rw [prb_val ka, prb_val kb]
        have ci := fl_pos hi
        have m1 := mul_mono_r (c := fl i2) gc (by grind)
        have m2 := mul_mono_r (c := fl j1) gd (by grind)
        grind
      · rw [if_neg hi]
        have ci : fl i2 ≤ 0 := by have := fl_le_iff.2 (show i2 ≤ 0 by omega); rwa [fl_zero] at this
        by_cases hj : j2 < 0
        · rw [if_pos hj]
          intro ka kb
          rw [prb_val ka, prb_val kb]
          have cj : fl j2 ≤ 0 := by have := fl_le_iff.2 (show j2 ≤ 0 by omega); rwa [fl_zero] at this
          have m1 := mul_mono_r (c := -fl j2) gc (by grind)
          have m2 := mul_mono_r (c := fl j1) gd (by grind)
          grind
        · rw [if_neg hj]
          intro ka kb
          rw [prb_val ka, prb_val kb]
          have m2 := mul_mono_r (c := fl j1) gd (by grind)
          exact m2
    · rw [kb]
      have := dn_lt (s := (vdA i1 j1 i2).1) (x := (vdA i1 j1 i2).2.1) (.inl ka)
      unfold up
      rw [if_neg (by omega)]; omega
  · rw [ka]
    unfold dn
    rw [if_neg (by omega)]
    rcases kb with kb | kb
    · rw [kb, up_zero]
      have := rndI_up (vdB i1 j1 j2).2.1
      omega
    · unfold up
      rw [kb, if_neg (by omega)]; omega
theorem FV_iv {i1 j1 i2 j2 : Int} (h1 : Ne i1 j1) (h2 : Iv i2 j2) (i j : Int) (hx : Iv i j) : Iv (FV i1 j1 i2 j2 i j).1 (FV i1 j1 i2 j2 i j).2 := by
  unfold FV
  by_cases h : j1 ≤ 0 ∨ j2 < i2
  · rw [if_pos h]; exact Iv.none
  · rw [if_neg h]
    have n2 := ne_or h2 (by omega)
    have n2' := n2
    unfold Ne at n2'
    exact pf_iv (vdA_kind h1 (by omega) (by omega)).1 (vdB_kind h1 (by omega) (by omega)).1 (vd_le h1 n2 (by omega)) i j hx
theorem dvd_FV {i1 j1 i2 j2 i j : Int} (h1 : Ne i1 j1) (h2 : Ne i2 j2) (hx : Ne i j) : dvd i1 j1 i2 j2 i j = FV i1 j1 i2 j2 i j := by
  have hM : (M : Int) = 9218868437227405312 := rfl
  have n1 := h1
  have n2 := h2
  unfold Ne at n1 n2
  unfold dvd FV
  by_cases h : j1 ≤ 0
  · rw [if_pos h, if_pos (.inl h)]
  · rw [if_neg h, if_neg (by omega)]
    have z1 := rndI_zero (d := -1) (.inl rfl)
    have z2 := rndI_zero (d := 1) (.inr rfl)
    have eA : pdP i1 j1 i2 = (dn (vdA i1 j1 i2).1 (vdA i1 j1 i2).2.1, up (vdA i1 j1 i2).1 (vdA i1 j1 i2).2.1) := by
      unfold pdP vdA
      by_cases a : i2 < 0
      · rw [if_pos a, if_neg (show ¬ 0 < i2 by omega)]
        have m := mu_prb (a := i2) (b := j1) (by omega) (by omega) (by omega)
        rw [m.1, m.2]
      · rw [if_neg a]
        by_cases c : 0 < i2
        · rw [if_pos c]
          by_cases f : 0 < i1
          · rw [if_pos ⟨c, f⟩, show max i1 0 = i1 from by omega]
            have m := mu_prb (a := i2) (b := i1) (by omega) (by omega) (by omega)
            rw [m.1, m.2]
          · rw [if_neg (by omega), show max i1 0 = 0 from by omega]
            have e : prb i2 0 = (0, 0, true) := by unfold prb; rw [if_neg (by omega), if_pos rfl]
            rw [e, dn_zero, up_zero, z1, z2]
        · rw [if_neg (by omega), if_neg c, show i2 = 0 from by omega]
          have e : prb 0 j1 = (0, 0, false) := by unfold prb; rw [if_pos rfl]
          rw [e, dn_zero, up_zero, z1, z2]
    have eB : pdQ i1 j1 j2 = (dn (vdB i1 j1 j2).1 (vdB i1 j1 j2).2.1, up (vdB i1 j1 j2).1 (vdB i1 j1 j2).2.1) := by
      unfold pdQ vdB
      by_cases a : 0 < j2
      · rw [if_pos a, if_neg (show ¬ j2 < 0 by omega)]
        have m := mu_prb (a := j2) (b := j1) (by omega) (by omega) (by omega)
        rw [m.1, m.2]
      · rw [if_neg a]
        by_cases c : j2 < 0
        · rw [if_pos c]
          by_cases f : 0 < i1
          · rw [if_pos ⟨c, f⟩, show max i1 0 = i1 from by omega]
            have m := mu_prb (a := j2) (b := i1) (by omega) (by omega) (by omega)
            rw [m.1, m.2]
          · rw [if_neg (by omega), show max i1 0 = 0 from by omega]
            have e : prb j2 0 = (0, 0, true) := by unfold prb; rw [if_neg (by omega), if_pos rfl]
            rw [e, dn_zero, up_zero, z1, z2]
        · rw [if_neg (by omega), if_neg c, show j2 = 0 from by omega]
          have e : prb 0 j1 = (0, 0, false) := by unfold prb; rw [if_pos rfl]
          rw [e, dn_zero, up_zero, z1, z2]
    rw [eA, eB]
    obtain ⟨ka, wa⟩ := vdA_kind h1 (by omega) n2.2.2.2.1
    obtain ⟨kb, wb⟩ := vdB_kind h1 (by omega) n2.2.2.2.2
    have hop : (!decide (i2 ≤ 0 ∧ 0 ≤ j2)) = true ↔ (0 < i2 ∨ j2 < 0) := by simp <;> omega
    refine ct_tail hx ka kb wa wb ?_ ?_
    · rw [hop]
      unfold vdA
      by_cases a : 0 < i2
      · rw [if_pos a]
        by_cases f : 0 < i1
        · have m := prb_kind (a := i2) (b := max i1 0) (by omega)
          rw [show max i1 0 = i1 from by omega] at m ⊢
          rcases m with ⟨k, e⟩ | ⟨-, k, e⟩ | ⟨-, k, k2, e⟩ | ⟨-, k, k2, k3, e⟩
          · omega
          · omega
          · exfalso
            rcases k2 with k2 | k2
            · exact k2 (es_mid (by omega) (by omega))
            · exact k2 (es_mid (by omega) (by omega))
          · rw [e]
            have p := mul_pos2 (fl_pos a) (fl_pos f)
            have q := rndI_pos p
            constructor
            · rintro ⟨-, -, u⟩; rw [up_zero] at u; dsimp only at u; omega
            · rintro ⟨-, -, u⟩; cases u
        · rw [show max i1 0 = 0 from by omega]
          have e : prb i2 0 = (0, 0, true) := by unfold prb; rw [if_neg (by omega), if_pos rfl]
          rw [e]
          exact ⟨fun _ => ⟨rfl, rfl, rfl⟩, fun _ => ⟨.inl a, by rw [dn_zero]; exact z1, by rw [up_zero]; exact z2⟩⟩
      · rw [if_neg a]
        rcases prb_kind (a := i2) (b := j1) (by omega) with ⟨k, e⟩ | ⟨-, k, e⟩ | ⟨k0, k, k2, e⟩ | ⟨k0, k, k2, k3, e⟩
        · rw [e]
          constructor
          · rintro ⟨u, -⟩; omega
          · rintro ⟨-, -, u⟩; cases u
        · omega
        · rw [e, if_neg a]
          constructor
          · rintro ⟨-, u, -⟩; unfold dn at u; rw [if_neg (by omega)] at u; omega
          · rintro ⟨u, -⟩; omega
        · rw [e]
          constructor
          · rintro ⟨-, u, -⟩
            have p := mul_pos2 (a := -fl i2) (by have := fl_neg_lt (show i2 < 0 by omega); grind) (fl_pos k)
            have q := rndI_neg' (x := fl i2 * fl j1) (by grind)
            rw [dn_zero] at u; dsimp only at u; omega
          · rintro ⟨-, -, u⟩; cases u
    · rw [hop]
      unfold vdB
      by_cases a : j2 < 0
      · rw [if_pos a]
        by_cases f : 0 < i1
        · have m := prb_kind (a := j2) (b := max i1 0) (by omega)
          rw [show max i1 0 = i1 from by omega] at m ⊢
          rcases m with ⟨k, e⟩ | ⟨-, k, e⟩ | ⟨-, k, k2, e⟩ | ⟨-, k, k2, k3, e⟩
          · omega
          · omega
          · exfalso
            rcases k2 with k2 | k2
            · exact k2 (es_mid (by omega) (by omega))
            · exact k2 (es_mid (by omega) (by omega))
          · rw [e]
            have p := mul_pos2 (a := -fl j2) (by have := fl_neg_lt a; grind) (fl_pos f)
            have q := rndI_neg' (x := fl j2 * fl i1) (by grind)
            constructor
            · rintro ⟨-, u, -⟩; rw [dn_zero] at u; dsimp only at u; omega
            · rintro ⟨-, -, u⟩; cases u
        · rw [show max i1 0 = 0 from by omega]
          have e : prb j2 0 = (0, 0, true) := by unfold prb; rw [if_neg (by omega), if_pos rfl]
          rw [e]
          exact ⟨fun _ => ⟨rfl, rfl, rfl⟩, fun _ => ⟨.inr a, by rw [dn_zero]; exact z1, by rw [up_zero]; exact z2⟩⟩
      · rw [if_neg a]
        rcases prb_kind (a := j2) (b := j1) (by omega) with ⟨k, e⟩ | ⟨-, k, e⟩ | ⟨k0, k, k2, e⟩ | ⟨k0, k, k2, k3, e⟩
        · rw [e]
          constructor
          · rintro ⟨u, -⟩; omega
          · rintro ⟨-, -, u⟩; cases u
        · omega
        · rw [e, if_pos (show 0 < j2 by omega)]
          constructor
          · rintro ⟨-, u, -⟩; unfold dn at u; rw [if_neg (by omega)] at u; omega
          · rintro ⟨u, -⟩; omega
        · rw [e]
          constructor
          · rintro ⟨-, -, u⟩
            have q := rndI_pos (mul_pos2 (fl_pos (show 0 < j2 by omega)) (fl_pos k))
            rw [up_zero] at u; dsimp only at u; omega
          · rintro ⟨-, -, u⟩; cases u
end Go.Proofs.YtmjkmoahkanblaaGreat

namespace Go.Proofs.YtmjkmoahkanblaaGreat
open Go.RowKit
set_option maxRecDepth 8000 in
theorem divisors_none (K : Nat) (o1 o2 : Bool) (z1 z2 z3 z4 : Int) (g1 : Bool) (A1 : Option Addr) (n1 c1 : Nat) (B1 : Option Addr) (m1 d1 : Nat) (g2 : Bool) (A2 : Option Addr) (n2 c2 : Nat) (B2 : Option Addr) (m2 d2 : Nat) (g3 : Bool) (A3 : Option Addr) (n3 c3 : Nat) (B3 : Option Addr) (m3 d3 : Nat) (g4 : Bool) (A4 : Option Addr) (n4 c4 : Nat) (B4 : Option Addr) (m4 d4 : Nat) (u1 u2 : Bool) (y1 y2 y3 y4 : Int) (v1 v2 v3 v4 : Rat) (w : World) (hU1 : ∀ W, Below w.heap.size w W → Calls Tryz.prog 146 #[.agg #[.bool o1, .int .i64 z1, .bool g1, .slice A1 n1 c1, .slice B1 m1 d1, .int .i64 z2, .bool g2, .slice A2 n2 c2, .slice B2 m2 d2]] W (NewSet W K u1 y1 v1 y2 v2)) (hU2 : ∀ W, Below w.heap.size w W → Calls Tryz.prog 146 #[.agg #[.bool o2, .int .i64 z3, .bool g3, .slice A3 n3 c3, .slice B3 m3 d3, .int .i64 z4, .bool g4, .slice A4 n4 c4, .slice B4 m4 d4]] W (NewSet W K u2 y3 v3 y4 v4)) (hc : u1 = true ∨ u1 = false ∧ u2 = true) :
    Calls Tryz.prog 75 #[.agg #[.bool o1, .int .i64 z1, .bool g1, .slice A1 n1 c1, .slice B1 m1 d1, .int .i64 z2, .bool g2, .slice A2 n2 c2, .slice B2 m2 d2], .agg #[.bool o2, .int .i64 z3, .bool g3, .slice A3 n3 c3, .slice B3 m3 d3, .int .i64 z4, .bool g4, .slice A4 n4 c4, .slice B4 m4 d4]] w (NewPiece w 1 true 0 0 1 false 0 0 1 false) := by
  have HN := Lib.hid fun W => nothing_any W
  have HU1 := Lib.hid hU1
  have HU2 := Lib.hid hU2
  have HC := Lib.hid hc
  clear hU1 hU2 hc
  rcases HC.out with h | ⟨h, h2⟩ <;> subst h <;> (try subst h2) <;> clear HC
  · skip
    have LL := li3 w #[.bool o1, .int .i64 z1, .bool g1, .slice A1 n1 c1, .slice B1 m1 d1, .int .i64 z2, .bool g2, .slice A2 n2 c2, .slice B2 m2 d2] 69 #[.bool o2, .int .i64 z3, .bool g3, .slice A3 n3 c3, .slice B3 m3 d3, .int .i64 z4, .bool g4, .slice A4 n4 c4, .slice B4 m4 d4] 69 #[.bool false, .int .i64 0, .bool false, .slice none 0 0, .slice none 0 0, .int .i64 0, .bool false, .int .i64 0, .bool false, .slice none 0 0, .slice none 0 0, .int .i64 0, .bool false] 64
    go_enter Tryz.func75, Tryz.ntmps75
    obtain ⟨q1_0, q1_1, q1_2, q1_3, q1_4, q1_5, q1_6, q1_7, q1_8⟩ := (LL.out.blk 0 rfl).c9
    go_wp2_with fail
    refine (HU1.out _ LL.out.b).mono ?_
    rintro e wk ⟨g5, A5, n5, c5, B5, m5, d5, g6, A6, n6, c6, B6, m6, d6, rfl, hr5, hr6, hb⟩
    replace LL := stL LL hb
    clear hb q1_0 q1_1 q1_2 q1_3 q1_4 q1_5 q1_6 q1_7 q1_8
    have HR5 := Lib.hid hr5
    clear hr5
    have HR6 := Lib.hid hr6
    clear hr6
    go_upto_region 2 with fail
    have hl_j5 := LL.out.lts
    generalize hwn : World.alloc wk _ = wn
    replace HR5 := Lib.hid (HR5.out.below (below_allocE hwn))
    replace HR6 := Lib.hid (HR6.out.below (below_allocE hwn))
    replace LL := Lib.hid (LL.out.newE hwn)
    simp only [List.cons_append, List.nil_append] at LL
    simp only [List.mem_cons, List.not_mem_nil, or_false, forall_eq_or_imp, forall_eq, false_imp_iff, implies_true, and_true] at hl_j5
    clear hwn
    generalize wk.heap.size = j5 at LL hl_j5 ⊢
    obtain ⟨q2_0, q2_1, q2_2, q2_3, q2_4, q2_5, q2_6, q2_7, q2_8⟩ := (LL.out.blk 1 rfl).c9
    go_wp2_with fail
    refine (HU2.out _ LL.out.b).mono ?_
    rintro e wk ⟨g7, A7, n7, c7, B7, m7, d7, g8, A8, n8, c8, B8, m8, d8, rfl, hr7, hr8, hb⟩
    replace LL := stL LL hb
    replace HR5 := Lib.hid (HR5.out.below hb)
    replace HR6 := Lib.hid (HR6.out.below hb)
    clear hb q2_0 q2_1 q2_2 q2_3 q2_4 q2_5 q2_6 q2_7 q2_8
    have HR7 := Lib.hid hr7
    clear hr7
    have HR8 := Lib.hid hr8
    clear hr8
    go_upto_region 3 with fail
    have hl_j6 := LL.out.lts
    generalize hwn : World.alloc wk _ = wn
    replace HR5 := Lib.hid (HR5.out.below (below_allocE hwn))
    replace HR6 := Lib.hid (HR6.out.below (below_allocE hwn))
    replace HR7 := Lib.hid (HR7.out.below (below_allocE hwn))
    replace HR8 := Lib.hid (HR8.out.below (below_allocE hwn))
    replace LL := Lib.hid (LL.out.newE hwn)
    simp only [List.cons_append, List.nil_append] at LL
    simp only [List.mem_cons, List.not_mem_nil, or_false, forall_eq_or_imp, forall_eq, false_imp_iff, implies_true, and_true] at hl_j6
    clear hwn
    generalize wk.heap.size = j6 at LL hl_j6 ⊢
    clear HR5 HR6 HR7 HR8
    obtain ⟨q3_0, q3_1, q3_2, q3_3, q3_4, q3_5, q3_6, q3_7, q3_8⟩ := (LL.out.blk 3 rfl).c9
    obtain ⟨q4_0, q4_1, q4_2, q4_3, q4_4, q4_5, q4_6, q4_7, q4_8⟩ := (LL.out.blk 4 rfl).c9
    go_wp2_with fail
    refine (HN.out _).mono ?_
    rintro e wk ⟨g9, A9, n9, c9, B9, m9, d9, g10, A10, n10, c10, B10, m10, d10, rfl, hr9, hr10, hb⟩
    replace LL := stL LL hb
    clear hb q3_0 q3_1 q3_2 q3_3 q3_4 q3_5 q3_6 q3_7 q3_8 q4_0 q4_1 q4_2 q4_3 q4_4 q4_5 q4_6 q4_7 q4_8
    have HR9 := Lib.hid hr9
    clear hr9
    have HR10 := Lib.hid hr10
    clear hr10
    replace LL := Lib.hid (LL.out.loose 2 rfl rfl)
    simp only [List.eraseIdx, List.size_toArray, List.length_cons, List.length_nil, Nat.zero_add, Nat.reduceAdd] at LL
    have HRB := LL.out.has 0 rfl
    obtain ⟨ha4_0, hf4_0, ha4_1, hf4_1, ha4_2, hf4_2, ha4_3, hf4_3, ha4_4, hf4_4, ha4_5, hf4_5, ha4_6, hf4_6, ha4_7, hf4_7, ha4_8, hf4_8, ha4_9, hf4_9, ha4_10, hf4_10, ha4_11, hf4_11, ha4_12, hf4_12⟩ := (LL.out.has 0 rfl).sf13
    have LF := Lib.hid (LL.out.write [.bool true, .int .i64 0, .bool g9, .slice A9 n9 c9, .slice B9 m9 d9, .int .i64 1, .bool false, .int .i64 0, .bool g10, .slice A10 n10 c10, .slice B10 m10 d10, .int .i64 1, .bool false] rfl (by omega) (by simp <;> omega) (by simp <;> omega))
    obtain ⟨hk4_0, hk4_1, hk4_2, hk4_3, hk4_4, hk4_5, hk4_6, hk4_7, hk4_8, hk4_9, hk4_10, hk4_11, hk4_12⟩ := (LF.out.blk 4 rfl).c13
    simp [sets] at hk4_0 hk4_1 hk4_2 hk4_3 hk4_4 hk4_5 hk4_6 hk4_7 hk4_8 hk4_9 hk4_10 hk4_11 hk4_12
    clear LL
    go_wp2
    refine bodyPost_ret (v := .agg #[.bool true, .int .i64 0, .bool g9, .slice A9 n9 c9, .slice B9 m9 d9, .int .i64 1, .bool false, .int .i64 0, .bool g10, .slice A10 n10 c10, .slice B10 m10 d10, .int .i64 1, .bool false]) (by simp [results, Tryz.results75, go_sem, hk4_0, hk4_1, hk4_2, hk4_3, hk4_4, hk4_5, hk4_6, hk4_7, hk4_8, hk4_9, hk4_10, hk4_11, hk4_12]) rfl ?_
    exact ⟨g9, A9, n9, c9, B9, m9, d9, g10, A10, n10, c10, B10, m10, d10, rfl, HRB.rat HR9.out [.bool true, .int .i64 0, .bool g9, .slice A9 n9 c9, .slice B9 m9 d9, .int .i64 1, .bool false, .int .i64 0, .bool g10, .slice A10 n10 c10, .slice B10 m10 d10, .int .i64 1, .bool false], HRB.rat HR10.out [.bool true, .int .i64 0, .bool g9, .slice A9 n9 c9, .slice B9 m9 d9, .int .i64 1, .bool false, .int .i64 0, .bool g10, .slice A10 n10 c10, .slice B10 m10 d10, .int .i64 1, .bool false], LF.out.b⟩
  · skip
    have LL := li3 w #[.bool o1, .int .i64 z1, .bool g1, .slice A1 n1 c1, .slice B1 m1 d1, .int .i64 z2, .bool g2, .slice A2 n2 c2, .slice B2 m2 d2] 69 #[.bool o2, .int .i64 z3, .bool g3, .slice A3 n3 c3, .slice B3 m3 d3, .int .i64 z4, .bool g4, .slice A4 n4 c4, .slice B4 m4 d4] 69 #[.bool false, .int .i64 0, .bool false, .slice none 0 0, .slice none 0 0, .int .i64 0, .bool false, .int .i64 0, .bool false, .slice none 0 0, .slice none 0 0, .int .i64 0, .bool false] 64
    go_enter Tryz.func75, Tryz.ntmps75
    obtain ⟨q1_0, q1_1, q1_2, q1_3, q1_4, q1_5, q1_6, q1_7, q1_8⟩ := (LL.out.blk 0 rfl).c9
    go_wp2_with fail
    refine (HU1.out _ LL.out.b).mono ?_
    rintro e wk ⟨g5, A5, n5, c5, B5, m5, d5, g6, A6, n6, c6, B6, m6, d6, rfl, hr5, hr6, hb⟩
    replace LL := stL LL hb
    clear hb q1_0 q1_1 q1_2 q1_3 q1_4 q1_5 q1_6 q1_7 q1_8
    have HR5 := Lib.hid hr5
    clear hr5
    have HR6 := Lib.hid hr6
    clear hr6
    go_upto_region 2 with fail
    have hl_j5 := LL.out.lts
    generalize hwn : World.alloc wk _ = wn
    replace HR5 := Lib.hid (HR5.out.below (below_allocE hwn))
    replace HR6 := Lib.hid (HR6.out.below (below_allocE hwn))
    replace LL := Lib.hid (LL.out.newE hwn)
    simp only [List.cons_append, List.nil_append] at LL
    simp only [List.mem_cons, List.not_mem_nil, or_false, forall_eq_or_imp, forall_eq, false_imp_iff, implies_true, and_true] at hl_j5
    clear hwn
    generalize wk.heap.size = j5 at LL hl_j5 ⊢
    obtain ⟨q2_0, q2_1, q2_2, q2_3, q2_4, q2_5, q2_6, q2_7, q2_8⟩ := (LL.out.blk 1 rfl).c9
    go_wp2_with fail
    refine (HU2.out _ LL.out.b).mono ?_
    rintro e wk ⟨g7, A7, n7, c7, B7, m7, d7, g8, A8, n8, c8, B8, m8, d8, rfl, hr7, hr8, hb⟩
    replace LL := stL LL hb
    replace HR5 := Lib.hid (HR5.out.below hb)
    replace HR6 := Lib.hid (HR6.out.below hb)
    clear hb q2_0 q2_1 q2_2 q2_3 q2_4 q2_5 q2_6 q2_7 q2_8
    have HR7 := Lib.hid hr7
    clear hr7
    have HR8 := Lib.hid hr8
    clear hr8
    go_upto_region 3 with fail
    have hl_j6 := LL.out.lts
    generalize hwn : World.alloc wk _ = wn
    replace HR5 := Lib.hid (HR5.out.below (below_allocE hwn))
    replace HR6 := Lib.hid (HR6.out.below (below_allocE hwn))
    replace HR7 := Lib.hid (HR7.out.below (below_allocE hwn))
    replace HR8 := Lib.hid (HR8.out.below (below_allocE hwn))
    replace LL := Lib.hid (LL.out.newE hwn)
    simp only [List.cons_append, List.nil_append] at LL
    simp only [List.mem_cons, List.not_mem_nil, or_false, forall_eq_or_imp, forall_eq, false_imp_iff, implies_true, and_true] at hl_j6
    clear hwn
    generalize wk.heap.size = j6 at LL hl_j6 ⊢
    clear HR5 HR6 HR7 HR8
    obtain ⟨q3_0, q3_1, q3_2, q3_3, q3_4, q3_5, q3_6, q3_7, q3_8⟩ := (LL.out.blk 3 rfl).c9
    obtain ⟨q4_0, q4_1, q4_2, q4_3, q4_4, q4_5, q4_6, q4_7, q4_8⟩ := (LL.out.blk 4 rfl).c9
    go_wp2_with fail
    refine (HN.out _).mono ?_
    rintro e wk ⟨g9, A9, n9, c9, B9, m9, d9, g10, A10, n10, c10, B10, m10, d10, rfl, hr9, hr10, hb⟩
    replace LL := stL LL hb
    clear hb q3_0 q3_1 q3_2 q3_3 q3_4 q3_5 q3_6 q3_7 q3_8 q4_0 q4_1 q4_2 q4_3 q4_4 q4_5 q4_6 q4_7 q4_8
    have HR9 := Lib.hid hr9
    clear hr9
    have HR10 := Lib.hid hr10
    clear hr10
    replace LL := Lib.hid (LL.out.loose 2 rfl rfl)
    simp only [List.eraseIdx, List.size_toArray, List.length_cons, List.length_nil, Nat.zero_add, Nat.reduceAdd] at LL
    have HRB := LL.out.has 0 rfl
    obtain ⟨ha4_0, hf4_0, ha4_1, hf4_1, ha4_2, hf4_2, ha4_3, hf4_3, ha4_4, hf4_4, ha4_5, hf4_5, ha4_6, hf4_6, ha4_7, hf4_7, ha4_8, hf4_8, ha4_9, hf4_9, ha4_10, hf4_10, ha4_11, hf4_11, ha4_12, hf4_12⟩ := (LL.out.has 0 rfl).sf13
    have LF := Lib.hid (LL.out.write [.bool true, .int .i64 0, .bool g9, .slice A9 n9 c9, .slice B9 m9 d9, .int .i64 1, .bool false, .int .i64 0, .bool g10, .slice A10 n10 c10, .slice B10 m10 d10, .int .i64 1, .bool false] rfl (by omega) (by simp <;> omega) (by simp <;> omega))
    obtain ⟨hk4_0, hk4_1, hk4_2, hk4_3, hk4_4, hk4_5, hk4_6, hk4_7, hk4_8, hk4_9, hk4_10, hk4_11, hk4_12⟩ := (LF.out.blk 4 rfl).c13
    simp [sets] at hk4_0 hk4_1 hk4_2 hk4_3 hk4_4 hk4_5 hk4_6 hk4_7 hk4_8 hk4_9 hk4_10 hk4_11 hk4_12
    clear LL
    go_wp2
    refine bodyPost_ret (v := .agg #[.bool true, .int .i64 0, .bool g9, .slice A9 n9 c9, .slice B9 m9 d9, .int .i64 1, .bool false, .int .i64 0, .bool g10, .slice A10 n10 c10, .slice B10 m10 d10, .int .i64 1, .bool false]) (by simp [results, Tryz.results75, go_sem, hk4_0, hk4_1, hk4_2, hk4_3, hk4_4, hk4_5, hk4_6, hk4_7, hk4_8, hk4_9, hk4_10, hk4_11, hk4_12]) rfl ?_
    exact ⟨g9, A9, n9, c9, B9, m9, d9, g10, A10, n10, c10, B10, m10, d10, rfl, HRB.rat HR9.out [.bool true, .int .i64 0, .bool g9, .slice A9 n9 c9, .slice B9 m9 d9, .int .i64 1, .bool false, .int .i64 0, .bool g10, .slice A10 n10 c10, .slice B10 m10 d10, .int .i64 1, .bool false], HRB.rat HR10.out [.bool true, .int .i64 0, .bool g9, .slice A9 n9 c9, .slice B9 m9 d9, .int .i64 1, .bool false, .int .i64 0, .bool g10, .slice A10 n10 c10, .slice B10 m10 d10, .int .i64 1, .bool false], LF.out.b⟩
set_option maxRecDepth 8000 in
theorem divisors_some (K : Nat) (o1 o2 : Bool) (z1 z2 z3 z4 : Int) (g1 : Bool) (A1 : Option Addr) (n1 c1 : Nat) (B1 : Option Addr) (m1 d1 : Nat) (g2 : Bool) (A2 : Option Addr) (n2 c2 : Nat) (B2 : Option Addr) (m2 d2 : Nat) (g3 : Bool) (A3 : Option Addr) (n3 c3 : Nat) (B3 : Option Addr) (m3 d3 : Nat) (g4 : Bool) (A4 : Option Addr) (n4 c4 : Nat) (B4 : Option Addr) (m4 d4 : Nat) (y1 y2 y3 y4 : Int) (v1 v2 v3 v4 : Rat) (a1 a2 : Int) (kA kB : Bool) (sA sB : Int) (xA xB : Rat) (pA pB : Bool) (w : World) (hK : 1 ≤ K) (hU1 : ∀ W, Below w.heap.size w W → Calls Tryz.prog 146 #[.agg #[.bool o1, .int .i64 z1, .bool g1, .slice A1 n1 c1, .slice B1 m1 d1, .int .i64 z2, .bool g2, .slice A2 n2 c2, .slice B2 m2 d2]] W (NewSet W K false y1 v1 y2 v2)) (hU2 : ∀ W, Below w.heap.size w W → Calls Tryz.prog 146 #[.agg #[.bool o2, .int .i64 z3, .bool g3, .slice A3 n3 c3, .slice B3 m3 d3, .int .i64 z4, .bool g4, .slice A4 n4 c4, .slice B4 m4 d4]] W (NewSet W K false y3 v3 y4 v4))
    (hS1 : ∀ W (g5 : Bool) (A5 : Option Addr) (n5 c5 : Nat) (B5 : Option Addr) (m5 d5 : Nat), RatV W K g5 (.slice A5 n5 c5) (.slice B5 m5 d5) v1 → Calls Tryz.prog 86 #[.agg #[.int .i64 y1, .bool g5, .slice A5 n5 c5, .slice B5 m5 d5]] W fun e w' => e = .returned (.int .i64 a1) ∧ Below W.heap.size W w') (hS2 : ∀ W (g7 : Bool) (A7 : Option Addr) (n7 c7 : Nat) (B7 : Option Addr) (m7 d7 : Nat), RatV W K g7 (.slice A7 n7 c7) (.slice B7 m7 d7) v3 → Calls Tryz.prog 86 #[.agg #[.int .i64 y3, .bool g7, .slice A7 n7 c7, .slice B7 m7 d7]] W fun e w' => e = .returned (.int .i64 a2) ∧ Below W.heap.size W w')
    (hcA : (decide (0 < a1) = false ∧ kA = false) ∨ (decide (0 < a1) = true ∧ ((y4 = 0 ∧ kA = true) ∨ (y4 = 1 ∧ kA = false)))) (hcB : (y2 = 1 ∧ kB = false) ∨ (y2 = 0 ∧ ((decide (0 < a2) = true ∧ kB = true) ∨ (decide (0 < a2) = false ∧ kB = false))))
    (hR1 : kA = true → ∀ W (g5 : Bool) (A5 : Option Addr) (n5 c5 : Nat) (B5 : Option Addr) (m5 d5 : Nat) (g8 : Bool) (A8 : Option Addr) (n8 c8 : Nat) (B8 : Option Addr) (m8 d8 : Nat), RatV W K g5 (.slice A5 n5 c5) (.slice B5 m5 d5) v1 → RatV W K g8 (.slice A8 n8 c8) (.slice B8 m8 d8) v4 → Calls Tryz.prog 147 #[.agg #[.int .i64 y1, .bool g5, .slice A5 n5 c5, .slice B5 m5 d5], .agg #[.int .i64 y4, .bool g8, .slice A8 n8 c8, .slice B8 m8 d8]] W (NewBd W (2 * K) sA xA 1 pA)) (hA : kA = false → sA = 0 ∧ xA = 0 ∧ pA = true)
    (hR2 : kB = true → ∀ W (g6 : Bool) (A6 : Option Addr) (n6 c6 : Nat) (B6 : Option Addr) (m6 d6 : Nat) (g7 : Bool) (A7 : Option Addr) (n7 c7 : Nat) (B7 : Option Addr) (m7 d7 : Nat), RatV W K g6 (.slice A6 n6 c6) (.slice B6 m6 d6) v2 → RatV W K g7 (.slice A7 n7 c7) (.slice B7 m7 d7) v3 → Calls Tryz.prog 147 #[.agg #[.int .i64 y2, .bool g6, .slice A6 n6 c6, .slice B6 m6 d6], .agg #[.int .i64 y3, .bool g7, .slice A7 n7 c7, .slice B7 m7 d7]] W (NewBd W (2 * K) sB xB 1 pB)) (hB : kB = false → sB = 1 ∧ xB = 0 ∧ pB = true) :
    Calls Tryz.prog 75 #[.agg #[.bool o1, .int .i64 z1, .bool g1, .slice A1 n1 c1, .slice B1 m1 d1, .int .i64 z2, .bool g2, .slice A2 n2 c2, .slice B2 m2 d2], .agg #[.bool o2, .int .i64 z3, .bool g3, .slice A3 n3 c3, .slice B3 m3 d3, .int .i64 z4, .bool g4, .slice A4 n4 c4, .slice B4 m4 d4]] w (NewPiece w (2 * K) false sA xA 1 pA sB xB 1 pB) := by
  have HW := Lib.hid (show ∀ W, Calls Tryz.prog 115 #[.int .i64 0, .bool true] W (NewBd W 1 0 0 1 true) from fun W => whole_nat 0 true W (by omega))
  have HF := Lib.hid fun W => far_any 1 W
  have HK := Lib.hid hK
  have HU1 := Lib.hid hU1
  have HU2 := Lib.hid hU2
  have HS1 := Lib.hid hS1
  have HS2 := Lib.hid hS2
  have HR1 := Lib.hid hR1
  have HA := Lib.hid hA
  have HR2 := Lib.hid hR2
  have HB := Lib.hid hB
  have HCA := Lib.hid hcA
  have HCB := Lib.hid hcB
  clear hU1 hU2 hS1 hS2 hR1 hA hR2 hB hcA hcB
  clear hK
  have LL := li3 w #[.bool o1, .int .i64 z1, .bool g1, .slice A1 n1 c1, .slice B1 m1 d1, .int .i64 z2, .bool g2, .slice A2 n2 c2, .slice B2 m2 d2] 69 #[.bool o2, .int .i64 z3, .bool g3, .slice A3 n3 c3, .slice B3 m3 d3, .int .i64 z4, .bool g4, .slice A4 n4 c4, .slice B4 m4 d4] 69 #[.bool false, .int .i64 0, .bool false, .slice none 0 0, .slice none 0 0, .int .i64 0, .bool false, .int .i64 0, .bool false, .slice none 0 0, .slice none 0 0, .int .i64 0, .bool false] 64
  go_enter Tryz.func75, Tryz.ntmps75
  obtain ⟨q1_0, q1_1, q1_2, q1_3, q1_4, q1_5, q1_6, q1_7, q1_8⟩ := (LL.out.blk 0 rfl).c9
  go_wp2_with fail
  refine (HU1.out _ LL.out.b).mono ?_
  rintro e wk ⟨g5, A5, n5, c5, B5, m5, d5, g6, A6, n6, c6, B6, m6, d6, rfl, hr5, hr6, hb⟩
  replace LL := stL LL hb
  clear hb q1_0 q1_1 q1_2 q1_3 q1_4 q1_5 q1_6 q1_7 q1_8
  have HR5 := Lib.hid hr5
  clear hr5
  have HR6 := Lib.hid hr6
  clear hr6
  go_upto_region 2 with fail
  have hl_j5 := LL.out.lts
  generalize hwn : World.alloc wk _ = wn
  replace HR5 := Lib.hid (HR5.out.below (below_allocE hwn))
  replace HR6 := Lib.hid (HR6.out.below (below_allocE hwn))
  replace LL := Lib.hid (LL.out.newE hwn)
  simp only [List.cons_append, List.nil_append] at LL
  simp only [List.mem_cons, List.not_mem_nil, or_false, forall_eq_or_imp, forall_eq, false_imp_iff, implies_true, and_true] at hl_j5
  clear hwn
  generalize wk.heap.size = j5 at LL hl_j5 ⊢
  obtain ⟨q2_0, q2_1, q2_2, q2_3, q2_4, q2_5, q2_6, q2_7, q2_8⟩ := (LL.out.blk 1 rfl).c9
  go_wp2_with fail
  refine (HU2.out _ LL.out.b).mono ?_
  rintro e wk ⟨g7, A7, n7, c7, B7, m7, d7, g8, A8, n8, c8, B8, m8, d8, rfl, hr7, hr8, hb⟩
  replace LL := stL LL hb
  replace HR5 := Lib.hid (HR5.out.below hb)
  replace HR6 := Lib.hid (HR6.out.below hb)
  clear hb q2_0 q2_1 q2_2 q2_3 q2_4 q2_5 q2_6 q2_7 q2_8
  have HR7 := Lib.hid hr7
  clear hr7
  have HR8 := Lib.hid hr8
  clear hr8
  go_upto_region 3 with fail
  have hl_j6 := LL.out.lts
  generalize hwn : World.alloc wk _ = wn
  replace HR5 := Lib.hid (HR5.out.below (below_allocE hwn))
  replace HR6 := Lib.hid (HR6.out.below (below_allocE hwn))
  replace HR7 := Lib.hid (HR7.out.below (below_allocE hwn))
  replace HR8 := Lib.hid (HR8.out.below (below_allocE hwn))
  replace LL := Lib.hid (LL.out.newE hwn)
  simp only [List.cons_append, List.nil_append] at LL
  simp only [List.mem_cons, List.not_mem_nil, or_false, forall_eq_or_imp, forall_eq, false_imp_iff, implies_true, and_true] at hl_j6
  clear hwn
  generalize wk.heap.size = j6 at LL hl_j6 ⊢
  obtain ⟨q3_0, q3_1, q3_2, q3_3, q3_4, q3_5, q3_6, q3_7, q3_8⟩ := (LL.out.blk 3 rfl).c9
  obtain ⟨q4_0, q4_1, q4_2, q4_3, q4_4, q4_5, q4_6, q4_7, q4_8⟩ := (LL.out.blk 4 rfl).c9
  go_wp2_with fail
  refine (HW.out _).mono ?_
  rintro e wk ⟨g9, A9, n9, c9, B9, m9, d9, rfl, hr9, hb⟩
  replace LL := stL LL hb
  replace HR5 := Lib.hid (HR5.out.below hb)
  replace HR6 := Lib.hid (HR6.out.below hb)
  replace HR7 := Lib.hid (HR7.out.below hb)
  replace HR8 := Lib.hid (HR8.out.below hb)
  clear hb q3_0 q3_1 q3_2 q3_3 q3_4 q3_5 q3_6 q3_7 q3_8 q4_0 q4_1 q4_2 q4_3 q4_4 q4_5 q4_6 q4_7 q4_8
  have HR9 := Lib.hid hr9
  clear hr9
  go_wp2_with fail
  refine (HF.out _).mono ?_
  rintro e wk ⟨g10, A10, n10, c10, B10, m10, d10, rfl, hr10, hb⟩
  replace LL := stL LL hb
  replace HR5 := Lib.hid (HR5.out.below hb)
  replace HR6 := Lib.hid (HR6.out.below hb)
  replace HR7 := Lib.hid (HR7.out.below hb)
  replace HR8 := Lib.hid (HR8.out.below hb)
  replace HR9 := Lib.hid (HR9.out.below hb)
  clear hb
  have HR10 := Lib.hid hr10
  clear hr10
  go_upto_region 6 with fail
  have hl_j7 := LL.out.lts
  generalize hwn : World.alloc wk _ = wn
  replace HR5 := Lib.hid (HR5.out.below (below_allocE hwn))
  replace HR6 := Lib.hid (HR6.out.below (below_allocE hwn))
  replace HR7 := Lib.hid (HR7.out.below (below_allocE hwn))
  replace HR8 := Lib.hid (HR8.out.below (below_allocE hwn))
  replace HR9 := Lib.hid (HR9.out.below (below_allocE hwn))
  replace HR10 := Lib.hid (HR10.out.below (below_allocE hwn))
  replace LL := Lib.hid (LL.out.newE hwn)
  simp only [List.cons_append, List.nil_append] at LL
  simp only [List.mem_cons, List.not_mem_nil, or_false, forall_eq_or_imp, forall_eq, false_imp_iff, implies_true, and_true] at hl_j7
  clear hwn
  generalize wk.heap.size = j7 at LL hl_j7 ⊢
  clear HW HF HU1 HU2
  go_cut [31] (fun s31 wx => s31 = .bool kA ∧ Lies w wx [(w.heap.size, 69, #[.bool o1, .int .i64 z1, .bool g1, .slice A1 n1 c1, .slice B1 m1 d1, .int .i64 z2, .bool g2, .slice A2 n2 c2, .slice B2 m2 d2]), ((w.heap.size + 1), 69, #[.bool o2, .int .i64 z3, .bool g3, .slice A3 n3 c3, .slice B3 m3 d3, .int .i64 z4, .bool g4, .slice A4 n4 c4, .slice B4 m4 d4]), ((w.heap.size + 2), 64, #[.bool false, .int .i64 0, .bool false, .slice none 0 0, .slice none 0 0, .int .i64 0, .bool false, .int .i64 0, .bool false, .slice none 0 0, .slice none 0 0, .int .i64 0, .bool false]), (j5, 69, #[.bool false, .int .i64 y1, .bool g5, .slice A5 n5 c5, .slice B5 m5 d5, .int .i64 y2, .bool g6, .slice A6 n6 c6, .slice B6 m6 d6]), (j6, 69, #[.bool false, .int .i64 y3, .bool g7, .slice A7 n7 c7, .slice B7 m7 d7, .int .i64 y4, .bool g8, .slice A8 n8 c8, .slice B8 m8 d8]), (j7, 64, #[.bool false, .int .i64 0, .bool g9, .slice A9 n9 c9, .slice B9 m9 d9, .int .i64 1, .bool true, .int .i64 1, .bool g10, .slice A10 n10 c10, .slice B10 m10 d10, .int .i64 1, .bool true])] [] ∧ RatV wx K g5 (.slice A5 n5 c5) (.slice B5 m5 d5) v1 ∧ RatV wx K g6 (.slice A6 n6 c6) (.slice B6 m6 d6) v2 ∧ RatV wx K g7 (.slice A7 n7 c7) (.slice B7 m7 d7) v3 ∧ RatV wx K g8 (.slice A8 n8 c8) (.slice B8 m8 d8) v4 ∧ RatV wx 1 g9 (.slice A9 n9 c9) (.slice B9 m9 d9) 0 ∧ RatV wx 1 g10 (.slice A10 n10 c10) (.slice B10 m10 d10) 0)
  case first =>
    rcases HCA.out with ⟨h, h2⟩ | ⟨h, ⟨h2, h3⟩ | ⟨h2, h3⟩⟩ <;> subst h2 <;> (try subst h3)
    all_goals
      obtain ⟨q5_0, q5_1, q5_2, q5_3, q5_4, q5_5, q5_6, q5_7, q5_8⟩ := (LL.out.blk 3 rfl).c9
      obtain ⟨q6_0, q6_1, q6_2, q6_3, q6_4, q6_5, q6_6, q6_7, q6_8⟩ := (LL.out.blk 4 rfl).c9
      go_wp2_with fail
      refine (HS1.out _ _ _ _ _ _ _ _ HR5.out).mono ?_
      rintro e wk ⟨rfl, hb⟩
      replace LL := stL LL hb
      replace HR5 := Lib.hid (HR5.out.below hb)
      replace HR6 := Lib.hid (HR6.out.below hb)
      replace HR7 := Lib.hid (HR7.out.below hb)
      replace HR8 := Lib.hid (HR8.out.below hb)
      replace HR9 := Lib.hid (HR9.out.below hb)
      replace HR10 := Lib.hid (HR10.out.below hb)
      clear hb q5_0 q5_1 q5_2 q5_3 q5_4 q5_5 q5_6 q5_7 q5_8 q6_0 q6_1 q6_2 q6_3 q6_4 q6_5 q6_6 q6_7 q6_8
      obtain ⟨q7_0, q7_1, q7_2, q7_3, q7_4, q7_5, q7_6, q7_7, q7_8⟩ := (LL.out.blk 3 rfl).c9
      obtain ⟨q8_0, q8_1, q8_2, q8_3, q8_4, q8_5, q8_6, q8_7, q8_8⟩ := (LL.out.blk 4 rfl).c9
      go_wp2_with fail
      go_meet
      case rel => exact ⟨rfl, LL.out, HR5.out, HR6.out, HR7.out, HR8.out, HR9.out, HR10.out⟩
  case rest =>
  obtain ⟨rfl, hcl, hr5, hr6, hr7, hr8, hr9, hr10⟩ := hcut
  rename World => wx
  clear LL HR5 HR6 HR7 HR8 HR9 HR10
  have LL := Lib.hid hcl
  clear hcl
  have HR5 := Lib.hid hr5
  clear hr5
  have HR6 := Lib.hid hr6
  clear hr6
  have HR7 := Lib.hid hr7
  clear hr7
  have HR8 := Lib.hid hr8
  clear hr8
  have HR9 := Lib.hid hr9
  clear hr9
  have HR10 := Lib.hid hr10
  clear hr10
  clear HS1 HCA
  go_upto_if 31 with fail
  go_cut [] (fun wx => ∃ (g11 : Bool) (A11 : Option Addr) (n11 c11 : Nat) (B11 : Option Addr) (m11 d11 : Nat), Lies w wx [(w.heap.size, 69, #[.bool o1, .int .i64 z1, .bool g1, .slice A1 n1 c1, .slice B1 m1 d1, .int .i64 z2, .bool g2, .slice A2 n2 c2, .slice B2 m2 d2]), ((w.heap.size + 1), 69, #[.bool o2, .int .i64 z3, .bool g3, .slice A3 n3 c3, .slice B3 m3 d3, .int .i64 z4, .bool g4, .slice A4 n4 c4, .slice B4 m4 d4]), ((w.heap.size + 2), 64, #[.bool false, .int .i64 0, .bool false, .slice none 0 0, .slice none 0 0, .int .i64 0, .bool false, .int .i64 0, .bool false, .slice none 0 0, .slice none 0 0, .int .i64 0, .bool false]), (j5, 69, #[.bool false, .int .i64 y1, .bool g5, .slice A5 n5 c5, .slice B5 m5 d5, .int .i64 y2, .bool g6, .slice A6 n6 c6, .slice B6 m6 d6]), (j6, 69, #[.bool false, .int .i64 y3, .bool g7, .slice A7 n7 c7, .slice B7 m7 d7, .int .i64 y4, .bool g8, .slice A8 n8 c8, .slice B8 m8 d8]), (j7, 64, #[.bool false, .int .i64 sA, .bool g11, .slice A11 n11 c11, .slice B11 m11 d11, .int .i64 1, .bool pA, .int .i64 1, .bool g10, .slice A10 n10 c10, .slice B10 m10 d10, .int .i64 1, .bool true])] [] ∧ RatV wx K g5 (.slice A5 n5 c5) (.slice B5 m5 d5) v1 ∧ RatV wx K g6 (.slice A6 n6 c6) (.slice B6 m6 d6) v2 ∧ RatV wx K g7 (.slice A7 n7 c7) (.slice B7 m7 d7) v3 ∧ RatV wx K g8 (.slice A8 n8 c8) (.slice B8 m8 d8) v4 ∧ RatV wx 1 g10 (.slice A10 n10 c10) (.slice B10 m10 d10) 0 ∧ RatV wx (2 * K) g11 (.slice A11 n11 c11) (.slice B11 m11 d11) xA)
  case first =>
    cases kA
    · skip
      obtain ⟨rfl, rfl, rfl⟩ := HA.out rfl
      go_wp2_with fail
      go_meet
      case rel => exact ⟨g9, A9, n9, c9, B9, m9, d9, LL.out, HR5.out, HR6.out, HR7.out, HR8.out, HR10.out, (HR9.out.mono (by have := HK.out; omega))⟩
    · skip
      obtain ⟨q5_0, q5_1, q5_2, q5_3, q5_4, q5_5, q5_6, q5_7, q5_8⟩ := (LL.out.blk 3 rfl).c9
      obtain ⟨q6_0, q6_1, q6_2, q6_3, q6_4, q6_5, q6_6, q6_7, q6_8⟩ := (LL.out.blk 4 rfl).c9
      go_wp2_with fail
      refine ((HR1.out (by trivial)) _ _ _ _ _ _ _ _ _ _ _ _ _ _ _ HR5.out HR8.out).mono ?_
      rintro e wk ⟨g11, A11, n11, c11, B11, m11, d11, rfl, hr11, hb⟩
      replace LL := stL LL hb
      replace HR5 := Lib.hid (HR5.out.below hb)
      replace HR6 := Lib.hid (HR6.out.below hb)
      replace HR7 := Lib.hid (HR7.out.below hb)
      replace HR8 := Lib.hid (HR8.out.below hb)
      replace HR9 := Lib.hid (HR9.out.below hb)
      replace HR10 := Lib.hid (HR10.out.below hb)
      clear hb q5_0 q5_1 q5_2 q5_3 q5_4 q5_5 q5_6 q5_7 q5_8 q6_0 q6_1 q6_2 q6_3 q6_4 q6_5 q6_6 q6_7 q6_8
      have HR11 := Lib.hid hr11
      clear hr11
      obtain ⟨q7_0, q7_1, q7_2, q7_3, q7_4, q7_5, q7_6, q7_7, q7_8, q7_9, q7_10, q7_11, q7_12⟩ := (LL.out.blk 5 rfl).c13
      have fz1 := (LL.out.blk 5 rfl).frozen 1
      have fz2 := (LL.out.blk 5 rfl).frozen 2
      have fz3 := (LL.out.blk 5 rfl).frozen 3
      have fz4 := (LL.out.blk 5 rfl).frozen 4
      have fz5 := (LL.out.blk 5 rfl).frozen 5
      have fz6 := (LL.out.blk 5 rfl).frozen 6
      go_wp2_with fail
      clear q7_0 q7_1 q7_2 q7_3 q7_4 q7_5 q7_6 q7_7 q7_8 q7_9 q7_10 q7_11 q7_12 fz1 fz2 fz3 fz4 fz5 fz6
      have PB_7 := LL.out.blk 5 rfl
      replace LL := Lib.hid (LL.out.part 5 rfl 1 [.int .i64 sA, .bool g11, .slice A11 n11 c11, .slice B11 m11 d11, .int .i64 1, .bool pA] (by omega) (by simp <;> omega) (by simp <;> omega))
      simp only [List.eraseIdx, laid, List.cons_append, List.nil_append, List.setIfInBounds_toArray, List.set_cons_zero, List.set_cons_succ, Nat.zero_add, Nat.reduceAdd] at LL
      replace HR5 := Lib.hid (HR5.out.sets PB_7 (nowd rfl) 1 [.int .i64 sA, .bool g11, .slice A11 n11 c11, .slice B11 m11 d11, .int .i64 1, .bool pA])
      replace HR6 := Lib.hid (HR6.out.sets PB_7 (nowd rfl) 1 [.int .i64 sA, .bool g11, .slice A11 n11 c11, .slice B11 m11 d11, .int .i64 1, .bool pA])
      replace HR7 := Lib.hid (HR7.out.sets PB_7 (nowd rfl) 1 [.int .i64 sA, .bool g11, .slice A11 n11 c11, .slice B11 m11 d11, .int .i64 1, .bool pA])
      replace HR8 := Lib.hid (HR8.out.sets PB_7 (nowd rfl) 1 [.int .i64 sA, .bool g11, .slice A11 n11 c11, .slice B11 m11 d11, .int .i64 1, .bool pA])
      replace HR9 := Lib.hid (HR9.out.sets PB_7 (nowd rfl) 1 [.int .i64 sA, .bool g11, .slice A11 n11 c11, .slice B11 m11 d11, .int .i64 1, .bool pA])
      replace HR10 := Lib.hid (HR10.out.sets PB_7 (nowd rfl) 1 [.int .i64 sA, .bool g11, .slice A11 n11 c11, .slice B11 m11 d11, .int .i64 1, .bool pA])
      replace HR11 := Lib.hid (HR11.out.sets PB_7 (nowd rfl) 1 [.int .i64 sA, .bool g11, .slice A11 n11 c11, .slice B11 m11 d11, .int .i64 1, .bool pA])
      obtain ⟨wn, hwn⟩ : ∃ X, (sets wk j7 1 [.int .i64 sA, .bool g11, .slice A11 n11 c11, .slice B11 m11 d11, .int .i64 1, .bool pA]) = X := ⟨_, rfl⟩
      rw [hwn] at LL HR5 HR6 HR7 HR8 HR9 HR10 HR11
      simp only [sets, Nat.reduceAdd] at hwn
      rw [hwn]
      clear hwn PB_7
      go_meet
      case rel => exact ⟨g11, A11, n11, c11, B11, m11, d11, (LL.out.perm (by simp) (by simp)), HR5.out, HR6.out, HR7.out, HR8.out, HR10.out, HR11.out⟩
  case rest =>
  obtain ⟨g11, A11, n11, c11, B11, m11, d11, hcl, hr5, hr6, hr7, hr8, hr10, hr11⟩ := hcut
  rename World => wx
  clear LL HR5 HR6 HR7 HR8 HR9 HR10
  have LL := Lib.hid hcl
  clear hcl
  have HR5 := Lib.hid hr5
  clear hr5
  have HR6 := Lib.hid hr6
  clear hr6
  have HR7 := Lib.hid hr7
  clear hr7
  have HR8 := Lib.hid hr8
  clear hr8
  have HR10 := Lib.hid hr10
  clear hr10
  have HR11 := Lib.hid hr11
  clear hr11
  clear HR1 HA
  go_upto_region 8 with fail
  go_cut [47] (fun s47 wx => s47 = .bool kB ∧ Lies w wx [(w.heap.size, 69, #[.bool o1, .int .i64 z1, .bool g1, .slice A1 n1 c1, .slice B1 m1 d1, .int .i64 z2, .bool g2, .slice A2 n2 c2, .slice B2 m2 d2]), ((w.heap.size + 1), 69, #[.bool o2, .int .i64 z3, .bool g3, .slice A3 n3 c3, .slice B3 m3 d3, .int .i64 z4, .bool g4, .slice A4 n4 c4, .slice B4 m4 d4]), ((w.heap.size + 2), 64, #[.bool false, .int .i64 0, .bool false, .slice none 0 0, .slice none 0 0, .int .i64 0, .bool false, .int .i64 0, .bool false, .slice none 0 0, .slice none 0 0, .int .i64 0, .bool false]), (j5, 69, #[.bool false, .int .i64 y1, .bool g5, .slice A5 n5 c5, .slice B5 m5 d5, .int .i64 y2, .bool g6, .slice A6 n6 c6, .slice B6 m6 d6]), (j6, 69, #[.bool false, .int .i64 y3, .bool g7, .slice A7 n7 c7, .slice B7 m7 d7, .int .i64 y4, .bool g8, .slice A8 n8 c8, .slice B8 m8 d8]), (j7, 64, #[.bool false, .int .i64 sA, .bool g11, .slice A11 n11 c11, .slice B11 m11 d11, .int .i64 1, .bool pA, .int .i64 1, .bool g10, .slice A10 n10 c10, .slice B10 m10 d10, .int .i64 1, .bool true])] [] ∧ RatV wx K g5 (.slice A5 n5 c5) (.slice B5 m5 d5) v1 ∧ RatV wx K g6 (.slice A6 n6 c6) (.slice B6 m6 d6) v2 ∧ RatV wx K g7 (.slice A7 n7 c7) (.slice B7 m7 d7) v3 ∧ RatV wx K g8 (.slice A8 n8 c8) (.slice B8 m8 d8) v4 ∧ RatV wx (2 * K) g11 (.slice A11 n11 c11) (.slice B11 m11 d11) xA ∧ RatV wx 1 g10 (.slice A10 n10 c10) (.slice B10 m10 d10) 0)
  case first =>
    rcases HCB.out with ⟨h, h2⟩ | ⟨h, ⟨h2, h3⟩ | ⟨h2, h3⟩⟩ <;> subst h <;> (first | subst h2 | subst h3)
    · skip
      obtain ⟨q5_0, q5_1, q5_2, q5_3, q5_4, q5_5, q5_6, q5_7, q5_8⟩ := (LL.out.blk 3 rfl).c9
      obtain ⟨q6_0, q6_1, q6_2, q6_3, q6_4, q6_5, q6_6, q6_7, q6_8⟩ := (LL.out.blk 4 rfl).c9
      go_wp2_with fail
      go_meet
      case rel => exact ⟨rfl, LL.out, HR5.out, HR6.out, HR7.out, HR8.out, HR11.out, HR10.out⟩
    all_goals
      obtain ⟨q5_0, q5_1, q5_2, q5_3, q5_4, q5_5, q5_6, q5_7, q5_8⟩ := (LL.out.blk 3 rfl).c9
      obtain ⟨q6_0, q6_1, q6_2, q6_3, q6_4, q6_5, q6_6, q6_7, q6_8⟩ := (LL.out.blk 4 rfl).c9
      go_wp2_with fail
      refine (HS2.out _ _ _ _ _ _ _ _ HR7.out).mono ?_
      rintro e wk ⟨rfl, hb⟩
      replace LL := stL LL hb
      replace HR5 := Lib.hid (HR5.out.below hb)
      replace HR6 := Lib.hid (HR6.out.below hb)
      replace HR7 := Lib.hid (HR7.out.below hb)
      replace HR8 := Lib.hid (HR8.out.below hb)
      replace HR10 := Lib.hid (HR10.out.below hb)
      replace HR11 := Lib.hid (HR11.out.below hb)
      clear hb q5_0 q5_1 q5_2 q5_3 q5_4 q5_5 q5_6 q5_7 q5_8 q6_0 q6_1 q6_2 q6_3 q6_4 q6_5 q6_6 q6_7 q6_8
      obtain ⟨q7_0, q7_1, q7_2, q7_3, q7_4, q7_5, q7_6, q7_7, q7_8⟩ := (LL.out.blk 3 rfl).c9
      obtain ⟨q8_0, q8_1, q8_2, q8_3, q8_4, q8_5, q8_6, q8_7, q8_8⟩ := (LL.out.blk 4 rfl).c9
      go_wp2_with fail
      go_meet
      case rel => exact ⟨rfl, LL.out, HR5.out, HR6.out, HR7.out, HR8.out, HR11.out, HR10.out⟩
  case rest =>
  obtain ⟨rfl, hcl, hr5, hr6, hr7, hr8, hr11, hr10⟩ := hcut
  rename World => wx
  clear LL HR5 HR6 HR7 HR8 HR10 HR11
  have LL := Lib.hid hcl
  clear hcl
  have HR5 := Lib.hid hr5
  clear hr5
  have HR6 := Lib.hid hr6
  clear hr6
  have HR7 := Lib.hid hr7
  clear hr7
  have HR8 := Lib.hid hr8
  clear hr8
  have HR11 := Lib.hid hr11
  clear hr11
  have HR10 := Lib.hid hr10
  clear hr10
  clear HS2 HCB
  go_upto_if 47 with fail
  go_cut [] (fun wx => ∃ (g12 : Bool) (A12 : Option Addr) (n12 c12 : Nat) (B12 : Option Addr) (m12 d12 : Nat), Lies w wx [(w.heap.size, 69, #[.bool o1, .int .i64 z1, .bool g1, .slice A1 n1 c1, .slice B1 m1 d1, .int .i64 z2, .bool g2, .slice A2 n2 c2, .slice B2 m2 d2]), ((w.heap.size + 1), 69, #[.bool o2, .int .i64 z3, .bool g3, .slice A3 n3 c3, .slice B3 m3 d3, .int .i64 z4, .bool g4, .slice A4 n4 c4, .slice B4 m4 d4]), ((w.heap.size + 2), 64, #[.bool false, .int .i64 0, .bool false, .slice none 0 0, .slice none 0 0, .int .i64 0, .bool false, .int .i64 0, .bool false, .slice none 0 0, .slice none 0 0, .int .i64 0, .bool false]), (j5, 69, #[.bool false, .int .i64 y1, .bool g5, .slice A5 n5 c5, .slice B5 m5 d5, .int .i64 y2, .bool g6, .slice A6 n6 c6, .slice B6 m6 d6]), (j6, 69, #[.bool false, .int .i64 y3, .bool g7, .slice A7 n7 c7, .slice B7 m7 d7, .int .i64 y4, .bool g8, .slice A8 n8 c8, .slice B8 m8 d8]), (j7, 64, #[.bool false, .int .i64 sA, .bool g11, .slice A11 n11 c11, .slice B11 m11 d11, .int .i64 1, .bool pA, .int .i64 sB, .bool g12, .slice A12 n12 c12, .slice B12 m12 d12, .int .i64 1, .bool pB])] [] ∧ RatV wx (2 * K) g11 (.slice A11 n11 c11) (.slice B11 m11 d11) xA ∧ RatV wx (2 * K) g12 (.slice A12 n12 c12) (.slice B12 m12 d12) xB)
  case first =>
    cases kB
    · skip
      obtain ⟨rfl, rfl, rfl⟩ := HB.out rfl
      go_wp2_with fail
      go_meet
      case rel => exact ⟨g10, A10, n10, c10, B10, m10, d10, LL.out, HR11.out, (HR10.out.mono (by have := HK.out; omega))⟩
    · skip
      obtain ⟨q5_0, q5_1, q5_2, q5_3, q5_4, q5_5, q5_6, q5_7, q5_8⟩ := (LL.out.blk 3 rfl).c9
      obtain ⟨q6_0, q6_1, q6_2, q6_3, q6_4, q6_5, q6_6, q6_7, q6_8⟩ := (LL.out.blk 4 rfl).c9
      go_wp2_with fail
      refine ((HR2.out (by trivial)) _ _ _ _ _ _ _ _ _ _ _ _ _ _ _ HR6.out HR7.out).mono ?_
      rintro e wk ⟨g12, A12, n12, c12, B12, m12, d12, rfl, hr12, hb⟩
      replace LL := stL LL hb
      replace HR5 := Lib.hid (HR5.out.below hb)
      replace HR6 := Lib.hid (HR6.out.below hb)
      replace HR7 := Lib.hid (HR7.out.below hb)
      replace HR8 := Lib.hid (HR8.out.below hb)
      replace HR11 := Lib.hid (HR11.out.below hb)
      replace HR10 := Lib.hid (HR10.out.below hb)
      clear hb q5_0 q5_1 q5_2 q5_3 q5_4 q5_5 q5_6 q5_7 q5_8 q6_0 q6_1 q6_2 q6_3 q6_4 q6_5 q6_6 q6_7 q6_8
      have HR12 := Lib.hid hr12
      clear hr12
      obtain ⟨q7_0, q7_1, q7_2, q7_3, q7_4, q7_5, q7_6, q7_7, q7_8, q7_9, q7_10, q7_11, q7_12⟩ := (LL.out.blk 5 rfl).c13
      have fz7 := (LL.out.blk 5 rfl).frozen 7
      have fz8 := (LL.out.blk 5 rfl).frozen 8
      have fz9 := (LL.out.blk 5 rfl).frozen 9
      have fz10 := (LL.out.blk 5 rfl).frozen 10
      have fz11 := (LL.out.blk 5 rfl).frozen 11
      have fz12 := (LL.out.blk 5 rfl).frozen 12
      go_wp2_with fail
      clear q7_0 q7_1 q7_2 q7_3 q7_4 q7_5 q7_6 q7_7 q7_8 q7_9 q7_10 q7_11 q7_12 fz7 fz8 fz9 fz10 fz11 fz12
      have PB_7 := LL.out.blk 5 rfl
      replace LL := Lib.hid (LL.out.part 5 rfl 7 [.int .i64 sB, .bool g12, .slice A12 n12 c12, .slice B12 m12 d12, .int .i64 1, .bool pB] (by omega) (by simp <;> omega) (by simp <;> omega))
      simp only [List.eraseIdx, laid, List.cons_append, List.nil_append, List.setIfInBounds_toArray, List.set_cons_zero, List.set_cons_succ, Nat.zero_add, Nat.reduceAdd] at LL
      replace HR5 := Lib.hid (HR5.out.sets PB_7 (nowd rfl) 7 [.int .i64 sB, .bool g12, .slice A12 n12 c12, .slice B12 m12 d12, .int .i64 1, .bool pB])
      replace HR6 := Lib.hid (HR6.out.sets PB_7 (nowd rfl) 7 [.int .i64 sB, .bool g12, .slice A12 n12 c12, .slice B12 m12 d12, .int .i64 1, .bool pB])
      replace HR7 := Lib.hid (HR7.out.sets PB_7 (nowd rfl) 7 [.int .i64 sB, .bool g12, .slice A12 n12 c12, .slice B12 m12 d12, .int .i64 1, .bool pB])
      replace HR8 := Lib.hid (HR8.out.sets PB_7 (nowd rfl) 7 [.int .i64 sB, .bool g12, .slice A12 n12 c12, .slice B12 m12 d12, .int .i64 1, .bool pB])
      replace HR11 := Lib.hid (HR11.out.sets PB_7 (nowd rfl) 7 [.int .i64 sB, .bool g12, .slice A12 n12 c12, .slice B12 m12 d12, .int .i64 1, .bool pB])
      replace HR10 := Lib.hid (HR10.out.sets PB_7 (nowd rfl) 7 [.int .i64 sB, .bool g12, .slice A12 n12 c12, .slice B12 m12 d12, .int .i64 1, .bool pB])
      replace HR12 := Lib.hid (HR12.out.sets PB_7 (nowd rfl) 7 [.int .i64 sB, .bool g12, .slice A12 n12 c12, .slice B12 m12 d12, .int .i64 1, .bool pB])
      obtain ⟨wn, hwn⟩ : ∃ X, (sets wk j7 7 [.int .i64 sB, .bool g12, .slice A12 n12 c12, .slice B12 m12 d12, .int .i64 1, .bool pB]) = X := ⟨_, rfl⟩
      rw [hwn] at LL HR5 HR6 HR7 HR8 HR11 HR10 HR12
      simp only [sets, Nat.reduceAdd] at hwn
      rw [hwn]
      clear hwn PB_7
      go_meet
      case rel => exact ⟨g12, A12, n12, c12, B12, m12, d12, (LL.out.perm (by simp) (by simp)), HR11.out, HR12.out⟩
  case rest =>
  obtain ⟨g12, A12, n12, c12, B12, m12, d12, hcl, hr11, hr12⟩ := hcut
  rename World => wx
  clear LL HR5 HR6 HR7 HR8 HR11 HR10
  have LL := Lib.hid hcl
  clear hcl
  have HR11 := Lib.hid hr11
  clear hr11
  have HR12 := Lib.hid hr12
  clear hr12
  clear HR2 HB
  obtain ⟨q5_0, q5_1, q5_2, q5_3, q5_4, q5_5, q5_6, q5_7, q5_8, q5_9, q5_10, q5_11, q5_12⟩ := (LL.out.blk 5 rfl).c13
  replace LL := Lib.hid (LL.out.loose 2 rfl rfl)
  simp only [List.eraseIdx, List.size_toArray, List.length_cons, List.length_nil, Nat.zero_add, Nat.reduceAdd] at LL
  have HRB := LL.out.has 0 rfl
  obtain ⟨ha4_0, hf4_0, ha4_1, hf4_1, ha4_2, hf4_2, ha4_3, hf4_3, ha4_4, hf4_4, ha4_5, hf4_5, ha4_6, hf4_6, ha4_7, hf4_7, ha4_8, hf4_8, ha4_9, hf4_9, ha4_10, hf4_10, ha4_11, hf4_11, ha4_12, hf4_12⟩ := (LL.out.has 0 rfl).sf13
  have LF := Lib.hid (LL.out.write [.bool false, .int .i64 sA, .bool g11, .slice A11 n11 c11, .slice B11 m11 d11, .int .i64 1, .bool pA, .int .i64 sB, .bool g12, .slice A12 n12 c12, .slice B12 m12 d12, .int .i64 1, .bool pB] rfl (by omega) (by simp <;> omega) (by simp <;> omega))
  obtain ⟨hk4_0, hk4_1, hk4_2, hk4_3, hk4_4, hk4_5, hk4_6, hk4_7, hk4_8, hk4_9, hk4_10, hk4_11, hk4_12⟩ := (LF.out.blk 5 rfl).c13
  simp [sets] at hk4_0 hk4_1 hk4_2 hk4_3 hk4_4 hk4_5 hk4_6 hk4_7 hk4_8 hk4_9 hk4_10 hk4_11 hk4_12
  clear LL
  go_wp2
  refine bodyPost_ret (v := .agg #[.bool false, .int .i64 sA, .bool g11, .slice A11 n11 c11, .slice B11 m11 d11, .int .i64 1, .bool pA, .int .i64 sB, .bool g12, .slice A12 n12 c12, .slice B12 m12 d12, .int .i64 1, .bool pB]) (by simp [results, Tryz.results75, go_sem, hk4_0, hk4_1, hk4_2, hk4_3, hk4_4, hk4_5, hk4_6, hk4_7, hk4_8, hk4_9, hk4_10, hk4_11, hk4_12]) rfl ?_
  exact ⟨g11, A11, n11, c11, B11, m11, d11, g12, A12, n12, c12, B12, m12, d12, rfl, HRB.rat HR11.out [.bool false, .int .i64 sA, .bool g11, .slice A11 n11 c11, .slice B11 m11 d11, .int .i64 1, .bool pA, .int .i64 sB, .bool g12, .slice A12 n12 c12, .slice B12 m12 d12, .int .i64 1, .bool pB], HRB.rat HR12.out [.bool false, .int .i64 sA, .bool g11, .slice A11 n11 c11, .slice B11 m11 d11, .int .i64 1, .bool pA, .int .i64 sB, .bool g12, .slice A12 n12 c12, .slice B12 m12 d12, .int .i64 1, .bool pB], LF.out.b⟩
end Go.Proofs.YtmjkmoahkanblaaGreat
