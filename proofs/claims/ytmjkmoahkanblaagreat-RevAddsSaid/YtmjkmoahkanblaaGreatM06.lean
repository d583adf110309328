/-
Walks: packages vergeref3 and vergeref6, patterns.
Walks: package vergeref3, made, infinite, greatest.
A block of a call's own, laid cell after cell.
Walks: package vergeref6, intervals of patterns.
Walks: package vergeref6, Read.
Walks: package vergeref2, RNeg of what is below nought.
Walks: package vergeref6, ends.
-/
import Derived.Test.YtmjkmoahkanblaaGreatM05
import Derived.Test.YtmjkmoahkanblaaGreatM04
set_option linter.unusedSimpArgs false
set_option linter.unusedVariables false

namespace Go.Proofs.YtmjkmoahkanblaaGreat
open Go.RowKit

theorem size_i {b : Nat} (hb : b < 18446744073709551616) : bits .andNot .u64 (b : Int) 9223372036854775808 = ((rungOf b : Nat) : Int) := by
  have := u64_andNot_nat b 9223372036854775808 hb (by omega)
  rw [show (18446744073709551615 - 9223372036854775808 : Nat) = 2^63 - 1 from rfl, Nat.and_two_pow_sub_one_eq_mod] at this
  exact this

theorem isnan_any (b : Nat) (w : World) (hb : b < 18446744073709551616) :
    Calls Tryz.prog 195 #[.int .u64 (b : Int)] w fun e w' => e = .returned (.bool (decide (M < rungOf b))) ∧ ∃ k, w' = w.drewN k := by
  have H := Lib.hid (size_i hb)
  go_enter Tryz.func195, Tryz.ntmps195
  go_wp2
  go_ret
  rw [H.out, M_val]
  exact ⟨ret_bool (by simp only [decide_eq_decide]; omega), 0, rfl⟩
theorem isinf_any (b : Nat) (w : World) (hb : b < 18446744073709551616) :
    Calls Tryz.prog 137 #[.int .u64 (b : Int)] w fun e w' => e = .returned (.bool (decide (rungOf b = M))) ∧ ∃ k, w' = w.drewN k := by
  have H := Lib.hid (size_i hb)
  go_enter Tryz.func137, Tryz.ntmps137
  go_wp2
  go_ret
  rw [H.out, M_val]
  refine ⟨ret_bool ?_, 0, rfl⟩
  rw [Bool.eq_iff_iff]
  simp only [beq_iff_eq, decide_eq_true_eq]
  omega
theorem plain_any (b : Nat) (w : World) (hb : b < 18446744073709551616) :
    Calls Tryz.prog 136 #[.int .u64 (b : Int)] w fun e w' => e = .returned (.int .u64 (pl b : Int)) ∧ ∃ k, w' = w.drewN k := by
  have H := Lib.hid fun W => isnan_any b W hb
  rcases Nat.lt_trichotomy b 9223372036854775808 with h | h | h
  all_goals
    first
    | (subst h
       go_enter Tryz.func136, Tryz.ntmps136
       go_wp2
       go_ret
       exact ⟨ret_int rfl, 0, rfl⟩)
    | (have h1 : ((b : Int) == 9223372036854775808) = false := by simp; omega
       have hp : pl b = if M < rungOf b then 9221120237041090561 else b := by unfold pl; rw [if_neg (by omega)]
       have HP := Lib.hid hp
       rcases Nat.lt_or_ge M (rungOf b) with h2 | h2
       · rw [if_pos h2] at hp
         rw [decide_eq_true h2] at H
         rw [hp]
         clear h hp HP h2
         go_enter Tryz.func136, Tryz.ntmps136
         go_wp2_with (refine (H.out _).mono ?_; rintro e w1 ⟨rfl, k, rfl⟩)
         go_ret
         exact ⟨rfl, k, rfl⟩
       · rw [if_neg (by omega)] at hp
         rw [decide_eq_false (show ¬ M < rungOf b from by omega)] at H
         rw [hp]
         clear h hp HP h2
         go_enter Tryz.func136, Tryz.ntmps136
         go_wp2_with (refine (H.out _).mono ?_; rintro e w1 ⟨rfl, k, rfl⟩)
         go_ret
         exact ⟨rfl, k, rfl⟩)
theorem key_any (b : Nat) (w : World) (hb : b < 18446744073709551616) :
    Calls Tryz.prog 231 #[.int .u64 (b : Int)] w fun e w' => e = .returned (.int .u64 (keyOf b : Int)) ∧ ∃ k, w' = w.drewN k := by
  have H := Lib.hid fun W => plain_any b W hb
  have hp := pl_lt b hb
  obtain ⟨p, hpp⟩ : ∃ p, pl b = p := ⟨_, rfl⟩
  have hk : keyOf b = if 9223372036854775808 ≤ p then 18446744073709551615 - p else p + 9223372036854775808 := by unfold keyOf; rw [hpp]
  rw [hpp] at H hp
  rw [hk]
  have HP := Lib.hid hp
  obtain ⟨r, hr⟩ : ∃ r, (if 9223372036854775808 ≤ p then 18446744073709551615 - p else p + 9223372036854775808) = r := ⟨_, rfl⟩
  rw [hr]
  rcases Nat.lt_or_ge p 9223372036854775808 with h | h
  · rw [if_neg (by omega)] at hr
    have h1 : decide (9223372036854775808 ≤ (p : Int)) = false := by simp; omega
    have h2 : bits .or .u64 (p : Int) 9223372036854775808 = ((r : Nat) : Int) := by
      have := u64_or_nat p 9223372036854775808 hp (by omega)
      rw [Nat.or_comm, nat_join 63 _ _ (by decide) (by exact h), Nat.add_comm, hr] at this; exact this
    clear h hp hk hpp hr
    go_enter Tryz.func231, Tryz.ntmps231
    go_wp2_with fail
    refine (H.out _).mono ?_
    rintro e w1 ⟨rfl, k, rfl⟩
    go_wp2
    go_ret
    exact ⟨ret_int rfl, k, rfl⟩
  · rw [if_pos h] at hr
    have h1 : (9223372036854775808 ≤ (p : Int)) := by omega
    have h2 : bits .xor .u64 18446744073709551615 (p : Int) = ((r : Nat) : Int) := by
      have := u64_xor_nat 18446744073709551615 p (by omega) hp
      rw [show (18446744073709551615 : Nat) = 2^64 - 1 from rfl] at this
      rw [show ((18446744073709551615 : Int)) = ((2^64 - 1 : Nat) : Int) from rfl, this, ← hr]
      congr 1
      apply Nat.eq_of_testBit_eq
      intro i
      rw [Nat.testBit_xor, Nat.testBit_two_pow_sub_one, show 2^64 - 1 - p = 2^64 - (p + 1) from by omega, Nat.testBit_two_pow_sub_succ hp]
      by_cases hi : i < 64
      · simp [hi]
      · simp [hi]
        exact Nat.testBit_lt_two_pow (Nat.lt_of_lt_of_le hp (Nat.pow_le_pow_right (n := 2) (by omega) (by omega : 64 ≤ i)))
    have H2 := Lib.hid h2
    clear h hp hk hpp h2 hr
    go_enter Tryz.func231, Tryz.ntmps231
    go_wp2_with (refine (H.out _).mono ?_; rintro e w1 ⟨rfl, k, rfl⟩)
    go_ret
    exact ⟨ret_int H2.out, k, rfl⟩
theorem above_any (x y : Nat) (w : World) (hx : x < 18446744073709551616) (hy : y < 18446744073709551616) :
    Calls Tryz.prog 196 #[.int .u64 (x : Int), .int .u64 (y : Int)] w fun e w' => e = .returned (.bool (decide (rungOf x ≤ M ∧ rungOf y ≤ M ∧ idx y < idx x))) ∧ ∃ k, w' = w.drewN k := by
  have H1 := Lib.hid fun W => isnan_any x W hx
  have H2 := Lib.hid fun W => isnan_any y W hy
  have K1 := Lib.hid fun W => key_any x W hx
  have K2 := Lib.hid fun W => key_any y W hy
  by_cases h1 : M < rungOf x
  · rw [decide_eq_true h1] at H1
    rw [decide_eq_false (show ¬ (rungOf x ≤ M ∧ rungOf y ≤ M ∧ idx y < idx x) from by omega)]
    clear h1
    go_enter Tryz.func196, Tryz.ntmps196
    go_wp2_with (first | (go_at_call 195; refine (H1.out _).mono ?_; rintro e w1 ⟨rfl, k, rfl⟩))
    go_ret
    exact ⟨rfl, k, rfl⟩
  · rw [decide_eq_false h1] at H1
    by_cases h2 : M < rungOf y
    · rw [decide_eq_true h2] at H2
      rw [decide_eq_false (show ¬ (rungOf x ≤ M ∧ rungOf y ≤ M ∧ idx y < idx x) from by omega)]
      clear h1 h2
      go_enter Tryz.func196, Tryz.ntmps196
      go_wp2_with fail
      refine (H1.out _).mono ?_; rintro e w1 ⟨rfl, k, rfl⟩
      go_wp2_with fail
      refine (H2.out _).mono ?_; rintro e w1 ⟨rfl, k2, rfl⟩
      go_wp2
      go_ret
      exact ⟨rfl, k + k2, rfl⟩
    · rw [decide_eq_false h2] at H2
      have hk := key_lt hy hx (by omega) (by omega)
      have hd : decide (rungOf x ≤ M ∧ rungOf y ≤ M ∧ idx y < idx x) = decide (keyOf y < keyOf x) := by
        rw [decide_eq_decide]; omega
      rw [hd]
      clear h1 h2 hk hd
      go_enter Tryz.func196, Tryz.ntmps196
      go_wp2_with fail
      refine (H1.out _).mono ?_; rintro e w1 ⟨rfl, k, rfl⟩
      go_wp2_with fail
      refine (H2.out _).mono ?_; rintro e w1 ⟨rfl, k2, rfl⟩
      go_wp2_with fail
      refine (K1.out _).mono ?_; rintro e w1 ⟨rfl, k3, rfl⟩
      go_wp2_with fail
      refine (K2.out _).mono ?_; rintro e w1 ⟨rfl, k4, rfl⟩
      go_wp2
      go_ret
      exact ⟨rfl, k + k2 + k3 + k4, rfl⟩

end Go.Proofs.YtmjkmoahkanblaaGreat

namespace Go.Proofs.YtmjkmoahkanblaaGreat
open Go.RowKit

theorem infinite_any (neg : Bool) (w : World) :
    Calls Tryz.prog 204 #[.bool neg] w fun e w' => e = .returned (.int .u64 (pat (sg neg M) : Int)) ∧ w = w' := by
  cases neg
  · rw [show pat (sg false M) = 9218868437227405312 from by decide]
    go_enter Tryz.func204, Tryz.ntmps204
    go_wp2
    go_ret
    exact ⟨rfl, rfl⟩
  · rw [show pat (sg true M) = 18442240474082181120 from by decide]
    go_enter Tryz.func204, Tryz.ntmps204
    go_wp2
    go_ret
    exact ⟨rfl, rfl⟩

set_option maxHeartbeats 3200000 in
theorem made_any (neg : Bool) (s k : Nat) (w : World) (hs : s ≤ 9007199254740992) (hk : k ≤ 2045) (hf : k = 0 ∨ 4503599627370496 ≤ s) (hT : k * 4503599627370496 + s < 9218868437227405312) :
    Calls Tryz.prog 208 #[.bool neg, .int .u64 (s : Int), .int .i64 ((k : Int) - 1074)] w fun e w' => e = .returned (.int .u64 (pat (sg neg (k * 4503599627370496 + s)) : Int)) ∧ w = w' := by
  rcases Nat.eq_zero_or_pos s with h0 | h0
  · subst h0
    have hk0 : k = 0 := by omega
    subst hk0
    rw [show pat (sg neg (0 * 4503599627370496 + 0)) = 0 from by cases neg <;> rfl]
    go_enter Tryz.func208, Tryz.ntmps208
    go_wp2
    go_ret
    exact ⟨rfl, rfl⟩
  · obtain ⟨T, hTT⟩ : ∃ T, k * 4503599627370496 + s = T := ⟨_, rfl⟩
    rw [hTT] at hT ⊢
    obtain ⟨P, hP⟩ : ∃ P, pat (sg neg T) = P := ⟨_, rfl⟩
    rw [hP]
    have hT0 : 0 < T := by omega
    have hP0 : neg = false → P = T := by rintro rfl; rw [← hP]; show pat (T : Int) = T; rw [pat_nn (by omega)]; omega
    have hP1 : neg = true → bits .or .u64 (T : Int) 9223372036854775808 = (P : Int) := by
      rintro rfl
      have := u64_or_nat T 9223372036854775808 (by omega) (by omega)
      rw [Nat.or_comm, nat_join 63 _ _ (by decide) (by omega)] at this
      rw [← hP]; show _ = ((pat (-(T : Int)) : Nat) : Int); rw [pat_neg (by omega), Int.natAbs_neg, Int.natAbs_natCast]; exact this
    have HP0 := Lib.hid hP0
    have HP1 := Lib.hid hP1
    have HT := Lib.hid hT
    clear hP hP0 hP1 hT
    go_enter Tryz.func208, Tryz.ntmps208
    have hs0 : ((s : Int) == 0) = false := by simp; omega
    go_wp2
    go_loop [1, 2] (fun v y => ∃ s k : Nat, v = .int .u64 (s : Int) ∧ y = .int .i64 ((k : Int) - 1074) ∧ 0 < s ∧ s ≤ 9007199254740992 ∧ k ≤ 2046 ∧ (k = 0 ∨ 4503599627370496 ≤ s) ∧ k * 4503599627370496 + s = T) (fun v _ => (intOf v).toNat)
    case atStart => exact ⟨s, k, rfl, rfl, h0, hs, by omega, hf, hTT⟩
    case round =>
      clear hs0 hs hk hf hTT h0
      obtain ⟨s, k, rfl, rfl, h0, hs, hk, hf, hTT⟩ := hrel
      by_cases h1 : 9007199254740992 ≤ s
      · have c1 : decide (9007199254740992 ≤ (s : Int)) = true := by simp; omega
        have h3 : s = 9007199254740992 := by omega
        have hTl := HT.out
        have hA : 4503599627370496 ≤ s / 2 := by omega
        have hB : (k + 1) * 4503599627370496 + s / 2 = T := by
          have e1 : s / 2 = 4503599627370496 := by omega
          have e2 := Nat.succ_mul k 4503599627370496
          rw [show (k + 1) * 4503599627370496 = k * 4503599627370496 + 4503599627370496 from e2, e1, Nat.add_assoc, ← hTT, h3]
        have hC : k + 1 ≤ 2046 := by omega
        have hD : s / 2 ≤ 9007199254740992 := by omega
        have hE : 0 < s / 2 := by omega
        have HA := Lib.hid hA
        have HB := Lib.hid hB
        have HC := Lib.hid hC
        have HD := Lib.hid hD
        have HE := Lib.hid hE
        clear hTT hf h1 h3 hA hB hC hD hE hTl
        go_wp2
        go_round
        case rel => exact ⟨s / 2, k + 1, by go_num, by go_num, HE.out, HD.out, HC.out, .inr HA.out, HB.out⟩
        case measure => simp [intOf]; omega
      · have c1 : decide (9007199254740992 ≤ (s : Int)) = false := by simp; omega
        have m1 := and1_u64 (x := s) (by omega)
        have c2 : decide ((k : Int) - 1074 < -1074) = false := by simp; omega
        obtain ⟨r, hr⟩ : ∃ r, s % 2 = r := ⟨_, rfl⟩
        rw [hr] at m1
        have hr2 : r = 0 ∨ r = 1 := by omega
        have HTT := Lib.hid hTT
        have HF := Lib.hid hf
        clear hr hTT hf
        rcases hr2 with rfl | rfl
        all_goals
          go_wp2
          go_loop [1, 2] (fun v y => v = .int .u64 (s : Int) ∧ y = .int .i64 ((k : Int) - 1074)) (fun _ _ => 0)
          case atStart => exact ⟨rfl, rfl⟩
          case round =>
            obtain ⟨rfl, rfl⟩ := hrel
            by_cases h2 : 4503599627370496 ≤ s
            · have c3 : decide ((s : Int) < 4503599627370496) = false := by simp; omega
              have c4 : decide (4503599627370496 ≤ (s : Int)) = true := by simp; omega
              have he : (s : Int) - 4503599627370496 + ((k : Int) - 1074 + 1075) * 4503599627370496 = (T : Int) := by have := HTT.out; omega
              cases neg
              · go_wp2
                go_ret
                exact ⟨ret_int (by have := HP0.out trivial; omega), rfl⟩
              · go_wp2
                go_ret
                exact ⟨ret_int (HP1.out trivial), rfl⟩
            · have c3 : decide ((s : Int) < 4503599627370496) = true := by simp; omega
              have c4 : decide (4503599627370496 ≤ (s : Int)) = false := by simp; omega
              have hk0 : k = 0 := by have := HF.out; omega
              have c5 : decide (-1074 < (k : Int) - 1074) = false := by simp; omega
              have he : s = T := by have := HTT.out; omega
              have HE := Lib.hid he
              clear hk0 he h2
              cases neg
              · go_wp2
                go_ret
                exact ⟨ret_int (by have := HP0.out trivial; have := HE.out; omega), rfl⟩
              · go_wp2
                go_ret
                exact ⟨ret_int (by have := HP1.out trivial; rw [← HE.out] at this; exact this), rfl⟩

theorem greatest_any (neg : Bool) (w : World) :
    Calls Tryz.prog 205 #[.bool neg, .int .i64 53, .int .i64 1023] w fun e w' => e = .returned (.int .u64 (pat (sg neg (M - 1)) : Int)) ∧ w = w' := by
  have HM := Lib.hid (made_any neg 9007199254740991 2045 w (by omega) (by omega) (by omega) (by omega))
  rw [show 2045 * 4503599627370496 + 9007199254740991 = M - 1 from by rw [M_val]] at HM
  obtain ⟨P, hP⟩ : ∃ P, pat (sg neg (M - 1)) = P := ⟨_, rfl⟩
  rw [hP] at HM ⊢
  clear hP
  go_enter Tryz.func205, Tryz.ntmps205
  go_wp2_with fail
  refine HM.out.mono ?_
  rintro e w1 ⟨rfl, rfl⟩
  go_wp2
  go_ret
  exact ⟨rfl, rfl⟩

end Go.Proofs.YtmjkmoahkanblaaGreat

namespace Go.Proofs.YtmjkmoahkanblaaGreat
open Go.RowKit

/-- Cells laid one after another. -/
def sets (W : World) (r : Nat) : Nat → List Value → World
  | _, [] => W
  | i, v :: vs => sets (W.setCell ⟨r, i, none⟩ v) r (i + 1) vs
theorem below_sets {w0 : World} {B r : Nat} (hr : B ≤ r) : ∀ (vs : List Value) (i : Nat) (W : World), Below B w0 W → Below B w0 (sets W r i vs)
  | [], _, _, h => h
  | v :: vs, i, _, h => below_sets hr vs (i + 1) _ (h.setCell (p := ⟨r, i, none⟩) hr v)
theorem heap_sets {r k : Nat} (h : k ≠ r) : ∀ (vs : List Value) (i : Nat) (W : World), (sets W r i vs).heap[k]? = W.heap[k]?
  | [], _, _ => rfl
  | v :: vs, i, W => by
    show (sets (W.setCell ⟨r, i, none⟩ v) r (i + 1) vs).heap[k]? = _
    rw [heap_sets h vs (i + 1)]
    exact Below.heap_setCell W ⟨r, i, none⟩ v k h
theorem size_sets {r : Nat} : ∀ (vs : List Value) (i : Nat) (W : World), (sets W r i vs).heap.size = W.heap.size
  | [], _, _ => rfl
  | v :: vs, i, W => by
    show (sets (W.setCell ⟨r, i, none⟩ v) r (i + 1) vs).heap.size = _
    rw [size_sets vs (i + 1)]
    simp [World.setCell]
theorem Blk.set {W : World} {g : Nat} {t : TypeId} {cs : Array Value} (h : Blk W g t cs) (i : Nat) (v : Value) : Blk (W.setCell ⟨g, i, none⟩ v) g t (cs.setIfInBounds i v) := by
  unfold Blk World.setCell at *
  simp only [Array.getElem?_modify, if_true, h]
  rfl
/-- What a block holds behind it. -/
def laid (cs : Array Value) : Nat → List Value → Array Value
  | _, [] => cs
  | i, v :: vs => laid (cs.setIfInBounds i v) (i + 1) vs
theorem Blk.sets {g : Nat} {t : TypeId} : ∀ (vs : List Value) (i : Nat) (W : World) (cs : Array Value), Blk W g t cs → Blk (sets W g i vs) g t (laid cs i vs)
  | [], _, _, _, h => h
  | v :: vs, i, _, _, h => Blk.sets vs (i + 1) _ _ (h.set i v)
theorem laid_size : ∀ (vs : List Value) (i : Nat) (cs : Array Value), (laid cs i vs).size = cs.size
  | [], _, _ => rfl
  | v :: vs, i, cs => by
    show (laid (cs.setIfInBounds i v) (i + 1) vs).size = _
    rw [laid_size vs (i + 1)]; simp
theorem laid_lt : ∀ (vs : List Value) (i j : Nat) (cs : Array Value), j < i → (laid cs i vs)[j]? = cs[j]?
  | [], _, _, _, _ => rfl
  | v :: vs, i, j, cs, h => by
    show (laid (cs.setIfInBounds i v) (i + 1) vs)[j]? = _
    rw [laid_lt vs (i + 1) j _ (by omega), Array.getElem?_setIfInBounds]
    rw [if_neg (by omega)]
theorem laid_get : ∀ (vs : List Value) (i j : Nat) (cs : Array Value), j < vs.length → i + vs.length ≤ cs.size → (laid cs i vs)[i + j]? = vs[j]?
  | [], _, _, _, h, _ => by simp at h
  | v :: vs, i, 0, cs, _, h => by
    show (laid (cs.setIfInBounds i v) (i + 1) vs)[i + 0]? = _
    simp only [List.length_cons] at h
    rw [laid_lt vs (i + 1) (i + 0) _ (by omega), Array.getElem?_setIfInBounds, Nat.add_zero, if_pos rfl, if_pos (by omega)]
    rfl
  | v :: vs, i, j + 1, cs, h, h' => by
    show (laid (cs.setIfInBounds i v) (i + 1) vs)[i + (j + 1)]? = _
    simp only [List.length_cons] at h h'
    rw [show i + (j + 1) = (i + 1) + j from by omega, laid_get vs (i + 1) j _ (by omega) (by simp; omega)]
    rfl
/-- A cell of a block that was laid whole. -/
theorem sets_cell {W : World} {g : Nat} {t : TypeId} {cs : Array Value} (h : Blk W g t cs) (vs : List Value) (j : Nat) (hj : j < vs.length) (hs : vs.length ≤ cs.size) :
    (sets W g 0 vs).cell? ⟨g, j, none⟩ = vs[j]? := by
  rw [(h.sets vs 0 W cs).cell j]
  have := laid_get vs 0 j cs hj (by omega)
  rw [Nat.zero_add] at this
  exact this
theorem sets_frozen {W : World} {g : Nat} {t : TypeId} {cs : Array Value} (h : Blk W g t cs) (vs : List Value) (j : Nat) : (sets W g 0 vs).frozen? ⟨g, j, none⟩ = false := (h.sets vs 0 W cs).frozen j

/-- No word. -/
def notWd : Value → Bool
  | .int .u32 _ => false
  | _ => true
theorem NoWd.of {cs : Array Value} (h : cs.all notWd = true) : NoWd cs := by
  intro i x hi
  obtain ⟨hlt, he⟩ := Array.getElem?_eq_some_iff.1 hi
  have := Array.all_eq_true.1 h i hlt
  rw [he] at this
  cases this
theorem U32s.sets {W : World} {A : Option Addr} {n c g : Nat} {t : TypeId} {cs : Array Value} {xs : List Nat} (h : U32s W A n c xs) (hb : Blk W g t cs) (hc : NoWd cs) (i : Nat) (vs : List Value) : U32s (sets W g i vs) A n c xs :=
  h.keep (by rw [size_sets]; exact Nat.le_refl _) fun ad e hn => heap_sets (hb.apart hc h ad e hn) vs i W
theorem RatV.sets {W : World} {K : Nat} {neg : Bool} {vn vd : Value} {x : Rat} {g : Nat} {t : TypeId} {cs : Array Value} (h : RatV W K neg vn vd x) (hb : Blk W g t cs) (hc : NoWd cs) (i : Nat) (vs : List Value) : RatV (sets W g i vs) K neg vn vd x := by
  obtain ⟨p, q, A, n, c, B, m, d, rfl, rfl, h3, h4, h5⟩ := h
  exact ⟨p, q, A, n, c, B, m, d, rfl, rfl, h3.sets hb hc i vs, h4.sets hb hc i vs, h5⟩

theorem Blk.at {W : World} {g : Nat} (h : W.heap.size = g) (t : TypeId) (cs : Array Value) : Blk (W.alloc (.cells cs t)) g t cs := by
  subst h; exact Blk.new W t cs
/-- A block of n cells of which none is a word. -/
def HasBlk (W : World) (r : Nat) (t : TypeId) (n : Nat) : Prop := ∃ cs, Blk W r t cs ∧ cs.size = n ∧ NoWd cs
theorem HasBlk.keep {W W' : World} {r : Nat} {t : TypeId} {n : Nat} (h : HasBlk W r t n) (hb : Below W.heap.size W W') : HasBlk W' r t n := by
  obtain ⟨cs, h1, h2, h3⟩ := h
  exact ⟨cs, h1.keep hb, h2, h3⟩
theorem HasBlk.of {W : World} {r : Nat} {t : TypeId} {cs : Array Value} {n : Nat} (h : Blk W r t cs) (hs : cs.size = n) (hc : cs.toList.all notWd = true) : HasBlk W r t n := ⟨cs, h, hs, NoWd.of (by rw [← Array.all_toList]; exact hc)⟩
theorem Blk.someCell {W : World} {g : Nat} {t : TypeId} {cs : Array Value} (h : Blk W g t cs) {j : Nat} (hj : j < cs.size) : W.cell? ⟨g, j, none⟩ = some (cellOf W ⟨g, j, none⟩) := by
  have h1 := h.cell j
  rw [Array.getElem?_eq_getElem hj] at h1
  exact cellOf_some h1
theorem laid_all (vs : List Value) (cs : Array Value) (h : vs.length = cs.size) : laid cs 0 vs = vs.toArray := by
  apply Array.ext_getElem?
  intro j
  rcases Nat.lt_or_ge j vs.length with hj | hj
  · have := laid_get vs 0 j cs hj (by omega)
    rw [Nat.zero_add] at this
    rw [this]; simp
  · rw [Array.getElem?_eq_none (by rw [laid_size]; omega)]
    simp [hj]
theorem HasBlk.sets {W : World} {r : Nat} {t : TypeId} {n : Nat} (h : HasBlk W r t n) (vs : List Value) (hl : vs.length = n) (hv : vs.all notWd = true) : HasBlk (sets W r 0 vs) r t n := by
  obtain ⟨cs, h1, h2, -⟩ := h
  have := h1.sets vs 0 W cs
  rw [laid_all vs cs (by omega)] at this
  exact .of this (by simp [hl]) (by simpa using hv)
theorem Blk.other {W : World} {g r : Nat} {t : TypeId} {cs : Array Value} (h : Blk W g t cs) (hg : g ≠ r) (i : Nat) (vs : List Value) : Blk (Proofs.YtmjkmoahkanblaaGreat.sets W r i vs) g t cs := (heap_sets hg vs i W).trans h
/-- What a block that was laid whole holds. -/
theorem HasBlk.laid {W : World} {r : Nat} {t : TypeId} {n : Nat} (h : HasBlk W r t n) (vs : List Value) (hl : vs.length = n) : Blk (Proofs.YtmjkmoahkanblaaGreat.sets W r 0 vs) r t vs.toArray := by
  obtain ⟨cs, h1, h2, -⟩ := h
  have := h1.sets vs 0 W cs
  rwa [laid_all vs cs (by omega)] at this
theorem HasBlk.lt {W : World} {r : Nat} {t : TypeId} {n : Nat} (h : HasBlk W r t n) : r < W.heap.size := by
  obtain ⟨cs, h1, -⟩ := h
  exact h1.lt
theorem HasBlk.rat {W : World} {K : Nat} {neg : Bool} {vn vd : Value} {x : Rat} {r : Nat} {t : TypeId} {n : Nat} (h : HasBlk W r t n) (hr : RatV W K neg vn vd x) (vs : List Value) : RatV (Proofs.YtmjkmoahkanblaaGreat.sets W r 0 vs) K neg vn vd x := by
  obtain ⟨cs, h1, -, h2⟩ := h
  exact hr.sets h1 h2 0 vs
theorem HasBlk.someCell {W : World} {r : Nat} {t : TypeId} {n : Nat} (h : HasBlk W r t n) (j : Nat) (hj : j < n) : W.cell? ⟨r, j, none⟩ = some (cellOf W ⟨r, j, none⟩) := by
  obtain ⟨cs, h1, h2, -⟩ := h
  exact h1.someCell (by omega)
theorem HasBlk.frozen {W : World} {r : Nat} {t : TypeId} {n : Nat} (h : HasBlk W r t n) (j : Nat) : W.frozen? ⟨r, j, none⟩ = false := by
  obtain ⟨cs, h1, h2, -⟩ := h
  exact h1.frozen j
theorem HasBlk.setCell {W : World} {r : Nat} {t : TypeId} {n : Nat} (h : HasBlk W r t n) (vs : List Value) (hl : vs.length = n) (j : Nat) (hj : j < n) : (Proofs.YtmjkmoahkanblaaGreat.sets W r 0 vs).cell? ⟨r, j, none⟩ = vs[j]? := by
  obtain ⟨cs, h1, h2, -⟩ := h
  exact sets_cell h1 vs j (by omega) (by omega)
theorem HasBlk.drew {W : World} {r : Nat} {t : TypeId} {n : Nat} (h : HasBlk W r t n) : HasBlk W.drew r t n := h
theorem Blk.drew {W : World} {g : Nat} {t : TypeId} {cs : Array Value} (h : Blk W g t cs) : Blk W.drew g t cs := h
theorem HasBlk.alloc {W : World} {r : Nat} {t : TypeId} {n : Nat} (h : HasBlk W r t n) (o : Obj) : HasBlk (W.alloc o) r t n := by
  obtain ⟨cs, h1, h2⟩ := h
  exact ⟨cs, h1.alloc o, h2⟩
theorem HasBlk.other {W : World} {g r : Nat} {t : TypeId} {n : Nat} (h : HasBlk W g t n) (hg : g ≠ r) (i : Nat) (vs : List Value) : HasBlk (Proofs.YtmjkmoahkanblaaGreat.sets W r i vs) g t n := by
  obtain ⟨cs, h1, h2⟩ := h
  exact ⟨cs, h1.other hg i vs, h2⟩
theorem RatV.far {W : World} {K : Nat} {neg : Bool} {vn vd : Value} {x : Rat} {g : Nat} {t : TypeId} {cs : Array Value} (h : RatV W K neg vn vd x) (hb : Blk W g t cs) (hc : cs.toList.all notWd = true) (i : Nat) (v : Value) : RatV (W.setCell ⟨g, i, none⟩ v) K neg vn vd x :=
  h.sets hb (NoWd.of (by rw [← Array.all_toList]; exact hc)) i [v]

end Go.Proofs.YtmjkmoahkanblaaGreat

namespace Go.Proofs.YtmjkmoahkanblaaGreat
open Go.RowKit

theorem empty6 (w : World) :
    Calls Tryz.prog 66 #[] w fun e w' => e = .returned (.agg #[.int .u64 9218868437227405312, .int .u64 18442240474082181120]) ∧ Below w.heap.size w w' := by
  have hb := Lib.hid fun cs => below_alloc w (.cells cs 24)
  go_enter Tryz.func66, Tryz.ntmps66
  go_wp2
  refine bodyPost_ret (v := .agg #[.int .u64 9218868437227405312, .int .u64 18442240474082181120]) (by simp [results, Tryz.results66, go_sem]) rfl ?_
  exact ⟨rfl, hb.out _⟩
theorem entire6 (w : World) :
    Calls Tryz.prog 68 #[] w fun e w' => e = .returned (.agg #[.int .u64 18442240474082181120, .int .u64 9218868437227405312]) ∧ Below w.heap.size w w' := by
  have hb := Lib.hid fun cs => below_alloc w (.cells cs 24)
  go_enter Tryz.func68, Tryz.ntmps68
  go_wp2
  refine bodyPost_ret (v := .agg #[.int .u64 18442240474082181120, .int .u64 9218868437227405312]) (by simp [results, Tryz.results68, go_sem]) rfl ?_
  exact ⟨rfl, hb.out _⟩
theorem sound6 (x y : Nat) (w : World) (hx : x < 18446744073709551616) (hy : y < 18446744073709551616) :
    Calls Tryz.prog 135 #[.agg #[.int .u64 (x : Int), .int .u64 (y : Int)]] w fun e w' => e = .returned (.bool (snd x y)) ∧ Below w.heap.size w w' := by
  have hb := Lib.hid (below_alloc w (.cells #[.int .u64 (x : Int), .int .u64 (y : Int)] 24))
  have H1 := Lib.hid fun W => isnan_any x W hx
  have H2 := Lib.hid fun W => isnan_any y W hy
  have H3 := Lib.hid fun W => above_any x y W hx hy
  obtain ⟨s, hs⟩ : ∃ s, snd x y = s := ⟨_, rfl⟩
  rw [hs]
  by_cases h1 : M < rungOf x
  · rw [decide_eq_true h1] at H1
    have h0 : s = false := by rw [← hs]; exact decide_eq_false (by omega)
    subst h0
    clear h1 hs
    go_enter Tryz.func135, Tryz.ntmps135
    go_wp2_with fail
    refine (H1.out _).mono ?_; rintro e w1 ⟨rfl, k, rfl⟩
    go_wp2
    go_ret
    exact ⟨rfl, below_drewN hb.out k⟩
  · rw [decide_eq_false h1] at H1
    by_cases h2 : M < rungOf y
    · rw [decide_eq_true h2] at H2
      have h0 : s = false := by rw [← hs]; exact decide_eq_false (by omega)
      subst h0
      clear h1 h2 hs
      go_enter Tryz.func135, Tryz.ntmps135
      go_wp2_with fail
      refine (H1.out _).mono ?_; rintro e w1 ⟨rfl, k, rfl⟩
      go_wp2_with fail
      refine (H2.out _).mono ?_; rintro e w1 ⟨rfl, k2, rfl⟩
      go_wp2
      go_ret
      exact ⟨rfl, below_drewN hb.out _⟩
    · rw [decide_eq_false h2] at H2
      by_cases h3 : idx y < idx x
      · rw [decide_eq_true (show rungOf x ≤ M ∧ rungOf y ≤ M ∧ idx y < idx x from ⟨by omega, by omega, h3⟩)] at H3
        have h0 : s = false := by rw [← hs]; exact decide_eq_false (by omega)
        subst h0
        clear h1 h2 h3 hs
        go_enter Tryz.func135, Tryz.ntmps135
        go_wp2_with fail
        refine (H1.out _).mono ?_; rintro e w1 ⟨rfl, k, rfl⟩
        go_wp2_with fail
        refine (H2.out _).mono ?_; rintro e w1 ⟨rfl, k2, rfl⟩
        go_wp2_with fail
        refine (H3.out _).mono ?_; rintro e w1 ⟨rfl, k3, rfl⟩
        go_wp2
        go_ret
        exact ⟨rfl, below_drewN hb.out _⟩
      · rw [decide_eq_false (show ¬ (rungOf x ≤ M ∧ rungOf y ≤ M ∧ idx y < idx x) from fun h => h3 h.2.2)] at H3
        have c1 := pat_cases hx
        have c2 := pat_cases hy
        have h0 : s = ((!((x : Int) == 9218868437227405312)) && (!((y : Int) == 18442240474082181120))) := by
          rw [← hs]; unfold snd
          rw [M_val] at *
          rw [Bool.eq_iff_iff]
          simp only [decide_eq_true_eq, Bool.and_eq_true, Bool.not_eq_true', beq_eq_false_iff_ne, ne_eq]
          omega
        have HS := Lib.hid h0
        clear h1 h2 h3 hs c1 c2 h0
        by_cases h4 : x = 9218868437227405312
        · subst h4
          go_enter Tryz.func135, Tryz.ntmps135
          go_wp2_with fail
          refine (H1.out _).mono ?_; rintro e w1 ⟨rfl, k, rfl⟩
          go_wp2_with fail
          refine (H2.out _).mono ?_; rintro e w1 ⟨rfl, k2, rfl⟩
          go_wp2_with fail
          refine (H3.out _).mono ?_; rintro e w1 ⟨rfl, k3, rfl⟩
          go_wp2
          go_ret
          exact ⟨ret_bool HS.out.symm, below_drewN hb.out _⟩
        · have h5 : ((x : Int) == 9218868437227405312) = false := by simp; omega
          rw [h5] at HS
          have h6 : ((x : Int) != 9218868437227405312) = true := by simp; omega
          have HS2 := Lib.hid (show s = ((y : Int) != 18442240474082181120) from by rw [HS.out]; rfl)
          clear h4 h5 HS
          go_enter Tryz.func135, Tryz.ntmps135
          go_wp2_with fail
          refine (H1.out _).mono ?_; rintro e w1 ⟨rfl, k, rfl⟩
          go_wp2_with fail
          refine (H2.out _).mono ?_; rintro e w1 ⟨rfl, k2, rfl⟩
          go_wp2_with fail
          refine (H3.out _).mono ?_; rintro e w1 ⟨rfl, k3, rfl⟩
          go_wp2
          go_ret
          exact ⟨ret_bool HS2.out.symm, below_drewN hb.out _⟩

end Go.Proofs.YtmjkmoahkanblaaGreat

namespace Go.Proofs.YtmjkmoahkanblaaGreat
open Go.RowKit

theorem plain_b (b : Nat) (w : World) (hb : b < 18446744073709551616) :
    Calls Tryz.prog 136 #[.int .u64 (b : Int)] w fun e w' => e = .returned (.int .u64 (pl b : Int)) ∧ Below w.heap.size w w' :=
  (plain_any b w hb).mono (by rintro e w' ⟨h, k, rfl⟩; exact ⟨h, below_drewN (Below.refl _ _) k⟩)

set_option maxHeartbeats 1600000 in
theorem read6 (x y : Nat) (w : World) (hx : x < 18446744073709551616) (hy : y < 18446744073709551616) :
    Calls Tryz.prog 65 #[.agg #[.int .u64 (x : Int), .int .u64 (y : Int)]] w fun e w' => e = .returned (.agg #[.int .u64 (pat (rd x y).1 : Int), .int .u64 (pat (rd x y).2 : Int)]) ∧ Below w.heap.size w w' := by
  have ba : Below w.heap.size w ((w.alloc (.cells #[.int .u64 (x : Int), .int .u64 (y : Int)] 24)).alloc (.cells #[.int .u64 0, .int .u64 0] 24)) := (below_alloc w _).alloc (by simp) _
  have HS := Lib.hid fun W => sound6 x y W hx hy
  have g1 := (Blk.new w 24 #[.int .u64 (x : Int), .int .u64 (y : Int)]).alloc (.cells #[.int .u64 0, .int .u64 0] 24)
  have g2 := Blk.new2 w (.cells #[.int .u64 (x : Int), .int .u64 (y : Int)] 24) 24 #[.int .u64 0, .int .u64 0]
  have G1 := Lib.hid g1
  have G2 := Lib.hid g2
  have BA := Lib.hid ba
  clear g1 g2 ba
  obtain ⟨s, hs⟩ : ∃ s, snd x y = s := ⟨_, rfl⟩
  rw [hs] at HS
  unfold rd
  rw [hs]
  cases s
  · simp only [Bool.false_eq_true, if_false]
    rw [pat_max, pat_min]
    clear hs
    have HE := Lib.hid empty6
    go_enter Tryz.func65, Tryz.ntmps65
    go_wp2_with fail
    refine (HS.out _).mono ?_; rintro e w1 ⟨rfl, hb1⟩
    have B1 := Lib.hid (BA.out.trans (hb1.mono BA.out.size))
    have K1 := Lib.hid (HasBlk.of (n := 2) (G2.out.keep hb1) rfl rfl)
    clear hb1
    go_wp2_with fail
    refine (HE.out _).mono ?_; rintro e w2 ⟨rfl, hb2⟩
    have B2 := Lib.hid (B1.out.trans (hb2.mono B1.out.size))
    have K2 := Lib.hid (K1.out.keep hb2)
    clear hb2
    obtain ⟨cs, hblk, hsz, hnw⟩ := K2.out
    have c0 := hblk.someCell (j := 0) (by omega); have c1 := hblk.someCell (j := 1) (by omega); have f0 := hblk.frozen 0; have f1 := hblk.frozen 1
    have k0 := sets_cell hblk [.int .u64 9218868437227405312, .int .u64 18442240474082181120] 0 (by decide) (by simp; omega)
    have k1 := sets_cell hblk [.int .u64 9218868437227405312, .int .u64 18442240474082181120] 1 (by decide) (by simp; omega)
    have F := Lib.hid (below_sets (w0 := w) (r := w.heap.size + 1) (by omega) [.int .u64 9218868437227405312, .int .u64 18442240474082181120] 0 _ B2.out)
    simp [sets] at k0 k1
    clear hblk hsz hnw
    go_wp2
    refine bodyPost_ret (v := .agg #[.int .u64 9218868437227405312, .int .u64 18442240474082181120]) (by simp [results, Tryz.results65, go_sem, k0, k1]) rfl ?_
    exact ⟨rfl, F.out⟩
  · simp only [if_true]
    have hd := of_decide_eq_true hs
    rw [← pl_real hx hd.1, ← pl_real hy hd.2.1]
    clear hs hd
    have P1 := Lib.hid fun W => plain_b x W hx
    have P2 := Lib.hid fun W => plain_b y W hy
    go_enter Tryz.func65, Tryz.ntmps65
    go_wp2_with fail
    refine (HS.out _).mono ?_; rintro e w1 ⟨rfl, hb1⟩
    have g0 : Blk w1.drew w.heap.size 24 #[.int .u64 (x : Int), .int .u64 (y : Int)] ∧ HasBlk w1.drew (w.heap.size + 1) 24 2 ∧ Below w.heap.size w w1.drew := ⟨G1.out.keep hb1.drew, HasBlk.of (G2.out.keep hb1.drew) rfl rfl, (BA.out.trans (hb1.mono BA.out.size)).drew⟩
    clear hb1
    go_wp2_with fail
    refine wp_region_held_drew (S := fun W' => Blk W' w.heap.size 24 #[.int .u64 (x : Int), .int .u64 (y : Int)] ∧ HasBlk W' (w.heap.size + 1) 24 2 ∧ Below w.heap.size w W') (by kernel_rfl) (g0) (fun hHeld => ?_)
    refine wpAnyH_take (i := 0) (v := ?_) rfl (by kernel_rfl) (by kernel_rfl) (by kernel_rfl) (fun _ _ _ h => h) (Or.inl ⟨by rfl, ?_⟩) (by assumption) ?_
    rotate_left
    · (intro W2 hSw; go_simp; (try with_reducible rfl))
    try simp only [Act.put, List.setIfInBounds_toArray, List.set_cons_zero, List.set_cons_succ]
    refine wpAnyH_take (i := 1) (v := ?_) rfl (by kernel_rfl) (by kernel_rfl) (by kernel_rfl) (fun _ _ _ h => h) (Or.inl ⟨by rfl, ?_⟩) (by assumption) ?_
    rotate_left
    · (intro W2 hSw; have q := hSw.1.cell 0; have q1 := hSw.1.cell 1; simp at q q1; go_simp; (try with_reducible rfl))
    try simp only [Act.put, List.setIfInBounds_toArray, List.set_cons_zero, List.set_cons_succ]
    refine wpAnyH_take (i := 3) (v := ?_) rfl (by kernel_rfl) (by kernel_rfl) (by kernel_rfl) (fun _ _ _ h => h) (Or.inl ⟨by rfl, ?_⟩) (by assumption) ?_
    rotate_left
    · (intro W2 hSw; go_simp; (try with_reducible rfl))
    try simp only [Act.put, List.setIfInBounds_toArray, List.set_cons_zero, List.set_cons_succ]
    refine wpAnyH_take (i := 4) (v := ?_) rfl (by kernel_rfl) (by kernel_rfl) (by kernel_rfl) (fun _ _ _ h => h) (Or.inl ⟨by rfl, ?_⟩) (by assumption) ?_
    rotate_left
    · (intro W2 hSw; have q := hSw.1.cell 0; have q1 := hSw.1.cell 1; simp at q q1; go_simp; (try with_reducible rfl))
    try simp only [Act.put, List.setIfInBounds_toArray, List.set_cons_zero, List.set_cons_succ]
    refine wpAnyH_ready (rs := [2]) (by kernel_rfl) (by simp) ?_
    refine AllReadyH.cons rfl (fun KK hKK => ?_) AllReadyH.nil
    go_simp
    refine (P1.out _).mono ?_
    rintro e w2 ⟨rfl, hb2⟩
    go_wp2_with fail
    refine hKK.out _ _ (⟨hHeld.1.keep hb2, hHeld.2.1.keep hb2, hHeld.2.2.trans (hb2.mono hHeld.2.2.size)⟩) (fun _ => ?_)
    clear hKK KK hHeld; rename_i hHeld
    try simp only [Act.put, List.setIfInBounds_toArray, List.set_cons_zero, List.set_cons_succ]
    refine wpAnyH_ready (rs := [5]) (by kernel_rfl) (by simp) ?_
    refine AllReadyH.cons rfl (fun KK hKK => ?_) AllReadyH.nil
    go_simp
    refine (P2.out _).mono ?_
    rintro e w3 ⟨rfl, hb3⟩
    go_wp2_with fail
    refine hKK.out _ _ (⟨hHeld.1.keep hb3, hHeld.2.1.keep hb3, hHeld.2.2.trans (hb3.mono hHeld.2.2.size)⟩) (fun _ => ?_)
    clear hKK KK hHeld; rename_i hHeld
    try simp only [Act.put, List.setIfInBounds_toArray, List.set_cons_zero, List.set_cons_succ]
    refine wpAnyH_take (i := 6) (v := ?_) rfl (by kernel_rfl) (by kernel_rfl) (by kernel_rfl) (fun _ _ _ h => h) (Or.inl ⟨by rfl, ?_⟩) (by assumption) ?_
    rotate_left
    · (intro W2 hSw; go_simp; (try with_reducible rfl))
    try simp only [Act.put, List.setIfInBounds_toArray, List.set_cons_zero, List.set_cons_succ]
    refine wpAnyH_ready (rs := [7]) (by kernel_rfl) (by simp) ?_
    refine AllReadyH.cons rfl (fun KK hKK => ?_) AllReadyH.nil
    have c0 := hHeld.2.1.someCell 0 (by decide); have c1 := hHeld.2.1.someCell 1 (by decide); have f0 := hHeld.2.1.frozen 0; have f1 := hHeld.2.1.frozen 1; have HK := Lib.hid (hHeld.2.1.setCell [.int .u64 (pl x : Int), .int .u64 (pl y : Int)] rfl); have F := Lib.hid (below_sets (w0 := w) (r := w.heap.size + 1) (by omega) [.int .u64 (pl x : Int), .int .u64 (pl y : Int)] 0 _ hHeld.2.2)
    go_simp
    refine hKK.out _ _ (show _ ∧ _ from ⟨hHeld.1.other (by omega) 0 [.int .u64 (pl x : Int), .int .u64 (pl y : Int)], hHeld.2.1.sets [.int .u64 (pl x : Int), .int .u64 (pl y : Int)] rfl rfl, below_sets (by omega) [.int .u64 (pl x : Int), .int .u64 (pl y : Int)] 0 _ hHeld.2.2⟩) (fun _ => ?_)
    clear hKK KK hHeld; rename_i hHeld
    try simp only [Act.put, List.setIfInBounds_toArray, List.set_cons_zero, List.set_cons_succ]
    refine wpAnyH_done (by kernel_rfl) ?_ _
    have k0 := HK.out 0 (by decide)
    have k1 := HK.out 1 (by decide)
    simp [sets] at k0 k1
    clear hHeld HK
    go_wp2
    refine bodyPost_ret (v := .agg #[.int .u64 (pl x : Int), .int .u64 (pl y : Int)]) (by simp [results, Tryz.results65, go_sem, k0, k1]) rfl ?_
    exact ⟨rfl, F.out⟩

end Go.Proofs.YtmjkmoahkanblaaGreat

namespace Go.Proofs.YtmjkmoahkanblaaGreat
open Go.RowKit

set_option maxHeartbeats 1600000 in
theorem rneg_true (K : Nat) (vn vd : Value) (x : Rat) (w : World) (h : RatV w K true vn vd x) (hK : K ≤ 1073741824) :
    Calls Tryz.prog 97 #[.agg #[.bool true, vn, vd]] w (NewRat w K (-x)) := by
  obtain ⟨p, q, A, n, c, B, m, d, rfl, rfl, hu, hv, hq, h0, hp, hq2, rfl⟩ := h
  have hn := hu.len_le hp
  have hm := hv.len_le hq2
  have HU := Lib.hid hu
  have HV := Lib.hid hv
  have hz : n = 0 ↔ p = 0 := by
    have := @digs_length_eq_zero p
    rw [hu.len] at this; exact this
  have HP := Lib.hid hp
  have HQ := Lib.hid hq2
  have H0 := Lib.hid h0
  have HZ := Lib.hid hz
  clear hp hq2 hu hv h0 hz
  have HN : ∀ (W : World) (A : Option Addr) (n c v : Nat), Below w.heap.size w W → U32s w A n c (digs v) → n ≤ K → Calls Tryz.prog 160 #[.slice A n c] W fun e w' => ∃ A1 n1 c1, e = .returned (.slice A1 n1 c1) ∧ U32s w' A1 n1 c1 (digs v) ∧ Below W.heap.size W w' ∧ Below w.heap.size w w' := fun W A n c v hW hu hn =>
    (norm_v A n c _ W (hu.below hW) (by omega) (num_digs v)).mono (by
      rintro e w' ⟨A1, n1, c1, h1, h2, h3, h4, h5⟩
      exact ⟨A1, n1, c1, h1, h2, h5, hW.trans (h5.mono hW.size)⟩)
  have H := Lib.hid HN
  clear HN
  go_enter Tryz.func97, Tryz.ntmps97
  go_wp2_with fail
  refine wp_region_held_drew (S := (fun w' => w'.cell? ⟨w.heap.size, 0, none⟩ = some (.bool true) ∧ w'.cell? ⟨w.heap.size, 1, none⟩ = some (.slice A n c) ∧ w'.cell? ⟨w.heap.size, 2, none⟩ = some (.slice B m d) ∧
      w'.cell? ⟨w.heap.size + 1, 0, none⟩ = some (cellOf w' ⟨w.heap.size + 1, 0, none⟩) ∧ w'.cell? ⟨w.heap.size + 1, 1, none⟩ = some (cellOf w' ⟨w.heap.size + 1, 1, none⟩) ∧ w'.cell? ⟨w.heap.size + 1, 2, none⟩ = some (cellOf w' ⟨w.heap.size + 1, 2, none⟩) ∧
      w'.frozen? ⟨w.heap.size + 1, 0, none⟩ = false ∧ w'.frozen? ⟨w.heap.size + 1, 1, none⟩ = false ∧ w'.frozen? ⟨w.heap.size + 1, 2, none⟩ = false ∧ Below w.heap.size w w')) (by kernel_rfl) (by refine ⟨?_, ?_, ?_, ?_, ?_, ?_, ?_, ?_, ?_, ?_⟩ <;> first | exact below_two _ _ _ | (simp [cellOf]; done)) (fun hHeld => ?_)
  refine wpAnyH_take (i := 0) (v := ?_) rfl (by kernel_rfl) (by kernel_rfl) (by kernel_rfl) (fun _ _ _ h => h) (Or.inl ⟨by rfl, ?_⟩) (by assumption) ?_
  rotate_left
  · (intro W2 hSw; (try dsimp only at hSw); go_simp; (try with_reducible rfl))
  try simp only [Act.put, List.setIfInBounds_toArray, List.set_cons_zero, List.set_cons_succ]
  refine wpAnyH_take (i := 1) (v := ?_) rfl (by kernel_rfl) (by kernel_rfl) (by kernel_rfl) (fun _ _ _ h => h) (Or.inl ⟨by rfl, ?_⟩) (by assumption) ?_
  rotate_left
  · (intro W2 hSw; (try dsimp only at hSw); go_simp; (try with_reducible rfl))
  try simp only [Act.put, List.setIfInBounds_toArray, List.set_cons_zero, List.set_cons_succ]
  refine wpAnyH_take (i := 2) (v := ?_) rfl (by kernel_rfl) (by kernel_rfl) (by kernel_rfl) (fun _ _ _ h => h) (Or.inl ⟨by rfl, ?_⟩) (by assumption) ?_
  rotate_left
  · (intro W2 hSw; (try dsimp only at hSw); go_simp; (try with_reducible rfl))
  try simp only [Act.put, List.setIfInBounds_toArray, List.set_cons_zero, List.set_cons_succ]
  refine wpAnyH_take (i := 3) (v := ?_) rfl (by kernel_rfl) (by kernel_rfl) (by kernel_rfl) (fun _ _ _ h => h) (Or.inl ⟨by rfl, ?_⟩) (by assumption) ?_
  rotate_left
  · (intro W2 hSw; (try dsimp only at hSw); go_simp; (try with_reducible rfl))
  try simp only [Act.put, List.setIfInBounds_toArray, List.set_cons_zero, List.set_cons_succ]
  refine wpAnyH_take (i := 4) (v := undef) rfl (by kernel_rfl) (by kernel_rfl) (by kernel_rfl) (fun _ _ _ h => h) (Or.inr ⟨by rfl, rfl⟩) (by assumption) ?_
  try simp only [Act.put, List.setIfInBounds_toArray, List.set_cons_zero, List.set_cons_succ]
  refine wpAnyH_take (i := 5) (v := undef) rfl (by kernel_rfl) (by kernel_rfl) (by kernel_rfl) (fun _ _ _ h => h) (Or.inr ⟨by rfl, rfl⟩) (by assumption) ?_
  try simp only [Act.put, List.setIfInBounds_toArray, List.set_cons_zero, List.set_cons_succ]
  refine wpAnyH_take (i := 6) (v := undef) rfl (by kernel_rfl) (by kernel_rfl) (by kernel_rfl) (fun _ _ _ h => h) (Or.inr ⟨by rfl, rfl⟩) (by assumption) ?_
  try simp only [Act.put, List.setIfInBounds_toArray, List.set_cons_zero, List.set_cons_succ]
  refine wpAnyH_take (i := 7) (v := undef) rfl (by kernel_rfl) (by kernel_rfl) (by kernel_rfl) (fun _ _ _ h => h) (Or.inr ⟨by rfl, rfl⟩) (by assumption) ?_
  try simp only [Act.put, List.setIfInBounds_toArray, List.set_cons_zero, List.set_cons_succ]
  refine wpAnyH_take (i := 8) (v := ?_) rfl (by kernel_rfl) (by kernel_rfl) (by kernel_rfl) (fun _ _ _ h => h) (Or.inl ⟨by rfl, ?_⟩) (by assumption) ?_
  rotate_left
  · (intro W2 hSw; (try dsimp only at hSw); go_simp; (try with_reducible rfl))
  try simp only [Act.put, List.setIfInBounds_toArray, List.set_cons_zero, List.set_cons_succ]
  refine wpAnyH_take (i := 9) (v := ?_) rfl (by kernel_rfl) (by kernel_rfl) (by kernel_rfl) (fun _ _ _ h => h) (Or.inl ⟨by rfl, ?_⟩) (by assumption) ?_
  rotate_left
  · (intro W2 hSw; (try dsimp only at hSw); go_simp; (try with_reducible rfl))
  try simp only [Act.put, List.setIfInBounds_toArray, List.set_cons_zero, List.set_cons_succ]
  refine wpAnyH_take (i := 10) (v := ?_) rfl (by kernel_rfl) (by kernel_rfl) (by kernel_rfl) (fun _ _ _ h => h) (Or.inl ⟨by rfl, ?_⟩) (by assumption) ?_
  rotate_left
  · (intro W2 hSw; (try dsimp only at hSw); go_simp; (try with_reducible rfl))
  try simp only [Act.put, List.setIfInBounds_toArray, List.set_cons_zero, List.set_cons_succ]
  refine wpAnyH_take (i := 12) (v := ?_) rfl (by kernel_rfl) (by kernel_rfl) (by kernel_rfl) (fun _ _ _ h => h) (Or.inl ⟨by rfl, ?_⟩) (by assumption) ?_
  rotate_left
  · (intro W2 hSw; (try dsimp only at hSw); go_simp; (try with_reducible rfl))
  try simp only [Act.put, List.setIfInBounds_toArray, List.set_cons_zero, List.set_cons_succ]
  refine wpAnyH_take (i := 13) (v := ?_) rfl (by kernel_rfl) (by kernel_rfl) (by kernel_rfl) (fun _ _ _ h => h) (Or.inl ⟨by rfl, ?_⟩) (by assumption) ?_
  rotate_left
  · (intro W2 hSw; (try dsimp only at hSw); go_simp; (try with_reducible rfl))
  try simp only [Act.put, List.setIfInBounds_toArray, List.set_cons_zero, List.set_cons_succ]
  refine wpAnyH_ready (rs := [11]) (by kernel_rfl) (by simp) ?_
  refine AllReadyH.cons rfl (fun KK hKK => ?_) AllReadyH.nil
  go_simp
  refine (H.out _ _ _ _ ?_ ?_ ?_ ?_).mono ?_; rotate_left; (first | exact below_two _ _ _ | assumption); (first | exact HU.out | exact HV.out); (assumption); rintro e wa ⟨Aa, na, ca, rfl, hua, hba, hbwa⟩
  go_wp2_with fail
  refine hKK.out _ _ (held3 hHeld hba) (fun _ => ?_)
  clear hKK KK hHeld; rename_i hHeld
  try simp only [Act.put, List.setIfInBounds_toArray, List.set_cons_zero, List.set_cons_succ]
  refine wpAnyH_ready (rs := [14]) (by kernel_rfl) (by simp) ?_
  refine AllReadyH.cons rfl (fun KK hKK => ?_) AllReadyH.nil
  go_simp
  refine (H.out _ _ _ _ ?_ ?_ ?_ ?_).mono ?_; rotate_left; (first | exact below_two _ _ _ | assumption); (first | exact HU.out | exact HV.out); (assumption); rintro e w1 ⟨A1, n1, c1, rfl, hu1, hb1, hbw⟩
  go_wp2_with fail
  refine hKK.out _ _ (held3 hHeld hb1) (fun _ => ?_)
  clear hKK KK hHeld; rename_i hHeld
  try simp only [Act.put, List.setIfInBounds_toArray, List.set_cons_zero, List.set_cons_succ]
  refine wpAnyH_take (i := 15) (v := ?_) rfl (by kernel_rfl) (by kernel_rfl) (by kernel_rfl) (fun _ _ _ h => h) (Or.inl ⟨by rfl, ?_⟩) (by assumption) ?_
  rotate_left
  · (intro W2 hSw; (try dsimp only at hSw); go_simp; (try with_reducible rfl))
  try simp only [Act.put, List.setIfInBounds_toArray, List.set_cons_zero, List.set_cons_succ]
  refine wpAnyH_ready (rs := [16]) (by kernel_rfl) (by simp) ?_
  refine AllReadyH.cons rfl (fun KK hKK => ?_) AllReadyH.nil
  go_simp
  refine hKK.out _ _ (held3_set (by omega) (by omega) hHeld _ _ _ _ rfl) (fun hHeld1 => ?_)
  refine wpAnyH_done (by kernel_rfl) ?_ _
  
  have hblk := (((Blk.new2 w (.cells #[.bool true, .slice A n c, .slice B m d] 60) 60 #[.bool false, .slice none 0 0, .slice none 0 0]).drewN 1).keep hba).keep hb1
  have z2 : -rv true p q = rv false p q := by
    rw [rv_true]; grind
  have hNR : NewRat w K (-rv true p q) (.returned (.agg #[.bool false, .slice Aa na ca, .slice A1 n1 c1])) _ :=
    RatV.ret (g := w.heap.size + 1) ⟨p, q, Aa, na, ca, A1, n1, c1, rfl, rfl, hua.below hb1, hu1, hq, (fun _ => rfl), HP.out, HQ.out, z2⟩ hbw hblk NoWd.zero (by omega)
  have k := set3_cells (hblk.cell 0) (hblk.cell 1) (hblk.cell 2) (.bool false) (.slice Aa na ca) (.slice A1 n1 c1)
  have HNR := Lib.hid hNR
  obtain ⟨k0, k1, k2⟩ := k
  clear hKK KK hHeld hHeld1 hNR hblk z2 hba hbwa hua hu1 hb1 hbw
  go_wp2
  exact bodyPost_ret (v := .agg #[.bool false, .slice Aa na ca, .slice A1 n1 c1]) (by simp [results, Tryz.results97, go_sem, k0, k1, k2]) rfl HNR.out


theorem rneg_any (K : Nat) (neg : Bool) (vn vd : Value) (x : Rat) (w : World) (h : RatV w K neg vn vd x) (hK : K ≤ 1073741824) :
    Calls Tryz.prog 97 #[.agg #[.bool neg, vn, vd]] w (NewRat w K (-x)) := by
  cases neg
  · exact rneg_false K vn vd x w h hK
  · exact rneg_true K vn vd x w h hK

end Go.Proofs.YtmjkmoahkanblaaGreat

namespace Go.Proofs.YtmjkmoahkanblaaGreat
open Go.RowKit

/-- An end that a call answers. -/
def NewEnd (w : World) (K : Nat) (s : Int) (x : Rat) (e : Ending) (w' : World) : Prop :=
  ∃ neg A n c B m d, e = .returned (.agg #[.int .i64 s, .bool neg, .slice A n c, .slice B m d]) ∧ RatV w' K neg (.slice A n c) (.slice B m d) x ∧ Below w.heap.size w w'
/-- A set that a call answers. -/
def NewSet (w : World) (K : Nat) (o : Bool) (s : Int) (x : Rat) (t : Int) (y : Rat) (e : Ending) (w' : World) : Prop :=
  ∃ neg A n c B m d neg' A' n' c' B' m' d', e = .returned (.agg #[.bool o, .int .i64 s, .bool neg, .slice A n c, .slice B m d, .int .i64 t, .bool neg', .slice A' n' c', .slice B' m' d']) ∧
    RatV w' K neg (.slice A n c) (.slice B m d) x ∧ RatV w' K neg' (.slice A' n' c') (.slice B' m' d') y ∧ Below w.heap.size w w'
/-- A ratio that a call answers, its parts written out. -/
def NewRatS (w : World) (K : Nat) (x : Rat) (e : Ending) (w' : World) : Prop :=
  ∃ neg A n c B m d, e = .returned (.agg #[.bool neg, .slice A n c, .slice B m d]) ∧ RatV w' K neg (.slice A n c) (.slice B m d) x ∧ Below w.heap.size w w'
theorem NewRat.s {w w' : World} {K : Nat} {x : Rat} {e : Ending} (h : NewRat w K x e w') : NewRatS w K x e w' := by
  obtain ⟨neg, vn, vd, rfl, hr, hb⟩ := h
  obtain ⟨A, n, c, B, m, d, rfl, rfl⟩ := hr.shape
  exact ⟨neg, A, n, c, B, m, d, rfl, hr, hb⟩
/-- The end of an index. -/
def es (i : Int) : Int := if i = M then 1 else if i = -(M : Int) then -1 else 0
def ex (i : Int) : Rat := if es i = 0 then fl i else 0
theorem es_max : es M = 1 := rfl
theorem es_min : es (-(M : Int)) = -1 := by decide
theorem ex_max : ex M = 0 := rfl
theorem ex_min : ex (-(M : Int)) = 0 := by unfold ex; rw [es_min]; rfl
theorem es_mid {i : Int} (h : -(M : Int) < i) (h' : i < M) : es i = 0 := by unfold es; rw [if_neg (by omega), if_neg (by omega)]
theorem ex_mid {i : Int} (h : -(M : Int) < i) (h' : i < M) : ex i = fl i := by unfold ex; rw [es_mid h h']; rfl
set_option maxHeartbeats 1600000 in
theorem finite_nat (v : Nat) (w : World) (hv : v < 4294967296) :
    Calls Tryz.prog 95 #[.int .i64 (v : Int)] w (NewEnd w 1 0 (v : Rat)) := by
  have hs : ∀ W, Calls Tryz.prog 149 #[.int .i64 (v : Int)] W (NewRatS W 1 (v : Rat)) := fun W => (int_nat v W hv).mono fun _ _ h => h.s
  have HS := Lib.hid hs
  clear hs
  have LB0 := Lib.hid (show Below w.heap.size w (w.alloc (.cells #[.int .i64 0, .bool false, .slice none 0 0, .slice none 0 0] 67)) from (below_alloc w _))
  have LR0 := Lib.hid (HasBlk.of (n := 4) (Blk.at (W := w) (g := w.heap.size) (by simp <;> omega) 67 #[.int .i64 0, .bool false, .slice none 0 0, .slice none 0 0]) rfl rfl)
  go_enter Tryz.func95, Tryz.ntmps95
  go_wp2_with fail
  refine (HS.out _).mono ?_
  rintro e w1 ⟨neg, A5, n5, c5, A6, n6, c6, rfl, hr, hb1⟩
  have LB1 := Lib.hid (LB0.out.trans (hb1.mono LB0.out.size))
  have LR1 := Lib.hid (LR0.out.keep hb1)
  clear LB0 LR0
  have ha0 := LR1.out.someCell 0 (by decide)
  have hf0 := LR1.out.frozen 0
  have ha1 := LR1.out.someCell 1 (by decide)
  have hf1 := LR1.out.frozen 1
  have ha2 := LR1.out.someCell 2 (by decide)
  have hf2 := LR1.out.frozen 2
  have ha3 := LR1.out.someCell 3 (by decide)
  have hf3 := LR1.out.frozen 3
  have hk0 := LR1.out.setCell [.int .i64 0, .bool neg, .slice A5 n5 c5, .slice A6 n6 c6] rfl 0 (by decide)
  have hk1 := LR1.out.setCell [.int .i64 0, .bool neg, .slice A5 n5 c5, .slice A6 n6 c6] rfl 1 (by decide)
  have hk2 := LR1.out.setCell [.int .i64 0, .bool neg, .slice A5 n5 c5, .slice A6 n6 c6] rfl 2 (by decide)
  have hk3 := LR1.out.setCell [.int .i64 0, .bool neg, .slice A5 n5 c5, .slice A6 n6 c6] rfl 3 (by decide)
  have F := Lib.hid (below_sets (w0 := w) (r := w.heap.size) (by omega) [.int .i64 0, .bool neg, .slice A5 n5 c5, .slice A6 n6 c6] 0 _ LB1.out)
  simp [sets] at hk0 hk1 hk2 hk3
  have FR := Lib.hid (LR1.out.rat hr [.int .i64 0, .bool neg, .slice A5 n5 c5, .slice A6 n6 c6])
  clear hr hb1 LR1 LB1
  go_wp2
  refine bodyPost_ret (v := .agg #[.int .i64 0, .bool neg, .slice A5 n5 c5, .slice A6 n6 c6]) (by simp [results, Tryz.results95, go_sem, hk0, hk1, hk2, hk3]) rfl ?_
  exact ⟨neg, _, _, _, _, _, _, rfl, FR.out, F.out⟩

theorem RatV.k34 {w : World} {neg : Bool} {vn vd : Value} {x : Rat} (h : RatV w 1 neg vn vd x) : RatV w 34 neg vn vd x := h.mono (by decide)
set_option maxHeartbeats 1600000 in
theorem bound_raw (b : Nat) (w : World) (hb : b < 18446744073709551616) (hr : rungOf b ≤ M) :
    Calls Tryz.prog 127 #[.int .u64 (b : Int)] w (NewEnd w 34 (es (idx b)) (ex (idx b))) := by
  have hs : ∀ W, Calls Tryz.prog 149 #[.int .i64 0] W (NewRatS W 1 0) := fun W => (int_nat 0 W (by omega)).mono fun _ _ h => h.s
  have HS := Lib.hid hs
  clear hs
  have hc := pat_cases hb
  rw [M_val] at hr
  by_cases h1 : b = 9218868437227405312
  · subst h1
    rw [show idx 9218868437227405312 = (M : Int) from by rw [M_val]; omega, es_max, ex_max]
    clear hc hr
    have LB0 := Lib.hid (show Below w.heap.size w (w.alloc (.cells #[.int .i64 0, .bool false, .slice none 0 0, .slice none 0 0] 67)) from (below_alloc w _))
    have LR0 := Lib.hid (HasBlk.of (n := 4) (Blk.at (W := w) (g := w.heap.size) (by simp <;> omega) 67 #[.int .i64 0, .bool false, .slice none 0 0, .slice none 0 0]) rfl rfl)
    go_enter Tryz.func127, Tryz.ntmps127
    go_wp2_with fail
    refine (HS.out _).mono ?_
    rintro e w1 ⟨neg, A5, n5, c5, A6, n6, c6, rfl, hr, hb1⟩
    have LB1 := Lib.hid (LB0.out.trans (hb1.mono LB0.out.size))
    have LR1 := Lib.hid (LR0.out.keep hb1)
    clear LB0 LR0
    have ha0 := LR1.out.someCell 0 (by decide)
    have hf0 := LR1.out.frozen 0
    have ha1 := LR1.out.someCell 1 (by decide)
    have hf1 := LR1.out.frozen 1
    have ha2 := LR1.out.someCell 2 (by decide)
    have hf2 := LR1.out.frozen 2
    have ha3 := LR1.out.someCell 3 (by decide)
    have hf3 := LR1.out.frozen 3
    have hk0 := LR1.out.setCell [.int .i64 1, .bool neg, .slice A5 n5 c5, .slice A6 n6 c6] rfl 0 (by decide)
    have hk1 := LR1.out.setCell [.int .i64 1, .bool neg, .slice A5 n5 c5, .slice A6 n6 c6] rfl 1 (by decide)
    have hk2 := LR1.out.setCell [.int .i64 1, .bool neg, .slice A5 n5 c5, .slice A6 n6 c6] rfl 2 (by decide)
    have hk3 := LR1.out.setCell [.int .i64 1, .bool neg, .slice A5 n5 c5, .slice A6 n6 c6] rfl 3 (by decide)
    have F := Lib.hid (below_sets (w0 := w) (r := w.heap.size) (by omega) [.int .i64 1, .bool neg, .slice A5 n5 c5, .slice A6 n6 c6] 0 _ LB1.out)
    simp [sets] at hk0 hk1 hk2 hk3
    have FR := Lib.hid (LR1.out.rat hr [.int .i64 1, .bool neg, .slice A5 n5 c5, .slice A6 n6 c6])
    clear hr hb1 LR1 LB1
    go_wp2
    refine bodyPost_ret (v := .agg #[.int .i64 1, .bool neg, .slice A5 n5 c5, .slice A6 n6 c6]) (by simp [results, Tryz.results127, go_sem, hk0, hk1, hk2, hk3]) rfl ?_
    exact ⟨neg, _, _, _, _, _, _, rfl, FR.out.k34, F.out⟩
  · by_cases h2 : b = 18442240474082181120
    · subst h2
      rw [show idx 18442240474082181120 = -(M : Int) from by rw [M_val]; omega, es_min, ex_min]
      clear hc hr h1
      have LB0 := Lib.hid (show Below w.heap.size w (w.alloc (.cells #[.int .i64 0, .bool false, .slice none 0 0, .slice none 0 0] 67)) from (below_alloc w _))
      have LR0 := Lib.hid (HasBlk.of (n := 4) (Blk.at (W := w) (g := w.heap.size) (by simp <;> omega) 67 #[.int .i64 0, .bool false, .slice none 0 0, .slice none 0 0]) rfl rfl)
      go_enter Tryz.func127, Tryz.ntmps127
      go_wp2_with fail
      refine (HS.out _).mono ?_
      rintro e w1 ⟨neg, A5, n5, c5, A6, n6, c6, rfl, hr, hb1⟩
      have LB1 := Lib.hid (LB0.out.trans (hb1.mono LB0.out.size))
      have LR1 := Lib.hid (LR0.out.keep hb1)
      clear LB0 LR0
      have ha0 := LR1.out.someCell 0 (by decide)
      have hf0 := LR1.out.frozen 0
      have ha1 := LR1.out.someCell 1 (by decide)
      have hf1 := LR1.out.frozen 1
      have ha2 := LR1.out.someCell 2 (by decide)
      have hf2 := LR1.out.frozen 2
      have ha3 := LR1.out.someCell 3 (by decide)
      have hf3 := LR1.out.frozen 3
      have hk0 := LR1.out.setCell [.int .i64 (-1), .bool neg, .slice A5 n5 c5, .slice A6 n6 c6] rfl 0 (by decide)
      have hk1 := LR1.out.setCell [.int .i64 (-1), .bool neg, .slice A5 n5 c5, .slice A6 n6 c6] rfl 1 (by decide)
      have hk2 := LR1.out.setCell [.int .i64 (-1), .bool neg, .slice A5 n5 c5, .slice A6 n6 c6] rfl 2 (by decide)
      have hk3 := LR1.out.setCell [.int .i64 (-1), .bool neg, .slice A5 n5 c5, .slice A6 n6 c6] rfl 3 (by decide)
      have F := Lib.hid (below_sets (w0 := w) (r := w.heap.size) (by omega) [.int .i64 (-1), .bool neg, .slice A5 n5 c5, .slice A6 n6 c6] 0 _ LB1.out)
      simp [sets] at hk0 hk1 hk2 hk3
      have FR := Lib.hid (LR1.out.rat hr [.int .i64 (-1), .bool neg, .slice A5 n5 c5, .slice A6 n6 c6])
      clear hr hb1 LR1 LB1
      go_wp2
      refine bodyPost_ret (v := .agg #[.int .i64 (-1), .bool neg, .slice A5 n5 c5, .slice A6 n6 c6]) (by simp [results, Tryz.results127, go_sem, hk0, hk1, hk2, hk3]) rfl ?_
      exact ⟨neg, _, _, _, _, _, _, rfl, FR.out.k34, F.out⟩
    · have e1 : ((b : Int) == 9218868437227405312) = false := by simp; omega
      have e2 : ((b : Int) == 18442240474082181120) = false := by simp; omega
      have hi : -(M : Int) < idx b ∧ idx b < M := by rw [M_val]; omega
      have hpl : pl b = pat (idx b) := pl_real hb (by rw [M_val]; omega)
      have hf : fin (pat (idx b)) := by
        show rungOf _ < M
        rw [rung_pat (by omega) (by omega)]; omega
      have HP := Lib.hid fun W => plain_b b W hb
      have HF := Lib.hid fun W => (frombits_any (pat (idx b)) W (pat_lt (by omega) (by omega)) hf).mono fun _ _ h => h.s
      rw [idx_pat (by omega) (by omega)] at HF
      rw [hpl] at HP
      rw [es_mid hi.1 hi.2, ex_mid hi.1 hi.2]
      clear hc hr h1 h2 hpl hf hi
      have LB0 := Lib.hid (show Below w.heap.size w (w.alloc (.cells #[.int .i64 0, .bool false, .slice none 0 0, .slice none 0 0] 67)) from (below_alloc w _))
      have LR0 := Lib.hid (HasBlk.of (n := 4) (Blk.at (W := w) (g := w.heap.size) (by simp <;> omega) 67 #[.int .i64 0, .bool false, .slice none 0 0, .slice none 0 0]) rfl rfl)
      go_enter Tryz.func127, Tryz.ntmps127
      go_wp2_with fail
      refine (HP.out _).mono ?_
      rintro e w1 ⟨rfl, hb1⟩
      have LB1 := Lib.hid (LB0.out.trans (hb1.mono LB0.out.size))
      have LR1 := Lib.hid (LR0.out.keep hb1)
      clear LB0 LR0
      go_wp2_with fail
      refine (HF.out _).mono ?_
      rintro e w2 ⟨neg, A5, n5, c5, A6, n6, c6, rfl, hr, hb2⟩
      have LB2 := Lib.hid (LB1.out.trans (hb2.mono LB1.out.size))
      have LR2 := Lib.hid (LR1.out.keep hb2)
      clear LB1 LR1
      have ha0 := LR2.out.someCell 0 (by decide)
      have hf0 := LR2.out.frozen 0
      have ha1 := LR2.out.someCell 1 (by decide)
      have hf1 := LR2.out.frozen 1
      have ha2 := LR2.out.someCell 2 (by decide)
      have hf2 := LR2.out.frozen 2
      have ha3 := LR2.out.someCell 3 (by decide)
      have hf3 := LR2.out.frozen 3
      have hk0 := LR2.out.setCell [.int .i64 0, .bool neg, .slice A5 n5 c5, .slice A6 n6 c6] rfl 0 (by decide)
      have hk1 := LR2.out.setCell [.int .i64 0, .bool neg, .slice A5 n5 c5, .slice A6 n6 c6] rfl 1 (by decide)
      have hk2 := LR2.out.setCell [.int .i64 0, .bool neg, .slice A5 n5 c5, .slice A6 n6 c6] rfl 2 (by decide)
      have hk3 := LR2.out.setCell [.int .i64 0, .bool neg, .slice A5 n5 c5, .slice A6 n6 c6] rfl 3 (by decide)
      have F := Lib.hid (below_sets (w0 := w) (r := w.heap.size) (by omega) [.int .i64 0, .bool neg, .slice A5 n5 c5, .slice A6 n6 c6] 0 _ LB2.out)
      simp [sets] at hk0 hk1 hk2 hk3
      have FR := Lib.hid (LR2.out.rat hr [.int .i64 0, .bool neg, .slice A5 n5 c5, .slice A6 n6 c6])
      clear hr hb1 hb2 LR2 LB2
      go_wp2
      refine bodyPost_ret (v := .agg #[.int .i64 0, .bool neg, .slice A5 n5 c5, .slice A6 n6 c6]) (by simp [results, Tryz.results127, go_sem, hk0, hk1, hk2, hk3]) rfl ?_
      exact ⟨neg, _, _, _, _, _, _, rfl, FR.out, F.out⟩

end Go.Proofs.YtmjkmoahkanblaaGreat
