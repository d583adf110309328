/-
Floats of 64 bits as rungs: the magnitude of a rung, its order, and how the model's 'nearest', 'order', 'add' read in these words. Plain Lean: no program in sight.
The model's floats of 64 bits (Ieee.double) in rungs: 'nearest', 'read', 'order'.
A word of 64 bits as an index (its rung, with the sign), and an index as a whole number of units of 2^-1074; how the model's comparisons, sums and products of words read in these words.
Naturals as lists of words of 32 bits, the lowest first. Plain Lean.
Slices of words of 32 bits in memory.
Bits of words, as sums and rests.
Patterns of binary64: plain ones, keys, what is read of two ends. No program.
Rows of words of 32 bits that a call itself has made: append, make.
Arrays of words of 32 bits that a call has made and writes in place: a block that is known whole.
-/
import Derived.Laws.FloatBits
import Derived.Test.YtmjkmoahkanblaaGreatRows
import Derived.WalkKit
import Derived.WalkSpells
import Derived.WalkLawsBesides
import Derived.Laws.OwnMore
import Derived.Lib.Hide
import Derived.Laws.BitsAllLaws
import Derived.Maps.AppendAt
import Derived.Deep.AppendLies
import Derived.Deep.Draws
set_option linter.unusedSimpArgs false
set_option linter.unusedVariables false

namespace Go.Proofs.YtmjkmoahkanblaaGreat
open Ieee

/-- The magnitude of a rung, in units of 2^-1074. -/
def mag (r : Nat) : Nat := if r < 2^52 then r else (2^52 + r % 2^52) * 2^(r / 2^52 - 1)

theorem mag_small {r : Nat} (h : r < 2^52) : mag r = r := by unfold mag; rw [if_pos h]

/-- A rung by its binade and its significand. -/
theorem mag_form (k q : Nat) (h : k = 0 ∨ 2^52 ≤ q) (hq : q ≤ 2^53) : mag (k * 2^52 + q) = q * 2^k := by
  unfold mag
  rcases Nat.lt_or_ge q (2^52) with h1 | h1
  · rcases h with rfl | h
    · rw [if_pos (by omega), Nat.zero_mul, Nat.zero_add, Nat.pow_zero, Nat.mul_one]
    · omega
  · rw [if_neg (by omega)]
    rcases Nat.lt_or_ge q (2^53) with h2 | h2
    · have e1 : (k * 2^52 + q) % 2^52 = q - 2^52 := by omega
      have e2 : (k * 2^52 + q) / 2^52 - 1 = k := by omega
      rw [e1, e2, Nat.add_sub_of_le h1]
    · obtain rfl : q = 2^53 := by omega
      have e1 : (k * 2^52 + 2^53) % 2^52 = 0 := by omega
      have e2 : (k * 2^52 + 2^53) / 2^52 - 1 = k + 1 := by omega
      rw [e1, e2, Nat.add_zero, ← Nat.pow_add, ← Nat.pow_add, Nat.add_comm 52, Nat.add_comm 53, Nat.add_assoc k 1 52]

/-- Every rung has such a form. -/
theorem rung_form (r : Nat) : ∃ k q, r = k * 2^52 + q ∧ (k = 0 ∨ 2^52 ≤ q) ∧ q < 2^53 := by
  rcases Nat.lt_or_ge r (2^52) with h | h
  · exact ⟨0, r, by omega, .inl rfl, by omega⟩
  · refine ⟨r / 2^52 - 1, 2^52 + r % 2^52, by omega, .inr (by omega), by omega⟩

theorem mag_succ (r : Nat) : mag r < mag (r + 1) := by
  obtain ⟨k, q, rfl, h, hq⟩ := rung_form r
  rw [mag_form k q h (by omega), Nat.add_assoc, mag_form k (q + 1) (by omega) (by omega)]
  exact Nat.mul_lt_mul_of_pos_right (by omega) (Nat.two_pow_pos _)

theorem mag_lt {r s : Nat} (h : r < s) : mag r < mag s := by
  induction s with
  | zero => omega
  | succ s ih =>
    rcases Nat.lt_or_ge r s with h1 | h1
    · exact Nat.lt_trans (ih h1) (mag_succ s)
    · obtain rfl : r = s := by omega
      exact mag_succ r

theorem mag_lt_iff {r s : Nat} : mag r < mag s ↔ r < s := by
  constructor
  · intro h
    rcases Nat.lt_or_ge r s with h1 | h1
    · exact h1
    · rcases Nat.lt_or_ge s r with h2 | h2
      · have := mag_lt h2; omega
      · obtain rfl : r = s := by omega
        omega
  · exact mag_lt

theorem mag_le_iff {r s : Nat} : mag r ≤ mag s ↔ r ≤ s := by
  have := @mag_lt_iff s r
  omega

theorem mag_inj {r s : Nat} (h : mag r = mag s) : r = s := by
  have h1 := @mag_le_iff r s
  have h2 := @mag_le_iff s r
  omega

theorem mag_zero : mag 0 = 0 := rfl
theorem mag_pos {r : Nat} (h : 0 < r) : 0 < mag r := by have := mag_lt h; rw [mag_zero] at this; exact this
theorem mag_eq_zero {r : Nat} : mag r = 0 ↔ r = 0 := by
  constructor
  · intro h; exact mag_inj (h.trans mag_zero.symm)
  · rintro rfl; rfl

/-! ### The rung below a number -/

/-- How many places a number of units has beyond 53. -/
def over (n : Nat) : Nat := n.log2 - 52
/-- The rung at or just below 'n' units. -/
def floorRung (n : Nat) : Nat := over n * 2^52 + n / 2^over n

theorem over_spec (n : Nat) : (over n = 0 ∨ 2^52 ≤ n / 2^over n) ∧ n / 2^over n < 2^53 := by
  unfold over
  by_cases h0 : n = 0
  · subst h0; simp
  have h1 := Nat.log2_self_le h0
  have h2 : n < 2^(n.log2 + 1) := Nat.lt_log2_self
  constructor
  · by_cases h : n.log2 ≤ 52
    · left; omega
    · right
      rw [Nat.le_div_iff_mul_le (Nat.two_pow_pos _), ← Nat.pow_add]
      exact Nat.le_trans (Nat.pow_le_pow_right (by omega) (by omega)) h1
  · rw [Nat.div_lt_iff_lt_mul (Nat.two_pow_pos _), ← Nat.pow_add]
    exact Nat.lt_of_lt_of_le h2 (Nat.pow_le_pow_right (by omega) (by omega))

theorem mag_floorRung (n : Nat) : mag (floorRung n) = n / 2^over n * 2^over n := by
  unfold floorRung
  have h := over_spec n
  exact mag_form _ _ h.1 (by omega)

theorem mag_floorRung_le (n : Nat) : mag (floorRung n) ≤ n := by
  rw [mag_floorRung]; exact Nat.div_mul_le_self _ _

theorem lt_mag_floorRung_succ (n : Nat) : n < mag (floorRung n + 1) := by
  unfold floorRung
  have h := over_spec n
  rw [Nat.add_assoc, mag_form _ _ (by omega) (by omega)]
  have h1 := Nat.lt_div_mul_add (a := n) (Nat.two_pow_pos (over n))
  rw [Nat.add_mul]
  omega

theorem le_floorRung {r n : Nat} : r ≤ floorRung n ↔ mag r ≤ n := by
  constructor
  · intro h; exact Nat.le_trans (mag_le_iff.2 h) (mag_floorRung_le n)
  · intro h
    have := Nat.lt_of_le_of_lt h (lt_mag_floorRung_succ n)
    have := mag_lt_iff.1 this
    omega

theorem floorRung_mag (r : Nat) : floorRung (mag r) = r := by
  have h1 := (@le_floorRung r (mag r)).2 (Nat.le_refl _)
  have h2 := (@le_floorRung (floorRung (mag r)) (mag r)).1 (Nat.le_refl _)
  have := mag_le_iff.1 h2
  omega

/-! ### The nearest rung -/

/-- Is the rest of 'n' by 2^k more than a half, or a half with an odd quotient? -/
def bump (n k : Nat) : Bool := decide (2^k < 2 * (n % 2^k)) || (2^k == 2 * (n % 2^k) && n / 2^k % 2 == 1)
/-- The rung nearest to 'n / 2^d' units, as if there were no infinity. -/
def nearRung (n d : Nat) : Nat := floorRung (n / 2^d) + (bump n (d + over (n / 2^d))).toNat

theorem bump_rest {n k : Nat} (h : bump n k = true) : n / 2^k * 2^k < n := by
  have h0 : 0 < n % 2^k := by
    unfold bump at h
    have := Nat.two_pow_pos k
    simp at h
    omega
  have h1 := Nat.div_add_mod n (2^k)
  rw [Nat.mul_comm] at h1
  omega

theorem div_div_pow (n d k : Nat) : n / 2^d / 2^k = n / 2^(d + k) := by
  rw [Nat.div_div_eq_div_mul, Nat.pow_add]

theorem le_nearRung {r n d : Nat} (h : mag r * 2^d ≤ n) : r ≤ nearRung n d := by
  have : mag r ≤ n / 2^d := (Nat.le_div_iff_mul_le (Nat.two_pow_pos _)).2 h
  have := le_floorRung.2 this
  unfold nearRung; omega

theorem nearRung_le {r n d : Nat} (h : n ≤ mag r * 2^d) : nearRung n d ≤ r := by
  unfold nearRung
  cases hb : bump n (d + over (n / 2^d))
  · simp
    refine mag_le_iff.1 (Nat.le_trans (mag_floorRung_le _) ?_)
    exact Nat.le_trans (Nat.div_le_div_right h) (by rw [Nat.mul_div_cancel _ (Nat.two_pow_pos _)]; exact Nat.le_refl _)
  · have h1 := bump_rest hb
    rw [← div_div_pow, Nat.add_comm d, Nat.pow_add, ← Nat.mul_assoc, ← mag_floorRung] at h1
    have h2 := Nat.lt_of_mul_lt_mul_right (Nat.lt_of_lt_of_le h1 h)
    have := mag_lt_iff.1 h2
    simp; omega

theorem nearRung_mag (r d : Nat) : nearRung (mag r * 2^d) d = r :=
  Nat.le_antisymm (nearRung_le (Nat.le_refl _)) (le_nearRung (Nat.le_refl _))

end Go.Proofs.YtmjkmoahkanblaaGreat

namespace Go.Proofs.YtmjkmoahkanblaaGreat
open Ieee

/-- The rung of infinity. -/
def M : Nat := 2047 * 2^52
theorem infRung_eq : double.infRung = M := by decide
theorem leastPlace_eq : double.leastPlace = -1074 := by decide
theorem binade_eq : double.binade = 2^52 := by decide
theorem signWeight_eq : double.signWeight = 2^63 := by decide

theorem log2_div_pow (n d : Nat) : (n / 2^d).log2 = n.log2 - d := by
  by_cases h : n / 2^d = 0
  · rw [h]
    have h1 : n < 2^d := by
      rcases Nat.div_eq_zero_iff.1 h with h | h
      · have := Nat.two_pow_pos d; omega
      · exact h
    by_cases h0 : n = 0
    · subst h0; simp
    · have := (Nat.log2_lt h0).2 h1
      simp; omega
  · have hn : n ≠ 0 := by rintro rfl; simp at h
    have h1 := Nat.log2_self_le hn
    have h2 : n < 2^(n.log2 + 1) := Nat.lt_log2_self
    have hd : d ≤ n.log2 := by
      rcases Nat.lt_or_ge n.log2 d with h3 | h3
      · exact absurd (Nat.div_eq_of_lt (Nat.lt_of_lt_of_le h2 (Nat.pow_le_pow_right (by omega) (by omega)))) h
      · exact h3
    rw [Nat.log2_eq_iff h]
    constructor
    · rw [Nat.le_div_iff_mul_le (Nat.two_pow_pos _), ← Nat.pow_add, Nat.sub_add_cancel hd]; exact h1
    · rw [Nat.div_lt_iff_lt_mul (Nat.two_pow_pos _), ← Nat.pow_add]
      exact Nat.lt_of_lt_of_le h2 (Nat.pow_le_pow_right (by omega) (by omega))

theorem cut_even (neg : Bool) (n k : Nat) : Toward.even.cut neg n k = n / 2^k + (bump n k).toNat := by
  unfold Toward.cut bump
  simp only [Nat.shiftLeft_eq, Nat.one_mul]
  rcases Nat.lt_or_ge (n.log2 + 2) k with h | h
  · rw [Nat.min_eq_right (by omega)]
    have h2 : n < 2^(n.log2 + 1) := Nat.lt_log2_self
    have h3 : 2^(n.log2 + 2) ≤ 2^k := Nat.pow_le_pow_right (by omega) (by omega)
    have h4 : 2^(n.log2 + 2) = 2 * 2^(n.log2 + 1) := by rw [Nat.pow_succ]; omega
    rw [Nat.div_eq_of_lt (by omega), Nat.div_eq_of_lt (show n < 2^k by omega), Nat.mod_eq_of_lt (by omega), Nat.mod_eq_of_lt (show n < 2^k by omega)]
    have a1 : decide (2^(n.log2 + 2) < 2 * n) = false := decide_eq_false (by omega)
    have a2 : decide (2^k < 2 * n) = false := decide_eq_false (by omega)
    rw [a1, a2]; simp
  · rw [Nat.min_eq_left h]

theorem bump_zero (k : Nat) : bump 0 k = false := by
  unfold bump
  have := Nat.two_pow_pos k
  simp

theorem nearest_low (neg : Bool) (n d : Nat) : double.nearest neg n (-1074 - (d : Int)) = double.word neg (min (nearRung n d) M) := by
  unfold Format.nearest
  by_cases h0 : n = 0
  · subst h0
    rw [if_pos rfl]
    unfold nearRung
    rw [bump_zero, Nat.zero_div]
    rfl
  rw [if_neg h0]
  have ho : over (n / 2^d) = n.log2 - d - 52 := by unfold over; rw [log2_div_pow]
  have hl : max (-1074 - (d : Int) + (n.log2 : Int) - (double.fractionBits : Int)) double.leastPlace = -1074 + (over (n / 2^d) : Int) := by
    rw [ho, leastPlace_eq]
    show max (-1074 - (d : Int) + (n.log2 : Int) - 52) (-1074) = _
    omega
  dsimp only
  rw [hl, leastPlace_eq, binade_eq, infRung_eq]
  have e1 : (-1074 - (d : Int) - (-1074 + (over (n / 2^d) : Int))).toNat = 0 := by omega
  have e2 : (-1074 + (over (n / 2^d) : Int) - (-1074 - (d : Int))).toNat = d + over (n / 2^d) := by omega
  have e3 : (-1074 + (over (n / 2^d) : Int) - -1074).toNat = over (n / 2^d) := by omega
  rw [e1, e2, e3, Nat.shiftLeft_zero, cut_even]
  unfold nearRung floorRung
  rw [div_div_pow, Nat.add_assoc]

theorem nearest_units (neg : Bool) (n : Nat) : double.nearest neg n (-1074) = double.word neg (min (nearRung n 0) M) := by
  have := nearest_low neg n 0
  simpa using this

/-- The value alone counts. -/
theorem nearest_shift (neg : Bool) (n k : Nat) (place : Int) : double.nearest neg n (place + (k : Int)) = double.nearest neg (n * 2^k) place := by
  by_cases h0 : n = 0
  · subst h0; simp [Format.nearest]
  have hk : n * 2^k ≠ 0 := Nat.mul_ne_zero h0 (by have := Nat.two_pow_pos k; omega)
  have hlog : (n * 2^k).log2 = n.log2 + k := by
    rw [Nat.log2_eq_iff hk]
    have h1 := Nat.log2_self_le h0
    have h2 : n < 2^(n.log2 + 1) := Nat.lt_log2_self
    constructor
    · rw [Nat.pow_add]; exact Nat.mul_le_mul_right _ h1
    · rw [show n.log2 + k + 1 = n.log2 + 1 + k from by omega, Nat.pow_add 2 (n.log2 + 1)]; exact Nat.mul_lt_mul_of_pos_right h2 (Nat.two_pow_pos k)
  unfold Format.nearest
  rw [if_neg h0, if_neg hk, hlog]
  dsimp only
  rw [show (place + ((n.log2 + k : Nat) : Int) - (double.fractionBits : Int)) = place + (k : Int) + (n.log2 : Int) - (double.fractionBits : Int) from by omega]
  generalize max (place + (k : Int) + (n.log2 : Int) - (double.fractionBits : Int)) double.leastPlace = last
  congr 3
  rw [cut_even, cut_even, Nat.shiftLeft_eq, Nat.shiftLeft_eq]
  rcases Int.le_total last place with h | h
  · -- both are whole
    rw [show (place + (k : Int) - last).toNat = k + (place - last).toNat from by omega, show (last - (place + (k : Int))).toNat = 0 from by omega, show (last - place).toNat = 0 from by omega, Nat.pow_add, Nat.mul_assoc]
  · obtain ⟨d, hd⟩ : ∃ d : Nat, last = place + d := ⟨(last - place).toNat, by omega⟩
    subst hd
    rcases Nat.le_total d k with hdk | hdk
    · obtain ⟨a, rfl⟩ : ∃ a, k = a + d := ⟨k - d, by omega⟩
      rw [show (place + ((a + d : Nat) : Int) - (place + (d : Int))).toNat = a from by omega, show (place + (d : Int) - (place + ((a + d : Nat) : Int))).toNat = 0 from by omega, show (place - (place + (d : Int))).toNat = 0 from by omega, show (place + (d : Int) - place).toNat = d from by omega]
      rw [Nat.pow_add 2 a d, ← Nat.mul_assoc]
      generalize n * 2^a = m
      have := Nat.two_pow_pos d
      have b1 : bump m 0 = false := by unfold bump; simp [Nat.mod_one]
      have b2 : bump (m * 2^d * 2^0) d = false := by
        unfold bump
        rw [Nat.pow_zero, Nat.mul_one, Nat.mul_mod_left]
        simp
      rw [b1, b2]
      simp only [Nat.pow_zero, Nat.div_one, Nat.mul_one]
      rw [Nat.mul_div_cancel _ this]
    · obtain ⟨a, rfl⟩ : ∃ a, d = k + a := ⟨d - k, by omega⟩
      rw [show (place + (k : Int) - (place + ((k + a : Nat) : Int))).toNat = 0 from by omega, show (place + ((k + a : Nat) : Int) - (place + (k : Int))).toNat = a from by omega, show (place - (place + ((k + a : Nat) : Int))).toNat = 0 from by omega, show (place + ((k + a : Nat) : Int) - place).toNat = k + a from by omega]
      rw [Nat.pow_zero, Nat.mul_one, Nat.mul_one]
      have hp := Nat.two_pow_pos k
      have e1 : n * 2^k / 2^(k + a) = n / 2^a := by rw [Nat.pow_add, Nat.mul_comm n, Nat.mul_div_mul_left _ _ hp]
      have e2 : n * 2^k % 2^(k + a) = 2^k * (n % 2^a) := by rw [Nat.pow_add, Nat.mul_comm n, Nat.mul_mod_mul_left]
      rw [e1]
      congr 2
      unfold bump
      rw [e1, e2, Nat.pow_add]
      generalize 2^a = x
      generalize n % x = y
      generalize 2^k = p at hp
      have c1 : decide (p * x < 2 * (p * y)) = decide (x < 2 * y) := by
        rw [show 2 * (p * y) = p * (2 * y) from by rw [Nat.mul_left_comm]]
        simp [Nat.mul_lt_mul_left hp]
      have c2 : (p * x == 2 * (p * y)) = (x == 2 * y) := by
        rw [show 2 * (p * y) = p * (2 * y) from by rw [Nat.mul_left_comm]]
        rw [Bool.eq_iff_iff]; simp [Nat.mul_right_inj (by omega : p ≠ 0)]
      rw [c1, c2]

theorem nearest_high (neg : Bool) (n k : Nat) : double.nearest neg n (-1074 + (k : Int)) = double.word neg (min (nearRung (n * 2^k) 0) M) := by
  rw [nearest_shift, nearest_units]

end Go.Proofs.YtmjkmoahkanblaaGreat

namespace Go.Proofs.YtmjkmoahkanblaaGreat
open Ieee

def rungOf (b : Nat) : Nat := b % 2^63
def sgn (b : Nat) : Bool := b / 2^63 % 2 == 1
/-- Where a word stands among all: 0 at 0, -M and M at the infinities. -/
def idx (b : Nat) : Int := if sgn b then -(rungOf b : Int) else rungOf b
/-- The number at an index, in units. -/
def val (i : Int) : Int := if i < 0 then -(mag i.natAbs : Int) else mag i.natAbs

/-- Not a NaN. -/
def real (b : Nat) : Prop := rungOf b ≤ M
/-- A number. -/
def fin (b : Nat) : Prop := rungOf b < M
theorem fin.real {b : Nat} (h : fin b) : real b := Nat.le_of_lt h

theorem val_nat (r : Nat) : val (r : Int) = mag r := by
  unfold val; rw [if_neg (by omega), Int.natAbs_natCast]
theorem val_neg (i : Int) : val (-i) = -val i := by
  unfold val
  rw [Int.natAbs_neg]
  rcases Int.lt_trichotomy i 0 with h | h | h
  · rw [if_neg (by omega), if_pos h]; omega
  · subst h; rfl
  · rw [if_pos (by omega), if_neg (by omega)]
theorem val_zero : val 0 = 0 := rfl
theorem val_lt_iff {i j : Int} : val i < val j ↔ i < j := by
  unfold val
  have h1 := @mag_lt_iff i.natAbs j.natAbs
  have h2 := @mag_lt_iff j.natAbs i.natAbs
  have h3 := @mag_eq_zero i.natAbs
  have h4 := @mag_eq_zero j.natAbs
  split <;> split <;> omega
theorem val_le_iff {i j : Int} : val i ≤ val j ↔ i ≤ j := by have := @val_lt_iff j i; omega
theorem val_inj {i j : Int} : val i = val j ↔ i = j := by
  have := @val_le_iff i j; have := @val_le_iff j i; omega
theorem val_pos {i : Int} : 0 < val i ↔ 0 < i := by have := @val_lt_iff 0 i; rwa [val_zero] at this
theorem val_neg_iff {i : Int} : val i < 0 ↔ i < 0 := by have := @val_lt_iff i 0; rwa [val_zero] at this
theorem val_eq_zero {i : Int} : val i = 0 ↔ i = 0 := by have := @val_inj i 0; rwa [val_zero] at this
theorem val_natAbs (i : Int) : (val i).natAbs = mag i.natAbs := by
  unfold val; split <;> omega
theorem idx_natAbs (b : Nat) : (idx b).natAbs = rungOf b := by unfold idx; split <;> omega
theorem val_idx (b : Nat) : val (idx b) = if sgn b then -(mag (rungOf b) : Int) else mag (rungOf b) := by
  unfold idx
  split
  · rw [val_neg, val_nat]
  · rw [val_nat]

theorem signed_eq (s : Bool) (m k : Nat) : signed s m k = if s then -((m * 2^k : Nat) : Int) else ((m * 2^k : Nat) : Int) := by
  unfold signed; rw [Nat.shiftLeft_eq]

/-- A number's word, read. -/
theorem read_fin {b : Nat} (h : fin b) : ∃ m k : Nat, double.read b = .number (sgn b) m (-1074 + (k : Int)) ∧ m * 2^k = mag (rungOf b) ∧ (k = 0 ∨ 2^52 ≤ m) ∧ m < 2^53 := by
  unfold fin rungOf M at h
  unfold Format.read
  rw [signWeight_eq, binade_eq, infRung_eq, leastPlace_eq]
  dsimp only
  unfold rungOf sgn
  by_cases h1 : b % 2^63 < 2^52
  · rw [if_pos h1]
    exact ⟨_, 0, rfl, by rw [mag_small h1, Nat.pow_zero, Nat.mul_one], .inl rfl, by omega⟩
  · rw [if_neg h1, if_pos (show b % 2^63 < M from h)]
    refine ⟨_, b % 2^63 / 2^52 - 1, rfl, ?_, .inr (by omega), by omega⟩
    unfold mag
    rw [if_neg h1]

theorem read_inf {b : Nat} (h : rungOf b = M) : double.read b = .infinity (sgn b) := by
  unfold rungOf M at h
  unfold Format.read
  rw [signWeight_eq, binade_eq, infRung_eq, leastPlace_eq]
  dsimp only
  rw [if_neg (by omega), if_neg (by unfold M; omega), if_pos (show b % 2^63 = M from h)]
  rfl

theorem read_nan {b : Nat} (h : M < rungOf b) : double.read b = .nan (sgn b) (rungOf b - M) := by
  unfold rungOf M at h
  unfold Format.read
  rw [signWeight_eq, binade_eq, infRung_eq, leastPlace_eq]
  dsimp only
  rw [if_neg (by omega), if_neg (by unfold M; omega), if_neg (by unfold M; omega)]
  rfl

theorem read_val {b : Nat} {m k : Nat} (h : m * 2^k = mag (rungOf b)) : signed (sgn b) m k = val (idx b) := by
  rw [signed_eq, val_idx, h]

theorem signed_split (s : Bool) (m a c : Nat) : signed s m (a + c) = signed s m a * 2^c := by
  rw [signed_eq, signed_eq, Nat.pow_add, ← Nat.mul_assoc]
  split
  · rw [Int.natCast_mul, Int.neg_mul]; simp
  · rw [Int.natCast_mul]; simp

/-! ### Comparisons -/

theorem compare_scale (a b : Int) (k : Nat) : compare (a * 2^k) (b * 2^k) = compare a b := by
  have hp : (0 : Int) < 2^k := by exact_mod_cast Nat.two_pow_pos k
  rcases Int.lt_trichotomy a b with h | h | h
  · rw [Int.compare_eq_lt.2 h, Int.compare_eq_lt.2 (Int.mul_lt_mul_of_pos_right h hp)]
  · subst h; rw [Int.compare_eq_eq.2 rfl, Int.compare_eq_eq.2 rfl]
  · rw [Int.compare_eq_gt.2 h, Int.compare_eq_gt.2 (Int.mul_lt_mul_of_pos_right h hp)]

theorem compare_val (i j : Int) : compare (val i) (val j) = compare i j := by
  rcases Int.lt_trichotomy i j with h | h | h
  · rw [Int.compare_eq_lt.2 h, Int.compare_eq_lt.2 (val_lt_iff.2 h)]
  · subst h; rw [Int.compare_eq_eq.2 rfl, Int.compare_eq_eq.2 rfl]
  · rw [Int.compare_eq_gt.2 h, Int.compare_eq_gt.2 (val_lt_iff.2 h)]

theorem order_real {x y : Nat} (hx : real x) (hy : real y) : double.order x y = some (compare (idx x) (idx y)) := by
  unfold Format.order
  have ax := idx_natAbs x
  have ay := idx_natAbs y
  have sx : idx x = if sgn x then -(rungOf x : Int) else rungOf x := rfl
  have sy : idx y = if sgn y then -(rungOf y : Int) else rungOf y := rfl
  have hM : 0 < M := by decide
  unfold real at hx hy
  rcases Nat.lt_or_ge (rungOf x) M with fx | fx <;> rcases Nat.lt_or_ge (rungOf y) M with fy | fy
  · obtain ⟨m, k, e, hm, _⟩ := read_fin fx
    obtain ⟨n, l, e', hn, _⟩ := read_fin fy
    rw [e, e']
    simp only [Datum.order]
    congr 1
    rw [← compare_val (idx x), ← read_val hm, ← read_val hn]
    rcases Nat.le_total k l with h | h
    · rw [show min (-1074 + (k : Int)) (-1074 + (l : Int)) = -1074 + (k : Int) from by omega, show (-1074 + (k : Int) - (-1074 + (k : Int))).toNat = 0 from by omega, show (-1074 + (l : Int) - (-1074 + (k : Int))).toNat = l - k from by omega]
      rw [← compare_scale _ _ k, ← signed_split, ← signed_split, Nat.zero_add, Nat.sub_add_cancel h]
    · rw [show min (-1074 + (k : Int)) (-1074 + (l : Int)) = -1074 + (l : Int) from by omega, show (-1074 + (l : Int) - (-1074 + (l : Int))).toNat = 0 from by omega, show (-1074 + (k : Int) - (-1074 + (l : Int))).toNat = k - l from by omega]
      rw [← compare_scale _ _ l, ← signed_split, ← signed_split, Nat.zero_add, Nat.sub_add_cancel h]
  · obtain ⟨m, k, e, hm, _⟩ := read_fin fx
    rw [e, read_inf (by omega)]
    simp only [Datum.order]
    congr 1; symm
    cases h : sgn y
    · simp [h] at sy ⊢; rw [Int.compare_eq_lt]; omega
    · simp [h] at sy ⊢; rw [Int.compare_eq_gt]; omega
  · obtain ⟨m, k, e, hm, _⟩ := read_fin fy
    rw [e, read_inf (by omega)]
    simp only [Datum.order]
    congr 1; symm
    cases h : sgn x
    · simp [h] at sx ⊢; rw [Int.compare_eq_gt]; omega
    · simp [h] at sx ⊢; rw [Int.compare_eq_lt]; omega
  · rw [read_inf (by omega), read_inf (by omega)]
    simp only [Datum.order]
    congr 1; symm
    cases h : sgn x <;> cases h' : sgn y <;> simp [h, h'] at sx sy ⊢
    · omega
    · rw [show compare 1 0 = Ordering.gt from rfl, Int.compare_eq_gt]; omega
    · rw [show compare 0 1 = Ordering.lt from rfl, Int.compare_eq_lt]; omega
    · omega

theorem order_nan_left {x : Nat} (y : Nat) (hx : M < rungOf x) : double.order x y = none := by
  unfold Format.order; rw [read_nan hx]; rfl
theorem order_nan_right (x : Nat) {y : Nat} (hy : M < rungOf y) : double.order x y = none := by
  unfold Format.order; rw [read_nan hy]; cases double.read x <;> rfl

end Go.Proofs.YtmjkmoahkanblaaGreat

namespace Go.Proofs.YtmjkmoahkanblaaGreat

/-- The natural of a list of words. -/
def num : List Nat → Nat
  | [] => 0
  | x :: l => x + 2^32 * num l
def W32 (l : List Nat) : Prop := ∀ x ∈ l, x < 2^32

theorem num_nil : num [] = 0 := rfl
theorem num_cons (x : Nat) (l : List Nat) : num (x :: l) = x + 2^32 * num l := rfl
theorem W32.nil : W32 [] := fun _ h => by cases h
theorem W32.cons {x : Nat} {l : List Nat} (hx : x < 2^32) (h : W32 l) : W32 (x :: l) := by
  intro y hy
  rcases List.mem_cons.1 hy with rfl | hy
  · exact hx
  · exact h y hy
theorem W32.tail {x : Nat} {l : List Nat} (h : W32 (x :: l)) : W32 l := fun y hy => h y (List.mem_cons_of_mem _ hy)
theorem W32.head {x : Nat} {l : List Nat} (h : W32 (x :: l)) : x < 2^32 := h x (List.mem_cons_self ..)
theorem W32.get {l : List Nat} (h : W32 l) (i : Nat) : l[i]?.getD 0 < 2^32 := by
  cases e : l[i]? with
  | none => simp
  | some x => exact h x (List.mem_of_getElem? e)
theorem W32.append {l m : List Nat} (h : W32 l) (h' : W32 m) : W32 (l ++ m) := by
  intro x hx
  rcases List.mem_append.1 hx with hx | hx
  · exact h x hx
  · exact h' x hx
theorem W32.take {l : List Nat} (h : W32 l) (n : Nat) : W32 (l.take n) := fun x hx => h x (List.mem_of_mem_take hx)
theorem W32.drop {l : List Nat} (h : W32 l) (n : Nat) : W32 (l.drop n) := fun x hx => h x (List.mem_of_mem_drop hx)
theorem W32.set {l : List Nat} (h : W32 l) (n : Nat) {x : Nat} (hx : x < 2^32) : W32 (l.set n x) := by
  intro y hy
  rcases List.mem_or_eq_of_mem_set hy with hy | rfl
  · exact h y hy
  · exact hx
theorem W32.replicate (n : Nat) : W32 (List.replicate n 0) := by
  intro x hx
  rw [List.eq_of_mem_replicate hx]; omega

theorem pow32 (n : Nat) : 2^(32 * (n + 1)) = 2^32 * 2^(32 * n) := by rw [Nat.mul_add, Nat.mul_one, Nat.pow_add, Nat.mul_comm]

theorem num_append (l m : List Nat) : num (l ++ m) = num l + 2^(32 * l.length) * num m := by
  induction l with
  | nil => simp [num]
  | cons x l ih =>
    rw [List.cons_append, num_cons, num_cons, ih, List.length_cons, pow32, Nat.mul_add, Nat.mul_assoc, Nat.add_assoc]

theorem num_lt {l : List Nat} (h : W32 l) : num l < 2^(32 * l.length) := by
  induction l with
  | nil => simp [num]
  | cons x l ih =>
    have h1 := ih h.tail
    have h2 := h.head
    rw [num_cons, List.length_cons, pow32]
    generalize 2^(32 * l.length) = p at *
    omega

theorem num_replicate (n : Nat) : num (List.replicate n 0) = 0 := by
  induction n with
  | zero => rfl
  | succ n ih => rw [List.replicate_succ, num_cons, ih]

theorem num_take_drop (l : List Nat) (k : Nat) : num l = num (l.take k) + 2^(32 * min k l.length) * num (l.drop k) := by
  have := num_append (l.take k) (l.drop k)
  rw [List.take_append_drop, List.length_take] at this
  exact this

theorem num_take_succ (l : List Nat) (k : Nat) (h : k < l.length) : num (l.take (k + 1)) = num (l.take k) + 2^(32 * k) * l[k]?.getD 0 := by
  rw [List.take_succ_eq_append_getElem h, num_append, List.length_take, Nat.min_eq_left (by omega)]
  simp [num, h]

theorem num_set (l : List Nat) (k x : Nat) (h : k < l.length) : num (l.set k x) + 2^(32 * k) * l[k]?.getD 0 = num l + 2^(32 * k) * x := by
  induction l generalizing k with
  | nil => simp at h
  | cons y l ih =>
    cases k with
    | zero => simp [num]; omega
    | succ k =>
      have := ih k (by simpa using h)
      rw [List.set_cons_succ, num_cons, num_cons, pow32]
      rw [show (y :: l)[k + 1]?.getD 0 = l[k]?.getD 0 from rfl]
      rw [Nat.mul_assoc, Nat.mul_assoc]
      generalize 2^(32 * k) * l[k]?.getD 0 = a at *
      generalize 2^(32 * k) * x = b at *
      omega

/-! ### Without noughts at the high end -/

def trim : List Nat → List Nat
  | [] => []
  | x :: l => if trim l = [] ∧ x = 0 then [] else x :: trim l

/-- How many words there are without the noughts at the high end. -/
def wlen (l : List Nat) : Nat := (trim l).length

theorem trim_eq_nil {l : List Nat} : trim l = [] ↔ num l = 0 := by
  induction l with
  | nil => simp [trim, num]
  | cons x l ih =>
    unfold trim
    rw [num_cons]
    split
    · rename_i h
      have := ih.1 h.1
      simp [this, h.2]
    · rename_i h
      simp
      intro hx h0
      exact h ⟨ih.2 (by omega), hx⟩

theorem num_trim (l : List Nat) : num (trim l) = num l := by
  induction l with
  | nil => rfl
  | cons x l ih =>
    unfold trim
    split
    · rename_i h
      rw [num_cons, h.2, trim_eq_nil.1 h.1]; rfl
    · rw [num_cons, num_cons, ih]

theorem trim_eq_take (l : List Nat) : trim l = l.take (wlen l) := by
  induction l with
  | nil => rfl
  | cons x l ih =>
    unfold wlen
    unfold trim
    split
    · simp
    · rw [List.length_cons, List.take_succ_cons]
      congr 1

theorem wlen_le (l : List Nat) : wlen l ≤ l.length := by
  have := congrArg List.length (trim_eq_take l)
  rw [List.length_take] at this
  unfold wlen at *
  omega

theorem W32.trim {l : List Nat} (h : W32 l) : W32 (trim l) := by rw [trim_eq_take]; exact h.take _

theorem wlen_eq_zero {l : List Nat} : wlen l = 0 ↔ num l = 0 := by
  unfold wlen
  rw [List.length_eq_zero_iff, trim_eq_nil]

/-- The words behind are noughts; the last one of those that count is none. -/
theorem wlen_of {l : List Nat} {n : Nat} (hn : n ≤ l.length) (h : ∀ j : Nat, n ≤ j → l[j]?.getD 0 = 0) (h' : n = 0 ∨ l[n - 1]?.getD 0 ≠ 0) : wlen l = n := by
  induction l generalizing n with
  | nil => simp at hn; subst hn; rfl
  | cons x l ih =>
    cases n with
    | zero =>
      rw [wlen_eq_zero]
      have hz : ∀ m : List Nat, (∀ j : Nat, m[j]?.getD 0 = 0) → num m = 0 := by
        intro m
        induction m with
        | nil => intro _; rfl
        | cons y m ihm =>
          intro hm
          have h0 := hm 0
          have h1 := ihm (fun j => by have := hm (j + 1); simpa using this)
          simp at h0
          rw [num_cons, h0, h1]
      exact hz _ fun j => h j (Nat.zero_le _)
    | succ n =>
      have h1 : wlen l = n := by
        refine ih (by simpa using hn) (fun j hj => ?_) ?_
        · have := h (j + 1) (by omega); simpa using this
        · rcases n with _ | n
          · exact .inl rfl
          · right
            rcases h' with h' | h'
            · omega
            · simpa using h'
      have h2 : ¬ (Proofs.YtmjkmoahkanblaaGreat.trim l = [] ∧ x = 0) := by
        rintro ⟨ht, rfl⟩
        have : wlen l = 0 := by unfold wlen; rw [ht]; rfl
        rcases h' with h' | h'
        · omega
        · rw [← h1, this] at h'; simp at h'
      unfold wlen Proofs.YtmjkmoahkanblaaGreat.trim
      rw [if_neg h2, List.length_cons]
      unfold wlen at h1
      omega

theorem wlen_spec (l : List Nat) : (∀ j : Nat, wlen l ≤ j → l[j]?.getD 0 = 0) ∧ (wlen l = 0 ∨ l[wlen l - 1]?.getD 0 ≠ 0) := by
  induction l with
  | nil => exact ⟨fun j _ => by simp, .inl rfl⟩
  | cons x l ih =>
    by_cases h : Proofs.YtmjkmoahkanblaaGreat.trim l = [] ∧ x = 0
    · have e : wlen (x :: l) = 0 := by unfold wlen Proofs.YtmjkmoahkanblaaGreat.trim; rw [if_pos h]; rfl
      have hl : wlen l = 0 := by unfold wlen; rw [h.1]; rfl
      refine ⟨fun j _ => ?_, .inl e⟩
      cases j with
      | zero => simp [h.2]
      | succ j => have := ih.1 j (by omega); simpa using this
    · have e : wlen (x :: l) = wlen l + 1 := by
        unfold wlen
        rw [Proofs.YtmjkmoahkanblaaGreat.trim, if_neg h]; rfl
      refine ⟨fun j hj => ?_, .inr ?_⟩
      · cases j with
        | zero => omega
        | succ j => have := ih.1 j (by omega); simpa using this
      · rw [e]
        rcases ih.2 with h0 | h0
        · rw [h0]
          have ht : Proofs.YtmjkmoahkanblaaGreat.trim l = [] := List.eq_nil_of_length_eq_zero h0
          simp; intro hx; exact h ⟨ht, hx⟩
        · rcases Nat.eq_zero_or_pos (wlen l) with h1 | h1
          · rw [h1] at h0 ⊢
            have ht : Proofs.YtmjkmoahkanblaaGreat.trim l = [] := List.eq_nil_of_length_eq_zero h1
            simp; intro hx; exact h ⟨ht, hx⟩
          · obtain ⟨k, hk⟩ : ∃ k, wlen l = k + 1 := ⟨wlen l - 1, by omega⟩
            rw [hk] at h0 ⊢
            simpa using h0

theorem num_lt_wlen {l : List Nat} (h : W32 l) : num l < 2^(32 * wlen l) := by
  rw [← num_trim l]; exact num_lt h.trim

theorem le_num_wlen {l : List Nat} (h : 0 < wlen l) : 2^(32 * (wlen l - 1)) ≤ num l := by
  have hs := wlen_spec l
  have hl := wlen_le l
  have h1 := num_take_succ l (wlen l - 1) (by omega)
  rw [Nat.sub_add_cancel h, ← trim_eq_take, num_trim] at h1
  have h2 : 0 < l[wlen l - 1]?.getD 0 := by omega
  rw [h1]
  refine Nat.le_trans ?_ (Nat.le_add_left _ _)
  exact Nat.le_mul_of_pos_right _ h2

/-! ### The list of a natural -/

def digs (n : Nat) : List Nat := if h : n = 0 then [] else (n % 2^32) :: digs (n / 2^32)
termination_by n
decreasing_by omega

theorem digs_zero : digs 0 = [] := by unfold digs; simp
theorem digs_pos {n : Nat} (h : n ≠ 0) : digs n = (n % 2^32) :: digs (n / 2^32) := by
  rw [digs, dif_neg h]
theorem W32.digs (n : Nat) : W32 (digs n) := by
  induction n using Nat.strongRecOn with
  | ind n ih =>
    by_cases h : n = 0
    · rw [h, digs_zero]; exact W32.nil
    · rw [digs_pos h]; exact W32.cons (by omega) (ih _ (by omega))
theorem num_digs (n : Nat) : num (digs n) = n := by
  induction n using Nat.strongRecOn with
  | ind n ih =>
    by_cases h : n = 0
    · rw [h, digs_zero]; rfl
    · rw [digs_pos h, num_cons, ih _ (by omega)]; omega
theorem trim_eq_digs {l : List Nat} (h : W32 l) : trim l = digs (num l) := by
  induction l with
  | nil => simp [trim, num, digs_zero]
  | cons x l ih =>
    have hx := h.head
    have h1 := ih h.tail
    unfold Proofs.YtmjkmoahkanblaaGreat.trim
    split
    · rename_i h2
      rw [num_cons, h2.2, trim_eq_nil.1 h2.1, digs_zero]
    · rename_i h2
      have hn : num (x :: l) ≠ 0 := by
        rw [num_cons]; intro h0
        exact h2 ⟨trim_eq_nil.2 (by omega), by omega⟩
      rw [digs_pos hn, num_cons, show (x + 2^32 * num l) % 2^32 = x from by omega, show (x + 2^32 * num l) / 2^32 = num l from by omega, h1]
theorem trim_digs (n : Nat) : trim (digs n) = digs n := by rw [trim_eq_digs (W32.digs n), num_digs]
theorem wlen_digs (n : Nat) : wlen (digs n) = (digs n).length := by unfold wlen; rw [trim_digs]
theorem digs_length_le {n k : Nat} (h : n < 2^(32 * k)) : (digs n).length ≤ k := by
  rcases Nat.lt_or_ge k (digs n).length with h1 | h1
  · have h2 := le_num_wlen (l := digs n) (by rw [wlen_digs]; omega)
    rw [wlen_digs, num_digs] at h2
    have := Nat.pow_le_pow_right (n := 2) (by omega) (show 32 * k ≤ 32 * ((digs n).length - 1) by omega)
    omega
  · exact h1
theorem digs_eq_nil {n : Nat} : digs n = [] ↔ n = 0 := by
  constructor
  · intro h; rw [← num_digs n, h]; rfl
  · rintro rfl; exact digs_zero
theorem digs_length_eq_zero {n : Nat} : (digs n).length = 0 ↔ n = 0 := by rw [List.length_eq_zero_iff, digs_eq_nil]

end Go.Proofs.YtmjkmoahkanblaaGreat

namespace Go.Proofs.YtmjkmoahkanblaaGreat
open Go.RowKit

abbrev wd (x : Nat) : Value := .int .u32 (x : Int)

theorem block_of_add (a : Addr) (n : Nat) : (a.add n).block = a.block := by unfold Addr.add; split <;> rfl
theorem add_of_add (a : Addr) (i j : Nat) : (a.add i).add j = a.add (i + j) := by
  unfold Addr.add
  by_cases hi : i = 0 <;> by_cases hj : j = 0 <;> simp [hi, hj, Nat.add_assoc]

/-- The slice '.slice A n c' holds the words xs. -/
structure U32s (w : World) (A : Option Addr) (n c : Nat) (xs : List Nat) : Prop where
  len : xs.length = n
  cap : n ≤ c
  small : n ≤ 34359738368
  w32 : W32 xs
  at_ : 0 < n → ∃ ad, A = some ad ∧ ad.block < w.heap.size ∧ ∀ j : Nat, j < n → w.cell? (ad.add j) = some (wd (xs[j]?.getD 0))

theorem U32s.keep {w w' : World} {A : Option Addr} {n c : Nat} {xs : List Nat} (h : U32s w A n c xs) (hs : w.heap.size ≤ w'.heap.size)
    (hk : ∀ ad, A = some ad → 0 < n → w'.heap[ad.block]? = w.heap[ad.block]?) : U32s w' A n c xs :=
  ⟨h.len, h.cap, h.small, h.w32, fun hn => by
    obtain ⟨ad, e, hb, hc⟩ := h.at_ hn
    refine ⟨ad, e, by omega, fun j hj => ?_⟩
    rw [World.cell?_of_block (w := w)]
    · exact hc j hj
    · rw [block_of_add]; exact hk ad e hn⟩
theorem U32s.below {w w' : World} {A : Option Addr} {n c : Nat} {xs : List Nat} (h : U32s w A n c xs) (hb : Below w.heap.size w w') : U32s w' A n c xs :=
  h.keep hb.size fun ad e hn => by
    obtain ⟨ad', e', hlt, _⟩ := h.at_ hn
    rw [e] at e'; cases e'
    exact hb.block _ hlt
theorem U32s.drew {w : World} {A : Option Addr} {n c : Nat} {xs : List Nat} (h : U32s w A n c xs) : U32s w.drew A n c xs := h.keep (Nat.le_refl _) fun _ _ _ => rfl
theorem U32s.alloc {w : World} {A : Option Addr} {n c : Nat} {xs : List Nat} (h : U32s w A n c xs) (o : Obj) : U32s (w.alloc o) A n c xs :=
  h.below ((Below.refl _ _).alloc (Nat.le_refl _) o)
theorem U32s.far {w : World} {A : Option Addr} {n c : Nat} {xs : List Nat} (h : U32s w A n c xs) {p : Addr} (hp : ∀ ad, A = some ad → ad.block ≠ p.block) (u : Value) : U32s (w.setCell p u) A n c xs :=
  h.keep (by simp [World.setCell]) fun ad e _ => Below.heap_setCell w p u _ (hp ad e)
/-- Cells of a block that came later are no cells of it. -/
theorem U32s.set_new {w w' : World} {A : Option Addr} {n c : Nat} {xs : List Nat} {B : Nat} (h : U32s w A n c xs) (hs : w.heap.size ≤ w'.heap.size) (hb : ∀ ad, A = some ad → 0 < n → ad.block < B) (hk : ∀ k, k < B → w'.heap[k]? = w.heap[k]?) : U32s w' A n c xs :=
  h.keep hs fun ad e hn => hk _ (hb ad e hn)
theorem U32s.nil (w : World) (A : Option Addr) (c : Nat) : U32s w A 0 c [] := ⟨rfl, Nat.zero_le _, by omega, W32.nil, fun h => absurd h (by omega)⟩
/-- The first words of it. -/
theorem U32s.take {w : World} {A : Option Addr} {n c : Nat} {xs : List Nat} (h : U32s w A n c xs) {k : Nat} (hk : k ≤ n) : U32s w A k c (xs.take k) :=
  ⟨by rw [List.length_take, h.len]; omega, by have := h.cap; omega, by have := h.small; omega, h.w32.take k, fun hn => by
    obtain ⟨ad, e, hb, hc⟩ := h.at_ (by omega)
    refine ⟨ad, e, hb, fun j hj => ?_⟩
    rw [hc j (by omega)]
    congr 2
    rw [List.getElem?_take_of_lt hj]⟩
theorem U32s.recap {w : World} {A : Option Addr} {n c c' : Nat} {xs : List Nat} (h : U32s w A n c xs) (hc : n ≤ c') : U32s w A n c' xs := ⟨h.len, hc, h.small, h.w32, h.at_⟩
theorem U32s.cell {w : World} {A : Option Addr} {n c : Nat} {xs : List Nat} (h : U32s w A n c xs) {j : Nat} (hj : j < n) :
    ∃ ad, A = some ad ∧ w.cell? (ad.add j) = some (wd (xs[j]?.getD 0)) := by
  obtain ⟨ad, e, _, hc⟩ := h.at_ (by omega)
  exact ⟨ad, e, hc j hj⟩
theorem U32s.cellAt {w : World} {ad : Addr} {n c : Nat} {xs : List Nat} (h : U32s w (some ad) n c xs) {j : Nat} (hj : j < n) : w.cell? (ad.add j) = some (wd (xs[j]?.getD 0)) := by
  obtain ⟨ad', e, hc⟩ := h.cell hj
  injection e with e
  subst e; exact hc
theorem U32s.lt {w : World} {A : Option Addr} {n c : Nat} {xs : List Nat} (h : U32s w A n c xs) (j : Nat) : xs[j]?.getD 0 < 4294967296 := h.w32.get j
/-- A row that a call made. -/
theorem U32s.own {w : World} {base e : Nat} {A : Option Addr} {n c : Nat} {xs : List Nat} (h : w.ownsRow base e 1 (.slice A n c) n (xs.map wd)) (hw : W32 xs) (hs : n ≤ 34359738368) : U32s w A n c xs := by
  have hl := h.1
  rw [List.length_map, Nat.mul_one] at hl
  rcases h.2 with ⟨hv, rfl⟩ | ⟨g, cap, cur, hv, hb, hh, hn, hm, hs', hx⟩
  · cases hv; exact ⟨hl, Nat.le_refl _, hs, hw, fun h => absurd h (by omega)⟩
  · injection hv with h1 h2 h3
    subst h1 h3
    refine ⟨hl, hn, hs, hw, fun h0 => ⟨_, rfl, ?_, fun j hj => ?_⟩⟩
    · exact (Array.getElem?_eq_some_iff.1 hh).1
    · refine h.cells (g := g) rfl j _ ?_
      rw [List.getElem?_map, List.getElem?_eq_getElem (by omega)]
      rfl

end Go.Proofs.YtmjkmoahkanblaaGreat

namespace Go.Proofs.YtmjkmoahkanblaaGreat
open Go.RowKit

theorem ret_int {k : IntKind} {a b : Int} (h : a = b) : Ending.returned (.int k a) = .returned (.int k b) := by rw [h]
theorem ret_bool {a b : Bool} (h : a = b) : Ending.returned (.bool a) = .returned (.bool b) := by rw [h]

theorem and1_u32 {x : Nat} (h : x < 4294967296) : bits .and .u32 (x : Int) 1 = ((x % 2 : Nat) : Int) := by
  have := u32_and_nat x 1 h (by omega)
  rw [nat_mask1] at this; exact this
theorem and1_u64 {x : Nat} (h : x < 18446744073709551616) : bits .and .u64 (x : Int) 1 = ((x % 2 : Nat) : Int) := by
  have := u64_and_nat x 1 h (by omega)
  rw [nat_mask1] at this; exact this
theorem mask32_u64 {x : Nat} (h : x < 18446744073709551616) : bits .and .u64 (x : Int) 4294967295 = ((x % 4294967296 : Nat) : Int) := by
  have := u64_and_nat x 4294967295 h (by omega)
  rw [nat_mask32] at this; exact this
theorem mask52_u64 {x : Nat} (h : x < 18446744073709551616) : bits .and .u64 (x : Int) 4503599627370495 = ((x % 4503599627370496 : Nat) : Int) := by
  have := u64_and_nat x 4503599627370495 h (by omega)
  rw [nat_mask52] at this; exact this
theorem mask11_u64 {x : Nat} (h : x < 18446744073709551616) : bits .and .u64 (x : Int) 2047 = ((x % 2048 : Nat) : Int) := by
  have := u64_and_nat x 2047 h (by omega)
  rw [nat_mask11] at this; exact this
theorem mask32_i {a : Int} (h0 : 0 ≤ a) (h : a < 18446744073709551616) : bits .and .u64 a 4294967295 = a % 4294967296 := by
  obtain ⟨x, rfl⟩ : ∃ x : Nat, a = x := ⟨a.toNat, by omega⟩
  rw [mask32_u64 (by omega)]; omega
/-- A high part and a low part, joined. -/
theorem or_join {i x y : Nat} (hx : x * 2^i < 18446744073709551616) (hy : y < 2^i) (hy' : y < 18446744073709551616) : bits .or .u64 ((x * 2^i : Nat) : Int) (y : Int) = ((x * 2^i + y : Nat) : Int) := by
  rw [u64_or_nat _ _ hx hy', nat_join i _ _ (Nat.mul_mod_left _ _) hy]

theorem or_join' {i x y : Nat} (hx : x * 2^i < 18446744073709551616) (hy : y < 2^i) (hy' : y < 18446744073709551616) : bits .or .u64 (y : Int) ((x * 2^i : Nat) : Int) = ((y + x * 2^i : Nat) : Int) := by
  rw [u64_or_nat _ _ hy' hx, Nat.or_comm, nat_join i _ _ (Nat.mul_mod_left _ _) hy, Nat.add_comm]
theorem or_low_u32 {l v s : Nat} (hl : l < 2^s) (hv : v % 2^s = 0) (h1 : l < 4294967296) (h2 : v < 4294967296) : bits .or .u32 (l : Int) (v : Int) = ((l + v : Nat) : Int) := by
  rw [u32_or_nat _ _ h1 h2, Nat.or_comm, nat_join s _ _ hv hl, Nat.add_comm]

end Go.Proofs.YtmjkmoahkanblaaGreat

namespace Go.Proofs.YtmjkmoahkanblaaGreat
open Go.RowKit

/-- The plain pattern of an index. -/
def pat (i : Int) : Nat := if i < 0 then 9223372036854775808 + i.natAbs else i.natAbs
theorem M_val : M = 9218868437227405312 := rfl
/-- The size of a pattern that is below 2^63, or of one that is not. -/
theorem pat_cases {b : Nat} (hb : b < 18446744073709551616) : (b < 9223372036854775808 ∧ rungOf b = b ∧ sgn b = false ∧ idx b = (b : Int)) ∨ (9223372036854775808 ≤ b ∧ rungOf b = b - 9223372036854775808 ∧ sgn b = true ∧ idx b = 9223372036854775808 - (b : Int)) := by
  have e : (2 : Nat)^63 = 9223372036854775808 := rfl
  rcases Nat.lt_or_ge b 9223372036854775808 with h | h
  · left
    have h1 : rungOf b = b := by unfold rungOf; rw [e]; omega
    have h2 : sgn b = false := by unfold sgn; rw [e, show b / 9223372036854775808 % 2 = 0 from by omega]; rfl
    refine ⟨h, h1, h2, ?_⟩
    unfold idx; rw [h2, h1]; rfl
  · right
    have h1 : rungOf b = b - 9223372036854775808 := by unfold rungOf; rw [e]; omega
    have h2 : sgn b = true := by unfold sgn; rw [e, show b / 9223372036854775808 % 2 = 1 from by omega]; rfl
    refine ⟨h, h1, h2, ?_⟩
    unfold idx; rw [h2, h1, if_pos rfl]; omega
theorem pat_lt {i : Int} (h0 : -(M : Int) ≤ i) (h1 : i ≤ M) : pat i < 18446744073709551616 := by
  rw [M_val] at *; unfold pat; split <;> omega
theorem pat_neg {i : Int} (h : i < 0) : pat i = 9223372036854775808 + i.natAbs := if_pos h
theorem pat_nn {i : Int} (h : ¬ i < 0) : pat i = i.natAbs := if_neg h
theorem idx_pat {i : Int} (h0 : -(M : Int) ≤ i) (h1 : i ≤ M) : idx (pat i) = i := by
  have h := pat_lt h0 h1
  rw [M_val] at *
  have := pat_cases h
  by_cases hi : i < 0
  · rw [pat_neg hi] at *; omega
  · rw [pat_nn hi] at *; omega
theorem rung_pat {i : Int} (h0 : -(M : Int) ≤ i) (h1 : i ≤ M) : rungOf (pat i) = i.natAbs := by
  rw [← idx_natAbs, idx_pat h0 h1]
theorem pat_inj {i j : Int} (h0 : -(M : Int) ≤ i) (h1 : i ≤ M) (h2 : -(M : Int) ≤ j) (h3 : j ≤ M) (h : pat i = pat j) : i = j := by
  rw [← idx_pat h0 h1, ← idx_pat h2 h3, h]
theorem pat_max : pat M = 9218868437227405312 := by decide
theorem pat_min : pat (-(M : Int)) = 18442240474082181120 := by decide
theorem pat_zero : pat 0 = 0 := rfl
theorem idx_bounds {b : Nat} (h : rungOf b ≤ M) : -(M : Int) ≤ idx b ∧ idx b ≤ M := by
  have := idx_natAbs b; omega
/-- Plain. -/
def pl (b : Nat) : Nat := if b = 9223372036854775808 then 0 else if M < rungOf b then 9221120237041090561 else b
theorem pl_real {b : Nat} (hb : b < 18446744073709551616) (h : rungOf b ≤ M) : pl b = pat (idx b) := by
  have := pat_cases hb
  rw [M_val] at *
  unfold pl
  rw [M_val]
  split
  · rename_i e
    have h0 : idx b = 0 := by omega
    rw [h0]; rfl
  · rw [if_neg (by omega)]
    by_cases hi : idx b < 0
    · rw [pat_neg hi]; omega
    · rw [pat_nn hi]; omega
theorem pl_pat {i : Int} (h0 : -(M : Int) ≤ i) (h1 : i ≤ M) : pl (pat i) = pat i := by
  have := pl_real (pat_lt h0 h1) (by rw [rung_pat h0 h1]; omega)
  rw [this, idx_pat h0 h1]
/-- The key of a pattern. -/
def keyOf (b : Nat) : Nat := if 9223372036854775808 ≤ pl b then 18446744073709551615 - pl b else pl b + 9223372036854775808
theorem keyOf_real {b : Nat} (hb : b < 18446744073709551616) (h : rungOf b ≤ M) : (keyOf b : Int) = 9223372036854775808 + idx b - (if idx b < 0 then 1 else 0) := by
  have hi := idx_bounds h
  unfold keyOf
  rw [pl_real hb h]
  rw [M_val] at *
  by_cases hi : idx b < 0
  · rw [pat_neg hi, if_pos hi]; split <;> omega
  · rw [pat_nn hi, if_neg hi]; split <;> omega
theorem key_lt {x y : Nat} (hx : x < 18446744073709551616) (hy : y < 18446744073709551616) (h : rungOf x ≤ M) (h' : rungOf y ≤ M) : keyOf x < keyOf y ↔ idx x < idx y := by
  have := keyOf_real hx h
  have := keyOf_real hy h'
  split at * <;> split at * <;> omega
theorem pl_lt (b : Nat) (hb : b < 18446744073709551616) : pl b < 18446744073709551616 := by unfold pl; split <;> (try split) <;> omega

/-- Do two ends make an interval that is not empty? -/
def snd (lo hi : Nat) : Bool := decide (rungOf lo ≤ M ∧ rungOf hi ≤ M ∧ idx lo ≤ idx hi ∧ idx lo < M ∧ -(M : Int) < idx hi)
/-- What is read of two ends: the indexes. -/
def rd (lo hi : Nat) : Int × Int := if snd lo hi then (idx lo, idx hi) else ((M : Int), -(M : Int))
/-- Two indexes that are read. -/
def Iv (i j : Int) : Prop := (-(M : Int) ≤ i ∧ i ≤ j ∧ j ≤ M ∧ i < M ∧ -(M : Int) < j) ∨ (i = M ∧ j = -(M : Int))
theorem Iv.lo {i j : Int} (h : Iv i j) : -(M : Int) ≤ i ∧ i ≤ M := by unfold Iv at h; rw [M_val] at *; omega
theorem Iv.hi {i j : Int} (h : Iv i j) : -(M : Int) ≤ j ∧ j ≤ M := by unfold Iv at h; rw [M_val] at *; omega
theorem Iv.none : Iv M (-(M : Int)) := .inr ⟨rfl, rfl⟩
theorem rd_iv (lo hi : Nat) : Iv (rd lo hi).1 (rd lo hi).2 := by
  unfold rd
  split
  · rename_i h
    have h := of_decide_eq_true h
    obtain ⟨h1, h2, h3, h4, h5⟩ := h
    have := idx_bounds h1
    have := idx_bounds h2
    exact .inl ⟨by omega, h3, by omega, h4, h5⟩
  · exact Iv.none
theorem rd_pat {i j : Int} (h : Iv i j) : rd (pat i) (pat j) = (i, j) := by
  have h1 := h.lo
  have h2 := h.hi
  unfold rd snd
  rw [rung_pat h1.1 h1.2, rung_pat h2.1 h2.2, idx_pat h1.1 h1.2, idx_pat h2.1 h2.2]
  unfold Iv at h
  split
  · rfl
  · rename_i hh
    simp only [decide_eq_true_eq] at hh
    rcases h with h | h
    · omega
    · rw [h.1, h.2]
theorem snd_pat {i j : Int} (h : Iv i j) : snd (pat i) (pat j) = decide (i ≤ j) := by
  have h1 := h.lo
  have h2 := h.hi
  unfold snd
  rw [rung_pat h1.1 h1.2, rung_pat h2.1 h2.2, idx_pat h1.1 h1.2, idx_pat h2.1 h2.2]
  unfold Iv at h
  rw [M_val] at *
  congr 1
  refine propext ⟨fun h => h.2.2.1, fun h => ?_⟩
  omega

end Go.Proofs.YtmjkmoahkanblaaGreat

namespace Go.Proofs.YtmjkmoahkanblaaGreat
open Go.RowKit

theorem info_u32 : (Tryz.prog.info? 124).map (fun i => (i.zero, i.size, i.bytes)) = some (some (.int .u32 0), 1, 4) := by kernel_rfl

/-- The slice value v, of the call's own (its block is B or later), holds xs. -/
def Own (w : World) (B : Nat) (v : Value) (xs : List Nat) : Prop := w.ownsRow B 124 1 v xs.length (xs.map wd)

theorem Own.nil (w : World) (B : Nat) : Own w B (.slice none 0 0) [] := World.ownsRow_nil w B _ _
theorem Own.alloc {w : World} {B : Nat} {v : Value} {xs : List Nat} (h : Own w B v xs) (o : Obj) : Own (w.alloc o) B v xs := World.ownsRow.alloc h o
theorem Own.drew {w : World} {B : Nat} {v : Value} {xs : List Nat} (h : Own w B v xs) : Own w.drew B v xs := h
theorem Own.form {w : World} {B : Nat} {v : Value} {xs : List Nat} (h : Own w B v xs) : ∃ A c, v = .slice A xs.length c := by
  rcases h.2 with ⟨rfl, h0⟩ | ⟨g, cap, _, rfl, _⟩
  · exact ⟨none, 0, by rw [h0]⟩
  · exact ⟨_, _, rfl⟩
theorem Own.form_snoc {w : World} {B : Nat} {v : Value} {xs : List Nat} {y : Nat} (h : Own w B v (xs ++ [y])) : ∃ A c, v = .slice A (xs.length + 1) c := by
  obtain ⟨A, c, e⟩ := h.form
  exact ⟨A, c, by rw [e]; simp⟩
theorem Own.u32s {w : World} {B : Nat} {A : Option Addr} {n c : Nat} {xs : List Nat} (h : Own w B (.slice A n c) xs) (hn : xs.length = n) (hw : W32 xs) (hs : xs.length ≤ 34359738368) : U32s w A n c xs := by
  subst hn
  exact U32s.own h hw hs

theorem U32s.lit1 (w : World) (t : TypeId) {a : Nat} (ha : a < 4294967296) : U32s (w.alloc (.cells #[wd a] t)) (some ⟨w.heap.size, 0, none⟩) 1 1 [a] :=
  ⟨rfl, by omega, by omega, W32.cons ha W32.nil, fun _ => ⟨_, rfl, by simp, fun j hj => by
    match j, hj with
    | 0, _ => simp [World.cell?_alloc_new, Addr.add]⟩⟩
theorem U32s.lit2 (w : World) (t : TypeId) {a b : Nat} (ha : a < 4294967296) (hb : b < 4294967296) : U32s (w.alloc (.cells #[wd a, wd b] t)) (some ⟨w.heap.size, 0, none⟩) 2 2 [a, b] :=
  ⟨rfl, by omega, by omega, W32.cons ha (W32.cons hb W32.nil), fun _ => ⟨_, rfl, by simp, fun j hj => by
    match j, hj with
    | 0, _ => simp [World.cell?_alloc_new, Addr.add]
    | 1, _ => simp [World.cell?_alloc_new, Addr.add]⟩⟩

section
variable {ops : Array Oper} {rest : List Oper} {o : Oper} {a : Act} {Q : Exit → Act → World → Prop} (w : World)

/-- append(l, y). -/
theorem wpList_append_u32 (hgd : o.guard = none) (s x : Operand)
    (ho : o.op = .call { callee := .builtin .append, args := #[s, x], argTypes := #[58, 58] })
    (B : Nat) (v : Value) (xs : List Nat) (hs : a.eval s = v) (hown : Own w B v xs)
    (ad : Addr) (c : Nat) (y : Nat) (hx : a.eval x = .slice (some ad) 1 c) (hc : w.cell? ad = some (wd y)) (hlen : xs.length ≤ 34359738367) (hB : B ≤ w.heap.size)
    (h : ∀ v' w', Own w' B v' (xs ++ [y]) → w.grownBy w' v.ownBlock → wpList Tryz.prog ops Q rest (a.put o.dst v') w') : wpList Tryz.prog ops Q (o :: rest) a w := by
  obtain ⟨i0, hi, hz0, hz1, hz2⟩ := info_parts info_u32
  refine wpList_append_own w hgd s x 58 ho B 124 i0 (.int .u32 0) 1 4 Tryz.underlying58 hi hz0 hz1 hz2 rfl (by decide) v xs.length (xs.map wd) hs hown ad 1 c [wd y] hx rfl ?_ ?_ ?_ ?_ hB ?_
  · intro j u hu
    match j, hu with
    | 0, hu =>
      simp at hu
      subst hu
      rw [show ad.add 0 = ad from by simp [Addr.add]]
      exact hc
  · intro u hu
    simp at hu
    subst hu; rfl
  · unfold maxLen; omega
  · omega
  · intro v' w' h1 h2 _
    refine h v' w' ?_ h2
    unfold Own
    simpa using h1

end
theorem U32s.lit1_at {w : World} {g : Nat} (hg : w.heap.size = g) (t : TypeId) {a : Nat} (ha : a < 4294967296) : U32s (w.alloc (.cells #[wd a] t)) (some ⟨g, 0, none⟩) 1 1 [a] := by
  subst hg
  exact U32s.lit1 w t ha
theorem U32s.lit2_at {w : World} {g : Nat} (hg : w.heap.size = g) (t : TypeId) {a b : Nat} (ha : a < 4294967296) (hb : b < 4294967296) : U32s (w.alloc (.cells #[wd a, wd b] t)) (some ⟨g, 0, none⟩) 2 2 [a, b] := by
  subst hg
  exact U32s.lit2 w t ha hb

end Go.Proofs.YtmjkmoahkanblaaGreat

namespace Go.Proofs.YtmjkmoahkanblaaGreat
open Go.RowKit

/-- Block g holds just the words xs. -/
def Arr (w : World) (g : Nat) (xs : List Nat) : Prop := w.heap[g]? = some (.cells (xs.map wd).toArray 124 (0, 0))

theorem Arr.lt {w : World} {g : Nat} {xs : List Nat} (h : Arr w g xs) : g < w.heap.size := (Array.getElem?_eq_some_iff.1 h).1
theorem Arr.cell {w : World} {g : Nat} {xs : List Nat} (h : Arr w g xs) {j : Nat} (hj : j < xs.length) : w.cell? ⟨g, j, none⟩ = some (wd (xs[j]?.getD 0)) := by
  rw [cell_of_row w g j _ _ (0, 0) h]
  simp [hj]
theorem Arr.frozen {w : World} {g : Nat} {xs : List Nat} (h : Arr w g xs) (j : Nat) : w.frozen? ⟨g, j, none⟩ = false := frozen_of_row w g j _ _ h
theorem Arr.set {w : World} {g : Nat} {xs : List Nat} (h : Arr w g xs) (j x : Nat) : Arr (w.setCell ⟨g, j, none⟩ (wd x)) g (xs.set j x) := by
  unfold Arr at *
  rw [heap_setCell_same w g j _ _ _ h]
  simp [List.map_set]
theorem Arr.drewN {w : World} {g : Nat} {xs : List Nat} (h : Arr w g xs) (n : Nat) : Arr (w.drewN n) g xs := h
theorem Arr.drew {w : World} {g : Nat} {xs : List Nat} (h : Arr w g xs) : Arr w.drew g xs := h
theorem Arr.of_block {w w' : World} {g : Nat} {xs : List Nat} (h : Arr w g xs) (hb : w'.heap[g]? = w.heap[g]?) : Arr w' g xs := hb.trans h
theorem Arr.below {w w' : World} {g B : Nat} {xs : List Nat} (h : Arr w g xs) (hb : Below B w w') (hg : g < B) : Arr w' g xs := h.of_block (hb.block g hg)
theorem Arr.alloc {w : World} {g : Nat} {xs : List Nat} (h : Arr w g xs) (o : Obj) : Arr (w.alloc o) g xs := h.of_block (Below.heap_alloc w o g h.lt)
theorem Arr.far {w : World} {g : Nat} {xs : List Nat} (h : Arr w g xs) {p : Addr} (hp : g ≠ p.block) (u : Value) : Arr (w.setCell p u) g xs := h.of_block (Below.heap_setCell w p u g hp)
theorem Arr.new (w : World) (xs : List Nat) : Arr (w.alloc (.cells (xs.map wd).toArray 124)) w.heap.size xs := heap_alloc_new w _
theorem Arr.zeros (w : World) (n : Nat) : Arr (w.alloc (.cells (Array.replicate n (wd 0)) 124)) w.heap.size (List.replicate n 0) := by
  have h := Arr.new w (List.replicate n 0)
  simpa using h
theorem Arr.u32s {w : World} {g : Nat} {xs : List Nat} (h : Arr w g xs) (hw : W32 xs) (hs : xs.length ≤ 34359738368) (c : Nat) (hc : xs.length ≤ c) : U32s w (some ⟨g, 0, none⟩) xs.length c xs :=
  ⟨rfl, hc, hs, hw, fun _ => ⟨_, rfl, h.lt, fun j hj => by
    rw [show (⟨g, 0, none⟩ : Addr).add j = ⟨g, j, none⟩ from by unfold Addr.add; split <;> simp_all]
    exact h.cell hj⟩⟩
theorem Arr.u32s' {w : World} {g n : Nat} {xs : List Nat} (h : Arr w g xs) (hw : W32 xs) (hl : xs.length = n) (hs : n ≤ 34359738368) : U32s w (some ⟨g, 0, none⟩) n n xs := by
  subst hl; exact h.u32s hw hs _ (Nat.le_refl _)

theorem below_drewN {B : Nat} {a w : World} (h : Below B a w) (n : Nat) : Below B a (w.drewN n) := ⟨h.os, h.tape, h.output, h.size, h.block⟩

/-- make([]uint32, n). -/
theorem make_u32 {N : Int} {n : Nat} (hN : N = n) (h : n ≤ 34359738368) (w : World) :
    (Instr.makeSlice 58 (.int .i64 N) (.int .i64 N)).run Tryz.prog w = .ok (.slice (some ⟨w.heap.size, 0, none⟩) n n) (w.alloc (.cells (Array.replicate n (wd 0)) 124)) := by
  obtain ⟨i0, hi, hz0, hz1, hz2⟩ := info_parts info_u32
  subst hN
  have hr := run_make (P := Tryz.prog) w 58 124 i0 (.int .u32 0) Tryz.underlying58 hi hz0 .i64 .i64 (n : Int) (n : Int) (by omega) (by omega) (by rw [hz2]; omega) (by omega)
  simp only [Int.toNat_natCast] at hr
  have e : madeCells (Value.int .u32 0).cells n = Array.replicate n (wd 0) := by
    have := toList_madeCells_one (.int .u32 0) n
    rw [show (Value.int .u32 0).cells = #[.int .u32 0] from rfl]
    rw [← Array.toArray_toList (xs := madeCells #[Value.int .u32 0] n), this]
    simp
  rw [hr, hz1, Nat.mul_one, e]

end Go.Proofs.YtmjkmoahkanblaaGreat
