/-
The model's sums and products of words, as the nearest index.
Rounding whole numbers of units to 53 binary digits: representable numbers, the nearest one, sums that lose nothing.
Plain: a sum of floats rounded in a direction: from the nearest float and its error; from the exact digits.
-/
import Derived.Test.YtmjkmoahkanblaaGreatM04
import Derived.Test.YtmjkmoahkanblaaGreatM09
set_option linter.unusedSimpArgs false
set_option linter.unusedVariables false
set_option maxHeartbeats 12800000

namespace Go.Proofs.YtmjkmoahkanblaaGreat
open Ieee
def near (n : Int) (d : Nat) : Int := if n < 0 then -((min (nearRung n.natAbs d) M : Nat) : Int) else (min (nearRung n.natAbs d) M : Nat)
theorem near_neg (n : Int) (d : Nat) : near (-n) d = -near n d := by
  unfold near
  rw [Int.natAbs_neg]
  rcases Int.lt_trichotomy n 0 with h | h | h
  · rw [if_neg (by omega), if_pos h]; omega
  · subst h
    have : nearRung 0 d = 0 := Nat.le_zero.1 (nearRung_le (Nat.zero_le _))
    simp [this]
  · rw [if_pos (by omega), if_neg (by omega)]
theorem val_scale_nat (r d : Nat) : val (r : Int) * 2^d = ((mag r * 2^d : Nat) : Int) := by rw [val_nat]; simp
theorem le_near {i : Int} {n : Int} {d : Nat} (hi : i ≤ M) (h : val i * 2^d ≤ n) : i ≤ near n d := by
  have hp : (0 : Int) < 2^d := by exact_mod_cast Nat.two_pow_pos d
  rcases Int.lt_or_le i 0 with h0 | h0
  · -- below 0
    unfold near
    split
    · obtain ⟨r, rfl⟩ : ∃ r : Nat, i = -(r : Int) := ⟨i.natAbs, by omega⟩
      rw [val_neg, Int.neg_mul, val_scale_nat] at h
      have : nearRung n.natAbs d ≤ r := nearRung_le (by omega)
      omega
    · omega
  · obtain ⟨r, rfl⟩ : ∃ r : Nat, i = (r : Int) := ⟨i.natAbs, by omega⟩
    rw [val_scale_nat] at h
    have h2 : (0 : Int) ≤ n := by omega
    unfold near
    rw [if_neg (by omega)]
    have : r ≤ nearRung n.natAbs d := le_nearRung (by omega)
    omega
theorem near_le {i : Int} {n : Int} {d : Nat} (hi : -(M : Int) ≤ i) (h : n ≤ val i * 2^d) : near n d ≤ i := by
  have := @le_near (-i) (-n) d (by omega) (by rw [val_neg, Int.neg_mul]; omega)
  rw [near_neg] at this
  omega
theorem near_val {i : Int} (h1 : -(M : Int) ≤ i) (h2 : i ≤ M) (d : Nat) : near (val i * 2^d) d = i :=
  Int.le_antisymm (near_le h1 (Int.le_refl _)) (le_near h2 (Int.le_refl _))
theorem word_false (r : Nat) : double.word false r = r := rfl
theorem word_true (r : Nat) : double.word true r = 2^63 + r := by unfold Format.word; rw [signWeight_eq]; rfl
theorem word_lt64 (s : Bool) {r : Nat} (h : r < 2^63) : double.word s r < 2^64 := by
  cases s
  · rw [word_false]; omega
  · rw [word_true]; omega
theorem rungOf_word (s : Bool) {r : Nat} (h : r < 2^63) : rungOf (double.word s r) = r := by
  unfold rungOf
  cases s
  · rw [word_false]; omega
  · rw [word_true]; omega
theorem sgn_word (s : Bool) {r : Nat} (h : r < 2^63) : sgn (double.word s r) = s := by
  unfold sgn
  cases s
  · rw [word_false, show r / 2^63 = 0 from by omega]; rfl
  · rw [word_true, show (2^63 + r) / 2^63 = 1 from by omega]; rfl
theorem idx_word (s : Bool) {r : Nat} (h : r < 2^63) : idx (double.word s r) = if s then -(r : Int) else r := by
  unfold idx; rw [sgn_word s h, rungOf_word s h]
theorem M_lt : M < 2^63 := by decide
structure Is (b : Nat) (i : Int) : Prop where
  lt : b < 2^64
  real : real b
  idx : idx b = i
theorem Is.word (s : Bool) {r : Nat} (h : r ≤ M) : Is (double.word s r) (if s then -(r : Int) else r) := by
  have := M_lt
  have h' : r < 2^63 := by omega
  exact ⟨word_lt64 s h', by unfold Proofs.YtmjkmoahkanblaaGreat.real; rw [rungOf_word s h']; exact h, idx_word s h'⟩
theorem Is.near {s : Bool} {n : Int} {d : Nat} (h : n ≠ 0 → s = decide (n < 0)) : Is (double.word s (min (nearRung n.natAbs d) M)) (near n d) := by
  have h1 := Is.word s (r := min (nearRung n.natAbs d) M) (Nat.min_le_right _ _)
  have e : (if s = true then -((min (nearRung n.natAbs d) M : Nat) : Int) else ((min (nearRung n.natAbs d) M : Nat) : Int)) = Proofs.YtmjkmoahkanblaaGreat.near n d := by
    unfold Proofs.YtmjkmoahkanblaaGreat.near
    by_cases h0 : n = 0
    · subst h0
      have : nearRung (0 : Int).natAbs d = 0 := Nat.le_zero.1 (nearRung_le (Nat.zero_le _))
      rw [this]; cases s <;> simp
    · rw [h h0]
      by_cases h2 : n < 0
      · rw [if_pos h2, if_pos (by simpa using h2)]
      · rw [if_neg h2, if_neg (by simpa using h2)]
  rw [e] at h1; exact h1
theorem write_num (s : Bool) (m : Nat) (p : Int) : double.write (.number s m p) = double.nearest s m p := rfl
theorem sum_fin {x y : Nat} {sy : Bool} {m n k l : Nat} (hm : m * 2^k = mag (rungOf x)) (hn : n * 2^l = mag (rungOf y)) :
    ∃ z : Bool, ((Datum.number (sgn x) m (-1074 + (k : Int))).sum (.number sy n (-1074 + (l : Int)))).map double.write
      = some (double.word (if val (idx x) + signed sy (mag (rungOf y)) 0 = 0 then z else decide (val (idx x) + signed sy (mag (rungOf y)) 0 < 0)) (min (nearRung (val (idx x) + signed sy (mag (rungOf y)) 0).natAbs 0) M)) := by
  refine ⟨sgn x && sy, ?_⟩
  have key : ∀ b : Nat, b ≤ k → b ≤ l → double.nearest (if signed (sgn x) m (k - b) + signed sy n (l - b) = 0 then sgn x && sy else decide (signed (sgn x) m (k - b) + signed sy n (l - b) < 0)) (signed (sgn x) m (k - b) + signed sy n (l - b)).natAbs (-1074 + (b : Int)) = double.word (if val (idx x) + signed sy (mag (rungOf y)) 0 = 0 then sgn x && sy else decide (val (idx x) + signed sy (mag (rungOf y)) 0 < 0)) (min (nearRung (val (idx x) + signed sy (mag (rungOf y)) 0).natAbs 0) M) := by
    intro b hk hl
    rw [nearest_high]
    have hp : (0 : Int) < 2^b := by exact_mod_cast Nat.two_pow_pos b
    have e1 : signed (sgn x) m (k - b) * 2^b = val (idx x) := by rw [← signed_split, Nat.sub_add_cancel hk, read_val hm]
    have e2 : signed sy n (l - b) * 2^b = signed sy (mag (rungOf y)) 0 := by
      rw [← signed_split, Nat.sub_add_cancel hl, signed_eq, signed_eq, hn, Nat.pow_zero, Nat.mul_one]
    have e3 : val (idx x) + signed sy (mag (rungOf y)) 0 = (signed (sgn x) m (k - b) + signed sy n (l - b)) * 2^b := by rw [← e1, ← e2, Int.add_mul]
    rw [e3]
    generalize signed (sgn x) m (k - b) + signed sy n (l - b) = t
    have e4 : (t * 2^b).natAbs = t.natAbs * 2^b := by rw [Int.natAbs_mul, Int.natAbs_pow]; rfl
    have e5 : (t * 2^b = 0) ↔ t = 0 := by
      constructor
      · intro h
        rcases Int.mul_eq_zero.1 h with h | h
        · exact h
        · omega
      · rintro rfl; simp
    have e6 : (t * 2^b < 0) ↔ t < 0 := by
      constructor
      · intro h
        rcases Int.lt_or_le t 0 with h2 | h2
        · exact h2
        · have := Int.mul_nonneg h2 (Int.le_of_lt hp); omega
      · intro h; exact Int.mul_neg_of_neg_of_pos h hp
    rw [e4]
    congr 1
    by_cases h0 : t = 0
    · rw [if_pos h0, if_pos (e5.2 h0)]
    · rw [if_neg h0, if_neg (fun h => h0 (e5.1 h))]
      exact decide_eq_decide.2 e6.symm
  simp only [Datum.sum, Option.map_some, write_num]
  congr 1
  rcases Nat.le_total k l with h | h
  · have := key k (Nat.le_refl _) h
    rw [show min (-1074 + (k : Int)) (-1074 + (l : Int)) = -1074 + (k : Int) from by omega, show (-1074 + (k : Int) - (-1074 + (k : Int))).toNat = k - k from by omega, show (-1074 + (l : Int) - (-1074 + (k : Int))).toNat = l - k from by omega]
    rw [← this]
  · have := key l h (Nat.le_refl _)
    rw [show min (-1074 + (k : Int)) (-1074 + (l : Int)) = -1074 + (l : Int) from by omega, show (-1074 + (l : Int) - (-1074 + (l : Int))).toNat = l - l from by omega, show (-1074 + (k : Int) - (-1074 + (l : Int))).toNat = k - l from by omega]
    rw [← this]
theorem add_fin {x y : Nat} (hx : fin x) (hy : fin y) : ∃ r, double.add x y = some r ∧ Is r (near (val (idx x) + val (idx y)) 0) := by
  obtain ⟨m, k, e, hm, _⟩ := read_fin hx
  obtain ⟨n, l, e', hn, _⟩ := read_fin hy
  obtain ⟨z, h⟩ := sum_fin (sy := sgn y) hm hn
  rw [show signed (sgn y) (mag (rungOf y)) 0 = val (idx y) from by rw [signed_eq, val_idx, Nat.pow_zero, Nat.mul_one]] at h
  unfold Format.add
  rw [e, e']
  refine ⟨_, h, Is.near ?_⟩
  intro h0; rw [if_neg h0]
theorem mul_fin {x y : Nat} (hx : fin x) (hy : fin y) : ∃ r, double.mul x y = some r ∧ Is r (near (val (idx x) * val (idx y)) 1074) := by
  obtain ⟨m, k, e, hm, _⟩ := read_fin hx
  obtain ⟨n, l, e', hn, _⟩ := read_fin hy
  unfold Format.mul
  rw [e, e']
  simp only [Datum.product, Option.map_some, write_num]
  refine ⟨_, rfl, ?_⟩
  rw [show (-1074 + (k : Int) + (-1074 + (l : Int))) = -1074 - ((1074 : Nat) : Int) + ((k + l : Nat) : Int) from by omega, nearest_shift, nearest_low]
  have e1 : (val (idx x) * val (idx y)).natAbs = m * n * 2^(k + l) := by
    rw [Int.natAbs_mul, val_natAbs, val_natAbs, idx_natAbs, idx_natAbs, ← hm, ← hn, Nat.pow_add]
    rw [Nat.mul_assoc, Nat.mul_assoc, Nat.mul_left_comm (2^k)]
  rw [← e1]
  refine Is.near ?_
  intro h0
  rw [val_idx, val_idx] at h0 ⊢
  generalize mag (rungOf x) = a at h0 ⊢
  generalize mag (rungOf y) = b at h0 ⊢
  have hab : (0 : Int) ≤ (a : Int) * (b : Int) := Int.mul_nonneg (by omega) (by omega)
  cases sgn x <;> cases sgn y <;> simp [Int.neg_mul, Int.mul_neg] at h0 ⊢
  · exact hab
  · have : (0 : Int) < (a : Int) * (b : Int) := Int.mul_pos (by omega) (by omega)
    omega
  · have : (0 : Int) < (a : Int) * (b : Int) := Int.mul_pos (by omega) (by omega)
    omega
  · exact hab
end Go.Proofs.YtmjkmoahkanblaaGreat

namespace Go.Proofs.YtmjkmoahkanblaaGreat
open Ieee
def Rep (n : Int) : Prop := ∃ i : Int, val i = n
theorem Rep.val (i : Int) : Rep (val i) := ⟨i, rfl⟩
theorem Rep.zero : Rep 0 := ⟨0, rfl⟩
theorem Rep.neg {n : Int} (h : Rep n) : Rep (-n) := by obtain ⟨i, rfl⟩ := h; exact ⟨-i, val_neg i⟩
def R (n : Int) : Int := if n < 0 then -(mag (nearRung n.natAbs 0) : Int) else mag (nearRung n.natAbs 0)
end Go.Proofs.YtmjkmoahkanblaaGreat

namespace Go.Proofs.YtmjkmoahkanblaaGreat
open Go.RowKit
theorem mul_le_pos {a b c : Rat} (h : 0 < c) : a * c ≤ b * c ↔ a ≤ b := by
  constructor
  · intro h1; exact Rat.le_of_mul_le_mul_right h1 h
  · intro h1; exact Rat.mul_le_mul_of_nonneg_right h1 (by grind)
theorem mag_two_pow (t : Nat) : mag ((t + 1) * 2^52) = 2^52 * 2^t := by
  have := mag_form t (2^52) (.inr (Nat.le_refl _)) (by omega)
  rw [show (t + 1) * 2^52 = t * 2^52 + 2^52 from by rw [Nat.add_mul, Nat.one_mul]]; exact this
theorem near_R {n : Int} {Q : Nat} (hQ : Q ≤ 2000) (h : n.natAbs ≤ 2^Q) : val (near n 0) = R n ∧ -(M : Int) < near n 0 ∧ near n 0 < M := by
  have hM : M = 2047 * 2^52 := rfl
  obtain ⟨r, hr⟩ : ∃ r, mag r = 2^Q * 2^0 ∧ r < M := by
    by_cases hq : Q < 52
    · have h1 : 2^Q < 2^52 := Nat.pow_lt_pow_right (by omega) hq
      exact ⟨2^Q, by rw [mag_small h1, Nat.pow_zero, Nat.mul_one], by omega⟩
    · obtain ⟨t, rfl⟩ : ∃ t, Q = 52 + t := ⟨Q - 52, by omega⟩
      refine ⟨(t + 1) * 2^52, by rw [mag_two_pow, Nat.pow_zero, Nat.mul_one, Nat.pow_add], ?_⟩
      have : (t + 1) * 2^52 ≤ 2000 * 2^52 := Nat.mul_le_mul_right _ (by omega)
      omega
  have h1 : nearRung n.natAbs 0 ≤ r := nearRung_le (by rw [Nat.pow_zero, Nat.mul_one]; rw [Nat.pow_zero, Nat.mul_one] at hr; rw [hr.1]; exact h)
  have h2 : min (nearRung n.natAbs 0) M = nearRung n.natAbs 0 := by omega
  unfold near R
  rw [h2]
  refine ⟨?_, by split <;> omega, by split <;> omega⟩
  split
  · rw [val_neg, val_nat]
  · rw [val_nat]
structure Fl (b : Nat) (n : Int) : Prop where
  lt : b < 18446744073709551616
  fin : fin b
  val : val (idx b) = n
theorem Fl.of_is {b : Nat} {n : Int} {Q : Nat} (hQ : Q ≤ 2000) (h : Is b (near n 0)) (hn : n.natAbs ≤ 2^Q) : Fl b (R n) := by
  obtain ⟨h1, h2, h3⟩ := near_R hQ hn
  refine ⟨h.lt, ?_, by rw [h.idx, h1]⟩
  have := idx_natAbs b
  rw [h.idx] at this
  show rungOf b < M
  omega
theorem Fl.add {x y : Nat} {m n : Int} {Q : Nat} (hQ : Q ≤ 2000) (hx : Fl x m) (hy : Fl y n) (h : (m + n).natAbs ≤ 2^Q) : ∃ r, FloatKind.f64.format.add x y = some r ∧ Fl r (R (m + n)) := by
  obtain ⟨r, h1, h2⟩ := add_fin hx.fin hy.fin
  rw [hx.val, hy.val] at h2
  exact ⟨r, h1, Fl.of_is hQ h2 h⟩
theorem or_one (v : Nat) : v ||| 1 = 2 * (v / 2) + 1 := by
  have h1 : v = 2 * (v / 2) + v % 2 := by omega
  apply Nat.eq_of_testBit_eq
  intro i
  rw [Nat.testBit_or]
  cases i with
  | zero => simp
  | succ i => rw [Nat.testBit_succ, Nat.testBit_succ, Nat.testBit_succ, show (2 * (v / 2) + 1) / 2 = v / 2 from by omega]; simp
def marked (w : Nat) (lost : Bool) : Nat := if lost then 2 * (w / 2) + 1 else w
theorem marked_div (w : Nat) (lost : Bool) : marked w lost / 4 = w / 4 := by unfold marked; split <;> omega
theorem marked_mod (w : Nat) (lost : Bool) : marked w lost % 4 = 0 ↔ w % 4 = 0 ∧ lost = false := by unfold marked; split <;> simp_all; omega
def Dg (S p q : Nat) (exp : Int) (more : Bool) : Prop :=
  ∃ U : Nat, 0 ≤ exp + U ∧ 3000 ≤ U ∧ S * 2^(exp + U).toNat * q ≤ p * 2^U ∧ p * 2^U < (S + 1) * 2^(exp + U).toNat * q ∧ (more = false ↔ p * 2^U = S * 2^(exp + U).toNat * q)
theorem Dg.exact (S : Nat) (exp : Int) : Dg S (S * 2^exp.toNat) (2^(-exp).toNat) exp false := by
  refine ⟨3000 + exp.natAbs, by omega, by omega, ?_⟩
  have e : S * 2^exp.toNat * 2^(3000 + exp.natAbs) = S * 2^(exp + (3000 + exp.natAbs : Nat)).toNat * 2^(-exp).toNat := by
    rw [Nat.mul_assoc, Nat.mul_assoc, ← Nat.pow_add, ← Nat.pow_add]; congr 2; omega
  refine ⟨by omega, ?_, by simp [e]⟩
  rw [e, Nat.add_mul, Nat.add_mul, Nat.one_mul]
  have : 0 < 2^(exp + (3000 + exp.natAbs : Nat)).toNat * 2^(-exp).toNat := Nat.mul_pos (Nat.two_pow_pos _) (Nat.two_pow_pos _)
  omega
theorem Dg.sc {S p q : Nat} {exp : Int} {more : Bool} (h : Dg S p q exp more) (hS : 0 < S) : Sc p q ((blen S : Int) - 1 + exp) := by
  obtain ⟨U, h0, -, h1, h2, -⟩ := h
  obtain ⟨L, e, b1, b2⟩ := blen_bounds hS
  rw [e]
  have c1 : 2^(L + (exp + U).toNat) * q ≤ p * 2^U := Nat.le_trans (by rw [Nat.pow_add]; exact Nat.mul_le_mul_right _ (Nat.mul_le_mul_right _ b1)) h1
  have c2 : p * 2^U < 2^(L + 1 + (exp + U).toNat) * q := Nat.lt_of_lt_of_le h2 (by rw [Nat.pow_add]; exact Nat.mul_le_mul_right _ (Nat.mul_le_mul_right _ (by omega)))
  have eg : ((L + 1 : Nat) : Int) - 1 + exp = (L : Int) + exp := by omega
  rw [eg]
  constructor
  · intro hf
    have a1 : L + (exp + U).toNat = ((L : Int) + exp).toNat + U := by omega
    have a2 : L + 1 + (exp + U).toNat = ((L : Int) + exp).toNat + 1 + U := by omega
    rw [a1, Nat.pow_add] at c1
    rw [a2, Nat.pow_add] at c2
    constructor
    · refine Nat.le_of_mul_le_mul_right (c := 2^U) ?_ (Nat.two_pow_pos U)
      calc q * 2^((L : Int) + exp).toNat * 2^U = 2^((L : Int) + exp).toNat * 2^U * q := by ac_rfl
        _ ≤ _ := c1
    · refine Nat.lt_of_mul_lt_mul_right (a := 2^U) ?_
      calc p * 2^U < _ := c2
        _ = q * 2^(((L : Int) + exp).toNat + 1) * 2^U := by ac_rfl
  · intro hf
    have a1 : U = L + (exp + U).toNat + (-((L : Int) + exp)).toNat := by omega
    have c3 : 2^(L + (exp + U).toNat) * q ≤ 2^(L + (exp + U).toNat) * (p * 2^(-((L : Int) + exp)).toNat) := by
      calc _ ≤ _ := c1
        _ = p * (2^(L + (exp + U).toNat) * 2^(-((L : Int) + exp)).toNat) := by rw [← Nat.pow_add, ← a1]
        _ = _ := by ac_rfl
    have c4 : 2^(L + (exp + U).toNat) * (p * 2^(-((L : Int) + exp)).toNat) < 2^(L + (exp + U).toNat) * (2 * q) := by
      calc _ = p * (2^(L + (exp + U).toNat) * 2^(-((L : Int) + exp)).toNat) := by ac_rfl
        _ = p * 2^U := by rw [← Nat.pow_add, ← a1]
        _ < _ := c2
        _ = _ := by rw [show L + 1 + (exp + U).toNat = L + (exp + U).toNat + 1 from by omega, Nat.pow_succ]; ac_rfl
    exact ⟨Nat.le_of_mul_le_mul_left c3 (Nat.two_pow_pos _), Nat.lt_of_mul_lt_mul_left c4⟩
theorem or_false_split {a b : Bool} (h : (a || b) = false) : a = false ∧ b = false := by revert h; cases a <;> cases b <;> simp
theorem bracket {P C W W' : Nat} (h1 : W * C ≤ P) (h2 : P < (W + 1) * C) (h3 : W' * C ≤ P) (h4 : P < (W' + 1) * C) : W = W' := by
  have a : W < W' + 1 := Nat.lt_of_mul_lt_mul_right (Nat.lt_of_le_of_lt h1 h4)
  have b : W' < W + 1 := Nat.lt_of_mul_lt_mul_right (Nat.lt_of_le_of_lt h3 h2)
  omega
theorem digits_at {S p q w : Nat} {exp e : Int} {more lost : Bool} (h : Dg S p q exp more) (hq : 0 < q) (he : -1074 ≤ e)
    (hdn : 0 ≤ e - 2 - exp → w = S / 2^(e - 2 - exp).toNat ∧ (lost = true ↔ S % 2^(e - 2 - exp).toNat ≠ 0)) (hup : e - 2 - exp < 0 → w = S * 2^(-(e - 2 - exp)).toNat ∧ lost = false ∧ more = false) :
    marked w (lost || more) / 4 = upN p e / upM q e ∧ (marked w (lost || more) % 4 = 0 ↔ upN p e % upM q e = 0) := by
  obtain ⟨U, h0, hU, h1, h2, h3⟩ := h
  obtain ⟨u1, u2, u3, u4⟩ := units (n := p) (m := q) (U := U) (e := e) hq (by omega)
  rw [marked_div, marked_mod]
  obtain ⟨P, hP⟩ : ∃ P, p * 2^U = P := ⟨_, rfl⟩
  obtain ⟨W, hW⟩ : ∃ W, upN p e / upM q e = W := ⟨_, rfl⟩
  rw [hP] at h1 h2 h3 u1 u2 u3 u4
  rw [hW] at u1 u2 u3 u4 ⊢
  obtain ⟨C, hC⟩ : ∃ C, 2^(e + U).toNat * q = C := ⟨_, rfl⟩
  rw [Nat.mul_assoc, hC] at u1 u2 u3 u4
  have hC0 : 0 < C := by rw [← hC]; exact Nat.mul_pos (Nat.two_pow_pos _) hq
  -- the bracket of w / 4, and when P is it
  have key : w / 4 * C ≤ P ∧ P < (w / 4 + 1) * C ∧ (P = w / 4 * C ↔ w % 4 = 0 ∧ (lost || more) = false) := by
    rcases Int.lt_or_le (e - 2 - exp) 0 with hc | hc
    · obtain ⟨ew, rfl, rfl⟩ := hup hc
      have eq := h3.1 rfl
      obtain ⟨k, hk⟩ : ∃ k, (-(e - 2 - exp)).toNat = k := ⟨_, rfl⟩
      obtain ⟨B, hB⟩ : ∃ B, 2^(e - 2 + U).toNat * q = B := ⟨_, rfl⟩
      have hB0 : 0 < B := by rw [← hB]; exact Nat.mul_pos (Nat.two_pow_pos _) hq
      have e4 : C = 4 * B := by
        rw [← hC, ← hB, show (e + U).toNat = (e - 2 + U).toNat + 2 from by omega, Nat.pow_add]
        have : 2^2 = 4 := rfl
        rw [this]; ac_rfl
      have eP : P = w * B := by
        rw [eq, ew, hk, ← hB, show (exp + U).toNat = k + (e - 2 + U).toNat from by omega, Nat.pow_add]; ac_rfl
      have ew4 : w = 4 * (w / 4) + w % 4 := by omega
      have lt4 : w % 4 < 4 := Nat.mod_lt _ (by omega)
      generalize w / 4 = a at *
      generalize w % 4 = b at *
      have eP2 : P = a * C + b * B := by rw [eP, ew4, e4, Nat.add_mul]; congr 1; ac_rfl
      refine ⟨by omega, ?_, ?_⟩
      · rw [Nat.add_mul, Nat.one_mul, eP2]
        have : b * B < 4 * B := Nat.mul_lt_mul_of_pos_right lt4 hB0
        omega
      · constructor
        · intro h
          have : b * B = 0 := by omega
          rcases Nat.mul_eq_zero.1 this with h | h
          · exact ⟨h, rfl⟩
          · omega
        · rintro ⟨h, -⟩
          rw [h] at eP2; omega
    · obtain ⟨ew, hl⟩ := hdn hc
      obtain ⟨k, hk⟩ : ∃ k, (e - 2 - exp).toNat = k := ⟨_, rfl⟩
      rw [hk] at ew hl
      obtain ⟨A, hA⟩ : ∃ A, 2^(exp + U).toNat * q = A := ⟨_, rfl⟩
      have hA0 : 0 < A := by rw [← hA]; exact Nat.mul_pos (Nat.two_pow_pos _) hq
      rw [Nat.mul_assoc, hA] at h1 h2 h3
      have e4 : C = 4 * 2^k * A := by
        rw [← hC, ← hA, show (e + U).toNat = (exp + U).toNat + k + 2 from by omega, Nat.pow_add, Nat.pow_add]
        have : 2^2 = 4 := rfl
        rw [this]; ac_rfl
      have eS : S = 2^k * w + S % 2^k := by rw [ew]; exact (Nat.div_add_mod S (2^k)).symm
      have lS : S % 2^k < 2^k := Nat.mod_lt _ (Nat.two_pow_pos k)
      have ew4 : w = 4 * (w / 4) + w % 4 := by omega
      have lt4 : w % 4 < 4 := Nat.mod_lt _ (by omega)
      generalize S % 2^k = l at *
      generalize w / 4 = a at *
      generalize w % 4 = b at *
      generalize 2^k = K at *
      have eS2 : S = a * (4 * K) + (K * b + l) := by
        rw [eS, ew4, Nat.mul_add]
        have : K * (4 * a) = a * (4 * K) := by ac_rfl
        omega
      have hr : K * b + l < 4 * K := by
        have : K * b ≤ K * 3 := Nat.mul_le_mul_left _ (by omega)
        omega
      generalize hR : K * b + l = r at *
      have c1 : S * A = a * C + r * A := by rw [eS2, e4, Nat.add_mul]; congr 1; ac_rfl
      have c2 : (S + 1) * A = a * C + (r + 1) * A := by rw [Nat.add_mul, c1, Nat.add_mul]; omega
      have c3 : (r + 1) * A ≤ C := by rw [e4]; exact Nat.mul_le_mul_right _ (by omega)
      refine ⟨by omega, ?_, ?_⟩
      · rw [Nat.add_mul, Nat.one_mul]; omega
      · constructor
        · intro h
          have h5 : r * A = 0 := by omega
          have h6 : r = 0 := by rcases Nat.mul_eq_zero.1 h5 with h | h <;> omega
          have h7 : l = 0 := by omega
          have h8 : K * b = 0 := by omega
          have h9 : b = 0 := by rcases Nat.mul_eq_zero.1 h8 with h | h <;> omega
          have h10 : lost = false := by
            cases lost with
            | false => rfl
            | true => exact absurd h7 (hl.1 rfl)
          have h11 : more = false := h3.2 (by omega)
          exact ⟨h9, by rw [h10, h11]; rfl⟩
        · rintro ⟨h5, h6⟩
          obtain ⟨h7, h8⟩ := or_false_split h6
          have h9 : l = 0 := by
            by_cases hl0 : l = 0
            · exact hl0
            · have := hl.2 hl0; rw [h7] at this; cases this
          have h10 : r = 0 := by rw [← hR, h5, h9]; simp
          have := h3.1 h8
          rw [this, c1, h10]; omega
  obtain ⟨k1, k2, k3⟩ := key
  have hWW : w / 4 = W := bracket k1 k2 u1 u2
  refine ⟨hWW, ?_⟩
  rw [← k3, hWW]
  constructor
  · intro h
    by_cases h0 : upN p e % upM q e = 0
    · exact h0
    · have := u4 h0; omega
  · intro h; exact u3 h
end Go.Proofs.YtmjkmoahkanblaaGreat
