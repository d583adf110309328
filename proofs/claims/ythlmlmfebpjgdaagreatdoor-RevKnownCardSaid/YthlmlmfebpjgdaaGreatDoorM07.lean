/-
A ratio rounded down and up to an index: plain law, second half.
Walks: package vergeref3, made, infinite, greatest.
Walks: package vergeref2, RNeg of what is below nought.
Walks: package vergeref2, RCmp.
Walks: package vergeref6, ends.
Walks: package vergeref6, ends held against each other.
What the quotient's loops keep.
Walks: package vergeref2, sub.
Walks: package vergeref2, guess.
Walks: package vergeref2, By.
Walks: package vergeref2, By, where the first one is not below the second.
Walks: package vergeref2, Word.
Walks: package vergeref3, rounded, Bits.
Walks: package vergeref3, Bits.
Walks: package vergeref6, sets.
Walks: package vergeref6, intervals as sets.
Walks: package vergeref6, sets: negatives, hulls.
Walks: package vergeref6, Least, Neg.
Walks: package vergeref6, Neg.
Plain: the one rounded answer of a rational number; an end of a piece (a number, or an infinity) and its two neighbours.
Walks: package rev, cut of what is not open.
The model's sums and products of words, as the nearest index.
-/
import Derived.Test.YthlmlmfebpjgdaaGreatDoorPIntsT
import Derived.Test.YthlmlmfebpjgdaaGreatDoorM02
import Derived.Test.YthlmlmfebpjgdaaGreatDoorM01
import Derived.Deep.DeepCutAuto
set_option linter.unusedSimpArgs false
set_option linter.unusedVariables false
set_option maxHeartbeats 12800000

namespace Go.Proofs.YthlmlmfebpjgdaaGreatDoor
open Go.RowKit
def cutT (n m : Nat) (e : Int) : Nat := (e + 1074).toNat * 2^52 + upN n e / upM m e
def capT (n m : Nat) (e : Int) : Nat := (e + 1074).toNat * 2^52 + (upN n e / upM m e + if upN n e % upM m e = 0 then 0 else 1)
theorem lastBit_bounds {f : Int} (hf : f ≤ 1023) : -1074 ≤ lastBit f ∧ lastBit f ≤ 971 := by unfold lastBit; split <;> omega
theorem mag_cut {n m : Nat} {f : Int} (hm : 0 < m) (h : Sc n m f) (c : Nat) (hc : c ≤ 1) :
    mag ((lastBit f + 1074).toNat * 2^52 + (upN n (lastBit f) / upM m (lastBit f) + c)) = (upN n (lastBit f) / upM m (lastBit f) + c) * 2^(lastBit f + 1074).toNat := by
  have h1 := w_lt hm h
  refine mag_form _ _ ?_ (by omega)
  by_cases hb : -1074 < lastBit f
  · have := w_ge hm h hb; right; omega
  · left; omega
theorem cut_lt {n m : Nat} {f : Int} (hm : 0 < m) (h : Sc n m f) (hf : f ≤ 1023) : cutT n m (lastBit f) < M := by
  have h1 := w_lt hm h
  have h2 := lastBit_bounds hf
  unfold cutT; rw [M_val]; omega
theorem cap_le {n m : Nat} {f : Int} (hm : 0 < m) (h : Sc n m f) (hf : f ≤ 1023) : capT n m (lastBit f) ≤ M := by
  have h1 := w_lt hm h
  have h2 := lastBit_bounds hf
  unfold capT; rw [M_val]; split <;> omega
theorem cut_law {n m U : Nat} {f : Int} (hU : U = 1074) (hm : 0 < m) (h : Sc n m f) (hf : f ≤ 1023) (r : Nat) : r ≤ cutT n m (lastBit f) ↔ mag r * m ≤ n * 2^U := by
  have hb := lastBit_bounds hf
  obtain ⟨u1, u2, -, -⟩ := units (n := n) (U := U) hm (show -(U : Int) ≤ lastBit f by omega)
  have m0 := mag_cut hm h 0 (by omega)
  have m1 := mag_cut hm h 1 (by omega)
  rw [Nat.add_zero] at m0
  rw [show (lastBit f + (U : Int)).toNat = (lastBit f + 1074).toNat from by omega] at u1 u2
  rw [← m0] at u1
  rw [← m1] at u2
  have e : (lastBit f + 1074).toNat * 2^52 + (upN n (lastBit f) / upM m (lastBit f) + 1) = cutT n m (lastBit f) + 1 := by unfold cutT; omega
  rw [e] at u2
  constructor
  · intro hr
    have h1 : mag r ≤ mag (cutT n m (lastBit f)) := mag_le_iff.2 hr
    exact Nat.le_trans (Nat.mul_le_mul_right m h1) u1
  · intro hr
    by_cases hc : r ≤ cutT n m (lastBit f)
    · exact hc
    · have h1 : mag (cutT n m (lastBit f) + 1) ≤ mag r := mag_le_iff.2 (by omega)
      have h2 := Nat.mul_le_mul_right m h1
      exact absurd (Nat.lt_of_lt_of_le u2 h2) (by omega)
theorem cap_law {n m U : Nat} {f : Int} (hU : U = 1074) (hm : 0 < m) (h : Sc n m f) (hf : f ≤ 1023) (r : Nat) : capT n m (lastBit f) ≤ r ↔ n * 2^U ≤ mag r * m := by
  have hb := lastBit_bounds hf
  obtain ⟨u1, u2, u3, u4⟩ := units (n := n) (U := U) hm (show -(U : Int) ≤ lastBit f by omega)
  have m0 := mag_cut hm h 0 (by omega)
  have m1 := mag_cut hm h 1 (by omega)
  rw [Nat.add_zero] at m0
  rw [show (lastBit f + (U : Int)).toNat = (lastBit f + 1074).toNat from by omega] at u1 u2 u3 u4
  rw [← m0] at u1 u3 u4
  rw [← m1] at u2
  have e : (lastBit f + 1074).toNat * 2^52 + (upN n (lastBit f) / upM m (lastBit f) + 1) = cutT n m (lastBit f) + 1 := by unfold cutT; omega
  have e0 : (lastBit f + 1074).toNat * 2^52 + (upN n (lastBit f) / upM m (lastBit f)) = cutT n m (lastBit f) := rfl
  rw [e] at u2
  rw [e0] at u1 u3 u4
  by_cases hz : upN n (lastBit f) % upM m (lastBit f) = 0
  · have hc : capT n m (lastBit f) = cutT n m (lastBit f) := by unfold capT cutT; rw [if_pos hz, Nat.add_zero]
    rw [hc, u3 hz]
    constructor
    · intro hr; exact Nat.mul_le_mul_right m (mag_le_iff.2 hr)
    · intro hr
      exact mag_le_iff.1 (Nat.le_of_mul_le_mul_right hr hm)
  · have hc : capT n m (lastBit f) = cutT n m (lastBit f) + 1 := by unfold capT cutT; rw [if_neg hz]; omega
    rw [hc]
    have u4 := u4 hz
    constructor
    · intro hr
      exact Nat.le_trans (Nat.le_of_lt u2) (Nat.mul_le_mul_right m (mag_le_iff.2 hr))
    · intro hr
      have h2 := Nat.lt_of_mul_lt_mul_right (Nat.lt_of_lt_of_le u4 hr)
      have := mag_lt_iff.1 h2
      omega
theorem over_law {n m U : Nat} {f : Int} (hU : U = 1074) (hm : 0 < m) (h : Sc n m f) (hf : 1023 < f) (r : Nat) (hr : r < M) : mag r * m < n * 2^U := by
  have h1 := (h.1 (by omega)).1
  have h2 : mag r < mag M := mag_lt_iff.2 hr
  have h3 : mag M = 2^52 * 2^2046 := by
    have := mag_form 2046 (2^52) (.inr (Nat.le_refl _)) (by decide)
    rw [← this]; rfl
  rw [h3] at h2
  obtain ⟨k, rfl⟩ : ∃ k : Nat, f = ((1024 + k : Nat) : Int) := ⟨(f - 1024).toNat, by omega⟩
  rw [Int.toNat_natCast] at h1
  obtain ⟨V, hV⟩ : ∃ V, V = 2046 := ⟨_, rfl⟩
  rw [← hV] at h2
  calc mag r * m < 2^52 * 2^V * m := Nat.mul_lt_mul_of_pos_right h2 hm
    _ = m * 2^(52 + V) := by rw [Nat.pow_add]; ac_rfl
    _ ≤ m * 2^(1024 + k + U) := Nat.mul_le_mul_left _ (Nat.pow_le_pow_right (by omega) (by omega))
    _ = m * 2^(1024 + k) * 2^U := by rw [Nat.pow_add 2 (1024 + k) U, Nat.mul_assoc]
    _ ≤ n * 2^U := Nat.mul_le_mul_right _ h1
theorem rv_le_false {p q p' q' : Nat} (hq : 0 < q) (hq' : 0 < q') : rv false p q ≤ rv false p' q' ↔ p * q' ≤ p' * q := by
  have := rv_lt_false (p := p') (p' := p) hq' hq
  constructor
  · intro h
    by_cases hc : p * q' ≤ p' * q
    · exact hc
    · exact absurd (this.2 (by omega)) (by grind)
  · intro h
    by_cases hc : rv false p q ≤ rv false p' q'
    · exact hc
    · have := this.1 (by grind); omega
theorem fl_nat (r : Nat) {U : Nat} (hU : U = 1074) : fl (r : Int) = rv false (mag r) (2^U) := by
  unfold rv fl
  rw [if_neg (by decide), val_nat]
  refine eq_div (cast_ne (Nat.two_pow_pos U)) ?_
  rw [← zpow_nat, show (-1074 : Int) = -(U : Int) from by omega, Rat.mul_assoc, ← zpow_add, show -(U : Int) + (U : Int) = 0 from by omega, Rat.zpow_zero, Rat.mul_one]
  rfl
theorem fl_neg (i : Int) : fl (-i) = - fl i := by
  unfold fl
  rw [val_neg, Rat.intCast_neg]; grind
theorem fl_lt_iff {i j : Int} : fl i < fl j ↔ i < j := by
  unfold fl
  rw [Rat.mul_lt_mul_right (zpow_pos _), Rat.intCast_lt_intCast, val_lt_iff]
theorem fl_le_iff {i j : Int} : fl i ≤ fl j ↔ i ≤ j := by
  have := @fl_lt_iff j i
  constructor
  · intro h
    by_cases hc : i ≤ j
    · exact hc
    · exact absurd (this.2 (by omega)) (by grind)
  · intro h
    by_cases hc : fl i ≤ fl j
    · exact hc
    · have := this.1 (by grind); omega
theorem fl_zero : fl 0 = 0 := by unfold fl; rw [val_zero]; grind
def Rnd (d : Int) (x : Rat) (i : Int) : Prop :=
  (d = -1 ∧ -(M : Int) ≤ i ∧ i < M ∧ ∀ j : Int, -(M : Int) < j → j < M → (j ≤ i ↔ fl j ≤ x)) ∨
  (d = 1 ∧ -(M : Int) < i ∧ i ≤ M ∧ ∀ j : Int, -(M : Int) < j → j < M → (i ≤ j ↔ x ≤ fl j))
theorem Rnd.neg {d : Int} {x : Rat} {i : Int} (h : Rnd d x i) : Rnd (-d) (-x) (-i) := by
  rcases h with ⟨rfl, h1, h2, h3⟩ | ⟨rfl, h1, h2, h3⟩
  · refine .inr ⟨rfl, by omega, by omega, fun j hj hj' => ?_⟩
    have := h3 (-j) (by omega) (by omega)
    rw [fl_neg] at this
    constructor
    · intro h; have := this.1 (by omega); grind
    · intro h; have := this.2 (by grind); omega
  · refine .inl ⟨rfl, by omega, by omega, fun j hj hj' => ?_⟩
    have := h3 (-j) (by omega) (by omega)
    rw [fl_neg] at this
    constructor
    · intro h; have := this.1 (by omega); grind
    · intro h; have := this.2 (by grind); omega
theorem Rnd.exact {d a i : Int} (h : Rnd d (fl a) i) (h0 : -(M : Int) < a) (h1 : a < M) : i = a := by
  rcases h with ⟨rfl, a1, a2, a3⟩ | ⟨rfl, a1, a2, a3⟩
  · have h2 := (a3 a h0 h1).2 Rat.le_refl
    by_cases hc : i = a
    · exact hc
    · have := (a3 i (by omega) a2).1 (by omega)
      rw [fl_le_iff] at this; omega
  · have h2 := (a3 a h0 h1).2 Rat.le_refl
    by_cases hc : i = a
    · exact hc
    · have := (a3 i a1 (by omega)).1 (by omega)
      rw [fl_le_iff] at this; omega
theorem rnd_zero {d : Int} (hd : d = -1 ∨ d = 1) : Rnd d 0 0 := by
  rw [← fl_zero]
  rcases hd with rfl | rfl
  · exact .inl ⟨rfl, by rw [M_val]; omega, by rw [M_val]; omega, fun j _ _ => fl_le_iff.symm⟩
  · exact .inr ⟨rfl, by rw [M_val]; omega, by rw [M_val]; omega, fun j _ _ => fl_le_iff.symm⟩
theorem rnd_down {n m t U : Nat} (hU : U = 1074) (hn : 0 < n) (hm : 0 < m) (ht : t < M) (h : ∀ r : Nat, r < M → (r ≤ t ↔ mag r * m ≤ n * 2^U)) : Rnd (-1) (rv false n m) t := by
  refine .inl ⟨rfl, by omega, by omega, fun j hj hj' => ?_⟩
  rcases Int.lt_or_le j 0 with h0 | h0
  · have h1 : fl j < fl 0 := fl_lt_iff.2 h0
    rw [fl_zero] at h1
    have h2 := rv_pos hn hm
    constructor
    · intro _; grind
    · intro _; omega
  · obtain ⟨r, rfl⟩ : ∃ r : Nat, j = r := ⟨j.toNat, by omega⟩
    rw [fl_nat r hU, rv_le_false (Nat.two_pow_pos U) hm, ← h r (by omega)]
    omega
theorem rnd_up {n m t U : Nat} (hU : U = 1074) (hn : 0 < n) (hm : 0 < m) (ht : t ≤ M) (h : ∀ r : Nat, r < M → (t ≤ r ↔ n * 2^U ≤ mag r * m)) : Rnd 1 (rv false n m) t := by
  have hp : 0 < n * 2^U := Nat.mul_pos hn (Nat.two_pow_pos U)
  have h0 : 0 < t := by
    have h1 := h 0 (by rw [M_val]; omega)
    rw [mag_zero, Nat.zero_mul] at h1
    omega
  refine .inr ⟨rfl, by omega, by omega, fun j hj hj' => ?_⟩
  rcases Int.lt_or_le j 0 with h0 | h0
  · have h1 : fl j < fl 0 := fl_lt_iff.2 h0
    rw [fl_zero] at h1
    have h2 := rv_pos hn hm
    constructor
    · intro _; omega
    · intro _; grind
  · obtain ⟨r, rfl⟩ : ∃ r : Nat, j = r := ⟨j.toNat, by omega⟩
    rw [fl_nat r hU, rv_le_false hm (Nat.two_pow_pos U), ← h r (by omega)]
    omega
def sg (neg : Bool) (t : Nat) : Int := if neg then -(t : Int) else (t : Int)
def ansT (p q : Nat) (f : Int) (away : Bool) : Nat := if 1023 < f then (if away then M else M - 1) else (if away then capT p q (lastBit f) else cutT p q (lastBit f))
theorem rnd_ans {p q : Nat} {f d : Int} {neg : Bool} (hp : 0 < p) (hq : 0 < q) (h : Sc p q f) (hd : d = -1 ∨ d = 1) : Rnd d (rv neg p q) (sg neg (ansT p q f (decide (d = 1) != neg))) := by
  obtain ⟨U, hU⟩ : ∃ U, U = 1074 := ⟨_, rfl⟩
  have up : Rnd 1 (rv false p q) (ansT p q f true) := by
    unfold ansT
    by_cases hf : 1023 < f
    · rw [if_pos hf, if_pos rfl]
      refine rnd_up hU hp hq (Nat.le_refl _) fun r hr => ?_
      have := over_law hU hq h hf r hr
      omega
    · rw [if_neg hf, if_pos rfl]
      exact rnd_up hU hp hq (cap_le hq h (by omega)) fun r _ => cap_law hU hq h (by omega) r
  have down : Rnd (-1) (rv false p q) (ansT p q f false) := by
    unfold ansT
    by_cases hf : 1023 < f
    · rw [if_pos hf, if_neg (by decide)]
      refine rnd_down hU hp hq (by rw [M_val]; omega) fun r hr => ?_
      have := over_law hU hq h hf r hr
      omega
    · rw [if_neg hf, if_neg (by decide)]
      exact rnd_down hU hp hq (cut_lt hq h (by omega)) fun r _ => cut_law hU hq h (by omega) r
  rcases hd with rfl | rfl <;> cases neg
  · exact down
  · have := up.neg
    rw [← rv_true] at this
    exact this
  · exact up
  · have := down.neg
    rw [← rv_true] at this
    exact this
end Go.Proofs.YthlmlmfebpjgdaaGreatDoor

namespace Go.Proofs.YthlmlmfebpjgdaaGreatDoor
open Go.RowKit
end Go.Proofs.YthlmlmfebpjgdaaGreatDoor

namespace Go.Proofs.YthlmlmfebpjgdaaGreatDoor
open Go.RowKit
end Go.Proofs.YthlmlmfebpjgdaaGreatDoor

namespace Go.Proofs.YthlmlmfebpjgdaaGreatDoor
open Go.RowKit
end Go.Proofs.YthlmlmfebpjgdaaGreatDoor

namespace Go.Proofs.YthlmlmfebpjgdaaGreatDoor
open Go.RowKit
def NewRatS (w : World) (K : Nat) (x : Rat) (e : Ending) (w' : World) : Prop :=
  ∃ neg A n c B m d, e = .returned (.agg #[.bool neg, .slice A n c, .slice B m d]) ∧ RatV w' K neg (.slice A n c) (.slice B m d) x ∧ Below w.heap.size w w'
theorem NewRat.s {w w' : World} {K : Nat} {x : Rat} {e : Ending} (h : NewRat w K x e w') : NewRatS w K x e w' := by
  obtain ⟨neg, vn, vd, rfl, hr, hb⟩ := h
  obtain ⟨A, n, c, B, m, d, rfl, rfl⟩ := hr.shape
  exact ⟨neg, A, n, c, B, m, d, rfl, hr, hb⟩
def es (i : Int) : Int := if i = M then 1 else if i = -(M : Int) then -1 else 0
def ex (i : Int) : Rat := if es i = 0 then fl i else 0
theorem es_max : es M = 1 := rfl
theorem es_min : es (-(M : Int)) = -1 := by decide
theorem es_mid {i : Int} (h : -(M : Int) < i) (h' : i < M) : es i = 0 := by unfold es; rw [if_neg (by omega), if_neg (by omega)]
theorem ex_mid {i : Int} (h : -(M : Int) < i) (h' : i < M) : ex i = fl i := by unfold ex; rw [es_mid h h']; rfl
end Go.Proofs.YthlmlmfebpjgdaaGreatDoor

namespace Go.Proofs.YthlmlmfebpjgdaaGreatDoor
open Go.RowKit
def ec (s : Int) (x : Rat) (t : Int) (y : Rat) : Int := if s = t then (if s = 0 then rc x y else 0) else if s < t then -1 else 1
theorem ec_lt {s t : Int} (x y : Rat) (h : s < t) : ec s x t y = -1 := by unfold ec; rw [if_neg (by omega), if_pos h]
theorem ec_gt {s t : Int} (x y : Rat) (h : t < s) : ec s x t y = 1 := by unfold ec; rw [if_neg (by omega), if_neg (by omega)]
theorem ec_inf {s t : Int} (x y : Rat) (h : s = t) (h0 : s ≠ 0) : ec s x t y = 0 := by unfold ec; rw [if_pos h, if_neg h0]
theorem ec_zero (x y : Rat) : ec 0 x 0 y = rc x y := by unfold ec; rw [if_pos rfl, if_pos rfl]
end Go.Proofs.YthlmlmfebpjgdaaGreatDoor

namespace Go.Proofs.YthlmlmfebpjgdaaGreatDoor
def SubInv (rs ys cur : List Nat) (x i c b : Nat) : Prop :=
  W32 cur ∧ cur.length = rs.length ∧ (∀ j : Nat, i ≤ j → cur[j]?.getD 0 = rs[j]?.getD 0) ∧ c < 4294967296 ∧ b ≤ 1 ∧
    num (cur.take i) + x * num (ys.take i) = num (rs.take i) + 2^(32 * i) * (b + c)
theorem SubInv.start {rs ys : List Nat} (x : Nat) (h : W32 rs) : SubInv rs ys rs x 0 0 0 :=
  ⟨h, rfl, fun _ _ => rfl, by omega, by omega, by simp [num]⟩
theorem SubInv.step {rs ys cur : List Nat} {x i c b t d b' : Nat} (h : SubInv rs ys cur x i c b) (hi : i < rs.length) (hx : x < 4294967296) (hy : W32 ys)
    (ht : t = c + ys[i]?.getD 0 * x) (hd : d < 4294967296) (hb' : b' ≤ 1) (he : d + (t % 4294967296 + b) = rs[i]?.getD 0 + 4294967296 * b') :
    SubInv rs ys (cur.set i d) x (i + 1) (t / 4294967296) b' := by
  obtain ⟨hw, hl, hr, hc, hb, hs⟩ := h
  have h1 := hy.get i
  have h2 : ys[i]?.getD 0 * x ≤ 4294967295 * 4294967295 := Nat.mul_le_mul (by omega) (by omega)
  refine ⟨hw.set _ hd, by simp [hl], fun j hj => ?_, by omega, hb', ?_⟩
  · rw [List.getElem?_set_ne (by omega)]; exact hr j (by omega)
  · have e1 : num ((cur.set i d).take (i + 1)) = num (cur.take i) + 2^(32 * i) * d := by
      rw [num_take_next, List.take_set_of_le (Nat.le_refl _), List.getElem?_set_self (by omega)]; rfl
    rw [e1, num_take_next, num_take_next, pow32, Nat.mul_add x]
    have e2 : x * (2^(32 * i) * ys[i]?.getD 0) = 2^(32 * i) * (ys[i]?.getD 0 * x) := by
      rw [Nat.mul_left_comm, Nat.mul_comm x]
    rw [e2]
    generalize ys[i]?.getD 0 * x = z at *
    generalize 2^(32 * i) = p at *
    have e3 : p * (b + c) + p * d + p * z = p * rs[i]?.getD 0 + 2^32 * p * (b' + t / 4294967296) := by
      rw [Nat.mul_comm (2^32) p, Nat.mul_assoc, ← Nat.mul_add, ← Nat.mul_add, ← Nat.mul_add]
      congr 1; omega
    omega
theorem SubInv.done {rs ys cur : List Nat} {x c b : Nat} (h : SubInv rs ys cur x rs.length c b) (hr : W32 rs) (hm : ys.length ≤ rs.length) (hle : x * num ys ≤ num rs) :
    num cur = num rs - x * num ys := by
  obtain ⟨hw, hl, _, hc, hb, hs⟩ := h
  rw [List.take_of_length_le (by omega), List.take_of_length_le (Nat.le_refl _), List.take_of_length_le hm] at hs
  have h1 := num_lt hw
  have h2 := num_lt hr
  rw [hl] at h1
  have h3 : b + c = 0 := by
    rcases Nat.eq_zero_or_pos (b + c) with h3 | h3
    · exact h3
    · exfalso
      have := Nat.mul_le_mul_left (2^(32 * rs.length)) h3
      omega
  rw [h3] at hs
  omega
theorem num_shift_up {rs : List Nat} (h : rs ≠ []) (hz : rs[rs.length - 1]?.getD 0 = 0) (u : Nat) : num (u :: rs.take (rs.length - 1)) = u + 4294967296 * num rs := by
  rw [num_cons]
  have hl : 0 < rs.length := List.length_pos_iff.2 h
  have e : num rs = num (rs.take (rs.length - 1)) := by
    have := num_take_next rs (rs.length - 1)
    rw [Nat.sub_add_cancel hl, List.take_of_length_le (Nat.le_refl _), hz] at this
    omega
  rw [← e]
def ByInv (us qs : List Nat) (V R i : Nat) : Prop := W32 qs ∧ qs.length = us.length ∧ num (us.drop i) = num (qs.drop i) * V + R ∧ R < V
theorem ByInv.start (us : List Nat) {V : Nat} (hV : 0 < V) : ByInv us (List.replicate us.length 0) V 0 us.length :=
  ⟨W32.replicate _, by simp, by simp [num], hV⟩
theorem num_drop_cons (l : List Nat) (i : Nat) : num (l.drop i) = l[i]?.getD 0 + 4294967296 * num (l.drop (i + 1)) := by
  rw [num_tail (l.drop i), List.getElem?_drop, List.tail_drop]; rfl
theorem ByInv.step {us qs : List Nat} {V R i d R' : Nat} (h : ByInv us qs V R (i + 1)) (hi : i < us.length) (hd : d < 4294967296) (he : us[i]?.getD 0 + 4294967296 * R = d * V + R') (hR : R' < V) :
    ByInv us (qs.set i d) V R' i := by
  obtain ⟨hw, hl, hs, _⟩ := h
  refine ⟨hw.set _ hd, by simp [hl], ?_, hR⟩
  rw [num_drop_cons us, hs, num_drop_cons (qs.set i d), List.getElem?_set_self (by omega)]
  rw [List.drop_set_of_lt (by omega)]
  show _ = (d + 4294967296 * num (qs.drop (i + 1))) * V + R'
  rw [Nat.mul_add, Nat.add_mul, Nat.mul_assoc]
  generalize num (qs.drop (i + 1)) * V = z at *
  omega
theorem ByInv.done {us qs : List Nat} {V R : Nat} (h : ByInv us qs V R 0) : num us / V = num qs ∧ num us % V = R := by
  obtain ⟨_, _, hs, hR⟩ := h
  rw [List.drop_zero, List.drop_zero] at hs
  rw [hs, Nat.mul_comm]
  constructor
  · rw [Nat.mul_add_div (by omega), Nat.div_eq_of_lt hR, Nat.add_zero]
  · rw [Nat.mul_add_mod, Nat.mod_eq_of_lt hR]
end Go.Proofs.YthlmlmfebpjgdaaGreatDoor

namespace Go.Proofs.YthlmlmfebpjgdaaGreatDoor
open Go.RowKit
end Go.Proofs.YthlmlmfebpjgdaaGreatDoor

namespace Go.Proofs.YthlmlmfebpjgdaaGreatDoor
open Go.RowKit
end Go.Proofs.YthlmlmfebpjgdaaGreatDoor

namespace Go.Proofs.YthlmlmfebpjgdaaGreatDoor
open Go.RowKit
def Moved (rs cur : List Nat) (j : Nat) : Prop := cur.length = rs.length ∧ ∀ t : Nat, t < rs.length → cur[t]?.getD 0 = if j < t then rs[t - 1]?.getD 0 else rs[t]?.getD 0
theorem Moved.start (rs : List Nat) : Moved rs rs (rs.length - 1) := ⟨rfl, fun t ht => by rw [if_neg (by omega)]⟩
theorem Moved.step {rs cur : List Nat} {j : Nat} (h : Moved rs cur (j + 1)) (hj : j + 1 < rs.length) : Moved rs (cur.set (j + 1) (rs[j]?.getD 0)) j := by
  obtain ⟨hl, hm⟩ := h
  refine ⟨by simp [hl], fun t ht => ?_⟩
  by_cases h1 : t = j + 1
  · subst h1
    rw [List.getElem?_set_self (by omega), if_pos (by omega)]; rfl
  · rw [List.getElem?_set_ne (by omega), hm t ht]
    by_cases h2 : j < t
    · rw [if_pos h2, if_pos (by omega)]
    · rw [if_neg h2, if_neg (by omega)]
theorem Moved.done {rs cur : List Nat} (h : Moved rs cur 0) (h0 : rs ≠ []) (hz : rs[rs.length - 1]?.getD 0 = 0) (u : Nat) : num (cur.set 0 u) = u + 4294967296 * num rs := by
  rw [← num_shift_up h0 hz]
  have hl : 0 < rs.length := List.length_pos_iff.2 h0
  refine num_ext fun t => ?_
  rcases Nat.eq_zero_or_pos t with h1 | h1
  · subst h1
    rw [List.getElem?_set_self (by rw [h.1]; exact hl)]; rfl
  · rw [List.getElem?_set_ne (by omega)]
    obtain ⟨t, rfl⟩ : ∃ i, t = i + 1 := ⟨t - 1, by omega⟩
    rw [List.getElem?_cons_succ]
    rcases Nat.lt_or_ge (t + 1) rs.length with h2 | h2
    · rw [h.2 _ h2, if_pos (by omega), List.getElem?_take_of_lt (by omega)]; rfl
    · rw [List.getElem?_eq_none (by rw [h.1]; exact h2), List.getElem?_eq_none (by rw [List.length_take]; omega)]
end Go.Proofs.YthlmlmfebpjgdaaGreatDoor

namespace Go.Proofs.YthlmlmfebpjgdaaGreatDoor
open Go.RowKit
end Go.Proofs.YthlmlmfebpjgdaaGreatDoor

namespace Go.Proofs.YthlmlmfebpjgdaaGreatDoor
open Go.RowKit
end Go.Proofs.YthlmlmfebpjgdaaGreatDoor

namespace Go.Proofs.YthlmlmfebpjgdaaGreatDoor
open Go.RowKit
def fdec (p q : Nat) (f : Int) : Bool := if 0 ≤ f then decide (p < q * 2^f.toNat) else decide (p * 2^(-f).toNat < q)
def fout (p q : Nat) (f : Int) : Int := if fdec p q f then f - 1 else f
theorem fout_sc {p q : Nat} {f : Int} (hp : 0 < p) (hq : 0 < q) (hf : f = (blen p : Int) - blen q) : Sc p q (fout p q f) := by
  unfold fout
  by_cases h : fdec p q f = true
  · rw [if_pos h]
    unfold fdec at h
    refine scale_down hp hq hf (fun h0 => ?_) (fun h0 => ?_)
    · rw [if_pos h0] at h; exact of_decide_eq_true h
    · rw [if_neg (by omega)] at h; exact of_decide_eq_true h
  · rw [if_neg h]
    unfold fdec at h
    refine scale_keep hp hq hf (fun h0 => ?_) (fun h0 => ?_)
    · rw [if_pos h0] at h; simp at h; exact h
    · rw [if_neg (by omega)] at h; simp at h; exact h
end Go.Proofs.YthlmlmfebpjgdaaGreatDoor

namespace Go.Proofs.YthlmlmfebpjgdaaGreatDoor
open Go.RowKit
end Go.Proofs.YthlmlmfebpjgdaaGreatDoor

namespace Go.Proofs.YthlmlmfebpjgdaaGreatDoor
open Go.RowKit
end Go.Proofs.YthlmlmfebpjgdaaGreatDoor

namespace Go.Proofs.YthlmlmfebpjgdaaGreatDoor
open Go.RowKit
end Go.Proofs.YthlmlmfebpjgdaaGreatDoor

namespace Go.Proofs.YthlmlmfebpjgdaaGreatDoor
open Go.RowKit
end Go.Proofs.YthlmlmfebpjgdaaGreatDoor

namespace Go.Proofs.YthlmlmfebpjgdaaGreatDoor
open Go.RowKit
end Go.Proofs.YthlmlmfebpjgdaaGreatDoor

namespace Go.Proofs.YthlmlmfebpjgdaaGreatDoor
open Go.RowKit
theorem es_bounds (i : Int) : -1 ≤ es i ∧ es i ≤ 1 := by unfold es; split <;> (try split) <;> omega
theorem es_zero {i : Int} (h : es i = 0) : i ≠ M ∧ i ≠ -(M : Int) := by
  unfold es at h
  split at h
  · cases h
  · split at h
    · cases h
    · exact ⟨by assumption, by assumption⟩
theorem ex_zero {i : Int} (h : es i = 0) : ex i = fl i := by unfold ex; rw [if_pos h]
end Go.Proofs.YthlmlmfebpjgdaaGreatDoor

namespace Go.Proofs.YthlmlmfebpjgdaaGreatDoor
open Go.RowKit
theorem num_neg_iff {x : Rat} : x.num < 0 ↔ x < 0 := by rw [← Int.not_le, Rat.num_nonneg, Rat.not_le]
theorem rat_rv (x : Rat) : rv (decide (x < 0)) x.num.natAbs x.den = x := by
  have h : (x.num : Rat) / (x.den : Rat) = x := by rw [← Rat.mkRat_eq_div, Rat.mkRat_self]
  unfold rv
  by_cases h0 : x < 0
  · have h1 : x.num < 0 := num_neg_iff.2 h0
    have h2 : ((x.num.natAbs : Nat) : Int) = -x.num := by omega
    have h3 : ((x.num.natAbs : Nat) : Rat) = -(x.num : Rat) := by rw [← Rat.intCast_natCast, h2, Rat.intCast_neg]
    simp only [h0, decide_true, if_true, h3, Rat.neg_neg]
    exact h
  · have h1 : ¬ x.num < 0 := fun h => h0 (num_neg_iff.1 h)
    have h2 : ((x.num.natAbs : Nat) : Int) = x.num := by omega
    have h3 : ((x.num.natAbs : Nat) : Rat) = (x.num : Rat) := by rw [← Rat.intCast_natCast, h2]
    simp only [h0, decide_false, h3]
    exact h
theorem Rnd.dir {d : Int} {x : Rat} {i : Int} (h : Rnd d x i) : d = -1 ∨ d = 1 := by
  rcases h with ⟨h, _⟩ | ⟨h, _⟩
  · exact .inl h
  · exact .inr h
theorem Rnd.unique {d : Int} {x : Rat} {i j : Int} (h : Rnd d x i) (h' : Rnd d x j) : i = j := by
  rcases h with ⟨rfl, a1, a2, a3⟩ | ⟨rfl, a1, a2, a3⟩
  · rcases h' with ⟨-, b1, b2, b3⟩ | ⟨h, _⟩
    · rcases Int.lt_trichotomy i j with h | h | h
      · have := (a3 j (by omega) b2).2 ((b3 j (by omega) b2).1 (Int.le_refl _)); omega
      · exact h
      · have := (b3 i (by omega) a2).2 ((a3 i (by omega) a2).1 (Int.le_refl _)); omega
    · omega
  · rcases h' with ⟨h, _⟩ | ⟨-, b1, b2, b3⟩
    · omega
    · rcases Int.lt_trichotomy i j with h | h | h
      · have := (b3 i a1 (by omega)).2 ((a3 i a1 (by omega)).1 (Int.le_refl _)); omega
      · exact h
      · have := (a3 j b1 (by omega)).2 ((b3 j b1 (by omega)).1 (Int.le_refl _)); omega
def rndI (d : Int) (x : Rat) : Int :=
  if x = 0 then 0 else sg (decide (x < 0)) (ansT x.num.natAbs x.den (fout x.num.natAbs x.den ((blen x.num.natAbs : Int) - blen x.den)) (decide (d = 1) != decide (x < 0)))
theorem rnd_rndI {d : Int} (hd : d = -1 ∨ d = 1) (x : Rat) : Rnd d x (rndI d x) := by
  unfold rndI
  by_cases h0 : x = 0
  · rw [if_pos h0, h0]; exact rnd_zero hd
  · rw [if_neg h0]
    have hp : 0 < x.num.natAbs := by
      have : x.num ≠ 0 := fun h => h0 (Rat.num_eq_zero.1 h)
      omega
    have h := rnd_ans (neg := decide (x < 0)) hp x.den_pos (fout_sc hp x.den_pos rfl) hd
    rw [rat_rv] at h
    exact h
theorem Rnd.eq {d : Int} {x : Rat} {i : Int} (h : Rnd d x i) : i = rndI d x := h.unique (rnd_rndI h.dir x)
theorem rndI_neg {d : Int} (hd : d = -1 ∨ d = 1) (x : Rat) : rndI (-d) (-x) = - rndI d x := ((rnd_rndI hd x).neg.eq).symm
theorem rndI_fl {d a : Int} (hd : d = -1 ∨ d = 1) (h0 : -(M : Int) < a) (h1 : a < M) : rndI d (fl a) = a := (rnd_rndI hd (fl a)).exact h0 h1
theorem rndI_zero {d : Int} (hd : d = -1 ∨ d = 1) : rndI d 0 = 0 := (rnd_zero hd).eq.symm
theorem rndI_down (x : Rat) : -(M : Int) ≤ rndI (-1) x ∧ rndI (-1) x < M ∧ ∀ j : Int, -(M : Int) < j → j < M → (j ≤ rndI (-1) x ↔ fl j ≤ x) := by
  rcases rnd_rndI (.inl rfl) x with ⟨-, h⟩ | ⟨h, _⟩
  · exact h
  · omega
theorem rndI_up (x : Rat) : -(M : Int) < rndI 1 x ∧ rndI 1 x ≤ M ∧ ∀ j : Int, -(M : Int) < j → j < M → (rndI 1 x ≤ j ↔ x ≤ fl j) := by
  rcases rnd_rndI (.inr rfl) x with ⟨h, _⟩ | ⟨-, h⟩
  · omega
  · exact h
theorem rndI_mono {d : Int} (hd : d = -1 ∨ d = 1) {x y : Rat} (h : x ≤ y) : rndI d x ≤ rndI d y := by
  rcases hd with rfl | rfl
  · have h1 := rndI_down x
    have h2 := rndI_down y
    by_cases hc : rndI (-1) x ≤ rndI (-1) y
    · exact hc
    · have h3 := (h1.2.2 (rndI (-1) x) (by omega) h1.2.1).1 (Int.le_refl _)
      exact (h2.2.2 _ (by omega) h1.2.1).2 (Rat.le_trans h3 h)
  · have h1 := rndI_up x
    have h2 := rndI_up y
    by_cases hc : rndI 1 x ≤ rndI 1 y
    · exact hc
    · have h3 := (h2.2.2 (rndI 1 y) h2.1 (by omega)).1 (Int.le_refl _)
      exact (h1.2.2 _ h2.1 (by omega)).2 (Rat.le_trans h h3)
theorem rndI_le (x : Rat) : rndI (-1) x ≤ rndI 1 x := by
  have h1 := rndI_down x
  have h2 := rndI_up x
  by_cases hc : rndI (-1) x ≤ rndI 1 x
  · exact hc
  · have h3 := (h2.2.2 (rndI 1 x) h2.1 (by omega)).1 (Int.le_refl _)
    by_cases h4 : rndI 1 x < rndI (-1) x
    · have h5 := (h1.2.2 (rndI (-1) x) (by omega) h1.2.1).1 (Int.le_refl _)
      have := fl_lt_iff.2 h4
      grind
    · omega
def dn (s : Int) (x : Rat) : Int := if s = 0 then rndI (-1) x else s * M
def up (s : Int) (x : Rat) : Int := if s = 0 then rndI 1 x else s * M
theorem dn_zero (x : Rat) : dn 0 x = rndI (-1) x := rfl
theorem up_zero (x : Rat) : up 0 x = rndI 1 x := rfl
theorem rc_neg_iff {x y : Rat} : rc x y < 0 ↔ x < y := by
  unfold rc
  by_cases h : x < y
  · simp [h]
  · rw [if_neg h]
    by_cases h' : y < x <;> simp [h, h']
theorem rc_pos_iff {x y : Rat} : 0 < rc x y ↔ y < x := by
  unfold rc
  by_cases h : x < y
  · have : ¬ y < x := by grind
    simp [h, this]
  · rw [if_neg h]
    by_cases h' : y < x <;> simp [h']
theorem ec_hi {i s : Int} {x : Rat} (hi : -(M : Int) ≤ i ∧ i < M) (hs : s = 0 ∨ s = 1) : 0 < ec (es i) (ex i) s x ↔ dn s x < i := by
  have hM : M = 9218868437227405312 := rfl
  rcases hs with rfl | rfl
  · rw [dn_zero]
    have h := rndI_down x
    by_cases h0 : i = -(M : Int)
    · subst h0
      rw [es_min, ec_lt _ _ (by omega)]; omega
    · rw [es_mid (by omega) hi.2, ec_zero, ex_mid (by omega) hi.2, rc_pos_iff]
      have h1 := h.2.2 i (by omega) hi.2
      rw [← Int.not_le, h1]; grind
  · have h1 : es i < 1 := by have := es_bounds i; unfold es; split <;> (try split) <;> omega
    rw [ec_lt _ _ h1]
    unfold dn
    rw [if_neg (by omega)]; omega
theorem ec_lo {j s : Int} {x : Rat} (hj : -(M : Int) < j ∧ j ≤ M) (hs : s = 0 ∨ s = -1) : ec (es j) (ex j) s x < 0 ↔ j < up s x := by
  have hM : M = 9218868437227405312 := rfl
  rcases hs with rfl | rfl
  · rw [up_zero]
    have h := rndI_up x
    by_cases h0 : j = (M : Int)
    · subst h0
      rw [es_max, ec_gt _ _ (by omega)]; omega
    · rw [es_mid (by omega) (by omega), ec_zero, ex_mid (by omega) (by omega), rc_neg_iff]
      have h1 := h.2.2 j hj.1 (by omega)
      rw [← Int.not_le, h1]; grind
  · have h1 : -1 < es j := by unfold es; split <;> (try split) <;> omega
    rw [ec_gt _ _ h1]
    unfold up
    rw [if_neg (by omega)]; omega
theorem ec_lo_at {i s : Int} {x : Rat} (hi : -(M : Int) ≤ i ∧ i < M) (hs : s = 0 ∨ s = -1) : (if ec (es i) (ex i) s x < 0 then rndI (-1) x else i) = max i (dn s x) := by
  have hM : M = 9218868437227405312 := rfl
  rcases hs with rfl | rfl
  · rw [dn_zero]
    have h := rndI_down x
    by_cases h0 : i = -(M : Int)
    · subst h0
      rw [es_min, ec_lt _ _ (by omega), if_pos (by omega)]; omega
    · rw [es_mid (by omega) hi.2, ec_zero, ex_mid (by omega) hi.2]
      have h1 := h.2.2 i (by omega) hi.2
      by_cases hc : fl i < x
      · rw [if_pos (rc_neg_iff.2 hc)]
        have := h1.2 (by grind); omega
      · rw [if_neg (fun h => hc (rc_neg_iff.1 h))]
        have : rndI (-1) x ≤ i := by
          by_cases h2 : rndI (-1) x = -(M : Int)
          · omega
          · have h3 := (h.2.2 (rndI (-1) x) (by omega) h.2.1).1 (Int.le_refl _)
            rw [← fl_le_iff]; grind
        omega
  · have h1 : -1 ≤ es i := (es_bounds i).1
    have h2 : ¬ ec (es i) (ex i) (-1) x < 0 := by
      by_cases h3 : es i = -1
      · rw [ec_inf _ _ h3 (by omega)]; omega
      · rw [ec_gt _ _ (by omega)]; omega
    rw [if_neg h2]
    unfold dn
    rw [if_neg (by omega)]; omega
theorem ec_hi_at {j s : Int} {x : Rat} (hj : -(M : Int) < j ∧ j ≤ M) (hs : s = 0 ∨ s = 1) : (if 0 < ec (es j) (ex j) s x then rndI 1 x else j) = min j (up s x) := by
  have hM : M = 9218868437227405312 := rfl
  rcases hs with rfl | rfl
  · rw [up_zero]
    have h := rndI_up x
    by_cases h0 : j = (M : Int)
    · subst h0
      rw [es_max, ec_gt _ _ (by omega), if_pos (by omega)]; omega
    · rw [es_mid (by omega) (by omega), ec_zero, ex_mid (by omega) (by omega)]
      have h1 := h.2.2 j hj.1 (by omega)
      by_cases hc : x < fl j
      · rw [if_pos (rc_pos_iff.2 hc)]
        have := h1.2 (by grind); omega
      · rw [if_neg (fun h => hc (rc_pos_iff.1 h))]
        have : j ≤ rndI 1 x := by
          by_cases h2 : rndI 1 x = (M : Int)
          · omega
          · have h3 := (h.2.2 (rndI 1 x) h.1 (by omega)).1 (Int.le_refl _)
            rw [← fl_le_iff]; grind
        omega
  · have h1 : es j ≤ 1 := (es_bounds j).2
    have h2 : ¬ 0 < ec (es j) (ex j) 1 x := by
      by_cases h3 : es j = 1
      · rw [ec_inf _ _ h3 (by omega)]; omega
      · rw [ec_lt _ _ (by omega)]; omega
    rw [if_neg h2]
    unfold up
    rw [if_neg (by omega)]; omega
theorem ec_hi_open {i s : Int} {x : Rat} (hi : -(M : Int) ≤ i ∧ i < M) (hs : s = 1) : ec (es i) (ex i) s x ≠ 0 := by
  have h1 : es i < s := by unfold es; split <;> (try split) <;> omega
  rw [ec_lt _ _ h1]; omega
theorem ec_lo_open {j s : Int} {x : Rat} (hj : -(M : Int) < j ∧ j ≤ M) (hs : s = -1) : ec (es j) (ex j) s x ≠ 0 := by
  have hM : M = 9218868437227405312 := rfl
  have h1 : s < es j := by unfold es; split <;> (try split) <;> omega
  rw [ec_gt _ _ h1]; omega
def ct (i j pd pu qd qu : Int) : Int × Int := if qd < i ∨ j < pu then ((M : Int), -(M : Int)) else (max i pd, min j qu)
end Go.Proofs.YthlmlmfebpjgdaaGreatDoor

namespace Go.Proofs.YthlmlmfebpjgdaaGreatDoor
open Go.RowKit
attribute [local go_sem] run_store_float
theorem not_gt {i j : Int} (hi : -(M : Int) ≤ i ∧ i ≤ M) (hj : -(M : Int) ≤ j ∧ j ≤ M) (h : ¬ j < i) : (FloatKind.f64.format.order (pat i) (pat j) == some Ordering.gt) = false := by
  rw [order_pat hi.1 hi.2 hj.1 hj.2]
  rcases Int.lt_trichotomy i j with h2 | h2 | h2
  · rw [Int.compare_eq_lt.2 h2]; rfl
  · rw [Int.compare_eq_eq.2 h2]; rfl
  · exact absurd h2 h
theorem not_lt' {i j : Int} (hi : -(M : Int) ≤ i ∧ i ≤ M) (hj : -(M : Int) ≤ j ∧ j ≤ M) (h : ¬ i < j) : (FloatKind.f64.format.order (pat i) (pat j) == some Ordering.lt) = false := by
  rw [order_pat hi.1 hi.2 hj.1 hj.2]
  rcases Int.lt_trichotomy i j with h2 | h2 | h2
  · exact absurd h2 h
  · rw [Int.compare_eq_eq.2 h2]; rfl
  · rw [Int.compare_eq_gt.2 h2]; rfl
theorem rcut_gt (i j pd pu qd qu : Nat) (w : World) (o1 : FloatKind.f64.format.order i qd = some .gt) :
    Calls Tryz.prog 77 #[.agg #[.float .f64 i, .float .f64 j], .agg #[.float .f64 pd, .float .f64 pu], .agg #[.float .f64 qd, .float .f64 qu], .bool false] w fun e w' => e = .returned (.agg #[.float .f64 9218868437227405312, .float .f64 18442240474082181120]) ∧ Below w.heap.size w w' := by
  obtain ⟨LB0, LG0_0, LG1_0, LG2_0, LR⟩ := bx4 w #[.float .f64 i, .float .f64 j] 28 #[.float .f64 pd, .float .f64 pu] 78 #[.float .f64 qd, .float .f64 qu] 78 #[.float .f64 0, .float .f64 0] 28
  have LR0 := Lib.hid (HasBlk.of (n := 2) LR.out rfl rfl)
  clear LR
  have HE := Lib.hid emptyf
  go_enter Tryz.func77, Tryz.ntmps77
  go_wp2_with fail
  refine (HE.out _).mono ?_
  rintro e w1 ⟨rfl, hb1⟩
  have LB1 := stB LB0 hb1 LB0.out.size
  have LR1 := stR LR0 hb1
  have LG0_1 := stG LG0_0 hb1
  have LG1_1 := stG LG1_0 hb1
  have LG2_1 := stG LG2_0 hb1
  clear LB0 LR0 LG0_0 LG1_0 LG2_0
  clear hb1 HE
  obtain ⟨ha0, hf0, ha1, hf1⟩ := LR1.out.sf2
  obtain ⟨hk0, hk1⟩ := LR1.out.sc2 (.float .f64 9218868437227405312) (.float .f64 18442240474082181120)
  have F := Lib.hid (below_sets (w0 := w) (r := (w.heap.size + 3)) (by omega) [.float .f64 9218868437227405312, .float .f64 18442240474082181120] 0 _ LB1.out)
  simp [sets] at hk0 hk1
  go_wp2
  refine bodyPost_ret (v := .agg #[.float .f64 9218868437227405312, .float .f64 18442240474082181120]) (by simp [results, Tryz.results77, go_sem, hk0, hk1]) rfl ?_
  exact ⟨rfl, F.out⟩
theorem rcut_lt (i j pd pu qd qu : Nat) (w : World) (o1 : (FloatKind.f64.format.order i qd == some Ordering.gt) = false) (o2 : FloatKind.f64.format.order j pu = some .lt) :
    Calls Tryz.prog 77 #[.agg #[.float .f64 i, .float .f64 j], .agg #[.float .f64 pd, .float .f64 pu], .agg #[.float .f64 qd, .float .f64 qu], .bool false] w fun e w' => e = .returned (.agg #[.float .f64 9218868437227405312, .float .f64 18442240474082181120]) ∧ Below w.heap.size w w' := by
  obtain ⟨LB0, LG0_0, LG1_0, LG2_0, LR⟩ := bx4 w #[.float .f64 i, .float .f64 j] 28 #[.float .f64 pd, .float .f64 pu] 78 #[.float .f64 qd, .float .f64 qu] 78 #[.float .f64 0, .float .f64 0] 28
  have LR0 := Lib.hid (HasBlk.of (n := 2) LR.out rfl rfl)
  clear LR
  have HE := Lib.hid emptyf
  go_enter Tryz.func77, Tryz.ntmps77
  go_wp2_with fail
  refine (HE.out _).mono ?_
  rintro e w1 ⟨rfl, hb1⟩
  have LB1 := stB LB0 hb1 LB0.out.size
  have LR1 := stR LR0 hb1
  have LG0_1 := stG LG0_0 hb1
  have LG1_1 := stG LG1_0 hb1
  have LG2_1 := stG LG2_0 hb1
  clear LB0 LR0 LG0_0 LG1_0 LG2_0
  clear hb1 HE
  obtain ⟨ha0, hf0, ha1, hf1⟩ := LR1.out.sf2
  obtain ⟨hk0, hk1⟩ := LR1.out.sc2 (.float .f64 9218868437227405312) (.float .f64 18442240474082181120)
  have F := Lib.hid (below_sets (w0 := w) (r := (w.heap.size + 3)) (by omega) [.float .f64 9218868437227405312, .float .f64 18442240474082181120] 0 _ LB1.out)
  simp [sets] at hk0 hk1
  go_wp2
  refine bodyPost_ret (v := .agg #[.float .f64 9218868437227405312, .float .f64 18442240474082181120]) (by simp [results, Tryz.results77, go_sem, hk0, hk1]) rfl ?_
  exact ⟨rfl, F.out⟩
theorem rcut_in (i j pd pu qd qu a b : Nat) (w : World) (o1 : (FloatKind.f64.format.order i qd == some Ordering.gt) = false) (o2 : (FloatKind.f64.format.order j pu == some Ordering.lt) = false) (m1 : ∀ W ts t, (Builtin.max_ ts t #[.float .f64 i, .float .f64 pd]).run Tryz.prog W = .ok (.float .f64 a) W) (m2 : ∀ W ts t, (Builtin.min_ ts t #[.float .f64 j, .float .f64 qu]).run Tryz.prog W = .ok (.float .f64 b) W) :
    Calls Tryz.prog 77 #[.agg #[.float .f64 i, .float .f64 j], .agg #[.float .f64 pd, .float .f64 pu], .agg #[.float .f64 qd, .float .f64 qu], .bool false] w fun e w' => e = .returned (.agg #[.float .f64 a, .float .f64 b]) ∧ Below w.heap.size w w' := by
  obtain ⟨LB0, LG0_0, LG1_0, LG2_0, LR⟩ := bx4 w #[.float .f64 i, .float .f64 j] 28 #[.float .f64 pd, .float .f64 pu] 78 #[.float .f64 qd, .float .f64 qu] 78 #[.float .f64 0, .float .f64 0] 28
  have LR0 := Lib.hid (HasBlk.of (n := 2) LR.out rfl rfl)
  clear LR
  go_enter Tryz.func77, Tryz.ntmps77
  go_wp2_with fail
  go_quiet (fail)
  have LB1 := Lib.hid (below_drewN LB0.out nq)
  have LR1 := Lib.hid (show HasBlk ((((((w.alloc (.cells #[.float .f64 i, .float .f64 j] 28)).alloc (.cells #[.float .f64 pd, .float .f64 pu] 78)).alloc (.cells #[.float .f64 qd, .float .f64 qu] 78)).alloc (.cells #[.float .f64 0, .float .f64 0] 28))).drewN nq) (w.heap.size + 3) 28 2 from LR0.out)
  have LG0_1 := Lib.hid (LG0_0.out.drewN nq)
  have LG1_1 := Lib.hid (LG1_0.out.drewN nq)
  have LG2_1 := Lib.hid (LG2_0.out.drewN nq)
  clear LB0 LR0 LG0_0 LG1_0 LG2_0
  obtain ⟨W1, hW1⟩ : ∃ X, (((((w.alloc (.cells #[.float .f64 i, .float .f64 j] 28)).alloc (.cells #[.float .f64 pd, .float .f64 pu] 78)).alloc (.cells #[.float .f64 qd, .float .f64 qu] 78)).alloc (.cells #[.float .f64 0, .float .f64 0] 28))).drewN nq = X := ⟨_, rfl⟩
  rw [hW1] at LB1 LR1 LG0_1 LG1_1 LG2_1 ⊢
  clear hW1
  clear o1 o2
  obtain ⟨q0_0, q0_1⟩ := LG0_1.out.c2
  obtain ⟨q1_0, q1_1⟩ := LG1_1.out.c2
  obtain ⟨q2_0, q2_1⟩ := LG2_1.out.c2
  obtain ⟨ha0, hf0, ha1, hf1⟩ := LR1.out.sf2
  obtain ⟨hk0, hk1⟩ := LR1.out.sc2 (.float .f64 a) (.float .f64 b)
  have F := Lib.hid (below_sets (w0 := w) (r := (w.heap.size + 3)) (by omega) [.float .f64 a, .float .f64 b] 0 _ LB1.out)
  simp [sets] at hk0 hk1
  go_wp2
  refine bodyPost_ret (v := .agg #[.float .f64 a, .float .f64 b]) (by simp [results, Tryz.results77, go_sem, hk0, hk1]) rfl ?_
  exact ⟨rfl, F.out⟩
theorem rcut_any (i j pd pu qd qu : Int) (w : World) (hi : -(M : Int) ≤ i ∧ i ≤ M) (hj : -(M : Int) ≤ j ∧ j ≤ M) (h1 : -(M : Int) ≤ pd ∧ pd ≤ M) (h2 : -(M : Int) ≤ pu ∧ pu ≤ M) (h3 : -(M : Int) ≤ qd ∧ qd ≤ M) (h4 : -(M : Int) ≤ qu ∧ qu ≤ M) :
    Calls Tryz.prog 77 #[.agg #[.float .f64 (pat i), .float .f64 (pat j)], .agg #[.float .f64 (pat pd), .float .f64 (pat pu)], .agg #[.float .f64 (pat qd), .float .f64 (pat qu)], .bool false] w
      fun e w' => e = .returned (.agg #[.float .f64 (pat (ct i j pd pu qd qu).1), .float .f64 (pat (ct i j pd pu qd qu).2)]) ∧ Below w.heap.size w w' := by
  unfold ct
  by_cases c1 : qd < i
  · rw [if_pos (.inl c1), pat_max, pat_min]
    exact rcut_gt _ _ _ _ _ _ w (by rw [order_pat hi.1 hi.2 h3.1 h3.2, Int.compare_eq_gt.2 c1])
  · by_cases c2 : j < pu
    · rw [if_pos (.inr c2), pat_max, pat_min]
      exact rcut_lt _ _ _ _ _ _ w (not_gt hi h3 c1) (by rw [order_pat hj.1 hj.2 h2.1 h2.2, Int.compare_eq_lt.2 c2])
    · rw [if_neg (by omega)]
      exact rcut_in _ _ _ _ _ _ _ _ w (not_gt hi h3 c1) (not_lt' hj h2 c2) (fun W ts t => run_maxf hi h1 W ts t) (fun W ts t => run_minf hj h4 W ts t)
end Go.Proofs.YthlmlmfebpjgdaaGreatDoor

namespace Go.Proofs.YthlmlmfebpjgdaaGreatDoor
open Ieee
def near (n : Int) (d : Nat) : Int := if n < 0 then -((min (nearRung n.natAbs d) M : Nat) : Int) else (min (nearRung n.natAbs d) M : Nat)
theorem near_natAbs (n : Int) (d : Nat) : (near n d).natAbs = min (nearRung n.natAbs d) M := by unfold near; split <;> omega
theorem near_neg (n : Int) (d : Nat) : near (-n) d = -near n d := by
  unfold near
  rw [Int.natAbs_neg]
  rcases Int.lt_trichotomy n 0 with h | h | h
  · rw [if_neg (by omega), if_pos h]; omega
  · subst h
    have : nearRung 0 d = 0 := Nat.le_zero.1 (nearRung_le (Nat.zero_le _))
    simp [this]
  · rw [if_pos (by omega), if_neg (by omega)]
theorem near_range (n : Int) (d : Nat) : -(M : Int) ≤ near n d ∧ near n d ≤ M := by
  have := near_natAbs n d; omega
theorem val_scale_nat (r d : Nat) : val (r : Int) * 2^d = ((mag r * 2^d : Nat) : Int) := by rw [val_nat]; simp
theorem le_near {i : Int} {n : Int} {d : Nat} (hi : i ≤ M) (h : val i * 2^d ≤ n) : i ≤ near n d := by
  have hp : (0 : Int) < 2^d := by exact_mod_cast Nat.two_pow_pos d
  rcases Int.lt_or_le i 0 with h0 | h0
  · -- below 0
    unfold near
    split
    · obtain ⟨r, rfl⟩ : ∃ r : Nat, i = -(r : Int) := ⟨i.natAbs, by omega⟩
      rw [val_neg, Int.neg_mul, val_scale_nat] at h
      have : nearRung n.natAbs d ≤ r := nearRung_le (by omega)
      omega
    · omega
  · obtain ⟨r, rfl⟩ : ∃ r : Nat, i = (r : Int) := ⟨i.natAbs, by omega⟩
    rw [val_scale_nat] at h
    have h2 : (0 : Int) ≤ n := by omega
    unfold near
    rw [if_neg (by omega)]
    have : r ≤ nearRung n.natAbs d := le_nearRung (by omega)
    omega
theorem near_le {i : Int} {n : Int} {d : Nat} (hi : -(M : Int) ≤ i) (h : n ≤ val i * 2^d) : near n d ≤ i := by
  have := @le_near (-i) (-n) d (by omega) (by rw [val_neg, Int.neg_mul]; omega)
  rw [near_neg] at this
  omega
theorem near_val {i : Int} (h1 : -(M : Int) ≤ i) (h2 : i ≤ M) (d : Nat) : near (val i * 2^d) d = i :=
  Int.le_antisymm (near_le h1 (Int.le_refl _)) (le_near h2 (Int.le_refl _))
theorem near_val_zero {i : Int} (h1 : -(M : Int) ≤ i) (h2 : i ≤ M) : near (val i) 0 = i := by
  have := near_val h1 h2 0
  simpa using this
theorem word_false (r : Nat) : double.word false r = r := rfl
theorem word_true (r : Nat) : double.word true r = 2^63 + r := by unfold Format.word; rw [signWeight_eq]; rfl
theorem word_lt64 (s : Bool) {r : Nat} (h : r < 2^63) : double.word s r < 2^64 := by
  cases s
  · rw [word_false]; omega
  · rw [word_true]; omega
theorem rungOf_word (s : Bool) {r : Nat} (h : r < 2^63) : rungOf (double.word s r) = r := by
  unfold rungOf
  cases s
  · rw [word_false]; omega
  · rw [word_true]; omega
theorem sgn_word (s : Bool) {r : Nat} (h : r < 2^63) : sgn (double.word s r) = s := by
  unfold sgn
  cases s
  · rw [word_false, show r / 2^63 = 0 from by omega]; rfl
  · rw [word_true, show (2^63 + r) / 2^63 = 1 from by omega]; rfl
theorem idx_word (s : Bool) {r : Nat} (h : r < 2^63) : idx (double.word s r) = if s then -(r : Int) else r := by
  unfold idx; rw [sgn_word s h, rungOf_word s h]
theorem M_lt : M < 2^63 := by decide
structure Is (b : Nat) (i : Int) : Prop where
  lt : b < 2^64
  real : real b
  idx : idx b = i
theorem Is.word (s : Bool) {r : Nat} (h : r ≤ M) : Is (double.word s r) (if s then -(r : Int) else r) := by
  have := M_lt
  have h' : r < 2^63 := by omega
  exact ⟨word_lt64 s h', by unfold Proofs.YthlmlmfebpjgdaaGreatDoor.real; rw [rungOf_word s h']; exact h, idx_word s h'⟩
theorem Is.near {s : Bool} {n : Int} {d : Nat} (h : n ≠ 0 → s = decide (n < 0)) : Is (double.word s (min (nearRung n.natAbs d) M)) (near n d) := by
  have h1 := Is.word s (r := min (nearRung n.natAbs d) M) (Nat.min_le_right _ _)
  have e : (if s = true then -((min (nearRung n.natAbs d) M : Nat) : Int) else ((min (nearRung n.natAbs d) M : Nat) : Int)) = Proofs.YthlmlmfebpjgdaaGreatDoor.near n d := by
    unfold Proofs.YthlmlmfebpjgdaaGreatDoor.near
    by_cases h0 : n = 0
    · subst h0
      have : nearRung (0 : Int).natAbs d = 0 := Nat.le_zero.1 (nearRung_le (Nat.zero_le _))
      rw [this]; cases s <;> simp
    · rw [h h0]
      by_cases h2 : n < 0
      · rw [if_pos h2, if_pos (by simpa using h2)]
      · rw [if_neg h2, if_neg (by simpa using h2)]
  rw [e] at h1; exact h1
theorem write_num (s : Bool) (m : Nat) (p : Int) : double.write (.number s m p) = double.nearest s m p := rfl
theorem sum_fin {x y : Nat} {sy : Bool} {m n k l : Nat} (hm : m * 2^k = mag (rungOf x)) (hn : n * 2^l = mag (rungOf y)) :
    ∃ z : Bool, ((Datum.number (sgn x) m (-1074 + (k : Int))).sum (.number sy n (-1074 + (l : Int)))).map double.write
      = some (double.word (if val (idx x) + signed sy (mag (rungOf y)) 0 = 0 then z else decide (val (idx x) + signed sy (mag (rungOf y)) 0 < 0)) (min (nearRung (val (idx x) + signed sy (mag (rungOf y)) 0).natAbs 0) M)) := by
  refine ⟨sgn x && sy, ?_⟩
  have key : ∀ b : Nat, b ≤ k → b ≤ l → double.nearest (if signed (sgn x) m (k - b) + signed sy n (l - b) = 0 then sgn x && sy else decide (signed (sgn x) m (k - b) + signed sy n (l - b) < 0)) (signed (sgn x) m (k - b) + signed sy n (l - b)).natAbs (-1074 + (b : Int)) = double.word (if val (idx x) + signed sy (mag (rungOf y)) 0 = 0 then sgn x && sy else decide (val (idx x) + signed sy (mag (rungOf y)) 0 < 0)) (min (nearRung (val (idx x) + signed sy (mag (rungOf y)) 0).natAbs 0) M) := by
    intro b hk hl
    rw [nearest_high]
    have hp : (0 : Int) < 2^b := by exact_mod_cast Nat.two_pow_pos b
    have e1 : signed (sgn x) m (k - b) * 2^b = val (idx x) := by rw [← signed_split, Nat.sub_add_cancel hk, read_val hm]
    have e2 : signed sy n (l - b) * 2^b = signed sy (mag (rungOf y)) 0 := by
      rw [← signed_split, Nat.sub_add_cancel hl, signed_eq, signed_eq, hn, Nat.pow_zero, Nat.mul_one]
    have e3 : val (idx x) + signed sy (mag (rungOf y)) 0 = (signed (sgn x) m (k - b) + signed sy n (l - b)) * 2^b := by rw [← e1, ← e2, Int.add_mul]
    rw [e3]
    generalize signed (sgn x) m (k - b) + signed sy n (l - b) = t
    have e4 : (t * 2^b).natAbs = t.natAbs * 2^b := by rw [Int.natAbs_mul, Int.natAbs_pow]; rfl
    have e5 : (t * 2^b = 0) ↔ t = 0 := by
      constructor
      · intro h
        rcases Int.mul_eq_zero.1 h with h | h
        · exact h
        · omega
      · rintro rfl; simp
    have e6 : (t * 2^b < 0) ↔ t < 0 := by
      constructor
      · intro h
        rcases Int.lt_or_le t 0 with h2 | h2
        · exact h2
        · have := Int.mul_nonneg h2 (Int.le_of_lt hp); omega
      · intro h; exact Int.mul_neg_of_neg_of_pos h hp
    rw [e4]
    congr 1
    by_cases h0 : t = 0
    · rw [if_pos h0, if_pos (e5.2 h0)]
    · rw [if_neg h0, if_neg (fun h => h0 (e5.1 h))]
      exact decide_eq_decide.2 e6.symm
  simp only [Datum.sum, Option.map_some, write_num]
  congr 1
  rcases Nat.le_total k l with h | h
  · have := key k (Nat.le_refl _) h
    rw [show min (-1074 + (k : Int)) (-1074 + (l : Int)) = -1074 + (k : Int) from by omega, show (-1074 + (k : Int) - (-1074 + (k : Int))).toNat = k - k from by omega, show (-1074 + (l : Int) - (-1074 + (k : Int))).toNat = l - k from by omega]
    rw [← this]
  · have := key l h (Nat.le_refl _)
    rw [show min (-1074 + (k : Int)) (-1074 + (l : Int)) = -1074 + (l : Int) from by omega, show (-1074 + (l : Int) - (-1074 + (l : Int))).toNat = l - l from by omega, show (-1074 + (k : Int) - (-1074 + (l : Int))).toNat = k - l from by omega]
    rw [← this]
theorem add_fin {x y : Nat} (hx : fin x) (hy : fin y) : ∃ r, double.add x y = some r ∧ Is r (near (val (idx x) + val (idx y)) 0) := by
  obtain ⟨m, k, e, hm, _⟩ := read_fin hx
  obtain ⟨n, l, e', hn, _⟩ := read_fin hy
  obtain ⟨z, h⟩ := sum_fin (sy := sgn y) hm hn
  rw [show signed (sgn y) (mag (rungOf y)) 0 = val (idx y) from by rw [signed_eq, val_idx, Nat.pow_zero, Nat.mul_one]] at h
  unfold Format.add
  rw [e, e']
  refine ⟨_, h, Is.near ?_⟩
  intro h0; rw [if_neg h0]
theorem sub_fin {x y : Nat} (hx : fin x) (hy : fin y) : ∃ r, double.sub x y = some r ∧ Is r (near (val (idx x) - val (idx y)) 0) := by
  obtain ⟨m, k, e, hm, _⟩ := read_fin hx
  obtain ⟨n, l, e', hn, _⟩ := read_fin hy
  obtain ⟨z, h⟩ := sum_fin (sy := !sgn y) hm hn
  have e2 : signed (!sgn y) (mag (rungOf y)) 0 = -val (idx y) := by
    rw [signed_eq, val_idx, Nat.pow_zero, Nat.mul_one]
    cases sgn y <;> simp
  rw [e2, ← Int.sub_eq_add_neg] at h
  unfold Format.sub
  rw [e, e']
  refine ⟨_, h, Is.near ?_⟩
  intro h0; rw [if_neg h0]
theorem mul_fin {x y : Nat} (hx : fin x) (hy : fin y) : ∃ r, double.mul x y = some r ∧ Is r (near (val (idx x) * val (idx y)) 1074) := by
  obtain ⟨m, k, e, hm, _⟩ := read_fin hx
  obtain ⟨n, l, e', hn, _⟩ := read_fin hy
  unfold Format.mul
  rw [e, e']
  simp only [Datum.product, Option.map_some, write_num]
  refine ⟨_, rfl, ?_⟩
  rw [show (-1074 + (k : Int) + (-1074 + (l : Int))) = -1074 - ((1074 : Nat) : Int) + ((k + l : Nat) : Int) from by omega, nearest_shift, nearest_low]
  have e1 : (val (idx x) * val (idx y)).natAbs = m * n * 2^(k + l) := by
    rw [Int.natAbs_mul, val_natAbs, val_natAbs, idx_natAbs, idx_natAbs, ← hm, ← hn, Nat.pow_add]
    rw [Nat.mul_assoc, Nat.mul_assoc, Nat.mul_left_comm (2^k)]
  rw [← e1]
  refine Is.near ?_
  intro h0
  rw [val_idx, val_idx] at h0 ⊢
  generalize mag (rungOf x) = a at h0 ⊢
  generalize mag (rungOf y) = b at h0 ⊢
  have hab : (0 : Int) ≤ (a : Int) * (b : Int) := Int.mul_nonneg (by omega) (by omega)
  cases sgn x <;> cases sgn y <;> simp [Int.neg_mul, Int.mul_neg] at h0 ⊢
  · exact hab
  · have : (0 : Int) < (a : Int) * (b : Int) := Int.mul_pos (by omega) (by omega)
    omega
  · have : (0 : Int) < (a : Int) * (b : Int) := Int.mul_pos (by omega) (by omega)
    omega
  · exact hab
end Go.Proofs.YthlmlmfebpjgdaaGreatDoor
