/-
Naturals as lists of words: order, single words, bits, and what the loops of sums, differences, products and shifts keep.
What the loops of sums, differences, products, shifts and quotients keep.
Ratios of naturals, as rational numbers; ratios in memory.
Walks: package vergeref2, words.
Walks: package vergeref2, Norm.
Walks: package vergeref2, Cmp.
Walks: package vergeref2, Len, Bit.
Walks: package vergeref2, Zeros.
Walks: package vergeref2, Left.
-/
import Derived.Test.YtmjkmoahkanblaaGreatM01
import Derived.BigQuiet
import Derived.Deep.QuietTactic
import Derived.Outline
import Derived.Deep.Draws
set_option linter.unusedSimpArgs false
set_option linter.unusedVariables false

namespace Go.Proofs.YtmjkmoahkanblaaGreat

/-- How two naturals stand: -1, 0, 1. -/
def cmp3 (a b : Nat) : Int := if a < b then -1 else if b < a then 1 else 0
theorem cmp3_lt {a b : Nat} (h : a < b) : cmp3 a b = -1 := if_pos h
theorem cmp3_gt {a b : Nat} (h : b < a) : cmp3 a b = 1 := by unfold cmp3; rw [if_neg (by omega), if_pos h]
theorem cmp3_eq {a b : Nat} (h : a = b) : cmp3 a b = 0 := by unfold cmp3; rw [if_neg (by omega), if_neg (by omega)]
theorem cmp3_range (a b : Nat) : -1 ≤ cmp3 a b ∧ cmp3 a b ≤ 1 := by unfold cmp3; split <;> (try split) <;> omega
theorem cmp3_nonneg {a b : Nat} : 0 ≤ cmp3 a b ↔ b ≤ a := by unfold cmp3; split <;> (try split) <;> omega
theorem cmp3_neg {a b : Nat} : cmp3 a b < 0 ↔ a < b := by unfold cmp3; split <;> (try split) <;> omega
theorem cmp3_zero {a b : Nat} : cmp3 a b = 0 ↔ a = b := by unfold cmp3; split <;> (try split) <;> omega
theorem cmp3_pos {a b : Nat} : 0 < cmp3 a b ↔ b < a := by unfold cmp3; split <;> (try split) <;> omega

theorem num_tail (l : List Nat) : num l = l[0]?.getD 0 + 2^32 * num l.tail := by
  cases l with
  | nil => rfl
  | cons x l => rfl
theorem tail_get (l : List Nat) (i : Nat) : l.tail[i]? = l[i + 1]? := by cases l <;> rfl
theorem W32.tail' {l : List Nat} (h : W32 l) : W32 l.tail := by cases l; exact h; exact h.tail

theorem num_ext {l m : List Nat} (h : ∀ j : Nat, l[j]?.getD 0 = m[j]?.getD 0) : num l = num m := by
  induction l generalizing m with
  | nil =>
    induction m with
    | nil => rfl
    | cons y m ih =>
      have h0 := h 0
      simp at h0
      rw [num_cons, ← h0, ← ih (fun j => by simpa using h (j + 1))]; rfl
  | cons x l ih =>
    rw [num_cons, num_tail m, ← h 0, ih (m := m.tail) (fun j => by rw [tail_get]; simpa using h (j + 1))]; rfl

theorem num_lt_of {l m : List Nat} (hl : W32 l) (i : Nat) (h : ∀ j : Nat, i < j → l[j]?.getD 0 = m[j]?.getD 0) (hi : l[i]?.getD 0 < m[i]?.getD 0) : num l < num m := by
  induction i generalizing l m with
  | zero =>
    have e : num l.tail = num m.tail := num_ext fun j => by rw [tail_get, tail_get]; exact h (j + 1) (by omega)
    rw [num_tail l, num_tail m, e]; omega
  | succ i ih =>
    have := ih hl.tail' (m := m.tail) (fun j hj => by rw [tail_get, tail_get]; exact h (j + 1) (by omega)) (by rw [tail_get, tail_get]; exact hi)
    rw [num_tail l, num_tail m]
    have := hl.get 0
    omega

theorem num_lt_of_wlen {l m : List Nat} (hl : W32 l) (h : wlen l < wlen m) : num l < num m := by
  have h1 := num_lt_wlen hl
  have h2 := le_num_wlen (l := m) (by omega)
  have := Nat.pow_le_pow_right (n := 2) (by omega) (show 32 * wlen l ≤ 32 * (wlen m - 1) by omega)
  omega

/-- One word of it. -/
theorem num_word {l : List Nat} (h : W32 l) (q : Nat) : num l / 2^(32 * q) % 2^32 = l[q]?.getD 0 := by
  induction q generalizing l with
  | zero =>
    have := h.get 0
    rw [num_tail l]; simp; omega
  | succ q ih =>
    have h0 := h.get 0
    rw [← tail_get, ← ih h.tail', pow32, ← Nat.div_div_eq_div_mul]
    congr 2
    rw [num_tail l]; omega

theorem num_drop {l : List Nat} (h : W32 l) (q : Nat) : num (l.drop q) = num l / 2^(32 * q) := by
  induction q generalizing l with
  | zero => simp
  | succ q ih =>
    have h0 := h.get 0
    rw [show l.drop (q + 1) = l.tail.drop q from by cases l <;> simp, ih h.tail', pow32, ← Nat.div_div_eq_div_mul]
    congr 1
    rw [num_tail l]; omega

theorem num_take_next (l : List Nat) (k : Nat) : num (l.take (k + 1)) = num (l.take k) + 2^(32 * k) * l[k]?.getD 0 := by
  rcases Nat.lt_or_ge k l.length with h | h
  · exact num_take_succ l k h
  · rw [List.take_of_length_le (by omega), List.take_of_length_le h, List.getElem?_eq_none h]; rfl

theorem num_take_all {l : List Nat} {n : Nat} (h : wlen l ≤ n) : num (l.take n) = num l := by
  have hs := wlen_spec l
  refine num_ext fun j => ?_
  rcases Nat.lt_or_ge j n with h1 | h1
  · rw [List.getElem?_take_of_lt h1]
  · rw [hs.1 j (by omega), List.getElem?_eq_none (by rw [List.length_take]; omega)]; rfl

theorem num_snoc (l : List Nat) (x : Nat) : num (l ++ [x]) = num l + 2^(32 * l.length) * x := by
  rw [num_append]; simp [num]

theorem num_take_mod {l : List Nat} (h : W32 l) (k : Nat) : num (l.take k) = num l % 2^(32 * k) := by
  induction k generalizing l with
  | zero => simp [num, Nat.mod_one]
  | succ k ih =>
    cases l with
    | nil => simp [num]
    | cons x l =>
      rw [List.take_succ_cons, num_cons, num_cons, ih h.tail, pow32]
      have := h.head
      have e : (x + 2^32 * num l) % (2^32 * 2^(32 * k)) = x + 2^32 * (num l % 2^(32 * k)) := by
        rw [Nat.mod_mul]
        rw [show (x + 2^32 * num l) % 2^32 = x from by omega, show (x + 2^32 * num l) / 2^32 = num l from by omega]
      rw [e]

/-! ### Length, bits -/

def blen (n : Nat) : Nat := if n = 0 then 0 else n.log2 + 1
theorem blen_zero : blen 0 = 0 := rfl
theorem blen_pos {n : Nat} (h : n ≠ 0) : blen n = n.log2 + 1 := if_neg h
theorem blen_half {n : Nat} (h : 0 < n) : blen n = blen (n / 2) + 1 := by
  rw [blen_pos (by omega)]
  by_cases h1 : n / 2 = 0
  · have : n = 1 := by omega
    subst this; rfl
  · rw [blen_pos h1]
    have h2 : 1 ≤ n.log2 := (Nat.le_log2 (by omega)).2 (by omega)
    have h3 := Nat.log2_self_le (n := n) (by omega)
    have h4 : n < 2^(n.log2 + 1) := Nat.lt_log2_self
    have : (n / 2).log2 = n.log2 - 1 := by
      obtain ⟨k, hk⟩ : ∃ k, n.log2 = k + 1 := ⟨n.log2 - 1, by omega⟩
      rw [hk] at h3 h4 ⊢
      rw [Nat.pow_succ] at h3 h4
      exact (Nat.log2_eq_iff h1).2 ⟨by rw [Nat.add_sub_cancel]; omega, by rw [Nat.add_sub_cancel]; omega⟩
    omega
theorem lt_pow_blen (n : Nat) : n < 2^blen n := by
  unfold blen; split
  · omega
  · exact Nat.lt_log2_self
theorem pow_blen_le {n : Nat} (h : 0 < n) : 2^(blen n - 1) ≤ n := by
  rw [blen_pos (by omega)]; exact Nat.log2_self_le (by omega)
theorem blen_le_iff {n k : Nat} : blen n ≤ k ↔ n < 2^k := by
  constructor
  · intro h; exact Nat.lt_of_lt_of_le (lt_pow_blen n) (Nat.pow_le_pow_right (by omega) h)
  · intro h
    by_cases h0 : n = 0
    · subst h0; simp [blen]
    · rw [blen_pos h0]; exact (Nat.log2_lt h0).2 h
theorem blen_eq_zero {n : Nat} : blen n = 0 ↔ n = 0 := by
  constructor
  · intro h; have := lt_pow_blen n; rw [h] at this; omega
  · rintro rfl; rfl
theorem blen_high {hi lo k : Nat} (h : 0 < hi) (hlo : lo < 2^k) : blen (lo + 2^k * hi) = k + blen hi := by
  have h1 := pow_blen_le h
  have h2 := lt_pow_blen hi
  have hb : 0 < blen hi := by have := @blen_eq_zero hi; omega
  have hp := Nat.two_pow_pos k
  refine Nat.le_antisymm (blen_le_iff.2 ?_) ?_
  · rw [Nat.pow_add]
    have : 2^k * (hi + 1) ≤ 2^k * 2^blen hi := Nat.mul_le_mul_left _ (by omega)
    rw [Nat.mul_add] at this; omega
  · rcases Nat.lt_or_ge (blen (lo + 2^k * hi)) (k + blen hi) with h3 | h3
    · exfalso
      have h4 : lo + 2^k * hi < 2^(k + (blen hi - 1)) := blen_le_iff.1 (by omega)
      rw [Nat.pow_add] at h4
      have : 2^k * 2^(blen hi - 1) ≤ 2^k * hi := Nat.mul_le_mul_left _ h1
      omega
    · exact h3

theorem blen_num {l : List Nat} (h : W32 l) (h0 : 0 < wlen l) : blen (num l) = 32 * (wlen l - 1) + blen (l[wlen l - 1]?.getD 0) := by
  have hs := (wlen_spec l).2
  have h1 := num_take_succ l (wlen l - 1) (by have := wlen_le l; omega)
  rw [Nat.sub_add_cancel h0, ← trim_eq_take, num_trim] at h1
  rw [h1, blen_high (by omega)]
  have := num_lt (h.take (wlen l - 1))
  rw [List.length_take, Nat.min_eq_left (by have := wlen_le l; omega)] at this
  exact this

theorem num_bit {l : List Nat} (h : W32 l) (i : Nat) : num l / 2^i % 2 = l[i / 32]?.getD 0 / 2^(i % 32) % 2 := by
  rw [← num_word h]
  have e : 2^i = 2^(32 * (i / 32)) * 2^(i % 32) := by rw [← Nat.pow_add]; congr 1; omega
  rw [e, ← Nat.div_div_eq_div_mul]
  generalize num l / 2^(32 * (i / 32)) = x
  have hr : i % 32 < 32 := Nat.mod_lt _ (by omega)
  generalize i % 32 = r at *
  have e2 : 2^32 = 2^r * (2 * 2^(31 - r)) := by
    rw [← Nat.mul_assoc, Nat.mul_comm (2^r) 2, Nat.mul_assoc, ← Nat.pow_add, show r + (31 - r) = 31 from by omega]
  rw [e2, Nat.mod_mul_right_div_self, Nat.mod_mul_right_mod]

/-! ### What the loops keep -/

/-- A sum, one word on. -/
theorem plus_step {p S a b x c c' A B : Nat} (h : S + p * c = A + B) (hx : x + 4294967296 * c' = c + a + b) :
    S + p * x + 4294967296 * p * c' = A + p * a + (B + p * b) := by
  have : p * (x + 4294967296 * c') = p * (c + a + b) := by rw [hx]
  rw [Nat.mul_add, Nat.mul_add, Nat.mul_add] at this
  rw [Nat.mul_comm 4294967296 p, Nat.mul_assoc]
  omega

/-- A difference, one word on. -/
theorem minus_step {p S a b x c c' A B : Nat} (h : S + B = A + p * c) (hx : x + b + c = a + 4294967296 * c') :
    S + p * x + (B + p * b) = A + p * a + 4294967296 * p * c' := by
  have : p * (x + b + c) = p * (a + 4294967296 * c') := by rw [hx]
  rw [Nat.mul_add, Nat.mul_add, Nat.mul_add] at this
  rw [Nat.mul_comm 4294967296 p, Nat.mul_assoc]
  omega

end Go.Proofs.YtmjkmoahkanblaaGreat

namespace Go.Proofs.YtmjkmoahkanblaaGreat

/-! ### Plus -/

def PlusInv (xs ys ls : List Nat) (i c : Nat) : Prop := W32 ls ∧ ls.length = i ∧ c ≤ 1 ∧ num ls + 2^(32 * i) * c = num (xs.take i) + num (ys.take i)

theorem PlusInv.start (xs ys : List Nat) : PlusInv xs ys [] 0 0 := ⟨W32.nil, rfl, by omega, by simp [num]⟩
theorem PlusInv.carry {xs ys ls : List Nat} {i c : Nat} (h : PlusInv xs ys ls i c) : c ≤ 1 := h.2.2.1
theorem PlusInv.len {xs ys ls : List Nat} {i c : Nat} (h : PlusInv xs ys ls i c) : ls.length = i := h.2.1
theorem PlusInv.step {xs ys ls : List Nat} {i c t : Nat} (h : PlusInv xs ys ls i c) (hx : W32 xs) (hy : W32 ys) (ht : t = c + xs[i]?.getD 0 + ys[i]?.getD 0) :
    PlusInv xs ys (ls ++ [t % 4294967296]) (i + 1) (t / 4294967296) := by
  obtain ⟨hw, hl, hc, hs⟩ := h
  have h1 := hx.get i
  have h2 := hy.get i
  refine ⟨hw.append (W32.cons (by omega) W32.nil), by simp [hl], by omega, ?_⟩
  rw [num_snoc, hl, num_take_next, num_take_next, pow32]
  exact plus_step hs (by omega)
theorem PlusInv.done {xs ys ls : List Nat} {i c : Nat} (h : PlusInv xs ys ls i c) (hx : xs.length ≤ i) (hy : ys.length ≤ i) :
    trim (ls ++ [c]) = digs (num xs + num ys) ∧ W32 (ls ++ [c]) := by
  obtain ⟨hw, hl, hc, hs⟩ := h
  have hw' : W32 (ls ++ [c]) := hw.append (W32.cons (by omega) W32.nil)
  refine ⟨?_, hw'⟩
  rw [trim_eq_digs hw', num_snoc, hl, hs, List.take_of_length_le hx, List.take_of_length_le hy]

/-! ### Minus -/

def MinusInv (xs ys ls : List Nat) (i c : Nat) : Prop := W32 ls ∧ ls.length = i ∧ c ≤ 1 ∧ num ls + num (ys.take i) = num (xs.take i) + 2^(32 * i) * c

theorem MinusInv.start (xs ys : List Nat) : MinusInv xs ys [] 0 0 := ⟨W32.nil, rfl, by omega, by simp [num]⟩
theorem MinusInv.carry {xs ys ls : List Nat} {i c : Nat} (h : MinusInv xs ys ls i c) : c ≤ 1 := h.2.2.1
theorem MinusInv.len {xs ys ls : List Nat} {i c : Nat} (h : MinusInv xs ys ls i c) : ls.length = i := h.2.1
theorem MinusInv.step {xs ys ls : List Nat} {i c d c' : Nat} (h : MinusInv xs ys ls i c) (hd : d < 4294967296) (hc' : c' ≤ 1)
    (ht : d + ys[i]?.getD 0 + c = xs[i]?.getD 0 + 4294967296 * c') : MinusInv xs ys (ls ++ [d]) (i + 1) c' := by
  obtain ⟨hw, hl, hc, hs⟩ := h
  refine ⟨hw.append (W32.cons hd W32.nil), by simp [hl], hc', ?_⟩
  rw [num_snoc, hl, num_take_next, num_take_next, pow32]
  exact minus_step hs ht
theorem MinusInv.done {xs ys ls : List Nat} {i c : Nat} (h : MinusInv xs ys ls i c) (hx : xs.length = i) (hxw : W32 xs) (hyw : W32 ys) (hle : num ys ≤ num xs) :
    num ls = num xs - num ys := by
  obtain ⟨hw, hl, hc, hs⟩ := h
  have h1 := num_lt hw
  have h2 := num_lt hxw
  rw [hl] at h1
  rw [hx] at h2
  have h3 : num (ys.take i) = num ys := by
    rw [num_take_mod hyw]; exact Nat.mod_eq_of_lt (Nat.lt_of_le_of_lt hle h2)
  rw [h3, List.take_of_length_le (by omega)] at hs
  rcases Nat.eq_zero_or_pos c with h0 | h0
  · subst h0; omega
  · obtain rfl : c = 1 := by omega
    omega

/-! ### Times -/

/-- After j words of ys: their product with the first n words of xs (all that count) stands in ls. -/
def TimesOut (xs ys ls : List Nat) (n m j : Nat) : Prop := W32 ls ∧ ls.length = n + m ∧ (∀ k : Nat, n + j ≤ k → ls[k]?.getD 0 = 0) ∧ num ls = num xs * num (ys.take j)

theorem TimesOut.start (xs ys : List Nat) (n m : Nat) : TimesOut xs ys (List.replicate (n + m) 0) n m 0 :=
  ⟨W32.replicate _, by simp, fun k _ => by rw [List.getElem?_replicate]; split <;> rfl, by simp [num_replicate, num]⟩
theorem TimesOut.skip {xs ys ls : List Nat} {n m j : Nat} (h : TimesOut xs ys ls n m j) (h0 : ys[j]?.getD 0 = 0) : TimesOut xs ys ls n m (j + 1) := by
  obtain ⟨a, b, c, d⟩ := h
  refine ⟨a, b, fun k hk => c k (by omega), ?_⟩
  rw [num_take_next, h0, d]; simp
/-- Within it: after i words of xs. -/
def TimesIn (xs ls l0 : List Nat) (n m j i y c : Nat) : Prop :=
  W32 ls ∧ ls.length = n + m ∧ (∀ k : Nat, n + j ≤ k → ls[k]?.getD 0 = 0) ∧ c < 4294967296 ∧ num ls + 2^(32 * (i + j)) * c = num l0 + 2^(32 * j) * (num (xs.take i) * y)
theorem TimesIn.start {xs ys ls : List Nat} {n m j : Nat} (y : Nat) (h : TimesOut xs ys ls n m j) : TimesIn xs ls ls n m j 0 y 0 := by
  obtain ⟨a, b, c, _⟩ := h
  exact ⟨a, b, c, by omega, by simp [num]⟩
theorem TimesIn.step {xs ls l0 : List Nat} {n m j i y c t : Nat} (h : TimesIn xs ls l0 n m j i y c) (hi : i < n) (hj : j < m) (hx : W32 xs) (hy : y < 4294967296)
    (ht : t = c + ls[i + j]?.getD 0 + xs[i]?.getD 0 * y) : TimesIn xs (ls.set (i + j) (t % 4294967296)) l0 n m j (i + 1) y (t / 4294967296) := by
  obtain ⟨hw, hl, hz, hc, hs⟩ := h
  have h1 := hw.get (i + j)
  have h2 := hx.get i
  have h3 : xs[i]?.getD 0 * y ≤ 4294967295 * 4294967295 := Nat.mul_le_mul (by omega) (by omega)
  refine ⟨hw.set _ (by omega), by simp [hl], fun k hk => ?_, by omega, ?_⟩
  · rw [List.getElem?_set_ne (by omega)]; exact hz k hk
  · have e1 := num_set ls (i + j) (t % 4294967296) (by omega)
    rw [num_take_next, show 32 * (i + 1 + j) = 32 * (i + j + 1) from by omega, pow32]
    rw [Nat.add_mul, Nat.mul_add (2^(32 * j)), ← Nat.add_assoc, ← hs]
    have e2 : 2^(32 * j) * (2^(32 * i) * xs[i]?.getD 0 * y) = 2^(32 * (i + j)) * (xs[i]?.getD 0 * y) := by
      rw [Nat.mul_assoc, ← Nat.mul_assoc (2^(32 * j)), ← Nat.pow_add]; congr 2; omega
    rw [e2]
    generalize xs[i]?.getD 0 * y = z at *
    have e3 : t % 4294967296 + 4294967296 * (t / 4294967296) = t := by omega
    generalize 2^(32 * (i + j)) = p at *
    generalize ls[i + j]?.getD 0 = u at *
    have e4 : p * (t % 4294967296) + 2^32 * p * (t / 4294967296) = p * t := by
      rw [Nat.mul_comm (2^32) p, Nat.mul_assoc, ← Nat.mul_add]; rw [e3]
    have e5 : p * t = p * c + p * u + p * z := by rw [ht, Nat.mul_add, Nat.mul_add]
    omega
theorem TimesIn.done {xs ys ls l0 : List Nat} {n m j y c : Nat} (h : TimesIn xs ls l0 n m j n y c) (h0 : TimesOut xs ys l0 n m j) (hj : j < m) (hn : wlen xs ≤ n) (hy : ys[j]?.getD 0 = y) :
    TimesOut xs ys (ls.set (j + n) c) n m (j + 1) := by
  obtain ⟨hw, hl, hz, hc, hs⟩ := h
  obtain ⟨_, _, _, hs0⟩ := h0
  refine ⟨hw.set _ hc, by simp [hl], fun k hk => ?_, ?_⟩
  · rw [List.getElem?_set_ne (by omega)]; exact hz k (by omega)
  · have e1 := num_set ls (j + n) c (by omega)
    rw [hz (j + n) (by omega)] at e1
    rw [num_take_next, hy, Nat.mul_add, ← hs0]
    rw [num_take_all hn, Nat.add_comm n j] at hs
    rw [Nat.mul_zero, Nat.add_zero] at e1
    rw [e1, hs, Nat.mul_left_comm]
theorem TimesOut.done {xs ys ls : List Nat} {n m : Nat} (h : TimesOut xs ys ls n m m) (hm : wlen ys ≤ m) : num ls = num xs * num ys := by
  rw [h.2.2.2, num_take_all hm]

/-! ### Left -/

/-- After i words: q whole words and s bits up. -/
def LeftInv (xs ls : List Nat) (n q s i : Nat) : Prop :=
  W32 ls ∧ ls.length = q + n + 1 ∧ (∀ k : Nat, q + i < k → ls[k]?.getD 0 = 0) ∧ ls[q + i]?.getD 0 < 2^s ∧ num ls = num (xs.take i) * 2^(32 * q + s)
theorem LeftInv.start (xs : List Nat) (n q s : Nat) : LeftInv xs (List.replicate (q + n + 1) 0) n q s 0 :=
  ⟨W32.replicate _, by simp, fun k _ => by rw [List.getElem?_replicate]; split <;> rfl, by
    rw [List.getElem?_replicate]; have := Nat.two_pow_pos s; split <;> simpa using this, by simp [num_replicate, num]⟩
theorem LeftInv.step {xs ls : List Nat} {n q s i v : Nat} (h : LeftInv xs ls n q s i) (hi : i < n) (hs : s < 32) (hx : W32 xs) (hv : v = xs[i]?.getD 0 * 2^s) :
    LeftInv xs ((ls.set (q + i) (ls[q + i]?.getD 0 + v % 4294967296)).set (q + i + 1) (v / 4294967296)) n q s (i + 1) ∧ ls[q + i]?.getD 0 + v % 4294967296 < 4294967296 ∧ v / 4294967296 < 4294967296 := by
  obtain ⟨hw, hl, hz, hc, hn⟩ := h
  have h1 := hx.get i
  have hp := Nat.two_pow_pos s
  have h2s : 2^s ≤ 2^31 := Nat.pow_le_pow_right (by omega) (by omega)
  have hv1 : v < 4294967296 * 2^s := by rw [hv]; exact Nat.mul_lt_mul_of_pos_right (by omega) hp
  have hv2 : v / 4294967296 < 2^s := Nat.div_lt_of_lt_mul hv1
  -- the low part of v is a multiple of 2^s
  have hlow : ls[q + i]?.getD 0 + v % 4294967296 < 4294967296 := by
    have e : (4294967296 : Nat) = 2^s * 2^(32 - s) := by rw [← Nat.pow_add, show s + (32 - s) = 32 from by omega]
    have : v % 4294967296 = 2^s * (xs[i]?.getD 0 % 2^(32 - s)) := by
      rw [hv, e, Nat.mul_comm, Nat.mul_mod_mul_left]
    rw [this]
    have h3 : xs[i]?.getD 0 % 2^(32 - s) < 2^(32 - s) := Nat.mod_lt _ (Nat.two_pow_pos _)
    have h4 : 2^s * (xs[i]?.getD 0 % 2^(32 - s) + 1) ≤ 2^s * 2^(32 - s) := Nat.mul_le_mul_left _ h3
    rw [← e, Nat.mul_add] at h4
    omega
  refine ⟨⟨(hw.set _ hlow).set _ (by omega), by simp [hl], fun k hk => ?_, ?_, ?_⟩, hlow, by omega⟩
  · rw [List.getElem?_set_ne (by omega), List.getElem?_set_ne (by omega)]; exact hz k (by omega)
  · rw [show q + (i + 1) = q + i + 1 from by omega, List.getElem?_set_self (by rw [List.length_set]; omega)]; exact hv2
  · have e1 := num_set ls (q + i) (ls[q + i]?.getD 0 + v % 4294967296) (by omega)
    have e2 := num_set (ls.set (q + i) (ls[q + i]?.getD 0 + v % 4294967296)) (q + i + 1) (v / 4294967296) (by simp; omega)
    rw [List.getElem?_set_ne (by omega), hz (q + i + 1) (by omega), Nat.mul_zero, Nat.add_zero, pow32, Nat.mul_comm (2^32), Nat.mul_assoc] at e2
    rw [num_take_next, Nat.add_mul, ← hn]
    have e3 : 2^(32 * i) * xs[i]?.getD 0 * 2^(32 * q + s) = 2^(32 * (q + i)) * v := by
      rw [hv, Nat.mul_assoc, Nat.pow_add, Nat.mul_left_comm (xs[i]?.getD 0), ← Nat.mul_assoc, ← Nat.pow_add]
      congr 2; omega
    rw [e3]
    rw [Nat.mul_add (2^(32 * (q + i)))] at e1
    have e4 : 2^(32 * (q + i)) * (v % 4294967296) + 2^(32 * (q + i)) * (2^32 * (v / 4294967296)) = 2^(32 * (q + i)) * v := by
      rw [← Nat.mul_add]; congr 1; omega
    generalize 2^(32 * (q + i)) * (2^32 * (v / 4294967296)) = z1 at *
    generalize 2^(32 * (q + i)) * (v % 4294967296) = z2 at *
    generalize 2^(32 * (q + i)) * v = z3 at *
    generalize 2^(32 * (q + i)) * ls[q + i]?.getD 0 = z4 at *
    omega
theorem LeftInv.done {xs ls : List Nat} {n q s : Nat} (h : LeftInv xs ls n q s n) (hn : wlen xs ≤ n) : num ls = num xs * 2^(32 * q + s) := by
  rw [h.2.2.2.2, num_take_all hn]

/-! ### Right -/

def RightInv (xs ls : List Nat) (q s t : Nat) : Prop := W32 ls ∧ ls.length = t ∧ num ls = num xs / 2^(32 * q + s) % 2^(32 * t)
theorem RightInv.start (xs : List Nat) (q s : Nat) : RightInv xs [] q s 0 := ⟨W32.nil, rfl, by simp [num, Nat.mod_one]⟩
theorem RightInv.step {xs ls : List Nat} {q s t v : Nat} (h : RightInv xs ls q s t) (hx : W32 xs) (hs : s < 32) (hv : v = xs[q + t]?.getD 0 + 4294967296 * xs[q + t + 1]?.getD 0) :
    RightInv xs (ls ++ [v / 2^s % 4294967296]) q s (t + 1) := by
  obtain ⟨hw, hl, hn⟩ := h
  refine ⟨hw.append (W32.cons (by omega) W32.nil), by simp [hl], ?_⟩
  rw [num_snoc, hl, hn, show 32 * (t + 1) = 32 * t + 32 from by omega, Nat.pow_add 2 (32 * t), Nat.mod_mul]
  congr 2
  rw [Nat.div_div_eq_div_mul, ← Nat.pow_add, show 32 * q + s + 32 * t = 32 * (q + t) + s from by omega, Nat.pow_add 2 (32 * (q + t)), ← Nat.div_div_eq_div_mul, ← num_drop hx]
  have e : v = num (xs.drop (q + t)) % 18446744073709551616 := by
    have h0 := hx.get (q + t)
    have h1 := hx.get (q + t + 1)
    have g0 : (xs.drop (q + t))[0]?.getD 0 = xs[q + t]?.getD 0 := by rw [List.getElem?_drop]; rfl
    have g1 : (xs.drop (q + t)).tail[0]?.getD 0 = xs[q + t + 1]?.getD 0 := by rw [tail_get, List.getElem?_drop, Nat.add_assoc]
    rw [num_tail (xs.drop (q + t)), num_tail (xs.drop (q + t)).tail, g0, g1]
    omega
  rw [e]
  generalize num (xs.drop (q + t)) = D
  -- the low 64 bits are enough
  have e2 : (18446744073709551616 : Nat) = 2^s * (2^32 * 2^(32 - s)) := by rw [← Nat.pow_add, ← Nat.pow_add, show s + (32 + (32 - s)) = 64 from by omega]
  rw [e2, Nat.mod_mul_right_div_self, show (4294967296 : Nat) = 2^32 from rfl, Nat.mod_mul_right_mod]
theorem RightInv.done {xs ls : List Nat} {q s t : Nat} (h : RightInv xs ls q s t) (hx : W32 xs) (hq : wlen xs ≤ q + t) : num ls = num xs / 2^(32 * q + s) := by
  rw [h.2.2]
  refine Nat.mod_eq_of_lt ?_
  rw [Nat.div_lt_iff_lt_mul (Nat.two_pow_pos _), ← Nat.pow_add]
  exact Nat.lt_of_lt_of_le (num_lt_wlen hx) (Nat.pow_le_pow_right (by omega) (by omega))

end Go.Proofs.YtmjkmoahkanblaaGreat

namespace Go.Proofs.YtmjkmoahkanblaaGreat
open Go.RowKit

/-! ### Plain -/

/-- The rational number of a sign and two naturals. -/
def rv (neg : Bool) (p q : Nat) : Rat := (if neg then -(p : Rat) else (p : Rat)) / (q : Rat)

theorem cast_pos {q : Nat} (h : 0 < q) : (0 : Rat) < (q : Rat) := Rat.natCast_pos.2 h
theorem cast_ne {q : Nat} (h : 0 < q) : (q : Rat) ≠ 0 := by have := cast_pos h; grind
theorem two_pow_pos_rat (k : Nat) : (0 : Rat) < (2 : Rat)^k := by
  have := cast_pos (Nat.two_pow_pos k)
  rw [Rat.natCast_pow] at this; exact this
theorem two_ne : (2 : Rat) ≠ 0 := by decide
theorem zpow_pos (e : Int) : (0 : Rat) < (2 : Rat)^e := Rat.zpow_pos (by decide)
theorem zpow_ne (e : Int) : (2 : Rat)^e ≠ 0 := by have := zpow_pos e; grind
theorem zpow_add (a b : Int) : (2 : Rat)^(a + b) = 2^a * 2^b := Rat.zpow_add two_ne a b
theorem zpow_nat (k : Nat) : (2 : Rat)^(k : Int) = ((2^k : Nat) : Rat) := by rw [Rat.zpow_natCast, Rat.natCast_pow]; rfl
theorem zpow_split (e : Int) : (2 : Rat)^e * ((2^(-e).toNat : Nat) : Rat) = ((2^e.toNat : Nat) : Rat) := by
  rw [← zpow_nat, ← zpow_nat, ← zpow_add]
  congr 1; omega

theorem eq_div {a b c : Rat} (hc : c ≠ 0) (h : a * c = b) : a = b / c := by rw [← h, Rat.mul_div_cancel hc]
theorem div_eq {a b c : Rat} (hc : c ≠ 0) (h : a = b * c) : a / c = b := by rw [h, Rat.mul_div_cancel hc]

/-- Two fractions are one, if their cross products are. -/
theorem rv_eq {neg : Bool} {p q p' q' : Nat} (hq : 0 < q) (hq' : 0 < q') (h : p * q' = p' * q) : rv neg p q = rv neg p' q' := by
  have h1 : (p : Rat) * (q' : Rat) = (p' : Rat) * (q : Rat) := by rw [← Rat.natCast_mul, h, Rat.natCast_mul]
  unfold rv
  refine eq_div (cast_ne hq') ?_
  rw [Rat.div_def]
  have := Rat.mul_inv_cancel _ (cast_ne hq)
  cases neg <;> simp <;> grind
theorem rv_zero (neg : Bool) (q : Nat) : rv neg 0 q = 0 := by unfold rv; cases neg <;> simp [Rat.div_def]
theorem rv_scale (neg : Bool) {p q : Nat} (hq : 0 < q) (e : Int) : rv neg (p * 2^e.toNat) (q * 2^(-e).toNat) = rv neg p q * 2^e := by
  have h0 := cast_ne hq
  have h1 := cast_ne (Nat.two_pow_pos (-e).toNat)
  have h2 := zpow_split e
  have h3 := cast_ne (Nat.mul_pos hq (Nat.two_pow_pos (-e).toNat))
  unfold rv
  refine div_eq h3 ?_
  rw [Rat.natCast_mul, Rat.natCast_mul, Rat.div_def, ← h2]
  have := Rat.mul_inv_cancel _ h0
  cases neg <;> simp <;> grind

/-- The number of trailing noughts is the one. -/
theorem odd_part {a k : Nat} (h : a % 2^k = 0) : a / 2^k * 2^k = a := by
  have := Nat.div_add_mod a (2^k)
  rw [Nat.mul_comm]; omega

/-! ### In memory -/

/-- The cells neg, vn, vd are a ratio in its form: x; its naturals have at most K words. -/
def RatV (w : World) (K : Nat) (neg : Bool) (vn vd : Value) (x : Rat) : Prop :=
  ∃ (p q : Nat) (A : Option Addr) (n c : Nat) (B : Option Addr) (m d : Nat), vn = .slice A n c ∧ vd = .slice B m d ∧ U32s w A n c (digs p) ∧ U32s w B m d (digs q) ∧
    0 < q ∧ (p = 0 → neg = false) ∧ p < 2^(32 * K) ∧ q < 2^(32 * K) ∧ x = rv neg p q

theorem RatV.below {w w' : World} {K : Nat} {neg : Bool} {vn vd : Value} {x : Rat} (h : RatV w K neg vn vd x) (hb : Below w.heap.size w w') : RatV w' K neg vn vd x := by
  obtain ⟨p, q, A, n, c, B, m, d, h1, h2, h3, h4, h5⟩ := h
  exact ⟨p, q, A, n, c, B, m, d, h1, h2, h3.below hb, h4.below hb, h5⟩
theorem RatV.shape {w : World} {K : Nat} {neg : Bool} {vn vd : Value} {x : Rat} (h : RatV w K neg vn vd x) : ∃ (A : Option Addr) (n c : Nat) (B : Option Addr) (m d : Nat), vn = .slice A n c ∧ vd = .slice B m d := by
  obtain ⟨p, q, A, n, c, B, m, d, h1, h2, -⟩ := h
  exact ⟨A, n, c, B, m, d, h1, h2⟩
theorem RatV.mono {w : World} {K K' : Nat} {neg : Bool} {vn vd : Value} {x : Rat} (h : RatV w K neg vn vd x) (hk : K ≤ K') : RatV w K' neg vn vd x := by
  obtain ⟨p, q, A, n, c, B, m, d, h1, h2, h3, h4, h5, h6, h7, h8, h9⟩ := h
  have := Nat.pow_le_pow_right (n := 2) (by omega) (show 32 * K ≤ 32 * K' by omega)
  exact ⟨p, q, A, n, c, B, m, d, h1, h2, h3, h4, h5, h6, by omega, by omega, h9⟩

/-- A ratio that a call answers. -/
def NewRat (w : World) (K : Nat) (x : Rat) (e : Ending) (w' : World) : Prop :=
  ∃ neg vn vd, e = .returned (.agg #[.bool neg, vn, vd]) ∧ RatV w' K neg vn vd x ∧ Below w.heap.size w w'
theorem NewRat.trans {w w1 w' : World} {K : Nat} {x : Rat} {e : Ending} (h : NewRat w1 K x e w') (hb : Below w.heap.size w w1) : NewRat w K x e w' := by
  obtain ⟨neg, vn, vd, rfl, h1, h2⟩ := h
  exact ⟨neg, vn, vd, rfl, h1, hb.trans (h2.mono hb.size)⟩

/-! ### A block of a call's own -/

/-- Block g holds just these cells. -/
def Blk (w : World) (g : Nat) (t : TypeId) (cs : Array Value) : Prop := w.heap[g]? = some (.cells cs t (0, 0))
theorem Blk.lt {w : World} {g : Nat} {t : TypeId} {cs : Array Value} (h : Blk w g t cs) : g < w.heap.size := (Array.getElem?_eq_some_iff.1 h).1
theorem Blk.cell {w : World} {g : Nat} {t : TypeId} {cs : Array Value} (h : Blk w g t cs) (i : Nat) : w.cell? ⟨g, i, none⟩ = cs[i]? := cell_of_row w g i cs t (0, 0) h
theorem Blk.frozen {w : World} {g : Nat} {t : TypeId} {cs : Array Value} (h : Blk w g t cs) (i : Nat) : w.frozen? ⟨g, i, none⟩ = false := frozen_of_row w g i cs t h
theorem Blk.new (w : World) (t : TypeId) (cs : Array Value) : Blk (w.alloc (.cells cs t)) w.heap.size t cs := heap_alloc_new w _
theorem Blk.below {w w' : World} {g B : Nat} {t : TypeId} {cs : Array Value} (h : Blk w g t cs) (hb : Below B w w') (hg : g < B) : Blk w' g t cs := (hb.block g hg).trans h
theorem Blk.drewN {w : World} {g : Nat} {t : TypeId} {cs : Array Value} (h : Blk w g t cs) (n : Nat) : Blk (w.drewN n) g t cs := h
theorem Blk.alloc {w : World} {g : Nat} {t : TypeId} {cs : Array Value} (h : Blk w g t cs) (o : Obj) : Blk (w.alloc o) g t cs := (Below.heap_alloc w o g h.lt).trans h
theorem Blk.keep {w w' : World} {g : Nat} {t : TypeId} {cs : Array Value} (h : Blk w g t cs) (hb : Below w.heap.size w w') : Blk w' g t cs := h.below hb h.lt

theorem U32s.set3 {w : World} {A : Option Addr} {n c g : Nat} {xs : List Nat} (h : U32s w A n c xs) (hg : ∀ ad, A = some ad → ad.block ≠ g) (a b d : Value) :
    U32s (((w.setCell ⟨g, 0, none⟩ a).setCell ⟨g, 1, none⟩ b).setCell ⟨g, 2, none⟩ d) A n c xs :=
  ((h.far (p := ⟨g, 0, none⟩) hg a).far (p := ⟨g, 1, none⟩) hg b).far (p := ⟨g, 2, none⟩) hg d
theorem below_set3 {w w0 : World} {B g : Nat} (h : Below B w0 w) (hg : B ≤ g) (a b d : Value) :
    Below B w0 (((w.setCell ⟨g, 0, none⟩ a).setCell ⟨g, 1, none⟩ b).setCell ⟨g, 2, none⟩ d) :=
  ((h.setCell (p := ⟨g, 0, none⟩) hg a).setCell (p := ⟨g, 1, none⟩) hg b).setCell (p := ⟨g, 2, none⟩) hg d
/-- A block of which no cell is a word holds no words. -/
def NoWd (cs : Array Value) : Prop := ∀ i x : Nat, cs[i]? ≠ some (wd x)
theorem NoWd.zero : NoWd #[.bool false, .slice none 0 0, .slice none 0 0] := by
  intro i x
  match i with
  | 0 => simp
  | 1 => simp
  | 2 => simp
  | i + 3 => simp
theorem Blk.apart {w : World} {g : Nat} {t : TypeId} {cs : Array Value} {A : Option Addr} {n c : Nat} {xs : List Nat} (hb : Blk w g t cs) (hc : NoWd cs) (h : U32s w A n c xs) : ∀ ad, A = some ad → 0 < n → ad.block ≠ g := by
  intro ad e hn hg
  obtain ⟨ad', e', _, hj⟩ := h.at_ hn
  rw [e] at e'; cases e'
  have h0 := hj 0 hn
  have : (ad.add 0) = ad := by unfold Addr.add; rfl
  rw [this] at h0
  unfold World.cell? at h0
  rw [hg, hb] at h0
  simp only at h0
  split at h0
  · exact absurd h0 (by simp)
  · exact hc _ _ h0
theorem U32s.set3' {w : World} {A : Option Addr} {n c g : Nat} {xs : List Nat} (h : U32s w A n c xs) (hg : ∀ ad, A = some ad → 0 < n → ad.block ≠ g) (a b d : Value) :
    U32s (((w.setCell ⟨g, 0, none⟩ a).setCell ⟨g, 1, none⟩ b).setCell ⟨g, 2, none⟩ d) A n c xs :=
  h.keep (by simp [World.setCell]) fun ad e hn => by
    have h1 := hg ad e hn
    rw [Below.heap_setCell _ ⟨g, 2, none⟩ d _ h1, Below.heap_setCell _ ⟨g, 1, none⟩ b _ h1, Below.heap_setCell _ ⟨g, 0, none⟩ a _ h1]
/-- A ratio that is laid into the result's block and answered. -/
theorem RatV.ret {w w5 : World} {K g : Nat} {t : TypeId} {cs : Array Value} {neg : Bool} {vn vd : Value} {x : Rat} (h : RatV w5 K neg vn vd x) (hb : Below w.heap.size w w5) (hk : Blk w5 g t cs) (hc : NoWd cs) (hg : w.heap.size ≤ g) :
    NewRat w K x (.returned (.agg #[.bool neg, vn, vd])) (((w5.setCell ⟨g, 0, none⟩ (.bool neg)).setCell ⟨g, 1, none⟩ vn).setCell ⟨g, 2, none⟩ vd) := by
  obtain ⟨p, q, A, n, c, B, m, d, rfl, rfl, h3, h4, h5⟩ := h
  exact ⟨neg, _, _, rfl, ⟨p, q, A, n, c, B, m, d, rfl, rfl, h3.set3' (hk.apart hc h3) _ _ _, h4.set3' (hk.apart hc h4) _ _ _, h5⟩, below_set3 hb hg _ _ _⟩

end Go.Proofs.YtmjkmoahkanblaaGreat

namespace Go.Proofs.YtmjkmoahkanblaaGreat
open Go.RowKit

set_option maxHeartbeats 400000 in
theorem words_any (A : Option Addr) (n c : Nat) (xs : List Nat) (w : World) (h : U32s w A n c xs) :
    Calls Tryz.prog 202 #[.slice A n c] w fun e w' => e = .returned (.int .i64 (wlen xs)) ∧ w = w' := by
  have hn := h.small
  have H := Lib.hid h
  clear h
  go_enter Tryz.func202, Tryz.ntmps202
  go_wp2
  go_loop [3] (fun v => ∃ k : Nat, k ≤ n ∧ v = .int .i64 k ∧ ∀ j : Nat, k ≤ j → xs[j]?.getD 0 = 0) (fun v => (intOf v).toNat)
  case atStart => exact ⟨n, by omega, rfl, fun j hj => by
    have := H.out.len
    rw [List.getElem?_eq_none (by omega)]; rfl⟩
  case round =>
    obtain ⟨k, hk, rfl, hz⟩ := hrel
    have Hz := Lib.hid hz
    clear hz
    rcases Nat.eq_zero_or_pos k with h0 | h0
    · subst h0
      go_wp2
      go_ret
      exact ⟨by have := wlen_of (l := xs) (Nat.zero_le _) Hz.out (.inl rfl); rw [this]; rfl, rfl⟩
    · obtain ⟨ad, rfl, hc⟩ := H.out.cell (j := k - 1) (by omega)
      go_wp2
      · have ht : ((xs[k - 1]?.getD 0 : Nat) : Int) = 0 := by simpa using ‹(((xs[k - 1]?.getD 0 : Nat) : Int) == 0) = true›
        go_round
        case rel =>
          refine ⟨k - 1, by omega, by go_num, fun j hj => ?_⟩
          rcases Nat.lt_or_ge j k with h1 | h1
          · obtain rfl : j = k - 1 := by omega
            omega
          · exact Hz.out j h1
        case measure => simp [intOf]; omega
      · have ht : ¬ ((xs[k - 1]?.getD 0 : Nat) : Int) = 0 := by simpa using ‹(((xs[k - 1]?.getD 0 : Nat) : Int) == 0) = false›
        go_ret
        exact ⟨by have := wlen_of (l := xs) (n := k) (by rw [H.out.len]; omega) Hz.out (.inr (by omega)); rw [this]; rfl, rfl⟩

end Go.Proofs.YtmjkmoahkanblaaGreat

namespace Go.Proofs.YtmjkmoahkanblaaGreat
open Go.RowKit

/-- A slice of words that a call answers: new memory, nothing that was there has changed. -/
def NewU32 (w : World) (xs : List Nat) (e : Ending) (w' : World) : Prop :=
  ∃ A n c, e = .returned (.slice A n c) ∧ U32s w' A n c xs ∧ Below w.heap.size w w'

theorem Own.newU32 {w w' : World} {v : Value} {xs : List Nat} (h : Own w' w.heap.size v xs) (hb : Below w.heap.size w w') (hw : W32 xs) (hs : xs.length ≤ 34359738368) : NewU32 w xs (.returned v) w' := by
  obtain ⟨A, c, rfl⟩ := h.form
  exact ⟨A, _, c, rfl, h.u32s rfl hw hs, hb⟩

theorem NewU32.trans {w w1 w' : World} {xs : List Nat} {e : Ending} (h : NewU32 w1 xs e w') (hb : Below w.heap.size w w1) : NewU32 w xs e w' := by
  obtain ⟨A, n, c, rfl, hu, hb'⟩ := h
  exact ⟨A, n, c, rfl, hu, hb.trans (hb'.mono hb.size)⟩
theorem below_alloc (w : World) (o : Obj) : Below w.heap.size w (w.alloc o) := (Below.refl _ _).alloc (Nat.le_refl _) o

theorem getD_snoc {xs : List Nat} {m : Nat} (h : m < xs.length) : xs.take m ++ [xs[m]?.getD 0] = xs.take (m + 1) := by
  rw [List.take_succ_eq_append_getElem h, List.getElem?_eq_getElem h]; rfl

set_option maxHeartbeats 400000 in
theorem norm_any (A : Option Addr) (n c : Nat) (xs : List Nat) (w : World) (h : U32s w A n c xs) (hs : n ≤ 34359738367) :
    Calls Tryz.prog 160 #[.slice A n c] w (NewU32 w (trim xs)) := by
  have hn := h.small
  have H := Lib.hid h
  clear h
  go_enter Tryz.func160, Tryz.ntmps160
  go_wp2
  go_loop [3] (fun v => ∃ k : Nat, k ≤ n ∧ v = .int .i64 k ∧ ∀ j : Nat, k ≤ j → xs[j]?.getD 0 = 0) (fun v => (intOf v).toNat)
  case atStart => exact ⟨n, by omega, rfl, fun j hj => by
    have := H.out.len
    rw [List.getElem?_eq_none (by omega)]; rfl⟩
  case round =>
    obtain ⟨k, hk, rfl, hz⟩ := hrel
    have Hz := Lib.hid hz
    clear hz
    by_cases hg : 0 < k ∧ xs[k - 1]?.getD 0 = 0
    · obtain ⟨h0, hx⟩ := hg
      obtain ⟨ad, rfl, hc⟩ := H.out.cell (j := k - 1) (by omega)
      rw [hx] at hc
      have Hx := Lib.hid hx
      clear hx
      go_wp2
      go_round
      case rel =>
        refine ⟨k - 1, by omega, by go_num, fun j hj => ?_⟩
        rcases Nat.lt_or_ge j k with h1 | h1
        · obtain rfl : j = k - 1 := by omega
          exact Hx.out
        · exact Hz.out j h1
      case measure => simp [intOf]; omega
    · have hwl : wlen xs = k := wlen_of (by rw [H.out.len]; omega) Hz.out (by omega)
      have Hl : Hid (trim xs = xs.take k) := by
        have := trim_eq_take xs
        rw [hwl] at this; exact this
      clear hwl
      by_cases h0 : 0 < k
      case' pos =>
        obtain ⟨ad, rfl, hc⟩ := H.out.cell (j := k - 1) (by omega)
        have hx : ((xs[k - 1]?.getD 0 : Nat) : Int) ≠ 0 := by omega
        have hx' : (((xs[k - 1]?.getD 0 : Nat) : Int) == 0) = false := by
          simpa using hx
        clear hg hx
        go_wp2
        clear hx' hc
      case' neg =>
        go_wp2
        clear hg
      all_goals
        clear h0
        go_loopw [4, 5] (fun v i wr => ∃ m : Nat, m ≤ k ∧ i = .int .i64 m ∧ Own wr w.heap.size v (xs.take m) ∧ Below w.heap.size w wr) (fun _ i _ => k - (intOf i).toNat)
        case atStart => exact ⟨0, by omega, rfl, Own.nil _ _, Below.refl _ _⟩
        case round =>
          obtain ⟨m, hm, rfl, hown, hb⟩ := hrel
          by_cases hlt : m < k
          · obtain ⟨ad', e, hc⟩ := (H.out.below hb).cell (j := m) (by omega)
            cases e
            have hbs := hb.size
            go_wp2_with (at_builtin; refine wpList_append_u32 _ rfl _ _ rfl w.heap.size _ _ rfl (hown.alloc _) ⟨_, 0, none⟩ 1 (xs[m]?.getD 0) rfl ?c1 ?c2 ?c3 ?_)
            case c1 => simp
            case c2 => rw [List.length_take]; omega
            case c3 => simp; omega
            intro v' w' hown' hgrow
            have hown2 : Own w' w.heap.size v' (xs.take (m + 1)) := by
              rw [← getD_snoc (by rw [H.out.len]; omega)]; exact hown'
            have hb' : Below w.heap.size w w' := (hb.alloc hbs _).grown hgrow (by simp; omega) (fun g hg => (hown.lt g hg).1)
            clear hown hown' hb hgrow hc hbs
            go_wp2
            go_roundw
            case rel => exact ⟨m + 1, by omega, by go_num, hown2, hb'⟩
            case measure => simp [intOf]; omega
          · obtain rfl : m = k := by omega
            go_wp2
            go_ret
            rw [Hl.out]
            exact hown.newU32 hb (H.out.w32.take _) (by rw [List.length_take]; omega)

end Go.Proofs.YtmjkmoahkanblaaGreat

namespace Go.Proofs.YtmjkmoahkanblaaGreat
open Go.RowKit

/-- A call that only reads. -/
def QuietRet (w : World) (v : Value) (e : Ending) (w' : World) : Prop := e = .returned v ∧ ∃ k, w' = w.drewN k

theorem drew2 (w : World) (a b : Nat) : ∃ k, (w.drewN a).drewN b = w.drewN k := ⟨_, World.drewN_drewN _ _ _⟩
theorem drew3 (w : World) (a b c : Nat) : ∃ k, ((w.drewN a).drewN b).drewN c = w.drewN k := ⟨_, by rw [World.drewN_drewN, World.drewN_drewN]⟩
theorem drewN_zero (w : World) : w.drewN 0 = w := rfl

set_option maxHeartbeats 800000 in
theorem cmp_any (A B : Option Addr) (n c m d : Nat) (xs ys : List Nat) (w : World) (hx : U32s w A n c xs) (hy : U32s w B m d ys) :
    Calls Tryz.prog 142 #[.slice A n c, .slice B m d] w (QuietRet w (.int .i64 (cmp3 (num xs) (num ys)))) := by
  have HX := Lib.hid hx
  have HY := Lib.hid hy
  have n1 := hx.small
  have n2 := hy.small
  have l1 := wlen_le xs
  have l2 := wlen_le ys
  rw [hx.len] at l1
  rw [hy.len] at l2
  clear hx hy
  go_enter Tryz.func142, Tryz.ntmps142
  go_wp2_with fail
  refine (words_any A n c xs w HX.out).mono ?_
  rintro e w' ⟨rfl, rfl⟩
  go_wp2_with fail
  refine (words_any B m d ys w HY.out).mono ?_
  rintro e w' ⟨rfl, rfl⟩
  rcases Nat.lt_trichotomy (wlen xs) (wlen ys) with hl | hl | hl
  · go_wp2
    go_ret
    exact ⟨by rw [cmp3_lt (num_lt_of_wlen HX.out.w32 hl)]; rfl, 0, rfl⟩
  · have Hl := Lib.hid hl
    have g1 : ¬ wlen xs < wlen ys := by omega
    have g2 : ¬ wlen ys < wlen xs := by omega
    have g3 : wlen xs ≤ m := by omega
    clear hl
    go_wp2
    go_loopw [7] (fun v wr => ∃ k : Nat, k ≤ wlen xs ∧ v = .int .i64 ((k : Int) - 1) ∧ (∀ j : Nat, k ≤ j → xs[j]?.getD 0 = ys[j]?.getD 0) ∧ ∃ z, wr = w.drewN z) (fun v _ => (intOf v + 1).toNat)
    case atStart => exact ⟨wlen xs, by omega, rfl, fun j hj => by rw [(wlen_spec xs).1 j hj, (wlen_spec ys).1 j (by rw [← Hl.out]; exact hj)], 0, rfl⟩
    case round =>
      obtain ⟨k, hk, rfl, hz, z, rfl⟩ := hrel
      have Hz := Lib.hid hz
      clear hz
      rcases Nat.eq_zero_or_pos k with h0 | h0
      · subst h0
        go_wp2
        go_ret
        exact ⟨by rw [cmp3_eq (num_ext fun j => Hz.out j (Nat.zero_le _))]; rfl, z, rfl⟩
      · obtain ⟨i, rfl⟩ : ∃ i, k = i + 1 := ⟨k - 1, by omega⟩
        obtain ⟨ad, rfl, hc⟩ := HX.out.cell (j := i) (by omega)
        obtain ⟨ad', rfl, hc'⟩ := HY.out.cell (j := i) (by omega)
        rw [show (((i + 1 : Nat) : Int) - 1) = (i : Int) from by omega]
        have hi1 : (i : Int) < (n : Int) := by omega
        have hi2 : (i : Int) < (m : Int) := by omega
        go_wp2_with fail
        go_quiet (fail)
        go_wp2
        · go_ret
          exact ⟨by rw [cmp3_lt (num_lt_of HX.out.w32 i (fun j hj => Hz.out j hj) (by assumption))]; rfl, drew2 _ _ _⟩
        · go_quiet (fail)
          go_wp2
          · go_ret
            exact ⟨by rw [cmp3_gt (num_lt_of HY.out.w32 i (fun j hj => (Hz.out j hj).symm) (by assumption))]; rfl, drew3 _ _ _ _⟩
          · go_roundw
            case rel =>
              refine ⟨i, by omega, by go_num, fun j hj => ?_, _, rfl⟩
              rcases Nat.lt_or_ge i j with h1 | h1
              · exact Hz.out j h1
              · obtain rfl : j = i := by omega
                omega
            case measure => simp [intOf]
  · go_wp2
    go_ret
    exact ⟨by rw [cmp3_gt (num_lt_of_wlen HY.out.w32 hl)]; rfl, 0, rfl⟩

end Go.Proofs.YtmjkmoahkanblaaGreat

namespace Go.Proofs.YtmjkmoahkanblaaGreat
open Go.RowKit

set_option maxHeartbeats 800000 in
theorem len_zero (A : Option Addr) (n c : Nat) (xs : List Nat) (w : World) (hx : U32s w A n c xs) (h0 : wlen xs = 0) :
    Calls Tryz.prog 203 #[.slice A n c] w fun e w' => e = .returned (.int .i64 0) ∧ w = w' := by
  have HX := Lib.hid hx
  clear hx
  have hw := words_any A n c xs w HX.out
  rw [h0] at hw
  have HW := Lib.hid hw
  clear hw
  go_enter Tryz.func203, Tryz.ntmps203
  go_wp2_with fail
  refine HW.out.mono ?_
  rintro e w' ⟨rfl, rfl⟩
  go_wp2
  go_ret
  exact ⟨rfl, rfl⟩

set_option maxHeartbeats 800000 in
theorem len_pos (A : Option Addr) (n c l t : Nat) (xs : List Nat) (w : World) (hx : U32s w A n c xs) (hl : wlen xs = l + 1) (ht : xs[l]?.getD 0 = t) :
    Calls Tryz.prog 203 #[.slice A n c] w fun e w' => e = .returned (.int .i64 ((32 * l + blen t : Nat) : Int)) ∧ w = w' := by
  have HX := Lib.hid hx
  have n1 := hx.small
  have l1 := wlen_le xs
  rw [hx.len, hl] at l1
  have hlt := hx.lt l
  clear hx
  have hw := words_any A n c xs w HX.out
  rw [hl] at hw
  obtain ⟨ad, rfl, hc⟩ := HX.out.cell (j := l) (by omega)
  rw [ht] at hlt hc
  clear ht hl
  have HW := Lib.hid hw
  clear hw
  have b0 : blen t ≤ 32 := blen_le_iff.2 (by omega)
  go_enter Tryz.func203, Tryz.ntmps203
  go_wp2_with fail
  refine HW.out.mono ?_
  rintro e w' ⟨rfl, rfl⟩
  rw [show ((l + 1 : Nat) : Int) = (l : Int) + 1 from by omega]
  have hb0 : ((l : Int) + 1 == 0) = false := by simp; omega
  go_wp2
  go_loop [4, 5] (fun v y => ∃ k x : Nat, v = .int .i64 k ∧ y = wd x ∧ x < 4294967296 ∧ k + blen x = 32 * l + blen t) (fun _ y => (intOf y).toNat)
  case atStart => exact ⟨32 * l, t, by go_num, rfl, hlt, rfl⟩
  case round =>
    obtain ⟨k, x, rfl, rfl, hx, hk⟩ := hrel
    have Hk := Lib.hid hk
    have hk2 : k ≤ 32 * l + 32 := by omega
    clear hk
    rcases Nat.eq_zero_or_pos x with h0 | h0
    · subst h0
      go_wp2
      go_ret
      have := Hk.out
      rw [blen_zero, Nat.add_zero] at this
      exact ⟨ret_int (by omega), rfl⟩
    · go_wp2
      go_round
      case rel => exact ⟨k + 1, x / 2, by go_num, by go_num, by omega, by have := Hk.out; rw [blen_half h0] at this; omega⟩
      case measure => simp [intOf]; omega

theorem len_any (A : Option Addr) (n c : Nat) (xs : List Nat) (w : World) (hx : U32s w A n c xs) :
    Calls Tryz.prog 203 #[.slice A n c] w fun e w' => e = .returned (.int .i64 (blen (num xs))) ∧ w = w' := by
  rcases Nat.eq_zero_or_pos (wlen xs) with h0 | h0
  · have := len_zero A n c xs w hx h0
    rw [show blen (num xs) = 0 from by rw [wlen_eq_zero.1 h0]; rfl]
    exact this
  · have := len_pos A n c (wlen xs - 1) (xs[wlen xs - 1]?.getD 0) xs w hx (by omega) rfl
    rw [blen_num hx.w32 h0]
    exact this

set_option maxHeartbeats 800000 in
theorem bit_any (A : Option Addr) (n c i : Nat) (xs : List Nat) (w : World) (hx : U32s w A n c xs) (hi : i ≤ 4611686018427387904) :
    Calls Tryz.prog 217 #[.slice A n c, .int .i64 (i : Int)] w fun e w' => e = .returned (.int .u32 ((num xs / 2^i % 2 : Nat) : Int)) ∧ w = w' := by
  have HX := Lib.hid hx
  have n1 := hx.small
  have E := Lib.hid (num_bit hx.w32 i)
  clear hx
  by_cases hi2 : i / 32 < n
  · obtain ⟨ad, rfl, hc⟩ := HX.out.cell (j := i / 32) hi2
    have hlt := HX.out.lt (i / 32)
    rw [E.out]
    generalize hx : xs[i / 32]?.getD 0 = x at *
    clear hx
    go_enter Tryz.func217, Tryz.ntmps217
    go_wp2
    go_ret
    exact ⟨ret_int (by have := and1_u32 (x := x / 2^(i % 32)) (Nat.lt_of_le_of_lt (Nat.div_le_self _ _) hlt); rw [← this]; simp), rfl⟩
  · have h0 : num xs / 2^i % 2 = 0 := by
      rw [E.out, List.getElem?_eq_none (by rw [HX.out.len]; omega)]
      simp
    rw [h0]
    go_enter Tryz.func217, Tryz.ntmps217
    go_wp2
    go_ret
    exact ⟨rfl, rfl⟩

end Go.Proofs.YtmjkmoahkanblaaGreat

namespace Go.Proofs.YtmjkmoahkanblaaGreat
open Go.RowKit

set_option maxHeartbeats 800000 in
theorem zeros_any (A : Option Addr) (n c : Nat) (xs : List Nat) (w : World) (hx : U32s w A n c xs) (h0 : num xs ≠ 0) :
    Calls Tryz.prog 199 #[.slice A n c] w fun e w' => (∃ k : Nat, e = .returned (.int .i64 (k : Int)) ∧ k ≤ 32 * n ∧ num xs % 2^k = 0 ∧ num xs / 2^k % 2 = 1) ∧ w = w' := by
  have HX := Lib.hid hx
  have n1 := hx.small
  have l1 := wlen_le xs
  rw [hx.len] at l1
  clear hx
  have hl : 0 < wlen xs := by have := @wlen_eq_zero xs; omega
  go_enter Tryz.func199, Tryz.ntmps199
  go_wp2_with fail
  refine (words_any A n c xs w HX.out).mono ?_
  rintro e w' ⟨rfl, rfl⟩
  have hl' : ((wlen xs : Int) == 0) = false := by simp; omega
  go_wp2
  go_loop [3] (fun v => ∃ q : Nat, v = .int .i64 ((32 * q : Nat) : Int) ∧ q < wlen xs ∧ num xs % 2^(32 * q) = 0) (fun v => 32 * n - (intOf v).toNat)
  case atStart => exact ⟨0, rfl, hl, Nat.mod_one _⟩
  case round =>
    obtain ⟨q, rfl, hq, hz⟩ := hrel
    have HZ := Lib.hid hz
    clear hz
    obtain ⟨ad, e, hc⟩ := HX.out.cell (j := q) (by omega)
    cases e
    have e0 : num xs % 2^(32 * (q + 1)) = num xs % 2^(32 * q) + 2^(32 * q) * (xs[q]?.getD 0) := by
      rw [← num_word HX.out.w32, Nat.mul_add, Nat.pow_add, Nat.mod_mul]
    have E0 := Lib.hid e0
    clear e0
    rw [show ((32 * q : Nat) : Int) = 32 * (q : Int) from by omega]
    have d0 : 32 * (q : Int) / 32 = (q : Int) := by omega
    by_cases hx0 : xs[q]?.getD 0 = 0
    · rw [hx0] at hc
      have hq' : q + 1 < wlen xs := by
        have h2 := (wlen_spec xs).2
        rcases Nat.lt_or_ge (q + 1) (wlen xs) with h3 | h3
        · exact h3
        · obtain h4 : wlen xs - 1 = q := by omega
          rw [h4] at h2; omega
      have HX0 := Lib.hid hx0
      clear hx0
      go_wp2
      go_round
      case rel => exact ⟨q + 1, by go_num, hq', by rw [E0.out, HZ.out, HX0.out]; omega⟩
      case measure => simp [intOf]; omega
    · have hx1 : (((xs[q]?.getD 0 : Nat) : Int) == 0) = false := by simp; omega
      have HX0 := Lib.hid hx0
      clear hx0
      have e1 : num xs % 2^(32 * (q + 1)) ≠ 0 := by
        rw [E0.out, HZ.out, Nat.zero_add]
        exact Nat.mul_ne_zero (by have := Nat.two_pow_pos (32 * q); omega) HX0.out
      obtain ⟨Z, hZ⟩ : ∃ Z : Nat, 32 * (q + 1) = Z := ⟨_, rfl⟩
      rw [hZ] at e1
      have E1 := Lib.hid e1
      have HZZ := Lib.hid hZ
      clear e1 hZ E0
      go_wp2
      go_loop [3] (fun v => ∃ k : Nat, v = .int .i64 (k : Int) ∧ 32 * q ≤ k ∧ k < 32 * (q + 1) ∧ num xs % 2^k = 0) (fun v => 32 * (q + 1) - (intOf v).toNat)
      case atStart => exact ⟨32 * q, by go_num, by omega, by omega, HZ.out⟩
      case round =>
        obtain ⟨k, rfl, hk1, hk2, hkz⟩ := hrel
        clear hx1 hc d0
        have HK := Lib.hid hkz
        clear hkz
        have hbit := bit_any _ n c k xs w HX.out (by omega)
        obtain ⟨b, hb⟩ : ∃ b, num xs / 2^k % 2 = b := ⟨_, rfl⟩
        rw [hb] at hbit
        have HBIT := Lib.hid hbit
        have HB := Lib.hid hb
        clear hbit hb
        go_wp2_with fail
        refine HBIT.out.mono ?_
        rintro e w' ⟨rfl, rfl⟩
        go_wp2
        · have hb1 : (b : Int) = 0 := by simpa using ‹((b : Int) == 0) = true›
          have hb : b = 0 := by omega
          have hz1 : num xs % 2^(k + 1) = 0 := by
            rw [Nat.pow_succ, Nat.mod_mul, HK.out]
            rw [HB.out, hb]; omega
          have hk3 : k + 1 < 32 * (q + 1) := by
            rcases Nat.lt_or_ge (k + 1) (32 * (q + 1)) with h3 | h3
            · exact h3
            · obtain h4 : k + 1 = 32 * (q + 1) := by omega
              rw [h4] at hz1
              rw [HZZ.out] at hz1
              exact absurd hz1 E1.out
          go_round
          case rel => exact ⟨k + 1, by go_num, by omega, hk3, hz1⟩
          case measure => simp [intOf]; omega
        · have hb1 : (b : Int) ≠ 0 := by simpa using ‹((b : Int) == 0) = false›
          have hb := HB.out
          go_ret
          exact ⟨⟨k, rfl, by omega, HK.out, by omega⟩, rfl⟩

end Go.Proofs.YtmjkmoahkanblaaGreat

namespace Go.Proofs.YtmjkmoahkanblaaGreat
open Go.RowKit

theorem NewU32.nil (w : World) : NewU32 w [] (.returned (.slice none 0 0)) w := ⟨none, 0, 0, rfl, U32s.nil _ _ _, Below.refl _ _⟩

set_option maxHeartbeats 1600000 in
theorem left_any (A : Option Addr) (n c k : Nat) (xs : List Nat) (w : World) (hx : U32s w A n c xs) (hs1 : n ≤ 8589934592) (hk : k ≤ 137438953472) :
    Calls Tryz.prog 201 #[.slice A n c, .int .i64 (k : Int)] w (NewU32 w (digs (num xs * 2^k))) := by
  have HX := Lib.hid hx
  have l1 := wlen_le xs
  rw [hx.len] at l1
  have w1 := words_any A n c xs w hx
  clear hx
  obtain ⟨m, hm⟩ : ∃ m, wlen xs = m := ⟨_, rfl⟩
  rw [hm] at w1 l1
  have W1 := Lib.hid w1
  clear w1
  obtain ⟨s, hs⟩ : ∃ s, k % 32 = s := ⟨_, rfl⟩
  obtain ⟨q, hq⟩ : ∃ q, k / 32 = q := ⟨_, rfl⟩
  have hs2 : s < 32 := by omega
  have hkq : 32 * q + s = k := by omega
  have hq2 : q ≤ 4294967296 := by omega
  have d1 : (k : Int) / 32 = (q : Int) := by omega
  have d2 : (k : Int) % 32 = (s : Int) := by omega
  clear hs hq
  have HM := Lib.hid hm
  have HK := Lib.hid hkq
  clear hm hkq
  by_cases h0 : m = 0
  · subst h0
    rw [wlen_eq_zero.1 HM.out, Nat.zero_mul, digs_zero]
    go_enter Tryz.func201, Tryz.ntmps201
    go_wp2_with fail
    refine W1.out.mono ?_
    rintro e w' ⟨rfl, rfl⟩
    clear W1
    go_wp2
    go_ret
    exact NewU32.nil w
  have h0' : ((m : Int) == 0) = false := by simp; omega
  have hmk := fun W => make_u32 (N := (q : Int) + (m : Int) + 1) (n := q + m + 1) (by omega) (by omega) W
  go_enter Tryz.func201, Tryz.ntmps201
  go_wp2_with fail
  refine W1.out.mono ?_
  rintro e w' ⟨rfl, rfl⟩
  clear W1
  go_wp2
  go_loopw [8] (fun iv wr => ∃ (i : Nat) (ls : List Nat), iv = .int .i64 i ∧ i ≤ m ∧ LeftInv xs ls m q s i ∧ Arr wr w.heap.size ls ∧ Below w.heap.size w wr) (fun iv _ => m - (intOf iv).toNat)
  case atStart => exact ⟨0, _, rfl, Nat.zero_le _, LeftInv.start _ _ _ _, Arr.zeros _ _, below_alloc _ _⟩
  case round =>
    obtain ⟨i, ls, rfl, hi, hinv, harr, hb⟩ := hrel
    have HI := Lib.hid hinv
    have HA := Lib.hid harr
    clear hinv harr hmk
    by_cases hlt : i < m
    · obtain ⟨ad, e, hc⟩ := (HX.out.below hb).cell (j := i) (by omega)
      cases e
      have hx1 := HX.out.lt i
      have hst := HI.out.step (v := xs[i]?.getD 0 * 2^s) hlt hs2 HX.out.w32 rfl
      have hl1 : ls[q + i]?.getD 0 < 4294967296 := HI.out.1.get _
      have hl2 : ls[q + i]?.getD 0 < 2^s := HI.out.2.2.2.1
      have hc2 := HA.out.cell (j := q + i) (by rw [HI.out.2.1]; omega)
      have hf2 := HA.out.frozen (q + i)
      have hf3 := HA.out.frozen (q + i + 1)
      obtain ⟨x, hx⟩ : ∃ x, xs[i]?.getD 0 = x := ⟨_, rfl⟩
      obtain ⟨l, hl⟩ : ∃ l, ls[q + i]?.getD 0 = l := ⟨_, rfl⟩
      rw [hx] at hc hx1 hst
      rw [hl] at hc2 hl1 hst hl2
      have hv1 : x * 2^s < 18446744073709551616 := by
        have : 2^s ≤ 2^31 := Nat.pow_le_pow_right (by omega) (by omega)
        have : x * 2^s ≤ 4294967295 * 2^31 := Nat.mul_le_mul (by omega) this
        omega
      have hz1 : ls[q + i + 1]?.getD 0 = 0 := HI.out.2.2.1 _ (by omega)
      have hc3 := HA.out.cell (j := q + i + 1) (by rw [HI.out.2.1]; omega)
      rw [hz1] at hc3
      obtain ⟨v, hv⟩ : ∃ v, x * 2^s = v := ⟨_, rfl⟩
      have hvm : v % 4294967296 % 2^s = 0 := by
        have : 2^s ∣ 4294967296 := ⟨2^(32 - s), by rw [← Nat.pow_add, show s + (32 - s) = 32 from by omega]⟩
        rw [Nat.mod_mod_of_dvd _ this, ← hv, Nat.mul_mod_left]
      have ho := or_low_u32 hl2 hvm hl1 (by omega)
      have e1 : IntKind.u64.wrap ((x : Int) * 2^s) = (v : Int) := by
        rw [← hv]
        have := IntWalk.u64_in ((x * 2^s : Nat) : Int) (by omega)
        simpa using this
      rw [hv] at hst hv1
      have HST := Lib.hid hst
      rw [show ((v % 4294967296 : Nat) : Int) = (v : Int) % 4294967296 from by omega] at ho
      have hm := mask32_i (a := (v : Int)) (by omega) (by omega)
      have hj : ((l + v % 4294967296 : Nat) : Int) = (l : Int) + (v : Int) % 4294967296 := by omega
      rw [hj] at ho
      have hb1 : (l : Int) + (v : Int) % 4294967296 < 4294967296 := by have := hst.2.1; omega
      have hd1 : (v : Int) / 4294967296 < 4294967296 := by have := hst.2.2; omega
      clear hst hv hvm hx hl hl2 hz1 hj
      go_wp2
      go_roundw
      case rel =>
        refine ⟨i + 1, _, by go_num, by omega, HST.out.1, ?_, (hb.setCell (Nat.le_refl _) _).setCell (Nat.le_refl _) _⟩
        rw [show (l : Int) + (v : Int) % 4294967296 = ((l + v % 4294967296 : Nat) : Int) from by omega, show (v : Int) / 4294967296 = ((v / 4294967296 : Nat) : Int) from by omega]
        exact (HA.out.set _ _).set _ _
      case measure => simp [intOf]; omega
    · obtain rfl : i = m := by omega
      have hnum := HI.out.done (by rw [HM.out]; omega)
      have hu := HA.out.u32s' HI.out.1 HI.out.2.1 (by omega)
      have hnorm := norm_any _ _ _ _ wr hu (by omega)
      rw [trim_eq_digs HI.out.1, hnum, HK.out] at hnorm
      have HN := Lib.hid hnorm
      clear hnorm hu hnum
      go_wp2_with fail
      refine HN.out.mono ?_
      rintro e w'' ⟨A2, n2, c2, rfl, hu2, hb2⟩
      have H2 := Lib.hid (show NewU32 w (digs (num xs * 2^k)) (.returned (.slice A2 n2 c2)) w'' from NewU32.trans ⟨A2, n2, c2, rfl, hu2, hb2⟩ hb)
      clear hu2 hb2 hb
      go_wp2
      go_ret
      exact H2.out

end Go.Proofs.YtmjkmoahkanblaaGreat
