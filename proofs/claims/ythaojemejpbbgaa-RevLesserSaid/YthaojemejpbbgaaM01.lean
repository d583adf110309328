/-
Naturals as lists of words of 32 bits, the lowest first. Plain Lean.
Naturals as lists of words: order, single words, bits, and what the loops of sums, differences, products and shifts keep.
Floats of 64 bits as rungs: the magnitude of a rung, its order, and how the model's 'nearest', 'order', 'add' read in these words. Plain Lean: no program in sight.
The model's floats of 64 bits (Ieee.double) in rungs: 'nearest', 'read', 'order'.
A word of 64 bits as an index (its rung, with the sign), and an index as a whole number of units of 2^-1074; how the model's comparisons, sums and products of words read in these words.
-/
import Derived.Laws.FloatBits
set_option linter.unusedSimpArgs false
set_option linter.unusedVariables false

namespace Go.Proofs.Ythaojemejpbbgaa

/-- The natural of a list of words. -/
def num : List Nat → Nat
  | [] => 0
  | x :: l => x + 2^32 * num l
def W32 (l : List Nat) : Prop := ∀ x ∈ l, x < 2^32

theorem num_nil : num [] = 0 := rfl
theorem num_cons (x : Nat) (l : List Nat) : num (x :: l) = x + 2^32 * num l := rfl
theorem W32.nil : W32 [] := fun _ h => by cases h
theorem W32.cons {x : Nat} {l : List Nat} (hx : x < 2^32) (h : W32 l) : W32 (x :: l) := by
  intro y hy
  rcases List.mem_cons.1 hy with rfl | hy
  · exact hx
  · exact h y hy
theorem W32.tail {x : Nat} {l : List Nat} (h : W32 (x :: l)) : W32 l := fun y hy => h y (List.mem_cons_of_mem _ hy)
theorem W32.head {x : Nat} {l : List Nat} (h : W32 (x :: l)) : x < 2^32 := h x (List.mem_cons_self ..)
theorem W32.get {l : List Nat} (h : W32 l) (i : Nat) : l[i]?.getD 0 < 2^32 := by
  cases e : l[i]? with
  | none => simp
  | some x => exact h x (List.mem_of_getElem? e)
theorem W32.append {l m : List Nat} (h : W32 l) (h' : W32 m) : W32 (l ++ m) := by
  intro x hx
  rcases List.mem_append.1 hx with hx | hx
  · exact h x hx
  · exact h' x hx
theorem W32.take {l : List Nat} (h : W32 l) (n : Nat) : W32 (l.take n) := fun x hx => h x (List.mem_of_mem_take hx)
theorem W32.drop {l : List Nat} (h : W32 l) (n : Nat) : W32 (l.drop n) := fun x hx => h x (List.mem_of_mem_drop hx)
theorem W32.set {l : List Nat} (h : W32 l) (n : Nat) {x : Nat} (hx : x < 2^32) : W32 (l.set n x) := by
  intro y hy
  rcases List.mem_or_eq_of_mem_set hy with hy | rfl
  · exact h y hy
  · exact hx
theorem W32.replicate (n : Nat) : W32 (List.replicate n 0) := by
  intro x hx
  rw [List.eq_of_mem_replicate hx]; omega

theorem pow32 (n : Nat) : 2^(32 * (n + 1)) = 2^32 * 2^(32 * n) := by rw [Nat.mul_add, Nat.mul_one, Nat.pow_add, Nat.mul_comm]

theorem num_append (l m : List Nat) : num (l ++ m) = num l + 2^(32 * l.length) * num m := by
  induction l with
  | nil => simp [num]
  | cons x l ih =>
    rw [List.cons_append, num_cons, num_cons, ih, List.length_cons, pow32, Nat.mul_add, Nat.mul_assoc, Nat.add_assoc]

theorem num_lt {l : List Nat} (h : W32 l) : num l < 2^(32 * l.length) := by
  induction l with
  | nil => simp [num]
  | cons x l ih =>
    have h1 := ih h.tail
    have h2 := h.head
    rw [num_cons, List.length_cons, pow32]
    generalize 2^(32 * l.length) = p at *
    omega

theorem num_replicate (n : Nat) : num (List.replicate n 0) = 0 := by
  induction n with
  | zero => rfl
  | succ n ih => rw [List.replicate_succ, num_cons, ih]

theorem num_take_drop (l : List Nat) (k : Nat) : num l = num (l.take k) + 2^(32 * min k l.length) * num (l.drop k) := by
  have := num_append (l.take k) (l.drop k)
  rw [List.take_append_drop, List.length_take] at this
  exact this

theorem num_take_succ (l : List Nat) (k : Nat) (h : k < l.length) : num (l.take (k + 1)) = num (l.take k) + 2^(32 * k) * l[k]?.getD 0 := by
  rw [List.take_succ_eq_append_getElem h, num_append, List.length_take, Nat.min_eq_left (by omega)]
  simp [num, h]

theorem num_set (l : List Nat) (k x : Nat) (h : k < l.length) : num (l.set k x) + 2^(32 * k) * l[k]?.getD 0 = num l + 2^(32 * k) * x := by
  induction l generalizing k with
  | nil => simp at h
  | cons y l ih =>
    cases k with
    | zero => simp [num]; omega
    | succ k =>
      have := ih k (by simpa using h)
      rw [List.set_cons_succ, num_cons, num_cons, pow32]
      rw [show (y :: l)[k + 1]?.getD 0 = l[k]?.getD 0 from rfl]
      rw [Nat.mul_assoc, Nat.mul_assoc]
      generalize 2^(32 * k) * l[k]?.getD 0 = a at *
      generalize 2^(32 * k) * x = b at *
      omega

/-! ### Without noughts at the high end -/

def trim : List Nat → List Nat
  | [] => []
  | x :: l => if trim l = [] ∧ x = 0 then [] else x :: trim l

/-- How many words there are without the noughts at the high end. -/
def wlen (l : List Nat) : Nat := (trim l).length

theorem trim_eq_nil {l : List Nat} : trim l = [] ↔ num l = 0 := by
  induction l with
  | nil => simp [trim, num]
  | cons x l ih =>
    unfold trim
    rw [num_cons]
    split
    · rename_i h
      have := ih.1 h.1
      simp [this, h.2]
    · rename_i h
      simp
      intro hx h0
      exact h ⟨ih.2 (by omega), hx⟩

theorem num_trim (l : List Nat) : num (trim l) = num l := by
  induction l with
  | nil => rfl
  | cons x l ih =>
    unfold trim
    split
    · rename_i h
      rw [num_cons, h.2, trim_eq_nil.1 h.1]; rfl
    · rw [num_cons, num_cons, ih]

theorem trim_eq_take (l : List Nat) : trim l = l.take (wlen l) := by
  induction l with
  | nil => rfl
  | cons x l ih =>
    unfold wlen
    unfold trim
    split
    · simp
    · rw [List.length_cons, List.take_succ_cons]
      congr 1

theorem wlen_le (l : List Nat) : wlen l ≤ l.length := by
  have := congrArg List.length (trim_eq_take l)
  rw [List.length_take] at this
  unfold wlen at *
  omega

theorem W32.trim {l : List Nat} (h : W32 l) : W32 (trim l) := by rw [trim_eq_take]; exact h.take _

theorem wlen_eq_zero {l : List Nat} : wlen l = 0 ↔ num l = 0 := by
  unfold wlen
  rw [List.length_eq_zero_iff, trim_eq_nil]

/-- The words behind are noughts; the last one of those that count is none. -/
theorem wlen_of {l : List Nat} {n : Nat} (hn : n ≤ l.length) (h : ∀ j : Nat, n ≤ j → l[j]?.getD 0 = 0) (h' : n = 0 ∨ l[n - 1]?.getD 0 ≠ 0) : wlen l = n := by
  induction l generalizing n with
  | nil => simp at hn; subst hn; rfl
  | cons x l ih =>
    cases n with
    | zero =>
      rw [wlen_eq_zero]
      have hz : ∀ m : List Nat, (∀ j : Nat, m[j]?.getD 0 = 0) → num m = 0 := by
        intro m
        induction m with
        | nil => intro _; rfl
        | cons y m ihm =>
          intro hm
          have h0 := hm 0
          have h1 := ihm (fun j => by have := hm (j + 1); simpa using this)
          simp at h0
          rw [num_cons, h0, h1]
      exact hz _ fun j => h j (Nat.zero_le _)
    | succ n =>
      have h1 : wlen l = n := by
        refine ih (by simpa using hn) (fun j hj => ?_) ?_
        · have := h (j + 1) (by omega); simpa using this
        · rcases n with _ | n
          · exact .inl rfl
          · right
            rcases h' with h' | h'
            · omega
            · simpa using h'
      have h2 : ¬ (Proofs.Ythaojemejpbbgaa.trim l = [] ∧ x = 0) := by
        rintro ⟨ht, rfl⟩
        have : wlen l = 0 := by unfold wlen; rw [ht]; rfl
        rcases h' with h' | h'
        · omega
        · rw [← h1, this] at h'; simp at h'
      unfold wlen Proofs.Ythaojemejpbbgaa.trim
      rw [if_neg h2, List.length_cons]
      unfold wlen at h1
      omega

theorem wlen_spec (l : List Nat) : (∀ j : Nat, wlen l ≤ j → l[j]?.getD 0 = 0) ∧ (wlen l = 0 ∨ l[wlen l - 1]?.getD 0 ≠ 0) := by
  induction l with
  | nil => exact ⟨fun j _ => by simp, .inl rfl⟩
  | cons x l ih =>
    by_cases h : Proofs.Ythaojemejpbbgaa.trim l = [] ∧ x = 0
    · have e : wlen (x :: l) = 0 := by unfold wlen Proofs.Ythaojemejpbbgaa.trim; rw [if_pos h]; rfl
      have hl : wlen l = 0 := by unfold wlen; rw [h.1]; rfl
      refine ⟨fun j _ => ?_, .inl e⟩
      cases j with
      | zero => simp [h.2]
      | succ j => have := ih.1 j (by omega); simpa using this
    · have e : wlen (x :: l) = wlen l + 1 := by
        unfold wlen
        rw [Proofs.Ythaojemejpbbgaa.trim, if_neg h]; rfl
      refine ⟨fun j hj => ?_, .inr ?_⟩
      · cases j with
        | zero => omega
        | succ j => have := ih.1 j (by omega); simpa using this
      · rw [e]
        rcases ih.2 with h0 | h0
        · rw [h0]
          have ht : Proofs.Ythaojemejpbbgaa.trim l = [] := List.eq_nil_of_length_eq_zero h0
          simp; intro hx; exact h ⟨ht, hx⟩
        · rcases Nat.eq_zero_or_pos (wlen l) with h1 | h1
          · rw [h1] at h0 ⊢
            have ht : Proofs.Ythaojemejpbbgaa.trim l = [] := List.eq_nil_of_length_eq_zero h1
            simp; intro hx; exact h ⟨ht, hx⟩
          · obtain ⟨k, hk⟩ : ∃ k, wlen l = k + 1 := ⟨wlen l - 1, by omega⟩
            rw [hk] at h0 ⊢
            simpa using h0

theorem num_lt_wlen {l : List Nat} (h : W32 l) : num l < 2^(32 * wlen l) := by
  rw [← num_trim l]; exact num_lt h.trim

theorem le_num_wlen {l : List Nat} (h : 0 < wlen l) : 2^(32 * (wlen l - 1)) ≤ num l := by
  have hs := wlen_spec l
  have hl := wlen_le l
  have h1 := num_take_succ l (wlen l - 1) (by omega)
  rw [Nat.sub_add_cancel h, ← trim_eq_take, num_trim] at h1
  have h2 : 0 < l[wlen l - 1]?.getD 0 := by omega
  rw [h1]
  refine Nat.le_trans ?_ (Nat.le_add_left _ _)
  exact Nat.le_mul_of_pos_right _ h2

/-! ### The list of a natural -/

def digs (n : Nat) : List Nat := if h : n = 0 then [] else (n % 2^32) :: digs (n / 2^32)
termination_by n
decreasing_by omega

theorem digs_zero : digs 0 = [] := by unfold digs; simp
theorem digs_pos {n : Nat} (h : n ≠ 0) : digs n = (n % 2^32) :: digs (n / 2^32) := by
  rw [digs, dif_neg h]
theorem W32.digs (n : Nat) : W32 (digs n) := by
  induction n using Nat.strongRecOn with
  | ind n ih =>
    by_cases h : n = 0
    · rw [h, digs_zero]; exact W32.nil
    · rw [digs_pos h]; exact W32.cons (by omega) (ih _ (by omega))
theorem num_digs (n : Nat) : num (digs n) = n := by
  induction n using Nat.strongRecOn with
  | ind n ih =>
    by_cases h : n = 0
    · rw [h, digs_zero]; rfl
    · rw [digs_pos h, num_cons, ih _ (by omega)]; omega
theorem trim_eq_digs {l : List Nat} (h : W32 l) : trim l = digs (num l) := by
  induction l with
  | nil => simp [trim, num, digs_zero]
  | cons x l ih =>
    have hx := h.head
    have h1 := ih h.tail
    unfold Proofs.Ythaojemejpbbgaa.trim
    split
    · rename_i h2
      rw [num_cons, h2.2, trim_eq_nil.1 h2.1, digs_zero]
    · rename_i h2
      have hn : num (x :: l) ≠ 0 := by
        rw [num_cons]; intro h0
        exact h2 ⟨trim_eq_nil.2 (by omega), by omega⟩
      rw [digs_pos hn, num_cons, show (x + 2^32 * num l) % 2^32 = x from by omega, show (x + 2^32 * num l) / 2^32 = num l from by omega, h1]
theorem trim_digs (n : Nat) : trim (digs n) = digs n := by rw [trim_eq_digs (W32.digs n), num_digs]
theorem wlen_digs (n : Nat) : wlen (digs n) = (digs n).length := by unfold wlen; rw [trim_digs]
theorem digs_length_le {n k : Nat} (h : n < 2^(32 * k)) : (digs n).length ≤ k := by
  rcases Nat.lt_or_ge k (digs n).length with h1 | h1
  · have h2 := le_num_wlen (l := digs n) (by rw [wlen_digs]; omega)
    rw [wlen_digs, num_digs] at h2
    have := Nat.pow_le_pow_right (n := 2) (by omega) (show 32 * k ≤ 32 * ((digs n).length - 1) by omega)
    omega
  · exact h1
theorem digs_eq_nil {n : Nat} : digs n = [] ↔ n = 0 := by
  constructor
  · intro h; rw [← num_digs n, h]; rfl
  · rintro rfl; exact digs_zero
theorem digs_length_eq_zero {n : Nat} : (digs n).length = 0 ↔ n = 0 := by rw [List.length_eq_zero_iff, digs_eq_nil]

end Go.Proofs.Ythaojemejpbbgaa

namespace Go.Proofs.Ythaojemejpbbgaa

/-- How two naturals stand: -1, 0, 1. -/
def cmp3 (a b : Nat) : Int := if a < b then -1 else if b < a then 1 else 0
theorem cmp3_lt {a b : Nat} (h : a < b) : cmp3 a b = -1 := if_pos h
theorem cmp3_gt {a b : Nat} (h : b < a) : cmp3 a b = 1 := by unfold cmp3; rw [if_neg (by omega), if_pos h]
theorem cmp3_eq {a b : Nat} (h : a = b) : cmp3 a b = 0 := by unfold cmp3; rw [if_neg (by omega), if_neg (by omega)]
theorem cmp3_range (a b : Nat) : -1 ≤ cmp3 a b ∧ cmp3 a b ≤ 1 := by unfold cmp3; split <;> (try split) <;> omega
theorem cmp3_nonneg {a b : Nat} : 0 ≤ cmp3 a b ↔ b ≤ a := by unfold cmp3; split <;> (try split) <;> omega
theorem cmp3_neg {a b : Nat} : cmp3 a b < 0 ↔ a < b := by unfold cmp3; split <;> (try split) <;> omega
theorem cmp3_zero {a b : Nat} : cmp3 a b = 0 ↔ a = b := by unfold cmp3; split <;> (try split) <;> omega
theorem cmp3_pos {a b : Nat} : 0 < cmp3 a b ↔ b < a := by unfold cmp3; split <;> (try split) <;> omega

theorem num_tail (l : List Nat) : num l = l[0]?.getD 0 + 2^32 * num l.tail := by
  cases l with
  | nil => rfl
  | cons x l => rfl
theorem tail_get (l : List Nat) (i : Nat) : l.tail[i]? = l[i + 1]? := by cases l <;> rfl
theorem W32.tail' {l : List Nat} (h : W32 l) : W32 l.tail := by cases l; exact h; exact h.tail

theorem num_ext {l m : List Nat} (h : ∀ j : Nat, l[j]?.getD 0 = m[j]?.getD 0) : num l = num m := by
  induction l generalizing m with
  | nil =>
    induction m with
    | nil => rfl
    | cons y m ih =>
      have h0 := h 0
      simp at h0
      rw [num_cons, ← h0, ← ih (fun j => by simpa using h (j + 1))]; rfl
  | cons x l ih =>
    rw [num_cons, num_tail m, ← h 0, ih (m := m.tail) (fun j => by rw [tail_get]; simpa using h (j + 1))]; rfl

theorem num_lt_of {l m : List Nat} (hl : W32 l) (i : Nat) (h : ∀ j : Nat, i < j → l[j]?.getD 0 = m[j]?.getD 0) (hi : l[i]?.getD 0 < m[i]?.getD 0) : num l < num m := by
  induction i generalizing l m with
  | zero =>
    have e : num l.tail = num m.tail := num_ext fun j => by rw [tail_get, tail_get]; exact h (j + 1) (by omega)
    rw [num_tail l, num_tail m, e]; omega
  | succ i ih =>
    have := ih hl.tail' (m := m.tail) (fun j hj => by rw [tail_get, tail_get]; exact h (j + 1) (by omega)) (by rw [tail_get, tail_get]; exact hi)
    rw [num_tail l, num_tail m]
    have := hl.get 0
    omega

theorem num_lt_of_wlen {l m : List Nat} (hl : W32 l) (h : wlen l < wlen m) : num l < num m := by
  have h1 := num_lt_wlen hl
  have h2 := le_num_wlen (l := m) (by omega)
  have := Nat.pow_le_pow_right (n := 2) (by omega) (show 32 * wlen l ≤ 32 * (wlen m - 1) by omega)
  omega

/-- One word of it. -/
theorem num_word {l : List Nat} (h : W32 l) (q : Nat) : num l / 2^(32 * q) % 2^32 = l[q]?.getD 0 := by
  induction q generalizing l with
  | zero =>
    have := h.get 0
    rw [num_tail l]; simp; omega
  | succ q ih =>
    have h0 := h.get 0
    rw [← tail_get, ← ih h.tail', pow32, ← Nat.div_div_eq_div_mul]
    congr 2
    rw [num_tail l]; omega

theorem num_drop {l : List Nat} (h : W32 l) (q : Nat) : num (l.drop q) = num l / 2^(32 * q) := by
  induction q generalizing l with
  | zero => simp
  | succ q ih =>
    have h0 := h.get 0
    rw [show l.drop (q + 1) = l.tail.drop q from by cases l <;> simp, ih h.tail', pow32, ← Nat.div_div_eq_div_mul]
    congr 1
    rw [num_tail l]; omega

theorem num_take_next (l : List Nat) (k : Nat) : num (l.take (k + 1)) = num (l.take k) + 2^(32 * k) * l[k]?.getD 0 := by
  rcases Nat.lt_or_ge k l.length with h | h
  · exact num_take_succ l k h
  · rw [List.take_of_length_le (by omega), List.take_of_length_le h, List.getElem?_eq_none h]; rfl

theorem num_take_all {l : List Nat} {n : Nat} (h : wlen l ≤ n) : num (l.take n) = num l := by
  have hs := wlen_spec l
  refine num_ext fun j => ?_
  rcases Nat.lt_or_ge j n with h1 | h1
  · rw [List.getElem?_take_of_lt h1]
  · rw [hs.1 j (by omega), List.getElem?_eq_none (by rw [List.length_take]; omega)]; rfl

theorem num_snoc (l : List Nat) (x : Nat) : num (l ++ [x]) = num l + 2^(32 * l.length) * x := by
  rw [num_append]; simp [num]

theorem num_take_mod {l : List Nat} (h : W32 l) (k : Nat) : num (l.take k) = num l % 2^(32 * k) := by
  induction k generalizing l with
  | zero => simp [num, Nat.mod_one]
  | succ k ih =>
    cases l with
    | nil => simp [num]
    | cons x l =>
      rw [List.take_succ_cons, num_cons, num_cons, ih h.tail, pow32]
      have := h.head
      have e : (x + 2^32 * num l) % (2^32 * 2^(32 * k)) = x + 2^32 * (num l % 2^(32 * k)) := by
        rw [Nat.mod_mul]
        rw [show (x + 2^32 * num l) % 2^32 = x from by omega, show (x + 2^32 * num l) / 2^32 = num l from by omega]
      rw [e]

/-! ### Length, bits -/

def blen (n : Nat) : Nat := if n = 0 then 0 else n.log2 + 1
theorem blen_zero : blen 0 = 0 := rfl
theorem blen_pos {n : Nat} (h : n ≠ 0) : blen n = n.log2 + 1 := if_neg h
theorem blen_half {n : Nat} (h : 0 < n) : blen n = blen (n / 2) + 1 := by
  rw [blen_pos (by omega)]
  by_cases h1 : n / 2 = 0
  · have : n = 1 := by omega
    subst this; rfl
  · rw [blen_pos h1]
    have h2 : 1 ≤ n.log2 := (Nat.le_log2 (by omega)).2 (by omega)
    have h3 := Nat.log2_self_le (n := n) (by omega)
    have h4 : n < 2^(n.log2 + 1) := Nat.lt_log2_self
    have : (n / 2).log2 = n.log2 - 1 := by
      obtain ⟨k, hk⟩ : ∃ k, n.log2 = k + 1 := ⟨n.log2 - 1, by omega⟩
      rw [hk] at h3 h4 ⊢
      rw [Nat.pow_succ] at h3 h4
      exact (Nat.log2_eq_iff h1).2 ⟨by rw [Nat.add_sub_cancel]; omega, by rw [Nat.add_sub_cancel]; omega⟩
    omega
theorem lt_pow_blen (n : Nat) : n < 2^blen n := by
  unfold blen; split
  · omega
  · exact Nat.lt_log2_self
theorem pow_blen_le {n : Nat} (h : 0 < n) : 2^(blen n - 1) ≤ n := by
  rw [blen_pos (by omega)]; exact Nat.log2_self_le (by omega)
theorem blen_le_iff {n k : Nat} : blen n ≤ k ↔ n < 2^k := by
  constructor
  · intro h; exact Nat.lt_of_lt_of_le (lt_pow_blen n) (Nat.pow_le_pow_right (by omega) h)
  · intro h
    by_cases h0 : n = 0
    · subst h0; simp [blen]
    · rw [blen_pos h0]; exact (Nat.log2_lt h0).2 h
theorem blen_eq_zero {n : Nat} : blen n = 0 ↔ n = 0 := by
  constructor
  · intro h; have := lt_pow_blen n; rw [h] at this; omega
  · rintro rfl; rfl
theorem blen_high {hi lo k : Nat} (h : 0 < hi) (hlo : lo < 2^k) : blen (lo + 2^k * hi) = k + blen hi := by
  have h1 := pow_blen_le h
  have h2 := lt_pow_blen hi
  have hb : 0 < blen hi := by have := @blen_eq_zero hi; omega
  have hp := Nat.two_pow_pos k
  refine Nat.le_antisymm (blen_le_iff.2 ?_) ?_
  · rw [Nat.pow_add]
    have : 2^k * (hi + 1) ≤ 2^k * 2^blen hi := Nat.mul_le_mul_left _ (by omega)
    rw [Nat.mul_add] at this; omega
  · rcases Nat.lt_or_ge (blen (lo + 2^k * hi)) (k + blen hi) with h3 | h3
    · exfalso
      have h4 : lo + 2^k * hi < 2^(k + (blen hi - 1)) := blen_le_iff.1 (by omega)
      rw [Nat.pow_add] at h4
      have : 2^k * 2^(blen hi - 1) ≤ 2^k * hi := Nat.mul_le_mul_left _ h1
      omega
    · exact h3

theorem blen_num {l : List Nat} (h : W32 l) (h0 : 0 < wlen l) : blen (num l) = 32 * (wlen l - 1) + blen (l[wlen l - 1]?.getD 0) := by
  have hs := (wlen_spec l).2
  have h1 := num_take_succ l (wlen l - 1) (by have := wlen_le l; omega)
  rw [Nat.sub_add_cancel h0, ← trim_eq_take, num_trim] at h1
  rw [h1, blen_high (by omega)]
  have := num_lt (h.take (wlen l - 1))
  rw [List.length_take, Nat.min_eq_left (by have := wlen_le l; omega)] at this
  exact this

theorem num_bit {l : List Nat} (h : W32 l) (i : Nat) : num l / 2^i % 2 = l[i / 32]?.getD 0 / 2^(i % 32) % 2 := by
  rw [← num_word h]
  have e : 2^i = 2^(32 * (i / 32)) * 2^(i % 32) := by rw [← Nat.pow_add]; congr 1; omega
  rw [e, ← Nat.div_div_eq_div_mul]
  generalize num l / 2^(32 * (i / 32)) = x
  have hr : i % 32 < 32 := Nat.mod_lt _ (by omega)
  generalize i % 32 = r at *
  have e2 : 2^32 = 2^r * (2 * 2^(31 - r)) := by
    rw [← Nat.mul_assoc, Nat.mul_comm (2^r) 2, Nat.mul_assoc, ← Nat.pow_add, show r + (31 - r) = 31 from by omega]
  rw [e2, Nat.mod_mul_right_div_self, Nat.mod_mul_right_mod]

/-! ### What the loops keep -/

/-- A sum, one word on. -/
theorem plus_step {p S a b x c c' A B : Nat} (h : S + p * c = A + B) (hx : x + 4294967296 * c' = c + a + b) :
    S + p * x + 4294967296 * p * c' = A + p * a + (B + p * b) := by
  have : p * (x + 4294967296 * c') = p * (c + a + b) := by rw [hx]
  rw [Nat.mul_add, Nat.mul_add, Nat.mul_add] at this
  rw [Nat.mul_comm 4294967296 p, Nat.mul_assoc]
  omega

/-- A difference, one word on. -/
theorem minus_step {p S a b x c c' A B : Nat} (h : S + B = A + p * c) (hx : x + b + c = a + 4294967296 * c') :
    S + p * x + (B + p * b) = A + p * a + 4294967296 * p * c' := by
  have : p * (x + b + c) = p * (a + 4294967296 * c') := by rw [hx]
  rw [Nat.mul_add, Nat.mul_add, Nat.mul_add] at this
  rw [Nat.mul_comm 4294967296 p, Nat.mul_assoc]
  omega

end Go.Proofs.Ythaojemejpbbgaa

namespace Go.Proofs.Ythaojemejpbbgaa
open Ieee

/-- The magnitude of a rung, in units of 2^-1074. -/
def mag (r : Nat) : Nat := if r < 2^52 then r else (2^52 + r % 2^52) * 2^(r / 2^52 - 1)

theorem mag_small {r : Nat} (h : r < 2^52) : mag r = r := by unfold mag; rw [if_pos h]

/-- A rung by its binade and its significand. -/
theorem mag_form (k q : Nat) (h : k = 0 ∨ 2^52 ≤ q) (hq : q ≤ 2^53) : mag (k * 2^52 + q) = q * 2^k := by
  unfold mag
  rcases Nat.lt_or_ge q (2^52) with h1 | h1
  · rcases h with rfl | h
    · rw [if_pos (by omega), Nat.zero_mul, Nat.zero_add, Nat.pow_zero, Nat.mul_one]
    · omega
  · rw [if_neg (by omega)]
    rcases Nat.lt_or_ge q (2^53) with h2 | h2
    · have e1 : (k * 2^52 + q) % 2^52 = q - 2^52 := by omega
      have e2 : (k * 2^52 + q) / 2^52 - 1 = k := by omega
      rw [e1, e2, Nat.add_sub_of_le h1]
    · obtain rfl : q = 2^53 := by omega
      have e1 : (k * 2^52 + 2^53) % 2^52 = 0 := by omega
      have e2 : (k * 2^52 + 2^53) / 2^52 - 1 = k + 1 := by omega
      rw [e1, e2, Nat.add_zero, ← Nat.pow_add, ← Nat.pow_add, Nat.add_comm 52, Nat.add_comm 53, Nat.add_assoc k 1 52]

/-- Every rung has such a form. -/
theorem rung_form (r : Nat) : ∃ k q, r = k * 2^52 + q ∧ (k = 0 ∨ 2^52 ≤ q) ∧ q < 2^53 := by
  rcases Nat.lt_or_ge r (2^52) with h | h
  · exact ⟨0, r, by omega, .inl rfl, by omega⟩
  · refine ⟨r / 2^52 - 1, 2^52 + r % 2^52, by omega, .inr (by omega), by omega⟩

theorem mag_succ (r : Nat) : mag r < mag (r + 1) := by
  obtain ⟨k, q, rfl, h, hq⟩ := rung_form r
  rw [mag_form k q h (by omega), Nat.add_assoc, mag_form k (q + 1) (by omega) (by omega)]
  exact Nat.mul_lt_mul_of_pos_right (by omega) (Nat.two_pow_pos _)

theorem mag_lt {r s : Nat} (h : r < s) : mag r < mag s := by
  induction s with
  | zero => omega
  | succ s ih =>
    rcases Nat.lt_or_ge r s with h1 | h1
    · exact Nat.lt_trans (ih h1) (mag_succ s)
    · obtain rfl : r = s := by omega
      exact mag_succ r

theorem mag_lt_iff {r s : Nat} : mag r < mag s ↔ r < s := by
  constructor
  · intro h
    rcases Nat.lt_or_ge r s with h1 | h1
    · exact h1
    · rcases Nat.lt_or_ge s r with h2 | h2
      · have := mag_lt h2; omega
      · obtain rfl : r = s := by omega
        omega
  · exact mag_lt

theorem mag_le_iff {r s : Nat} : mag r ≤ mag s ↔ r ≤ s := by
  have := @mag_lt_iff s r
  omega

theorem mag_inj {r s : Nat} (h : mag r = mag s) : r = s := by
  have h1 := @mag_le_iff r s
  have h2 := @mag_le_iff s r
  omega

theorem mag_zero : mag 0 = 0 := rfl
theorem mag_pos {r : Nat} (h : 0 < r) : 0 < mag r := by have := mag_lt h; rw [mag_zero] at this; exact this
theorem mag_eq_zero {r : Nat} : mag r = 0 ↔ r = 0 := by
  constructor
  · intro h; exact mag_inj (h.trans mag_zero.symm)
  · rintro rfl; rfl

/-! ### The rung below a number -/

/-- How many places a number of units has beyond 53. -/
def over (n : Nat) : Nat := n.log2 - 52
/-- The rung at or just below 'n' units. -/
def floorRung (n : Nat) : Nat := over n * 2^52 + n / 2^over n

theorem over_spec (n : Nat) : (over n = 0 ∨ 2^52 ≤ n / 2^over n) ∧ n / 2^over n < 2^53 := by
  unfold over
  by_cases h0 : n = 0
  · subst h0; simp
  have h1 := Nat.log2_self_le h0
  have h2 : n < 2^(n.log2 + 1) := Nat.lt_log2_self
  constructor
  · by_cases h : n.log2 ≤ 52
    · left; omega
    · right
      rw [Nat.le_div_iff_mul_le (Nat.two_pow_pos _), ← Nat.pow_add]
      exact Nat.le_trans (Nat.pow_le_pow_right (by omega) (by omega)) h1
  · rw [Nat.div_lt_iff_lt_mul (Nat.two_pow_pos _), ← Nat.pow_add]
    exact Nat.lt_of_lt_of_le h2 (Nat.pow_le_pow_right (by omega) (by omega))

theorem mag_floorRung (n : Nat) : mag (floorRung n) = n / 2^over n * 2^over n := by
  unfold floorRung
  have h := over_spec n
  exact mag_form _ _ h.1 (by omega)

theorem mag_floorRung_le (n : Nat) : mag (floorRung n) ≤ n := by
  rw [mag_floorRung]; exact Nat.div_mul_le_self _ _

theorem lt_mag_floorRung_succ (n : Nat) : n < mag (floorRung n + 1) := by
  unfold floorRung
  have h := over_spec n
  rw [Nat.add_assoc, mag_form _ _ (by omega) (by omega)]
  have h1 := Nat.lt_div_mul_add (a := n) (Nat.two_pow_pos (over n))
  rw [Nat.add_mul]
  omega

theorem le_floorRung {r n : Nat} : r ≤ floorRung n ↔ mag r ≤ n := by
  constructor
  · intro h; exact Nat.le_trans (mag_le_iff.2 h) (mag_floorRung_le n)
  · intro h
    have := Nat.lt_of_le_of_lt h (lt_mag_floorRung_succ n)
    have := mag_lt_iff.1 this
    omega

theorem floorRung_mag (r : Nat) : floorRung (mag r) = r := by
  have h1 := (@le_floorRung r (mag r)).2 (Nat.le_refl _)
  have h2 := (@le_floorRung (floorRung (mag r)) (mag r)).1 (Nat.le_refl _)
  have := mag_le_iff.1 h2
  omega

/-! ### The nearest rung -/

/-- Is the rest of 'n' by 2^k more than a half, or a half with an odd quotient? -/
def bump (n k : Nat) : Bool := decide (2^k < 2 * (n % 2^k)) || (2^k == 2 * (n % 2^k) && n / 2^k % 2 == 1)
/-- The rung nearest to 'n / 2^d' units, as if there were no infinity. -/
def nearRung (n d : Nat) : Nat := floorRung (n / 2^d) + (bump n (d + over (n / 2^d))).toNat

theorem bump_rest {n k : Nat} (h : bump n k = true) : n / 2^k * 2^k < n := by
  have h0 : 0 < n % 2^k := by
    unfold bump at h
    have := Nat.two_pow_pos k
    simp at h
    omega
  have h1 := Nat.div_add_mod n (2^k)
  rw [Nat.mul_comm] at h1
  omega

theorem div_div_pow (n d k : Nat) : n / 2^d / 2^k = n / 2^(d + k) := by
  rw [Nat.div_div_eq_div_mul, Nat.pow_add]

theorem le_nearRung {r n d : Nat} (h : mag r * 2^d ≤ n) : r ≤ nearRung n d := by
  have : mag r ≤ n / 2^d := (Nat.le_div_iff_mul_le (Nat.two_pow_pos _)).2 h
  have := le_floorRung.2 this
  unfold nearRung; omega

theorem nearRung_le {r n d : Nat} (h : n ≤ mag r * 2^d) : nearRung n d ≤ r := by
  unfold nearRung
  cases hb : bump n (d + over (n / 2^d))
  · simp
    refine mag_le_iff.1 (Nat.le_trans (mag_floorRung_le _) ?_)
    exact Nat.le_trans (Nat.div_le_div_right h) (by rw [Nat.mul_div_cancel _ (Nat.two_pow_pos _)]; exact Nat.le_refl _)
  · have h1 := bump_rest hb
    rw [← div_div_pow, Nat.add_comm d, Nat.pow_add, ← Nat.mul_assoc, ← mag_floorRung] at h1
    have h2 := Nat.lt_of_mul_lt_mul_right (Nat.lt_of_lt_of_le h1 h)
    have := mag_lt_iff.1 h2
    simp; omega

theorem nearRung_mag (r d : Nat) : nearRung (mag r * 2^d) d = r :=
  Nat.le_antisymm (nearRung_le (Nat.le_refl _)) (le_nearRung (Nat.le_refl _))

end Go.Proofs.Ythaojemejpbbgaa

namespace Go.Proofs.Ythaojemejpbbgaa
open Ieee

/-- The rung of infinity. -/
def M : Nat := 2047 * 2^52
theorem infRung_eq : double.infRung = M := by decide
theorem leastPlace_eq : double.leastPlace = -1074 := by decide
theorem binade_eq : double.binade = 2^52 := by decide
theorem signWeight_eq : double.signWeight = 2^63 := by decide

theorem log2_div_pow (n d : Nat) : (n / 2^d).log2 = n.log2 - d := by
  by_cases h : n / 2^d = 0
  · rw [h]
    have h1 : n < 2^d := by
      rcases Nat.div_eq_zero_iff.1 h with h | h
      · have := Nat.two_pow_pos d; omega
      · exact h
    by_cases h0 : n = 0
    · subst h0; simp
    · have := (Nat.log2_lt h0).2 h1
      simp; omega
  · have hn : n ≠ 0 := by rintro rfl; simp at h
    have h1 := Nat.log2_self_le hn
    have h2 : n < 2^(n.log2 + 1) := Nat.lt_log2_self
    have hd : d ≤ n.log2 := by
      rcases Nat.lt_or_ge n.log2 d with h3 | h3
      · exact absurd (Nat.div_eq_of_lt (Nat.lt_of_lt_of_le h2 (Nat.pow_le_pow_right (by omega) (by omega)))) h
      · exact h3
    rw [Nat.log2_eq_iff h]
    constructor
    · rw [Nat.le_div_iff_mul_le (Nat.two_pow_pos _), ← Nat.pow_add, Nat.sub_add_cancel hd]; exact h1
    · rw [Nat.div_lt_iff_lt_mul (Nat.two_pow_pos _), ← Nat.pow_add]
      exact Nat.lt_of_lt_of_le h2 (Nat.pow_le_pow_right (by omega) (by omega))

theorem cut_even (neg : Bool) (n k : Nat) : Toward.even.cut neg n k = n / 2^k + (bump n k).toNat := by
  unfold Toward.cut bump
  simp only [Nat.shiftLeft_eq, Nat.one_mul]
  rcases Nat.lt_or_ge (n.log2 + 2) k with h | h
  · rw [Nat.min_eq_right (by omega)]
    have h2 : n < 2^(n.log2 + 1) := Nat.lt_log2_self
    have h3 : 2^(n.log2 + 2) ≤ 2^k := Nat.pow_le_pow_right (by omega) (by omega)
    have h4 : 2^(n.log2 + 2) = 2 * 2^(n.log2 + 1) := by rw [Nat.pow_succ]; omega
    rw [Nat.div_eq_of_lt (by omega), Nat.div_eq_of_lt (show n < 2^k by omega), Nat.mod_eq_of_lt (by omega), Nat.mod_eq_of_lt (show n < 2^k by omega)]
    have a1 : decide (2^(n.log2 + 2) < 2 * n) = false := decide_eq_false (by omega)
    have a2 : decide (2^k < 2 * n) = false := decide_eq_false (by omega)
    rw [a1, a2]; simp
  · rw [Nat.min_eq_left h]

theorem bump_zero (k : Nat) : bump 0 k = false := by
  unfold bump
  have := Nat.two_pow_pos k
  simp

theorem nearest_low (neg : Bool) (n d : Nat) : double.nearest neg n (-1074 - (d : Int)) = double.word neg (min (nearRung n d) M) := by
  unfold Format.nearest
  by_cases h0 : n = 0
  · subst h0
    rw [if_pos rfl]
    unfold nearRung
    rw [bump_zero, Nat.zero_div]
    rfl
  rw [if_neg h0]
  have ho : over (n / 2^d) = n.log2 - d - 52 := by unfold over; rw [log2_div_pow]
  have hl : max (-1074 - (d : Int) + (n.log2 : Int) - (double.fractionBits : Int)) double.leastPlace = -1074 + (over (n / 2^d) : Int) := by
    rw [ho, leastPlace_eq]
    show max (-1074 - (d : Int) + (n.log2 : Int) - 52) (-1074) = _
    omega
  dsimp only
  rw [hl, leastPlace_eq, binade_eq, infRung_eq]
  have e1 : (-1074 - (d : Int) - (-1074 + (over (n / 2^d) : Int))).toNat = 0 := by omega
  have e2 : (-1074 + (over (n / 2^d) : Int) - (-1074 - (d : Int))).toNat = d + over (n / 2^d) := by omega
  have e3 : (-1074 + (over (n / 2^d) : Int) - -1074).toNat = over (n / 2^d) := by omega
  rw [e1, e2, e3, Nat.shiftLeft_zero, cut_even]
  unfold nearRung floorRung
  rw [div_div_pow, Nat.add_assoc]

theorem nearest_units (neg : Bool) (n : Nat) : double.nearest neg n (-1074) = double.word neg (min (nearRung n 0) M) := by
  have := nearest_low neg n 0
  simpa using this

/-- The value alone counts. -/
theorem nearest_shift (neg : Bool) (n k : Nat) (place : Int) : double.nearest neg n (place + (k : Int)) = double.nearest neg (n * 2^k) place := by
  by_cases h0 : n = 0
  · subst h0; simp [Format.nearest]
  have hk : n * 2^k ≠ 0 := Nat.mul_ne_zero h0 (by have := Nat.two_pow_pos k; omega)
  have hlog : (n * 2^k).log2 = n.log2 + k := by
    rw [Nat.log2_eq_iff hk]
    have h1 := Nat.log2_self_le h0
    have h2 : n < 2^(n.log2 + 1) := Nat.lt_log2_self
    constructor
    · rw [Nat.pow_add]; exact Nat.mul_le_mul_right _ h1
    · rw [show n.log2 + k + 1 = n.log2 + 1 + k from by omega, Nat.pow_add 2 (n.log2 + 1)]; exact Nat.mul_lt_mul_of_pos_right h2 (Nat.two_pow_pos k)
  unfold Format.nearest
  rw [if_neg h0, if_neg hk, hlog]
  dsimp only
  rw [show (place + ((n.log2 + k : Nat) : Int) - (double.fractionBits : Int)) = place + (k : Int) + (n.log2 : Int) - (double.fractionBits : Int) from by omega]
  generalize max (place + (k : Int) + (n.log2 : Int) - (double.fractionBits : Int)) double.leastPlace = last
  congr 3
  rw [cut_even, cut_even, Nat.shiftLeft_eq, Nat.shiftLeft_eq]
  rcases Int.le_total last place with h | h
  · -- both are whole
    rw [show (place + (k : Int) - last).toNat = k + (place - last).toNat from by omega, show (last - (place + (k : Int))).toNat = 0 from by omega, show (last - place).toNat = 0 from by omega, Nat.pow_add, Nat.mul_assoc]
  · obtain ⟨d, hd⟩ : ∃ d : Nat, last = place + d := ⟨(last - place).toNat, by omega⟩
    subst hd
    rcases Nat.le_total d k with hdk | hdk
    · obtain ⟨a, rfl⟩ : ∃ a, k = a + d := ⟨k - d, by omega⟩
      rw [show (place + ((a + d : Nat) : Int) - (place + (d : Int))).toNat = a from by omega, show (place + (d : Int) - (place + ((a + d : Nat) : Int))).toNat = 0 from by omega, show (place - (place + (d : Int))).toNat = 0 from by omega, show (place + (d : Int) - place).toNat = d from by omega]
      rw [Nat.pow_add 2 a d, ← Nat.mul_assoc]
      generalize n * 2^a = m
      have := Nat.two_pow_pos d
      have b1 : bump m 0 = false := by unfold bump; simp [Nat.mod_one]
      have b2 : bump (m * 2^d * 2^0) d = false := by
        unfold bump
        rw [Nat.pow_zero, Nat.mul_one, Nat.mul_mod_left]
        simp
      rw [b1, b2]
      simp only [Nat.pow_zero, Nat.div_one, Nat.mul_one]
      rw [Nat.mul_div_cancel _ this]
    · obtain ⟨a, rfl⟩ : ∃ a, d = k + a := ⟨d - k, by omega⟩
      rw [show (place + (k : Int) - (place + ((k + a : Nat) : Int))).toNat = 0 from by omega, show (place + ((k + a : Nat) : Int) - (place + (k : Int))).toNat = a from by omega, show (place - (place + ((k + a : Nat) : Int))).toNat = 0 from by omega, show (place + ((k + a : Nat) : Int) - place).toNat = k + a from by omega]
      rw [Nat.pow_zero, Nat.mul_one, Nat.mul_one]
      have hp := Nat.two_pow_pos k
      have e1 : n * 2^k / 2^(k + a) = n / 2^a := by rw [Nat.pow_add, Nat.mul_comm n, Nat.mul_div_mul_left _ _ hp]
      have e2 : n * 2^k % 2^(k + a) = 2^k * (n % 2^a) := by rw [Nat.pow_add, Nat.mul_comm n, Nat.mul_mod_mul_left]
      rw [e1]
      congr 2
      unfold bump
      rw [e1, e2, Nat.pow_add]
      generalize 2^a = x
      generalize n % x = y
      generalize 2^k = p at hp
      have c1 : decide (p * x < 2 * (p * y)) = decide (x < 2 * y) := by
        rw [show 2 * (p * y) = p * (2 * y) from by rw [Nat.mul_left_comm]]
        simp [Nat.mul_lt_mul_left hp]
      have c2 : (p * x == 2 * (p * y)) = (x == 2 * y) := by
        rw [show 2 * (p * y) = p * (2 * y) from by rw [Nat.mul_left_comm]]
        rw [Bool.eq_iff_iff]; simp [Nat.mul_right_inj (by omega : p ≠ 0)]
      rw [c1, c2]

theorem nearest_high (neg : Bool) (n k : Nat) : double.nearest neg n (-1074 + (k : Int)) = double.word neg (min (nearRung (n * 2^k) 0) M) := by
  rw [nearest_shift, nearest_units]

end Go.Proofs.Ythaojemejpbbgaa

namespace Go.Proofs.Ythaojemejpbbgaa
open Ieee

def rungOf (b : Nat) : Nat := b % 2^63
def sgn (b : Nat) : Bool := b / 2^63 % 2 == 1
/-- Where a word stands among all: 0 at 0, -M and M at the infinities. -/
def idx (b : Nat) : Int := if sgn b then -(rungOf b : Int) else rungOf b
/-- The number at an index, in units. -/
def val (i : Int) : Int := if i < 0 then -(mag i.natAbs : Int) else mag i.natAbs

/-- Not a NaN. -/
def real (b : Nat) : Prop := rungOf b ≤ M
/-- A number. -/
def fin (b : Nat) : Prop := rungOf b < M
theorem fin.real {b : Nat} (h : fin b) : real b := Nat.le_of_lt h

theorem val_nat (r : Nat) : val (r : Int) = mag r := by
  unfold val; rw [if_neg (by omega), Int.natAbs_natCast]
theorem val_neg (i : Int) : val (-i) = -val i := by
  unfold val
  rw [Int.natAbs_neg]
  rcases Int.lt_trichotomy i 0 with h | h | h
  · rw [if_neg (by omega), if_pos h]; omega
  · subst h; rfl
  · rw [if_pos (by omega), if_neg (by omega)]
theorem val_zero : val 0 = 0 := rfl
theorem val_lt_iff {i j : Int} : val i < val j ↔ i < j := by
  unfold val
  have h1 := @mag_lt_iff i.natAbs j.natAbs
  have h2 := @mag_lt_iff j.natAbs i.natAbs
  have h3 := @mag_eq_zero i.natAbs
  have h4 := @mag_eq_zero j.natAbs
  split <;> split <;> omega
theorem val_le_iff {i j : Int} : val i ≤ val j ↔ i ≤ j := by have := @val_lt_iff j i; omega
theorem val_inj {i j : Int} : val i = val j ↔ i = j := by
  have := @val_le_iff i j; have := @val_le_iff j i; omega
theorem val_pos {i : Int} : 0 < val i ↔ 0 < i := by have := @val_lt_iff 0 i; rwa [val_zero] at this
theorem val_neg_iff {i : Int} : val i < 0 ↔ i < 0 := by have := @val_lt_iff i 0; rwa [val_zero] at this
theorem val_eq_zero {i : Int} : val i = 0 ↔ i = 0 := by have := @val_inj i 0; rwa [val_zero] at this
theorem val_natAbs (i : Int) : (val i).natAbs = mag i.natAbs := by
  unfold val; split <;> omega
theorem idx_natAbs (b : Nat) : (idx b).natAbs = rungOf b := by unfold idx; split <;> omega
theorem val_idx (b : Nat) : val (idx b) = if sgn b then -(mag (rungOf b) : Int) else mag (rungOf b) := by
  unfold idx
  split
  · rw [val_neg, val_nat]
  · rw [val_nat]

theorem signed_eq (s : Bool) (m k : Nat) : signed s m k = if s then -((m * 2^k : Nat) : Int) else ((m * 2^k : Nat) : Int) := by
  unfold signed; rw [Nat.shiftLeft_eq]

/-- A number's word, read. -/
theorem read_fin {b : Nat} (h : fin b) : ∃ m k : Nat, double.read b = .number (sgn b) m (-1074 + (k : Int)) ∧ m * 2^k = mag (rungOf b) ∧ (k = 0 ∨ 2^52 ≤ m) ∧ m < 2^53 := by
  unfold fin rungOf M at h
  unfold Format.read
  rw [signWeight_eq, binade_eq, infRung_eq, leastPlace_eq]
  dsimp only
  unfold rungOf sgn
  by_cases h1 : b % 2^63 < 2^52
  · rw [if_pos h1]
    exact ⟨_, 0, rfl, by rw [mag_small h1, Nat.pow_zero, Nat.mul_one], .inl rfl, by omega⟩
  · rw [if_neg h1, if_pos (show b % 2^63 < M from h)]
    refine ⟨_, b % 2^63 / 2^52 - 1, rfl, ?_, .inr (by omega), by omega⟩
    unfold mag
    rw [if_neg h1]

theorem read_inf {b : Nat} (h : rungOf b = M) : double.read b = .infinity (sgn b) := by
  unfold rungOf M at h
  unfold Format.read
  rw [signWeight_eq, binade_eq, infRung_eq, leastPlace_eq]
  dsimp only
  rw [if_neg (by omega), if_neg (by unfold M; omega), if_pos (show b % 2^63 = M from h)]
  rfl

theorem read_nan {b : Nat} (h : M < rungOf b) : double.read b = .nan (sgn b) (rungOf b - M) := by
  unfold rungOf M at h
  unfold Format.read
  rw [signWeight_eq, binade_eq, infRung_eq, leastPlace_eq]
  dsimp only
  rw [if_neg (by omega), if_neg (by unfold M; omega), if_neg (by unfold M; omega)]
  rfl

theorem read_val {b : Nat} {m k : Nat} (h : m * 2^k = mag (rungOf b)) : signed (sgn b) m k = val (idx b) := by
  rw [signed_eq, val_idx, h]

theorem signed_split (s : Bool) (m a c : Nat) : signed s m (a + c) = signed s m a * 2^c := by
  rw [signed_eq, signed_eq, Nat.pow_add, ← Nat.mul_assoc]
  split
  · rw [Int.natCast_mul, Int.neg_mul]; simp
  · rw [Int.natCast_mul]; simp

/-! ### Comparisons -/

theorem compare_scale (a b : Int) (k : Nat) : compare (a * 2^k) (b * 2^k) = compare a b := by
  have hp : (0 : Int) < 2^k := by exact_mod_cast Nat.two_pow_pos k
  rcases Int.lt_trichotomy a b with h | h | h
  · rw [Int.compare_eq_lt.2 h, Int.compare_eq_lt.2 (Int.mul_lt_mul_of_pos_right h hp)]
  · subst h; rw [Int.compare_eq_eq.2 rfl, Int.compare_eq_eq.2 rfl]
  · rw [Int.compare_eq_gt.2 h, Int.compare_eq_gt.2 (Int.mul_lt_mul_of_pos_right h hp)]

theorem compare_val (i j : Int) : compare (val i) (val j) = compare i j := by
  rcases Int.lt_trichotomy i j with h | h | h
  · rw [Int.compare_eq_lt.2 h, Int.compare_eq_lt.2 (val_lt_iff.2 h)]
  · subst h; rw [Int.compare_eq_eq.2 rfl, Int.compare_eq_eq.2 rfl]
  · rw [Int.compare_eq_gt.2 h, Int.compare_eq_gt.2 (val_lt_iff.2 h)]

theorem order_real {x y : Nat} (hx : real x) (hy : real y) : double.order x y = some (compare (idx x) (idx y)) := by
  unfold Format.order
  have ax := idx_natAbs x
  have ay := idx_natAbs y
  have sx : idx x = if sgn x then -(rungOf x : Int) else rungOf x := rfl
  have sy : idx y = if sgn y then -(rungOf y : Int) else rungOf y := rfl
  have hM : 0 < M := by decide
  unfold real at hx hy
  rcases Nat.lt_or_ge (rungOf x) M with fx | fx <;> rcases Nat.lt_or_ge (rungOf y) M with fy | fy
  · obtain ⟨m, k, e, hm, _⟩ := read_fin fx
    obtain ⟨n, l, e', hn, _⟩ := read_fin fy
    rw [e, e']
    simp only [Datum.order]
    congr 1
    rw [← compare_val (idx x), ← read_val hm, ← read_val hn]
    rcases Nat.le_total k l with h | h
    · rw [show min (-1074 + (k : Int)) (-1074 + (l : Int)) = -1074 + (k : Int) from by omega, show (-1074 + (k : Int) - (-1074 + (k : Int))).toNat = 0 from by omega, show (-1074 + (l : Int) - (-1074 + (k : Int))).toNat = l - k from by omega]
      rw [← compare_scale _ _ k, ← signed_split, ← signed_split, Nat.zero_add, Nat.sub_add_cancel h]
    · rw [show min (-1074 + (k : Int)) (-1074 + (l : Int)) = -1074 + (l : Int) from by omega, show (-1074 + (l : Int) - (-1074 + (l : Int))).toNat = 0 from by omega, show (-1074 + (k : Int) - (-1074 + (l : Int))).toNat = k - l from by omega]
      rw [← compare_scale _ _ l, ← signed_split, ← signed_split, Nat.zero_add, Nat.sub_add_cancel h]
  · obtain ⟨m, k, e, hm, _⟩ := read_fin fx
    rw [e, read_inf (by omega)]
    simp only [Datum.order]
    congr 1; symm
    cases h : sgn y
    · simp [h] at sy ⊢; rw [Int.compare_eq_lt]; omega
    · simp [h] at sy ⊢; rw [Int.compare_eq_gt]; omega
  · obtain ⟨m, k, e, hm, _⟩ := read_fin fy
    rw [e, read_inf (by omega)]
    simp only [Datum.order]
    congr 1; symm
    cases h : sgn x
    · simp [h] at sx ⊢; rw [Int.compare_eq_gt]; omega
    · simp [h] at sx ⊢; rw [Int.compare_eq_lt]; omega
  · rw [read_inf (by omega), read_inf (by omega)]
    simp only [Datum.order]
    congr 1; symm
    cases h : sgn x <;> cases h' : sgn y <;> simp [h, h'] at sx sy ⊢
    · omega
    · rw [show compare 1 0 = Ordering.gt from rfl, Int.compare_eq_gt]; omega
    · rw [show compare 0 1 = Ordering.lt from rfl, Int.compare_eq_lt]; omega
    · omega

theorem order_nan_left {x : Nat} (y : Nat) (hx : M < rungOf x) : double.order x y = none := by
  unfold Format.order; rw [read_nan hx]; rfl
theorem order_nan_right (x : Nat) {y : Nat} (hy : M < rungOf y) : double.order x y = none := by
  unfold Format.order; rw [read_nan hy]; cases double.read x <;> rfl

end Go.Proofs.Ythaojemejpbbgaa
