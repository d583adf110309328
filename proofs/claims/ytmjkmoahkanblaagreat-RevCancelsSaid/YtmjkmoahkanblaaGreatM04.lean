/-
Walks: packages vergeref3 and vergeref6, patterns.
Walks: package vergeref2, RNeg of what is not below nought.
A block of a call's own, laid cell after cell.
Walks: package vergeref6, intervals of patterns.
Walks: package vergeref6, Read.
-/
import Derived.Test.YtmjkmoahkanblaaGreatM01
import Derived.Test.YtmjkmoahkanblaaGreatM03
import Derived.Deep.RegionHeld3
set_option linter.unusedSimpArgs false
set_option linter.unusedVariables false

namespace Go.Proofs.YtmjkmoahkanblaaGreat
open Go.RowKit

theorem size_i {b : Nat} (hb : b < 18446744073709551616) : bits .andNot .u64 (b : Int) 9223372036854775808 = ((rungOf b : Nat) : Int) := by
  have := u64_andNot_nat b 9223372036854775808 hb (by omega)
  rw [show (18446744073709551615 - 9223372036854775808 : Nat) = 2^63 - 1 from rfl, Nat.and_two_pow_sub_one_eq_mod] at this
  exact this

theorem isnan_any (b : Nat) (w : World) (hb : b < 18446744073709551616) :
    Calls Tryz.prog 195 #[.int .u64 (b : Int)] w fun e w' => e = .returned (.bool (decide (M < rungOf b))) ∧ ∃ k, w' = w.drewN k := by
  have H := Lib.hid (size_i hb)
  go_enter Tryz.func195, Tryz.ntmps195
  go_wp2
  go_ret
  rw [H.out, M_val]
  exact ⟨ret_bool (by simp only [decide_eq_decide]; omega), 0, rfl⟩
theorem isinf_any (b : Nat) (w : World) (hb : b < 18446744073709551616) :
    Calls Tryz.prog 137 #[.int .u64 (b : Int)] w fun e w' => e = .returned (.bool (decide (rungOf b = M))) ∧ ∃ k, w' = w.drewN k := by
  have H := Lib.hid (size_i hb)
  go_enter Tryz.func137, Tryz.ntmps137
  go_wp2
  go_ret
  rw [H.out, M_val]
  refine ⟨ret_bool ?_, 0, rfl⟩
  rw [Bool.eq_iff_iff]
  simp only [beq_iff_eq, decide_eq_true_eq]
  omega
theorem plain_any (b : Nat) (w : World) (hb : b < 18446744073709551616) :
    Calls Tryz.prog 136 #[.int .u64 (b : Int)] w fun e w' => e = .returned (.int .u64 (pl b : Int)) ∧ ∃ k, w' = w.drewN k := by
  have H := Lib.hid fun W => isnan_any b W hb
  rcases Nat.lt_trichotomy b 9223372036854775808 with h | h | h
  all_goals
    first
    | (subst h
       go_enter Tryz.func136, Tryz.ntmps136
       go_wp2
       go_ret
       exact ⟨ret_int rfl, 0, rfl⟩)
    | (have h1 : ((b : Int) == 9223372036854775808) = false := by simp; omega
       have hp : pl b = if M < rungOf b then 9221120237041090561 else b := by unfold pl; rw [if_neg (by omega)]
       have HP := Lib.hid hp
       rcases Nat.lt_or_ge M (rungOf b) with h2 | h2
       · rw [if_pos h2] at hp
         rw [decide_eq_true h2] at H
         rw [hp]
         clear h hp HP h2
         go_enter Tryz.func136, Tryz.ntmps136
         go_wp2_with (refine (H.out _).mono ?_; rintro e w1 ⟨rfl, k, rfl⟩)
         go_ret
         exact ⟨rfl, k, rfl⟩
       · rw [if_neg (by omega)] at hp
         rw [decide_eq_false (show ¬ M < rungOf b from by omega)] at H
         rw [hp]
         clear h hp HP h2
         go_enter Tryz.func136, Tryz.ntmps136
         go_wp2_with (refine (H.out _).mono ?_; rintro e w1 ⟨rfl, k, rfl⟩)
         go_ret
         exact ⟨rfl, k, rfl⟩)
theorem key_any (b : Nat) (w : World) (hb : b < 18446744073709551616) :
    Calls Tryz.prog 231 #[.int .u64 (b : Int)] w fun e w' => e = .returned (.int .u64 (keyOf b : Int)) ∧ ∃ k, w' = w.drewN k := by
  have H := Lib.hid fun W => plain_any b W hb
  have hp := pl_lt b hb
  obtain ⟨p, hpp⟩ : ∃ p, pl b = p := ⟨_, rfl⟩
  have hk : keyOf b = if 9223372036854775808 ≤ p then 18446744073709551615 - p else p + 9223372036854775808 := by unfold keyOf; rw [hpp]
  rw [hpp] at H hp
  rw [hk]
  have HP := Lib.hid hp
  obtain ⟨r, hr⟩ : ∃ r, (if 9223372036854775808 ≤ p then 18446744073709551615 - p else p + 9223372036854775808) = r := ⟨_, rfl⟩
  rw [hr]
  rcases Nat.lt_or_ge p 9223372036854775808 with h | h
  · rw [if_neg (by omega)] at hr
    have h1 : decide (9223372036854775808 ≤ (p : Int)) = false := by simp; omega
    have h2 : bits .or .u64 (p : Int) 9223372036854775808 = ((r : Nat) : Int) := by
      have := u64_or_nat p 9223372036854775808 hp (by omega)
      rw [Nat.or_comm, nat_join 63 _ _ (by decide) (by exact h), Nat.add_comm, hr] at this; exact this
    clear h hp hk hpp hr
    go_enter Tryz.func231, Tryz.ntmps231
    go_wp2_with fail
    refine (H.out _).mono ?_
    rintro e w1 ⟨rfl, k, rfl⟩
    go_wp2
    go_ret
    exact ⟨ret_int rfl, k, rfl⟩
  · rw [if_pos h] at hr
    have h1 : (9223372036854775808 ≤ (p : Int)) := by omega
    have h2 : bits .xor .u64 18446744073709551615 (p : Int) = ((r : Nat) : Int) := by
      have := u64_xor_nat 18446744073709551615 p (by omega) hp
      rw [show (18446744073709551615 : Nat) = 2^64 - 1 from rfl] at this
      rw [show ((18446744073709551615 : Int)) = ((2^64 - 1 : Nat) : Int) from rfl, this, ← hr]
      congr 1
      apply Nat.eq_of_testBit_eq
      intro i
      rw [Nat.testBit_xor, Nat.testBit_two_pow_sub_one, show 2^64 - 1 - p = 2^64 - (p + 1) from by omega, Nat.testBit_two_pow_sub_succ hp]
      by_cases hi : i < 64
      · simp [hi]
      · simp [hi]
        exact Nat.testBit_lt_two_pow (Nat.lt_of_lt_of_le hp (Nat.pow_le_pow_right (n := 2) (by omega) (by omega : 64 ≤ i)))
    have H2 := Lib.hid h2
    clear h hp hk hpp h2 hr
    go_enter Tryz.func231, Tryz.ntmps231
    go_wp2_with (refine (H.out _).mono ?_; rintro e w1 ⟨rfl, k, rfl⟩)
    go_ret
    exact ⟨ret_int H2.out, k, rfl⟩
theorem above_any (x y : Nat) (w : World) (hx : x < 18446744073709551616) (hy : y < 18446744073709551616) :
    Calls Tryz.prog 196 #[.int .u64 (x : Int), .int .u64 (y : Int)] w fun e w' => e = .returned (.bool (decide (rungOf x ≤ M ∧ rungOf y ≤ M ∧ idx y < idx x))) ∧ ∃ k, w' = w.drewN k := by
  have H1 := Lib.hid fun W => isnan_any x W hx
  have H2 := Lib.hid fun W => isnan_any y W hy
  have K1 := Lib.hid fun W => key_any x W hx
  have K2 := Lib.hid fun W => key_any y W hy
  by_cases h1 : M < rungOf x
  · rw [decide_eq_true h1] at H1
    rw [decide_eq_false (show ¬ (rungOf x ≤ M ∧ rungOf y ≤ M ∧ idx y < idx x) from by omega)]
    clear h1
    go_enter Tryz.func196, Tryz.ntmps196
    go_wp2_with (first | (go_at_call 195; refine (H1.out _).mono ?_; rintro e w1 ⟨rfl, k, rfl⟩))
    go_ret
    exact ⟨rfl, k, rfl⟩
  · rw [decide_eq_false h1] at H1
    by_cases h2 : M < rungOf y
    · rw [decide_eq_true h2] at H2
      rw [decide_eq_false (show ¬ (rungOf x ≤ M ∧ rungOf y ≤ M ∧ idx y < idx x) from by omega)]
      clear h1 h2
      go_enter Tryz.func196, Tryz.ntmps196
      go_wp2_with fail
      refine (H1.out _).mono ?_; rintro e w1 ⟨rfl, k, rfl⟩
      go_wp2_with fail
      refine (H2.out _).mono ?_; rintro e w1 ⟨rfl, k2, rfl⟩
      go_wp2
      go_ret
      exact ⟨rfl, k + k2, rfl⟩
    · rw [decide_eq_false h2] at H2
      have hk := key_lt hy hx (by omega) (by omega)
      have hd : decide (rungOf x ≤ M ∧ rungOf y ≤ M ∧ idx y < idx x) = decide (keyOf y < keyOf x) := by
        rw [decide_eq_decide]; omega
      rw [hd]
      clear h1 h2 hk hd
      go_enter Tryz.func196, Tryz.ntmps196
      go_wp2_with fail
      refine (H1.out _).mono ?_; rintro e w1 ⟨rfl, k, rfl⟩
      go_wp2_with fail
      refine (H2.out _).mono ?_; rintro e w1 ⟨rfl, k2, rfl⟩
      go_wp2_with fail
      refine (K1.out _).mono ?_; rintro e w1 ⟨rfl, k3, rfl⟩
      go_wp2_with fail
      refine (K2.out _).mono ?_; rintro e w1 ⟨rfl, k4, rfl⟩
      go_wp2
      go_ret
      exact ⟨rfl, k + k2 + k3 + k4, rfl⟩

end Go.Proofs.YtmjkmoahkanblaaGreat

namespace Go.Proofs.YtmjkmoahkanblaaGreat
open Go.RowKit

theorem cell_below {W W' : World} {a : Addr} {v : Value} (h : W.cell? a = some v) (hb : Below W.heap.size W W') : W'.cell? a = some v := by
  have hlt : a.block < W.heap.size := by
    unfold World.cell? at h
    split at h
    · rename_i e
      exact (Array.getElem?_eq_some_iff.1 e).1
    · cases h
  rw [World.cell?_of_block (w := W)]
  · exact h
  · exact hb.block _ hlt

/-- What a cell holds now. -/
def cellOf (W : World) (a : Addr) : Value := (W.cell? a).getD (.bool false)
theorem cellOf_some {W : World} {a : Addr} {v : Value} (h : W.cell? a = some v) : W.cell? a = some (cellOf W a) := by
  unfold cellOf; rw [h]; rfl
theorem frozen_below {W W' : World} {a : Addr} {v : Value} (h : W.cell? a = some v) (hf : W.frozen? a = false) (hb : Below W.heap.size W W') : W'.frozen? a = false := by
  have hlt : a.block < W.heap.size := by
    unfold World.cell? at h
    split at h
    · rename_i e
      exact (Array.getElem?_eq_some_iff.1 e).1
    · cases h
  rw [World.frozen?_of_block (w := W)]
  · exact hf
  · exact hb.block _ hlt
/-- A row of cells that is kept: a ratio's box at g, a result's block at r. -/
theorem held3 {w W W' : World} {a0 a1 a2 r0 r1 r2 : Addr} {v0 v1 v2 : Value} (h : W.cell? a0 = some v0 ∧ W.cell? a1 = some v1 ∧ W.cell? a2 = some v2 ∧ W.cell? r0 = some (cellOf W r0) ∧ W.cell? r1 = some (cellOf W r1) ∧ W.cell? r2 = some (cellOf W r2) ∧
      W.frozen? r0 = false ∧ W.frozen? r1 = false ∧ W.frozen? r2 = false ∧ Below w.heap.size w W) (hb : Below W.heap.size W W') :
    W'.cell? a0 = some v0 ∧ W'.cell? a1 = some v1 ∧ W'.cell? a2 = some v2 ∧ W'.cell? r0 = some (cellOf W' r0) ∧ W'.cell? r1 = some (cellOf W' r1) ∧ W'.cell? r2 = some (cellOf W' r2) ∧
      W'.frozen? r0 = false ∧ W'.frozen? r1 = false ∧ W'.frozen? r2 = false ∧ Below w.heap.size w W' := by
  obtain ⟨h0, h1, h2, h3, h4, h5, h6, h7, h8, h9⟩ := h
  exact ⟨cell_below h0 hb, cell_below h1 hb, cell_below h2 hb, cellOf_some (cell_below h3 hb), cellOf_some (cell_below h4 hb), cellOf_some (cell_below h5 hb),
    frozen_below h3 h6 hb, frozen_below h4 h7 hb, frozen_below h5 h8 hb, h9.trans (hb.mono h9.size)⟩
theorem cell_other {W : World} {a b : Addr} {v : Value} (h : a ≠ b) : (W.setCell a v).cell? b = W.cell? b := World.cell?_setCell_other (h := h) ..
theorem cell_same {W : World} {a : Addr} {v u : Value} (h : W.cell? a = some u) : (W.setCell a v).cell? a = some v := World.cell?_setCell_same (h := h) ..
theorem set3_cells {W : World} {r : Nat} {u0 u1 u2 : Value} (h0 : W.cell? ⟨r, 0, none⟩ = some u0) (h1 : W.cell? ⟨r, 1, none⟩ = some u1) (h2 : W.cell? ⟨r, 2, none⟩ = some u2) (a b d : Value) :
    (((W.setCell ⟨r, 0, none⟩ a).setCell ⟨r, 1, none⟩ b).setCell ⟨r, 2, none⟩ d).cell? ⟨r, 0, none⟩ = some a ∧ (((W.setCell ⟨r, 0, none⟩ a).setCell ⟨r, 1, none⟩ b).setCell ⟨r, 2, none⟩ d).cell? ⟨r, 1, none⟩ = some b ∧
      (((W.setCell ⟨r, 0, none⟩ a).setCell ⟨r, 1, none⟩ b).setCell ⟨r, 2, none⟩ d).cell? ⟨r, 2, none⟩ = some d := by
  have n01 : (⟨r, 0, none⟩ : Addr) ≠ ⟨r, 1, none⟩ := by intro h; injection h; omega
  have n02 : (⟨r, 0, none⟩ : Addr) ≠ ⟨r, 2, none⟩ := by intro h; injection h; omega
  have n12 : (⟨r, 1, none⟩ : Addr) ≠ ⟨r, 2, none⟩ := by intro h; injection h; omega
  refine ⟨?_, ?_, ?_⟩
  · rw [cell_other n02.symm, cell_other n01.symm, cell_same h0]
  · rw [cell_other n12.symm, cell_same (u := u1)]
    rw [cell_other n01]; exact h1
  · rw [cell_same (u := u2)]
    rw [cell_other n12, cell_other n02]; exact h2
theorem held3_set {w W : World} {g r : Nat} {v0 v1 v2 : Value} (hgr : g ≠ r) (hr : w.heap.size ≤ r)
    (h : W.cell? ⟨g, 0, none⟩ = some v0 ∧ W.cell? ⟨g, 1, none⟩ = some v1 ∧ W.cell? ⟨g, 2, none⟩ = some v2 ∧ W.cell? ⟨r, 0, none⟩ = some (cellOf W ⟨r, 0, none⟩) ∧ W.cell? ⟨r, 1, none⟩ = some (cellOf W ⟨r, 1, none⟩) ∧ W.cell? ⟨r, 2, none⟩ = some (cellOf W ⟨r, 2, none⟩) ∧
      W.frozen? ⟨r, 0, none⟩ = false ∧ W.frozen? ⟨r, 1, none⟩ = false ∧ W.frozen? ⟨r, 2, none⟩ = false ∧ Below w.heap.size w W) (a b d : Value) :
    ∀ W', W' = (((W.setCell ⟨r, 0, none⟩ a).setCell ⟨r, 1, none⟩ b).setCell ⟨r, 2, none⟩ d) →
    W'.cell? ⟨g, 0, none⟩ = some v0 ∧ W'.cell? ⟨g, 1, none⟩ = some v1 ∧ W'.cell? ⟨g, 2, none⟩ = some v2 ∧ W'.cell? ⟨r, 0, none⟩ = some (cellOf W' ⟨r, 0, none⟩) ∧ W'.cell? ⟨r, 1, none⟩ = some (cellOf W' ⟨r, 1, none⟩) ∧ W'.cell? ⟨r, 2, none⟩ = some (cellOf W' ⟨r, 2, none⟩) ∧
      W'.frozen? ⟨r, 0, none⟩ = false ∧ W'.frozen? ⟨r, 1, none⟩ = false ∧ W'.frozen? ⟨r, 2, none⟩ = false ∧ Below w.heap.size w W' := by
  obtain ⟨h0, h1, h2, h3, h4, h5, h6, h7, h8, h9⟩ := h
  rintro W' rfl
  obtain ⟨s0, s1, s2⟩ := set3_cells h3 h4 h5 a b d
  have e : ∀ (i j : Nat), (⟨r, j, none⟩ : Addr) ≠ ⟨g, i, none⟩ := by intro i j h; injection h; omega
  have far : ∀ i, (((W.setCell ⟨r, 0, none⟩ a).setCell ⟨r, 1, none⟩ b).setCell ⟨r, 2, none⟩ d).cell? ⟨g, i, none⟩ = W.cell? ⟨g, i, none⟩ := by
    intro i
    rw [cell_other (e i 2), cell_other (e i 1), cell_other (e i 0)]
  refine ⟨(far 0).trans h0, (far 1).trans h1, (far 2).trans h2, cellOf_some s0, cellOf_some s1, cellOf_some s2, ?_, ?_, ?_, below_set3 h9 hr a b d⟩ <;> simp only [World.frozen?_setCell] <;> assumption
theorem Blk.new2 (w : World) (o : Obj) (t : TypeId) (cs : Array Value) : Blk ((w.alloc o).alloc (.cells cs t)) (w.heap.size + 1) t cs := by
  have h := Blk.new (w.alloc o) t cs
  rw [show (w.alloc o).heap.size = w.heap.size + 1 from by simp] at h
  exact h
theorem below_two (w : World) (a b : Obj) : Below w.heap.size w (((w.alloc a).alloc b).drew) := ((below_alloc w a).alloc (by simp) b).drew

set_option maxHeartbeats 1600000 in
theorem rneg_false (K : Nat) (vn vd : Value) (x : Rat) (w : World) (h : RatV w K false vn vd x) (hK : K ≤ 1073741824) :
    Calls Tryz.prog 97 #[.agg #[.bool false, vn, vd]] w (NewRat w K (-x)) := by
  obtain ⟨p, q, A, n, c, B, m, d, rfl, rfl, hu, hv, hq, h0, hp, hq2, rfl⟩ := h
  have hn := hu.len_le hp
  have hm := hv.len_le hq2
  have HU := Lib.hid hu
  have HV := Lib.hid hv
  have hz : n = 0 ↔ p = 0 := by
    have := @digs_length_eq_zero p
    rw [hu.len] at this; exact this
  have HP := Lib.hid hp
  have HQ := Lib.hid hq2
  have H0 := Lib.hid h0
  have HZ := Lib.hid hz
  clear hp hq2 hu hv h0 hz
  have HN : ∀ (W : World) (A : Option Addr) (n c v : Nat), Below w.heap.size w W → U32s w A n c (digs v) → n ≤ K → Calls Tryz.prog 160 #[.slice A n c] W fun e w' => ∃ A1 n1 c1, e = .returned (.slice A1 n1 c1) ∧ U32s w' A1 n1 c1 (digs v) ∧ Below W.heap.size W w' ∧ Below w.heap.size w w' := fun W A n c v hW hu hn =>
    (norm_v A n c _ W (hu.below hW) (by omega) (num_digs v)).mono (by
      rintro e w' ⟨A1, n1, c1, h1, h2, h3, h4, h5⟩
      exact ⟨A1, n1, c1, h1, h2, h5, hW.trans (h5.mono hW.size)⟩)
  have H := Lib.hid HN
  clear HN
  go_enter Tryz.func97, Tryz.ntmps97
  go_wp2_with fail
  go_region_held3 (fun w' => w'.cell? ⟨w.heap.size, 0, none⟩ = some (.bool false) ∧ w'.cell? ⟨w.heap.size, 1, none⟩ = some (.slice A n c) ∧ w'.cell? ⟨w.heap.size, 2, none⟩ = some (.slice B m d) ∧
      w'.cell? ⟨w.heap.size + 1, 0, none⟩ = some (cellOf w' ⟨w.heap.size + 1, 0, none⟩) ∧ w'.cell? ⟨w.heap.size + 1, 1, none⟩ = some (cellOf w' ⟨w.heap.size + 1, 1, none⟩) ∧ w'.cell? ⟨w.heap.size + 1, 2, none⟩ = some (cellOf w' ⟨w.heap.size + 1, 2, none⟩) ∧
      w'.frozen? ⟨w.heap.size + 1, 0, none⟩ = false ∧ w'.frozen? ⟨w.heap.size + 1, 1, none⟩ = false ∧ w'.frozen? ⟨w.heap.size + 1, 2, none⟩ = false ∧ Below w.heap.size w w')
    (first | (exact held3_set (by omega) (by omega) (by assumption) _ _ _ _ rfl) | (exact held3 (by assumption) hb1) | (refine ⟨?_, ?_, ?_, ?_, ?_, ?_, ?_, ?_, ?_, ?_⟩ <;> first | exact below_two _ _ _ | (simp [cellOf]; done) | (go_keep; done) | (trace_state; fail)))
    (first | (go_at_call 160; refine (H.out _ _ _ _ ?_ ?_ ?_ ?_).mono ?_; rotate_left; (first | exact below_two _ _ _ | assumption); (first | exact HU.out | exact HV.out); (assumption); rintro e w1 ⟨A1, n1, c1, rfl, hu1, hb1, hbw⟩))
  rename_i wa Aa na ca hua hba hbwa hHeld
  have hblk := (((Blk.new2 w (.cells #[.bool false, .slice A n c, .slice B m d] 60) 60 #[.bool false, .slice none 0 0, .slice none 0 0]).drewN 1).keep hba).keep hb1
  have z1 : p = 0 → decide (0 < n) = false := by
    intro h; have := HZ.out.2 h; subst this; rfl
  have z2 : -rv false p q = rv (decide (0 < n)) p q := by
    rcases Nat.eq_zero_or_pos n with h | h
    · rw [HZ.out.1 h, rv_zero, rv_zero]; rfl
    · rw [decide_eq_true h, rv_true]
  have hNR : NewRat w K (-rv false p q) (.returned (.agg #[.bool (decide (0 < n)), .slice Aa na ca, .slice A1 n1 c1])) _ :=
    RatV.ret (g := w.heap.size + 1) ⟨p, q, Aa, na, ca, A1, n1, c1, rfl, rfl, hua.below hb1, hu1, hq, z1, HP.out, HQ.out, z2⟩ hbw hblk NoWd.zero (by omega)
  have k := set3_cells (hblk.cell 0) (hblk.cell 1) (hblk.cell 2) (.bool (decide (0 < n))) (.slice Aa na ca) (.slice A1 n1 c1)
  have HNR := Lib.hid hNR
  obtain ⟨k0, k1, k2⟩ := k
  clear hHeld hNR hblk z1 z2 hba hbwa hua hu1 hb1 hbw
  go_wp2
  exact bodyPost_ret (v := .agg #[.bool (decide (0 < n)), .slice Aa na ca, .slice A1 n1 c1]) (by simp [results, Tryz.results97, go_sem, k0, k1, k2]) rfl HNR.out

end Go.Proofs.YtmjkmoahkanblaaGreat

namespace Go.Proofs.YtmjkmoahkanblaaGreat
open Go.RowKit

/-- Cells laid one after another. -/
def sets (W : World) (r : Nat) : Nat → List Value → World
  | _, [] => W
  | i, v :: vs => sets (W.setCell ⟨r, i, none⟩ v) r (i + 1) vs
theorem below_sets {w0 : World} {B r : Nat} (hr : B ≤ r) : ∀ (vs : List Value) (i : Nat) (W : World), Below B w0 W → Below B w0 (sets W r i vs)
  | [], _, _, h => h
  | v :: vs, i, _, h => below_sets hr vs (i + 1) _ (h.setCell (p := ⟨r, i, none⟩) hr v)
theorem heap_sets {r k : Nat} (h : k ≠ r) : ∀ (vs : List Value) (i : Nat) (W : World), (sets W r i vs).heap[k]? = W.heap[k]?
  | [], _, _ => rfl
  | v :: vs, i, W => by
    show (sets (W.setCell ⟨r, i, none⟩ v) r (i + 1) vs).heap[k]? = _
    rw [heap_sets h vs (i + 1)]
    exact Below.heap_setCell W ⟨r, i, none⟩ v k h
theorem size_sets {r : Nat} : ∀ (vs : List Value) (i : Nat) (W : World), (sets W r i vs).heap.size = W.heap.size
  | [], _, _ => rfl
  | v :: vs, i, W => by
    show (sets (W.setCell ⟨r, i, none⟩ v) r (i + 1) vs).heap.size = _
    rw [size_sets vs (i + 1)]
    simp [World.setCell]
theorem Blk.set {W : World} {g : Nat} {t : TypeId} {cs : Array Value} (h : Blk W g t cs) (i : Nat) (v : Value) : Blk (W.setCell ⟨g, i, none⟩ v) g t (cs.setIfInBounds i v) := by
  unfold Blk World.setCell at *
  simp only [Array.getElem?_modify, if_true, h]
  rfl
/-- What a block holds behind it. -/
def laid (cs : Array Value) : Nat → List Value → Array Value
  | _, [] => cs
  | i, v :: vs => laid (cs.setIfInBounds i v) (i + 1) vs
theorem Blk.sets {g : Nat} {t : TypeId} : ∀ (vs : List Value) (i : Nat) (W : World) (cs : Array Value), Blk W g t cs → Blk (sets W g i vs) g t (laid cs i vs)
  | [], _, _, _, h => h
  | v :: vs, i, _, _, h => Blk.sets vs (i + 1) _ _ (h.set i v)
theorem laid_size : ∀ (vs : List Value) (i : Nat) (cs : Array Value), (laid cs i vs).size = cs.size
  | [], _, _ => rfl
  | v :: vs, i, cs => by
    show (laid (cs.setIfInBounds i v) (i + 1) vs).size = _
    rw [laid_size vs (i + 1)]; simp
theorem laid_lt : ∀ (vs : List Value) (i j : Nat) (cs : Array Value), j < i → (laid cs i vs)[j]? = cs[j]?
  | [], _, _, _, _ => rfl
  | v :: vs, i, j, cs, h => by
    show (laid (cs.setIfInBounds i v) (i + 1) vs)[j]? = _
    rw [laid_lt vs (i + 1) j _ (by omega), Array.getElem?_setIfInBounds]
    rw [if_neg (by omega)]
theorem laid_get : ∀ (vs : List Value) (i j : Nat) (cs : Array Value), j < vs.length → i + vs.length ≤ cs.size → (laid cs i vs)[i + j]? = vs[j]?
  | [], _, _, _, h, _ => by simp at h
  | v :: vs, i, 0, cs, _, h => by
    show (laid (cs.setIfInBounds i v) (i + 1) vs)[i + 0]? = _
    simp only [List.length_cons] at h
    rw [laid_lt vs (i + 1) (i + 0) _ (by omega), Array.getElem?_setIfInBounds, Nat.add_zero, if_pos rfl, if_pos (by omega)]
    rfl
  | v :: vs, i, j + 1, cs, h, h' => by
    show (laid (cs.setIfInBounds i v) (i + 1) vs)[i + (j + 1)]? = _
    simp only [List.length_cons] at h h'
    rw [show i + (j + 1) = (i + 1) + j from by omega, laid_get vs (i + 1) j _ (by omega) (by simp; omega)]
    rfl
/-- A cell of a block that was laid whole. -/
theorem sets_cell {W : World} {g : Nat} {t : TypeId} {cs : Array Value} (h : Blk W g t cs) (vs : List Value) (j : Nat) (hj : j < vs.length) (hs : vs.length ≤ cs.size) :
    (sets W g 0 vs).cell? ⟨g, j, none⟩ = vs[j]? := by
  rw [(h.sets vs 0 W cs).cell j]
  have := laid_get vs 0 j cs hj (by omega)
  rw [Nat.zero_add] at this
  exact this
theorem sets_frozen {W : World} {g : Nat} {t : TypeId} {cs : Array Value} (h : Blk W g t cs) (vs : List Value) (j : Nat) : (sets W g 0 vs).frozen? ⟨g, j, none⟩ = false := (h.sets vs 0 W cs).frozen j

/-- No word. -/
def notWd : Value → Bool
  | .int .u32 _ => false
  | _ => true
theorem NoWd.of {cs : Array Value} (h : cs.all notWd = true) : NoWd cs := by
  intro i x hi
  obtain ⟨hlt, he⟩ := Array.getElem?_eq_some_iff.1 hi
  have := Array.all_eq_true.1 h i hlt
  rw [he] at this
  cases this
theorem U32s.sets {W : World} {A : Option Addr} {n c g : Nat} {t : TypeId} {cs : Array Value} {xs : List Nat} (h : U32s W A n c xs) (hb : Blk W g t cs) (hc : NoWd cs) (i : Nat) (vs : List Value) : U32s (sets W g i vs) A n c xs :=
  h.keep (by rw [size_sets]; exact Nat.le_refl _) fun ad e hn => heap_sets (hb.apart hc h ad e hn) vs i W
theorem RatV.sets {W : World} {K : Nat} {neg : Bool} {vn vd : Value} {x : Rat} {g : Nat} {t : TypeId} {cs : Array Value} (h : RatV W K neg vn vd x) (hb : Blk W g t cs) (hc : NoWd cs) (i : Nat) (vs : List Value) : RatV (sets W g i vs) K neg vn vd x := by
  obtain ⟨p, q, A, n, c, B, m, d, rfl, rfl, h3, h4, h5⟩ := h
  exact ⟨p, q, A, n, c, B, m, d, rfl, rfl, h3.sets hb hc i vs, h4.sets hb hc i vs, h5⟩

theorem Blk.at {W : World} {g : Nat} (h : W.heap.size = g) (t : TypeId) (cs : Array Value) : Blk (W.alloc (.cells cs t)) g t cs := by
  subst h; exact Blk.new W t cs
/-- A block of n cells of which none is a word. -/
def HasBlk (W : World) (r : Nat) (t : TypeId) (n : Nat) : Prop := ∃ cs, Blk W r t cs ∧ cs.size = n ∧ NoWd cs
theorem HasBlk.keep {W W' : World} {r : Nat} {t : TypeId} {n : Nat} (h : HasBlk W r t n) (hb : Below W.heap.size W W') : HasBlk W' r t n := by
  obtain ⟨cs, h1, h2, h3⟩ := h
  exact ⟨cs, h1.keep hb, h2, h3⟩
theorem HasBlk.of {W : World} {r : Nat} {t : TypeId} {cs : Array Value} {n : Nat} (h : Blk W r t cs) (hs : cs.size = n) (hc : cs.toList.all notWd = true) : HasBlk W r t n := ⟨cs, h, hs, NoWd.of (by rw [← Array.all_toList]; exact hc)⟩
theorem Blk.someCell {W : World} {g : Nat} {t : TypeId} {cs : Array Value} (h : Blk W g t cs) {j : Nat} (hj : j < cs.size) : W.cell? ⟨g, j, none⟩ = some (cellOf W ⟨g, j, none⟩) := by
  have h1 := h.cell j
  rw [Array.getElem?_eq_getElem hj] at h1
  exact cellOf_some h1
theorem laid_all (vs : List Value) (cs : Array Value) (h : vs.length = cs.size) : laid cs 0 vs = vs.toArray := by
  apply Array.ext_getElem?
  intro j
  rcases Nat.lt_or_ge j vs.length with hj | hj
  · have := laid_get vs 0 j cs hj (by omega)
    rw [Nat.zero_add] at this
    rw [this]; simp
  · rw [Array.getElem?_eq_none (by rw [laid_size]; omega)]
    simp [hj]
theorem HasBlk.sets {W : World} {r : Nat} {t : TypeId} {n : Nat} (h : HasBlk W r t n) (vs : List Value) (hl : vs.length = n) (hv : vs.all notWd = true) : HasBlk (sets W r 0 vs) r t n := by
  obtain ⟨cs, h1, h2, -⟩ := h
  have := h1.sets vs 0 W cs
  rw [laid_all vs cs (by omega)] at this
  exact .of this (by simp [hl]) (by simpa using hv)
theorem Blk.other {W : World} {g r : Nat} {t : TypeId} {cs : Array Value} (h : Blk W g t cs) (hg : g ≠ r) (i : Nat) (vs : List Value) : Blk (Proofs.YtmjkmoahkanblaaGreat.sets W r i vs) g t cs := (heap_sets hg vs i W).trans h
/-- What a block that was laid whole holds. -/
theorem HasBlk.laid {W : World} {r : Nat} {t : TypeId} {n : Nat} (h : HasBlk W r t n) (vs : List Value) (hl : vs.length = n) : Blk (Proofs.YtmjkmoahkanblaaGreat.sets W r 0 vs) r t vs.toArray := by
  obtain ⟨cs, h1, h2, -⟩ := h
  have := h1.sets vs 0 W cs
  rwa [laid_all vs cs (by omega)] at this
theorem HasBlk.lt {W : World} {r : Nat} {t : TypeId} {n : Nat} (h : HasBlk W r t n) : r < W.heap.size := by
  obtain ⟨cs, h1, -⟩ := h
  exact h1.lt
theorem HasBlk.rat {W : World} {K : Nat} {neg : Bool} {vn vd : Value} {x : Rat} {r : Nat} {t : TypeId} {n : Nat} (h : HasBlk W r t n) (hr : RatV W K neg vn vd x) (vs : List Value) : RatV (Proofs.YtmjkmoahkanblaaGreat.sets W r 0 vs) K neg vn vd x := by
  obtain ⟨cs, h1, -, h2⟩ := h
  exact hr.sets h1 h2 0 vs
theorem HasBlk.someCell {W : World} {r : Nat} {t : TypeId} {n : Nat} (h : HasBlk W r t n) (j : Nat) (hj : j < n) : W.cell? ⟨r, j, none⟩ = some (cellOf W ⟨r, j, none⟩) := by
  obtain ⟨cs, h1, h2, -⟩ := h
  exact h1.someCell (by omega)
theorem HasBlk.frozen {W : World} {r : Nat} {t : TypeId} {n : Nat} (h : HasBlk W r t n) (j : Nat) : W.frozen? ⟨r, j, none⟩ = false := by
  obtain ⟨cs, h1, h2, -⟩ := h
  exact h1.frozen j
theorem HasBlk.setCell {W : World} {r : Nat} {t : TypeId} {n : Nat} (h : HasBlk W r t n) (vs : List Value) (hl : vs.length = n) (j : Nat) (hj : j < n) : (Proofs.YtmjkmoahkanblaaGreat.sets W r 0 vs).cell? ⟨r, j, none⟩ = vs[j]? := by
  obtain ⟨cs, h1, h2, -⟩ := h
  exact sets_cell h1 vs j (by omega) (by omega)
theorem HasBlk.drew {W : World} {r : Nat} {t : TypeId} {n : Nat} (h : HasBlk W r t n) : HasBlk W.drew r t n := h
theorem Blk.drew {W : World} {g : Nat} {t : TypeId} {cs : Array Value} (h : Blk W g t cs) : Blk W.drew g t cs := h
theorem HasBlk.alloc {W : World} {r : Nat} {t : TypeId} {n : Nat} (h : HasBlk W r t n) (o : Obj) : HasBlk (W.alloc o) r t n := by
  obtain ⟨cs, h1, h2⟩ := h
  exact ⟨cs, h1.alloc o, h2⟩
theorem HasBlk.other {W : World} {g r : Nat} {t : TypeId} {n : Nat} (h : HasBlk W g t n) (hg : g ≠ r) (i : Nat) (vs : List Value) : HasBlk (Proofs.YtmjkmoahkanblaaGreat.sets W r i vs) g t n := by
  obtain ⟨cs, h1, h2⟩ := h
  exact ⟨cs, h1.other hg i vs, h2⟩
theorem RatV.far {W : World} {K : Nat} {neg : Bool} {vn vd : Value} {x : Rat} {g : Nat} {t : TypeId} {cs : Array Value} (h : RatV W K neg vn vd x) (hb : Blk W g t cs) (hc : cs.toList.all notWd = true) (i : Nat) (v : Value) : RatV (W.setCell ⟨g, i, none⟩ v) K neg vn vd x :=
  h.sets hb (NoWd.of (by rw [← Array.all_toList]; exact hc)) i [v]

end Go.Proofs.YtmjkmoahkanblaaGreat

namespace Go.Proofs.YtmjkmoahkanblaaGreat
open Go.RowKit

theorem empty6 (w : World) :
    Calls Tryz.prog 66 #[] w fun e w' => e = .returned (.agg #[.int .u64 9218868437227405312, .int .u64 18442240474082181120]) ∧ Below w.heap.size w w' := by
  have hb := Lib.hid fun cs => below_alloc w (.cells cs 24)
  go_enter Tryz.func66, Tryz.ntmps66
  go_wp2
  refine bodyPost_ret (v := .agg #[.int .u64 9218868437227405312, .int .u64 18442240474082181120]) (by simp [results, Tryz.results66, go_sem]) rfl ?_
  exact ⟨rfl, hb.out _⟩
theorem entire6 (w : World) :
    Calls Tryz.prog 68 #[] w fun e w' => e = .returned (.agg #[.int .u64 18442240474082181120, .int .u64 9218868437227405312]) ∧ Below w.heap.size w w' := by
  have hb := Lib.hid fun cs => below_alloc w (.cells cs 24)
  go_enter Tryz.func68, Tryz.ntmps68
  go_wp2
  refine bodyPost_ret (v := .agg #[.int .u64 18442240474082181120, .int .u64 9218868437227405312]) (by simp [results, Tryz.results68, go_sem]) rfl ?_
  exact ⟨rfl, hb.out _⟩
theorem sound6 (x y : Nat) (w : World) (hx : x < 18446744073709551616) (hy : y < 18446744073709551616) :
    Calls Tryz.prog 135 #[.agg #[.int .u64 (x : Int), .int .u64 (y : Int)]] w fun e w' => e = .returned (.bool (snd x y)) ∧ Below w.heap.size w w' := by
  have hb := Lib.hid (below_alloc w (.cells #[.int .u64 (x : Int), .int .u64 (y : Int)] 24))
  have H1 := Lib.hid fun W => isnan_any x W hx
  have H2 := Lib.hid fun W => isnan_any y W hy
  have H3 := Lib.hid fun W => above_any x y W hx hy
  obtain ⟨s, hs⟩ : ∃ s, snd x y = s := ⟨_, rfl⟩
  rw [hs]
  by_cases h1 : M < rungOf x
  · rw [decide_eq_true h1] at H1
    have h0 : s = false := by rw [← hs]; exact decide_eq_false (by omega)
    subst h0
    clear h1 hs
    go_enter Tryz.func135, Tryz.ntmps135
    go_wp2_with fail
    refine (H1.out _).mono ?_; rintro e w1 ⟨rfl, k, rfl⟩
    go_wp2
    go_ret
    exact ⟨rfl, below_drewN hb.out k⟩
  · rw [decide_eq_false h1] at H1
    by_cases h2 : M < rungOf y
    · rw [decide_eq_true h2] at H2
      have h0 : s = false := by rw [← hs]; exact decide_eq_false (by omega)
      subst h0
      clear h1 h2 hs
      go_enter Tryz.func135, Tryz.ntmps135
      go_wp2_with fail
      refine (H1.out _).mono ?_; rintro e w1 ⟨rfl, k, rfl⟩
      go_wp2_with fail
      refine (H2.out _).mono ?_; rintro e w1 ⟨rfl, k2, rfl⟩
      go_wp2
      go_ret
      exact ⟨rfl, below_drewN hb.out _⟩
    · rw [decide_eq_false h2] at H2
      by_cases h3 : idx y < idx x
      · rw [decide_eq_true (show rungOf x ≤ M ∧ rungOf y ≤ M ∧ idx y < idx x from ⟨by omega, by omega, h3⟩)] at H3
        have h0 : s = false := by rw [← hs]; exact decide_eq_false (by omega)
        subst h0
        clear h1 h2 h3 hs
        go_enter Tryz.func135, Tryz.ntmps135
        go_wp2_with fail
        refine (H1.out _).mono ?_; rintro e w1 ⟨rfl, k, rfl⟩
        go_wp2_with fail
        refine (H2.out _).mono ?_; rintro e w1 ⟨rfl, k2, rfl⟩
        go_wp2_with fail
        refine (H3.out _).mono ?_; rintro e w1 ⟨rfl, k3, rfl⟩
        go_wp2
        go_ret
        exact ⟨rfl, below_drewN hb.out _⟩
      · rw [decide_eq_false (show ¬ (rungOf x ≤ M ∧ rungOf y ≤ M ∧ idx y < idx x) from fun h => h3 h.2.2)] at H3
        have c1 := pat_cases hx
        have c2 := pat_cases hy
        have h0 : s = ((!((x : Int) == 9218868437227405312)) && (!((y : Int) == 18442240474082181120))) := by
          rw [← hs]; unfold snd
          rw [M_val] at *
          rw [Bool.eq_iff_iff]
          simp only [decide_eq_true_eq, Bool.and_eq_true, Bool.not_eq_true', beq_eq_false_iff_ne, ne_eq]
          omega
        have HS := Lib.hid h0
        clear h1 h2 h3 hs c1 c2 h0
        by_cases h4 : x = 9218868437227405312
        · subst h4
          go_enter Tryz.func135, Tryz.ntmps135
          go_wp2_with fail
          refine (H1.out _).mono ?_; rintro e w1 ⟨rfl, k, rfl⟩
          go_wp2_with fail
          refine (H2.out _).mono ?_; rintro e w1 ⟨rfl, k2, rfl⟩
          go_wp2_with fail
          refine (H3.out _).mono ?_; rintro e w1 ⟨rfl, k3, rfl⟩
          go_wp2
          go_ret
          exact ⟨ret_bool HS.out.symm, below_drewN hb.out _⟩
        · have h5 : ((x : Int) == 9218868437227405312) = false := by simp; omega
          rw [h5] at HS
          have h6 : ((x : Int) != 9218868437227405312) = true := by simp; omega
          have HS2 := Lib.hid (show s = ((y : Int) != 18442240474082181120) from by rw [HS.out]; rfl)
          clear h4 h5 HS
          go_enter Tryz.func135, Tryz.ntmps135
          go_wp2_with fail
          refine (H1.out _).mono ?_; rintro e w1 ⟨rfl, k, rfl⟩
          go_wp2_with fail
          refine (H2.out _).mono ?_; rintro e w1 ⟨rfl, k2, rfl⟩
          go_wp2_with fail
          refine (H3.out _).mono ?_; rintro e w1 ⟨rfl, k3, rfl⟩
          go_wp2
          go_ret
          exact ⟨ret_bool HS2.out.symm, below_drewN hb.out _⟩

end Go.Proofs.YtmjkmoahkanblaaGreat

namespace Go.Proofs.YtmjkmoahkanblaaGreat
open Go.RowKit

theorem plain_b (b : Nat) (w : World) (hb : b < 18446744073709551616) :
    Calls Tryz.prog 136 #[.int .u64 (b : Int)] w fun e w' => e = .returned (.int .u64 (pl b : Int)) ∧ Below w.heap.size w w' :=
  (plain_any b w hb).mono (by rintro e w' ⟨h, k, rfl⟩; exact ⟨h, below_drewN (Below.refl _ _) k⟩)

set_option maxHeartbeats 1600000 in
theorem read6 (x y : Nat) (w : World) (hx : x < 18446744073709551616) (hy : y < 18446744073709551616) :
    Calls Tryz.prog 65 #[.agg #[.int .u64 (x : Int), .int .u64 (y : Int)]] w fun e w' => e = .returned (.agg #[.int .u64 (pat (rd x y).1 : Int), .int .u64 (pat (rd x y).2 : Int)]) ∧ Below w.heap.size w w' := by
  have ba : Below w.heap.size w ((w.alloc (.cells #[.int .u64 (x : Int), .int .u64 (y : Int)] 24)).alloc (.cells #[.int .u64 0, .int .u64 0] 24)) := (below_alloc w _).alloc (by simp) _
  have HS := Lib.hid fun W => sound6 x y W hx hy
  have g1 := (Blk.new w 24 #[.int .u64 (x : Int), .int .u64 (y : Int)]).alloc (.cells #[.int .u64 0, .int .u64 0] 24)
  have g2 := Blk.new2 w (.cells #[.int .u64 (x : Int), .int .u64 (y : Int)] 24) 24 #[.int .u64 0, .int .u64 0]
  have G1 := Lib.hid g1
  have G2 := Lib.hid g2
  have BA := Lib.hid ba
  clear g1 g2 ba
  obtain ⟨s, hs⟩ : ∃ s, snd x y = s := ⟨_, rfl⟩
  rw [hs] at HS
  unfold rd
  rw [hs]
  cases s
  · simp only [Bool.false_eq_true, if_false]
    rw [pat_max, pat_min]
    clear hs
    have HE := Lib.hid empty6
    go_enter Tryz.func65, Tryz.ntmps65
    go_wp2_with fail
    refine (HS.out _).mono ?_; rintro e w1 ⟨rfl, hb1⟩
    have B1 := Lib.hid (BA.out.trans (hb1.mono BA.out.size))
    have K1 := Lib.hid (HasBlk.of (n := 2) (G2.out.keep hb1) rfl rfl)
    clear hb1
    go_wp2_with fail
    refine (HE.out _).mono ?_; rintro e w2 ⟨rfl, hb2⟩
    have B2 := Lib.hid (B1.out.trans (hb2.mono B1.out.size))
    have K2 := Lib.hid (K1.out.keep hb2)
    clear hb2
    obtain ⟨cs, hblk, hsz, hnw⟩ := K2.out
    have c0 := hblk.someCell (j := 0) (by omega); have c1 := hblk.someCell (j := 1) (by omega); have f0 := hblk.frozen 0; have f1 := hblk.frozen 1
    have k0 := sets_cell hblk [.int .u64 9218868437227405312, .int .u64 18442240474082181120] 0 (by decide) (by simp; omega)
    have k1 := sets_cell hblk [.int .u64 9218868437227405312, .int .u64 18442240474082181120] 1 (by decide) (by simp; omega)
    have F := Lib.hid (below_sets (w0 := w) (r := w.heap.size + 1) (by omega) [.int .u64 9218868437227405312, .int .u64 18442240474082181120] 0 _ B2.out)
    simp [sets] at k0 k1
    clear hblk hsz hnw
    go_wp2
    refine bodyPost_ret (v := .agg #[.int .u64 9218868437227405312, .int .u64 18442240474082181120]) (by simp [results, Tryz.results65, go_sem, k0, k1]) rfl ?_
    exact ⟨rfl, F.out⟩
  · simp only [if_true]
    have hd := of_decide_eq_true hs
    rw [← pl_real hx hd.1, ← pl_real hy hd.2.1]
    clear hs hd
    have P1 := Lib.hid fun W => plain_b x W hx
    have P2 := Lib.hid fun W => plain_b y W hy
    go_enter Tryz.func65, Tryz.ntmps65
    go_wp2_with fail
    refine (HS.out _).mono ?_; rintro e w1 ⟨rfl, hb1⟩
    have g0 : Blk w1.drew w.heap.size 24 #[.int .u64 (x : Int), .int .u64 (y : Int)] ∧ HasBlk w1.drew (w.heap.size + 1) 24 2 ∧ Below w.heap.size w w1.drew := ⟨G1.out.keep hb1.drew, HasBlk.of (G2.out.keep hb1.drew) rfl rfl, (BA.out.trans (hb1.mono BA.out.size)).drew⟩
    clear hb1
    go_wp2_with fail
    refine wp_region_held_drew (S := fun W' => Blk W' w.heap.size 24 #[.int .u64 (x : Int), .int .u64 (y : Int)] ∧ HasBlk W' (w.heap.size + 1) 24 2 ∧ Below w.heap.size w W') (by kernel_rfl) (g0) (fun hHeld => ?_)
    refine wpAnyH_take (i := 0) (v := ?_) rfl (by kernel_rfl) (by kernel_rfl) (by kernel_rfl) (fun _ _ _ h => h) (Or.inl ⟨by rfl, ?_⟩) (by assumption) ?_
    rotate_left
    · (intro W2 hSw; go_simp; (try with_reducible rfl))
    try simp only [Act.put, List.setIfInBounds_toArray, List.set_cons_zero, List.set_cons_succ]
    refine wpAnyH_take (i := 1) (v := ?_) rfl (by kernel_rfl) (by kernel_rfl) (by kernel_rfl) (fun _ _ _ h => h) (Or.inl ⟨by rfl, ?_⟩) (by assumption) ?_
    rotate_left
    · (intro W2 hSw; have q := hSw.1.cell 0; have q1 := hSw.1.cell 1; simp at q q1; go_simp; (try with_reducible rfl))
    try simp only [Act.put, List.setIfInBounds_toArray, List.set_cons_zero, List.set_cons_succ]
    refine wpAnyH_take (i := 3) (v := ?_) rfl (by kernel_rfl) (by kernel_rfl) (by kernel_rfl) (fun _ _ _ h => h) (Or.inl ⟨by rfl, ?_⟩) (by assumption) ?_
    rotate_left
    · (intro W2 hSw; go_simp; (try with_reducible rfl))
    try simp only [Act.put, List.setIfInBounds_toArray, List.set_cons_zero, List.set_cons_succ]
    refine wpAnyH_take (i := 4) (v := ?_) rfl (by kernel_rfl) (by kernel_rfl) (by kernel_rfl) (fun _ _ _ h => h) (Or.inl ⟨by rfl, ?_⟩) (by assumption) ?_
    rotate_left
    · (intro W2 hSw; have q := hSw.1.cell 0; have q1 := hSw.1.cell 1; simp at q q1; go_simp; (try with_reducible rfl))
    try simp only [Act.put, List.setIfInBounds_toArray, List.set_cons_zero, List.set_cons_succ]
    refine wpAnyH_ready (rs := [2]) (by kernel_rfl) (by simp) ?_
    refine AllReadyH.cons rfl (fun KK hKK => ?_) AllReadyH.nil
    go_simp
    refine (P1.out _).mono ?_
    rintro e w2 ⟨rfl, hb2⟩
    go_wp2_with fail
    refine hKK.out _ _ (⟨hHeld.1.keep hb2, hHeld.2.1.keep hb2, hHeld.2.2.trans (hb2.mono hHeld.2.2.size)⟩) (fun _ => ?_)
    clear hKK KK hHeld; rename_i hHeld
    try simp only [Act.put, List.setIfInBounds_toArray, List.set_cons_zero, List.set_cons_succ]
    refine wpAnyH_ready (rs := [5]) (by kernel_rfl) (by simp) ?_
    refine AllReadyH.cons rfl (fun KK hKK => ?_) AllReadyH.nil
    go_simp
    refine (P2.out _).mono ?_
    rintro e w3 ⟨rfl, hb3⟩
    go_wp2_with fail
    refine hKK.out _ _ (⟨hHeld.1.keep hb3, hHeld.2.1.keep hb3, hHeld.2.2.trans (hb3.mono hHeld.2.2.size)⟩) (fun _ => ?_)
    clear hKK KK hHeld; rename_i hHeld
    try simp only [Act.put, List.setIfInBounds_toArray, List.set_cons_zero, List.set_cons_succ]
    refine wpAnyH_take (i := 6) (v := ?_) rfl (by kernel_rfl) (by kernel_rfl) (by kernel_rfl) (fun _ _ _ h => h) (Or.inl ⟨by rfl, ?_⟩) (by assumption) ?_
    rotate_left
    · (intro W2 hSw; go_simp; (try with_reducible rfl))
    try simp only [Act.put, List.setIfInBounds_toArray, List.set_cons_zero, List.set_cons_succ]
    refine wpAnyH_ready (rs := [7]) (by kernel_rfl) (by simp) ?_
    refine AllReadyH.cons rfl (fun KK hKK => ?_) AllReadyH.nil
    have c0 := hHeld.2.1.someCell 0 (by decide); have c1 := hHeld.2.1.someCell 1 (by decide); have f0 := hHeld.2.1.frozen 0; have f1 := hHeld.2.1.frozen 1; have HK := Lib.hid (hHeld.2.1.setCell [.int .u64 (pl x : Int), .int .u64 (pl y : Int)] rfl); have F := Lib.hid (below_sets (w0 := w) (r := w.heap.size + 1) (by omega) [.int .u64 (pl x : Int), .int .u64 (pl y : Int)] 0 _ hHeld.2.2)
    go_simp
    refine hKK.out _ _ (show _ ∧ _ from ⟨hHeld.1.other (by omega) 0 [.int .u64 (pl x : Int), .int .u64 (pl y : Int)], hHeld.2.1.sets [.int .u64 (pl x : Int), .int .u64 (pl y : Int)] rfl rfl, below_sets (by omega) [.int .u64 (pl x : Int), .int .u64 (pl y : Int)] 0 _ hHeld.2.2⟩) (fun _ => ?_)
    clear hKK KK hHeld; rename_i hHeld
    try simp only [Act.put, List.setIfInBounds_toArray, List.set_cons_zero, List.set_cons_succ]
    refine wpAnyH_done (by kernel_rfl) ?_ _
    have k0 := HK.out 0 (by decide)
    have k1 := HK.out 1 (by decide)
    simp [sets] at k0 k1
    clear hHeld HK
    go_wp2
    refine bodyPost_ret (v := .agg #[.int .u64 (pl x : Int), .int .u64 (pl y : Int)]) (by simp [results, Tryz.results65, go_sem, k0, k1]) rfl ?_
    exact ⟨rfl, F.out⟩

end Go.Proofs.YtmjkmoahkanblaaGreat
