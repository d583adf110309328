/-
Walks: package math: Abs, IsNaN, IsInf, Copysign, Nextafter; package round: plain, odd, nudge.
Walks: package rel, IsCommon; package ival, Entire.
Walks: package vergeref2, Plus.
-/
import Derived.Test.YtmjkmoahkanblaaGreatPGoA
import Derived.Test.YtmjkmoahkanblaaGreatM04
import Derived.Test.YtmjkmoahkanblaaGreatM12
import Derived.Test.YtmjkmoahkanblaaGreatPBothT
import Derived.Test.YtmjkmoahkanblaaGreatM02
import Derived.Test.YtmjkmoahkanblaaGreatM01
set_option linter.unusedSimpArgs false
set_option linter.unusedVariables false

namespace Go.Proofs.YtmjkmoahkanblaaGreat
open Go.RowKit
attribute [local go_sem] run_store_float run_frombits run_bitsof run_negf

theorem ord_lt {a b : Nat} (ha : rungOf a ≤ M) (hb : rungOf b ≤ M) (h : idx a < idx b) : FloatKind.f64.format.order a b = some .lt := by
  have := order_real ha hb
  rw [Int.compare_eq_lt.2 h] at this; exact this
theorem ord_eq {a b : Nat} (ha : rungOf a ≤ M) (hb : rungOf b ≤ M) (h : idx a = idx b) : FloatKind.f64.format.order a b = some .eq := by
  have := order_real ha hb
  rw [Int.compare_eq_eq.2 h] at this; exact this
theorem ord_gt {a b : Nat} (ha : rungOf a ≤ M) (hb : rungOf b ≤ M) (h : idx b < idx a) : FloatKind.f64.format.order a b = some .gt := by
  have := order_real ha hb
  rw [Int.compare_eq_gt.2 h] at this; exact this
theorem real_zero : rungOf 0 ≤ M := by decide
theorem idx_zero : idx 0 = 0 := by decide
theorem real_max : rungOf 9218868437227405312 ≤ M := by decide
theorem real_min : rungOf 18442240474082181120 ≤ M := by decide
theorem idx_max : idx 9218868437227405312 = M := by decide
theorem idx_min : idx 18442240474082181120 = -(M : Int) := by decide
theorem real_top : rungOf 9218868437227405311 ≤ M := by decide
theorem idx_top : idx 9218868437227405311 = (M : Int) - 1 := by decide

theorem abs_any (b : Nat) (w : World) (hb : b < 18446744073709551616) : Calls Tryz.prog 181 #[.float .f64 b] w fun e w' => e = .returned (.float .f64 (rungOf b)) ∧ w = w' := by
  have h := size_i hb
  have hf := fun W => run_frombits (rungOf b) W
  go_enter Tryz.func181, Tryz.ntmps181
  go_wp2
  go_ret
  exact ⟨rfl, rfl⟩
theorem isnanf (b : Nat) (w : World) (hr : rungOf b ≤ M) : Calls Tryz.prog 218 #[.float .f64 b] w fun e w' => e = .returned (.bool false) ∧ w = w' := by
  have h := ord_eq hr hr rfl
  go_enter Tryz.func218, Tryz.ntmps218
  go_wp2
  go_ret
  exact ⟨rfl, rfl⟩
theorem rung_idx {b : Nat} (h : b < 9223372036854775808) : rungOf b = b ∧ idx b = (b : Int) := by
  have := pat_cases (b := b) (by omega)
  omega
theorem isinff (b : Nat) (w : World) (hb : b < 18446744073709551616) (hr : rungOf b ≤ M) : Calls Tryz.prog 130 #[.float .f64 b, .int .i64 0] w fun e w' => e = .returned (.bool (decide (rungOf b = M))) ∧ w = w' := by
  have HA := Lib.hid (abs_any b w hb)
  have hM : M = 9218868437227405312 := rfl
  obtain ⟨r, hrr⟩ : ∃ r, rungOf b = r := ⟨_, rfl⟩
  rw [hrr] at HA hr ⊢
  have h1 := rung_idx (b := r) (by omega)
  by_cases h : r = M
  · have ho := ord_gt (a := r) (b := 9218868437227405311) (by omega) real_top (by rw [h1.2, idx_top]; omega)
    rw [decide_eq_true h]
    clear h1 h hrr hr hM
    go_enter Tryz.func130, Tryz.ntmps130
    go_wp2_with fail
    refine HA.out.mono ?_
    rintro e w' ⟨rfl, rfl⟩
    go_wp2
    go_ret
    exact ⟨rfl, rfl⟩
  · have ho : FloatKind.f64.format.order r 9218868437227405311 = some .lt ∨ FloatKind.f64.format.order r 9218868437227405311 = some .eq := by
      by_cases h2 : r = M - 1
      · exact .inr (ord_eq (by omega) real_top (by rw [h1.2, idx_top]; omega))
      · exact .inl (ord_lt (by omega) real_top (by rw [h1.2, idx_top]; omega))
    rw [decide_eq_false h]
    clear h1 h hrr hr hM
    rcases ho with ho | ho
    all_goals
      go_enter Tryz.func130, Tryz.ntmps130
      go_wp2_with fail
      refine HA.out.mono ?_
      rintro e w' ⟨rfl, rfl⟩
      go_wp2
      go_ret
      exact ⟨rfl, rfl⟩

theorem rplain (b : Nat) (w : World) (hb : b < 18446744073709551616) (hr : rungOf b ≤ M) : Calls Tryz.prog 225 #[.float .f64 b] w fun e w' => e = .returned (.float .f64 (pat (idx b))) ∧ w = w' := by
  have hp := pl_real hb hr
  by_cases h : idx b = 0
  · have ho := ord_eq hr real_zero (by rw [idx_zero]; exact h)
    rw [h, pat_zero]
    clear hp h hr
    go_enter Tryz.func225, Tryz.ntmps225
    go_wp2
    go_ret
    exact ⟨rfl, rfl⟩
  · have ho : FloatKind.f64.format.order b 0 = some .lt ∨ FloatKind.f64.format.order b 0 = some .gt := by
      rcases Int.lt_trichotomy (idx b) 0 with h1 | h1 | h1
      · exact .inl (ord_lt hr real_zero (by rw [idx_zero]; exact h1))
      · exact absurd h1 h
      · exact .inr (ord_gt hr real_zero (by rw [idx_zero]; exact h1))
    have e : pat (idx b) = b := by
      rw [← hp]; unfold pl
      have := pat_cases hb
      rw [if_neg (by omega), if_neg (by omega)]
    rw [e]
    clear hp h hr e
    rcases ho with ho | ho
    all_goals
      go_enter Tryz.func225, Tryz.ntmps225
      go_wp2
      go_ret
      exact ⟨rfl, rfl⟩

/-- The neighbours of a finite float. -/
def NextTo (w : World) (k : Int) (e : Ending) (w' : World) : Prop := ∃ r, e = .returned (.float .f64 r) ∧ r < 18446744073709551616 ∧ rungOf r ≤ M ∧ idx r = k ∧ w = w'
theorem copy_pos (w : World) : Calls Tryz.prog 152 #[.float .f64 1, .float .f64 9218868437227405312] w fun e w' => e = .returned (.float .f64 1) ∧ w = w' := by
  have h1 : bits .andNot .u64 (1 : Int) 9223372036854775808 = 1 := by decide
  have h2 : bits .and .u64 (9218868437227405312 : Int) 9223372036854775808 = 0 := by decide
  have h3 : bits .or .u64 (1 : Int) 0 = 1 := by decide
  have f1 : ∀ W : World, (callFunc 49 #[.float .f64 1]).run Tryz.prog W = .ok (.value (.int .u64 1)) W := fun W => run_bitsof 1 W
  have f2 : ∀ W : World, (callFunc 49 #[.float .f64 9218868437227405312]).run Tryz.prog W = .ok (.value (.int .u64 9218868437227405312)) W := fun W => run_bitsof 9218868437227405312 W
  have f3 : ∀ W : World, (callFunc 48 #[.int .u64 1]).run Tryz.prog W = .ok (.value (.float .f64 1)) W := fun W => run_frombits 1 W
  go_enter Tryz.func152, Tryz.ntmps152
  go_wp2
  go_ret
  exact ⟨rfl, rfl⟩
theorem copy_neg (w : World) : Calls Tryz.prog 152 #[.float .f64 1, .float .f64 18442240474082181120] w fun e w' => e = .returned (.float .f64 9223372036854775809) ∧ w = w' := by
  have h1 : bits .andNot .u64 (1 : Int) 9223372036854775808 = 1 := by decide
  have h2 : bits .and .u64 (18442240474082181120 : Int) 9223372036854775808 = 9223372036854775808 := by decide
  have h3 : bits .or .u64 (1 : Int) 9223372036854775808 = 9223372036854775809 := by decide
  have f1 : ∀ W : World, (callFunc 49 #[.float .f64 1]).run Tryz.prog W = .ok (.value (.int .u64 1)) W := fun W => run_bitsof 1 W
  have f2 : ∀ W : World, (callFunc 49 #[.float .f64 18442240474082181120]).run Tryz.prog W = .ok (.value (.int .u64 18442240474082181120)) W := fun W => run_bitsof 18442240474082181120 W
  have f3 : ∀ W : World, (callFunc 48 #[.int .u64 9223372036854775809]).run Tryz.prog W = .ok (.value (.float .f64 9223372036854775809)) W := fun W => run_frombits 9223372036854775809 W
  go_enter Tryz.func152, Tryz.ntmps152
  go_wp2
  go_ret
  exact ⟨rfl, rfl⟩

end Go.Proofs.YtmjkmoahkanblaaGreat

namespace Go.Proofs.YtmjkmoahkanblaaGreat
open Go.RowKit
attribute [local go_sem] run_store_float run_eqf

/-- Not empty, and both ends finite. -/
def com (i j : Int) : Bool := decide (i ≤ j ∧ -(M : Int) < i ∧ j < M)

set_option maxHeartbeats 1600000 in
theorem entiref (w : World) : Calls Tryz.prog 61 #[] w fun e w' => e = .returned (.agg #[.float .f64 18442240474082181120, .float .f64 9218868437227405312]) ∧ Below w.heap.size w w' := by
  have H1 := Lib.hid inf_pos
  have H2 := Lib.hid inf_neg
  have LB0 := Lib.hid (show Below w.heap.size w (w.alloc (.cells #[.float .f64 0, .float .f64 0] 29)) from (below_alloc w _))
  have LR0 := Lib.hid (HasBlk.of (n := 2) (Blk.at (W := w) (g := w.heap.size) (by simp <;> omega) 29 #[.float .f64 0, .float .f64 0]) rfl rfl)
  have ba := LB0.out
  clear LB0 LR0 ba
  go_enter Tryz.func61, Tryz.ntmps61
  go_wp2_with fail
  refine (H2.out _).mono ?_
  rintro e w' ⟨rfl, rfl⟩
  go_wp2_with fail
  refine (H1.out _).mono ?_
  rintro e w' ⟨rfl, rfl⟩
  go_wp2
  refine bodyPost_ret (v := .agg #[.float .f64 18442240474082181120, .float .f64 9218868437227405312]) (by simp [results, Tryz.results61, go_sem]) rfl ?_
  exact have b := (below_alloc w _); ⟨rfl, b⟩

set_option maxHeartbeats 1600000 in
theorem common_none (p q : Nat) (w : World) (HR : ∀ W, Calls Tryz.prog 119 #[.agg #[.float .f64 p, .float .f64 q]] W fun e w' => e = .returned (.agg #[.float .f64 p, .float .f64 q]) ∧ Below W.heap.size W w') (o : FloatKind.f64.format.order p q = some .gt) :
    Calls Tryz.prog 60 #[.agg #[.float .f64 p, .float .f64 q]] w fun e w' => e = .returned (.bool false) ∧ Below w.heap.size w w' := by
  have KR := Lib.hid HR
  clear HR
  have LB0 := Lib.hid (show Below w.heap.size w (w.alloc (.cells #[.float .f64 p, .float .f64 q] 29)) from (below_alloc w _))
  have LG0_0 := Lib.hid ((Blk.at (W := w) (g := w.heap.size) (by simp <;> omega) 29 #[.float .f64 p, .float .f64 q]))
  go_enter Tryz.func60, Tryz.ntmps60
  go_wp2_with fail
  refine (KR.out _).mono ?_
  rintro e w1 ⟨rfl, hb1⟩
  have LB1 := Lib.hid (LB0.out.trans (hb1.mono LB0.out.size))
  have LG0_1 := Lib.hid (LG0_0.out.keep hb1)
  clear LB0 LG0_0
  clear hb1 KR
  have q0_0 : _ = some (.float .f64 p : Value) := LG0_1.out.cell 0
  have q0_1 : _ = some (.float .f64 q : Value) := LG0_1.out.cell 1
  have f0 := LG0_1.out.frozen 0
  have f1 := LG0_1.out.frozen 1
  go_upto_region 2 with fail
  clear f0 f1 q0_0 q0_1
  have LB2 := Lib.hid (below_sets (w0 := w) (show w.heap.size ≤ w.heap.size by omega) [.float .f64 p, .float .f64 q] 0 w1 LB1.out)
  have LG0_2 := Lib.hid (show Blk (sets w1 w.heap.size 0 [.float .f64 p, .float .f64 q]) w.heap.size 29 #[.float .f64 p, .float .f64 q] from by have hbs := Blk.sets [.float .f64 p, .float .f64 q] 0 w1 _ LG0_1.out; simpa [laid] using hbs)
  clear LB1 LG0_1
  obtain ⟨V1, hV1⟩ : ∃ X, (sets w1 w.heap.size 0 [.float .f64 p, .float .f64 q]) = X := ⟨_, rfl⟩
  rw [hV1] at LB2 LG0_2
  rw [show ((w1.setCell ⟨w.heap.size, 0, none⟩ (.float .f64 p)).setCell ⟨w.heap.size, 1, none⟩ (.float .f64 q)) = V1 from hV1]
  clear hV1
  have q0_0 : _ = some (.float .f64 p : Value) := LG0_2.out.cell 0
  have q0_1 : _ = some (.float .f64 q : Value) := LG0_2.out.cell 1
  go_wp2
  go_ret
  exact ⟨rfl, LB2.out⟩

set_option maxHeartbeats 1600000 in
theorem common_lo (p q : Nat) (w : World) (HR : ∀ W, Calls Tryz.prog 119 #[.agg #[.float .f64 p, .float .f64 q]] W fun e w' => e = .returned (.agg #[.float .f64 p, .float .f64 q]) ∧ Below W.heap.size W w') (o : FloatKind.f64.format.order p q = some .lt ∨ FloatKind.f64.format.order p q = some .eq) (I1 : ∀ W, Calls Tryz.prog 130 #[.float .f64 p, .int .i64 0] W fun e w' => e = .returned (.bool true) ∧ W = w') :
    Calls Tryz.prog 60 #[.agg #[.float .f64 p, .float .f64 q]] w fun e w' => e = .returned (.bool false) ∧ Below w.heap.size w w' := by
  have KR := Lib.hid HR
  have K1 := Lib.hid I1
  clear HR I1
  rcases o with o | o
  all_goals
    have LB0 := Lib.hid (show Below w.heap.size w (w.alloc (.cells #[.float .f64 p, .float .f64 q] 29)) from (below_alloc w _))
    have LG0_0 := Lib.hid ((Blk.at (W := w) (g := w.heap.size) (by simp <;> omega) 29 #[.float .f64 p, .float .f64 q]))
    go_enter Tryz.func60, Tryz.ntmps60
    go_wp2_with fail
    refine (KR.out _).mono ?_
    rintro e w1 ⟨rfl, hb1⟩
    have LB1 := Lib.hid (LB0.out.trans (hb1.mono LB0.out.size))
    have LG0_1 := Lib.hid (LG0_0.out.keep hb1)
    clear LB0 LG0_0
    clear hb1 KR
    have q0_0 : _ = some (.float .f64 p : Value) := LG0_1.out.cell 0
    have q0_1 : _ = some (.float .f64 q : Value) := LG0_1.out.cell 1
    have f0 := LG0_1.out.frozen 0
    have f1 := LG0_1.out.frozen 1
    go_upto_region 2 with fail
    clear f0 f1 q0_0 q0_1
    have LB2 := Lib.hid (below_sets (w0 := w) (show w.heap.size ≤ w.heap.size by omega) [.float .f64 p, .float .f64 q] 0 w1 LB1.out)
    have LG0_2 := Lib.hid (show Blk (sets w1 w.heap.size 0 [.float .f64 p, .float .f64 q]) w.heap.size 29 #[.float .f64 p, .float .f64 q] from by have hbs := Blk.sets [.float .f64 p, .float .f64 q] 0 w1 _ LG0_1.out; simpa [laid] using hbs)
    clear LB1 LG0_1
    obtain ⟨V1, hV1⟩ : ∃ X, (sets w1 w.heap.size 0 [.float .f64 p, .float .f64 q]) = X := ⟨_, rfl⟩
    rw [hV1] at LB2 LG0_2
    rw [show ((w1.setCell ⟨w.heap.size, 0, none⟩ (.float .f64 p)).setCell ⟨w.heap.size, 1, none⟩ (.float .f64 q)) = V1 from hV1]
    clear hV1
    have q0_0 : _ = some (.float .f64 p : Value) := LG0_2.out.cell 0
    have q0_1 : _ = some (.float .f64 q : Value) := LG0_2.out.cell 1
    go_wp2_with fail
    refine (K1.out _).mono ?_
    rintro e w' ⟨rfl, rfl⟩
    go_wp2
    go_ret
    exact ⟨rfl, LB2.out⟩

set_option maxHeartbeats 1600000 in
theorem common_hi (p q : Nat) (w : World) (HR : ∀ W, Calls Tryz.prog 119 #[.agg #[.float .f64 p, .float .f64 q]] W fun e w' => e = .returned (.agg #[.float .f64 p, .float .f64 q]) ∧ Below W.heap.size W w') (o : FloatKind.f64.format.order p q = some .lt ∨ FloatKind.f64.format.order p q = some .eq) (I1 : ∀ W, Calls Tryz.prog 130 #[.float .f64 p, .int .i64 0] W fun e w' => e = .returned (.bool false) ∧ W = w') (I2 : ∀ W, Calls Tryz.prog 130 #[.float .f64 q, .int .i64 0] W fun e w' => e = .returned (.bool true) ∧ W = w') :
    Calls Tryz.prog 60 #[.agg #[.float .f64 p, .float .f64 q]] w fun e w' => e = .returned (.bool false) ∧ Below w.heap.size w w' := by
  have KR := Lib.hid HR
  have K1 := Lib.hid I1
  have K2 := Lib.hid I2
  clear HR I1 I2
  rcases o with o | o
  all_goals
    have LB0 := Lib.hid (show Below w.heap.size w (w.alloc (.cells #[.float .f64 p, .float .f64 q] 29)) from (below_alloc w _))
    have LG0_0 := Lib.hid ((Blk.at (W := w) (g := w.heap.size) (by simp <;> omega) 29 #[.float .f64 p, .float .f64 q]))
    go_enter Tryz.func60, Tryz.ntmps60
    go_wp2_with fail
    refine (KR.out _).mono ?_
    rintro e w1 ⟨rfl, hb1⟩
    have LB1 := Lib.hid (LB0.out.trans (hb1.mono LB0.out.size))
    have LG0_1 := Lib.hid (LG0_0.out.keep hb1)
    clear LB0 LG0_0
    clear hb1 KR
    have q0_0 : _ = some (.float .f64 p : Value) := LG0_1.out.cell 0
    have q0_1 : _ = some (.float .f64 q : Value) := LG0_1.out.cell 1
    have f0 := LG0_1.out.frozen 0
    have f1 := LG0_1.out.frozen 1
    go_upto_region 2 with fail
    clear f0 f1 q0_0 q0_1
    have LB2 := Lib.hid (below_sets (w0 := w) (show w.heap.size ≤ w.heap.size by omega) [.float .f64 p, .float .f64 q] 0 w1 LB1.out)
    have LG0_2 := Lib.hid (show Blk (sets w1 w.heap.size 0 [.float .f64 p, .float .f64 q]) w.heap.size 29 #[.float .f64 p, .float .f64 q] from by have hbs := Blk.sets [.float .f64 p, .float .f64 q] 0 w1 _ LG0_1.out; simpa [laid] using hbs)
    clear LB1 LG0_1
    obtain ⟨V1, hV1⟩ : ∃ X, (sets w1 w.heap.size 0 [.float .f64 p, .float .f64 q]) = X := ⟨_, rfl⟩
    rw [hV1] at LB2 LG0_2
    rw [show ((w1.setCell ⟨w.heap.size, 0, none⟩ (.float .f64 p)).setCell ⟨w.heap.size, 1, none⟩ (.float .f64 q)) = V1 from hV1]
    clear hV1
    have q0_0 : _ = some (.float .f64 p : Value) := LG0_2.out.cell 0
    have q0_1 : _ = some (.float .f64 q : Value) := LG0_2.out.cell 1
    go_wp2_with fail
    refine (K1.out _).mono ?_
    rintro e w' ⟨rfl, rfl⟩
    go_wp2_with fail
    refine (K2.out _).mono ?_
    rintro e w' ⟨rfl, rfl⟩
    go_wp2
    go_ret
    exact ⟨rfl, LB2.out⟩

set_option maxHeartbeats 1600000 in
theorem common_yes (p q : Nat) (w : World) (HR : ∀ W, Calls Tryz.prog 119 #[.agg #[.float .f64 p, .float .f64 q]] W fun e w' => e = .returned (.agg #[.float .f64 p, .float .f64 q]) ∧ Below W.heap.size W w') (o : FloatKind.f64.format.order p q = some .lt ∨ FloatKind.f64.format.order p q = some .eq) (I1 : ∀ W, Calls Tryz.prog 130 #[.float .f64 p, .int .i64 0] W fun e w' => e = .returned (.bool false) ∧ W = w') (I2 : ∀ W, Calls Tryz.prog 130 #[.float .f64 q, .int .i64 0] W fun e w' => e = .returned (.bool false) ∧ W = w') :
    Calls Tryz.prog 60 #[.agg #[.float .f64 p, .float .f64 q]] w fun e w' => e = .returned (.bool true) ∧ Below w.heap.size w w' := by
  have KR := Lib.hid HR
  have K1 := Lib.hid I1
  have K2 := Lib.hid I2
  clear HR I1 I2
  rcases o with o | o
  all_goals
    have LB0 := Lib.hid (show Below w.heap.size w (w.alloc (.cells #[.float .f64 p, .float .f64 q] 29)) from (below_alloc w _))
    have LG0_0 := Lib.hid ((Blk.at (W := w) (g := w.heap.size) (by simp <;> omega) 29 #[.float .f64 p, .float .f64 q]))
    go_enter Tryz.func60, Tryz.ntmps60
    go_wp2_with fail
    refine (KR.out _).mono ?_
    rintro e w1 ⟨rfl, hb1⟩
    have LB1 := Lib.hid (LB0.out.trans (hb1.mono LB0.out.size))
    have LG0_1 := Lib.hid (LG0_0.out.keep hb1)
    clear LB0 LG0_0
    clear hb1 KR
    have q0_0 : _ = some (.float .f64 p : Value) := LG0_1.out.cell 0
    have q0_1 : _ = some (.float .f64 q : Value) := LG0_1.out.cell 1
    have f0 := LG0_1.out.frozen 0
    have f1 := LG0_1.out.frozen 1
    go_upto_region 2 with fail
    clear f0 f1 q0_0 q0_1
    have LB2 := Lib.hid (below_sets (w0 := w) (show w.heap.size ≤ w.heap.size by omega) [.float .f64 p, .float .f64 q] 0 w1 LB1.out)
    have LG0_2 := Lib.hid (show Blk (sets w1 w.heap.size 0 [.float .f64 p, .float .f64 q]) w.heap.size 29 #[.float .f64 p, .float .f64 q] from by have hbs := Blk.sets [.float .f64 p, .float .f64 q] 0 w1 _ LG0_1.out; simpa [laid] using hbs)
    clear LB1 LG0_1
    obtain ⟨V1, hV1⟩ : ∃ X, (sets w1 w.heap.size 0 [.float .f64 p, .float .f64 q]) = X := ⟨_, rfl⟩
    rw [hV1] at LB2 LG0_2
    rw [show ((w1.setCell ⟨w.heap.size, 0, none⟩ (.float .f64 p)).setCell ⟨w.heap.size, 1, none⟩ (.float .f64 q)) = V1 from hV1]
    clear hV1
    have q0_0 : _ = some (.float .f64 p : Value) := LG0_2.out.cell 0
    have q0_1 : _ = some (.float .f64 q : Value) := LG0_2.out.cell 1
    go_wp2_with fail
    refine (K1.out _).mono ?_
    rintro e w' ⟨rfl, rfl⟩
    go_wp2_with fail
    refine (K2.out _).mono ?_
    rintro e w' ⟨rfl, rfl⟩
    go_wp2
    go_ret
    exact ⟨rfl, LB2.out⟩

theorem common_any (i j : Int) (w : World) (h : Iv i j) :
    Calls Tryz.prog 60 #[.agg #[.float .f64 (pat i), .float .f64 (pat j)]] w fun e w' => e = .returned (.bool (com i j)) ∧ Below w.heap.size w w' := by
  have hi := h.lo
  have hj := h.hi
  have HR := fun W => readf_idx i j W h
  have I1 := fun W => isinff (pat i) W (pat_lt hi.1 hi.2) (by rw [rung_pat hi.1 hi.2]; omega)
  have I2 := fun W => isinff (pat j) W (pat_lt hj.1 hj.2) (by rw [rung_pat hj.1 hj.2]; omega)
  rw [rung_pat hi.1 hi.2] at I1
  rw [rung_pat hj.1 hj.2] at I2
  have hM : M = 9218868437227405312 := rfl
  unfold com
  by_cases h0 : j < i
  · rw [decide_eq_false (by omega)]
    exact common_none _ _ w HR (by rw [order_pat hi.1 hi.2 hj.1 hj.2, Int.compare_eq_gt.2 h0])
  · have o : FloatKind.f64.format.order (pat i) (pat j) = some .lt ∨ FloatKind.f64.format.order (pat i) (pat j) = some .eq := by
      rw [order_pat hi.1 hi.2 hj.1 hj.2]
      rcases Int.lt_trichotomy i j with h1 | h1 | h1
      · exact .inl (by rw [Int.compare_eq_lt.2 h1])
      · exact .inr (by rw [Int.compare_eq_eq.2 h1])
      · omega
    unfold Iv at h
    by_cases c1 : i = -(M : Int)
    · rw [decide_eq_true (show i.natAbs = M by omega)] at I1
      rw [decide_eq_false (by omega)]
      exact common_lo _ _ w HR o I1
    · rw [decide_eq_false (show ¬ i.natAbs = M by omega)] at I1
      by_cases c2 : j = M
      · rw [decide_eq_true (show j.natAbs = M by omega)] at I2
        rw [decide_eq_false (by omega)]
        exact common_hi _ _ w HR o I1 I2
      · rw [decide_eq_false (show ¬ j.natAbs = M by omega)] at I2
        rw [decide_eq_true (by omega)]
        exact common_yes _ _ w HR o I1 I2

end Go.Proofs.YtmjkmoahkanblaaGreat

namespace Go.Proofs.YtmjkmoahkanblaaGreat
open Go.RowKit

set_option maxHeartbeats 1600000 in
theorem plus_any (A B : Option Addr) (n c m d : Nat) (xs ys : List Nat) (w : World) (hx : U32s w A n c xs) (hy : U32s w B m d ys) (hs1 : n ≤ 34359738360) (hs2 : m ≤ 34359738360) :
    Calls Tryz.prog 197 #[.slice A n c, .slice B m d] w (NewU32 w (digs (num xs + num ys))) := by
  have HX := Lib.hid hx
  have HY := Lib.hid hy
  clear hx hy
  go_enter Tryz.func197, Tryz.ntmps197
  go_wp2
  go_loopw [5, 6, 7] (fun v cv iv wr => ∃ (i k : Nat) (ls : List Nat), iv = .int .i64 i ∧ cv = .int .u64 k ∧ i ≤ max n m ∧ PlusInv xs ys ls i k ∧ Own wr w.heap.size v ls ∧ Below w.heap.size w wr) (fun _ _ iv _ => max n m - (intOf iv).toNat)
  case atStart => exact ⟨0, 0, [], rfl, rfl, Nat.zero_le _, PlusInv.start _ _, Own.nil _ _, Below.refl _ _⟩
  case round =>
    obtain ⟨i, k, ls, rfl, rfl, hi, hinv, hown, hb⟩ := hrel
    have hk1 := hinv.carry
    have hlen := hinv.len
    have HI := Lib.hid hinv
    have HO := Lib.hid hown
    clear hinv hown
    have hbs := hb.size
    have HL := Lib.hid hlen
    clear hlen
    by_cases ha : i < n
    · obtain ⟨ad, e, hc⟩ := (HX.out.below hb).cell (j := i) ha
      cases e
      have hx1 := HX.out.lt i
      by_cases hbb : i < m
      · obtain ⟨ad', e, hc'⟩ := (HY.out.below hb).cell (j := i) hbb
        cases e
        have hy1 := HY.out.lt i
        have hm := mask32_i (a := (k : Int) + ((xs[i]?.getD 0 : Nat) : Int) + ((ys[i]?.getD 0 : Nat) : Int)) (by omega) (by omega)
        go_wp2_with (at_builtin; refine wpList_append_u32 _ rfl _ _ rfl w.heap.size _ ls rfl (HO.out.alloc _) ⟨_, 0, none⟩ 1 ((k + xs[i]?.getD 0 + ys[i]?.getD 0) % 4294967296) rfl ?c1 ?c2 ?c3 ?_)
        case c1 => simp
        case c2 => rw [HL.out]; omega
        case c3 => simp; omega
        intro v' w' hown' hgrow
        have HO' := Lib.hid hown'
        have hb' : Below w.heap.size w w' := (hb.alloc hbs _).grown hgrow (by simp; omega) (fun g hg => (HO.out.lt g hg).1)
        clear hown' hb hgrow hc hc' hbs hm
        go_wp2
        go_roundw
        case rel => exact ⟨i + 1, (k + xs[i]?.getD 0 + ys[i]?.getD 0) / 4294967296, _, by go_num, by go_num, by omega, HI.out.step HX.out.w32 HY.out.w32 (by rfl), HO'.out, hb'⟩
        case measure => simp [intOf]; omega
      · have HZ := Lib.hid (show ys[i]?.getD 0 = 0 by rw [List.getElem?_eq_none (by rw [HY.out.len]; omega)]; rfl)
        have hm := mask32_i (a := (k : Int) + ((xs[i]?.getD 0 : Nat) : Int)) (by omega) (by omega)
        go_wp2_with (at_builtin; refine wpList_append_u32 _ rfl _ _ rfl w.heap.size _ ls rfl (HO.out.alloc _) ⟨_, 0, none⟩ 1 ((k + xs[i]?.getD 0) % 4294967296) rfl ?c1 ?c2 ?c3 ?_)
        case c1 => simp
        case c2 => rw [HL.out]; omega
        case c3 => simp; omega
        intro v' w' hown' hgrow
        have HO' := Lib.hid hown'
        have hb' : Below w.heap.size w w' := (hb.alloc hbs _).grown hgrow (by simp; omega) (fun g hg => (HO.out.lt g hg).1)
        clear hown' hb hgrow hc hbs hm
        go_wp2
        go_roundw
        case rel => exact ⟨i + 1, (k + xs[i]?.getD 0) / 4294967296, _, by go_num, by go_num, by omega, HI.out.step HX.out.w32 HY.out.w32 (by rw [HZ.out]; rfl), HO'.out, hb'⟩
        case measure => simp [intOf]; omega
    · have HZ := Lib.hid (show xs[i]?.getD 0 = 0 by rw [List.getElem?_eq_none (by rw [HX.out.len]; omega)]; rfl)
      by_cases hbb : i < m
      · obtain ⟨ad', e, hc'⟩ := (HY.out.below hb).cell (j := i) hbb
        cases e
        have hy1 := HY.out.lt i
        have hm := mask32_i (a := (k : Int) + ((ys[i]?.getD 0 : Nat) : Int)) (by omega) (by omega)
        go_wp2_with (at_builtin; refine wpList_append_u32 _ rfl _ _ rfl w.heap.size _ ls rfl (HO.out.alloc _) ⟨_, 0, none⟩ 1 ((k + ys[i]?.getD 0) % 4294967296) rfl ?c1 ?c2 ?c3 ?_)
        case c1 => simp
        case c2 => rw [HL.out]; omega
        case c3 => simp; omega
        intro v' w' hown' hgrow
        have HO' := Lib.hid hown'
        have hb' : Below w.heap.size w w' := (hb.alloc hbs _).grown hgrow (by simp; omega) (fun g hg => (HO.out.lt g hg).1)
        clear hown' hb hgrow hc' hbs hm
        go_wp2
        go_roundw
        case rel => exact ⟨i + 1, (k + ys[i]?.getD 0) / 4294967296, _, by go_num, by go_num, by omega, HI.out.step HX.out.w32 HY.out.w32 (by rw [HZ.out]; rfl), HO'.out, hb'⟩
        case measure => simp [intOf]; omega
      · have hd := HI.out.done (by rw [HX.out.len]; omega) (by rw [HY.out.len]; omega)
        have HD := Lib.hid hd
        clear hd
        go_wp2_with (at_builtin; refine wpList_append_u32 _ rfl _ _ rfl w.heap.size _ ls rfl (HO.out.alloc _) ⟨_, 0, none⟩ 1 k rfl ?c1 ?c2 ?c3 ?_)
        case c1 => simp
        case c2 => rw [HL.out]; omega
        case c3 => simp; omega
        intro v' w' hown' hgrow
        have HO' := Lib.hid hown'
        have hb' : Below w.heap.size w w' := (hb.alloc hbs _).grown hgrow (by simp; omega) (fun g hg => (HO.out.lt g hg).1)
        clear hown' hb hgrow hbs
        obtain ⟨A', c', rfl⟩ := HO'.out.form_snoc
        have hu := HO'.out.u32s (by simp) HD.out.2 (by simp; rw [HL.out]; omega)
        have hnorm := norm_any _ _ _ _ w' hu (by rw [HL.out]; omega)
        rw [HD.out.1] at hnorm
        have HN := Lib.hid hnorm
        clear hnorm hu
        go_wp2_with fail
        refine HN.out.mono ?_
        rintro e w'' ⟨A2, n2, c2, rfl, hu2, hb2⟩
        have H2 := Lib.hid (show NewU32 w (digs (num xs + num ys)) (.returned (.slice A2 n2 c2)) w'' from NewU32.trans ⟨A2, n2, c2, rfl, hu2, hb2⟩ hb')
        clear hu2 hb2 hb'
        go_wp2
        go_ret
        exact H2.out

end Go.Proofs.YtmjkmoahkanblaaGreat
