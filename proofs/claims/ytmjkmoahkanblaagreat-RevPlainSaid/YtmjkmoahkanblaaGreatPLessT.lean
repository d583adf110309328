/-
Walks: package rev, less of finite ends.
Plain: the sum of two ends.
Walks: package rev, point and less of infinite ends.
Walks: package rev, FMARev, MulRev.
What positive, factor, FMARev, MulRev of the program answer, by indexes; a piece turned over.
Walks: package vergeref6, None.
Walks: package vergeref6, Upper; package vergeref10, quotients, minus (of a piece), zero.
Walks: package vergeref10, quotients, minus (of a piece).
Walks: package vergeref10, minus (of a piece).
Sets by their indexes: Minus; pieces that a call answers.
Walks: package vergeref6, All; package vergeref10, factors.
Walks: package vergeref10, all of no piece.
Walks: package vergeref10, MulRev.
What the reference's quotients, factors and MulRev answer, by indexes.
-/
import Derived.Test.YtmjkmoahkanblaaGreatM03
import Derived.Test.YtmjkmoahkanblaaGreatPNwT
import Derived.Test.YtmjkmoahkanblaaGreatM05
import Derived.Test.YtmjkmoahkanblaaGreatM16
import Derived.Laws.FloatArith
import Derived.Test.YtmjkmoahkanblaaGreatPIntsT
import Derived.Deep.DeepCutAuto
import Derived.Deep.RegionHeld3
import Derived.Test.YtmjkmoahkanblaaGreatM06
import Derived.Test.YtmjkmoahkanblaaGreatM18
set_option linter.unusedSimpArgs false
set_option linter.unusedVariables false
set_option maxHeartbeats 12800000

namespace Go.Proofs.YtmjkmoahkanblaaGreat
open Go.RowKit
attribute [local go_sem] run_store_float run_negf
end Go.Proofs.YtmjkmoahkanblaaGreat

namespace Go.Proofs.YtmjkmoahkanblaaGreat
open Go.RowKit
end Go.Proofs.YtmjkmoahkanblaaGreat

namespace Go.Proofs.YtmjkmoahkanblaaGreat
open Go.RowKit
attribute [local go_sem] run_store_float run_negf
theorem copyone_pos (w : World) : Calls Tryz.prog 152 #[.float .f64 4607182418800017408, .float .f64 9218868437227405312] w fun e w' => e = .returned (.float .f64 4607182418800017408) ∧ w = w' := by
  have a1 : bits .andNot .u64 4607182418800017408 9223372036854775808 = 4607182418800017408 := by decide
  have a2 : bits .and .u64 9218868437227405312 9223372036854775808 = 0 := by decide
  have a3 : bits .or .u64 4607182418800017408 0 = 4607182418800017408 := by decide
  have f1 : ∀ W : World, (callFunc 49 #[.float .f64 4607182418800017408]).run Tryz.prog W = .ok (.value (.int .u64 4607182418800017408)) W := fun W => run_bitsof 4607182418800017408 W
  have f2 : ∀ W : World, (callFunc 49 #[.float .f64 9218868437227405312]).run Tryz.prog W = .ok (.value (.int .u64 9218868437227405312)) W := fun W => run_bitsof 9218868437227405312 W
  have f3 : ∀ W : World, (callFunc 48 #[.int .u64 4607182418800017408]).run Tryz.prog W = .ok (.value (.float .f64 4607182418800017408)) W := fun W => run_frombits 4607182418800017408 W
  go_enter Tryz.func152, Tryz.ntmps152
  go_wp2
  go_ret
  exact ⟨rfl, rfl⟩
theorem point_pos (w : World) : Calls Tryz.prog 83 #[.float .f64 9218868437227405312] w fun e w' => e = .returned (.agg #[.int .i64 (1), .bool false, .slice none 0 0, .int .i64 0]) ∧ Below w.heap.size w w' := by
  have HI0 := fun W => isinff 9218868437227405312 W (by omega) (by decide)
  rw [decide_eq_true (show rungOf 9218868437227405312 = M by decide)] at HI0
  have HI := Lib.hid HI0
  have HC := Lib.hid fun W => copyone_pos W
  clear HI0
  have hc : ∀ W, (convert 27 3 (.float .f64 4607182418800017408)).run Tryz.prog W = .ok (.int .i64 (1)) W := fun W => run_convert_float_int W 27 3 .f64 .i64 4607182418800017408 (1) (by rw [Tryz.underlying27]; rfl) Tryz.underlying3 (by kernel_rfl)
  obtain ⟨LB0, LR⟩ := bx1 w #[.int .i64 0, .bool false, .slice none 0 0, .int .i64 0] 79
  have LR0 := Lib.hid (HasBlk.of (n := 4) LR.out rfl rfl)
  clear LR
  go_enter Tryz.func83, Tryz.ntmps83
  go_wp2_with fail
  refine (HI.out _).mono ?_
  rintro e w' ⟨rfl, rfl⟩
  clear HI
  go_wp2_with fail
  refine (HC.out _).mono ?_
  rintro e w' ⟨rfl, rfl⟩
  clear HC
  obtain ⟨ha0, hf0, ha1, hf1, ha2, hf2, ha3, hf3⟩ := LR0.out.sf4
  obtain ⟨hk0, hk1, hk2, hk3⟩ := LR0.out.sc4 (.int .i64 (1)) (.bool false) (.slice none 0 0) (.int .i64 0)
  have F := Lib.hid (below_sets (w0 := w) (r := w.heap.size) (by omega) [.int .i64 (1), .bool false, .slice none 0 0, .int .i64 0] 0 _ LB0.out)
  simp [sets] at hk0 hk1 hk2 hk3
  go_wp2
  refine bodyPost_ret (v := .agg #[.int .i64 (1), .bool false, .slice none 0 0, .int .i64 0]) (by simp [results, Tryz.results83, go_sem, hk0, hk1, hk2, hk3]) rfl ?_
  exact ⟨rfl, below_alloc _ _⟩
theorem copyone_neg (w : World) : Calls Tryz.prog 152 #[.float .f64 4607182418800017408, .float .f64 18442240474082181120] w fun e w' => e = .returned (.float .f64 13830554455654793216) ∧ w = w' := by
  have a1 : bits .andNot .u64 4607182418800017408 9223372036854775808 = 4607182418800017408 := by decide
  have a2 : bits .and .u64 18442240474082181120 9223372036854775808 = 9223372036854775808 := by decide
  have a3 : bits .or .u64 4607182418800017408 9223372036854775808 = 13830554455654793216 := by decide
  have f1 : ∀ W : World, (callFunc 49 #[.float .f64 4607182418800017408]).run Tryz.prog W = .ok (.value (.int .u64 4607182418800017408)) W := fun W => run_bitsof 4607182418800017408 W
  have f2 : ∀ W : World, (callFunc 49 #[.float .f64 18442240474082181120]).run Tryz.prog W = .ok (.value (.int .u64 18442240474082181120)) W := fun W => run_bitsof 18442240474082181120 W
  have f3 : ∀ W : World, (callFunc 48 #[.int .u64 13830554455654793216]).run Tryz.prog W = .ok (.value (.float .f64 13830554455654793216)) W := fun W => run_frombits 13830554455654793216 W
  go_enter Tryz.func152, Tryz.ntmps152
  go_wp2
  go_ret
  exact ⟨rfl, rfl⟩
theorem point_neg (w : World) : Calls Tryz.prog 83 #[.float .f64 18442240474082181120] w fun e w' => e = .returned (.agg #[.int .i64 (-1), .bool false, .slice none 0 0, .int .i64 0]) ∧ Below w.heap.size w w' := by
  have HI0 := fun W => isinff 18442240474082181120 W (by omega) (by decide)
  rw [decide_eq_true (show rungOf 18442240474082181120 = M by decide)] at HI0
  have HI := Lib.hid HI0
  have HC := Lib.hid fun W => copyone_neg W
  clear HI0
  have hc : ∀ W, (convert 27 3 (.float .f64 13830554455654793216)).run Tryz.prog W = .ok (.int .i64 (-1)) W := fun W => run_convert_float_int W 27 3 .f64 .i64 13830554455654793216 (-1) (by rw [Tryz.underlying27]; rfl) Tryz.underlying3 (by kernel_rfl)
  obtain ⟨LB0, LR⟩ := bx1 w #[.int .i64 0, .bool false, .slice none 0 0, .int .i64 0] 79
  have LR0 := Lib.hid (HasBlk.of (n := 4) LR.out rfl rfl)
  clear LR
  go_enter Tryz.func83, Tryz.ntmps83
  go_wp2_with fail
  refine (HI.out _).mono ?_
  rintro e w' ⟨rfl, rfl⟩
  clear HI
  go_wp2_with fail
  refine (HC.out _).mono ?_
  rintro e w' ⟨rfl, rfl⟩
  clear HC
  obtain ⟨ha0, hf0, ha1, hf1, ha2, hf2, ha3, hf3⟩ := LR0.out.sf4
  obtain ⟨hk0, hk1, hk2, hk3⟩ := LR0.out.sc4 (.int .i64 (-1)) (.bool false) (.slice none 0 0) (.int .i64 0)
  have F := Lib.hid (below_sets (w0 := w) (r := w.heap.size) (by omega) [.int .i64 (-1), .bool false, .slice none 0 0, .int .i64 0] 0 _ LB0.out)
  simp [sets] at hk0 hk1 hk2 hk3
  go_wp2
  refine bodyPost_ret (v := .agg #[.int .i64 (-1), .bool false, .slice none 0 0, .int .i64 0]) (by simp [results, Tryz.results83, go_sem, hk0, hk1, hk2, hk3]) rfl ?_
  exact ⟨rfl, below_alloc _ _⟩
def NewExI (w : World) (s : Int) (x : Rat) (e : Ending) (w' : World) : Prop :=
  ∃ (g : Bool) (A : Option Addr) (n c : Nat) (E : Int), e = .returned (.agg #[.int .i64 s, .bool g, .slice A n c, .int .i64 E]) ∧ ExI w' s g A n c E x ∧ Below w.heap.size w w'
theorem point_gen (i : Int) (w : World) (h : -(M : Int) ≤ i ∧ i ≤ M) : Calls Tryz.prog 83 #[.float .f64 (pat i)] w (NewExI w (es i) (ex i)) := by
  have hM : (M : Int) = 9218868437227405312 := rfl
  by_cases h1 : i = M
  · subst h1
    rw [es_max, pat_max]
    refine (point_pos w).mono ?_
    rintro e w' ⟨rfl, hb⟩
    exact ⟨false, none, 0, 0, 0, rfl, ⟨.inr (.inl rfl), fun h => by omega⟩, hb⟩
  · by_cases h2 : i = -(M : Int)
    · subst h2
      rw [es_min, pat_min]
      refine (point_neg w).mono ?_
      rintro e w' ⟨rfl, hb⟩
      exact ⟨false, none, 0, 0, 0, rfl, ⟨.inr (.inr rfl), fun h => by omega⟩, hb⟩
    · rw [es_mid (by omega) (by omega), ex_mid (by omega) (by omega)]
      have hf : fin (pat i) := by show rungOf (pat i) < M; rw [rung_pat h.1 h.2]; omega
      obtain ⟨neg, S, x, k1, k2, k3, k4, k5⟩ := point_any (pat i) (pat_lt h.1 h.2) hf
      rw [idx_pat h.1 h.2] at k4
      refine (k5 w).mono ?_
      rintro e w' ⟨A, n, c, rfl, hu, hb⟩
      exact ⟨neg, A, n, c, x, rfl, ⟨.inl rfl, fun _ => ⟨S, hu, Nat.le_trans (blen_le_iff.2 (show S < 2^53 from k1)) (by omega), k2, k3, k4⟩⟩, hb⟩
end Go.Proofs.YtmjkmoahkanblaaGreat

namespace Go.Proofs.YtmjkmoahkanblaaGreat
open Go.RowKit
attribute [local go_sem] run_store_float
end Go.Proofs.YtmjkmoahkanblaaGreat

namespace Go.Proofs.YtmjkmoahkanblaaGreat
open Go.RowKit
theorem rc_neg2 (x y : Rat) : rc (-x) (-y) = - rc x y := by
  unfold rc
  by_cases h : x < y
  · have h1 : ¬ -x < -y := by grind
    have h2 : -y < -x := by grind
    rw [if_neg h1, if_pos h2, if_pos h]; rfl
  · by_cases h' : y < x
    · have h1 : -x < -y := by grind
      rw [if_pos h1, if_neg h, if_pos h']
    · have h1 : ¬ -x < -y := by grind
      have h2 : ¬ -y < -x := by grind
      rw [if_neg h1, if_neg h2, if_neg h, if_neg h']; rfl
theorem ec_neg2 (s : Int) (x : Rat) (t : Int) (y : Rat) : ec (-s) (-x) (-t) (-y) = - ec s x t y := by
  unfold ec
  by_cases h : s = t
  · subst h
    rw [if_pos rfl, if_pos rfl, rc_neg2]
    by_cases h0 : s = 0
    · subst h0; simp
    · rw [if_neg (by omega), if_neg h0]; rfl
  · rw [if_neg (show ¬ -s = -t by omega), if_neg h]
    by_cases h2 : s < t
    · rw [if_neg (show ¬ -s < -t by omega), if_pos h2]; rfl
    · rw [if_pos (show -s < -t by omega), if_neg h2]
theorem ec_turn (i t : Int) (y : Rat) : ec (es i) (ex i) (-t) (-y) = - ec (es (-i)) (ex (-i)) t y := by
  have h := ec_neg2 (es (-i)) (ex (-i)) t y
  rw [es_neg, ex_neg, Int.neg_neg, Rat.neg_neg] at h
  rw [h, es_neg, ex_neg]
theorem pf_neg (sa : Int) (xa : Rat) (oa : Bool) (sb : Int) (xb : Rat) (ob : Bool) (i j : Int) :
    pf (-sb) (-xb) ob (-sa) (-xa) oa i j = (-(pf sa xa oa sb xb ob (-j) (-i)).2, -(pf sa xa oa sb xb ob (-j) (-i)).1) := by
  have a := rndI_neg (d := 1) (.inr rfl) xb
  have b := rndI_neg (d := -1) (.inl rfl) xa
  rw [show (-(1 : Int)) = -1 from rfl] at a
  rw [show (- -1 : Int) = 1 from rfl] at b
  unfold pf
  by_cases hji : j < i
  · rw [if_pos hji, if_pos (show -i < -j by omega)]; simp
  · rw [if_neg hji, if_neg (show ¬ -i < -j by omega), ec_turn, ec_turn, ec_turn, ec_turn, a, b]
    unfold wg
    obtain ⟨c1, h1⟩ : ∃ z, ec (es (-i)) (ex (-i)) sa xa = z := ⟨_, rfl⟩
    obtain ⟨c2, h2⟩ : ∃ z, ec (es (-j)) (ex (-j)) sb xb = z := ⟨_, rfl⟩
    obtain ⟨c3, h3⟩ : ∃ z, ec (es (-i)) (ex (-i)) sb xb = z := ⟨_, rfl⟩
    obtain ⟨c4, h4⟩ : ∃ z, ec (es (-j)) (ex (-j)) sa xa = z := ⟨_, rfl⟩
    rw [h1, h2, h3, h4]
    by_cases hc : 0 < c2 ∨ (c2 = 0 ∧ ob = true) ∨ c1 < 0 ∨ (c1 = 0 ∧ oa = true)
    · rw [if_pos hc, if_pos (by rcases hc with h | ⟨h, o⟩ | h | ⟨h, o⟩; exact .inr (.inr (.inl (by omega))); exact .inr (.inr (.inr ⟨by omega, o⟩)); exact .inl (by omega); exact .inr (.inl ⟨by omega, o⟩))]
      simp
    · rw [if_neg hc, if_neg (by rintro (h | ⟨h, o⟩ | h | ⟨h, o⟩); exact hc (.inr (.inr (.inl (by omega)))); exact hc (.inr (.inr (.inr ⟨by omega, o⟩))); exact hc (.inl (by omega)); exact hc (.inr (.inl ⟨by omega, o⟩)))]
      by_cases k1 : c3 ≤ 0 <;> by_cases k2 : 0 ≤ c4
      · rw [if_neg (by omega), if_neg (by omega), if_neg (by omega), if_neg (by omega)]; simp
      · rw [if_neg (show ¬ -c3 < 0 by omega), if_pos (show 0 < -c4 by omega), if_pos (show c4 < 0 by omega), if_neg (show ¬ 0 < c3 by omega)]; simp
      · rw [if_pos (show -c3 < 0 by omega), if_neg (show ¬ 0 < -c4 by omega), if_neg (show ¬ c4 < 0 by omega), if_pos (show 0 < c3 by omega)]; simp
      · rw [if_pos (show -c3 < 0 by omega), if_pos (show 0 < -c4 by omega), if_pos (show c4 < 0 by omega), if_pos (show 0 < c3 by omega)]
theorem ov_rng {s : Int} {x : Rat} {j : Int} (hs : s = 0 ∨ s = 1 ∨ s = -1) : (-(M : Int) ≤ (ov s x j).1 ∧ (ov s x j).1 ≤ M) ∧ (-(M : Int) ≤ (ov s x j).2 ∧ (ov s x j).2 ≤ M) := by
  have hM : (M : Int) = 9218868437227405312 := rfl
  unfold ov
  have a := rndI_down (x / fl j)
  have b := rndI_up (x / fl j)
  split
  · rcases hs with h | h | h <;> subst h <;> dsimp only <;> omega
  · split <;> dsimp only <;> omega
structure NumOk (s1 : Int) (x1 : Rat) (s2 : Int) (x2 : Rat) : Prop where
  a1 : s1 = 0 ∨ s1 = -1
  a2 : s1 ≠ 0 → x1 = 0
  b1 : s2 = 0 ∨ s2 = 1
  b2 : s2 ≠ 0 → x2 = 0
  le : s1 = 0 → s2 = 0 → x1 ≤ x2
def PF (b1 b2 : Int) (s1 : Int) (x1 : Rat) (s2 : Int) (x2 : Rat) (i j : Int) : Int × Int :=
  if b2 ≤ 0 then ((M : Int), -(M : Int)) else pf (qA s1 x1 b1 b2).1 (qA s1 x1 b1 b2).2.1 (qA s1 x1 b1 b2).2.2 (qB s2 x2 b1 b2).1 (qB s2 x2 b1 b2).2.1 (qB s2 x2 b1 b2).2.2 i j
def Ne (i j : Int) : Prop := -(M : Int) ≤ i ∧ i ≤ j ∧ j ≤ M ∧ i < M ∧ -(M : Int) < j
theorem Ne.iv {i j : Int} (h : Ne i j) : Iv i j := .inl h
theorem Ne.neg {i j : Int} (h : Ne i j) : Ne (-j) (-i) := by unfold Ne at *; omega
def fa (b1 b2 : Int) (s1 : Int) (x1 : Rat) (s2 : Int) (x2 : Rat) (i j : Int) : Int × Int :=
  if (b1 ≤ 0 ∧ 0 ≤ b2) ∧ esx s1 x1 ≤ 0 ∧ 0 ≤ esx s2 x2 then (i, j)
  else (min (PF b1 b2 s1 x1 s2 x2 i j).1 (-(PF (-b2) (-b1) s1 x1 s2 x2 (-j) (-i)).2), max (PF b1 b2 s1 x1 s2 x2 i j).2 (-(PF (-b2) (-b1) s1 x1 s2 x2 (-j) (-i)).1))
theorem mirror_idx (i j : Int) (w : World) (h : Iv i j) : Calls Tryz.prog 59 #[.agg #[.float .f64 (pat i), .float .f64 (pat j)]] w fun e w' => e = .returned (.agg #[.float .f64 (pat (-j)), .float .f64 (pat (-i))]) ∧ Below w.heap.size w w' := by
  have h2 := mirrorf (pat i) (pat j) w (pat_lt h.lo.1 h.lo.2) (pat_lt h.hi.1 h.hi.2)
  rw [rd_pat h] at h2
  exact h2
theorem ne_or {i j : Int} (h : Iv i j) (h2 : ¬ j < i) : Ne i j := by
  rcases h with h | ⟨rfl, rfl⟩
  · exact h
  · have hM : (M : Int) = 9218868437227405312 := rfl
    omega
end Go.Proofs.YtmjkmoahkanblaaGreat

namespace Go.Proofs.YtmjkmoahkanblaaGreat
open Go.RowKit
theorem none6 (w : World) : Calls Tryz.prog 125 #[] w (NewSet w 1 true 0 0 0 0) := by
  have HF := Lib.hid fun W => finite_nat 0 W (by omega)
  obtain ⟨LB0, LR⟩ := bx1 w #[.bool false, .int .i64 0, .bool false, .slice none 0 0, .slice none 0 0, .int .i64 0, .bool false, .slice none 0 0, .slice none 0 0] 69
  have LR0 := Lib.hid (HasBlk.of (n := 9) LR.out rfl rfl)
  clear LR
  go_enter Tryz.func125, Tryz.ntmps125
  go_wp2_with fail
  refine (HF.out _).mono ?_
  rintro e w1 ⟨g3, A3, n3, c3, B3, m3, d3, rfl, h3, hb3⟩
  have LB1 := stB LB0 hb3 LB0.out.size
  have LR1 := stR LR0 hb3
  clear LB0 LR0
  go_wp2_with fail
  refine (HF.out _).mono ?_
  rintro e w2 ⟨g4, A4, n4, c4, B4, m4, d4, rfl, h4, hb4⟩
  have LB2 := stB LB1 hb4 LB1.out.size
  have LR2 := stR LR1 hb4
  clear LB1 LR1
  have FR1 := Lib.hid (LR2.out.rat (h3.below hb4) [.bool true, .int .i64 0, .bool g3, .slice A3 n3 c3, .slice B3 m3 d3, .int .i64 0, .bool g4, .slice A4 n4 c4, .slice B4 m4 d4])
  have FR2 := Lib.hid (LR2.out.rat h4 [.bool true, .int .i64 0, .bool g3, .slice A3 n3 c3, .slice B3 m3 d3, .int .i64 0, .bool g4, .slice A4 n4 c4, .slice B4 m4 d4])
  clear h3 h4 hb3 hb4 HF
  obtain ⟨ha0, hf0, ha1, hf1, ha2, hf2, ha3, hf3, ha4, hf4, ha5, hf5, ha6, hf6, ha7, hf7, ha8, hf8⟩ := LR2.out.sf9
  obtain ⟨hk0, hk1, hk2, hk3, hk4, hk5, hk6, hk7, hk8⟩ := LR2.out.sc9 (.bool true) (.int .i64 0) (.bool g3) (.slice A3 n3 c3) (.slice B3 m3 d3) (.int .i64 0) (.bool g4) (.slice A4 n4 c4) (.slice B4 m4 d4)
  have F := Lib.hid (below_sets (w0 := w) (r := w.heap.size) (by omega) [.bool true, .int .i64 0, .bool g3, .slice A3 n3 c3, .slice B3 m3 d3, .int .i64 0, .bool g4, .slice A4 n4 c4, .slice B4 m4 d4] 0 _ LB2.out)
  simp [sets] at hk0 hk1 hk2 hk3 hk4 hk5 hk6 hk7 hk8
  go_wp2
  refine bodyPost_ret (v := .agg #[.bool true, .int .i64 0, .bool g3, .slice A3 n3 c3, .slice B3 m3 d3, .int .i64 0, .bool g4, .slice A4 n4 c4, .slice B4 m4 d4]) (by simp [results, Tryz.results125, go_sem, hk0, hk1, hk2, hk3, hk4, hk5, hk6, hk7, hk8]) rfl ?_
  exact ⟨_, _, _, _, _, _, _, _, _, _, _, _, _, _, rfl, FR1.out, FR2.out, F.out⟩
end Go.Proofs.YtmjkmoahkanblaaGreat

namespace Go.Proofs.YtmjkmoahkanblaaGreat
open Go.RowKit
theorem upper_none (K : Nat) (o : Bool) (s1 : Int) (g1 : Bool) (A1 : Option Addr) (n1 c1 : Nat) (B1 : Option Addr) (m1 d1 : Nat) (x1 : Rat) (s2 : Int) (g2 : Bool) (A2 : Option Addr) (n2 c2 : Nat) (B2 : Option Addr) (m2 d2 : Nat) (x2 : Rat) (w : World) (h2 : RatV w K g2 (.slice A2 n2 c2) (.slice B2 m2 d2) x2) (hK : K ≤ 1073741824) (ho : o = true ∨ esx s2 x2 ≤ 0) :
    Calls Tryz.prog 146 #[.agg #[.bool o, .int .i64 s1, .bool g1, .slice A1 n1 c1, .slice B1 m1 d1, .int .i64 s2, .bool g2, .slice A2 n2 c2, .slice B2 m2 d2]] w (NewSet w 1 true 0 0 0 0) := by
  have HN := Lib.hid none6
  have HS := Lib.hid fun W (hW : Below w.heap.size w W) => sign6_any K s2 g2 A2 n2 c2 B2 m2 d2 x2 W (h2.below hW) hK
  obtain ⟨sg, hsg⟩ : ∃ z, esx s2 x2 = z := ⟨_, rfl⟩
  rw [hsg] at HS ho
  clear h2 hK hsg
  cases o
  · have LB0 := Lib.hid (show Below w.heap.size w ((w.alloc (.cells #[.bool false, .int .i64 s1, .bool g1, .slice A1 n1 c1, .slice B1 m1 d1, .int .i64 s2, .bool g2, .slice A2 n2 c2, .slice B2 m2 d2] 69)).alloc (.cells #[.bool false, .int .i64 0, .bool false, .slice none 0 0, .slice none 0 0, .int .i64 0, .bool false, .slice none 0 0, .slice none 0 0] 69)) from ((below_alloc w _).alloc (by simp <;> omega) _))
    have LG0_0 := Lib.hid (((Blk.at (W := w) (g := w.heap.size) (by simp <;> omega) 69 #[.bool false, .int .i64 s1, .bool g1, .slice A1 n1 c1, .slice B1 m1 d1, .int .i64 s2, .bool g2, .slice A2 n2 c2, .slice B2 m2 d2]).alloc (.cells #[.bool false, .int .i64 0, .bool false, .slice none 0 0, .slice none 0 0, .int .i64 0, .bool false, .slice none 0 0, .slice none 0 0] 69)))
    have LR0 := Lib.hid (HasBlk.of (n := 9) (Blk.at (W := (w.alloc (.cells #[.bool false, .int .i64 s1, .bool g1, .slice A1 n1 c1, .slice B1 m1 d1, .int .i64 s2, .bool g2, .slice A2 n2 c2, .slice B2 m2 d2] 69))) (g := (w.heap.size + 1)) (by simp <;> omega) 69 #[.bool false, .int .i64 0, .bool false, .slice none 0 0, .slice none 0 0, .int .i64 0, .bool false, .slice none 0 0, .slice none 0 0]) rfl rfl)
    go_enter Tryz.func146, Tryz.ntmps146
    have hz : sg ≤ 0 := by rcases ho with h | h; cases h; exact h
    clear ho
    have q0_0 := LG0_0.out.ce 0 rfl
    have q0_1 := LG0_0.out.ce 1 rfl
    have q0_2 := LG0_0.out.ce 2 rfl
    have q0_3 := LG0_0.out.ce 3 rfl
    have q0_4 := LG0_0.out.ce 4 rfl
    have q0_5 := LG0_0.out.ce 5 rfl
    have q0_6 := LG0_0.out.ce 6 rfl
    have q0_7 := LG0_0.out.ce 7 rfl
    have q0_8 := LG0_0.out.ce 8 rfl
    go_wp2_with fail
    refine (HS.out _ LB0.out).mono ?_
    rintro e w1 ⟨rfl, hb1⟩
    have LB1 := stB LB0 hb1 LB0.out.size
    have LR1 := stR LR0 hb1
    have LG0_1 := stG LG0_0 hb1
    clear LB0 LR0 LG0_0
    clear hb1 HS q0_0 q0_1 q0_2 q0_3 q0_4 q0_5 q0_6 q0_7 q0_8
    go_wp2_with fail
    refine (HN.out _).mono ?_
    rintro e wN ⟨p1, P1, q1, r1, Q1, t1, u1, p2, P2, q2, r2, Q2, t2, u2, rfl, hR1, hR2, hbN⟩
    have LB2 := stB LB1 hbN LB1.out.size
    have LR2 := stR LR1 hbN
    have LG0_2 := stG LG0_1 hbN
    clear LB1 LR1 LG0_1
    have FR1 := Lib.hid (LR2.out.rat hR1 [.bool true, .int .i64 0, .bool p1, .slice P1 q1 r1, .slice Q1 t1 u1, .int .i64 0, .bool p2, .slice P2 q2 r2, .slice Q2 t2 u2])
    have FR2 := Lib.hid (LR2.out.rat hR2 [.bool true, .int .i64 0, .bool p1, .slice P1 q1 r1, .slice Q1 t1 u1, .int .i64 0, .bool p2, .slice P2 q2 r2, .slice Q2 t2 u2])
    clear hR1 hR2 hbN HN
    obtain ⟨ha0, hf0, ha1, hf1, ha2, hf2, ha3, hf3, ha4, hf4, ha5, hf5, ha6, hf6, ha7, hf7, ha8, hf8⟩ := LR2.out.sf9
    obtain ⟨hk0, hk1, hk2, hk3, hk4, hk5, hk6, hk7, hk8⟩ := LR2.out.sc9 (.bool true) (.int .i64 0) (.bool p1) (.slice P1 q1 r1) (.slice Q1 t1 u1) (.int .i64 0) (.bool p2) (.slice P2 q2 r2) (.slice Q2 t2 u2)
    have F := Lib.hid (below_sets (w0 := w) (r := (w.heap.size + 1)) (by omega) [.bool true, .int .i64 0, .bool p1, .slice P1 q1 r1, .slice Q1 t1 u1, .int .i64 0, .bool p2, .slice P2 q2 r2, .slice Q2 t2 u2] 0 _ LB2.out)
    simp [sets] at hk0 hk1 hk2 hk3 hk4 hk5 hk6 hk7 hk8
    go_wp2
    refine bodyPost_ret (v := .agg #[.bool true, .int .i64 0, .bool p1, .slice P1 q1 r1, .slice Q1 t1 u1, .int .i64 0, .bool p2, .slice P2 q2 r2, .slice Q2 t2 u2]) (by simp [results, Tryz.results146, go_sem, hk0, hk1, hk2, hk3, hk4, hk5, hk6, hk7, hk8]) rfl ?_
    exact ⟨_, _, _, _, _, _, _, _, _, _, _, _, _, _, rfl, FR1.out, FR2.out, F.out⟩
  · have LB0 := Lib.hid (show Below w.heap.size w ((w.alloc (.cells #[.bool true, .int .i64 s1, .bool g1, .slice A1 n1 c1, .slice B1 m1 d1, .int .i64 s2, .bool g2, .slice A2 n2 c2, .slice B2 m2 d2] 69)).alloc (.cells #[.bool false, .int .i64 0, .bool false, .slice none 0 0, .slice none 0 0, .int .i64 0, .bool false, .slice none 0 0, .slice none 0 0] 69)) from ((below_alloc w _).alloc (by simp <;> omega) _))
    have LG0_0 := Lib.hid (((Blk.at (W := w) (g := w.heap.size) (by simp <;> omega) 69 #[.bool true, .int .i64 s1, .bool g1, .slice A1 n1 c1, .slice B1 m1 d1, .int .i64 s2, .bool g2, .slice A2 n2 c2, .slice B2 m2 d2]).alloc (.cells #[.bool false, .int .i64 0, .bool false, .slice none 0 0, .slice none 0 0, .int .i64 0, .bool false, .slice none 0 0, .slice none 0 0] 69)))
    have LR0 := Lib.hid (HasBlk.of (n := 9) (Blk.at (W := (w.alloc (.cells #[.bool true, .int .i64 s1, .bool g1, .slice A1 n1 c1, .slice B1 m1 d1, .int .i64 s2, .bool g2, .slice A2 n2 c2, .slice B2 m2 d2] 69))) (g := (w.heap.size + 1)) (by simp <;> omega) 69 #[.bool false, .int .i64 0, .bool false, .slice none 0 0, .slice none 0 0, .int .i64 0, .bool false, .slice none 0 0, .slice none 0 0]) rfl rfl)
    go_enter Tryz.func146, Tryz.ntmps146
    have q0_0 := LG0_0.out.ce 0 rfl
    have q0_1 := LG0_0.out.ce 1 rfl
    have q0_2 := LG0_0.out.ce 2 rfl
    have q0_3 := LG0_0.out.ce 3 rfl
    have q0_4 := LG0_0.out.ce 4 rfl
    have q0_5 := LG0_0.out.ce 5 rfl
    have q0_6 := LG0_0.out.ce 6 rfl
    have q0_7 := LG0_0.out.ce 7 rfl
    have q0_8 := LG0_0.out.ce 8 rfl
    clear HS ho
    go_wp2_with fail
    refine (HN.out _).mono ?_
    rintro e wN ⟨p1, P1, q1, r1, Q1, t1, u1, p2, P2, q2, r2, Q2, t2, u2, rfl, hR1, hR2, hbN⟩
    have LB1 := stB LB0 hbN LB0.out.size
    have LR1 := stR LR0 hbN
    have LG0_1 := stG LG0_0 hbN
    clear LB0 LR0 LG0_0
    have FR1 := Lib.hid (LR1.out.rat hR1 [.bool true, .int .i64 0, .bool p1, .slice P1 q1 r1, .slice Q1 t1 u1, .int .i64 0, .bool p2, .slice P2 q2 r2, .slice Q2 t2 u2])
    have FR2 := Lib.hid (LR1.out.rat hR2 [.bool true, .int .i64 0, .bool p1, .slice P1 q1 r1, .slice Q1 t1 u1, .int .i64 0, .bool p2, .slice P2 q2 r2, .slice Q2 t2 u2])
    clear hR1 hR2 hbN HN
    obtain ⟨ha0, hf0, ha1, hf1, ha2, hf2, ha3, hf3, ha4, hf4, ha5, hf5, ha6, hf6, ha7, hf7, ha8, hf8⟩ := LR1.out.sf9
    obtain ⟨hk0, hk1, hk2, hk3, hk4, hk5, hk6, hk7, hk8⟩ := LR1.out.sc9 (.bool true) (.int .i64 0) (.bool p1) (.slice P1 q1 r1) (.slice Q1 t1 u1) (.int .i64 0) (.bool p2) (.slice P2 q2 r2) (.slice Q2 t2 u2)
    have F := Lib.hid (below_sets (w0 := w) (r := (w.heap.size + 1)) (by omega) [.bool true, .int .i64 0, .bool p1, .slice P1 q1 r1, .slice Q1 t1 u1, .int .i64 0, .bool p2, .slice P2 q2 r2, .slice Q2 t2 u2] 0 _ LB1.out)
    simp [sets] at hk0 hk1 hk2 hk3 hk4 hk5 hk6 hk7 hk8
    go_wp2
    refine bodyPost_ret (v := .agg #[.bool true, .int .i64 0, .bool p1, .slice P1 q1 r1, .slice Q1 t1 u1, .int .i64 0, .bool p2, .slice P2 q2 r2, .slice Q2 t2 u2]) (by simp [results, Tryz.results146, go_sem, hk0, hk1, hk2, hk3, hk4, hk5, hk6, hk7, hk8]) rfl ?_
    exact ⟨_, _, _, _, _, _, _, _, _, _, _, _, _, _, rfl, FR1.out, FR2.out, F.out⟩
theorem upper_some (K : Nat) (s1 : Int) (g1 : Bool) (A1 : Option Addr) (n1 c1 : Nat) (B1 : Option Addr) (m1 d1 : Nat) (x1 : Rat) (s2 : Int) (g2 : Bool) (A2 : Option Addr) (n2 c2 : Nat) (B2 : Option Addr) (m2 d2 : Nat) (x2 : Rat) (w : World) (h1 : RatV w K g1 (.slice A1 n1 c1) (.slice B1 m1 d1) x1) (h2 : RatV w K g2 (.slice A2 n2 c2) (.slice B2 m2 d2) x2) (hK0 : 1 ≤ K) (hK : K ≤ 1073741824) (ho : 0 < esx s2 x2) :
    Calls Tryz.prog 146 #[.agg #[.bool false, .int .i64 s1, .bool g1, .slice A1 n1 c1, .slice B1 m1 d1, .int .i64 s2, .bool g2, .slice A2 n2 c2, .slice B2 m2 d2]] w (NewSet w K false (if 0 < ec 0 0 s1 x1 then 0 else s1) (if 0 < ec 0 0 s1 x1 then 0 else x1) s2 x2) := by
  have HS := Lib.hid fun W (hW : Below w.heap.size w W) => sign6_any K s2 g2 A2 n2 c2 B2 m2 d2 x2 W (h2.below hW) hK
  have HF := Lib.hid (show ∀ W, Calls Tryz.prog 95 #[.int .i64 0] W (NewEnd W 1 0 0) from fun W => finite_nat 0 W (by omega))
  have HG := Lib.hid fun W (gf : Bool) (Af : Option Addr) (nf cf : Nat) (Bf : Option Addr) (mf df : Nat) (hW : Below w.heap.size w W) (hf : RatV W K gf (.slice Af nf cf) (.slice Bf mf df) 0) => greater_any K s1 g1 A1 n1 c1 B1 m1 d1 x1 0 gf Af nf cf Bf mf df 0 W (h1.below hW) hf hK
  have Y0 := Lib.hid h2
  obtain ⟨u, hu⟩ : ∃ z, (if 0 < ec 0 0 s1 x1 then 0 else s1) = z := ⟨_, rfl⟩
  obtain ⟨v, hv⟩ : ∃ z, (if 0 < ec 0 0 s1 x1 then 0 else x1) = z := ⟨_, rfl⟩
  rw [hu, hv] at HG ⊢
  obtain ⟨sg, hsg⟩ : ∃ z, esx s2 x2 = z := ⟨_, rfl⟩
  rw [hsg] at HS ho
  have hz : ¬ sg ≤ 0 := by omega
  have HK0 := Lib.hid hK0
  clear h1 h2 hK0 hK hu hv hsg ho
  obtain ⟨LB0, LG0_0, LR⟩ := bx2 w #[.bool false, .int .i64 s1, .bool g1, .slice A1 n1 c1, .slice B1 m1 d1, .int .i64 s2, .bool g2, .slice A2 n2 c2, .slice B2 m2 d2] 69 #[.bool false, .int .i64 0, .bool false, .slice none 0 0, .slice none 0 0, .int .i64 0, .bool false, .slice none 0 0, .slice none 0 0] 69
  have LR0 := Lib.hid (HasBlk.of (n := 9) LR.out rfl rfl)
  clear LR
  go_enter Tryz.func146, Tryz.ntmps146
  obtain ⟨q0_0, q0_1, q0_2, q0_3, q0_4, q0_5, q0_6, q0_7, q0_8⟩ := LG0_0.out.c9
  go_wp2_with fail
  refine (HS.out _ LB0.out).mono ?_
  rintro e w1 ⟨rfl, hb1⟩
  have LB1 := stB LB0 hb1 LB0.out.size
  have LR1 := stR LR0 hb1
  have LG0_1 := stG LG0_0 hb1
  clear LB0 LR0 LG0_0
  clear hb1 HS q0_0 q0_1 q0_2 q0_3 q0_4 q0_5 q0_6 q0_7 q0_8
  go_wp2_with fail
  refine wp_region_held_drew (S := fun W' => Blk W' w.heap.size 69 #[.bool false, .int .i64 s1, .bool g1, .slice A1 n1 c1, .slice B1 m1 d1, .int .i64 s2, .bool g2, .slice A2 n2 c2, .slice B2 m2 d2] ∧ HasBlk W' (w.heap.size + 1) 69 9 ∧ Below w.heap.size w W') (by kernel_rfl) (by exact ⟨LG0_1.out.drew, LR1.out.drew, LB1.out.drew⟩) (fun hHeld => ?_)
  refine tk 0 ?_
  try simp only [Act.put, lay]
  refine tk 1 ?_ (hv := by intro W2 hSw; obtain ⟨q0, q1, q2, q3, q4, q5, q6, q7, q8⟩ := hSw.1.c9; go_simp; (try with_reducible rfl))
  try simp only [Act.put, lay]
  refine tk 4 ?_
  try simp only [Act.put, lay]
  refine tk 5 ?_ (hv := by intro W2 hSw; obtain ⟨q0, q1, q2, q3, q4, q5, q6, q7, q8⟩ := hSw.1.c9; go_simp; (try with_reducible rfl))
  try simp only [Act.put, lay]
  refine rdy 2 (fun KK hKK => ?_)
  go_simp
  refine (HF.out _).mono ?_
  rintro e w2 ⟨gf, Af, nf, cf, Bf, mf, df, rfl, hRf, hbA⟩
  go_wp2_with fail
  refine hKK.out _ _ (⟨hHeld.1.keep hbA, hHeld.2.1.keep hbA, hHeld.2.2.trans (hbA.mono hHeld.2.2.size)⟩) (fun _ => ?_)
  clear hKK KK hHeld; rename_i hHeld
  try simp only [Act.put, lay]
  refine rdy 3 (fun KK hKK => ?_)
  go_simp
  refine (HG.out _ _ _ _ _ _ _ _ hHeld.2.2 (hRf.mono HK0.out)).mono ?_
  rintro e w3 ⟨ga, AA, na, ca, BA, ma, da, rfl, hRa, hbB⟩
  go_wp2_with fail
  refine hKK.out _ _ (⟨hHeld.1.keep hbB, hHeld.2.1.keep hbB, hHeld.2.2.trans (hbB.mono hHeld.2.2.size)⟩) (fun _ => ?_)
  clear hKK KK hHeld; rename_i hHeld
  try simp only [Act.put, lay]
  refine tk 6 ?_
  try simp only [Act.put, lay]
  refine rdy 7 (fun KK hKK => ?_)
  have ha0 := hHeld.2.1.someCell 0 (by decide); have hf0 := hHeld.2.1.frozen 0; have ha1 := hHeld.2.1.someCell 1 (by decide); have hf1 := hHeld.2.1.frozen 1; have ha2 := hHeld.2.1.someCell 2 (by decide); have hf2 := hHeld.2.1.frozen 2; have ha3 := hHeld.2.1.someCell 3 (by decide); have hf3 := hHeld.2.1.frozen 3; have ha4 := hHeld.2.1.someCell 4 (by decide); have hf4 := hHeld.2.1.frozen 4; have ha5 := hHeld.2.1.someCell 5 (by decide); have hf5 := hHeld.2.1.frozen 5; have ha6 := hHeld.2.1.someCell 6 (by decide); have hf6 := hHeld.2.1.frozen 6; have ha7 := hHeld.2.1.someCell 7 (by decide); have hf7 := hHeld.2.1.frozen 7; have ha8 := hHeld.2.1.someCell 8 (by decide); have hf8 := hHeld.2.1.frozen 8; have HK := Lib.hid (hHeld.2.1.setCell [.bool false, .int .i64 u, .bool ga, .slice AA na ca, .slice BA ma da, .int .i64 s2, .bool g2, .slice A2 n2 c2, .slice B2 m2 d2] rfl); have F := Lib.hid (below_sets (w0 := w) (r := (w.heap.size + 1)) (by omega) [.bool false, .int .i64 u, .bool ga, .slice AA na ca, .slice BA ma da, .int .i64 s2, .bool g2, .slice A2 n2 c2, .slice B2 m2 d2] 0 _ hHeld.2.2); have FR1 := Lib.hid (hHeld.2.1.rat hRa [.bool false, .int .i64 u, .bool ga, .slice AA na ca, .slice BA ma da, .int .i64 s2, .bool g2, .slice A2 n2 c2, .slice B2 m2 d2]); have FR2 := Lib.hid (hHeld.2.1.rat (Y0.out.below hHeld.2.2) [.bool false, .int .i64 u, .bool ga, .slice AA na ca, .slice BA ma da, .int .i64 s2, .bool g2, .slice A2 n2 c2, .slice B2 m2 d2])
  go_simp
  refine hKK.out _ _ (⟨hHeld.1.other (by omega) 0 [.bool false, .int .i64 u, .bool ga, .slice AA na ca, .slice BA ma da, .int .i64 s2, .bool g2, .slice A2 n2 c2, .slice B2 m2 d2], hHeld.2.1.sets [.bool false, .int .i64 u, .bool ga, .slice AA na ca, .slice BA ma da, .int .i64 s2, .bool g2, .slice A2 n2 c2, .slice B2 m2 d2] rfl rfl, below_sets (by omega) [.bool false, .int .i64 u, .bool ga, .slice AA na ca, .slice BA ma da, .int .i64 s2, .bool g2, .slice A2 n2 c2, .slice B2 m2 d2] 0 _ hHeld.2.2⟩) (fun _ => ?_)
  clear hKK KK hHeld; rename_i hHeld
  try simp only [Act.put, lay]
  refine wpAnyH_done (by kernel_rfl) ?_ _
  have hk0 := HK.out 0 (by decide)
  have hk1 := HK.out 1 (by decide)
  have hk2 := HK.out 2 (by decide)
  have hk3 := HK.out 3 (by decide)
  have hk4 := HK.out 4 (by decide)
  have hk5 := HK.out 5 (by decide)
  have hk6 := HK.out 6 (by decide)
  have hk7 := HK.out 7 (by decide)
  have hk8 := HK.out 8 (by decide)
  simp [sets] at hk0 hk1 hk2 hk3 hk4 hk5 hk6 hk7 hk8
  clear hHeld HK hRf hbA hRa hbB
  clear LB1 LR1 LG0_1
  go_wp2
  refine bodyPost_ret (v := .agg #[.bool false, .int .i64 u, .bool ga, .slice AA na ca, .slice BA ma da, .int .i64 s2, .bool g2, .slice A2 n2 c2, .slice B2 m2 d2]) (by simp [results, Tryz.results146, go_sem, hk0, hk1, hk2, hk3, hk4, hk5, hk6, hk7, hk8]) rfl ?_
  exact ⟨_, _, _, _, _, _, _, _, _, _, _, _, _, _, rfl, FR1.out, FR2.out, F.out⟩
end Go.Proofs.YtmjkmoahkanblaaGreat

namespace Go.Proofs.YtmjkmoahkanblaaGreat
open Go.RowKit
end Go.Proofs.YtmjkmoahkanblaaGreat

namespace Go.Proofs.YtmjkmoahkanblaaGreat
open Go.RowKit
theorem minusp_any (K : Nat) (o : Bool) (s1 : Int) (g1 : Bool) (A1 : Option Addr) (n1 c1 : Nat) (B1 : Option Addr) (m1 d1 : Nat) (x1 : Rat) (N1 : Int) (o1 : Bool) (s2 : Int) (g2 : Bool) (A2 : Option Addr) (n2 c2 : Nat) (B2 : Option Addr) (m2 d2 : Nat) (x2 : Rat) (N2 : Int) (o2 : Bool) (w : World) (h1 : RatV w K g1 (.slice A1 n1 c1) (.slice B1 m1 d1) x1) (h2 : RatV w K g2 (.slice A2 n2 c2) (.slice B2 m2 d2) x2) (hK : K ≤ 1073741824) (hs1 : -1 ≤ s1 ∧ s1 ≤ 1) (hs2 : -1 ≤ s2 ∧ s2 ≤ 1) :
    Calls Tryz.prog 77 #[.agg #[.bool o, .int .i64 s1, .bool g1, .slice A1 n1 c1, .slice B1 m1 d1, .int .i64 N1, .bool o1, .int .i64 s2, .bool g2, .slice A2 n2 c2, .slice B2 m2 d2, .int .i64 N2, .bool o2]] w (NewPiece w K o (-s2) (-x2) N2 o2 (-s1) (-x1) N1 o1) := by
  have HR1 := Lib.hid fun W (hW : Below w.heap.size w W) => (rneg_any K g1 (.slice A1 n1 c1) (.slice B1 m1 d1) x1 W (h1.below hW) hK).mono fun _ _ h => h.s
  have HR2 := Lib.hid fun W (hW : Below w.heap.size w W) => (rneg_any K g2 (.slice A2 n2 c2) (.slice B2 m2 d2) x2 W (h2.below hW) hK).mono fun _ _ h => h.s
  obtain ⟨t1, ht1⟩ : ∃ t, -s1 = t := ⟨_, rfl⟩
  obtain ⟨t2, ht2⟩ : ∃ t, -s2 = t := ⟨_, rfl⟩
  rw [ht1]
  rw [ht2]
  have hw1 : IntKind.i64.wrap (-s1) = t1 := by rw [IntKind.wrap_i64]; omega
  have hw2 : IntKind.i64.wrap (-s2) = t2 := by rw [IntKind.wrap_i64]; omega
  clear h1 h2 hK ht1 ht2
  obtain ⟨LB0, LG0_0, LR⟩ := bx2 w #[.bool o, .int .i64 s1, .bool g1, .slice A1 n1 c1, .slice B1 m1 d1, .int .i64 N1, .bool o1, .int .i64 s2, .bool g2, .slice A2 n2 c2, .slice B2 m2 d2, .int .i64 N2, .bool o2] 64 #[.bool false, .int .i64 0, .bool false, .slice none 0 0, .slice none 0 0, .int .i64 0, .bool false, .int .i64 0, .bool false, .slice none 0 0, .slice none 0 0, .int .i64 0, .bool false] 64
  have LR0 := Lib.hid (HasBlk.of (n := 13) LR.out rfl rfl)
  clear LR
  go_enter Tryz.func77, Tryz.ntmps77
  go_upto_region 1 with fail
  obtain ⟨Wa, hWa⟩ : ∃ X, ((w.alloc (.cells #[.bool o, .int .i64 s1, .bool g1, .slice A1 n1 c1, .slice B1 m1 d1, .int .i64 N1, .bool o1, .int .i64 s2, .bool g2, .slice A2 n2 c2, .slice B2 m2 d2, .int .i64 N2, .bool o2] 64)).alloc (.cells #[.bool false, .int .i64 0, .bool false, .slice none 0 0, .slice none 0 0, .int .i64 0, .bool false, .int .i64 0, .bool false, .slice none 0 0, .slice none 0 0, .int .i64 0, .bool false] 64)) = X := ⟨_, rfl⟩
  rw [hWa] at LB0 LR0 LG0_0 ⊢
  clear hWa
  obtain ⟨q0_0, q0_1, q0_2, q0_3, q0_4, q0_5, q0_6, q0_7, q0_8, q0_9, q0_10, q0_11, q0_12⟩ := LG0_0.out.c13
  go_upto_region 2 with fail
  clear q0_0 q0_1 q0_2 q0_3 q0_4 q0_5 q0_6 q0_7 q0_8 q0_9 q0_10 q0_11 q0_12
  have hlt1 := LR0.out.lt
  have LB1 := Lib.hid (LB0.out.alloc LB0.out.size (.cells #[.int .i64 s1, .bool g1, .slice A1 n1 c1, .slice B1 m1 d1, .int .i64 N1, .bool o1] 62))
  have LR1 := Lib.hid (LR0.out.alloc (.cells #[.int .i64 s1, .bool g1, .slice A1 n1 c1, .slice B1 m1 d1, .int .i64 N1, .bool o1] 62))
  have LG0_1 := Lib.hid (LG0_0.out.alloc (.cells #[.int .i64 s1, .bool g1, .slice A1 n1 c1, .slice B1 m1 d1, .int .i64 N1, .bool o1] 62))
  have LG1_1 := Lib.hid (Blk.new Wa 62 #[.int .i64 s1, .bool g1, .slice A1 n1 c1, .slice B1 m1 d1, .int .i64 N1, .bool o1])
  clear LB0 LR0 LG0_0
  obtain ⟨Wb, hWb⟩ : ∃ W, Wa.alloc (.cells #[.int .i64 s1, .bool g1, .slice A1 n1 c1, .slice B1 m1 d1, .int .i64 N1, .bool o1] 62) = W := ⟨_, rfl⟩
  rw [hWb] at LB1 LR1 LG0_1 LG1_1 ⊢
  clear hWb
  obtain ⟨h, hg⟩ : ∃ g, Wa.heap.size = g := ⟨_, rfl⟩
  rw [hg] at LG1_1 hlt1 ⊢
  clear hg
  have hlt := hlt1
  have hl1 := LG1_1.out.lt
  clear hlt1
  obtain ⟨q0_0, q0_1, q0_2, q0_3, q0_4, q0_5, q0_6, q0_7, q0_8, q0_9, q0_10, q0_11, q0_12⟩ := LG0_1.out.c13
  go_upto_region 3 with fail
  clear q0_0 q0_1 q0_2 q0_3 q0_4 q0_5 q0_6 q0_7 q0_8 q0_9 q0_10 q0_11 q0_12
  have hlt2 := LR1.out.lt
  have LB2 := Lib.hid (LB1.out.alloc LB1.out.size (.cells #[.int .i64 s2, .bool g2, .slice A2 n2 c2, .slice B2 m2 d2, .int .i64 N2, .bool o2] 62))
  have LR2 := Lib.hid (LR1.out.alloc (.cells #[.int .i64 s2, .bool g2, .slice A2 n2 c2, .slice B2 m2 d2, .int .i64 N2, .bool o2] 62))
  have LG0_2 := Lib.hid (LG0_1.out.alloc (.cells #[.int .i64 s2, .bool g2, .slice A2 n2 c2, .slice B2 m2 d2, .int .i64 N2, .bool o2] 62))
  have LG1_2 := Lib.hid (LG1_1.out.alloc (.cells #[.int .i64 s2, .bool g2, .slice A2 n2 c2, .slice B2 m2 d2, .int .i64 N2, .bool o2] 62))
  have LG2_2 := Lib.hid (Blk.new Wb 62 #[.int .i64 s2, .bool g2, .slice A2 n2 c2, .slice B2 m2 d2, .int .i64 N2, .bool o2])
  clear LB1 LR1 LG0_1 LG1_1
  obtain ⟨W1, hWb⟩ : ∃ W, Wb.alloc (.cells #[.int .i64 s2, .bool g2, .slice A2 n2 c2, .slice B2 m2 d2, .int .i64 N2, .bool o2] 62) = W := ⟨_, rfl⟩
  rw [hWb] at LB2 LR2 LG0_2 LG1_2 LG2_2 ⊢
  clear hWb
  obtain ⟨h2, hg⟩ : ∃ g, Wb.heap.size = g := ⟨_, rfl⟩
  rw [hg] at LG2_2 hlt2 hl1 ⊢
  clear hg
  have q1_0 := LG1_2.out.ce 0 rfl
  have f0 := LG1_2.out.frozen 0
  go_upto_region 4 with fail
  clear q1_0 f0
  have LB3 := Lib.hid (LB2.out.setCell (p := ⟨h, 0, none⟩) (show w.heap.size ≤ h by omega) (.int .i64 t1))
  have LR3 := Lib.hid (show HasBlk (W1.setCell ⟨h, 0, none⟩ (.int .i64 t1)) (w.heap.size + 1) 64 13 from LR2.out.other (by omega) 0 [.int .i64 t1])
  have LG0_3 := Lib.hid (show Blk (W1.setCell ⟨h, 0, none⟩ (.int .i64 t1)) w.heap.size 64 #[.bool o, .int .i64 s1, .bool g1, .slice A1 n1 c1, .slice B1 m1 d1, .int .i64 N1, .bool o1, .int .i64 s2, .bool g2, .slice A2 n2 c2, .slice B2 m2 d2, .int .i64 N2, .bool o2] from LG0_2.out.other (by omega) 0 [.int .i64 t1])
  have LG1_3 := Lib.hid (LG1_2.out.set 0 (.int .i64 t1))
  have LG2_3 := Lib.hid (show Blk (W1.setCell ⟨h, 0, none⟩ (.int .i64 t1)) h2 62 #[.int .i64 s2, .bool g2, .slice A2 n2 c2, .slice B2 m2 d2, .int .i64 N2, .bool o2] from LG2_2.out.other (by omega) 0 [.int .i64 t1])
  clear LB2 LR2 LG0_2 LG1_2 LG2_2
  obtain ⟨W2, hW⟩ : ∃ X, W1.setCell ⟨h, 0, none⟩ (.int .i64 t1) = X := ⟨_, rfl⟩
  rw [hW] at LB3 LR3 LG0_3 LG1_3 LG2_3 ⊢
  clear hW
  have q2_0 := LG2_3.out.ce 0 rfl
  have f0 := LG2_3.out.frozen 0
  go_upto_region 5 with fail
  clear q2_0 f0
  have LB4 := Lib.hid (LB3.out.setCell (p := ⟨h2, 0, none⟩) (show w.heap.size ≤ h2 by omega) (.int .i64 t2))
  have LR4 := Lib.hid (show HasBlk (W2.setCell ⟨h2, 0, none⟩ (.int .i64 t2)) (w.heap.size + 1) 64 13 from LR3.out.other (by omega) 0 [.int .i64 t2])
  have LG0_4 := Lib.hid (show Blk (W2.setCell ⟨h2, 0, none⟩ (.int .i64 t2)) w.heap.size 64 #[.bool o, .int .i64 s1, .bool g1, .slice A1 n1 c1, .slice B1 m1 d1, .int .i64 N1, .bool o1, .int .i64 s2, .bool g2, .slice A2 n2 c2, .slice B2 m2 d2, .int .i64 N2, .bool o2] from LG0_3.out.other (by omega) 0 [.int .i64 t2])
  have LG1_4 := Lib.hid (show Blk (W2.setCell ⟨h2, 0, none⟩ (.int .i64 t2)) h 62 #[.int .i64 t1, .bool g1, .slice A1 n1 c1, .slice B1 m1 d1, .int .i64 N1, .bool o1] from LG1_3.out.other (by omega) 0 [.int .i64 t2])
  have LG2_4 := Lib.hid (LG2_3.out.set 0 (.int .i64 t2))
  clear LB3 LR3 LG0_3 LG1_3 LG2_3
  obtain ⟨W3, hW⟩ : ∃ X, W2.setCell ⟨h2, 0, none⟩ (.int .i64 t2) = X := ⟨_, rfl⟩
  rw [hW] at LB4 LR4 LG0_4 LG1_4 LG2_4 ⊢
  clear hW
  clear hw1 hw2
  have q1_1 := LG1_4.out.ce 1 rfl
  have q1_2 := LG1_4.out.ce 2 rfl
  have q1_3 := LG1_4.out.ce 3 rfl
  go_wp2_with fail
  refine (HR1.out _ LB4.out).mono ?_
  rintro e W4 ⟨k1, F1, a1, e1, G1, j1, l1, rfl, hZ, hbZ⟩
  have LB5 := stB LB4 hbZ LB4.out.size
  have LR5 := stR LR4 hbZ
  have LG0_5 := stG LG0_4 hbZ
  have LG1_5 := stG LG1_4 hbZ
  have LG2_5 := stG LG2_4 hbZ
  clear LB4 LR4 LG0_4 LG1_4 LG2_4
  have Z1 := Lib.hid hZ
  clear hZ hbZ HR1 q1_1 q1_2 q1_3
  have q1_1 := LG1_5.out.ce 1 rfl
  have q1_2 := LG1_5.out.ce 2 rfl
  have q1_3 := LG1_5.out.ce 3 rfl
  have f1 := LG1_5.out.frozen 1
  have f2 := LG1_5.out.frozen 2
  have f3 := LG1_5.out.frozen 3
  go_upto_region 6 with fail
  clear f1 f2 f3 q1_1 q1_2 q1_3
  have Z1 := Lib.hid (Z1.out.sets LG1_5.out (NoWd.of (by rw [← Array.all_toList]; rfl)) 1 [.bool k1, .slice F1 a1 e1, .slice G1 j1 l1])
  have LB6 := Lib.hid (below_sets (w0 := w) (show w.heap.size ≤ h by omega) [.bool k1, .slice F1 a1 e1, .slice G1 j1 l1] 1 W4 LB5.out)
  have LR6 := Lib.hid (LR5.out.other (r := h) (by omega) 1 [.bool k1, .slice F1 a1 e1, .slice G1 j1 l1])
  have LG0_6 := Lib.hid (LG0_5.out.other (r := h) (by omega) 1 [.bool k1, .slice F1 a1 e1, .slice G1 j1 l1])
  have LG1_6 := Lib.hid (show Blk (sets W4 h 1 [.bool k1, .slice F1 a1 e1, .slice G1 j1 l1]) h 62 #[.int .i64 t1, .bool k1, .slice F1 a1 e1, .slice G1 j1 l1, .int .i64 N1, .bool o1] from by have hbs := Blk.sets [.bool k1, .slice F1 a1 e1, .slice G1 j1 l1] 1 W4 _ LG1_5.out; simpa [laid] using hbs)
  have LG2_6 := Lib.hid (LG2_5.out.other (r := h) (by omega) 1 [.bool k1, .slice F1 a1 e1, .slice G1 j1 l1])
  clear LB5 LR5 LG0_5 LG1_5 LG2_5
  obtain ⟨W5, hW⟩ : ∃ X, sets W4 h 1 [.bool k1, .slice F1 a1 e1, .slice G1 j1 l1] = X := ⟨_, rfl⟩
  rw [hW] at LB6 LR6 LG0_6 LG1_6 LG2_6 Z1
  simp only [sets] at hW
  rw [hW]
  clear hW
  have q2_1 := LG2_6.out.ce 1 rfl
  have q2_2 := LG2_6.out.ce 2 rfl
  have q2_3 := LG2_6.out.ce 3 rfl
  go_wp2_with fail
  refine (HR2.out _ LB6.out).mono ?_
  rintro e W6 ⟨k2, F2, a2, e2, G2, j2, l2, rfl, hZ, hbZ⟩
  have LB7 := stB LB6 hbZ LB6.out.size
  have LR7 := stR LR6 hbZ
  have LG0_7 := stG LG0_6 hbZ
  have LG1_7 := stG LG1_6 hbZ
  have LG2_7 := stG LG2_6 hbZ
  clear LB6 LR6 LG0_6 LG1_6 LG2_6
  have Z1 := Lib.hid (Z1.out.below hbZ)
  have Z2 := Lib.hid hZ
  clear hZ hbZ HR2 q2_1 q2_2 q2_3
  have q2_1 := LG2_7.out.ce 1 rfl
  have q2_2 := LG2_7.out.ce 2 rfl
  have q2_3 := LG2_7.out.ce 3 rfl
  have f1 := LG2_7.out.frozen 1
  have f2 := LG2_7.out.frozen 2
  have f3 := LG2_7.out.frozen 3
  go_upto_region 7 with fail
  clear f1 f2 f3 q2_1 q2_2 q2_3
  have Z1 := Lib.hid (Z1.out.sets LG2_7.out (NoWd.of (by rw [← Array.all_toList]; rfl)) 1 [.bool k2, .slice F2 a2 e2, .slice G2 j2 l2])
  have Z2 := Lib.hid (Z2.out.sets LG2_7.out (NoWd.of (by rw [← Array.all_toList]; rfl)) 1 [.bool k2, .slice F2 a2 e2, .slice G2 j2 l2])
  have LB8 := Lib.hid (below_sets (w0 := w) (show w.heap.size ≤ h2 by omega) [.bool k2, .slice F2 a2 e2, .slice G2 j2 l2] 1 W6 LB7.out)
  have LR8 := Lib.hid (LR7.out.other (r := h2) (by omega) 1 [.bool k2, .slice F2 a2 e2, .slice G2 j2 l2])
  have LG0_8 := Lib.hid (LG0_7.out.other (r := h2) (by omega) 1 [.bool k2, .slice F2 a2 e2, .slice G2 j2 l2])
  have LG1_8 := Lib.hid (LG1_7.out.other (r := h2) (by omega) 1 [.bool k2, .slice F2 a2 e2, .slice G2 j2 l2])
  have LG2_8 := Lib.hid (show Blk (sets W6 h2 1 [.bool k2, .slice F2 a2 e2, .slice G2 j2 l2]) h2 62 #[.int .i64 t2, .bool k2, .slice F2 a2 e2, .slice G2 j2 l2, .int .i64 N2, .bool o2] from by have hbs := Blk.sets [.bool k2, .slice F2 a2 e2, .slice G2 j2 l2] 1 W6 _ LG2_7.out; simpa [laid] using hbs)
  clear LB7 LR7 LG0_7 LG1_7 LG2_7
  obtain ⟨W7, hW⟩ : ∃ X, sets W6 h2 1 [.bool k2, .slice F2 a2 e2, .slice G2 j2 l2] = X := ⟨_, rfl⟩
  rw [hW] at LB8 LR8 LG0_8 LG1_8 LG2_8 Z1 Z2
  simp only [sets] at hW
  rw [hW]
  clear hW
  have q0_0 := LG0_8.out.ce 0 rfl
  obtain ⟨q1_0, q1_1, q1_2, q1_3, q1_4, q1_5⟩ := LG1_8.out.c6
  obtain ⟨q2_0, q2_1, q2_2, q2_3, q2_4, q2_5⟩ := LG2_8.out.c6
  have FR1 := Lib.hid (LR8.out.rat Z2.out [.bool o, .int .i64 t2, .bool k2, .slice F2 a2 e2, .slice G2 j2 l2, .int .i64 N2, .bool o2, .int .i64 t1, .bool k1, .slice F1 a1 e1, .slice G1 j1 l1, .int .i64 N1, .bool o1])
  have FR2 := Lib.hid (LR8.out.rat Z1.out [.bool o, .int .i64 t2, .bool k2, .slice F2 a2 e2, .slice G2 j2 l2, .int .i64 N2, .bool o2, .int .i64 t1, .bool k1, .slice F1 a1 e1, .slice G1 j1 l1, .int .i64 N1, .bool o1])
  clear Z1 Z2
  obtain ⟨ha0, hf0, ha1, hf1, ha2, hf2, ha3, hf3, ha4, hf4, ha5, hf5, ha6, hf6, ha7, hf7, ha8, hf8, ha9, hf9, ha10, hf10, ha11, hf11, ha12, hf12⟩ := LR8.out.sf13
  obtain ⟨hk0, hk1, hk2, hk3, hk4, hk5, hk6, hk7, hk8, hk9, hk10, hk11, hk12⟩ := LR8.out.sc13 (.bool o) (.int .i64 t2) (.bool k2) (.slice F2 a2 e2) (.slice G2 j2 l2) (.int .i64 N2) (.bool o2) (.int .i64 t1) (.bool k1) (.slice F1 a1 e1) (.slice G1 j1 l1) (.int .i64 N1) (.bool o1)
  have F := Lib.hid (below_sets (w0 := w) (r := (w.heap.size + 1)) (by omega) [.bool o, .int .i64 t2, .bool k2, .slice F2 a2 e2, .slice G2 j2 l2, .int .i64 N2, .bool o2, .int .i64 t1, .bool k1, .slice F1 a1 e1, .slice G1 j1 l1, .int .i64 N1, .bool o1] 0 _ LB8.out)
  simp [sets] at hk0 hk1 hk2 hk3 hk4 hk5 hk6 hk7 hk8 hk9 hk10 hk11 hk12
  go_wp2
  refine bodyPost_ret (v := .agg #[.bool o, .int .i64 t2, .bool k2, .slice F2 a2 e2, .slice G2 j2 l2, .int .i64 N2, .bool o2, .int .i64 t1, .bool k1, .slice F1 a1 e1, .slice G1 j1 l1, .int .i64 N1, .bool o1]) (by simp [results, Tryz.results77, go_sem, hk0, hk1, hk2, hk3, hk4, hk5, hk6, hk7, hk8, hk9, hk10, hk11, hk12]) rfl ?_
  exact ⟨_, _, _, _, _, _, _, _, _, _, _, _, _, _, rfl, FR1.out, FR2.out, F.out⟩
end Go.Proofs.YtmjkmoahkanblaaGreat

namespace Go.Proofs.YtmjkmoahkanblaaGreat
open Go.RowKit
theorem minus_idx (v : Value) (i j : Int) (w : World) (h : SetOf w v i j) :
    Calls Tryz.prog 58 #[v] w fun e w' => ∃ t, e = .returned t ∧ SetOf w' t (-j) (-i) ∧ Below w.heap.size w w' := by
  rcases h with ⟨rfl, rfl, s, x, t, y, g, A, n, c, B, m, d, g', A', n', c', B', m', d', rfl, h4, h5⟩ | ⟨h1, g, A, n, c, B, m, d, g', A', n', c', B', m', d', rfl, h4, h5⟩
  · refine (minus_none 34 s g A n c B m d x t g' A' n' c' B' m' d' y w h4 h5).mono ?_
    rintro e w' ⟨g5, A5, n5, c5, B5, m5, d5, g6, A6, n6, c6, B6, m6, d6, rfl, q1, q2, hb⟩
    exact ⟨_, rfl, .inl ⟨by omega, rfl, _, _, _, _, _, _, _, _, _, _, _, _, _, _, _, _, _, _, rfl, q1, q2⟩, hb⟩
  · refine (minus_some 34 _ g A n c B m d _ _ g' A' n' c' B' m' d' _ w h4 h5 (by omega) (es_bounds i) (es_bounds j)).mono ?_
    rintro e w' ⟨g5, A5, n5, c5, B5, m5, d5, g6, A6, n6, c6, B6, m6, d6, rfl, q1, q2, hb⟩
    rw [← es_neg, ← es_neg]
    rw [← ex_neg] at q1 q2
    exact ⟨_, rfl, .inr ⟨by omega, _, _, _, _, _, _, _, _, _, _, _, _, _, _, rfl, q1, q2⟩, hb⟩
theorem PcW.below {w w0 : World} {o : Bool} {s1 : Int} {g1 : Bool} {A1 : Option Addr} {n1 c1 : Nat} {B1 : Option Addr} {m1 d1 : Nat} {N1 : Int} {o1 : Bool} {s2 : Int} {g2 : Bool} {A2 : Option Addr} {n2 c2 : Nat} {B2 : Option Addr} {m2 d2 : Nat} {N2 : Int} {o2 : Bool} {F : Int → Int → Int × Int}
    (h : PcW w0 o s1 g1 A1 n1 c1 B1 m1 d1 N1 o1 s2 g2 A2 n2 c2 B2 m2 d2 N2 o2 F) (hb : Below w0.heap.size w0 w) : PcW w o s1 g1 A1 n1 c1 B1 m1 d1 N1 o1 s2 g2 A2 n2 c2 B2 m2 d2 N2 o2 F :=
  ⟨h.1, fun W i j hW hij => h.2 W i j (hb.trans (hW.mono hb.size)) hij⟩
end Go.Proofs.YtmjkmoahkanblaaGreat

namespace Go.Proofs.YtmjkmoahkanblaaGreat
open Go.RowKit
def NewPcF (w : World) (F : Int → Int → Int × Int) (e : Ending) (w' : World) : Prop :=
  ∃ o s1 g1 A1 n1 c1 B1 m1 d1 N1 o1 s2 g2 A2 n2 c2 B2 m2 d2 N2 o2,
    e = .returned (.agg #[.bool o, .int .i64 s1, .bool g1, .slice A1 n1 c1, .slice B1 m1 d1, .int .i64 N1, .bool o1, .int .i64 s2, .bool g2, .slice A2 n2 c2, .slice B2 m2 d2, .int .i64 N2, .bool o2]) ∧ PcW w' o s1 g1 A1 n1 c1 B1 m1 d1 N1 o1 s2 g2 A2 n2 c2 B2 m2 d2 N2 o2 F ∧ Below w.heap.size w w'
theorem PcG.of {W : World} {g : Nat} {t : TypeId} {cs : Array Value} {k : Nat} {F : Int → Int → Int × Int} (hb : Blk W g t cs) {o : Bool} {s1 : Int} {g1 : Bool} {A1 : Option Addr} {n1 c1 : Nat} {B1 : Option Addr} {m1 d1 : Nat} {N1 : Int} {o1 : Bool} {s2 : Int} {g2 : Bool} {A2 : Option Addr} {n2 c2 : Nat} {B2 : Option Addr} {m2 d2 : Nat} {N2 : Int} {o2 : Bool}
    (h : PcW W o s1 g1 A1 n1 c1 B1 m1 d1 N1 o1 s2 g2 A2 n2 c2 B2 m2 d2 N2 o2 F)
    (hc : ∀ i : Nat, i < 13 → cs[k * 13 + i]? = (#[.bool o, .int .i64 s1, .bool g1, .slice A1 n1 c1, .slice B1 m1 d1, .int .i64 N1, .bool o1, .int .i64 s2, .bool g2, .slice A2 n2 c2, .slice B2 m2 d2, .int .i64 N2, .bool o2] : Array Value)[i]?) : PcG W ⟨g, 0, none⟩ k F := by
  have e : (⟨g, 0, none⟩ : Addr).add (k * 13) = ⟨g, k * 13, none⟩ := by unfold Addr.add; split <;> simp_all
  have c : ∀ i : Nat, i < 13 → W.cell? ⟨g, k * 13 + i, none⟩ = (#[.bool o, .int .i64 s1, .bool g1, .slice A1 n1 c1, .slice B1 m1 d1, .int .i64 N1, .bool o1, .int .i64 s2, .bool g2, .slice A2 n2 c2, .slice B2 m2 d2, .int .i64 N2, .bool o2] : Array Value)[i]? := fun i hi => (hb.cell _).trans (hc i hi)
  refine ⟨o, s1, g1, A1, n1, c1, B1, m1, d1, N1, o1, s2, g2, A2, n2, c2, B2, m2, d2, N2, o2, ?_, ?_, ?_, ?_, ?_, ?_, ?_, ?_, ?_, ?_, ?_, ?_, ?_, h⟩
  · rw [e]; exact c 0 (by omega)
  · rw [e]; exact c 1 (by omega)
  · rw [e]; exact c 2 (by omega)
  · rw [e]; exact c 3 (by omega)
  · rw [e]; exact c 4 (by omega)
  · rw [e]; exact c 5 (by omega)
  · rw [e]; exact c 6 (by omega)
  · rw [e]; exact c 7 (by omega)
  · rw [e]; exact c 8 (by omega)
  · rw [e]; exact c 9 (by omega)
  · rw [e]; exact c 10 (by omega)
  · rw [e]; exact c 11 (by omega)
  · rw [e]; exact c 12 (by omega)
end Go.Proofs.YtmjkmoahkanblaaGreat

namespace Go.Proofs.YtmjkmoahkanblaaGreat
open Go.RowKit
theorem all_nil (x y : Nat) (w : World) (hx : x < 18446744073709551616) (hy : y < 18446744073709551616) :
    Calls Tryz.prog 54 #[.agg #[.int .u64 (x : Int), .int .u64 (y : Int)], .slice none 0 0] w fun e w' => e = .returned (.agg #[.int .u64 9218868437227405312, .int .u64 18442240474082181120]) ∧ Below w.heap.size w w' := by
  have HR := Lib.hid fun W => read6 x y W hx hy
  have HE := Lib.hid empty6
  obtain ⟨p, hp⟩ : ∃ p, pat (rd x y).1 = p := ⟨_, rfl⟩
  obtain ⟨q, hq⟩ : ∃ p, pat (rd x y).2 = p := ⟨_, rfl⟩
  rw [hp, hq] at HR
  clear hp hq
  obtain ⟨LB0, LG0_0, LR⟩ := bx2 w #[.int .u64 (x : Int), .int .u64 (y : Int)] 24 #[.int .u64 0, .int .u64 0] 24
  have LR0 := Lib.hid (HasBlk.of (n := 2) LR.out rfl rfl)
  clear LR
  go_enter Tryz.func54, Tryz.ntmps54
  go_wp2_with fail
  refine (HR.out _).mono ?_
  rintro e w1 ⟨rfl, hb1⟩
  have LB1 := stB LB0 hb1 LB0.out.size
  have LR1 := stR LR0 hb1
  have LG0_1 := stG LG0_0 hb1
  clear LB0 LR0 LG0_0
  have hlt2 := LR1.out.lt
  have LB2 := Lib.hid (LB1.out.alloc LB1.out.size (.cells #[.int .u64 (p : Int), .int .u64 (q : Int)] 24))
  have LR2 := Lib.hid (LR1.out.alloc (.cells #[.int .u64 (p : Int), .int .u64 (q : Int)] 24))
  have LG0_2 := Lib.hid (LG0_1.out.alloc (.cells #[.int .u64 (p : Int), .int .u64 (q : Int)] 24))
  have LG1_2 := Lib.hid (Blk.new w1 24 #[.int .u64 (p : Int), .int .u64 (q : Int)])
  clear LB1 LR1 LG0_1
  clear hb1
  go_wp2_with fail
  refine (HE.out _).mono ?_
  rintro e w2 ⟨rfl, hb2⟩
  have LB3 := stB LB2 hb2 LB2.out.size
  have LR3 := stR LR2 hb2
  have LG0_3 := stG LG0_2 hb2
  have LG1_3 := stG LG1_2 hb2
  clear LB2 LR2 LG0_2 LG1_2
  have hlt4 := LR3.out.lt
  have LB4 := Lib.hid (LB3.out.alloc LB3.out.size (.cells #[.int .u64 9218868437227405312, .int .u64 18442240474082181120] 24))
  have LR4 := Lib.hid (LR3.out.alloc (.cells #[.int .u64 9218868437227405312, .int .u64 18442240474082181120] 24))
  have LG0_4 := Lib.hid (LG0_3.out.alloc (.cells #[.int .u64 9218868437227405312, .int .u64 18442240474082181120] 24))
  have LG1_4 := Lib.hid (LG1_3.out.alloc (.cells #[.int .u64 9218868437227405312, .int .u64 18442240474082181120] 24))
  have LG2_4 := Lib.hid (Blk.new w2 24 #[.int .u64 9218868437227405312, .int .u64 18442240474082181120])
  clear LB3 LR3 LG0_3 LG1_3
  clear hb2
  go_upto_region 3 with fail
  obtain ⟨V4, hV4⟩ : ∃ X, (w2.alloc (.cells #[.int .u64 9218868437227405312, .int .u64 18442240474082181120] 24)) = X := ⟨_, rfl⟩
  rw [hV4] at LB4 LR4 LG0_4 LG1_4 LG2_4 ⊢
  clear hV4
  go_wp2_with fail
  go_loopw [7] (fun iv wr => iv = .int .i64 0 ∧ V4 = wr) (fun _ _ => 0)
  case atStart => exact ⟨rfl, rfl⟩
  case round =>
    obtain ⟨rfl, rfl⟩ := hrel
    obtain ⟨q2_0, q2_1⟩ := LG2_4.out.c2
    obtain ⟨ha0, hf0, ha1, hf1⟩ := LR4.out.sf2
    obtain ⟨hk0, hk1⟩ := LR4.out.sc2 (.int .u64 9218868437227405312) (.int .u64 18442240474082181120)
    have F := Lib.hid (below_sets (w0 := w) (r := (w.heap.size + 1)) (by omega) [.int .u64 9218868437227405312, .int .u64 18442240474082181120] 0 _ LB4.out)
    simp [sets] at hk0 hk1
    go_wp2
    refine bodyPost_ret (v := .agg #[.int .u64 9218868437227405312, .int .u64 18442240474082181120]) (by simp [results, Tryz.results54, go_sem, hk0, hk1]) rfl ?_
    exact ⟨rfl, F.out⟩
end Go.Proofs.YtmjkmoahkanblaaGreat

namespace Go.Proofs.YtmjkmoahkanblaaGreat
open Go.RowKit
theorem all_pcs (x y : Nat) (A : Option Addr) (n c : Nat) (L : Nat → Int → Int → Int × Int) (w : World) (hx : x < 18446744073709551616) (hy : y < 18446744073709551616) (hn : n ≤ 100) (hc : n ≤ c) (h0 : n = 0 → A = none ∧ c = 0) (hL : ∀ k : Nat, k < n → ∃ ad, A = some ad ∧ PcG w ad k (L k)) :
    Calls Tryz.prog 54 #[.agg #[.int .u64 (x : Int), .int .u64 (y : Int)], .slice A n c] w fun e w' => e = .returned (.agg #[.int .u64 (pat (zg (rd x y).1 (rd x y).2 L n).1 : Int), .int .u64 (pat (zg (rd x y).1 (rd x y).2 L n).2 : Int)]) ∧ Below w.heap.size w w' := by
  rcases Nat.eq_zero_or_pos n with h | h
  · subst h
    obtain ⟨rfl, rfl⟩ := h0 rfl
    have h := all_nil x y w hx hy
    show Calls _ _ _ _ fun e w' => e = .returned (.agg #[.int .u64 (pat (M : Int) : Int), .int .u64 (pat (-(M : Int)) : Int)]) ∧ Below w.heap.size w w'
    rw [pat_max, pat_min]
    exact h
  · obtain ⟨ad, rfl, -⟩ := hL 0 h
    exact all_gen x y ad n c L w hx hy hn hc (fun k hk => by
      obtain ⟨ad', e, hp⟩ := hL k hk
      cases e; exact hp)
end Go.Proofs.YtmjkmoahkanblaaGreat

namespace Go.Proofs.YtmjkmoahkanblaaGreat
open Go.RowKit
theorem esx_idx {i : Int} (h : -(M : Int) ≤ i ∧ i ≤ M) : (0 < esx (es i) (ex i) ↔ 0 < i) ∧ (esx (es i) (ex i) < 0 ↔ i < 0) := by
  have hM : (M : Int) = 9218868437227405312 := rfl
  by_cases h1 : i = M
  · subst h1; rw [es_max]; unfold esx; rw [if_pos (by omega)]; omega
  · by_cases h2 : i = -(M : Int)
    · subst h2; rw [es_min]; unfold esx; rw [if_pos (by omega)]; omega
    · rw [es_mid (by omega) (by omega), ex_mid (by omega) (by omega)]
      unfold esx rsg
      rw [if_neg (by omega)]
      rcases Int.lt_trichotomy i 0 with h3 | h3 | h3
      · have := fl_lt_iff.2 h3
        rw [fl_zero] at this
        rw [if_neg (by grind), if_pos this]; omega
      · subst h3; rw [fl_zero]; simp
      · have := fl_pos h3
        rw [if_neg (by grind), if_neg (by grind)]; omega
theorem up_end {b : Int} (h : -(M : Int) ≤ b ∧ b ≤ M) : (if 0 < ec 0 0 (es b) (ex b) then 0 else es b) = es (max b 0) ∧ (if 0 < ec 0 0 (es b) (ex b) then 0 else ex b) = ex (max b 0) := by
  have hM : (M : Int) = 9218868437227405312 := rfl
  have k := ec_sel_hi (i := b) (i' := 0) h (by omega)
  rw [es_nought, ex_nought] at k
  exact k
theorem NewPiece.up {w w' : World} {K K' : Nat} {o : Bool} {s : Int} {x : Rat} {N : Int} {p : Bool} {s' : Int} {x' : Rat} {N' : Int} {p' : Bool} {e : Ending} (h : NewPiece w K o s x N p s' x' N' p' e w') (hk : K ≤ K') : NewPiece w K' o s x N p s' x' N' p' e w' := by
  obtain ⟨g, A, n, c, B, m, d, g', A', n', c', B', m', d', rfl, h1, h2, hb⟩ := h
  exact ⟨g, A, n, c, B, m, d, g', A', n', c', B', m', d', rfl, h1.mono hk, h2.mono hk, hb⟩
def PN (b1 b2 : Int) (s1 : Int) (x1 : Rat) (s2 : Int) (x2 : Rat) (i j : Int) : Int × Int :=
  (-(PF (-b2) (-b1) s1 x1 s2 x2 (-j) (-i)).2, -(PF (-b2) (-b1) s1 x1 s2 x2 (-j) (-i)).1)
def LF (b1 b2 : Int) (s1 : Int) (x1 : Rat) (s2 : Int) (x2 : Rat) (k : Nat) : Int → Int → Int × Int :=
  if (b1 ≤ 0 ∧ 0 ≤ b2) ∧ esx s1 x1 ≤ 0 ∧ 0 ≤ esx s2 x2 then pf (-1) 0 true 1 0 true else if k = 0 then PF b1 b2 s1 x1 s2 x2 else PN b1 b2 s1 x1 s2 x2
end Go.Proofs.YtmjkmoahkanblaaGreat
