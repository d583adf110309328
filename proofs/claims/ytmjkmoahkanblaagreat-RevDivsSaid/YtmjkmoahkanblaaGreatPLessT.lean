/-
Walks: package rev, less of finite ends.
Plain: the sum of two ends.
Walks: package rev, point and less of infinite ends.
Walks: package rev, FMARev, MulRev.
Walks: package rel, IsCommon; package ival, Entire.
-/
import Derived.Test.YtmjkmoahkanblaaGreatM04
import Derived.Test.YtmjkmoahkanblaaGreatPAddT
import Derived.Test.YtmjkmoahkanblaaGreatM06
import Derived.Test.YtmjkmoahkanblaaGreatM18
import Derived.Laws.FloatArith
import Derived.Test.YtmjkmoahkanblaaGreatPIntsT
import Derived.Test.YtmjkmoahkanblaaGreatPBothT
import Derived.Test.YtmjkmoahkanblaaGreatPMathT
import Derived.Test.YtmjkmoahkanblaaGreatM03
set_option linter.unusedSimpArgs false
set_option linter.unusedVariables false
set_option maxHeartbeats 12800000

namespace Go.Proofs.YtmjkmoahkanblaaGreat
open Go.RowKit
attribute [local go_sem] run_store_float run_negf
end Go.Proofs.YtmjkmoahkanblaaGreat

namespace Go.Proofs.YtmjkmoahkanblaaGreat
open Go.RowKit
end Go.Proofs.YtmjkmoahkanblaaGreat

namespace Go.Proofs.YtmjkmoahkanblaaGreat
open Go.RowKit
attribute [local go_sem] run_store_float run_negf
theorem copyone_pos (w : World) : Calls Tryz.prog 152 #[.float .f64 4607182418800017408, .float .f64 9218868437227405312] w fun e w' => e = .returned (.float .f64 4607182418800017408) ∧ w = w' := by
  have a1 : bits .andNot .u64 4607182418800017408 9223372036854775808 = 4607182418800017408 := by decide
  have a2 : bits .and .u64 9218868437227405312 9223372036854775808 = 0 := by decide
  have a3 : bits .or .u64 4607182418800017408 0 = 4607182418800017408 := by decide
  have f1 : ∀ W : World, (callFunc 49 #[.float .f64 4607182418800017408]).run Tryz.prog W = .ok (.value (.int .u64 4607182418800017408)) W := fun W => run_bitsof 4607182418800017408 W
  have f2 : ∀ W : World, (callFunc 49 #[.float .f64 9218868437227405312]).run Tryz.prog W = .ok (.value (.int .u64 9218868437227405312)) W := fun W => run_bitsof 9218868437227405312 W
  have f3 : ∀ W : World, (callFunc 48 #[.int .u64 4607182418800017408]).run Tryz.prog W = .ok (.value (.float .f64 4607182418800017408)) W := fun W => run_frombits 4607182418800017408 W
  go_enter Tryz.func152, Tryz.ntmps152
  go_wp2
  go_ret
  exact ⟨rfl, rfl⟩
theorem point_pos (w : World) : Calls Tryz.prog 83 #[.float .f64 9218868437227405312] w fun e w' => e = .returned (.agg #[.int .i64 (1), .bool false, .slice none 0 0, .int .i64 0]) ∧ Below w.heap.size w w' := by
  have HI0 := fun W => isinff 9218868437227405312 W (by omega) (by decide)
  rw [decide_eq_true (show rungOf 9218868437227405312 = M by decide)] at HI0
  have HI := Lib.hid HI0
  have HC := Lib.hid fun W => copyone_pos W
  clear HI0
  have hc : ∀ W, (convert 27 3 (.float .f64 4607182418800017408)).run Tryz.prog W = .ok (.int .i64 (1)) W := fun W => run_convert_float_int W 27 3 .f64 .i64 4607182418800017408 (1) (by rw [Tryz.underlying27]; rfl) Tryz.underlying3 (by kernel_rfl)
  obtain ⟨LB0, LR⟩ := bx1 w #[.int .i64 0, .bool false, .slice none 0 0, .int .i64 0] 79
  have LR0 := Lib.hid (HasBlk.of (n := 4) LR.out rfl rfl)
  clear LR
  go_enter Tryz.func83, Tryz.ntmps83
  go_wp2_with fail
  refine (HI.out _).mono ?_
  rintro e w' ⟨rfl, rfl⟩
  clear HI
  go_wp2_with fail
  refine (HC.out _).mono ?_
  rintro e w' ⟨rfl, rfl⟩
  clear HC
  obtain ⟨ha0, hf0, ha1, hf1, ha2, hf2, ha3, hf3⟩ := LR0.out.sf4
  obtain ⟨hk0, hk1, hk2, hk3⟩ := LR0.out.sc4 (.int .i64 (1)) (.bool false) (.slice none 0 0) (.int .i64 0)
  have F := Lib.hid (below_sets (w0 := w) (r := w.heap.size) (by omega) [.int .i64 (1), .bool false, .slice none 0 0, .int .i64 0] 0 _ LB0.out)
  simp [sets] at hk0 hk1 hk2 hk3
  go_wp2
  refine bodyPost_ret (v := .agg #[.int .i64 (1), .bool false, .slice none 0 0, .int .i64 0]) (by simp [results, Tryz.results83, go_sem, hk0, hk1, hk2, hk3]) rfl ?_
  exact ⟨rfl, below_alloc _ _⟩
theorem copyone_neg (w : World) : Calls Tryz.prog 152 #[.float .f64 4607182418800017408, .float .f64 18442240474082181120] w fun e w' => e = .returned (.float .f64 13830554455654793216) ∧ w = w' := by
  have a1 : bits .andNot .u64 4607182418800017408 9223372036854775808 = 4607182418800017408 := by decide
  have a2 : bits .and .u64 18442240474082181120 9223372036854775808 = 9223372036854775808 := by decide
  have a3 : bits .or .u64 4607182418800017408 9223372036854775808 = 13830554455654793216 := by decide
  have f1 : ∀ W : World, (callFunc 49 #[.float .f64 4607182418800017408]).run Tryz.prog W = .ok (.value (.int .u64 4607182418800017408)) W := fun W => run_bitsof 4607182418800017408 W
  have f2 : ∀ W : World, (callFunc 49 #[.float .f64 18442240474082181120]).run Tryz.prog W = .ok (.value (.int .u64 18442240474082181120)) W := fun W => run_bitsof 18442240474082181120 W
  have f3 : ∀ W : World, (callFunc 48 #[.int .u64 13830554455654793216]).run Tryz.prog W = .ok (.value (.float .f64 13830554455654793216)) W := fun W => run_frombits 13830554455654793216 W
  go_enter Tryz.func152, Tryz.ntmps152
  go_wp2
  go_ret
  exact ⟨rfl, rfl⟩
theorem point_neg (w : World) : Calls Tryz.prog 83 #[.float .f64 18442240474082181120] w fun e w' => e = .returned (.agg #[.int .i64 (-1), .bool false, .slice none 0 0, .int .i64 0]) ∧ Below w.heap.size w w' := by
  have HI0 := fun W => isinff 18442240474082181120 W (by omega) (by decide)
  rw [decide_eq_true (show rungOf 18442240474082181120 = M by decide)] at HI0
  have HI := Lib.hid HI0
  have HC := Lib.hid fun W => copyone_neg W
  clear HI0
  have hc : ∀ W, (convert 27 3 (.float .f64 13830554455654793216)).run Tryz.prog W = .ok (.int .i64 (-1)) W := fun W => run_convert_float_int W 27 3 .f64 .i64 13830554455654793216 (-1) (by rw [Tryz.underlying27]; rfl) Tryz.underlying3 (by kernel_rfl)
  obtain ⟨LB0, LR⟩ := bx1 w #[.int .i64 0, .bool false, .slice none 0 0, .int .i64 0] 79
  have LR0 := Lib.hid (HasBlk.of (n := 4) LR.out rfl rfl)
  clear LR
  go_enter Tryz.func83, Tryz.ntmps83
  go_wp2_with fail
  refine (HI.out _).mono ?_
  rintro e w' ⟨rfl, rfl⟩
  clear HI
  go_wp2_with fail
  refine (HC.out _).mono ?_
  rintro e w' ⟨rfl, rfl⟩
  clear HC
  obtain ⟨ha0, hf0, ha1, hf1, ha2, hf2, ha3, hf3⟩ := LR0.out.sf4
  obtain ⟨hk0, hk1, hk2, hk3⟩ := LR0.out.sc4 (.int .i64 (-1)) (.bool false) (.slice none 0 0) (.int .i64 0)
  have F := Lib.hid (below_sets (w0 := w) (r := w.heap.size) (by omega) [.int .i64 (-1), .bool false, .slice none 0 0, .int .i64 0] 0 _ LB0.out)
  simp [sets] at hk0 hk1 hk2 hk3
  go_wp2
  refine bodyPost_ret (v := .agg #[.int .i64 (-1), .bool false, .slice none 0 0, .int .i64 0]) (by simp [results, Tryz.results83, go_sem, hk0, hk1, hk2, hk3]) rfl ?_
  exact ⟨rfl, below_alloc _ _⟩
def NewExI (w : World) (s : Int) (x : Rat) (e : Ending) (w' : World) : Prop :=
  ∃ (g : Bool) (A : Option Addr) (n c : Nat) (E : Int), e = .returned (.agg #[.int .i64 s, .bool g, .slice A n c, .int .i64 E]) ∧ ExI w' s g A n c E x ∧ Below w.heap.size w w'
theorem point_gen (i : Int) (w : World) (h : -(M : Int) ≤ i ∧ i ≤ M) : Calls Tryz.prog 83 #[.float .f64 (pat i)] w (NewExI w (es i) (ex i)) := by
  have hM : (M : Int) = 9218868437227405312 := rfl
  by_cases h1 : i = M
  · subst h1
    rw [es_max, pat_max]
    refine (point_pos w).mono ?_
    rintro e w' ⟨rfl, hb⟩
    exact ⟨false, none, 0, 0, 0, rfl, ⟨.inr (.inl rfl), fun h => by omega⟩, hb⟩
  · by_cases h2 : i = -(M : Int)
    · subst h2
      rw [es_min, pat_min]
      refine (point_neg w).mono ?_
      rintro e w' ⟨rfl, hb⟩
      exact ⟨false, none, 0, 0, 0, rfl, ⟨.inr (.inr rfl), fun h => by omega⟩, hb⟩
    · rw [es_mid (by omega) (by omega), ex_mid (by omega) (by omega)]
      have hf : fin (pat i) := by show rungOf (pat i) < M; rw [rung_pat h.1 h.2]; omega
      obtain ⟨neg, S, x, k1, k2, k3, k4, k5⟩ := point_any (pat i) (pat_lt h.1 h.2) hf
      rw [idx_pat h.1 h.2] at k4
      refine (k5 w).mono ?_
      rintro e w' ⟨A, n, c, rfl, hu, hb⟩
      exact ⟨neg, A, n, c, x, rfl, ⟨.inl rfl, fun _ => ⟨S, hu, Nat.le_trans (blen_le_iff.2 (show S < 2^53 from k1)) (by omega), k2, k3, k4⟩⟩, hb⟩
end Go.Proofs.YtmjkmoahkanblaaGreat

namespace Go.Proofs.YtmjkmoahkanblaaGreat
open Go.RowKit
attribute [local go_sem] run_store_float
end Go.Proofs.YtmjkmoahkanblaaGreat

namespace Go.Proofs.YtmjkmoahkanblaaGreat
open Go.RowKit
attribute [local go_sem] run_store_float run_eqf
end Go.Proofs.YtmjkmoahkanblaaGreat
