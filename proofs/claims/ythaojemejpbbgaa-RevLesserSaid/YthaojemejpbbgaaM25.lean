/-
Walks: package vergelaw10, in and out; package rev, mirror.
-/
import Derived.Test.YthaojemejpbbgaaPGoA
set_option linter.unusedSimpArgs false
set_option linter.unusedVariables false

namespace Go.Proofs.Ythaojemejpbbgaa
open Go.RowKit
attribute [local go_sem] run_store_float run_frombits run_bitsof

set_option maxHeartbeats 3200000 in
theorem law_in (x y : Nat) (w : World) : Calls Try.prog 4 #[.agg #[.int .u64 (x : Int), .int .u64 (y : Int)]] w fun e w' => e = .returned (.agg #[.float .f64 x, .float .f64 y]) ∧ Below w.heap.size w w' := by
  have LB0 := Lib.hid (show Below w.heap.size w ((w.alloc (.cells #[.int .u64 (x : Int), .int .u64 (y : Int)] 24)).alloc (.cells #[.float .f64 0, .float .f64 0] 29)) from ((below_alloc w _).alloc (by simp <;> omega) _))
  have LG0_0 := Lib.hid (((Blk.at (W := w) (g := w.heap.size) (by simp <;> omega) 24 #[.int .u64 (x : Int), .int .u64 (y : Int)]).alloc (.cells #[.float .f64 0, .float .f64 0] 29)))
  have LR0 := Lib.hid (HasBlk.of (n := 2) (Blk.at (W := (w.alloc (.cells #[.int .u64 (x : Int), .int .u64 (y : Int)] 24))) (g := (w.heap.size + 1)) (by simp <;> omega) 29 #[.float .f64 0, .float .f64 0]) rfl rfl)
  go_enter Try.func4, Try.ntmps4
  go_wp2_with fail
  clear LB0 LG0_0 LR0
  go_region
  all_goals go_wp2
  all_goals (refine bodyPost_ret (v := .agg #[.float .f64 x, .float .f64 y]) (by simp [results, Try.results4, go_sem]) rfl ?_; exact ⟨rfl, ((below_alloc w _).alloc (by simp) _).drew⟩)

set_option maxHeartbeats 3200000 in
theorem law_out (x y : Nat) (w : World) : Calls Try.prog 5 #[.agg #[.float .f64 x, .float .f64 y]] w fun e w' => e = .returned (.agg #[.int .u64 (x : Int), .int .u64 (y : Int)]) ∧ Below w.heap.size w w' := by
  have LB0 := Lib.hid (show Below w.heap.size w ((w.alloc (.cells #[.float .f64 x, .float .f64 y] 29)).alloc (.cells #[.int .u64 0, .int .u64 0] 24)) from ((below_alloc w _).alloc (by simp <;> omega) _))
  have LG0_0 := Lib.hid (((Blk.at (W := w) (g := w.heap.size) (by simp <;> omega) 29 #[.float .f64 x, .float .f64 y]).alloc (.cells #[.int .u64 0, .int .u64 0] 24)))
  have LR0 := Lib.hid (HasBlk.of (n := 2) (Blk.at (W := (w.alloc (.cells #[.float .f64 x, .float .f64 y] 29))) (g := (w.heap.size + 1)) (by simp <;> omega) 24 #[.int .u64 0, .int .u64 0]) rfl rfl)
  go_enter Try.func5, Try.ntmps5
  go_wp2_with fail
  clear LB0 LG0_0 LR0
  go_region
  all_goals go_wp2
  all_goals (refine bodyPost_ret (v := .agg #[.int .u64 (x : Int), .int .u64 (y : Int)]) (by simp [results, Try.results5, go_sem]) rfl ?_; exact ⟨rfl, ((below_alloc w _).alloc (by simp) _).drew⟩)

set_option maxHeartbeats 3200000 in
theorem mirrorf (x y : Nat) (w : World) (hx : x < 18446744073709551616) (hy : y < 18446744073709551616) : Calls Try.prog 23 #[.agg #[.float .f64 x, .float .f64 y]] w fun e w' => e = .returned (.agg #[.float .f64 (pat (-(rd x y).2)), .float .f64 (pat (-(rd x y).1))]) ∧ Below w.heap.size w w' := by
  have HN := Lib.hid fun W => negf x y W hx hy
  obtain ⟨p, hp⟩ : ∃ p, pat (-(rd x y).2) = p := ⟨_, rfl⟩
  obtain ⟨q, hq⟩ : ∃ p, pat (-(rd x y).1) = p := ⟨_, rfl⟩
  rw [hp, hq] at HN
  rw [hp, hq]
  clear hp hq
  have LB0 := Lib.hid (show Below w.heap.size w ((w.alloc (.cells #[.float .f64 x, .float .f64 y] 29)).alloc (.cells #[.float .f64 0, .float .f64 0] 29)) from ((below_alloc w _).alloc (by simp <;> omega) _))
  have LG0_0 := Lib.hid (((Blk.at (W := w) (g := w.heap.size) (by simp <;> omega) 29 #[.float .f64 x, .float .f64 y]).alloc (.cells #[.float .f64 0, .float .f64 0] 29)))
  have LR0 := Lib.hid (HasBlk.of (n := 2) (Blk.at (W := (w.alloc (.cells #[.float .f64 x, .float .f64 y] 29))) (g := (w.heap.size + 1)) (by simp <;> omega) 29 #[.float .f64 0, .float .f64 0]) rfl rfl)
  go_enter Try.func23, Try.ntmps23
  go_wp2_with fail
  refine (HN.out _).mono ?_
  rintro e w1 ⟨rfl, hb1⟩
  have LB1 := Lib.hid (LB0.out.trans (hb1.mono LB0.out.size))
  have LR1 := Lib.hid (LR0.out.keep hb1)
  have LG0_1 := Lib.hid (LG0_0.out.keep hb1)
  clear LB0 LR0 LG0_0
  clear hb1
  have ha0 := LR1.out.someCell 0 (by decide)
  have hf0 := LR1.out.frozen 0
  have ha1 := LR1.out.someCell 1 (by decide)
  have hf1 := LR1.out.frozen 1
  have hk0 := LR1.out.setCell [.float .f64 p, .float .f64 q] rfl 0 (by decide)
  have hk1 := LR1.out.setCell [.float .f64 p, .float .f64 q] rfl 1 (by decide)
  have F := Lib.hid (below_sets (w0 := w) (r := (w.heap.size + 1)) (by omega) [.float .f64 p, .float .f64 q] 0 _ LB1.out)
  simp [sets] at hk0 hk1
  go_wp2
  refine bodyPost_ret (v := .agg #[.float .f64 p, .float .f64 q]) (by simp [results, Try.results23, go_sem, hk0, hk1]) rfl ?_
  exact ⟨rfl, F.out⟩

end Go.Proofs.Ythaojemejpbbgaa
