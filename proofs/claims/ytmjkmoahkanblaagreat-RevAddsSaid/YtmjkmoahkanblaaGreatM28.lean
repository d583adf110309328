/-
Walks: package rev, cut of what is not open.
-/
import Derived.Test.YtmjkmoahkanblaaGreatM27
import Derived.Test.YtmjkmoahkanblaaGreatPGoA
import Derived.Deep.DeepCutAuto
set_option linter.unusedSimpArgs false
set_option linter.unusedVariables false

namespace Go.Proofs.YtmjkmoahkanblaaGreat
open Go.RowKit
attribute [local go_sem] run_store_float

theorem not_gt {i j : Int} (hi : -(M : Int) ≤ i ∧ i ≤ M) (hj : -(M : Int) ≤ j ∧ j ≤ M) (h : ¬ j < i) : (FloatKind.f64.format.order (pat i) (pat j) == some Ordering.gt) = false := by
  rw [order_pat hi.1 hi.2 hj.1 hj.2]
  rcases Int.lt_trichotomy i j with h2 | h2 | h2
  · rw [Int.compare_eq_lt.2 h2]; rfl
  · rw [Int.compare_eq_eq.2 h2]; rfl
  · exact absurd h2 h
theorem not_lt' {i j : Int} (hi : -(M : Int) ≤ i ∧ i ≤ M) (hj : -(M : Int) ≤ j ∧ j ≤ M) (h : ¬ i < j) : (FloatKind.f64.format.order (pat i) (pat j) == some Ordering.lt) = false := by
  rw [order_pat hi.1 hi.2 hj.1 hj.2]
  rcases Int.lt_trichotomy i j with h2 | h2 | h2
  · exact absurd h2 h
  · rw [Int.compare_eq_eq.2 h2]; rfl
  · rw [Int.compare_eq_gt.2 h2]; rfl

set_option maxHeartbeats 3200000 in
theorem rcut_gt (i j pd pu qd qu : Nat) (w : World) (o1 : FloatKind.f64.format.order i qd = some .gt) :
    Calls Tryz.prog 52 #[.agg #[.float .f64 i, .float .f64 j], .agg #[.float .f64 pd, .float .f64 pu], .agg #[.float .f64 qd, .float .f64 qu], .bool false] w fun e w' => e = .returned (.agg #[.float .f64 9218868437227405312, .float .f64 18442240474082181120]) ∧ Below w.heap.size w w' := by
  have LB0 := Lib.hid (show Below w.heap.size w ((((w.alloc (.cells #[.float .f64 i, .float .f64 j] 29)).alloc (.cells #[.float .f64 pd, .float .f64 pu] 56)).alloc (.cells #[.float .f64 qd, .float .f64 qu] 56)).alloc (.cells #[.float .f64 0, .float .f64 0] 29)) from ((((below_alloc w _).alloc (by simp <;> omega) _).alloc (by simp <;> omega) _).alloc (by simp <;> omega) _))
  have LG0_0 := Lib.hid (((((Blk.at (W := w) (g := w.heap.size) (by simp <;> omega) 29 #[.float .f64 i, .float .f64 j]).alloc (.cells #[.float .f64 pd, .float .f64 pu] 56)).alloc (.cells #[.float .f64 qd, .float .f64 qu] 56)).alloc (.cells #[.float .f64 0, .float .f64 0] 29)))
  have LG1_0 := Lib.hid ((((Blk.at (W := (w.alloc (.cells #[.float .f64 i, .float .f64 j] 29))) (g := (w.heap.size + 1)) (by simp <;> omega) 56 #[.float .f64 pd, .float .f64 pu]).alloc (.cells #[.float .f64 qd, .float .f64 qu] 56)).alloc (.cells #[.float .f64 0, .float .f64 0] 29)))
  have LG2_0 := Lib.hid (((Blk.at (W := ((w.alloc (.cells #[.float .f64 i, .float .f64 j] 29)).alloc (.cells #[.float .f64 pd, .float .f64 pu] 56))) (g := (w.heap.size + 2)) (by simp <;> omega) 56 #[.float .f64 qd, .float .f64 qu]).alloc (.cells #[.float .f64 0, .float .f64 0] 29)))
  have LR0 := Lib.hid (HasBlk.of (n := 2) (Blk.at (W := (((w.alloc (.cells #[.float .f64 i, .float .f64 j] 29)).alloc (.cells #[.float .f64 pd, .float .f64 pu] 56)).alloc (.cells #[.float .f64 qd, .float .f64 qu] 56))) (g := (w.heap.size + 3)) (by simp <;> omega) 29 #[.float .f64 0, .float .f64 0]) rfl rfl)
  have HE := Lib.hid emptyf
  go_enter Tryz.func52, Tryz.ntmps52
  go_wp2_with fail
  refine (HE.out _).mono ?_
  rintro e w1 ⟨rfl, hb1⟩
  have LB1 := Lib.hid (LB0.out.trans (hb1.mono LB0.out.size))
  have LR1 := Lib.hid (LR0.out.keep hb1)
  have LG0_1 := Lib.hid (LG0_0.out.keep hb1)
  have LG1_1 := Lib.hid (LG1_0.out.keep hb1)
  have LG2_1 := Lib.hid (LG2_0.out.keep hb1)
  clear LB0 LR0 LG0_0 LG1_0 LG2_0
  clear hb1 HE
  have ha0 := LR1.out.someCell 0 (by decide)
  have hf0 := LR1.out.frozen 0
  have ha1 := LR1.out.someCell 1 (by decide)
  have hf1 := LR1.out.frozen 1
  have hk0 := LR1.out.setCell [.float .f64 9218868437227405312, .float .f64 18442240474082181120] rfl 0 (by decide)
  have hk1 := LR1.out.setCell [.float .f64 9218868437227405312, .float .f64 18442240474082181120] rfl 1 (by decide)
  have F := Lib.hid (below_sets (w0 := w) (r := (w.heap.size + 3)) (by omega) [.float .f64 9218868437227405312, .float .f64 18442240474082181120] 0 _ LB1.out)
  simp [sets] at hk0 hk1
  go_wp2
  refine bodyPost_ret (v := .agg #[.float .f64 9218868437227405312, .float .f64 18442240474082181120]) (by simp [results, Tryz.results52, go_sem, hk0, hk1]) rfl ?_
  exact ⟨rfl, F.out⟩

set_option maxHeartbeats 3200000 in
theorem rcut_lt (i j pd pu qd qu : Nat) (w : World) (o1 : (FloatKind.f64.format.order i qd == some Ordering.gt) = false) (o2 : FloatKind.f64.format.order j pu = some .lt) :
    Calls Tryz.prog 52 #[.agg #[.float .f64 i, .float .f64 j], .agg #[.float .f64 pd, .float .f64 pu], .agg #[.float .f64 qd, .float .f64 qu], .bool false] w fun e w' => e = .returned (.agg #[.float .f64 9218868437227405312, .float .f64 18442240474082181120]) ∧ Below w.heap.size w w' := by
  have LB0 := Lib.hid (show Below w.heap.size w ((((w.alloc (.cells #[.float .f64 i, .float .f64 j] 29)).alloc (.cells #[.float .f64 pd, .float .f64 pu] 56)).alloc (.cells #[.float .f64 qd, .float .f64 qu] 56)).alloc (.cells #[.float .f64 0, .float .f64 0] 29)) from ((((below_alloc w _).alloc (by simp <;> omega) _).alloc (by simp <;> omega) _).alloc (by simp <;> omega) _))
  have LG0_0 := Lib.hid (((((Blk.at (W := w) (g := w.heap.size) (by simp <;> omega) 29 #[.float .f64 i, .float .f64 j]).alloc (.cells #[.float .f64 pd, .float .f64 pu] 56)).alloc (.cells #[.float .f64 qd, .float .f64 qu] 56)).alloc (.cells #[.float .f64 0, .float .f64 0] 29)))
  have LG1_0 := Lib.hid ((((Blk.at (W := (w.alloc (.cells #[.float .f64 i, .float .f64 j] 29))) (g := (w.heap.size + 1)) (by simp <;> omega) 56 #[.float .f64 pd, .float .f64 pu]).alloc (.cells #[.float .f64 qd, .float .f64 qu] 56)).alloc (.cells #[.float .f64 0, .float .f64 0] 29)))
  have LG2_0 := Lib.hid (((Blk.at (W := ((w.alloc (.cells #[.float .f64 i, .float .f64 j] 29)).alloc (.cells #[.float .f64 pd, .float .f64 pu] 56))) (g := (w.heap.size + 2)) (by simp <;> omega) 56 #[.float .f64 qd, .float .f64 qu]).alloc (.cells #[.float .f64 0, .float .f64 0] 29)))
  have LR0 := Lib.hid (HasBlk.of (n := 2) (Blk.at (W := (((w.alloc (.cells #[.float .f64 i, .float .f64 j] 29)).alloc (.cells #[.float .f64 pd, .float .f64 pu] 56)).alloc (.cells #[.float .f64 qd, .float .f64 qu] 56))) (g := (w.heap.size + 3)) (by simp <;> omega) 29 #[.float .f64 0, .float .f64 0]) rfl rfl)
  have HE := Lib.hid emptyf
  go_enter Tryz.func52, Tryz.ntmps52
  go_wp2_with fail
  refine (HE.out _).mono ?_
  rintro e w1 ⟨rfl, hb1⟩
  have LB1 := Lib.hid (LB0.out.trans (hb1.mono LB0.out.size))
  have LR1 := Lib.hid (LR0.out.keep hb1)
  have LG0_1 := Lib.hid (LG0_0.out.keep hb1)
  have LG1_1 := Lib.hid (LG1_0.out.keep hb1)
  have LG2_1 := Lib.hid (LG2_0.out.keep hb1)
  clear LB0 LR0 LG0_0 LG1_0 LG2_0
  clear hb1 HE
  have ha0 := LR1.out.someCell 0 (by decide)
  have hf0 := LR1.out.frozen 0
  have ha1 := LR1.out.someCell 1 (by decide)
  have hf1 := LR1.out.frozen 1
  have hk0 := LR1.out.setCell [.float .f64 9218868437227405312, .float .f64 18442240474082181120] rfl 0 (by decide)
  have hk1 := LR1.out.setCell [.float .f64 9218868437227405312, .float .f64 18442240474082181120] rfl 1 (by decide)
  have F := Lib.hid (below_sets (w0 := w) (r := (w.heap.size + 3)) (by omega) [.float .f64 9218868437227405312, .float .f64 18442240474082181120] 0 _ LB1.out)
  simp [sets] at hk0 hk1
  go_wp2
  refine bodyPost_ret (v := .agg #[.float .f64 9218868437227405312, .float .f64 18442240474082181120]) (by simp [results, Tryz.results52, go_sem, hk0, hk1]) rfl ?_
  exact ⟨rfl, F.out⟩

set_option maxHeartbeats 3200000 in
theorem rcut_in (i j pd pu qd qu a b : Nat) (w : World) (o1 : (FloatKind.f64.format.order i qd == some Ordering.gt) = false) (o2 : (FloatKind.f64.format.order j pu == some Ordering.lt) = false) (m1 : ∀ W ts t, (Builtin.max_ ts t #[.float .f64 i, .float .f64 pd]).run Tryz.prog W = .ok (.float .f64 a) W) (m2 : ∀ W ts t, (Builtin.min_ ts t #[.float .f64 j, .float .f64 qu]).run Tryz.prog W = .ok (.float .f64 b) W) :
    Calls Tryz.prog 52 #[.agg #[.float .f64 i, .float .f64 j], .agg #[.float .f64 pd, .float .f64 pu], .agg #[.float .f64 qd, .float .f64 qu], .bool false] w fun e w' => e = .returned (.agg #[.float .f64 a, .float .f64 b]) ∧ Below w.heap.size w w' := by
  have LB0 := Lib.hid (show Below w.heap.size w ((((w.alloc (.cells #[.float .f64 i, .float .f64 j] 29)).alloc (.cells #[.float .f64 pd, .float .f64 pu] 56)).alloc (.cells #[.float .f64 qd, .float .f64 qu] 56)).alloc (.cells #[.float .f64 0, .float .f64 0] 29)) from ((((below_alloc w _).alloc (by simp <;> omega) _).alloc (by simp <;> omega) _).alloc (by simp <;> omega) _))
  have LG0_0 := Lib.hid (((((Blk.at (W := w) (g := w.heap.size) (by simp <;> omega) 29 #[.float .f64 i, .float .f64 j]).alloc (.cells #[.float .f64 pd, .float .f64 pu] 56)).alloc (.cells #[.float .f64 qd, .float .f64 qu] 56)).alloc (.cells #[.float .f64 0, .float .f64 0] 29)))
  have LG1_0 := Lib.hid ((((Blk.at (W := (w.alloc (.cells #[.float .f64 i, .float .f64 j] 29))) (g := (w.heap.size + 1)) (by simp <;> omega) 56 #[.float .f64 pd, .float .f64 pu]).alloc (.cells #[.float .f64 qd, .float .f64 qu] 56)).alloc (.cells #[.float .f64 0, .float .f64 0] 29)))
  have LG2_0 := Lib.hid (((Blk.at (W := ((w.alloc (.cells #[.float .f64 i, .float .f64 j] 29)).alloc (.cells #[.float .f64 pd, .float .f64 pu] 56))) (g := (w.heap.size + 2)) (by simp <;> omega) 56 #[.float .f64 qd, .float .f64 qu]).alloc (.cells #[.float .f64 0, .float .f64 0] 29)))
  have LR0 := Lib.hid (HasBlk.of (n := 2) (Blk.at (W := (((w.alloc (.cells #[.float .f64 i, .float .f64 j] 29)).alloc (.cells #[.float .f64 pd, .float .f64 pu] 56)).alloc (.cells #[.float .f64 qd, .float .f64 qu] 56))) (g := (w.heap.size + 3)) (by simp <;> omega) 29 #[.float .f64 0, .float .f64 0]) rfl rfl)
  go_enter Tryz.func52, Tryz.ntmps52
  go_wp2_with fail
  go_quiet (fail)
  have LB1 := Lib.hid (below_drewN LB0.out nq)
  have LR1 := Lib.hid (show HasBlk ((((((w.alloc (.cells #[.float .f64 i, .float .f64 j] 29)).alloc (.cells #[.float .f64 pd, .float .f64 pu] 56)).alloc (.cells #[.float .f64 qd, .float .f64 qu] 56)).alloc (.cells #[.float .f64 0, .float .f64 0] 29))).drewN nq) (w.heap.size + 3) 29 2 from LR0.out)
  have LG0_1 := Lib.hid (LG0_0.out.drewN nq)
  have LG1_1 := Lib.hid (LG1_0.out.drewN nq)
  have LG2_1 := Lib.hid (LG2_0.out.drewN nq)
  clear LB0 LR0 LG0_0 LG1_0 LG2_0
  obtain ⟨W1, hW1⟩ : ∃ X, (((((w.alloc (.cells #[.float .f64 i, .float .f64 j] 29)).alloc (.cells #[.float .f64 pd, .float .f64 pu] 56)).alloc (.cells #[.float .f64 qd, .float .f64 qu] 56)).alloc (.cells #[.float .f64 0, .float .f64 0] 29))).drewN nq = X := ⟨_, rfl⟩
  rw [hW1] at LB1 LR1 LG0_1 LG1_1 LG2_1 ⊢
  clear hW1
  clear o1 o2
  have q0_0 : _ = some (.float .f64 i : Value) := LG0_1.out.cell 0
  have q0_1 : _ = some (.float .f64 j : Value) := LG0_1.out.cell 1
  have q1_0 : _ = some (.float .f64 pd : Value) := LG1_1.out.cell 0
  have q1_1 : _ = some (.float .f64 pu : Value) := LG1_1.out.cell 1
  have q2_0 : _ = some (.float .f64 qd : Value) := LG2_1.out.cell 0
  have q2_1 : _ = some (.float .f64 qu : Value) := LG2_1.out.cell 1
  have ha0 := LR1.out.someCell 0 (by decide)
  have hf0 := LR1.out.frozen 0
  have ha1 := LR1.out.someCell 1 (by decide)
  have hf1 := LR1.out.frozen 1
  have hk0 := LR1.out.setCell [.float .f64 a, .float .f64 b] rfl 0 (by decide)
  have hk1 := LR1.out.setCell [.float .f64 a, .float .f64 b] rfl 1 (by decide)
  have F := Lib.hid (below_sets (w0 := w) (r := (w.heap.size + 3)) (by omega) [.float .f64 a, .float .f64 b] 0 _ LB1.out)
  simp [sets] at hk0 hk1
  go_wp2
  refine bodyPost_ret (v := .agg #[.float .f64 a, .float .f64 b]) (by simp [results, Tryz.results52, go_sem, hk0, hk1]) rfl ?_
  exact ⟨rfl, F.out⟩

/-- What cut answers, of what is not open. -/
theorem rcut_any (i j pd pu qd qu : Int) (w : World) (hi : -(M : Int) ≤ i ∧ i ≤ M) (hj : -(M : Int) ≤ j ∧ j ≤ M) (h1 : -(M : Int) ≤ pd ∧ pd ≤ M) (h2 : -(M : Int) ≤ pu ∧ pu ≤ M) (h3 : -(M : Int) ≤ qd ∧ qd ≤ M) (h4 : -(M : Int) ≤ qu ∧ qu ≤ M) :
    Calls Tryz.prog 52 #[.agg #[.float .f64 (pat i), .float .f64 (pat j)], .agg #[.float .f64 (pat pd), .float .f64 (pat pu)], .agg #[.float .f64 (pat qd), .float .f64 (pat qu)], .bool false] w
      fun e w' => e = .returned (.agg #[.float .f64 (pat (ct i j pd pu qd qu).1), .float .f64 (pat (ct i j pd pu qd qu).2)]) ∧ Below w.heap.size w w' := by
  unfold ct
  by_cases c1 : qd < i
  · rw [if_pos (.inl c1), pat_max, pat_min]
    exact rcut_gt _ _ _ _ _ _ w (by rw [order_pat hi.1 hi.2 h3.1 h3.2, Int.compare_eq_gt.2 c1])
  · by_cases c2 : j < pu
    · rw [if_pos (.inr c2), pat_max, pat_min]
      exact rcut_lt _ _ _ _ _ _ w (not_gt hi h3 c1) (by rw [order_pat hj.1 hj.2 h2.1 h2.2, Int.compare_eq_lt.2 c2])
    · rw [if_neg (by omega)]
      exact rcut_in _ _ _ _ _ _ _ _ w (not_gt hi h3 c1) (not_lt' hj h2 c2) (fun W ts t => run_maxf hi h1 W ts t) (fun W ts t => run_minf hj h4 W ts t)

end Go.Proofs.YtmjkmoahkanblaaGreat
