/-
Walks: package vergeref10, bounds and pieces.
-/
import Derived.Test.YtmjkmoahkanblaaGreatM09
set_option linter.unusedSimpArgs false
set_option linter.unusedVariables false

namespace Go.Proofs.YtmjkmoahkanblaaGreat
open Go.RowKit

/-- A bound that a call answers. -/
def NewBd (w : World) (K : Nat) (s : Int) (x : Rat) (N : Int) (op : Bool) (e : Ending) (w' : World) : Prop :=
  ∃ neg A n c B m d, e = .returned (.agg #[.int .i64 s, .bool neg, .slice A n c, .slice B m d, .int .i64 N, .bool op]) ∧ RatV w' K neg (.slice A n c) (.slice B m d) x ∧ Below w.heap.size w w'
/-- A piece that a call answers. -/
def NewPiece (w : World) (K : Nat) (none : Bool) (s : Int) (x : Rat) (N : Int) (o : Bool) (s' : Int) (x' : Rat) (N' : Int) (o' : Bool) (e : Ending) (w' : World) : Prop :=
  ∃ neg A n c B m d neg' A' n' c' B' m' d', e = .returned (.agg #[.bool none, .int .i64 s, .bool neg, .slice A n c, .slice B m d, .int .i64 N, .bool o, .int .i64 s', .bool neg', .slice A' n' c', .slice B' m' d', .int .i64 N', .bool o']) ∧
    RatV w' K neg (.slice A n c) (.slice B m d) x ∧ RatV w' K neg' (.slice A' n' c') (.slice B' m' d') x' ∧ Below w.heap.size w w'

set_option maxHeartbeats 3200000 in
theorem whole_nat (v : Nat) (op : Bool) (w : World) (hv : v < 4294967296) :
    Calls Tryz.prog 115 #[.int .i64 (v : Int), .bool op] w (NewBd w 1 0 (v : Rat) 1 op) := by
  have HS := Lib.hid fun W => (int_nat v W (by omega)).mono fun _ _ h => h.s
  have LB0 := Lib.hid (show Below w.heap.size w (w.alloc (.cells #[.int .i64 0, .bool false, .slice none 0 0, .slice none 0 0, .int .i64 0, .bool false] 62)) from (below_alloc w _))
  have LR0 := Lib.hid (HasBlk.of (n := 6) (Blk.at (W := w) (g := w.heap.size) (by simp <;> omega) 62 #[.int .i64 0, .bool false, .slice none 0 0, .slice none 0 0, .int .i64 0, .bool false]) rfl rfl)
  go_enter Tryz.func115, Tryz.ntmps115
  go_wp2_with fail
  refine (HS.out _).mono ?_
  rintro e w1 ⟨g1, A1, n1, c1, B1, m1, d1, rfl, h1, hb1⟩
  have LB1 := Lib.hid (LB0.out.trans (hb1.mono LB0.out.size))
  have LR1 := Lib.hid (LR0.out.keep hb1)
  clear LB0 LR0
  have ha0 := LR1.out.someCell 0 (by decide)
  have hf0 := LR1.out.frozen 0
  have ha1 := LR1.out.someCell 1 (by decide)
  have hf1 := LR1.out.frozen 1
  have ha2 := LR1.out.someCell 2 (by decide)
  have hf2 := LR1.out.frozen 2
  have ha3 := LR1.out.someCell 3 (by decide)
  have hf3 := LR1.out.frozen 3
  have ha4 := LR1.out.someCell 4 (by decide)
  have hf4 := LR1.out.frozen 4
  have ha5 := LR1.out.someCell 5 (by decide)
  have hf5 := LR1.out.frozen 5
  have hk0 := LR1.out.setCell [.int .i64 0, .bool g1, .slice A1 n1 c1, .slice B1 m1 d1, .int .i64 1, .bool op] rfl 0 (by decide)
  have hk1 := LR1.out.setCell [.int .i64 0, .bool g1, .slice A1 n1 c1, .slice B1 m1 d1, .int .i64 1, .bool op] rfl 1 (by decide)
  have hk2 := LR1.out.setCell [.int .i64 0, .bool g1, .slice A1 n1 c1, .slice B1 m1 d1, .int .i64 1, .bool op] rfl 2 (by decide)
  have hk3 := LR1.out.setCell [.int .i64 0, .bool g1, .slice A1 n1 c1, .slice B1 m1 d1, .int .i64 1, .bool op] rfl 3 (by decide)
  have hk4 := LR1.out.setCell [.int .i64 0, .bool g1, .slice A1 n1 c1, .slice B1 m1 d1, .int .i64 1, .bool op] rfl 4 (by decide)
  have hk5 := LR1.out.setCell [.int .i64 0, .bool g1, .slice A1 n1 c1, .slice B1 m1 d1, .int .i64 1, .bool op] rfl 5 (by decide)
  have F := Lib.hid (below_sets (w0 := w) (r := w.heap.size) (by omega) [.int .i64 0, .bool g1, .slice A1 n1 c1, .slice B1 m1 d1, .int .i64 1, .bool op] 0 _ LB1.out)
  simp [sets] at hk0 hk1 hk2 hk3 hk4 hk5
  have FR1 := Lib.hid (LR1.out.rat (h1) [.int .i64 0, .bool g1, .slice A1 n1 c1, .slice B1 m1 d1, .int .i64 1, .bool op])
  clear hb1 h1
  go_wp2
  refine bodyPost_ret (v := .agg #[.int .i64 0, .bool g1, .slice A1 n1 c1, .slice B1 m1 d1, .int .i64 1, .bool op]) (by simp [results, Tryz.results115, go_sem, hk0, hk1, hk2, hk3, hk4, hk5]) rfl ?_
  exact ⟨_, _, _, _, _, _, _, rfl, FR1.out, F.out⟩

set_option maxHeartbeats 3200000 in
theorem far_any (s : Int) (w : World) :
    Calls Tryz.prog 96 #[.int .i64 s] w (NewBd w 1 s 0 1 true) := by
  have HS := Lib.hid (show ∀ W, Calls Tryz.prog 149 #[.int .i64 0] W (NewRatS W 1 0) from fun W => (int_nat 0 W (by omega)).mono fun _ _ h => h.s)
  have LB0 := Lib.hid (show Below w.heap.size w (w.alloc (.cells #[.int .i64 0, .bool false, .slice none 0 0, .slice none 0 0, .int .i64 0, .bool false] 62)) from (below_alloc w _))
  have LR0 := Lib.hid (HasBlk.of (n := 6) (Blk.at (W := w) (g := w.heap.size) (by simp <;> omega) 62 #[.int .i64 0, .bool false, .slice none 0 0, .slice none 0 0, .int .i64 0, .bool false]) rfl rfl)
  go_enter Tryz.func96, Tryz.ntmps96
  go_wp2_with fail
  refine (HS.out _).mono ?_
  rintro e w1 ⟨g1, A1, n1, c1, B1, m1, d1, rfl, h1, hb1⟩
  have LB1 := Lib.hid (LB0.out.trans (hb1.mono LB0.out.size))
  have LR1 := Lib.hid (LR0.out.keep hb1)
  clear LB0 LR0
  have ha0 := LR1.out.someCell 0 (by decide)
  have hf0 := LR1.out.frozen 0
  have ha1 := LR1.out.someCell 1 (by decide)
  have hf1 := LR1.out.frozen 1
  have ha2 := LR1.out.someCell 2 (by decide)
  have hf2 := LR1.out.frozen 2
  have ha3 := LR1.out.someCell 3 (by decide)
  have hf3 := LR1.out.frozen 3
  have ha4 := LR1.out.someCell 4 (by decide)
  have hf4 := LR1.out.frozen 4
  have ha5 := LR1.out.someCell 5 (by decide)
  have hf5 := LR1.out.frozen 5
  have hk0 := LR1.out.setCell [.int .i64 s, .bool g1, .slice A1 n1 c1, .slice B1 m1 d1, .int .i64 1, .bool true] rfl 0 (by decide)
  have hk1 := LR1.out.setCell [.int .i64 s, .bool g1, .slice A1 n1 c1, .slice B1 m1 d1, .int .i64 1, .bool true] rfl 1 (by decide)
  have hk2 := LR1.out.setCell [.int .i64 s, .bool g1, .slice A1 n1 c1, .slice B1 m1 d1, .int .i64 1, .bool true] rfl 2 (by decide)
  have hk3 := LR1.out.setCell [.int .i64 s, .bool g1, .slice A1 n1 c1, .slice B1 m1 d1, .int .i64 1, .bool true] rfl 3 (by decide)
  have hk4 := LR1.out.setCell [.int .i64 s, .bool g1, .slice A1 n1 c1, .slice B1 m1 d1, .int .i64 1, .bool true] rfl 4 (by decide)
  have hk5 := LR1.out.setCell [.int .i64 s, .bool g1, .slice A1 n1 c1, .slice B1 m1 d1, .int .i64 1, .bool true] rfl 5 (by decide)
  have F := Lib.hid (below_sets (w0 := w) (r := w.heap.size) (by omega) [.int .i64 s, .bool g1, .slice A1 n1 c1, .slice B1 m1 d1, .int .i64 1, .bool true] 0 _ LB1.out)
  simp [sets] at hk0 hk1 hk2 hk3 hk4 hk5
  have FR1 := Lib.hid (LR1.out.rat (h1) [.int .i64 s, .bool g1, .slice A1 n1 c1, .slice B1 m1 d1, .int .i64 1, .bool true])
  clear hb1 h1
  go_wp2
  refine bodyPost_ret (v := .agg #[.int .i64 s, .bool g1, .slice A1 n1 c1, .slice B1 m1 d1, .int .i64 1, .bool true]) (by simp [results, Tryz.results96, go_sem, hk0, hk1, hk2, hk3, hk4, hk5]) rfl ?_
  exact ⟨_, _, _, _, _, _, _, rfl, FR1.out, F.out⟩

set_option maxHeartbeats 3200000 in
theorem nothing_any (w : World) :
    Calls Tryz.prog 123 #[] w (NewPiece w 1 true 0 0 1 false 0 0 1 false) := by
  have HS := Lib.hid (show ∀ W, Calls Tryz.prog 115 #[.int .i64 0, .bool false] W (NewBd W 1 0 0 1 false) from fun W => whole_nat 0 false W (by omega))
  have LB0 := Lib.hid (show Below w.heap.size w (w.alloc (.cells #[.bool false, .int .i64 0, .bool false, .slice none 0 0, .slice none 0 0, .int .i64 0, .bool false, .int .i64 0, .bool false, .slice none 0 0, .slice none 0 0, .int .i64 0, .bool false] 64)) from (below_alloc w _))
  have LR0 := Lib.hid (HasBlk.of (n := 13) (Blk.at (W := w) (g := w.heap.size) (by simp <;> omega) 64 #[.bool false, .int .i64 0, .bool false, .slice none 0 0, .slice none 0 0, .int .i64 0, .bool false, .int .i64 0, .bool false, .slice none 0 0, .slice none 0 0, .int .i64 0, .bool false]) rfl rfl)
  go_enter Tryz.func123, Tryz.ntmps123
  go_wp2_with fail
  refine (HS.out _).mono ?_
  rintro e w1 ⟨g1, A1, n1, c1, B1, m1, d1, rfl, h1, hb1⟩
  have LB1 := Lib.hid (LB0.out.trans (hb1.mono LB0.out.size))
  have LR1 := Lib.hid (LR0.out.keep hb1)
  clear LB0 LR0
  go_wp2_with fail
  refine (HS.out _).mono ?_
  rintro e w2 ⟨g2, A2, n2, c2, B2, m2, d2, rfl, h2, hb2⟩
  have LB2 := Lib.hid (LB1.out.trans (hb2.mono LB1.out.size))
  have LR2 := Lib.hid (LR1.out.keep hb2)
  clear LB1 LR1
  have ha0 := LR2.out.someCell 0 (by decide)
  have hf0 := LR2.out.frozen 0
  have ha1 := LR2.out.someCell 1 (by decide)
  have hf1 := LR2.out.frozen 1
  have ha2 := LR2.out.someCell 2 (by decide)
  have hf2 := LR2.out.frozen 2
  have ha3 := LR2.out.someCell 3 (by decide)
  have hf3 := LR2.out.frozen 3
  have ha4 := LR2.out.someCell 4 (by decide)
  have hf4 := LR2.out.frozen 4
  have ha5 := LR2.out.someCell 5 (by decide)
  have hf5 := LR2.out.frozen 5
  have ha6 := LR2.out.someCell 6 (by decide)
  have hf6 := LR2.out.frozen 6
  have ha7 := LR2.out.someCell 7 (by decide)
  have hf7 := LR2.out.frozen 7
  have ha8 := LR2.out.someCell 8 (by decide)
  have hf8 := LR2.out.frozen 8
  have ha9 := LR2.out.someCell 9 (by decide)
  have hf9 := LR2.out.frozen 9
  have ha10 := LR2.out.someCell 10 (by decide)
  have hf10 := LR2.out.frozen 10
  have ha11 := LR2.out.someCell 11 (by decide)
  have hf11 := LR2.out.frozen 11
  have ha12 := LR2.out.someCell 12 (by decide)
  have hf12 := LR2.out.frozen 12
  have hk0 := LR2.out.setCell [.bool true, .int .i64 0, .bool g1, .slice A1 n1 c1, .slice B1 m1 d1, .int .i64 1, .bool false, .int .i64 0, .bool g2, .slice A2 n2 c2, .slice B2 m2 d2, .int .i64 1, .bool false] rfl 0 (by decide)
  have hk1 := LR2.out.setCell [.bool true, .int .i64 0, .bool g1, .slice A1 n1 c1, .slice B1 m1 d1, .int .i64 1, .bool false, .int .i64 0, .bool g2, .slice A2 n2 c2, .slice B2 m2 d2, .int .i64 1, .bool false] rfl 1 (by decide)
  have hk2 := LR2.out.setCell [.bool true, .int .i64 0, .bool g1, .slice A1 n1 c1, .slice B1 m1 d1, .int .i64 1, .bool false, .int .i64 0, .bool g2, .slice A2 n2 c2, .slice B2 m2 d2, .int .i64 1, .bool false] rfl 2 (by decide)
  have hk3 := LR2.out.setCell [.bool true, .int .i64 0, .bool g1, .slice A1 n1 c1, .slice B1 m1 d1, .int .i64 1, .bool false, .int .i64 0, .bool g2, .slice A2 n2 c2, .slice B2 m2 d2, .int .i64 1, .bool false] rfl 3 (by decide)
  have hk4 := LR2.out.setCell [.bool true, .int .i64 0, .bool g1, .slice A1 n1 c1, .slice B1 m1 d1, .int .i64 1, .bool false, .int .i64 0, .bool g2, .slice A2 n2 c2, .slice B2 m2 d2, .int .i64 1, .bool false] rfl 4 (by decide)
  have hk5 := LR2.out.setCell [.bool true, .int .i64 0, .bool g1, .slice A1 n1 c1, .slice B1 m1 d1, .int .i64 1, .bool false, .int .i64 0, .bool g2, .slice A2 n2 c2, .slice B2 m2 d2, .int .i64 1, .bool false] rfl 5 (by decide)
  have hk6 := LR2.out.setCell [.bool true, .int .i64 0, .bool g1, .slice A1 n1 c1, .slice B1 m1 d1, .int .i64 1, .bool false, .int .i64 0, .bool g2, .slice A2 n2 c2, .slice B2 m2 d2, .int .i64 1, .bool false] rfl 6 (by decide)
  have hk7 := LR2.out.setCell [.bool true, .int .i64 0, .bool g1, .slice A1 n1 c1, .slice B1 m1 d1, .int .i64 1, .bool false, .int .i64 0, .bool g2, .slice A2 n2 c2, .slice B2 m2 d2, .int .i64 1, .bool false] rfl 7 (by decide)
  have hk8 := LR2.out.setCell [.bool true, .int .i64 0, .bool g1, .slice A1 n1 c1, .slice B1 m1 d1, .int .i64 1, .bool false, .int .i64 0, .bool g2, .slice A2 n2 c2, .slice B2 m2 d2, .int .i64 1, .bool false] rfl 8 (by decide)
  have hk9 := LR2.out.setCell [.bool true, .int .i64 0, .bool g1, .slice A1 n1 c1, .slice B1 m1 d1, .int .i64 1, .bool false, .int .i64 0, .bool g2, .slice A2 n2 c2, .slice B2 m2 d2, .int .i64 1, .bool false] rfl 9 (by decide)
  have hk10 := LR2.out.setCell [.bool true, .int .i64 0, .bool g1, .slice A1 n1 c1, .slice B1 m1 d1, .int .i64 1, .bool false, .int .i64 0, .bool g2, .slice A2 n2 c2, .slice B2 m2 d2, .int .i64 1, .bool false] rfl 10 (by decide)
  have hk11 := LR2.out.setCell [.bool true, .int .i64 0, .bool g1, .slice A1 n1 c1, .slice B1 m1 d1, .int .i64 1, .bool false, .int .i64 0, .bool g2, .slice A2 n2 c2, .slice B2 m2 d2, .int .i64 1, .bool false] rfl 11 (by decide)
  have hk12 := LR2.out.setCell [.bool true, .int .i64 0, .bool g1, .slice A1 n1 c1, .slice B1 m1 d1, .int .i64 1, .bool false, .int .i64 0, .bool g2, .slice A2 n2 c2, .slice B2 m2 d2, .int .i64 1, .bool false] rfl 12 (by decide)
  have F := Lib.hid (below_sets (w0 := w) (r := w.heap.size) (by omega) [.bool true, .int .i64 0, .bool g1, .slice A1 n1 c1, .slice B1 m1 d1, .int .i64 1, .bool false, .int .i64 0, .bool g2, .slice A2 n2 c2, .slice B2 m2 d2, .int .i64 1, .bool false] 0 _ LB2.out)
  simp [sets] at hk0 hk1 hk2 hk3 hk4 hk5 hk6 hk7 hk8 hk9 hk10 hk11 hk12
  have FR1 := Lib.hid (LR2.out.rat (h1.below hb2) [.bool true, .int .i64 0, .bool g1, .slice A1 n1 c1, .slice B1 m1 d1, .int .i64 1, .bool false, .int .i64 0, .bool g2, .slice A2 n2 c2, .slice B2 m2 d2, .int .i64 1, .bool false])
  have FR2 := Lib.hid (LR2.out.rat (h2) [.bool true, .int .i64 0, .bool g1, .slice A1 n1 c1, .slice B1 m1 d1, .int .i64 1, .bool false, .int .i64 0, .bool g2, .slice A2 n2 c2, .slice B2 m2 d2, .int .i64 1, .bool false])
  clear hb1 h1 hb2 h2
  go_wp2
  refine bodyPost_ret (v := .agg #[.bool true, .int .i64 0, .bool g1, .slice A1 n1 c1, .slice B1 m1 d1, .int .i64 1, .bool false, .int .i64 0, .bool g2, .slice A2 n2 c2, .slice B2 m2 d2, .int .i64 1, .bool false]) (by simp [results, Tryz.results123, go_sem, hk0, hk1, hk2, hk3, hk4, hk5, hk6, hk7, hk8, hk9, hk10, hk11, hk12]) rfl ?_
  exact ⟨_, _, _, _, _, _, _, _, _, _, _, _, _, _, rfl, FR1.out, FR2.out, F.out⟩

set_option maxHeartbeats 3200000 in
theorem bound_end (K : Nat) (s1 : Int) (g1 : Bool) (A1 : Option Addr) (n1 c1 : Nat) (B1 : Option Addr) (m1 d1 : Nat) (x1 : Rat) (w : World) (h1 : RatV w K g1 (.slice A1 n1 c1) (.slice B1 m1 d1) x1) (hK : 1 ≤ K) (hx : s1 ≠ 0 → x1 = 0) :
    Calls Tryz.prog 124 #[.agg #[.int .i64 s1, .bool g1, .slice A1 n1 c1, .slice B1 m1 d1]] w (NewBd w K s1 x1 1 (decide (s1 ≠ 0))) := by
  by_cases h : s1 = 0
  · subst h
    rw [decide_eq_false (show ¬ ((0 : Int) ≠ 0) from fun h => h rfl)]
    have H1 := Lib.hid h1
    clear h1 hx
    have LB0 := Lib.hid (show Below w.heap.size w ((w.alloc (.cells #[.int .i64 0, .bool g1, .slice A1 n1 c1, .slice B1 m1 d1] 67)).alloc (.cells #[.int .i64 0, .bool false, .slice none 0 0, .slice none 0 0, .int .i64 0, .bool false] 62)) from ((below_alloc w _).alloc (by simp <;> omega) _))
    have LG0_0 := Lib.hid (((Blk.at (W := w) (g := w.heap.size) (by simp <;> omega) 67 #[.int .i64 0, .bool g1, .slice A1 n1 c1, .slice B1 m1 d1]).alloc (.cells #[.int .i64 0, .bool false, .slice none 0 0, .slice none 0 0, .int .i64 0, .bool false] 62)))
    have LR0 := Lib.hid (HasBlk.of (n := 6) (Blk.at (W := (w.alloc (.cells #[.int .i64 0, .bool g1, .slice A1 n1 c1, .slice B1 m1 d1] 67))) (g := (w.heap.size + 1)) (by simp <;> omega) 62 #[.int .i64 0, .bool false, .slice none 0 0, .slice none 0 0, .int .i64 0, .bool false]) rfl rfl)
    clear LB0 LG0_0 LR0
    go_enter Tryz.func124, Tryz.ntmps124
    go_wp2
    refine bodyPost_ret (v := .agg #[.int .i64 0, .bool g1, .slice A1 n1 c1, .slice B1 m1 d1, .int .i64 1, .bool false]) (by simp [results, Tryz.results124, go_sem]) rfl ?_
    exact have b := ((below_alloc w _).alloc (by simp <;> omega) _); ⟨_, _, _, _, _, _, _, rfl, H1.out.below b, b⟩
  · rw [decide_eq_true h, hx h]
    have hq : (s1 == 0) = false := by simp; omega
    have HS := Lib.hid fun W => far_any s1 W
    have HK := Lib.hid hK
    clear h1 hx h hK
    have LB0 := Lib.hid (show Below w.heap.size w ((w.alloc (.cells #[.int .i64 s1, .bool g1, .slice A1 n1 c1, .slice B1 m1 d1] 67)).alloc (.cells #[.int .i64 0, .bool false, .slice none 0 0, .slice none 0 0, .int .i64 0, .bool false] 62)) from ((below_alloc w _).alloc (by simp <;> omega) _))
    have LG0_0 := Lib.hid (((Blk.at (W := w) (g := w.heap.size) (by simp <;> omega) 67 #[.int .i64 s1, .bool g1, .slice A1 n1 c1, .slice B1 m1 d1]).alloc (.cells #[.int .i64 0, .bool false, .slice none 0 0, .slice none 0 0, .int .i64 0, .bool false] 62)))
    have LR0 := Lib.hid (HasBlk.of (n := 6) (Blk.at (W := (w.alloc (.cells #[.int .i64 s1, .bool g1, .slice A1 n1 c1, .slice B1 m1 d1] 67))) (g := (w.heap.size + 1)) (by simp <;> omega) 62 #[.int .i64 0, .bool false, .slice none 0 0, .slice none 0 0, .int .i64 0, .bool false]) rfl rfl)
    go_enter Tryz.func124, Tryz.ntmps124
    go_wp2_with fail
    refine (HS.out _).mono ?_
    rintro e w1 ⟨g2, A2, n2, c2, B2, m2, d2, rfl, h2, hb1⟩
    have LB1 := Lib.hid (LB0.out.trans (hb1.mono LB0.out.size))
    have LR1 := Lib.hid (LR0.out.keep hb1)
    have LG0_1 := Lib.hid (LG0_0.out.keep hb1)
    clear LB0 LR0 LG0_0
    have ha0 := LR1.out.someCell 0 (by decide)
    have hf0 := LR1.out.frozen 0
    have ha1 := LR1.out.someCell 1 (by decide)
    have hf1 := LR1.out.frozen 1
    have ha2 := LR1.out.someCell 2 (by decide)
    have hf2 := LR1.out.frozen 2
    have ha3 := LR1.out.someCell 3 (by decide)
    have hf3 := LR1.out.frozen 3
    have ha4 := LR1.out.someCell 4 (by decide)
    have hf4 := LR1.out.frozen 4
    have ha5 := LR1.out.someCell 5 (by decide)
    have hf5 := LR1.out.frozen 5
    have hk0 := LR1.out.setCell [.int .i64 s1, .bool g2, .slice A2 n2 c2, .slice B2 m2 d2, .int .i64 1, .bool true] rfl 0 (by decide)
    have hk1 := LR1.out.setCell [.int .i64 s1, .bool g2, .slice A2 n2 c2, .slice B2 m2 d2, .int .i64 1, .bool true] rfl 1 (by decide)
    have hk2 := LR1.out.setCell [.int .i64 s1, .bool g2, .slice A2 n2 c2, .slice B2 m2 d2, .int .i64 1, .bool true] rfl 2 (by decide)
    have hk3 := LR1.out.setCell [.int .i64 s1, .bool g2, .slice A2 n2 c2, .slice B2 m2 d2, .int .i64 1, .bool true] rfl 3 (by decide)
    have hk4 := LR1.out.setCell [.int .i64 s1, .bool g2, .slice A2 n2 c2, .slice B2 m2 d2, .int .i64 1, .bool true] rfl 4 (by decide)
    have hk5 := LR1.out.setCell [.int .i64 s1, .bool g2, .slice A2 n2 c2, .slice B2 m2 d2, .int .i64 1, .bool true] rfl 5 (by decide)
    have F := Lib.hid (below_sets (w0 := w) (r := (w.heap.size + 1)) (by omega) [.int .i64 s1, .bool g2, .slice A2 n2 c2, .slice B2 m2 d2, .int .i64 1, .bool true] 0 _ LB1.out)
    simp [sets] at hk0 hk1 hk2 hk3 hk4 hk5
    have FR1 := Lib.hid (LR1.out.rat (h2.mono HK.out) [.int .i64 s1, .bool g2, .slice A2 n2 c2, .slice B2 m2 d2, .int .i64 1, .bool true])
    clear hb1 h2
    go_wp2
    refine bodyPost_ret (v := .agg #[.int .i64 s1, .bool g2, .slice A2 n2 c2, .slice B2 m2 d2, .int .i64 1, .bool true]) (by simp [results, Tryz.results124, go_sem, hk0, hk1, hk2, hk3, hk4, hk5]) rfl ?_
    exact ⟨_, _, _, _, _, _, _, rfl, FR1.out, F.out⟩

set_option maxHeartbeats 3200000 in
theorem piece_none (K : Nat) (s1 : Int) (g1 : Bool) (A1 : Option Addr) (n1 c1 : Nat) (B1 : Option Addr) (m1 d1 : Nat) (x1 : Rat) (s2 : Int) (g2 : Bool) (A2 : Option Addr) (n2 c2 : Nat) (B2 : Option Addr) (m2 d2 : Nat) (x2 : Rat) (w : World) :
    Calls Tryz.prog 55 #[.agg #[.bool true, .int .i64 s1, .bool g1, .slice A1 n1 c1, .slice B1 m1 d1, .int .i64 s2, .bool g2, .slice A2 n2 c2, .slice B2 m2 d2]] w (NewPiece w 1 true 0 0 1 false 0 0 1 false) := by
  have HS := Lib.hid fun W => nothing_any W
  have LB0 := Lib.hid (show Below w.heap.size w ((w.alloc (.cells #[.bool true, .int .i64 s1, .bool g1, .slice A1 n1 c1, .slice B1 m1 d1, .int .i64 s2, .bool g2, .slice A2 n2 c2, .slice B2 m2 d2] 69)).alloc (.cells #[.bool false, .int .i64 0, .bool false, .slice none 0 0, .slice none 0 0, .int .i64 0, .bool false, .int .i64 0, .bool false, .slice none 0 0, .slice none 0 0, .int .i64 0, .bool false] 64)) from ((below_alloc w _).alloc (by simp <;> omega) _))
  have LG0_0 := Lib.hid (((Blk.at (W := w) (g := w.heap.size) (by simp <;> omega) 69 #[.bool true, .int .i64 s1, .bool g1, .slice A1 n1 c1, .slice B1 m1 d1, .int .i64 s2, .bool g2, .slice A2 n2 c2, .slice B2 m2 d2]).alloc (.cells #[.bool false, .int .i64 0, .bool false, .slice none 0 0, .slice none 0 0, .int .i64 0, .bool false, .int .i64 0, .bool false, .slice none 0 0, .slice none 0 0, .int .i64 0, .bool false] 64)))
  have LR0 := Lib.hid (HasBlk.of (n := 13) (Blk.at (W := (w.alloc (.cells #[.bool true, .int .i64 s1, .bool g1, .slice A1 n1 c1, .slice B1 m1 d1, .int .i64 s2, .bool g2, .slice A2 n2 c2, .slice B2 m2 d2] 69))) (g := (w.heap.size + 1)) (by simp <;> omega) 64 #[.bool false, .int .i64 0, .bool false, .slice none 0 0, .slice none 0 0, .int .i64 0, .bool false, .int .i64 0, .bool false, .slice none 0 0, .slice none 0 0, .int .i64 0, .bool false]) rfl rfl)
  go_enter Tryz.func55, Tryz.ntmps55
  go_wp2_with fail
  refine (HS.out _).mono ?_
  rintro e w1 ⟨g3, A3, n3, c3, B3, m3, d3, g4, A4, n4, c4, B4, m4, d4, rfl, h3, h4, hb1⟩
  have LB1 := Lib.hid (LB0.out.trans (hb1.mono LB0.out.size))
  have LR1 := Lib.hid (LR0.out.keep hb1)
  have LG0_1 := Lib.hid (LG0_0.out.keep hb1)
  clear LB0 LR0 LG0_0
  have ha0 := LR1.out.someCell 0 (by decide)
  have hf0 := LR1.out.frozen 0
  have ha1 := LR1.out.someCell 1 (by decide)
  have hf1 := LR1.out.frozen 1
  have ha2 := LR1.out.someCell 2 (by decide)
  have hf2 := LR1.out.frozen 2
  have ha3 := LR1.out.someCell 3 (by decide)
  have hf3 := LR1.out.frozen 3
  have ha4 := LR1.out.someCell 4 (by decide)
  have hf4 := LR1.out.frozen 4
  have ha5 := LR1.out.someCell 5 (by decide)
  have hf5 := LR1.out.frozen 5
  have ha6 := LR1.out.someCell 6 (by decide)
  have hf6 := LR1.out.frozen 6
  have ha7 := LR1.out.someCell 7 (by decide)
  have hf7 := LR1.out.frozen 7
  have ha8 := LR1.out.someCell 8 (by decide)
  have hf8 := LR1.out.frozen 8
  have ha9 := LR1.out.someCell 9 (by decide)
  have hf9 := LR1.out.frozen 9
  have ha10 := LR1.out.someCell 10 (by decide)
  have hf10 := LR1.out.frozen 10
  have ha11 := LR1.out.someCell 11 (by decide)
  have hf11 := LR1.out.frozen 11
  have ha12 := LR1.out.someCell 12 (by decide)
  have hf12 := LR1.out.frozen 12
  have hk0 := LR1.out.setCell [.bool true, .int .i64 0, .bool g3, .slice A3 n3 c3, .slice B3 m3 d3, .int .i64 1, .bool false, .int .i64 0, .bool g4, .slice A4 n4 c4, .slice B4 m4 d4, .int .i64 1, .bool false] rfl 0 (by decide)
  have hk1 := LR1.out.setCell [.bool true, .int .i64 0, .bool g3, .slice A3 n3 c3, .slice B3 m3 d3, .int .i64 1, .bool false, .int .i64 0, .bool g4, .slice A4 n4 c4, .slice B4 m4 d4, .int .i64 1, .bool false] rfl 1 (by decide)
  have hk2 := LR1.out.setCell [.bool true, .int .i64 0, .bool g3, .slice A3 n3 c3, .slice B3 m3 d3, .int .i64 1, .bool false, .int .i64 0, .bool g4, .slice A4 n4 c4, .slice B4 m4 d4, .int .i64 1, .bool false] rfl 2 (by decide)
  have hk3 := LR1.out.setCell [.bool true, .int .i64 0, .bool g3, .slice A3 n3 c3, .slice B3 m3 d3, .int .i64 1, .bool false, .int .i64 0, .bool g4, .slice A4 n4 c4, .slice B4 m4 d4, .int .i64 1, .bool false] rfl 3 (by decide)
  have hk4 := LR1.out.setCell [.bool true, .int .i64 0, .bool g3, .slice A3 n3 c3, .slice B3 m3 d3, .int .i64 1, .bool false, .int .i64 0, .bool g4, .slice A4 n4 c4, .slice B4 m4 d4, .int .i64 1, .bool false] rfl 4 (by decide)
  have hk5 := LR1.out.setCell [.bool true, .int .i64 0, .bool g3, .slice A3 n3 c3, .slice B3 m3 d3, .int .i64 1, .bool false, .int .i64 0, .bool g4, .slice A4 n4 c4, .slice B4 m4 d4, .int .i64 1, .bool false] rfl 5 (by decide)
  have hk6 := LR1.out.setCell [.bool true, .int .i64 0, .bool g3, .slice A3 n3 c3, .slice B3 m3 d3, .int .i64 1, .bool false, .int .i64 0, .bool g4, .slice A4 n4 c4, .slice B4 m4 d4, .int .i64 1, .bool false] rfl 6 (by decide)
  have hk7 := LR1.out.setCell [.bool true, .int .i64 0, .bool g3, .slice A3 n3 c3, .slice B3 m3 d3, .int .i64 1, .bool false, .int .i64 0, .bool g4, .slice A4 n4 c4, .slice B4 m4 d4, .int .i64 1, .bool false] rfl 7 (by decide)
  have hk8 := LR1.out.setCell [.bool true, .int .i64 0, .bool g3, .slice A3 n3 c3, .slice B3 m3 d3, .int .i64 1, .bool false, .int .i64 0, .bool g4, .slice A4 n4 c4, .slice B4 m4 d4, .int .i64 1, .bool false] rfl 8 (by decide)
  have hk9 := LR1.out.setCell [.bool true, .int .i64 0, .bool g3, .slice A3 n3 c3, .slice B3 m3 d3, .int .i64 1, .bool false, .int .i64 0, .bool g4, .slice A4 n4 c4, .slice B4 m4 d4, .int .i64 1, .bool false] rfl 9 (by decide)
  have hk10 := LR1.out.setCell [.bool true, .int .i64 0, .bool g3, .slice A3 n3 c3, .slice B3 m3 d3, .int .i64 1, .bool false, .int .i64 0, .bool g4, .slice A4 n4 c4, .slice B4 m4 d4, .int .i64 1, .bool false] rfl 10 (by decide)
  have hk11 := LR1.out.setCell [.bool true, .int .i64 0, .bool g3, .slice A3 n3 c3, .slice B3 m3 d3, .int .i64 1, .bool false, .int .i64 0, .bool g4, .slice A4 n4 c4, .slice B4 m4 d4, .int .i64 1, .bool false] rfl 11 (by decide)
  have hk12 := LR1.out.setCell [.bool true, .int .i64 0, .bool g3, .slice A3 n3 c3, .slice B3 m3 d3, .int .i64 1, .bool false, .int .i64 0, .bool g4, .slice A4 n4 c4, .slice B4 m4 d4, .int .i64 1, .bool false] rfl 12 (by decide)
  have F := Lib.hid (below_sets (w0 := w) (r := (w.heap.size + 1)) (by omega) [.bool true, .int .i64 0, .bool g3, .slice A3 n3 c3, .slice B3 m3 d3, .int .i64 1, .bool false, .int .i64 0, .bool g4, .slice A4 n4 c4, .slice B4 m4 d4, .int .i64 1, .bool false] 0 _ LB1.out)
  simp [sets] at hk0 hk1 hk2 hk3 hk4 hk5 hk6 hk7 hk8 hk9 hk10 hk11 hk12
  have FR1 := Lib.hid (LR1.out.rat (h3) [.bool true, .int .i64 0, .bool g3, .slice A3 n3 c3, .slice B3 m3 d3, .int .i64 1, .bool false, .int .i64 0, .bool g4, .slice A4 n4 c4, .slice B4 m4 d4, .int .i64 1, .bool false])
  have FR2 := Lib.hid (LR1.out.rat (h4) [.bool true, .int .i64 0, .bool g3, .slice A3 n3 c3, .slice B3 m3 d3, .int .i64 1, .bool false, .int .i64 0, .bool g4, .slice A4 n4 c4, .slice B4 m4 d4, .int .i64 1, .bool false])
  clear hb1 h3 h4
  go_wp2
  refine bodyPost_ret (v := .agg #[.bool true, .int .i64 0, .bool g3, .slice A3 n3 c3, .slice B3 m3 d3, .int .i64 1, .bool false, .int .i64 0, .bool g4, .slice A4 n4 c4, .slice B4 m4 d4, .int .i64 1, .bool false]) (by simp [results, Tryz.results55, go_sem, hk0, hk1, hk2, hk3, hk4, hk5, hk6, hk7, hk8, hk9, hk10, hk11, hk12]) rfl ?_
  exact ⟨_, _, _, _, _, _, _, _, _, _, _, _, _, _, rfl, FR1.out, FR2.out, F.out⟩

set_option maxHeartbeats 3200000 in
theorem piece_some (K : Nat) (s1 : Int) (g1 : Bool) (A1 : Option Addr) (n1 c1 : Nat) (B1 : Option Addr) (m1 d1 : Nat) (x1 : Rat) (s2 : Int) (g2 : Bool) (A2 : Option Addr) (n2 c2 : Nat) (B2 : Option Addr) (m2 d2 : Nat) (x2 : Rat) (w : World) (h1 : RatV w K g1 (.slice A1 n1 c1) (.slice B1 m1 d1) x1) (h2 : RatV w K g2 (.slice A2 n2 c2) (.slice B2 m2 d2) x2) (hK : 1 ≤ K) (hx : s1 ≠ 0 → x1 = 0) (hy : s2 ≠ 0 → x2 = 0) :
    Calls Tryz.prog 55 #[.agg #[.bool false, .int .i64 s1, .bool g1, .slice A1 n1 c1, .slice B1 m1 d1, .int .i64 s2, .bool g2, .slice A2 n2 c2, .slice B2 m2 d2]] w (NewPiece w K false s1 x1 1 (decide (s1 ≠ 0)) s2 x2 1 (decide (s2 ≠ 0))) := by
  have T1 := Lib.hid fun W (hW : Below w.heap.size w W) => bound_end K s1 g1 A1 n1 c1 B1 m1 d1 x1 W (h1.below hW) hK hx
  have T2 := Lib.hid fun W (hW : Below w.heap.size w W) => bound_end K s2 g2 A2 n2 c2 B2 m2 d2 x2 W (h2.below hW) hK hy
  obtain ⟨o3, e1⟩ : ∃ s, decide (s1 ≠ 0) = s := ⟨_, rfl⟩
  obtain ⟨o4, e2⟩ : ∃ s, decide (s2 ≠ 0) = s := ⟨_, rfl⟩
  rw [e1] at T1 ⊢
  rw [e2] at T2 ⊢
  clear h1 h2 e1 e2 hx hy
  have LB0 := Lib.hid (show Below w.heap.size w ((w.alloc (.cells #[.bool false, .int .i64 s1, .bool g1, .slice A1 n1 c1, .slice B1 m1 d1, .int .i64 s2, .bool g2, .slice A2 n2 c2, .slice B2 m2 d2] 69)).alloc (.cells #[.bool false, .int .i64 0, .bool false, .slice none 0 0, .slice none 0 0, .int .i64 0, .bool false, .int .i64 0, .bool false, .slice none 0 0, .slice none 0 0, .int .i64 0, .bool false] 64)) from ((below_alloc w _).alloc (by simp <;> omega) _))
  have LG0_0 := Lib.hid (((Blk.at (W := w) (g := w.heap.size) (by simp <;> omega) 69 #[.bool false, .int .i64 s1, .bool g1, .slice A1 n1 c1, .slice B1 m1 d1, .int .i64 s2, .bool g2, .slice A2 n2 c2, .slice B2 m2 d2]).alloc (.cells #[.bool false, .int .i64 0, .bool false, .slice none 0 0, .slice none 0 0, .int .i64 0, .bool false, .int .i64 0, .bool false, .slice none 0 0, .slice none 0 0, .int .i64 0, .bool false] 64)))
  have LR0 := Lib.hid (HasBlk.of (n := 13) (Blk.at (W := (w.alloc (.cells #[.bool false, .int .i64 s1, .bool g1, .slice A1 n1 c1, .slice B1 m1 d1, .int .i64 s2, .bool g2, .slice A2 n2 c2, .slice B2 m2 d2] 69))) (g := (w.heap.size + 1)) (by simp <;> omega) 64 #[.bool false, .int .i64 0, .bool false, .slice none 0 0, .slice none 0 0, .int .i64 0, .bool false, .int .i64 0, .bool false, .slice none 0 0, .slice none 0 0, .int .i64 0, .bool false]) rfl rfl)
  go_enter Tryz.func55, Tryz.ntmps55
  go_wp2_with fail
  refine wp_region_held_drew (S := fun W' => Blk W' w.heap.size 69 #[.bool false, .int .i64 s1, .bool g1, .slice A1 n1 c1, .slice B1 m1 d1, .int .i64 s2, .bool g2, .slice A2 n2 c2, .slice B2 m2 d2] ∧ HasBlk W' (w.heap.size + 1) 64 13 ∧ Below w.heap.size w W') (by kernel_rfl) (by exact ⟨LG0_0.out.drew, LR0.out.drew, LB0.out.drew⟩) (fun hHeld => ?_)
  refine wpAnyH_take (i := 0) (v := ?_) rfl (by kernel_rfl) (by kernel_rfl) (by kernel_rfl) (fun _ _ _ h => h) (Or.inl ⟨by rfl, ?_⟩) (by assumption) ?_
  rotate_left
  · (intro W2 hSw; go_simp; (try with_reducible rfl))
  try simp only [Act.put, List.getElem_toArray, List.getElem_cons_succ, List.getElem_cons_zero, List.setIfInBounds_toArray, List.set_cons_zero, List.set_cons_succ]
  refine wpAnyH_take (i := 1) (v := ?_) rfl (by kernel_rfl) (by kernel_rfl) (by kernel_rfl) (fun _ _ _ h => h) (Or.inl ⟨by rfl, ?_⟩) (by assumption) ?_
  rotate_left
  · (intro W2 hSw; (try dsimp only at hSw); have q0 : _ = some (.bool false : Value) := hSw.1.cell 0; have q1 : _ = some (.int .i64 s1 : Value) := hSw.1.cell 1; have q2 : _ = some (.bool g1 : Value) := hSw.1.cell 2; have q3 : _ = some (.slice A1 n1 c1 : Value) := hSw.1.cell 3; have q4 : _ = some (.slice B1 m1 d1 : Value) := hSw.1.cell 4; have q5 : _ = some (.int .i64 s2 : Value) := hSw.1.cell 5; have q6 : _ = some (.bool g2 : Value) := hSw.1.cell 6; have q7 : _ = some (.slice A2 n2 c2 : Value) := hSw.1.cell 7; have q8 : _ = some (.slice B2 m2 d2 : Value) := hSw.1.cell 8; go_simp; (try with_reducible rfl))
  try simp only [Act.put, List.getElem_toArray, List.getElem_cons_succ, List.getElem_cons_zero, List.setIfInBounds_toArray, List.set_cons_zero, List.set_cons_succ]
  refine wpAnyH_take (i := 3) (v := ?_) rfl (by kernel_rfl) (by kernel_rfl) (by kernel_rfl) (fun _ _ _ h => h) (Or.inl ⟨by rfl, ?_⟩) (by assumption) ?_
  rotate_left
  · (intro W2 hSw; go_simp; (try with_reducible rfl))
  try simp only [Act.put, List.getElem_toArray, List.getElem_cons_succ, List.getElem_cons_zero, List.setIfInBounds_toArray, List.set_cons_zero, List.set_cons_succ]
  refine wpAnyH_take (i := 4) (v := ?_) rfl (by kernel_rfl) (by kernel_rfl) (by kernel_rfl) (fun _ _ _ h => h) (Or.inl ⟨by rfl, ?_⟩) (by assumption) ?_
  rotate_left
  · (intro W2 hSw; (try dsimp only at hSw); have q0 : _ = some (.bool false : Value) := hSw.1.cell 0; have q1 : _ = some (.int .i64 s1 : Value) := hSw.1.cell 1; have q2 : _ = some (.bool g1 : Value) := hSw.1.cell 2; have q3 : _ = some (.slice A1 n1 c1 : Value) := hSw.1.cell 3; have q4 : _ = some (.slice B1 m1 d1 : Value) := hSw.1.cell 4; have q5 : _ = some (.int .i64 s2 : Value) := hSw.1.cell 5; have q6 : _ = some (.bool g2 : Value) := hSw.1.cell 6; have q7 : _ = some (.slice A2 n2 c2 : Value) := hSw.1.cell 7; have q8 : _ = some (.slice B2 m2 d2 : Value) := hSw.1.cell 8; go_simp; (try with_reducible rfl))
  try simp only [Act.put, List.getElem_toArray, List.getElem_cons_succ, List.getElem_cons_zero, List.setIfInBounds_toArray, List.set_cons_zero, List.set_cons_succ]
  refine wpAnyH_ready (rs := [2]) (by kernel_rfl) (by simp) ?_
  refine AllReadyH.cons rfl (fun KK hKK => ?_) AllReadyH.nil
  go_simp
  refine (T1.out _ ?_).mono ?_; exact hHeld.2.2
  rintro e w3 ⟨g3, A3, n3, c3, B3, m3, d3, rfl, h3, hb3⟩
  go_wp2_with fail
  refine hKK.out _ _ (⟨hHeld.1.keep hb3, hHeld.2.1.keep hb3, hHeld.2.2.trans (hb3.mono hHeld.2.2.size)⟩) (fun _ => ?_)
  clear hKK KK hHeld; rename_i hHeld
  try simp only [Act.put, List.getElem_toArray, List.getElem_cons_succ, List.getElem_cons_zero, List.setIfInBounds_toArray, List.set_cons_zero, List.set_cons_succ]
  refine wpAnyH_ready (rs := [5]) (by kernel_rfl) (by simp) ?_
  refine AllReadyH.cons rfl (fun KK hKK => ?_) AllReadyH.nil
  go_simp
  refine (T2.out _ ?_).mono ?_; exact hHeld.2.2
  rintro e w4 ⟨g4, A4, n4, c4, B4, m4, d4, rfl, h4, hb4⟩
  go_wp2_with fail
  refine hKK.out _ _ (⟨hHeld.1.keep hb4, hHeld.2.1.keep hb4, hHeld.2.2.trans (hb4.mono hHeld.2.2.size)⟩) (fun _ => ?_)
  clear hKK KK hHeld; rename_i hHeld
  try simp only [Act.put, List.getElem_toArray, List.getElem_cons_succ, List.getElem_cons_zero, List.setIfInBounds_toArray, List.set_cons_zero, List.set_cons_succ]
  refine wpAnyH_take (i := 6) (v := ?_) rfl (by kernel_rfl) (by kernel_rfl) (by kernel_rfl) (fun _ _ _ h => h) (Or.inl ⟨by rfl, ?_⟩) (by assumption) ?_
  rotate_left
  · (intro W2 hSw; go_simp; (try with_reducible rfl))
  try simp only [Act.put, List.getElem_toArray, List.getElem_cons_succ, List.getElem_cons_zero, List.setIfInBounds_toArray, List.set_cons_zero, List.set_cons_succ]
  refine wpAnyH_ready (rs := [7]) (by kernel_rfl) (by simp) ?_
  refine AllReadyH.cons rfl (fun KK hKK => ?_) AllReadyH.nil
  have ha0 := hHeld.2.1.someCell 0 (by decide); have hf0 := hHeld.2.1.frozen 0; have ha1 := hHeld.2.1.someCell 1 (by decide); have hf1 := hHeld.2.1.frozen 1; have ha2 := hHeld.2.1.someCell 2 (by decide); have hf2 := hHeld.2.1.frozen 2; have ha3 := hHeld.2.1.someCell 3 (by decide); have hf3 := hHeld.2.1.frozen 3; have ha4 := hHeld.2.1.someCell 4 (by decide); have hf4 := hHeld.2.1.frozen 4; have ha5 := hHeld.2.1.someCell 5 (by decide); have hf5 := hHeld.2.1.frozen 5; have ha6 := hHeld.2.1.someCell 6 (by decide); have hf6 := hHeld.2.1.frozen 6; have ha7 := hHeld.2.1.someCell 7 (by decide); have hf7 := hHeld.2.1.frozen 7; have ha8 := hHeld.2.1.someCell 8 (by decide); have hf8 := hHeld.2.1.frozen 8; have ha9 := hHeld.2.1.someCell 9 (by decide); have hf9 := hHeld.2.1.frozen 9; have ha10 := hHeld.2.1.someCell 10 (by decide); have hf10 := hHeld.2.1.frozen 10; have ha11 := hHeld.2.1.someCell 11 (by decide); have hf11 := hHeld.2.1.frozen 11; have ha12 := hHeld.2.1.someCell 12 (by decide); have hf12 := hHeld.2.1.frozen 12; have HK := Lib.hid (hHeld.2.1.setCell [.bool false, .int .i64 s1, .bool g3, .slice A3 n3 c3, .slice B3 m3 d3, .int .i64 1, .bool o3, .int .i64 s2, .bool g4, .slice A4 n4 c4, .slice B4 m4 d4, .int .i64 1, .bool o4] rfl); have F := Lib.hid (below_sets (w0 := w) (r := (w.heap.size + 1)) (by omega) [.bool false, .int .i64 s1, .bool g3, .slice A3 n3 c3, .slice B3 m3 d3, .int .i64 1, .bool o3, .int .i64 s2, .bool g4, .slice A4 n4 c4, .slice B4 m4 d4, .int .i64 1, .bool o4] 0 _ hHeld.2.2); have FR1 := Lib.hid (hHeld.2.1.rat (h3.below hb4) [.bool false, .int .i64 s1, .bool g3, .slice A3 n3 c3, .slice B3 m3 d3, .int .i64 1, .bool o3, .int .i64 s2, .bool g4, .slice A4 n4 c4, .slice B4 m4 d4, .int .i64 1, .bool o4]); have FR2 := Lib.hid (hHeld.2.1.rat h4 [.bool false, .int .i64 s1, .bool g3, .slice A3 n3 c3, .slice B3 m3 d3, .int .i64 1, .bool o3, .int .i64 s2, .bool g4, .slice A4 n4 c4, .slice B4 m4 d4, .int .i64 1, .bool o4])
  go_simp
  refine hKK.out _ _ (⟨hHeld.1.other (by omega) 0 [.bool false, .int .i64 s1, .bool g3, .slice A3 n3 c3, .slice B3 m3 d3, .int .i64 1, .bool o3, .int .i64 s2, .bool g4, .slice A4 n4 c4, .slice B4 m4 d4, .int .i64 1, .bool o4], hHeld.2.1.sets [.bool false, .int .i64 s1, .bool g3, .slice A3 n3 c3, .slice B3 m3 d3, .int .i64 1, .bool o3, .int .i64 s2, .bool g4, .slice A4 n4 c4, .slice B4 m4 d4, .int .i64 1, .bool o4] rfl rfl, below_sets (by omega) [.bool false, .int .i64 s1, .bool g3, .slice A3 n3 c3, .slice B3 m3 d3, .int .i64 1, .bool o3, .int .i64 s2, .bool g4, .slice A4 n4 c4, .slice B4 m4 d4, .int .i64 1, .bool o4] 0 _ hHeld.2.2⟩) (fun _ => ?_)
  clear hKK KK hHeld; rename_i hHeld
  try simp only [Act.put, List.getElem_toArray, List.getElem_cons_succ, List.getElem_cons_zero, List.setIfInBounds_toArray, List.set_cons_zero, List.set_cons_succ]
  refine wpAnyH_done (by kernel_rfl) ?_ _
  have hk0 := HK.out 0 (by decide)
  have hk1 := HK.out 1 (by decide)
  have hk2 := HK.out 2 (by decide)
  have hk3 := HK.out 3 (by decide)
  have hk4 := HK.out 4 (by decide)
  have hk5 := HK.out 5 (by decide)
  have hk6 := HK.out 6 (by decide)
  have hk7 := HK.out 7 (by decide)
  have hk8 := HK.out 8 (by decide)
  have hk9 := HK.out 9 (by decide)
  have hk10 := HK.out 10 (by decide)
  have hk11 := HK.out 11 (by decide)
  have hk12 := HK.out 12 (by decide)
  simp [sets] at hk0 hk1 hk2 hk3 hk4 hk5 hk6 hk7 hk8 hk9 hk10 hk11 hk12
  clear hHeld HK h3 hb3 h4 hb4
  clear LB0 LR0 LG0_0
  go_wp2
  refine bodyPost_ret (v := .agg #[.bool false, .int .i64 s1, .bool g3, .slice A3 n3 c3, .slice B3 m3 d3, .int .i64 1, .bool o3, .int .i64 s2, .bool g4, .slice A4 n4 c4, .slice B4 m4 d4, .int .i64 1, .bool o4]) (by simp [results, Tryz.results55, go_sem, hk0, hk1, hk2, hk3, hk4, hk5, hk6, hk7, hk8, hk9, hk10, hk11, hk12]) rfl ?_
  exact ⟨_, _, _, _, _, _, _, _, _, _, _, _, _, _, rfl, FR1.out, FR2.out, F.out⟩

end Go.Proofs.YtmjkmoahkanblaaGreat
