/-
Walks: package vergeref10, product, products, DivRev1.
-/
import Derived.Test.YtmjkmoahkanblaaGreatM26
import Derived.Deep.DeepCutAuto
set_option linter.unusedSimpArgs false
set_option linter.unusedVariables false
set_option maxHeartbeats 12800000

namespace Go.Proofs.YtmjkmoahkanblaaGreat
open Go.RowKit
set_option maxRecDepth 8000 in
theorem prod6_zero (g1 : Bool) (A1 : Option Addr) (n1 c1 : Nat) (B1 : Option Addr) (m1 d1 : Nat) (g2 : Bool) (A2 : Option Addr) (n2 c2 : Nat) (B2 : Option Addr) (m2 d2 : Nat) (s1 s2 : Int) (w : World) (hS1 : ∀ W, Below w.heap.size w W → Calls Tryz.prog 86 #[.agg #[.int .i64 s1, .bool g1, .slice A1 n1 c1, .slice B1 m1 d1]] W fun e w' => e = .returned (.int .i64 0) ∧ Below W.heap.size W w') :
    Calls Tryz.prog 173 #[.agg #[.int .i64 s1, .bool g1, .slice A1 n1 c1, .slice B1 m1 d1], .agg #[.int .i64 s2, .bool g2, .slice A2 n2 c2, .slice B2 m2 d2]] w (NewBd w 1 0 0 1 false) := by
  have HW := Lib.hid (show ∀ W, Calls Tryz.prog 115 #[.int .i64 0, .bool false] W (NewBd W 1 0 0 1 false) from fun W => whole_nat 0 false W (by omega))
  have HS1 := Lib.hid hS1
  clear hS1
  have LL := li3 w #[.int .i64 s1, .bool g1, .slice A1 n1 c1, .slice B1 m1 d1] 67 #[.int .i64 s2, .bool g2, .slice A2 n2 c2, .slice B2 m2 d2] 67 #[.int .i64 0, .bool false, .slice none 0 0, .slice none 0 0, .int .i64 0, .bool false] 62
  go_enter Tryz.func173, Tryz.ntmps173
  obtain ⟨q1_0, q1_1, q1_2, q1_3⟩ := (LL.out.blk 0 rfl).c4
  go_wp2_with fail
  refine (HS1.out _ LL.out.b).mono ?_
  rintro e wk ⟨rfl, hb⟩
  replace LL := stL LL hb
  clear hb q1_0 q1_1 q1_2 q1_3
  go_wp2_with fail
  refine (HW.out _).mono ?_
  rintro e wk ⟨g5, A5, n5, c5, B5, m5, d5, rfl, hr5, hb⟩
  replace LL := stL LL hb
  clear hb
  have HR5 := Lib.hid hr5
  clear hr5
  replace LL := Lib.hid (LL.out.loose 2 rfl rfl)
  simp only [List.eraseIdx, List.size_toArray, List.length_cons, List.length_nil, Nat.zero_add, Nat.reduceAdd] at LL
  have HRB := LL.out.has 0 rfl
  obtain ⟨ha4_0, hf4_0, ha4_1, hf4_1, ha4_2, hf4_2, ha4_3, hf4_3, ha4_4, hf4_4, ha4_5, hf4_5⟩ := (LL.out.has 0 rfl).sf6
  have LF := Lib.hid (LL.out.write [.int .i64 0, .bool g5, .slice A5 n5 c5, .slice B5 m5 d5, .int .i64 1, .bool false] rfl (by omega) (by simp <;> omega) (by simp <;> omega))
  obtain ⟨hk4_0, hk4_1, hk4_2, hk4_3, hk4_4, hk4_5⟩ := (LF.out.blk 2 rfl).c6
  simp [sets] at hk4_0 hk4_1 hk4_2 hk4_3 hk4_4 hk4_5
  clear LL
  go_wp2
  refine bodyPost_ret (v := .agg #[.int .i64 0, .bool g5, .slice A5 n5 c5, .slice B5 m5 d5, .int .i64 1, .bool false]) (by simp [results, Tryz.results173, go_sem, hk4_0, hk4_1, hk4_2, hk4_3, hk4_4, hk4_5]) rfl ?_
  exact ⟨g5, A5, n5, c5, B5, m5, d5, rfl, HRB.rat HR5.out [.int .i64 0, .bool g5, .slice A5 n5 c5, .slice B5 m5 d5, .int .i64 1, .bool false], LF.out.b⟩
set_option maxRecDepth 8000 in
theorem prod6_open (g1 : Bool) (A1 : Option Addr) (n1 c1 : Nat) (B1 : Option Addr) (m1 d1 : Nat) (g2 : Bool) (A2 : Option Addr) (n2 c2 : Nat) (B2 : Option Addr) (m2 d2 : Nat) (s1 s2 a1 : Int) (w : World) (hS1 : ∀ W, Below w.heap.size w W → Calls Tryz.prog 86 #[.agg #[.int .i64 s1, .bool g1, .slice A1 n1 c1, .slice B1 m1 d1]] W fun e w' => e = .returned (.int .i64 a1) ∧ Below W.heap.size W w') (hz : (a1 == 0) = false) (hS2 : ∀ W, Below w.heap.size w W → Calls Tryz.prog 86 #[.agg #[.int .i64 s2, .bool g2, .slice A2 n2 c2, .slice B2 m2 d2]] W fun e w' => e = .returned (.int .i64 0) ∧ Below W.heap.size W w') :
    Calls Tryz.prog 173 #[.agg #[.int .i64 s1, .bool g1, .slice A1 n1 c1, .slice B1 m1 d1], .agg #[.int .i64 s2, .bool g2, .slice A2 n2 c2, .slice B2 m2 d2]] w (NewBd w 1 0 0 1 true) := by
  have HW := Lib.hid (show ∀ W, Calls Tryz.prog 115 #[.int .i64 0, .bool true] W (NewBd W 1 0 0 1 true) from fun W => whole_nat 0 true W (by omega))
  have HS1 := Lib.hid hS1
  have HS2 := Lib.hid hS2
  clear hS1 hS2
  have LL := li3 w #[.int .i64 s1, .bool g1, .slice A1 n1 c1, .slice B1 m1 d1] 67 #[.int .i64 s2, .bool g2, .slice A2 n2 c2, .slice B2 m2 d2] 67 #[.int .i64 0, .bool false, .slice none 0 0, .slice none 0 0, .int .i64 0, .bool false] 62
  go_enter Tryz.func173, Tryz.ntmps173
  obtain ⟨q1_0, q1_1, q1_2, q1_3⟩ := (LL.out.blk 0 rfl).c4
  go_wp2_with fail
  refine (HS1.out _ LL.out.b).mono ?_
  rintro e wk ⟨rfl, hb⟩
  replace LL := stL LL hb
  clear hb q1_0 q1_1 q1_2 q1_3
  obtain ⟨q2_0, q2_1, q2_2, q2_3⟩ := (LL.out.blk 1 rfl).c4
  go_wp2_with fail
  refine (HS2.out _ LL.out.b).mono ?_
  rintro e wk ⟨rfl, hb⟩
  replace LL := stL LL hb
  clear hb q2_0 q2_1 q2_2 q2_3 hz
  go_wp2_with fail
  refine (HW.out _).mono ?_
  rintro e wk ⟨g5, A5, n5, c5, B5, m5, d5, rfl, hr5, hb⟩
  replace LL := stL LL hb
  clear hb
  have HR5 := Lib.hid hr5
  clear hr5
  replace LL := Lib.hid (LL.out.loose 2 rfl rfl)
  simp only [List.eraseIdx, List.size_toArray, List.length_cons, List.length_nil, Nat.zero_add, Nat.reduceAdd] at LL
  have HRB := LL.out.has 0 rfl
  obtain ⟨ha4_0, hf4_0, ha4_1, hf4_1, ha4_2, hf4_2, ha4_3, hf4_3, ha4_4, hf4_4, ha4_5, hf4_5⟩ := (LL.out.has 0 rfl).sf6
  have LF := Lib.hid (LL.out.write [.int .i64 0, .bool g5, .slice A5 n5 c5, .slice B5 m5 d5, .int .i64 1, .bool true] rfl (by omega) (by simp <;> omega) (by simp <;> omega))
  obtain ⟨hk4_0, hk4_1, hk4_2, hk4_3, hk4_4, hk4_5⟩ := (LF.out.blk 2 rfl).c6
  simp [sets] at hk4_0 hk4_1 hk4_2 hk4_3 hk4_4 hk4_5
  clear LL
  go_wp2
  refine bodyPost_ret (v := .agg #[.int .i64 0, .bool g5, .slice A5 n5 c5, .slice B5 m5 d5, .int .i64 1, .bool true]) (by simp [results, Tryz.results173, go_sem, hk4_0, hk4_1, hk4_2, hk4_3, hk4_4, hk4_5]) rfl ?_
  exact ⟨g5, A5, n5, c5, B5, m5, d5, rfl, HRB.rat HR5.out [.int .i64 0, .bool g5, .slice A5 n5 c5, .slice B5 m5 d5, .int .i64 1, .bool true], LF.out.b⟩
set_option maxRecDepth 8000 in
theorem prod6_fara (g1 : Bool) (A1 : Option Addr) (n1 c1 : Nat) (B1 : Option Addr) (m1 d1 : Nat) (g2 : Bool) (A2 : Option Addr) (n2 c2 : Nat) (B2 : Option Addr) (m2 d2 : Nat) (s2 a1 a2 : Int) (w : World) (hS1 : ∀ W, Below w.heap.size w W → Calls Tryz.prog 86 #[.agg #[.int .i64 1, .bool g1, .slice A1 n1 c1, .slice B1 m1 d1]] W fun e w' => e = .returned (.int .i64 a1) ∧ Below W.heap.size W w') (hz : (a1 == 0) = false) (hS2 : ∀ W, Below w.heap.size w W → Calls Tryz.prog 86 #[.agg #[.int .i64 s2, .bool g2, .slice A2 n2 c2, .slice B2 m2 d2]] W fun e w' => e = .returned (.int .i64 a2) ∧ Below W.heap.size W w') (hz2 : (a2 == 0) = false) :
    Calls Tryz.prog 173 #[.agg #[.int .i64 1, .bool g1, .slice A1 n1 c1, .slice B1 m1 d1], .agg #[.int .i64 s2, .bool g2, .slice A2 n2 c2, .slice B2 m2 d2]] w (NewBd w 1 a1 0 1 true) := by
  have HF := Lib.hid fun W => far_any a1 W
  have HS1 := Lib.hid hS1
  have HS2 := Lib.hid hS2
  clear hS1 hS2
  have LL := li3 w #[.int .i64 1, .bool g1, .slice A1 n1 c1, .slice B1 m1 d1] 67 #[.int .i64 s2, .bool g2, .slice A2 n2 c2, .slice B2 m2 d2] 67 #[.int .i64 0, .bool false, .slice none 0 0, .slice none 0 0, .int .i64 0, .bool false] 62
  go_enter Tryz.func173, Tryz.ntmps173
  obtain ⟨q1_0, q1_1, q1_2, q1_3⟩ := (LL.out.blk 0 rfl).c4
  go_wp2_with fail
  refine (HS1.out _ LL.out.b).mono ?_
  rintro e wk ⟨rfl, hb⟩
  replace LL := stL LL hb
  clear hb q1_0 q1_1 q1_2 q1_3
  obtain ⟨q2_0, q2_1, q2_2, q2_3⟩ := (LL.out.blk 0 rfl).c4
  obtain ⟨q3_0, q3_1, q3_2, q3_3⟩ := (LL.out.blk 1 rfl).c4
  go_wp2_with fail
  refine (HS2.out _ LL.out.b).mono ?_
  rintro e wk ⟨rfl, hb⟩
  replace LL := stL LL hb
  clear hb q2_0 q2_1 q2_2 q2_3 q3_0 q3_1 q3_2 q3_3 hz
  obtain ⟨q4_0, q4_1, q4_2, q4_3⟩ := (LL.out.blk 0 rfl).c4
  obtain ⟨q5_0, q5_1, q5_2, q5_3⟩ := (LL.out.blk 1 rfl).c4
  go_wp2_with fail
  refine (HF.out _).mono ?_
  rintro e wk ⟨g5, A5, n5, c5, B5, m5, d5, rfl, hr5, hb⟩
  replace LL := stL LL hb
  clear hb q4_0 q4_1 q4_2 q4_3 q5_0 q5_1 q5_2 q5_3 hz2
  have HR5 := Lib.hid hr5
  clear hr5
  replace LL := Lib.hid (LL.out.loose 2 rfl rfl)
  simp only [List.eraseIdx, List.size_toArray, List.length_cons, List.length_nil, Nat.zero_add, Nat.reduceAdd] at LL
  have HRB := LL.out.has 0 rfl
  obtain ⟨ha4_0, hf4_0, ha4_1, hf4_1, ha4_2, hf4_2, ha4_3, hf4_3, ha4_4, hf4_4, ha4_5, hf4_5⟩ := (LL.out.has 0 rfl).sf6
  have LF := Lib.hid (LL.out.write [.int .i64 a1, .bool g5, .slice A5 n5 c5, .slice B5 m5 d5, .int .i64 1, .bool true] rfl (by omega) (by simp <;> omega) (by simp <;> omega))
  obtain ⟨hk4_0, hk4_1, hk4_2, hk4_3, hk4_4, hk4_5⟩ := (LF.out.blk 2 rfl).c6
  simp [sets] at hk4_0 hk4_1 hk4_2 hk4_3 hk4_4 hk4_5
  clear LL
  go_wp2
  refine bodyPost_ret (v := .agg #[.int .i64 a1, .bool g5, .slice A5 n5 c5, .slice B5 m5 d5, .int .i64 1, .bool true]) (by simp [results, Tryz.results173, go_sem, hk4_0, hk4_1, hk4_2, hk4_3, hk4_4, hk4_5]) rfl ?_
  exact ⟨g5, A5, n5, c5, B5, m5, d5, rfl, HRB.rat HR5.out [.int .i64 a1, .bool g5, .slice A5 n5 c5, .slice B5 m5 d5, .int .i64 1, .bool true], LF.out.b⟩
set_option maxRecDepth 8000 in
theorem prod6_farb (g1 : Bool) (A1 : Option Addr) (n1 c1 : Nat) (B1 : Option Addr) (m1 d1 : Nat) (g2 : Bool) (A2 : Option Addr) (n2 c2 : Nat) (B2 : Option Addr) (m2 d2 : Nat) (s2 a1 a2 : Int) (w : World) (hS1 : ∀ W, Below w.heap.size w W → Calls Tryz.prog 86 #[.agg #[.int .i64 (-1), .bool g1, .slice A1 n1 c1, .slice B1 m1 d1]] W fun e w' => e = .returned (.int .i64 a1) ∧ Below W.heap.size W w') (hz : (a1 == 0) = false) (hS2 : ∀ W, Below w.heap.size w W → Calls Tryz.prog 86 #[.agg #[.int .i64 s2, .bool g2, .slice A2 n2 c2, .slice B2 m2 d2]] W fun e w' => e = .returned (.int .i64 a2) ∧ Below W.heap.size W w') (hz2 : (a2 == 0) = false) :
    Calls Tryz.prog 173 #[.agg #[.int .i64 (-1), .bool g1, .slice A1 n1 c1, .slice B1 m1 d1], .agg #[.int .i64 s2, .bool g2, .slice A2 n2 c2, .slice B2 m2 d2]] w (NewBd w 1 a1 0 1 true) := by
  have HF := Lib.hid fun W => far_any a1 W
  have HS1 := Lib.hid hS1
  have HS2 := Lib.hid hS2
  clear hS1 hS2
  have LL := li3 w #[.int .i64 (-1), .bool g1, .slice A1 n1 c1, .slice B1 m1 d1] 67 #[.int .i64 s2, .bool g2, .slice A2 n2 c2, .slice B2 m2 d2] 67 #[.int .i64 0, .bool false, .slice none 0 0, .slice none 0 0, .int .i64 0, .bool false] 62
  go_enter Tryz.func173, Tryz.ntmps173
  obtain ⟨q1_0, q1_1, q1_2, q1_3⟩ := (LL.out.blk 0 rfl).c4
  go_wp2_with fail
  refine (HS1.out _ LL.out.b).mono ?_
  rintro e wk ⟨rfl, hb⟩
  replace LL := stL LL hb
  clear hb q1_0 q1_1 q1_2 q1_3
  obtain ⟨q2_0, q2_1, q2_2, q2_3⟩ := (LL.out.blk 0 rfl).c4
  obtain ⟨q3_0, q3_1, q3_2, q3_3⟩ := (LL.out.blk 1 rfl).c4
  go_wp2_with fail
  refine (HS2.out _ LL.out.b).mono ?_
  rintro e wk ⟨rfl, hb⟩
  replace LL := stL LL hb
  clear hb q2_0 q2_1 q2_2 q2_3 q3_0 q3_1 q3_2 q3_3 hz
  obtain ⟨q4_0, q4_1, q4_2, q4_3⟩ := (LL.out.blk 0 rfl).c4
  obtain ⟨q5_0, q5_1, q5_2, q5_3⟩ := (LL.out.blk 1 rfl).c4
  go_wp2_with fail
  refine (HF.out _).mono ?_
  rintro e wk ⟨g5, A5, n5, c5, B5, m5, d5, rfl, hr5, hb⟩
  replace LL := stL LL hb
  clear hb q4_0 q4_1 q4_2 q4_3 q5_0 q5_1 q5_2 q5_3 hz2
  have HR5 := Lib.hid hr5
  clear hr5
  replace LL := Lib.hid (LL.out.loose 2 rfl rfl)
  simp only [List.eraseIdx, List.size_toArray, List.length_cons, List.length_nil, Nat.zero_add, Nat.reduceAdd] at LL
  have HRB := LL.out.has 0 rfl
  obtain ⟨ha4_0, hf4_0, ha4_1, hf4_1, ha4_2, hf4_2, ha4_3, hf4_3, ha4_4, hf4_4, ha4_5, hf4_5⟩ := (LL.out.has 0 rfl).sf6
  have LF := Lib.hid (LL.out.write [.int .i64 a1, .bool g5, .slice A5 n5 c5, .slice B5 m5 d5, .int .i64 1, .bool true] rfl (by omega) (by simp <;> omega) (by simp <;> omega))
  obtain ⟨hk4_0, hk4_1, hk4_2, hk4_3, hk4_4, hk4_5⟩ := (LF.out.blk 2 rfl).c6
  simp [sets] at hk4_0 hk4_1 hk4_2 hk4_3 hk4_4 hk4_5
  clear LL
  go_wp2
  refine bodyPost_ret (v := .agg #[.int .i64 a1, .bool g5, .slice A5 n5 c5, .slice B5 m5 d5, .int .i64 1, .bool true]) (by simp [results, Tryz.results173, go_sem, hk4_0, hk4_1, hk4_2, hk4_3, hk4_4, hk4_5]) rfl ?_
  exact ⟨g5, A5, n5, c5, B5, m5, d5, rfl, HRB.rat HR5.out [.int .i64 a1, .bool g5, .slice A5 n5 c5, .slice B5 m5 d5, .int .i64 1, .bool true], LF.out.b⟩
set_option maxRecDepth 8000 in
theorem prod6_farc (g1 : Bool) (A1 : Option Addr) (n1 c1 : Nat) (B1 : Option Addr) (m1 d1 : Nat) (g2 : Bool) (A2 : Option Addr) (n2 c2 : Nat) (B2 : Option Addr) (m2 d2 : Nat) (a1 a2 : Int) (w : World) (hS1 : ∀ W, Below w.heap.size w W → Calls Tryz.prog 86 #[.agg #[.int .i64 0, .bool g1, .slice A1 n1 c1, .slice B1 m1 d1]] W fun e w' => e = .returned (.int .i64 a1) ∧ Below W.heap.size W w') (hz : (a1 == 0) = false) (hS2 : ∀ W, Below w.heap.size w W → Calls Tryz.prog 86 #[.agg #[.int .i64 1, .bool g2, .slice A2 n2 c2, .slice B2 m2 d2]] W fun e w' => e = .returned (.int .i64 a2) ∧ Below W.heap.size W w') (hz2 : (a2 == 0) = false) :
    Calls Tryz.prog 173 #[.agg #[.int .i64 0, .bool g1, .slice A1 n1 c1, .slice B1 m1 d1], .agg #[.int .i64 1, .bool g2, .slice A2 n2 c2, .slice B2 m2 d2]] w (NewBd w 1 a1 0 1 true) := by
  have HF := Lib.hid fun W => far_any a1 W
  have HS1 := Lib.hid hS1
  have HS2 := Lib.hid hS2
  clear hS1 hS2
  have LL := li3 w #[.int .i64 0, .bool g1, .slice A1 n1 c1, .slice B1 m1 d1] 67 #[.int .i64 1, .bool g2, .slice A2 n2 c2, .slice B2 m2 d2] 67 #[.int .i64 0, .bool false, .slice none 0 0, .slice none 0 0, .int .i64 0, .bool false] 62
  go_enter Tryz.func173, Tryz.ntmps173
  obtain ⟨q1_0, q1_1, q1_2, q1_3⟩ := (LL.out.blk 0 rfl).c4
  go_wp2_with fail
  refine (HS1.out _ LL.out.b).mono ?_
  rintro e wk ⟨rfl, hb⟩
  replace LL := stL LL hb
  clear hb q1_0 q1_1 q1_2 q1_3
  obtain ⟨q2_0, q2_1, q2_2, q2_3⟩ := (LL.out.blk 0 rfl).c4
  obtain ⟨q3_0, q3_1, q3_2, q3_3⟩ := (LL.out.blk 1 rfl).c4
  go_wp2_with fail
  refine (HS2.out _ LL.out.b).mono ?_
  rintro e wk ⟨rfl, hb⟩
  replace LL := stL LL hb
  clear hb q2_0 q2_1 q2_2 q2_3 q3_0 q3_1 q3_2 q3_3 hz
  obtain ⟨q4_0, q4_1, q4_2, q4_3⟩ := (LL.out.blk 0 rfl).c4
  obtain ⟨q5_0, q5_1, q5_2, q5_3⟩ := (LL.out.blk 1 rfl).c4
  go_wp2_with fail
  refine (HF.out _).mono ?_
  rintro e wk ⟨g5, A5, n5, c5, B5, m5, d5, rfl, hr5, hb⟩
  replace LL := stL LL hb
  clear hb q4_0 q4_1 q4_2 q4_3 q5_0 q5_1 q5_2 q5_3 hz2
  have HR5 := Lib.hid hr5
  clear hr5
  replace LL := Lib.hid (LL.out.loose 2 rfl rfl)
  simp only [List.eraseIdx, List.size_toArray, List.length_cons, List.length_nil, Nat.zero_add, Nat.reduceAdd] at LL
  have HRB := LL.out.has 0 rfl
  obtain ⟨ha4_0, hf4_0, ha4_1, hf4_1, ha4_2, hf4_2, ha4_3, hf4_3, ha4_4, hf4_4, ha4_5, hf4_5⟩ := (LL.out.has 0 rfl).sf6
  have LF := Lib.hid (LL.out.write [.int .i64 a1, .bool g5, .slice A5 n5 c5, .slice B5 m5 d5, .int .i64 1, .bool true] rfl (by omega) (by simp <;> omega) (by simp <;> omega))
  obtain ⟨hk4_0, hk4_1, hk4_2, hk4_3, hk4_4, hk4_5⟩ := (LF.out.blk 2 rfl).c6
  simp [sets] at hk4_0 hk4_1 hk4_2 hk4_3 hk4_4 hk4_5
  clear LL
  go_wp2
  refine bodyPost_ret (v := .agg #[.int .i64 a1, .bool g5, .slice A5 n5 c5, .slice B5 m5 d5, .int .i64 1, .bool true]) (by simp [results, Tryz.results173, go_sem, hk4_0, hk4_1, hk4_2, hk4_3, hk4_4, hk4_5]) rfl ?_
  exact ⟨g5, A5, n5, c5, B5, m5, d5, rfl, HRB.rat HR5.out [.int .i64 a1, .bool g5, .slice A5 n5 c5, .slice B5 m5 d5, .int .i64 1, .bool true], LF.out.b⟩
set_option maxRecDepth 8000 in
theorem prod6_fin (g1 : Bool) (A1 : Option Addr) (n1 c1 : Nat) (B1 : Option Addr) (m1 d1 : Nat) (g2 : Bool) (A2 : Option Addr) (n2 c2 : Nat) (B2 : Option Addr) (m2 d2 : Nat) (a1 a2 : Int) (K : Nat) (x : Rat) (w : World) (hS1 : ∀ W, Below w.heap.size w W → Calls Tryz.prog 86 #[.agg #[.int .i64 0, .bool g1, .slice A1 n1 c1, .slice B1 m1 d1]] W fun e w' => e = .returned (.int .i64 a1) ∧ Below W.heap.size W w') (hz : (a1 == 0) = false) (hS2 : ∀ W, Below w.heap.size w W → Calls Tryz.prog 86 #[.agg #[.int .i64 0, .bool g2, .slice A2 n2 c2, .slice B2 m2 d2]] W fun e w' => e = .returned (.int .i64 a2) ∧ Below W.heap.size W w') (hz2 : (a2 == 0) = false) (hM : ∀ W, Below w.heap.size w W → Calls Tryz.prog 221 #[.agg #[.bool g1, .slice A1 n1 c1, .slice B1 m1 d1], .agg #[.bool g2, .slice A2 n2 c2, .slice B2 m2 d2]] W (NewRatS W K x)) :
    Calls Tryz.prog 173 #[.agg #[.int .i64 0, .bool g1, .slice A1 n1 c1, .slice B1 m1 d1], .agg #[.int .i64 0, .bool g2, .slice A2 n2 c2, .slice B2 m2 d2]] w (NewBd w K 0 x 1 false) := by
  have HS1 := Lib.hid hS1
  have HS2 := Lib.hid hS2
  have HM := Lib.hid hM
  clear hS1 hS2 hM
  have LL := li3 w #[.int .i64 0, .bool g1, .slice A1 n1 c1, .slice B1 m1 d1] 67 #[.int .i64 0, .bool g2, .slice A2 n2 c2, .slice B2 m2 d2] 67 #[.int .i64 0, .bool false, .slice none 0 0, .slice none 0 0, .int .i64 0, .bool false] 62
  go_enter Tryz.func173, Tryz.ntmps173
  obtain ⟨q1_0, q1_1, q1_2, q1_3⟩ := (LL.out.blk 0 rfl).c4
  go_wp2_with fail
  refine (HS1.out _ LL.out.b).mono ?_
  rintro e wk ⟨rfl, hb⟩
  replace LL := stL LL hb
  clear hb q1_0 q1_1 q1_2 q1_3
  obtain ⟨q2_0, q2_1, q2_2, q2_3⟩ := (LL.out.blk 0 rfl).c4
  obtain ⟨q3_0, q3_1, q3_2, q3_3⟩ := (LL.out.blk 1 rfl).c4
  go_wp2_with fail
  refine (HS2.out _ LL.out.b).mono ?_
  rintro e wk ⟨rfl, hb⟩
  replace LL := stL LL hb
  clear hb q2_0 q2_1 q2_2 q2_3 q3_0 q3_1 q3_2 q3_3 hz
  obtain ⟨q4_0, q4_1, q4_2, q4_3⟩ := (LL.out.blk 0 rfl).c4
  obtain ⟨q5_0, q5_1, q5_2, q5_3⟩ := (LL.out.blk 1 rfl).c4
  go_wp2_with fail
  refine (HM.out _ LL.out.b).mono ?_
  rintro e wk ⟨g5, A5, n5, c5, B5, m5, d5, rfl, hr5, hb⟩
  replace LL := stL LL hb
  clear hb q4_0 q4_1 q4_2 q4_3 q5_0 q5_1 q5_2 q5_3 hz2
  have HR5 := Lib.hid hr5
  clear hr5
  replace LL := Lib.hid (LL.out.loose 2 rfl rfl)
  simp only [List.eraseIdx, List.size_toArray, List.length_cons, List.length_nil, Nat.zero_add, Nat.reduceAdd] at LL
  have HRB := LL.out.has 0 rfl
  obtain ⟨ha4_0, hf4_0, ha4_1, hf4_1, ha4_2, hf4_2, ha4_3, hf4_3, ha4_4, hf4_4, ha4_5, hf4_5⟩ := (LL.out.has 0 rfl).sf6
  have LF := Lib.hid (LL.out.write [.int .i64 0, .bool g5, .slice A5 n5 c5, .slice B5 m5 d5, .int .i64 1, .bool false] rfl (by omega) (by simp <;> omega) (by simp <;> omega))
  obtain ⟨hk4_0, hk4_1, hk4_2, hk4_3, hk4_4, hk4_5⟩ := (LF.out.blk 2 rfl).c6
  simp [sets] at hk4_0 hk4_1 hk4_2 hk4_3 hk4_4 hk4_5
  clear LL
  go_wp2
  refine bodyPost_ret (v := .agg #[.int .i64 0, .bool g5, .slice A5 n5 c5, .slice B5 m5 d5, .int .i64 1, .bool false]) (by simp [results, Tryz.results173, go_sem, hk4_0, hk4_1, hk4_2, hk4_3, hk4_4, hk4_5]) rfl ?_
  exact ⟨g5, A5, n5, c5, B5, m5, d5, rfl, HRB.rat HR5.out [.int .i64 0, .bool g5, .slice A5 n5 c5, .slice B5 m5 d5, .int .i64 1, .bool false], LF.out.b⟩
set_option maxRecDepth 8000 in
theorem products_none (K : Nat) (o1 o2 u : Bool) (s1 s2 s3 s4 : Int) (g1 : Bool) (A1 : Option Addr) (n1 c1 : Nat) (B1 : Option Addr) (m1 d1 : Nat) (g2 : Bool) (A2 : Option Addr) (n2 c2 : Nat) (B2 : Option Addr) (m2 d2 : Nat) (g3 : Bool) (A3 : Option Addr) (n3 c3 : Nat) (B3 : Option Addr) (m3 d3 : Nat) (g4 : Bool) (A4 : Option Addr) (n4 c4 : Nat) (B4 : Option Addr) (m4 d4 : Nat) (y5 y6 : Int) (v5 v6 : Rat) (w : World) (hU : ∀ W, Below w.heap.size w W → Calls Tryz.prog 146 #[.agg #[.bool o2, .int .i64 s3, .bool g3, .slice A3 n3 c3, .slice B3 m3 d3, .int .i64 s4, .bool g4, .slice A4 n4 c4, .slice B4 m4 d4]] W (NewSet W K u y5 v5 y6 v6)) (hc : o1 = true ∨ o1 = false ∧ u = true) :
    Calls Tryz.prog 113 #[.agg #[.bool o1, .int .i64 s1, .bool g1, .slice A1 n1 c1, .slice B1 m1 d1, .int .i64 s2, .bool g2, .slice A2 n2 c2, .slice B2 m2 d2], .agg #[.bool o2, .int .i64 s3, .bool g3, .slice A3 n3 c3, .slice B3 m3 d3, .int .i64 s4, .bool g4, .slice A4 n4 c4, .slice B4 m4 d4]] w (NewPiece w 1 true 0 0 1 false 0 0 1 false) := by
  have HN := Lib.hid fun W => nothing_any W
  have HU := Lib.hid hU
  clear hU
  rcases hc with h | ⟨h, h2⟩ <;> subst h <;> (try subst h2)
  · skip
    have LL := li3 w #[.bool true, .int .i64 s1, .bool g1, .slice A1 n1 c1, .slice B1 m1 d1, .int .i64 s2, .bool g2, .slice A2 n2 c2, .slice B2 m2 d2] 69 #[.bool o2, .int .i64 s3, .bool g3, .slice A3 n3 c3, .slice B3 m3 d3, .int .i64 s4, .bool g4, .slice A4 n4 c4, .slice B4 m4 d4] 69 #[.bool false, .int .i64 0, .bool false, .slice none 0 0, .slice none 0 0, .int .i64 0, .bool false, .int .i64 0, .bool false, .slice none 0 0, .slice none 0 0, .int .i64 0, .bool false] 64
    go_enter Tryz.func113, Tryz.ntmps113
    obtain ⟨q1_0, q1_1, q1_2, q1_3, q1_4, q1_5, q1_6, q1_7, q1_8⟩ := (LL.out.blk 1 rfl).c9
    go_wp2_with fail
    refine (HU.out _ LL.out.b).mono ?_
    rintro e wk ⟨g5, A5, n5, c5, B5, m5, d5, g6, A6, n6, c6, B6, m6, d6, rfl, hr5, hr6, hb⟩
    replace LL := stL LL hb
    clear hb q1_0 q1_1 q1_2 q1_3 q1_4 q1_5 q1_6 q1_7 q1_8
    have HR5 := Lib.hid hr5
    clear hr5
    have HR6 := Lib.hid hr6
    clear hr6
    go_upto_region 2 with fail
    have hl_j5 := LL.out.lts
    generalize hwn : World.alloc wk _ = wn
    replace HR5 := Lib.hid (HR5.out.below (below_allocE hwn))
    replace HR6 := Lib.hid (HR6.out.below (below_allocE hwn))
    replace LL := Lib.hid (LL.out.newE hwn)
    simp only [List.cons_append, List.nil_append] at LL
    simp only [List.mem_cons, List.not_mem_nil, or_false, forall_eq_or_imp, forall_eq, false_imp_iff, implies_true, and_true] at hl_j5
    clear hwn
    generalize wk.heap.size = j5 at LL hl_j5 ⊢
    clear HR5 HR6
    obtain ⟨q2_0, q2_1, q2_2, q2_3, q2_4, q2_5, q2_6, q2_7, q2_8⟩ := (LL.out.blk 0 rfl).c9
    obtain ⟨q3_0, q3_1, q3_2, q3_3, q3_4, q3_5, q3_6, q3_7, q3_8⟩ := (LL.out.blk 3 rfl).c9
    go_wp2_with fail
    refine (HN.out _).mono ?_
    rintro e wk ⟨g9, A9, n9, c9, B9, m9, d9, g10, A10, n10, c10, B10, m10, d10, rfl, hr9, hr10, hb⟩
    replace LL := stL LL hb
    clear hb q2_0 q2_1 q2_2 q2_3 q2_4 q2_5 q2_6 q2_7 q2_8 q3_0 q3_1 q3_2 q3_3 q3_4 q3_5 q3_6 q3_7 q3_8
    have HR9 := Lib.hid hr9
    clear hr9
    have HR10 := Lib.hid hr10
    clear hr10
    replace LL := Lib.hid (LL.out.loose 2 rfl rfl)
    simp only [List.eraseIdx, List.size_toArray, List.length_cons, List.length_nil, Nat.zero_add, Nat.reduceAdd] at LL
    have HRB := LL.out.has 0 rfl
    obtain ⟨ha4_0, hf4_0, ha4_1, hf4_1, ha4_2, hf4_2, ha4_3, hf4_3, ha4_4, hf4_4, ha4_5, hf4_5, ha4_6, hf4_6, ha4_7, hf4_7, ha4_8, hf4_8, ha4_9, hf4_9, ha4_10, hf4_10, ha4_11, hf4_11, ha4_12, hf4_12⟩ := (LL.out.has 0 rfl).sf13
    have LF := Lib.hid (LL.out.write [.bool true, .int .i64 0, .bool g9, .slice A9 n9 c9, .slice B9 m9 d9, .int .i64 1, .bool false, .int .i64 0, .bool g10, .slice A10 n10 c10, .slice B10 m10 d10, .int .i64 1, .bool false] rfl (by omega) (by simp <;> omega) (by simp <;> omega))
    obtain ⟨hk4_0, hk4_1, hk4_2, hk4_3, hk4_4, hk4_5, hk4_6, hk4_7, hk4_8, hk4_9, hk4_10, hk4_11, hk4_12⟩ := (LF.out.blk 3 rfl).c13
    simp [sets] at hk4_0 hk4_1 hk4_2 hk4_3 hk4_4 hk4_5 hk4_6 hk4_7 hk4_8 hk4_9 hk4_10 hk4_11 hk4_12
    clear LL
    go_wp2
    refine bodyPost_ret (v := .agg #[.bool true, .int .i64 0, .bool g9, .slice A9 n9 c9, .slice B9 m9 d9, .int .i64 1, .bool false, .int .i64 0, .bool g10, .slice A10 n10 c10, .slice B10 m10 d10, .int .i64 1, .bool false]) (by simp [results, Tryz.results113, go_sem, hk4_0, hk4_1, hk4_2, hk4_3, hk4_4, hk4_5, hk4_6, hk4_7, hk4_8, hk4_9, hk4_10, hk4_11, hk4_12]) rfl ?_
    exact ⟨g9, A9, n9, c9, B9, m9, d9, g10, A10, n10, c10, B10, m10, d10, rfl, HRB.rat HR9.out [.bool true, .int .i64 0, .bool g9, .slice A9 n9 c9, .slice B9 m9 d9, .int .i64 1, .bool false, .int .i64 0, .bool g10, .slice A10 n10 c10, .slice B10 m10 d10, .int .i64 1, .bool false], HRB.rat HR10.out [.bool true, .int .i64 0, .bool g9, .slice A9 n9 c9, .slice B9 m9 d9, .int .i64 1, .bool false, .int .i64 0, .bool g10, .slice A10 n10 c10, .slice B10 m10 d10, .int .i64 1, .bool false], LF.out.b⟩
  · skip
    have LL := li3 w #[.bool false, .int .i64 s1, .bool g1, .slice A1 n1 c1, .slice B1 m1 d1, .int .i64 s2, .bool g2, .slice A2 n2 c2, .slice B2 m2 d2] 69 #[.bool o2, .int .i64 s3, .bool g3, .slice A3 n3 c3, .slice B3 m3 d3, .int .i64 s4, .bool g4, .slice A4 n4 c4, .slice B4 m4 d4] 69 #[.bool false, .int .i64 0, .bool false, .slice none 0 0, .slice none 0 0, .int .i64 0, .bool false, .int .i64 0, .bool false, .slice none 0 0, .slice none 0 0, .int .i64 0, .bool false] 64
    go_enter Tryz.func113, Tryz.ntmps113
    obtain ⟨q1_0, q1_1, q1_2, q1_3, q1_4, q1_5, q1_6, q1_7, q1_8⟩ := (LL.out.blk 1 rfl).c9
    go_wp2_with fail
    refine (HU.out _ LL.out.b).mono ?_
    rintro e wk ⟨g5, A5, n5, c5, B5, m5, d5, g6, A6, n6, c6, B6, m6, d6, rfl, hr5, hr6, hb⟩
    replace LL := stL LL hb
    clear hb q1_0 q1_1 q1_2 q1_3 q1_4 q1_5 q1_6 q1_7 q1_8
    have HR5 := Lib.hid hr5
    clear hr5
    have HR6 := Lib.hid hr6
    clear hr6
    go_upto_region 2 with fail
    have hl_j5 := LL.out.lts
    generalize hwn : World.alloc wk _ = wn
    replace HR5 := Lib.hid (HR5.out.below (below_allocE hwn))
    replace HR6 := Lib.hid (HR6.out.below (below_allocE hwn))
    replace LL := Lib.hid (LL.out.newE hwn)
    simp only [List.cons_append, List.nil_append] at LL
    simp only [List.mem_cons, List.not_mem_nil, or_false, forall_eq_or_imp, forall_eq, false_imp_iff, implies_true, and_true] at hl_j5
    clear hwn
    generalize wk.heap.size = j5 at LL hl_j5 ⊢
    clear HR5 HR6
    obtain ⟨q2_0, q2_1, q2_2, q2_3, q2_4, q2_5, q2_6, q2_7, q2_8⟩ := (LL.out.blk 0 rfl).c9
    obtain ⟨q3_0, q3_1, q3_2, q3_3, q3_4, q3_5, q3_6, q3_7, q3_8⟩ := (LL.out.blk 3 rfl).c9
    go_wp2_with fail
    refine (HN.out _).mono ?_
    rintro e wk ⟨g9, A9, n9, c9, B9, m9, d9, g10, A10, n10, c10, B10, m10, d10, rfl, hr9, hr10, hb⟩
    replace LL := stL LL hb
    clear hb q2_0 q2_1 q2_2 q2_3 q2_4 q2_5 q2_6 q2_7 q2_8 q3_0 q3_1 q3_2 q3_3 q3_4 q3_5 q3_6 q3_7 q3_8
    have HR9 := Lib.hid hr9
    clear hr9
    have HR10 := Lib.hid hr10
    clear hr10
    replace LL := Lib.hid (LL.out.loose 2 rfl rfl)
    simp only [List.eraseIdx, List.size_toArray, List.length_cons, List.length_nil, Nat.zero_add, Nat.reduceAdd] at LL
    have HRB := LL.out.has 0 rfl
    obtain ⟨ha4_0, hf4_0, ha4_1, hf4_1, ha4_2, hf4_2, ha4_3, hf4_3, ha4_4, hf4_4, ha4_5, hf4_5, ha4_6, hf4_6, ha4_7, hf4_7, ha4_8, hf4_8, ha4_9, hf4_9, ha4_10, hf4_10, ha4_11, hf4_11, ha4_12, hf4_12⟩ := (LL.out.has 0 rfl).sf13
    have LF := Lib.hid (LL.out.write [.bool true, .int .i64 0, .bool g9, .slice A9 n9 c9, .slice B9 m9 d9, .int .i64 1, .bool false, .int .i64 0, .bool g10, .slice A10 n10 c10, .slice B10 m10 d10, .int .i64 1, .bool false] rfl (by omega) (by simp <;> omega) (by simp <;> omega))
    obtain ⟨hk4_0, hk4_1, hk4_2, hk4_3, hk4_4, hk4_5, hk4_6, hk4_7, hk4_8, hk4_9, hk4_10, hk4_11, hk4_12⟩ := (LF.out.blk 3 rfl).c13
    simp [sets] at hk4_0 hk4_1 hk4_2 hk4_3 hk4_4 hk4_5 hk4_6 hk4_7 hk4_8 hk4_9 hk4_10 hk4_11 hk4_12
    clear LL
    go_wp2
    refine bodyPost_ret (v := .agg #[.bool true, .int .i64 0, .bool g9, .slice A9 n9 c9, .slice B9 m9 d9, .int .i64 1, .bool false, .int .i64 0, .bool g10, .slice A10 n10 c10, .slice B10 m10 d10, .int .i64 1, .bool false]) (by simp [results, Tryz.results113, go_sem, hk4_0, hk4_1, hk4_2, hk4_3, hk4_4, hk4_5, hk4_6, hk4_7, hk4_8, hk4_9, hk4_10, hk4_11, hk4_12]) rfl ?_
    exact ⟨g9, A9, n9, c9, B9, m9, d9, g10, A10, n10, c10, B10, m10, d10, rfl, HRB.rat HR9.out [.bool true, .int .i64 0, .bool g9, .slice A9 n9 c9, .slice B9 m9 d9, .int .i64 1, .bool false, .int .i64 0, .bool g10, .slice A10 n10 c10, .slice B10 m10 d10, .int .i64 1, .bool false], HRB.rat HR10.out [.bool true, .int .i64 0, .bool g9, .slice A9 n9 c9, .slice B9 m9 d9, .int .i64 1, .bool false, .int .i64 0, .bool g10, .slice A10 n10 c10, .slice B10 m10 d10, .int .i64 1, .bool false], LF.out.b⟩
set_option maxRecDepth 8000 in
theorem products_some (K K2 : Nat) (o2 : Bool) (s1 s2 s3 s4 : Int) (g1 : Bool) (A1 : Option Addr) (n1 c1 : Nat) (B1 : Option Addr) (m1 d1 : Nat) (g2 : Bool) (A2 : Option Addr) (n2 c2 : Nat) (B2 : Option Addr) (m2 d2 : Nat) (g3 : Bool) (A3 : Option Addr) (n3 c3 : Nat) (B3 : Option Addr) (m3 d3 : Nat) (g4 : Bool) (A4 : Option Addr) (n4 c4 : Nat) (B4 : Option Addr) (m4 d4 : Nat) (x1 x2 : Rat) (y5 y6 : Int) (v5 v6 : Rat) (a1 a2 : Int) (kA kB : Bool) (tA tB sA sB : Int) (zA zB xA xB : Rat) (qA qB pA pB : Bool) (w : World) (h1 : RatV w K g1 (.slice A1 n1 c1) (.slice B1 m1 d1) x1) (h2 : RatV w K g2 (.slice A2 n2 c2) (.slice B2 m2 d2) x2) (hU : ∀ W, Below w.heap.size w W → Calls Tryz.prog 146 #[.agg #[.bool o2, .int .i64 s3, .bool g3, .slice A3 n3 c3, .slice B3 m3 d3, .int .i64 s4, .bool g4, .slice A4 n4 c4, .slice B4 m4 d4]] W (NewSet W K false y5 v5 y6 v6))
    (hS1 : ∀ W (g1 : Bool) (A1 : Option Addr) (n1 c1 : Nat) (B1 : Option Addr) (m1 d1 : Nat), RatV W K g1 (.slice A1 n1 c1) (.slice B1 m1 d1) x1 → Calls Tryz.prog 86 #[.agg #[.int .i64 s1, .bool g1, .slice A1 n1 c1, .slice B1 m1 d1]] W fun e w' => e = .returned (.int .i64 a1) ∧ Below W.heap.size W w') (hS2 : ∀ W (g2 : Bool) (A2 : Option Addr) (n2 c2 : Nat) (B2 : Option Addr) (m2 d2 : Nat), RatV W K g2 (.slice A2 n2 c2) (.slice B2 m2 d2) x2 → Calls Tryz.prog 86 #[.agg #[.int .i64 s2, .bool g2, .slice A2 n2 c2, .slice B2 m2 d2]] W fun e w' => e = .returned (.int .i64 a2) ∧ Below W.heap.size W w') (hkA : (a1 = 1 ∧ kA = true) ∨ (a1 = 0 ∧ kA = false) ∨ (a1 = -1 ∧ kA = false)) (hkB : (a2 = 1 ∧ kB = false) ∨ (a2 = 0 ∧ kB = false) ∨ (a2 = -1 ∧ kB = true))
    (hP1 : ∀ W (g1 : Bool) (A1 : Option Addr) (n1 c1 : Nat) (B1 : Option Addr) (m1 d1 : Nat) (g6 : Bool) (A6 : Option Addr) (n6 c6 : Nat) (B6 : Option Addr) (m6 d6 : Nat), RatV W K g1 (.slice A1 n1 c1) (.slice B1 m1 d1) x1 → RatV W K g6 (.slice A6 n6 c6) (.slice B6 m6 d6) v6 → Calls Tryz.prog 173 #[.agg #[.int .i64 s1, .bool g1, .slice A1 n1 c1, .slice B1 m1 d1], .agg #[.int .i64 y6, .bool g6, .slice A6 n6 c6, .slice B6 m6 d6]] W (NewBd W K2 tA zA 1 qA)) (hP2 : ∀ W (g2 : Bool) (A2 : Option Addr) (n2 c2 : Nat) (B2 : Option Addr) (m2 d2 : Nat) (g6 : Bool) (A6 : Option Addr) (n6 c6 : Nat) (B6 : Option Addr) (m6 d6 : Nat), RatV W K g2 (.slice A2 n2 c2) (.slice B2 m2 d2) x2 → RatV W K g6 (.slice A6 n6 c6) (.slice B6 m6 d6) v6 → Calls Tryz.prog 173 #[.agg #[.int .i64 s2, .bool g2, .slice A2 n2 c2, .slice B2 m2 d2], .agg #[.int .i64 y6, .bool g6, .slice A6 n6 c6, .slice B6 m6 d6]] W (NewBd W K2 tB zB 1 qB))
    (hP3 : kA = true → ∀ W (g1 : Bool) (A1 : Option Addr) (n1 c1 : Nat) (B1 : Option Addr) (m1 d1 : Nat) (g5 : Bool) (A5 : Option Addr) (n5 c5 : Nat) (B5 : Option Addr) (m5 d5 : Nat), RatV W K g1 (.slice A1 n1 c1) (.slice B1 m1 d1) x1 → RatV W K g5 (.slice A5 n5 c5) (.slice B5 m5 d5) v5 → Calls Tryz.prog 173 #[.agg #[.int .i64 s1, .bool g1, .slice A1 n1 c1, .slice B1 m1 d1], .agg #[.int .i64 y5, .bool g5, .slice A5 n5 c5, .slice B5 m5 d5]] W (NewBd W K2 sA xA 1 pA)) (hA : kA = false → sA = tA ∧ xA = zA ∧ pA = qA)
    (hP4 : kB = true → ∀ W (g2 : Bool) (A2 : Option Addr) (n2 c2 : Nat) (B2 : Option Addr) (m2 d2 : Nat) (g5 : Bool) (A5 : Option Addr) (n5 c5 : Nat) (B5 : Option Addr) (m5 d5 : Nat), RatV W K g2 (.slice A2 n2 c2) (.slice B2 m2 d2) x2 → RatV W K g5 (.slice A5 n5 c5) (.slice B5 m5 d5) v5 → Calls Tryz.prog 173 #[.agg #[.int .i64 s2, .bool g2, .slice A2 n2 c2, .slice B2 m2 d2], .agg #[.int .i64 y5, .bool g5, .slice A5 n5 c5, .slice B5 m5 d5]] W (NewBd W K2 sB xB 1 pB)) (hB : kB = false → sB = tB ∧ xB = zB ∧ pB = qB) :
    Calls Tryz.prog 113 #[.agg #[.bool false, .int .i64 s1, .bool g1, .slice A1 n1 c1, .slice B1 m1 d1, .int .i64 s2, .bool g2, .slice A2 n2 c2, .slice B2 m2 d2], .agg #[.bool o2, .int .i64 s3, .bool g3, .slice A3 n3 c3, .slice B3 m3 d3, .int .i64 s4, .bool g4, .slice A4 n4 c4, .slice B4 m4 d4]] w (NewPiece w K2 false sA xA 1 pA sB xB 1 pB) := by
  have HU := Lib.hid hU
  have HS1 := Lib.hid hS1
  have HS2 := Lib.hid hS2
  have HKA := Lib.hid hkA
  have HKB := Lib.hid hkB
  have HP1 := Lib.hid hP1
  have HP2 := Lib.hid hP2
  have HP3 := Lib.hid hP3
  have HP4 := Lib.hid hP4
  have HA := Lib.hid hA
  have HB := Lib.hid hB
  clear hU hS1 hS2 hkA hkB hP1 hP2 hP3 hP4 hA hB
  have LL := li3 w #[.bool false, .int .i64 s1, .bool g1, .slice A1 n1 c1, .slice B1 m1 d1, .int .i64 s2, .bool g2, .slice A2 n2 c2, .slice B2 m2 d2] 69 #[.bool o2, .int .i64 s3, .bool g3, .slice A3 n3 c3, .slice B3 m3 d3, .int .i64 s4, .bool g4, .slice A4 n4 c4, .slice B4 m4 d4] 69 #[.bool false, .int .i64 0, .bool false, .slice none 0 0, .slice none 0 0, .int .i64 0, .bool false, .int .i64 0, .bool false, .slice none 0 0, .slice none 0 0, .int .i64 0, .bool false] 64
  have HR1 := Lib.hid (h1.below LL.out.b)
  have HR2 := Lib.hid (h2.below LL.out.b)
  clear h1 h2
  go_enter Tryz.func113, Tryz.ntmps113
  obtain ⟨q1_0, q1_1, q1_2, q1_3, q1_4, q1_5, q1_6, q1_7, q1_8⟩ := (LL.out.blk 1 rfl).c9
  go_wp2_with fail
  refine (HU.out _ LL.out.b).mono ?_
  rintro e wk ⟨g5, A5, n5, c5, B5, m5, d5, g6, A6, n6, c6, B6, m6, d6, rfl, hr5, hr6, hb⟩
  replace LL := stL LL hb
  replace HR1 := Lib.hid (HR1.out.below hb)
  replace HR2 := Lib.hid (HR2.out.below hb)
  clear hb q1_0 q1_1 q1_2 q1_3 q1_4 q1_5 q1_6 q1_7 q1_8
  have HR5 := Lib.hid hr5
  clear hr5
  have HR6 := Lib.hid hr6
  clear hr6
  go_upto_region 2 with fail
  have hl_j5 := LL.out.lts
  generalize hwn : World.alloc wk _ = wn
  replace HR1 := Lib.hid (HR1.out.below (below_allocE hwn))
  replace HR2 := Lib.hid (HR2.out.below (below_allocE hwn))
  replace HR5 := Lib.hid (HR5.out.below (below_allocE hwn))
  replace HR6 := Lib.hid (HR6.out.below (below_allocE hwn))
  replace LL := Lib.hid (LL.out.newE hwn)
  simp only [List.cons_append, List.nil_append] at LL
  simp only [List.mem_cons, List.not_mem_nil, or_false, forall_eq_or_imp, forall_eq, false_imp_iff, implies_true, and_true] at hl_j5
  clear hwn
  generalize wk.heap.size = j5 at LL hl_j5 ⊢
  obtain ⟨q2_0, q2_1, q2_2, q2_3, q2_4, q2_5, q2_6, q2_7, q2_8⟩ := (LL.out.blk 0 rfl).c9
  obtain ⟨q3_0, q3_1, q3_2, q3_3, q3_4, q3_5, q3_6, q3_7, q3_8⟩ := (LL.out.blk 3 rfl).c9
  go_upto_region 4 with fail
  clear HU q2_0 q2_1 q2_2 q2_3 q2_4 q2_5 q2_6 q2_7 q2_8 q3_0 q3_1 q3_2 q3_3 q3_4 q3_5 q3_6 q3_7 q3_8
  go_cut [6] (fun s6 wx => ∃ (j6 : Nat) (g11 : Bool) (A11 : Option Addr) (n11 c11 : Nat) (B11 : Option Addr) (m11 d11 : Nat) (g12 : Bool) (A12 : Option Addr) (n12 c12 : Nat) (B12 : Option Addr) (m12 d12 : Nat), s6 = .pointer (some ⟨j6, 0, none⟩) ∧ (w.heap.size + 2 < j6 ∧ j5 < j6) ∧ Lies w wx [(w.heap.size, 69, #[.bool false, .int .i64 s1, .bool g1, .slice A1 n1 c1, .slice B1 m1 d1, .int .i64 s2, .bool g2, .slice A2 n2 c2, .slice B2 m2 d2]), ((w.heap.size + 1), 69, #[.bool o2, .int .i64 s3, .bool g3, .slice A3 n3 c3, .slice B3 m3 d3, .int .i64 s4, .bool g4, .slice A4 n4 c4, .slice B4 m4 d4]), ((w.heap.size + 2), 64, #[.bool false, .int .i64 0, .bool false, .slice none 0 0, .slice none 0 0, .int .i64 0, .bool false, .int .i64 0, .bool false, .slice none 0 0, .slice none 0 0, .int .i64 0, .bool false]), (j5, 69, #[.bool false, .int .i64 y5, .bool g5, .slice A5 n5 c5, .slice B5 m5 d5, .int .i64 y6, .bool g6, .slice A6 n6 c6, .slice B6 m6 d6]), (j6, 64, #[.bool false, .int .i64 tA, .bool g11, .slice A11 n11 c11, .slice B11 m11 d11, .int .i64 1, .bool qA, .int .i64 tB, .bool g12, .slice A12 n12 c12, .slice B12 m12 d12, .int .i64 1, .bool qB])] [] ∧ RatV wx K g1 (.slice A1 n1 c1) (.slice B1 m1 d1) x1 ∧ RatV wx K g2 (.slice A2 n2 c2) (.slice B2 m2 d2) x2 ∧ RatV wx K g5 (.slice A5 n5 c5) (.slice B5 m5 d5) v5 ∧ RatV wx K2 g11 (.slice A11 n11 c11) (.slice B11 m11 d11) zA ∧ RatV wx K2 g12 (.slice A12 n12 c12) (.slice B12 m12 d12) zB)
  case first =>
    refine regL LL (fun hHeld => ?_)
    clear LL
    replace HR1 := Lib.hid (HR1.out.below (Below.refl _ _).drew)
    replace HR2 := Lib.hid (HR2.out.below (Below.refl _ _).drew)
    replace HR5 := Lib.hid (HR5.out.below (Below.refl _ _).drew)
    replace HR6 := Lib.hid (HR6.out.below (Below.refl _ _).drew)
    generalize World.drew _ = wk at hHeld HR1 HR2 HR5 HR6 ⊢
    refine tk 0 ?_
    try simp only [Act.put, lay]
    refine tk 1 ?_ (hv := by intro W2 hSw; obtain ⟨q0, q1, q2, q3, q4, q5, q6, q7, q8⟩ := (hSw.blk 0 rfl).c9; go_simp; (try with_reducible rfl))
    try simp only [Act.put, lay]
    refine tk 2 ?_
    try simp only [Act.put, lay]
    refine tk 3 ?_ (hv := by intro W2 hSw; obtain ⟨q0, q1, q2, q3, q4, q5, q6, q7, q8⟩ := (hSw.blk 3 rfl).c9; go_simp; (try with_reducible rfl))
    try simp only [Act.put, lay]
    refine tk 5 ?_
    try simp only [Act.put, lay]
    refine tk 6 ?_ (hv := by intro W2 hSw; obtain ⟨q0, q1, q2, q3, q4, q5, q6, q7, q8⟩ := (hSw.blk 0 rfl).c9; go_simp; (try with_reducible rfl))
    try simp only [Act.put, lay]
    refine tk 7 ?_
    try simp only [Act.put, lay]
    refine tk 8 ?_ (hv := by intro W2 hSw; obtain ⟨q0, q1, q2, q3, q4, q5, q6, q7, q8⟩ := (hSw.blk 3 rfl).c9; go_simp; (try with_reducible rfl))
    try simp only [Act.put, lay]
    repeat' first
      | (have hx := hC4; clear hx; go_simp; refine (HP1.out _ _ _ _ _ _ _ _ _ _ _ _ _ _ _ HR1.out HR6.out).mono ?_; rintro e wk ⟨g11, A11, n11, c11, B11, m11, d11, rfl, hr11, hb1⟩; go_wp2_with fail; refine hC4.out _ _ (hHeld.keep hb1) (fun _ => ?_); clear hC4 KK hHeld; rename_i hHeld; (try simp only [Act.put, lay]); replace HR1 := Lib.hid (HR1.out.below hb1); replace HR2 := Lib.hid (HR2.out.below hb1); replace HR5 := Lib.hid (HR5.out.below hb1); replace HR6 := Lib.hid (HR6.out.below hb1); (try replace HR12 := Lib.hid (HR12.out.below hb1)); (try replace B_j6 := B_j6.keep hb1); have HR11 := Lib.hid hr11; clear hr11; clear hb1; have mk4 := True.intro)
      | (have hx := hC9; clear hx; go_simp; refine (HP2.out _ _ _ _ _ _ _ _ _ _ _ _ _ _ _ HR2.out HR6.out).mono ?_; rintro e wk ⟨g12, A12, n12, c12, B12, m12, d12, rfl, hr12, hb2⟩; go_wp2_with fail; refine hC9.out _ _ (hHeld.keep hb2) (fun _ => ?_); clear hC9 KK hHeld; rename_i hHeld; (try simp only [Act.put, lay]); replace HR1 := Lib.hid (HR1.out.below hb2); replace HR2 := Lib.hid (HR2.out.below hb2); replace HR5 := Lib.hid (HR5.out.below hb2); replace HR6 := Lib.hid (HR6.out.below hb2); (try replace HR11 := Lib.hid (HR11.out.below hb2)); (try replace B_j6 := B_j6.keep hb2); have HR12 := Lib.hid hr12; clear hr12; clear hb2; have mk9 := True.intro)
      | (have hx := hA11; clear hx; go_simp; have hl_j6 := hHeld.lts; refine hA11.out _ _ (hHeld.alloc _) (fun _ => ?_); clear hA11 KK hHeld; rename_i hHeld; (try simp only [Act.put, lay]); generalize hwn : World.alloc wk _ = wn at hHeld ⊢; have B_j6 := Blk.newE hwn; replace HR1 := Lib.hid (HR1.out.below (below_allocE hwn)); replace HR2 := Lib.hid (HR2.out.below (below_allocE hwn)); replace HR5 := Lib.hid (HR5.out.below (below_allocE hwn)); replace HR6 := Lib.hid (HR6.out.below (below_allocE hwn)); (try replace HR11 := Lib.hid (HR11.out.below (below_allocE hwn))); (try replace HR12 := Lib.hid (HR12.out.below (below_allocE hwn))); simp only [List.mem_cons, List.not_mem_nil, or_false, forall_eq_or_imp, forall_eq, false_imp_iff, implies_true, and_true] at hl_j6; clear hwn; generalize hg : wk.heap.size = j6 at B_j6 hl_j6 ⊢; clear hg; obtain ⟨wk, rfl⟩ : ∃ X, X = wn := ⟨_, rfl⟩; have mk11 := True.intro)
      | (have hx := hS12; clear hx; have qz0 := B_j6.ce 0 rfl; have fz0 := B_j6.frozen 0; have qz1 := B_j6.ce 1 rfl; have fz1 := B_j6.frozen 1; have qz2 := B_j6.ce 2 rfl; have fz2 := B_j6.frozen 2; have qz3 := B_j6.ce 3 rfl; have fz3 := B_j6.frozen 3; have qz4 := B_j6.ce 4 rfl; have fz4 := B_j6.frozen 4; have qz5 := B_j6.ce 5 rfl; have fz5 := B_j6.frozen 5; have qz6 := B_j6.ce 6 rfl; have fz6 := B_j6.frozen 6; have qz7 := B_j6.ce 7 rfl; have fz7 := B_j6.frozen 7; have qz8 := B_j6.ce 8 rfl; have fz8 := B_j6.frozen 8; have qz9 := B_j6.ce 9 rfl; have fz9 := B_j6.frozen 9; have qz10 := B_j6.ce 10 rfl; have fz10 := B_j6.frozen 10; have qz11 := B_j6.ce 11 rfl; have fz11 := B_j6.frozen 11; have qz12 := B_j6.ce 12 rfl; have fz12 := B_j6.frozen 12; go_simp; have hsx := hHeld.far [.bool false, .int .i64 tA, .bool g11, .slice A11 n11 c11, .slice B11 m11 d11, .int .i64 1, .bool qA, .int .i64 tB, .bool g12, .slice A12 n12 c12, .slice B12 m12 d12, .int .i64 1, .bool qB] 0 (g := j6) (by omega) (by simp <;> omega) (by simp <;> omega); generalize hwn : sets wk j6 0 _ = wn at hsx; refine hS12.out _ _ (by have e := hwn; simp only [sets, Nat.reduceAdd] at e; rw [e]; exact hsx) (fun _ => ?_); clear hS12 KK hHeld hsx; rename_i hHeld; (try simp only [Act.put, lay]); replace HR1 := Lib.hid (HR1.out.setsE B_j6 (nowd rfl) hwn); replace HR2 := Lib.hid (HR2.out.setsE B_j6 (nowd rfl) hwn); replace HR5 := Lib.hid (HR5.out.setsE B_j6 (nowd rfl) hwn); replace HR6 := Lib.hid (HR6.out.setsE B_j6 (nowd rfl) hwn); (try replace HR11 := Lib.hid (HR11.out.setsE B_j6 (nowd rfl) hwn)); (try replace HR12 := Lib.hid (HR12.out.setsE B_j6 (nowd rfl) hwn)); replace B_j6 := B_j6.setsE hwn; simp only [laid, lay, Nat.reduceAdd] at B_j6; simp only [sets, Nat.reduceAdd] at hwn; rw [hwn] at hHeld ⊢; clear hwn qz0 fz0 qz1 fz1 qz2 fz2 qz3 fz3 qz4 fz4 qz5 fz5 qz6 fz6 qz7 fz7 qz8 fz8 qz9 fz9 qz10 fz10 qz11 fz11 qz12 fz12; obtain ⟨wk, rfl⟩ : ∃ X, X = wn := ⟨_, rfl⟩; have mk12 := True.intro)
      | (have hx := mk4; have hx := mk9; have hx := mk10; have hx := mk11; have hx := mk12; refine wpAnyH_done (by kernel_rfl) ?_ _; clear hx mk4 mk9 mk10 mk11 mk12; go_wp2_with fail; go_meet; exact ⟨j6, g11, A11, n11, c11, B11, m11, d11, g12, A12, n12, c12, B12, m12, d12, rfl, ⟨by omega, by omega⟩, hHeld.put B_j6, HR1.out, HR2.out, HR5.out, HR11.out, HR12.out⟩)
      | (have hx := mk4; have hx := mk9; have hx := mk10; have hx := mk11; refine rdy 12 (fun KK hS12 => ?_))
      | (have hx := mk4; have hx := mk9; have hx := mk11; refine tk 10 ?_; (try simp only [Act.put, lay]); have mk10 := True.intro)
      | (have hx := mk4; have hx := mk9; have hx := mk10; refine rdy 11 (fun KK hA11 => ?_))
      | (have hx := mk4; have hx := mk11; refine rdy 9 (fun KK hC9 => ?_))
      | (have hx := mk4; have hx := mk9; refine tk 10 ?_; (try simp only [Act.put, lay]); have mk10 := True.intro)
      | (have hx := mk11; refine rdy 4 (fun KK hC4 => ?_))
      | (have hx := mk4; refine rd2 9 11 (fun KK hC9 => ?_) (fun KK hA11 => ?_))
      | (refine rd2 4 11 (fun KK hC4 => ?_) (fun KK hA11 => ?_))
  case rest =>
  obtain ⟨j6, g11, A11, n11, c11, B11, m11, d11, g12, A12, n12, c12, B12, m12, d12, rfl, hgs, hcl, hr1, hr2, hr5, hr11, hr12⟩ := hcut
  rename World => wx
  clear LL HR1 HR2 HR5 HR6 HP1 HP2
  have LL := Lib.hid hcl
  clear hcl
  have HR1 := Lib.hid hr1
  clear hr1
  have HR2 := Lib.hid hr2
  clear hr2
  have HR5 := Lib.hid hr5
  clear hr5
  have HR11 := Lib.hid hr11
  clear hr11
  have HR12 := Lib.hid hr12
  clear hr12
  obtain ⟨q4_0, q4_1, q4_2, q4_3, q4_4, q4_5, q4_6, q4_7, q4_8⟩ := (LL.out.blk 0 rfl).c9
  go_wp2_with fail
  refine (HS1.out _ _ _ _ _ _ _ _ HR1.out).mono ?_
  rintro e wk ⟨rfl, hb⟩
  replace LL := stL LL hb
  replace HR1 := Lib.hid (HR1.out.below hb)
  replace HR2 := Lib.hid (HR2.out.below hb)
  replace HR5 := Lib.hid (HR5.out.below hb)
  replace HR11 := Lib.hid (HR11.out.below hb)
  replace HR12 := Lib.hid (HR12.out.below hb)
  clear hb q4_0 q4_1 q4_2 q4_3 q4_4 q4_5 q4_6 q4_7 q4_8
  go_upto_if 30 with fail
  go_cut [] (fun wx => ∃ (g13 : Bool) (A13 : Option Addr) (n13 c13 : Nat) (B13 : Option Addr) (m13 d13 : Nat), Lies w wx [(w.heap.size, 69, #[.bool false, .int .i64 s1, .bool g1, .slice A1 n1 c1, .slice B1 m1 d1, .int .i64 s2, .bool g2, .slice A2 n2 c2, .slice B2 m2 d2]), ((w.heap.size + 1), 69, #[.bool o2, .int .i64 s3, .bool g3, .slice A3 n3 c3, .slice B3 m3 d3, .int .i64 s4, .bool g4, .slice A4 n4 c4, .slice B4 m4 d4]), ((w.heap.size + 2), 64, #[.bool false, .int .i64 0, .bool false, .slice none 0 0, .slice none 0 0, .int .i64 0, .bool false, .int .i64 0, .bool false, .slice none 0 0, .slice none 0 0, .int .i64 0, .bool false]), (j5, 69, #[.bool false, .int .i64 y5, .bool g5, .slice A5 n5 c5, .slice B5 m5 d5, .int .i64 y6, .bool g6, .slice A6 n6 c6, .slice B6 m6 d6]), (j6, 64, #[.bool false, .int .i64 sA, .bool g13, .slice A13 n13 c13, .slice B13 m13 d13, .int .i64 1, .bool pA, .int .i64 tB, .bool g12, .slice A12 n12 c12, .slice B12 m12 d12, .int .i64 1, .bool qB])] [] ∧ RatV wx K2 g13 (.slice A13 n13 c13) (.slice B13 m13 d13) xA ∧ RatV wx K g2 (.slice A2 n2 c2) (.slice B2 m2 d2) x2 ∧ RatV wx K g5 (.slice A5 n5 c5) (.slice B5 m5 d5) v5 ∧ RatV wx K2 g12 (.slice A12 n12 c12) (.slice B12 m12 d12) zB)
  case first =>
    rcases HKA.out with ⟨e, k⟩ | ⟨e, k⟩ | ⟨e, k⟩ <;> subst e <;> subst k
    · skip
      obtain ⟨q5_0, q5_1, q5_2, q5_3, q5_4, q5_5, q5_6, q5_7, q5_8⟩ := (LL.out.blk 0 rfl).c9
      obtain ⟨q6_0, q6_1, q6_2, q6_3, q6_4, q6_5, q6_6, q6_7, q6_8⟩ := (LL.out.blk 3 rfl).c9
      go_wp2_with fail
      refine ((HP3.out (by trivial)) _ _ _ _ _ _ _ _ _ _ _ _ _ _ _ HR1.out HR5.out).mono ?_
      rintro e wk ⟨g13, A13, n13, c13, B13, m13, d13, rfl, hr13, hb⟩
      replace LL := stL LL hb
      replace HR1 := Lib.hid (HR1.out.below hb)
      replace HR2 := Lib.hid (HR2.out.below hb)
      replace HR5 := Lib.hid (HR5.out.below hb)
      replace HR11 := Lib.hid (HR11.out.below hb)
      replace HR12 := Lib.hid (HR12.out.below hb)
      clear hb q5_0 q5_1 q5_2 q5_3 q5_4 q5_5 q5_6 q5_7 q5_8 q6_0 q6_1 q6_2 q6_3 q6_4 q6_5 q6_6 q6_7 q6_8
      have HR13 := Lib.hid hr13
      clear hr13
      obtain ⟨q7_0, q7_1, q7_2, q7_3, q7_4, q7_5, q7_6, q7_7, q7_8, q7_9, q7_10, q7_11, q7_12⟩ := (LL.out.blk 4 rfl).c13
      have fz1 := (LL.out.blk 4 rfl).frozen 1
      have fz2 := (LL.out.blk 4 rfl).frozen 2
      have fz3 := (LL.out.blk 4 rfl).frozen 3
      have fz4 := (LL.out.blk 4 rfl).frozen 4
      have fz5 := (LL.out.blk 4 rfl).frozen 5
      have fz6 := (LL.out.blk 4 rfl).frozen 6
      go_wp2_with fail
      clear q7_0 q7_1 q7_2 q7_3 q7_4 q7_5 q7_6 q7_7 q7_8 q7_9 q7_10 q7_11 q7_12 fz1 fz2 fz3 fz4 fz5 fz6
      have PB_6 := LL.out.blk 4 rfl
      replace LL := Lib.hid (LL.out.part 4 rfl 1 [.int .i64 sA, .bool g13, .slice A13 n13 c13, .slice B13 m13 d13, .int .i64 1, .bool pA] (by omega) (by simp <;> omega) (by simp <;> omega))
      simp only [List.eraseIdx, laid, List.cons_append, List.nil_append, List.setIfInBounds_toArray, List.set_cons_zero, List.set_cons_succ, Nat.zero_add, Nat.reduceAdd] at LL
      replace HR1 := Lib.hid (HR1.out.sets PB_6 (nowd rfl) 1 [.int .i64 sA, .bool g13, .slice A13 n13 c13, .slice B13 m13 d13, .int .i64 1, .bool pA])
      replace HR2 := Lib.hid (HR2.out.sets PB_6 (nowd rfl) 1 [.int .i64 sA, .bool g13, .slice A13 n13 c13, .slice B13 m13 d13, .int .i64 1, .bool pA])
      replace HR5 := Lib.hid (HR5.out.sets PB_6 (nowd rfl) 1 [.int .i64 sA, .bool g13, .slice A13 n13 c13, .slice B13 m13 d13, .int .i64 1, .bool pA])
      replace HR11 := Lib.hid (HR11.out.sets PB_6 (nowd rfl) 1 [.int .i64 sA, .bool g13, .slice A13 n13 c13, .slice B13 m13 d13, .int .i64 1, .bool pA])
      replace HR12 := Lib.hid (HR12.out.sets PB_6 (nowd rfl) 1 [.int .i64 sA, .bool g13, .slice A13 n13 c13, .slice B13 m13 d13, .int .i64 1, .bool pA])
      replace HR13 := Lib.hid (HR13.out.sets PB_6 (nowd rfl) 1 [.int .i64 sA, .bool g13, .slice A13 n13 c13, .slice B13 m13 d13, .int .i64 1, .bool pA])
      obtain ⟨wn, hwn⟩ : ∃ X, (sets wk j6 1 [.int .i64 sA, .bool g13, .slice A13 n13 c13, .slice B13 m13 d13, .int .i64 1, .bool pA]) = X := ⟨_, rfl⟩
      rw [hwn] at LL HR1 HR2 HR5 HR11 HR12 HR13
      simp only [sets, Nat.reduceAdd] at hwn
      rw [hwn]
      clear hwn PB_6
      go_meet
      case rel => exact ⟨g13, A13, n13, c13, B13, m13, d13, LL.out.perm (by simp) (by simp), HR13.out, HR2.out, HR5.out, HR12.out⟩
    · skip
      obtain ⟨rfl, rfl, rfl⟩ := HA.out (by trivial)
      go_wp2_with fail
      go_meet
      case rel => exact ⟨g11, A11, n11, c11, B11, m11, d11, LL.out.perm (by simp) (by simp), HR11.out, HR2.out, HR5.out, HR12.out⟩
    · skip
      obtain ⟨rfl, rfl, rfl⟩ := HA.out (by trivial)
      go_wp2_with fail
      go_meet
      case rel => exact ⟨g11, A11, n11, c11, B11, m11, d11, LL.out.perm (by simp) (by simp), HR11.out, HR2.out, HR5.out, HR12.out⟩
  case rest =>
  obtain ⟨g13, A13, n13, c13, B13, m13, d13, hcl, hr13, hr2, hr5, hr12⟩ := hcut
  rename World => wx
  clear LL HR1 HR2 HR5 HR11 HR12 HS1 HKA HP3 HA
  have LL := Lib.hid hcl
  clear hcl
  have HR13 := Lib.hid hr13
  clear hr13
  have HR2 := Lib.hid hr2
  clear hr2
  have HR5 := Lib.hid hr5
  clear hr5
  have HR12 := Lib.hid hr12
  clear hr12
  obtain ⟨q5_0, q5_1, q5_2, q5_3, q5_4, q5_5, q5_6, q5_7, q5_8⟩ := (LL.out.blk 0 rfl).c9
  go_wp2_with fail
  refine (HS2.out _ _ _ _ _ _ _ _ HR2.out).mono ?_
  rintro e wk ⟨rfl, hb⟩
  replace LL := stL LL hb
  replace HR13 := Lib.hid (HR13.out.below hb)
  replace HR2 := Lib.hid (HR2.out.below hb)
  replace HR5 := Lib.hid (HR5.out.below hb)
  replace HR12 := Lib.hid (HR12.out.below hb)
  clear hb q5_0 q5_1 q5_2 q5_3 q5_4 q5_5 q5_6 q5_7 q5_8
  go_upto_if 40 with fail
  go_cut [] (fun wx => ∃ (g14 : Bool) (A14 : Option Addr) (n14 c14 : Nat) (B14 : Option Addr) (m14 d14 : Nat), Lies w wx [(w.heap.size, 69, #[.bool false, .int .i64 s1, .bool g1, .slice A1 n1 c1, .slice B1 m1 d1, .int .i64 s2, .bool g2, .slice A2 n2 c2, .slice B2 m2 d2]), ((w.heap.size + 1), 69, #[.bool o2, .int .i64 s3, .bool g3, .slice A3 n3 c3, .slice B3 m3 d3, .int .i64 s4, .bool g4, .slice A4 n4 c4, .slice B4 m4 d4]), ((w.heap.size + 2), 64, #[.bool false, .int .i64 0, .bool false, .slice none 0 0, .slice none 0 0, .int .i64 0, .bool false, .int .i64 0, .bool false, .slice none 0 0, .slice none 0 0, .int .i64 0, .bool false]), (j5, 69, #[.bool false, .int .i64 y5, .bool g5, .slice A5 n5 c5, .slice B5 m5 d5, .int .i64 y6, .bool g6, .slice A6 n6 c6, .slice B6 m6 d6]), (j6, 64, #[.bool false, .int .i64 sA, .bool g13, .slice A13 n13 c13, .slice B13 m13 d13, .int .i64 1, .bool pA, .int .i64 sB, .bool g14, .slice A14 n14 c14, .slice B14 m14 d14, .int .i64 1, .bool pB])] [] ∧ RatV wx K2 g14 (.slice A14 n14 c14) (.slice B14 m14 d14) xB ∧ RatV wx K2 g13 (.slice A13 n13 c13) (.slice B13 m13 d13) xA)
  case first =>
    rcases HKB.out with ⟨e, k⟩ | ⟨e, k⟩ | ⟨e, k⟩ <;> subst e <;> subst k
    · skip
      obtain ⟨rfl, rfl, rfl⟩ := HB.out (by trivial)
      go_wp2_with fail
      go_meet
      case rel => exact ⟨g12, A12, n12, c12, B12, m12, d12, LL.out.perm (by simp) (by simp), HR12.out, HR13.out⟩
    · skip
      obtain ⟨rfl, rfl, rfl⟩ := HB.out (by trivial)
      go_wp2_with fail
      go_meet
      case rel => exact ⟨g12, A12, n12, c12, B12, m12, d12, LL.out.perm (by simp) (by simp), HR12.out, HR13.out⟩
    · skip
      obtain ⟨q6_0, q6_1, q6_2, q6_3, q6_4, q6_5, q6_6, q6_7, q6_8⟩ := (LL.out.blk 0 rfl).c9
      obtain ⟨q7_0, q7_1, q7_2, q7_3, q7_4, q7_5, q7_6, q7_7, q7_8⟩ := (LL.out.blk 3 rfl).c9
      go_wp2_with fail
      refine ((HP4.out (by trivial)) _ _ _ _ _ _ _ _ _ _ _ _ _ _ _ HR2.out HR5.out).mono ?_
      rintro e wk ⟨g14, A14, n14, c14, B14, m14, d14, rfl, hr14, hb⟩
      replace LL := stL LL hb
      replace HR13 := Lib.hid (HR13.out.below hb)
      replace HR2 := Lib.hid (HR2.out.below hb)
      replace HR5 := Lib.hid (HR5.out.below hb)
      replace HR12 := Lib.hid (HR12.out.below hb)
      clear hb q6_0 q6_1 q6_2 q6_3 q6_4 q6_5 q6_6 q6_7 q6_8 q7_0 q7_1 q7_2 q7_3 q7_4 q7_5 q7_6 q7_7 q7_8
      have HR14 := Lib.hid hr14
      clear hr14
      obtain ⟨q8_0, q8_1, q8_2, q8_3, q8_4, q8_5, q8_6, q8_7, q8_8, q8_9, q8_10, q8_11, q8_12⟩ := (LL.out.blk 4 rfl).c13
      have fz7 := (LL.out.blk 4 rfl).frozen 7
      have fz8 := (LL.out.blk 4 rfl).frozen 8
      have fz9 := (LL.out.blk 4 rfl).frozen 9
      have fz10 := (LL.out.blk 4 rfl).frozen 10
      have fz11 := (LL.out.blk 4 rfl).frozen 11
      have fz12 := (LL.out.blk 4 rfl).frozen 12
      go_wp2_with fail
      clear q8_0 q8_1 q8_2 q8_3 q8_4 q8_5 q8_6 q8_7 q8_8 q8_9 q8_10 q8_11 q8_12 fz7 fz8 fz9 fz10 fz11 fz12
      have PB_6 := LL.out.blk 4 rfl
      replace LL := Lib.hid (LL.out.part 4 rfl 7 [.int .i64 sB, .bool g14, .slice A14 n14 c14, .slice B14 m14 d14, .int .i64 1, .bool pB] (by omega) (by simp <;> omega) (by simp <;> omega))
      simp only [List.eraseIdx, laid, List.cons_append, List.nil_append, List.setIfInBounds_toArray, List.set_cons_zero, List.set_cons_succ, Nat.zero_add, Nat.reduceAdd] at LL
      replace HR13 := Lib.hid (HR13.out.sets PB_6 (nowd rfl) 7 [.int .i64 sB, .bool g14, .slice A14 n14 c14, .slice B14 m14 d14, .int .i64 1, .bool pB])
      replace HR2 := Lib.hid (HR2.out.sets PB_6 (nowd rfl) 7 [.int .i64 sB, .bool g14, .slice A14 n14 c14, .slice B14 m14 d14, .int .i64 1, .bool pB])
      replace HR5 := Lib.hid (HR5.out.sets PB_6 (nowd rfl) 7 [.int .i64 sB, .bool g14, .slice A14 n14 c14, .slice B14 m14 d14, .int .i64 1, .bool pB])
      replace HR12 := Lib.hid (HR12.out.sets PB_6 (nowd rfl) 7 [.int .i64 sB, .bool g14, .slice A14 n14 c14, .slice B14 m14 d14, .int .i64 1, .bool pB])
      replace HR14 := Lib.hid (HR14.out.sets PB_6 (nowd rfl) 7 [.int .i64 sB, .bool g14, .slice A14 n14 c14, .slice B14 m14 d14, .int .i64 1, .bool pB])
      obtain ⟨wn, hwn⟩ : ∃ X, (sets wk j6 7 [.int .i64 sB, .bool g14, .slice A14 n14 c14, .slice B14 m14 d14, .int .i64 1, .bool pB]) = X := ⟨_, rfl⟩
      rw [hwn] at LL HR13 HR2 HR5 HR12 HR14
      simp only [sets, Nat.reduceAdd] at hwn
      rw [hwn]
      clear hwn PB_6
      go_meet
      case rel => exact ⟨g14, A14, n14, c14, B14, m14, d14, LL.out.perm (by simp) (by simp), HR14.out, HR13.out⟩
  case rest =>
  obtain ⟨g14, A14, n14, c14, B14, m14, d14, hcl, hr14, hr13⟩ := hcut
  rename World => wx
  clear LL HR13 HR2 HR5 HR12 HS2 HKB HP4 HB
  have LL := Lib.hid hcl
  clear hcl
  have HR14 := Lib.hid hr14
  clear hr14
  have HR13 := Lib.hid hr13
  clear hr13
  obtain ⟨q6_0, q6_1, q6_2, q6_3, q6_4, q6_5, q6_6, q6_7, q6_8, q6_9, q6_10, q6_11, q6_12⟩ := (LL.out.blk 4 rfl).c13
  replace LL := Lib.hid (LL.out.loose 2 rfl rfl)
  simp only [List.eraseIdx, List.size_toArray, List.length_cons, List.length_nil, Nat.zero_add, Nat.reduceAdd] at LL
  have HRB := LL.out.has 0 rfl
  obtain ⟨ha4_0, hf4_0, ha4_1, hf4_1, ha4_2, hf4_2, ha4_3, hf4_3, ha4_4, hf4_4, ha4_5, hf4_5, ha4_6, hf4_6, ha4_7, hf4_7, ha4_8, hf4_8, ha4_9, hf4_9, ha4_10, hf4_10, ha4_11, hf4_11, ha4_12, hf4_12⟩ := (LL.out.has 0 rfl).sf13
  have LF := Lib.hid (LL.out.write [.bool false, .int .i64 sA, .bool g13, .slice A13 n13 c13, .slice B13 m13 d13, .int .i64 1, .bool pA, .int .i64 sB, .bool g14, .slice A14 n14 c14, .slice B14 m14 d14, .int .i64 1, .bool pB] rfl (by omega) (by simp <;> omega) (by simp <;> omega))
  obtain ⟨hk4_0, hk4_1, hk4_2, hk4_3, hk4_4, hk4_5, hk4_6, hk4_7, hk4_8, hk4_9, hk4_10, hk4_11, hk4_12⟩ := (LF.out.blk 4 rfl).c13
  simp [sets] at hk4_0 hk4_1 hk4_2 hk4_3 hk4_4 hk4_5 hk4_6 hk4_7 hk4_8 hk4_9 hk4_10 hk4_11 hk4_12
  clear LL
  go_wp2
  refine bodyPost_ret (v := .agg #[.bool false, .int .i64 sA, .bool g13, .slice A13 n13 c13, .slice B13 m13 d13, .int .i64 1, .bool pA, .int .i64 sB, .bool g14, .slice A14 n14 c14, .slice B14 m14 d14, .int .i64 1, .bool pB]) (by simp [results, Tryz.results113, go_sem, hk4_0, hk4_1, hk4_2, hk4_3, hk4_4, hk4_5, hk4_6, hk4_7, hk4_8, hk4_9, hk4_10, hk4_11, hk4_12]) rfl ?_
  exact ⟨g13, A13, n13, c13, B13, m13, d13, g14, A14, n14, c14, B14, m14, d14, rfl, HRB.rat HR13.out [.bool false, .int .i64 sA, .bool g13, .slice A13 n13 c13, .slice B13 m13 d13, .int .i64 1, .bool pA, .int .i64 sB, .bool g14, .slice A14 n14 c14, .slice B14 m14 d14, .int .i64 1, .bool pB], HRB.rat HR14.out [.bool false, .int .i64 sA, .bool g13, .slice A13 n13 c13, .slice B13 m13 d13, .int .i64 1, .bool pA, .int .i64 sB, .bool g14, .slice A14 n14 c14, .slice B14 m14 d14, .int .i64 1, .bool pB], LF.out.b⟩
set_option maxRecDepth 8000 in
theorem refdiv1_walk (b1 b2 f1 f2 x1 x2 : Nat) (i1 j1 i2 j2 i3 j3 : Int) (F1 F2 : Int → Int → Int × Int) (L : Nat → Int → Int → Int × Int) (w : World) (hx : x1 < 18446744073709551616) (hy : x2 < 18446744073709551616) (hO1 : ∀ W, Calls Tryz.prog 57 #[.agg #[.int .u64 (f1 : Int), .int .u64 (f2 : Int)]] W (NewSetI W i2 j2)) (hO2 : ∀ W, Calls Tryz.prog 57 #[.agg #[.int .u64 (b1 : Int), .int .u64 (b2 : Int)]] W (NewSetI W i1 j1))
    (hM1 : ∀ W v, SetOf W v i1 j1 → Calls Tryz.prog 58 #[v] W (NewSetI W i3 j3)) (hD1 : ∀ W u v, SetOf W u i2 j2 → SetOf W v i1 j1 → Calls Tryz.prog 113 #[u, v] W (NewPcV W F1)) (hD2 : ∀ W u v, SetOf W u i2 j2 → SetOf W v i3 j3 → Calls Tryz.prog 113 #[u, v] W (NewPcV W F2)) (hL0 : F1 = L 0) (hL1 : ngF F2 = L 1) :
    Calls Tryz.prog 41 #[.agg #[.int .u64 (b1 : Int), .int .u64 (b2 : Int)], .agg #[.int .u64 (f1 : Int), .int .u64 (f2 : Int)], .agg #[.int .u64 (x1 : Int), .int .u64 (x2 : Int)]] w fun e w' => e = .returned (.agg #[.int .u64 (pat (zg (rd x1 x2).1 (rd x1 x2).2 L 2).1 : Int), .int .u64 (pat (zg (rd x1 x2).1 (rd x1 x2).2 L 2).2 : Int)]) ∧ Below w.heap.size w w' := by
  have HO1 := Lib.hid hO1
  have HO2 := Lib.hid hO2
  have HM1 := Lib.hid hM1
  have HD1 := Lib.hid hD1
  have HD2 := Lib.hid hD2
  clear hO1 hO2 hM1 hD1 hD2
  have HL0 := Lib.hid hL0
  have HL1 := Lib.hid hL1
  clear hL0 hL1
  have HA := Lib.hid fun W A c h1 h2 h3 => all_pcs x1 x2 A 2 c L W hx hy (by omega) h1 h2 h3
  obtain ⟨r1, hr1⟩ : ∃ p, pat (zg (rd x1 x2).1 (rd x1 x2).2 L 2).1 = p := ⟨_, rfl⟩
  obtain ⟨r2, hr2⟩ : ∃ p, pat (zg (rd x1 x2).1 (rd x1 x2).2 L 2).2 = p := ⟨_, rfl⟩
  rw [hr1, hr2] at HA ⊢
  clear hr1 hr2 hx hy
  have LL := li4 w #[.int .u64 (b1 : Int), .int .u64 (b2 : Int)] 24 #[.int .u64 (f1 : Int), .int .u64 (f2 : Int)] 24 #[.int .u64 (x1 : Int), .int .u64 (x2 : Int)] 24 #[.int .u64 0, .int .u64 0] 24
  go_enter Tryz.func41, Tryz.ntmps41
  obtain ⟨q1_0, q1_1⟩ := (LL.out.blk 1 rfl).c2
  go_wp2_with fail
  refine (HO1.out _).mono ?_
  rintro e wk ⟨o2, s2, g2, A2, n2, c2, B2, m2, d2, s52, g52, A52, n52, c52, B52, m52, d52, rfl, hs2, hb⟩
  replace LL := stL LL hb
  clear hb q1_0 q1_1
  have HS2 := Lib.hid hs2
  clear hs2
  go_upto_region 2 with fail
  have hl_j7 := LL.out.lts
  generalize hwn : World.alloc wk _ = wn
  replace HS2 := Lib.hid (HS2.out.below (below_allocE hwn))
  replace LL := Lib.hid (LL.out.newE hwn)
  simp only [List.cons_append, List.nil_append] at LL
  simp only [List.mem_cons, List.not_mem_nil, or_false, forall_eq_or_imp, forall_eq, false_imp_iff, implies_true, and_true] at hl_j7
  clear hwn
  generalize wk.heap.size = j7 at LL hl_j7 ⊢
  obtain ⟨q2_0, q2_1⟩ := (LL.out.blk 0 rfl).c2
  go_wp2_with fail
  refine (HO2.out _).mono ?_
  rintro e wk ⟨o1, s1, g1, A1, n1, c1, B1, m1, d1, s51, g51, A51, n51, c51, B51, m51, d51, rfl, hs1, hb⟩
  replace LL := stL LL hb
  replace HS2 := Lib.hid (HS2.out.below hb)
  clear hb q2_0 q2_1
  have HS1 := Lib.hid hs1
  clear hs1
  go_upto_region 3 with fail
  have hl_j8 := LL.out.lts
  generalize hwn : World.alloc wk _ = wn
  replace HS2 := Lib.hid (HS2.out.below (below_allocE hwn))
  replace HS1 := Lib.hid (HS1.out.below (below_allocE hwn))
  replace LL := Lib.hid (LL.out.newE hwn)
  simp only [List.cons_append, List.nil_append] at LL
  simp only [List.mem_cons, List.not_mem_nil, or_false, forall_eq_or_imp, forall_eq, false_imp_iff, implies_true, and_true] at hl_j8
  clear hwn
  generalize wk.heap.size = j8 at LL hl_j8 ⊢
  replace LL := Lib.hid (LL.out.loose 3 rfl rfl)
  simp only [List.eraseIdx, List.size_toArray, List.length_cons, List.length_nil, Nat.zero_add, Nat.reduceAdd] at LL
  refine regL LL (fun hHeld => ?_)
  clear LL
  replace HS2 := Lib.hid (HS2.out.below (Below.refl _ _).drew)
  replace HS1 := Lib.hid (HS1.out.below (Below.refl _ _).drew)
  generalize World.drew _ = wk at hHeld HS2 HS1 ⊢
  refine tk 0 ?_ (hv := by intro W2 hSw; obtain ⟨q0, q1⟩ := (hSw.blk 2 rfl).c2; go_simp; (try with_reducible rfl))
  try simp only [Act.put, lay]
  refine tk 1 ?_ (hv := by intro W2 hSw; obtain ⟨q0, q1, q2, q3, q4, q5, q6, q7, q8⟩ := (hSw.blk 3 rfl).c9; go_simp; (try with_reducible rfl))
  try simp only [Act.put, lay]
  refine tk 2 ?_ (hv := by intro W2 hSw; obtain ⟨q0, q1, q2, q3, q4, q5, q6, q7, q8⟩ := (hSw.blk 4 rfl).c9; go_simp; (try with_reducible rfl))
  try simp only [Act.put, lay]
  refine tk 4 ?_ (hv := by intro W2 hSw; obtain ⟨q0, q1, q2, q3, q4, q5, q6, q7, q8⟩ := (hSw.blk 3 rfl).c9; go_simp; (try with_reducible rfl))
  try simp only [Act.put, lay]
  refine tk 5 ?_ (hv := by intro W2 hSw; obtain ⟨q0, q1, q2, q3, q4, q5, q6, q7, q8⟩ := (hSw.blk 4 rfl).c9; go_simp; (try with_reducible rfl))
  try simp only [Act.put, lay]
  refine rdy 3 (fun KK hKK => ?_)
  go_simp
  refine (HD1.out _ _ _ HS2.out HS1.out).mono ?_
  rintro e wk ⟨o21, s21, g21, A21, n21, c21, B21, m21, d21, N21, p21, s71, g71, A71, n71, c71, B71, m71, d71, N71, p71, rfl, hp21, hb1⟩
  go_wp2_with fail
  refine hKK.out _ _ (hHeld.keep hb1) (fun _ => ?_)
  clear hKK KK hHeld
  rename_i hHeld
  try simp only [Act.put, lay]
  (try replace HS2 := Lib.hid (HS2.out.below hb1))
  (try replace HS1 := Lib.hid (HS1.out.below hb1))
  (try replace HS3 := Lib.hid (HS3.out.below hb1))
  (try replace HP22 := Lib.hid (HP22.out.below hb1))
  (try replace HP23 := Lib.hid (HP23.out.below hb1))
  have HP21 := Lib.hid hp21
  clear hp21
  clear hb1
  refine rdy 6 (fun KK hKK => ?_)
  go_simp
  refine (HM1.out _ _ HS1.out).mono ?_
  rintro e wk ⟨o3, s3, g3, A3, n3, c3, B3, m3, d3, s53, g53, A53, n53, c53, B53, m53, d53, rfl, hs3, hb2⟩
  go_wp2_with fail
  refine hKK.out _ _ (hHeld.keep hb2) (fun _ => ?_)
  clear hKK KK hHeld
  rename_i hHeld
  try simp only [Act.put, lay]
  (try replace HS2 := Lib.hid (HS2.out.below hb2))
  (try replace HS1 := Lib.hid (HS1.out.below hb2))
  (try replace HP21 := Lib.hid (HP21.out.below hb2))
  (try replace HP22 := Lib.hid (HP22.out.below hb2))
  (try replace HP23 := Lib.hid (HP23.out.below hb2))
  have HS3 := Lib.hid hs3
  clear hs3
  clear hb2
  refine rdy 7 (fun KK hKK => ?_)
  go_simp
  refine (HD2.out _ _ _ HS2.out HS3.out).mono ?_
  rintro e wk ⟨o22, s22, g22, A22, n22, c22, B22, m22, d22, N22, p22, s72, g72, A72, n72, c72, B72, m72, d72, N72, p72, rfl, hp22, hb3⟩
  go_wp2_with fail
  refine hKK.out _ _ (hHeld.keep hb3) (fun _ => ?_)
  clear hKK KK hHeld
  rename_i hHeld
  try simp only [Act.put, lay]
  (try replace HS2 := Lib.hid (HS2.out.below hb3))
  (try replace HS1 := Lib.hid (HS1.out.below hb3))
  (try replace HP21 := Lib.hid (HP21.out.below hb3))
  (try replace HS3 := Lib.hid (HS3.out.below hb3))
  (try replace HP23 := Lib.hid (HP23.out.below hb3))
  have HP22 := Lib.hid hp22
  clear hp22
  clear hb3
  refine rdy 8 (fun KK hKK => ?_)
  go_simp
  refine (HP22.out.2 _ (Below.refl _ _)).mono ?_
  rintro e wk ⟨o23, s23, g23, A23, n23, c23, B23, m23, d23, N23, p23, s73, g73, A73, n73, c73, B73, m73, d73, N73, p73, rfl, hp23, hb4⟩
  go_wp2_with fail
  refine hKK.out _ _ (hHeld.keep hb4) (fun _ => ?_)
  clear hKK KK hHeld
  rename_i hHeld
  try simp only [Act.put, lay]
  (try replace HS2 := Lib.hid (HS2.out.below hb4))
  (try replace HS1 := Lib.hid (HS1.out.below hb4))
  (try replace HP21 := Lib.hid (HP21.out.below hb4))
  (try replace HS3 := Lib.hid (HS3.out.below hb4))
  (try replace HP22 := Lib.hid (HP22.out.below hb4))
  have HP23 := Lib.hid hp23
  clear hp23
  clear hb4
  refine rdy 9 (fun KK hKK => ?_)
  go_simp
  have hl_js := hHeld.lts
  refine hKK.out _ _ (hHeld.alloc _) (fun _ => ?_)
  clear hKK KK hHeld
  rename_i hHeld
  try simp only [Act.put, lay]
  generalize hwn : World.alloc wk _ = wn at hHeld ⊢
  have B_js := Blk.newE hwn
  (try replace HS2 := Lib.hid (HS2.out.below (below_allocE hwn)))
  (try replace HS1 := Lib.hid (HS1.out.below (below_allocE hwn)))
  (try replace HP21 := Lib.hid (HP21.out.below (below_allocE hwn)))
  (try replace HS3 := Lib.hid (HS3.out.below (below_allocE hwn)))
  (try replace HP22 := Lib.hid (HP22.out.below (below_allocE hwn)))
  (try replace HP23 := Lib.hid (HP23.out.below (below_allocE hwn)))
  simp only [List.mem_cons, List.not_mem_nil, or_false, forall_eq_or_imp, forall_eq, false_imp_iff, implies_true, and_true] at hl_js
  clear hwn
  generalize wk.heap.size = js at B_js hl_js ⊢
  obtain ⟨wk, rfl⟩ : ∃ X, X = wn := ⟨_, rfl⟩
  refine rdy 10 (fun KK hKK => ?_)
  go_simp
  refine (HA.out _ _ _ (Nat.le_refl _) (fun h => absurd h (by omega)) (fun k hk => ⟨_, rfl, by match k, hk with | 0, _ => exact HL0.out ▸ PcG.at B_js 0 (HP21.out.1) ⟨rfl, rfl, rfl, rfl, rfl, rfl, rfl, rfl, rfl, rfl, rfl, rfl, rfl⟩ | 1, _ => exact HL1.out ▸ PcG.at B_js 1 (HP23.out) ⟨rfl, rfl, rfl, rfl, rfl, rfl, rfl, rfl, rfl, rfl, rfl, rfl, rfl⟩⟩)).mono ?_
  rintro e wk ⟨rfl, hb5⟩
  go_wp2_with fail
  refine hKK.out _ _ (hHeld.keep hb5) (fun _ => ?_)
  clear hKK KK hHeld
  rename_i hHeld
  try simp only [Act.put, lay]
  (try replace HS2 := Lib.hid (HS2.out.below hb5))
  (try replace HS1 := Lib.hid (HS1.out.below hb5))
  (try replace HP21 := Lib.hid (HP21.out.below hb5))
  (try replace HS3 := Lib.hid (HS3.out.below hb5))
  (try replace HP22 := Lib.hid (HP22.out.below hb5))
  (try replace HP23 := Lib.hid (HP23.out.below hb5))
  clear hb5
  refine rdy 11 (fun KK hKK => ?_)
  obtain ⟨ha0, hf0, ha1, hf1⟩ := (hHeld.has 0 rfl).sf2
  obtain ⟨csx, hbx, -, hcx⟩ := hHeld.has 0 rfl
  (try clear HS2)
  (try clear HS1)
  (try clear HP21)
  (try clear HS3)
  (try clear HP22)
  (try clear HP23)
  clear hbx hcx
  go_simp
  have HS_0 := (hHeld.has 0 rfl).laid [.int .u64 (r1 : Int), .int .u64 (r2 : Int)] rfl
  refine hKK.out _ _ (hHeld.over 0 rfl [.int .u64 (r1 : Int), .int .u64 (r2 : Int)] rfl rfl (by first | omega | exact hHeld.le_of 0 rfl) (by simp <;> omega) (by simp <;> omega)) (fun _ => ?_)
  clear hKK KK hHeld
  rename_i hHeld
  try simp only [Act.put, lay]
  refine wpAnyH_done (by kernel_rfl) ?_ _
  have LB := Lib.hid hHeld.b
  clear hHeld
  obtain ⟨hk6_0, hk6_1⟩ := HS_0.c2
  clear HS_0
  simp [sets] at hk6_0 hk6_1
  go_wp2
  refine bodyPost_ret (v := .agg #[.int .u64 (r1 : Int), .int .u64 (r2 : Int)]) (by simp [results, Tryz.results41, go_sem, hk6_0, hk6_1]) rfl ?_
  exact ⟨rfl, LB.out⟩
end Go.Proofs.YtmjkmoahkanblaaGreat
