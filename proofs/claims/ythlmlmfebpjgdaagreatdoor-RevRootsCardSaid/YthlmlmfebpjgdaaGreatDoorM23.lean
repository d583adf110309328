/-
Walks: package vergeref10, lower, one; package vergeref6, Single.
The reference's lower, piece, by indexes; rows of pieces.
Walks: package vergeref10, all of no piece.
all of a row of pieces that a call has answered.
Walks: vergeref6.Square of a set that is not below 0; vergeref10: SqrRev, SqrtRev.
Walks: package rel, both, Intersect, of intervals that are not read yet.
Walks: package rel, IsCommon; package ival, Entire.
-/
import Derived.Test.YthlmlmfebpjgdaaGreatDoorPLessT
import Derived.Deep.DeepCutAuto
import Derived.Test.YthlmlmfebpjgdaaGreatDoorM04
import Derived.Test.YthlmlmfebpjgdaaGreatDoorM11
import Derived.Test.YthlmlmfebpjgdaaGreatDoorPIntsT
import Derived.Test.YthlmlmfebpjgdaaGreatDoorPBothT
import Derived.Test.YthlmlmfebpjgdaaGreatDoorPMathT
import Derived.Test.YthlmlmfebpjgdaaGreatDoorM03
set_option linter.unusedSimpArgs false
set_option linter.unusedVariables false
set_option maxHeartbeats 12800000

namespace Go.Proofs.YthlmlmfebpjgdaaGreatDoor
open Go.RowKit
set_option maxRecDepth 8000 in
theorem lower_none (o1 : Bool) (s1 s51 : Int) (g1 : Bool) (A1 : Option Addr) (n1 c1 : Nat) (B1 : Option Addr) (m1 d1 : Nat) (g51 : Bool) (A51 : Option Addr) (n51 c51 : Nat) (B51 : Option Addr) (m51 d51 : Nat) (a2 : Int) (w : World) (hS2 : ∀ W, Below w.heap.size w W → Calls Tryz.prog 152 #[.agg #[.int .i64 s51, .bool g51, .slice A51 n51 c51, .slice B51 m51 d51]] W fun e w' => e = .returned (.int .i64 a2) ∧ Below W.heap.size W w') (hc : o1 = true ∨ o1 = false ∧ decide (a2 < 0) = true) :
    Calls Tryz.prog 82 #[.agg #[.bool o1, .int .i64 s1, .bool g1, .slice A1 n1 c1, .slice B1 m1 d1, .int .i64 s51, .bool g51, .slice A51 n51 c51, .slice B51 m51 d51]] w (NewSet w 1 true 0 0 0 0) := by
  have HN := Lib.hid none6
  have HS2 := Lib.hid hS2
  have HC := Lib.hid hc
  clear hS2 hc
  have LL := li2 w #[.bool o1, .int .i64 s1, .bool g1, .slice A1 n1 c1, .slice B1 m1 d1, .int .i64 s51, .bool g51, .slice A51 n51 c51, .slice B51 m51 d51] 89 #[.bool false, .int .i64 0, .bool false, .slice none 0 0, .slice none 0 0, .int .i64 0, .bool false, .slice none 0 0, .slice none 0 0] 89
  rcases HC.out with h | ⟨h, h2⟩ <;> subst h <;> clear HC
  · skip
    have LL := li2 w #[.bool true, .int .i64 s1, .bool g1, .slice A1 n1 c1, .slice B1 m1 d1, .int .i64 s51, .bool g51, .slice A51 n51 c51, .slice B51 m51 d51] 89 #[.bool false, .int .i64 0, .bool false, .slice none 0 0, .slice none 0 0, .int .i64 0, .bool false, .slice none 0 0, .slice none 0 0] 89
    go_enter Tryz.func82, Tryz.ntmps82
    obtain ⟨q1_0, q1_1, q1_2, q1_3, q1_4, q1_5, q1_6, q1_7, q1_8⟩ := (LL.out.blk 0 rfl).c9
    go_wp2_with fail
    refine (HN.out _).mono ?_
    rintro e wk ⟨g9, A9, n9, c9, B9, m9, d9, g10, A10, n10, c10, B10, m10, d10, rfl, hr9, hr10, hb⟩
    replace LL := stL LL hb
    clear hb q1_0 q1_1 q1_2 q1_3 q1_4 q1_5 q1_6 q1_7 q1_8
    have HR9 := Lib.hid hr9
    clear hr9
    have HR10 := Lib.hid hr10
    clear hr10
    replace LL := Lib.hid (LL.out.loose 1 rfl rfl)
    simp only [List.eraseIdx, List.size_toArray, List.length_cons, List.length_nil, Nat.zero_add, Nat.reduceAdd] at LL
    have HRB := LL.out.has 0 rfl
    obtain ⟨ha2_0, hf2_0, ha2_1, hf2_1, ha2_2, hf2_2, ha2_3, hf2_3, ha2_4, hf2_4, ha2_5, hf2_5, ha2_6, hf2_6, ha2_7, hf2_7, ha2_8, hf2_8⟩ := (LL.out.has 0 rfl).sf9
    have LF := Lib.hid (LL.out.write [.bool true, .int .i64 0, .bool g9, .slice A9 n9 c9, .slice B9 m9 d9, .int .i64 0, .bool g10, .slice A10 n10 c10, .slice B10 m10 d10] rfl (by omega) (by simp <;> omega) (by simp <;> omega))
    obtain ⟨hk2_0, hk2_1, hk2_2, hk2_3, hk2_4, hk2_5, hk2_6, hk2_7, hk2_8⟩ := (LF.out.blk 1 rfl).c9
    simp [sets] at hk2_0 hk2_1 hk2_2 hk2_3 hk2_4 hk2_5 hk2_6 hk2_7 hk2_8
    clear LL
    go_wp2
    refine bodyPost_ret (v := .agg #[.bool true, .int .i64 0, .bool g9, .slice A9 n9 c9, .slice B9 m9 d9, .int .i64 0, .bool g10, .slice A10 n10 c10, .slice B10 m10 d10]) (by simp [results, Tryz.results82, go_sem, hk2_0, hk2_1, hk2_2, hk2_3, hk2_4, hk2_5, hk2_6, hk2_7, hk2_8]) rfl ?_
    exact ⟨g9, A9, n9, c9, B9, m9, d9, g10, A10, n10, c10, B10, m10, d10, rfl, HRB.rat HR9.out [.bool true, .int .i64 0, .bool g9, .slice A9 n9 c9, .slice B9 m9 d9, .int .i64 0, .bool g10, .slice A10 n10 c10, .slice B10 m10 d10], HRB.rat HR10.out [.bool true, .int .i64 0, .bool g9, .slice A9 n9 c9, .slice B9 m9 d9, .int .i64 0, .bool g10, .slice A10 n10 c10, .slice B10 m10 d10], LF.out.b⟩
  · skip
    have LL := li2 w #[.bool false, .int .i64 s1, .bool g1, .slice A1 n1 c1, .slice B1 m1 d1, .int .i64 s51, .bool g51, .slice A51 n51 c51, .slice B51 m51 d51] 89 #[.bool false, .int .i64 0, .bool false, .slice none 0 0, .slice none 0 0, .int .i64 0, .bool false, .slice none 0 0, .slice none 0 0] 89
    go_enter Tryz.func82, Tryz.ntmps82
    obtain ⟨q1_0, q1_1, q1_2, q1_3, q1_4, q1_5, q1_6, q1_7, q1_8⟩ := (LL.out.blk 0 rfl).c9
    go_wp2_with fail
    refine (HS2.out _ LL.out.b).mono ?_
    rintro e wk ⟨rfl, hb⟩
    replace LL := stL LL hb
    clear hb q1_0 q1_1 q1_2 q1_3 q1_4 q1_5 q1_6 q1_7 q1_8
    go_wp2_with fail
    refine (HN.out _).mono ?_
    rintro e wk ⟨g9, A9, n9, c9, B9, m9, d9, g10, A10, n10, c10, B10, m10, d10, rfl, hr9, hr10, hb⟩
    replace LL := stL LL hb
    clear hb h2
    have HR9 := Lib.hid hr9
    clear hr9
    have HR10 := Lib.hid hr10
    clear hr10
    replace LL := Lib.hid (LL.out.loose 1 rfl rfl)
    simp only [List.eraseIdx, List.size_toArray, List.length_cons, List.length_nil, Nat.zero_add, Nat.reduceAdd] at LL
    have HRB := LL.out.has 0 rfl
    obtain ⟨ha2_0, hf2_0, ha2_1, hf2_1, ha2_2, hf2_2, ha2_3, hf2_3, ha2_4, hf2_4, ha2_5, hf2_5, ha2_6, hf2_6, ha2_7, hf2_7, ha2_8, hf2_8⟩ := (LL.out.has 0 rfl).sf9
    have LF := Lib.hid (LL.out.write [.bool true, .int .i64 0, .bool g9, .slice A9 n9 c9, .slice B9 m9 d9, .int .i64 0, .bool g10, .slice A10 n10 c10, .slice B10 m10 d10] rfl (by omega) (by simp <;> omega) (by simp <;> omega))
    obtain ⟨hk2_0, hk2_1, hk2_2, hk2_3, hk2_4, hk2_5, hk2_6, hk2_7, hk2_8⟩ := (LF.out.blk 1 rfl).c9
    simp [sets] at hk2_0 hk2_1 hk2_2 hk2_3 hk2_4 hk2_5 hk2_6 hk2_7 hk2_8
    clear LL
    go_wp2
    refine bodyPost_ret (v := .agg #[.bool true, .int .i64 0, .bool g9, .slice A9 n9 c9, .slice B9 m9 d9, .int .i64 0, .bool g10, .slice A10 n10 c10, .slice B10 m10 d10]) (by simp [results, Tryz.results82, go_sem, hk2_0, hk2_1, hk2_2, hk2_3, hk2_4, hk2_5, hk2_6, hk2_7, hk2_8]) rfl ?_
    exact ⟨g9, A9, n9, c9, B9, m9, d9, g10, A10, n10, c10, B10, m10, d10, rfl, HRB.rat HR9.out [.bool true, .int .i64 0, .bool g9, .slice A9 n9 c9, .slice B9 m9 d9, .int .i64 0, .bool g10, .slice A10 n10 c10, .slice B10 m10 d10], HRB.rat HR10.out [.bool true, .int .i64 0, .bool g9, .slice A9 n9 c9, .slice B9 m9 d9, .int .i64 0, .bool g10, .slice A10 n10 c10, .slice B10 m10 d10], LF.out.b⟩
set_option maxRecDepth 8000 in
theorem lower_cut (s1 s51 : Int) (g1 : Bool) (A1 : Option Addr) (n1 c1 : Nat) (B1 : Option Addr) (m1 d1 : Nat) (g51 : Bool) (A51 : Option Addr) (n51 c51 : Nat) (B51 : Option Addr) (m51 d51 : Nat) (a1 a2 : Int) (x51 : Rat) (w : World) (hS1 : ∀ W, Below w.heap.size w W → Calls Tryz.prog 152 #[.agg #[.int .i64 s1, .bool g1, .slice A1 n1 c1, .slice B1 m1 d1]] W fun e w' => e = .returned (.int .i64 a1) ∧ Below W.heap.size W w') (hS2 : ∀ W, Below w.heap.size w W → Calls Tryz.prog 152 #[.agg #[.int .i64 s51, .bool g51, .slice A51 n51 c51, .slice B51 m51 d51]] W fun e w' => e = .returned (.int .i64 a2) ∧ Below W.heap.size W w') (h1 : a1 < 0) (h2 : decide (a2 < 0) = false) (hr51 : RatV w 34 g51 (.slice A51 n51 c51) (.slice B51 m51 d51) x51) :
    Calls Tryz.prog 82 #[.agg #[.bool false, .int .i64 s1, .bool g1, .slice A1 n1 c1, .slice B1 m1 d1, .int .i64 s51, .bool g51, .slice A51 n51 c51, .slice B51 m51 d51]] w (NewSet w 34 false 0 0 s51 x51) := by
  have HF := Lib.hid (show ∀ W, Calls Tryz.prog 153 #[.int .i64 0] W (NewEnd W 1 0 0) from fun W => finite_nat 0 W (by omega))
  have HS1 := Lib.hid hS1
  have HS2 := Lib.hid hS2
  have H1 := Lib.hid h1
  have H2 := Lib.hid h2
  clear hS1 hS2 h1 h2
  have LL := li2 w #[.bool false, .int .i64 s1, .bool g1, .slice A1 n1 c1, .slice B1 m1 d1, .int .i64 s51, .bool g51, .slice A51 n51 c51, .slice B51 m51 d51] 89 #[.bool false, .int .i64 0, .bool false, .slice none 0 0, .slice none 0 0, .int .i64 0, .bool false, .slice none 0 0, .slice none 0 0] 89
  have HR51 := Lib.hid (hr51.below LL.out.b)
  clear hr51
  go_enter Tryz.func82, Tryz.ntmps82
  obtain ⟨q1_0, q1_1, q1_2, q1_3, q1_4, q1_5, q1_6, q1_7, q1_8⟩ := (LL.out.blk 0 rfl).c9
  go_wp2_with fail
  refine (HS2.out _ LL.out.b).mono ?_
  rintro e wk ⟨rfl, hb⟩
  replace LL := stL LL hb
  replace HR51 := Lib.hid (HR51.out.below hb)
  clear hb q1_0 q1_1 q1_2 q1_3 q1_4 q1_5 q1_6 q1_7 q1_8
  obtain ⟨q2_0, q2_1, q2_2, q2_3, q2_4, q2_5, q2_6, q2_7, q2_8⟩ := (LL.out.blk 0 rfl).c9
  have h2 := H2.out
  go_wp2_with fail
  refine (HS1.out _ LL.out.b).mono ?_
  rintro e wk ⟨rfl, hb⟩
  replace LL := stL LL hb
  replace HR51 := Lib.hid (HR51.out.below hb)
  clear hb q2_0 q2_1 q2_2 q2_3 q2_4 q2_5 q2_6 q2_7 q2_8 h2
  have h1 := H1.out
  go_wp2_with fail
  refine (HF.out _).mono ?_
  rintro e wk ⟨g9, A9, n9, c9, B9, m9, d9, rfl, hr9, hb⟩
  replace LL := stL LL hb
  replace HR51 := Lib.hid (HR51.out.below hb)
  clear hb h1
  have HR9 := Lib.hid hr9
  clear hr9
  obtain ⟨q3_0, q3_1, q3_2, q3_3, q3_4, q3_5, q3_6, q3_7, q3_8⟩ := (LL.out.blk 0 rfl).c9
  have fz1 := (LL.out.blk 0 rfl).frozen 1
  have fz2 := (LL.out.blk 0 rfl).frozen 2
  have fz3 := (LL.out.blk 0 rfl).frozen 3
  have fz4 := (LL.out.blk 0 rfl).frozen 4
  go_upto_region 5 with fail
  clear q3_0 q3_1 q3_2 q3_3 q3_4 q3_5 q3_6 q3_7 q3_8 fz1 fz2 fz3 fz4
  have PB_1 := LL.out.blk 0 rfl
  replace LL := Lib.hid (LL.out.part 0 rfl 1 [.int .i64 0, .bool g9, .slice A9 n9 c9, .slice B9 m9 d9] (by omega) (by simp <;> omega) (by simp <;> omega))
  simp only [List.eraseIdx, laid, List.cons_append, List.nil_append, List.setIfInBounds_toArray, List.set_cons_zero, List.set_cons_succ, Nat.zero_add, Nat.reduceAdd] at LL
  replace HR51 := Lib.hid (HR51.out.sets PB_1 (nowd rfl) 1 [.int .i64 0, .bool g9, .slice A9 n9 c9, .slice B9 m9 d9])
  replace HR9 := Lib.hid (HR9.out.sets PB_1 (nowd rfl) 1 [.int .i64 0, .bool g9, .slice A9 n9 c9, .slice B9 m9 d9])
  obtain ⟨wn, hwn⟩ : ∃ X, (sets wk w.heap.size 1 [.int .i64 0, .bool g9, .slice A9 n9 c9, .slice B9 m9 d9]) = X := ⟨_, rfl⟩
  rw [hwn] at LL HR51 HR9
  simp only [sets, Nat.reduceAdd] at hwn
  rw [hwn]
  clear hwn PB_1
  obtain ⟨q4_0, q4_1, q4_2, q4_3, q4_4, q4_5, q4_6, q4_7, q4_8⟩ := (LL.out.blk 1 rfl).c9
  replace LL := Lib.hid (LL.out.loose 0 rfl rfl)
  simp only [List.eraseIdx, List.size_toArray, List.length_cons, List.length_nil, Nat.zero_add, Nat.reduceAdd] at LL
  have HRB := LL.out.has 0 rfl
  obtain ⟨ha2_0, hf2_0, ha2_1, hf2_1, ha2_2, hf2_2, ha2_3, hf2_3, ha2_4, hf2_4, ha2_5, hf2_5, ha2_6, hf2_6, ha2_7, hf2_7, ha2_8, hf2_8⟩ := (LL.out.has 0 rfl).sf9
  have LF := Lib.hid (LL.out.write [.bool false, .int .i64 0, .bool g9, .slice A9 n9 c9, .slice B9 m9 d9, .int .i64 s51, .bool g51, .slice A51 n51 c51, .slice B51 m51 d51] rfl (by omega) (by simp <;> omega) (by simp <;> omega))
  obtain ⟨hk2_0, hk2_1, hk2_2, hk2_3, hk2_4, hk2_5, hk2_6, hk2_7, hk2_8⟩ := (LF.out.blk 1 rfl).c9
  simp [sets] at hk2_0 hk2_1 hk2_2 hk2_3 hk2_4 hk2_5 hk2_6 hk2_7 hk2_8
  clear LL
  go_wp2
  refine bodyPost_ret (v := .agg #[.bool false, .int .i64 0, .bool g9, .slice A9 n9 c9, .slice B9 m9 d9, .int .i64 s51, .bool g51, .slice A51 n51 c51, .slice B51 m51 d51]) (by simp [results, Tryz.results82, go_sem, hk2_0, hk2_1, hk2_2, hk2_3, hk2_4, hk2_5, hk2_6, hk2_7, hk2_8]) rfl ?_
  exact ⟨g9, A9, n9, c9, B9, m9, d9, g51, A51, n51, c51, B51, m51, d51, rfl, (HRB.rat HR9.out [.bool false, .int .i64 0, .bool g9, .slice A9 n9 c9, .slice B9 m9 d9, .int .i64 s51, .bool g51, .slice A51 n51 c51, .slice B51 m51 d51]).mono (by omega), HRB.rat HR51.out [.bool false, .int .i64 0, .bool g9, .slice A9 n9 c9, .slice B9 m9 d9, .int .i64 s51, .bool g51, .slice A51 n51 c51, .slice B51 m51 d51], LF.out.b⟩
set_option maxRecDepth 8000 in
theorem lower_same (s1 s51 : Int) (g1 : Bool) (A1 : Option Addr) (n1 c1 : Nat) (B1 : Option Addr) (m1 d1 : Nat) (g51 : Bool) (A51 : Option Addr) (n51 c51 : Nat) (B51 : Option Addr) (m51 d51 : Nat) (a1 a2 : Int) (x1 x51 : Rat) (w : World) (hS1 : ∀ W, Below w.heap.size w W → Calls Tryz.prog 152 #[.agg #[.int .i64 s1, .bool g1, .slice A1 n1 c1, .slice B1 m1 d1]] W fun e w' => e = .returned (.int .i64 a1) ∧ Below W.heap.size W w') (hS2 : ∀ W, Below w.heap.size w W → Calls Tryz.prog 152 #[.agg #[.int .i64 s51, .bool g51, .slice A51 n51 c51, .slice B51 m51 d51]] W fun e w' => e = .returned (.int .i64 a2) ∧ Below W.heap.size W w') (h1 : ¬ a1 < 0) (h2 : decide (a2 < 0) = false) (hr1 : RatV w 34 g1 (.slice A1 n1 c1) (.slice B1 m1 d1) x1) (hr51 : RatV w 34 g51 (.slice A51 n51 c51) (.slice B51 m51 d51) x51) :
    Calls Tryz.prog 82 #[.agg #[.bool false, .int .i64 s1, .bool g1, .slice A1 n1 c1, .slice B1 m1 d1, .int .i64 s51, .bool g51, .slice A51 n51 c51, .slice B51 m51 d51]] w (NewSet w 34 false s1 x1 s51 x51) := by
  have HS1 := Lib.hid hS1
  have HS2 := Lib.hid hS2
  have H1 := Lib.hid h1
  have H2 := Lib.hid h2
  clear hS1 hS2 h1 h2
  have LL := li2 w #[.bool false, .int .i64 s1, .bool g1, .slice A1 n1 c1, .slice B1 m1 d1, .int .i64 s51, .bool g51, .slice A51 n51 c51, .slice B51 m51 d51] 89 #[.bool false, .int .i64 0, .bool false, .slice none 0 0, .slice none 0 0, .int .i64 0, .bool false, .slice none 0 0, .slice none 0 0] 89
  have HR51 := Lib.hid (hr51.below LL.out.b)
  have HR1 := Lib.hid (hr1.below LL.out.b)
  clear hr51 hr1
  go_enter Tryz.func82, Tryz.ntmps82
  obtain ⟨q1_0, q1_1, q1_2, q1_3, q1_4, q1_5, q1_6, q1_7, q1_8⟩ := (LL.out.blk 0 rfl).c9
  go_wp2_with fail
  refine (HS2.out _ LL.out.b).mono ?_
  rintro e wk ⟨rfl, hb⟩
  replace LL := stL LL hb
  replace HR51 := Lib.hid (HR51.out.below hb)
  replace HR1 := Lib.hid (HR1.out.below hb)
  clear hb q1_0 q1_1 q1_2 q1_3 q1_4 q1_5 q1_6 q1_7 q1_8
  obtain ⟨q2_0, q2_1, q2_2, q2_3, q2_4, q2_5, q2_6, q2_7, q2_8⟩ := (LL.out.blk 0 rfl).c9
  have h2 := H2.out
  go_wp2_with fail
  refine (HS1.out _ LL.out.b).mono ?_
  rintro e wk ⟨rfl, hb⟩
  replace LL := stL LL hb
  replace HR51 := Lib.hid (HR51.out.below hb)
  replace HR1 := Lib.hid (HR1.out.below hb)
  clear hb q2_0 q2_1 q2_2 q2_3 q2_4 q2_5 q2_6 q2_7 q2_8 h2
  have h1 : decide (a1 < 0) = false := decide_eq_false (by have := H1.out; omega)
  obtain ⟨q3_0, q3_1, q3_2, q3_3, q3_4, q3_5, q3_6, q3_7, q3_8⟩ := (LL.out.blk 0 rfl).c9
  replace LL := Lib.hid (LL.out.loose 1 rfl rfl)
  simp only [List.eraseIdx, List.size_toArray, List.length_cons, List.length_nil, Nat.zero_add, Nat.reduceAdd] at LL
  have HRB := LL.out.has 0 rfl
  obtain ⟨ha2_0, hf2_0, ha2_1, hf2_1, ha2_2, hf2_2, ha2_3, hf2_3, ha2_4, hf2_4, ha2_5, hf2_5, ha2_6, hf2_6, ha2_7, hf2_7, ha2_8, hf2_8⟩ := (LL.out.has 0 rfl).sf9
  have LF := Lib.hid (LL.out.write [.bool false, .int .i64 s1, .bool g1, .slice A1 n1 c1, .slice B1 m1 d1, .int .i64 s51, .bool g51, .slice A51 n51 c51, .slice B51 m51 d51] rfl (by omega) (by simp <;> omega) (by simp <;> omega))
  obtain ⟨hk2_0, hk2_1, hk2_2, hk2_3, hk2_4, hk2_5, hk2_6, hk2_7, hk2_8⟩ := (LF.out.blk 1 rfl).c9
  simp [sets] at hk2_0 hk2_1 hk2_2 hk2_3 hk2_4 hk2_5 hk2_6 hk2_7 hk2_8
  clear LL
  go_wp2
  refine bodyPost_ret (v := .agg #[.bool false, .int .i64 s1, .bool g1, .slice A1 n1 c1, .slice B1 m1 d1, .int .i64 s51, .bool g51, .slice A51 n51 c51, .slice B51 m51 d51]) (by simp [results, Tryz.results82, go_sem, hk2_0, hk2_1, hk2_2, hk2_3, hk2_4, hk2_5, hk2_6, hk2_7, hk2_8]) rfl ?_
  exact ⟨g1, A1, n1, c1, B1, m1, d1, g51, A51, n51, c51, B51, m51, d51, rfl, HRB.rat HR1.out [.bool false, .int .i64 s1, .bool g1, .slice A1 n1 c1, .slice B1 m1 d1, .int .i64 s51, .bool g51, .slice A51 n51 c51, .slice B51 m51 d51], HRB.rat HR51.out [.bool false, .int .i64 s1, .bool g1, .slice A1 n1 c1, .slice B1 m1 d1, .int .i64 s51, .bool g51, .slice A51 n51 c51, .slice B51 m51 d51], LF.out.b⟩
end Go.Proofs.YthlmlmfebpjgdaaGreatDoor

namespace Go.Proofs.YthlmlmfebpjgdaaGreatDoor
open Go.RowKit
theorem hl_iv2 {i j i' j' : Int} (h : Iv i j) (h' : Iv i' j') : hl i j i' j' = (min i i', max j j') := by
  have hM : (M : Int) = 9218868437227405312 := rfl
  unfold hl
  unfold Iv at h h'
  by_cases h1 : j < i
  · rw [if_pos h1, Prod.mk.injEq]; omega
  · rw [if_neg h1]
    by_cases h2 : j' < i'
    · rw [if_pos h2, Prod.mk.injEq]; omega
    · rw [if_neg h2]
theorem NewSet.up2 {w w' : World} {K K' : Nat} {o : Bool} {s t : Int} {x y : Rat} {e : Ending} (h : NewSet w K o s x t y e w') (hk : K ≤ K') : NewSet w K' o s x t y e w' := by
  obtain ⟨g, A, n, c, B, m, d, g', A', n', c', B', m', d', rfl, h1, h2, hb⟩ := h
  exact ⟨g, A, n, c, B, m, d, g', A', n', c', B', m', d', rfl, h1.mono hk, h2.mono hk, hb⟩
theorem newPiece_none {w w' : World} {K : Nat} {e : Ending} (h : NewPiece w K true 0 0 1 false 0 0 1 false e w') (hK : K ≤ 1048576) : NewPcV w (fun _ _ => ((M : Int), -(M : Int))) e w' := by
  obtain ⟨g, A, n, c, B, m, d, g', A', n', c', B', m', d', rfl, h1, h2, hb⟩ := h
  exact ⟨_, _, _, _, _, _, _, _, _, _, _, _, _, _, _, _, _, _, _, _, _, rfl, pcv_nothing h1 h2 hK (by omega) (by omega), hb⟩
theorem newPiece_some {w w' : World} {K : Nat} {s1 s2 : Int} {x1 x2 : Rat} {o1 o2 : Bool} {e : Ending} (h : NewPiece w K false s1 x1 1 o1 s2 x2 1 o2 e w') (hK : 34 ≤ K) (hK2 : K ≤ 1048576) (hs1 : s1 = 0 ∨ s1 = -1) (hs2 : s2 = 0 ∨ s2 = 1) (hle : dn s1 x1 ≤ up s2 x2) : NewPcV w (pf s1 x1 o1 s2 x2 o2) e w' := by
  obtain ⟨g, A, n, c, B, m, d, g', A', n', c', B', m', d', rfl, h1, h2, hb⟩ := h
  exact ⟨_, _, _, _, _, _, _, _, _, _, _, _, _, _, _, _, _, _, _, _, _, rfl, pcv_one h1 h2 hK hK2 hs1 hs2 hle, hb⟩
def lwI (i j : Int) : Int := if j < 0 then (M : Int) else max i 0
def lwJ (j : Int) : Int := if j < 0 then -(M : Int) else j
theorem lower_any (v : Value) (i j : Int) (w : World) (h : SetOf w v i j) : Calls Tryz.prog 82 #[v] w (NewSetI w (lwI i j) (lwJ j)) := by
  have hM : (M : Int) = 9218868437227405312 := rfl
  have nv : ∀ e w', NewSet w 1 true 0 0 0 0 e w' → NewSetI w (M : Int) (-(M : Int)) e w' := by
    rintro e w' ⟨g, A, n, c, B, m, d, g', A', n', c', B', m', d', rfl, h1, h2, hb⟩
    exact ⟨_, _, g, A, n, c, B, m, d, _, g', A', n', c', B', m', d', rfl, .inl ⟨rfl, rfl, _, _, _, _, g, A, n, c, B, m, d, g', A', n', c', B', m', d', rfl, h1.mono (by omega), h2.mono (by omega)⟩, hb⟩
  have sv : ∀ i' e w', -(M : Int) ≤ i' ∧ i' ≤ j ∧ j ≤ M ∧ i' < M ∧ -(M : Int) < j → NewSet w 34 false (es i') (ex i') (es j) (ex j) e w' → NewSetI w i' j e w' := by
    rintro i' e w' hi ⟨g, A, n, c, B, m, d, g', A', n', c', B', m', d', rfl, h1, h2, hb⟩
    exact ⟨_, _, g, A, n, c, B, m, d, _, g', A', n', c', B', m', d', rfl, .inr ⟨hi, g, A, n, c, B, m, d, g', A', n', c', B', m', d', rfl, h1, h2⟩, hb⟩
  rcases h with ⟨rfl, rfl, s, x, t, y, g, A, n, c, B, m, d, g', A', n', c', B', m', d', rfl, h4, h5⟩ | ⟨h1, g, A, n, c, B, m, d, g', A', n', c', B', m', d', rfl, h4, h5⟩
  · unfold lwI lwJ
    rw [if_pos (by omega), if_pos (by omega)]
    exact (lower_none _ _ _ _ _ _ _ _ _ _ _ _ _ _ _ _ _ _ w (fun W hW => sign6_any 34 t g' A' n' c' B' m' d' y W (h5.below hW) (by omega)) (.inl rfl)).mono nv
  · have e1 := esx_idx (i := i) (by omega)
    have e2 := esx_idx (i := j) (by omega)
    have S1 := fun W (hW : Below w.heap.size w W) => sign6_any 34 (es i) g A n c B m d (ex i) W (h4.below hW) (by omega)
    have S2 := fun W (hW : Below w.heap.size w W) => sign6_any 34 (es j) g' A' n' c' B' m' d' (ex j) W (h5.below hW) (by omega)
    unfold lwI lwJ
    by_cases h0 : j < 0
    · rw [if_pos h0, if_pos h0]
      exact (lower_none _ _ _ _ _ _ _ _ _ _ _ _ _ _ _ _ _ _ w S2 (.inr ⟨rfl, decide_eq_true (by omega)⟩)).mono nv
    · rw [if_neg h0, if_neg h0]
      by_cases h2 : i < 0
      · rw [show max i 0 = 0 from by omega]
        refine (lower_cut _ _ _ _ _ _ _ _ _ _ _ _ _ _ _ _ _ _ _ w S1 S2 (by omega) (decide_eq_false (by omega)) h5).mono fun e w' h => sv 0 e w' (by omega) ?_
        rw [es_nought, ex_nought]; exact h
      · rw [show max i 0 = i from by omega]
        exact (lower_same _ _ _ _ _ _ _ _ _ _ _ _ _ _ _ _ _ _ _ _ w S1 S2 (by omega) (decide_eq_false (by omega)) h4 h5).mono fun e w' h => sv i e w' (by omega) h
def L1 (F : Int → Int → Int × Int) : Nat → Int → Int → Int × Int | _ => F
def L2 (F G : Int → Int → Int × Int) : Nat → Int → Int → Int × Int | 0 => F | _ => G
theorem zg1 {F : Int → Int → Int × Int} {i j : Int} : zg i j (L1 F) 1 = F i j := by
  have hM : (M : Int) = 9218868437227405312 := rfl
  show hl (M : Int) (-(M : Int)) (F i j).1 (F i j).2 = F i j
  unfold hl; rw [if_pos (by omega)]
theorem zg2 {F G : Int → Int → Int × Int} {i j : Int} (h1 : Iv (F i j).1 (F i j).2) (h2 : Iv (G i j).1 (G i j).2) : zg i j (L2 F G) 2 = (min (F i j).1 (G i j).1, max (F i j).2 (G i j).2) := by
  have hM : (M : Int) = 9218868437227405312 := rfl
  show hl (hl (M : Int) (-(M : Int)) (F i j).1 (F i j).2).1 (hl (M : Int) (-(M : Int)) (F i j).1 (F i j).2).2 (G i j).1 (G i j).2 = _
  rw [show hl (M : Int) (-(M : Int)) (F i j).1 (F i j).2 = F i j from by unfold hl; rw [if_pos (by omega)], hl_iv2 h1 h2]
end Go.Proofs.YthlmlmfebpjgdaaGreatDoor

namespace Go.Proofs.YthlmlmfebpjgdaaGreatDoor
open Go.RowKit
theorem all_nil (x y : Nat) (w : World) (hx : x < 18446744073709551616) (hy : y < 18446744073709551616) :
    Calls Tryz.prog 79 #[.agg #[.int .u64 (x : Int), .int .u64 (y : Int)], .slice none 0 0] w fun e w' => e = .returned (.agg #[.int .u64 9218868437227405312, .int .u64 18442240474082181120]) ∧ Below w.heap.size w w' := by
  have HR := Lib.hid fun W => read6 x y W hx hy
  have HE := Lib.hid empty6
  obtain ⟨p, hp⟩ : ∃ p, pat (rd x y).1 = p := ⟨_, rfl⟩
  obtain ⟨q, hq⟩ : ∃ p, pat (rd x y).2 = p := ⟨_, rfl⟩
  rw [hp, hq] at HR
  clear hp hq
  obtain ⟨LB0, LG0_0, LR⟩ := bx2 w #[.int .u64 (x : Int), .int .u64 (y : Int)] 24 #[.int .u64 0, .int .u64 0] 24
  have LR0 := Lib.hid (HasBlk.of (n := 2) LR.out rfl rfl)
  clear LR
  go_enter Tryz.func79, Tryz.ntmps79
  go_wp2_with fail
  refine (HR.out _).mono ?_
  rintro e w1 ⟨rfl, hb1⟩
  have LB1 := stB LB0 hb1 LB0.out.size
  have LR1 := stR LR0 hb1
  have LG0_1 := stG LG0_0 hb1
  clear LB0 LR0 LG0_0
  have hlt2 := LR1.out.lt
  have LB2 := Lib.hid (LB1.out.alloc LB1.out.size (.cells #[.int .u64 (p : Int), .int .u64 (q : Int)] 24))
  have LR2 := Lib.hid (LR1.out.alloc (.cells #[.int .u64 (p : Int), .int .u64 (q : Int)] 24))
  have LG0_2 := Lib.hid (LG0_1.out.alloc (.cells #[.int .u64 (p : Int), .int .u64 (q : Int)] 24))
  have LG1_2 := Lib.hid (Blk.new w1 24 #[.int .u64 (p : Int), .int .u64 (q : Int)])
  clear LB1 LR1 LG0_1
  clear hb1
  go_wp2_with fail
  refine (HE.out _).mono ?_
  rintro e w2 ⟨rfl, hb2⟩
  have LB3 := stB LB2 hb2 LB2.out.size
  have LR3 := stR LR2 hb2
  have LG0_3 := stG LG0_2 hb2
  have LG1_3 := stG LG1_2 hb2
  clear LB2 LR2 LG0_2 LG1_2
  have hlt4 := LR3.out.lt
  have LB4 := Lib.hid (LB3.out.alloc LB3.out.size (.cells #[.int .u64 9218868437227405312, .int .u64 18442240474082181120] 24))
  have LR4 := Lib.hid (LR3.out.alloc (.cells #[.int .u64 9218868437227405312, .int .u64 18442240474082181120] 24))
  have LG0_4 := Lib.hid (LG0_3.out.alloc (.cells #[.int .u64 9218868437227405312, .int .u64 18442240474082181120] 24))
  have LG1_4 := Lib.hid (LG1_3.out.alloc (.cells #[.int .u64 9218868437227405312, .int .u64 18442240474082181120] 24))
  have LG2_4 := Lib.hid (Blk.new w2 24 #[.int .u64 9218868437227405312, .int .u64 18442240474082181120])
  clear LB3 LR3 LG0_3 LG1_3
  clear hb2
  go_upto_region 3 with fail
  obtain ⟨V4, hV4⟩ : ∃ X, (w2.alloc (.cells #[.int .u64 9218868437227405312, .int .u64 18442240474082181120] 24)) = X := ⟨_, rfl⟩
  rw [hV4] at LB4 LR4 LG0_4 LG1_4 LG2_4 ⊢
  clear hV4
  go_wp2_with fail
  go_loopw [7] (fun iv wr => iv = .int .i64 0 ∧ V4 = wr) (fun _ _ => 0)
  case atStart => exact ⟨rfl, rfl⟩
  case round =>
    obtain ⟨rfl, rfl⟩ := hrel
    obtain ⟨q2_0, q2_1⟩ := LG2_4.out.c2
    obtain ⟨ha0, hf0, ha1, hf1⟩ := LR4.out.sf2
    obtain ⟨hk0, hk1⟩ := LR4.out.sc2 (.int .u64 9218868437227405312) (.int .u64 18442240474082181120)
    have F := Lib.hid (below_sets (w0 := w) (r := (w.heap.size + 1)) (by omega) [.int .u64 9218868437227405312, .int .u64 18442240474082181120] 0 _ LB4.out)
    simp [sets] at hk0 hk1
    go_wp2
    refine bodyPost_ret (v := .agg #[.int .u64 9218868437227405312, .int .u64 18442240474082181120]) (by simp [results, Tryz.results79, go_sem, hk0, hk1]) rfl ?_
    exact ⟨rfl, F.out⟩
end Go.Proofs.YthlmlmfebpjgdaaGreatDoor

namespace Go.Proofs.YthlmlmfebpjgdaaGreatDoor
open Go.RowKit
theorem all_pcs (x y : Nat) (A : Option Addr) (n c : Nat) (L : Nat → Int → Int → Int × Int) (w : World) (hx : x < 18446744073709551616) (hy : y < 18446744073709551616) (hn : n ≤ 100) (hc : n ≤ c) (h0 : n = 0 → A = none ∧ c = 0) (hL : ∀ k : Nat, k < n → ∃ ad, A = some ad ∧ PcG w ad k (L k)) :
    Calls Tryz.prog 79 #[.agg #[.int .u64 (x : Int), .int .u64 (y : Int)], .slice A n c] w fun e w' => e = .returned (.agg #[.int .u64 (pat (zg (rd x y).1 (rd x y).2 L n).1 : Int), .int .u64 (pat (zg (rd x y).1 (rd x y).2 L n).2 : Int)]) ∧ Below w.heap.size w w' := by
  rcases Nat.eq_zero_or_pos n with h | h
  · subst h
    obtain ⟨rfl, rfl⟩ := h0 rfl
    have h := all_nil x y w hx hy
    show Calls _ _ _ _ fun e w' => e = .returned (.agg #[.int .u64 (pat (M : Int) : Int), .int .u64 (pat (-(M : Int)) : Int)]) ∧ Below w.heap.size w w'
    rw [pat_max, pat_min]
    exact h
  · obtain ⟨ad, rfl, -⟩ := hL 0 h
    exact all_gen x y ad n c L w hx hy hn hc (fun k hk => by
      obtain ⟨ad', e, hp⟩ := hL k hk
      cases e; exact hp)
end Go.Proofs.YthlmlmfebpjgdaaGreatDoor

namespace Go.Proofs.YthlmlmfebpjgdaaGreatDoor
open Go.RowKit
set_option maxRecDepth 8000 in
theorem square_pos (s1 s51 : Int) (g1 : Bool) (A1 : Option Addr) (n1 c1 : Nat) (B1 : Option Addr) (m1 d1 : Nat) (g51 : Bool) (A51 : Option Addr) (n51 c51 : Nat) (B51 : Option Addr) (m51 d51 : Nat) (s3 s4 s5 s6 a1 : Int) (x3 x4 x5 x6 : Rat) (w : World)
    (hp1 : ∀ W, Below w.heap.size w W → Calls Tryz.prog 150 #[.agg #[.int .i64 s1, .bool g1, .slice A1 n1 c1, .slice B1 m1 d1], .agg #[.int .i64 s1, .bool g1, .slice A1 n1 c1, .slice B1 m1 d1]] W (NewEnd W 68 s3 x3)) (hp2 : ∀ W, Below w.heap.size w W → Calls Tryz.prog 150 #[.agg #[.int .i64 s51, .bool g51, .slice A51 n51 c51, .slice B51 m51 d51], .agg #[.int .i64 s51, .bool g51, .slice A51 n51 c51, .slice B51 m51 d51]] W (NewEnd W 68 s4 x4))
    (hl : ∀ W (g3 : Bool) (A3 : Option Addr) (n3 c3 : Nat) (B3 : Option Addr) (m3 d3 : Nat) (g4 : Bool) (A4 : Option Addr) (n4 c4 : Nat) (B4 : Option Addr) (m4 d4 : Nat), RatV W 68 g3 (.slice A3 n3 c3) (.slice B3 m3 d3) x3 → RatV W 68 g4 (.slice A4 n4 c4) (.slice B4 m4 d4) x4 → Calls Tryz.prog 151 #[.agg #[.int .i64 s3, .bool g3, .slice A3 n3 c3, .slice B3 m3 d3], .agg #[.int .i64 s4, .bool g4, .slice A4 n4 c4, .slice B4 m4 d4]] W (NewEnd W 68 s5 x5)) (hg : ∀ W (g3 : Bool) (A3 : Option Addr) (n3 c3 : Nat) (B3 : Option Addr) (m3 d3 : Nat) (g4 : Bool) (A4 : Option Addr) (n4 c4 : Nat) (B4 : Option Addr) (m4 d4 : Nat), RatV W 68 g3 (.slice A3 n3 c3) (.slice B3 m3 d3) x3 → RatV W 68 g4 (.slice A4 n4 c4) (.slice B4 m4 d4) x4 → Calls Tryz.prog 154 #[.agg #[.int .i64 s3, .bool g3, .slice A3 n3 c3, .slice B3 m3 d3], .agg #[.int .i64 s4, .bool g4, .slice A4 n4 c4, .slice B4 m4 d4]] W (NewEnd W 68 s6 x6))
    (hs1 : ∀ W, Below w.heap.size w W → Calls Tryz.prog 152 #[.agg #[.int .i64 s1, .bool g1, .slice A1 n1 c1, .slice B1 m1 d1]] W fun e w' => e = .returned (.int .i64 a1) ∧ Below W.heap.size W w') (h1 : decide (a1 ≤ 0) = false) :
    Calls Tryz.prog 81 #[.agg #[.bool false, .int .i64 s1, .bool g1, .slice A1 n1 c1, .slice B1 m1 d1, .int .i64 s51, .bool g51, .slice A51 n51 c51, .slice B51 m51 d51]] w (NewSet w 68 false s5 x5 s6 x6) := by
  have HP1 := Lib.hid hp1
  have HP2 := Lib.hid hp2
  have HL := Lib.hid hl
  have HG := Lib.hid hg
  have HS1 := Lib.hid hs1
  have H1 := Lib.hid h1
  clear hp1 hp2 hl hg hs1 h1
  have LL := li2 w #[.bool false, .int .i64 s1, .bool g1, .slice A1 n1 c1, .slice B1 m1 d1, .int .i64 s51, .bool g51, .slice A51 n51 c51, .slice B51 m51 d51] 89 #[.bool false, .int .i64 0, .bool false, .slice none 0 0, .slice none 0 0, .int .i64 0, .bool false, .slice none 0 0, .slice none 0 0] 89
  go_enter Tryz.func81, Tryz.ntmps81
  obtain ⟨q1_0, q1_1, q1_2, q1_3, q1_4, q1_5, q1_6, q1_7, q1_8⟩ := (LL.out.blk 0 rfl).c9
  go_wp2_with fail
  refine (HP1.out _ LL.out.b).mono ?_
  rintro e wk ⟨g3, A3, n3, c3, B3, m3, d3, rfl, hr3, hb⟩
  replace LL := stL LL hb
  clear hb q1_0 q1_1 q1_2 q1_3 q1_4 q1_5 q1_6 q1_7 q1_8 HP1
  have HR3 := Lib.hid hr3
  clear hr3
  go_upto_region 4 with fail
  have hl_j3 := LL.out.lts
  generalize hwn : World.alloc wk _ = wn
  replace HR3 := Lib.hid (HR3.out.below (below_allocE hwn))
  replace LL := Lib.hid (LL.out.newE hwn)
  simp only [List.cons_append, List.nil_append] at LL
  simp only [List.mem_cons, List.not_mem_nil, or_false, forall_eq_or_imp, forall_eq, false_imp_iff, implies_true, and_true] at hl_j3
  clear hwn
  generalize wk.heap.size = j3 at LL hl_j3 ⊢
  obtain ⟨q2_0, q2_1, q2_2, q2_3, q2_4, q2_5, q2_6, q2_7, q2_8⟩ := (LL.out.blk 0 rfl).c9
  go_wp2_with fail
  refine (HP2.out _ LL.out.b).mono ?_
  rintro e wk ⟨g4, A4, n4, c4, B4, m4, d4, rfl, hr4, hb⟩
  replace LL := stL LL hb
  replace HR3 := Lib.hid (HR3.out.below hb)
  clear hb q2_0 q2_1 q2_2 q2_3 q2_4 q2_5 q2_6 q2_7 q2_8 HP2
  have HR4 := Lib.hid hr4
  clear hr4
  go_upto_region 5 with fail
  have hl_j4 := LL.out.lts
  generalize hwn : World.alloc wk _ = wn
  replace HR3 := Lib.hid (HR3.out.below (below_allocE hwn))
  replace HR4 := Lib.hid (HR4.out.below (below_allocE hwn))
  replace LL := Lib.hid (LL.out.newE hwn)
  simp only [List.cons_append, List.nil_append] at LL
  simp only [List.mem_cons, List.not_mem_nil, or_false, forall_eq_or_imp, forall_eq, false_imp_iff, implies_true, and_true] at hl_j4
  clear hwn
  generalize wk.heap.size = j4 at LL hl_j4 ⊢
  obtain ⟨q3_0, q3_1, q3_2, q3_3⟩ := (LL.out.blk 2 rfl).c4
  obtain ⟨q4_0, q4_1, q4_2, q4_3⟩ := (LL.out.blk 3 rfl).c4
  go_wp2_with fail
  refine (HL.out _ g3 A3 n3 c3 B3 m3 d3 g4 A4 n4 c4 B4 m4 d4 HR3.out HR4.out).mono ?_
  rintro e wk ⟨g5, A5, n5, c5, B5, m5, d5, rfl, hr5, hb⟩
  replace LL := stL LL hb
  replace HR3 := Lib.hid (HR3.out.below hb)
  replace HR4 := Lib.hid (HR4.out.below hb)
  clear hb q3_0 q3_1 q3_2 q3_3 q4_0 q4_1 q4_2 q4_3 HL
  have HR5 := Lib.hid hr5
  clear hr5
  go_upto_region 6 with fail
  have hl_j5 := LL.out.lts
  generalize hwn : World.alloc wk _ = wn
  replace HR3 := Lib.hid (HR3.out.below (below_allocE hwn))
  replace HR4 := Lib.hid (HR4.out.below (below_allocE hwn))
  replace HR5 := Lib.hid (HR5.out.below (below_allocE hwn))
  replace LL := Lib.hid (LL.out.newE hwn)
  simp only [List.cons_append, List.nil_append] at LL
  simp only [List.mem_cons, List.not_mem_nil, or_false, forall_eq_or_imp, forall_eq, false_imp_iff, implies_true, and_true] at hl_j5
  clear hwn
  generalize wk.heap.size = j5 at LL hl_j5 ⊢
  obtain ⟨q5_0, q5_1, q5_2, q5_3, q5_4, q5_5, q5_6, q5_7, q5_8⟩ := (LL.out.blk 0 rfl).c9
  have h1 := H1.out
  go_wp2_with fail
  refine (HS1.out _ LL.out.b).mono ?_
  rintro e wk ⟨rfl, hb⟩
  replace LL := stL LL hb
  replace HR3 := Lib.hid (HR3.out.below hb)
  replace HR4 := Lib.hid (HR4.out.below hb)
  replace HR5 := Lib.hid (HR5.out.below hb)
  clear hb q5_0 q5_1 q5_2 q5_3 q5_4 q5_5 q5_6 q5_7 q5_8 HS1
  go_upto_region 8 with fail
  replace LL := Lib.hid (LL.out.loose 1 rfl rfl)
  simp only [List.eraseIdx, List.size_toArray, List.length_cons, List.length_nil, Nat.zero_add, Nat.reduceAdd] at LL
  refine regL LL (fun hHeld => ?_)
  clear LL
  replace HR3 := Lib.hid (HR3.out.below (Below.refl _ _).drew)
  replace HR4 := Lib.hid (HR4.out.below (Below.refl _ _).drew)
  replace HR5 := Lib.hid (HR5.out.below (Below.refl _ _).drew)
  generalize World.drew _ = wk at hHeld HR3 HR4 HR5 ⊢
  refine tk 0 ?_ (hv := by intro W2 hSw; obtain ⟨q0, q1, q2, q3⟩ := (hSw.blk 3 rfl).c4; go_simp; (try with_reducible rfl))
  try simp only [Act.put, lay]
  refine tk 1 ?_ (hv := by intro W2 hSw; obtain ⟨q0, q1, q2, q3⟩ := (hSw.blk 1 rfl).c4; go_simp; (try with_reducible rfl))
  try simp only [Act.put, lay]
  refine tk 2 ?_ (hv := by intro W2 hSw; obtain ⟨q0, q1, q2, q3⟩ := (hSw.blk 2 rfl).c4; go_simp; (try with_reducible rfl))
  try simp only [Act.put, lay]
  refine rdy 3 (fun KK hKK => ?_)
  go_simp
  refine (HG.out _ g3 A3 n3 c3 B3 m3 d3 g4 A4 n4 c4 B4 m4 d4 HR3.out HR4.out).mono ?_
  rintro e wk ⟨g6, A6, n6, c6, B6, m6, d6, rfl, hr6, hb6⟩
  go_wp2_with fail
  refine hKK.out _ _ (hHeld.keep hb6) (fun _ => ?_)
  clear hKK KK hHeld
  rename_i hHeld
  try simp only [Act.put, lay]
  replace HR3 := Lib.hid (HR3.out.below hb6)
  replace HR4 := Lib.hid (HR4.out.below hb6)
  replace HR5 := Lib.hid (HR5.out.below hb6)
  have HR6 := Lib.hid hr6
  clear hr6
  clear hb6
  refine tk 4 ?_
  try simp only [Act.put, lay]
  refine rdy 5 (fun KK hKK => ?_)
  obtain ⟨ha0, hf0, ha1, hf1, ha2, hf2, ha3, hf3, ha4, hf4, ha5, hf5, ha6, hf6, ha7, hf7, ha8, hf8⟩ := (hHeld.has 0 rfl).sf9
  obtain ⟨csx, hbx, -, hcx⟩ := hHeld.has 0 rfl
  replace HR3 := Lib.hid (HR3.out.sets hbx hcx 0 [.bool false, .int .i64 s5, .bool g5, .slice A5 n5 c5, .slice B5 m5 d5, .int .i64 s6, .bool g6, .slice A6 n6 c6, .slice B6 m6 d6])
  replace HR4 := Lib.hid (HR4.out.sets hbx hcx 0 [.bool false, .int .i64 s5, .bool g5, .slice A5 n5 c5, .slice B5 m5 d5, .int .i64 s6, .bool g6, .slice A6 n6 c6, .slice B6 m6 d6])
  replace HR5 := Lib.hid (HR5.out.sets hbx hcx 0 [.bool false, .int .i64 s5, .bool g5, .slice A5 n5 c5, .slice B5 m5 d5, .int .i64 s6, .bool g6, .slice A6 n6 c6, .slice B6 m6 d6])
  replace HR6 := Lib.hid (HR6.out.sets hbx hcx 0 [.bool false, .int .i64 s5, .bool g5, .slice A5 n5 c5, .slice B5 m5 d5, .int .i64 s6, .bool g6, .slice A6 n6 c6, .slice B6 m6 d6])
  clear hbx hcx
  go_simp
  have HS_0 := (hHeld.has 0 rfl).laid [.bool false, .int .i64 s5, .bool g5, .slice A5 n5 c5, .slice B5 m5 d5, .int .i64 s6, .bool g6, .slice A6 n6 c6, .slice B6 m6 d6] rfl
  refine hKK.out _ _ (hHeld.over 0 rfl [.bool false, .int .i64 s5, .bool g5, .slice A5 n5 c5, .slice B5 m5 d5, .int .i64 s6, .bool g6, .slice A6 n6 c6, .slice B6 m6 d6] rfl rfl (by first | omega | exact hHeld.le_of 0 rfl) (by simp <;> omega) (by simp <;> omega)) (fun _ => ?_)
  clear hKK KK hHeld
  rename_i hHeld
  try simp only [Act.put, lay]
  refine wpAnyH_done (by kernel_rfl) ?_ _
  have LB := Lib.hid hHeld.b
  clear hHeld
  obtain ⟨hk2_0, hk2_1, hk2_2, hk2_3, hk2_4, hk2_5, hk2_6, hk2_7, hk2_8⟩ := HS_0.c9
  clear HS_0
  simp [sets] at hk2_0 hk2_1 hk2_2 hk2_3 hk2_4 hk2_5 hk2_6 hk2_7 hk2_8
  go_wp2
  refine bodyPost_ret (v := .agg #[.bool false, .int .i64 s5, .bool g5, .slice A5 n5 c5, .slice B5 m5 d5, .int .i64 s6, .bool g6, .slice A6 n6 c6, .slice B6 m6 d6]) (by simp [results, Tryz.results81, go_sem, hk2_0, hk2_1, hk2_2, hk2_3, hk2_4, hk2_5, hk2_6, hk2_7, hk2_8]) rfl ?_
  exact ⟨g5, A5, n5, c5, B5, m5, d5, g6, A6, n6, c6, B6, m6, d6, rfl, HR5.out, HR6.out, LB.out⟩
set_option maxRecDepth 8000 in
theorem square_zero (s1 s51 : Int) (g1 : Bool) (A1 : Option Addr) (n1 c1 : Nat) (B1 : Option Addr) (m1 d1 : Nat) (g51 : Bool) (A51 : Option Addr) (n51 c51 : Nat) (B51 : Option Addr) (m51 d51 : Nat) (s3 s4 s5 s6 a1 a2 : Int) (x3 x4 x5 x6 : Rat) (w : World)
    (hp1 : ∀ W, Below w.heap.size w W → Calls Tryz.prog 150 #[.agg #[.int .i64 s1, .bool g1, .slice A1 n1 c1, .slice B1 m1 d1], .agg #[.int .i64 s1, .bool g1, .slice A1 n1 c1, .slice B1 m1 d1]] W (NewEnd W 68 s3 x3)) (hp2 : ∀ W, Below w.heap.size w W → Calls Tryz.prog 150 #[.agg #[.int .i64 s51, .bool g51, .slice A51 n51 c51, .slice B51 m51 d51], .agg #[.int .i64 s51, .bool g51, .slice A51 n51 c51, .slice B51 m51 d51]] W (NewEnd W 68 s4 x4))
    (hl : ∀ W (g3 : Bool) (A3 : Option Addr) (n3 c3 : Nat) (B3 : Option Addr) (m3 d3 : Nat) (g4 : Bool) (A4 : Option Addr) (n4 c4 : Nat) (B4 : Option Addr) (m4 d4 : Nat), RatV W 68 g3 (.slice A3 n3 c3) (.slice B3 m3 d3) x3 → RatV W 68 g4 (.slice A4 n4 c4) (.slice B4 m4 d4) x4 → Calls Tryz.prog 151 #[.agg #[.int .i64 s3, .bool g3, .slice A3 n3 c3, .slice B3 m3 d3], .agg #[.int .i64 s4, .bool g4, .slice A4 n4 c4, .slice B4 m4 d4]] W (NewEnd W 68 s5 x5)) (hg : ∀ W (g3 : Bool) (A3 : Option Addr) (n3 c3 : Nat) (B3 : Option Addr) (m3 d3 : Nat) (g4 : Bool) (A4 : Option Addr) (n4 c4 : Nat) (B4 : Option Addr) (m4 d4 : Nat), RatV W 68 g3 (.slice A3 n3 c3) (.slice B3 m3 d3) x3 → RatV W 68 g4 (.slice A4 n4 c4) (.slice B4 m4 d4) x4 → Calls Tryz.prog 154 #[.agg #[.int .i64 s3, .bool g3, .slice A3 n3 c3, .slice B3 m3 d3], .agg #[.int .i64 s4, .bool g4, .slice A4 n4 c4, .slice B4 m4 d4]] W (NewEnd W 68 s6 x6))
    (hs1 : ∀ W, Below w.heap.size w W → Calls Tryz.prog 152 #[.agg #[.int .i64 s1, .bool g1, .slice A1 n1 c1, .slice B1 m1 d1]] W fun e w' => e = .returned (.int .i64 a1) ∧ Below W.heap.size W w') (h1 : decide (a1 ≤ 0) = true)
    (hs2 : ∀ W, Below w.heap.size w W → Calls Tryz.prog 152 #[.agg #[.int .i64 s51, .bool g51, .slice A51 n51 c51, .slice B51 m51 d51]] W fun e w' => e = .returned (.int .i64 a2) ∧ Below W.heap.size W w') (h2 : decide (0 ≤ a2) = true) :
    Calls Tryz.prog 81 #[.agg #[.bool false, .int .i64 s1, .bool g1, .slice A1 n1 c1, .slice B1 m1 d1, .int .i64 s51, .bool g51, .slice A51 n51 c51, .slice B51 m51 d51]] w (NewSet w 68 false 0 0 s6 x6) := by
  have HP1 := Lib.hid hp1
  have HP2 := Lib.hid hp2
  have HL := Lib.hid hl
  have HG := Lib.hid hg
  have HS1 := Lib.hid hs1
  have H1 := Lib.hid h1
  have HS2 := Lib.hid hs2
  have H2 := Lib.hid h2
  clear hp1 hp2 hl hg hs1 h1 hs2 h2
  have HF := Lib.hid (show ∀ W, Calls Tryz.prog 153 #[.int .i64 0] W (NewEnd W 1 0 0) from fun W => finite_nat 0 W (by omega))
  have LL := li2 w #[.bool false, .int .i64 s1, .bool g1, .slice A1 n1 c1, .slice B1 m1 d1, .int .i64 s51, .bool g51, .slice A51 n51 c51, .slice B51 m51 d51] 89 #[.bool false, .int .i64 0, .bool false, .slice none 0 0, .slice none 0 0, .int .i64 0, .bool false, .slice none 0 0, .slice none 0 0] 89
  go_enter Tryz.func81, Tryz.ntmps81
  obtain ⟨q1_0, q1_1, q1_2, q1_3, q1_4, q1_5, q1_6, q1_7, q1_8⟩ := (LL.out.blk 0 rfl).c9
  go_wp2_with fail
  refine (HP1.out _ LL.out.b).mono ?_
  rintro e wk ⟨g3, A3, n3, c3, B3, m3, d3, rfl, hr3, hb⟩
  replace LL := stL LL hb
  clear hb q1_0 q1_1 q1_2 q1_3 q1_4 q1_5 q1_6 q1_7 q1_8 HP1
  have HR3 := Lib.hid hr3
  clear hr3
  go_upto_region 4 with fail
  have hl_j3 := LL.out.lts
  generalize hwn : World.alloc wk _ = wn
  replace HR3 := Lib.hid (HR3.out.below (below_allocE hwn))
  replace LL := Lib.hid (LL.out.newE hwn)
  simp only [List.cons_append, List.nil_append] at LL
  simp only [List.mem_cons, List.not_mem_nil, or_false, forall_eq_or_imp, forall_eq, false_imp_iff, implies_true, and_true] at hl_j3
  clear hwn
  generalize wk.heap.size = j3 at LL hl_j3 ⊢
  obtain ⟨q2_0, q2_1, q2_2, q2_3, q2_4, q2_5, q2_6, q2_7, q2_8⟩ := (LL.out.blk 0 rfl).c9
  go_wp2_with fail
  refine (HP2.out _ LL.out.b).mono ?_
  rintro e wk ⟨g4, A4, n4, c4, B4, m4, d4, rfl, hr4, hb⟩
  replace LL := stL LL hb
  replace HR3 := Lib.hid (HR3.out.below hb)
  clear hb q2_0 q2_1 q2_2 q2_3 q2_4 q2_5 q2_6 q2_7 q2_8 HP2
  have HR4 := Lib.hid hr4
  clear hr4
  go_upto_region 5 with fail
  have hl_j4 := LL.out.lts
  generalize hwn : World.alloc wk _ = wn
  replace HR3 := Lib.hid (HR3.out.below (below_allocE hwn))
  replace HR4 := Lib.hid (HR4.out.below (below_allocE hwn))
  replace LL := Lib.hid (LL.out.newE hwn)
  simp only [List.cons_append, List.nil_append] at LL
  simp only [List.mem_cons, List.not_mem_nil, or_false, forall_eq_or_imp, forall_eq, false_imp_iff, implies_true, and_true] at hl_j4
  clear hwn
  generalize wk.heap.size = j4 at LL hl_j4 ⊢
  obtain ⟨q3_0, q3_1, q3_2, q3_3⟩ := (LL.out.blk 2 rfl).c4
  obtain ⟨q4_0, q4_1, q4_2, q4_3⟩ := (LL.out.blk 3 rfl).c4
  go_wp2_with fail
  refine (HL.out _ g3 A3 n3 c3 B3 m3 d3 g4 A4 n4 c4 B4 m4 d4 HR3.out HR4.out).mono ?_
  rintro e wk ⟨g5, A5, n5, c5, B5, m5, d5, rfl, hr5, hb⟩
  replace LL := stL LL hb
  replace HR3 := Lib.hid (HR3.out.below hb)
  replace HR4 := Lib.hid (HR4.out.below hb)
  clear hb q3_0 q3_1 q3_2 q3_3 q4_0 q4_1 q4_2 q4_3 HL
  have HR5 := Lib.hid hr5
  clear hr5
  go_upto_region 6 with fail
  have hl_j5 := LL.out.lts
  generalize hwn : World.alloc wk _ = wn
  replace HR3 := Lib.hid (HR3.out.below (below_allocE hwn))
  replace HR4 := Lib.hid (HR4.out.below (below_allocE hwn))
  replace HR5 := Lib.hid (HR5.out.below (below_allocE hwn))
  replace LL := Lib.hid (LL.out.newE hwn)
  simp only [List.cons_append, List.nil_append] at LL
  simp only [List.mem_cons, List.not_mem_nil, or_false, forall_eq_or_imp, forall_eq, false_imp_iff, implies_true, and_true] at hl_j5
  clear hwn
  generalize wk.heap.size = j5 at LL hl_j5 ⊢
  obtain ⟨q5_0, q5_1, q5_2, q5_3, q5_4, q5_5, q5_6, q5_7, q5_8⟩ := (LL.out.blk 0 rfl).c9
  have h1 := H1.out
  go_wp2_with fail
  refine (HS1.out _ LL.out.b).mono ?_
  rintro e wk ⟨rfl, hb⟩
  replace LL := stL LL hb
  replace HR3 := Lib.hid (HR3.out.below hb)
  replace HR4 := Lib.hid (HR4.out.below hb)
  replace HR5 := Lib.hid (HR5.out.below hb)
  clear hb q5_0 q5_1 q5_2 q5_3 q5_4 q5_5 q5_6 q5_7 q5_8 HS1
  obtain ⟨q6_0, q6_1, q6_2, q6_3, q6_4, q6_5, q6_6, q6_7, q6_8⟩ := (LL.out.blk 0 rfl).c9
  have h2 := H2.out
  go_wp2_with fail
  refine (HS2.out _ LL.out.b).mono ?_
  rintro e wk ⟨rfl, hb⟩
  replace LL := stL LL hb
  replace HR3 := Lib.hid (HR3.out.below hb)
  replace HR4 := Lib.hid (HR4.out.below hb)
  replace HR5 := Lib.hid (HR5.out.below hb)
  clear hb q6_0 q6_1 q6_2 q6_3 q6_4 q6_5 q6_6 q6_7 q6_8 HS2
  go_wp2_with fail
  refine (HF.out _).mono ?_
  rintro e wk ⟨g9, A9, n9, c9, B9, m9, d9, rfl, hr9, hb⟩
  replace LL := stL LL hb
  replace HR3 := Lib.hid (HR3.out.below hb)
  replace HR4 := Lib.hid (HR4.out.below hb)
  replace HR5 := Lib.hid (HR5.out.below hb)
  clear hb HF
  have HR9 := Lib.hid hr9
  clear hr9
  clear HR5
  obtain ⟨q7_0, q7_1, q7_2, q7_3⟩ := (LL.out.blk 4 rfl).c4
  have fz0 := (LL.out.blk 4 rfl).frozen 0
  have fz1 := (LL.out.blk 4 rfl).frozen 1
  have fz2 := (LL.out.blk 4 rfl).frozen 2
  have fz3 := (LL.out.blk 4 rfl).frozen 3
  go_upto_region 8 with fail
  clear q7_0 q7_1 q7_2 q7_3 fz0 fz1 fz2 fz3
  have PB_5 := LL.out.blk 4 rfl
  replace LL := Lib.hid (LL.out.part 4 rfl 0 [.int .i64 0, .bool g9, .slice A9 n9 c9, .slice B9 m9 d9] (by omega) (by simp <;> omega) (by simp <;> omega))
  simp only [List.eraseIdx, laid, List.cons_append, List.nil_append, List.setIfInBounds_toArray, List.set_cons_zero, List.set_cons_succ, Nat.zero_add, Nat.reduceAdd] at LL
  replace HR3 := Lib.hid (HR3.out.sets PB_5 (nowd rfl) 0 [.int .i64 0, .bool g9, .slice A9 n9 c9, .slice B9 m9 d9])
  replace HR4 := Lib.hid (HR4.out.sets PB_5 (nowd rfl) 0 [.int .i64 0, .bool g9, .slice A9 n9 c9, .slice B9 m9 d9])
  replace HR9 := Lib.hid (HR9.out.sets PB_5 (nowd rfl) 0 [.int .i64 0, .bool g9, .slice A9 n9 c9, .slice B9 m9 d9])
  obtain ⟨wn, hwn⟩ : ∃ X, (sets wk j5 0 [.int .i64 0, .bool g9, .slice A9 n9 c9, .slice B9 m9 d9]) = X := ⟨_, rfl⟩
  rw [hwn] at LL HR3 HR4 HR9
  simp only [sets, Nat.reduceAdd] at hwn
  rw [hwn]
  clear hwn PB_5
  replace LL := Lib.hid (LL.out.loose 1 rfl rfl)
  simp only [List.eraseIdx, List.size_toArray, List.length_cons, List.length_nil, Nat.zero_add, Nat.reduceAdd] at LL
  refine regL LL (fun hHeld => ?_)
  clear LL
  replace HR3 := Lib.hid (HR3.out.below (Below.refl _ _).drew)
  replace HR4 := Lib.hid (HR4.out.below (Below.refl _ _).drew)
  replace HR9 := Lib.hid (HR9.out.below (Below.refl _ _).drew)
  generalize World.drew _ = wk at hHeld HR3 HR4 HR9 ⊢
  refine tk 0 ?_ (hv := by intro W2 hSw; obtain ⟨q0, q1, q2, q3⟩ := (hSw.blk 3 rfl).c4; go_simp; (try with_reducible rfl))
  try simp only [Act.put, lay]
  refine tk 1 ?_ (hv := by intro W2 hSw; obtain ⟨q0, q1, q2, q3⟩ := (hSw.blk 1 rfl).c4; go_simp; (try with_reducible rfl))
  try simp only [Act.put, lay]
  refine tk 2 ?_ (hv := by intro W2 hSw; obtain ⟨q0, q1, q2, q3⟩ := (hSw.blk 2 rfl).c4; go_simp; (try with_reducible rfl))
  try simp only [Act.put, lay]
  refine rdy 3 (fun KK hKK => ?_)
  go_simp
  refine (HG.out _ g3 A3 n3 c3 B3 m3 d3 g4 A4 n4 c4 B4 m4 d4 HR3.out HR4.out).mono ?_
  rintro e wk ⟨g6, A6, n6, c6, B6, m6, d6, rfl, hr6, hb6⟩
  go_wp2_with fail
  refine hKK.out _ _ (hHeld.keep hb6) (fun _ => ?_)
  clear hKK KK hHeld
  rename_i hHeld
  try simp only [Act.put, lay]
  replace HR3 := Lib.hid (HR3.out.below hb6)
  replace HR4 := Lib.hid (HR4.out.below hb6)
  replace HR9 := Lib.hid (HR9.out.below hb6)
  have HR6 := Lib.hid hr6
  clear hr6
  clear hb6
  refine tk 4 ?_
  try simp only [Act.put, lay]
  refine rdy 5 (fun KK hKK => ?_)
  obtain ⟨ha0, hf0, ha1, hf1, ha2, hf2, ha3, hf3, ha4, hf4, ha5, hf5, ha6, hf6, ha7, hf7, ha8, hf8⟩ := (hHeld.has 0 rfl).sf9
  obtain ⟨csx, hbx, -, hcx⟩ := hHeld.has 0 rfl
  replace HR3 := Lib.hid (HR3.out.sets hbx hcx 0 [.bool false, .int .i64 0, .bool g9, .slice A9 n9 c9, .slice B9 m9 d9, .int .i64 s6, .bool g6, .slice A6 n6 c6, .slice B6 m6 d6])
  replace HR4 := Lib.hid (HR4.out.sets hbx hcx 0 [.bool false, .int .i64 0, .bool g9, .slice A9 n9 c9, .slice B9 m9 d9, .int .i64 s6, .bool g6, .slice A6 n6 c6, .slice B6 m6 d6])
  replace HR9 := Lib.hid (HR9.out.sets hbx hcx 0 [.bool false, .int .i64 0, .bool g9, .slice A9 n9 c9, .slice B9 m9 d9, .int .i64 s6, .bool g6, .slice A6 n6 c6, .slice B6 m6 d6])
  replace HR6 := Lib.hid (HR6.out.sets hbx hcx 0 [.bool false, .int .i64 0, .bool g9, .slice A9 n9 c9, .slice B9 m9 d9, .int .i64 s6, .bool g6, .slice A6 n6 c6, .slice B6 m6 d6])
  clear hbx hcx
  go_simp
  have HS_0 := (hHeld.has 0 rfl).laid [.bool false, .int .i64 0, .bool g9, .slice A9 n9 c9, .slice B9 m9 d9, .int .i64 s6, .bool g6, .slice A6 n6 c6, .slice B6 m6 d6] rfl
  refine hKK.out _ _ (hHeld.over 0 rfl [.bool false, .int .i64 0, .bool g9, .slice A9 n9 c9, .slice B9 m9 d9, .int .i64 s6, .bool g6, .slice A6 n6 c6, .slice B6 m6 d6] rfl rfl (by first | omega | exact hHeld.le_of 0 rfl) (by simp <;> omega) (by simp <;> omega)) (fun _ => ?_)
  clear hKK KK hHeld
  rename_i hHeld
  try simp only [Act.put, lay]
  refine wpAnyH_done (by kernel_rfl) ?_ _
  have LB := Lib.hid hHeld.b
  clear hHeld
  obtain ⟨hk2_0, hk2_1, hk2_2, hk2_3, hk2_4, hk2_5, hk2_6, hk2_7, hk2_8⟩ := HS_0.c9
  clear HS_0
  simp [sets] at hk2_0 hk2_1 hk2_2 hk2_3 hk2_4 hk2_5 hk2_6 hk2_7 hk2_8
  go_wp2
  refine bodyPost_ret (v := .agg #[.bool false, .int .i64 0, .bool g9, .slice A9 n9 c9, .slice B9 m9 d9, .int .i64 s6, .bool g6, .slice A6 n6 c6, .slice B6 m6 d6]) (by simp [results, Tryz.results81, go_sem, hk2_0, hk2_1, hk2_2, hk2_3, hk2_4, hk2_5, hk2_6, hk2_7, hk2_8]) rfl ?_
  exact ⟨g9, A9, n9, c9, B9, m9, d9, g6, A6, n6, c6, B6, m6, d6, rfl, HR9.out.mono (by omega), HR6.out, LB.out⟩
set_option maxRecDepth 8000 in
theorem square_none (g1 : Bool) (A1 : Option Addr) (n1 c1 : Nat) (B1 : Option Addr) (m1 d1 : Nat) (g51 : Bool) (A51 : Option Addr) (n51 c51 : Nat) (B51 : Option Addr) (m51 d51 : Nat) (s1 s51 : Int) (w : World) :
    Calls Tryz.prog 81 #[.agg #[.bool true, .int .i64 s1, .bool g1, .slice A1 n1 c1, .slice B1 m1 d1, .int .i64 s51, .bool g51, .slice A51 n51 c51, .slice B51 m51 d51]] w fun e w' => e = .returned (.agg #[.bool true, .int .i64 s1, .bool g1, .slice A1 n1 c1, .slice B1 m1 d1, .int .i64 s51, .bool g51, .slice A51 n51 c51, .slice B51 m51 d51]) ∧ Below w.heap.size w w' := by
  have HB := Lib.hid (show Below w.heap.size w ((w.alloc (.cells #[.bool true, .int .i64 s1, .bool g1, .slice A1 n1 c1, .slice B1 m1 d1, .int .i64 s51, .bool g51, .slice A51 n51 c51, .slice B51 m51 d51] 89)).alloc (.cells #[.bool true, .int .i64 s1, .bool g1, .slice A1 n1 c1, .slice B1 m1 d1, .int .i64 s51, .bool g51, .slice A51 n51 c51, .slice B51 m51 d51] 89)) from (below_alloc w _).alloc (by simp) _)
  go_enter Tryz.func81, Tryz.ntmps81
  go_wp2
  refine bodyPost_ret (v := .agg #[.bool true, .int .i64 s1, .bool g1, .slice A1 n1 c1, .slice B1 m1 d1, .int .i64 s51, .bool g51, .slice A51 n51 c51, .slice B51 m51 d51]) (by simp [results, Tryz.results81, go_sem]) rfl ?_
  exact ⟨rfl, HB.out⟩
set_option maxRecDepth 8000 in
theorem refsqr_walk (f1 f2 x1 x2 r1 r2 : Nat) (w : World) (hP : ∀ W, Calls Tryz.prog 40 #[.int .i64 2, .agg #[.int .u64 (f1 : Int), .int .u64 (f2 : Int)], .agg #[.int .u64 (x1 : Int), .int .u64 (x2 : Int)]] W fun e w' => e = .returned (.agg #[.int .u64 (r1 : Int), .int .u64 (r2 : Int)]) ∧ Below W.heap.size W w') :
    Calls Tryz.prog 16 #[.agg #[.int .u64 (f1 : Int), .int .u64 (f2 : Int)], .agg #[.int .u64 (x1 : Int), .int .u64 (x2 : Int)]] w fun e w' => e = .returned (.agg #[.int .u64 (r1 : Int), .int .u64 (r2 : Int)]) ∧ Below w.heap.size w w' := by
  have HP := Lib.hid hP
  clear hP
  have LL := li3 w #[.int .u64 (f1 : Int), .int .u64 (f2 : Int)] 24 #[.int .u64 (x1 : Int), .int .u64 (x2 : Int)] 24 #[.int .u64 0, .int .u64 0] 24
  go_enter Tryz.func16, Tryz.ntmps16
  obtain ⟨q1_0, q1_1⟩ := (LL.out.blk 0 rfl).c2
  obtain ⟨q2_0, q2_1⟩ := (LL.out.blk 1 rfl).c2
  go_wp2_with fail
  refine (HP.out _).mono ?_
  rintro e wk ⟨rfl, hb⟩
  replace LL := stL LL hb
  clear hb q1_0 q1_1 q2_0 q2_1 HP
  replace LL := Lib.hid (LL.out.loose 2 rfl rfl)
  simp only [List.eraseIdx, List.size_toArray, List.length_cons, List.length_nil, Nat.zero_add, Nat.reduceAdd] at LL
  obtain ⟨ha4_0, hf4_0, ha4_1, hf4_1⟩ := (LL.out.has 0 rfl).sf2
  have LF := Lib.hid (LL.out.write [.int .u64 (r1 : Int), .int .u64 (r2 : Int)] rfl (by omega) (by simp <;> omega) (by simp <;> omega))
  obtain ⟨hk4_0, hk4_1⟩ := (LF.out.blk 2 rfl).c2
  simp [sets] at hk4_0 hk4_1
  clear LL
  go_wp2
  refine bodyPost_ret (v := .agg #[.int .u64 (r1 : Int), .int .u64 (r2 : Int)]) (by simp [results, Tryz.results16, go_sem, hk4_0, hk4_1]) rfl ?_
  exact ⟨rfl, LF.out.b⟩
set_option maxRecDepth 8000 in
theorem refsqrt_walk (f1 f2 x1 x2 : Nat) (i2 j2 i4 j4 : Int) (P : World → Value → Prop) (F1 : Int → Int → Int × Int) (L : Nat → Int → Int → Int × Int) (w : World) (hx : x1 < 18446744073709551616) (hy : x2 < 18446744073709551616) (hO1 : ∀ W, Calls Tryz.prog 83 #[.agg #[.int .u64 (f1 : Int), .int .u64 (f2 : Int)]] W (NewSetI W i2 j2)) (hW : ∀ W v, SetOf W v i2 j2 → Calls Tryz.prog 82 #[v] W (NewSetI W i4 j4))
    (hQ : ∀ W v, SetOf W v i4 j4 → Calls Tryz.prog 81 #[v] W (fun e w' => ∃ u, e = .returned u ∧ P w' u ∧ Below W.heap.size W w')) (hP : ∀ W v, P W v → Calls Tryz.prog 80 #[v] W (NewPcV W F1)) (hL0 : F1 = L 0) :
    Calls Tryz.prog 18 #[.agg #[.int .u64 (f1 : Int), .int .u64 (f2 : Int)], .agg #[.int .u64 (x1 : Int), .int .u64 (x2 : Int)]] w fun e w' => e = .returned (.agg #[.int .u64 (pat (zg (rd x1 x2).1 (rd x1 x2).2 L 1).1 : Int), .int .u64 (pat (zg (rd x1 x2).1 (rd x1 x2).2 L 1).2 : Int)]) ∧ Below w.heap.size w w' := by
  have HO1 := Lib.hid hO1
  have HW := Lib.hid hW
  have HQ := Lib.hid hQ
  have HP := Lib.hid hP
  clear hO1 hW hQ hP
  have HL0 := Lib.hid hL0
  clear hL0
  have HA := Lib.hid fun W A c h1 h2 h3 => all_pcs x1 x2 A 1 c L W hx hy (by omega) h1 h2 h3
  obtain ⟨r1, hr1⟩ : ∃ p, pat (zg (rd x1 x2).1 (rd x1 x2).2 L 1).1 = p := ⟨_, rfl⟩
  obtain ⟨r2, hr2⟩ : ∃ p, pat (zg (rd x1 x2).1 (rd x1 x2).2 L 1).2 = p := ⟨_, rfl⟩
  rw [hr1, hr2] at HA ⊢
  clear hr1 hr2 hx hy
  have LL := li3 w #[.int .u64 (f1 : Int), .int .u64 (f2 : Int)] 24 #[.int .u64 (x1 : Int), .int .u64 (x2 : Int)] 24 #[.int .u64 0, .int .u64 0] 24
  go_enter Tryz.func18, Tryz.ntmps18
  go_wp2_with fail
  replace LL := Lib.hid (LL.out.loose 2 rfl rfl)
  simp only [List.eraseIdx, List.size_toArray, List.length_cons, List.length_nil, Nat.zero_add, Nat.reduceAdd] at LL
  refine regL LL (fun hHeld => ?_)
  clear LL
  generalize World.drew _ = wk at hHeld  ⊢
  refine tk 0 ?_ (hv := by intro W2 hSw; obtain ⟨q0, q1⟩ := (hSw.blk 1 rfl).c2; go_simp; (try with_reducible rfl))
  try simp only [Act.put, lay]
  refine tk 1 ?_ (hv := by intro W2 hSw; obtain ⟨q0, q1⟩ := (hSw.blk 0 rfl).c2; go_simp; (try with_reducible rfl))
  try simp only [Act.put, lay]
  refine rdy 2 (fun KK hKK => ?_)
  go_simp
  refine (HO1.out _).mono ?_
  rintro e wk ⟨o2, s2, g2, A2, n2, c2, B2, m2, d2, s52, g52, A52, n52, c52, B52, m52, d52, rfl, hs2, hb1⟩
  go_wp2_with fail
  refine hKK.out _ _ (hHeld.keep hb1) (fun _ => ?_)
  clear hKK KK hHeld
  rename_i hHeld
  try simp only [Act.put, lay]
  (try replace HS4 := Lib.hid (HS4.out.below hb1))
  (try replace HU5 := Lib.hid (HU5.out.below hb1))
  (try replace HP21 := Lib.hid (HP21.out.below hb1))
  have HS2 := Lib.hid hs2
  clear hs2
  clear hb1
  refine rdy 3 (fun KK hKK => ?_)
  go_simp
  refine (HW.out _ _ HS2.out).mono ?_
  rintro e wk ⟨o4, s4, g4, A4, n4, c4, B4, m4, d4, s54, g54, A54, n54, c54, B54, m54, d54, rfl, hs4, hb2⟩
  go_wp2_with fail
  refine hKK.out _ _ (hHeld.keep hb2) (fun _ => ?_)
  clear hKK KK hHeld
  rename_i hHeld
  try simp only [Act.put, lay]
  (try replace HS2 := Lib.hid (HS2.out.below hb2))
  (try replace HU5 := Lib.hid (HU5.out.below hb2))
  (try replace HP21 := Lib.hid (HP21.out.below hb2))
  have HS4 := Lib.hid hs4
  clear hs4
  clear hb2
  refine rdy 4 (fun KK hKK => ?_)
  go_simp
  refine (HQ.out _ _ HS4.out).mono ?_
  rintro e wk ⟨u, rfl, hu5, hb3⟩
  go_wp2_with fail
  refine hKK.out _ _ (hHeld.keep hb3) (fun _ => ?_)
  clear hKK KK hHeld
  rename_i hHeld
  try simp only [Act.put, lay]
  (try replace HS2 := Lib.hid (HS2.out.below hb3))
  (try replace HS4 := Lib.hid (HS4.out.below hb3))
  (try replace HP21 := Lib.hid (HP21.out.below hb3))
  have HU5 := Lib.hid hu5
  clear hu5
  clear hb3
  refine rdy 5 (fun KK hKK => ?_)
  go_simp
  refine (HP.out _ _ HU5.out).mono ?_
  rintro e wk ⟨o21, s21, g21, A21, n21, c21, B21, m21, d21, N21, p21, s71, g71, A71, n71, c71, B71, m71, d71, N71, p71, rfl, hp21, hb4⟩
  go_wp2_with fail
  refine hKK.out _ _ (hHeld.keep hb4) (fun _ => ?_)
  clear hKK KK hHeld
  rename_i hHeld
  try simp only [Act.put, lay]
  (try replace HS2 := Lib.hid (HS2.out.below hb4))
  (try replace HS4 := Lib.hid (HS4.out.below hb4))
  (try replace HU5 := Lib.hid (HU5.out.below hb4))
  have HP21 := Lib.hid hp21
  clear hp21
  clear hb4
  refine rdy 6 (fun KK hKK => ?_)
  go_simp
  have hl_js := hHeld.lts
  refine hKK.out _ _ (hHeld.alloc _) (fun _ => ?_)
  clear hKK KK hHeld
  rename_i hHeld
  try simp only [Act.put, lay]
  generalize hwn : World.alloc wk _ = wn at hHeld ⊢
  have B_js := Blk.newE hwn
  (try replace HS2 := Lib.hid (HS2.out.below (below_allocE hwn)))
  (try replace HS4 := Lib.hid (HS4.out.below (below_allocE hwn)))
  (try replace HU5 := Lib.hid (HU5.out.below (below_allocE hwn)))
  (try replace HP21 := Lib.hid (HP21.out.below (below_allocE hwn)))
  simp only [List.mem_cons, List.not_mem_nil, or_false, forall_eq_or_imp, forall_eq, false_imp_iff, implies_true, and_true] at hl_js
  clear hwn
  generalize wk.heap.size = js at B_js hl_js ⊢
  obtain ⟨wk, rfl⟩ : ∃ X, X = wn := ⟨_, rfl⟩
  refine rdy 7 (fun KK hKK => ?_)
  go_simp
  refine (HA.out _ _ _ (Nat.le_refl _) (fun h => absurd h (by omega)) (fun k hk => ⟨_, rfl, by match k, hk with | 0, _ => exact HL0.out ▸ PcG.at B_js 0 (HP21.out.1) ⟨rfl, rfl, rfl, rfl, rfl, rfl, rfl, rfl, rfl, rfl, rfl, rfl, rfl⟩⟩)).mono ?_
  rintro e wk ⟨rfl, hb5⟩
  go_wp2_with fail
  refine hKK.out _ _ (hHeld.keep hb5) (fun _ => ?_)
  clear hKK KK hHeld
  rename_i hHeld
  try simp only [Act.put, lay]
  (try replace HS2 := Lib.hid (HS2.out.below hb5))
  (try replace HS4 := Lib.hid (HS4.out.below hb5))
  (try replace HU5 := Lib.hid (HU5.out.below hb5))
  (try replace HP21 := Lib.hid (HP21.out.below hb5))
  clear hb5
  refine rdy 8 (fun KK hKK => ?_)
  obtain ⟨ha0, hf0, ha1, hf1⟩ := (hHeld.has 0 rfl).sf2
  obtain ⟨csx, hbx, -, hcx⟩ := hHeld.has 0 rfl
  (try clear HS2)
  (try clear HS4)
  (try clear HU5)
  (try clear HP21)
  clear hbx hcx
  go_simp
  have HS_0 := (hHeld.has 0 rfl).laid [.int .u64 (r1 : Int), .int .u64 (r2 : Int)] rfl
  refine hKK.out _ _ (hHeld.over 0 rfl [.int .u64 (r1 : Int), .int .u64 (r2 : Int)] rfl rfl (by first | omega | exact hHeld.le_of 0 rfl) (by simp <;> omega) (by simp <;> omega)) (fun _ => ?_)
  clear hKK KK hHeld
  rename_i hHeld
  try simp only [Act.put, lay]
  refine wpAnyH_done (by kernel_rfl) ?_ _
  have LB := Lib.hid hHeld.b
  clear hHeld
  obtain ⟨hk4_0, hk4_1⟩ := HS_0.c2
  clear HS_0
  simp [sets] at hk4_0 hk4_1
  go_wp2
  refine bodyPost_ret (v := .agg #[.int .u64 (r1 : Int), .int .u64 (r2 : Int)]) (by simp [results, Tryz.results18, go_sem, hk4_0, hk4_1]) rfl ?_
  exact ⟨rfl, LB.out⟩
end Go.Proofs.YthlmlmfebpjgdaaGreatDoor

namespace Go.Proofs.YthlmlmfebpjgdaaGreatDoor
open Go.RowKit
attribute [local go_sem] run_store_float run_eqf
end Go.Proofs.YthlmlmfebpjgdaaGreatDoor

namespace Go.Proofs.YthlmlmfebpjgdaaGreatDoor
open Go.RowKit
attribute [local go_sem] run_store_float run_eqf
end Go.Proofs.YthlmlmfebpjgdaaGreatDoor
