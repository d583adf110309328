/-
Walks: package vergeref6, sum, None, Plus.
-/
import Derived.Test.YtmjkmoahkanblaaGreatM20
import Derived.Test.YtmjkmoahkanblaaGreatM09
set_option linter.unusedSimpArgs false
set_option linter.unusedVariables false

namespace Go.Proofs.YtmjkmoahkanblaaGreat
open Go.RowKit

theorem NewEnd.up {w w' : World} {K K' : Nat} {s : Int} {x : Rat} {e : Ending} (h : NewEnd w K s x e w') (hk : K ≤ K') : NewEnd w K' s x e w' := by
  obtain ⟨neg, A, n, c, B, m, d, h1, h2, h3⟩ := h
  exact ⟨neg, A, n, c, B, m, d, h1, h2.mono hk, h3⟩
/-- The sum of two ends. -/
def es2 (s1 s2 : Int) : Int := if s1 ≠ 0 then s1 else s2
def ex2 (s1 : Int) (x1 : Rat) (s2 : Int) (x2 : Rat) : Rat := if s1 ≠ 0 then x1 else if s2 ≠ 0 then x2 else x1 + x2

set_option maxHeartbeats 3200000 in
theorem sum6_left (K : Nat) (s1 s2 : Int) (g1 : Bool) (A1 : Option Addr) (n1 c1 : Nat) (B1 : Option Addr) (m1 d1 : Nat) (x1 : Rat) (g2 : Bool) (A2 : Option Addr) (n2 c2 : Nat) (B2 : Option Addr) (m2 d2 : Nat) (x2 : Rat) (w : World) (h1 : RatV w K g1 (.slice A1 n1 c1) (.slice B1 m1 d1) x1) (h2 : RatV w K g2 (.slice A2 n2 c2) (.slice B2 m2 d2) x2) (hs : s1 ≠ 0) :
    Calls Tryz.prog 126 #[.agg #[.int .i64 s1, .bool g1, .slice A1 n1 c1, .slice B1 m1 d1], .agg #[.int .i64 s2, .bool g2, .slice A2 n2 c2, .slice B2 m2 d2]] w (NewEnd w K s1 x1) := by
  have LB0 := Lib.hid (show Below w.heap.size w (((w.alloc (.cells #[.int .i64 s1, .bool g1, .slice A1 n1 c1, .slice B1 m1 d1] 67)).alloc (.cells #[.int .i64 s2, .bool g2, .slice A2 n2 c2, .slice B2 m2 d2] 67)).alloc (.cells #[.int .i64 0, .bool false, .slice none 0 0, .slice none 0 0] 67)) from (((below_alloc w _).alloc (by simp <;> omega) _).alloc (by simp <;> omega) _))
  have LG0_0 := Lib.hid ((((Blk.at (W := w) (g := w.heap.size) (by simp <;> omega) 67 #[.int .i64 s1, .bool g1, .slice A1 n1 c1, .slice B1 m1 d1]).alloc (.cells #[.int .i64 s2, .bool g2, .slice A2 n2 c2, .slice B2 m2 d2] 67)).alloc (.cells #[.int .i64 0, .bool false, .slice none 0 0, .slice none 0 0] 67)))
  have LG1_0 := Lib.hid (((Blk.at (W := (w.alloc (.cells #[.int .i64 s1, .bool g1, .slice A1 n1 c1, .slice B1 m1 d1] 67))) (g := (w.heap.size + 1)) (by simp <;> omega) 67 #[.int .i64 s2, .bool g2, .slice A2 n2 c2, .slice B2 m2 d2]).alloc (.cells #[.int .i64 0, .bool false, .slice none 0 0, .slice none 0 0] 67)))
  have LR0 := Lib.hid (HasBlk.of (n := 4) (Blk.at (W := ((w.alloc (.cells #[.int .i64 s1, .bool g1, .slice A1 n1 c1, .slice B1 m1 d1] 67)).alloc (.cells #[.int .i64 s2, .bool g2, .slice A2 n2 c2, .slice B2 m2 d2] 67))) (g := (w.heap.size + 2)) (by simp <;> omega) 67 #[.int .i64 0, .bool false, .slice none 0 0, .slice none 0 0]) rfl rfl)
  have H1 := Lib.hid h1
  have hq : (s1 == 0) = false := by simp; omega
  clear h1 h2 LB0 LG0_0 LG1_0 LR0
  go_enter Tryz.func126, Tryz.ntmps126
  go_wp2
  refine bodyPost_ret (v := .agg #[.int .i64 s1, .bool g1, .slice A1 n1 c1, .slice B1 m1 d1]) (by simp [results, Tryz.results126, go_sem]) rfl ?_
  exact have b := (((below_alloc w _).alloc (by simp <;> omega) _).alloc (by simp <;> omega) _); ⟨_, _, _, _, _, _, _, rfl, H1.out.below b, b⟩

set_option maxHeartbeats 3200000 in
theorem sum6_right (K : Nat) (s2 : Int) (g1 : Bool) (A1 : Option Addr) (n1 c1 : Nat) (B1 : Option Addr) (m1 d1 : Nat) (x1 : Rat) (g2 : Bool) (A2 : Option Addr) (n2 c2 : Nat) (B2 : Option Addr) (m2 d2 : Nat) (x2 : Rat) (w : World) (h1 : RatV w K g1 (.slice A1 n1 c1) (.slice B1 m1 d1) x1) (h2 : RatV w K g2 (.slice A2 n2 c2) (.slice B2 m2 d2) x2) (hs : s2 ≠ 0) :
    Calls Tryz.prog 126 #[.agg #[.int .i64 0, .bool g1, .slice A1 n1 c1, .slice B1 m1 d1], .agg #[.int .i64 s2, .bool g2, .slice A2 n2 c2, .slice B2 m2 d2]] w (NewEnd w K s2 x2) := by
  have LB0 := Lib.hid (show Below w.heap.size w (((w.alloc (.cells #[.int .i64 0, .bool g1, .slice A1 n1 c1, .slice B1 m1 d1] 67)).alloc (.cells #[.int .i64 s2, .bool g2, .slice A2 n2 c2, .slice B2 m2 d2] 67)).alloc (.cells #[.int .i64 0, .bool false, .slice none 0 0, .slice none 0 0] 67)) from (((below_alloc w _).alloc (by simp <;> omega) _).alloc (by simp <;> omega) _))
  have LG0_0 := Lib.hid ((((Blk.at (W := w) (g := w.heap.size) (by simp <;> omega) 67 #[.int .i64 0, .bool g1, .slice A1 n1 c1, .slice B1 m1 d1]).alloc (.cells #[.int .i64 s2, .bool g2, .slice A2 n2 c2, .slice B2 m2 d2] 67)).alloc (.cells #[.int .i64 0, .bool false, .slice none 0 0, .slice none 0 0] 67)))
  have LG1_0 := Lib.hid (((Blk.at (W := (w.alloc (.cells #[.int .i64 0, .bool g1, .slice A1 n1 c1, .slice B1 m1 d1] 67))) (g := (w.heap.size + 1)) (by simp <;> omega) 67 #[.int .i64 s2, .bool g2, .slice A2 n2 c2, .slice B2 m2 d2]).alloc (.cells #[.int .i64 0, .bool false, .slice none 0 0, .slice none 0 0] 67)))
  have LR0 := Lib.hid (HasBlk.of (n := 4) (Blk.at (W := ((w.alloc (.cells #[.int .i64 0, .bool g1, .slice A1 n1 c1, .slice B1 m1 d1] 67)).alloc (.cells #[.int .i64 s2, .bool g2, .slice A2 n2 c2, .slice B2 m2 d2] 67))) (g := (w.heap.size + 2)) (by simp <;> omega) 67 #[.int .i64 0, .bool false, .slice none 0 0, .slice none 0 0]) rfl rfl)
  have H1 := Lib.hid h2
  have hq : (s2 == 0) = false := by simp; omega
  clear h1 h2 LB0 LG0_0 LG1_0 LR0
  go_enter Tryz.func126, Tryz.ntmps126
  go_wp2
  refine bodyPost_ret (v := .agg #[.int .i64 s2, .bool g2, .slice A2 n2 c2, .slice B2 m2 d2]) (by simp [results, Tryz.results126, go_sem]) rfl ?_
  exact have b := (((below_alloc w _).alloc (by simp <;> omega) _).alloc (by simp <;> omega) _); ⟨_, _, _, _, _, _, _, rfl, H1.out.below b, b⟩

set_option maxHeartbeats 3200000 in
theorem sum6_both (K : Nat) (g1 : Bool) (A1 : Option Addr) (n1 c1 : Nat) (B1 : Option Addr) (m1 d1 : Nat) (x1 : Rat) (g2 : Bool) (A2 : Option Addr) (n2 c2 : Nat) (B2 : Option Addr) (m2 d2 : Nat) (x2 : Rat) (w : World) (h1 : RatV w K g1 (.slice A1 n1 c1) (.slice B1 m1 d1) x1) (h2 : RatV w K g2 (.slice A2 n2 c2) (.slice B2 m2 d2) x2) (hK : K ≤ 1048576) :
    Calls Tryz.prog 126 #[.agg #[.int .i64 0, .bool g1, .slice A1 n1 c1, .slice B1 m1 d1], .agg #[.int .i64 0, .bool g2, .slice A2 n2 c2, .slice B2 m2 d2]] w (NewEnd w (2 * K + 1) 0 (x1 + x2)) := by
  have LB0 := Lib.hid (show Below w.heap.size w (((w.alloc (.cells #[.int .i64 0, .bool g1, .slice A1 n1 c1, .slice B1 m1 d1] 67)).alloc (.cells #[.int .i64 0, .bool g2, .slice A2 n2 c2, .slice B2 m2 d2] 67)).alloc (.cells #[.int .i64 0, .bool false, .slice none 0 0, .slice none 0 0] 67)) from (((below_alloc w _).alloc (by simp <;> omega) _).alloc (by simp <;> omega) _))
  have LG0_0 := Lib.hid ((((Blk.at (W := w) (g := w.heap.size) (by simp <;> omega) 67 #[.int .i64 0, .bool g1, .slice A1 n1 c1, .slice B1 m1 d1]).alloc (.cells #[.int .i64 0, .bool g2, .slice A2 n2 c2, .slice B2 m2 d2] 67)).alloc (.cells #[.int .i64 0, .bool false, .slice none 0 0, .slice none 0 0] 67)))
  have LG1_0 := Lib.hid (((Blk.at (W := (w.alloc (.cells #[.int .i64 0, .bool g1, .slice A1 n1 c1, .slice B1 m1 d1] 67))) (g := (w.heap.size + 1)) (by simp <;> omega) 67 #[.int .i64 0, .bool g2, .slice A2 n2 c2, .slice B2 m2 d2]).alloc (.cells #[.int .i64 0, .bool false, .slice none 0 0, .slice none 0 0] 67)))
  have LR0 := Lib.hid (HasBlk.of (n := 4) (Blk.at (W := ((w.alloc (.cells #[.int .i64 0, .bool g1, .slice A1 n1 c1, .slice B1 m1 d1] 67)).alloc (.cells #[.int .i64 0, .bool g2, .slice A2 n2 c2, .slice B2 m2 d2] 67))) (g := (w.heap.size + 2)) (by simp <;> omega) 67 #[.int .i64 0, .bool false, .slice none 0 0, .slice none 0 0]) rfl rfl)
  have HN := Lib.hid fun W (hW : Below w.heap.size w W) => (radd_v K g1 _ _ x1 g2 _ _ x2 W (h1.below hW) (h2.below hW) hK).mono fun _ _ h => h.s
  clear h1 h2
  go_enter Tryz.func126, Tryz.ntmps126
  go_wp2_with fail
  refine (HN.out _ LB0.out).mono ?_
  rintro e w1 ⟨g3, A3, n3, c3, B3, m3, d3, rfl, h3, hb3⟩
  have LB1 := Lib.hid (LB0.out.trans (hb3.mono LB0.out.size))
  have LR1 := Lib.hid (LR0.out.keep hb3)
  have LG0_1 := Lib.hid (LG0_0.out.keep hb3)
  have LG1_1 := Lib.hid (LG1_0.out.keep hb3)
  clear LB0 LR0 LG0_0 LG1_0
  have FR := Lib.hid (LR1.out.rat h3 [.int .i64 0, .bool g3, .slice A3 n3 c3, .slice B3 m3 d3])
  clear h3 hb3 HN
  have ha0 := LR1.out.someCell 0 (by decide)
  have hf0 := LR1.out.frozen 0
  have ha1 := LR1.out.someCell 1 (by decide)
  have hf1 := LR1.out.frozen 1
  have ha2 := LR1.out.someCell 2 (by decide)
  have hf2 := LR1.out.frozen 2
  have ha3 := LR1.out.someCell 3 (by decide)
  have hf3 := LR1.out.frozen 3
  have hk0 := LR1.out.setCell [.int .i64 0, .bool g3, .slice A3 n3 c3, .slice B3 m3 d3] rfl 0 (by decide)
  have hk1 := LR1.out.setCell [.int .i64 0, .bool g3, .slice A3 n3 c3, .slice B3 m3 d3] rfl 1 (by decide)
  have hk2 := LR1.out.setCell [.int .i64 0, .bool g3, .slice A3 n3 c3, .slice B3 m3 d3] rfl 2 (by decide)
  have hk3 := LR1.out.setCell [.int .i64 0, .bool g3, .slice A3 n3 c3, .slice B3 m3 d3] rfl 3 (by decide)
  have F := Lib.hid (below_sets (w0 := w) (r := (w.heap.size + 2)) (by omega) [.int .i64 0, .bool g3, .slice A3 n3 c3, .slice B3 m3 d3] 0 _ LB1.out)
  simp [sets] at hk0 hk1 hk2 hk3
  go_wp2
  refine bodyPost_ret (v := .agg #[.int .i64 0, .bool g3, .slice A3 n3 c3, .slice B3 m3 d3]) (by simp [results, Tryz.results126, go_sem, hk0, hk1, hk2, hk3]) rfl ?_
  exact ⟨_, _, _, _, _, _, _, rfl, FR.out, F.out⟩

theorem sum6_any (K : Nat) (s1 : Int) (g1 : Bool) (A1 : Option Addr) (n1 c1 : Nat) (B1 : Option Addr) (m1 d1 : Nat) (x1 : Rat) (s2 : Int) (g2 : Bool) (A2 : Option Addr) (n2 c2 : Nat) (B2 : Option Addr) (m2 d2 : Nat) (x2 : Rat) (w : World) (h1 : RatV w K g1 (.slice A1 n1 c1) (.slice B1 m1 d1) x1) (h2 : RatV w K g2 (.slice A2 n2 c2) (.slice B2 m2 d2) x2) (hK : K ≤ 1048576) :
    Calls Tryz.prog 126 #[.agg #[.int .i64 s1, .bool g1, .slice A1 n1 c1, .slice B1 m1 d1], .agg #[.int .i64 s2, .bool g2, .slice A2 n2 c2, .slice B2 m2 d2]] w (NewEnd w (2 * K + 1) (es2 s1 s2) (ex2 s1 x1 s2 x2)) := by
  unfold es2 ex2
  by_cases hs1 : s1 = 0
  · subst hs1
    rw [if_neg (fun h => h rfl), if_neg (fun h => h rfl)]
    by_cases hs2 : s2 = 0
    · subst hs2
      rw [if_neg (fun h => h rfl)]
      exact sum6_both K g1 A1 n1 c1 B1 m1 d1 x1 g2 A2 n2 c2 B2 m2 d2 x2 w h1 h2 hK
    · rw [if_pos hs2]
      exact (sum6_right K s2 g1 A1 n1 c1 B1 m1 d1 x1 g2 A2 n2 c2 B2 m2 d2 x2 w h1 h2 hs2).mono fun _ _ h => h.up (by omega)
  · rw [if_pos hs1, if_pos hs1]
    exact (sum6_left K s1 s2 g1 A1 n1 c1 B1 m1 d1 x1 g2 A2 n2 c2 B2 m2 d2 x2 w h1 h2 hs1).mono fun _ _ h => h.up (by omega)

set_option maxHeartbeats 3200000 in
theorem none6 (w : World) : Calls Tryz.prog 125 #[] w (NewSet w 1 true 0 0 0 0) := by
  have HF := Lib.hid fun W => finite_nat 0 W (by omega)
  have LB0 := Lib.hid (show Below w.heap.size w (w.alloc (.cells #[.bool false, .int .i64 0, .bool false, .slice none 0 0, .slice none 0 0, .int .i64 0, .bool false, .slice none 0 0, .slice none 0 0] 69)) from (below_alloc w _))
  have LR0 := Lib.hid (HasBlk.of (n := 9) (Blk.at (W := w) (g := w.heap.size) (by simp <;> omega) 69 #[.bool false, .int .i64 0, .bool false, .slice none 0 0, .slice none 0 0, .int .i64 0, .bool false, .slice none 0 0, .slice none 0 0]) rfl rfl)
  go_enter Tryz.func125, Tryz.ntmps125
  go_wp2_with fail
  refine (HF.out _).mono ?_
  rintro e w1 ⟨g3, A3, n3, c3, B3, m3, d3, rfl, h3, hb3⟩
  have LB1 := Lib.hid (LB0.out.trans (hb3.mono LB0.out.size))
  have LR1 := Lib.hid (LR0.out.keep hb3)
  clear LB0 LR0
  go_wp2_with fail
  refine (HF.out _).mono ?_
  rintro e w2 ⟨g4, A4, n4, c4, B4, m4, d4, rfl, h4, hb4⟩
  have LB2 := Lib.hid (LB1.out.trans (hb4.mono LB1.out.size))
  have LR2 := Lib.hid (LR1.out.keep hb4)
  clear LB1 LR1
  have FR1 := Lib.hid (LR2.out.rat (h3.below hb4) [.bool true, .int .i64 0, .bool g3, .slice A3 n3 c3, .slice B3 m3 d3, .int .i64 0, .bool g4, .slice A4 n4 c4, .slice B4 m4 d4])
  have FR2 := Lib.hid (LR2.out.rat h4 [.bool true, .int .i64 0, .bool g3, .slice A3 n3 c3, .slice B3 m3 d3, .int .i64 0, .bool g4, .slice A4 n4 c4, .slice B4 m4 d4])
  clear h3 h4 hb3 hb4 HF
  have ha0 := LR2.out.someCell 0 (by decide)
  have hf0 := LR2.out.frozen 0
  have ha1 := LR2.out.someCell 1 (by decide)
  have hf1 := LR2.out.frozen 1
  have ha2 := LR2.out.someCell 2 (by decide)
  have hf2 := LR2.out.frozen 2
  have ha3 := LR2.out.someCell 3 (by decide)
  have hf3 := LR2.out.frozen 3
  have ha4 := LR2.out.someCell 4 (by decide)
  have hf4 := LR2.out.frozen 4
  have ha5 := LR2.out.someCell 5 (by decide)
  have hf5 := LR2.out.frozen 5
  have ha6 := LR2.out.someCell 6 (by decide)
  have hf6 := LR2.out.frozen 6
  have ha7 := LR2.out.someCell 7 (by decide)
  have hf7 := LR2.out.frozen 7
  have ha8 := LR2.out.someCell 8 (by decide)
  have hf8 := LR2.out.frozen 8
  have hk0 := LR2.out.setCell [.bool true, .int .i64 0, .bool g3, .slice A3 n3 c3, .slice B3 m3 d3, .int .i64 0, .bool g4, .slice A4 n4 c4, .slice B4 m4 d4] rfl 0 (by decide)
  have hk1 := LR2.out.setCell [.bool true, .int .i64 0, .bool g3, .slice A3 n3 c3, .slice B3 m3 d3, .int .i64 0, .bool g4, .slice A4 n4 c4, .slice B4 m4 d4] rfl 1 (by decide)
  have hk2 := LR2.out.setCell [.bool true, .int .i64 0, .bool g3, .slice A3 n3 c3, .slice B3 m3 d3, .int .i64 0, .bool g4, .slice A4 n4 c4, .slice B4 m4 d4] rfl 2 (by decide)
  have hk3 := LR2.out.setCell [.bool true, .int .i64 0, .bool g3, .slice A3 n3 c3, .slice B3 m3 d3, .int .i64 0, .bool g4, .slice A4 n4 c4, .slice B4 m4 d4] rfl 3 (by decide)
  have hk4 := LR2.out.setCell [.bool true, .int .i64 0, .bool g3, .slice A3 n3 c3, .slice B3 m3 d3, .int .i64 0, .bool g4, .slice A4 n4 c4, .slice B4 m4 d4] rfl 4 (by decide)
  have hk5 := LR2.out.setCell [.bool true, .int .i64 0, .bool g3, .slice A3 n3 c3, .slice B3 m3 d3, .int .i64 0, .bool g4, .slice A4 n4 c4, .slice B4 m4 d4] rfl 5 (by decide)
  have hk6 := LR2.out.setCell [.bool true, .int .i64 0, .bool g3, .slice A3 n3 c3, .slice B3 m3 d3, .int .i64 0, .bool g4, .slice A4 n4 c4, .slice B4 m4 d4] rfl 6 (by decide)
  have hk7 := LR2.out.setCell [.bool true, .int .i64 0, .bool g3, .slice A3 n3 c3, .slice B3 m3 d3, .int .i64 0, .bool g4, .slice A4 n4 c4, .slice B4 m4 d4] rfl 7 (by decide)
  have hk8 := LR2.out.setCell [.bool true, .int .i64 0, .bool g3, .slice A3 n3 c3, .slice B3 m3 d3, .int .i64 0, .bool g4, .slice A4 n4 c4, .slice B4 m4 d4] rfl 8 (by decide)
  have F := Lib.hid (below_sets (w0 := w) (r := w.heap.size) (by omega) [.bool true, .int .i64 0, .bool g3, .slice A3 n3 c3, .slice B3 m3 d3, .int .i64 0, .bool g4, .slice A4 n4 c4, .slice B4 m4 d4] 0 _ LB2.out)
  simp [sets] at hk0 hk1 hk2 hk3 hk4 hk5 hk6 hk7 hk8
  go_wp2
  refine bodyPost_ret (v := .agg #[.bool true, .int .i64 0, .bool g3, .slice A3 n3 c3, .slice B3 m3 d3, .int .i64 0, .bool g4, .slice A4 n4 c4, .slice B4 m4 d4]) (by simp [results, Tryz.results125, go_sem, hk0, hk1, hk2, hk3, hk4, hk5, hk6, hk7, hk8]) rfl ?_
  exact ⟨_, _, _, _, _, _, _, _, _, _, _, _, _, _, rfl, FR1.out, FR2.out, F.out⟩

set_option maxHeartbeats 3200000 in
theorem plus6_none1 (o : Bool) (s1 : Int) (g1 : Bool) (A1 : Option Addr) (n1 c1 : Nat) (B1 : Option Addr) (m1 d1 : Nat) (s2 : Int) (g2 : Bool) (A2 : Option Addr) (n2 c2 : Nat) (B2 : Option Addr) (m2 d2 : Nat) (s3 : Int) (g3 : Bool) (A3 : Option Addr) (n3 c3 : Nat) (B3 : Option Addr) (m3 d3 : Nat) (s4 : Int) (g4 : Bool) (A4 : Option Addr) (n4 c4 : Nat) (B4 : Option Addr) (m4 d4 : Nat) (w : World) :
    Calls Tryz.prog 56 #[.agg #[.bool true, .int .i64 s1, .bool g1, .slice A1 n1 c1, .slice B1 m1 d1, .int .i64 s2, .bool g2, .slice A2 n2 c2, .slice B2 m2 d2], .agg #[.bool o, .int .i64 s3, .bool g3, .slice A3 n3 c3, .slice B3 m3 d3, .int .i64 s4, .bool g4, .slice A4 n4 c4, .slice B4 m4 d4]] w (NewSet w 1 true 0 0 0 0) := by
  have HN := Lib.hid none6
  have LB0 := Lib.hid (show Below w.heap.size w (((w.alloc (.cells #[.bool true, .int .i64 s1, .bool g1, .slice A1 n1 c1, .slice B1 m1 d1, .int .i64 s2, .bool g2, .slice A2 n2 c2, .slice B2 m2 d2] 69)).alloc (.cells #[.bool o, .int .i64 s3, .bool g3, .slice A3 n3 c3, .slice B3 m3 d3, .int .i64 s4, .bool g4, .slice A4 n4 c4, .slice B4 m4 d4] 69)).alloc (.cells #[.bool false, .int .i64 0, .bool false, .slice none 0 0, .slice none 0 0, .int .i64 0, .bool false, .slice none 0 0, .slice none 0 0] 69)) from (((below_alloc w _).alloc (by simp <;> omega) _).alloc (by simp <;> omega) _))
  have LG0_0 := Lib.hid ((((Blk.at (W := w) (g := w.heap.size) (by simp <;> omega) 69 #[.bool true, .int .i64 s1, .bool g1, .slice A1 n1 c1, .slice B1 m1 d1, .int .i64 s2, .bool g2, .slice A2 n2 c2, .slice B2 m2 d2]).alloc (.cells #[.bool o, .int .i64 s3, .bool g3, .slice A3 n3 c3, .slice B3 m3 d3, .int .i64 s4, .bool g4, .slice A4 n4 c4, .slice B4 m4 d4] 69)).alloc (.cells #[.bool false, .int .i64 0, .bool false, .slice none 0 0, .slice none 0 0, .int .i64 0, .bool false, .slice none 0 0, .slice none 0 0] 69)))
  have LG1_0 := Lib.hid (((Blk.at (W := (w.alloc (.cells #[.bool true, .int .i64 s1, .bool g1, .slice A1 n1 c1, .slice B1 m1 d1, .int .i64 s2, .bool g2, .slice A2 n2 c2, .slice B2 m2 d2] 69))) (g := (w.heap.size + 1)) (by simp <;> omega) 69 #[.bool o, .int .i64 s3, .bool g3, .slice A3 n3 c3, .slice B3 m3 d3, .int .i64 s4, .bool g4, .slice A4 n4 c4, .slice B4 m4 d4]).alloc (.cells #[.bool false, .int .i64 0, .bool false, .slice none 0 0, .slice none 0 0, .int .i64 0, .bool false, .slice none 0 0, .slice none 0 0] 69)))
  have LR0 := Lib.hid (HasBlk.of (n := 9) (Blk.at (W := ((w.alloc (.cells #[.bool true, .int .i64 s1, .bool g1, .slice A1 n1 c1, .slice B1 m1 d1, .int .i64 s2, .bool g2, .slice A2 n2 c2, .slice B2 m2 d2] 69)).alloc (.cells #[.bool o, .int .i64 s3, .bool g3, .slice A3 n3 c3, .slice B3 m3 d3, .int .i64 s4, .bool g4, .slice A4 n4 c4, .slice B4 m4 d4] 69))) (g := (w.heap.size + 2)) (by simp <;> omega) 69 #[.bool false, .int .i64 0, .bool false, .slice none 0 0, .slice none 0 0, .int .i64 0, .bool false, .slice none 0 0, .slice none 0 0]) rfl rfl)
  go_enter Tryz.func56, Tryz.ntmps56
  go_wp2_with fail
  refine (HN.out _).mono ?_
  rintro e w1 ⟨g5, A5, n5, c5, B5, m5, d5, g6, A6, n6, c6, B6, m6, d6, rfl, h5, h6, hb5⟩
  have LB1 := Lib.hid (LB0.out.trans (hb5.mono LB0.out.size))
  have LR1 := Lib.hid (LR0.out.keep hb5)
  have LG0_1 := Lib.hid (LG0_0.out.keep hb5)
  have LG1_1 := Lib.hid (LG1_0.out.keep hb5)
  clear LB0 LR0 LG0_0 LG1_0
  have FR1 := Lib.hid (LR1.out.rat h5 [.bool true, .int .i64 0, .bool g5, .slice A5 n5 c5, .slice B5 m5 d5, .int .i64 0, .bool g6, .slice A6 n6 c6, .slice B6 m6 d6])
  have FR2 := Lib.hid (LR1.out.rat h6 [.bool true, .int .i64 0, .bool g5, .slice A5 n5 c5, .slice B5 m5 d5, .int .i64 0, .bool g6, .slice A6 n6 c6, .slice B6 m6 d6])
  clear h5 h6 hb5 HN
  have ha0 := LR1.out.someCell 0 (by decide)
  have hf0 := LR1.out.frozen 0
  have ha1 := LR1.out.someCell 1 (by decide)
  have hf1 := LR1.out.frozen 1
  have ha2 := LR1.out.someCell 2 (by decide)
  have hf2 := LR1.out.frozen 2
  have ha3 := LR1.out.someCell 3 (by decide)
  have hf3 := LR1.out.frozen 3
  have ha4 := LR1.out.someCell 4 (by decide)
  have hf4 := LR1.out.frozen 4
  have ha5 := LR1.out.someCell 5 (by decide)
  have hf5 := LR1.out.frozen 5
  have ha6 := LR1.out.someCell 6 (by decide)
  have hf6 := LR1.out.frozen 6
  have ha7 := LR1.out.someCell 7 (by decide)
  have hf7 := LR1.out.frozen 7
  have ha8 := LR1.out.someCell 8 (by decide)
  have hf8 := LR1.out.frozen 8
  have hk0 := LR1.out.setCell [.bool true, .int .i64 0, .bool g5, .slice A5 n5 c5, .slice B5 m5 d5, .int .i64 0, .bool g6, .slice A6 n6 c6, .slice B6 m6 d6] rfl 0 (by decide)
  have hk1 := LR1.out.setCell [.bool true, .int .i64 0, .bool g5, .slice A5 n5 c5, .slice B5 m5 d5, .int .i64 0, .bool g6, .slice A6 n6 c6, .slice B6 m6 d6] rfl 1 (by decide)
  have hk2 := LR1.out.setCell [.bool true, .int .i64 0, .bool g5, .slice A5 n5 c5, .slice B5 m5 d5, .int .i64 0, .bool g6, .slice A6 n6 c6, .slice B6 m6 d6] rfl 2 (by decide)
  have hk3 := LR1.out.setCell [.bool true, .int .i64 0, .bool g5, .slice A5 n5 c5, .slice B5 m5 d5, .int .i64 0, .bool g6, .slice A6 n6 c6, .slice B6 m6 d6] rfl 3 (by decide)
  have hk4 := LR1.out.setCell [.bool true, .int .i64 0, .bool g5, .slice A5 n5 c5, .slice B5 m5 d5, .int .i64 0, .bool g6, .slice A6 n6 c6, .slice B6 m6 d6] rfl 4 (by decide)
  have hk5 := LR1.out.setCell [.bool true, .int .i64 0, .bool g5, .slice A5 n5 c5, .slice B5 m5 d5, .int .i64 0, .bool g6, .slice A6 n6 c6, .slice B6 m6 d6] rfl 5 (by decide)
  have hk6 := LR1.out.setCell [.bool true, .int .i64 0, .bool g5, .slice A5 n5 c5, .slice B5 m5 d5, .int .i64 0, .bool g6, .slice A6 n6 c6, .slice B6 m6 d6] rfl 6 (by decide)
  have hk7 := LR1.out.setCell [.bool true, .int .i64 0, .bool g5, .slice A5 n5 c5, .slice B5 m5 d5, .int .i64 0, .bool g6, .slice A6 n6 c6, .slice B6 m6 d6] rfl 7 (by decide)
  have hk8 := LR1.out.setCell [.bool true, .int .i64 0, .bool g5, .slice A5 n5 c5, .slice B5 m5 d5, .int .i64 0, .bool g6, .slice A6 n6 c6, .slice B6 m6 d6] rfl 8 (by decide)
  have F := Lib.hid (below_sets (w0 := w) (r := (w.heap.size + 2)) (by omega) [.bool true, .int .i64 0, .bool g5, .slice A5 n5 c5, .slice B5 m5 d5, .int .i64 0, .bool g6, .slice A6 n6 c6, .slice B6 m6 d6] 0 _ LB1.out)
  simp [sets] at hk0 hk1 hk2 hk3 hk4 hk5 hk6 hk7 hk8
  go_wp2
  refine bodyPost_ret (v := .agg #[.bool true, .int .i64 0, .bool g5, .slice A5 n5 c5, .slice B5 m5 d5, .int .i64 0, .bool g6, .slice A6 n6 c6, .slice B6 m6 d6]) (by simp [results, Tryz.results56, go_sem, hk0, hk1, hk2, hk3, hk4, hk5, hk6, hk7, hk8]) rfl ?_
  exact ⟨_, _, _, _, _, _, _, _, _, _, _, _, _, _, rfl, FR1.out, FR2.out, F.out⟩

set_option maxHeartbeats 3200000 in
theorem plus6_none2 (s1 : Int) (g1 : Bool) (A1 : Option Addr) (n1 c1 : Nat) (B1 : Option Addr) (m1 d1 : Nat) (s2 : Int) (g2 : Bool) (A2 : Option Addr) (n2 c2 : Nat) (B2 : Option Addr) (m2 d2 : Nat) (s3 : Int) (g3 : Bool) (A3 : Option Addr) (n3 c3 : Nat) (B3 : Option Addr) (m3 d3 : Nat) (s4 : Int) (g4 : Bool) (A4 : Option Addr) (n4 c4 : Nat) (B4 : Option Addr) (m4 d4 : Nat) (w : World) :
    Calls Tryz.prog 56 #[.agg #[.bool false, .int .i64 s1, .bool g1, .slice A1 n1 c1, .slice B1 m1 d1, .int .i64 s2, .bool g2, .slice A2 n2 c2, .slice B2 m2 d2], .agg #[.bool true, .int .i64 s3, .bool g3, .slice A3 n3 c3, .slice B3 m3 d3, .int .i64 s4, .bool g4, .slice A4 n4 c4, .slice B4 m4 d4]] w (NewSet w 1 true 0 0 0 0) := by
  have HN := Lib.hid none6
  have LB0 := Lib.hid (show Below w.heap.size w (((w.alloc (.cells #[.bool false, .int .i64 s1, .bool g1, .slice A1 n1 c1, .slice B1 m1 d1, .int .i64 s2, .bool g2, .slice A2 n2 c2, .slice B2 m2 d2] 69)).alloc (.cells #[.bool true, .int .i64 s3, .bool g3, .slice A3 n3 c3, .slice B3 m3 d3, .int .i64 s4, .bool g4, .slice A4 n4 c4, .slice B4 m4 d4] 69)).alloc (.cells #[.bool false, .int .i64 0, .bool false, .slice none 0 0, .slice none 0 0, .int .i64 0, .bool false, .slice none 0 0, .slice none 0 0] 69)) from (((below_alloc w _).alloc (by simp <;> omega) _).alloc (by simp <;> omega) _))
  have LG0_0 := Lib.hid ((((Blk.at (W := w) (g := w.heap.size) (by simp <;> omega) 69 #[.bool false, .int .i64 s1, .bool g1, .slice A1 n1 c1, .slice B1 m1 d1, .int .i64 s2, .bool g2, .slice A2 n2 c2, .slice B2 m2 d2]).alloc (.cells #[.bool true, .int .i64 s3, .bool g3, .slice A3 n3 c3, .slice B3 m3 d3, .int .i64 s4, .bool g4, .slice A4 n4 c4, .slice B4 m4 d4] 69)).alloc (.cells #[.bool false, .int .i64 0, .bool false, .slice none 0 0, .slice none 0 0, .int .i64 0, .bool false, .slice none 0 0, .slice none 0 0] 69)))
  have LG1_0 := Lib.hid (((Blk.at (W := (w.alloc (.cells #[.bool false, .int .i64 s1, .bool g1, .slice A1 n1 c1, .slice B1 m1 d1, .int .i64 s2, .bool g2, .slice A2 n2 c2, .slice B2 m2 d2] 69))) (g := (w.heap.size + 1)) (by simp <;> omega) 69 #[.bool true, .int .i64 s3, .bool g3, .slice A3 n3 c3, .slice B3 m3 d3, .int .i64 s4, .bool g4, .slice A4 n4 c4, .slice B4 m4 d4]).alloc (.cells #[.bool false, .int .i64 0, .bool false, .slice none 0 0, .slice none 0 0, .int .i64 0, .bool false, .slice none 0 0, .slice none 0 0] 69)))
  have LR0 := Lib.hid (HasBlk.of (n := 9) (Blk.at (W := ((w.alloc (.cells #[.bool false, .int .i64 s1, .bool g1, .slice A1 n1 c1, .slice B1 m1 d1, .int .i64 s2, .bool g2, .slice A2 n2 c2, .slice B2 m2 d2] 69)).alloc (.cells #[.bool true, .int .i64 s3, .bool g3, .slice A3 n3 c3, .slice B3 m3 d3, .int .i64 s4, .bool g4, .slice A4 n4 c4, .slice B4 m4 d4] 69))) (g := (w.heap.size + 2)) (by simp <;> omega) 69 #[.bool false, .int .i64 0, .bool false, .slice none 0 0, .slice none 0 0, .int .i64 0, .bool false, .slice none 0 0, .slice none 0 0]) rfl rfl)
  go_enter Tryz.func56, Tryz.ntmps56
  go_wp2_with fail
  refine (HN.out _).mono ?_
  rintro e w1 ⟨g5, A5, n5, c5, B5, m5, d5, g6, A6, n6, c6, B6, m6, d6, rfl, h5, h6, hb5⟩
  have LB1 := Lib.hid (LB0.out.trans (hb5.mono LB0.out.size))
  have LR1 := Lib.hid (LR0.out.keep hb5)
  have LG0_1 := Lib.hid (LG0_0.out.keep hb5)
  have LG1_1 := Lib.hid (LG1_0.out.keep hb5)
  clear LB0 LR0 LG0_0 LG1_0
  have FR1 := Lib.hid (LR1.out.rat h5 [.bool true, .int .i64 0, .bool g5, .slice A5 n5 c5, .slice B5 m5 d5, .int .i64 0, .bool g6, .slice A6 n6 c6, .slice B6 m6 d6])
  have FR2 := Lib.hid (LR1.out.rat h6 [.bool true, .int .i64 0, .bool g5, .slice A5 n5 c5, .slice B5 m5 d5, .int .i64 0, .bool g6, .slice A6 n6 c6, .slice B6 m6 d6])
  clear h5 h6 hb5 HN
  have ha0 := LR1.out.someCell 0 (by decide)
  have hf0 := LR1.out.frozen 0
  have ha1 := LR1.out.someCell 1 (by decide)
  have hf1 := LR1.out.frozen 1
  have ha2 := LR1.out.someCell 2 (by decide)
  have hf2 := LR1.out.frozen 2
  have ha3 := LR1.out.someCell 3 (by decide)
  have hf3 := LR1.out.frozen 3
  have ha4 := LR1.out.someCell 4 (by decide)
  have hf4 := LR1.out.frozen 4
  have ha5 := LR1.out.someCell 5 (by decide)
  have hf5 := LR1.out.frozen 5
  have ha6 := LR1.out.someCell 6 (by decide)
  have hf6 := LR1.out.frozen 6
  have ha7 := LR1.out.someCell 7 (by decide)
  have hf7 := LR1.out.frozen 7
  have ha8 := LR1.out.someCell 8 (by decide)
  have hf8 := LR1.out.frozen 8
  have hk0 := LR1.out.setCell [.bool true, .int .i64 0, .bool g5, .slice A5 n5 c5, .slice B5 m5 d5, .int .i64 0, .bool g6, .slice A6 n6 c6, .slice B6 m6 d6] rfl 0 (by decide)
  have hk1 := LR1.out.setCell [.bool true, .int .i64 0, .bool g5, .slice A5 n5 c5, .slice B5 m5 d5, .int .i64 0, .bool g6, .slice A6 n6 c6, .slice B6 m6 d6] rfl 1 (by decide)
  have hk2 := LR1.out.setCell [.bool true, .int .i64 0, .bool g5, .slice A5 n5 c5, .slice B5 m5 d5, .int .i64 0, .bool g6, .slice A6 n6 c6, .slice B6 m6 d6] rfl 2 (by decide)
  have hk3 := LR1.out.setCell [.bool true, .int .i64 0, .bool g5, .slice A5 n5 c5, .slice B5 m5 d5, .int .i64 0, .bool g6, .slice A6 n6 c6, .slice B6 m6 d6] rfl 3 (by decide)
  have hk4 := LR1.out.setCell [.bool true, .int .i64 0, .bool g5, .slice A5 n5 c5, .slice B5 m5 d5, .int .i64 0, .bool g6, .slice A6 n6 c6, .slice B6 m6 d6] rfl 4 (by decide)
  have hk5 := LR1.out.setCell [.bool true, .int .i64 0, .bool g5, .slice A5 n5 c5, .slice B5 m5 d5, .int .i64 0, .bool g6, .slice A6 n6 c6, .slice B6 m6 d6] rfl 5 (by decide)
  have hk6 := LR1.out.setCell [.bool true, .int .i64 0, .bool g5, .slice A5 n5 c5, .slice B5 m5 d5, .int .i64 0, .bool g6, .slice A6 n6 c6, .slice B6 m6 d6] rfl 6 (by decide)
  have hk7 := LR1.out.setCell [.bool true, .int .i64 0, .bool g5, .slice A5 n5 c5, .slice B5 m5 d5, .int .i64 0, .bool g6, .slice A6 n6 c6, .slice B6 m6 d6] rfl 7 (by decide)
  have hk8 := LR1.out.setCell [.bool true, .int .i64 0, .bool g5, .slice A5 n5 c5, .slice B5 m5 d5, .int .i64 0, .bool g6, .slice A6 n6 c6, .slice B6 m6 d6] rfl 8 (by decide)
  have F := Lib.hid (below_sets (w0 := w) (r := (w.heap.size + 2)) (by omega) [.bool true, .int .i64 0, .bool g5, .slice A5 n5 c5, .slice B5 m5 d5, .int .i64 0, .bool g6, .slice A6 n6 c6, .slice B6 m6 d6] 0 _ LB1.out)
  simp [sets] at hk0 hk1 hk2 hk3 hk4 hk5 hk6 hk7 hk8
  go_wp2
  refine bodyPost_ret (v := .agg #[.bool true, .int .i64 0, .bool g5, .slice A5 n5 c5, .slice B5 m5 d5, .int .i64 0, .bool g6, .slice A6 n6 c6, .slice B6 m6 d6]) (by simp [results, Tryz.results56, go_sem, hk0, hk1, hk2, hk3, hk4, hk5, hk6, hk7, hk8]) rfl ?_
  exact ⟨_, _, _, _, _, _, _, _, _, _, _, _, _, _, rfl, FR1.out, FR2.out, F.out⟩

set_option maxHeartbeats 3200000 in
theorem plus6_some (K : Nat) (s1 : Int) (g1 : Bool) (A1 : Option Addr) (n1 c1 : Nat) (B1 : Option Addr) (m1 d1 : Nat) (x1 : Rat) (s2 : Int) (g2 : Bool) (A2 : Option Addr) (n2 c2 : Nat) (B2 : Option Addr) (m2 d2 : Nat) (x2 : Rat) (s3 : Int) (g3 : Bool) (A3 : Option Addr) (n3 c3 : Nat) (B3 : Option Addr) (m3 d3 : Nat) (x3 : Rat) (s4 : Int) (g4 : Bool) (A4 : Option Addr) (n4 c4 : Nat) (B4 : Option Addr) (m4 d4 : Nat) (x4 : Rat) (w : World) (h1 : RatV w K g1 (.slice A1 n1 c1) (.slice B1 m1 d1) x1) (h2 : RatV w K g2 (.slice A2 n2 c2) (.slice B2 m2 d2) x2) (h3 : RatV w K g3 (.slice A3 n3 c3) (.slice B3 m3 d3) x3) (h4 : RatV w K g4 (.slice A4 n4 c4) (.slice B4 m4 d4) x4) (hK : K ≤ 1048576) :
    Calls Tryz.prog 56 #[.agg #[.bool false, .int .i64 s1, .bool g1, .slice A1 n1 c1, .slice B1 m1 d1, .int .i64 s2, .bool g2, .slice A2 n2 c2, .slice B2 m2 d2], .agg #[.bool false, .int .i64 s3, .bool g3, .slice A3 n3 c3, .slice B3 m3 d3, .int .i64 s4, .bool g4, .slice A4 n4 c4, .slice B4 m4 d4]] w
      (NewSet w (2 * K + 1) false (es2 s1 s3) (ex2 s1 x1 s3 x3) (es2 s2 s4) (ex2 s2 x2 s4 x4)) := by
  have T1 := Lib.hid fun W (hW : Below w.heap.size w W) => sum6_any K s1 g1 A1 n1 c1 B1 m1 d1 x1 s3 g3 A3 n3 c3 B3 m3 d3 x3 W (h1.below hW) (h3.below hW) hK
  have T2 := Lib.hid fun W (hW : Below w.heap.size w W) => sum6_any K s2 g2 A2 n2 c2 B2 m2 d2 x2 s4 g4 A4 n4 c4 B4 m4 d4 x4 W (h2.below hW) (h4.below hW) hK
  obtain ⟨s5, e1⟩ : ∃ s, es2 s1 s3 = s := ⟨_, rfl⟩
  obtain ⟨x5, e2⟩ : ∃ s, ex2 s1 x1 s3 x3 = s := ⟨_, rfl⟩
  obtain ⟨s6, e3⟩ : ∃ s, es2 s2 s4 = s := ⟨_, rfl⟩
  obtain ⟨x6, e4⟩ : ∃ s, ex2 s2 x2 s4 x4 = s := ⟨_, rfl⟩
  rw [e1, e2] at T1 ⊢
  rw [e3, e4] at T2 ⊢
  clear h1 h2 h3 h4 e1 e2 e3 e4
  have LB0 := Lib.hid (show Below w.heap.size w (((w.alloc (.cells #[.bool false, .int .i64 s1, .bool g1, .slice A1 n1 c1, .slice B1 m1 d1, .int .i64 s2, .bool g2, .slice A2 n2 c2, .slice B2 m2 d2] 69)).alloc (.cells #[.bool false, .int .i64 s3, .bool g3, .slice A3 n3 c3, .slice B3 m3 d3, .int .i64 s4, .bool g4, .slice A4 n4 c4, .slice B4 m4 d4] 69)).alloc (.cells #[.bool false, .int .i64 0, .bool false, .slice none 0 0, .slice none 0 0, .int .i64 0, .bool false, .slice none 0 0, .slice none 0 0] 69)) from (((below_alloc w _).alloc (by simp <;> omega) _).alloc (by simp <;> omega) _))
  have LG0_0 := Lib.hid ((((Blk.at (W := w) (g := w.heap.size) (by simp <;> omega) 69 #[.bool false, .int .i64 s1, .bool g1, .slice A1 n1 c1, .slice B1 m1 d1, .int .i64 s2, .bool g2, .slice A2 n2 c2, .slice B2 m2 d2]).alloc (.cells #[.bool false, .int .i64 s3, .bool g3, .slice A3 n3 c3, .slice B3 m3 d3, .int .i64 s4, .bool g4, .slice A4 n4 c4, .slice B4 m4 d4] 69)).alloc (.cells #[.bool false, .int .i64 0, .bool false, .slice none 0 0, .slice none 0 0, .int .i64 0, .bool false, .slice none 0 0, .slice none 0 0] 69)))
  have LG1_0 := Lib.hid (((Blk.at (W := (w.alloc (.cells #[.bool false, .int .i64 s1, .bool g1, .slice A1 n1 c1, .slice B1 m1 d1, .int .i64 s2, .bool g2, .slice A2 n2 c2, .slice B2 m2 d2] 69))) (g := (w.heap.size + 1)) (by simp <;> omega) 69 #[.bool false, .int .i64 s3, .bool g3, .slice A3 n3 c3, .slice B3 m3 d3, .int .i64 s4, .bool g4, .slice A4 n4 c4, .slice B4 m4 d4]).alloc (.cells #[.bool false, .int .i64 0, .bool false, .slice none 0 0, .slice none 0 0, .int .i64 0, .bool false, .slice none 0 0, .slice none 0 0] 69)))
  have LR0 := Lib.hid (HasBlk.of (n := 9) (Blk.at (W := ((w.alloc (.cells #[.bool false, .int .i64 s1, .bool g1, .slice A1 n1 c1, .slice B1 m1 d1, .int .i64 s2, .bool g2, .slice A2 n2 c2, .slice B2 m2 d2] 69)).alloc (.cells #[.bool false, .int .i64 s3, .bool g3, .slice A3 n3 c3, .slice B3 m3 d3, .int .i64 s4, .bool g4, .slice A4 n4 c4, .slice B4 m4 d4] 69))) (g := (w.heap.size + 2)) (by simp <;> omega) 69 #[.bool false, .int .i64 0, .bool false, .slice none 0 0, .slice none 0 0, .int .i64 0, .bool false, .slice none 0 0, .slice none 0 0]) rfl rfl)
  go_enter Tryz.func56, Tryz.ntmps56
  go_wp2_with fail
  refine wp_region_held_drew (S := fun W' => Blk W' w.heap.size 69 #[.bool false, .int .i64 s1, .bool g1, .slice A1 n1 c1, .slice B1 m1 d1, .int .i64 s2, .bool g2, .slice A2 n2 c2, .slice B2 m2 d2] ∧ Blk W' (w.heap.size + 1) 69 #[.bool false, .int .i64 s3, .bool g3, .slice A3 n3 c3, .slice B3 m3 d3, .int .i64 s4, .bool g4, .slice A4 n4 c4, .slice B4 m4 d4] ∧ HasBlk W' (w.heap.size + 2) 69 9 ∧ Below w.heap.size w W') (by kernel_rfl) (by exact ⟨LG0_0.out.drew, LG1_0.out.drew, LR0.out.drew, LB0.out.drew⟩) (fun hHeld => ?_)
  refine wpAnyH_take (i := 0) (v := ?_) rfl (by kernel_rfl) (by kernel_rfl) (by kernel_rfl) (fun _ _ _ h => h) (Or.inl ⟨by rfl, ?_⟩) (by assumption) ?_
  rotate_left
  · (intro W2 hSw; go_simp; (try with_reducible rfl))
  try simp only [Act.put, List.getElem_toArray, List.getElem_cons_succ, List.getElem_cons_zero, List.setIfInBounds_toArray, List.set_cons_zero, List.set_cons_succ]
  refine wpAnyH_take (i := 1) (v := ?_) rfl (by kernel_rfl) (by kernel_rfl) (by kernel_rfl) (fun _ _ _ h => h) (Or.inl ⟨by rfl, ?_⟩) (by assumption) ?_
  rotate_left
  · (intro W2 hSw; (try dsimp only at hSw); have q0 : _ = some (.bool false : Value) := hSw.1.cell 0; have q1 : _ = some (.int .i64 s1 : Value) := hSw.1.cell 1; have q2 : _ = some (.bool g1 : Value) := hSw.1.cell 2; have q3 : _ = some (.slice A1 n1 c1 : Value) := hSw.1.cell 3; have q4 : _ = some (.slice B1 m1 d1 : Value) := hSw.1.cell 4; have q5 : _ = some (.int .i64 s2 : Value) := hSw.1.cell 5; have q6 : _ = some (.bool g2 : Value) := hSw.1.cell 6; have q7 : _ = some (.slice A2 n2 c2 : Value) := hSw.1.cell 7; have q8 : _ = some (.slice B2 m2 d2 : Value) := hSw.1.cell 8; go_simp; (try with_reducible rfl))
  try simp only [Act.put, List.getElem_toArray, List.getElem_cons_succ, List.getElem_cons_zero, List.setIfInBounds_toArray, List.set_cons_zero, List.set_cons_succ]
  refine wpAnyH_take (i := 2) (v := ?_) rfl (by kernel_rfl) (by kernel_rfl) (by kernel_rfl) (fun _ _ _ h => h) (Or.inl ⟨by rfl, ?_⟩) (by assumption) ?_
  rotate_left
  · (intro W2 hSw; go_simp; (try with_reducible rfl))
  try simp only [Act.put, List.getElem_toArray, List.getElem_cons_succ, List.getElem_cons_zero, List.setIfInBounds_toArray, List.set_cons_zero, List.set_cons_succ]
  refine wpAnyH_take (i := 3) (v := ?_) rfl (by kernel_rfl) (by kernel_rfl) (by kernel_rfl) (fun _ _ _ h => h) (Or.inl ⟨by rfl, ?_⟩) (by assumption) ?_
  rotate_left
  · (intro W2 hSw; (try dsimp only at hSw); have q0 : _ = some (.bool false : Value) := hSw.2.1.cell 0; have q1 : _ = some (.int .i64 s3 : Value) := hSw.2.1.cell 1; have q2 : _ = some (.bool g3 : Value) := hSw.2.1.cell 2; have q3 : _ = some (.slice A3 n3 c3 : Value) := hSw.2.1.cell 3; have q4 : _ = some (.slice B3 m3 d3 : Value) := hSw.2.1.cell 4; have q5 : _ = some (.int .i64 s4 : Value) := hSw.2.1.cell 5; have q6 : _ = some (.bool g4 : Value) := hSw.2.1.cell 6; have q7 : _ = some (.slice A4 n4 c4 : Value) := hSw.2.1.cell 7; have q8 : _ = some (.slice B4 m4 d4 : Value) := hSw.2.1.cell 8; go_simp; (try with_reducible rfl))
  try simp only [Act.put, List.getElem_toArray, List.getElem_cons_succ, List.getElem_cons_zero, List.setIfInBounds_toArray, List.set_cons_zero, List.set_cons_succ]
  refine wpAnyH_take (i := 5) (v := ?_) rfl (by kernel_rfl) (by kernel_rfl) (by kernel_rfl) (fun _ _ _ h => h) (Or.inl ⟨by rfl, ?_⟩) (by assumption) ?_
  rotate_left
  · (intro W2 hSw; go_simp; (try with_reducible rfl))
  try simp only [Act.put, List.getElem_toArray, List.getElem_cons_succ, List.getElem_cons_zero, List.setIfInBounds_toArray, List.set_cons_zero, List.set_cons_succ]
  refine wpAnyH_take (i := 6) (v := ?_) rfl (by kernel_rfl) (by kernel_rfl) (by kernel_rfl) (fun _ _ _ h => h) (Or.inl ⟨by rfl, ?_⟩) (by assumption) ?_
  rotate_left
  · (intro W2 hSw; (try dsimp only at hSw); have q0 : _ = some (.bool false : Value) := hSw.1.cell 0; have q1 : _ = some (.int .i64 s1 : Value) := hSw.1.cell 1; have q2 : _ = some (.bool g1 : Value) := hSw.1.cell 2; have q3 : _ = some (.slice A1 n1 c1 : Value) := hSw.1.cell 3; have q4 : _ = some (.slice B1 m1 d1 : Value) := hSw.1.cell 4; have q5 : _ = some (.int .i64 s2 : Value) := hSw.1.cell 5; have q6 : _ = some (.bool g2 : Value) := hSw.1.cell 6; have q7 : _ = some (.slice A2 n2 c2 : Value) := hSw.1.cell 7; have q8 : _ = some (.slice B2 m2 d2 : Value) := hSw.1.cell 8; go_simp; (try with_reducible rfl))
  try simp only [Act.put, List.getElem_toArray, List.getElem_cons_succ, List.getElem_cons_zero, List.setIfInBounds_toArray, List.set_cons_zero, List.set_cons_succ]
  refine wpAnyH_take (i := 7) (v := ?_) rfl (by kernel_rfl) (by kernel_rfl) (by kernel_rfl) (fun _ _ _ h => h) (Or.inl ⟨by rfl, ?_⟩) (by assumption) ?_
  rotate_left
  · (intro W2 hSw; go_simp; (try with_reducible rfl))
  try simp only [Act.put, List.getElem_toArray, List.getElem_cons_succ, List.getElem_cons_zero, List.setIfInBounds_toArray, List.set_cons_zero, List.set_cons_succ]
  refine wpAnyH_take (i := 8) (v := ?_) rfl (by kernel_rfl) (by kernel_rfl) (by kernel_rfl) (fun _ _ _ h => h) (Or.inl ⟨by rfl, ?_⟩) (by assumption) ?_
  rotate_left
  · (intro W2 hSw; (try dsimp only at hSw); have q0 : _ = some (.bool false : Value) := hSw.2.1.cell 0; have q1 : _ = some (.int .i64 s3 : Value) := hSw.2.1.cell 1; have q2 : _ = some (.bool g3 : Value) := hSw.2.1.cell 2; have q3 : _ = some (.slice A3 n3 c3 : Value) := hSw.2.1.cell 3; have q4 : _ = some (.slice B3 m3 d3 : Value) := hSw.2.1.cell 4; have q5 : _ = some (.int .i64 s4 : Value) := hSw.2.1.cell 5; have q6 : _ = some (.bool g4 : Value) := hSw.2.1.cell 6; have q7 : _ = some (.slice A4 n4 c4 : Value) := hSw.2.1.cell 7; have q8 : _ = some (.slice B4 m4 d4 : Value) := hSw.2.1.cell 8; go_simp; (try with_reducible rfl))
  try simp only [Act.put, List.getElem_toArray, List.getElem_cons_succ, List.getElem_cons_zero, List.setIfInBounds_toArray, List.set_cons_zero, List.set_cons_succ]
  refine wpAnyH_ready (rs := [4]) (by kernel_rfl) (by simp) ?_
  refine AllReadyH.cons rfl (fun KK hKK => ?_) AllReadyH.nil
  go_simp
  refine (T1.out _ ?_).mono ?_; exact hHeld.2.2.2
  rintro e w3 ⟨g5, A5, n5, c5, B5, m5, d5, rfl, h5, hb5⟩
  go_wp2_with fail
  refine hKK.out _ _ (⟨hHeld.1.keep hb5, hHeld.2.1.keep hb5, hHeld.2.2.1.keep hb5, hHeld.2.2.2.trans (hb5.mono hHeld.2.2.2.size)⟩) (fun _ => ?_)
  clear hKK KK hHeld; rename_i hHeld
  try simp only [Act.put, List.getElem_toArray, List.getElem_cons_succ, List.getElem_cons_zero, List.setIfInBounds_toArray, List.set_cons_zero, List.set_cons_succ]
  refine wpAnyH_ready (rs := [9]) (by kernel_rfl) (by simp) ?_
  refine AllReadyH.cons rfl (fun KK hKK => ?_) AllReadyH.nil
  go_simp
  refine (T2.out _ ?_).mono ?_; exact hHeld.2.2.2
  rintro e w4 ⟨g6, A6, n6, c6, B6, m6, d6, rfl, h6, hb6⟩
  go_wp2_with fail
  refine hKK.out _ _ (⟨hHeld.1.keep hb6, hHeld.2.1.keep hb6, hHeld.2.2.1.keep hb6, hHeld.2.2.2.trans (hb6.mono hHeld.2.2.2.size)⟩) (fun _ => ?_)
  clear hKK KK hHeld; rename_i hHeld
  try simp only [Act.put, List.getElem_toArray, List.getElem_cons_succ, List.getElem_cons_zero, List.setIfInBounds_toArray, List.set_cons_zero, List.set_cons_succ]
  refine wpAnyH_take (i := 10) (v := ?_) rfl (by kernel_rfl) (by kernel_rfl) (by kernel_rfl) (fun _ _ _ h => h) (Or.inl ⟨by rfl, ?_⟩) (by assumption) ?_
  rotate_left
  · (intro W2 hSw; go_simp; (try with_reducible rfl))
  try simp only [Act.put, List.getElem_toArray, List.getElem_cons_succ, List.getElem_cons_zero, List.setIfInBounds_toArray, List.set_cons_zero, List.set_cons_succ]
  refine wpAnyH_ready (rs := [11]) (by kernel_rfl) (by simp) ?_
  refine AllReadyH.cons rfl (fun KK hKK => ?_) AllReadyH.nil
  have ha0 := hHeld.2.2.1.someCell 0 (by decide); have hf0 := hHeld.2.2.1.frozen 0; have ha1 := hHeld.2.2.1.someCell 1 (by decide); have hf1 := hHeld.2.2.1.frozen 1; have ha2 := hHeld.2.2.1.someCell 2 (by decide); have hf2 := hHeld.2.2.1.frozen 2; have ha3 := hHeld.2.2.1.someCell 3 (by decide); have hf3 := hHeld.2.2.1.frozen 3; have ha4 := hHeld.2.2.1.someCell 4 (by decide); have hf4 := hHeld.2.2.1.frozen 4; have ha5 := hHeld.2.2.1.someCell 5 (by decide); have hf5 := hHeld.2.2.1.frozen 5; have ha6 := hHeld.2.2.1.someCell 6 (by decide); have hf6 := hHeld.2.2.1.frozen 6; have ha7 := hHeld.2.2.1.someCell 7 (by decide); have hf7 := hHeld.2.2.1.frozen 7; have ha8 := hHeld.2.2.1.someCell 8 (by decide); have hf8 := hHeld.2.2.1.frozen 8; have HK := Lib.hid (hHeld.2.2.1.setCell [.bool false, .int .i64 s5, .bool g5, .slice A5 n5 c5, .slice B5 m5 d5, .int .i64 s6, .bool g6, .slice A6 n6 c6, .slice B6 m6 d6] rfl); have F := Lib.hid (below_sets (w0 := w) (r := (w.heap.size + 2)) (by omega) [.bool false, .int .i64 s5, .bool g5, .slice A5 n5 c5, .slice B5 m5 d5, .int .i64 s6, .bool g6, .slice A6 n6 c6, .slice B6 m6 d6] 0 _ hHeld.2.2.2); have FR1 := Lib.hid (hHeld.2.2.1.rat (h5.below hb6) [.bool false, .int .i64 s5, .bool g5, .slice A5 n5 c5, .slice B5 m5 d5, .int .i64 s6, .bool g6, .slice A6 n6 c6, .slice B6 m6 d6]); have FR2 := Lib.hid (hHeld.2.2.1.rat h6 [.bool false, .int .i64 s5, .bool g5, .slice A5 n5 c5, .slice B5 m5 d5, .int .i64 s6, .bool g6, .slice A6 n6 c6, .slice B6 m6 d6])
  go_simp
  refine hKK.out _ _ (⟨hHeld.1.other (by omega) 0 [.bool false, .int .i64 s5, .bool g5, .slice A5 n5 c5, .slice B5 m5 d5, .int .i64 s6, .bool g6, .slice A6 n6 c6, .slice B6 m6 d6], hHeld.2.1.other (by omega) 0 [.bool false, .int .i64 s5, .bool g5, .slice A5 n5 c5, .slice B5 m5 d5, .int .i64 s6, .bool g6, .slice A6 n6 c6, .slice B6 m6 d6], hHeld.2.2.1.sets [.bool false, .int .i64 s5, .bool g5, .slice A5 n5 c5, .slice B5 m5 d5, .int .i64 s6, .bool g6, .slice A6 n6 c6, .slice B6 m6 d6] rfl rfl, below_sets (by omega) [.bool false, .int .i64 s5, .bool g5, .slice A5 n5 c5, .slice B5 m5 d5, .int .i64 s6, .bool g6, .slice A6 n6 c6, .slice B6 m6 d6] 0 _ hHeld.2.2.2⟩) (fun _ => ?_)
  clear hKK KK hHeld; rename_i hHeld
  try simp only [Act.put, List.getElem_toArray, List.getElem_cons_succ, List.getElem_cons_zero, List.setIfInBounds_toArray, List.set_cons_zero, List.set_cons_succ]
  refine wpAnyH_done (by kernel_rfl) ?_ _
  have hk0 := HK.out 0 (by decide)
  have hk1 := HK.out 1 (by decide)
  have hk2 := HK.out 2 (by decide)
  have hk3 := HK.out 3 (by decide)
  have hk4 := HK.out 4 (by decide)
  have hk5 := HK.out 5 (by decide)
  have hk6 := HK.out 6 (by decide)
  have hk7 := HK.out 7 (by decide)
  have hk8 := HK.out 8 (by decide)
  simp [sets] at hk0 hk1 hk2 hk3 hk4 hk5 hk6 hk7 hk8
  clear hHeld HK h5 hb5 h6 hb6
  clear LB0 LR0 LG0_0 LG1_0
  go_wp2
  refine bodyPost_ret (v := .agg #[.bool false, .int .i64 s5, .bool g5, .slice A5 n5 c5, .slice B5 m5 d5, .int .i64 s6, .bool g6, .slice A6 n6 c6, .slice B6 m6 d6]) (by simp [results, Tryz.results56, go_sem, hk0, hk1, hk2, hk3, hk4, hk5, hk6, hk7, hk8]) rfl ?_
  exact ⟨_, _, _, _, _, _, _, _, _, _, _, _, _, _, rfl, FR1.out, FR2.out, F.out⟩

end Go.Proofs.YtmjkmoahkanblaaGreat
