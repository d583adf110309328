/-
Walks: package vergeref10, quotients, minus (of a piece).
-/
import Derived.Test.YtmjkmoahkanblaaGreatM04
import Derived.Test.YtmjkmoahkanblaaGreatM29
import Derived.Deep.DeepCutAuto
import Derived.Deep.RegionHeld3
set_option linter.unusedSimpArgs false
set_option linter.unusedVariables false
set_option maxHeartbeats 12800000

namespace Go.Proofs.YtmjkmoahkanblaaGreat
open Go.RowKit
theorem quotients_none (K : Nat) (o ot uo : Bool) (s1 : Int) (g1 : Bool) (A1 : Option Addr) (n1 c1 : Nat) (B1 : Option Addr) (m1 d1 : Nat) (x1 : Rat) (s2 : Int) (g2 : Bool) (A2 : Option Addr) (n2 c2 : Nat) (B2 : Option Addr) (m2 d2 : Nat) (x2 : Rat) (s3 : Int) (g3 : Bool) (A3 : Option Addr) (n3 c3 : Nat) (B3 : Option Addr) (m3 d3 : Nat) (x3 : Rat) (s4 : Int) (g4 : Bool) (A4 : Option Addr) (n4 c4 : Nat) (B4 : Option Addr) (m4 d4 : Nat) (x4 : Rat) (y1 y2 : Int) (v1 v2 : Rat) (w : World) (hU : ∀ W, Below w.heap.size w W → Calls Tryz.prog 146 #[.agg #[.bool ot, .int .i64 s3, .bool g3, .slice A3 n3 c3, .slice B3 m3 d3, .int .i64 s4, .bool g4, .slice A4 n4 c4, .slice B4 m4 d4]] W (NewSet W K uo y1 v1 y2 v2)) (ho : o = true ∨ uo = true) :
    Calls Tryz.prog 87 #[.agg #[.bool o, .int .i64 s1, .bool g1, .slice A1 n1 c1, .slice B1 m1 d1, .int .i64 s2, .bool g2, .slice A2 n2 c2, .slice B2 m2 d2], .agg #[.bool ot, .int .i64 s3, .bool g3, .slice A3 n3 c3, .slice B3 m3 d3, .int .i64 s4, .bool g4, .slice A4 n4 c4, .slice B4 m4 d4]] w (NewPiece w 1 true 0 0 1 false 0 0 1 false) := by
  have HU := Lib.hid hU
  clear hU
  have HN := Lib.hid nothing_any
  cases o
  · obtain rfl : uo = true := by rcases ho with h | h; cases h; exact h
    obtain ⟨LB0, LG0_0, LG1_0, LR⟩ := bx3 w #[.bool false, .int .i64 s1, .bool g1, .slice A1 n1 c1, .slice B1 m1 d1, .int .i64 s2, .bool g2, .slice A2 n2 c2, .slice B2 m2 d2] 69 #[.bool ot, .int .i64 s3, .bool g3, .slice A3 n3 c3, .slice B3 m3 d3, .int .i64 s4, .bool g4, .slice A4 n4 c4, .slice B4 m4 d4] 69 #[.bool false, .int .i64 0, .bool false, .slice none 0 0, .slice none 0 0, .int .i64 0, .bool false, .int .i64 0, .bool false, .slice none 0 0, .slice none 0 0, .int .i64 0, .bool false] 64
    have LR0 := Lib.hid (HasBlk.of (n := 13) LR.out rfl rfl)
    clear LR
    go_enter Tryz.func87, Tryz.ntmps87
    obtain ⟨q1_0, q1_1, q1_2, q1_3, q1_4, q1_5, q1_6, q1_7, q1_8⟩ := LG1_0.out.c9
    go_wp2_with fail
    refine (HU.out _ LB0.out).mono ?_
    rintro e w1 ⟨h1, C1, e1, f1, D1, k1, l1, h2, C2, e2, f2, D2, k2, l2, rfl, hU1, hU2, hb1⟩
    have LB1 := stB LB0 hb1 LB0.out.size
    have LR1 := stR LR0 hb1
    have LG0_1 := stG LG0_0 hb1
    have LG1_1 := stG LG1_0 hb1
    clear LB0 LR0 LG0_0 LG1_0
    clear hb1 HU q1_0 q1_1 q1_2 q1_3 q1_4 q1_5 q1_6 q1_7 q1_8
    go_upto_region 2 with fail
    have hlt := LR1.out.lt
    have LB2 := Lib.hid (LB1.out.alloc LB1.out.size (.cells #[.bool true, .int .i64 y1, .bool h1, .slice C1 e1 f1, .slice D1 k1 l1, .int .i64 y2, .bool h2, .slice C2 e2 f2, .slice D2 k2 l2] 69))
    have LR2 := Lib.hid (LR1.out.alloc (.cells #[.bool true, .int .i64 y1, .bool h1, .slice C1 e1 f1, .slice D1 k1 l1, .int .i64 y2, .bool h2, .slice C2 e2 f2, .slice D2 k2 l2] 69))
    have LG0_2 := Lib.hid (LG0_1.out.alloc (.cells #[.bool true, .int .i64 y1, .bool h1, .slice C1 e1 f1, .slice D1 k1 l1, .int .i64 y2, .bool h2, .slice C2 e2 f2, .slice D2 k2 l2] 69))
    have LG1_2 := Lib.hid (LG1_1.out.alloc (.cells #[.bool true, .int .i64 y1, .bool h1, .slice C1 e1 f1, .slice D1 k1 l1, .int .i64 y2, .bool h2, .slice C2 e2 f2, .slice D2 k2 l2] 69))
    have LG2_2 := Lib.hid (Blk.new w1 69 #[.bool true, .int .i64 y1, .bool h1, .slice C1 e1 f1, .slice D1 k1 l1, .int .i64 y2, .bool h2, .slice C2 e2 f2, .slice D2 k2 l2])
    have hbU := (Below.refl w1.heap.size w1).alloc (Nat.le_refl _) (.cells #[.bool true, .int .i64 y1, .bool h1, .slice C1 e1 f1, .slice D1 k1 l1, .int .i64 y2, .bool h2, .slice C2 e2 f2, .slice D2 k2 l2] 69)
    have U1 := Lib.hid (hU1.below hbU)
    have U2 := Lib.hid (hU2.below hbU)
    clear hU1 hU2 hbU LB1 LR1 LG0_1 LG1_1
    obtain ⟨W2, hW2⟩ : ∃ W, w1.alloc (.cells #[.bool true, .int .i64 y1, .bool h1, .slice C1 e1 f1, .slice D1 k1 l1, .int .i64 y2, .bool h2, .slice C2 e2 f2, .slice D2 k2 l2] 69) = W := ⟨_, rfl⟩
    rw [hW2] at LB2 LR2 LG0_2 LG1_2 LG2_2 U1 U2 ⊢
    clear hW2
    obtain ⟨hh, hg⟩ : ∃ g, w1.heap.size = g := ⟨_, rfl⟩
    rw [hg] at LG2_2 hlt ⊢
    clear hg
    have q0_0 := LG0_2.out.ce 0 rfl
    have q2_0 := LG2_2.out.ce 0 rfl
    clear U1 U2
    go_wp2_with fail
    refine (HN.out _).mono ?_
    rintro e wN ⟨p1, P1, q1, r1, Q1, t1, u1, p2, P2, q2, r2, Q2, t2, u2, rfl, hR1, hR2, hbN⟩
    have LB3 := stB LB2 hbN LB2.out.size
    have LR3 := stR LR2 hbN
    have LG0_3 := stG LG0_2 hbN
    have LG1_3 := stG LG1_2 hbN
    have LG2_3 := stG LG2_2 hbN
    clear LB2 LR2 LG0_2 LG1_2 LG2_2
    have FR1 := Lib.hid (LR3.out.rat hR1 [.bool true, .int .i64 0, .bool p1, .slice P1 q1 r1, .slice Q1 t1 u1, .int .i64 1, .bool false, .int .i64 0, .bool p2, .slice P2 q2 r2, .slice Q2 t2 u2, .int .i64 1, .bool false])
    have FR2 := Lib.hid (LR3.out.rat hR2 [.bool true, .int .i64 0, .bool p1, .slice P1 q1 r1, .slice Q1 t1 u1, .int .i64 1, .bool false, .int .i64 0, .bool p2, .slice P2 q2 r2, .slice Q2 t2 u2, .int .i64 1, .bool false])
    clear hR1 hR2 hbN HN
    obtain ⟨ha0, hf0, ha1, hf1, ha2, hf2, ha3, hf3, ha4, hf4, ha5, hf5, ha6, hf6, ha7, hf7, ha8, hf8, ha9, hf9, ha10, hf10, ha11, hf11, ha12, hf12⟩ := LR3.out.sf13
    obtain ⟨hk0, hk1, hk2, hk3, hk4, hk5, hk6, hk7, hk8, hk9, hk10, hk11, hk12⟩ := LR3.out.sc13 (.bool true) (.int .i64 0) (.bool p1) (.slice P1 q1 r1) (.slice Q1 t1 u1) (.int .i64 1) (.bool false) (.int .i64 0) (.bool p2) (.slice P2 q2 r2) (.slice Q2 t2 u2) (.int .i64 1) (.bool false)
    have F := Lib.hid (below_sets (w0 := w) (r := (w.heap.size + 2)) (by omega) [.bool true, .int .i64 0, .bool p1, .slice P1 q1 r1, .slice Q1 t1 u1, .int .i64 1, .bool false, .int .i64 0, .bool p2, .slice P2 q2 r2, .slice Q2 t2 u2, .int .i64 1, .bool false] 0 _ LB3.out)
    simp [sets] at hk0 hk1 hk2 hk3 hk4 hk5 hk6 hk7 hk8 hk9 hk10 hk11 hk12
    go_wp2
    refine bodyPost_ret (v := .agg #[.bool true, .int .i64 0, .bool p1, .slice P1 q1 r1, .slice Q1 t1 u1, .int .i64 1, .bool false, .int .i64 0, .bool p2, .slice P2 q2 r2, .slice Q2 t2 u2, .int .i64 1, .bool false]) (by simp [results, Tryz.results87, go_sem, hk0, hk1, hk2, hk3, hk4, hk5, hk6, hk7, hk8, hk9, hk10, hk11, hk12]) rfl ?_
    exact ⟨_, _, _, _, _, _, _, _, _, _, _, _, _, _, rfl, FR1.out, FR2.out, F.out⟩
  · have LB0 := Lib.hid (show Below w.heap.size w (((w.alloc (.cells #[.bool true, .int .i64 s1, .bool g1, .slice A1 n1 c1, .slice B1 m1 d1, .int .i64 s2, .bool g2, .slice A2 n2 c2, .slice B2 m2 d2] 69)).alloc (.cells #[.bool ot, .int .i64 s3, .bool g3, .slice A3 n3 c3, .slice B3 m3 d3, .int .i64 s4, .bool g4, .slice A4 n4 c4, .slice B4 m4 d4] 69)).alloc (.cells #[.bool false, .int .i64 0, .bool false, .slice none 0 0, .slice none 0 0, .int .i64 0, .bool false, .int .i64 0, .bool false, .slice none 0 0, .slice none 0 0, .int .i64 0, .bool false] 64)) from (((below_alloc w _).alloc (by simp <;> omega) _).alloc (by simp <;> omega) _))
    have LG0_0 := Lib.hid ((((Blk.at (W := w) (g := w.heap.size) (by simp <;> omega) 69 #[.bool true, .int .i64 s1, .bool g1, .slice A1 n1 c1, .slice B1 m1 d1, .int .i64 s2, .bool g2, .slice A2 n2 c2, .slice B2 m2 d2]).alloc (.cells #[.bool ot, .int .i64 s3, .bool g3, .slice A3 n3 c3, .slice B3 m3 d3, .int .i64 s4, .bool g4, .slice A4 n4 c4, .slice B4 m4 d4] 69)).alloc (.cells #[.bool false, .int .i64 0, .bool false, .slice none 0 0, .slice none 0 0, .int .i64 0, .bool false, .int .i64 0, .bool false, .slice none 0 0, .slice none 0 0, .int .i64 0, .bool false] 64)))
    have LG1_0 := Lib.hid (((Blk.at (W := (w.alloc (.cells #[.bool true, .int .i64 s1, .bool g1, .slice A1 n1 c1, .slice B1 m1 d1, .int .i64 s2, .bool g2, .slice A2 n2 c2, .slice B2 m2 d2] 69))) (g := (w.heap.size + 1)) (by simp <;> omega) 69 #[.bool ot, .int .i64 s3, .bool g3, .slice A3 n3 c3, .slice B3 m3 d3, .int .i64 s4, .bool g4, .slice A4 n4 c4, .slice B4 m4 d4]).alloc (.cells #[.bool false, .int .i64 0, .bool false, .slice none 0 0, .slice none 0 0, .int .i64 0, .bool false, .int .i64 0, .bool false, .slice none 0 0, .slice none 0 0, .int .i64 0, .bool false] 64)))
    have LR0 := Lib.hid (HasBlk.of (n := 13) (Blk.at (W := ((w.alloc (.cells #[.bool true, .int .i64 s1, .bool g1, .slice A1 n1 c1, .slice B1 m1 d1, .int .i64 s2, .bool g2, .slice A2 n2 c2, .slice B2 m2 d2] 69)).alloc (.cells #[.bool ot, .int .i64 s3, .bool g3, .slice A3 n3 c3, .slice B3 m3 d3, .int .i64 s4, .bool g4, .slice A4 n4 c4, .slice B4 m4 d4] 69))) (g := (w.heap.size + 2)) (by simp <;> omega) 64 #[.bool false, .int .i64 0, .bool false, .slice none 0 0, .slice none 0 0, .int .i64 0, .bool false, .int .i64 0, .bool false, .slice none 0 0, .slice none 0 0, .int .i64 0, .bool false]) rfl rfl)
    go_enter Tryz.func87, Tryz.ntmps87
    obtain ⟨q1_0, q1_1, q1_2, q1_3, q1_4, q1_5, q1_6, q1_7, q1_8⟩ := LG1_0.out.c9
    go_wp2_with fail
    refine (HU.out _ LB0.out).mono ?_
    rintro e w1 ⟨h1, C1, e1, f1, D1, k1, l1, h2, C2, e2, f2, D2, k2, l2, rfl, hU1, hU2, hb1⟩
    have LB1 := stB LB0 hb1 LB0.out.size
    have LR1 := stR LR0 hb1
    have LG0_1 := stG LG0_0 hb1
    have LG1_1 := stG LG1_0 hb1
    clear LB0 LR0 LG0_0 LG1_0
    clear hb1 HU q1_0 q1_1 q1_2 q1_3 q1_4 q1_5 q1_6 q1_7 q1_8
    go_upto_region 2 with fail
    have hlt := LR1.out.lt
    have LB2 := Lib.hid (LB1.out.alloc LB1.out.size (.cells #[.bool uo, .int .i64 y1, .bool h1, .slice C1 e1 f1, .slice D1 k1 l1, .int .i64 y2, .bool h2, .slice C2 e2 f2, .slice D2 k2 l2] 69))
    have LR2 := Lib.hid (LR1.out.alloc (.cells #[.bool uo, .int .i64 y1, .bool h1, .slice C1 e1 f1, .slice D1 k1 l1, .int .i64 y2, .bool h2, .slice C2 e2 f2, .slice D2 k2 l2] 69))
    have LG0_2 := Lib.hid (LG0_1.out.alloc (.cells #[.bool uo, .int .i64 y1, .bool h1, .slice C1 e1 f1, .slice D1 k1 l1, .int .i64 y2, .bool h2, .slice C2 e2 f2, .slice D2 k2 l2] 69))
    have LG1_2 := Lib.hid (LG1_1.out.alloc (.cells #[.bool uo, .int .i64 y1, .bool h1, .slice C1 e1 f1, .slice D1 k1 l1, .int .i64 y2, .bool h2, .slice C2 e2 f2, .slice D2 k2 l2] 69))
    have LG2_2 := Lib.hid (Blk.new w1 69 #[.bool uo, .int .i64 y1, .bool h1, .slice C1 e1 f1, .slice D1 k1 l1, .int .i64 y2, .bool h2, .slice C2 e2 f2, .slice D2 k2 l2])
    have hbU := (Below.refl w1.heap.size w1).alloc (Nat.le_refl _) (.cells #[.bool uo, .int .i64 y1, .bool h1, .slice C1 e1 f1, .slice D1 k1 l1, .int .i64 y2, .bool h2, .slice C2 e2 f2, .slice D2 k2 l2] 69)
    have U1 := Lib.hid (hU1.below hbU)
    have U2 := Lib.hid (hU2.below hbU)
    clear hU1 hU2 hbU LB1 LR1 LG0_1 LG1_1
    obtain ⟨W2, hW2⟩ : ∃ W, w1.alloc (.cells #[.bool uo, .int .i64 y1, .bool h1, .slice C1 e1 f1, .slice D1 k1 l1, .int .i64 y2, .bool h2, .slice C2 e2 f2, .slice D2 k2 l2] 69) = W := ⟨_, rfl⟩
    rw [hW2] at LB2 LR2 LG0_2 LG1_2 LG2_2 U1 U2 ⊢
    clear hW2
    obtain ⟨hh, hg⟩ : ∃ g, w1.heap.size = g := ⟨_, rfl⟩
    rw [hg] at LG2_2 hlt ⊢
    clear hg
    have q0_0 := LG0_2.out.ce 0 rfl
    clear U1 U2
    go_wp2_with fail
    refine (HN.out _).mono ?_
    rintro e wN ⟨p1, P1, q1, r1, Q1, t1, u1, p2, P2, q2, r2, Q2, t2, u2, rfl, hR1, hR2, hbN⟩
    have LB3 := stB LB2 hbN LB2.out.size
    have LR3 := stR LR2 hbN
    have LG0_3 := stG LG0_2 hbN
    have LG1_3 := stG LG1_2 hbN
    have LG2_3 := stG LG2_2 hbN
    clear LB2 LR2 LG0_2 LG1_2 LG2_2
    have FR1 := Lib.hid (LR3.out.rat hR1 [.bool true, .int .i64 0, .bool p1, .slice P1 q1 r1, .slice Q1 t1 u1, .int .i64 1, .bool false, .int .i64 0, .bool p2, .slice P2 q2 r2, .slice Q2 t2 u2, .int .i64 1, .bool false])
    have FR2 := Lib.hid (LR3.out.rat hR2 [.bool true, .int .i64 0, .bool p1, .slice P1 q1 r1, .slice Q1 t1 u1, .int .i64 1, .bool false, .int .i64 0, .bool p2, .slice P2 q2 r2, .slice Q2 t2 u2, .int .i64 1, .bool false])
    clear hR1 hR2 hbN HN
    obtain ⟨ha0, hf0, ha1, hf1, ha2, hf2, ha3, hf3, ha4, hf4, ha5, hf5, ha6, hf6, ha7, hf7, ha8, hf8, ha9, hf9, ha10, hf10, ha11, hf11, ha12, hf12⟩ := LR3.out.sf13
    obtain ⟨hk0, hk1, hk2, hk3, hk4, hk5, hk6, hk7, hk8, hk9, hk10, hk11, hk12⟩ := LR3.out.sc13 (.bool true) (.int .i64 0) (.bool p1) (.slice P1 q1 r1) (.slice Q1 t1 u1) (.int .i64 1) (.bool false) (.int .i64 0) (.bool p2) (.slice P2 q2 r2) (.slice Q2 t2 u2) (.int .i64 1) (.bool false)
    have F := Lib.hid (below_sets (w0 := w) (r := (w.heap.size + 2)) (by omega) [.bool true, .int .i64 0, .bool p1, .slice P1 q1 r1, .slice Q1 t1 u1, .int .i64 1, .bool false, .int .i64 0, .bool p2, .slice P2 q2 r2, .slice Q2 t2 u2, .int .i64 1, .bool false] 0 _ LB3.out)
    simp [sets] at hk0 hk1 hk2 hk3 hk4 hk5 hk6 hk7 hk8 hk9 hk10 hk11 hk12
    go_wp2
    refine bodyPost_ret (v := .agg #[.bool true, .int .i64 0, .bool p1, .slice P1 q1 r1, .slice Q1 t1 u1, .int .i64 1, .bool false, .int .i64 0, .bool p2, .slice P2 q2 r2, .slice Q2 t2 u2, .int .i64 1, .bool false]) (by simp [results, Tryz.results87, go_sem, hk0, hk1, hk2, hk3, hk4, hk5, hk6, hk7, hk8, hk9, hk10, hk11, hk12]) rfl ?_
    exact ⟨_, _, _, _, _, _, _, _, _, _, _, _, _, _, rfl, FR1.out, FR2.out, F.out⟩
theorem quotients_some (K : Nat) (o ot uo : Bool) (s1 : Int) (g1 : Bool) (A1 : Option Addr) (n1 c1 : Nat) (B1 : Option Addr) (m1 d1 : Nat) (x1 : Rat) (s2 : Int) (g2 : Bool) (A2 : Option Addr) (n2 c2 : Nat) (B2 : Option Addr) (m2 d2 : Nat) (x2 : Rat) (s3 : Int) (g3 : Bool) (A3 : Option Addr) (n3 c3 : Nat) (B3 : Option Addr) (m3 d3 : Nat) (x3 : Rat) (s4 : Int) (g4 : Bool) (A4 : Option Addr) (n4 c4 : Nat) (B4 : Option Addr) (m4 d4 : Nat) (x4 : Rat) (y1 y2 : Int) (v1 v2 : Rat) (w : World) (hU : ∀ W, Below w.heap.size w W → Calls Tryz.prog 146 #[.agg #[.bool ot, .int .i64 s3, .bool g3, .slice A3 n3 c3, .slice B3 m3 d3, .int .i64 s4, .bool g4, .slice A4 n4 c4, .slice B4 m4 d4]] W (NewSet W K uo y1 v1 y2 v2)) (h1 : RatV w K g1 (.slice A1 n1 c1) (.slice B1 m1 d1) x1) (h2 : RatV w K g2 (.slice A2 n2 c2) (.slice B2 m2 d2) x2) (hK0 : 1 ≤ K) (hK : K ≤ 1048576) (ho : o = false) (hu : uo = false) (hab : ¬ (0 < esx s1 x1 ∧ esx s2 x2 < 0)) :
    Calls Tryz.prog 87 #[.agg #[.bool o, .int .i64 s1, .bool g1, .slice A1 n1 c1, .slice B1 m1 d1, .int .i64 s2, .bool g2, .slice A2 n2 c2, .slice B2 m2 d2], .agg #[.bool ot, .int .i64 s3, .bool g3, .slice A3 n3 c3, .slice B3 m3 d3, .int .i64 s4, .bool g4, .slice A4 n4 c4, .slice B4 m4 d4]] w (NewPiece w (2 * K) false (if 0 < esx s1 x1 then rt s1 x1 y2 v2 else rt s1 x1 y1 v1).1 (if 0 < esx s1 x1 then rt s1 x1 y2 v2 else rt s1 x1 y1 v1).2.1 1 (if 0 < esx s1 x1 then rt s1 x1 y2 v2 else rt s1 x1 y1 v1).2.2 (if esx s2 x2 < 0 then rt s2 x2 y2 v2 else rt s2 x2 y1 v1).1 (if esx s2 x2 < 0 then rt s2 x2 y2 v2 else rt s2 x2 y1 v1).2.1 1 (if esx s2 x2 < 0 then rt s2 x2 y2 v2 else rt s2 x2 y1 v1).2.2) := by
  have HU := Lib.hid hU
  clear hU
  subst ho
  subst hu
  have HS1 := Lib.hid fun W (hW : Below w.heap.size w W) => sign6_any K s1 g1 A1 n1 c1 B1 m1 d1 x1 W (h1.below hW) (by omega)
  have HS2 := Lib.hid fun W (hW : Below w.heap.size w W) => sign6_any K s2 g2 A2 n2 c2 B2 m2 d2 x2 W (h2.below hW) (by omega)
  have HR := Lib.hid fun W (hW : Below w.heap.size w W) (sy : Int) (g : Bool) (A : Option Addr) (n c : Nat) (B : Option Addr) (m d : Nat) (xy : Rat) (hy : RatV W K g (.slice A n c) (.slice B m d) xy) => And.intro (ratio_gen K s1 g1 A1 n1 c1 B1 m1 d1 x1 sy g A n c B m d xy W (h1.below hW) hy hK0 hK) (ratio_gen K s2 g2 A2 n2 c2 B2 m2 d2 x2 sy g A n c B m d xy W (h2.below hW) hy hK0 hK)
  have HU1 := Lib.hid fun W (hW : Below w.heap.size w W) (g : Bool) (A : Option Addr) (n c : Nat) (B : Option Addr) (m d : Nat) (hy : RatV W K g (.slice A n c) (.slice B m d) v1) => HR.out W hW y1 g A n c B m d v1 hy
  have HU2 := Lib.hid fun W (hW : Below w.heap.size w W) (g : Bool) (A : Option Addr) (n c : Nat) (B : Option Addr) (m d : Nat) (hy : RatV W K g (.slice A n c) (.slice B m d) v2) => HR.out W hW y2 g A n c B m d v2 hy
  clear HR h1 h2 hK0 hK
  obtain ⟨sg, hsg⟩ : ∃ z, esx s1 x1 = z := ⟨_, rfl⟩
  obtain ⟨tg, htg⟩ : ∃ z, esx s2 x2 = z := ⟨_, rfl⟩
  rw [hsg] at HS1 hab ⊢
  rw [htg] at HS2 hab ⊢
  have HAB := Lib.hid hab
  clear hsg htg hab
  obtain ⟨⟨z1, fx1, ww1⟩, eq1⟩ : ∃ z, rt s1 x1 y1 v1 = z := ⟨_, rfl⟩
  obtain ⟨⟨z2, fx2, ww2⟩, eq2⟩ : ∃ z, rt s2 x2 y1 v1 = z := ⟨_, rfl⟩
  obtain ⟨⟨z3, fx3, ww3⟩, eq3⟩ : ∃ z, rt s1 x1 y2 v2 = z := ⟨_, rfl⟩
  obtain ⟨⟨z4, fx4, ww4⟩, eq4⟩ : ∃ z, rt s2 x2 y2 v2 = z := ⟨_, rfl⟩
  rw [eq1, eq2] at HU1
  rw [eq3, eq4] at HU2
  rw [eq1, eq2, eq3, eq4]
  clear eq1 eq2 eq3 eq4
  dsimp only at HU1 HU2
  obtain ⟨⟨za, fa, wa⟩, eqa⟩ : ∃ z, (if 0 < sg then (z3, fx3, ww3) else (z1, fx1, ww1)) = z := ⟨_, rfl⟩
  obtain ⟨⟨zb, fb, wb⟩, eqb⟩ : ∃ z, (if tg < 0 then (z4, fx4, ww4) else (z2, fx2, ww2)) = z := ⟨_, rfl⟩
  rw [eqa, eqb]
  dsimp only
  have EQA := Lib.hid eqa
  have EQB := Lib.hid eqb
  clear eqa eqb
  obtain ⟨LB0, LG0_0, LG1_0, LR⟩ := bx3 w #[.bool false, .int .i64 s1, .bool g1, .slice A1 n1 c1, .slice B1 m1 d1, .int .i64 s2, .bool g2, .slice A2 n2 c2, .slice B2 m2 d2] 69 #[.bool ot, .int .i64 s3, .bool g3, .slice A3 n3 c3, .slice B3 m3 d3, .int .i64 s4, .bool g4, .slice A4 n4 c4, .slice B4 m4 d4] 69 #[.bool false, .int .i64 0, .bool false, .slice none 0 0, .slice none 0 0, .int .i64 0, .bool false, .int .i64 0, .bool false, .slice none 0 0, .slice none 0 0, .int .i64 0, .bool false] 64
  have LR0 := Lib.hid (HasBlk.of (n := 13) LR.out rfl rfl)
  clear LR
  go_enter Tryz.func87, Tryz.ntmps87
  obtain ⟨q1_0, q1_1, q1_2, q1_3, q1_4, q1_5, q1_6, q1_7, q1_8⟩ := LG1_0.out.c9
  go_wp2_with fail
  refine (HU.out _ LB0.out).mono ?_
  rintro e w1 ⟨h1, C1, e1, f1, D1, k1, l1, h2, C2, e2, f2, D2, k2, l2, rfl, hU1, hU2, hb1⟩
  have LB1 := stB LB0 hb1 LB0.out.size
  have LR1 := stR LR0 hb1
  have LG0_1 := stG LG0_0 hb1
  have LG1_1 := stG LG1_0 hb1
  clear LB0 LR0 LG0_0 LG1_0
  clear hb1 HU q1_0 q1_1 q1_2 q1_3 q1_4 q1_5 q1_6 q1_7 q1_8
  go_upto_region 2 with fail
  have hlt := LR1.out.lt
  have LB2 := Lib.hid (LB1.out.alloc LB1.out.size (.cells #[.bool false, .int .i64 y1, .bool h1, .slice C1 e1 f1, .slice D1 k1 l1, .int .i64 y2, .bool h2, .slice C2 e2 f2, .slice D2 k2 l2] 69))
  have LR2 := Lib.hid (LR1.out.alloc (.cells #[.bool false, .int .i64 y1, .bool h1, .slice C1 e1 f1, .slice D1 k1 l1, .int .i64 y2, .bool h2, .slice C2 e2 f2, .slice D2 k2 l2] 69))
  have LG0_2 := Lib.hid (LG0_1.out.alloc (.cells #[.bool false, .int .i64 y1, .bool h1, .slice C1 e1 f1, .slice D1 k1 l1, .int .i64 y2, .bool h2, .slice C2 e2 f2, .slice D2 k2 l2] 69))
  have LG1_2 := Lib.hid (LG1_1.out.alloc (.cells #[.bool false, .int .i64 y1, .bool h1, .slice C1 e1 f1, .slice D1 k1 l1, .int .i64 y2, .bool h2, .slice C2 e2 f2, .slice D2 k2 l2] 69))
  have LG2_2 := Lib.hid (Blk.new w1 69 #[.bool false, .int .i64 y1, .bool h1, .slice C1 e1 f1, .slice D1 k1 l1, .int .i64 y2, .bool h2, .slice C2 e2 f2, .slice D2 k2 l2])
  have hbU := (Below.refl w1.heap.size w1).alloc (Nat.le_refl _) (.cells #[.bool false, .int .i64 y1, .bool h1, .slice C1 e1 f1, .slice D1 k1 l1, .int .i64 y2, .bool h2, .slice C2 e2 f2, .slice D2 k2 l2] 69)
  have U1 := Lib.hid (hU1.below hbU)
  have U2 := Lib.hid (hU2.below hbU)
  clear hU1 hU2 hbU LB1 LR1 LG0_1 LG1_1
  obtain ⟨W2, hW2⟩ : ∃ W, w1.alloc (.cells #[.bool false, .int .i64 y1, .bool h1, .slice C1 e1 f1, .slice D1 k1 l1, .int .i64 y2, .bool h2, .slice C2 e2 f2, .slice D2 k2 l2] 69) = W := ⟨_, rfl⟩
  rw [hW2] at LB2 LR2 LG0_2 LG1_2 LG2_2 U1 U2 ⊢
  clear hW2
  obtain ⟨hh, hg⟩ : ∃ g, w1.heap.size = g := ⟨_, rfl⟩
  rw [hg] at LG2_2 hlt ⊢
  clear hg
  have q0_0 := LG0_2.out.ce 0 rfl
  have q2_0 := LG2_2.out.ce 0 rfl
  go_upto_region 4 with fail
  clear q0_0 q2_0
  go_cut [6] (fun s6 wx => ∃ (gl : Nat) (i1 : Bool) (F1 : Option Addr) (a1 b1 : Nat) (G1 : Option Addr) (j1 o1 : Nat) (i2 : Bool) (F2 : Option Addr) (a2 b2 : Nat) (G2 : Option Addr) (j2 o2 : Nat), s6 = .pointer (some ⟨gl, 0, none⟩) ∧ (w.heap.size + 2) < gl ∧ hh < gl ∧ Blk wx gl 64 #[.bool false, .int .i64 z1, .bool i1, .slice F1 a1 b1, .slice G1 j1 o1, .int .i64 1, .bool ww1, .int .i64 z2, .bool i2, .slice F2 a2 b2, .slice G2 j2 o2, .int .i64 1, .bool ww2] ∧ RatV wx (2 * K) i1 (.slice F1 a1 b1) (.slice G1 j1 o1) fx1 ∧ RatV wx (2 * K) i2 (.slice F2 a2 b2) (.slice G2 j2 o2) fx2 ∧ RatV wx K h1 (.slice C1 e1 f1) (.slice D1 k1 l1) v1 ∧ RatV wx K h2 (.slice C2 e2 f2) (.slice D2 k2 l2) v2 ∧ Blk wx w.heap.size 69 #[.bool false, .int .i64 s1, .bool g1, .slice A1 n1 c1, .slice B1 m1 d1, .int .i64 s2, .bool g2, .slice A2 n2 c2, .slice B2 m2 d2] ∧ Blk wx (w.heap.size + 1) 69 #[.bool ot, .int .i64 s3, .bool g3, .slice A3 n3 c3, .slice B3 m3 d3, .int .i64 s4, .bool g4, .slice A4 n4 c4, .slice B4 m4 d4] ∧ Blk wx hh 69 #[.bool false, .int .i64 y1, .bool h1, .slice C1 e1 f1, .slice D1 k1 l1, .int .i64 y2, .bool h2, .slice C2 e2 f2, .slice D2 k2 l2] ∧ HasBlk wx (w.heap.size + 2) 64 13 ∧ Below w.heap.size w wx)
  case first =>
    refine wp_region_held_drew (S := fun W' => Blk W' w.heap.size 69 #[.bool false, .int .i64 s1, .bool g1, .slice A1 n1 c1, .slice B1 m1 d1, .int .i64 s2, .bool g2, .slice A2 n2 c2, .slice B2 m2 d2] ∧ Blk W' (w.heap.size + 1) 69 #[.bool ot, .int .i64 s3, .bool g3, .slice A3 n3 c3, .slice B3 m3 d3, .int .i64 s4, .bool g4, .slice A4 n4 c4, .slice B4 m4 d4] ∧ Blk W' hh 69 #[.bool false, .int .i64 y1, .bool h1, .slice C1 e1 f1, .slice D1 k1 l1, .int .i64 y2, .bool h2, .slice C2 e2 f2, .slice D2 k2 l2] ∧ HasBlk W' (w.heap.size + 2) 64 13 ∧ Below w.heap.size w W') (by kernel_rfl) (by exact ⟨LG0_2.out.drew, LG1_2.out.drew, LG2_2.out.drew, LR2.out.drew, LB2.out.drew⟩) (fun hHeld => ?_)
    have hc0 := U1.out.below (Below.refl _ _).drew
    have hc1 := U2.out.below (Below.refl _ _).drew
    clear LG0_2 LG1_2 LG2_2 LR2 LB2 U1 U2
    obtain ⟨WD, hWD⟩ : ∃ X, W2.drew = X := ⟨_, rfl⟩
    rw [hWD] at hHeld hc0 hc1 ⊢
    clear hWD
    refine tk 0 ?_
    try simp only [Act.put, lay]
    refine tk 1 ?_ (hv := by intro W2 hSw; have q1 : _ = some (.int .i64 s1 : Value) := hSw.1.cell 1; have q2 : _ = some (.bool g1 : Value) := hSw.1.cell 2; have q3 : _ = some (.slice A1 n1 c1 : Value) := hSw.1.cell 3; have q4 : _ = some (.slice B1 m1 d1 : Value) := hSw.1.cell 4; go_simp; (try with_reducible rfl))
    try simp only [Act.put, lay]
    refine tk 2 ?_
    try simp only [Act.put, lay]
    refine tk 3 ?_ (hv := by intro W2 hSw; have q1 : _ = some (.int .i64 y1 : Value) := hSw.2.2.1.cell 1; have q2 : _ = some (.bool h1 : Value) := hSw.2.2.1.cell 2; have q3 : _ = some (.slice C1 e1 f1 : Value) := hSw.2.2.1.cell 3; have q4 : _ = some (.slice D1 k1 l1 : Value) := hSw.2.2.1.cell 4; go_simp; (try with_reducible rfl))
    try simp only [Act.put, lay]
    refine tk 5 ?_
    try simp only [Act.put, lay]
    refine tk 6 ?_ (hv := by intro W2 hSw; have q5 : _ = some (.int .i64 s2 : Value) := hSw.1.cell 5; have q6 : _ = some (.bool g2 : Value) := hSw.1.cell 6; have q7 : _ = some (.slice A2 n2 c2 : Value) := hSw.1.cell 7; have q8 : _ = some (.slice B2 m2 d2 : Value) := hSw.1.cell 8; go_simp; (try with_reducible rfl))
    try simp only [Act.put, lay]
    refine tk 7 ?_
    try simp only [Act.put, lay]
    refine tk 8 ?_ (hv := by intro W2 hSw; have q1 : _ = some (.int .i64 y1 : Value) := hSw.2.2.1.cell 1; have q2 : _ = some (.bool h1 : Value) := hSw.2.2.1.cell 2; have q3 : _ = some (.slice C1 e1 f1 : Value) := hSw.2.2.1.cell 3; have q4 : _ = some (.slice D1 k1 l1 : Value) := hSw.2.2.1.cell 4; go_simp; (try with_reducible rfl))
    try simp only [Act.put, lay]
    refine wpAnyH_ready (rs := [4, 11]) (by kernel_rfl) (by simp) ?_
    refine AllReadyH.cons rfl (fun KK hKK => ?_) (AllReadyH.cons rfl (fun KK hKK => ?_) AllReadyH.nil)
    · skip
      go_simp
      refine (HU1.out _ hHeld.2.2.2.2 _ _ _ _ _ _ _ hc0).1.mono ?_
      rintro e wk1 ⟨i1, F1, a1, b1, G1, j1, o1, rfl, hZ1, hbA⟩
      go_wp2_with fail
      refine hKK.out _ _ (⟨hHeld.1.keep hbA, hHeld.2.1.keep hbA, hHeld.2.2.1.keep hbA, hHeld.2.2.2.1.keep hbA, hHeld.2.2.2.2.trans (hbA.mono hHeld.2.2.2.2.size)⟩) (fun _ => ?_)
      clear hKK KK hHeld; rename_i hHeld
      try simp only [Act.put, lay]
      have hc0 := hc0.below hbA
      have hc1 := hc1.below hbA
      clear hbA
      refine wpAnyH_ready (rs := [9, 11]) (by kernel_rfl) (by simp) ?_
      refine AllReadyH.cons rfl (fun KK hKK => ?_) (AllReadyH.cons rfl (fun KK hKK => ?_) AllReadyH.nil)
      · skip
        go_simp
        refine (HU1.out _ hHeld.2.2.2.2 _ _ _ _ _ _ _ hc0).2.mono ?_
        rintro e wk2 ⟨i2, F2, a2, b2, G2, j2, o2, rfl, hZ2, hbB⟩
        go_wp2_with fail
        refine hKK.out _ _ (⟨hHeld.1.keep hbB, hHeld.2.1.keep hbB, hHeld.2.2.1.keep hbB, hHeld.2.2.2.1.keep hbB, hHeld.2.2.2.2.trans (hbB.mono hHeld.2.2.2.2.size)⟩) (fun _ => ?_)
        clear hKK KK hHeld; rename_i hHeld
        try simp only [Act.put, lay]
        have hZ1 := hZ1.below hbB
        have hc0 := hc0.below hbB
        have hc1 := hc1.below hbB
        clear hbB
        refine tk 10 ?_
        try simp only [Act.put, lay]
        refine rdy 11 (fun KK hKK => ?_)
        have H0 := hHeld
        go_simp
        refine hKK.out _ _ ⟨H0.1.alloc _, H0.2.1.alloc _, H0.2.2.1.alloc _, H0.2.2.2.1.alloc _, H0.2.2.2.2.alloc H0.2.2.2.2.size _⟩ (fun _ => ?_)
        clear hKK KK hHeld; rename_i hHeld
        try simp only [Act.put, lay]
        have hl0 := H0.1.lt
        have hl1 := H0.2.1.lt
        have hl2 := H0.2.2.1.lt
        have hlr := H0.2.2.2.1.lt
        have hlb := H0.2.2.2.2.size
        clear H0
        have BL := Blk.new (wk2) 64 #[.bool false, .int .i64 0, .bool false, .slice none 0 0, .slice none 0 0, .int .i64 0, .bool false, .int .i64 0, .bool false, .slice none 0 0, .slice none 0 0, .int .i64 0, .bool false]
        have hZ1 := hZ1.below (below_alloc _ (.cells #[.bool false, .int .i64 0, .bool false, .slice none 0 0, .slice none 0 0, .int .i64 0, .bool false, .int .i64 0, .bool false, .slice none 0 0, .slice none 0 0, .int .i64 0, .bool false] 64))
        have hZ2 := hZ2.below (below_alloc _ (.cells #[.bool false, .int .i64 0, .bool false, .slice none 0 0, .slice none 0 0, .int .i64 0, .bool false, .int .i64 0, .bool false, .slice none 0 0, .slice none 0 0, .int .i64 0, .bool false] 64))
        have hc0 := hc0.below (below_alloc _ (.cells #[.bool false, .int .i64 0, .bool false, .slice none 0 0, .slice none 0 0, .int .i64 0, .bool false, .int .i64 0, .bool false, .slice none 0 0, .slice none 0 0, .int .i64 0, .bool false] 64))
        have hc1 := hc1.below (below_alloc _ (.cells #[.bool false, .int .i64 0, .bool false, .slice none 0 0, .slice none 0 0, .int .i64 0, .bool false, .int .i64 0, .bool false, .slice none 0 0, .slice none 0 0, .int .i64 0, .bool false] 64))
        obtain ⟨gl, hgl⟩ : ∃ g, (wk2).heap.size = g := ⟨_, rfl⟩
        obtain ⟨WA, hWA⟩ : ∃ X, (wk2).alloc (.cells #[.bool false, .int .i64 0, .bool false, .slice none 0 0, .slice none 0 0, .int .i64 0, .bool false, .int .i64 0, .bool false, .slice none 0 0, .slice none 0 0, .int .i64 0, .bool false] 64) = X := ⟨_, rfl⟩
        rw [hWA] at BL hHeld hZ1 hZ2 hc0 hc1 ⊢
        rw [hgl] at BL hl0 hl1 hl2 hlr hlb ⊢
        clear hgl hWA
        refine rdy 12 (fun KK hKK => ?_)
        have qz0 := BL.cell 0
        have fz0 := BL.frozen 0
        have qz1 := BL.cell 1
        have fz1 := BL.frozen 1
        have qz2 := BL.cell 2
        have fz2 := BL.frozen 2
        have qz3 := BL.cell 3
        have fz3 := BL.frozen 3
        have qz4 := BL.cell 4
        have fz4 := BL.frozen 4
        have qz5 := BL.cell 5
        have fz5 := BL.frozen 5
        have qz6 := BL.cell 6
        have fz6 := BL.frozen 6
        have qz7 := BL.cell 7
        have fz7 := BL.frozen 7
        have qz8 := BL.cell 8
        have fz8 := BL.frozen 8
        have qz9 := BL.cell 9
        have fz9 := BL.frozen 9
        have qz10 := BL.cell 10
        have fz10 := BL.frozen 10
        have qz11 := BL.cell 11
        have fz11 := BL.frozen 11
        have qz12 := BL.cell 12
        have fz12 := BL.frozen 12
        simp at qz0 qz1 qz2 qz3 qz4 qz5 qz6 qz7 qz8 qz9 qz10 qz11 qz12
        go_simp
        refine hKK.out _ _ ⟨hHeld.1.other (by omega) 0 [.bool false, .int .i64 z1, .bool i1, .slice F1 a1 b1, .slice G1 j1 o1, .int .i64 1, .bool ww1, .int .i64 z2, .bool i2, .slice F2 a2 b2, .slice G2 j2 o2, .int .i64 1, .bool ww2], hHeld.2.1.other (by omega) 0 [.bool false, .int .i64 z1, .bool i1, .slice F1 a1 b1, .slice G1 j1 o1, .int .i64 1, .bool ww1, .int .i64 z2, .bool i2, .slice F2 a2 b2, .slice G2 j2 o2, .int .i64 1, .bool ww2], hHeld.2.2.1.other (by omega) 0 [.bool false, .int .i64 z1, .bool i1, .slice F1 a1 b1, .slice G1 j1 o1, .int .i64 1, .bool ww1, .int .i64 z2, .bool i2, .slice F2 a2 b2, .slice G2 j2 o2, .int .i64 1, .bool ww2], hHeld.2.2.2.1.other (by omega) 0 [.bool false, .int .i64 z1, .bool i1, .slice F1 a1 b1, .slice G1 j1 o1, .int .i64 1, .bool ww1, .int .i64 z2, .bool i2, .slice F2 a2 b2, .slice G2 j2 o2, .int .i64 1, .bool ww2], below_sets (by omega) [.bool false, .int .i64 z1, .bool i1, .slice F1 a1 b1, .slice G1 j1 o1, .int .i64 1, .bool ww1, .int .i64 z2, .bool i2, .slice F2 a2 b2, .slice G2 j2 o2, .int .i64 1, .bool ww2] 0 _ hHeld.2.2.2.2⟩ (fun _ => ?_)
        clear hKK KK
        rename_i hNew
        try simp only [Act.put, lay]
        refine wpAnyH_done (by kernel_rfl) ?_ _
        go_wp2_with fail
        go_meet
        have HBL := HasBlk.of (n := 13) BL rfl rfl
        exact ⟨gl, _, _, _, _, _, _, _, _, _, _, _, _, _, _, rfl, hlr, hl2, by have hbs := Blk.sets [.bool false, .int .i64 z1, .bool i1, .slice F1 a1 b1, .slice G1 j1 o1, .int .i64 1, .bool ww1, .int .i64 z2, .bool i2, .slice F2 a2 b2, .slice G2 j2 o2, .int .i64 1, .bool ww2] 0 _ _ BL; simpa [laid, sets] using hbs, HBL.rat hZ1 [.bool false, .int .i64 z1, .bool i1, .slice F1 a1 b1, .slice G1 j1 o1, .int .i64 1, .bool ww1, .int .i64 z2, .bool i2, .slice F2 a2 b2, .slice G2 j2 o2, .int .i64 1, .bool ww2], HBL.rat hZ2 [.bool false, .int .i64 z1, .bool i1, .slice F1 a1 b1, .slice G1 j1 o1, .int .i64 1, .bool ww1, .int .i64 z2, .bool i2, .slice F2 a2 b2, .slice G2 j2 o2, .int .i64 1, .bool ww2], HBL.rat hc0 [.bool false, .int .i64 z1, .bool i1, .slice F1 a1 b1, .slice G1 j1 o1, .int .i64 1, .bool ww1, .int .i64 z2, .bool i2, .slice F2 a2 b2, .slice G2 j2 o2, .int .i64 1, .bool ww2], HBL.rat hc1 [.bool false, .int .i64 z1, .bool i1, .slice F1 a1 b1, .slice G1 j1 o1, .int .i64 1, .bool ww1, .int .i64 z2, .bool i2, .slice F2 a2 b2, .slice G2 j2 o2, .int .i64 1, .bool ww2], hNew⟩
      · skip
        have H0 := hHeld
        go_simp
        refine hKK.out _ _ ⟨H0.1.alloc _, H0.2.1.alloc _, H0.2.2.1.alloc _, H0.2.2.2.1.alloc _, H0.2.2.2.2.alloc H0.2.2.2.2.size _⟩ (fun _ => ?_)
        clear hKK KK hHeld; rename_i hHeld
        try simp only [Act.put, lay]
        have hl0 := H0.1.lt
        have hl1 := H0.2.1.lt
        have hl2 := H0.2.2.1.lt
        have hlr := H0.2.2.2.1.lt
        have hlb := H0.2.2.2.2.size
        clear H0
        have BL := Blk.new (wk1) 64 #[.bool false, .int .i64 0, .bool false, .slice none 0 0, .slice none 0 0, .int .i64 0, .bool false, .int .i64 0, .bool false, .slice none 0 0, .slice none 0 0, .int .i64 0, .bool false]
        have hZ1 := hZ1.below (below_alloc _ (.cells #[.bool false, .int .i64 0, .bool false, .slice none 0 0, .slice none 0 0, .int .i64 0, .bool false, .int .i64 0, .bool false, .slice none 0 0, .slice none 0 0, .int .i64 0, .bool false] 64))
        have hc0 := hc0.below (below_alloc _ (.cells #[.bool false, .int .i64 0, .bool false, .slice none 0 0, .slice none 0 0, .int .i64 0, .bool false, .int .i64 0, .bool false, .slice none 0 0, .slice none 0 0, .int .i64 0, .bool false] 64))
        have hc1 := hc1.below (below_alloc _ (.cells #[.bool false, .int .i64 0, .bool false, .slice none 0 0, .slice none 0 0, .int .i64 0, .bool false, .int .i64 0, .bool false, .slice none 0 0, .slice none 0 0, .int .i64 0, .bool false] 64))
        obtain ⟨gl, hgl⟩ : ∃ g, (wk1).heap.size = g := ⟨_, rfl⟩
        obtain ⟨WA, hWA⟩ : ∃ X, (wk1).alloc (.cells #[.bool false, .int .i64 0, .bool false, .slice none 0 0, .slice none 0 0, .int .i64 0, .bool false, .int .i64 0, .bool false, .slice none 0 0, .slice none 0 0, .int .i64 0, .bool false] 64) = X := ⟨_, rfl⟩
        rw [hWA] at BL hHeld hZ1 hc0 hc1 ⊢
        rw [hgl] at BL hl0 hl1 hl2 hlr hlb ⊢
        clear hgl hWA
        refine rdy 9 (fun KK hKK => ?_)
        go_simp
        refine (HU1.out _ hHeld.2.2.2.2 _ _ _ _ _ _ _ hc0).2.mono ?_
        rintro e wk2 ⟨i2, F2, a2, b2, G2, j2, o2, rfl, hZ2, hbB⟩
        go_wp2_with fail
        refine hKK.out _ _ (⟨hHeld.1.keep hbB, hHeld.2.1.keep hbB, hHeld.2.2.1.keep hbB, hHeld.2.2.2.1.keep hbB, hHeld.2.2.2.2.trans (hbB.mono hHeld.2.2.2.2.size)⟩) (fun _ => ?_)
        clear hKK KK hHeld; rename_i hHeld
        try simp only [Act.put, lay]
        have hZ1 := hZ1.below hbB
        have hc0 := hc0.below hbB
        have hc1 := hc1.below hbB
        have BL := BL.keep hbB
        clear hbB
        refine tk 10 ?_
        try simp only [Act.put, lay]
        refine rdy 12 (fun KK hKK => ?_)
        have qz0 := BL.cell 0
        have fz0 := BL.frozen 0
        have qz1 := BL.cell 1
        have fz1 := BL.frozen 1
        have qz2 := BL.cell 2
        have fz2 := BL.frozen 2
        have qz3 := BL.cell 3
        have fz3 := BL.frozen 3
        have qz4 := BL.cell 4
        have fz4 := BL.frozen 4
        have qz5 := BL.cell 5
        have fz5 := BL.frozen 5
        have qz6 := BL.cell 6
        have fz6 := BL.frozen 6
        have qz7 := BL.cell 7
        have fz7 := BL.frozen 7
        have qz8 := BL.cell 8
        have fz8 := BL.frozen 8
        have qz9 := BL.cell 9
        have fz9 := BL.frozen 9
        have qz10 := BL.cell 10
        have fz10 := BL.frozen 10
        have qz11 := BL.cell 11
        have fz11 := BL.frozen 11
        have qz12 := BL.cell 12
        have fz12 := BL.frozen 12
        simp at qz0 qz1 qz2 qz3 qz4 qz5 qz6 qz7 qz8 qz9 qz10 qz11 qz12
        go_simp
        refine hKK.out _ _ ⟨hHeld.1.other (by omega) 0 [.bool false, .int .i64 z1, .bool i1, .slice F1 a1 b1, .slice G1 j1 o1, .int .i64 1, .bool ww1, .int .i64 z2, .bool i2, .slice F2 a2 b2, .slice G2 j2 o2, .int .i64 1, .bool ww2], hHeld.2.1.other (by omega) 0 [.bool false, .int .i64 z1, .bool i1, .slice F1 a1 b1, .slice G1 j1 o1, .int .i64 1, .bool ww1, .int .i64 z2, .bool i2, .slice F2 a2 b2, .slice G2 j2 o2, .int .i64 1, .bool ww2], hHeld.2.2.1.other (by omega) 0 [.bool false, .int .i64 z1, .bool i1, .slice F1 a1 b1, .slice G1 j1 o1, .int .i64 1, .bool ww1, .int .i64 z2, .bool i2, .slice F2 a2 b2, .slice G2 j2 o2, .int .i64 1, .bool ww2], hHeld.2.2.2.1.other (by omega) 0 [.bool false, .int .i64 z1, .bool i1, .slice F1 a1 b1, .slice G1 j1 o1, .int .i64 1, .bool ww1, .int .i64 z2, .bool i2, .slice F2 a2 b2, .slice G2 j2 o2, .int .i64 1, .bool ww2], below_sets (by omega) [.bool false, .int .i64 z1, .bool i1, .slice F1 a1 b1, .slice G1 j1 o1, .int .i64 1, .bool ww1, .int .i64 z2, .bool i2, .slice F2 a2 b2, .slice G2 j2 o2, .int .i64 1, .bool ww2] 0 _ hHeld.2.2.2.2⟩ (fun _ => ?_)
        clear hKK KK
        rename_i hNew
        try simp only [Act.put, lay]
        refine wpAnyH_done (by kernel_rfl) ?_ _
        go_wp2_with fail
        go_meet
        have HBL := HasBlk.of (n := 13) BL rfl rfl
        exact ⟨gl, _, _, _, _, _, _, _, _, _, _, _, _, _, _, rfl, hlr, hl2, by have hbs := Blk.sets [.bool false, .int .i64 z1, .bool i1, .slice F1 a1 b1, .slice G1 j1 o1, .int .i64 1, .bool ww1, .int .i64 z2, .bool i2, .slice F2 a2 b2, .slice G2 j2 o2, .int .i64 1, .bool ww2] 0 _ _ BL; simpa [laid, sets] using hbs, HBL.rat hZ1 [.bool false, .int .i64 z1, .bool i1, .slice F1 a1 b1, .slice G1 j1 o1, .int .i64 1, .bool ww1, .int .i64 z2, .bool i2, .slice F2 a2 b2, .slice G2 j2 o2, .int .i64 1, .bool ww2], HBL.rat hZ2 [.bool false, .int .i64 z1, .bool i1, .slice F1 a1 b1, .slice G1 j1 o1, .int .i64 1, .bool ww1, .int .i64 z2, .bool i2, .slice F2 a2 b2, .slice G2 j2 o2, .int .i64 1, .bool ww2], HBL.rat hc0 [.bool false, .int .i64 z1, .bool i1, .slice F1 a1 b1, .slice G1 j1 o1, .int .i64 1, .bool ww1, .int .i64 z2, .bool i2, .slice F2 a2 b2, .slice G2 j2 o2, .int .i64 1, .bool ww2], HBL.rat hc1 [.bool false, .int .i64 z1, .bool i1, .slice F1 a1 b1, .slice G1 j1 o1, .int .i64 1, .bool ww1, .int .i64 z2, .bool i2, .slice F2 a2 b2, .slice G2 j2 o2, .int .i64 1, .bool ww2], hNew⟩
    · skip
      have H0 := hHeld
      go_simp
      refine hKK.out _ _ ⟨H0.1.alloc _, H0.2.1.alloc _, H0.2.2.1.alloc _, H0.2.2.2.1.alloc _, H0.2.2.2.2.alloc H0.2.2.2.2.size _⟩ (fun _ => ?_)
      clear hKK KK hHeld; rename_i hHeld
      try simp only [Act.put, lay]
      have hl0 := H0.1.lt
      have hl1 := H0.2.1.lt
      have hl2 := H0.2.2.1.lt
      have hlr := H0.2.2.2.1.lt
      have hlb := H0.2.2.2.2.size
      clear H0
      have BL := Blk.new (WD) 64 #[.bool false, .int .i64 0, .bool false, .slice none 0 0, .slice none 0 0, .int .i64 0, .bool false, .int .i64 0, .bool false, .slice none 0 0, .slice none 0 0, .int .i64 0, .bool false]
      have hc0 := hc0.below (below_alloc _ (.cells #[.bool false, .int .i64 0, .bool false, .slice none 0 0, .slice none 0 0, .int .i64 0, .bool false, .int .i64 0, .bool false, .slice none 0 0, .slice none 0 0, .int .i64 0, .bool false] 64))
      have hc1 := hc1.below (below_alloc _ (.cells #[.bool false, .int .i64 0, .bool false, .slice none 0 0, .slice none 0 0, .int .i64 0, .bool false, .int .i64 0, .bool false, .slice none 0 0, .slice none 0 0, .int .i64 0, .bool false] 64))
      obtain ⟨gl, hgl⟩ : ∃ g, (WD).heap.size = g := ⟨_, rfl⟩
      obtain ⟨WA, hWA⟩ : ∃ X, (WD).alloc (.cells #[.bool false, .int .i64 0, .bool false, .slice none 0 0, .slice none 0 0, .int .i64 0, .bool false, .int .i64 0, .bool false, .slice none 0 0, .slice none 0 0, .int .i64 0, .bool false] 64) = X := ⟨_, rfl⟩
      rw [hWA] at BL hHeld hc0 hc1 ⊢
      rw [hgl] at BL hl0 hl1 hl2 hlr hlb ⊢
      clear hgl hWA
      refine rdy 4 (fun KK hKK => ?_)
      go_simp
      refine (HU1.out _ hHeld.2.2.2.2 _ _ _ _ _ _ _ hc0).1.mono ?_
      rintro e wk1 ⟨i1, F1, a1, b1, G1, j1, o1, rfl, hZ1, hbA⟩
      go_wp2_with fail
      refine hKK.out _ _ (⟨hHeld.1.keep hbA, hHeld.2.1.keep hbA, hHeld.2.2.1.keep hbA, hHeld.2.2.2.1.keep hbA, hHeld.2.2.2.2.trans (hbA.mono hHeld.2.2.2.2.size)⟩) (fun _ => ?_)
      clear hKK KK hHeld; rename_i hHeld
      try simp only [Act.put, lay]
      have hc0 := hc0.below hbA
      have hc1 := hc1.below hbA
      have BL := BL.keep hbA
      clear hbA
      refine rdy 9 (fun KK hKK => ?_)
      go_simp
      refine (HU1.out _ hHeld.2.2.2.2 _ _ _ _ _ _ _ hc0).2.mono ?_
      rintro e wk2 ⟨i2, F2, a2, b2, G2, j2, o2, rfl, hZ2, hbB⟩
      go_wp2_with fail
      refine hKK.out _ _ (⟨hHeld.1.keep hbB, hHeld.2.1.keep hbB, hHeld.2.2.1.keep hbB, hHeld.2.2.2.1.keep hbB, hHeld.2.2.2.2.trans (hbB.mono hHeld.2.2.2.2.size)⟩) (fun _ => ?_)
      clear hKK KK hHeld; rename_i hHeld
      try simp only [Act.put, lay]
      have hZ1 := hZ1.below hbB
      have hc0 := hc0.below hbB
      have hc1 := hc1.below hbB
      have BL := BL.keep hbB
      clear hbB
      refine tk 10 ?_
      try simp only [Act.put, lay]
      refine rdy 12 (fun KK hKK => ?_)
      have qz0 := BL.cell 0
      have fz0 := BL.frozen 0
      have qz1 := BL.cell 1
      have fz1 := BL.frozen 1
      have qz2 := BL.cell 2
      have fz2 := BL.frozen 2
      have qz3 := BL.cell 3
      have fz3 := BL.frozen 3
      have qz4 := BL.cell 4
      have fz4 := BL.frozen 4
      have qz5 := BL.cell 5
      have fz5 := BL.frozen 5
      have qz6 := BL.cell 6
      have fz6 := BL.frozen 6
      have qz7 := BL.cell 7
      have fz7 := BL.frozen 7
      have qz8 := BL.cell 8
      have fz8 := BL.frozen 8
      have qz9 := BL.cell 9
      have fz9 := BL.frozen 9
      have qz10 := BL.cell 10
      have fz10 := BL.frozen 10
      have qz11 := BL.cell 11
      have fz11 := BL.frozen 11
      have qz12 := BL.cell 12
      have fz12 := BL.frozen 12
      simp at qz0 qz1 qz2 qz3 qz4 qz5 qz6 qz7 qz8 qz9 qz10 qz11 qz12
      go_simp
      refine hKK.out _ _ ⟨hHeld.1.other (by omega) 0 [.bool false, .int .i64 z1, .bool i1, .slice F1 a1 b1, .slice G1 j1 o1, .int .i64 1, .bool ww1, .int .i64 z2, .bool i2, .slice F2 a2 b2, .slice G2 j2 o2, .int .i64 1, .bool ww2], hHeld.2.1.other (by omega) 0 [.bool false, .int .i64 z1, .bool i1, .slice F1 a1 b1, .slice G1 j1 o1, .int .i64 1, .bool ww1, .int .i64 z2, .bool i2, .slice F2 a2 b2, .slice G2 j2 o2, .int .i64 1, .bool ww2], hHeld.2.2.1.other (by omega) 0 [.bool false, .int .i64 z1, .bool i1, .slice F1 a1 b1, .slice G1 j1 o1, .int .i64 1, .bool ww1, .int .i64 z2, .bool i2, .slice F2 a2 b2, .slice G2 j2 o2, .int .i64 1, .bool ww2], hHeld.2.2.2.1.other (by omega) 0 [.bool false, .int .i64 z1, .bool i1, .slice F1 a1 b1, .slice G1 j1 o1, .int .i64 1, .bool ww1, .int .i64 z2, .bool i2, .slice F2 a2 b2, .slice G2 j2 o2, .int .i64 1, .bool ww2], below_sets (by omega) [.bool false, .int .i64 z1, .bool i1, .slice F1 a1 b1, .slice G1 j1 o1, .int .i64 1, .bool ww1, .int .i64 z2, .bool i2, .slice F2 a2 b2, .slice G2 j2 o2, .int .i64 1, .bool ww2] 0 _ hHeld.2.2.2.2⟩ (fun _ => ?_)
      clear hKK KK
      rename_i hNew
      try simp only [Act.put, lay]
      refine wpAnyH_done (by kernel_rfl) ?_ _
      go_wp2_with fail
      go_meet
      have HBL := HasBlk.of (n := 13) BL rfl rfl
      exact ⟨gl, _, _, _, _, _, _, _, _, _, _, _, _, _, _, rfl, hlr, hl2, by have hbs := Blk.sets [.bool false, .int .i64 z1, .bool i1, .slice F1 a1 b1, .slice G1 j1 o1, .int .i64 1, .bool ww1, .int .i64 z2, .bool i2, .slice F2 a2 b2, .slice G2 j2 o2, .int .i64 1, .bool ww2] 0 _ _ BL; simpa [laid, sets] using hbs, HBL.rat hZ1 [.bool false, .int .i64 z1, .bool i1, .slice F1 a1 b1, .slice G1 j1 o1, .int .i64 1, .bool ww1, .int .i64 z2, .bool i2, .slice F2 a2 b2, .slice G2 j2 o2, .int .i64 1, .bool ww2], HBL.rat hZ2 [.bool false, .int .i64 z1, .bool i1, .slice F1 a1 b1, .slice G1 j1 o1, .int .i64 1, .bool ww1, .int .i64 z2, .bool i2, .slice F2 a2 b2, .slice G2 j2 o2, .int .i64 1, .bool ww2], HBL.rat hc0 [.bool false, .int .i64 z1, .bool i1, .slice F1 a1 b1, .slice G1 j1 o1, .int .i64 1, .bool ww1, .int .i64 z2, .bool i2, .slice F2 a2 b2, .slice G2 j2 o2, .int .i64 1, .bool ww2], HBL.rat hc1 [.bool false, .int .i64 z1, .bool i1, .slice F1 a1 b1, .slice G1 j1 o1, .int .i64 1, .bool ww1, .int .i64 z2, .bool i2, .slice F2 a2 b2, .slice G2 j2 o2, .int .i64 1, .bool ww2], hNew⟩
  case rest =>
  obtain ⟨gl, i1, F1, a1, b1, G1, j1, o1, i2, F2, a2, b2, G2, j2, o2, rfl, hlr, hl2, bl, rz1, rz2, rc0, rc1, hHeld⟩ := hcut
  have LG0_3 := Lib.hid hHeld.1
  have LG1_3 := Lib.hid hHeld.2.1
  have LG2_3 := Lib.hid hHeld.2.2.1
  have LR3 := Lib.hid hHeld.2.2.2.1
  have LB3 := Lib.hid hHeld.2.2.2.2
  have LG3_3 := Lib.hid bl
  have Z1 := Lib.hid rz1
  have Z2 := Lib.hid rz2
  have V2 := Lib.hid rc1
  clear hHeld bl rz1 rz2 rc0 rc1 LB2 LR2 LG0_2 LG1_2 LG2_2 U1 U2 HU1
  by_cases ha : 0 < sg
  · have hb : ¬ tg < 0 := fun h => HAB.out ⟨ha, h⟩
    have ea := EQA.out
    have eb := EQB.out
    rw [if_pos ha] at ea
    rw [if_neg hb] at eb
    cases ea
    cases eb
    clear EQA EQB HAB
    obtain ⟨q0_0, q0_1, q0_2, q0_3, q0_4, q0_5, q0_6, q0_7, q0_8⟩ := LG0_3.out.c9
    go_wp2_with fail
    refine (HS1.out _ LB3.out).mono ?_
    rintro e wSa ⟨rfl, hbS⟩
    have LB4 := stB LB3 hbS LB3.out.size
    have LR4 := stR LR3 hbS
    have LG0_4 := stG LG0_3 hbS
    have LG1_4 := stG LG1_3 hbS
    have LG2_4 := stG LG2_3 hbS
    have LG3_4 := stG LG3_3 hbS
    clear LB3 LR3 LG0_3 LG1_3 LG2_3 LG3_3
    have Z1 := Lib.hid (Z1.out.below hbS)
    have Z2 := Lib.hid (Z2.out.below hbS)
    have V2 := Lib.hid (V2.out.below hbS)
    clear hbS HS1 q0_0 q0_1 q0_2 q0_3 q0_4 q0_5 q0_6 q0_7 q0_8
    obtain ⟨q0_0, q0_1, q0_2, q0_3, q0_4, q0_5, q0_6, q0_7, q0_8⟩ := LG0_4.out.c9
    obtain ⟨q2_0, q2_1, q2_2, q2_3, q2_4, q2_5, q2_6, q2_7, q2_8⟩ := LG2_4.out.c9
    go_wp2_with fail
    refine (HU2.out _ LB4.out _ _ _ _ _ _ _ V2.out).1.mono ?_
    rintro e wR ⟨i3, F3, a3, b3, G3, j3, o3, rfl, hZ3, hbR⟩
    have LB5 := stB LB4 hbR LB4.out.size
    have LR5 := stR LR4 hbR
    have LG0_5 := stG LG0_4 hbR
    have LG1_5 := stG LG1_4 hbR
    have LG2_5 := stG LG2_4 hbR
    have LG3_5 := stG LG3_4 hbR
    clear LB4 LR4 LG0_4 LG1_4 LG2_4 LG3_4
    have Z1 := Lib.hid (Z1.out.below hbR)
    have Z2 := Lib.hid (Z2.out.below hbR)
    have Z3 := Lib.hid hZ3
    clear hZ3 hbR HU2 V2 q0_0 q0_1 q0_2 q0_3 q0_4 q0_5 q0_6 q0_7 q0_8 q2_0 q2_1 q2_2 q2_3 q2_4 q2_5 q2_6 q2_7 q2_8
    have t0 := LG3_5.out.frozen 1
    have t1 := LG3_5.out.frozen 2
    have t2 := LG3_5.out.frozen 3
    have t3 := LG3_5.out.frozen 4
    have t4 := LG3_5.out.frozen 5
    have t5 := LG3_5.out.frozen 6
    have y0 : _ = some (.int .i64 z1 : Value) := LG3_5.out.cell 1
    have y1 : _ = some (.bool i1 : Value) := LG3_5.out.cell 2
    have y2 : _ = some (.slice F1 a1 b1 : Value) := LG3_5.out.cell 3
    have y3 : _ = some (.slice G1 j1 o1 : Value) := LG3_5.out.cell 4
    have y4 : _ = some (.int .i64 1 : Value) := LG3_5.out.cell 5
    have y5 : _ = some (.bool ww1 : Value) := LG3_5.out.cell 6
    have Z1 := Lib.hid (Z1.out.sets LG3_5.out (NoWd.of (by rw [← Array.all_toList]; rfl)) 1 [.int .i64 z3, .bool i3, .slice F3 a3 b3, .slice G3 j3 o3, .int .i64 1, .bool ww3])
    have Z2 := Lib.hid (Z2.out.sets LG3_5.out (NoWd.of (by rw [← Array.all_toList]; rfl)) 1 [.int .i64 z3, .bool i3, .slice F3 a3 b3, .slice G3 j3 o3, .int .i64 1, .bool ww3])
    have Z3 := Lib.hid (Z3.out.sets LG3_5.out (NoWd.of (by rw [← Array.all_toList]; rfl)) 1 [.int .i64 z3, .bool i3, .slice F3 a3 b3, .slice G3 j3 o3, .int .i64 1, .bool ww3])
    have LB6 := Lib.hid (below_sets (w0 := w) (show w.heap.size ≤ gl by omega) [.int .i64 z3, .bool i3, .slice F3 a3 b3, .slice G3 j3 o3, .int .i64 1, .bool ww3] 1 wR LB5.out)
    have LR6 := Lib.hid (LR5.out.other (r := gl) (by omega) 1 [.int .i64 z3, .bool i3, .slice F3 a3 b3, .slice G3 j3 o3, .int .i64 1, .bool ww3])
    have LG0_6 := Lib.hid (LG0_5.out.other (r := gl) (by omega) 1 [.int .i64 z3, .bool i3, .slice F3 a3 b3, .slice G3 j3 o3, .int .i64 1, .bool ww3])
    have LG1_6 := Lib.hid (LG1_5.out.other (r := gl) (by omega) 1 [.int .i64 z3, .bool i3, .slice F3 a3 b3, .slice G3 j3 o3, .int .i64 1, .bool ww3])
    have LG2_6 := Lib.hid (LG2_5.out.other (r := gl) (by omega) 1 [.int .i64 z3, .bool i3, .slice F3 a3 b3, .slice G3 j3 o3, .int .i64 1, .bool ww3])
    have LG3_6 := Lib.hid (show Blk (sets wR gl 1 [.int .i64 z3, .bool i3, .slice F3 a3 b3, .slice G3 j3 o3, .int .i64 1, .bool ww3]) gl 64 #[.bool false, .int .i64 z3, .bool i3, .slice F3 a3 b3, .slice G3 j3 o3, .int .i64 1, .bool ww3, .int .i64 z2, .bool i2, .slice F2 a2 b2, .slice G2 j2 o2, .int .i64 1, .bool ww2] from by have hbs := Blk.sets [.int .i64 z3, .bool i3, .slice F3 a3 b3, .slice G3 j3 o3, .int .i64 1, .bool ww3] 1 wR _ LG3_5.out; simpa [laid] using hbs)
    clear LB5 LR5 LG0_5 LG1_5 LG2_5 LG3_5
    go_upto_region 7 with fail
    clear t0 y0 t1 y1 t2 y2 t3 y3 t4 y4 t5 y5
    obtain ⟨WQ, hWQ⟩ : ∃ X, sets wR gl 1 [.int .i64 z3, .bool i3, .slice F3 a3 b3, .slice G3 j3 o3, .int .i64 1, .bool ww3] = X := ⟨_, rfl⟩
    rw [hWQ] at LB6 LR6 LG0_6 LG1_6 LG2_6 LG3_6 Z1 Z2 Z3
    simp only [sets] at hWQ
    rw [hWQ]
    clear hWQ
    obtain ⟨q0_0, q0_1, q0_2, q0_3, q0_4, q0_5, q0_6, q0_7, q0_8⟩ := LG0_6.out.c9
    go_wp2_with fail
    refine (HS2.out _ LB6.out).mono ?_
    rintro e wSb ⟨rfl, hbS⟩
    have LB7 := stB LB6 hbS LB6.out.size
    have LR7 := stR LR6 hbS
    have LG0_7 := stG LG0_6 hbS
    have LG1_7 := stG LG1_6 hbS
    have LG2_7 := stG LG2_6 hbS
    have LG3_7 := stG LG3_6 hbS
    clear LB6 LR6 LG0_6 LG1_6 LG2_6 LG3_6
    have Z2 := Lib.hid (Z2.out.below hbS)
    have Z3 := Lib.hid (Z3.out.below hbS)
    clear Z1 hbS HS2 q0_0 q0_1 q0_2 q0_3 q0_4 q0_5 q0_6 q0_7 q0_8
    go_upto_region 9 with fail
    clear ha hb hlt
    have q3_0 := LG3_7.out.ce 0 rfl
    have q3_1 := LG3_7.out.ce 1 rfl
    have q3_2 := LG3_7.out.ce 2 rfl
    have q3_3 := LG3_7.out.ce 3 rfl
    have q3_4 := LG3_7.out.ce 4 rfl
    have q3_5 := LG3_7.out.ce 5 rfl
    have q3_6 := LG3_7.out.ce 6 rfl
    have q3_7 := LG3_7.out.ce 7 rfl
    have q3_8 := LG3_7.out.ce 8 rfl
    have q3_9 := LG3_7.out.ce 9 rfl
    have q3_10 := LG3_7.out.ce 10 rfl
    have q3_11 := LG3_7.out.ce 11 rfl
    have q3_12 := LG3_7.out.ce 12 rfl
    have FR1 := Lib.hid (LR7.out.rat Z3.out [.bool false, .int .i64 z3, .bool i3, .slice F3 a3 b3, .slice G3 j3 o3, .int .i64 1, .bool ww3, .int .i64 z2, .bool i2, .slice F2 a2 b2, .slice G2 j2 o2, .int .i64 1, .bool ww2])
    have FR2 := Lib.hid (LR7.out.rat Z2.out [.bool false, .int .i64 z3, .bool i3, .slice F3 a3 b3, .slice G3 j3 o3, .int .i64 1, .bool ww3, .int .i64 z2, .bool i2, .slice F2 a2 b2, .slice G2 j2 o2, .int .i64 1, .bool ww2])
    clear Z2 Z3
    obtain ⟨ha0, hf0, ha1, hf1, ha2, hf2, ha3, hf3, ha4, hf4, ha5, hf5, ha6, hf6, ha7, hf7, ha8, hf8, ha9, hf9, ha10, hf10, ha11, hf11, ha12, hf12⟩ := LR7.out.sf13
    obtain ⟨hk0, hk1, hk2, hk3, hk4, hk5, hk6, hk7, hk8, hk9, hk10, hk11, hk12⟩ := LR7.out.sc13 (.bool false) (.int .i64 z3) (.bool i3) (.slice F3 a3 b3) (.slice G3 j3 o3) (.int .i64 1) (.bool ww3) (.int .i64 z2) (.bool i2) (.slice F2 a2 b2) (.slice G2 j2 o2) (.int .i64 1) (.bool ww2)
    have F := Lib.hid (below_sets (w0 := w) (r := (w.heap.size + 2)) (by omega) [.bool false, .int .i64 z3, .bool i3, .slice F3 a3 b3, .slice G3 j3 o3, .int .i64 1, .bool ww3, .int .i64 z2, .bool i2, .slice F2 a2 b2, .slice G2 j2 o2, .int .i64 1, .bool ww2] 0 _ LB7.out)
    simp [sets] at hk0 hk1 hk2 hk3 hk4 hk5 hk6 hk7 hk8 hk9 hk10 hk11 hk12
    go_wp2
    refine bodyPost_ret (v := .agg #[.bool false, .int .i64 z3, .bool i3, .slice F3 a3 b3, .slice G3 j3 o3, .int .i64 1, .bool ww3, .int .i64 z2, .bool i2, .slice F2 a2 b2, .slice G2 j2 o2, .int .i64 1, .bool ww2]) (by simp [results, Tryz.results87, go_sem, hk0, hk1, hk2, hk3, hk4, hk5, hk6, hk7, hk8, hk9, hk10, hk11, hk12]) rfl ?_
    exact ⟨_, _, _, _, _, _, _, _, _, _, _, _, _, _, rfl, FR1.out, FR2.out, F.out⟩
  · by_cases hb : tg < 0
    · have ea := EQA.out
      have eb := EQB.out
      rw [if_neg ha] at ea
      rw [if_pos hb] at eb
      cases ea
      cases eb
      clear EQA EQB HAB
      obtain ⟨q0_0, q0_1, q0_2, q0_3, q0_4, q0_5, q0_6, q0_7, q0_8⟩ := LG0_3.out.c9
      go_wp2_with fail
      refine (HS1.out _ LB3.out).mono ?_
      rintro e wSa ⟨rfl, hbS⟩
      have LB4 := stB LB3 hbS LB3.out.size
      have LR4 := stR LR3 hbS
      have LG0_4 := stG LG0_3 hbS
      have LG1_4 := stG LG1_3 hbS
      have LG2_4 := stG LG2_3 hbS
      have LG3_4 := stG LG3_3 hbS
      clear LB3 LR3 LG0_3 LG1_3 LG2_3 LG3_3
      have Z1 := Lib.hid (Z1.out.below hbS)
      have Z2 := Lib.hid (Z2.out.below hbS)
      have V2 := Lib.hid (V2.out.below hbS)
      clear hbS HS1 q0_0 q0_1 q0_2 q0_3 q0_4 q0_5 q0_6 q0_7 q0_8
      obtain ⟨q0_0, q0_1, q0_2, q0_3, q0_4, q0_5, q0_6, q0_7, q0_8⟩ := LG0_4.out.c9
      go_wp2_with fail
      refine (HS2.out _ LB4.out).mono ?_
      rintro e wSb ⟨rfl, hbS⟩
      have LB5 := stB LB4 hbS LB4.out.size
      have LR5 := stR LR4 hbS
      have LG0_5 := stG LG0_4 hbS
      have LG1_5 := stG LG1_4 hbS
      have LG2_5 := stG LG2_4 hbS
      have LG3_5 := stG LG3_4 hbS
      clear LB4 LR4 LG0_4 LG1_4 LG2_4 LG3_4
      have Z1 := Lib.hid (Z1.out.below hbS)
      have Z2 := Lib.hid (Z2.out.below hbS)
      have V2 := Lib.hid (V2.out.below hbS)
      clear hbS HS2 q0_0 q0_1 q0_2 q0_3 q0_4 q0_5 q0_6 q0_7 q0_8
      obtain ⟨q0_0, q0_1, q0_2, q0_3, q0_4, q0_5, q0_6, q0_7, q0_8⟩ := LG0_5.out.c9
      obtain ⟨q2_0, q2_1, q2_2, q2_3, q2_4, q2_5, q2_6, q2_7, q2_8⟩ := LG2_5.out.c9
      go_wp2_with fail
      refine (HU2.out _ LB5.out _ _ _ _ _ _ _ V2.out).2.mono ?_
      rintro e wR ⟨i4, F4, a4, b4, G4, j4, o4, rfl, hZ4, hbR⟩
      have LB6 := stB LB5 hbR LB5.out.size
      have LR6 := stR LR5 hbR
      have LG0_6 := stG LG0_5 hbR
      have LG1_6 := stG LG1_5 hbR
      have LG2_6 := stG LG2_5 hbR
      have LG3_6 := stG LG3_5 hbR
      clear LB5 LR5 LG0_5 LG1_5 LG2_5 LG3_5
      have Z1 := Lib.hid (Z1.out.below hbR)
      have Z2 := Lib.hid (Z2.out.below hbR)
      have Z4 := Lib.hid hZ4
      clear hZ4 hbR HU2 V2 q0_0 q0_1 q0_2 q0_3 q0_4 q0_5 q0_6 q0_7 q0_8 q2_0 q2_1 q2_2 q2_3 q2_4 q2_5 q2_6 q2_7 q2_8
      have t0 := LG3_6.out.frozen 7
      have t1 := LG3_6.out.frozen 8
      have t2 := LG3_6.out.frozen 9
      have t3 := LG3_6.out.frozen 10
      have t4 := LG3_6.out.frozen 11
      have t5 := LG3_6.out.frozen 12
      have y0 : _ = some (.int .i64 z2 : Value) := LG3_6.out.cell 7
      have y1 : _ = some (.bool i2 : Value) := LG3_6.out.cell 8
      have y2 : _ = some (.slice F2 a2 b2 : Value) := LG3_6.out.cell 9
      have y3 : _ = some (.slice G2 j2 o2 : Value) := LG3_6.out.cell 10
      have y4 : _ = some (.int .i64 1 : Value) := LG3_6.out.cell 11
      have y5 : _ = some (.bool ww2 : Value) := LG3_6.out.cell 12
      have Z1 := Lib.hid (Z1.out.sets LG3_6.out (NoWd.of (by rw [← Array.all_toList]; rfl)) 7 [.int .i64 z4, .bool i4, .slice F4 a4 b4, .slice G4 j4 o4, .int .i64 1, .bool ww4])
      have Z2 := Lib.hid (Z2.out.sets LG3_6.out (NoWd.of (by rw [← Array.all_toList]; rfl)) 7 [.int .i64 z4, .bool i4, .slice F4 a4 b4, .slice G4 j4 o4, .int .i64 1, .bool ww4])
      have Z4 := Lib.hid (Z4.out.sets LG3_6.out (NoWd.of (by rw [← Array.all_toList]; rfl)) 7 [.int .i64 z4, .bool i4, .slice F4 a4 b4, .slice G4 j4 o4, .int .i64 1, .bool ww4])
      have LB7 := Lib.hid (below_sets (w0 := w) (show w.heap.size ≤ gl by omega) [.int .i64 z4, .bool i4, .slice F4 a4 b4, .slice G4 j4 o4, .int .i64 1, .bool ww4] 7 wR LB6.out)
      have LR7 := Lib.hid (LR6.out.other (r := gl) (by omega) 7 [.int .i64 z4, .bool i4, .slice F4 a4 b4, .slice G4 j4 o4, .int .i64 1, .bool ww4])
      have LG0_7 := Lib.hid (LG0_6.out.other (r := gl) (by omega) 7 [.int .i64 z4, .bool i4, .slice F4 a4 b4, .slice G4 j4 o4, .int .i64 1, .bool ww4])
      have LG1_7 := Lib.hid (LG1_6.out.other (r := gl) (by omega) 7 [.int .i64 z4, .bool i4, .slice F4 a4 b4, .slice G4 j4 o4, .int .i64 1, .bool ww4])
      have LG2_7 := Lib.hid (LG2_6.out.other (r := gl) (by omega) 7 [.int .i64 z4, .bool i4, .slice F4 a4 b4, .slice G4 j4 o4, .int .i64 1, .bool ww4])
      have LG3_7 := Lib.hid (show Blk (sets wR gl 7 [.int .i64 z4, .bool i4, .slice F4 a4 b4, .slice G4 j4 o4, .int .i64 1, .bool ww4]) gl 64 #[.bool false, .int .i64 z1, .bool i1, .slice F1 a1 b1, .slice G1 j1 o1, .int .i64 1, .bool ww1, .int .i64 z4, .bool i4, .slice F4 a4 b4, .slice G4 j4 o4, .int .i64 1, .bool ww4] from by have hbs := Blk.sets [.int .i64 z4, .bool i4, .slice F4 a4 b4, .slice G4 j4 o4, .int .i64 1, .bool ww4] 7 wR _ LG3_6.out; simpa [laid] using hbs)
      clear LB6 LR6 LG0_6 LG1_6 LG2_6 LG3_6
      go_upto_region 9 with fail
      clear t0 y0 t1 y1 t2 y2 t3 y3 t4 y4 t5 y5
      obtain ⟨WQ, hWQ⟩ : ∃ X, sets wR gl 7 [.int .i64 z4, .bool i4, .slice F4 a4 b4, .slice G4 j4 o4, .int .i64 1, .bool ww4] = X := ⟨_, rfl⟩
      rw [hWQ] at LB7 LR7 LG0_7 LG1_7 LG2_7 LG3_7 Z1 Z2 Z4
      simp only [sets] at hWQ
      rw [hWQ]
      clear hWQ
      go_upto_region 9 with fail
      clear ha hb hlt
      have q3_0 := LG3_7.out.ce 0 rfl
      have q3_1 := LG3_7.out.ce 1 rfl
      have q3_2 := LG3_7.out.ce 2 rfl
      have q3_3 := LG3_7.out.ce 3 rfl
      have q3_4 := LG3_7.out.ce 4 rfl
      have q3_5 := LG3_7.out.ce 5 rfl
      have q3_6 := LG3_7.out.ce 6 rfl
      have q3_7 := LG3_7.out.ce 7 rfl
      have q3_8 := LG3_7.out.ce 8 rfl
      have q3_9 := LG3_7.out.ce 9 rfl
      have q3_10 := LG3_7.out.ce 10 rfl
      have q3_11 := LG3_7.out.ce 11 rfl
      have q3_12 := LG3_7.out.ce 12 rfl
      have FR1 := Lib.hid (LR7.out.rat Z1.out [.bool false, .int .i64 z1, .bool i1, .slice F1 a1 b1, .slice G1 j1 o1, .int .i64 1, .bool ww1, .int .i64 z4, .bool i4, .slice F4 a4 b4, .slice G4 j4 o4, .int .i64 1, .bool ww4])
      have FR2 := Lib.hid (LR7.out.rat Z4.out [.bool false, .int .i64 z1, .bool i1, .slice F1 a1 b1, .slice G1 j1 o1, .int .i64 1, .bool ww1, .int .i64 z4, .bool i4, .slice F4 a4 b4, .slice G4 j4 o4, .int .i64 1, .bool ww4])
      clear Z1 Z2 Z4
      obtain ⟨ha0, hf0, ha1, hf1, ha2, hf2, ha3, hf3, ha4, hf4, ha5, hf5, ha6, hf6, ha7, hf7, ha8, hf8, ha9, hf9, ha10, hf10, ha11, hf11, ha12, hf12⟩ := LR7.out.sf13
      obtain ⟨hk0, hk1, hk2, hk3, hk4, hk5, hk6, hk7, hk8, hk9, hk10, hk11, hk12⟩ := LR7.out.sc13 (.bool false) (.int .i64 z1) (.bool i1) (.slice F1 a1 b1) (.slice G1 j1 o1) (.int .i64 1) (.bool ww1) (.int .i64 z4) (.bool i4) (.slice F4 a4 b4) (.slice G4 j4 o4) (.int .i64 1) (.bool ww4)
      have F := Lib.hid (below_sets (w0 := w) (r := (w.heap.size + 2)) (by omega) [.bool false, .int .i64 z1, .bool i1, .slice F1 a1 b1, .slice G1 j1 o1, .int .i64 1, .bool ww1, .int .i64 z4, .bool i4, .slice F4 a4 b4, .slice G4 j4 o4, .int .i64 1, .bool ww4] 0 _ LB7.out)
      simp [sets] at hk0 hk1 hk2 hk3 hk4 hk5 hk6 hk7 hk8 hk9 hk10 hk11 hk12
      go_wp2
      refine bodyPost_ret (v := .agg #[.bool false, .int .i64 z1, .bool i1, .slice F1 a1 b1, .slice G1 j1 o1, .int .i64 1, .bool ww1, .int .i64 z4, .bool i4, .slice F4 a4 b4, .slice G4 j4 o4, .int .i64 1, .bool ww4]) (by simp [results, Tryz.results87, go_sem, hk0, hk1, hk2, hk3, hk4, hk5, hk6, hk7, hk8, hk9, hk10, hk11, hk12]) rfl ?_
      exact ⟨_, _, _, _, _, _, _, _, _, _, _, _, _, _, rfl, FR1.out, FR2.out, F.out⟩
    · have ea := EQA.out
      have eb := EQB.out
      rw [if_neg ha] at ea
      rw [if_neg hb] at eb
      cases ea
      cases eb
      clear EQA EQB HAB
      obtain ⟨q0_0, q0_1, q0_2, q0_3, q0_4, q0_5, q0_6, q0_7, q0_8⟩ := LG0_3.out.c9
      go_wp2_with fail
      refine (HS1.out _ LB3.out).mono ?_
      rintro e wSa ⟨rfl, hbS⟩
      have LB4 := stB LB3 hbS LB3.out.size
      have LR4 := stR LR3 hbS
      have LG0_4 := stG LG0_3 hbS
      have LG1_4 := stG LG1_3 hbS
      have LG2_4 := stG LG2_3 hbS
      have LG3_4 := stG LG3_3 hbS
      clear LB3 LR3 LG0_3 LG1_3 LG2_3 LG3_3
      have Z1 := Lib.hid (Z1.out.below hbS)
      have Z2 := Lib.hid (Z2.out.below hbS)
      have V2 := Lib.hid (V2.out.below hbS)
      clear hbS HS1 q0_0 q0_1 q0_2 q0_3 q0_4 q0_5 q0_6 q0_7 q0_8
      obtain ⟨q0_0, q0_1, q0_2, q0_3, q0_4, q0_5, q0_6, q0_7, q0_8⟩ := LG0_4.out.c9
      go_wp2_with fail
      refine (HS2.out _ LB4.out).mono ?_
      rintro e wSb ⟨rfl, hbS⟩
      have LB5 := stB LB4 hbS LB4.out.size
      have LR5 := stR LR4 hbS
      have LG0_5 := stG LG0_4 hbS
      have LG1_5 := stG LG1_4 hbS
      have LG2_5 := stG LG2_4 hbS
      have LG3_5 := stG LG3_4 hbS
      clear LB4 LR4 LG0_4 LG1_4 LG2_4 LG3_4
      have Z1 := Lib.hid (Z1.out.below hbS)
      have Z2 := Lib.hid (Z2.out.below hbS)
      have V2 := Lib.hid (V2.out.below hbS)
      clear hbS HS2 q0_0 q0_1 q0_2 q0_3 q0_4 q0_5 q0_6 q0_7 q0_8
      go_upto_region 9 with fail
      clear ha hb hlt
      have q3_0 := LG3_5.out.ce 0 rfl
      have q3_1 := LG3_5.out.ce 1 rfl
      have q3_2 := LG3_5.out.ce 2 rfl
      have q3_3 := LG3_5.out.ce 3 rfl
      have q3_4 := LG3_5.out.ce 4 rfl
      have q3_5 := LG3_5.out.ce 5 rfl
      have q3_6 := LG3_5.out.ce 6 rfl
      have q3_7 := LG3_5.out.ce 7 rfl
      have q3_8 := LG3_5.out.ce 8 rfl
      have q3_9 := LG3_5.out.ce 9 rfl
      have q3_10 := LG3_5.out.ce 10 rfl
      have q3_11 := LG3_5.out.ce 11 rfl
      have q3_12 := LG3_5.out.ce 12 rfl
      have FR1 := Lib.hid (LR5.out.rat Z1.out [.bool false, .int .i64 z1, .bool i1, .slice F1 a1 b1, .slice G1 j1 o1, .int .i64 1, .bool ww1, .int .i64 z2, .bool i2, .slice F2 a2 b2, .slice G2 j2 o2, .int .i64 1, .bool ww2])
      have FR2 := Lib.hid (LR5.out.rat Z2.out [.bool false, .int .i64 z1, .bool i1, .slice F1 a1 b1, .slice G1 j1 o1, .int .i64 1, .bool ww1, .int .i64 z2, .bool i2, .slice F2 a2 b2, .slice G2 j2 o2, .int .i64 1, .bool ww2])
      clear Z1 Z2
      obtain ⟨ha0, hf0, ha1, hf1, ha2, hf2, ha3, hf3, ha4, hf4, ha5, hf5, ha6, hf6, ha7, hf7, ha8, hf8, ha9, hf9, ha10, hf10, ha11, hf11, ha12, hf12⟩ := LR5.out.sf13
      obtain ⟨hk0, hk1, hk2, hk3, hk4, hk5, hk6, hk7, hk8, hk9, hk10, hk11, hk12⟩ := LR5.out.sc13 (.bool false) (.int .i64 z1) (.bool i1) (.slice F1 a1 b1) (.slice G1 j1 o1) (.int .i64 1) (.bool ww1) (.int .i64 z2) (.bool i2) (.slice F2 a2 b2) (.slice G2 j2 o2) (.int .i64 1) (.bool ww2)
      have F := Lib.hid (below_sets (w0 := w) (r := (w.heap.size + 2)) (by omega) [.bool false, .int .i64 z1, .bool i1, .slice F1 a1 b1, .slice G1 j1 o1, .int .i64 1, .bool ww1, .int .i64 z2, .bool i2, .slice F2 a2 b2, .slice G2 j2 o2, .int .i64 1, .bool ww2] 0 _ LB5.out)
      simp [sets] at hk0 hk1 hk2 hk3 hk4 hk5 hk6 hk7 hk8 hk9 hk10 hk11 hk12
      go_wp2
      refine bodyPost_ret (v := .agg #[.bool false, .int .i64 z1, .bool i1, .slice F1 a1 b1, .slice G1 j1 o1, .int .i64 1, .bool ww1, .int .i64 z2, .bool i2, .slice F2 a2 b2, .slice G2 j2 o2, .int .i64 1, .bool ww2]) (by simp [results, Tryz.results87, go_sem, hk0, hk1, hk2, hk3, hk4, hk5, hk6, hk7, hk8, hk9, hk10, hk11, hk12]) rfl ?_
      exact ⟨_, _, _, _, _, _, _, _, _, _, _, _, _, _, rfl, FR1.out, FR2.out, F.out⟩
end Go.Proofs.YtmjkmoahkanblaaGreat
