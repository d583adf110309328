/-
Walks: package vergeref6, Least, Neg.
Walks: package vergeref6, Neg.
-/
import Derived.Test.YtmjkmoahkanblaaGreatM08
import Derived.Test.YtmjkmoahkanblaaGreatM09
import Derived.Deep.DeepCutAuto
set_option linter.unusedSimpArgs false
set_option linter.unusedVariables false

namespace Go.Proofs.YtmjkmoahkanblaaGreat
open Go.RowKit

/-- The least interval that a call answers. -/
def NewLeast (w : World) (s : Int) (x : Rat) (t : Int) (y : Rat) (e : Ending) (w' : World) : Prop :=
  ∃ i j, e = .returned (.agg #[.int .u64 (pat i : Int), .int .u64 (pat j : Int)]) ∧ (s = 0 → Rnd (-1) x i) ∧ (s ≠ 0 → i = -(M : Int)) ∧ (t = 0 → Rnd 1 y j) ∧ (t ≠ 0 → j = M) ∧ Below w.heap.size w w'

set_option maxHeartbeats 3200000 in
theorem least_none (s1 : Int) (g1 : Bool) (A1 : Option Addr) (n1 c1 : Nat) (B1 : Option Addr) (m1 d1 : Nat) (x1 : Rat) (s2 : Int) (g2 : Bool) (A2 : Option Addr) (n2 c2 : Nat) (B2 : Option Addr) (m2 d2 : Nat) (x2 : Rat) (w : World) :
    Calls Tryz.prog 121 #[.agg #[.bool true, .int .i64 s1, .bool g1, .slice A1 n1 c1, .slice B1 m1 d1, .int .i64 s2, .bool g2, .slice A2 n2 c2, .slice B2 m2 d2]] w fun e w' => e = .returned (.agg #[.int .u64 9218868437227405312, .int .u64 18442240474082181120]) ∧ Below w.heap.size w w' := by
  have HE := Lib.hid empty6
  have LB0 := Lib.hid (show Below w.heap.size w ((w.alloc (.cells #[.bool true, .int .i64 s1, .bool g1, .slice A1 n1 c1, .slice B1 m1 d1, .int .i64 s2, .bool g2, .slice A2 n2 c2, .slice B2 m2 d2] 69)).alloc (.cells #[.int .u64 0, .int .u64 0] 24)) from ((below_alloc w _).alloc (by simp <;> omega) _))
  have LG0_0 := Lib.hid (((Blk.at (W := w) (g := w.heap.size) (by simp <;> omega) 69 #[.bool true, .int .i64 s1, .bool g1, .slice A1 n1 c1, .slice B1 m1 d1, .int .i64 s2, .bool g2, .slice A2 n2 c2, .slice B2 m2 d2]).alloc (.cells #[.int .u64 0, .int .u64 0] 24)))
  have LR0 := Lib.hid (HasBlk.of (n := 2) (Blk.at (W := (w.alloc (.cells #[.bool true, .int .i64 s1, .bool g1, .slice A1 n1 c1, .slice B1 m1 d1, .int .i64 s2, .bool g2, .slice A2 n2 c2, .slice B2 m2 d2] 69))) (g := (w.heap.size + 1)) (by simp <;> omega) 24 #[.int .u64 0, .int .u64 0]) rfl rfl)
  go_enter Tryz.func121, Tryz.ntmps121
  go_wp2_with fail
  refine (HE.out _).mono ?_
  rintro e w1 ⟨rfl, hb1⟩
  have LB1 := Lib.hid (LB0.out.trans (hb1.mono LB0.out.size))
  have LR1 := Lib.hid (LR0.out.keep hb1)
  have LG0_1 := Lib.hid (LG0_0.out.keep hb1)
  clear LB0 LR0 LG0_0
  have ha0 := LR1.out.someCell 0 (by decide)
  have hf0 := LR1.out.frozen 0
  have ha1 := LR1.out.someCell 1 (by decide)
  have hf1 := LR1.out.frozen 1
  have hk0 := LR1.out.setCell [.int .u64 9218868437227405312, .int .u64 18442240474082181120] rfl 0 (by decide)
  have hk1 := LR1.out.setCell [.int .u64 9218868437227405312, .int .u64 18442240474082181120] rfl 1 (by decide)
  have F := Lib.hid (below_sets (w0 := w) (r := (w.heap.size + 1)) (by omega) [.int .u64 9218868437227405312, .int .u64 18442240474082181120] 0 _ LB1.out)
  simp [sets] at hk0 hk1
  clear hb1
  go_wp2
  refine bodyPost_ret (v := .agg #[.int .u64 9218868437227405312, .int .u64 18442240474082181120]) (by simp [results, Tryz.results121, go_sem, hk0, hk1]) rfl ?_
  exact ⟨rfl, F.out⟩

set_option maxHeartbeats 3200000 in
theorem least_some (K : Nat) (s1 : Int) (g1 : Bool) (A1 : Option Addr) (n1 c1 : Nat) (B1 : Option Addr) (m1 d1 : Nat) (x1 : Rat) (s2 : Int) (g2 : Bool) (A2 : Option Addr) (n2 c2 : Nat) (B2 : Option Addr) (m2 d2 : Nat) (x2 : Rat) (w : World) (h1 : RatV w K g1 (.slice A1 n1 c1) (.slice B1 m1 d1) x1) (h2 : RatV w K g2 (.slice A2 n2 c2) (.slice B2 m2 d2) x2) (hK : K ≤ 1048576) :
    Calls Tryz.prog 121 #[.agg #[.bool false, .int .i64 s1, .bool g1, .slice A1 n1 c1, .slice B1 m1 d1, .int .i64 s2, .bool g2, .slice A2 n2 c2, .slice B2 m2 d2]] w (NewLeast w s1 x1 s2 x2) := by
  have HE := Lib.hid entire6
  have T1 := Lib.hid fun W (hW : Below w.heap.size w W) => bits_any K g1 A1 B1 n1 c1 m1 d1 x1 (-1) W (h1.below hW) hK (.inl rfl)
  have T2 := Lib.hid fun W (hW : Below w.heap.size w W) => bits_any K g2 A2 B2 n2 c2 m2 d2 x2 1 W (h2.below hW) hK (.inr rfl)
  clear h1 h2
  by_cases ha : s1 = 0
  · subst ha
    by_cases hb : s2 = 0
    · subst hb
      have LB0 := Lib.hid (show Below w.heap.size w ((w.alloc (.cells #[.bool false, .int .i64 0, .bool g1, .slice A1 n1 c1, .slice B1 m1 d1, .int .i64 0, .bool g2, .slice A2 n2 c2, .slice B2 m2 d2] 69)).alloc (.cells #[.int .u64 0, .int .u64 0] 24)) from ((below_alloc w _).alloc (by simp <;> omega) _))
      have LG0_0 := Lib.hid (((Blk.at (W := w) (g := w.heap.size) (by simp <;> omega) 69 #[.bool false, .int .i64 0, .bool g1, .slice A1 n1 c1, .slice B1 m1 d1, .int .i64 0, .bool g2, .slice A2 n2 c2, .slice B2 m2 d2]).alloc (.cells #[.int .u64 0, .int .u64 0] 24)))
      have LR0 := Lib.hid (HasBlk.of (n := 2) (Blk.at (W := (w.alloc (.cells #[.bool false, .int .i64 0, .bool g1, .slice A1 n1 c1, .slice B1 m1 d1, .int .i64 0, .bool g2, .slice A2 n2 c2, .slice B2 m2 d2] 69))) (g := (w.heap.size + 1)) (by simp <;> omega) 24 #[.int .u64 0, .int .u64 0]) rfl rfl)
      go_enter Tryz.func121, Tryz.ntmps121
      go_wp2_with fail
      refine (HE.out _).mono ?_
      rintro e w1 ⟨rfl, hb1⟩
      have LB1 := Lib.hid (LB0.out.trans (hb1.mono LB0.out.size))
      have LR1 := Lib.hid (LR0.out.keep hb1)
      have LG0_1 := Lib.hid (LG0_0.out.keep hb1)
      clear LB0 LR0 LG0_0
      have hlo := LB1.out.size
      have hlr := LR1.out.lt
      have hlt2 := LR1.out.lt
      have LB2 := Lib.hid (LB1.out.alloc LB1.out.size (.cells #[.int .u64 18442240474082181120, .int .u64 9218868437227405312] 24))
      have LR2 := Lib.hid (LR1.out.alloc (.cells #[.int .u64 18442240474082181120, .int .u64 9218868437227405312] 24))
      have LG0_2 := Lib.hid (LG0_1.out.alloc (.cells #[.int .u64 18442240474082181120, .int .u64 9218868437227405312] 24))
      have LG1_2 := Lib.hid (Blk.new w1 24 #[.int .u64 18442240474082181120, .int .u64 9218868437227405312])
      clear LB1 LR1 LG0_1
      clear hb1
      go_upto_region 4 with fail
      obtain ⟨V2, hV2⟩ : ∃ X, (w1.alloc (.cells #[.int .u64 18442240474082181120, .int .u64 9218868437227405312] 24)) = X := ⟨_, rfl⟩
      rw [hV2] at LB2 LR2 LG0_2 LG1_2 ⊢
      clear hV2
      have q0_0 : _ = some (.bool false : Value) := LG0_2.out.cell 0
      have q0_1 : _ = some (.int .i64 0 : Value) := LG0_2.out.cell 1
      have q0_2 : _ = some (.bool g1 : Value) := LG0_2.out.cell 2
      have q0_3 : _ = some (.slice A1 n1 c1 : Value) := LG0_2.out.cell 3
      have q0_4 : _ = some (.slice B1 m1 d1 : Value) := LG0_2.out.cell 4
      have q0_5 : _ = some (.int .i64 0 : Value) := LG0_2.out.cell 5
      have q0_6 : _ = some (.bool g2 : Value) := LG0_2.out.cell 6
      have q0_7 : _ = some (.slice A2 n2 c2 : Value) := LG0_2.out.cell 7
      have q0_8 : _ = some (.slice B2 m2 d2 : Value) := LG0_2.out.cell 8
      go_wp2_with fail
      refine (T1.out _ LB2.out).mono ?_
      rintro e w2 ⟨i, rfl, hi, hb2⟩
      have LB3 := Lib.hid (LB2.out.trans (hb2.mono LB2.out.size))
      have LR3 := Lib.hid (LR2.out.keep hb2)
      have LG0_3 := Lib.hid (LG0_2.out.keep hb2)
      have LG1_3 := Lib.hid (LG1_2.out.keep hb2)
      clear LB2 LR2 LG0_2 LG1_2
      have HI := Lib.hid hi
      clear hi hb2 q0_0 q0_1 q0_2 q0_3 q0_4 q0_5 q0_6 q0_7 q0_8
      have q1_0 : _ = some (.int .u64 18442240474082181120 : Value) := LG1_3.out.cell 0
      have hf1 := LG1_3.out.frozen 0
      go_upto_region 6 with fail
      clear q1_0 hf1
      have LB4 := Lib.hid (LB3.out.setCell (p := ⟨w1.heap.size, 0, none⟩) (by first | exact Nat.le_refl _ | (show w.heap.size ≤ _ + _; omega) | (show w.heap.size ≤ _; omega)) (.int .u64 (pat i : Int)))
      have LR4 := Lib.hid (show HasBlk (w2.setCell ⟨w1.heap.size, 0, none⟩ (.int .u64 (pat i : Int))) (w.heap.size + 1) 24 2 from LR3.out.other (by omega) 0 [.int .u64 (pat i : Int)])
      have LG0_4 := Lib.hid (show Blk (w2.setCell ⟨w1.heap.size, 0, none⟩ (.int .u64 (pat i : Int))) w.heap.size 69 #[.bool false, .int .i64 0, .bool g1, .slice A1 n1 c1, .slice B1 m1 d1, .int .i64 0, .bool g2, .slice A2 n2 c2, .slice B2 m2 d2] from LG0_3.out.other (by omega) 0 [.int .u64 (pat i : Int)])
      have LG1_4 := Lib.hid (LG1_3.out.set 0 (.int .u64 (pat i : Int)))
      clear LB3 LR3 LG0_3 LG1_3
      obtain ⟨V3, hV3⟩ : ∃ X, w2.setCell ⟨w1.heap.size, 0, none⟩ (.int .u64 (pat i : Int)) = X := ⟨_, rfl⟩
      rw [hV3] at LB4 LR4 LG0_4 LG1_4 ⊢
      clear hV3
      have q0_0 : _ = some (.bool false : Value) := LG0_4.out.cell 0
      have q0_1 : _ = some (.int .i64 0 : Value) := LG0_4.out.cell 1
      have q0_2 : _ = some (.bool g1 : Value) := LG0_4.out.cell 2
      have q0_3 : _ = some (.slice A1 n1 c1 : Value) := LG0_4.out.cell 3
      have q0_4 : _ = some (.slice B1 m1 d1 : Value) := LG0_4.out.cell 4
      have q0_5 : _ = some (.int .i64 0 : Value) := LG0_4.out.cell 5
      have q0_6 : _ = some (.bool g2 : Value) := LG0_4.out.cell 6
      have q0_7 : _ = some (.slice A2 n2 c2 : Value) := LG0_4.out.cell 7
      have q0_8 : _ = some (.slice B2 m2 d2 : Value) := LG0_4.out.cell 8
      go_wp2_with fail
      refine (T2.out _ LB4.out).mono ?_
      rintro e w3 ⟨j, rfl, hj, hb3⟩
      have LB5 := Lib.hid (LB4.out.trans (hb3.mono LB4.out.size))
      have LR5 := Lib.hid (LR4.out.keep hb3)
      have LG0_5 := Lib.hid (LG0_4.out.keep hb3)
      have LG1_5 := Lib.hid (LG1_4.out.keep hb3)
      clear LB4 LR4 LG0_4 LG1_4
      have HJ := Lib.hid hj
      clear hj hb3 q0_0 q0_1 q0_2 q0_3 q0_4 q0_5 q0_6 q0_7 q0_8
      have q1_1 : _ = some (.int .u64 9218868437227405312 : Value) := LG1_5.out.cell 1
      have hf1 := LG1_5.out.frozen 1
      go_upto_region 8 with fail
      clear q1_1 hf1
      have LB6 := Lib.hid (LB5.out.setCell (p := ⟨w1.heap.size, 1, none⟩) (by first | exact Nat.le_refl _ | (show w.heap.size ≤ _ + _; omega) | (show w.heap.size ≤ _; omega)) (.int .u64 (pat j : Int)))
      have LR6 := Lib.hid (show HasBlk (w3.setCell ⟨w1.heap.size, 1, none⟩ (.int .u64 (pat j : Int))) (w.heap.size + 1) 24 2 from LR5.out.other (by omega) 1 [.int .u64 (pat j : Int)])
      have LG0_6 := Lib.hid (show Blk (w3.setCell ⟨w1.heap.size, 1, none⟩ (.int .u64 (pat j : Int))) w.heap.size 69 #[.bool false, .int .i64 0, .bool g1, .slice A1 n1 c1, .slice B1 m1 d1, .int .i64 0, .bool g2, .slice A2 n2 c2, .slice B2 m2 d2] from LG0_5.out.other (by omega) 1 [.int .u64 (pat j : Int)])
      have LG1_6 := Lib.hid (LG1_5.out.set 1 (.int .u64 (pat j : Int)))
      clear LB5 LR5 LG0_5 LG1_5
      obtain ⟨V4, hV4⟩ : ∃ X, w3.setCell ⟨w1.heap.size, 1, none⟩ (.int .u64 (pat j : Int)) = X := ⟨_, rfl⟩
      rw [hV4] at LB6 LR6 LG0_6 LG1_6 ⊢
      clear hV4
      have q1_0 : _ = some (.int .u64 (pat i : Int) : Value) := LG1_6.out.cell 0
      have q1_1 : _ = some (.int .u64 (pat j : Int) : Value) := LG1_6.out.cell 1
      have ha0 := LR6.out.someCell 0 (by decide)
      have hf0 := LR6.out.frozen 0
      have ha1 := LR6.out.someCell 1 (by decide)
      have hf1 := LR6.out.frozen 1
      have hk0 := LR6.out.setCell [.int .u64 (pat i : Int), .int .u64 (pat j : Int)] rfl 0 (by decide)
      have hk1 := LR6.out.setCell [.int .u64 (pat i : Int), .int .u64 (pat j : Int)] rfl 1 (by decide)
      have F := Lib.hid (below_sets (w0 := w) (r := (w.heap.size + 1)) (by omega) [.int .u64 (pat i : Int), .int .u64 (pat j : Int)] 0 _ LB6.out)
      simp [sets] at hk0 hk1
      clear T1 T2 HE
      have hfin : NewLeast w 0 x1 0 x2 (.returned (.agg #[.int .u64 (pat i : Int), .int .u64 (pat j : Int)])) _ := ⟨i, j, rfl, fun _ => HI.out, fun h => absurd rfl h, fun _ => HJ.out, fun h => absurd rfl h, F.out⟩
      have HFIN := Lib.hid hfin
      clear hfin
      go_wp2
      refine bodyPost_ret (v := .agg #[.int .u64 (pat i : Int), .int .u64 (pat j : Int)]) (by simp [results, Tryz.results121, go_sem, hk0, hk1]) rfl ?_
      exact HFIN.out
    · have hqb : (s2 == 0) = false := by simp; omega
      have LB0 := Lib.hid (show Below w.heap.size w ((w.alloc (.cells #[.bool false, .int .i64 0, .bool g1, .slice A1 n1 c1, .slice B1 m1 d1, .int .i64 s2, .bool g2, .slice A2 n2 c2, .slice B2 m2 d2] 69)).alloc (.cells #[.int .u64 0, .int .u64 0] 24)) from ((below_alloc w _).alloc (by simp <;> omega) _))
      have LG0_0 := Lib.hid (((Blk.at (W := w) (g := w.heap.size) (by simp <;> omega) 69 #[.bool false, .int .i64 0, .bool g1, .slice A1 n1 c1, .slice B1 m1 d1, .int .i64 s2, .bool g2, .slice A2 n2 c2, .slice B2 m2 d2]).alloc (.cells #[.int .u64 0, .int .u64 0] 24)))
      have LR0 := Lib.hid (HasBlk.of (n := 2) (Blk.at (W := (w.alloc (.cells #[.bool false, .int .i64 0, .bool g1, .slice A1 n1 c1, .slice B1 m1 d1, .int .i64 s2, .bool g2, .slice A2 n2 c2, .slice B2 m2 d2] 69))) (g := (w.heap.size + 1)) (by simp <;> omega) 24 #[.int .u64 0, .int .u64 0]) rfl rfl)
      go_enter Tryz.func121, Tryz.ntmps121
      go_wp2_with fail
      refine (HE.out _).mono ?_
      rintro e w1 ⟨rfl, hb1⟩
      have LB1 := Lib.hid (LB0.out.trans (hb1.mono LB0.out.size))
      have LR1 := Lib.hid (LR0.out.keep hb1)
      have LG0_1 := Lib.hid (LG0_0.out.keep hb1)
      clear LB0 LR0 LG0_0
      have hlo := LB1.out.size
      have hlr := LR1.out.lt
      have hlt2 := LR1.out.lt
      have LB2 := Lib.hid (LB1.out.alloc LB1.out.size (.cells #[.int .u64 18442240474082181120, .int .u64 9218868437227405312] 24))
      have LR2 := Lib.hid (LR1.out.alloc (.cells #[.int .u64 18442240474082181120, .int .u64 9218868437227405312] 24))
      have LG0_2 := Lib.hid (LG0_1.out.alloc (.cells #[.int .u64 18442240474082181120, .int .u64 9218868437227405312] 24))
      have LG1_2 := Lib.hid (Blk.new w1 24 #[.int .u64 18442240474082181120, .int .u64 9218868437227405312])
      clear LB1 LR1 LG0_1
      clear hb1
      go_upto_region 4 with fail
      obtain ⟨V2, hV2⟩ : ∃ X, (w1.alloc (.cells #[.int .u64 18442240474082181120, .int .u64 9218868437227405312] 24)) = X := ⟨_, rfl⟩
      rw [hV2] at LB2 LR2 LG0_2 LG1_2 ⊢
      clear hV2
      have q0_0 : _ = some (.bool false : Value) := LG0_2.out.cell 0
      have q0_1 : _ = some (.int .i64 0 : Value) := LG0_2.out.cell 1
      have q0_2 : _ = some (.bool g1 : Value) := LG0_2.out.cell 2
      have q0_3 : _ = some (.slice A1 n1 c1 : Value) := LG0_2.out.cell 3
      have q0_4 : _ = some (.slice B1 m1 d1 : Value) := LG0_2.out.cell 4
      have q0_5 : _ = some (.int .i64 s2 : Value) := LG0_2.out.cell 5
      have q0_6 : _ = some (.bool g2 : Value) := LG0_2.out.cell 6
      have q0_7 : _ = some (.slice A2 n2 c2 : Value) := LG0_2.out.cell 7
      have q0_8 : _ = some (.slice B2 m2 d2 : Value) := LG0_2.out.cell 8
      go_wp2_with fail
      refine (T1.out _ LB2.out).mono ?_
      rintro e w2 ⟨i, rfl, hi, hb2⟩
      have LB3 := Lib.hid (LB2.out.trans (hb2.mono LB2.out.size))
      have LR3 := Lib.hid (LR2.out.keep hb2)
      have LG0_3 := Lib.hid (LG0_2.out.keep hb2)
      have LG1_3 := Lib.hid (LG1_2.out.keep hb2)
      clear LB2 LR2 LG0_2 LG1_2
      have HI := Lib.hid hi
      clear hi hb2 q0_0 q0_1 q0_2 q0_3 q0_4 q0_5 q0_6 q0_7 q0_8
      have q1_0 : _ = some (.int .u64 18442240474082181120 : Value) := LG1_3.out.cell 0
      have hf1 := LG1_3.out.frozen 0
      go_upto_region 6 with fail
      clear q1_0 hf1
      have LB4 := Lib.hid (LB3.out.setCell (p := ⟨w1.heap.size, 0, none⟩) (by first | exact Nat.le_refl _ | (show w.heap.size ≤ _ + _; omega) | (show w.heap.size ≤ _; omega)) (.int .u64 (pat i : Int)))
      have LR4 := Lib.hid (show HasBlk (w2.setCell ⟨w1.heap.size, 0, none⟩ (.int .u64 (pat i : Int))) (w.heap.size + 1) 24 2 from LR3.out.other (by omega) 0 [.int .u64 (pat i : Int)])
      have LG0_4 := Lib.hid (show Blk (w2.setCell ⟨w1.heap.size, 0, none⟩ (.int .u64 (pat i : Int))) w.heap.size 69 #[.bool false, .int .i64 0, .bool g1, .slice A1 n1 c1, .slice B1 m1 d1, .int .i64 s2, .bool g2, .slice A2 n2 c2, .slice B2 m2 d2] from LG0_3.out.other (by omega) 0 [.int .u64 (pat i : Int)])
      have LG1_4 := Lib.hid (LG1_3.out.set 0 (.int .u64 (pat i : Int)))
      clear LB3 LR3 LG0_3 LG1_3
      obtain ⟨V3, hV3⟩ : ∃ X, w2.setCell ⟨w1.heap.size, 0, none⟩ (.int .u64 (pat i : Int)) = X := ⟨_, rfl⟩
      rw [hV3] at LB4 LR4 LG0_4 LG1_4 ⊢
      clear hV3
      have q0_0 : _ = some (.bool false : Value) := LG0_4.out.cell 0
      have q0_1 : _ = some (.int .i64 0 : Value) := LG0_4.out.cell 1
      have q0_2 : _ = some (.bool g1 : Value) := LG0_4.out.cell 2
      have q0_3 : _ = some (.slice A1 n1 c1 : Value) := LG0_4.out.cell 3
      have q0_4 : _ = some (.slice B1 m1 d1 : Value) := LG0_4.out.cell 4
      have q0_5 : _ = some (.int .i64 s2 : Value) := LG0_4.out.cell 5
      have q0_6 : _ = some (.bool g2 : Value) := LG0_4.out.cell 6
      have q0_7 : _ = some (.slice A2 n2 c2 : Value) := LG0_4.out.cell 7
      have q0_8 : _ = some (.slice B2 m2 d2 : Value) := LG0_4.out.cell 8
      have q1_0 : _ = some (.int .u64 (pat i : Int) : Value) := LG1_4.out.cell 0
      have q1_1 : _ = some (.int .u64 9218868437227405312 : Value) := LG1_4.out.cell 1
      have ha0 := LR4.out.someCell 0 (by decide)
      have hf0 := LR4.out.frozen 0
      have ha1 := LR4.out.someCell 1 (by decide)
      have hf1 := LR4.out.frozen 1
      have hk0 := LR4.out.setCell [.int .u64 (pat i : Int), .int .u64 9218868437227405312] rfl 0 (by decide)
      have hk1 := LR4.out.setCell [.int .u64 (pat i : Int), .int .u64 9218868437227405312] rfl 1 (by decide)
      have F := Lib.hid (below_sets (w0 := w) (r := (w.heap.size + 1)) (by omega) [.int .u64 (pat i : Int), .int .u64 9218868437227405312] 0 _ LB4.out)
      simp [sets] at hk0 hk1
      clear T1 T2 HE
      have hfin : NewLeast w 0 x1 s2 x2 (.returned (.agg #[.int .u64 (pat i : Int), .int .u64 9218868437227405312])) _ := ⟨i, (M : Int), by rw [pat_max]; rfl, fun _ => HI.out, fun h => absurd rfl h, fun h => absurd h hb, fun _ => rfl, F.out⟩
      have HFIN := Lib.hid hfin
      clear hfin
      go_wp2
      refine bodyPost_ret (v := .agg #[.int .u64 (pat i : Int), .int .u64 9218868437227405312]) (by simp [results, Tryz.results121, go_sem, hk0, hk1]) rfl ?_
      exact HFIN.out
  · have hqa : (s1 == 0) = false := by simp; omega
    by_cases hb : s2 = 0
    · subst hb
      have LB0 := Lib.hid (show Below w.heap.size w ((w.alloc (.cells #[.bool false, .int .i64 s1, .bool g1, .slice A1 n1 c1, .slice B1 m1 d1, .int .i64 0, .bool g2, .slice A2 n2 c2, .slice B2 m2 d2] 69)).alloc (.cells #[.int .u64 0, .int .u64 0] 24)) from ((below_alloc w _).alloc (by simp <;> omega) _))
      have LG0_0 := Lib.hid (((Blk.at (W := w) (g := w.heap.size) (by simp <;> omega) 69 #[.bool false, .int .i64 s1, .bool g1, .slice A1 n1 c1, .slice B1 m1 d1, .int .i64 0, .bool g2, .slice A2 n2 c2, .slice B2 m2 d2]).alloc (.cells #[.int .u64 0, .int .u64 0] 24)))
      have LR0 := Lib.hid (HasBlk.of (n := 2) (Blk.at (W := (w.alloc (.cells #[.bool false, .int .i64 s1, .bool g1, .slice A1 n1 c1, .slice B1 m1 d1, .int .i64 0, .bool g2, .slice A2 n2 c2, .slice B2 m2 d2] 69))) (g := (w.heap.size + 1)) (by simp <;> omega) 24 #[.int .u64 0, .int .u64 0]) rfl rfl)
      go_enter Tryz.func121, Tryz.ntmps121
      go_wp2_with fail
      refine (HE.out _).mono ?_
      rintro e w1 ⟨rfl, hb1⟩
      have LB1 := Lib.hid (LB0.out.trans (hb1.mono LB0.out.size))
      have LR1 := Lib.hid (LR0.out.keep hb1)
      have LG0_1 := Lib.hid (LG0_0.out.keep hb1)
      clear LB0 LR0 LG0_0
      have hlo := LB1.out.size
      have hlr := LR1.out.lt
      have hlt2 := LR1.out.lt
      have LB2 := Lib.hid (LB1.out.alloc LB1.out.size (.cells #[.int .u64 18442240474082181120, .int .u64 9218868437227405312] 24))
      have LR2 := Lib.hid (LR1.out.alloc (.cells #[.int .u64 18442240474082181120, .int .u64 9218868437227405312] 24))
      have LG0_2 := Lib.hid (LG0_1.out.alloc (.cells #[.int .u64 18442240474082181120, .int .u64 9218868437227405312] 24))
      have LG1_2 := Lib.hid (Blk.new w1 24 #[.int .u64 18442240474082181120, .int .u64 9218868437227405312])
      clear LB1 LR1 LG0_1
      clear hb1
      go_upto_region 4 with fail
      obtain ⟨V2, hV2⟩ : ∃ X, (w1.alloc (.cells #[.int .u64 18442240474082181120, .int .u64 9218868437227405312] 24)) = X := ⟨_, rfl⟩
      rw [hV2] at LB2 LR2 LG0_2 LG1_2 ⊢
      clear hV2
      have q0_0 : _ = some (.bool false : Value) := LG0_2.out.cell 0
      have q0_1 : _ = some (.int .i64 s1 : Value) := LG0_2.out.cell 1
      have q0_2 : _ = some (.bool g1 : Value) := LG0_2.out.cell 2
      have q0_3 : _ = some (.slice A1 n1 c1 : Value) := LG0_2.out.cell 3
      have q0_4 : _ = some (.slice B1 m1 d1 : Value) := LG0_2.out.cell 4
      have q0_5 : _ = some (.int .i64 0 : Value) := LG0_2.out.cell 5
      have q0_6 : _ = some (.bool g2 : Value) := LG0_2.out.cell 6
      have q0_7 : _ = some (.slice A2 n2 c2 : Value) := LG0_2.out.cell 7
      have q0_8 : _ = some (.slice B2 m2 d2 : Value) := LG0_2.out.cell 8
      go_wp2_with fail
      refine (T2.out _ LB2.out).mono ?_
      rintro e w3 ⟨j, rfl, hj, hb3⟩
      have LB3 := Lib.hid (LB2.out.trans (hb3.mono LB2.out.size))
      have LR3 := Lib.hid (LR2.out.keep hb3)
      have LG0_3 := Lib.hid (LG0_2.out.keep hb3)
      have LG1_3 := Lib.hid (LG1_2.out.keep hb3)
      clear LB2 LR2 LG0_2 LG1_2
      have HJ := Lib.hid hj
      clear hj hb3 q0_0 q0_1 q0_2 q0_3 q0_4 q0_5 q0_6 q0_7 q0_8
      have q1_1 : _ = some (.int .u64 9218868437227405312 : Value) := LG1_3.out.cell 1
      have hf1 := LG1_3.out.frozen 1
      go_upto_region 8 with fail
      clear q1_1 hf1
      have LB4 := Lib.hid (LB3.out.setCell (p := ⟨w1.heap.size, 1, none⟩) (by first | exact Nat.le_refl _ | (show w.heap.size ≤ _ + _; omega) | (show w.heap.size ≤ _; omega)) (.int .u64 (pat j : Int)))
      have LR4 := Lib.hid (show HasBlk (w3.setCell ⟨w1.heap.size, 1, none⟩ (.int .u64 (pat j : Int))) (w.heap.size + 1) 24 2 from LR3.out.other (by omega) 1 [.int .u64 (pat j : Int)])
      have LG0_4 := Lib.hid (show Blk (w3.setCell ⟨w1.heap.size, 1, none⟩ (.int .u64 (pat j : Int))) w.heap.size 69 #[.bool false, .int .i64 s1, .bool g1, .slice A1 n1 c1, .slice B1 m1 d1, .int .i64 0, .bool g2, .slice A2 n2 c2, .slice B2 m2 d2] from LG0_3.out.other (by omega) 1 [.int .u64 (pat j : Int)])
      have LG1_4 := Lib.hid (LG1_3.out.set 1 (.int .u64 (pat j : Int)))
      clear LB3 LR3 LG0_3 LG1_3
      obtain ⟨V4, hV4⟩ : ∃ X, w3.setCell ⟨w1.heap.size, 1, none⟩ (.int .u64 (pat j : Int)) = X := ⟨_, rfl⟩
      rw [hV4] at LB4 LR4 LG0_4 LG1_4 ⊢
      clear hV4
      have q1_0 : _ = some (.int .u64 18442240474082181120 : Value) := LG1_4.out.cell 0
      have q1_1 : _ = some (.int .u64 (pat j : Int) : Value) := LG1_4.out.cell 1
      have ha0 := LR4.out.someCell 0 (by decide)
      have hf0 := LR4.out.frozen 0
      have ha1 := LR4.out.someCell 1 (by decide)
      have hf1 := LR4.out.frozen 1
      have hk0 := LR4.out.setCell [.int .u64 18442240474082181120, .int .u64 (pat j : Int)] rfl 0 (by decide)
      have hk1 := LR4.out.setCell [.int .u64 18442240474082181120, .int .u64 (pat j : Int)] rfl 1 (by decide)
      have F := Lib.hid (below_sets (w0 := w) (r := (w.heap.size + 1)) (by omega) [.int .u64 18442240474082181120, .int .u64 (pat j : Int)] 0 _ LB4.out)
      simp [sets] at hk0 hk1
      clear T1 T2 HE
      have hfin : NewLeast w s1 x1 0 x2 (.returned (.agg #[.int .u64 18442240474082181120, .int .u64 (pat j : Int)])) _ := ⟨(-(M : Int)), j, by rw [pat_min]; rfl, fun h => absurd h ha, fun _ => rfl, fun _ => HJ.out, fun h => absurd rfl h, F.out⟩
      have HFIN := Lib.hid hfin
      clear hfin
      go_wp2
      refine bodyPost_ret (v := .agg #[.int .u64 18442240474082181120, .int .u64 (pat j : Int)]) (by simp [results, Tryz.results121, go_sem, hk0, hk1]) rfl ?_
      exact HFIN.out
    · have hqb : (s2 == 0) = false := by simp; omega
      have LB0 := Lib.hid (show Below w.heap.size w ((w.alloc (.cells #[.bool false, .int .i64 s1, .bool g1, .slice A1 n1 c1, .slice B1 m1 d1, .int .i64 s2, .bool g2, .slice A2 n2 c2, .slice B2 m2 d2] 69)).alloc (.cells #[.int .u64 0, .int .u64 0] 24)) from ((below_alloc w _).alloc (by simp <;> omega) _))
      have LG0_0 := Lib.hid (((Blk.at (W := w) (g := w.heap.size) (by simp <;> omega) 69 #[.bool false, .int .i64 s1, .bool g1, .slice A1 n1 c1, .slice B1 m1 d1, .int .i64 s2, .bool g2, .slice A2 n2 c2, .slice B2 m2 d2]).alloc (.cells #[.int .u64 0, .int .u64 0] 24)))
      have LR0 := Lib.hid (HasBlk.of (n := 2) (Blk.at (W := (w.alloc (.cells #[.bool false, .int .i64 s1, .bool g1, .slice A1 n1 c1, .slice B1 m1 d1, .int .i64 s2, .bool g2, .slice A2 n2 c2, .slice B2 m2 d2] 69))) (g := (w.heap.size + 1)) (by simp <;> omega) 24 #[.int .u64 0, .int .u64 0]) rfl rfl)
      go_enter Tryz.func121, Tryz.ntmps121
      go_wp2_with fail
      refine (HE.out _).mono ?_
      rintro e w1 ⟨rfl, hb1⟩
      have LB1 := Lib.hid (LB0.out.trans (hb1.mono LB0.out.size))
      have LR1 := Lib.hid (LR0.out.keep hb1)
      have LG0_1 := Lib.hid (LG0_0.out.keep hb1)
      clear LB0 LR0 LG0_0
      have hlo := LB1.out.size
      have hlr := LR1.out.lt
      have hlt2 := LR1.out.lt
      have LB2 := Lib.hid (LB1.out.alloc LB1.out.size (.cells #[.int .u64 18442240474082181120, .int .u64 9218868437227405312] 24))
      have LR2 := Lib.hid (LR1.out.alloc (.cells #[.int .u64 18442240474082181120, .int .u64 9218868437227405312] 24))
      have LG0_2 := Lib.hid (LG0_1.out.alloc (.cells #[.int .u64 18442240474082181120, .int .u64 9218868437227405312] 24))
      have LG1_2 := Lib.hid (Blk.new w1 24 #[.int .u64 18442240474082181120, .int .u64 9218868437227405312])
      clear LB1 LR1 LG0_1
      clear hb1
      go_upto_region 4 with fail
      obtain ⟨V2, hV2⟩ : ∃ X, (w1.alloc (.cells #[.int .u64 18442240474082181120, .int .u64 9218868437227405312] 24)) = X := ⟨_, rfl⟩
      rw [hV2] at LB2 LR2 LG0_2 LG1_2 ⊢
      clear hV2
      have q0_0 : _ = some (.bool false : Value) := LG0_2.out.cell 0
      have q0_1 : _ = some (.int .i64 s1 : Value) := LG0_2.out.cell 1
      have q0_2 : _ = some (.bool g1 : Value) := LG0_2.out.cell 2
      have q0_3 : _ = some (.slice A1 n1 c1 : Value) := LG0_2.out.cell 3
      have q0_4 : _ = some (.slice B1 m1 d1 : Value) := LG0_2.out.cell 4
      have q0_5 : _ = some (.int .i64 s2 : Value) := LG0_2.out.cell 5
      have q0_6 : _ = some (.bool g2 : Value) := LG0_2.out.cell 6
      have q0_7 : _ = some (.slice A2 n2 c2 : Value) := LG0_2.out.cell 7
      have q0_8 : _ = some (.slice B2 m2 d2 : Value) := LG0_2.out.cell 8
      have q1_0 : _ = some (.int .u64 18442240474082181120 : Value) := LG1_2.out.cell 0
      have q1_1 : _ = some (.int .u64 9218868437227405312 : Value) := LG1_2.out.cell 1
      have ha0 := LR2.out.someCell 0 (by decide)
      have hf0 := LR2.out.frozen 0
      have ha1 := LR2.out.someCell 1 (by decide)
      have hf1 := LR2.out.frozen 1
      have hk0 := LR2.out.setCell [.int .u64 18442240474082181120, .int .u64 9218868437227405312] rfl 0 (by decide)
      have hk1 := LR2.out.setCell [.int .u64 18442240474082181120, .int .u64 9218868437227405312] rfl 1 (by decide)
      have F := Lib.hid (below_sets (w0 := w) (r := (w.heap.size + 1)) (by omega) [.int .u64 18442240474082181120, .int .u64 9218868437227405312] 0 _ LB2.out)
      simp [sets] at hk0 hk1
      clear T1 T2 HE
      have hfin : NewLeast w s1 x1 s2 x2 (.returned (.agg #[.int .u64 18442240474082181120, .int .u64 9218868437227405312])) _ := ⟨(-(M : Int)), (M : Int), by rw [pat_min, pat_max]; rfl, fun h => absurd h ha, fun _ => rfl, fun h => absurd h hb, fun _ => rfl, F.out⟩
      have HFIN := Lib.hid hfin
      clear hfin
      go_wp2
      refine bodyPost_ret (v := .agg #[.int .u64 18442240474082181120, .int .u64 9218868437227405312]) (by simp [results, Tryz.results121, go_sem, hk0, hk1]) rfl ?_
      exact HFIN.out

end Go.Proofs.YtmjkmoahkanblaaGreat

namespace Go.Proofs.YtmjkmoahkanblaaGreat
open Go.RowKit

theorem es_bounds (i : Int) : -1 ≤ es i ∧ es i ≤ 1 := by unfold es; split <;> (try split) <;> omega
theorem es_zero {i : Int} (h : es i = 0) : i ≠ M ∧ i ≠ -(M : Int) := by
  unfold es at h
  split at h
  · cases h
  · split at h
    · cases h
    · exact ⟨by assumption, by assumption⟩
theorem ex_zero {i : Int} (h : es i = 0) : ex i = fl i := by unfold ex; rw [if_pos h]
theorem ex_inf {i : Int} (h : es i ≠ 0) : ex i = 0 := by unfold ex; rw [if_neg h]
/-- What the least interval of a set is whose ends are indexes. -/
theorem least_lo {i k : Int} (h0 : -(M : Int) ≤ i) (h1 : i < M) (h2 : es i = 0 → Rnd (-1) (ex i) k) (h3 : es i ≠ 0 → k = -(M : Int)) : k = i := by
  by_cases h : es i = 0
  · have h4 := h2 h
    rw [ex_zero h] at h4
    have := es_zero h
    exact h4.exact (by omega) h1
  · rw [h3 h]
    unfold es at h
    rw [if_neg (by omega)] at h
    by_cases hc : i = -(M : Int)
    · exact hc.symm
    · rw [if_neg hc] at h; exact absurd rfl h
theorem least_hi {i k : Int} (h0 : -(M : Int) < i) (h1 : i ≤ M) (h2 : es i = 0 → Rnd 1 (ex i) k) (h3 : es i ≠ 0 → k = M) : k = i := by
  by_cases h : es i = 0
  · have h4 := h2 h
    rw [ex_zero h] at h4
    have := es_zero h
    exact h4.exact h0 (by omega)
  · rw [h3 h]
    unfold es at h
    by_cases hc : i = M
    · exact hc.symm
    · rw [if_neg hc, if_neg (by omega)] at h; exact absurd rfl h
theorem es_neg (i : Int) : es (-i) = - es i := by
  have hM : (0 : Int) < M := by rw [M_val]; omega
  unfold es
  by_cases h1 : i = M
  · rw [if_pos h1, if_neg (by omega), if_pos (by omega)]
  · by_cases h2 : i = -(M : Int)
    · rw [if_neg h1, if_pos h2, if_pos (by omega)]; rfl
    · rw [if_neg h1, if_neg h2, if_neg (by omega), if_neg (by omega)]; rfl
theorem ex_neg (i : Int) : ex (-i) = - ex i := by
  unfold ex
  rw [es_neg]
  by_cases h : es i = 0
  · rw [if_pos h, if_pos (by omega), fl_neg]
  · rw [if_neg h, if_neg (by omega)]; rfl

set_option maxHeartbeats 3200000 in
theorem neg6_none (x y : Nat) (w : World) (hx : x < 18446744073709551616) (hy : y < 18446744073709551616) (h : snd x y = false) :
    Calls Tryz.prog 73 #[.agg #[.int .u64 (x : Int), .int .u64 (y : Int)]] w fun e w' => e = .returned (.agg #[.int .u64 (pat (-(rd x y).2) : Int), .int .u64 (pat (-(rd x y).1) : Int)]) ∧ Below w.heap.size w w' := by
  have h1 : rd x y = ((M : Int), -(M : Int)) := by unfold rd; rw [h]; rfl
  rw [h1]
  simp only [Int.neg_neg, pat_max, pat_min]
  have HO := Lib.hid fun W => of_none x y W hx hy h
  clear h h1
  have LB0 := Lib.hid (show Below w.heap.size w ((w.alloc (.cells #[.int .u64 (x : Int), .int .u64 (y : Int)] 24)).alloc (.cells #[.int .u64 0, .int .u64 0] 24)) from ((below_alloc w _).alloc (by simp <;> omega) _))
  have LG0_0 := Lib.hid (((Blk.at (W := w) (g := w.heap.size) (by simp <;> omega) 24 #[.int .u64 (x : Int), .int .u64 (y : Int)]).alloc (.cells #[.int .u64 0, .int .u64 0] 24)))
  have LR0 := Lib.hid (HasBlk.of (n := 2) (Blk.at (W := (w.alloc (.cells #[.int .u64 (x : Int), .int .u64 (y : Int)] 24))) (g := (w.heap.size + 1)) (by simp <;> omega) 24 #[.int .u64 0, .int .u64 0]) rfl rfl)
  go_enter Tryz.func73, Tryz.ntmps73
  go_wp2_with fail
  refine (HO.out _).mono ?_
  rintro e w1 ⟨g1, A1, n1, c1, B1, m1, d1, g2, A2, n2, c2, B2, m2, d2, rfl, h1, h2, hb1⟩
  have LB1 := Lib.hid (LB0.out.trans (hb1.mono LB0.out.size))
  have LR1 := Lib.hid (LR0.out.keep hb1)
  have LG0_1 := Lib.hid (LG0_0.out.keep hb1)
  clear LB0 LR0 LG0_0
  go_wp2_with fail
  refine (minus_none 1 0 g1 A1 n1 c1 B1 m1 d1 0 0 g2 A2 n2 c2 B2 m2 d2 0 _ h1 h2).mono ?_
  rintro e w2 ⟨g3, A3, n3, c3, B3, m3, d3, g4, A4, n4, c4, B4, m4, d4, rfl, h3, h4, hb3⟩
  have LB2 := Lib.hid (LB1.out.trans (hb3.mono LB1.out.size))
  have LR2 := Lib.hid (LR1.out.keep hb3)
  have LG0_2 := Lib.hid (LG0_1.out.keep hb3)
  clear LB1 LR1 LG0_1
  clear h1 h2 hb1
  go_wp2_with fail
  refine (least_none 0 g3 A3 n3 c3 B3 m3 d3 0 0 g4 A4 n4 c4 B4 m4 d4 0 _).mono ?_
  rintro e w3 ⟨rfl, hb5⟩
  have LB3 := Lib.hid (LB2.out.trans (hb5.mono LB2.out.size))
  have LR3 := Lib.hid (LR2.out.keep hb5)
  have LG0_3 := Lib.hid (LG0_2.out.keep hb5)
  clear LB2 LR2 LG0_2
  have ha0 := LR3.out.someCell 0 (by decide)
  have hf0 := LR3.out.frozen 0
  have ha1 := LR3.out.someCell 1 (by decide)
  have hf1 := LR3.out.frozen 1
  have hk0 := LR3.out.setCell [.int .u64 9218868437227405312, .int .u64 18442240474082181120] rfl 0 (by decide)
  have hk1 := LR3.out.setCell [.int .u64 9218868437227405312, .int .u64 18442240474082181120] rfl 1 (by decide)
  have F := Lib.hid (below_sets (w0 := w) (r := (w.heap.size + 1)) (by omega) [.int .u64 9218868437227405312, .int .u64 18442240474082181120] 0 _ LB3.out)
  simp [sets] at hk0 hk1
  clear hb5 hb3 h3 h4
  go_wp2
  refine bodyPost_ret (v := .agg #[.int .u64 9218868437227405312, .int .u64 18442240474082181120]) (by simp [results, Tryz.results73, go_sem, hk0, hk1]) rfl ?_
  exact ⟨rfl, F.out⟩

set_option maxHeartbeats 3200000 in
theorem neg6_full (x y : Nat) (w : World) (hx : x < 18446744073709551616) (hy : y < 18446744073709551616) (h : snd x y = true) :
    Calls Tryz.prog 73 #[.agg #[.int .u64 (x : Int), .int .u64 (y : Int)]] w fun e w' => e = .returned (.agg #[.int .u64 (pat (-(rd x y).2) : Int), .int .u64 (pat (-(rd x y).1) : Int)]) ∧ Below w.heap.size w w' := by
  have h1 : rd x y = (idx x, idx y) := by unfold rd; rw [h]; rfl
  have hd := of_decide_eq_true h
  have hi := idx_bounds hd.1
  have hj := idx_bounds hd.2.1
  rw [h1]
  have L1 := Lib.hid fun k => least_lo (i := -idx y) (k := k) (by omega) (by omega)
  have L2 := Lib.hid fun k => least_hi (i := -idx x) (k := k) (by omega) (by omega)
  have HO := Lib.hid fun W => of_full x y W hx hy h
  rw [es_neg, ex_neg] at L1 L2
  have b1 := es_bounds (idx x)
  have b2 := es_bounds (idx y)
  dsimp only
  obtain ⟨s1, e1⟩ : ∃ s, es (idx x) = s := ⟨_, rfl⟩
  obtain ⟨x1, e2⟩ : ∃ s, ex (idx x) = s := ⟨_, rfl⟩
  obtain ⟨s2, e3⟩ : ∃ s, es (idx y) = s := ⟨_, rfl⟩
  obtain ⟨x2, e4⟩ : ∃ s, ex (idx y) = s := ⟨_, rfl⟩
  rw [e1, e2, e3, e4] at HO
  rw [e1, e2] at L2
  rw [e3, e4] at L1
  rw [e1] at b1
  rw [e3] at b2
  have HB1 := Lib.hid b1
  have HB2 := Lib.hid b2
  clear h h1 hd hi hj e1 e2 e3 e4 b1 b2
  have LB0 := Lib.hid (show Below w.heap.size w ((w.alloc (.cells #[.int .u64 (x : Int), .int .u64 (y : Int)] 24)).alloc (.cells #[.int .u64 0, .int .u64 0] 24)) from ((below_alloc w _).alloc (by simp <;> omega) _))
  have LG0_0 := Lib.hid (((Blk.at (W := w) (g := w.heap.size) (by simp <;> omega) 24 #[.int .u64 (x : Int), .int .u64 (y : Int)]).alloc (.cells #[.int .u64 0, .int .u64 0] 24)))
  have LR0 := Lib.hid (HasBlk.of (n := 2) (Blk.at (W := (w.alloc (.cells #[.int .u64 (x : Int), .int .u64 (y : Int)] 24))) (g := (w.heap.size + 1)) (by simp <;> omega) 24 #[.int .u64 0, .int .u64 0]) rfl rfl)
  go_enter Tryz.func73, Tryz.ntmps73
  go_wp2_with fail
  refine (HO.out _).mono ?_
  rintro e w1 ⟨g1, A1, n1, c1, B1, m1, d1, g2, A2, n2, c2, B2, m2, d2, rfl, h1, h2, hb1⟩
  have LB1 := Lib.hid (LB0.out.trans (hb1.mono LB0.out.size))
  have LR1 := Lib.hid (LR0.out.keep hb1)
  have LG0_1 := Lib.hid (LG0_0.out.keep hb1)
  clear LB0 LR0 LG0_0
  go_wp2_with fail
  refine (minus_some 34 s1 g1 A1 n1 c1 B1 m1 d1 x1 s2 g2 A2 n2 c2 B2 m2 d2 x2 _ h1 h2 (by omega) HB1.out HB2.out).mono ?_
  rintro e w2 ⟨g3, A3, n3, c3, B3, m3, d3, g4, A4, n4, c4, B4, m4, d4, rfl, h3, h4, hb3⟩
  have LB2 := Lib.hid (LB1.out.trans (hb3.mono LB1.out.size))
  have LR2 := Lib.hid (LR1.out.keep hb3)
  have LG0_2 := Lib.hid (LG0_1.out.keep hb3)
  clear LB1 LR1 LG0_1
  clear h1 h2 hb1
  go_wp2_with fail
  refine (least_some 34 (-s2) g3 A3 n3 c3 B3 m3 d3 (-x2) (-s1) g4 A4 n4 c4 B4 m4 d4 (-x1) _ h3 h4 (by omega)).mono ?_
  rintro e w3 ⟨i, j, rfl, r1, r2, r3, r4, hb5⟩
  have LB3 := Lib.hid (LB2.out.trans (hb5.mono LB2.out.size))
  have LR3 := Lib.hid (LR2.out.keep hb5)
  have LG0_3 := Lib.hid (LG0_2.out.keep hb5)
  clear LB2 LR2 LG0_2
  have ei := L1.out i r1 r2
  have ej := L2.out j r3 r4
  have EI := Lib.hid ei
  have EJ := Lib.hid ej
  clear ei ej r1 r2 r3 r4
  have ha0 := LR3.out.someCell 0 (by decide)
  have hf0 := LR3.out.frozen 0
  have ha1 := LR3.out.someCell 1 (by decide)
  have hf1 := LR3.out.frozen 1
  have hk0 := LR3.out.setCell [.int .u64 (pat i : Int), .int .u64 (pat j : Int)] rfl 0 (by decide)
  have hk1 := LR3.out.setCell [.int .u64 (pat i : Int), .int .u64 (pat j : Int)] rfl 1 (by decide)
  have F := Lib.hid (below_sets (w0 := w) (r := (w.heap.size + 1)) (by omega) [.int .u64 (pat i : Int), .int .u64 (pat j : Int)] 0 _ LB3.out)
  simp [sets] at hk0 hk1
  clear hb5 hb3 h3 h4
  go_wp2
  refine bodyPost_ret (v := .agg #[.int .u64 (pat i : Int), .int .u64 (pat j : Int)]) (by simp [results, Tryz.results73, go_sem, hk0, hk1]) rfl ?_
  exact ⟨by rw [EI.out, EJ.out], F.out⟩

theorem neg6 (x y : Nat) (w : World) (hx : x < 18446744073709551616) (hy : y < 18446744073709551616) :
    Calls Tryz.prog 73 #[.agg #[.int .u64 (x : Int), .int .u64 (y : Int)]] w fun e w' => e = .returned (.agg #[.int .u64 (pat (-(rd x y).2) : Int), .int .u64 (pat (-(rd x y).1) : Int)]) ∧ Below w.heap.size w w' := by
  cases h : snd x y
  · exact neg6_none x y w hx hy h
  · exact neg6_full x y w hx hy h

end Go.Proofs.YtmjkmoahkanblaaGreat
