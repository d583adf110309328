/-
Walks: package vergeref6, Least, Neg.
Walks: package vergeref6, Neg.
Plain: the one rounded answer of a rational number; an end of a piece (a number, or an infinity) and its two neighbours.
The model's sums and products of words, as the nearest index.
-/
import Derived.Test.YtmjkmoahkanblaaGreatM09
import Derived.Test.YtmjkmoahkanblaaGreatM10
import Derived.Deep.DeepCutAuto
import Derived.Test.YtmjkmoahkanblaaGreatM01
set_option linter.unusedSimpArgs false
set_option linter.unusedVariables false

namespace Go.Proofs.YtmjkmoahkanblaaGreat
open Go.RowKit

/-- The least interval that a call answers. -/
def NewLeast (w : World) (s : Int) (x : Rat) (t : Int) (y : Rat) (e : Ending) (w' : World) : Prop :=
  ∃ i j, e = .returned (.agg #[.int .u64 (pat i : Int), .int .u64 (pat j : Int)]) ∧ (s = 0 → Rnd (-1) x i) ∧ (s ≠ 0 → i = -(M : Int)) ∧ (t = 0 → Rnd 1 y j) ∧ (t ≠ 0 → j = M) ∧ Below w.heap.size w w'

set_option maxHeartbeats 3200000 in
theorem least_none (s1 : Int) (g1 : Bool) (A1 : Option Addr) (n1 c1 : Nat) (B1 : Option Addr) (m1 d1 : Nat) (x1 : Rat) (s2 : Int) (g2 : Bool) (A2 : Option Addr) (n2 c2 : Nat) (B2 : Option Addr) (m2 d2 : Nat) (x2 : Rat) (w : World) :
    Calls Tryz.prog 121 #[.agg #[.bool true, .int .i64 s1, .bool g1, .slice A1 n1 c1, .slice B1 m1 d1, .int .i64 s2, .bool g2, .slice A2 n2 c2, .slice B2 m2 d2]] w fun e w' => e = .returned (.agg #[.int .u64 9218868437227405312, .int .u64 18442240474082181120]) ∧ Below w.heap.size w w' := by
  have HE := Lib.hid empty6
  have LB0 := Lib.hid (show Below w.heap.size w ((w.alloc (.cells #[.bool true, .int .i64 s1, .bool g1, .slice A1 n1 c1, .slice B1 m1 d1, .int .i64 s2, .bool g2, .slice A2 n2 c2, .slice B2 m2 d2] 69)).alloc (.cells #[.int .u64 0, .int .u64 0] 24)) from ((below_alloc w _).alloc (by simp <;> omega) _))
  have LG0_0 := Lib.hid (((Blk.at (W := w) (g := w.heap.size) (by simp <;> omega) 69 #[.bool true, .int .i64 s1, .bool g1, .slice A1 n1 c1, .slice B1 m1 d1, .int .i64 s2, .bool g2, .slice A2 n2 c2, .slice B2 m2 d2]).alloc (.cells #[.int .u64 0, .int .u64 0] 24)))
  have LR0 := Lib.hid (HasBlk.of (n := 2) (Blk.at (W := (w.alloc (.cells #[.bool true, .int .i64 s1, .bool g1, .slice A1 n1 c1, .slice B1 m1 d1, .int .i64 s2, .bool g2, .slice A2 n2 c2, .slice B2 m2 d2] 69))) (g := (w.heap.size + 1)) (by simp <;> omega) 24 #[.int .u64 0, .int .u64 0]) rfl rfl)
  go_enter Tryz.func121, Tryz.ntmps121
  go_wp2_with fail
  refine (HE.out _).mono ?_
  rintro e w1 ⟨rfl, hb1⟩
  have LB1 := Lib.hid (LB0.out.trans (hb1.mono LB0.out.size))
  have LR1 := Lib.hid (LR0.out.keep hb1)
  have LG0_1 := Lib.hid (LG0_0.out.keep hb1)
  clear LB0 LR0 LG0_0
  have ha0 := LR1.out.someCell 0 (by decide)
  have hf0 := LR1.out.frozen 0
  have ha1 := LR1.out.someCell 1 (by decide)
  have hf1 := LR1.out.frozen 1
  have hk0 := LR1.out.setCell [.int .u64 9218868437227405312, .int .u64 18442240474082181120] rfl 0 (by decide)
  have hk1 := LR1.out.setCell [.int .u64 9218868437227405312, .int .u64 18442240474082181120] rfl 1 (by decide)
  have F := Lib.hid (below_sets (w0 := w) (r := (w.heap.size + 1)) (by omega) [.int .u64 9218868437227405312, .int .u64 18442240474082181120] 0 _ LB1.out)
  simp [sets] at hk0 hk1
  clear hb1
  go_wp2
  refine bodyPost_ret (v := .agg #[.int .u64 9218868437227405312, .int .u64 18442240474082181120]) (by simp [results, Tryz.results121, go_sem, hk0, hk1]) rfl ?_
  exact ⟨rfl, F.out⟩

set_option maxHeartbeats 3200000 in
theorem least_some (K : Nat) (s1 : Int) (g1 : Bool) (A1 : Option Addr) (n1 c1 : Nat) (B1 : Option Addr) (m1 d1 : Nat) (x1 : Rat) (s2 : Int) (g2 : Bool) (A2 : Option Addr) (n2 c2 : Nat) (B2 : Option Addr) (m2 d2 : Nat) (x2 : Rat) (w : World) (h1 : RatV w K g1 (.slice A1 n1 c1) (.slice B1 m1 d1) x1) (h2 : RatV w K g2 (.slice A2 n2 c2) (.slice B2 m2 d2) x2) (hK : K ≤ 1048576) :
    Calls Tryz.prog 121 #[.agg #[.bool false, .int .i64 s1, .bool g1, .slice A1 n1 c1, .slice B1 m1 d1, .int .i64 s2, .bool g2, .slice A2 n2 c2, .slice B2 m2 d2]] w (NewLeast w s1 x1 s2 x2) := by
  have HE := Lib.hid entire6
  have T1 := Lib.hid fun W (hW : Below w.heap.size w W) => bits_any K g1 A1 B1 n1 c1 m1 d1 x1 (-1) W (h1.below hW) hK (.inl rfl)
  have T2 := Lib.hid fun W (hW : Below w.heap.size w W) => bits_any K g2 A2 B2 n2 c2 m2 d2 x2 1 W (h2.below hW) hK (.inr rfl)
  clear h1 h2
  by_cases ha : s1 = 0
  · subst ha
    by_cases hb : s2 = 0
    · subst hb
      have LB0 := Lib.hid (show Below w.heap.size w ((w.alloc (.cells #[.bool false, .int .i64 0, .bool g1, .slice A1 n1 c1, .slice B1 m1 d1, .int .i64 0, .bool g2, .slice A2 n2 c2, .slice B2 m2 d2] 69)).alloc (.cells #[.int .u64 0, .int .u64 0] 24)) from ((below_alloc w _).alloc (by simp <;> omega) _))
      have LG0_0 := Lib.hid (((Blk.at (W := w) (g := w.heap.size) (by simp <;> omega) 69 #[.bool false, .int .i64 0, .bool g1, .slice A1 n1 c1, .slice B1 m1 d1, .int .i64 0, .bool g2, .slice A2 n2 c2, .slice B2 m2 d2]).alloc (.cells #[.int .u64 0, .int .u64 0] 24)))
      have LR0 := Lib.hid (HasBlk.of (n := 2) (Blk.at (W := (w.alloc (.cells #[.bool false, .int .i64 0, .bool g1, .slice A1 n1 c1, .slice B1 m1 d1, .int .i64 0, .bool g2, .slice A2 n2 c2, .slice B2 m2 d2] 69))) (g := (w.heap.size + 1)) (by simp <;> omega) 24 #[.int .u64 0, .int .u64 0]) rfl rfl)
      go_enter Tryz.func121, Tryz.ntmps121
      go_wp2_with fail
      refine (HE.out _).mono ?_
      rintro e w1 ⟨rfl, hb1⟩
      have LB1 := Lib.hid (LB0.out.trans (hb1.mono LB0.out.size))
      have LR1 := Lib.hid (LR0.out.keep hb1)
      have LG0_1 := Lib.hid (LG0_0.out.keep hb1)
      clear LB0 LR0 LG0_0
      have hlo := LB1.out.size
      have hlr := LR1.out.lt
      have hlt2 := LR1.out.lt
      have LB2 := Lib.hid (LB1.out.alloc LB1.out.size (.cells #[.int .u64 18442240474082181120, .int .u64 9218868437227405312] 24))
      have LR2 := Lib.hid (LR1.out.alloc (.cells #[.int .u64 18442240474082181120, .int .u64 9218868437227405312] 24))
      have LG0_2 := Lib.hid (LG0_1.out.alloc (.cells #[.int .u64 18442240474082181120, .int .u64 9218868437227405312] 24))
      have LG1_2 := Lib.hid (Blk.new w1 24 #[.int .u64 18442240474082181120, .int .u64 9218868437227405312])
      clear LB1 LR1 LG0_1
      clear hb1
      go_upto_region 4 with fail
      obtain ⟨V2, hV2⟩ : ∃ X, (w1.alloc (.cells #[.int .u64 18442240474082181120, .int .u64 9218868437227405312] 24)) = X := ⟨_, rfl⟩
      rw [hV2] at LB2 LR2 LG0_2 LG1_2 ⊢
      clear hV2
      have q0_0 : _ = some (.bool false : Value) := LG0_2.out.cell 0
      have q0_1 : _ = some (.int .i64 0 : Value) := LG0_2.out.cell 1
      have q0_2 : _ = some (.bool g1 : Value) := LG0_2.out.cell 2
      have q0_3 : _ = some (.slice A1 n1 c1 : Value) := LG0_2.out.cell 3
      have q0_4 : _ = some (.slice B1 m1 d1 : Value) := LG0_2.out.cell 4
      have q0_5 : _ = some (.int .i64 0 : Value) := LG0_2.out.cell 5
      have q0_6 : _ = some (.bool g2 : Value) := LG0_2.out.cell 6
      have q0_7 : _ = some (.slice A2 n2 c2 : Value) := LG0_2.out.cell 7
      have q0_8 : _ = some (.slice B2 m2 d2 : Value) := LG0_2.out.cell 8
      go_wp2_with fail
      refine (T1.out _ LB2.out).mono ?_
      rintro e w2 ⟨i, rfl, hi, hb2⟩
      have LB3 := Lib.hid (LB2.out.trans (hb2.mono LB2.out.size))
      have LR3 := Lib.hid (LR2.out.keep hb2)
      have LG0_3 := Lib.hid (LG0_2.out.keep hb2)
      have LG1_3 := Lib.hid (LG1_2.out.keep hb2)
      clear LB2 LR2 LG0_2 LG1_2
      have HI := Lib.hid hi
      clear hi hb2 q0_0 q0_1 q0_2 q0_3 q0_4 q0_5 q0_6 q0_7 q0_8
      have q1_0 : _ = some (.int .u64 18442240474082181120 : Value) := LG1_3.out.cell 0
      have hf1 := LG1_3.out.frozen 0
      go_upto_region 6 with fail
      clear q1_0 hf1
      have LB4 := Lib.hid (LB3.out.setCell (p := ⟨w1.heap.size, 0, none⟩) (by first | exact Nat.le_refl _ | (show w.heap.size ≤ _ + _; omega) | (show w.heap.size ≤ _; omega)) (.int .u64 (pat i : Int)))
      have LR4 := Lib.hid (show HasBlk (w2.setCell ⟨w1.heap.size, 0, none⟩ (.int .u64 (pat i : Int))) (w.heap.size + 1) 24 2 from LR3.out.other (by omega) 0 [.int .u64 (pat i : Int)])
      have LG0_4 := Lib.hid (show Blk (w2.setCell ⟨w1.heap.size, 0, none⟩ (.int .u64 (pat i : Int))) w.heap.size 69 #[.bool false, .int .i64 0, .bool g1, .slice A1 n1 c1, .slice B1 m1 d1, .int .i64 0, .bool g2, .slice A2 n2 c2, .slice B2 m2 d2] from LG0_3.out.other (by omega) 0 [.int .u64 (pat i : Int)])
      have LG1_4 := Lib.hid (LG1_3.out.set 0 (.int .u64 (pat i : Int)))
      clear LB3 LR3 LG0_3 LG1_3
      obtain ⟨V3, hV3⟩ : ∃ X, w2.setCell ⟨w1.heap.size, 0, none⟩ (.int .u64 (pat i : Int)) = X := ⟨_, rfl⟩
      rw [hV3] at LB4 LR4 LG0_4 LG1_4 ⊢
      clear hV3
      have q0_0 : _ = some (.bool false : Value) := LG0_4.out.cell 0
      have q0_1 : _ = some (.int .i64 0 : Value) := LG0_4.out.cell 1
      have q0_2 : _ = some (.bool g1 : Value) := LG0_4.out.cell 2
      have q0_3 : _ = some (.slice A1 n1 c1 : Value) := LG0_4.out.cell 3
      have q0_4 : _ = some (.slice B1 m1 d1 : Value) := LG0_4.out.cell 4
      have q0_5 : _ = some (.int .i64 0 : Value) := LG0_4.out.cell 5
      have q0_6 : _ = some (.bool g2 : Value) := LG0_4.out.cell 6
      have q0_7 : _ = some (.slice A2 n2 c2 : Value) := LG0_4.out.cell 7
      have q0_8 : _ = some (.slice B2 m2 d2 : Value) := LG0_4.out.cell 8
      go_wp2_with fail
      refine (T2.out _ LB4.out).mono ?_
      rintro e w3 ⟨j, rfl, hj, hb3⟩
      have LB5 := Lib.hid (LB4.out.trans (hb3.mono LB4.out.size))
      have LR5 := Lib.hid (LR4.out.keep hb3)
      have LG0_5 := Lib.hid (LG0_4.out.keep hb3)
      have LG1_5 := Lib.hid (LG1_4.out.keep hb3)
      clear LB4 LR4 LG0_4 LG1_4
      have HJ := Lib.hid hj
      clear hj hb3 q0_0 q0_1 q0_2 q0_3 q0_4 q0_5 q0_6 q0_7 q0_8
      have q1_1 : _ = some (.int .u64 9218868437227405312 : Value) := LG1_5.out.cell 1
      have hf1 := LG1_5.out.frozen 1
      go_upto_region 8 with fail
      clear q1_1 hf1
      have LB6 := Lib.hid (LB5.out.setCell (p := ⟨w1.heap.size, 1, none⟩) (by first | exact Nat.le_refl _ | (show w.heap.size ≤ _ + _; omega) | (show w.heap.size ≤ _; omega)) (.int .u64 (pat j : Int)))
      have LR6 := Lib.hid (show HasBlk (w3.setCell ⟨w1.heap.size, 1, none⟩ (.int .u64 (pat j : Int))) (w.heap.size + 1) 24 2 from LR5.out.other (by omega) 1 [.int .u64 (pat j : Int)])
      have LG0_6 := Lib.hid (show Blk (w3.setCell ⟨w1.heap.size, 1, none⟩ (.int .u64 (pat j : Int))) w.heap.size 69 #[.bool false, .int .i64 0, .bool g1, .slice A1 n1 c1, .slice B1 m1 d1, .int .i64 0, .bool g2, .slice A2 n2 c2, .slice B2 m2 d2] from LG0_5.out.other (by omega) 1 [.int .u64 (pat j : Int)])
      have LG1_6 := Lib.hid (LG1_5.out.set 1 (.int .u64 (pat j : Int)))
      clear LB5 LR5 LG0_5 LG1_5
      obtain ⟨V4, hV4⟩ : ∃ X, w3.setCell ⟨w1.heap.size, 1, none⟩ (.int .u64 (pat j : Int)) = X := ⟨_, rfl⟩
      rw [hV4] at LB6 LR6 LG0_6 LG1_6 ⊢
      clear hV4
      have q1_0 : _ = some (.int .u64 (pat i : Int) : Value) := LG1_6.out.cell 0
      have q1_1 : _ = some (.int .u64 (pat j : Int) : Value) := LG1_6.out.cell 1
      have ha0 := LR6.out.someCell 0 (by decide)
      have hf0 := LR6.out.frozen 0
      have ha1 := LR6.out.someCell 1 (by decide)
      have hf1 := LR6.out.frozen 1
      have hk0 := LR6.out.setCell [.int .u64 (pat i : Int), .int .u64 (pat j : Int)] rfl 0 (by decide)
      have hk1 := LR6.out.setCell [.int .u64 (pat i : Int), .int .u64 (pat j : Int)] rfl 1 (by decide)
      have F := Lib.hid (below_sets (w0 := w) (r := (w.heap.size + 1)) (by omega) [.int .u64 (pat i : Int), .int .u64 (pat j : Int)] 0 _ LB6.out)
      simp [sets] at hk0 hk1
      clear T1 T2 HE
      have hfin : NewLeast w 0 x1 0 x2 (.returned (.agg #[.int .u64 (pat i : Int), .int .u64 (pat j : Int)])) _ := ⟨i, j, rfl, fun _ => HI.out, fun h => absurd rfl h, fun _ => HJ.out, fun h => absurd rfl h, F.out⟩
      have HFIN := Lib.hid hfin
      clear hfin
      go_wp2
      refine bodyPost_ret (v := .agg #[.int .u64 (pat i : Int), .int .u64 (pat j : Int)]) (by simp [results, Tryz.results121, go_sem, hk0, hk1]) rfl ?_
      exact HFIN.out
    · have hqb : (s2 == 0) = false := by simp; omega
      have LB0 := Lib.hid (show Below w.heap.size w ((w.alloc (.cells #[.bool false, .int .i64 0, .bool g1, .slice A1 n1 c1, .slice B1 m1 d1, .int .i64 s2, .bool g2, .slice A2 n2 c2, .slice B2 m2 d2] 69)).alloc (.cells #[.int .u64 0, .int .u64 0] 24)) from ((below_alloc w _).alloc (by simp <;> omega) _))
      have LG0_0 := Lib.hid (((Blk.at (W := w) (g := w.heap.size) (by simp <;> omega) 69 #[.bool false, .int .i64 0, .bool g1, .slice A1 n1 c1, .slice B1 m1 d1, .int .i64 s2, .bool g2, .slice A2 n2 c2, .slice B2 m2 d2]).alloc (.cells #[.int .u64 0, .int .u64 0] 24)))
      have LR0 := Lib.hid (HasBlk.of (n := 2) (Blk.at (W := (w.alloc (.cells #[.bool false, .int .i64 0, .bool g1, .slice A1 n1 c1, .slice B1 m1 d1, .int .i64 s2, .bool g2, .slice A2 n2 c2, .slice B2 m2 d2] 69))) (g := (w.heap.size + 1)) (by simp <;> omega) 24 #[.int .u64 0, .int .u64 0]) rfl rfl)
      go_enter Tryz.func121, Tryz.ntmps121
      go_wp2_with fail
      refine (HE.out _).mono ?_
      rintro e w1 ⟨rfl, hb1⟩
      have LB1 := Lib.hid (LB0.out.trans (hb1.mono LB0.out.size))
      have LR1 := Lib.hid (LR0.out.keep hb1)
      have LG0_1 := Lib.hid (LG0_0.out.keep hb1)
      clear LB0 LR0 LG0_0
      have hlo := LB1.out.size
      have hlr := LR1.out.lt
      have hlt2 := LR1.out.lt
      have LB2 := Lib.hid (LB1.out.alloc LB1.out.size (.cells #[.int .u64 18442240474082181120, .int .u64 9218868437227405312] 24))
      have LR2 := Lib.hid (LR1.out.alloc (.cells #[.int .u64 18442240474082181120, .int .u64 9218868437227405312] 24))
      have LG0_2 := Lib.hid (LG0_1.out.alloc (.cells #[.int .u64 18442240474082181120, .int .u64 9218868437227405312] 24))
      have LG1_2 := Lib.hid (Blk.new w1 24 #[.int .u64 18442240474082181120, .int .u64 9218868437227405312])
      clear LB1 LR1 LG0_1
      clear hb1
      go_upto_region 4 with fail
      obtain ⟨V2, hV2⟩ : ∃ X, (w1.alloc (.cells #[.int .u64 18442240474082181120, .int .u64 9218868437227405312] 24)) = X := ⟨_, rfl⟩
      rw [hV2] at LB2 LR2 LG0_2 LG1_2 ⊢
      clear hV2
      have q0_0 : _ = some (.bool false : Value) := LG0_2.out.cell 0
      have q0_1 : _ = some (.int .i64 0 : Value) := LG0_2.out.cell 1
      have q0_2 : _ = some (.bool g1 : Value) := LG0_2.out.cell 2
      have q0_3 : _ = some (.slice A1 n1 c1 : Value) := LG0_2.out.cell 3
      have q0_4 : _ = some (.slice B1 m1 d1 : Value) := LG0_2.out.cell 4
      have q0_5 : _ = some (.int .i64 s2 : Value) := LG0_2.out.cell 5
      have q0_6 : _ = some (.bool g2 : Value) := LG0_2.out.cell 6
      have q0_7 : _ = some (.slice A2 n2 c2 : Value) := LG0_2.out.cell 7
      have q0_8 : _ = some (.slice B2 m2 d2 : Value) := LG0_2.out.cell 8
      go_wp2_with fail
      refine (T1.out _ LB2.out).mono ?_
      rintro e w2 ⟨i, rfl, hi, hb2⟩
      have LB3 := Lib.hid (LB2.out.trans (hb2.mono LB2.out.size))
      have LR3 := Lib.hid (LR2.out.keep hb2)
      have LG0_3 := Lib.hid (LG0_2.out.keep hb2)
      have LG1_3 := Lib.hid (LG1_2.out.keep hb2)
      clear LB2 LR2 LG0_2 LG1_2
      have HI := Lib.hid hi
      clear hi hb2 q0_0 q0_1 q0_2 q0_3 q0_4 q0_5 q0_6 q0_7 q0_8
      have q1_0 : _ = some (.int .u64 18442240474082181120 : Value) := LG1_3.out.cell 0
      have hf1 := LG1_3.out.frozen 0
      go_upto_region 6 with fail
      clear q1_0 hf1
      have LB4 := Lib.hid (LB3.out.setCell (p := ⟨w1.heap.size, 0, none⟩) (by first | exact Nat.le_refl _ | (show w.heap.size ≤ _ + _; omega) | (show w.heap.size ≤ _; omega)) (.int .u64 (pat i : Int)))
      have LR4 := Lib.hid (show HasBlk (w2.setCell ⟨w1.heap.size, 0, none⟩ (.int .u64 (pat i : Int))) (w.heap.size + 1) 24 2 from LR3.out.other (by omega) 0 [.int .u64 (pat i : Int)])
      have LG0_4 := Lib.hid (show Blk (w2.setCell ⟨w1.heap.size, 0, none⟩ (.int .u64 (pat i : Int))) w.heap.size 69 #[.bool false, .int .i64 0, .bool g1, .slice A1 n1 c1, .slice B1 m1 d1, .int .i64 s2, .bool g2, .slice A2 n2 c2, .slice B2 m2 d2] from LG0_3.out.other (by omega) 0 [.int .u64 (pat i : Int)])
      have LG1_4 := Lib.hid (LG1_3.out.set 0 (.int .u64 (pat i : Int)))
      clear LB3 LR3 LG0_3 LG1_3
      obtain ⟨V3, hV3⟩ : ∃ X, w2.setCell ⟨w1.heap.size, 0, none⟩ (.int .u64 (pat i : Int)) = X := ⟨_, rfl⟩
      rw [hV3] at LB4 LR4 LG0_4 LG1_4 ⊢
      clear hV3
      have q0_0 : _ = some (.bool false : Value) := LG0_4.out.cell 0
      have q0_1 : _ = some (.int .i64 0 : Value) := LG0_4.out.cell 1
      have q0_2 : _ = some (.bool g1 : Value) := LG0_4.out.cell 2
      have q0_3 : _ = some (.slice A1 n1 c1 : Value) := LG0_4.out.cell 3
      have q0_4 : _ = some (.slice B1 m1 d1 : Value) := LG0_4.out.cell 4
      have q0_5 : _ = some (.int .i64 s2 : Value) := LG0_4.out.cell 5
      have q0_6 : _ = some (.bool g2 : Value) := LG0_4.out.cell 6
      have q0_7 : _ = some (.slice A2 n2 c2 : Value) := LG0_4.out.cell 7
      have q0_8 : _ = some (.slice B2 m2 d2 : Value) := LG0_4.out.cell 8
      have q1_0 : _ = some (.int .u64 (pat i : Int) : Value) := LG1_4.out.cell 0
      have q1_1 : _ = some (.int .u64 9218868437227405312 : Value) := LG1_4.out.cell 1
      have ha0 := LR4.out.someCell 0 (by decide)
      have hf0 := LR4.out.frozen 0
      have ha1 := LR4.out.someCell 1 (by decide)
      have hf1 := LR4.out.frozen 1
      have hk0 := LR4.out.setCell [.int .u64 (pat i : Int), .int .u64 9218868437227405312] rfl 0 (by decide)
      have hk1 := LR4.out.setCell [.int .u64 (pat i : Int), .int .u64 9218868437227405312] rfl 1 (by decide)
      have F := Lib.hid (below_sets (w0 := w) (r := (w.heap.size + 1)) (by omega) [.int .u64 (pat i : Int), .int .u64 9218868437227405312] 0 _ LB4.out)
      simp [sets] at hk0 hk1
      clear T1 T2 HE
      have hfin : NewLeast w 0 x1 s2 x2 (.returned (.agg #[.int .u64 (pat i : Int), .int .u64 9218868437227405312])) _ := ⟨i, (M : Int), by rw [pat_max]; rfl, fun _ => HI.out, fun h => absurd rfl h, fun h => absurd h hb, fun _ => rfl, F.out⟩
      have HFIN := Lib.hid hfin
      clear hfin
      go_wp2
      refine bodyPost_ret (v := .agg #[.int .u64 (pat i : Int), .int .u64 9218868437227405312]) (by simp [results, Tryz.results121, go_sem, hk0, hk1]) rfl ?_
      exact HFIN.out
  · have hqa : (s1 == 0) = false := by simp; omega
    by_cases hb : s2 = 0
    · subst hb
      have LB0 := Lib.hid (show Below w.heap.size w ((w.alloc (.cells #[.bool false, .int .i64 s1, .bool g1, .slice A1 n1 c1, .slice B1 m1 d1, .int .i64 0, .bool g2, .slice A2 n2 c2, .slice B2 m2 d2] 69)).alloc (.cells #[.int .u64 0, .int .u64 0] 24)) from ((below_alloc w _).alloc (by simp <;> omega) _))
      have LG0_0 := Lib.hid (((Blk.at (W := w) (g := w.heap.size) (by simp <;> omega) 69 #[.bool false, .int .i64 s1, .bool g1, .slice A1 n1 c1, .slice B1 m1 d1, .int .i64 0, .bool g2, .slice A2 n2 c2, .slice B2 m2 d2]).alloc (.cells #[.int .u64 0, .int .u64 0] 24)))
      have LR0 := Lib.hid (HasBlk.of (n := 2) (Blk.at (W := (w.alloc (.cells #[.bool false, .int .i64 s1, .bool g1, .slice A1 n1 c1, .slice B1 m1 d1, .int .i64 0, .bool g2, .slice A2 n2 c2, .slice B2 m2 d2] 69))) (g := (w.heap.size + 1)) (by simp <;> omega) 24 #[.int .u64 0, .int .u64 0]) rfl rfl)
      go_enter Tryz.func121, Tryz.ntmps121
      go_wp2_with fail
      refine (HE.out _).mono ?_
      rintro e w1 ⟨rfl, hb1⟩
      have LB1 := Lib.hid (LB0.out.trans (hb1.mono LB0.out.size))
      have LR1 := Lib.hid (LR0.out.keep hb1)
      have LG0_1 := Lib.hid (LG0_0.out.keep hb1)
      clear LB0 LR0 LG0_0
      have hlo := LB1.out.size
      have hlr := LR1.out.lt
      have hlt2 := LR1.out.lt
      have LB2 := Lib.hid (LB1.out.alloc LB1.out.size (.cells #[.int .u64 18442240474082181120, .int .u64 9218868437227405312] 24))
      have LR2 := Lib.hid (LR1.out.alloc (.cells #[.int .u64 18442240474082181120, .int .u64 9218868437227405312] 24))
      have LG0_2 := Lib.hid (LG0_1.out.alloc (.cells #[.int .u64 18442240474082181120, .int .u64 9218868437227405312] 24))
      have LG1_2 := Lib.hid (Blk.new w1 24 #[.int .u64 18442240474082181120, .int .u64 9218868437227405312])
      clear LB1 LR1 LG0_1
      clear hb1
      go_upto_region 4 with fail
      obtain ⟨V2, hV2⟩ : ∃ X, (w1.alloc (.cells #[.int .u64 18442240474082181120, .int .u64 9218868437227405312] 24)) = X := ⟨_, rfl⟩
      rw [hV2] at LB2 LR2 LG0_2 LG1_2 ⊢
      clear hV2
      have q0_0 : _ = some (.bool false : Value) := LG0_2.out.cell 0
      have q0_1 : _ = some (.int .i64 s1 : Value) := LG0_2.out.cell 1
      have q0_2 : _ = some (.bool g1 : Value) := LG0_2.out.cell 2
      have q0_3 : _ = some (.slice A1 n1 c1 : Value) := LG0_2.out.cell 3
      have q0_4 : _ = some (.slice B1 m1 d1 : Value) := LG0_2.out.cell 4
      have q0_5 : _ = some (.int .i64 0 : Value) := LG0_2.out.cell 5
      have q0_6 : _ = some (.bool g2 : Value) := LG0_2.out.cell 6
      have q0_7 : _ = some (.slice A2 n2 c2 : Value) := LG0_2.out.cell 7
      have q0_8 : _ = some (.slice B2 m2 d2 : Value) := LG0_2.out.cell 8
      go_wp2_with fail
      refine (T2.out _ LB2.out).mono ?_
      rintro e w3 ⟨j, rfl, hj, hb3⟩
      have LB3 := Lib.hid (LB2.out.trans (hb3.mono LB2.out.size))
      have LR3 := Lib.hid (LR2.out.keep hb3)
      have LG0_3 := Lib.hid (LG0_2.out.keep hb3)
      have LG1_3 := Lib.hid (LG1_2.out.keep hb3)
      clear LB2 LR2 LG0_2 LG1_2
      have HJ := Lib.hid hj
      clear hj hb3 q0_0 q0_1 q0_2 q0_3 q0_4 q0_5 q0_6 q0_7 q0_8
      have q1_1 : _ = some (.int .u64 9218868437227405312 : Value) := LG1_3.out.cell 1
      have hf1 := LG1_3.out.frozen 1
      go_upto_region 8 with fail
      clear q1_1 hf1
      have LB4 := Lib.hid (LB3.out.setCell (p := ⟨w1.heap.size, 1, none⟩) (by first | exact Nat.le_refl _ | (show w.heap.size ≤ _ + _; omega) | (show w.heap.size ≤ _; omega)) (.int .u64 (pat j : Int)))
      have LR4 := Lib.hid (show HasBlk (w3.setCell ⟨w1.heap.size, 1, none⟩ (.int .u64 (pat j : Int))) (w.heap.size + 1) 24 2 from LR3.out.other (by omega) 1 [.int .u64 (pat j : Int)])
      have LG0_4 := Lib.hid (show Blk (w3.setCell ⟨w1.heap.size, 1, none⟩ (.int .u64 (pat j : Int))) w.heap.size 69 #[.bool false, .int .i64 s1, .bool g1, .slice A1 n1 c1, .slice B1 m1 d1, .int .i64 0, .bool g2, .slice A2 n2 c2, .slice B2 m2 d2] from LG0_3.out.other (by omega) 1 [.int .u64 (pat j : Int)])
      have LG1_4 := Lib.hid (LG1_3.out.set 1 (.int .u64 (pat j : Int)))
      clear LB3 LR3 LG0_3 LG1_3
      obtain ⟨V4, hV4⟩ : ∃ X, w3.setCell ⟨w1.heap.size, 1, none⟩ (.int .u64 (pat j : Int)) = X := ⟨_, rfl⟩
      rw [hV4] at LB4 LR4 LG0_4 LG1_4 ⊢
      clear hV4
      have q1_0 : _ = some (.int .u64 18442240474082181120 : Value) := LG1_4.out.cell 0
      have q1_1 : _ = some (.int .u64 (pat j : Int) : Value) := LG1_4.out.cell 1
      have ha0 := LR4.out.someCell 0 (by decide)
      have hf0 := LR4.out.frozen 0
      have ha1 := LR4.out.someCell 1 (by decide)
      have hf1 := LR4.out.frozen 1
      have hk0 := LR4.out.setCell [.int .u64 18442240474082181120, .int .u64 (pat j : Int)] rfl 0 (by decide)
      have hk1 := LR4.out.setCell [.int .u64 18442240474082181120, .int .u64 (pat j : Int)] rfl 1 (by decide)
      have F := Lib.hid (below_sets (w0 := w) (r := (w.heap.size + 1)) (by omega) [.int .u64 18442240474082181120, .int .u64 (pat j : Int)] 0 _ LB4.out)
      simp [sets] at hk0 hk1
      clear T1 T2 HE
      have hfin : NewLeast w s1 x1 0 x2 (.returned (.agg #[.int .u64 18442240474082181120, .int .u64 (pat j : Int)])) _ := ⟨(-(M : Int)), j, by rw [pat_min]; rfl, fun h => absurd h ha, fun _ => rfl, fun _ => HJ.out, fun h => absurd rfl h, F.out⟩
      have HFIN := Lib.hid hfin
      clear hfin
      go_wp2
      refine bodyPost_ret (v := .agg #[.int .u64 18442240474082181120, .int .u64 (pat j : Int)]) (by simp [results, Tryz.results121, go_sem, hk0, hk1]) rfl ?_
      exact HFIN.out
    · have hqb : (s2 == 0) = false := by simp; omega
      have LB0 := Lib.hid (show Below w.heap.size w ((w.alloc (.cells #[.bool false, .int .i64 s1, .bool g1, .slice A1 n1 c1, .slice B1 m1 d1, .int .i64 s2, .bool g2, .slice A2 n2 c2, .slice B2 m2 d2] 69)).alloc (.cells #[.int .u64 0, .int .u64 0] 24)) from ((below_alloc w _).alloc (by simp <;> omega) _))
      have LG0_0 := Lib.hid (((Blk.at (W := w) (g := w.heap.size) (by simp <;> omega) 69 #[.bool false, .int .i64 s1, .bool g1, .slice A1 n1 c1, .slice B1 m1 d1, .int .i64 s2, .bool g2, .slice A2 n2 c2, .slice B2 m2 d2]).alloc (.cells #[.int .u64 0, .int .u64 0] 24)))
      have LR0 := Lib.hid (HasBlk.of (n := 2) (Blk.at (W := (w.alloc (.cells #[.bool false, .int .i64 s1, .bool g1, .slice A1 n1 c1, .slice B1 m1 d1, .int .i64 s2, .bool g2, .slice A2 n2 c2, .slice B2 m2 d2] 69))) (g := (w.heap.size + 1)) (by simp <;> omega) 24 #[.int .u64 0, .int .u64 0]) rfl rfl)
      go_enter Tryz.func121, Tryz.ntmps121
      go_wp2_with fail
      refine (HE.out _).mono ?_
      rintro e w1 ⟨rfl, hb1⟩
      have LB1 := Lib.hid (LB0.out.trans (hb1.mono LB0.out.size))
      have LR1 := Lib.hid (LR0.out.keep hb1)
      have LG0_1 := Lib.hid (LG0_0.out.keep hb1)
      clear LB0 LR0 LG0_0
      have hlo := LB1.out.size
      have hlr := LR1.out.lt
      have hlt2 := LR1.out.lt
      have LB2 := Lib.hid (LB1.out.alloc LB1.out.size (.cells #[.int .u64 18442240474082181120, .int .u64 9218868437227405312] 24))
      have LR2 := Lib.hid (LR1.out.alloc (.cells #[.int .u64 18442240474082181120, .int .u64 9218868437227405312] 24))
      have LG0_2 := Lib.hid (LG0_1.out.alloc (.cells #[.int .u64 18442240474082181120, .int .u64 9218868437227405312] 24))
      have LG1_2 := Lib.hid (Blk.new w1 24 #[.int .u64 18442240474082181120, .int .u64 9218868437227405312])
      clear LB1 LR1 LG0_1
      clear hb1
      go_upto_region 4 with fail
      obtain ⟨V2, hV2⟩ : ∃ X, (w1.alloc (.cells #[.int .u64 18442240474082181120, .int .u64 9218868437227405312] 24)) = X := ⟨_, rfl⟩
      rw [hV2] at LB2 LR2 LG0_2 LG1_2 ⊢
      clear hV2
      have q0_0 : _ = some (.bool false : Value) := LG0_2.out.cell 0
      have q0_1 : _ = some (.int .i64 s1 : Value) := LG0_2.out.cell 1
      have q0_2 : _ = some (.bool g1 : Value) := LG0_2.out.cell 2
      have q0_3 : _ = some (.slice A1 n1 c1 : Value) := LG0_2.out.cell 3
      have q0_4 : _ = some (.slice B1 m1 d1 : Value) := LG0_2.out.cell 4
      have q0_5 : _ = some (.int .i64 s2 : Value) := LG0_2.out.cell 5
      have q0_6 : _ = some (.bool g2 : Value) := LG0_2.out.cell 6
      have q0_7 : _ = some (.slice A2 n2 c2 : Value) := LG0_2.out.cell 7
      have q0_8 : _ = some (.slice B2 m2 d2 : Value) := LG0_2.out.cell 8
      have q1_0 : _ = some (.int .u64 18442240474082181120 : Value) := LG1_2.out.cell 0
      have q1_1 : _ = some (.int .u64 9218868437227405312 : Value) := LG1_2.out.cell 1
      have ha0 := LR2.out.someCell 0 (by decide)
      have hf0 := LR2.out.frozen 0
      have ha1 := LR2.out.someCell 1 (by decide)
      have hf1 := LR2.out.frozen 1
      have hk0 := LR2.out.setCell [.int .u64 18442240474082181120, .int .u64 9218868437227405312] rfl 0 (by decide)
      have hk1 := LR2.out.setCell [.int .u64 18442240474082181120, .int .u64 9218868437227405312] rfl 1 (by decide)
      have F := Lib.hid (below_sets (w0 := w) (r := (w.heap.size + 1)) (by omega) [.int .u64 18442240474082181120, .int .u64 9218868437227405312] 0 _ LB2.out)
      simp [sets] at hk0 hk1
      clear T1 T2 HE
      have hfin : NewLeast w s1 x1 s2 x2 (.returned (.agg #[.int .u64 18442240474082181120, .int .u64 9218868437227405312])) _ := ⟨(-(M : Int)), (M : Int), by rw [pat_min, pat_max]; rfl, fun h => absurd h ha, fun _ => rfl, fun h => absurd h hb, fun _ => rfl, F.out⟩
      have HFIN := Lib.hid hfin
      clear hfin
      go_wp2
      refine bodyPost_ret (v := .agg #[.int .u64 18442240474082181120, .int .u64 9218868437227405312]) (by simp [results, Tryz.results121, go_sem, hk0, hk1]) rfl ?_
      exact HFIN.out

end Go.Proofs.YtmjkmoahkanblaaGreat

namespace Go.Proofs.YtmjkmoahkanblaaGreat
open Go.RowKit

theorem es_bounds (i : Int) : -1 ≤ es i ∧ es i ≤ 1 := by unfold es; split <;> (try split) <;> omega
theorem es_zero {i : Int} (h : es i = 0) : i ≠ M ∧ i ≠ -(M : Int) := by
  unfold es at h
  split at h
  · cases h
  · split at h
    · cases h
    · exact ⟨by assumption, by assumption⟩
theorem ex_zero {i : Int} (h : es i = 0) : ex i = fl i := by unfold ex; rw [if_pos h]
theorem ex_inf {i : Int} (h : es i ≠ 0) : ex i = 0 := by unfold ex; rw [if_neg h]
/-- What the least interval of a set is whose ends are indexes. -/
theorem least_lo {i k : Int} (h0 : -(M : Int) ≤ i) (h1 : i < M) (h2 : es i = 0 → Rnd (-1) (ex i) k) (h3 : es i ≠ 0 → k = -(M : Int)) : k = i := by
  by_cases h : es i = 0
  · have h4 := h2 h
    rw [ex_zero h] at h4
    have := es_zero h
    exact h4.exact (by omega) h1
  · rw [h3 h]
    unfold es at h
    rw [if_neg (by omega)] at h
    by_cases hc : i = -(M : Int)
    · exact hc.symm
    · rw [if_neg hc] at h; exact absurd rfl h
theorem least_hi {i k : Int} (h0 : -(M : Int) < i) (h1 : i ≤ M) (h2 : es i = 0 → Rnd 1 (ex i) k) (h3 : es i ≠ 0 → k = M) : k = i := by
  by_cases h : es i = 0
  · have h4 := h2 h
    rw [ex_zero h] at h4
    have := es_zero h
    exact h4.exact h0 (by omega)
  · rw [h3 h]
    unfold es at h
    by_cases hc : i = M
    · exact hc.symm
    · rw [if_neg hc, if_neg (by omega)] at h; exact absurd rfl h
theorem es_neg (i : Int) : es (-i) = - es i := by
  have hM : (0 : Int) < M := by rw [M_val]; omega
  unfold es
  by_cases h1 : i = M
  · rw [if_pos h1, if_neg (by omega), if_pos (by omega)]
  · by_cases h2 : i = -(M : Int)
    · rw [if_neg h1, if_pos h2, if_pos (by omega)]; rfl
    · rw [if_neg h1, if_neg h2, if_neg (by omega), if_neg (by omega)]; rfl
theorem ex_neg (i : Int) : ex (-i) = - ex i := by
  unfold ex
  rw [es_neg]
  by_cases h : es i = 0
  · rw [if_pos h, if_pos (by omega), fl_neg]
  · rw [if_neg h, if_neg (by omega)]; rfl

set_option maxHeartbeats 3200000 in
theorem neg6_none (x y : Nat) (w : World) (hx : x < 18446744073709551616) (hy : y < 18446744073709551616) (h : snd x y = false) :
    Calls Tryz.prog 73 #[.agg #[.int .u64 (x : Int), .int .u64 (y : Int)]] w fun e w' => e = .returned (.agg #[.int .u64 (pat (-(rd x y).2) : Int), .int .u64 (pat (-(rd x y).1) : Int)]) ∧ Below w.heap.size w w' := by
  have h1 : rd x y = ((M : Int), -(M : Int)) := by unfold rd; rw [h]; rfl
  rw [h1]
  simp only [Int.neg_neg, pat_max, pat_min]
  have HO := Lib.hid fun W => of_none x y W hx hy h
  clear h h1
  have LB0 := Lib.hid (show Below w.heap.size w ((w.alloc (.cells #[.int .u64 (x : Int), .int .u64 (y : Int)] 24)).alloc (.cells #[.int .u64 0, .int .u64 0] 24)) from ((below_alloc w _).alloc (by simp <;> omega) _))
  have LG0_0 := Lib.hid (((Blk.at (W := w) (g := w.heap.size) (by simp <;> omega) 24 #[.int .u64 (x : Int), .int .u64 (y : Int)]).alloc (.cells #[.int .u64 0, .int .u64 0] 24)))
  have LR0 := Lib.hid (HasBlk.of (n := 2) (Blk.at (W := (w.alloc (.cells #[.int .u64 (x : Int), .int .u64 (y : Int)] 24))) (g := (w.heap.size + 1)) (by simp <;> omega) 24 #[.int .u64 0, .int .u64 0]) rfl rfl)
  go_enter Tryz.func73, Tryz.ntmps73
  go_wp2_with fail
  refine (HO.out _).mono ?_
  rintro e w1 ⟨g1, A1, n1, c1, B1, m1, d1, g2, A2, n2, c2, B2, m2, d2, rfl, h1, h2, hb1⟩
  have LB1 := Lib.hid (LB0.out.trans (hb1.mono LB0.out.size))
  have LR1 := Lib.hid (LR0.out.keep hb1)
  have LG0_1 := Lib.hid (LG0_0.out.keep hb1)
  clear LB0 LR0 LG0_0
  go_wp2_with fail
  refine (minus_none 1 0 g1 A1 n1 c1 B1 m1 d1 0 0 g2 A2 n2 c2 B2 m2 d2 0 _ h1 h2).mono ?_
  rintro e w2 ⟨g3, A3, n3, c3, B3, m3, d3, g4, A4, n4, c4, B4, m4, d4, rfl, h3, h4, hb3⟩
  have LB2 := Lib.hid (LB1.out.trans (hb3.mono LB1.out.size))
  have LR2 := Lib.hid (LR1.out.keep hb3)
  have LG0_2 := Lib.hid (LG0_1.out.keep hb3)
  clear LB1 LR1 LG0_1
  clear h1 h2 hb1
  go_wp2_with fail
  refine (least_none 0 g3 A3 n3 c3 B3 m3 d3 0 0 g4 A4 n4 c4 B4 m4 d4 0 _).mono ?_
  rintro e w3 ⟨rfl, hb5⟩
  have LB3 := Lib.hid (LB2.out.trans (hb5.mono LB2.out.size))
  have LR3 := Lib.hid (LR2.out.keep hb5)
  have LG0_3 := Lib.hid (LG0_2.out.keep hb5)
  clear LB2 LR2 LG0_2
  have ha0 := LR3.out.someCell 0 (by decide)
  have hf0 := LR3.out.frozen 0
  have ha1 := LR3.out.someCell 1 (by decide)
  have hf1 := LR3.out.frozen 1
  have hk0 := LR3.out.setCell [.int .u64 9218868437227405312, .int .u64 18442240474082181120] rfl 0 (by decide)
  have hk1 := LR3.out.setCell [.int .u64 9218868437227405312, .int .u64 18442240474082181120] rfl 1 (by decide)
  have F := Lib.hid (below_sets (w0 := w) (r := (w.heap.size + 1)) (by omega) [.int .u64 9218868437227405312, .int .u64 18442240474082181120] 0 _ LB3.out)
  simp [sets] at hk0 hk1
  clear hb5 hb3 h3 h4
  go_wp2
  refine bodyPost_ret (v := .agg #[.int .u64 9218868437227405312, .int .u64 18442240474082181120]) (by simp [results, Tryz.results73, go_sem, hk0, hk1]) rfl ?_
  exact ⟨rfl, F.out⟩

set_option maxHeartbeats 3200000 in
theorem neg6_full (x y : Nat) (w : World) (hx : x < 18446744073709551616) (hy : y < 18446744073709551616) (h : snd x y = true) :
    Calls Tryz.prog 73 #[.agg #[.int .u64 (x : Int), .int .u64 (y : Int)]] w fun e w' => e = .returned (.agg #[.int .u64 (pat (-(rd x y).2) : Int), .int .u64 (pat (-(rd x y).1) : Int)]) ∧ Below w.heap.size w w' := by
  have h1 : rd x y = (idx x, idx y) := by unfold rd; rw [h]; rfl
  have hd := of_decide_eq_true h
  have hi := idx_bounds hd.1
  have hj := idx_bounds hd.2.1
  rw [h1]
  have L1 := Lib.hid fun k => least_lo (i := -idx y) (k := k) (by omega) (by omega)
  have L2 := Lib.hid fun k => least_hi (i := -idx x) (k := k) (by omega) (by omega)
  have HO := Lib.hid fun W => of_full x y W hx hy h
  rw [es_neg, ex_neg] at L1 L2
  have b1 := es_bounds (idx x)
  have b2 := es_bounds (idx y)
  dsimp only
  obtain ⟨s1, e1⟩ : ∃ s, es (idx x) = s := ⟨_, rfl⟩
  obtain ⟨x1, e2⟩ : ∃ s, ex (idx x) = s := ⟨_, rfl⟩
  obtain ⟨s2, e3⟩ : ∃ s, es (idx y) = s := ⟨_, rfl⟩
  obtain ⟨x2, e4⟩ : ∃ s, ex (idx y) = s := ⟨_, rfl⟩
  rw [e1, e2, e3, e4] at HO
  rw [e1, e2] at L2
  rw [e3, e4] at L1
  rw [e1] at b1
  rw [e3] at b2
  have HB1 := Lib.hid b1
  have HB2 := Lib.hid b2
  clear h h1 hd hi hj e1 e2 e3 e4 b1 b2
  have LB0 := Lib.hid (show Below w.heap.size w ((w.alloc (.cells #[.int .u64 (x : Int), .int .u64 (y : Int)] 24)).alloc (.cells #[.int .u64 0, .int .u64 0] 24)) from ((below_alloc w _).alloc (by simp <;> omega) _))
  have LG0_0 := Lib.hid (((Blk.at (W := w) (g := w.heap.size) (by simp <;> omega) 24 #[.int .u64 (x : Int), .int .u64 (y : Int)]).alloc (.cells #[.int .u64 0, .int .u64 0] 24)))
  have LR0 := Lib.hid (HasBlk.of (n := 2) (Blk.at (W := (w.alloc (.cells #[.int .u64 (x : Int), .int .u64 (y : Int)] 24))) (g := (w.heap.size + 1)) (by simp <;> omega) 24 #[.int .u64 0, .int .u64 0]) rfl rfl)
  go_enter Tryz.func73, Tryz.ntmps73
  go_wp2_with fail
  refine (HO.out _).mono ?_
  rintro e w1 ⟨g1, A1, n1, c1, B1, m1, d1, g2, A2, n2, c2, B2, m2, d2, rfl, h1, h2, hb1⟩
  have LB1 := Lib.hid (LB0.out.trans (hb1.mono LB0.out.size))
  have LR1 := Lib.hid (LR0.out.keep hb1)
  have LG0_1 := Lib.hid (LG0_0.out.keep hb1)
  clear LB0 LR0 LG0_0
  go_wp2_with fail
  refine (minus_some 34 s1 g1 A1 n1 c1 B1 m1 d1 x1 s2 g2 A2 n2 c2 B2 m2 d2 x2 _ h1 h2 (by omega) HB1.out HB2.out).mono ?_
  rintro e w2 ⟨g3, A3, n3, c3, B3, m3, d3, g4, A4, n4, c4, B4, m4, d4, rfl, h3, h4, hb3⟩
  have LB2 := Lib.hid (LB1.out.trans (hb3.mono LB1.out.size))
  have LR2 := Lib.hid (LR1.out.keep hb3)
  have LG0_2 := Lib.hid (LG0_1.out.keep hb3)
  clear LB1 LR1 LG0_1
  clear h1 h2 hb1
  go_wp2_with fail
  refine (least_some 34 (-s2) g3 A3 n3 c3 B3 m3 d3 (-x2) (-s1) g4 A4 n4 c4 B4 m4 d4 (-x1) _ h3 h4 (by omega)).mono ?_
  rintro e w3 ⟨i, j, rfl, r1, r2, r3, r4, hb5⟩
  have LB3 := Lib.hid (LB2.out.trans (hb5.mono LB2.out.size))
  have LR3 := Lib.hid (LR2.out.keep hb5)
  have LG0_3 := Lib.hid (LG0_2.out.keep hb5)
  clear LB2 LR2 LG0_2
  have ei := L1.out i r1 r2
  have ej := L2.out j r3 r4
  have EI := Lib.hid ei
  have EJ := Lib.hid ej
  clear ei ej r1 r2 r3 r4
  have ha0 := LR3.out.someCell 0 (by decide)
  have hf0 := LR3.out.frozen 0
  have ha1 := LR3.out.someCell 1 (by decide)
  have hf1 := LR3.out.frozen 1
  have hk0 := LR3.out.setCell [.int .u64 (pat i : Int), .int .u64 (pat j : Int)] rfl 0 (by decide)
  have hk1 := LR3.out.setCell [.int .u64 (pat i : Int), .int .u64 (pat j : Int)] rfl 1 (by decide)
  have F := Lib.hid (below_sets (w0 := w) (r := (w.heap.size + 1)) (by omega) [.int .u64 (pat i : Int), .int .u64 (pat j : Int)] 0 _ LB3.out)
  simp [sets] at hk0 hk1
  clear hb5 hb3 h3 h4
  go_wp2
  refine bodyPost_ret (v := .agg #[.int .u64 (pat i : Int), .int .u64 (pat j : Int)]) (by simp [results, Tryz.results73, go_sem, hk0, hk1]) rfl ?_
  exact ⟨by rw [EI.out, EJ.out], F.out⟩

theorem neg6 (x y : Nat) (w : World) (hx : x < 18446744073709551616) (hy : y < 18446744073709551616) :
    Calls Tryz.prog 73 #[.agg #[.int .u64 (x : Int), .int .u64 (y : Int)]] w fun e w' => e = .returned (.agg #[.int .u64 (pat (-(rd x y).2) : Int), .int .u64 (pat (-(rd x y).1) : Int)]) ∧ Below w.heap.size w w' := by
  cases h : snd x y
  · exact neg6_none x y w hx hy h
  · exact neg6_full x y w hx hy h

end Go.Proofs.YtmjkmoahkanblaaGreat

namespace Go.Proofs.YtmjkmoahkanblaaGreat
open Go.RowKit

theorem num_neg_iff {x : Rat} : x.num < 0 ↔ x < 0 := by rw [← Int.not_le, Rat.num_nonneg, Rat.not_le]
theorem rat_rv (x : Rat) : rv (decide (x < 0)) x.num.natAbs x.den = x := by
  have h : (x.num : Rat) / (x.den : Rat) = x := by rw [← Rat.mkRat_eq_div, Rat.mkRat_self]
  unfold rv
  by_cases h0 : x < 0
  · have h1 : x.num < 0 := num_neg_iff.2 h0
    have h2 : ((x.num.natAbs : Nat) : Int) = -x.num := by omega
    have h3 : ((x.num.natAbs : Nat) : Rat) = -(x.num : Rat) := by rw [← Rat.intCast_natCast, h2, Rat.intCast_neg]
    simp only [h0, decide_true, if_true, h3, Rat.neg_neg]
    exact h
  · have h1 : ¬ x.num < 0 := fun h => h0 (num_neg_iff.1 h)
    have h2 : ((x.num.natAbs : Nat) : Int) = x.num := by omega
    have h3 : ((x.num.natAbs : Nat) : Rat) = (x.num : Rat) := by rw [← Rat.intCast_natCast, h2]
    simp only [h0, decide_false, h3]
    exact h

theorem Rnd.dir {d : Int} {x : Rat} {i : Int} (h : Rnd d x i) : d = -1 ∨ d = 1 := by
  rcases h with ⟨h, _⟩ | ⟨h, _⟩
  · exact .inl h
  · exact .inr h
theorem Rnd.unique {d : Int} {x : Rat} {i j : Int} (h : Rnd d x i) (h' : Rnd d x j) : i = j := by
  rcases h with ⟨rfl, a1, a2, a3⟩ | ⟨rfl, a1, a2, a3⟩
  · rcases h' with ⟨-, b1, b2, b3⟩ | ⟨h, _⟩
    · rcases Int.lt_trichotomy i j with h | h | h
      · have := (a3 j (by omega) b2).2 ((b3 j (by omega) b2).1 (Int.le_refl _)); omega
      · exact h
      · have := (b3 i (by omega) a2).2 ((a3 i (by omega) a2).1 (Int.le_refl _)); omega
    · omega
  · rcases h' with ⟨h, _⟩ | ⟨-, b1, b2, b3⟩
    · omega
    · rcases Int.lt_trichotomy i j with h | h | h
      · have := (b3 i a1 (by omega)).2 ((a3 i a1 (by omega)).1 (Int.le_refl _)); omega
      · exact h
      · have := (a3 j b1 (by omega)).2 ((b3 j b1 (by omega)).1 (Int.le_refl _)); omega

/-- A rational number, rounded in the direction d. -/
def rndI (d : Int) (x : Rat) : Int :=
  if x = 0 then 0 else sg (decide (x < 0)) (ansT x.num.natAbs x.den (fout x.num.natAbs x.den ((blen x.num.natAbs : Int) - blen x.den)) (decide (d = 1) != decide (x < 0)))
theorem rnd_rndI {d : Int} (hd : d = -1 ∨ d = 1) (x : Rat) : Rnd d x (rndI d x) := by
  unfold rndI
  by_cases h0 : x = 0
  · rw [if_pos h0, h0]; exact rnd_zero hd
  · rw [if_neg h0]
    have hp : 0 < x.num.natAbs := by
      have : x.num ≠ 0 := fun h => h0 (Rat.num_eq_zero.1 h)
      omega
    have h := rnd_ans (neg := decide (x < 0)) hp x.den_pos (fout_sc hp x.den_pos rfl) hd
    rw [rat_rv] at h
    exact h
theorem Rnd.eq {d : Int} {x : Rat} {i : Int} (h : Rnd d x i) : i = rndI d x := h.unique (rnd_rndI h.dir x)
theorem rndI_neg {d : Int} (hd : d = -1 ∨ d = 1) (x : Rat) : rndI (-d) (-x) = - rndI d x := ((rnd_rndI hd x).neg.eq).symm
theorem rndI_fl {d a : Int} (hd : d = -1 ∨ d = 1) (h0 : -(M : Int) < a) (h1 : a < M) : rndI d (fl a) = a := (rnd_rndI hd (fl a)).exact h0 h1
theorem rndI_zero {d : Int} (hd : d = -1 ∨ d = 1) : rndI d 0 = 0 := (rnd_zero hd).eq.symm
theorem rndI_down (x : Rat) : -(M : Int) ≤ rndI (-1) x ∧ rndI (-1) x < M ∧ ∀ j : Int, -(M : Int) < j → j < M → (j ≤ rndI (-1) x ↔ fl j ≤ x) := by
  rcases rnd_rndI (.inl rfl) x with ⟨-, h⟩ | ⟨h, _⟩
  · exact h
  · omega
theorem rndI_up (x : Rat) : -(M : Int) < rndI 1 x ∧ rndI 1 x ≤ M ∧ ∀ j : Int, -(M : Int) < j → j < M → (rndI 1 x ≤ j ↔ x ≤ fl j) := by
  rcases rnd_rndI (.inr rfl) x with ⟨h, _⟩ | ⟨-, h⟩
  · omega
  · exact h
theorem rndI_mono {d : Int} (hd : d = -1 ∨ d = 1) {x y : Rat} (h : x ≤ y) : rndI d x ≤ rndI d y := by
  rcases hd with rfl | rfl
  · have h1 := rndI_down x
    have h2 := rndI_down y
    by_cases hc : rndI (-1) x ≤ rndI (-1) y
    · exact hc
    · have h3 := (h1.2.2 (rndI (-1) x) (by omega) h1.2.1).1 (Int.le_refl _)
      exact (h2.2.2 _ (by omega) h1.2.1).2 (Rat.le_trans h3 h)
  · have h1 := rndI_up x
    have h2 := rndI_up y
    by_cases hc : rndI 1 x ≤ rndI 1 y
    · exact hc
    · have h3 := (h2.2.2 (rndI 1 y) h2.1 (by omega)).1 (Int.le_refl _)
      exact (h1.2.2 _ h2.1 (by omega)).2 (Rat.le_trans h h3)
theorem rndI_le (x : Rat) : rndI (-1) x ≤ rndI 1 x := by
  have h1 := rndI_down x
  have h2 := rndI_up x
  by_cases hc : rndI (-1) x ≤ rndI 1 x
  · exact hc
  · have h3 := (h2.2.2 (rndI 1 x) h2.1 (by omega)).1 (Int.le_refl _)
    by_cases h4 : rndI 1 x < rndI (-1) x
    · have h5 := (h1.2.2 (rndI (-1) x) (by omega) h1.2.1).1 (Int.le_refl _)
      have := fl_lt_iff.2 h4
      grind
    · omega

/-- The neighbours of an end: its infinity s, or the number x. -/
def dn (s : Int) (x : Rat) : Int := if s = 0 then rndI (-1) x else s * M
def up (s : Int) (x : Rat) : Int := if s = 0 then rndI 1 x else s * M
theorem dn_zero (x : Rat) : dn 0 x = rndI (-1) x := rfl
theorem up_zero (x : Rat) : up 0 x = rndI 1 x := rfl
theorem dn_idx {a : Int} (h : -(M : Int) ≤ a ∧ a ≤ M) : dn (es a) (ex a) = a := by
  unfold dn
  by_cases h0 : es a = 0
  · have h1 := es_zero h0
    rw [if_pos h0, ex_zero h0, rndI_fl (.inl rfl) (by omega) (by omega)]
  · rw [if_neg h0]
    unfold es at *
    split at h0 <;> simp_all
theorem up_idx {a : Int} (h : -(M : Int) ≤ a ∧ a ≤ M) : up (es a) (ex a) = a := by
  unfold up
  by_cases h0 : es a = 0
  · have h1 := es_zero h0
    rw [if_pos h0, ex_zero h0, rndI_fl (.inr rfl) (by omega) (by omega)]
  · rw [if_neg h0]
    unfold es at *
    split at h0 <;> simp_all

theorem rc_neg_iff {x y : Rat} : rc x y < 0 ↔ x < y := by
  unfold rc
  by_cases h : x < y
  · simp [h]
  · rw [if_neg h]
    by_cases h' : y < x <;> simp [h, h']
theorem rc_pos_iff {x y : Rat} : 0 < rc x y ↔ y < x := by
  unfold rc
  by_cases h : x < y
  · have : ¬ y < x := by grind
    simp [h, this]
  · rw [if_neg h]
    by_cases h' : y < x <;> simp [h']
theorem rc_zero_iff {x y : Rat} : rc x y = 0 ↔ x = y := by
  unfold rc
  by_cases h : x < y
  · have : x ≠ y := by grind
    simp [h, this]
  · rw [if_neg h]
    by_cases h' : y < x
    · have : x ≠ y := by grind
      simp [h', this]
    · have : x = y := by grind
      simp [this]

/-! How an index lies to an end. -/
theorem ec_hi {i s : Int} {x : Rat} (hi : -(M : Int) ≤ i ∧ i < M) (hs : s = 0 ∨ s = 1) : 0 < ec (es i) (ex i) s x ↔ dn s x < i := by
  have hM : M = 9218868437227405312 := rfl
  rcases hs with rfl | rfl
  · rw [dn_zero]
    have h := rndI_down x
    by_cases h0 : i = -(M : Int)
    · subst h0
      rw [es_min, ec_lt _ _ (by omega)]; omega
    · rw [es_mid (by omega) hi.2, ec_zero, ex_mid (by omega) hi.2, rc_pos_iff]
      have h1 := h.2.2 i (by omega) hi.2
      rw [← Int.not_le, h1]; grind
  · have h1 : es i < 1 := by have := es_bounds i; unfold es; split <;> (try split) <;> omega
    rw [ec_lt _ _ h1]
    unfold dn
    rw [if_neg (by omega)]; omega
theorem ec_lo {j s : Int} {x : Rat} (hj : -(M : Int) < j ∧ j ≤ M) (hs : s = 0 ∨ s = -1) : ec (es j) (ex j) s x < 0 ↔ j < up s x := by
  have hM : M = 9218868437227405312 := rfl
  rcases hs with rfl | rfl
  · rw [up_zero]
    have h := rndI_up x
    by_cases h0 : j = (M : Int)
    · subst h0
      rw [es_max, ec_gt _ _ (by omega)]; omega
    · rw [es_mid (by omega) (by omega), ec_zero, ex_mid (by omega) (by omega), rc_neg_iff]
      have h1 := h.2.2 j hj.1 (by omega)
      rw [← Int.not_le, h1]; grind
  · have h1 : -1 < es j := by unfold es; split <;> (try split) <;> omega
    rw [ec_gt _ _ h1]
    unfold up
    rw [if_neg (by omega)]; omega
theorem ec_lo_at {i s : Int} {x : Rat} (hi : -(M : Int) ≤ i ∧ i < M) (hs : s = 0 ∨ s = -1) : (if ec (es i) (ex i) s x < 0 then rndI (-1) x else i) = max i (dn s x) := by
  have hM : M = 9218868437227405312 := rfl
  rcases hs with rfl | rfl
  · rw [dn_zero]
    have h := rndI_down x
    by_cases h0 : i = -(M : Int)
    · subst h0
      rw [es_min, ec_lt _ _ (by omega), if_pos (by omega)]; omega
    · rw [es_mid (by omega) hi.2, ec_zero, ex_mid (by omega) hi.2]
      have h1 := h.2.2 i (by omega) hi.2
      by_cases hc : fl i < x
      · rw [if_pos (rc_neg_iff.2 hc)]
        have := h1.2 (by grind); omega
      · rw [if_neg (fun h => hc (rc_neg_iff.1 h))]
        have : rndI (-1) x ≤ i := by
          by_cases h2 : rndI (-1) x = -(M : Int)
          · omega
          · have h3 := (h.2.2 (rndI (-1) x) (by omega) h.2.1).1 (Int.le_refl _)
            rw [← fl_le_iff]; grind
        omega
  · have h1 : -1 ≤ es i := (es_bounds i).1
    have h2 : ¬ ec (es i) (ex i) (-1) x < 0 := by
      by_cases h3 : es i = -1
      · rw [ec_inf _ _ h3 (by omega)]; omega
      · rw [ec_gt _ _ (by omega)]; omega
    rw [if_neg h2]
    unfold dn
    rw [if_neg (by omega)]; omega
theorem ec_hi_at {j s : Int} {x : Rat} (hj : -(M : Int) < j ∧ j ≤ M) (hs : s = 0 ∨ s = 1) : (if 0 < ec (es j) (ex j) s x then rndI 1 x else j) = min j (up s x) := by
  have hM : M = 9218868437227405312 := rfl
  rcases hs with rfl | rfl
  · rw [up_zero]
    have h := rndI_up x
    by_cases h0 : j = (M : Int)
    · subst h0
      rw [es_max, ec_gt _ _ (by omega), if_pos (by omega)]; omega
    · rw [es_mid (by omega) (by omega), ec_zero, ex_mid (by omega) (by omega)]
      have h1 := h.2.2 j hj.1 (by omega)
      by_cases hc : x < fl j
      · rw [if_pos (rc_pos_iff.2 hc)]
        have := h1.2 (by grind); omega
      · rw [if_neg (fun h => hc (rc_pos_iff.1 h))]
        have : j ≤ rndI 1 x := by
          by_cases h2 : rndI 1 x = (M : Int)
          · omega
          · have h3 := (h.2.2 (rndI 1 x) h.1 (by omega)).1 (Int.le_refl _)
            rw [← fl_le_iff]; grind
        omega
  · have h1 : es j ≤ 1 := (es_bounds j).2
    have h2 : ¬ 0 < ec (es j) (ex j) 1 x := by
      by_cases h3 : es j = 1
      · rw [ec_inf _ _ h3 (by omega)]; omega
      · rw [ec_lt _ _ (by omega)]; omega
    rw [if_neg h2]
    unfold up
    rw [if_neg (by omega)]; omega
theorem ec_hi_open {i s : Int} {x : Rat} (hi : -(M : Int) ≤ i ∧ i < M) (hs : s = 1) : ec (es i) (ex i) s x ≠ 0 := by
  have h1 : es i < s := by unfold es; split <;> (try split) <;> omega
  rw [ec_lt _ _ h1]; omega
theorem ec_lo_open {j s : Int} {x : Rat} (hj : -(M : Int) < j ∧ j ≤ M) (hs : s = -1) : ec (es j) (ex j) s x ≠ 0 := by
  have hM : M = 9218868437227405312 := rfl
  have h1 : s < es j := by unfold es; split <;> (try split) <;> omega
  rw [ec_gt _ _ h1]; omega

/-- What an interval has in common with a closed piece: lo and hi by their neighbours. -/
def ct (i j pd pu qd qu : Int) : Int × Int := if qd < i ∨ j < pu then ((M : Int), -(M : Int)) else (max i pd, min j qu)

end Go.Proofs.YtmjkmoahkanblaaGreat

namespace Go.Proofs.YtmjkmoahkanblaaGreat
open Ieee

/-- The index nearest to n / 2^d units; M stands for whatever is too great. -/
def near (n : Int) (d : Nat) : Int := if n < 0 then -((min (nearRung n.natAbs d) M : Nat) : Int) else (min (nearRung n.natAbs d) M : Nat)

theorem near_natAbs (n : Int) (d : Nat) : (near n d).natAbs = min (nearRung n.natAbs d) M := by unfold near; split <;> omega
theorem near_neg (n : Int) (d : Nat) : near (-n) d = -near n d := by
  unfold near
  rw [Int.natAbs_neg]
  rcases Int.lt_trichotomy n 0 with h | h | h
  · rw [if_neg (by omega), if_pos h]; omega
  · subst h
    have : nearRung 0 d = 0 := Nat.le_zero.1 (nearRung_le (Nat.zero_le _))
    simp [this]
  · rw [if_pos (by omega), if_neg (by omega)]

theorem near_range (n : Int) (d : Nat) : -(M : Int) ≤ near n d ∧ near n d ≤ M := by
  have := near_natAbs n d; omega

theorem val_scale_nat (r d : Nat) : val (r : Int) * 2^d = ((mag r * 2^d : Nat) : Int) := by rw [val_nat]; simp

theorem le_near {i : Int} {n : Int} {d : Nat} (hi : i ≤ M) (h : val i * 2^d ≤ n) : i ≤ near n d := by
  have hp : (0 : Int) < 2^d := by exact_mod_cast Nat.two_pow_pos d
  rcases Int.lt_or_le i 0 with h0 | h0
  · -- below 0
    unfold near
    split
    · obtain ⟨r, rfl⟩ : ∃ r : Nat, i = -(r : Int) := ⟨i.natAbs, by omega⟩
      rw [val_neg, Int.neg_mul, val_scale_nat] at h
      have : nearRung n.natAbs d ≤ r := nearRung_le (by omega)
      omega
    · omega
  · obtain ⟨r, rfl⟩ : ∃ r : Nat, i = (r : Int) := ⟨i.natAbs, by omega⟩
    rw [val_scale_nat] at h
    have h2 : (0 : Int) ≤ n := by omega
    unfold near
    rw [if_neg (by omega)]
    have : r ≤ nearRung n.natAbs d := le_nearRung (by omega)
    omega

theorem near_le {i : Int} {n : Int} {d : Nat} (hi : -(M : Int) ≤ i) (h : n ≤ val i * 2^d) : near n d ≤ i := by
  have := @le_near (-i) (-n) d (by omega) (by rw [val_neg, Int.neg_mul]; omega)
  rw [near_neg] at this
  omega

theorem near_val {i : Int} (h1 : -(M : Int) ≤ i) (h2 : i ≤ M) (d : Nat) : near (val i * 2^d) d = i :=
  Int.le_antisymm (near_le h1 (Int.le_refl _)) (le_near h2 (Int.le_refl _))

theorem near_val_zero {i : Int} (h1 : -(M : Int) ≤ i) (h2 : i ≤ M) : near (val i) 0 = i := by
  have := near_val h1 h2 0
  simpa using this

/-! ### Words -/

theorem word_false (r : Nat) : double.word false r = r := rfl
theorem word_true (r : Nat) : double.word true r = 2^63 + r := by unfold Format.word; rw [signWeight_eq]; rfl
theorem word_lt64 (s : Bool) {r : Nat} (h : r < 2^63) : double.word s r < 2^64 := by
  cases s
  · rw [word_false]; omega
  · rw [word_true]; omega
theorem rungOf_word (s : Bool) {r : Nat} (h : r < 2^63) : rungOf (double.word s r) = r := by
  unfold rungOf
  cases s
  · rw [word_false]; omega
  · rw [word_true]; omega
theorem sgn_word (s : Bool) {r : Nat} (h : r < 2^63) : sgn (double.word s r) = s := by
  unfold sgn
  cases s
  · rw [word_false, show r / 2^63 = 0 from by omega]; rfl
  · rw [word_true, show (2^63 + r) / 2^63 = 1 from by omega]; rfl
theorem idx_word (s : Bool) {r : Nat} (h : r < 2^63) : idx (double.word s r) = if s then -(r : Int) else r := by
  unfold idx; rw [sgn_word s h, rungOf_word s h]
theorem M_lt : M < 2^63 := by decide
theorem M_pos : 0 < M := by decide
theorem min_M_lt (n : Nat) : min n M < 2^63 := by have := M_lt; omega

/-- A word that stands for an index. -/
structure Is (b : Nat) (i : Int) : Prop where
  lt : b < 2^64
  real : real b
  idx : idx b = i

theorem Is.word (s : Bool) {r : Nat} (h : r ≤ M) : Is (double.word s r) (if s then -(r : Int) else r) := by
  have := M_lt
  have h' : r < 2^63 := by omega
  exact ⟨word_lt64 s h', by unfold Proofs.YtmjkmoahkanblaaGreat.real; rw [rungOf_word s h']; exact h, idx_word s h'⟩

/-- The sign of a rounded number: of a number that is not nought, its own. -/
theorem Is.near {s : Bool} {n : Int} {d : Nat} (h : n ≠ 0 → s = decide (n < 0)) : Is (double.word s (min (nearRung n.natAbs d) M)) (near n d) := by
  have h1 := Is.word s (r := min (nearRung n.natAbs d) M) (Nat.min_le_right _ _)
  have e : (if s = true then -((min (nearRung n.natAbs d) M : Nat) : Int) else ((min (nearRung n.natAbs d) M : Nat) : Int)) = Proofs.YtmjkmoahkanblaaGreat.near n d := by
    unfold Proofs.YtmjkmoahkanblaaGreat.near
    by_cases h0 : n = 0
    · subst h0
      have : nearRung (0 : Int).natAbs d = 0 := Nat.le_zero.1 (nearRung_le (Nat.zero_le _))
      rw [this]; cases s <;> simp
    · rw [h h0]
      by_cases h2 : n < 0
      · rw [if_pos h2, if_pos (by simpa using h2)]
      · rw [if_neg h2, if_neg (by simpa using h2)]
  rw [e] at h1; exact h1

/-! ### Sums -/

theorem write_num (s : Bool) (m : Nat) (p : Int) : double.write (.number s m p) = double.nearest s m p := rfl

theorem sum_fin {x y : Nat} {sy : Bool} {m n k l : Nat} (hm : m * 2^k = mag (rungOf x)) (hn : n * 2^l = mag (rungOf y)) :
    ∃ z : Bool, ((Datum.number (sgn x) m (-1074 + (k : Int))).sum (.number sy n (-1074 + (l : Int)))).map double.write
      = some (double.word (if val (idx x) + signed sy (mag (rungOf y)) 0 = 0 then z else decide (val (idx x) + signed sy (mag (rungOf y)) 0 < 0)) (min (nearRung (val (idx x) + signed sy (mag (rungOf y)) 0).natAbs 0) M)) := by
  refine ⟨sgn x && sy, ?_⟩
  have key : ∀ b : Nat, b ≤ k → b ≤ l → double.nearest (if signed (sgn x) m (k - b) + signed sy n (l - b) = 0 then sgn x && sy else decide (signed (sgn x) m (k - b) + signed sy n (l - b) < 0)) (signed (sgn x) m (k - b) + signed sy n (l - b)).natAbs (-1074 + (b : Int)) = double.word (if val (idx x) + signed sy (mag (rungOf y)) 0 = 0 then sgn x && sy else decide (val (idx x) + signed sy (mag (rungOf y)) 0 < 0)) (min (nearRung (val (idx x) + signed sy (mag (rungOf y)) 0).natAbs 0) M) := by
    intro b hk hl
    rw [nearest_high]
    have hp : (0 : Int) < 2^b := by exact_mod_cast Nat.two_pow_pos b
    have e1 : signed (sgn x) m (k - b) * 2^b = val (idx x) := by rw [← signed_split, Nat.sub_add_cancel hk, read_val hm]
    have e2 : signed sy n (l - b) * 2^b = signed sy (mag (rungOf y)) 0 := by
      rw [← signed_split, Nat.sub_add_cancel hl, signed_eq, signed_eq, hn, Nat.pow_zero, Nat.mul_one]
    have e3 : val (idx x) + signed sy (mag (rungOf y)) 0 = (signed (sgn x) m (k - b) + signed sy n (l - b)) * 2^b := by rw [← e1, ← e2, Int.add_mul]
    rw [e3]
    generalize signed (sgn x) m (k - b) + signed sy n (l - b) = t
    have e4 : (t * 2^b).natAbs = t.natAbs * 2^b := by rw [Int.natAbs_mul, Int.natAbs_pow]; rfl
    have e5 : (t * 2^b = 0) ↔ t = 0 := by
      constructor
      · intro h
        rcases Int.mul_eq_zero.1 h with h | h
        · exact h
        · omega
      · rintro rfl; simp
    have e6 : (t * 2^b < 0) ↔ t < 0 := by
      constructor
      · intro h
        rcases Int.lt_or_le t 0 with h2 | h2
        · exact h2
        · have := Int.mul_nonneg h2 (Int.le_of_lt hp); omega
      · intro h; exact Int.mul_neg_of_neg_of_pos h hp
    rw [e4]
    congr 1
    by_cases h0 : t = 0
    · rw [if_pos h0, if_pos (e5.2 h0)]
    · rw [if_neg h0, if_neg (fun h => h0 (e5.1 h))]
      exact decide_eq_decide.2 e6.symm
  simp only [Datum.sum, Option.map_some, write_num]
  congr 1
  rcases Nat.le_total k l with h | h
  · have := key k (Nat.le_refl _) h
    rw [show min (-1074 + (k : Int)) (-1074 + (l : Int)) = -1074 + (k : Int) from by omega, show (-1074 + (k : Int) - (-1074 + (k : Int))).toNat = k - k from by omega, show (-1074 + (l : Int) - (-1074 + (k : Int))).toNat = l - k from by omega]
    rw [← this]
  · have := key l h (Nat.le_refl _)
    rw [show min (-1074 + (k : Int)) (-1074 + (l : Int)) = -1074 + (l : Int) from by omega, show (-1074 + (l : Int) - (-1074 + (l : Int))).toNat = l - l from by omega, show (-1074 + (k : Int) - (-1074 + (l : Int))).toNat = k - l from by omega]
    rw [← this]

theorem add_fin {x y : Nat} (hx : fin x) (hy : fin y) : ∃ r, double.add x y = some r ∧ Is r (near (val (idx x) + val (idx y)) 0) := by
  obtain ⟨m, k, e, hm, _⟩ := read_fin hx
  obtain ⟨n, l, e', hn, _⟩ := read_fin hy
  obtain ⟨z, h⟩ := sum_fin (sy := sgn y) hm hn
  rw [show signed (sgn y) (mag (rungOf y)) 0 = val (idx y) from by rw [signed_eq, val_idx, Nat.pow_zero, Nat.mul_one]] at h
  unfold Format.add
  rw [e, e']
  refine ⟨_, h, Is.near ?_⟩
  intro h0; rw [if_neg h0]

theorem sub_fin {x y : Nat} (hx : fin x) (hy : fin y) : ∃ r, double.sub x y = some r ∧ Is r (near (val (idx x) - val (idx y)) 0) := by
  obtain ⟨m, k, e, hm, _⟩ := read_fin hx
  obtain ⟨n, l, e', hn, _⟩ := read_fin hy
  obtain ⟨z, h⟩ := sum_fin (sy := !sgn y) hm hn
  have e2 : signed (!sgn y) (mag (rungOf y)) 0 = -val (idx y) := by
    rw [signed_eq, val_idx, Nat.pow_zero, Nat.mul_one]
    cases sgn y <;> simp
  rw [e2, ← Int.sub_eq_add_neg] at h
  unfold Format.sub
  rw [e, e']
  refine ⟨_, h, Is.near ?_⟩
  intro h0; rw [if_neg h0]

theorem mul_fin {x y : Nat} (hx : fin x) (hy : fin y) : ∃ r, double.mul x y = some r ∧ Is r (near (val (idx x) * val (idx y)) 1074) := by
  obtain ⟨m, k, e, hm, _⟩ := read_fin hx
  obtain ⟨n, l, e', hn, _⟩ := read_fin hy
  unfold Format.mul
  rw [e, e']
  simp only [Datum.product, Option.map_some, write_num]
  refine ⟨_, rfl, ?_⟩
  rw [show (-1074 + (k : Int) + (-1074 + (l : Int))) = -1074 - ((1074 : Nat) : Int) + ((k + l : Nat) : Int) from by omega, nearest_shift, nearest_low]
  have e1 : (val (idx x) * val (idx y)).natAbs = m * n * 2^(k + l) := by
    rw [Int.natAbs_mul, val_natAbs, val_natAbs, idx_natAbs, idx_natAbs, ← hm, ← hn, Nat.pow_add]
    rw [Nat.mul_assoc, Nat.mul_assoc, Nat.mul_left_comm (2^k)]
  rw [← e1]
  refine Is.near ?_
  intro h0
  rw [val_idx, val_idx] at h0 ⊢
  generalize mag (rungOf x) = a at h0 ⊢
  generalize mag (rungOf y) = b at h0 ⊢
  have hab : (0 : Int) ≤ (a : Int) * (b : Int) := Int.mul_nonneg (by omega) (by omega)
  cases sgn x <;> cases sgn y <;> simp [Int.neg_mul, Int.mul_neg] at h0 ⊢
  · exact hab
  · have : (0 : Int) < (a : Int) * (b : Int) := Int.mul_pos (by omega) (by omega)
    omega
  · have : (0 : Int) < (a : Int) * (b : Int) := Int.mul_pos (by omega) (by omega)
    omega
  · exact hab

end Go.Proofs.YtmjkmoahkanblaaGreat
