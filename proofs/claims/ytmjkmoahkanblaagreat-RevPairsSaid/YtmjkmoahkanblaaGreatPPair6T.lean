/-
Walks: package vergeref10, MulPair.
-/
import Derived.Test.YtmjkmoahkanblaaGreatM04
import Derived.Test.YtmjkmoahkanblaaGreatM32
import Derived.Test.YtmjkmoahkanblaaGreatM23
import Derived.Deep.DeepCutAuto
set_option linter.unusedSimpArgs false
set_option linter.unusedVariables false
set_option maxHeartbeats 12800000

namespace Go.Proofs.YtmjkmoahkanblaaGreat
open Go.RowKit
set_option maxRecDepth 8000 in
theorem refpair_one (b1 b2 f1 f2 r1 r2 : Nat) (os ot z : Bool) (s1 s2 s3 s4 : Int) (x1 x2 x3 x4 : Rat) (a3 a4 : Int) (w : World) (hO1 : ∀ W, Calls Tryz.prog 57 #[.agg #[.int .u64 (f1 : Int), .int .u64 (f2 : Int)]] W (NewSet W 34 os s1 x1 s2 x2)) (hO2 : ∀ W, Calls Tryz.prog 57 #[.agg #[.int .u64 (b1 : Int), .int .u64 (b2 : Int)]] W (NewSet W 34 ot s3 x3 s4 x4))
    (hZ : os = false → ot = false → ∀ W (g1 : Bool) (A1 : Option Addr) (n1 c1 : Nat) (B1 : Option Addr) (m1 d1 : Nat) (g2 : Bool) (A2 : Option Addr) (n2 c2 : Nat) (B2 : Option Addr) (m2 d2 : Nat), RatV W 34 g1 (.slice A1 n1 c1) (.slice B1 m1 d1) x1 → RatV W 34 g2 (.slice A2 n2 c2) (.slice B2 m2 d2) x2 → Calls Tryz.prog 85 #[.agg #[.bool false, .int .i64 s1, .bool g1, .slice A1 n1 c1, .slice B1 m1 d1, .int .i64 s2, .bool g2, .slice A2 n2 c2, .slice B2 m2 d2]] W fun e w' => e = .returned (.bool z) ∧ Below W.heap.size W w') (hS3 : ∀ W (g3 : Bool) (A3 : Option Addr) (n3 c3 : Nat) (B3 : Option Addr) (m3 d3 : Nat), RatV W 34 g3 (.slice A3 n3 c3) (.slice B3 m3 d3) x3 → Calls Tryz.prog 86 #[.agg #[.int .i64 s3, .bool g3, .slice A3 n3 c3, .slice B3 m3 d3]] W fun e w' => e = .returned (.int .i64 a3) ∧ Below W.heap.size W w') (hS4 : ∀ W (g4 : Bool) (A4 : Option Addr) (n4 c4 : Nat) (B4 : Option Addr) (m4 d4 : Nat), RatV W 34 g4 (.slice A4 n4 c4) (.slice B4 m4 d4) x4 → Calls Tryz.prog 86 #[.agg #[.int .i64 s4, .bool g4, .slice A4 n4 c4, .slice B4 m4 d4]] W fun e w' => e = .returned (.int .i64 a4) ∧ Below W.heap.size W w') (hc : (os = true ∨ os = false ∧ (ot = true ∨ ot = false ∧ (z = true ∨ z = false ∧ (decide (a3 < 0) = false ∨ decide (a3 < 0) = true ∧ decide (0 < a4) = false)))))
    (hM : ∀ W, Calls Tryz.prog 30 #[.agg #[.int .u64 (b1 : Int), .int .u64 (b2 : Int)], .agg #[.int .u64 (f1 : Int), .int .u64 (f2 : Int)], .agg #[.int .u64 18442240474082181120, .int .u64 9218868437227405312]] W fun e w' => e = .returned (.agg #[.int .u64 (r1 : Int), .int .u64 (r2 : Int)]) ∧ Below W.heap.size W w') :
    Calls Tryz.prog 32 #[.agg #[.int .u64 (b1 : Int), .int .u64 (b2 : Int)], .agg #[.int .u64 (f1 : Int), .int .u64 (f2 : Int)]] w fun e w' => e = .returned (.tuple #[.agg #[.int .u64 (r1 : Int), .int .u64 (r2 : Int)], .agg #[.int .u64 9218868437227405312, .int .u64 18442240474082181120]]) ∧ Below w.heap.size w w' := by
  have HO1 := Lib.hid hO1
  have HO2 := Lib.hid hO2
  have HM := Lib.hid hM
  have HZ0 := Lib.hid hZ
  have HS3 := Lib.hid hS3
  have HS4 := Lib.hid hS4
  have HC := Lib.hid hc
  have HN := Lib.hid entire6
  have HE := Lib.hid empty6
  clear hO1 hO2 hM hZ hS3 hS4 hc
  have LL := li4 w #[.int .u64 (b1 : Int), .int .u64 (b2 : Int)] 24 #[.int .u64 (f1 : Int), .int .u64 (f2 : Int)] 24 #[.int .u64 0, .int .u64 0] 24 #[.int .u64 0, .int .u64 0] 24
  go_enter Tryz.func32, Tryz.ntmps32
  obtain ⟨q1_0, q1_1⟩ := (LL.out.blk 1 rfl).c2
  go_wp2_with fail
  refine (HO1.out _).mono ?_
  rintro e wk ⟨g1, A1, n1, c1, B1, m1, d1, g2, A2, n2, c2, B2, m2, d2, rfl, hr1, hr2, hb⟩
  replace LL := stL LL hb
  clear hb q1_0 q1_1
  have HR1 := Lib.hid hr1
  clear hr1
  have HR2 := Lib.hid hr2
  clear hr2
  go_upto_region 2 with fail
  obtain ⟨j6, hg, hb_j6, hl_j6, hr_j6, -⟩ := LL.out.fresh 69 #[.bool os, .int .i64 s1, .bool g1, .slice A1 n1 c1, .slice B1 m1 d1, .int .i64 s2, .bool g2, .slice A2 n2 c2, .slice B2 m2 d2]
  simp only [List.mem_cons, List.not_mem_nil, or_false, forall_eq_or_imp, forall_eq, false_imp_iff, implies_true] at hl_j6 hr_j6
  replace LL := Lib.hid (LL.out.new 69 #[.bool os, .int .i64 s1, .bool g1, .slice A1 n1 c1, .slice B1 m1 d1, .int .i64 s2, .bool g2, .slice A2 n2 c2, .slice B2 m2 d2])
  simp only [List.cons_append, List.nil_append] at LL
  replace HR1 := Lib.hid (HR1.out.below (below_alloc _ (.cells #[.bool os, .int .i64 s1, .bool g1, .slice A1 n1 c1, .slice B1 m1 d1, .int .i64 s2, .bool g2, .slice A2 n2 c2, .slice B2 m2 d2] 69)))
  replace HR2 := Lib.hid (HR2.out.below (below_alloc _ (.cells #[.bool os, .int .i64 s1, .bool g1, .slice A1 n1 c1, .slice B1 m1 d1, .int .i64 s2, .bool g2, .slice A2 n2 c2, .slice B2 m2 d2] 69)))
  rw [hg] at LL ⊢
  clear hg
  obtain ⟨wn, hwn⟩ : ∃ X, wk.alloc (.cells #[.bool os, .int .i64 s1, .bool g1, .slice A1 n1 c1, .slice B1 m1 d1, .int .i64 s2, .bool g2, .slice A2 n2 c2, .slice B2 m2 d2] 69) = X := ⟨_, rfl⟩
  rw [hwn] at LL HR1 HR2 ⊢
  clear hwn
  obtain ⟨q2_0, q2_1⟩ := (LL.out.blk 0 rfl).c2
  go_wp2_with fail
  refine (HO2.out _).mono ?_
  rintro e wk ⟨g3, A3, n3, c3, B3, m3, d3, g4, A4, n4, c4, B4, m4, d4, rfl, hr3, hr4, hb⟩
  replace LL := stL LL hb
  replace HR1 := Lib.hid (HR1.out.below hb)
  replace HR2 := Lib.hid (HR2.out.below hb)
  clear hb q2_0 q2_1
  have HR3 := Lib.hid hr3
  clear hr3
  have HR4 := Lib.hid hr4
  clear hr4
  go_upto_region 3 with fail
  obtain ⟨j7, hg, hb_j7, hl_j7, hr_j7, -⟩ := LL.out.fresh 69 #[.bool ot, .int .i64 s3, .bool g3, .slice A3 n3 c3, .slice B3 m3 d3, .int .i64 s4, .bool g4, .slice A4 n4 c4, .slice B4 m4 d4]
  simp only [List.mem_cons, List.not_mem_nil, or_false, forall_eq_or_imp, forall_eq, false_imp_iff, implies_true] at hl_j7 hr_j7
  replace LL := Lib.hid (LL.out.new 69 #[.bool ot, .int .i64 s3, .bool g3, .slice A3 n3 c3, .slice B3 m3 d3, .int .i64 s4, .bool g4, .slice A4 n4 c4, .slice B4 m4 d4])
  simp only [List.cons_append, List.nil_append] at LL
  replace HR1 := Lib.hid (HR1.out.below (below_alloc _ (.cells #[.bool ot, .int .i64 s3, .bool g3, .slice A3 n3 c3, .slice B3 m3 d3, .int .i64 s4, .bool g4, .slice A4 n4 c4, .slice B4 m4 d4] 69)))
  replace HR2 := Lib.hid (HR2.out.below (below_alloc _ (.cells #[.bool ot, .int .i64 s3, .bool g3, .slice A3 n3 c3, .slice B3 m3 d3, .int .i64 s4, .bool g4, .slice A4 n4 c4, .slice B4 m4 d4] 69)))
  replace HR3 := Lib.hid (HR3.out.below (below_alloc _ (.cells #[.bool ot, .int .i64 s3, .bool g3, .slice A3 n3 c3, .slice B3 m3 d3, .int .i64 s4, .bool g4, .slice A4 n4 c4, .slice B4 m4 d4] 69)))
  replace HR4 := Lib.hid (HR4.out.below (below_alloc _ (.cells #[.bool ot, .int .i64 s3, .bool g3, .slice A3 n3 c3, .slice B3 m3 d3, .int .i64 s4, .bool g4, .slice A4 n4 c4, .slice B4 m4 d4] 69)))
  rw [hg] at LL ⊢
  clear hg
  obtain ⟨wn, hwn⟩ : ∃ X, wk.alloc (.cells #[.bool ot, .int .i64 s3, .bool g3, .slice A3 n3 c3, .slice B3 m3 d3, .int .i64 s4, .bool g4, .slice A4 n4 c4, .slice B4 m4 d4] 69) = X := ⟨_, rfl⟩
  rw [hwn] at LL HR1 HR2 HR3 HR4 ⊢
  clear hwn
  go_cut [38] (fun s38 wx => s38 = .bool false ∧ Lies w wx [(w.heap.size, 24, #[.int .u64 (b1 : Int), .int .u64 (b2 : Int)]), ((w.heap.size + 1), 24, #[.int .u64 (f1 : Int), .int .u64 (f2 : Int)]), ((w.heap.size + 2), 24, #[.int .u64 0, .int .u64 0]), ((w.heap.size + 3), 24, #[.int .u64 0, .int .u64 0]), (j6, 69, #[.bool os, .int .i64 s1, .bool g1, .slice A1 n1 c1, .slice B1 m1 d1, .int .i64 s2, .bool g2, .slice A2 n2 c2, .slice B2 m2 d2]), (j7, 69, #[.bool ot, .int .i64 s3, .bool g3, .slice A3 n3 c3, .slice B3 m3 d3, .int .i64 s4, .bool g4, .slice A4 n4 c4, .slice B4 m4 d4])] [] ∧ RatV wx 34 g1 (.slice A1 n1 c1) (.slice B1 m1 d1) x1 ∧ RatV wx 34 g2 (.slice A2 n2 c2) (.slice B2 m2 d2) x2 ∧ RatV wx 34 g3 (.slice A3 n3 c3) (.slice B3 m3 d3) x3 ∧ RatV wx 34 g4 (.slice A4 n4 c4) (.slice B4 m4 d4) x4)
  case first =>
    rcases HC.out with h | ⟨h, h2⟩ <;> subst h
    · skip
      obtain ⟨q3_0, q3_1, q3_2, q3_3, q3_4, q3_5, q3_6, q3_7, q3_8⟩ := (LL.out.blk 4 rfl).c9
      go_wp2_with fail
      go_meet
      case rel => exact ⟨rfl, LL.out, HR1.out, HR2.out, HR3.out, HR4.out⟩
    rcases h2 with h | ⟨h, h2⟩ <;> subst h
    · skip
      obtain ⟨q3_0, q3_1, q3_2, q3_3, q3_4, q3_5, q3_6, q3_7, q3_8⟩ := (LL.out.blk 4 rfl).c9
      obtain ⟨q4_0, q4_1, q4_2, q4_3, q4_4, q4_5, q4_6, q4_7, q4_8⟩ := (LL.out.blk 5 rfl).c9
      go_wp2_with fail
      go_meet
      case rel => exact ⟨rfl, LL.out, HR1.out, HR2.out, HR3.out, HR4.out⟩
    have HZ := Lib.hid (HZ0.out rfl rfl)
    clear HZ0
    rcases h2 with h | ⟨h, h2⟩ <;> subst h
    · skip
      obtain ⟨q3_0, q3_1, q3_2, q3_3, q3_4, q3_5, q3_6, q3_7, q3_8⟩ := (LL.out.blk 4 rfl).c9
      obtain ⟨q4_0, q4_1, q4_2, q4_3, q4_4, q4_5, q4_6, q4_7, q4_8⟩ := (LL.out.blk 5 rfl).c9
      go_wp2_with fail
      refine (HZ.out _ _ _ _ _ _ _ _ _ _ _ _ _ _ _ HR1.out HR2.out).mono ?_
      rintro e wk ⟨rfl, hb⟩
      replace LL := stL LL hb
      replace HR1 := Lib.hid (HR1.out.below hb)
      replace HR2 := Lib.hid (HR2.out.below hb)
      replace HR3 := Lib.hid (HR3.out.below hb)
      replace HR4 := Lib.hid (HR4.out.below hb)
      clear hb q3_0 q3_1 q3_2 q3_3 q3_4 q3_5 q3_6 q3_7 q3_8 q4_0 q4_1 q4_2 q4_3 q4_4 q4_5 q4_6 q4_7 q4_8
      obtain ⟨q5_0, q5_1, q5_2, q5_3, q5_4, q5_5, q5_6, q5_7, q5_8⟩ := (LL.out.blk 4 rfl).c9
      obtain ⟨q6_0, q6_1, q6_2, q6_3, q6_4, q6_5, q6_6, q6_7, q6_8⟩ := (LL.out.blk 5 rfl).c9
      go_wp2_with fail
      go_meet
      case rel => exact ⟨rfl, LL.out, HR1.out, HR2.out, HR3.out, HR4.out⟩
    have H2 := Lib.hid h2
    clear h2
    obtain ⟨q3_0, q3_1, q3_2, q3_3, q3_4, q3_5, q3_6, q3_7, q3_8⟩ := (LL.out.blk 4 rfl).c9
    obtain ⟨q4_0, q4_1, q4_2, q4_3, q4_4, q4_5, q4_6, q4_7, q4_8⟩ := (LL.out.blk 5 rfl).c9
    go_wp2_with fail
    refine (HZ.out _ _ _ _ _ _ _ _ _ _ _ _ _ _ _ HR1.out HR2.out).mono ?_
    rintro e wk ⟨rfl, hb⟩
    replace LL := stL LL hb
    replace HR1 := Lib.hid (HR1.out.below hb)
    replace HR2 := Lib.hid (HR2.out.below hb)
    replace HR3 := Lib.hid (HR3.out.below hb)
    replace HR4 := Lib.hid (HR4.out.below hb)
    clear hb q3_0 q3_1 q3_2 q3_3 q3_4 q3_5 q3_6 q3_7 q3_8 q4_0 q4_1 q4_2 q4_3 q4_4 q4_5 q4_6 q4_7 q4_8
    obtain ⟨q5_0, q5_1, q5_2, q5_3, q5_4, q5_5, q5_6, q5_7, q5_8⟩ := (LL.out.blk 4 rfl).c9
    obtain ⟨q6_0, q6_1, q6_2, q6_3, q6_4, q6_5, q6_6, q6_7, q6_8⟩ := (LL.out.blk 5 rfl).c9
    go_wp2_with fail
    refine (HS3.out _ _ _ _ _ _ _ _ HR3.out).mono ?_
    rintro e wk ⟨rfl, hb⟩
    replace LL := stL LL hb
    replace HR1 := Lib.hid (HR1.out.below hb)
    replace HR2 := Lib.hid (HR2.out.below hb)
    replace HR3 := Lib.hid (HR3.out.below hb)
    replace HR4 := Lib.hid (HR4.out.below hb)
    clear hb q5_0 q5_1 q5_2 q5_3 q5_4 q5_5 q5_6 q5_7 q5_8 q6_0 q6_1 q6_2 q6_3 q6_4 q6_5 q6_6 q6_7 q6_8
    rcases H2.out with h | ⟨h, h4⟩
    · skip
      obtain ⟨q7_0, q7_1, q7_2, q7_3, q7_4, q7_5, q7_6, q7_7, q7_8⟩ := (LL.out.blk 4 rfl).c9
      obtain ⟨q8_0, q8_1, q8_2, q8_3, q8_4, q8_5, q8_6, q8_7, q8_8⟩ := (LL.out.blk 5 rfl).c9
      go_wp2_with fail
      go_meet
      case rel => exact ⟨rfl, LL.out, HR1.out, HR2.out, HR3.out, HR4.out⟩
    have H4 := Lib.hid h4
    clear h4 H2
    obtain ⟨q7_0, q7_1, q7_2, q7_3, q7_4, q7_5, q7_6, q7_7, q7_8⟩ := (LL.out.blk 4 rfl).c9
    obtain ⟨q8_0, q8_1, q8_2, q8_3, q8_4, q8_5, q8_6, q8_7, q8_8⟩ := (LL.out.blk 5 rfl).c9
    go_wp2_with fail
    refine (HS4.out _ _ _ _ _ _ _ _ HR4.out).mono ?_
    rintro e wk ⟨rfl, hb⟩
    replace LL := stL LL hb
    replace HR1 := Lib.hid (HR1.out.below hb)
    replace HR2 := Lib.hid (HR2.out.below hb)
    replace HR3 := Lib.hid (HR3.out.below hb)
    replace HR4 := Lib.hid (HR4.out.below hb)
    clear hb q7_0 q7_1 q7_2 q7_3 q7_4 q7_5 q7_6 q7_7 q7_8 q8_0 q8_1 q8_2 q8_3 q8_4 q8_5 q8_6 q8_7 q8_8
    have h4 := H4.out
    obtain ⟨q9_0, q9_1, q9_2, q9_3, q9_4, q9_5, q9_6, q9_7, q9_8⟩ := (LL.out.blk 4 rfl).c9
    obtain ⟨q10_0, q10_1, q10_2, q10_3, q10_4, q10_5, q10_6, q10_7, q10_8⟩ := (LL.out.blk 5 rfl).c9
    go_wp2_with fail
    go_meet
    case rel => exact ⟨rfl, LL.out, HR1.out, HR2.out, HR3.out, HR4.out⟩
  case rest =>
  obtain ⟨rfl, hcl, hr1, hr2, hr3, hr4⟩ := hcut
  rename World => wx
  clear LL HR1 HR2 HR3 HR4
  have LL := Lib.hid hcl
  clear hcl
  have HR1 := Lib.hid hr1
  clear hr1
  have HR2 := Lib.hid hr2
  clear hr2
  have HR3 := Lib.hid hr3
  clear hr3
  have HR4 := Lib.hid hr4
  clear hr4
  clear HR1 HR2 HR3 HR4
  go_wp2_with fail
  replace LL := Lib.hid (LL.out.loose 2 rfl rfl)
  simp only [List.eraseIdx, List.size_toArray, List.length_cons, List.length_nil, Nat.zero_add, Nat.reduceAdd] at LL
  replace LL := Lib.hid (LL.out.loose 2 rfl rfl)
  simp only [List.eraseIdx, List.size_toArray, List.length_cons, List.length_nil, Nat.zero_add, Nat.reduceAdd] at LL
  refine regL LL (fun hHeld => ?_)
  clear LL
  obtain ⟨wk, hwk⟩ : ∃ X, (wx).drew = X := ⟨_, rfl⟩
  rw [hwk] at hHeld  ⊢
  clear hwk
  refine tk 0 ?_ (hv := by intro W2 hSw; obtain ⟨q0, q1⟩ := (hSw.blk 0 rfl).c2; go_simp; (try with_reducible rfl))
  try simp only [Act.put, lay]
  refine tk 1 ?_ (hv := by intro W2 hSw; obtain ⟨q0, q1⟩ := (hSw.blk 1 rfl).c2; go_simp; (try with_reducible rfl))
  try simp only [Act.put, lay]
  refine rdy 2 (fun KK hKK => ?_)
  go_simp
  refine (HN.out _).mono ?_
  rintro e wk ⟨rfl, hb1⟩
  go_wp2_with fail
  refine hKK.out _ _ (hHeld.keep hb1) (fun _ => ?_)
  clear hKK KK hHeld
  rename_i hHeld
  try simp only [Act.put, lay]
  clear hb1
  refine rdy 3 (fun KK hKK => ?_)
  go_simp
  refine (HM.out _).mono ?_
  rintro e wk ⟨rfl, hb2⟩
  go_wp2_with fail
  refine hKK.out _ _ (hHeld.keep hb2) (fun _ => ?_)
  clear hKK KK hHeld
  rename_i hHeld
  try simp only [Act.put, lay]
  clear hb2
  refine rdy 4 (fun KK hKK => ?_)
  go_simp
  refine (HE.out _).mono ?_
  rintro e wk ⟨rfl, hb3⟩
  go_wp2_with fail
  refine hKK.out _ _ (hHeld.keep hb3) (fun _ => ?_)
  clear hKK KK hHeld
  rename_i hHeld
  try simp only [Act.put, lay]
  clear hb3
  refine rdy 5 (fun KK hKK => ?_)
  obtain ⟨ha0, hf0, ha1, hf1⟩ := (hHeld.has 1 rfl).sf2
  go_simp
  have HS_1 := (hHeld.has 1 rfl).laid [.int .u64 (r1 : Int), .int .u64 (r2 : Int)] rfl
  refine hKK.out _ _ (hHeld.over 1 rfl [.int .u64 (r1 : Int), .int .u64 (r2 : Int)] rfl rfl (by first | omega | exact hHeld.le_of 1 rfl) (by simp <;> omega) (by simp <;> omega)) (fun _ => ?_)
  clear hKK KK hHeld
  rename_i hHeld
  try simp only [Act.put, lay]
  replace hHeld := (show Lies _ (sets wk (w.heap.size + 2) 0 [.int .u64 (r1 : Int), .int .u64 (r2 : Int)]) _ _ from hHeld)
  obtain ⟨wk, hwn⟩ : ∃ X, sets wk (w.heap.size + 2) 0 [.int .u64 (r1 : Int), .int .u64 (r2 : Int)] = X := ⟨_, rfl⟩
  rw [hwn] at hHeld  HS_1
  simp only [sets] at hwn
  rw [hwn]
  clear hwn
  refine rdy 6 (fun KK hKK => ?_)
  obtain ⟨ha0, hf0, ha1, hf1⟩ := (hHeld.has 0 rfl).sf2
  go_simp
  have HS_0 := (hHeld.has 0 rfl).laid [.int .u64 9218868437227405312, .int .u64 18442240474082181120] rfl
  refine hKK.out _ _ (hHeld.over 0 rfl [.int .u64 9218868437227405312, .int .u64 18442240474082181120] rfl rfl (by first | omega | exact hHeld.le_of 0 rfl) (by simp <;> omega) (by simp <;> omega)) (fun _ => ?_)
  clear hKK KK hHeld
  rename_i hHeld
  try simp only [Act.put, lay]
  replace HS_1 := HS_1.other (r := (w.heap.size + 3)) (by omega) 0 [.int .u64 9218868437227405312, .int .u64 18442240474082181120]
  refine wpAnyH_done (by kernel_rfl) ?_ _
  have LB := Lib.hid hHeld.b
  clear hHeld
  obtain ⟨hk4_0, hk4_1⟩ := HS_1.c2
  clear HS_1
  obtain ⟨hk5_0, hk5_1⟩ := HS_0.c2
  clear HS_0
  simp [sets] at hk4_0 hk4_1 hk5_0 hk5_1
  go_wp2
  refine bodyPost_ret (v := .tuple #[.agg #[.int .u64 (r1 : Int), .int .u64 (r2 : Int)], .agg #[.int .u64 9218868437227405312, .int .u64 18442240474082181120]]) (by simp [results, Tryz.results32, go_sem, hk4_0, hk4_1, hk5_0, hk5_1]) rfl ?_
  exact ⟨rfl, LB.out⟩
set_option maxRecDepth 8000 in
theorem refpair_split (b1 b2 f1 f2 u1 u2 l1 l2 r1 r2 r3 r4 : Nat) (s1 s2 s3 s4 s5 s6 : Int) (x1 x2 x3 x4 x5 x6 : Rat) (K : Nat) (a1 a3 a4 : Int) (po qo ro : Bool) (y1 y2 y3 y4 y5 y6 : Int) (v1 v2 v3 v4 v5 v6 : Rat) (p1 p2 p3 p4 p5 p6 : Bool) (w : World) (hO1 : ∀ W, Calls Tryz.prog 57 #[.agg #[.int .u64 (f1 : Int), .int .u64 (f2 : Int)]] W (NewSet W 34 false s1 x1 s2 x2)) (hO2 : ∀ W, Calls Tryz.prog 57 #[.agg #[.int .u64 (b1 : Int), .int .u64 (b2 : Int)]] W (NewSet W 34 false s3 x3 s4 x4))
    (hZ : ∀ W (g1 : Bool) (A1 : Option Addr) (n1 c1 : Nat) (B1 : Option Addr) (m1 d1 : Nat) (g2 : Bool) (A2 : Option Addr) (n2 c2 : Nat) (B2 : Option Addr) (m2 d2 : Nat), RatV W 34 g1 (.slice A1 n1 c1) (.slice B1 m1 d1) x1 → RatV W 34 g2 (.slice A2 n2 c2) (.slice B2 m2 d2) x2 → Calls Tryz.prog 85 #[.agg #[.bool false, .int .i64 s1, .bool g1, .slice A1 n1 c1, .slice B1 m1 d1, .int .i64 s2, .bool g2, .slice A2 n2 c2, .slice B2 m2 d2]] W fun e w' => e = .returned (.bool false) ∧ Below W.heap.size W w') (hS3 : ∀ W (g3 : Bool) (A3 : Option Addr) (n3 c3 : Nat) (B3 : Option Addr) (m3 d3 : Nat), RatV W 34 g3 (.slice A3 n3 c3) (.slice B3 m3 d3) x3 → Calls Tryz.prog 86 #[.agg #[.int .i64 s3, .bool g3, .slice A3 n3 c3, .slice B3 m3 d3]] W fun e w' => e = .returned (.int .i64 a3) ∧ Below W.heap.size W w') (h3 : decide (a3 < 0) = true) (hS4 : ∀ W (g4 : Bool) (A4 : Option Addr) (n4 c4 : Nat) (B4 : Option Addr) (m4 d4 : Nat), RatV W 34 g4 (.slice A4 n4 c4) (.slice B4 m4 d4) x4 → Calls Tryz.prog 86 #[.agg #[.int .i64 s4, .bool g4, .slice A4 n4 c4, .slice B4 m4 d4]] W fun e w' => e = .returned (.int .i64 a4) ∧ Below W.heap.size W w') (h4 : decide (0 < a4) = true) (hS1 : ∀ W (g1 : Bool) (A1 : Option Addr) (n1 c1 : Nat) (B1 : Option Addr) (m1 d1 : Nat), RatV W 34 g1 (.slice A1 n1 c1) (.slice B1 m1 d1) x1 → Calls Tryz.prog 86 #[.agg #[.int .i64 s1, .bool g1, .slice A1 n1 c1, .slice B1 m1 d1]] W fun e w' => e = .returned (.int .i64 a1) ∧ Below W.heap.size W w')
    (h1 : (0 < a1 ∧ r1 = l1 ∧ r2 = l2 ∧ r3 = u1 ∧ r4 = u2) ∨ (¬ 0 < a1 ∧ r1 = u1 ∧ r2 = u2 ∧ r3 = l1 ∧ r4 = l2))
    (hQ1 : ∀ W (g1 : Bool) (A1 : Option Addr) (n1 c1 : Nat) (B1 : Option Addr) (m1 d1 : Nat) (g2 : Bool) (A2 : Option Addr) (n2 c2 : Nat) (B2 : Option Addr) (m2 d2 : Nat) (g3 : Bool) (A3 : Option Addr) (n3 c3 : Nat) (B3 : Option Addr) (m3 d3 : Nat) (g4 : Bool) (A4 : Option Addr) (n4 c4 : Nat) (B4 : Option Addr) (m4 d4 : Nat), RatV W 34 g1 (.slice A1 n1 c1) (.slice B1 m1 d1) x1 → RatV W 34 g2 (.slice A2 n2 c2) (.slice B2 m2 d2) x2 → RatV W 34 g3 (.slice A3 n3 c3) (.slice B3 m3 d3) x3 → RatV W 34 g4 (.slice A4 n4 c4) (.slice B4 m4 d4) x4 → Calls Tryz.prog 87 #[.agg #[.bool false, .int .i64 s1, .bool g1, .slice A1 n1 c1, .slice B1 m1 d1, .int .i64 s2, .bool g2, .slice A2 n2 c2, .slice B2 m2 d2], .agg #[.bool false, .int .i64 s3, .bool g3, .slice A3 n3 c3, .slice B3 m3 d3, .int .i64 s4, .bool g4, .slice A4 n4 c4, .slice B4 m4 d4]] W (NewPiece W K po y1 v1 1 p1 y2 v2 1 p2))
    (hMI : ∀ W (g3 : Bool) (A3 : Option Addr) (n3 c3 : Nat) (B3 : Option Addr) (m3 d3 : Nat) (g4 : Bool) (A4 : Option Addr) (n4 c4 : Nat) (B4 : Option Addr) (m4 d4 : Nat), RatV W 34 g3 (.slice A3 n3 c3) (.slice B3 m3 d3) x3 → RatV W 34 g4 (.slice A4 n4 c4) (.slice B4 m4 d4) x4 → Calls Tryz.prog 58 #[.agg #[.bool false, .int .i64 s3, .bool g3, .slice A3 n3 c3, .slice B3 m3 d3, .int .i64 s4, .bool g4, .slice A4 n4 c4, .slice B4 m4 d4]] W (NewSet W 34 false s5 x5 s6 x6))
    (hQ2 : ∀ W (g1 : Bool) (A1 : Option Addr) (n1 c1 : Nat) (B1 : Option Addr) (m1 d1 : Nat) (g2 : Bool) (A2 : Option Addr) (n2 c2 : Nat) (B2 : Option Addr) (m2 d2 : Nat) (g5 : Bool) (A5 : Option Addr) (n5 c5 : Nat) (B5 : Option Addr) (m5 d5 : Nat) (g6 : Bool) (A6 : Option Addr) (n6 c6 : Nat) (B6 : Option Addr) (m6 d6 : Nat), RatV W 34 g1 (.slice A1 n1 c1) (.slice B1 m1 d1) x1 → RatV W 34 g2 (.slice A2 n2 c2) (.slice B2 m2 d2) x2 → RatV W 34 g5 (.slice A5 n5 c5) (.slice B5 m5 d5) x5 → RatV W 34 g6 (.slice A6 n6 c6) (.slice B6 m6 d6) x6 → Calls Tryz.prog 87 #[.agg #[.bool false, .int .i64 s1, .bool g1, .slice A1 n1 c1, .slice B1 m1 d1, .int .i64 s2, .bool g2, .slice A2 n2 c2, .slice B2 m2 d2], .agg #[.bool false, .int .i64 s5, .bool g5, .slice A5 n5 c5, .slice B5 m5 d5, .int .i64 s6, .bool g6, .slice A6 n6 c6, .slice B6 m6 d6]] W (NewPiece W K qo y3 v3 1 p3 y4 v4 1 p4))
    (hMP : ∀ W (g3 : Bool) (A3 : Option Addr) (n3 c3 : Nat) (B3 : Option Addr) (m3 d3 : Nat) (g4 : Bool) (A4 : Option Addr) (n4 c4 : Nat) (B4 : Option Addr) (m4 d4 : Nat), RatV W K g3 (.slice A3 n3 c3) (.slice B3 m3 d3) v3 → RatV W K g4 (.slice A4 n4 c4) (.slice B4 m4 d4) v4 → Calls Tryz.prog 77 #[.agg #[.bool qo, .int .i64 y3, .bool g3, .slice A3 n3 c3, .slice B3 m3 d3, .int .i64 1, .bool p3, .int .i64 y4, .bool g4, .slice A4 n4 c4, .slice B4 m4 d4, .int .i64 1, .bool p4]] W (NewPiece W K ro y5 v5 1 p5 y6 v6 1 p6))
    (hW1 : ∀ W (g1 : Bool) (A1 : Option Addr) (n1 c1 : Nat) (B1 : Option Addr) (m1 d1 : Nat) (g2 : Bool) (A2 : Option Addr) (n2 c2 : Nat) (B2 : Option Addr) (m2 d2 : Nat), RatV W K g1 (.slice A1 n1 c1) (.slice B1 m1 d1) v1 → RatV W K g2 (.slice A2 n2 c2) (.slice B2 m2 d2) v2 → Calls Tryz.prog 88 #[.agg #[.int .u64 18442240474082181120, .int .u64 9218868437227405312], .agg #[.bool po, .int .i64 y1, .bool g1, .slice A1 n1 c1, .slice B1 m1 d1, .int .i64 1, .bool p1, .int .i64 y2, .bool g2, .slice A2 n2 c2, .slice B2 m2 d2, .int .i64 1, .bool p2]] W fun e w' => e = .returned (.agg #[.int .u64 (u1 : Int), .int .u64 (u2 : Int)]) ∧ Below W.heap.size W w') (hW2 : ∀ W (g5 : Bool) (A5 : Option Addr) (n5 c5 : Nat) (B5 : Option Addr) (m5 d5 : Nat) (g6 : Bool) (A6 : Option Addr) (n6 c6 : Nat) (B6 : Option Addr) (m6 d6 : Nat), RatV W K g5 (.slice A5 n5 c5) (.slice B5 m5 d5) v5 → RatV W K g6 (.slice A6 n6 c6) (.slice B6 m6 d6) v6 → Calls Tryz.prog 88 #[.agg #[.int .u64 18442240474082181120, .int .u64 9218868437227405312], .agg #[.bool ro, .int .i64 y5, .bool g5, .slice A5 n5 c5, .slice B5 m5 d5, .int .i64 1, .bool p5, .int .i64 y6, .bool g6, .slice A6 n6 c6, .slice B6 m6 d6, .int .i64 1, .bool p6]] W fun e w' => e = .returned (.agg #[.int .u64 (l1 : Int), .int .u64 (l2 : Int)]) ∧ Below W.heap.size W w') :
    Calls Tryz.prog 32 #[.agg #[.int .u64 (b1 : Int), .int .u64 (b2 : Int)], .agg #[.int .u64 (f1 : Int), .int .u64 (f2 : Int)]] w fun e w' => e = .returned (.tuple #[.agg #[.int .u64 (r1 : Int), .int .u64 (r2 : Int)], .agg #[.int .u64 (r3 : Int), .int .u64 (r4 : Int)]]) ∧ Below w.heap.size w w' := by
  have HO1 := Lib.hid hO1
  have HO2 := Lib.hid hO2
  have HZ := Lib.hid hZ
  have HS3 := Lib.hid hS3
  have H3 := Lib.hid h3
  have HS4 := Lib.hid hS4
  have H4 := Lib.hid h4
  have HS1 := Lib.hid hS1
  have H1 := Lib.hid h1
  have HQ1 := Lib.hid hQ1
  have HMI := Lib.hid hMI
  have HQ2 := Lib.hid hQ2
  have HMP := Lib.hid hMP
  have HW1 := Lib.hid hW1
  have HW2 := Lib.hid hW2
  have HN := Lib.hid entire6
  clear hO1 hO2 hZ hS3 h3 hS4 h4 hS1 h1 hQ1 hMI hQ2 hMP hW1 hW2
  have LL := li4 w #[.int .u64 (b1 : Int), .int .u64 (b2 : Int)] 24 #[.int .u64 (f1 : Int), .int .u64 (f2 : Int)] 24 #[.int .u64 0, .int .u64 0] 24 #[.int .u64 0, .int .u64 0] 24
  go_enter Tryz.func32, Tryz.ntmps32
  obtain ⟨q1_0, q1_1⟩ := (LL.out.blk 1 rfl).c2
  go_wp2_with fail
  refine (HO1.out _).mono ?_
  rintro e wk ⟨g1, A1, n1, c1, B1, m1, d1, g2, A2, n2, c2, B2, m2, d2, rfl, hr1, hr2, hb⟩
  replace LL := stL LL hb
  clear hb q1_0 q1_1
  have HR1 := Lib.hid hr1
  clear hr1
  have HR2 := Lib.hid hr2
  clear hr2
  go_upto_region 2 with fail
  obtain ⟨j6, hg, hb_j6, hl_j6, hr_j6, -⟩ := LL.out.fresh 69 #[.bool false, .int .i64 s1, .bool g1, .slice A1 n1 c1, .slice B1 m1 d1, .int .i64 s2, .bool g2, .slice A2 n2 c2, .slice B2 m2 d2]
  simp only [List.mem_cons, List.not_mem_nil, or_false, forall_eq_or_imp, forall_eq, false_imp_iff, implies_true] at hl_j6 hr_j6
  replace LL := Lib.hid (LL.out.new 69 #[.bool false, .int .i64 s1, .bool g1, .slice A1 n1 c1, .slice B1 m1 d1, .int .i64 s2, .bool g2, .slice A2 n2 c2, .slice B2 m2 d2])
  simp only [List.cons_append, List.nil_append] at LL
  replace HR1 := Lib.hid (HR1.out.below (below_alloc _ (.cells #[.bool false, .int .i64 s1, .bool g1, .slice A1 n1 c1, .slice B1 m1 d1, .int .i64 s2, .bool g2, .slice A2 n2 c2, .slice B2 m2 d2] 69)))
  replace HR2 := Lib.hid (HR2.out.below (below_alloc _ (.cells #[.bool false, .int .i64 s1, .bool g1, .slice A1 n1 c1, .slice B1 m1 d1, .int .i64 s2, .bool g2, .slice A2 n2 c2, .slice B2 m2 d2] 69)))
  rw [hg] at LL ⊢
  clear hg
  obtain ⟨wn, hwn⟩ : ∃ X, wk.alloc (.cells #[.bool false, .int .i64 s1, .bool g1, .slice A1 n1 c1, .slice B1 m1 d1, .int .i64 s2, .bool g2, .slice A2 n2 c2, .slice B2 m2 d2] 69) = X := ⟨_, rfl⟩
  rw [hwn] at LL HR1 HR2 ⊢
  clear hwn
  obtain ⟨q2_0, q2_1⟩ := (LL.out.blk 0 rfl).c2
  go_wp2_with fail
  refine (HO2.out _).mono ?_
  rintro e wk ⟨g3, A3, n3, c3, B3, m3, d3, g4, A4, n4, c4, B4, m4, d4, rfl, hr3, hr4, hb⟩
  replace LL := stL LL hb
  replace HR1 := Lib.hid (HR1.out.below hb)
  replace HR2 := Lib.hid (HR2.out.below hb)
  clear hb q2_0 q2_1
  have HR3 := Lib.hid hr3
  clear hr3
  have HR4 := Lib.hid hr4
  clear hr4
  go_upto_region 3 with fail
  obtain ⟨j7, hg, hb_j7, hl_j7, hr_j7, -⟩ := LL.out.fresh 69 #[.bool false, .int .i64 s3, .bool g3, .slice A3 n3 c3, .slice B3 m3 d3, .int .i64 s4, .bool g4, .slice A4 n4 c4, .slice B4 m4 d4]
  simp only [List.mem_cons, List.not_mem_nil, or_false, forall_eq_or_imp, forall_eq, false_imp_iff, implies_true] at hl_j7 hr_j7
  replace LL := Lib.hid (LL.out.new 69 #[.bool false, .int .i64 s3, .bool g3, .slice A3 n3 c3, .slice B3 m3 d3, .int .i64 s4, .bool g4, .slice A4 n4 c4, .slice B4 m4 d4])
  simp only [List.cons_append, List.nil_append] at LL
  replace HR1 := Lib.hid (HR1.out.below (below_alloc _ (.cells #[.bool false, .int .i64 s3, .bool g3, .slice A3 n3 c3, .slice B3 m3 d3, .int .i64 s4, .bool g4, .slice A4 n4 c4, .slice B4 m4 d4] 69)))
  replace HR2 := Lib.hid (HR2.out.below (below_alloc _ (.cells #[.bool false, .int .i64 s3, .bool g3, .slice A3 n3 c3, .slice B3 m3 d3, .int .i64 s4, .bool g4, .slice A4 n4 c4, .slice B4 m4 d4] 69)))
  replace HR3 := Lib.hid (HR3.out.below (below_alloc _ (.cells #[.bool false, .int .i64 s3, .bool g3, .slice A3 n3 c3, .slice B3 m3 d3, .int .i64 s4, .bool g4, .slice A4 n4 c4, .slice B4 m4 d4] 69)))
  replace HR4 := Lib.hid (HR4.out.below (below_alloc _ (.cells #[.bool false, .int .i64 s3, .bool g3, .slice A3 n3 c3, .slice B3 m3 d3, .int .i64 s4, .bool g4, .slice A4 n4 c4, .slice B4 m4 d4] 69)))
  rw [hg] at LL ⊢
  clear hg
  obtain ⟨wn, hwn⟩ : ∃ X, wk.alloc (.cells #[.bool false, .int .i64 s3, .bool g3, .slice A3 n3 c3, .slice B3 m3 d3, .int .i64 s4, .bool g4, .slice A4 n4 c4, .slice B4 m4 d4] 69) = X := ⟨_, rfl⟩
  rw [hwn] at LL HR1 HR2 HR3 HR4 ⊢
  clear hwn
  go_cut [38] (fun s38 wx => s38 = .bool true ∧ Lies w wx [(w.heap.size, 24, #[.int .u64 (b1 : Int), .int .u64 (b2 : Int)]), ((w.heap.size + 1), 24, #[.int .u64 (f1 : Int), .int .u64 (f2 : Int)]), ((w.heap.size + 2), 24, #[.int .u64 0, .int .u64 0]), ((w.heap.size + 3), 24, #[.int .u64 0, .int .u64 0]), (j6, 69, #[.bool false, .int .i64 s1, .bool g1, .slice A1 n1 c1, .slice B1 m1 d1, .int .i64 s2, .bool g2, .slice A2 n2 c2, .slice B2 m2 d2]), (j7, 69, #[.bool false, .int .i64 s3, .bool g3, .slice A3 n3 c3, .slice B3 m3 d3, .int .i64 s4, .bool g4, .slice A4 n4 c4, .slice B4 m4 d4])] [] ∧ RatV wx 34 g1 (.slice A1 n1 c1) (.slice B1 m1 d1) x1 ∧ RatV wx 34 g2 (.slice A2 n2 c2) (.slice B2 m2 d2) x2 ∧ RatV wx 34 g3 (.slice A3 n3 c3) (.slice B3 m3 d3) x3 ∧ RatV wx 34 g4 (.slice A4 n4 c4) (.slice B4 m4 d4) x4)
  case first =>
    obtain ⟨q3_0, q3_1, q3_2, q3_3, q3_4, q3_5, q3_6, q3_7, q3_8⟩ := (LL.out.blk 4 rfl).c9
    obtain ⟨q4_0, q4_1, q4_2, q4_3, q4_4, q4_5, q4_6, q4_7, q4_8⟩ := (LL.out.blk 5 rfl).c9
    go_wp2_with fail
    refine (HZ.out _ _ _ _ _ _ _ _ _ _ _ _ _ _ _ HR1.out HR2.out).mono ?_
    rintro e wk ⟨rfl, hb⟩
    replace LL := stL LL hb
    replace HR1 := Lib.hid (HR1.out.below hb)
    replace HR2 := Lib.hid (HR2.out.below hb)
    replace HR3 := Lib.hid (HR3.out.below hb)
    replace HR4 := Lib.hid (HR4.out.below hb)
    clear hb q3_0 q3_1 q3_2 q3_3 q3_4 q3_5 q3_6 q3_7 q3_8 q4_0 q4_1 q4_2 q4_3 q4_4 q4_5 q4_6 q4_7 q4_8
    obtain ⟨q5_0, q5_1, q5_2, q5_3, q5_4, q5_5, q5_6, q5_7, q5_8⟩ := (LL.out.blk 4 rfl).c9
    obtain ⟨q6_0, q6_1, q6_2, q6_3, q6_4, q6_5, q6_6, q6_7, q6_8⟩ := (LL.out.blk 5 rfl).c9
    go_wp2_with fail
    refine (HS3.out _ _ _ _ _ _ _ _ HR3.out).mono ?_
    rintro e wk ⟨rfl, hb⟩
    replace LL := stL LL hb
    replace HR1 := Lib.hid (HR1.out.below hb)
    replace HR2 := Lib.hid (HR2.out.below hb)
    replace HR3 := Lib.hid (HR3.out.below hb)
    replace HR4 := Lib.hid (HR4.out.below hb)
    clear hb q5_0 q5_1 q5_2 q5_3 q5_4 q5_5 q5_6 q5_7 q5_8 q6_0 q6_1 q6_2 q6_3 q6_4 q6_5 q6_6 q6_7 q6_8
    have h3 := H3.out
    obtain ⟨q7_0, q7_1, q7_2, q7_3, q7_4, q7_5, q7_6, q7_7, q7_8⟩ := (LL.out.blk 4 rfl).c9
    obtain ⟨q8_0, q8_1, q8_2, q8_3, q8_4, q8_5, q8_6, q8_7, q8_8⟩ := (LL.out.blk 5 rfl).c9
    go_wp2_with fail
    refine (HS4.out _ _ _ _ _ _ _ _ HR4.out).mono ?_
    rintro e wk ⟨rfl, hb⟩
    replace LL := stL LL hb
    replace HR1 := Lib.hid (HR1.out.below hb)
    replace HR2 := Lib.hid (HR2.out.below hb)
    replace HR3 := Lib.hid (HR3.out.below hb)
    replace HR4 := Lib.hid (HR4.out.below hb)
    clear hb q7_0 q7_1 q7_2 q7_3 q7_4 q7_5 q7_6 q7_7 q7_8 q8_0 q8_1 q8_2 q8_3 q8_4 q8_5 q8_6 q8_7 q8_8
    have h4 := H4.out
    obtain ⟨q9_0, q9_1, q9_2, q9_3, q9_4, q9_5, q9_6, q9_7, q9_8⟩ := (LL.out.blk 4 rfl).c9
    obtain ⟨q10_0, q10_1, q10_2, q10_3, q10_4, q10_5, q10_6, q10_7, q10_8⟩ := (LL.out.blk 5 rfl).c9
    go_wp2_with fail
    go_meet
    case rel => exact ⟨rfl, LL.out, HR1.out, HR2.out, HR3.out, HR4.out⟩
  case rest =>
  obtain ⟨rfl, hcl, hr1, hr2, hr3, hr4⟩ := hcut
  rename World => wx
  clear LL HR1 HR2 HR3 HR4
  have LL := Lib.hid hcl
  clear hcl
  have HR1 := Lib.hid hr1
  clear hr1
  have HR2 := Lib.hid hr2
  clear hr2
  have HR3 := Lib.hid hr3
  clear hr3
  have HR4 := Lib.hid hr4
  clear hr4
  clear HZ HS3 H3 HS4 H4 HO1 HO2
  obtain ⟨q3_0, q3_1, q3_2, q3_3, q3_4, q3_5, q3_6, q3_7, q3_8⟩ := (LL.out.blk 4 rfl).c9
  obtain ⟨q4_0, q4_1, q4_2, q4_3, q4_4, q4_5, q4_6, q4_7, q4_8⟩ := (LL.out.blk 5 rfl).c9
  go_wp2_with fail
  refine (HQ1.out _ _ _ _ _ _ _ _ _ _ _ _ _ _ _ _ _ _ _ _ _ _ _ _ _ _ _ _ _ HR1.out HR2.out HR3.out HR4.out).mono ?_
  rintro e wk ⟨g7, A7, n7, c7, B7, m7, d7, g8, A8, n8, c8, B8, m8, d8, rfl, hp1, hp2, hb⟩
  replace LL := stL LL hb
  replace HR1 := Lib.hid (HR1.out.below hb)
  replace HR2 := Lib.hid (HR2.out.below hb)
  replace HR3 := Lib.hid (HR3.out.below hb)
  replace HR4 := Lib.hid (HR4.out.below hb)
  clear hb q3_0 q3_1 q3_2 q3_3 q3_4 q3_5 q3_6 q3_7 q3_8 q4_0 q4_1 q4_2 q4_3 q4_4 q4_5 q4_6 q4_7 q4_8
  have HP1 := Lib.hid hp1
  clear hp1
  have HP2 := Lib.hid hp2
  clear hp2
  go_upto_region 5 with fail
  obtain ⟨j8, hg, hb_j8, hl_j8, hr_j8, -⟩ := LL.out.fresh 64 #[.bool po, .int .i64 y1, .bool g7, .slice A7 n7 c7, .slice B7 m7 d7, .int .i64 1, .bool p1, .int .i64 y2, .bool g8, .slice A8 n8 c8, .slice B8 m8 d8, .int .i64 1, .bool p2]
  simp only [List.mem_cons, List.not_mem_nil, or_false, forall_eq_or_imp, forall_eq, false_imp_iff, implies_true] at hl_j8 hr_j8
  replace LL := Lib.hid (LL.out.new 64 #[.bool po, .int .i64 y1, .bool g7, .slice A7 n7 c7, .slice B7 m7 d7, .int .i64 1, .bool p1, .int .i64 y2, .bool g8, .slice A8 n8 c8, .slice B8 m8 d8, .int .i64 1, .bool p2])
  simp only [List.cons_append, List.nil_append] at LL
  replace HR1 := Lib.hid (HR1.out.below (below_alloc _ (.cells #[.bool po, .int .i64 y1, .bool g7, .slice A7 n7 c7, .slice B7 m7 d7, .int .i64 1, .bool p1, .int .i64 y2, .bool g8, .slice A8 n8 c8, .slice B8 m8 d8, .int .i64 1, .bool p2] 64)))
  replace HR2 := Lib.hid (HR2.out.below (below_alloc _ (.cells #[.bool po, .int .i64 y1, .bool g7, .slice A7 n7 c7, .slice B7 m7 d7, .int .i64 1, .bool p1, .int .i64 y2, .bool g8, .slice A8 n8 c8, .slice B8 m8 d8, .int .i64 1, .bool p2] 64)))
  replace HR3 := Lib.hid (HR3.out.below (below_alloc _ (.cells #[.bool po, .int .i64 y1, .bool g7, .slice A7 n7 c7, .slice B7 m7 d7, .int .i64 1, .bool p1, .int .i64 y2, .bool g8, .slice A8 n8 c8, .slice B8 m8 d8, .int .i64 1, .bool p2] 64)))
  replace HR4 := Lib.hid (HR4.out.below (below_alloc _ (.cells #[.bool po, .int .i64 y1, .bool g7, .slice A7 n7 c7, .slice B7 m7 d7, .int .i64 1, .bool p1, .int .i64 y2, .bool g8, .slice A8 n8 c8, .slice B8 m8 d8, .int .i64 1, .bool p2] 64)))
  replace HP1 := Lib.hid (HP1.out.below (below_alloc _ (.cells #[.bool po, .int .i64 y1, .bool g7, .slice A7 n7 c7, .slice B7 m7 d7, .int .i64 1, .bool p1, .int .i64 y2, .bool g8, .slice A8 n8 c8, .slice B8 m8 d8, .int .i64 1, .bool p2] 64)))
  replace HP2 := Lib.hid (HP2.out.below (below_alloc _ (.cells #[.bool po, .int .i64 y1, .bool g7, .slice A7 n7 c7, .slice B7 m7 d7, .int .i64 1, .bool p1, .int .i64 y2, .bool g8, .slice A8 n8 c8, .slice B8 m8 d8, .int .i64 1, .bool p2] 64)))
  rw [hg] at LL ⊢
  clear hg
  obtain ⟨wn, hwn⟩ : ∃ X, wk.alloc (.cells #[.bool po, .int .i64 y1, .bool g7, .slice A7 n7 c7, .slice B7 m7 d7, .int .i64 1, .bool p1, .int .i64 y2, .bool g8, .slice A8 n8 c8, .slice B8 m8 d8, .int .i64 1, .bool p2] 64) = X := ⟨_, rfl⟩
  rw [hwn] at LL HR1 HR2 HR3 HR4 HP1 HP2 ⊢
  clear hwn
  go_cut [9] (fun s9 wx => ∃ (j9 : Nat) (g9 : Bool) (A9 : Option Addr) (n9 c9 : Nat) (B9 : Option Addr) (m9 d9 : Nat) (g10 : Bool) (A10 : Option Addr) (n10 c10 : Nat) (B10 : Option Addr) (m10 d10 : Nat), s9 = .pointer (some ⟨j9, 0, none⟩) ∧ (w.heap.size + 3 < j9 ∧ j6 < j9 ∧ j7 < j9 ∧ j8 < j9) ∧ Lies w wx [(w.heap.size, 24, #[.int .u64 (b1 : Int), .int .u64 (b2 : Int)]), ((w.heap.size + 1), 24, #[.int .u64 (f1 : Int), .int .u64 (f2 : Int)]), ((w.heap.size + 2), 24, #[.int .u64 0, .int .u64 0]), ((w.heap.size + 3), 24, #[.int .u64 0, .int .u64 0]), (j6, 69, #[.bool false, .int .i64 s1, .bool g1, .slice A1 n1 c1, .slice B1 m1 d1, .int .i64 s2, .bool g2, .slice A2 n2 c2, .slice B2 m2 d2]), (j7, 69, #[.bool false, .int .i64 s3, .bool g3, .slice A3 n3 c3, .slice B3 m3 d3, .int .i64 s4, .bool g4, .slice A4 n4 c4, .slice B4 m4 d4]), (j8, 64, #[.bool po, .int .i64 y1, .bool g7, .slice A7 n7 c7, .slice B7 m7 d7, .int .i64 1, .bool p1, .int .i64 y2, .bool g8, .slice A8 n8 c8, .slice B8 m8 d8, .int .i64 1, .bool p2]), (j9, 64, #[.bool ro, .int .i64 y5, .bool g9, .slice A9 n9 c9, .slice B9 m9 d9, .int .i64 1, .bool p5, .int .i64 y6, .bool g10, .slice A10 n10 c10, .slice B10 m10 d10, .int .i64 1, .bool p6])] [] ∧ RatV wx 34 g1 (.slice A1 n1 c1) (.slice B1 m1 d1) x1 ∧ RatV wx K g7 (.slice A7 n7 c7) (.slice B7 m7 d7) v1 ∧ RatV wx K g8 (.slice A8 n8 c8) (.slice B8 m8 d8) v2 ∧ RatV wx K g9 (.slice A9 n9 c9) (.slice B9 m9 d9) v5 ∧ RatV wx K g10 (.slice A10 n10 c10) (.slice B10 m10 d10) v6)
  case first =>
    refine regL LL (fun hHeld => ?_)
    clear LL
    obtain ⟨wk, hwk⟩ : ∃ X, (wn).drew = X := ⟨_, rfl⟩
    replace HR1 := Lib.hid (HR1.out.below (Below.refl _ _).drew)
    replace HR2 := Lib.hid (HR2.out.below (Below.refl _ _).drew)
    replace HR3 := Lib.hid (HR3.out.below (Below.refl _ _).drew)
    replace HR4 := Lib.hid (HR4.out.below (Below.refl _ _).drew)
    replace HP1 := Lib.hid (HP1.out.below (Below.refl _ _).drew)
    replace HP2 := Lib.hid (HP2.out.below (Below.refl _ _).drew)
    rw [hwk] at hHeld HR1 HR2 HR3 HR4 HP1 HP2 ⊢
    clear hwk
    refine tk 0 ?_ (hv := by intro W2 hSw; obtain ⟨q0, q1, q2, q3, q4, q5, q6, q7, q8⟩ := (hSw.blk 4 rfl).c9; go_simp; (try with_reducible rfl))
    try simp only [Act.put, lay]
    refine tk 1 ?_ (hv := by intro W2 hSw; obtain ⟨q0, q1, q2, q3, q4, q5, q6, q7, q8⟩ := (hSw.blk 5 rfl).c9; go_simp; (try with_reducible rfl))
    try simp only [Act.put, lay]
    repeat' first
      | (have hx := hC2; clear hx; go_simp; refine (HMI.out _ _ _ _ _ _ _ _ _ _ _ _ _ _ _ HR3.out HR4.out).mono ?_; rintro e wk ⟨g5, A5, n5, c5, B5, m5, d5, g6, A6, n6, c6, B6, m6, d6, rfl, ht5, ht6, hb1⟩; go_wp2_with fail; refine hC2.out _ _ (hHeld.keep hb1) (fun _ => ?_); clear hC2 KK hHeld; rename_i hHeld; (try simp only [Act.put, lay]); replace HR1 := Lib.hid (HR1.out.below hb1); replace HR2 := Lib.hid (HR2.out.below hb1); replace HR3 := Lib.hid (HR3.out.below hb1); replace HR4 := Lib.hid (HR4.out.below hb1); replace HP1 := Lib.hid (HP1.out.below hb1); replace HP2 := Lib.hid (HP2.out.below hb1); (try replace HT11 := Lib.hid (HT11.out.below hb1)); (try replace HT12 := Lib.hid (HT12.out.below hb1)); (try replace HT9 := Lib.hid (HT9.out.below hb1)); (try replace HT10 := Lib.hid (HT10.out.below hb1)); (try replace B_j9 := B_j9.keep hb1); have HT5 := Lib.hid ht5; clear ht5; have HT6 := Lib.hid ht6; clear ht6; clear hb1; have mk2 := True.intro)
      | (have hx := hC3; clear hx; go_simp; refine (HQ2.out _ _ _ _ _ _ _ _ _ _ _ _ _ _ _ _ _ _ _ _ _ _ _ _ _ _ _ _ _ HR1.out HR2.out HT5.out HT6.out).mono ?_; rintro e wk ⟨g11, A11, n11, c11, B11, m11, d11, g12, A12, n12, c12, B12, m12, d12, rfl, ht11, ht12, hb2⟩; go_wp2_with fail; refine hC3.out _ _ (hHeld.keep hb2) (fun _ => ?_); clear hC3 KK hHeld; rename_i hHeld; (try simp only [Act.put, lay]); replace HR1 := Lib.hid (HR1.out.below hb2); replace HR2 := Lib.hid (HR2.out.below hb2); replace HR3 := Lib.hid (HR3.out.below hb2); replace HR4 := Lib.hid (HR4.out.below hb2); replace HP1 := Lib.hid (HP1.out.below hb2); replace HP2 := Lib.hid (HP2.out.below hb2); (try replace HT5 := Lib.hid (HT5.out.below hb2)); (try replace HT6 := Lib.hid (HT6.out.below hb2)); (try replace HT9 := Lib.hid (HT9.out.below hb2)); (try replace HT10 := Lib.hid (HT10.out.below hb2)); (try replace B_j9 := B_j9.keep hb2); have HT11 := Lib.hid ht11; clear ht11; have HT12 := Lib.hid ht12; clear ht12; clear hb2; have mk3 := True.intro)
      | (have hx := hC4; clear hx; go_simp; refine (HMP.out _ _ _ _ _ _ _ _ _ _ _ _ _ _ _ HT11.out HT12.out).mono ?_; rintro e wk ⟨g9, A9, n9, c9, B9, m9, d9, g10, A10, n10, c10, B10, m10, d10, rfl, ht9, ht10, hb3⟩; go_wp2_with fail; refine hC4.out _ _ (hHeld.keep hb3) (fun _ => ?_); clear hC4 KK hHeld; rename_i hHeld; (try simp only [Act.put, lay]); replace HR1 := Lib.hid (HR1.out.below hb3); replace HR2 := Lib.hid (HR2.out.below hb3); replace HR3 := Lib.hid (HR3.out.below hb3); replace HR4 := Lib.hid (HR4.out.below hb3); replace HP1 := Lib.hid (HP1.out.below hb3); replace HP2 := Lib.hid (HP2.out.below hb3); (try replace HT5 := Lib.hid (HT5.out.below hb3)); (try replace HT6 := Lib.hid (HT6.out.below hb3)); (try replace HT11 := Lib.hid (HT11.out.below hb3)); (try replace HT12 := Lib.hid (HT12.out.below hb3)); (try replace B_j9 := B_j9.keep hb3); have HT9 := Lib.hid ht9; clear ht9; have HT10 := Lib.hid ht10; clear ht10; clear hb3; have mk4 := True.intro)
      | (have hx := hA5; clear hx; go_simp; obtain ⟨j9, hg, hb_j9, hl_j9, hr_j9, B_j9⟩ := hHeld.fresh 64 #[.bool false, .int .i64 0, .bool false, .slice none 0 0, .slice none 0 0, .int .i64 0, .bool false, .int .i64 0, .bool false, .slice none 0 0, .slice none 0 0, .int .i64 0, .bool false]; refine hA5.out _ _ (hHeld.alloc _) (fun _ => ?_); clear hA5 KK hHeld; rename_i hHeld; (try simp only [Act.put, lay]); (try simp only [List.mem_cons, List.not_mem_nil, or_false, forall_eq_or_imp, forall_eq, false_imp_iff, implies_true] at hl_j9 hr_j9); replace HR1 := Lib.hid (HR1.out.below (below_alloc _ (.cells #[.bool false, .int .i64 0, .bool false, .slice none 0 0, .slice none 0 0, .int .i64 0, .bool false, .int .i64 0, .bool false, .slice none 0 0, .slice none 0 0, .int .i64 0, .bool false] 64))); replace HR2 := Lib.hid (HR2.out.below (below_alloc _ (.cells #[.bool false, .int .i64 0, .bool false, .slice none 0 0, .slice none 0 0, .int .i64 0, .bool false, .int .i64 0, .bool false, .slice none 0 0, .slice none 0 0, .int .i64 0, .bool false] 64))); replace HR3 := Lib.hid (HR3.out.below (below_alloc _ (.cells #[.bool false, .int .i64 0, .bool false, .slice none 0 0, .slice none 0 0, .int .i64 0, .bool false, .int .i64 0, .bool false, .slice none 0 0, .slice none 0 0, .int .i64 0, .bool false] 64))); replace HR4 := Lib.hid (HR4.out.below (below_alloc _ (.cells #[.bool false, .int .i64 0, .bool false, .slice none 0 0, .slice none 0 0, .int .i64 0, .bool false, .int .i64 0, .bool false, .slice none 0 0, .slice none 0 0, .int .i64 0, .bool false] 64))); replace HP1 := Lib.hid (HP1.out.below (below_alloc _ (.cells #[.bool false, .int .i64 0, .bool false, .slice none 0 0, .slice none 0 0, .int .i64 0, .bool false, .int .i64 0, .bool false, .slice none 0 0, .slice none 0 0, .int .i64 0, .bool false] 64))); replace HP2 := Lib.hid (HP2.out.below (below_alloc _ (.cells #[.bool false, .int .i64 0, .bool false, .slice none 0 0, .slice none 0 0, .int .i64 0, .bool false, .int .i64 0, .bool false, .slice none 0 0, .slice none 0 0, .int .i64 0, .bool false] 64))); (try replace HT5 := Lib.hid (HT5.out.below (below_alloc _ (.cells #[.bool false, .int .i64 0, .bool false, .slice none 0 0, .slice none 0 0, .int .i64 0, .bool false, .int .i64 0, .bool false, .slice none 0 0, .slice none 0 0, .int .i64 0, .bool false] 64)))); (try replace HT6 := Lib.hid (HT6.out.below (below_alloc _ (.cells #[.bool false, .int .i64 0, .bool false, .slice none 0 0, .slice none 0 0, .int .i64 0, .bool false, .int .i64 0, .bool false, .slice none 0 0, .slice none 0 0, .int .i64 0, .bool false] 64)))); (try replace HT11 := Lib.hid (HT11.out.below (below_alloc _ (.cells #[.bool false, .int .i64 0, .bool false, .slice none 0 0, .slice none 0 0, .int .i64 0, .bool false, .int .i64 0, .bool false, .slice none 0 0, .slice none 0 0, .int .i64 0, .bool false] 64)))); (try replace HT12 := Lib.hid (HT12.out.below (below_alloc _ (.cells #[.bool false, .int .i64 0, .bool false, .slice none 0 0, .slice none 0 0, .int .i64 0, .bool false, .int .i64 0, .bool false, .slice none 0 0, .slice none 0 0, .int .i64 0, .bool false] 64)))); (try replace HT9 := Lib.hid (HT9.out.below (below_alloc _ (.cells #[.bool false, .int .i64 0, .bool false, .slice none 0 0, .slice none 0 0, .int .i64 0, .bool false, .int .i64 0, .bool false, .slice none 0 0, .slice none 0 0, .int .i64 0, .bool false] 64)))); (try replace HT10 := Lib.hid (HT10.out.below (below_alloc _ (.cells #[.bool false, .int .i64 0, .bool false, .slice none 0 0, .slice none 0 0, .int .i64 0, .bool false, .int .i64 0, .bool false, .slice none 0 0, .slice none 0 0, .int .i64 0, .bool false] 64)))); rw [hg]; clear hg; obtain ⟨wk, hwk⟩ : ∃ X, wk.alloc (.cells #[.bool false, .int .i64 0, .bool false, .slice none 0 0, .slice none 0 0, .int .i64 0, .bool false, .int .i64 0, .bool false, .slice none 0 0, .slice none 0 0, .int .i64 0, .bool false] 64) = X := ⟨_, rfl⟩; rw [hwk] at B_j9 hHeld HR1 HR2 HR3 HR4 HP1 HP2 ⊢; (try rw [hwk] at HT5); (try rw [hwk] at HT6); (try rw [hwk] at HT11); (try rw [hwk] at HT12); (try rw [hwk] at HT9); (try rw [hwk] at HT10); clear hwk; have mk5 := True.intro)
      | (have hx := hS6; clear hx; have qz0 := B_j9.ce 0 rfl; have fz0 := B_j9.frozen 0; have qz1 := B_j9.ce 1 rfl; have fz1 := B_j9.frozen 1; have qz2 := B_j9.ce 2 rfl; have fz2 := B_j9.frozen 2; have qz3 := B_j9.ce 3 rfl; have fz3 := B_j9.frozen 3; have qz4 := B_j9.ce 4 rfl; have fz4 := B_j9.frozen 4; have qz5 := B_j9.ce 5 rfl; have fz5 := B_j9.frozen 5; have qz6 := B_j9.ce 6 rfl; have fz6 := B_j9.frozen 6; have qz7 := B_j9.ce 7 rfl; have fz7 := B_j9.frozen 7; have qz8 := B_j9.ce 8 rfl; have fz8 := B_j9.frozen 8; have qz9 := B_j9.ce 9 rfl; have fz9 := B_j9.frozen 9; have qz10 := B_j9.ce 10 rfl; have fz10 := B_j9.frozen 10; have qz11 := B_j9.ce 11 rfl; have fz11 := B_j9.frozen 11; have qz12 := B_j9.ce 12 rfl; have fz12 := B_j9.frozen 12; go_simp; refine hS6.out _ _ (hHeld.far [.bool ro, .int .i64 y5, .bool g9, .slice A9 n9 c9, .slice B9 m9 d9, .int .i64 1, .bool p5, .int .i64 y6, .bool g10, .slice A10 n10 c10, .slice B10 m10 d10, .int .i64 1, .bool p6] 0 hb_j9 (by simp <;> omega) (by simp <;> omega)) (fun _ => ?_); clear hS6 KK hHeld; rename_i hHeld; (try simp only [Act.put, lay]); replace HR1 := Lib.hid (HR1.out.sets B_j9 (nowd rfl) 0 [.bool ro, .int .i64 y5, .bool g9, .slice A9 n9 c9, .slice B9 m9 d9, .int .i64 1, .bool p5, .int .i64 y6, .bool g10, .slice A10 n10 c10, .slice B10 m10 d10, .int .i64 1, .bool p6]); replace HR2 := Lib.hid (HR2.out.sets B_j9 (nowd rfl) 0 [.bool ro, .int .i64 y5, .bool g9, .slice A9 n9 c9, .slice B9 m9 d9, .int .i64 1, .bool p5, .int .i64 y6, .bool g10, .slice A10 n10 c10, .slice B10 m10 d10, .int .i64 1, .bool p6]); replace HR3 := Lib.hid (HR3.out.sets B_j9 (nowd rfl) 0 [.bool ro, .int .i64 y5, .bool g9, .slice A9 n9 c9, .slice B9 m9 d9, .int .i64 1, .bool p5, .int .i64 y6, .bool g10, .slice A10 n10 c10, .slice B10 m10 d10, .int .i64 1, .bool p6]); replace HR4 := Lib.hid (HR4.out.sets B_j9 (nowd rfl) 0 [.bool ro, .int .i64 y5, .bool g9, .slice A9 n9 c9, .slice B9 m9 d9, .int .i64 1, .bool p5, .int .i64 y6, .bool g10, .slice A10 n10 c10, .slice B10 m10 d10, .int .i64 1, .bool p6]); replace HP1 := Lib.hid (HP1.out.sets B_j9 (nowd rfl) 0 [.bool ro, .int .i64 y5, .bool g9, .slice A9 n9 c9, .slice B9 m9 d9, .int .i64 1, .bool p5, .int .i64 y6, .bool g10, .slice A10 n10 c10, .slice B10 m10 d10, .int .i64 1, .bool p6]); replace HP2 := Lib.hid (HP2.out.sets B_j9 (nowd rfl) 0 [.bool ro, .int .i64 y5, .bool g9, .slice A9 n9 c9, .slice B9 m9 d9, .int .i64 1, .bool p5, .int .i64 y6, .bool g10, .slice A10 n10 c10, .slice B10 m10 d10, .int .i64 1, .bool p6]); (try replace HT5 := Lib.hid (HT5.out.sets B_j9 (nowd rfl) 0 [.bool ro, .int .i64 y5, .bool g9, .slice A9 n9 c9, .slice B9 m9 d9, .int .i64 1, .bool p5, .int .i64 y6, .bool g10, .slice A10 n10 c10, .slice B10 m10 d10, .int .i64 1, .bool p6])); (try replace HT6 := Lib.hid (HT6.out.sets B_j9 (nowd rfl) 0 [.bool ro, .int .i64 y5, .bool g9, .slice A9 n9 c9, .slice B9 m9 d9, .int .i64 1, .bool p5, .int .i64 y6, .bool g10, .slice A10 n10 c10, .slice B10 m10 d10, .int .i64 1, .bool p6])); (try replace HT11 := Lib.hid (HT11.out.sets B_j9 (nowd rfl) 0 [.bool ro, .int .i64 y5, .bool g9, .slice A9 n9 c9, .slice B9 m9 d9, .int .i64 1, .bool p5, .int .i64 y6, .bool g10, .slice A10 n10 c10, .slice B10 m10 d10, .int .i64 1, .bool p6])); (try replace HT12 := Lib.hid (HT12.out.sets B_j9 (nowd rfl) 0 [.bool ro, .int .i64 y5, .bool g9, .slice A9 n9 c9, .slice B9 m9 d9, .int .i64 1, .bool p5, .int .i64 y6, .bool g10, .slice A10 n10 c10, .slice B10 m10 d10, .int .i64 1, .bool p6])); (try replace HT9 := Lib.hid (HT9.out.sets B_j9 (nowd rfl) 0 [.bool ro, .int .i64 y5, .bool g9, .slice A9 n9 c9, .slice B9 m9 d9, .int .i64 1, .bool p5, .int .i64 y6, .bool g10, .slice A10 n10 c10, .slice B10 m10 d10, .int .i64 1, .bool p6])); (try replace HT10 := Lib.hid (HT10.out.sets B_j9 (nowd rfl) 0 [.bool ro, .int .i64 y5, .bool g9, .slice A9 n9 c9, .slice B9 m9 d9, .int .i64 1, .bool p5, .int .i64 y6, .bool g10, .slice A10 n10 c10, .slice B10 m10 d10, .int .i64 1, .bool p6])); replace B_j9 := (show Blk (sets wk j9 0 [.bool ro, .int .i64 y5, .bool g9, .slice A9 n9 c9, .slice B9 m9 d9, .int .i64 1, .bool p5, .int .i64 y6, .bool g10, .slice A10 n10 c10, .slice B10 m10 d10, .int .i64 1, .bool p6]) j9 64 #[.bool ro, .int .i64 y5, .bool g9, .slice A9 n9 c9, .slice B9 m9 d9, .int .i64 1, .bool p5, .int .i64 y6, .bool g10, .slice A10 n10 c10, .slice B10 m10 d10, .int .i64 1, .bool p6] from by have hbs := Blk.sets [.bool ro, .int .i64 y5, .bool g9, .slice A9 n9 c9, .slice B9 m9 d9, .int .i64 1, .bool p5, .int .i64 y6, .bool g10, .slice A10 n10 c10, .slice B10 m10 d10, .int .i64 1, .bool p6] 0 _ _ B_j9; simpa [laid] using hbs); replace hHeld := (show Lies _ (sets wk j9 0 [.bool ro, .int .i64 y5, .bool g9, .slice A9 n9 c9, .slice B9 m9 d9, .int .i64 1, .bool p5, .int .i64 y6, .bool g10, .slice A10 n10 c10, .slice B10 m10 d10, .int .i64 1, .bool p6]) _ _ from hHeld); obtain ⟨wk, hwn⟩ : ∃ X, sets wk j9 0 [.bool ro, .int .i64 y5, .bool g9, .slice A9 n9 c9, .slice B9 m9 d9, .int .i64 1, .bool p5, .int .i64 y6, .bool g10, .slice A10 n10 c10, .slice B10 m10 d10, .int .i64 1, .bool p6] = X := ⟨_, rfl⟩; rw [hwn] at hHeld B_j9 HR1 HR2 HR3 HR4 HP1 HP2 HT5 HT6 HT11 HT12 HT9 HT10; simp only [sets] at hwn; rw [hwn]; clear hwn qz0 fz0 qz1 fz1 qz2 fz2 qz3 fz3 qz4 fz4 qz5 fz5 qz6 fz6 qz7 fz7 qz8 fz8 qz9 fz9 qz10 fz10 qz11 fz11 qz12 fz12; have mk6 := True.intro)
      | (have hx := mk2; have hx := mk3; have hx := mk4; have hx := mk5; have hx := mk6; refine wpAnyH_done (by kernel_rfl) ?_ _; clear hx mk2 mk3 mk4 mk5 mk6; go_wp2_with fail; go_meet; exact ⟨j9, _, _, _, _, _, _, _, _, _, _, _, _, _, _, rfl, ⟨by omega, by omega, by omega, by omega⟩, hHeld.put B_j9, HR1.out, HP1.out, HP2.out, HT9.out, HT10.out⟩)
      | (have hx := mk2; have hx := mk3; have hx := mk4; have hx := mk5; refine rdy 6 (fun KK hS6 => ?_))
      | (have hx := mk2; have hx := mk3; have hx := mk5; refine rdy 4 (fun KK hC4 => ?_))
      | (have hx := mk2; have hx := mk3; have hx := mk4; refine rdy 5 (fun KK hA5 => ?_))
      | (have hx := mk2; have hx := mk5; refine rdy 3 (fun KK hC3 => ?_))
      | (have hx := mk2; have hx := mk3; refine rd2 4 5 (fun KK hC4 => ?_) (fun KK hA5 => ?_))
      | (have hx := mk5; refine rdy 2 (fun KK hC2 => ?_))
      | (have hx := mk2; refine rd2 3 5 (fun KK hC3 => ?_) (fun KK hA5 => ?_))
      | (refine rd2 2 5 (fun KK hC2 => ?_) (fun KK hA5 => ?_))
  case rest =>
  obtain ⟨j9, g9, A9, n9, c9, B9, m9, d9, g10, A10, n10, c10, B10, m10, d10, rfl, hgs, hcl, hr1, hp1, hp2, ht9, ht10⟩ := hcut
  rename World => wx
  clear LL HR1 HR2 HR3 HR4 HP1 HP2 HQ1 HQ2 HMI HMP
  have LL := Lib.hid hcl
  clear hcl
  have HR1 := Lib.hid hr1
  clear hr1
  have HP1 := Lib.hid hp1
  clear hp1
  have HP2 := Lib.hid hp2
  clear hp2
  have HT9 := Lib.hid ht9
  clear ht9
  have HT10 := Lib.hid ht10
  clear ht10
  obtain ⟨q5_0, q5_1, q5_2, q5_3, q5_4, q5_5, q5_6, q5_7, q5_8⟩ := (LL.out.blk 4 rfl).c9
  go_wp2_with fail
  refine (HS1.out _ _ _ _ _ _ _ _ HR1.out).mono ?_
  rintro e wk ⟨rfl, hb⟩
  replace LL := stL LL hb
  replace HR1 := Lib.hid (HR1.out.below hb)
  replace HP1 := Lib.hid (HP1.out.below hb)
  replace HP2 := Lib.hid (HP2.out.below hb)
  replace HT9 := Lib.hid (HT9.out.below hb)
  replace HT10 := Lib.hid (HT10.out.below hb)
  clear hb q5_0 q5_1 q5_2 q5_3 q5_4 q5_5 q5_6 q5_7 q5_8
  clear HR1 HS1
  rcases H1.out with ⟨h1, e1, e2, e3, e4⟩ | ⟨h1, e1, e2, e3, e4⟩ <;> subst e1 e2 e3 e4 <;> clear H1
  · skip
    go_wp2_with fail
    clear h1
    replace LL := Lib.hid (LL.out.loose 2 rfl rfl)
    simp only [List.eraseIdx, List.size_toArray, List.length_cons, List.length_nil, Nat.zero_add, Nat.reduceAdd] at LL
    replace LL := Lib.hid (LL.out.loose 2 rfl rfl)
    simp only [List.eraseIdx, List.size_toArray, List.length_cons, List.length_nil, Nat.zero_add, Nat.reduceAdd] at LL
    refine regL LL (fun hHeld => ?_)
    clear LL
    obtain ⟨wk, hwk⟩ : ∃ X, (wk).drew = X := ⟨_, rfl⟩
    replace HP1 := Lib.hid (HP1.out.below (Below.refl _ _).drew)
    replace HP2 := Lib.hid (HP2.out.below (Below.refl _ _).drew)
    replace HT9 := Lib.hid (HT9.out.below (Below.refl _ _).drew)
    replace HT10 := Lib.hid (HT10.out.below (Below.refl _ _).drew)
    rw [hwk] at hHeld HP1 HP2 HT9 HT10 ⊢
    clear hwk
    refine tk 1 ?_ (hv := by intro W2 hSw; obtain ⟨q0, q1, q2, q3, q4, q5, q6, q7, q8, q9, q10, q11, q12⟩ := (hSw.blk 5 rfl).c13; go_simp; (try with_reducible rfl))
    try simp only [Act.put, lay]
    refine tk 4 ?_ (hv := by intro W2 hSw; obtain ⟨q0, q1, q2, q3, q4, q5, q6, q7, q8, q9, q10, q11, q12⟩ := (hSw.blk 4 rfl).c13; go_simp; (try with_reducible rfl))
    try simp only [Act.put, lay]
    refine rdy 0 (fun KK hKK => ?_)
    go_simp
    refine (HN.out _).mono ?_
    rintro e wk ⟨rfl, hb1⟩
    go_wp2_with fail
    refine hKK.out _ _ (hHeld.keep hb1) (fun _ => ?_)
    clear hKK KK hHeld
    rename_i hHeld
    try simp only [Act.put, lay]
    replace HP1 := Lib.hid (HP1.out.below hb1)
    replace HP2 := Lib.hid (HP2.out.below hb1)
    replace HT9 := Lib.hid (HT9.out.below hb1)
    replace HT10 := Lib.hid (HT10.out.below hb1)
    clear hb1
    refine rdy 2 (fun KK hKK => ?_)
    go_simp
    refine (HW2.out _ _ _ _ _ _ _ _ _ _ _ _ _ _ _ HT9.out HT10.out).mono ?_
    rintro e wk ⟨rfl, hb4⟩
    go_wp2_with fail
    refine hKK.out _ _ (hHeld.keep hb4) (fun _ => ?_)
    clear hKK KK hHeld
    rename_i hHeld
    try simp only [Act.put, lay]
    replace HP1 := Lib.hid (HP1.out.below hb4)
    replace HP2 := Lib.hid (HP2.out.below hb4)
    replace HT9 := Lib.hid (HT9.out.below hb4)
    replace HT10 := Lib.hid (HT10.out.below hb4)
    clear hb4
    refine rdy 3 (fun KK hKK => ?_)
    go_simp
    refine (HN.out _).mono ?_
    rintro e wk ⟨rfl, hb3⟩
    go_wp2_with fail
    refine hKK.out _ _ (hHeld.keep hb3) (fun _ => ?_)
    clear hKK KK hHeld
    rename_i hHeld
    try simp only [Act.put, lay]
    replace HP1 := Lib.hid (HP1.out.below hb3)
    replace HP2 := Lib.hid (HP2.out.below hb3)
    replace HT9 := Lib.hid (HT9.out.below hb3)
    replace HT10 := Lib.hid (HT10.out.below hb3)
    clear hb3
    refine rdy 5 (fun KK hKK => ?_)
    go_simp
    refine (HW1.out _ _ _ _ _ _ _ _ _ _ _ _ _ _ _ HP1.out HP2.out).mono ?_
    rintro e wk ⟨rfl, hb2⟩
    go_wp2_with fail
    refine hKK.out _ _ (hHeld.keep hb2) (fun _ => ?_)
    clear hKK KK hHeld
    rename_i hHeld
    try simp only [Act.put, lay]
    replace HP1 := Lib.hid (HP1.out.below hb2)
    replace HP2 := Lib.hid (HP2.out.below hb2)
    replace HT9 := Lib.hid (HT9.out.below hb2)
    replace HT10 := Lib.hid (HT10.out.below hb2)
    clear hb2
    refine rdy 6 (fun KK hKK => ?_)
    obtain ⟨ha0, hf0, ha1, hf1⟩ := (hHeld.has 1 rfl).sf2
    obtain ⟨csx, hbx, -, hcx⟩ := hHeld.has 1 rfl
    replace HP1 := Lib.hid (HP1.out.sets hbx hcx 0 [.int .u64 (r1 : Int), .int .u64 (r2 : Int)])
    replace HP2 := Lib.hid (HP2.out.sets hbx hcx 0 [.int .u64 (r1 : Int), .int .u64 (r2 : Int)])
    replace HT9 := Lib.hid (HT9.out.sets hbx hcx 0 [.int .u64 (r1 : Int), .int .u64 (r2 : Int)])
    replace HT10 := Lib.hid (HT10.out.sets hbx hcx 0 [.int .u64 (r1 : Int), .int .u64 (r2 : Int)])
    clear hbx hcx
    go_simp
    have HS_1 := (hHeld.has 1 rfl).laid [.int .u64 (r1 : Int), .int .u64 (r2 : Int)] rfl
    refine hKK.out _ _ (hHeld.over 1 rfl [.int .u64 (r1 : Int), .int .u64 (r2 : Int)] rfl rfl (by first | omega | exact hHeld.le_of 1 rfl) (by simp <;> omega) (by simp <;> omega)) (fun _ => ?_)
    clear hKK KK hHeld
    rename_i hHeld
    try simp only [Act.put, lay]
    replace hHeld := (show Lies _ (sets wk (w.heap.size + 2) 0 [.int .u64 (r1 : Int), .int .u64 (r2 : Int)]) _ _ from hHeld)
    obtain ⟨wk, hwn⟩ : ∃ X, sets wk (w.heap.size + 2) 0 [.int .u64 (r1 : Int), .int .u64 (r2 : Int)] = X := ⟨_, rfl⟩
    rw [hwn] at hHeld HP1 HP2 HT9 HT10 HS_1
    simp only [sets] at hwn
    rw [hwn]
    clear hwn
    refine rdy 7 (fun KK hKK => ?_)
    obtain ⟨ha0, hf0, ha1, hf1⟩ := (hHeld.has 0 rfl).sf2
    obtain ⟨csx, hbx, -, hcx⟩ := hHeld.has 0 rfl
    replace HP1 := Lib.hid (HP1.out.sets hbx hcx 0 [.int .u64 (r3 : Int), .int .u64 (r4 : Int)])
    replace HP2 := Lib.hid (HP2.out.sets hbx hcx 0 [.int .u64 (r3 : Int), .int .u64 (r4 : Int)])
    replace HT9 := Lib.hid (HT9.out.sets hbx hcx 0 [.int .u64 (r3 : Int), .int .u64 (r4 : Int)])
    replace HT10 := Lib.hid (HT10.out.sets hbx hcx 0 [.int .u64 (r3 : Int), .int .u64 (r4 : Int)])
    clear hbx hcx
    go_simp
    have HS_0 := (hHeld.has 0 rfl).laid [.int .u64 (r3 : Int), .int .u64 (r4 : Int)] rfl
    refine hKK.out _ _ (hHeld.over 0 rfl [.int .u64 (r3 : Int), .int .u64 (r4 : Int)] rfl rfl (by first | omega | exact hHeld.le_of 0 rfl) (by simp <;> omega) (by simp <;> omega)) (fun _ => ?_)
    clear hKK KK hHeld
    rename_i hHeld
    try simp only [Act.put, lay]
    replace HS_1 := HS_1.other (r := (w.heap.size + 3)) (by omega) 0 [.int .u64 (r3 : Int), .int .u64 (r4 : Int)]
    refine wpAnyH_done (by kernel_rfl) ?_ _
    have LB := Lib.hid hHeld.b
    clear hHeld
    obtain ⟨hk4_0, hk4_1⟩ := HS_1.c2
    clear HS_1
    obtain ⟨hk5_0, hk5_1⟩ := HS_0.c2
    clear HS_0
    simp [sets] at hk4_0 hk4_1 hk5_0 hk5_1
    go_wp2
    refine bodyPost_ret (v := .tuple #[.agg #[.int .u64 (r1 : Int), .int .u64 (r2 : Int)], .agg #[.int .u64 (r3 : Int), .int .u64 (r4 : Int)]]) (by simp [results, Tryz.results32, go_sem, hk4_0, hk4_1, hk5_0, hk5_1]) rfl ?_
    exact ⟨rfl, LB.out⟩
  · skip
    go_wp2_with fail
    clear h1
    replace LL := Lib.hid (LL.out.loose 2 rfl rfl)
    simp only [List.eraseIdx, List.size_toArray, List.length_cons, List.length_nil, Nat.zero_add, Nat.reduceAdd] at LL
    replace LL := Lib.hid (LL.out.loose 2 rfl rfl)
    simp only [List.eraseIdx, List.size_toArray, List.length_cons, List.length_nil, Nat.zero_add, Nat.reduceAdd] at LL
    refine regL LL (fun hHeld => ?_)
    clear LL
    obtain ⟨wk, hwk⟩ : ∃ X, (wk).drew = X := ⟨_, rfl⟩
    replace HP1 := Lib.hid (HP1.out.below (Below.refl _ _).drew)
    replace HP2 := Lib.hid (HP2.out.below (Below.refl _ _).drew)
    replace HT9 := Lib.hid (HT9.out.below (Below.refl _ _).drew)
    replace HT10 := Lib.hid (HT10.out.below (Below.refl _ _).drew)
    rw [hwk] at hHeld HP1 HP2 HT9 HT10 ⊢
    clear hwk
    refine tk 1 ?_ (hv := by intro W2 hSw; obtain ⟨q0, q1, q2, q3, q4, q5, q6, q7, q8, q9, q10, q11, q12⟩ := (hSw.blk 4 rfl).c13; go_simp; (try with_reducible rfl))
    try simp only [Act.put, lay]
    refine tk 4 ?_ (hv := by intro W2 hSw; obtain ⟨q0, q1, q2, q3, q4, q5, q6, q7, q8, q9, q10, q11, q12⟩ := (hSw.blk 5 rfl).c13; go_simp; (try with_reducible rfl))
    try simp only [Act.put, lay]
    refine rdy 0 (fun KK hKK => ?_)
    go_simp
    refine (HN.out _).mono ?_
    rintro e wk ⟨rfl, hb1⟩
    go_wp2_with fail
    refine hKK.out _ _ (hHeld.keep hb1) (fun _ => ?_)
    clear hKK KK hHeld
    rename_i hHeld
    try simp only [Act.put, lay]
    replace HP1 := Lib.hid (HP1.out.below hb1)
    replace HP2 := Lib.hid (HP2.out.below hb1)
    replace HT9 := Lib.hid (HT9.out.below hb1)
    replace HT10 := Lib.hid (HT10.out.below hb1)
    clear hb1
    refine rdy 2 (fun KK hKK => ?_)
    go_simp
    refine (HW1.out _ _ _ _ _ _ _ _ _ _ _ _ _ _ _ HP1.out HP2.out).mono ?_
    rintro e wk ⟨rfl, hb2⟩
    go_wp2_with fail
    refine hKK.out _ _ (hHeld.keep hb2) (fun _ => ?_)
    clear hKK KK hHeld
    rename_i hHeld
    try simp only [Act.put, lay]
    replace HP1 := Lib.hid (HP1.out.below hb2)
    replace HP2 := Lib.hid (HP2.out.below hb2)
    replace HT9 := Lib.hid (HT9.out.below hb2)
    replace HT10 := Lib.hid (HT10.out.below hb2)
    clear hb2
    refine rdy 3 (fun KK hKK => ?_)
    go_simp
    refine (HN.out _).mono ?_
    rintro e wk ⟨rfl, hb3⟩
    go_wp2_with fail
    refine hKK.out _ _ (hHeld.keep hb3) (fun _ => ?_)
    clear hKK KK hHeld
    rename_i hHeld
    try simp only [Act.put, lay]
    replace HP1 := Lib.hid (HP1.out.below hb3)
    replace HP2 := Lib.hid (HP2.out.below hb3)
    replace HT9 := Lib.hid (HT9.out.below hb3)
    replace HT10 := Lib.hid (HT10.out.below hb3)
    clear hb3
    refine rdy 5 (fun KK hKK => ?_)
    go_simp
    refine (HW2.out _ _ _ _ _ _ _ _ _ _ _ _ _ _ _ HT9.out HT10.out).mono ?_
    rintro e wk ⟨rfl, hb4⟩
    go_wp2_with fail
    refine hKK.out _ _ (hHeld.keep hb4) (fun _ => ?_)
    clear hKK KK hHeld
    rename_i hHeld
    try simp only [Act.put, lay]
    replace HP1 := Lib.hid (HP1.out.below hb4)
    replace HP2 := Lib.hid (HP2.out.below hb4)
    replace HT9 := Lib.hid (HT9.out.below hb4)
    replace HT10 := Lib.hid (HT10.out.below hb4)
    clear hb4
    refine rdy 6 (fun KK hKK => ?_)
    obtain ⟨ha0, hf0, ha1, hf1⟩ := (hHeld.has 1 rfl).sf2
    obtain ⟨csx, hbx, -, hcx⟩ := hHeld.has 1 rfl
    replace HP1 := Lib.hid (HP1.out.sets hbx hcx 0 [.int .u64 (r1 : Int), .int .u64 (r2 : Int)])
    replace HP2 := Lib.hid (HP2.out.sets hbx hcx 0 [.int .u64 (r1 : Int), .int .u64 (r2 : Int)])
    replace HT9 := Lib.hid (HT9.out.sets hbx hcx 0 [.int .u64 (r1 : Int), .int .u64 (r2 : Int)])
    replace HT10 := Lib.hid (HT10.out.sets hbx hcx 0 [.int .u64 (r1 : Int), .int .u64 (r2 : Int)])
    clear hbx hcx
    go_simp
    have HS_1 := (hHeld.has 1 rfl).laid [.int .u64 (r1 : Int), .int .u64 (r2 : Int)] rfl
    refine hKK.out _ _ (hHeld.over 1 rfl [.int .u64 (r1 : Int), .int .u64 (r2 : Int)] rfl rfl (by first | omega | exact hHeld.le_of 1 rfl) (by simp <;> omega) (by simp <;> omega)) (fun _ => ?_)
    clear hKK KK hHeld
    rename_i hHeld
    try simp only [Act.put, lay]
    replace hHeld := (show Lies _ (sets wk (w.heap.size + 2) 0 [.int .u64 (r1 : Int), .int .u64 (r2 : Int)]) _ _ from hHeld)
    obtain ⟨wk, hwn⟩ : ∃ X, sets wk (w.heap.size + 2) 0 [.int .u64 (r1 : Int), .int .u64 (r2 : Int)] = X := ⟨_, rfl⟩
    rw [hwn] at hHeld HP1 HP2 HT9 HT10 HS_1
    simp only [sets] at hwn
    rw [hwn]
    clear hwn
    refine rdy 7 (fun KK hKK => ?_)
    obtain ⟨ha0, hf0, ha1, hf1⟩ := (hHeld.has 0 rfl).sf2
    obtain ⟨csx, hbx, -, hcx⟩ := hHeld.has 0 rfl
    replace HP1 := Lib.hid (HP1.out.sets hbx hcx 0 [.int .u64 (r3 : Int), .int .u64 (r4 : Int)])
    replace HP2 := Lib.hid (HP2.out.sets hbx hcx 0 [.int .u64 (r3 : Int), .int .u64 (r4 : Int)])
    replace HT9 := Lib.hid (HT9.out.sets hbx hcx 0 [.int .u64 (r3 : Int), .int .u64 (r4 : Int)])
    replace HT10 := Lib.hid (HT10.out.sets hbx hcx 0 [.int .u64 (r3 : Int), .int .u64 (r4 : Int)])
    clear hbx hcx
    go_simp
    have HS_0 := (hHeld.has 0 rfl).laid [.int .u64 (r3 : Int), .int .u64 (r4 : Int)] rfl
    refine hKK.out _ _ (hHeld.over 0 rfl [.int .u64 (r3 : Int), .int .u64 (r4 : Int)] rfl rfl (by first | omega | exact hHeld.le_of 0 rfl) (by simp <;> omega) (by simp <;> omega)) (fun _ => ?_)
    clear hKK KK hHeld
    rename_i hHeld
    try simp only [Act.put, lay]
    replace HS_1 := HS_1.other (r := (w.heap.size + 3)) (by omega) 0 [.int .u64 (r3 : Int), .int .u64 (r4 : Int)]
    refine wpAnyH_done (by kernel_rfl) ?_ _
    have LB := Lib.hid hHeld.b
    clear hHeld
    obtain ⟨hk4_0, hk4_1⟩ := HS_1.c2
    clear HS_1
    obtain ⟨hk5_0, hk5_1⟩ := HS_0.c2
    clear HS_0
    simp [sets] at hk4_0 hk4_1 hk5_0 hk5_1
    go_wp2
    refine bodyPost_ret (v := .tuple #[.agg #[.int .u64 (r1 : Int), .int .u64 (r2 : Int)], .agg #[.int .u64 (r3 : Int), .int .u64 (r4 : Int)]]) (by simp [results, Tryz.results32, go_sem, hk4_0, hk4_1, hk5_0, hk5_1]) rfl ?_
    exact ⟨rfl, LB.out⟩
end Go.Proofs.YtmjkmoahkanblaaGreat
